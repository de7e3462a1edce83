import Derived.Test.YtihdbaehaiaiiaaW12
set_option linter.unusedSimpArgs false
set_option linter.unusedVariables false
set_option maxRecDepth 100000
namespace Go.Den

/-- is a register in a list of them? -/
noncomputable def regB (m : Int) (b : Bool) (r : Int) : Bool := cond (bitsF .and .i64 (shrF .i64 m r) 1 == 1) (cond (decide (r < 15)) true b) false

noncomputable def regL (m : Int) (b : Bool) : Nat → Int → List Int
  | 0, _ => []
  | n + 1, r => cond (regB m b r) (r :: regL m b n (r + 1)) (regL m b n (r + 1))

noncomputable def encI (l : List Int) : List V := l.map fun r => .sc (.int .i64 r)

abbrev path83 : Path := [false, true, false, true, true]

def fr83 (m : Int) (b : Bool) (xs : List V) (r : Int) (u4 u8 u22 : V) : Fr := [(0, .sc (.int .i64 m)), (1, .sc (.bool b)), (4, u4), (5, .sl true 1 xs), (6, .sc (.int .i64 r)), (8, u8), (22, u22)]

theorem body83 (lim : Nat) (m : Int) (b : Bool) (xs : List V) (r : Int) (u4 : V) (u8 : V) (u22 : V) (K : Ex → Fr → Heap → R) : bodyK ctx kn44 noLoops 3 83 path83 lim [(0, .sc (.int .i64 m)), (1, .sc (.bool b)), (4, u4), (5, .sl true 1 xs), (6, .sc (.int .i64 r)), (8, u8), (22, u22)] [] K = (cond (decide (r < 16)) (cond (decide (r < 0)) none (cond (bitsF .and .i64 (shrF .i64 m r) 1 == 1) (cond (decide (r < 15)) (cond (decide ((xs.length + 1) * 8 ≤ 140737488355328)) (K .nrm [(0, .sc (.int .i64 (m))), (1, .sc (.bool (b))), (4, u4), (5, .sl (true) (1) (xs ++ List.map V.dem [V.sc (Value.int .i64 r)])), (6, .sc (.int .i64 (wrapF .i64 (r + 1)))), (8, .sc (.bool (true))), (22, .sc (.bool (true)))] []) none) (cond (b) (cond (decide ((xs.length + 1) * 8 ≤ 140737488355328)) (K .nrm [(0, .sc (.int .i64 (m))), (1, .sc (.bool (b))), (4, u4), (5, .sl (true) (1) (xs ++ List.map V.dem [V.sc (Value.int .i64 r)])), (6, .sc (.int .i64 (wrapF .i64 (r + 1)))), (8, .sc (.bool (true))), (22, .sc (.bool (true)))] []) none) (K .nrm [(0, .sc (.int .i64 (m))), (1, .sc (.bool (b))), (4, u4), (5, .sl (true) (1) (xs)), (6, .sc (.int .i64 (wrapF .i64 (r + 1)))), (8, .sc (.bool (true))), (22, .sc (.bool (false)))] []))) (K .nrm [(0, .sc (.int .i64 (m))), (1, .sc (.bool (b))), (4, u4), (5, .sl (true) (1) (xs)), (6, .sc (.int .i64 (wrapF .i64 (r + 1)))), (8, .sc (.bool (true))), (22, .sc (.bool (false)))] []))) (K (.ext 0) [(8, .sc (.bool (false))), (0, .sc (.int .i64 (m))), (1, .sc (.bool (b))), (4, u4), (5, .sl (true) (1) (xs)), (6, .sc (.int .i64 (r))), (8, .sc (.bool (decide (r < 16)))), (22, u22)] [])) := by kernel_rfl

theorem step83 (lim : Nat) (m : Int) (b : Bool) (xs : List V) (r : Nat) (hr : r < 16) (hx : xs.length ≤ r) (u4 u8 u22 : V) (K : Ex → Fr → Heap → R) :
    bodyK ctx kn44 noLoops 3 83 path83 lim (fr83 m b xs r u4 u8 u22) [] K =
      K .nrm (fr83 m b (xs ++ cond (regB m b r) [.sc (.int .i64 r)] []) ((r + 1 : Nat) : Int) u4 (.sc (.bool true)) (.sc (.bool (regB m b r)))) [] := by
  have hs : wrapF .i64 ((r : Int) + 1) = ((r + 1 : Nat) : Int) := by
    rw [wrapF_id (by omega) (by simp only [halfK]; omega)]
    omega
  have hn : decide ((xs.length + 1) * 8 ≤ 140737488355328) = true := decide_eq_true (by omega)
  unfold fr83
  rw [body83, hs, hn, decide_eq_true (show (r : Int) < 16 by omega), decide_eq_false (show ¬ (r : Int) < 0 by omega)]
  unfold regB
  cases (bitsF .and .i64 (shrF .i64 m (r : Int)) 1 == 1)
  · simp only [cond_false, cond_true, List.append_nil]
  · cases decide ((r : Int) < 15)
    · cases b
      · simp only [cond_false, cond_true, List.append_nil]
      · rfl
    · rfl

noncomputable def e22 (m : Int) (b : Bool) (n : Nat) (u : V) : V := match n with
  | 0 => u
  | _ + 1 => .sc (.bool (regB m b 15))

theorem loop83 (lim : Nat) (m : Int) (b : Bool) (u4 : V) (K : Ex → Fr → Heap → R) : ∀ (n r N : Nat) (xs : List V) (u8 u22 : V), r + n = 16 → xs.length ≤ r → n < N →
    iterK (bodyK ctx kn44 noLoops 3 83 path83 lim) N (fr83 m b xs r u4 u8 u22) [] K =
      K (.ext 0) ((8, .sc (.bool false)) :: fr83 m b (xs ++ encI (regL m b n r)) 16 u4 (.sc (.bool false)) (e22 m b n u22)) [] := by
  intro n
  induction n with
  | zero =>
    intro r N xs u8 u22 hr hx hN
    obtain ⟨N, rfl⟩ : ∃ m, N = m + 1 := ⟨N - 1, by omega⟩
    have h16 : r = 16 := by omega
    subst h16
    simp only [iterK, regL, encI, List.map_nil, List.append_nil, e22]
    unfold fr83
    rw [body83]
    rfl
  | succ n ih =>
    intro r N xs u8 u22 hr hx hN
    obtain ⟨N, rfl⟩ : ∃ m, N = m + 1 := ⟨N - 1, by omega⟩
    simp only [iterK]
    rw [step83 lim m b xs r (by omega) hx]
    simp only
    have hl : (xs ++ cond (regB m b r) [V.sc (.int .i64 r)] []).length ≤ r + 1 := by
      cases regB m b r <;> simp <;> omega
    rw [ih (r + 1) N _ _ _ (by omega) hl (by omega)]
    have e1 : xs ++ cond (regB m b r) [V.sc (.int .i64 r)] [] ++ encI (regL m b n ((r + 1 : Nat) : Int)) = xs ++ encI (regL m b (n + 1) r) := by
      rw [List.append_assoc]
      congr 1
      simp only [regL]
      rw [show ((r + 1 : Nat) : Int) = (r : Int) + 1 by omega]
      cases regB m b r <;> rfl
    have e2 : e22 m b n (.sc (.bool (regB m b r))) = e22 m b (n + 1) u22 := by
      cases n with
      | zero =>
        have : r = 15 := by omega
        subst this
        rfl
      | succ n => rfl
    rw [e1, e2]

noncomputable def L83 : LoopT := fun l H K =>
  slotK 0 l fun v0 l => numK .i64 v0 fun m => slotK 1 l fun v1 l => boolK v1 fun b => slotK 4 l fun u4 l => slotK 5 l fun v5 l => slK v5 fun o kk xs => slotK 6 l fun v6 l => numK .i64 v6 fun r =>
  slotK 8 l fun u8 l => slotK 22 l fun u22 l => endL l <| heapK0 H <|
  cond o (cond (Nat.beq kk 1) (match xs with
    | [] => cond (decide (r = 0)) (K (.ext 0) ((8, .sc (.bool false)) :: fr83 m b (encI (regL m b 16 0)) 16 u4 (.sc (.bool false)) (.sc (.bool (regB m b 15)))) []) none
    | _ => none) none) none

noncomputable def lt83 : Loops := noLoops.add 83 path83 L83

theorem lt83_ok : LoopsOK ctx lt83 24 := Loops.add_ok kn44_ok (noLoops_ok _) 3 fun lim l H K r h0 => by
  unfold L83 at h0
  obtain ⟨_, _, rfl, h1⟩ := slotK_ok h0
  obtain ⟨m, rfl, h2⟩ := numK_ok h1
  obtain ⟨_, _, rfl, h3⟩ := slotK_ok h2
  obtain ⟨b, rfl, h4⟩ := boolK_ok h3
  obtain ⟨u4, _, rfl, h5⟩ := slotK_ok h4
  obtain ⟨_, _, rfl, h6⟩ := slotK_ok h5
  obtain ⟨o, kk, xs, rfl, h7⟩ := slK_ok h6
  obtain ⟨_, _, rfl, h8⟩ := slotK_ok h7
  obtain ⟨n, rfl, h9⟩ := numK_ok h8
  obtain ⟨u8, _, rfl, h10⟩ := slotK_ok h9
  obtain ⟨u22, _, rfl, h11⟩ := slotK_ok h10
  obtain ⟨rfl, h12⟩ := endL_ok h11
  obtain ⟨rfl, h13⟩ := heapK0_ok h12
  obtain ⟨c1, h14⟩ := cond_l h13
  obtain ⟨c2, h15⟩ := cond_l h14
  have c2 := Nat.eq_of_beq_eq_true c2
  subst c1 c2
  cases xs with
  | cons x xs => cases h15
  | nil =>
    obtain ⟨c3, h16⟩ := cond_l h15
    have c3 := of_decide_eq_true c3
    subst c3
    have hl := loop83 lim m b u4 K 16 0 ctx.fuel [] u8 u22 (by omega) (by simp) (by show 16 < 70000; omega)
    exact hl.trans h16

end Go.Den
