import Derived.Test.YtllippimokoioaaQ8
set_option linter.unusedVariables false
set_option linter.unusedSimpArgs false
set_option maxRecDepth 100000
namespace Go.Den

def WordG (y : S39) (b : Bool) (g : Nat) (w : Nat) : Prop := Word y b w ∧ w / 2048 = g

/-- is there a word among those that begin with g? -/
noncomputable def foundG (y : S39) (b : Bool) (g : Int) : Bool := @decide (∃ w, WordG y b g.toNat w) (Classical.propDecidable _)
noncomputable def wordG (y : S39) (b : Bool) (g : Int) : Int := Int.ofNat (Classical.epsilon fun w => WordG y b g.toNat w ∧ ∀ v, WordG y b g.toNat v → w ≤ v)

theorem foundG_iff {y : S39} {b : Bool} {g : Int} : foundG y b g = true ↔ ∃ w, WordG y b g.toNat w := @decide_eq_true_iff _ (Classical.propDecidable _)

theorem wordG_spec {y : S39} {b : Bool} {g : Int} (h : foundG y b g = true) : ∃ w : Nat, wordG y b g = Int.ofNat w ∧ WordG y b g.toNat w ∧ ∀ v, WordG y b g.toNat v → w ≤ v := by
  obtain ⟨w, hw⟩ := foundG_iff.1 h
  exact ⟨_, rfl, Classical.epsilon_spec (least w hw)⟩

theorem wordG_is {y : S39} {b : Bool} {g : Int} {w : Nat} (h : WordG y b g.toNat w) (hl : ∀ v, v < w → ¬ WordG y b g.toNat v) : foundG y b g = true ∧ wordG y b g = Int.ofNat w := by
  have hf : foundG y b g = true := foundG_iff.2 ⟨w, h⟩
  obtain ⟨u, h1, h2, h3⟩ := wordG_spec hf
  refine ⟨hf, ?_⟩
  rw [h1]
  have := h3 w h
  have : ¬ u < w := fun hu => hl u hu h2
  rw [show u = w by omega]

def fr33 (b : Bool) (o : Bool) (kk : Nat) (xs : List V) (k h : Int) (u0 u4 u5 u20 u27 u42 u50 : V) : Fr := [(0, u0), (1, .sc (.bool b)), (2, .ptr 0 0), (4, u4), (5, u5), (6, .sl o kk xs), (7, .sc (.int .i64 k)), (8, .sc (.int .i64 h)), (20, u20), (27, u27), (42, u42), (50, u50)]

abbrev path33 : Path := [false, true, false, false, true, false, false, true, false, true, true, true]

theorem body33 (lim : Nat) (y : S39) (b : Bool) (h : Int) (o : Bool) (kk : Nat) (xs : List V) (k : Int) (u0 u4 u5 u20 u27 u42 u50 : V) (K : Ex → Fr → Heap → R) :
    bodyK ctx kn32n lt32 3 33 path33 lim (fr33 b o kk xs k h u0 u4 u5 u20 u27 u42 u50) [cells39 y] K =
      (cond (decide (0 ≤ k ∧ k < ↑xs.length)) (cond (allI IntKind.i64 xs) (cond (decide (k.toNat < xs.length)) (cond (decide (kk = 1 ∧ plain (V.sc (Value.int IntKind.i64 (getI (intsL xs) k.toNat))) = true))
        (cond (decide (h < shlF IntKind.i64 (wrapF IntKind.i64 (getI (intsL xs) k.toNat + 1)) 11)) (cond (decide (0 ≤ wrapF IntKind.u16 h ∧ wrapF IntKind.u16 h ≤ 65535)) (cond (eq39 (p30 (wrapF IntKind.u16 h) b) y)
          (K .ret (fr33 b o kk xs k h u0 (.sc (.int .u16 (wrapF IntKind.u16 h))) (.sc (.bool true)) u20 u27 (.sc (.bool true)) (.sc (.bool true))) [cells39 y])
          (K .nrm (fr33 b o kk xs k (wrapF IntKind.i64 (h + 1)) u0 u4 u5 u20 u27 (.sc (.bool true)) (.sc (.bool false))) [cells39 y])) none)
          (K (.ext 2) ((42, .sc (.bool false)) :: fr33 b o kk xs k h u0 u4 u5 u20 u27 (.sc (.bool (decide (h < shlF IntKind.i64 (wrapF IntKind.i64 (getI (intsL xs) k.toNat + 1)) 11)))) u50) [cells39 y])) none) none) none) none) := by kernel_rfl

def e50 (n : Nat) (u : V) : V := match n with
  | 0 => u
  | _ + 1 => .sc (.bool false)

theorem top33 : ∀ g < 32, shlF IntKind.i64 (wrapF IntKind.i64 (((g : Nat) : Int) + 1)) 11 = ((g + 1) * 2048 : Nat) := by decide +kernel

theorem loop33 (lim : Nat) (y : S39) (b : Bool) (o : Bool) (xs : List V) (k : Int) (g : Nat) (hg : g < 32) (hk : 0 ≤ k ∧ k < ↑xs.length) (ha : allI IntKind.i64 xs = true) (hx : getI (intsL xs) k.toNat = (g : Int)) (u0 u4 u5 u20 u27 : V) (K : Ex → Fr → Heap → R) :
    ∀ (n h N : Nat) (u42 u50 : V), h + n = (g + 1) * 2048 → g * 2048 ≤ h → n < N → (∀ v, v < h → ¬ WordG y b g v) →
    iterK (bodyK ctx kn32n lt32 3 33 path33 lim) N (fr33 b o 1 xs k (h : Int) u0 u4 u5 u20 u27 u42 u50) [cells39 y] K =
      cond (foundG y b g) (K .ret (fr33 b o 1 xs k (wordG y b g) u0 (.sc (.int .u16 (wordG y b g))) (.sc (.bool true)) u20 u27 (.sc (.bool true)) (.sc (.bool true))) [cells39 y])
        (K (.ext 2) ((42, .sc (.bool false)) :: fr33 b o 1 xs k (((g + 1) * 2048 : Nat) : Int) u0 u4 u5 u20 u27 (.sc (.bool false)) (e50 n u50)) [cells39 y]) := by
  have c1 : decide (0 ≤ k ∧ k < ↑xs.length) = true := decide_eq_true hk
  have c2 : decide (k.toNat < xs.length) = true := decide_eq_true (by omega)
  have c3 : decide ((1 : Nat) = 1 ∧ plain (V.sc (Value.int IntKind.i64 ((g : Nat) : Int))) = true) = true := rfl
  have ht := top33 g hg
  intro n
  induction n with
  | zero =>
    intro h N u42 u50 hh hge hN hv
    obtain ⟨N, rfl⟩ : ∃ m, N = m + 1 := ⟨N - 1, by omega⟩
    simp only [iterK]
    rw [body33, c1, ha, c2, hx, c3, ht]
    have h0 : h = (g + 1) * 2048 := by omega
    subst h0
    have hf : foundG y b g = false := Bool.eq_false_iff.2 fun hf => by
      obtain ⟨w, hw⟩ := foundG_iff.1 hf
      have hw2 := hw.2
      exact hv w (by rw [Int.toNat_natCast] at hw2; omega) hw
    rw [hf, decide_eq_false (Int.lt_irrefl _)]
    rfl
  | succ n ih =>
    intro h N u42 u50 hh hge hN hv
    obtain ⟨N, rfl⟩ : ∃ m, N = m + 1 := ⟨N - 1, by omega⟩
    simp only [iterK]
    have hlt : h < 65536 := by omega
    rw [body33, c1, ha, c2, hx, c3, ht, wrap_u16 hlt, decide_eq_true (show (h : Int) < (((g + 1) * 2048 : Nat) : Int) by omega), decide_eq_true (show 0 ≤ (h : Int) ∧ (h : Int) ≤ 65535 by omega)]
    simp only [cond_true]
    cases he : eq39 (p30 (h : Int) b) y with
    | true =>
      have hw : WordG y b g h := ⟨⟨hlt, (eq39_iff _ _).1 he⟩, by omega⟩
      obtain ⟨h1, h2⟩ := wordG_is (g := (g : Int)) hw hv
      rw [h1, h2]
      rfl
    | false =>
      simp only [cond_false]
      have hn : ¬ WordG y b g h := fun hw => by
        have := (eq39_iff _ _).2 hw.1.2
        rw [show (Int.ofNat h) = (h : Int) from rfl] at this
        rw [he] at this
        cases this
      have hs : wrapF IntKind.i64 ((h : Int) + 1) = ((h + 1 : Nat) : Int) := by
        rw [wrapF_id (by omega) (by simp only [halfK]; omega)]
        omega
      rw [hs, ih (h + 1) N _ _ (by omega) (by omega) (by omega) (fun v hv' => by
        by_cases hvh : v = h
        · subst hvh; exact hn
        · exact hv v (by omega))]
      have hy : e50 n (.sc (.bool false)) = .sc (.bool false) := by cases n <;> rfl
      rw [hy]
      rfl

/-- what the reference's inner loop comes to -/
noncomputable def L33 : LoopT := fun l H K =>
  slotK 0 l fun u0 l => slotK 1 l fun v1 l => boolK v1 fun b => slotK 2 l fun v2 l => ptrK 0 0 v2 <| slotK 4 l fun u4 l => slotK 5 l fun u5 l => slotK 6 l fun v6 l => slK v6 fun o kk xs => slotK 7 l fun v7 l => numK .i64 v7 fun k =>
  slotK 8 l fun v8 l => numK .i64 v8 fun h => slotK 20 l fun u20 l => slotK 27 l fun u27 l => slotK 42 l fun u42 l => slotK 50 l fun u50 l => endL l <| heapKc H fun cs H => heapK0 H <| cells39K cs fun y =>
  cond (decide (0 ≤ k ∧ k < ↑xs.length)) (cond (allI IntKind.i64 xs) (cond (Nat.beq kk 1) (cond (decide (0 ≤ getI (intsL xs) k.toNat ∧ getI (intsL xs) k.toNat < 32)) (cond (decide (h = getI (intsL xs) k.toNat * 2048))
    (cond (foundG y b (getI (intsL xs) k.toNat)) (K .ret (fr33 b o kk xs k (wordG y b (getI (intsL xs) k.toNat)) u0 (.sc (.int .u16 (wordG y b (getI (intsL xs) k.toNat)))) (.sc (.bool true)) u20 u27 (.sc (.bool true)) (.sc (.bool true))) [cells39 y])
      (K (.ext 2) ((42, .sc (.bool false)) :: fr33 b o kk xs k ((getI (intsL xs) k.toNat + 1) * 2048) u0 u4 u5 u20 u27 (.sc (.bool false)) (.sc (.bool false))) [cells39 y])) none) none) none) none) none

noncomputable def lt33 : Loops := lt32.add 33 path33 L33

theorem lt33_ok : LoopsOK ctx lt33 123 := Loops.add_ok kn32n_ok (lt32_ok.mono (by omega)) 3 fun lim l H K r h0 => by
  unfold L33 at h0
  obtain ⟨u0, _, rfl, h1⟩ := slotK_ok h0
  obtain ⟨_, _, rfl, h2⟩ := slotK_ok h1
  obtain ⟨b, rfl, h3⟩ := boolK_ok h2
  obtain ⟨_, _, rfl, h4⟩ := slotK_ok h3
  obtain ⟨rfl, h5⟩ := ptrK_ok h4
  obtain ⟨u4, _, rfl, h6⟩ := slotK_ok h5
  obtain ⟨u5, _, rfl, h7⟩ := slotK_ok h6
  obtain ⟨_, _, rfl, h8⟩ := slotK_ok h7
  obtain ⟨o, kk, xs, rfl, h9⟩ := slK_ok h8
  obtain ⟨_, _, rfl, h10⟩ := slotK_ok h9
  obtain ⟨k, rfl, h11⟩ := numK_ok h10
  obtain ⟨_, _, rfl, h12⟩ := slotK_ok h11
  obtain ⟨n, rfl, h13⟩ := numK_ok h12
  obtain ⟨u20, _, rfl, h14⟩ := slotK_ok h13
  obtain ⟨u27, _, rfl, h15⟩ := slotK_ok h14
  obtain ⟨u42, _, rfl, h16⟩ := slotK_ok h15
  obtain ⟨u50, _, rfl, h17⟩ := slotK_ok h16
  obtain ⟨rfl, h18⟩ := endL_ok h17
  obtain ⟨cs, _, rfl, h19⟩ := heapKc_ok h18
  obtain ⟨rfl, h20⟩ := heapK0_ok h19
  obtain ⟨y, rfl, h21⟩ := cells39K_ok h20
  obtain ⟨c1, h22⟩ := cond_l h21
  obtain ⟨c2, h23⟩ := cond_l h22
  obtain ⟨c3, h24⟩ := cond_l h23
  obtain ⟨c4, h25⟩ := cond_l h24
  obtain ⟨c5, h26⟩ := cond_l h25
  have c1 := of_decide_eq_true c1
  have c3 := Nat.eq_of_beq_eq_true c3
  have c4 := of_decide_eq_true c4
  have c5 := of_decide_eq_true c5
  subst c3
  obtain ⟨g, hg⟩ := Int.eq_ofNat_of_zero_le c4.1
  rw [hg] at c5 h26
  subst c5
  have hl := loop33 lim y b o xs k g (by omega) c1 c2 hg u0 u4 u5 u20 u27 K 2048 (g * 2048) ctx.fuel u42 u50 (by omega) (by omega) (by show 2048 < 70000; omega) (fun v hv hW => by
    have := hW.2
    omega)
  have e : (((g * 2048 : Nat) : Int)) = (g : Int) * 2048 := by omega
  rw [e] at hl
  refine hl.trans ?_
  have e2 : ((((g + 1) * 2048 : Nat) : Int)) = ((g : Int) + 1) * 2048 := by omega
  rw [e2]
  exact h26

noncomputable def knB : Known := kn32n
theorem knB_ok : KnownOK ctx knB 123 := kn32n_ok.mono (by omega)

end Go.Den
