import Derived.Test.YtihdbaehaiaiiaaV3
set_option linter.unusedVariables false
set_option linter.unusedSimpArgs false
set_option maxRecDepth 100000
namespace Go.Den

/-- steps of a shift -/
noncomputable def itS (kd : Int) : Nat → Int → Bool → Int × Bool
  | 0, v, c => (v, c)
  | n + 1, v, c => itS kd n (p86 v kd c).1 (p86 v kd c).2

abbrev path69 : Path := [false, true, false, true, true, true, true]

def fr69 (v kd n : Int) (c : Bool) (i : Int) (u8 u9 u19 u23 u32 : V) : Fr := [(0, .sc (.int .u32 v)), (1, .sc (.int .i64 kd)), (2, .sc (.int .i64 n)), (3, .sc (.bool c)), (8, u8), (9, u9), (10, .sc (.int .i64 i)), (19, u19), (23, u23), (32, u32)]

theorem body69 (lim : Nat) (v : Int) (kd : Int) (n : Int) (c : Bool) (i : Int) (u8 : V) (u9 : V) (u19 : V) (u23 : V) (u32 : V) (K : Ex → Fr → Heap → R) : bodyK ctx kn86 noLoops 3 69 path69 lim [(0, .sc (.int .u32 v)), (1, .sc (.int .i64 kd)), (2, .sc (.int .i64 n)), (3, .sc (.bool c)), (8, u8), (9, u9), (10, .sc (.int .i64 i)), (19, u19), (23, u23), (32, u32)] [] K = (cond (decide (i < n)) (K .nrm [(0, .sc (.int .u32 ((p86 v kd c).fst))), (1, .sc (.int .i64 (kd))), (2, .sc (.int .i64 (n))), (3, .sc (.bool ((p86 v kd c).snd))), (8, u8), (9, u9), (10, .sc (.int .i64 (wrapF IntKind.i64 (i + 1)))), (19, u19), (23, u23), (32, .sc (.bool (true)))] []) (K (.ext 0) [(32, .sc (.bool (false))), (0, .sc (.int .u32 (v))), (1, .sc (.int .i64 (kd))), (2, .sc (.int .i64 (n))), (3, .sc (.bool (c))), (8, u8), (9, u9), (10, .sc (.int .i64 (i))), (19, u19), (23, u23), (32, .sc (.bool (decide (i < n))))] [])) := by kernel_rfl

theorem loop69 (lim : Nat) (kd : Int) (n : Nat) (hn : n ≤ 255) (u8 u9 u19 u23 : V) (K : Ex → Fr → Heap → R) : ∀ (k i N : Nat) (v : Int) (c : Bool) (u32 : V), i + k = n → k < N →
    iterK (bodyK ctx kn86 noLoops 3 69 path69 lim) N (fr69 v kd n c i u8 u9 u19 u23 u32) [] K =
      K (.ext 0) ((32, .sc (.bool false)) :: fr69 (itS kd k v c).1 kd n (itS kd k v c).2 n u8 u9 u19 u23 (.sc (.bool false))) [] := by
  intro k
  induction k with
  | zero =>
    intro i N v c u32 hi hN
    obtain ⟨N, rfl⟩ : ∃ m, N = m + 1 := ⟨N - 1, by omega⟩
    simp only [iterK]
    unfold fr69
    rw [body69, decide_eq_false (show ¬ (i : Int) < (n : Int) by omega), show i = n by omega]
    rfl
  | succ k ih =>
    intro i N v c u32 hi hN
    obtain ⟨N, rfl⟩ : ∃ m, N = m + 1 := ⟨N - 1, by omega⟩
    simp only [iterK]
    have hs : wrapF IntKind.i64 ((i : Int) + 1) = ((i + 1 : Nat) : Int) := by
      rw [wrapF_id (by omega) (by simp only [halfK]; omega)]
      omega
    unfold fr69
    rw [body69, decide_eq_true (show (i : Int) < (n : Int) by omega), hs]
    exact ih (i + 1) N _ _ _ (by omega) (by omega)

noncomputable def L69 : LoopT := fun l H K =>
  slotK 0 l fun v0 l => numK .u32 v0 fun v => slotK 1 l fun v1 l => numK .i64 v1 fun kd => slotK 2 l fun v2 l => numK .i64 v2 fun n => slotK 3 l fun v3 l => boolK v3 fun c =>
  slotK 8 l fun u8 l => slotK 9 l fun u9 l => slotK 10 l fun v10 l => numK .i64 v10 fun i => slotK 19 l fun u19 l => slotK 23 l fun u23 l => slotK 32 l fun u32 l => endL l <| heapK0 H <|
  cond (decide (i = 0)) (cond (decide (0 ≤ n ∧ n ≤ 255)) (K (.ext 0) ((32, .sc (.bool false)) :: fr69 (itS kd n.toNat v c).1 kd n (itS kd n.toNat v c).2 n u8 u9 u19 u23 (.sc (.bool false))) []) none) none

noncomputable def lt69 : Loops := noLoops.add 69 path69 L69

theorem lt69_ok : LoopsOK ctx lt69 105 := Loops.add_ok kn86_ok (noLoops_ok _) 3 fun lim l H K r h0 => by
  unfold L69 at h0
  obtain ⟨_, _, rfl, h1⟩ := slotK_ok h0
  obtain ⟨v, rfl, h2⟩ := numK_ok h1
  obtain ⟨_, _, rfl, h3⟩ := slotK_ok h2
  obtain ⟨kd, rfl, h4⟩ := numK_ok h3
  obtain ⟨_, _, rfl, h5⟩ := slotK_ok h4
  obtain ⟨n, rfl, h6⟩ := numK_ok h5
  obtain ⟨_, _, rfl, h7⟩ := slotK_ok h6
  obtain ⟨c, rfl, h8⟩ := boolK_ok h7
  obtain ⟨u8, _, rfl, h9⟩ := slotK_ok h8
  obtain ⟨u9, _, rfl, h10⟩ := slotK_ok h9
  obtain ⟨_, _, rfl, h11⟩ := slotK_ok h10
  obtain ⟨i, rfl, h12⟩ := numK_ok h11
  obtain ⟨u19, _, rfl, h13⟩ := slotK_ok h12
  obtain ⟨u23, _, rfl, h14⟩ := slotK_ok h13
  obtain ⟨u32, _, rfl, h15⟩ := slotK_ok h14
  obtain ⟨rfl, h16⟩ := endL_ok h15
  obtain ⟨rfl, h17⟩ := heapK0_ok h16
  obtain ⟨c1, h18⟩ := cond_l h17
  obtain ⟨c2, h19⟩ := cond_l h18
  have c1 := of_decide_eq_true c1
  have c2 := of_decide_eq_true c2
  subst c1
  obtain ⟨m, rfl⟩ := Int.eq_ofNat_of_zero_le c2.1
  have hl := loop69 lim kd m (by omega) u8 u9 u19 u23 K m 0 ctx.fuel v c u32 (by omega) (by show m < 70000; omega)
  exact hl.trans h19

noncomputable def knE : Known := kn86
theorem knE_ok : KnownOK ctx knE 105 := kn86_ok.mono (by omega)

end Go.Den
