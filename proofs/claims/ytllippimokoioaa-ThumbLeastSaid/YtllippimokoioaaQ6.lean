import Derived.Test.YtllippimokoioaaQ5
import Derived.Test.YtllippimokoioaaDenB
set_option linter.unusedVariables false
set_option maxRecDepth 100000
namespace Go.Den

def cells39 (y : S39) : List V := [.sc (.int .i64 y.f_Op), .sc (.bool y.f_Wide), .sc (.bool y.f_S), .sc (.int .i64 y.f_Cond), .sc (.int .i64 y.f_D), .sc (.int .i64 y.f_N), .sc (.int .i64 y.f_M), .sc (.int .i64 y.f_A), .sc (.int .u32 y.f_Imm), .sc (.bool y.f_UseImm), .sc (.int .i64 y.f_Sh), .sc (.int .i64 y.f_Amt), .sc (.int .i64 y.f_List), .sc (.bool y.f_Back), .sc (.bool y.f_Down)]

def cells39K (cs : List V) (F : S39 → R) : R := consVK cs fun v cs => numK .i64 v fun a0 => consVK cs fun v cs => boolK v fun a1 => consVK cs fun v cs => boolK v fun a2 => consVK cs fun v cs => numK .i64 v fun a3 => consVK cs fun v cs => numK .i64 v fun a4 => consVK cs fun v cs => numK .i64 v fun a5 => consVK cs fun v cs => numK .i64 v fun a6 => consVK cs fun v cs => numK .i64 v fun a7 => consVK cs fun v cs => numK .u32 v fun a8 => consVK cs fun v cs => boolK v fun a9 => consVK cs fun v cs => numK .i64 v fun a10 => consVK cs fun v cs => numK .i64 v fun a11 => consVK cs fun v cs => numK .i64 v fun a12 => consVK cs fun v cs => boolK v fun a13 => consVK cs fun v cs => boolK v fun a14 =>  nilVK cs (F ⟨a0, a1, a2, a3, a4, a5, a6, a7, a8, a9, a10, a11, a12, a13, a14⟩)

theorem cells39K_ok {cs : List V} {F : S39 → R} {r : V × Heap} (h : cells39K cs F = some r) : ∃ y, cs = cells39 y ∧ F y = some r := by
  unfold cells39K at h
  have h0 := h
  clear h
  obtain ⟨_, _, rfl, h1⟩ := consVK_ok h0
  obtain ⟨a0, rfl, h2⟩ := numK_ok h1
  obtain ⟨_, _, rfl, h3⟩ := consVK_ok h2
  obtain ⟨a1, rfl, h4⟩ := boolK_ok h3
  obtain ⟨_, _, rfl, h5⟩ := consVK_ok h4
  obtain ⟨a2, rfl, h6⟩ := boolK_ok h5
  obtain ⟨_, _, rfl, h7⟩ := consVK_ok h6
  obtain ⟨a3, rfl, h8⟩ := numK_ok h7
  obtain ⟨_, _, rfl, h9⟩ := consVK_ok h8
  obtain ⟨a4, rfl, h10⟩ := numK_ok h9
  obtain ⟨_, _, rfl, h11⟩ := consVK_ok h10
  obtain ⟨a5, rfl, h12⟩ := numK_ok h11
  obtain ⟨_, _, rfl, h13⟩ := consVK_ok h12
  obtain ⟨a6, rfl, h14⟩ := numK_ok h13
  obtain ⟨_, _, rfl, h15⟩ := consVK_ok h14
  obtain ⟨a7, rfl, h16⟩ := numK_ok h15
  obtain ⟨_, _, rfl, h17⟩ := consVK_ok h16
  obtain ⟨a8, rfl, h18⟩ := numK_ok h17
  obtain ⟨_, _, rfl, h19⟩ := consVK_ok h18
  obtain ⟨a9, rfl, h20⟩ := boolK_ok h19
  obtain ⟨_, _, rfl, h21⟩ := consVK_ok h20
  obtain ⟨a10, rfl, h22⟩ := numK_ok h21
  obtain ⟨_, _, rfl, h23⟩ := consVK_ok h22
  obtain ⟨a11, rfl, h24⟩ := numK_ok h23
  obtain ⟨_, _, rfl, h25⟩ := consVK_ok h24
  obtain ⟨a12, rfl, h26⟩ := numK_ok h25
  obtain ⟨_, _, rfl, h27⟩ := consVK_ok h26
  obtain ⟨a13, rfl, h28⟩ := boolK_ok h27
  obtain ⟨_, _, rfl, h29⟩ := consVK_ok h28
  obtain ⟨a14, rfl, h30⟩ := boolK_ok h29
  obtain ⟨rfl, h31⟩ := nilVK_ok h30
  exact ⟨⟨a0, a1, a2, a3, a4, a5, a6, a7, a8, a9, a10, a11, a12, a13, a14⟩, rfl, h31⟩

/-- two instructions are the same -/
def eq39 (a y : S39) : Bool := (a.f_Op == y.f_Op && (a.f_Wide == y.f_Wide && (a.f_S == y.f_S && (a.f_Cond == y.f_Cond && (a.f_D == y.f_D && (a.f_N == y.f_N && (a.f_M == y.f_M && (a.f_A == y.f_A && (a.f_Imm == y.f_Imm && (a.f_UseImm == y.f_UseImm && (a.f_Sh == y.f_Sh && (a.f_Amt == y.f_Amt && (a.f_List == y.f_List && (a.f_Back == y.f_Back && (a.f_Down == y.f_Down && true)))))))))))))))

theorem eq39_iff (a y : S39) : eq39 a y = true ↔ a = y := by
  cases a; cases y
  simp only [eq39, Bool.and_eq_true, beq_iff_eq, and_true, S39.mk.injEq]

/-- the words that tell y -/
def Word (y : S39) (b : Bool) (w : Nat) : Prop := w < 65536 ∧ p30 (Int.ofNat w) b = y

/-- is there one? -/
noncomputable def found (y : S39) (b : Bool) : Bool := @decide (∃ w, Word y b w) (Classical.propDecidable _)

/-- the least -/
noncomputable def word (y : S39) (b : Bool) : Int := Int.ofNat (Classical.epsilon fun w => Word y b w ∧ ∀ v, Word y b v → w ≤ v)

theorem found_iff {y : S39} {b : Bool} : found y b = true ↔ ∃ w, Word y b w := @decide_eq_true_iff _ (Classical.propDecidable _)

theorem least {P : Nat → Prop} : ∀ n, P n → ∃ w, P w ∧ ∀ v, P v → w ≤ v := by
  intro n
  induction n using Nat.strongRecOn with
  | _ n ih =>
    intro hn
    by_cases h : ∃ m, m < n ∧ P m
    · obtain ⟨m, h1, h2⟩ := h
      exact ih m h1 h2
    · exact ⟨n, hn, fun v hv => Nat.le_of_not_lt fun hlt => h ⟨v, hlt, hv⟩⟩

theorem word_spec {y : S39} {b : Bool} (h : found y b = true) : ∃ w : Nat, word y b = Int.ofNat w ∧ Word y b w ∧ ∀ v, Word y b v → w ≤ v := by
  obtain ⟨w, hw⟩ := found_iff.1 h
  exact ⟨_, rfl, Classical.epsilon_spec (least w hw)⟩

theorem word_is {y : S39} {b : Bool} {w : Nat} (h : Word y b w) (hl : ∀ v, v < w → ¬ Word y b v) : found y b = true ∧ word y b = Int.ofNat w := by
  have hf : found y b = true := found_iff.2 ⟨w, h⟩
  obtain ⟨u, h1, h2, h3⟩ := word_spec hf
  refine ⟨hf, ?_⟩
  rw [h1]
  have := h3 w h
  have : ¬ u < w := fun hu => hl u hu h2
  rw [show u = w by omega]

def fr32 (b : Bool) (h : Int) (u0 u4 u5 u6 u18 u20 u27 : V) : Fr := [(0, u0), (1, .sc (.bool b)), (2, .ptr 0 0), (4, u4), (5, u5), (6, u6), (18, u18), (19, .sc (.int .i64 h)), (20, u20), (27, u27)]

theorem body32 (lim : Nat) (y : S39) (b : Bool) (h : Int) (u0 u4 u5 u6 u18 u20 u27 : V) (K : Ex → Fr → Heap → R) :
    bodyK ctx kn27 noLoops 3 32 [false, true, false, true, true] lim (fr32 b h u0 u4 u5 u6 u18 u20 u27) [cells39 y] K =
      cond (decide (h < 65536)) (cond (eq39 (p30 (wrapF IntKind.u16 h) b) y)
        (K .ret (fr32 b h u0 (.sc (.int .u16 (wrapF IntKind.u16 h))) (.sc (.bool true)) (.sc (.int .i64 h)) u18 (.sc (.bool true)) (.sc (.bool true))) [cells39 y])
        (K .nrm (fr32 b (wrapF IntKind.i64 (h + 1)) u0 u4 u5 (.sc (.int .i64 h)) u18 (.sc (.bool true)) (.sc (.bool false))) [cells39 y]))
        (K (.ext 0) ((20, .sc (.bool false)) :: fr32 b h u0 u4 u5 u6 u18 (.sc (.bool (decide (h < 65536)))) u27) [cells39 y]) := by kernel_rfl

def e6 (n : Nat) (u : V) : V := match n with
  | 0 => u
  | _ + 1 => .sc (.int .i64 65535)
def e27 (n : Nat) (u : V) : V := match n with
  | 0 => u
  | _ + 1 => .sc (.bool false)

theorem wrap_u16 {h : Nat} (hh : h < 65536) : wrapF .u16 (h : Int) = (h : Int) := by
  rw [wrapF_S]
  exact wrapS_id .u16 h (by simp only [topN]; omega)

theorem loop32 (lim : Nat) (y : S39) (b : Bool) (u0 u4 u5 u18 : V) (K : Ex → Fr → Heap → R) : ∀ (n h N : Nat) (u6 u20 u27 : V), h + n = 65536 → n < N → (∀ v, v < h → ¬ Word y b v) →
    iterK (bodyK ctx kn27 noLoops 3 32 [false, true, false, true, true] lim) N (fr32 b (h : Int) u0 u4 u5 u6 u18 u20 u27) [cells39 y] K =
      cond (found y b) (K .ret (fr32 b (word y b) u0 (.sc (.int .u16 (word y b))) (.sc (.bool true)) (.sc (.int .i64 (word y b))) u18 (.sc (.bool true)) (.sc (.bool true))) [cells39 y])
        (K (.ext 0) ((20, .sc (.bool false)) :: fr32 b 65536 u0 u4 u5 (e6 n u6) u18 (.sc (.bool false)) (e27 n u27)) [cells39 y]) := by
  intro n
  induction n with
  | zero =>
    intro h N u6 u20 u27 hh hN hv
    obtain ⟨N, rfl⟩ : ∃ m, N = m + 1 := ⟨N - 1, by omega⟩
    simp only [iterK]
    rw [body32]
    have h0 : h = 65536 := by omega
    subst h0
    have hf : found y b = false := Bool.eq_false_iff.2 fun hf => by
      obtain ⟨w, hw⟩ := found_iff.1 hf
      exact hv w hw.1 hw
    rw [hf]
    rfl
  | succ n ih =>
    intro h N u6 u20 u27 hh hN hv
    obtain ⟨N, rfl⟩ : ∃ m, N = m + 1 := ⟨N - 1, by omega⟩
    simp only [iterK]
    rw [body32]
    have hlt : h < 65536 := by omega
    rw [decide_eq_true (show (h : Int) < 65536 by omega), wrap_u16 hlt]
    simp only [cond_true]
    cases he : eq39 (p30 (h : Int) b) y with
    | true =>
      have hw : Word y b h := ⟨hlt, (eq39_iff _ _).1 he⟩
      obtain ⟨h1, h2⟩ := word_is hw hv
      rw [h1, h2]
      rfl
    | false =>
      simp only [cond_false]
      have hn : ¬ Word y b h := fun hw => by
        have := (eq39_iff _ _).2 hw.2
        rw [show (Int.ofNat h) = (h : Int) from rfl] at this
        rw [he] at this
        cases this
      have hs : wrapF IntKind.i64 ((h : Int) + 1) = ((h + 1 : Nat) : Int) := by
        rw [wrapF_id (by omega) (by simp only [halfK]; omega)]
        omega
      rw [hs, ih (h + 1) N _ _ _ (by omega) (by omega) (fun v hv' => by
        by_cases hvh : v = h
        · subst hvh; exact hn
        · exact hv v (by omega))]
      have hx : e6 n (.sc (.int .i64 (h : Int))) = .sc (.int .i64 65535) := by
        cases n with
        | zero =>
          have : (h : Int) = 65535 := by omega
          rw [this]
          rfl
        | succ n => rfl
      have hy : e27 n (.sc (.bool false)) = .sc (.bool false) := by cases n <;> rfl
      rw [hx, hy]
      rfl

/-- what Encode's loop comes to -/
noncomputable def L32 : LoopT := fun l H K =>
  slotK 0 l fun u0 l => slotK 1 l fun v1 l => boolK v1 fun b => slotK 2 l fun v2 l => ptrK 0 0 v2 <| slotK 4 l fun u4 l => slotK 5 l fun u5 l => slotK 6 l fun u6 l => slotK 18 l fun u18 l =>
  slotK 19 l fun v19 l => numK .i64 v19 fun h => slotK 20 l fun u20 l => slotK 27 l fun u27 l => endL l <| heapKc H fun cs H => heapK0 H <| cells39K cs fun y => cond (h == 0)
    (cond (found y b) (K .ret (fr32 b (word y b) u0 (.sc (.int .u16 (word y b))) (.sc (.bool true)) (.sc (.int .i64 (word y b))) u18 (.sc (.bool true)) (.sc (.bool true))) [cells39 y])
      (K (.ext 0) ((20, .sc (.bool false)) :: fr32 b 65536 u0 u4 u5 (.sc (.int .i64 65535)) u18 (.sc (.bool false)) (.sc (.bool false))) [cells39 y])) none

noncomputable def lt32 : Loops := noLoops.add 32 [false, true, false, true, true] L32

theorem lt32_ok : LoopsOK ctx lt32 108 := Loops.add_ok kn27_ok (noLoops_ok _) 3 fun lim l H K r h => by
  unfold L32 at h
  have h0 := h
  clear h
  obtain ⟨u0, _, rfl, h1⟩ := slotK_ok h0
  obtain ⟨_, _, rfl, h2⟩ := slotK_ok h1
  obtain ⟨b, rfl, h3⟩ := boolK_ok h2
  obtain ⟨_, _, rfl, h4⟩ := slotK_ok h3
  obtain ⟨rfl, h5⟩ := ptrK_ok h4
  obtain ⟨u4, _, rfl, h6⟩ := slotK_ok h5
  obtain ⟨u5, _, rfl, h7⟩ := slotK_ok h6
  obtain ⟨u6, _, rfl, h8⟩ := slotK_ok h7
  obtain ⟨u18, _, rfl, h9⟩ := slotK_ok h8
  obtain ⟨_, _, rfl, h10⟩ := slotK_ok h9
  obtain ⟨n, rfl, h11⟩ := numK_ok h10
  obtain ⟨u20, _, rfl, h12⟩ := slotK_ok h11
  obtain ⟨u27, _, rfl, h13⟩ := slotK_ok h12
  obtain ⟨rfl, h14⟩ := endL_ok h13
  obtain ⟨cs, _, rfl, h15⟩ := heapKc_ok h14
  obtain ⟨rfl, h16⟩ := heapK0_ok h15
  obtain ⟨y, rfl, h17⟩ := cells39K_ok h16
  obtain ⟨hz, h18⟩ := cond_l h17
  have h00 := beq_iff_eq.1 hz
  subst h00
  exact (loop32 lim y b u0 u4 u5 u18 K 65536 0 ctx.fuel u6 u20 u27 rfl (by decide +kernel) (fun v hv => by omega)).trans h18

noncomputable def knA : Known := kn27
theorem knA_ok : KnownOK ctx knA 108 := kn27_ok.mono (by omega)

end Go.Den
