import Derived.Test.YtihdbaehaiaiiaaV156
set_option linter.unusedSimpArgs false
section
set_option linter.unusedVariables false
set_option maxRecDepth 100000
namespace Go.Den

/-- twelve bits mean a number -/
def ExpP (v : Int) (n : Nat) : Prop := n < 4096 ∧ (g41 (n : Int) false).snd.snd = true ∧ (g41 (n : Int) false).fst = v

noncomputable def cmpB (v : Int) : Bool := @decide (∃ n, ExpP v n) (Classical.propDecidable _)
noncomputable def cmpN (v : Int) : Int := Int.ofNat (Classical.epsilon fun n => ExpP v n ∧ ∀ m, ExpP v m → n ≤ m)

theorem cmp_iff {v : Int} : cmpB v = true ↔ ∃ n, ExpP v n := @decide_eq_true_iff _ (Classical.propDecidable _)

theorem least {P : Nat → Prop} : ∀ n, P n → ∃ w, P w ∧ ∀ v, P v → w ≤ v := by
  intro n
  induction n using Nat.strongRecOn with
  | _ n ih =>
    intro hn
    by_cases h : ∃ m, m < n ∧ P m
    · obtain ⟨m, h1, h2⟩ := h
      exact ih m h1 h2
    · exact ⟨n, hn, fun v hv => Nat.le_of_not_lt fun hlt => h ⟨v, hlt, hv⟩⟩

theorem cmp_spec {v : Int} (h : cmpB v = true) : ∃ n : Nat, cmpN v = (n : Int) ∧ ExpP v n ∧ ∀ m, ExpP v m → n ≤ m := by
  obtain ⟨n, hn⟩ := cmp_iff.1 h
  exact ⟨_, rfl, Classical.epsilon_spec (least n hn)⟩

theorem cmp_is {v : Int} {n : Nat} (h : ExpP v n) (hl : ∀ m, m < n → ¬ ExpP v m) : cmpB v = true ∧ cmpN v = (n : Int) := by
  have hf : cmpB v = true := cmp_iff.2 ⟨n, h⟩
  obtain ⟨u, h1, h2, h3⟩ := cmp_spec hf
  refine ⟨hf, ?_⟩
  rw [h1]
  have := h3 n h
  have : ¬ u < n := fun hu => hl u hu h2
  rw [show u = n by omega]

theorem wrap32_nat {n : Nat} (h : n ≤ 4095) : wrapF .u32 ((n : Int) + 1) = ((n + 1 : Nat) : Int) := by
  rw [wrapF_le (by omega) (by simp only [topN, Int.ofNat_eq_natCast]; omega)]
  omega

abbrev pathC : Path := [false, true, false, true]


def fr61 (v i : Int) : Fr := [(0, .sc (.int .u32 v)), (8, .sc (.int .u32 i))]
noncomputable def ret61 (v c : Int) : Fr := [(0, .sc (.int .u32 v)), (2, .sc (.int .u32 c)), (3, .sc (.bool true)), (4, .sc (.int .u32 c)), (5, .sc (.int .u32 ((g41 c false).fst))), (7, .sc (.bool ((g41 c false).snd.snd))), (8, .sc (.int .u32 c)), (9, .sc (.bool true)), (22, .sc (.bool true))]
def ex61 (v : Int) : Fr := [(9, .sc (.bool false)), (0, .sc (.int .u32 v)), (8, .sc (.int .u32 4096)), (9, .sc (.bool false))]

theorem body61 (v : Int) (i : Int) (K : Ex → Fr → Heap → R) : bodyK ctx kn7 noLoops 3 61 pathC 0 [(0, .sc (.int .u32 v)), (8, .sc (.int .u32 i))] [] K = (cond (decide (i < 4096)) (cond ((o41 i false).isSome) (cond ((g41 i false).snd.snd) (cond ((g41 i false).fst == v) (K .ret [(0, .sc (.int .u32 (v))), (2, .sc (.int .u32 (i))), (3, .sc (.bool (true))), (4, .sc (.int .u32 (i))), (5, .sc (.int .u32 ((g41 i false).fst))), (7, .sc (.bool ((g41 i false).snd.snd))), (8, .sc (.int .u32 (i))), (9, .sc (.bool (true))), (22, .sc (.bool (true)))] []) (K .nrm [(0, .sc (.int .u32 (v))), (8, .sc (.int .u32 (wrapF .u32 (i + 1))))] [])) (K .nrm [(0, .sc (.int .u32 (v))), (8, .sc (.int .u32 (wrapF .u32 (i + 1))))] [])) none) (K (.ext 0) [(9, .sc (.bool (false))), (0, .sc (.int .u32 (v))), (8, .sc (.int .u32 (i))), (9, .sc (.bool (decide (i < 4096))))] [])) := by kernel_rfl

theorem loop61 (v : Int) (K : Ex → Fr → Heap → R) : ∀ (j i N : Nat), i + j = 4096 → j < N → (∀ m, m < i → ¬ ExpP v m) →
    iterK (bodyK ctx kn7 noLoops 3 61 pathC 0) N (fr61 v i) [] K = cond (cmpB v) (K .ret (ret61 v (cmpN v)) []) (K (.ext 0) (ex61 v) []) := by
  intro j
  induction j with
  | zero =>
    intro i N hi hN hm
    obtain ⟨N, rfl⟩ : ∃ m, N = m + 1 := ⟨N - 1, by omega⟩
    have h0 : i = 4096 := by omega
    subst h0
    have hf : cmpB v = false := Bool.eq_false_iff.2 fun h => by
      obtain ⟨n, hn⟩ := cmp_iff.1 h
      exact hm n hn.1 hn
    simp only [iterK]
    unfold fr61
    rw [body61, hf]
    rfl
  | succ j ih =>
    intro i N hi hN hm
    obtain ⟨N, rfl⟩ : ∃ m, N = m + 1 := ⟨N - 1, by omega⟩
    have hr : 0 ≤ (i : Int) ∧ (i : Int) < 4096 := by omega
    obtain ⟨w, hw⟩ := expand_some hr
    have hi1 : (o41 (i : Int) false).isSome = true := by rw [hw]; rfl
    have hg : g41 (i : Int) false = g41 (i : Int) false := rfl
    have hs := wrap32_nat (n := i) (by omega)
    have hnext : (∀ m, m < i + 1 → ¬ ExpP v m) → iterK (bodyK ctx kn7 noLoops 3 61 pathC 0) N (fr61 v ((i + 1 : Nat) : Int)) [] K = cond (cmpB v) (K .ret (ret61 v (cmpN v)) []) (K (.ext 0) (ex61 v) []) := fun h => ih (i + 1) N (by omega) (by omega) h
    simp only [iterK]
    unfold fr61
    rw [body61, decide_eq_true hr.2, hi1, hs]
    simp only [cond_true]
    cases h1 : (g41 (i : Int) false).snd.snd with
    | false =>
      simp only [cond_false]
      exact hnext fun m hm' hP => by
        by_cases hmi : m = i
        · subst hmi
          rw [hg] at h1
          rw [hP.2.1] at h1
          cases h1
        · exact hm m (by omega) hP
    | true =>
      simp only [cond_true]
      cases h2 : ((g41 (i : Int) false).fst == v) with
      | false =>
        simp only [cond_false]
        exact hnext fun m hm' hP => by
          by_cases hmi : m = i
          · subst hmi
            rw [hg, hP.2.2, beq_self_eq_true] at h2
            cases h2
          · exact hm m (by omega) hP
      | true =>
        simp only [cond_true]
        have hP : ExpP v i := ⟨by omega, by rw [← hg]; exact h1, by rw [← hg]; exact beq_iff_eq.1 h2⟩
        obtain ⟨g1, g2⟩ := cmp_is hP hm
        rw [g1, g2]
        unfold ret61
        rw [h1]
        rfl

noncomputable def L61 : LoopT := fun l H K =>
  slotK 0 l fun v0 l => numK .u32 v0 fun v => slotK 8 l fun v8 l => numK .u32 v8 fun i => endL l <| heapK0 H <|
  cond (decide (i = 0)) (cond (cmpB v) (K .ret (ret61 v (cmpN v)) []) (K (.ext 0) (ex61 v) [])) none

def fr13 (v i : Int) : Fr := [(0, .sc (.int .u32 v)), (4, .sc (.int .u32 i))]
noncomputable def ret13 (v c : Int) : Fr := [(0, .sc (.int .u32 v)), (2, .sc (.int .u32 c)), (3, .sc (.bool true)), (4, .sc (.int .u32 c)), (5, .sc (.int .u32 ((g36 c false).fst))), (7, .sc (.bool ((g36 c false).snd.snd))), (9, .sc (.bool true)), (23, .sc (.bool true))]
def ex13 (v : Int) : Fr := [(9, .sc (.bool false)), (0, .sc (.int .u32 v)), (4, .sc (.int .u32 4096)), (9, .sc (.bool false))]

theorem body13 (v : Int) (i : Int) (K : Ex → Fr → Heap → R) : bodyK ctx kn7 noLoops 3 13 pathC 0 [(0, .sc (.int .u32 v)), (4, .sc (.int .u32 i))] [] K = (cond (decide (i < 4096)) (cond ((o36 i false).isSome) (cond ((g36 i false).snd.snd) (cond ((g36 i false).fst == v) (K .ret [(0, .sc (.int .u32 (v))), (2, .sc (.int .u32 (i))), (3, .sc (.bool (true))), (4, .sc (.int .u32 (i))), (5, .sc (.int .u32 ((g36 i false).fst))), (7, .sc (.bool ((g36 i false).snd.snd))), (9, .sc (.bool (true))), (23, .sc (.bool (true)))] []) (K .nrm [(0, .sc (.int .u32 (v))), (4, .sc (.int .u32 (wrapF .u32 (i + 1))))] [])) (K .nrm [(0, .sc (.int .u32 (v))), (4, .sc (.int .u32 (wrapF .u32 (i + 1))))] [])) none) (K (.ext 0) [(9, .sc (.bool (false))), (0, .sc (.int .u32 (v))), (4, .sc (.int .u32 (i))), (9, .sc (.bool (decide (i < 4096))))] [])) := by kernel_rfl

theorem loop13 (v : Int) (K : Ex → Fr → Heap → R) : ∀ (j i N : Nat), i + j = 4096 → j < N → (∀ m, m < i → ¬ ExpP v m) →
    iterK (bodyK ctx kn7 noLoops 3 13 pathC 0) N (fr13 v i) [] K = cond (cmpB v) (K .ret (ret13 v (cmpN v)) []) (K (.ext 0) (ex13 v) []) := by
  intro j
  induction j with
  | zero =>
    intro i N hi hN hm
    obtain ⟨N, rfl⟩ : ∃ m, N = m + 1 := ⟨N - 1, by omega⟩
    have h0 : i = 4096 := by omega
    subst h0
    have hf : cmpB v = false := Bool.eq_false_iff.2 fun h => by
      obtain ⟨n, hn⟩ := cmp_iff.1 h
      exact hm n hn.1 hn
    simp only [iterK]
    unfold fr13
    rw [body13, hf]
    rfl
  | succ j ih =>
    intro i N hi hN hm
    obtain ⟨N, rfl⟩ : ∃ m, N = m + 1 := ⟨N - 1, by omega⟩
    have hr : 0 ≤ (i : Int) ∧ (i : Int) < 4096 := by omega
    obtain ⟨w, hw⟩ := expand_some hr
    have hi1 : (o36 (i : Int) false).isSome = true := by rw [expand_eq hr, hw]; rfl
    have hg : g36 (i : Int) false = g41 (i : Int) false := expand_eqg hr
    have hs := wrap32_nat (n := i) (by omega)
    have hnext : (∀ m, m < i + 1 → ¬ ExpP v m) → iterK (bodyK ctx kn7 noLoops 3 13 pathC 0) N (fr13 v ((i + 1 : Nat) : Int)) [] K = cond (cmpB v) (K .ret (ret13 v (cmpN v)) []) (K (.ext 0) (ex13 v) []) := fun h => ih (i + 1) N (by omega) (by omega) h
    simp only [iterK]
    unfold fr13
    rw [body13, decide_eq_true hr.2, hi1, hs]
    simp only [cond_true]
    cases h1 : (g36 (i : Int) false).snd.snd with
    | false =>
      simp only [cond_false]
      exact hnext fun m hm' hP => by
        by_cases hmi : m = i
        · subst hmi
          rw [hg] at h1
          rw [hP.2.1] at h1
          cases h1
        · exact hm m (by omega) hP
    | true =>
      simp only [cond_true]
      cases h2 : ((g36 (i : Int) false).fst == v) with
      | false =>
        simp only [cond_false]
        exact hnext fun m hm' hP => by
          by_cases hmi : m = i
          · subst hmi
            rw [hg, hP.2.2, beq_self_eq_true] at h2
            cases h2
          · exact hm m (by omega) hP
      | true =>
        simp only [cond_true]
        have hP : ExpP v i := ⟨by omega, by rw [← hg]; exact h1, by rw [← hg]; exact beq_iff_eq.1 h2⟩
        obtain ⟨g1, g2⟩ := cmp_is hP hm
        rw [g1, g2]
        unfold ret13
        rw [h1]
        rfl

noncomputable def L13 : LoopT := fun l H K =>
  slotK 0 l fun v0 l => numK .u32 v0 fun v => slotK 4 l fun v8 l => numK .u32 v8 fun i => endL l <| heapK0 H <|
  cond (decide (i = 0)) (cond (cmpB v) (K .ret (ret13 v (cmpN v)) []) (K (.ext 0) (ex13 v) [])) none

noncomputable def lt61 : Loops := noLoops.add 61 pathC L61

theorem lt61_ok : LoopsOK ctx lt61 168 := Loops.add_ok0 (kn7_ok.mono (show 165 ≤ 165 by omega)) (noLoops_ok _) 3 rfl fun l H K r h0 => by
  unfold L61 at h0
  obtain ⟨_, _, rfl, h1⟩ := slotK_ok h0
  obtain ⟨v, rfl, h2⟩ := numK_ok h1
  obtain ⟨_, _, rfl, h3⟩ := slotK_ok h2
  obtain ⟨i, rfl, h4⟩ := numK_ok h3
  obtain ⟨rfl, h5⟩ := endL_ok h4
  obtain ⟨rfl, h6⟩ := heapK0_ok h5
  obtain ⟨c1, h7⟩ := cond_l h6
  have c1 := of_decide_eq_true c1
  subst c1
  have hl := loop61 v K 4096 0 ctx.fuel (by omega) (by show 4096 < 70000; omega) (fun m hm => absurd hm (Nat.not_lt_zero m))
  exact hl.trans h7

end Go.Den
end
section
set_option linter.unusedVariables false
set_option maxRecDepth 100000
namespace Go.Den

def encI64 (n : Int) : V := .sc (.int .i64 n)

/-- where a number stands in a list -/
noncomputable def placeI : List Int → Int → Int → Int
  | [], _, _ => -1
  | x :: l, v, i => cond (x == v) i (placeI l v (i + 1))

noncomputable def tr58_4 (a0 a1 a2 a3 v : Int) : R := (cond (a0 == v) (some (.sc (.int .i64 0), [])) (cond (a1 == v) (some (.sc (.int .i64 1), [])) (cond (a2 == v) (some (.sc (.int .i64 2), [])) (cond (a3 == v) (some (.sc (.int .i64 3), [])) (some (.sc (.int .i64 (-1)), []))))))
theorem run58_4 (o : Bool) (a0 a1 a2 a3 v : Int) : funK ctx kn7 noLoops 3 58 [.sl o 1 [.sc (.int .i64 a0), .sc (.int .i64 a1), .sc (.int .i64 a2), .sc (.int .i64 a3)], .sc (.int .i64 v)] [] 0 finV = tr58_4 a0 a1 a2 a3 v := by kernel_rfl
theorem told58_4 (a0 a1 a2 a3 v : Int) : Told encI64 (tr58_4 a0 a1 a2 a3 v) (some (placeI [a0, a1, a2, a3] v 0)) := by
  unfold tr58_4
  unfold placeI
  cases (a0 == v)
  case true => exact told_leaf _
  simp only [cond_false]
  unfold placeI
  cases (a1 == v)
  case true => exact told_leaf _
  simp only [cond_false]
  unfold placeI
  cases (a2 == v)
  case true => exact told_leaf _
  simp only [cond_false]
  unfold placeI
  cases (a3 == v)
  case true => exact told_leaf _
  simp only [cond_false]
  unfold placeI
  exact told_leaf _
noncomputable def tr58_6 (a0 a1 a2 a3 a4 a5 v : Int) : R := (cond (a0 == v) (some (.sc (.int .i64 0), [])) (cond (a1 == v) (some (.sc (.int .i64 1), [])) (cond (a2 == v) (some (.sc (.int .i64 2), [])) (cond (a3 == v) (some (.sc (.int .i64 3), [])) (cond (a4 == v) (some (.sc (.int .i64 4), [])) (cond (a5 == v) (some (.sc (.int .i64 5), [])) (some (.sc (.int .i64 (-1)), []))))))))
theorem run58_6 (o : Bool) (a0 a1 a2 a3 a4 a5 v : Int) : funK ctx kn7 noLoops 3 58 [.sl o 1 [.sc (.int .i64 a0), .sc (.int .i64 a1), .sc (.int .i64 a2), .sc (.int .i64 a3), .sc (.int .i64 a4), .sc (.int .i64 a5)], .sc (.int .i64 v)] [] 0 finV = tr58_6 a0 a1 a2 a3 a4 a5 v := by kernel_rfl
theorem told58_6 (a0 a1 a2 a3 a4 a5 v : Int) : Told encI64 (tr58_6 a0 a1 a2 a3 a4 a5 v) (some (placeI [a0, a1, a2, a3, a4, a5] v 0)) := by
  unfold tr58_6
  unfold placeI
  cases (a0 == v)
  case true => exact told_leaf _
  simp only [cond_false]
  unfold placeI
  cases (a1 == v)
  case true => exact told_leaf _
  simp only [cond_false]
  unfold placeI
  cases (a2 == v)
  case true => exact told_leaf _
  simp only [cond_false]
  unfold placeI
  cases (a3 == v)
  case true => exact told_leaf _
  simp only [cond_false]
  unfold placeI
  cases (a4 == v)
  case true => exact told_leaf _
  simp only [cond_false]
  unfold placeI
  cases (a5 == v)
  case true => exact told_leaf _
  simp only [cond_false]
  unfold placeI
  exact told_leaf _
noncomputable def tr58_16 (a0 a1 a2 a3 a4 a5 a6 a7 a8 a9 a10 a11 a12 a13 a14 a15 v : Int) : R := (cond (a0 == v) (some (.sc (.int .i64 0), [])) (cond (a1 == v) (some (.sc (.int .i64 1), [])) (cond (a2 == v) (some (.sc (.int .i64 2), [])) (cond (a3 == v) (some (.sc (.int .i64 3), [])) (cond (a4 == v) (some (.sc (.int .i64 4), [])) (cond (a5 == v) (some (.sc (.int .i64 5), [])) (cond (a6 == v) (some (.sc (.int .i64 6), [])) (cond (a7 == v) (some (.sc (.int .i64 7), [])) (cond (a8 == v) (some (.sc (.int .i64 8), [])) (cond (a9 == v) (some (.sc (.int .i64 9), [])) (cond (a10 == v) (some (.sc (.int .i64 10), [])) (cond (a11 == v) (some (.sc (.int .i64 11), [])) (cond (a12 == v) (some (.sc (.int .i64 12), [])) (cond (a13 == v) (some (.sc (.int .i64 13), [])) (cond (a14 == v) (some (.sc (.int .i64 14), [])) (cond (a15 == v) (some (.sc (.int .i64 15), [])) (some (.sc (.int .i64 (-1)), []))))))))))))))))))
theorem run58_16 (o : Bool) (a0 a1 a2 a3 a4 a5 a6 a7 a8 a9 a10 a11 a12 a13 a14 a15 v : Int) : funK ctx kn7 noLoops 3 58 [.sl o 1 [.sc (.int .i64 a0), .sc (.int .i64 a1), .sc (.int .i64 a2), .sc (.int .i64 a3), .sc (.int .i64 a4), .sc (.int .i64 a5), .sc (.int .i64 a6), .sc (.int .i64 a7), .sc (.int .i64 a8), .sc (.int .i64 a9), .sc (.int .i64 a10), .sc (.int .i64 a11), .sc (.int .i64 a12), .sc (.int .i64 a13), .sc (.int .i64 a14), .sc (.int .i64 a15)], .sc (.int .i64 v)] [] 0 finV = tr58_16 a0 a1 a2 a3 a4 a5 a6 a7 a8 a9 a10 a11 a12 a13 a14 a15 v := by kernel_rfl
theorem told58_16 (a0 a1 a2 a3 a4 a5 a6 a7 a8 a9 a10 a11 a12 a13 a14 a15 v : Int) : Told encI64 (tr58_16 a0 a1 a2 a3 a4 a5 a6 a7 a8 a9 a10 a11 a12 a13 a14 a15 v) (some (placeI [a0, a1, a2, a3, a4, a5, a6, a7, a8, a9, a10, a11, a12, a13, a14, a15] v 0)) := by
  unfold tr58_16
  unfold placeI
  cases (a0 == v)
  case true => exact told_leaf _
  simp only [cond_false]
  unfold placeI
  cases (a1 == v)
  case true => exact told_leaf _
  simp only [cond_false]
  unfold placeI
  cases (a2 == v)
  case true => exact told_leaf _
  simp only [cond_false]
  unfold placeI
  cases (a3 == v)
  case true => exact told_leaf _
  simp only [cond_false]
  unfold placeI
  cases (a4 == v)
  case true => exact told_leaf _
  simp only [cond_false]
  unfold placeI
  cases (a5 == v)
  case true => exact told_leaf _
  simp only [cond_false]
  unfold placeI
  cases (a6 == v)
  case true => exact told_leaf _
  simp only [cond_false]
  unfold placeI
  cases (a7 == v)
  case true => exact told_leaf _
  simp only [cond_false]
  unfold placeI
  cases (a8 == v)
  case true => exact told_leaf _
  simp only [cond_false]
  unfold placeI
  cases (a9 == v)
  case true => exact told_leaf _
  simp only [cond_false]
  unfold placeI
  cases (a10 == v)
  case true => exact told_leaf _
  simp only [cond_false]
  unfold placeI
  cases (a11 == v)
  case true => exact told_leaf _
  simp only [cond_false]
  unfold placeI
  cases (a12 == v)
  case true => exact told_leaf _
  simp only [cond_false]
  unfold placeI
  cases (a13 == v)
  case true => exact told_leaf _
  simp only [cond_false]
  unfold placeI
  cases (a14 == v)
  case true => exact told_leaf _
  simp only [cond_false]
  unfold placeI
  cases (a15 == v)
  case true => exact told_leaf _
  simp only [cond_false]
  unfold placeI
  exact told_leaf _

noncomputable def k58 (l : List V) : Option (Bool × V) := match l with
  | [.sl _ 1 [.sc (.int .i64 a0), .sc (.int .i64 a1), .sc (.int .i64 a2), .sc (.int .i64 a3)], .sc (.int .i64 v)] => some (true, encI64 (placeI [a0, a1, a2, a3] v 0))
  | [.sl _ 1 [.sc (.int .i64 a0), .sc (.int .i64 a1), .sc (.int .i64 a2), .sc (.int .i64 a3), .sc (.int .i64 a4), .sc (.int .i64 a5)], .sc (.int .i64 v)] => some (true, encI64 (placeI [a0, a1, a2, a3, a4, a5] v 0))
  | [.sl _ 1 [.sc (.int .i64 a0), .sc (.int .i64 a1), .sc (.int .i64 a2), .sc (.int .i64 a3), .sc (.int .i64 a4), .sc (.int .i64 a5), .sc (.int .i64 a6), .sc (.int .i64 a7), .sc (.int .i64 a8), .sc (.int .i64 a9), .sc (.int .i64 a10), .sc (.int .i64 a11), .sc (.int .i64 a12), .sc (.int .i64 a13), .sc (.int .i64 a14), .sc (.int .i64 a15)], .sc (.int .i64 v)] => some (true, encI64 (placeI [a0, a1, a2, a3, a4, a5, a6, a7, a8, a9, a10, a11, a12, a13, a14, a15] v 0))
  | _ => none
noncomputable def kn58 : Known := kn7.add 58 k58
theorem kn58_ok : KnownOK ctx kn58 168 := Known.add_ok kn7_ok rfl (by omega) (by
  intro l r h
  unfold k58 at h
  split at h
  · simp only [Option.some.injEq, Prod.mk.injEq] at h
    obtain ⟨_, rfl⟩ := h
    exact ⟨(Told.spec kn7_ok (noLoops_ok _) (run58_4 _ _ _ _ _ _) (told58_4 _ _ _ _ _) rfl).mono (by omega), rfl, rfl⟩
  · simp only [Option.some.injEq, Prod.mk.injEq] at h
    obtain ⟨_, rfl⟩ := h
    exact ⟨(Told.spec kn7_ok (noLoops_ok _) (run58_6 _ _ _ _ _ _ _ _) (told58_6 _ _ _ _ _ _ _) rfl).mono (by omega), rfl, rfl⟩
  · simp only [Option.some.injEq, Prod.mk.injEq] at h
    obtain ⟨_, rfl⟩ := h
    exact ⟨(Told.spec kn7_ok (noLoops_ok _) (run58_16 _ _ _ _ _ _ _ _ _ _ _ _ _ _ _ _ _ _) (told58_16 _ _ _ _ _ _ _ _ _ _ _ _ _ _ _ _ _) rfl).mono (by omega), rfl, rfl⟩
  · cases h)

/-- where a number stands in a list -/
noncomputable def placeR : List Int → Int → Int → Int
  | [], _, _ => 0
  | x :: l, v, i => cond (x == v) i (placeR l v (i + 1))

noncomputable def tr66_3 (a0 a1 a2 v : Int) : R := (cond (a0 == v) (some (.sc (.int .i64 0), [])) (cond (a1 == v) (some (.sc (.int .i64 1), [])) (cond (a2 == v) (some (.sc (.int .i64 2), [])) (some (.sc (.int .i64 (0)), [])))))
theorem run66_3 (o : Bool) (a0 a1 a2 v : Int) : funK ctx kn58 noLoops 3 66 [.sc (.int .i64 v), .sl o 1 [.sc (.int .i64 a0), .sc (.int .i64 a1), .sc (.int .i64 a2)]] [] 0 finV = tr66_3 a0 a1 a2 v := by kernel_rfl
theorem told66_3 (a0 a1 a2 v : Int) : Told encI64 (tr66_3 a0 a1 a2 v) (some (placeR [a0, a1, a2] v 0)) := by
  unfold tr66_3
  unfold placeR
  cases (a0 == v)
  case true => exact told_leaf _
  simp only [cond_false]
  unfold placeR
  cases (a1 == v)
  case true => exact told_leaf _
  simp only [cond_false]
  unfold placeR
  cases (a2 == v)
  case true => exact told_leaf _
  simp only [cond_false]
  unfold placeR
  exact told_leaf _
noncomputable def tr66_4 (a0 a1 a2 a3 v : Int) : R := (cond (a0 == v) (some (.sc (.int .i64 0), [])) (cond (a1 == v) (some (.sc (.int .i64 1), [])) (cond (a2 == v) (some (.sc (.int .i64 2), [])) (cond (a3 == v) (some (.sc (.int .i64 3), [])) (some (.sc (.int .i64 (0)), []))))))
theorem run66_4 (o : Bool) (a0 a1 a2 a3 v : Int) : funK ctx kn58 noLoops 3 66 [.sc (.int .i64 v), .sl o 1 [.sc (.int .i64 a0), .sc (.int .i64 a1), .sc (.int .i64 a2), .sc (.int .i64 a3)]] [] 0 finV = tr66_4 a0 a1 a2 a3 v := by kernel_rfl
theorem told66_4 (a0 a1 a2 a3 v : Int) : Told encI64 (tr66_4 a0 a1 a2 a3 v) (some (placeR [a0, a1, a2, a3] v 0)) := by
  unfold tr66_4
  unfold placeR
  cases (a0 == v)
  case true => exact told_leaf _
  simp only [cond_false]
  unfold placeR
  cases (a1 == v)
  case true => exact told_leaf _
  simp only [cond_false]
  unfold placeR
  cases (a2 == v)
  case true => exact told_leaf _
  simp only [cond_false]
  unfold placeR
  cases (a3 == v)
  case true => exact told_leaf _
  simp only [cond_false]
  unfold placeR
  exact told_leaf _
noncomputable def tr66_8 (a0 a1 a2 a3 a4 a5 a6 a7 v : Int) : R := (cond (a0 == v) (some (.sc (.int .i64 0), [])) (cond (a1 == v) (some (.sc (.int .i64 1), [])) (cond (a2 == v) (some (.sc (.int .i64 2), [])) (cond (a3 == v) (some (.sc (.int .i64 3), [])) (cond (a4 == v) (some (.sc (.int .i64 4), [])) (cond (a5 == v) (some (.sc (.int .i64 5), [])) (cond (a6 == v) (some (.sc (.int .i64 6), [])) (cond (a7 == v) (some (.sc (.int .i64 7), [])) (some (.sc (.int .i64 (0)), []))))))))))
theorem run66_8 (o : Bool) (a0 a1 a2 a3 a4 a5 a6 a7 v : Int) : funK ctx kn58 noLoops 3 66 [.sc (.int .i64 v), .sl o 1 [.sc (.int .i64 a0), .sc (.int .i64 a1), .sc (.int .i64 a2), .sc (.int .i64 a3), .sc (.int .i64 a4), .sc (.int .i64 a5), .sc (.int .i64 a6), .sc (.int .i64 a7)]] [] 0 finV = tr66_8 a0 a1 a2 a3 a4 a5 a6 a7 v := by kernel_rfl
theorem told66_8 (a0 a1 a2 a3 a4 a5 a6 a7 v : Int) : Told encI64 (tr66_8 a0 a1 a2 a3 a4 a5 a6 a7 v) (some (placeR [a0, a1, a2, a3, a4, a5, a6, a7] v 0)) := by
  unfold tr66_8
  unfold placeR
  cases (a0 == v)
  case true => exact told_leaf _
  simp only [cond_false]
  unfold placeR
  cases (a1 == v)
  case true => exact told_leaf _
  simp only [cond_false]
  unfold placeR
  cases (a2 == v)
  case true => exact told_leaf _
  simp only [cond_false]
  unfold placeR
  cases (a3 == v)
  case true => exact told_leaf _
  simp only [cond_false]
  unfold placeR
  cases (a4 == v)
  case true => exact told_leaf _
  simp only [cond_false]
  unfold placeR
  cases (a5 == v)
  case true => exact told_leaf _
  simp only [cond_false]
  unfold placeR
  cases (a6 == v)
  case true => exact told_leaf _
  simp only [cond_false]
  unfold placeR
  cases (a7 == v)
  case true => exact told_leaf _
  simp only [cond_false]
  unfold placeR
  exact told_leaf _
noncomputable def tr66_9 (a0 a1 a2 a3 a4 a5 a6 a7 a8 v : Int) : R := (cond (a0 == v) (some (.sc (.int .i64 0), [])) (cond (a1 == v) (some (.sc (.int .i64 1), [])) (cond (a2 == v) (some (.sc (.int .i64 2), [])) (cond (a3 == v) (some (.sc (.int .i64 3), [])) (cond (a4 == v) (some (.sc (.int .i64 4), [])) (cond (a5 == v) (some (.sc (.int .i64 5), [])) (cond (a6 == v) (some (.sc (.int .i64 6), [])) (cond (a7 == v) (some (.sc (.int .i64 7), [])) (cond (a8 == v) (some (.sc (.int .i64 8), [])) (some (.sc (.int .i64 (0)), [])))))))))))
theorem run66_9 (o : Bool) (a0 a1 a2 a3 a4 a5 a6 a7 a8 v : Int) : funK ctx kn58 noLoops 3 66 [.sc (.int .i64 v), .sl o 1 [.sc (.int .i64 a0), .sc (.int .i64 a1), .sc (.int .i64 a2), .sc (.int .i64 a3), .sc (.int .i64 a4), .sc (.int .i64 a5), .sc (.int .i64 a6), .sc (.int .i64 a7), .sc (.int .i64 a8)]] [] 0 finV = tr66_9 a0 a1 a2 a3 a4 a5 a6 a7 a8 v := by kernel_rfl
theorem told66_9 (a0 a1 a2 a3 a4 a5 a6 a7 a8 v : Int) : Told encI64 (tr66_9 a0 a1 a2 a3 a4 a5 a6 a7 a8 v) (some (placeR [a0, a1, a2, a3, a4, a5, a6, a7, a8] v 0)) := by
  unfold tr66_9
  unfold placeR
  cases (a0 == v)
  case true => exact told_leaf _
  simp only [cond_false]
  unfold placeR
  cases (a1 == v)
  case true => exact told_leaf _
  simp only [cond_false]
  unfold placeR
  cases (a2 == v)
  case true => exact told_leaf _
  simp only [cond_false]
  unfold placeR
  cases (a3 == v)
  case true => exact told_leaf _
  simp only [cond_false]
  unfold placeR
  cases (a4 == v)
  case true => exact told_leaf _
  simp only [cond_false]
  unfold placeR
  cases (a5 == v)
  case true => exact told_leaf _
  simp only [cond_false]
  unfold placeR
  cases (a6 == v)
  case true => exact told_leaf _
  simp only [cond_false]
  unfold placeR
  cases (a7 == v)
  case true => exact told_leaf _
  simp only [cond_false]
  unfold placeR
  cases (a8 == v)
  case true => exact told_leaf _
  simp only [cond_false]
  unfold placeR
  exact told_leaf _
noncomputable def tr66_15 (a0 a1 a2 a3 a4 a5 a6 a7 a8 a9 a10 a11 a12 a13 a14 v : Int) : R := (cond (a0 == v) (some (.sc (.int .i64 0), [])) (cond (a1 == v) (some (.sc (.int .i64 1), [])) (cond (a2 == v) (some (.sc (.int .i64 2), [])) (cond (a3 == v) (some (.sc (.int .i64 3), [])) (cond (a4 == v) (some (.sc (.int .i64 4), [])) (cond (a5 == v) (some (.sc (.int .i64 5), [])) (cond (a6 == v) (some (.sc (.int .i64 6), [])) (cond (a7 == v) (some (.sc (.int .i64 7), [])) (cond (a8 == v) (some (.sc (.int .i64 8), [])) (cond (a9 == v) (some (.sc (.int .i64 9), [])) (cond (a10 == v) (some (.sc (.int .i64 10), [])) (cond (a11 == v) (some (.sc (.int .i64 11), [])) (cond (a12 == v) (some (.sc (.int .i64 12), [])) (cond (a13 == v) (some (.sc (.int .i64 13), [])) (cond (a14 == v) (some (.sc (.int .i64 14), [])) (some (.sc (.int .i64 (0)), [])))))))))))))))))
theorem run66_15 (o : Bool) (a0 a1 a2 a3 a4 a5 a6 a7 a8 a9 a10 a11 a12 a13 a14 v : Int) : funK ctx kn58 noLoops 3 66 [.sc (.int .i64 v), .sl o 1 [.sc (.int .i64 a0), .sc (.int .i64 a1), .sc (.int .i64 a2), .sc (.int .i64 a3), .sc (.int .i64 a4), .sc (.int .i64 a5), .sc (.int .i64 a6), .sc (.int .i64 a7), .sc (.int .i64 a8), .sc (.int .i64 a9), .sc (.int .i64 a10), .sc (.int .i64 a11), .sc (.int .i64 a12), .sc (.int .i64 a13), .sc (.int .i64 a14)]] [] 0 finV = tr66_15 a0 a1 a2 a3 a4 a5 a6 a7 a8 a9 a10 a11 a12 a13 a14 v := by kernel_rfl
theorem told66_15 (a0 a1 a2 a3 a4 a5 a6 a7 a8 a9 a10 a11 a12 a13 a14 v : Int) : Told encI64 (tr66_15 a0 a1 a2 a3 a4 a5 a6 a7 a8 a9 a10 a11 a12 a13 a14 v) (some (placeR [a0, a1, a2, a3, a4, a5, a6, a7, a8, a9, a10, a11, a12, a13, a14] v 0)) := by
  unfold tr66_15
  unfold placeR
  cases (a0 == v)
  case true => exact told_leaf _
  simp only [cond_false]
  unfold placeR
  cases (a1 == v)
  case true => exact told_leaf _
  simp only [cond_false]
  unfold placeR
  cases (a2 == v)
  case true => exact told_leaf _
  simp only [cond_false]
  unfold placeR
  cases (a3 == v)
  case true => exact told_leaf _
  simp only [cond_false]
  unfold placeR
  cases (a4 == v)
  case true => exact told_leaf _
  simp only [cond_false]
  unfold placeR
  cases (a5 == v)
  case true => exact told_leaf _
  simp only [cond_false]
  unfold placeR
  cases (a6 == v)
  case true => exact told_leaf _
  simp only [cond_false]
  unfold placeR
  cases (a7 == v)
  case true => exact told_leaf _
  simp only [cond_false]
  unfold placeR
  cases (a8 == v)
  case true => exact told_leaf _
  simp only [cond_false]
  unfold placeR
  cases (a9 == v)
  case true => exact told_leaf _
  simp only [cond_false]
  unfold placeR
  cases (a10 == v)
  case true => exact told_leaf _
  simp only [cond_false]
  unfold placeR
  cases (a11 == v)
  case true => exact told_leaf _
  simp only [cond_false]
  unfold placeR
  cases (a12 == v)
  case true => exact told_leaf _
  simp only [cond_false]
  unfold placeR
  cases (a13 == v)
  case true => exact told_leaf _
  simp only [cond_false]
  unfold placeR
  cases (a14 == v)
  case true => exact told_leaf _
  simp only [cond_false]
  unfold placeR
  exact told_leaf _

noncomputable def k66 (l : List V) : Option (Bool × V) := match l with
  | [.sc (.int .i64 v), .sl _ 1 [.sc (.int .i64 a0), .sc (.int .i64 a1), .sc (.int .i64 a2)]] => some (true, encI64 (placeR [a0, a1, a2] v 0))
  | [.sc (.int .i64 v), .sl _ 1 [.sc (.int .i64 a0), .sc (.int .i64 a1), .sc (.int .i64 a2), .sc (.int .i64 a3)]] => some (true, encI64 (placeR [a0, a1, a2, a3] v 0))
  | [.sc (.int .i64 v), .sl _ 1 [.sc (.int .i64 a0), .sc (.int .i64 a1), .sc (.int .i64 a2), .sc (.int .i64 a3), .sc (.int .i64 a4), .sc (.int .i64 a5), .sc (.int .i64 a6), .sc (.int .i64 a7)]] => some (true, encI64 (placeR [a0, a1, a2, a3, a4, a5, a6, a7] v 0))
  | [.sc (.int .i64 v), .sl _ 1 [.sc (.int .i64 a0), .sc (.int .i64 a1), .sc (.int .i64 a2), .sc (.int .i64 a3), .sc (.int .i64 a4), .sc (.int .i64 a5), .sc (.int .i64 a6), .sc (.int .i64 a7), .sc (.int .i64 a8)]] => some (true, encI64 (placeR [a0, a1, a2, a3, a4, a5, a6, a7, a8] v 0))
  | [.sc (.int .i64 v), .sl _ 1 [.sc (.int .i64 a0), .sc (.int .i64 a1), .sc (.int .i64 a2), .sc (.int .i64 a3), .sc (.int .i64 a4), .sc (.int .i64 a5), .sc (.int .i64 a6), .sc (.int .i64 a7), .sc (.int .i64 a8), .sc (.int .i64 a9), .sc (.int .i64 a10), .sc (.int .i64 a11), .sc (.int .i64 a12), .sc (.int .i64 a13), .sc (.int .i64 a14)]] => some (true, encI64 (placeR [a0, a1, a2, a3, a4, a5, a6, a7, a8, a9, a10, a11, a12, a13, a14] v 0))
  | _ => none
noncomputable def kn66 : Known := kn58.add 66 k66
theorem kn66_ok : KnownOK ctx kn66 171 := Known.add_ok kn58_ok rfl (by omega) (by
  intro l r h
  unfold k66 at h
  split at h
  · simp only [Option.some.injEq, Prod.mk.injEq] at h
    obtain ⟨_, rfl⟩ := h
    exact ⟨(Told.spec kn58_ok (noLoops_ok _) (run66_3 _ _ _ _ _) (told66_3 _ _ _ _) rfl).mono (by omega), rfl, rfl⟩
  · simp only [Option.some.injEq, Prod.mk.injEq] at h
    obtain ⟨_, rfl⟩ := h
    exact ⟨(Told.spec kn58_ok (noLoops_ok _) (run66_4 _ _ _ _ _ _) (told66_4 _ _ _ _ _) rfl).mono (by omega), rfl, rfl⟩
  · simp only [Option.some.injEq, Prod.mk.injEq] at h
    obtain ⟨_, rfl⟩ := h
    exact ⟨(Told.spec kn58_ok (noLoops_ok _) (run66_8 _ _ _ _ _ _ _ _ _ _) (told66_8 _ _ _ _ _ _ _ _ _) rfl).mono (by omega), rfl, rfl⟩
  · simp only [Option.some.injEq, Prod.mk.injEq] at h
    obtain ⟨_, rfl⟩ := h
    exact ⟨(Told.spec kn58_ok (noLoops_ok _) (run66_9 _ _ _ _ _ _ _ _ _ _ _) (told66_9 _ _ _ _ _ _ _ _ _ _) rfl).mono (by omega), rfl, rfl⟩
  · simp only [Option.some.injEq, Prod.mk.injEq] at h
    obtain ⟨_, rfl⟩ := h
    exact ⟨(Told.spec kn58_ok (noLoops_ok _) (run66_15 _ _ _ _ _ _ _ _ _ _ _ _ _ _ _ _ _) (told66_15 _ _ _ _ _ _ _ _ _ _ _ _ _ _ _ _) rfl).mono (by omega), rfl, rfl⟩
  · cases h)

end Go.Den
end
