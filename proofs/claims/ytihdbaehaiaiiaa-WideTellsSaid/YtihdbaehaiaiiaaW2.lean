import Derived.Test.YtihdbaehaiaiiaaW1
set_option linter.unusedVariables false
set_option maxRecDepth 100000
namespace Go.Den

/-- how large what 'bitsOf' tells is -/
theorem g37_fact (h a n m : Int) (hc : (0 ≤ a ∧ 0 ≤ n) ∧ wrapF .u32 (shlF .u32 1 n - 1) = m ∧ 0 ≤ m ∧ m < 2147483648) : 0 ≤ g37 h a n ∧ g37 h a n ≤ m := by
  obtain ⟨⟨h1, h2⟩, h3, h4, h5⟩ := hc
  have e : g37 h a n = wrapF .i64 (bitsF .and .u32 (shrF .u32 h a) m) := by
    unfold g37 o37
    rw [decide_eq_false (by omega), decide_eq_false (by omega), h3]
    rfl
  have f := and_fact .u32 (shrF .u32 h a) m h4 h5
  rw [e, wrapF_id f.1 (by simp only [halfK]; omega)]
  exact f

/-- bits are a field -/
theorem g37_fm (x a n m : Int) (hx : 0 ≤ x ∧ x ≤ 4294967295) (hc : (0 ≤ a ∧ 0 ≤ n) ∧ wrapF .u32 (shlF .u32 1 n - 1) = m ∧ 0 ≤ m ∧ m < 2147483648) : g37 x a n = fm x a m := by
  obtain ⟨⟨h1, h2⟩, h3, h4, h5⟩ := hc
  have e : g37 x a n = wrapF .i64 (bitsF .and .u32 (shrF .u32 x a) m) := by
    unfold g37 o37
    rw [decide_eq_false (by omega), decide_eq_false (by omega), h3]
    rfl
  rw [e, and_fm .u32 x a m hx h1 ⟨h4, by simp only [topN, Int.ofNat_eq_natCast]; omega⟩, wrap_fm .i64 x a m ⟨h4, by simp only [topN, Int.ofNat_eq_natCast]; omega⟩]


/-- is one of some registers 13 or 15? -/
noncomputable def oddB : List Int → Bool
  | [] => false
  | x :: l => cond (x == 13) true (cond (x == 15) true (oddB l))

def encB (b : Bool) : V := .sc (.bool b)
noncomputable def tr44_1 (a : Int) : R := (cond (a == 13) (some (.sc (.bool true), [])) (cond (a == 15) (some (.sc (.bool true), [])) (some (.sc (.bool false), []))))
theorem run44_1 (o : Bool) (a : Int) : funK ctx kn74 noLoops 3 44 [.sl o 1 [.sc (.int .i64 a)]] [] 0 finV = tr44_1 a := by kernel_rfl
theorem told44_1 (a : Int) : Told encB (tr44_1 a) (some (oddB [a])) := by
  unfold tr44_1 oddB
  cases (a == 13)
  case true => exact told_leaf true
  simp only [cond_false]
  cases (a == 15)
  case true => exact told_leaf true
  simp only [cond_false]
  exact told_leaf false
noncomputable def tr44_2 (a b : Int) : R := (cond (a == 13) (some (.sc (.bool true), [])) (cond (a == 15) (some (.sc (.bool true), [])) (cond (b == 13) (some (.sc (.bool true), [])) (cond (b == 15) (some (.sc (.bool true), [])) (some (.sc (.bool false), []))))))
theorem run44_2 (o : Bool) (a b : Int) : funK ctx kn74 noLoops 3 44 [.sl o 1 [.sc (.int .i64 a), .sc (.int .i64 b)]] [] 0 finV = tr44_2 a b := by kernel_rfl
theorem told44_2 (a b : Int) : Told encB (tr44_2 a b) (some (oddB [a, b])) := by
  unfold tr44_2 oddB
  cases (a == 13)
  case true => exact told_leaf true
  simp only [cond_false]
  cases (a == 15)
  case true => exact told_leaf true
  simp only [cond_false]
  unfold oddB
  cases (b == 13)
  case true => exact told_leaf true
  simp only [cond_false]
  cases (b == 15)
  case true => exact told_leaf true
  simp only [cond_false]
  exact told_leaf false
noncomputable def tr44_3 (a b c : Int) : R := (cond (a == 13) (some (.sc (.bool true), [])) (cond (a == 15) (some (.sc (.bool true), [])) (cond (b == 13) (some (.sc (.bool true), [])) (cond (b == 15) (some (.sc (.bool true), [])) (cond (c == 13) (some (.sc (.bool true), [])) (cond (c == 15) (some (.sc (.bool true), [])) (some (.sc (.bool false), []))))))))
theorem run44_3 (o : Bool) (a b c : Int) : funK ctx kn74 noLoops 3 44 [.sl o 1 [.sc (.int .i64 a), .sc (.int .i64 b), .sc (.int .i64 c)]] [] 0 finV = tr44_3 a b c := by kernel_rfl
theorem told44_3 (a b c : Int) : Told encB (tr44_3 a b c) (some (oddB [a, b, c])) := by
  unfold tr44_3 oddB
  cases (a == 13)
  case true => exact told_leaf true
  simp only [cond_false]
  cases (a == 15)
  case true => exact told_leaf true
  simp only [cond_false]
  unfold oddB
  cases (b == 13)
  case true => exact told_leaf true
  simp only [cond_false]
  cases (b == 15)
  case true => exact told_leaf true
  simp only [cond_false]
  unfold oddB
  cases (c == 13)
  case true => exact told_leaf true
  simp only [cond_false]
  cases (c == 15)
  case true => exact told_leaf true
  simp only [cond_false]
  exact told_leaf false
noncomputable def tr44_4 (a b c d : Int) : R := (cond (a == 13) (some (.sc (.bool true), [])) (cond (a == 15) (some (.sc (.bool true), [])) (cond (b == 13) (some (.sc (.bool true), [])) (cond (b == 15) (some (.sc (.bool true), [])) (cond (c == 13) (some (.sc (.bool true), [])) (cond (c == 15) (some (.sc (.bool true), [])) (cond (d == 13) (some (.sc (.bool true), [])) (cond (d == 15) (some (.sc (.bool true), [])) (some (.sc (.bool false), []))))))))))
theorem run44_4 (o : Bool) (a b c d : Int) : funK ctx kn74 noLoops 3 44 [.sl o 1 [.sc (.int .i64 a), .sc (.int .i64 b), .sc (.int .i64 c), .sc (.int .i64 d)]] [] 0 finV = tr44_4 a b c d := by kernel_rfl
theorem told44_4 (a b c d : Int) : Told encB (tr44_4 a b c d) (some (oddB [a, b, c, d])) := by
  unfold tr44_4 oddB
  cases (a == 13)
  case true => exact told_leaf true
  simp only [cond_false]
  cases (a == 15)
  case true => exact told_leaf true
  simp only [cond_false]
  unfold oddB
  cases (b == 13)
  case true => exact told_leaf true
  simp only [cond_false]
  cases (b == 15)
  case true => exact told_leaf true
  simp only [cond_false]
  unfold oddB
  cases (c == 13)
  case true => exact told_leaf true
  simp only [cond_false]
  cases (c == 15)
  case true => exact told_leaf true
  simp only [cond_false]
  unfold oddB
  cases (d == 13)
  case true => exact told_leaf true
  simp only [cond_false]
  cases (d == 15)
  case true => exact told_leaf true
  simp only [cond_false]
  exact told_leaf false

noncomputable def k44 (l : List V) : Option (Bool × V) := match l with
  | [.sl _ 1 [.sc (.int .i64 a)]] => some (true, encB (oddB [a]))
  | [.sl _ 1 [.sc (.int .i64 a), .sc (.int .i64 b)]] => some (true, encB (oddB [a, b]))
  | [.sl _ 1 [.sc (.int .i64 a), .sc (.int .i64 b), .sc (.int .i64 c)]] => some (true, encB (oddB [a, b, c]))
  | [.sl _ 1 [.sc (.int .i64 a), .sc (.int .i64 b), .sc (.int .i64 c), .sc (.int .i64 d)]] => some (true, encB (oddB [a, b, c, d]))
  | _ => none
noncomputable def kn44 : Known := kn74.add 44 k44
theorem kn44_ok : KnownOK ctx kn44 21 := Known.add_ok kn74_ok rfl (by omega) (by
  intro l r h
  unfold k44 at h
  split at h
  · simp only [Option.some.injEq, Prod.mk.injEq] at h
    obtain ⟨_, rfl⟩ := h
    exact ⟨(Told.spec kn74_ok (noLoops_ok _) (run44_1 _ _) (told44_1 _) rfl).mono (by omega), rfl, rfl⟩
  · simp only [Option.some.injEq, Prod.mk.injEq] at h
    obtain ⟨_, rfl⟩ := h
    exact ⟨(Told.spec kn74_ok (noLoops_ok _) (run44_2 _ _ _) (told44_2 _ _) rfl).mono (by omega), rfl, rfl⟩
  · simp only [Option.some.injEq, Prod.mk.injEq] at h
    obtain ⟨_, rfl⟩ := h
    exact ⟨(Told.spec kn74_ok (noLoops_ok _) (run44_3 _ _ _ _) (told44_3 _ _ _) rfl).mono (by omega), rfl, rfl⟩
  · simp only [Option.some.injEq, Prod.mk.injEq] at h
    obtain ⟨_, rfl⟩ := h
    exact ⟨(Told.spec kn74_ok (noLoops_ok _) (run44_4 _ _ _ _ _) (told44_4 _ _ _ _) rfl).mono (by omega), rfl, rfl⟩
  · cases h)

end Go.Den
