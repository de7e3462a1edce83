import Derived.Test.YtihdbaehaiaiiaaF5
set_option linter.unusedVariables false
set_option linter.unusedSimpArgs false
set_option maxRecDepth 100000
namespace Go.Den

theorem fm_7_1 {x : Int} (hx : U16 x) : fm x 7 1 = fm x 4 31 / 8 % 2 := by
  obtain ⟨n, rfl⟩ := Int.eq_ofNat_of_zero_le hx.1
  rw [show fm (n : Int) 7 1 = ((n / 2 ^ 7 % 2 ^ 1 : Nat) : Int) from fm_div n 7 1, show fm (n : Int) 4 31 = ((n / 2 ^ 4 % 2 ^ 5 : Nat) : Int) from fm_div n 4 5]
  omega

theorem form8 (n d : Int) : o77 8 d n false = some (S30.mk 5 true false 14 d n 0 0 0 false 0 0 0 false false, true) := by
  unfold o77
  generalize (d == 15) = b1
  generalize (n == 15) = b2
  cases b1 <;> cases b2 <;> rfl

theorem form13 (n d : Int) : o77 13 d n false = some (S30.mk 3 true false 14 d n 0 0 0 false 0 0 0 false false, true) := by
  unfold o77
  generalize (d == 15) = b1
  generalize (n == 15) = b2
  cases b1 <;> cases b2 <;> rfl

theorem p78_any (op : Int) (w s : Bool) (c d n m a im : Int) (u : Bool) (sh am l : Int) (b dn f : Bool) : p78 op w s c d n m a im u sh am l b dn f = p78 op true false 14 d n 0 0 0 false 0 0 0 false false f := rfl

/-- sixteen bits of a number -/
def n16 (n m : Int) : Int := n * 4096 + m

theorem n16_p {n m : Int} (hn : 0 ≤ n ∧ n ≤ 15) (hm : 0 ≤ m ∧ m < 4096) : wrapF .u32 (bitsF .or .i64 (shlF .i64 n 12) m) = n16 n m := by
  rw [shl_mul' .i64 n 12 4096 hn.1 (by decide) (by decide) (by simp only [topN, Int.ofNat_eq_natCast]; omega),
    or_add .i64 _ _ 4096 12 (by decide) (by omega) (by omega) (by omega) (by simp only [topN, Int.ofNat_eq_natCast]; omega), wrapF_le (by omega) (by simp only [topN, Int.ofNat_eq_natCast]; omega)]
  rfl

theorem n16_r {n m : Int} (hn : 0 ≤ n ∧ n ≤ 15) (hm : 0 ≤ m ∧ m < 4096) : bitsF .or .u32 (shlF .u32 n 12) m = n16 n m := by
  rw [shl_mul' .u32 n 12 4096 hn.1 (by decide) (by decide) (by simp only [topN, Int.ofNat_eq_natCast]; omega),
    or_add .u32 _ _ 4096 12 (by decide) (by omega) (by omega) (by omega) (by simp only [topN, Int.ofNat_eq_natCast]; omega)]
  rfl

theorem numbers_eq {h k : Int} (hh : U16 h) (hk : U16 k) (i : Bool) : p18 h k i = wrapR h k i (p49 h k) := by
  have rn := fm_fact h 0 15 (by decide)
  have rd := fm_fact k 8 15 (by decide)
  have r1 := fm_fact h 10 1 (by decide)
  have r2 := fm_fact k 12 7 (by decide)
  have r3 := fm_fact k 0 255 (by decide)
  have r4 := fm_fact k 6 3 (by decide)
  have r5 := fm_fact k 0 31 (by decide)
  have rf := fm_fact h 4 31 (by decide)
  have rm := n12_rng r1 r2 r3
  have ra := am5_rng r2 r4
  have e1 : p40 h k i = n12 (fm h 10 1) (fm k 12 7) (fm k 0 255) := by
    unfold p40
    rw [gf1 hh 10 (by decide), gf3 hk 12 (by decide), gf8 hk 0 (by decide)]
    exact n12_p r1 r2 r3
  have e2 := n12_w r1 r2 r3
  unfold p49 p18 p45
  simp only [af16 hh, af16 hk, a016 hh, a016 hk, wf64, wf32, gf1 hh, gf1 hk, gf2 hk, gf3 hk, gf4 hh, gf4 hk, gf5 hh, gf5 hk, gf8 hk, Int.reduceLE, e1, e2, n12_r r1 r2 r3, p42_c, odd1, n16_p rn rm, n16_r rn rm, am5_p r2 r4, am5_r r2 r4, fm_7_1 hh]
  simp only [am5_w r2 r4 .u32 (by decide), am5_w r2 r4 .i64 (by decide)]
  generalize am5 (fm k 12 7) (fm k 6 3) = a at *
  generalize n12 (fm h 10 1) (fm k 12 7) (fm k 0 255) = m at *
  generalize fm h 4 31 = f at *
  generalize fm h 0 15 = n at *
  generalize fm k 8 15 = d at *
  generalize (fm h 10 1 == 1) = b1
  generalize (fm k 5 1 == 1) = b2
  generalize fm k 0 31 = w at *
  have f1 : wrapF .i64 (w + 1) = w + 1 := wrapF_le (by omega) (by simp only [topN, Int.ofNat_eq_natCast]; omega)
  have f2 : wrapF .u32 (w + 1) = w + 1 := wrapF_le (by omega) (by simp only [topN, Int.ofNat_eq_natCast]; omega)
  have f3 : wrapF .i64 (32 * (w + 1)) = 32 * (w + 1) := wrapF_le (by omega) (by simp only [topN, Int.ofNat_eq_natCast]; omega)
  have f4 : wrapF .u32 (32 * (w + 1)) = 32 * (w + 1) := wrapF_le (by omega) (by simp only [topN, Int.ofNat_eq_natCast]; omega)
  have f5 : wrapF .i64 (a + 32 * (w + 1)) = a + 32 * (w + 1) := wrapF_le (by omega) (by simp only [topN, Int.ofNat_eq_natCast]; omega)
  have f6 : wrapF .u32 (a + 32 * (w + 1)) = a + 32 * (w + 1) := wrapF_le (by omega) (by simp only [topN, Int.ofNat_eq_natCast]; omega)
  have f7 : wrapF .i64 (a + (w + 1)) = a + (w + 1) := wrapF_le (by omega) (by simp only [topN, Int.ofNat_eq_natCast]; omega)
  have f8 : wrapF .i64 (w + 1 - a) = w + 1 - a := (wrap_fact .i64 (w + 1 - a) (-9223372036854775808) 9223372036854775807 (by decide)).2 (by omega) (by omega)
  have f9 : decide (w + 1 < 1) = false := decide_eq_false (by omega)
  simp only [f1, f2, f3, f4, f5, f6, f7, f8, f9, cond_false]
  have odd2 : ∀ x y, oddB [x, y] = cond (p81 x) true (p81 y) := fun x y => by
    unfold oddB oddB oddB p81
    cases (x == 13) <;> cases (x == 15) <;> cases (y == 13) <;> cases (y == 15) <;> rfl
  have c5 : c42 5 n d false true false = cond (p78 5 true false 14 d n 0 0 0 false 0 0 0 false false true) (2, 5, d, n) (1, 0, 0, 0) := by
    have := data_eq (o := 8) (n := n) (d := d) (by decide) ⟨rn.1, by omega⟩ ⟨rd.1, by omega⟩ false true false
    refine Eq.trans this ?_
    show r77 8 n d false true = _
    unfold r77
    rw [form8]
    rfl
  have c3 : c42 3 n d false true false = cond (p78 3 true false 14 d n 0 0 0 false 0 0 0 false false true) (2, 3, d, n) (1, 0, 0, 0) := by
    have := data_eq (o := 13) (n := n) (d := d) (by decide) ⟨rn.1, by omega⟩ ⟨rd.1, by omega⟩ false true false
    refine Eq.trans this ?_
    show r77 13 n d false true = _
    unfold r77
    rw [form13]
    rfl
  simp only [odd2]
  by_cases h0 : f = 0
  · subst h0
    show mkD h k i false 0 2 m true 0 0 (c42 5 n d false true false) = wrapR h k i (cond (!(p78 5 true false 14 d n 0 0 0 false 0 0 0 false false true)) (S30.mk 65 true false 14 0 0 0 0 0 false 0 0 0 false false, true) (S30.mk 5 true false 14 d n 0 2 m true 0 0 0 false false, true))
    rw [c5]
    generalize p78 5 true false 14 d n 0 0 0 false 0 0 0 false false true = q
    cases q <;> rfl
  by_cases h1 : f = 10
  · subst h1
    show mkD h k i false 0 2 m true 0 0 (c42 3 n d false true false) = wrapR h k i (cond (!(p78 3 true false 14 d n 0 0 0 false 0 0 0 false false true)) (S30.mk 65 true false 14 0 0 0 0 0 false 0 0 0 false false, true) (S30.mk 3 true false 14 d n 0 2 m true 0 0 0 false false, true))
    rw [c3]
    generalize p78 3 true false 14 d n 0 0 0 false 0 0 0 false false true = q
    cases q <;> rfl
  by_cases h2 : f = 4
  · subst h2
    show p38 h k i (p81 d) 13 false false 0 d 0 0 2 (n16 n m) true 0 0 0 false false = wrapR h k i (cond (p81 d) (S30.mk 65 true false 14 0 0 0 0 0 false 0 0 0 false false, true) (S30.mk 13 true false 14 d 0 0 2 (n16 n m) true 0 0 0 false false, true))
    cases p81 d <;> rfl
  by_cases h3 : f = 12
  · subst h3
    show p38 h k i (p81 d) 30 false false 0 d 0 0 0 (n16 n m) false 0 0 0 false false = wrapR h k i (cond (p81 d) (S30.mk 65 true false 14 0 0 0 0 0 false 0 0 0 false false, true) (S30.mk 30 true false 14 d 0 0 0 (n16 n m) false 0 0 0 false false, true))
    cases p81 d <;> rfl
  by_cases h4 : f = 20
  · subst h4
    show cond b1 (p24 h k i) (cond b2 (p24 h k i) (cond (cond (p81 d) true (p81 n)) (p38 h k i true 32 false false 0 d n 0 0 (a + 32 * (w + 1)) false 0 0 0 false false) (p38 h k i (decide (a + (w + 1) > 32)) 32 false false 0 d n 0 0 (a + 32 * (w + 1)) false 0 0 0 false false))) =
      wrapR h k i (cond b1 (S30.mk 0 false false 0 0 0 0 0 0 false 0 0 0 false false, false) (cond b2 (S30.mk 0 false false 0 0 0 0 0 0 false 0 0 0 false false, false) (cond (decide (a + (w + 1) > 32)) (S30.mk 65 true false 14 0 0 0 0 0 false 0 0 0 false false, true) (cond (p81 d) (S30.mk 65 true false 14 0 0 0 0 0 false 0 0 0 false false, true) (cond (p81 n) (S30.mk 65 true false 14 0 0 0 0 0 false 0 0 0 false false, true) (S30.mk 32 true false 14 d n 0 0 (a + 32 * (w + 1)) false 0 0 0 false false, true))))))
    cases b1 <;> cases b2 <;> cases decide (a + (w + 1) > 32) <;> cases p81 d <;> cases p81 n <;> rfl
  by_cases h5 : f = 28
  · subst h5
    show cond b1 (p24 h k i) (cond b2 (p24 h k i) (cond (cond (p81 d) true (p81 n)) (p38 h k i true 31 false false 0 d n 0 0 (a + 32 * (w + 1)) false 0 0 0 false false) (p38 h k i (decide (a + (w + 1) > 32)) 31 false false 0 d n 0 0 (a + 32 * (w + 1)) false 0 0 0 false false))) =
      wrapR h k i (cond b1 (S30.mk 0 false false 0 0 0 0 0 0 false 0 0 0 false false, false) (cond b2 (S30.mk 0 false false 0 0 0 0 0 0 false 0 0 0 false false, false) (cond (decide (a + (w + 1) > 32)) (S30.mk 65 true false 14 0 0 0 0 0 false 0 0 0 false false, true) (cond (p81 d) (S30.mk 65 true false 14 0 0 0 0 0 false 0 0 0 false false, true) (cond (p81 n) (S30.mk 65 true false 14 0 0 0 0 0 false 0 0 0 false false, true) (S30.mk 31 true false 14 d n 0 0 (a + 32 * (w + 1)) false 0 0 0 false false, true))))))
    cases b1 <;> cases b2 <;> cases decide (a + (w + 1) > 32) <;> cases p81 d <;> cases p81 n <;> rfl
  by_cases h6 : f = 22
  · subst h6
    show cond b1 (p24 h k i) (cond b2 (p24 h k i) (cond (p81 d) (p38 h k i true 33 false false 0 d n 0 0 (wrapF .u32 (wrapF .i64 (a + wrapF .i64 (32 * (w + 1 - a))))) false 0 0 0 false false) (cond (n == 13) (p38 h k i true 33 false false 0 d n 0 0 (wrapF .u32 (wrapF .i64 (a + wrapF .i64 (32 * (w + 1 - a))))) false 0 0 0 false false) (p38 h k i (decide (w + 1 - a < 1)) 33 false false 0 d n 0 0 (wrapF .u32 (wrapF .i64 (a + wrapF .i64 (32 * (w + 1 - a))))) false 0 0 0 false false)))) =
      wrapR h k i (cond b1 (S30.mk 0 false false 0 0 0 0 0 0 false 0 0 0 false false, false) (cond b2 (S30.mk 0 false false 0 0 0 0 0 0 false 0 0 0 false false, false) (cond (decide (w + 1 - a < 1)) (S30.mk 65 true false 14 0 0 0 0 0 false 0 0 0 false false, true) (cond (decide (wrapF .i64 (a + (w + 1 - a)) > 32)) (S30.mk 65 true false 14 0 0 0 0 0 false 0 0 0 false false, true) (cond (p81 d) (S30.mk 65 true false 14 0 0 0 0 0 false 0 0 0 false false, true) (cond (p81 n) (cond (n == 15) (S30.mk 33 true false 14 d n 0 0 (wrapF .u32 (a + wrapF .u32 (32 * wrapF .u32 (w + 1 - a)))) false 0 0 0 false false, true) (S30.mk 65 true false 14 0 0 0 0 0 false 0 0 0 false false, true)) (S30.mk 33 true false 14 d n 0 0 (wrapF .u32 (a + wrapF .u32 (32 * wrapF .u32 (w + 1 - a)))) false 0 0 0 false false, true)))))))
    by_cases hw : w + 1 - a < 1
    · rw [decide_eq_true hw]
      cases b1 <;> cases b2 <;> cases p81 d <;> cases (n == 13) <;> rfl
    · have g1 : wrapF .i64 (a + (w + 1 - a)) = w + 1 := by
        rw [show a + (w + 1 - a) = w + 1 by omega]
        exact f1
      have g2 : wrapF .i64 (32 * (w + 1 - a)) = 32 * (w + 1 - a) := wrapF_le (by omega) (by simp only [topN, Int.ofNat_eq_natCast]; omega)
      have g3 : wrapF .u32 (w + 1 - a) = w + 1 - a := wrapF_le (by omega) (by simp only [topN, Int.ofNat_eq_natCast]; omega)
      have g4 : wrapF .u32 (32 * (w + 1 - a)) = 32 * (w + 1 - a) := wrapF_le (by omega) (by simp only [topN, Int.ofNat_eq_natCast]; omega)
      have g5 : wrapF .i64 (a + 32 * (w + 1 - a)) = a + 32 * (w + 1 - a) := wrapF_le (by omega) (by simp only [topN, Int.ofNat_eq_natCast]; omega)
      rw [g1, g2, g3, g4, g5, decide_eq_false hw, decide_eq_false (show ¬ (w + 1 > 32) by omega)]
      unfold p81
      by_cases n13 : n = 13
      · subst n13
        cases b1 <;> cases b2 <;> cases (d == 13) <;> cases (d == 15) <;> rfl
      · rw [show (n == 13) = false by simp [n13]]
        cases b1 <;> cases b2 <;> cases (d == 13) <;> cases (d == 15) <;> cases (n == 15) <;> rfl
  · have e : ∀ v : Int, f ≠ v → (f == v) = false := fun v hv => by simp [hv]
    simp only [e _ h0, e _ h1, e _ h2, e _ h3, e _ h4, e _ h5, e _ h6, cond_false]
    cases b1 <;> cases b2 <;> rfl

end Go.Den
