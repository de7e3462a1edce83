import Derived.Test.YtihdbaehaiaiiaaF6
set_option linter.unusedVariables false
set_option linter.unusedSimpArgs false
set_option maxRecDepth 100000
namespace Go.Den

theorem or_comm_nat (k : IntKind) (a b : Nat) (ha : a ≤ topN k) (hb : b ≤ topN k) : bitsF .or k (a : Int) (b : Int) = bitsF .or k (b : Int) (a : Int) := by
  have h1 := bitsF_or_nat k a b ha hb
  have h2 := bitsF_or_nat k b a hb ha
  rw [show ((a : Int)) = Int.ofNat a from rfl, show ((b : Int)) = Int.ofNat b from rfl, h1, h2]
  exact congrArg Int.ofNat (Nat.or_comm a b)

theorem fm0_id (v m : Int) (j : Nat) (hm : m = ((2 ^ j - 1 : Nat) : Int)) (h : 0 ≤ v) (h1 : v < ((2 ^ j : Nat) : Int)) : fm v 0 m = v := by
  obtain ⟨n, rfl⟩ := Int.eq_ofNat_of_zero_le h
  subst hm
  have := fm_div n 0 j
  rw [show ((0 : Nat) : Int) = 0 from rfl] at this
  rw [this, Nat.pow_zero, Nat.div_one, Nat.mod_eq_of_lt (by omega)]

/-- the lowest 21 bits, with their sign -/
def sg21 (v : Int) : Int := if v < 1048576 then v else v + 4292870144

theorem o87_21 {v : Int} (h : 0 ≤ v ∧ v < 2097152) : o87 v 21 = some v := by
  have e : wrapF .u64 (shlF .u64 1 21 - 1) = 2097151 := by decide +kernel
  have e1 : wrapF .u64 v = v := wrapF_le h.1 (by simp only [topN, Int.ofNat_eq_natCast]; omega)
  have e2 : bitsF .and .u64 v 2097151 = v := by
    rw [and0_fm .u64 v 2097151 ⟨h.1, by simp only [topN, Int.ofNat_eq_natCast]; omega⟩ (by decide)]
    exact fm0_id v _ 21 (by decide) h.1 (by omega)
  have e3 : wrapF .u32 v = v := wrapF_le h.1 (by simp only [topN, Int.ofNat_eq_natCast]; omega)
  unfold o87
  show cond (decide ((21 : Int) < 0)) none (some (wrapF .u32 (bitsF .and .u64 (wrapF .u64 v) (wrapF .u64 (shlF .u64 1 21 - 1))))) = some v
  rw [e, e1, e2, e3]
  rfl

theorem g88_21 {v : Int} (h : 0 ≤ v ∧ v < 2097152) : o88 v 20 = some (decide (1048576 ≤ v)) := by
  unfold o88
  show cond (decide ((20 : Int) < 0)) none (some (bitsF .and .u32 (shrF .u32 v 20) 1 == 1)) = _
  rw [and_fm .u32 v 20 1 ⟨h.1, by simp only [topN, Int.ofNat_eq_natCast]; omega⟩ (by decide) (by decide)]
  obtain ⟨m, rfl⟩ := Int.eq_ofNat_of_zero_le h.1
  rw [show fm (m : Int) 20 1 = ((m / 2 ^ 20 % 2 ^ 1 : Nat) : Int) from fm_div m 20 1]
  show some _ = _
  congr 1
  have hm : m < 2097152 := by omega
  by_cases hb : 1048576 ≤ m
  · rw [show m / 2 ^ 20 % 2 ^ 1 = 1 by omega, decide_eq_true (by omega)]
    rfl
  · rw [show m / 2 ^ 20 % 2 ^ 1 = 0 by omega, decide_eq_false (by omega)]
    rfl

theorem sign_ref21 {v : Int} (h : 0 ≤ v ∧ v < 2097152) : o82 v 21 = some (sg21 v) := by
  have g : g87 v 21 = v := by unfold g87; rw [o87_21 h]; rfl
  have g8 : g88 v 20 = decide (1048576 ≤ v) := by unfold g88; rw [g88_21 h]; rfl
  have e1 : wrapF .u64 v = v := wrapF_le h.1 (by simp only [topN, Int.ofNat_eq_natCast]; omega)
  have e : bitsF .xor .u64 18446744073709551615 (wrapF .u64 (shlF .u64 1 21 - 1)) = 18446744073707454464 := by decide +kernel
  unfold o82
  show cond ((o87 v 21).isSome) (cond ((o88 (g87 v 21) 20).isSome) (cond (g88 (g87 v 21) 20) (cond (decide ((21 : Int) < 0)) none (some (wrapF .u32 (bitsF .and .u64 (bitsF .or .u64 (wrapF .u64 (g87 v 21)) (bitsF .xor .u64 18446744073709551615 (wrapF .u64 (shlF .u64 1 21 - 1)))) 4294967295)))) (some (g87 v 21))) none) none = _
  rw [g, o87_21 h, g88_21 h, g8, e, e1]
  unfold sg21
  by_cases hb : 1048576 ≤ v
  · rw [decide_eq_true hb, if_neg (by omega)]
    obtain ⟨m, rfl⟩ := Int.eq_ofNat_of_zero_le h.1
    have o1 : bitsF .or .u64 (m : Int) 18446744073707454464 = 18446744073707454464 + (m : Int) := by
      rw [show (18446744073707454464 : Int) = ((18446744073707454464 : Nat) : Int) from rfl, or_comm_nat .u64 m 18446744073707454464 (by simp only [topN]; omega) (by decide)]
      exact or_add .u64 ((18446744073707454464 : Nat) : Int) m 2097152 21 (by decide) (by omega) (by decide) (by omega) (by simp only [topN, Int.ofNat_eq_natCast]; omega)
    rw [o1]
    have o2 : bitsF .and .u64 (18446744073707454464 + (m : Int)) 4294967295 = (m : Int) + 4292870144 := by
      rw [and0_fm .u64 _ 4294967295 ⟨by omega, by simp only [topN, Int.ofNat_eq_natCast]; omega⟩ (by decide)]
      have := fm_div (18446744073707454464 + m) 0 32
      rw [show (18446744073707454464 + (m : Int)) = ((18446744073707454464 + m : Nat) : Int) by omega]
      refine Eq.trans this ?_
      have hm : m < 2097152 := by omega
      omega
    rw [o2]
    show some (wrapF .u32 ((m : Int) + 4292870144)) = _
    rw [wrapF_le (by omega) (by simp only [topN, Int.ofNat_eq_natCast]; omega)]
  · rw [decide_eq_false hb, if_pos (by omega)]
    rfl

theorem sign_prog21 {v : Int} (h : 0 ≤ v ∧ v < 2097152) : g39 v 21 = sg21 v := by
  have e1 : shlF .u32 v 11 = v * 2048 := shl_mul' .u32 v 11 2048 h.1 (by decide) (by decide) (by simp only [topN, Int.ofNat_eq_natCast]; omega)
  have e0 : o39 v 21 = some (wrapF .u32 (shrF .i32 (wrapF .i32 (shlF .u32 v 11)) 11)) := rfl
  unfold g39
  rw [e0, e1]
  show wrapF .u32 (shrF .i32 (wrapF .i32 (v * 2048)) 11) = _
  have hs : ∀ x : Int, shrF .i32 x 11 = x / 2048 := fun x => by
    rw [shrF_S]
    show x.fdiv ((2048 : Nat) : Int) = _
    rw [Int.fdiv_eq_ediv_of_nonneg _ (by decide)]
    rfl
  rw [hs]
  unfold sg21
  have w := wrap_fact .u32 (v - 2097152) 0 4294967295 (by decide)
  by_cases hb : v < 1048576
  · rw [if_pos hb, (wrap_fact .i32 (v * 2048) (-2147483648) 2147483647 (by decide)).2 (by omega) (by omega)]
    rw [show v * 2048 / 2048 = v by omega, wrapF_le h.1 (by simp only [topN, Int.ofNat_eq_natCast]; omega)]
  · rw [if_neg hb]
    have e2 : wrapF .i32 (v * 2048) = v * 2048 - 4294967296 := by
      rw [wrapF_eq]
      unfold IntKind.wrap
      simp only [IntKind.signed, IntKind.bits, Bool.true_and]
      split
      · omega
      · rename_i hs
        have hs := of_decide_eq_false (Bool.eq_false_iff.2 hs)
        omega
    rw [e2, show (v * 2048 - 4294967296) / 2048 = v - 2097152 by omega]
    rw [wrapF_eq]
    unfold IntKind.wrap
    simp only [IntKind.signed, IntKind.bits, Bool.false_and, Bool.false_eq_true, if_false]
    omega

/-- the lowest 25 bits, with their sign -/
def sg25 (v : Int) : Int := if v < 16777216 then v else v + 4261412864

theorem o87_25 {v : Int} (h : 0 ≤ v ∧ v < 33554432) : o87 v 25 = some v := by
  have e : wrapF .u64 (shlF .u64 1 25 - 1) = 33554431 := by decide +kernel
  have e1 : wrapF .u64 v = v := wrapF_le h.1 (by simp only [topN, Int.ofNat_eq_natCast]; omega)
  have e2 : bitsF .and .u64 v 33554431 = v := by
    rw [and0_fm .u64 v 33554431 ⟨h.1, by simp only [topN, Int.ofNat_eq_natCast]; omega⟩ (by decide)]
    exact fm0_id v _ 25 (by decide) h.1 (by omega)
  have e3 : wrapF .u32 v = v := wrapF_le h.1 (by simp only [topN, Int.ofNat_eq_natCast]; omega)
  unfold o87
  show cond (decide ((25 : Int) < 0)) none (some (wrapF .u32 (bitsF .and .u64 (wrapF .u64 v) (wrapF .u64 (shlF .u64 1 25 - 1))))) = some v
  rw [e, e1, e2, e3]
  rfl

theorem g88_25 {v : Int} (h : 0 ≤ v ∧ v < 33554432) : o88 v 24 = some (decide (16777216 ≤ v)) := by
  unfold o88
  show cond (decide ((24 : Int) < 0)) none (some (bitsF .and .u32 (shrF .u32 v 24) 1 == 1)) = _
  rw [and_fm .u32 v 24 1 ⟨h.1, by simp only [topN, Int.ofNat_eq_natCast]; omega⟩ (by decide) (by decide)]
  obtain ⟨m, rfl⟩ := Int.eq_ofNat_of_zero_le h.1
  rw [show fm (m : Int) 24 1 = ((m / 2 ^ 24 % 2 ^ 1 : Nat) : Int) from fm_div m 24 1]
  show some _ = _
  congr 1
  have hm : m < 33554432 := by omega
  by_cases hb : 16777216 ≤ m
  · rw [show m / 2 ^ 24 % 2 ^ 1 = 1 by omega, decide_eq_true (by omega)]
    rfl
  · rw [show m / 2 ^ 24 % 2 ^ 1 = 0 by omega, decide_eq_false (by omega)]
    rfl

theorem sign_ref25 {v : Int} (h : 0 ≤ v ∧ v < 33554432) : o82 v 25 = some (sg25 v) := by
  have g : g87 v 25 = v := by unfold g87; rw [o87_25 h]; rfl
  have g8 : g88 v 24 = decide (16777216 ≤ v) := by unfold g88; rw [g88_25 h]; rfl
  have e1 : wrapF .u64 v = v := wrapF_le h.1 (by simp only [topN, Int.ofNat_eq_natCast]; omega)
  have e : bitsF .xor .u64 18446744073709551615 (wrapF .u64 (shlF .u64 1 25 - 1)) = 18446744073675997184 := by decide +kernel
  unfold o82
  show cond ((o87 v 25).isSome) (cond ((o88 (g87 v 25) 24).isSome) (cond (g88 (g87 v 25) 24) (cond (decide ((25 : Int) < 0)) none (some (wrapF .u32 (bitsF .and .u64 (bitsF .or .u64 (wrapF .u64 (g87 v 25)) (bitsF .xor .u64 18446744073709551615 (wrapF .u64 (shlF .u64 1 25 - 1)))) 4294967295)))) (some (g87 v 25))) none) none = _
  rw [g, o87_25 h, g88_25 h, g8, e, e1]
  unfold sg25
  by_cases hb : 16777216 ≤ v
  · rw [decide_eq_true hb, if_neg (by omega)]
    obtain ⟨m, rfl⟩ := Int.eq_ofNat_of_zero_le h.1
    have o1 : bitsF .or .u64 (m : Int) 18446744073675997184 = 18446744073675997184 + (m : Int) := by
      rw [show (18446744073675997184 : Int) = ((18446744073675997184 : Nat) : Int) from rfl, or_comm_nat .u64 m 18446744073675997184 (by simp only [topN]; omega) (by decide)]
      exact or_add .u64 ((18446744073675997184 : Nat) : Int) m 33554432 25 (by decide) (by omega) (by decide) (by omega) (by simp only [topN, Int.ofNat_eq_natCast]; omega)
    rw [o1]
    have o2 : bitsF .and .u64 (18446744073675997184 + (m : Int)) 4294967295 = (m : Int) + 4261412864 := by
      rw [and0_fm .u64 _ 4294967295 ⟨by omega, by simp only [topN, Int.ofNat_eq_natCast]; omega⟩ (by decide)]
      have := fm_div (18446744073675997184 + m) 0 32
      rw [show (18446744073675997184 + (m : Int)) = ((18446744073675997184 + m : Nat) : Int) by omega]
      refine Eq.trans this ?_
      have hm : m < 33554432 := by omega
      omega
    rw [o2]
    show some (wrapF .u32 ((m : Int) + 4261412864)) = _
    rw [wrapF_le (by omega) (by simp only [topN, Int.ofNat_eq_natCast]; omega)]
  · rw [decide_eq_false hb, if_pos (by omega)]
    rfl

theorem sign_prog25 {v : Int} (h : 0 ≤ v ∧ v < 33554432) : g39 v 25 = sg25 v := by
  have e1 : shlF .u32 v 7 = v * 128 := shl_mul' .u32 v 7 128 h.1 (by decide) (by decide) (by simp only [topN, Int.ofNat_eq_natCast]; omega)
  have e0 : o39 v 25 = some (wrapF .u32 (shrF .i32 (wrapF .i32 (shlF .u32 v 7)) 7)) := rfl
  unfold g39
  rw [e0, e1]
  show wrapF .u32 (shrF .i32 (wrapF .i32 (v * 128)) 7) = _
  have hs : ∀ x : Int, shrF .i32 x 7 = x / 128 := fun x => by
    rw [shrF_S]
    show x.fdiv ((128 : Nat) : Int) = _
    rw [Int.fdiv_eq_ediv_of_nonneg _ (by decide)]
    rfl
  rw [hs]
  unfold sg25
  have w := wrap_fact .u32 (v - 33554432) 0 4294967295 (by decide)
  by_cases hb : v < 16777216
  · rw [if_pos hb, (wrap_fact .i32 (v * 128) (-2147483648) 2147483647 (by decide)).2 (by omega) (by omega)]
    rw [show v * 128 / 128 = v by omega, wrapF_le h.1 (by simp only [topN, Int.ofNat_eq_natCast]; omega)]
  · rw [if_neg hb]
    have e2 : wrapF .i32 (v * 128) = v * 128 - 4294967296 := by
      rw [wrapF_eq]
      unfold IntKind.wrap
      simp only [IntKind.signed, IntKind.bits, Bool.true_and]
      split
      · omega
      · rename_i hs
        have hs := of_decide_eq_false (Bool.eq_false_iff.2 hs)
        omega
    rw [e2, show (v * 128 - 4294967296) / 128 = v - 33554432 by omega]
    rw [wrapF_eq]
    unfold IntKind.wrap
    simp only [IntKind.signed, IntKind.bits, Bool.false_and, Bool.false_eq_true, if_false]
    omega

end Go.Den
