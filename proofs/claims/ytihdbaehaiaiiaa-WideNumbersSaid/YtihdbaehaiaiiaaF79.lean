import Derived.Test.YtihdbaehaiaiiaaF36
set_option linter.unusedSimpArgs false
section
set_option linter.unusedVariables false
set_option maxRecDepth 100000
namespace Go.Den

theorem or_comm_nat (k : IntKind) (a b : Nat) (ha : a ≤ topN k) (hb : b ≤ topN k) : bitsF .or k (a : Int) (b : Int) = bitsF .or k (b : Int) (a : Int) := by
  have h1 := bitsF_or_nat k a b ha hb
  have h2 := bitsF_or_nat k b a hb ha
  rw [show ((a : Int)) = Int.ofNat a from rfl, show ((b : Int)) = Int.ofNat b from rfl, h1, h2]
  exact congrArg Int.ofNat (Nat.or_comm a b)

theorem fm0_id (v m : Int) (j : Nat) (hm : m = ((2 ^ j - 1 : Nat) : Int)) (h : 0 ≤ v) (h1 : v < ((2 ^ j : Nat) : Int)) : fm v 0 m = v := by
  obtain ⟨n, rfl⟩ := Int.eq_ofNat_of_zero_le h
  subst hm
  have := fm_div n 0 j
  rw [show ((0 : Nat) : Int) = 0 from rfl] at this
  rw [this, Nat.pow_zero, Nat.div_one, Nat.mod_eq_of_lt (by omega)]

/-- the lowest 21 bits, with their sign -/
def sg21 (v : Int) : Int := if v < 1048576 then v else v + 4292870144

theorem o87_21 {v : Int} (h : 0 ≤ v ∧ v < 2097152) : o87 v 21 = some v := by
  have e : wrapF .u64 (shlF .u64 1 21 - 1) = 2097151 := by decide +kernel
  have e1 : wrapF .u64 v = v := wrapF_le h.1 (by simp only [topN, Int.ofNat_eq_natCast]; omega)
  have e2 : bitsF .and .u64 v 2097151 = v := by
    rw [and0_fm .u64 v 2097151 ⟨h.1, by simp only [topN, Int.ofNat_eq_natCast]; omega⟩ (by decide)]
    exact fm0_id v _ 21 (by decide) h.1 (by omega)
  have e3 : wrapF .u32 v = v := wrapF_le h.1 (by simp only [topN, Int.ofNat_eq_natCast]; omega)
  unfold o87
  show cond (decide ((21 : Int) < 0)) none (some (wrapF .u32 (bitsF .and .u64 (wrapF .u64 v) (wrapF .u64 (shlF .u64 1 21 - 1))))) = some v
  rw [e, e1, e2, e3]
  rfl

theorem g88_21 {v : Int} (h : 0 ≤ v ∧ v < 2097152) : o88 v 20 = some (decide (1048576 ≤ v)) := by
  unfold o88
  show cond (decide ((20 : Int) < 0)) none (some (bitsF .and .u32 (shrF .u32 v 20) 1 == 1)) = _
  rw [and_fm .u32 v 20 1 ⟨h.1, by simp only [topN, Int.ofNat_eq_natCast]; omega⟩ (by decide) (by decide)]
  obtain ⟨m, rfl⟩ := Int.eq_ofNat_of_zero_le h.1
  rw [show fm (m : Int) 20 1 = ((m / 2 ^ 20 % 2 ^ 1 : Nat) : Int) from fm_div m 20 1]
  show some _ = _
  congr 1
  have hm : m < 2097152 := by omega
  by_cases hb : 1048576 ≤ m
  · rw [show m / 2 ^ 20 % 2 ^ 1 = 1 by omega, decide_eq_true (by omega)]
    rfl
  · rw [show m / 2 ^ 20 % 2 ^ 1 = 0 by omega, decide_eq_false (by omega)]
    rfl

theorem sign_ref21 {v : Int} (h : 0 ≤ v ∧ v < 2097152) : o82 v 21 = some (sg21 v) := by
  have g : g87 v 21 = v := by unfold g87; rw [o87_21 h]; rfl
  have g8 : g88 v 20 = decide (1048576 ≤ v) := by unfold g88; rw [g88_21 h]; rfl
  have e1 : wrapF .u64 v = v := wrapF_le h.1 (by simp only [topN, Int.ofNat_eq_natCast]; omega)
  have e : bitsF .xor .u64 18446744073709551615 (wrapF .u64 (shlF .u64 1 21 - 1)) = 18446744073707454464 := by decide +kernel
  unfold o82
  show cond ((o87 v 21).isSome) (cond ((o88 (g87 v 21) 20).isSome) (cond (g88 (g87 v 21) 20) (cond (decide ((21 : Int) < 0)) none (some (wrapF .u32 (bitsF .and .u64 (bitsF .or .u64 (wrapF .u64 (g87 v 21)) (bitsF .xor .u64 18446744073709551615 (wrapF .u64 (shlF .u64 1 21 - 1)))) 4294967295)))) (some (g87 v 21))) none) none = _
  rw [g, o87_21 h, g88_21 h, g8, e, e1]
  unfold sg21
  by_cases hb : 1048576 ≤ v
  · rw [decide_eq_true hb, if_neg (by omega)]
    obtain ⟨m, rfl⟩ := Int.eq_ofNat_of_zero_le h.1
    have o1 : bitsF .or .u64 (m : Int) 18446744073707454464 = 18446744073707454464 + (m : Int) := by
      rw [show (18446744073707454464 : Int) = ((18446744073707454464 : Nat) : Int) from rfl, or_comm_nat .u64 m 18446744073707454464 (by simp only [topN]; omega) (by decide)]
      exact or_add .u64 ((18446744073707454464 : Nat) : Int) m 2097152 21 (by decide) (by omega) (by decide) (by omega) (by simp only [topN, Int.ofNat_eq_natCast]; omega)
    rw [o1]
    have o2 : bitsF .and .u64 (18446744073707454464 + (m : Int)) 4294967295 = (m : Int) + 4292870144 := by
      rw [and0_fm .u64 _ 4294967295 ⟨by omega, by simp only [topN, Int.ofNat_eq_natCast]; omega⟩ (by decide)]
      have := fm_div (18446744073707454464 + m) 0 32
      rw [show (18446744073707454464 + (m : Int)) = ((18446744073707454464 + m : Nat) : Int) by omega]
      refine Eq.trans this ?_
      have hm : m < 2097152 := by omega
      omega
    rw [o2]
    show some (wrapF .u32 ((m : Int) + 4292870144)) = _
    rw [wrapF_le (by omega) (by simp only [topN, Int.ofNat_eq_natCast]; omega)]
  · rw [decide_eq_false hb, if_pos (by omega)]
    rfl

theorem sign_prog21 {v : Int} (h : 0 ≤ v ∧ v < 2097152) : g39 v 21 = sg21 v := by
  have e1 : shlF .u32 v 11 = v * 2048 := shl_mul' .u32 v 11 2048 h.1 (by decide) (by decide) (by simp only [topN, Int.ofNat_eq_natCast]; omega)
  have e0 : o39 v 21 = some (wrapF .u32 (shrF .i32 (wrapF .i32 (shlF .u32 v 11)) 11)) := rfl
  unfold g39
  rw [e0, e1]
  show wrapF .u32 (shrF .i32 (wrapF .i32 (v * 2048)) 11) = _
  have hs : ∀ x : Int, shrF .i32 x 11 = x / 2048 := fun x => by
    rw [shrF_S]
    show x.fdiv ((2048 : Nat) : Int) = _
    rw [Int.fdiv_eq_ediv_of_nonneg _ (by decide)]
    rfl
  rw [hs]
  unfold sg21
  have w := wrap_fact .u32 (v - 2097152) 0 4294967295 (by decide)
  by_cases hb : v < 1048576
  · rw [if_pos hb, (wrap_fact .i32 (v * 2048) (-2147483648) 2147483647 (by decide)).2 (by omega) (by omega)]
    rw [show v * 2048 / 2048 = v by omega, wrapF_le h.1 (by simp only [topN, Int.ofNat_eq_natCast]; omega)]
  · rw [if_neg hb]
    have e2 : wrapF .i32 (v * 2048) = v * 2048 - 4294967296 := by
      rw [wrapF_eq]
      unfold IntKind.wrap
      simp only [IntKind.signed, IntKind.bits, Bool.true_and]
      split
      · omega
      · rename_i hs
        have hs := of_decide_eq_false (Bool.eq_false_iff.2 hs)
        omega
    rw [e2, show (v * 2048 - 4294967296) / 2048 = v - 2097152 by omega]
    rw [wrapF_eq]
    unfold IntKind.wrap
    simp only [IntKind.signed, IntKind.bits, Bool.false_and, Bool.false_eq_true, if_false]
    omega

/-- the lowest 25 bits, with their sign -/
def sg25 (v : Int) : Int := if v < 16777216 then v else v + 4261412864

theorem o87_25 {v : Int} (h : 0 ≤ v ∧ v < 33554432) : o87 v 25 = some v := by
  have e : wrapF .u64 (shlF .u64 1 25 - 1) = 33554431 := by decide +kernel
  have e1 : wrapF .u64 v = v := wrapF_le h.1 (by simp only [topN, Int.ofNat_eq_natCast]; omega)
  have e2 : bitsF .and .u64 v 33554431 = v := by
    rw [and0_fm .u64 v 33554431 ⟨h.1, by simp only [topN, Int.ofNat_eq_natCast]; omega⟩ (by decide)]
    exact fm0_id v _ 25 (by decide) h.1 (by omega)
  have e3 : wrapF .u32 v = v := wrapF_le h.1 (by simp only [topN, Int.ofNat_eq_natCast]; omega)
  unfold o87
  show cond (decide ((25 : Int) < 0)) none (some (wrapF .u32 (bitsF .and .u64 (wrapF .u64 v) (wrapF .u64 (shlF .u64 1 25 - 1))))) = some v
  rw [e, e1, e2, e3]
  rfl

theorem g88_25 {v : Int} (h : 0 ≤ v ∧ v < 33554432) : o88 v 24 = some (decide (16777216 ≤ v)) := by
  unfold o88
  show cond (decide ((24 : Int) < 0)) none (some (bitsF .and .u32 (shrF .u32 v 24) 1 == 1)) = _
  rw [and_fm .u32 v 24 1 ⟨h.1, by simp only [topN, Int.ofNat_eq_natCast]; omega⟩ (by decide) (by decide)]
  obtain ⟨m, rfl⟩ := Int.eq_ofNat_of_zero_le h.1
  rw [show fm (m : Int) 24 1 = ((m / 2 ^ 24 % 2 ^ 1 : Nat) : Int) from fm_div m 24 1]
  show some _ = _
  congr 1
  have hm : m < 33554432 := by omega
  by_cases hb : 16777216 ≤ m
  · rw [show m / 2 ^ 24 % 2 ^ 1 = 1 by omega, decide_eq_true (by omega)]
    rfl
  · rw [show m / 2 ^ 24 % 2 ^ 1 = 0 by omega, decide_eq_false (by omega)]
    rfl

theorem sign_ref25 {v : Int} (h : 0 ≤ v ∧ v < 33554432) : o82 v 25 = some (sg25 v) := by
  have g : g87 v 25 = v := by unfold g87; rw [o87_25 h]; rfl
  have g8 : g88 v 24 = decide (16777216 ≤ v) := by unfold g88; rw [g88_25 h]; rfl
  have e1 : wrapF .u64 v = v := wrapF_le h.1 (by simp only [topN, Int.ofNat_eq_natCast]; omega)
  have e : bitsF .xor .u64 18446744073709551615 (wrapF .u64 (shlF .u64 1 25 - 1)) = 18446744073675997184 := by decide +kernel
  unfold o82
  show cond ((o87 v 25).isSome) (cond ((o88 (g87 v 25) 24).isSome) (cond (g88 (g87 v 25) 24) (cond (decide ((25 : Int) < 0)) none (some (wrapF .u32 (bitsF .and .u64 (bitsF .or .u64 (wrapF .u64 (g87 v 25)) (bitsF .xor .u64 18446744073709551615 (wrapF .u64 (shlF .u64 1 25 - 1)))) 4294967295)))) (some (g87 v 25))) none) none = _
  rw [g, o87_25 h, g88_25 h, g8, e, e1]
  unfold sg25
  by_cases hb : 16777216 ≤ v
  · rw [decide_eq_true hb, if_neg (by omega)]
    obtain ⟨m, rfl⟩ := Int.eq_ofNat_of_zero_le h.1
    have o1 : bitsF .or .u64 (m : Int) 18446744073675997184 = 18446744073675997184 + (m : Int) := by
      rw [show (18446744073675997184 : Int) = ((18446744073675997184 : Nat) : Int) from rfl, or_comm_nat .u64 m 18446744073675997184 (by simp only [topN]; omega) (by decide)]
      exact or_add .u64 ((18446744073675997184 : Nat) : Int) m 33554432 25 (by decide) (by omega) (by decide) (by omega) (by simp only [topN, Int.ofNat_eq_natCast]; omega)
    rw [o1]
    have o2 : bitsF .and .u64 (18446744073675997184 + (m : Int)) 4294967295 = (m : Int) + 4261412864 := by
      rw [and0_fm .u64 _ 4294967295 ⟨by omega, by simp only [topN, Int.ofNat_eq_natCast]; omega⟩ (by decide)]
      have := fm_div (18446744073675997184 + m) 0 32
      rw [show (18446744073675997184 + (m : Int)) = ((18446744073675997184 + m : Nat) : Int) by omega]
      refine Eq.trans this ?_
      have hm : m < 33554432 := by omega
      omega
    rw [o2]
    show some (wrapF .u32 ((m : Int) + 4261412864)) = _
    rw [wrapF_le (by omega) (by simp only [topN, Int.ofNat_eq_natCast]; omega)]
  · rw [decide_eq_false hb, if_pos (by omega)]
    rfl

theorem sign_prog25 {v : Int} (h : 0 ≤ v ∧ v < 33554432) : g39 v 25 = sg25 v := by
  have e1 : shlF .u32 v 7 = v * 128 := shl_mul' .u32 v 7 128 h.1 (by decide) (by decide) (by simp only [topN, Int.ofNat_eq_natCast]; omega)
  have e0 : o39 v 25 = some (wrapF .u32 (shrF .i32 (wrapF .i32 (shlF .u32 v 7)) 7)) := rfl
  unfold g39
  rw [e0, e1]
  show wrapF .u32 (shrF .i32 (wrapF .i32 (v * 128)) 7) = _
  have hs : ∀ x : Int, shrF .i32 x 7 = x / 128 := fun x => by
    rw [shrF_S]
    show x.fdiv ((128 : Nat) : Int) = _
    rw [Int.fdiv_eq_ediv_of_nonneg _ (by decide)]
    rfl
  rw [hs]
  unfold sg25
  have w := wrap_fact .u32 (v - 33554432) 0 4294967295 (by decide)
  by_cases hb : v < 16777216
  · rw [if_pos hb, (wrap_fact .i32 (v * 128) (-2147483648) 2147483647 (by decide)).2 (by omega) (by omega)]
    rw [show v * 128 / 128 = v by omega, wrapF_le h.1 (by simp only [topN, Int.ofNat_eq_natCast]; omega)]
  · rw [if_neg hb]
    have e2 : wrapF .i32 (v * 128) = v * 128 - 4294967296 := by
      rw [wrapF_eq]
      unfold IntKind.wrap
      simp only [IntKind.signed, IntKind.bits, Bool.true_and]
      split
      · omega
      · rename_i hs
        have hs := of_decide_eq_false (Bool.eq_false_iff.2 hs)
        omega
    rw [e2, show (v * 128 - 4294967296) / 128 = v - 33554432 by omega]
    rw [wrapF_eq]
    unfold IntKind.wrap
    simp only [IntKind.signed, IntKind.bits, Bool.false_and, Bool.false_eq_true, if_false]
    omega

end Go.Den
end
section
set_option linter.unusedVariables false
set_option maxRecDepth 100000
namespace Go.Den

theorem v21_p {s q p x l : Int} (hs : 0 ≤ s ∧ s ≤ 1) (hq : 0 ≤ q ∧ q ≤ 1) (hp : 0 ≤ p ∧ p ≤ 1) (hx : 0 ≤ x ∧ x ≤ 63) (hl : 0 ≤ l ∧ l ≤ 2047) : (bitsF .or .u32 (bitsF .or .u32 (bitsF .or .u32 (bitsF .or .u32 (shlF .u32 s 20) (shlF .u32 q 19)) (shlF .u32 p 18)) (shlF .u32 x 12)) (shlF .u32 l 1)) = s * 1048576 + q * 524288 + p * 262144 + x * 4096 + l * 2 := by
  have ss : shlF .u32 s 20 = s * 1048576 := shl_mul' .u32 s 20 1048576 hs.1 (by decide) (by decide) (by simp only [topN, Int.ofNat_eq_natCast]; omega)
  have sq : shlF .u32 q 19 = q * 524288 := shl_mul' .u32 q 19 524288 hq.1 (by decide) (by decide) (by simp only [topN, Int.ofNat_eq_natCast]; omega)
  have sp : shlF .u32 p 18 = p * 262144 := shl_mul' .u32 p 18 262144 hp.1 (by decide) (by decide) (by simp only [topN, Int.ofNat_eq_natCast]; omega)
  have sx : shlF .u32 x 12 = x * 4096 := shl_mul' .u32 x 12 4096 hx.1 (by decide) (by decide) (by simp only [topN, Int.ofNat_eq_natCast]; omega)
  have sl : shlF .u32 l 1 = l * 2 := shl_mul' .u32 l 1 2 hl.1 (by decide) (by decide) (by simp only [topN, Int.ofNat_eq_natCast]; omega)
  have o1 : bitsF .or .u32 (s * 1048576) (q * 524288) = s * 1048576 + q * 524288 := or_add .u32 (s * 1048576) (q * 524288) 1048576 20 (by decide) (by omega) (by omega) (by omega) (by simp only [topN, Int.ofNat_eq_natCast]; omega)
  have o2 : bitsF .or .u32 (s * 1048576 + q * 524288) (p * 262144) = s * 1048576 + q * 524288 + p * 262144 := or_add .u32 (s * 1048576 + q * 524288) (p * 262144) 524288 19 (by decide) (by omega) (by omega) (by omega) (by simp only [topN, Int.ofNat_eq_natCast]; omega)
  have o3 : bitsF .or .u32 (s * 1048576 + q * 524288 + p * 262144) (x * 4096) = s * 1048576 + q * 524288 + p * 262144 + x * 4096 := or_add .u32 (s * 1048576 + q * 524288 + p * 262144) (x * 4096) 262144 18 (by decide) (by omega) (by omega) (by omega) (by simp only [topN, Int.ofNat_eq_natCast]; omega)
  have o4 : bitsF .or .u32 (s * 1048576 + q * 524288 + p * 262144 + x * 4096) (l * 2) = s * 1048576 + q * 524288 + p * 262144 + x * 4096 + l * 2 := or_add .u32 (s * 1048576 + q * 524288 + p * 262144 + x * 4096) (l * 2) 4096 12 (by decide) (by omega) (by omega) (by omega) (by simp only [topN, Int.ofNat_eq_natCast]; omega)
  rw [ss, sq, sp, sx, sl, o1, o2, o3, o4]
theorem v21_r {s q p x l : Int} (hs : 0 ≤ s ∧ s ≤ 1) (hq : 0 ≤ q ∧ q ≤ 1) (hp : 0 ≤ p ∧ p ≤ 1) (hx : 0 ≤ x ∧ x ≤ 63) (hl : 0 ≤ l ∧ l ≤ 2047) : shlF .u32 (bitsF .or .u32 (bitsF .or .u32 (bitsF .or .u32 (bitsF .or .u32 (shlF .u32 s 19) (shlF .u32 q 18)) (shlF .u32 p 17)) (shlF .u32 x 11)) l) 1 = s * 1048576 + q * 524288 + p * 262144 + x * 4096 + l * 2 := by
  have ss : shlF .u32 s 19 = s * 524288 := shl_mul' .u32 s 19 524288 hs.1 (by decide) (by decide) (by simp only [topN, Int.ofNat_eq_natCast]; omega)
  have sq : shlF .u32 q 18 = q * 262144 := shl_mul' .u32 q 18 262144 hq.1 (by decide) (by decide) (by simp only [topN, Int.ofNat_eq_natCast]; omega)
  have sp : shlF .u32 p 17 = p * 131072 := shl_mul' .u32 p 17 131072 hp.1 (by decide) (by decide) (by simp only [topN, Int.ofNat_eq_natCast]; omega)
  have sx : shlF .u32 x 11 = x * 2048 := shl_mul' .u32 x 11 2048 hx.1 (by decide) (by decide) (by simp only [topN, Int.ofNat_eq_natCast]; omega)
  have o1 : bitsF .or .u32 (s * 524288) (q * 262144) = s * 524288 + q * 262144 := or_add .u32 (s * 524288) (q * 262144) 524288 19 (by decide) (by omega) (by omega) (by omega) (by simp only [topN, Int.ofNat_eq_natCast]; omega)
  have o2 : bitsF .or .u32 (s * 524288 + q * 262144) (p * 131072) = s * 524288 + q * 262144 + p * 131072 := or_add .u32 (s * 524288 + q * 262144) (p * 131072) 262144 18 (by decide) (by omega) (by omega) (by omega) (by simp only [topN, Int.ofNat_eq_natCast]; omega)
  have o3 : bitsF .or .u32 (s * 524288 + q * 262144 + p * 131072) (x * 2048) = s * 524288 + q * 262144 + p * 131072 + x * 2048 := or_add .u32 (s * 524288 + q * 262144 + p * 131072) (x * 2048) 131072 17 (by decide) (by omega) (by omega) (by omega) (by simp only [topN, Int.ofNat_eq_natCast]; omega)
  have o4 : bitsF .or .u32 (s * 524288 + q * 262144 + p * 131072 + x * 2048) (l) = s * 524288 + q * 262144 + p * 131072 + x * 2048 + l := or_add .u32 (s * 524288 + q * 262144 + p * 131072 + x * 2048) (l) 2048 11 (by decide) (by omega) (by omega) (by omega) (by simp only [topN, Int.ofNat_eq_natCast]; omega)
  rw [ss, sq, sp, sx, o1, o2, o3, o4]
  rw [shl_mul' .u32 (s * 524288 + q * 262144 + p * 131072 + x * 2048 + l) 1 2 (by omega) (by decide) (by decide) (by simp only [topN, Int.ofNat_eq_natCast]; omega)]
  omega
theorem v25_p {s a b x l : Int} (hs : 0 ≤ s ∧ s ≤ 1) (ha : 0 ≤ a ∧ a ≤ 1) (hb : 0 ≤ b ∧ b ≤ 1) (hx : 0 ≤ x ∧ x ≤ 1023) (hl : 0 ≤ l ∧ l ≤ 2047) : (bitsF .or .u32 (bitsF .or .u32 (bitsF .or .u32 (bitsF .or .u32 (shlF .u32 s 24) (shlF .u32 a 23)) (shlF .u32 b 22)) (shlF .u32 x 12)) (shlF .u32 l 1)) = s * 16777216 + a * 8388608 + b * 4194304 + x * 4096 + l * 2 := by
  have ss : shlF .u32 s 24 = s * 16777216 := shl_mul' .u32 s 24 16777216 hs.1 (by decide) (by decide) (by simp only [topN, Int.ofNat_eq_natCast]; omega)
  have sa : shlF .u32 a 23 = a * 8388608 := shl_mul' .u32 a 23 8388608 ha.1 (by decide) (by decide) (by simp only [topN, Int.ofNat_eq_natCast]; omega)
  have sb : shlF .u32 b 22 = b * 4194304 := shl_mul' .u32 b 22 4194304 hb.1 (by decide) (by decide) (by simp only [topN, Int.ofNat_eq_natCast]; omega)
  have sx : shlF .u32 x 12 = x * 4096 := shl_mul' .u32 x 12 4096 hx.1 (by decide) (by decide) (by simp only [topN, Int.ofNat_eq_natCast]; omega)
  have sl : shlF .u32 l 1 = l * 2 := shl_mul' .u32 l 1 2 hl.1 (by decide) (by decide) (by simp only [topN, Int.ofNat_eq_natCast]; omega)
  have o1 : bitsF .or .u32 (s * 16777216) (a * 8388608) = s * 16777216 + a * 8388608 := or_add .u32 (s * 16777216) (a * 8388608) 16777216 24 (by decide) (by omega) (by omega) (by omega) (by simp only [topN, Int.ofNat_eq_natCast]; omega)
  have o2 : bitsF .or .u32 (s * 16777216 + a * 8388608) (b * 4194304) = s * 16777216 + a * 8388608 + b * 4194304 := or_add .u32 (s * 16777216 + a * 8388608) (b * 4194304) 8388608 23 (by decide) (by omega) (by omega) (by omega) (by simp only [topN, Int.ofNat_eq_natCast]; omega)
  have o3 : bitsF .or .u32 (s * 16777216 + a * 8388608 + b * 4194304) (x * 4096) = s * 16777216 + a * 8388608 + b * 4194304 + x * 4096 := or_add .u32 (s * 16777216 + a * 8388608 + b * 4194304) (x * 4096) 4194304 22 (by decide) (by omega) (by omega) (by omega) (by simp only [topN, Int.ofNat_eq_natCast]; omega)
  have o4 : bitsF .or .u32 (s * 16777216 + a * 8388608 + b * 4194304 + x * 4096) (l * 2) = s * 16777216 + a * 8388608 + b * 4194304 + x * 4096 + l * 2 := or_add .u32 (s * 16777216 + a * 8388608 + b * 4194304 + x * 4096) (l * 2) 4096 12 (by decide) (by omega) (by omega) (by omega) (by simp only [topN, Int.ofNat_eq_natCast]; omega)
  rw [ss, sa, sb, sx, sl, o1, o2, o3, o4]
theorem v25_r {s a b x l : Int} (hs : 0 ≤ s ∧ s ≤ 1) (ha : 0 ≤ a ∧ a ≤ 1) (hb : 0 ≤ b ∧ b ≤ 1) (hx : 0 ≤ x ∧ x ≤ 1023) (hl : 0 ≤ l ∧ l ≤ 2047) : shlF .u32 (bitsF .or .u32 (bitsF .or .u32 (bitsF .or .u32 (bitsF .or .u32 (shlF .u32 s 23) (shlF .u32 a 22)) (shlF .u32 b 21)) (shlF .u32 x 11)) l) 1 = s * 16777216 + a * 8388608 + b * 4194304 + x * 4096 + l * 2 := by
  have ss : shlF .u32 s 23 = s * 8388608 := shl_mul' .u32 s 23 8388608 hs.1 (by decide) (by decide) (by simp only [topN, Int.ofNat_eq_natCast]; omega)
  have sa : shlF .u32 a 22 = a * 4194304 := shl_mul' .u32 a 22 4194304 ha.1 (by decide) (by decide) (by simp only [topN, Int.ofNat_eq_natCast]; omega)
  have sb : shlF .u32 b 21 = b * 2097152 := shl_mul' .u32 b 21 2097152 hb.1 (by decide) (by decide) (by simp only [topN, Int.ofNat_eq_natCast]; omega)
  have sx : shlF .u32 x 11 = x * 2048 := shl_mul' .u32 x 11 2048 hx.1 (by decide) (by decide) (by simp only [topN, Int.ofNat_eq_natCast]; omega)
  have o1 : bitsF .or .u32 (s * 8388608) (a * 4194304) = s * 8388608 + a * 4194304 := or_add .u32 (s * 8388608) (a * 4194304) 8388608 23 (by decide) (by omega) (by omega) (by omega) (by simp only [topN, Int.ofNat_eq_natCast]; omega)
  have o2 : bitsF .or .u32 (s * 8388608 + a * 4194304) (b * 2097152) = s * 8388608 + a * 4194304 + b * 2097152 := or_add .u32 (s * 8388608 + a * 4194304) (b * 2097152) 4194304 22 (by decide) (by omega) (by omega) (by omega) (by simp only [topN, Int.ofNat_eq_natCast]; omega)
  have o3 : bitsF .or .u32 (s * 8388608 + a * 4194304 + b * 2097152) (x * 2048) = s * 8388608 + a * 4194304 + b * 2097152 + x * 2048 := or_add .u32 (s * 8388608 + a * 4194304 + b * 2097152) (x * 2048) 2097152 21 (by decide) (by omega) (by omega) (by omega) (by simp only [topN, Int.ofNat_eq_natCast]; omega)
  have o4 : bitsF .or .u32 (s * 8388608 + a * 4194304 + b * 2097152 + x * 2048) (l) = s * 8388608 + a * 4194304 + b * 2097152 + x * 2048 + l := or_add .u32 (s * 8388608 + a * 4194304 + b * 2097152 + x * 2048) (l) 2048 11 (by decide) (by omega) (by omega) (by omega) (by simp only [topN, Int.ofNat_eq_natCast]; omega)
  rw [ss, sa, sb, sx, o1, o2, o3, o4]
  rw [shl_mul' .u32 (s * 8388608 + a * 4194304 + b * 2097152 + x * 2048 + l) 1 2 (by omega) (by decide) (by decide) (by simp only [topN, Int.ofNat_eq_natCast]; omega)]
  omega

theorem xr (p s : Int) (hp : 0 ≤ p ∧ p ≤ 1) (hs : 0 ≤ s ∧ s ≤ 1) : 0 ≤ bitsF .xor .u32 (bitsF .xor .u32 1 p) s ∧ bitsF .xor .u32 (bitsF .xor .u32 1 p) s ≤ 1 := by
  obtain rfl | rfl : p = 0 ∨ p = 1 := by omega
  all_goals
    obtain rfl | rfl : s = 0 ∨ s = 1 := by omega
    all_goals decide +kernel

theorem branch_eq {h k : Int} (hh : U16 h) (hk : U16 k) (i : Bool) : ∃ r, o50 h k i = some r ∧ p16 h k i = wrapR h k i r := by
  have rs := fm_fact h 10 1 (by decide)
  have rp := fm_fact k 13 1 (by decide)
  have rq := fm_fact k 11 1 (by decide)
  have r6 := fm_fact h 0 63 (by decide)
  have r10 := fm_fact h 0 1023 (by decide)
  have rl := fm_fact k 0 2047 (by decide)
  have rc := fm_fact h 6 15 (by decide)
  have r14 := fm_fact k 14 1 (by decide)
  have xa := xr _ _ rp rs
  have xb := xr _ _ rq rs
  unfold o50 p16
  simp only [af16 hh, af16 hk, a016 hh, a016 hk, wf64, wf32, gf1 hh, gf1 hk, gf2 hk, gf3 hk, gf4 hh, gf4 hk, gf5 hh, gf5 hk, gf6 hh, gf10 hh, gf11 hk, gf8 hk, Int.reduceLE, v21_p rs rq rp r6 rl, v21_r rs rq rp r6 rl, v25_p rs xa xb r10 rl, v25_r rs xa xb r10 rl]
  generalize fm h 10 1 = s at *
  generalize fm k 13 1 = p at *
  generalize fm k 11 1 = q at *
  generalize fm h 0 63 = x at *
  generalize fm h 0 1023 = x10 at *
  generalize fm k 0 2047 = l at *
  generalize fm h 6 15 = c at *
  generalize (fm k 12 1 == 0) = b0
  generalize fm k 14 1 = b14 at *
  generalize bitsF .xor .u32 (bitsF .xor .u32 1 p) s = a at *
  generalize bitsF .xor .u32 (bitsF .xor .u32 1 q) s = b at *
  have h21 : 0 ≤ s * 1048576 + q * 524288 + p * 262144 + x * 4096 + l * 2 ∧ s * 1048576 + q * 524288 + p * 262144 + x * 4096 + l * 2 < 2097152 := by omega
  have h25 : 0 ≤ s * 16777216 + a * 8388608 + b * 4194304 + x10 * 4096 + l * 2 ∧ s * 16777216 + a * 8388608 + b * 4194304 + x10 * 4096 + l * 2 < 33554432 := by omega
  have g21 : g82 (s * 1048576 + q * 524288 + p * 262144 + x * 4096 + l * 2) 21 = sg21 (s * 1048576 + q * 524288 + p * 262144 + x * 4096 + l * 2) := by unfold g82; rw [sign_ref21 h21, Option.getD_some]
  have g25 : g82 (s * 16777216 + a * 8388608 + b * 4194304 + x10 * 4096 + l * 2) 25 = sg25 (s * 16777216 + a * 8388608 + b * 4194304 + x10 * 4096 + l * 2) := by unfold g82; rw [sign_ref25 h25, Option.getD_some]
  simp only [sign_ref21 h21, sign_ref25 h25, sign_prog21 h21, sign_prog25 h25, g21, g25, Option.isSome_some, cond_true]
  generalize sg21 _ = y21
  generalize sg25 _ = y25
  obtain rfl | rfl : b14 = 0 ∨ b14 = 1 := by omega
  all_goals
    cases b0
    · exact ⟨_, rfl, rfl⟩
    · cases decide (c ≥ 14)
      · cases i
        · exact ⟨_, rfl, rfl⟩
        · exact ⟨_, rfl, rfl⟩
      · exact ⟨_, rfl, rfl⟩

end Go.Den
end
section
set_option linter.unusedVariables false
set_option maxRecDepth 100000
namespace Go.Den

/-- 0 none, 1 one that may not be, 2 an op and a shape, 3 the same of no condition -/
abbrev C3 := Nat × Int × Nat

noncomputable def mkC (h k : Int) (i : Bool) (g : Nat → Int → Int → S30) (c : C3) : S30 := match c.1 with
  | 0 => p24 h k i
  | 1 => p47 h k i 65
  | 2 => g c.2.2 c.2.1 14
  | _ => g c.2.2 c.2.1 0

theorem mkC_cond (h k : Int) (i : Bool) (g : Nat → Int → Int → S30) (b : Bool) (x y : C3) : mkC h k i g (cond b x y) = cond b (mkC h k i g x) (mkC h k i g y) := by cases b <;> rfl

theorem wrapR_cond (h k : Int) (i : Bool) (b : Bool) (x y : S30 × Bool) : wrapR h k i (cond b x y) = cond b (wrapR h k i x) (wrapR h k i y) := by cases b <;> rfl

theorem odd2 (x y : Int) : oddB [x, y] = cond (p81 x) true (p81 y) := by
  unfold oddB oddB oddB p81
  cases (x == 13) <;> cases (x == 15) <;> cases (y == 13) <;> cases (y == 15) <;> rfl

theorem odd3 (x y z : Int) : oddB [x, y, z] = cond (p81 x) true (cond (p81 y) true (p81 z)) := by
  unfold oddB
  rw [odd2]
  show cond (x == 13) true (cond (x == 15) true (cond (p81 y) true (p81 z))) = cond (cond (x == 13) true (x == 15)) true _
  cases (x == 13) <;> cases (x == 15) <;> rfl

theorem odd4 (x y z w : Int) : oddB [x, y, z, w] = cond (p81 x) true (cond (p81 y) true (cond (p81 z) true (p81 w))) := by
  unfold oddB
  rw [odd3]
  show cond (x == 13) true (cond (x == 15) true (cond (p81 y) true (cond (p81 z) true (p81 w)))) = cond (cond (x == 13) true (x == 15)) true _
  cases (x == 13) <;> cases (x == 15) <;> rfl

def eqC3 (a b : C3) : Bool := and1B (Nat.beq a.1 b.1) (and1B (ieq a.2.1 b.2.1) (Nat.beq a.2.2 b.2.2))

theorem eqC3_ok {a b : C3} (h : eqC3 a b = true) : a = b := by
  obtain ⟨h1, h⟩ := and1B_ok h
  obtain ⟨h2, h3⟩ := and1B_ok h
  obtain ⟨a1, a2, a3⟩ := a
  obtain ⟨b1, b2, b3⟩ := b
  simp only at h1 h2 h3
  rw [Nat.eq_of_beq_eq_true h1, ieq_ok h2, Nat.eq_of_beq_eq_true h3]

def allT (f : Bool → Bool) : Bool := and1B (f false) (f true)

theorem allT_ok {f : Bool → Bool} (h : allT f = true) (b : Bool) : f b = true := by
  obtain ⟨h1, h2⟩ := and1B_ok h
  cases b <;> assumption

theorem f7_4 {x : Int} (hx : U16 x) : fm x 7 1 = fm x 4 15 / 8 := by
  obtain ⟨n, rfl⟩ := Int.eq_ofNat_of_zero_le hx.1
  rw [show fm (n : Int) 7 1 = ((n / 2 ^ 7 % 2 ^ 1 : Nat) : Int) from fm_div n 7 1, show fm (n : Int) 4 15 = ((n / 2 ^ 4 % 2 ^ 4 : Nat) : Int) from fm_div n 4 4]
  omega

theorem f5_4 {x : Int} (hx : U16 x) : fm x 5 3 = fm x 4 15 / 2 % 4 := by
  obtain ⟨n, rfl⟩ := Int.eq_ofNat_of_zero_le hx.1
  rw [show fm (n : Int) 5 3 = ((n / 2 ^ 5 % 2 ^ 2 : Nat) : Int) from fm_div n 5 2, show fm (n : Int) 4 15 = ((n / 2 ^ 4 % 2 ^ 4 : Nat) : Int) from fm_div n 4 4]
  omega

theorem f43_4 {x : Int} (hx : U16 x) : fm x 4 7 = fm x 4 15 % 8 := by
  obtain ⟨n, rfl⟩ := Int.eq_ofNat_of_zero_le hx.1
  rw [show fm (n : Int) 4 7 = ((n / 2 ^ 4 % 2 ^ 3 : Nat) : Int) from fm_div n 4 3, show fm (n : Int) 4 15 = ((n / 2 ^ 4 % 2 ^ 4 : Nat) : Int) from fm_div n 4 4]
  omega

theorem f41_4 {x : Int} (hx : U16 x) : fm x 4 1 = fm x 4 15 % 2 := by
  obtain ⟨n, rfl⟩ := Int.eq_ofNat_of_zero_le hx.1
  rw [show fm (n : Int) 4 1 = ((n / 2 ^ 4 % 2 ^ 1 : Nat) : Int) from fm_div n 4 1, show fm (n : Int) 4 15 = ((n / 2 ^ 4 % 2 ^ 4 : Nat) : Int) from fm_div n 4 4]
  omega

theorem k63_4 {x : Int} (hx : U16 x) : fm x 6 3 = fm x 4 15 / 4 := by
  obtain ⟨n, rfl⟩ := Int.eq_ofNat_of_zero_le hx.1
  rw [show fm (n : Int) 6 3 = ((n / 2 ^ 6 % 2 ^ 2 : Nat) : Int) from fm_div n 6 2, show fm (n : Int) 4 15 = ((n / 2 ^ 4 % 2 ^ 4 : Nat) : Int) from fm_div n 4 4]
  omega

theorem k43_4 {x : Int} (hx : U16 x) : fm x 4 3 = fm x 4 15 % 4 := by
  obtain ⟨n, rfl⟩ := Int.eq_ofNat_of_zero_le hx.1
  rw [show fm (n : Int) 4 3 = ((n / 2 ^ 4 % 2 ^ 2 : Nat) : Int) from fm_div n 4 2, show fm (n : Int) 4 15 = ((n / 2 ^ 4 % 2 ^ 4 : Nat) : Int) from fm_div n 4 4]
  omega

end Go.Den
end
