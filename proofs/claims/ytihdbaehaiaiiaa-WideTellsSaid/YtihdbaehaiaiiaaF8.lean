import Derived.Test.YtihdbaehaiaiiaaF7
set_option linter.unusedVariables false
set_option linter.unusedSimpArgs false
set_option maxRecDepth 100000
namespace Go.Den

theorem v21_p {s q p x l : Int} (hs : 0 ≤ s ∧ s ≤ 1) (hq : 0 ≤ q ∧ q ≤ 1) (hp : 0 ≤ p ∧ p ≤ 1) (hx : 0 ≤ x ∧ x ≤ 63) (hl : 0 ≤ l ∧ l ≤ 2047) : (bitsF .or .u32 (bitsF .or .u32 (bitsF .or .u32 (bitsF .or .u32 (shlF .u32 s 20) (shlF .u32 q 19)) (shlF .u32 p 18)) (shlF .u32 x 12)) (shlF .u32 l 1)) = s * 1048576 + q * 524288 + p * 262144 + x * 4096 + l * 2 := by
  have ss : shlF .u32 s 20 = s * 1048576 := shl_mul' .u32 s 20 1048576 hs.1 (by decide) (by decide) (by simp only [topN, Int.ofNat_eq_natCast]; omega)
  have sq : shlF .u32 q 19 = q * 524288 := shl_mul' .u32 q 19 524288 hq.1 (by decide) (by decide) (by simp only [topN, Int.ofNat_eq_natCast]; omega)
  have sp : shlF .u32 p 18 = p * 262144 := shl_mul' .u32 p 18 262144 hp.1 (by decide) (by decide) (by simp only [topN, Int.ofNat_eq_natCast]; omega)
  have sx : shlF .u32 x 12 = x * 4096 := shl_mul' .u32 x 12 4096 hx.1 (by decide) (by decide) (by simp only [topN, Int.ofNat_eq_natCast]; omega)
  have sl : shlF .u32 l 1 = l * 2 := shl_mul' .u32 l 1 2 hl.1 (by decide) (by decide) (by simp only [topN, Int.ofNat_eq_natCast]; omega)
  have o1 : bitsF .or .u32 (s * 1048576) (q * 524288) = s * 1048576 + q * 524288 := or_add .u32 (s * 1048576) (q * 524288) 1048576 20 (by decide) (by omega) (by omega) (by omega) (by simp only [topN, Int.ofNat_eq_natCast]; omega)
  have o2 : bitsF .or .u32 (s * 1048576 + q * 524288) (p * 262144) = s * 1048576 + q * 524288 + p * 262144 := or_add .u32 (s * 1048576 + q * 524288) (p * 262144) 524288 19 (by decide) (by omega) (by omega) (by omega) (by simp only [topN, Int.ofNat_eq_natCast]; omega)
  have o3 : bitsF .or .u32 (s * 1048576 + q * 524288 + p * 262144) (x * 4096) = s * 1048576 + q * 524288 + p * 262144 + x * 4096 := or_add .u32 (s * 1048576 + q * 524288 + p * 262144) (x * 4096) 262144 18 (by decide) (by omega) (by omega) (by omega) (by simp only [topN, Int.ofNat_eq_natCast]; omega)
  have o4 : bitsF .or .u32 (s * 1048576 + q * 524288 + p * 262144 + x * 4096) (l * 2) = s * 1048576 + q * 524288 + p * 262144 + x * 4096 + l * 2 := or_add .u32 (s * 1048576 + q * 524288 + p * 262144 + x * 4096) (l * 2) 4096 12 (by decide) (by omega) (by omega) (by omega) (by simp only [topN, Int.ofNat_eq_natCast]; omega)
  rw [ss, sq, sp, sx, sl, o1, o2, o3, o4]
theorem v21_r {s q p x l : Int} (hs : 0 ≤ s ∧ s ≤ 1) (hq : 0 ≤ q ∧ q ≤ 1) (hp : 0 ≤ p ∧ p ≤ 1) (hx : 0 ≤ x ∧ x ≤ 63) (hl : 0 ≤ l ∧ l ≤ 2047) : shlF .u32 (bitsF .or .u32 (bitsF .or .u32 (bitsF .or .u32 (bitsF .or .u32 (shlF .u32 s 19) (shlF .u32 q 18)) (shlF .u32 p 17)) (shlF .u32 x 11)) l) 1 = s * 1048576 + q * 524288 + p * 262144 + x * 4096 + l * 2 := by
  have ss : shlF .u32 s 19 = s * 524288 := shl_mul' .u32 s 19 524288 hs.1 (by decide) (by decide) (by simp only [topN, Int.ofNat_eq_natCast]; omega)
  have sq : shlF .u32 q 18 = q * 262144 := shl_mul' .u32 q 18 262144 hq.1 (by decide) (by decide) (by simp only [topN, Int.ofNat_eq_natCast]; omega)
  have sp : shlF .u32 p 17 = p * 131072 := shl_mul' .u32 p 17 131072 hp.1 (by decide) (by decide) (by simp only [topN, Int.ofNat_eq_natCast]; omega)
  have sx : shlF .u32 x 11 = x * 2048 := shl_mul' .u32 x 11 2048 hx.1 (by decide) (by decide) (by simp only [topN, Int.ofNat_eq_natCast]; omega)
  have o1 : bitsF .or .u32 (s * 524288) (q * 262144) = s * 524288 + q * 262144 := or_add .u32 (s * 524288) (q * 262144) 524288 19 (by decide) (by omega) (by omega) (by omega) (by simp only [topN, Int.ofNat_eq_natCast]; omega)
  have o2 : bitsF .or .u32 (s * 524288 + q * 262144) (p * 131072) = s * 524288 + q * 262144 + p * 131072 := or_add .u32 (s * 524288 + q * 262144) (p * 131072) 262144 18 (by decide) (by omega) (by omega) (by omega) (by simp only [topN, Int.ofNat_eq_natCast]; omega)
  have o3 : bitsF .or .u32 (s * 524288 + q * 262144 + p * 131072) (x * 2048) = s * 524288 + q * 262144 + p * 131072 + x * 2048 := or_add .u32 (s * 524288 + q * 262144 + p * 131072) (x * 2048) 131072 17 (by decide) (by omega) (by omega) (by omega) (by simp only [topN, Int.ofNat_eq_natCast]; omega)
  have o4 : bitsF .or .u32 (s * 524288 + q * 262144 + p * 131072 + x * 2048) (l) = s * 524288 + q * 262144 + p * 131072 + x * 2048 + l := or_add .u32 (s * 524288 + q * 262144 + p * 131072 + x * 2048) (l) 2048 11 (by decide) (by omega) (by omega) (by omega) (by simp only [topN, Int.ofNat_eq_natCast]; omega)
  rw [ss, sq, sp, sx, o1, o2, o3, o4]
  rw [shl_mul' .u32 (s * 524288 + q * 262144 + p * 131072 + x * 2048 + l) 1 2 (by omega) (by decide) (by decide) (by simp only [topN, Int.ofNat_eq_natCast]; omega)]
  omega
theorem v25_p {s a b x l : Int} (hs : 0 ≤ s ∧ s ≤ 1) (ha : 0 ≤ a ∧ a ≤ 1) (hb : 0 ≤ b ∧ b ≤ 1) (hx : 0 ≤ x ∧ x ≤ 1023) (hl : 0 ≤ l ∧ l ≤ 2047) : (bitsF .or .u32 (bitsF .or .u32 (bitsF .or .u32 (bitsF .or .u32 (shlF .u32 s 24) (shlF .u32 a 23)) (shlF .u32 b 22)) (shlF .u32 x 12)) (shlF .u32 l 1)) = s * 16777216 + a * 8388608 + b * 4194304 + x * 4096 + l * 2 := by
  have ss : shlF .u32 s 24 = s * 16777216 := shl_mul' .u32 s 24 16777216 hs.1 (by decide) (by decide) (by simp only [topN, Int.ofNat_eq_natCast]; omega)
  have sa : shlF .u32 a 23 = a * 8388608 := shl_mul' .u32 a 23 8388608 ha.1 (by decide) (by decide) (by simp only [topN, Int.ofNat_eq_natCast]; omega)
  have sb : shlF .u32 b 22 = b * 4194304 := shl_mul' .u32 b 22 4194304 hb.1 (by decide) (by decide) (by simp only [topN, Int.ofNat_eq_natCast]; omega)
  have sx : shlF .u32 x 12 = x * 4096 := shl_mul' .u32 x 12 4096 hx.1 (by decide) (by decide) (by simp only [topN, Int.ofNat_eq_natCast]; omega)
  have sl : shlF .u32 l 1 = l * 2 := shl_mul' .u32 l 1 2 hl.1 (by decide) (by decide) (by simp only [topN, Int.ofNat_eq_natCast]; omega)
  have o1 : bitsF .or .u32 (s * 16777216) (a * 8388608) = s * 16777216 + a * 8388608 := or_add .u32 (s * 16777216) (a * 8388608) 16777216 24 (by decide) (by omega) (by omega) (by omega) (by simp only [topN, Int.ofNat_eq_natCast]; omega)
  have o2 : bitsF .or .u32 (s * 16777216 + a * 8388608) (b * 4194304) = s * 16777216 + a * 8388608 + b * 4194304 := or_add .u32 (s * 16777216 + a * 8388608) (b * 4194304) 8388608 23 (by decide) (by omega) (by omega) (by omega) (by simp only [topN, Int.ofNat_eq_natCast]; omega)
  have o3 : bitsF .or .u32 (s * 16777216 + a * 8388608 + b * 4194304) (x * 4096) = s * 16777216 + a * 8388608 + b * 4194304 + x * 4096 := or_add .u32 (s * 16777216 + a * 8388608 + b * 4194304) (x * 4096) 4194304 22 (by decide) (by omega) (by omega) (by omega) (by simp only [topN, Int.ofNat_eq_natCast]; omega)
  have o4 : bitsF .or .u32 (s * 16777216 + a * 8388608 + b * 4194304 + x * 4096) (l * 2) = s * 16777216 + a * 8388608 + b * 4194304 + x * 4096 + l * 2 := or_add .u32 (s * 16777216 + a * 8388608 + b * 4194304 + x * 4096) (l * 2) 4096 12 (by decide) (by omega) (by omega) (by omega) (by simp only [topN, Int.ofNat_eq_natCast]; omega)
  rw [ss, sa, sb, sx, sl, o1, o2, o3, o4]
theorem v25_r {s a b x l : Int} (hs : 0 ≤ s ∧ s ≤ 1) (ha : 0 ≤ a ∧ a ≤ 1) (hb : 0 ≤ b ∧ b ≤ 1) (hx : 0 ≤ x ∧ x ≤ 1023) (hl : 0 ≤ l ∧ l ≤ 2047) : shlF .u32 (bitsF .or .u32 (bitsF .or .u32 (bitsF .or .u32 (bitsF .or .u32 (shlF .u32 s 23) (shlF .u32 a 22)) (shlF .u32 b 21)) (shlF .u32 x 11)) l) 1 = s * 16777216 + a * 8388608 + b * 4194304 + x * 4096 + l * 2 := by
  have ss : shlF .u32 s 23 = s * 8388608 := shl_mul' .u32 s 23 8388608 hs.1 (by decide) (by decide) (by simp only [topN, Int.ofNat_eq_natCast]; omega)
  have sa : shlF .u32 a 22 = a * 4194304 := shl_mul' .u32 a 22 4194304 ha.1 (by decide) (by decide) (by simp only [topN, Int.ofNat_eq_natCast]; omega)
  have sb : shlF .u32 b 21 = b * 2097152 := shl_mul' .u32 b 21 2097152 hb.1 (by decide) (by decide) (by simp only [topN, Int.ofNat_eq_natCast]; omega)
  have sx : shlF .u32 x 11 = x * 2048 := shl_mul' .u32 x 11 2048 hx.1 (by decide) (by decide) (by simp only [topN, Int.ofNat_eq_natCast]; omega)
  have o1 : bitsF .or .u32 (s * 8388608) (a * 4194304) = s * 8388608 + a * 4194304 := or_add .u32 (s * 8388608) (a * 4194304) 8388608 23 (by decide) (by omega) (by omega) (by omega) (by simp only [topN, Int.ofNat_eq_natCast]; omega)
  have o2 : bitsF .or .u32 (s * 8388608 + a * 4194304) (b * 2097152) = s * 8388608 + a * 4194304 + b * 2097152 := or_add .u32 (s * 8388608 + a * 4194304) (b * 2097152) 4194304 22 (by decide) (by omega) (by omega) (by omega) (by simp only [topN, Int.ofNat_eq_natCast]; omega)
  have o3 : bitsF .or .u32 (s * 8388608 + a * 4194304 + b * 2097152) (x * 2048) = s * 8388608 + a * 4194304 + b * 2097152 + x * 2048 := or_add .u32 (s * 8388608 + a * 4194304 + b * 2097152) (x * 2048) 2097152 21 (by decide) (by omega) (by omega) (by omega) (by simp only [topN, Int.ofNat_eq_natCast]; omega)
  have o4 : bitsF .or .u32 (s * 8388608 + a * 4194304 + b * 2097152 + x * 2048) (l) = s * 8388608 + a * 4194304 + b * 2097152 + x * 2048 + l := or_add .u32 (s * 8388608 + a * 4194304 + b * 2097152 + x * 2048) (l) 2048 11 (by decide) (by omega) (by omega) (by omega) (by simp only [topN, Int.ofNat_eq_natCast]; omega)
  rw [ss, sa, sb, sx, o1, o2, o3, o4]
  rw [shl_mul' .u32 (s * 8388608 + a * 4194304 + b * 2097152 + x * 2048 + l) 1 2 (by omega) (by decide) (by decide) (by simp only [topN, Int.ofNat_eq_natCast]; omega)]
  omega

theorem xr (p s : Int) (hp : 0 ≤ p ∧ p ≤ 1) (hs : 0 ≤ s ∧ s ≤ 1) : 0 ≤ bitsF .xor .u32 (bitsF .xor .u32 1 p) s ∧ bitsF .xor .u32 (bitsF .xor .u32 1 p) s ≤ 1 := by
  obtain rfl | rfl : p = 0 ∨ p = 1 := by omega
  all_goals
    obtain rfl | rfl : s = 0 ∨ s = 1 := by omega
    all_goals decide +kernel

theorem branch_eq {h k : Int} (hh : U16 h) (hk : U16 k) (i : Bool) : ∃ r, o50 h k i = some r ∧ p16 h k i = wrapR h k i r := by
  have rs := fm_fact h 10 1 (by decide)
  have rp := fm_fact k 13 1 (by decide)
  have rq := fm_fact k 11 1 (by decide)
  have r6 := fm_fact h 0 63 (by decide)
  have r10 := fm_fact h 0 1023 (by decide)
  have rl := fm_fact k 0 2047 (by decide)
  have rc := fm_fact h 6 15 (by decide)
  have r14 := fm_fact k 14 1 (by decide)
  have xa := xr _ _ rp rs
  have xb := xr _ _ rq rs
  unfold o50 p16
  simp only [af16 hh, af16 hk, a016 hh, a016 hk, wf64, wf32, gf1 hh, gf1 hk, gf2 hk, gf3 hk, gf4 hh, gf4 hk, gf5 hh, gf5 hk, gf6 hh, gf10 hh, gf11 hk, gf8 hk, Int.reduceLE, v21_p rs rq rp r6 rl, v21_r rs rq rp r6 rl, v25_p rs xa xb r10 rl, v25_r rs xa xb r10 rl]
  generalize fm h 10 1 = s at *
  generalize fm k 13 1 = p at *
  generalize fm k 11 1 = q at *
  generalize fm h 0 63 = x at *
  generalize fm h 0 1023 = x10 at *
  generalize fm k 0 2047 = l at *
  generalize fm h 6 15 = c at *
  generalize (fm k 12 1 == 0) = b0
  generalize fm k 14 1 = b14 at *
  generalize bitsF .xor .u32 (bitsF .xor .u32 1 p) s = a at *
  generalize bitsF .xor .u32 (bitsF .xor .u32 1 q) s = b at *
  have h21 : 0 ≤ s * 1048576 + q * 524288 + p * 262144 + x * 4096 + l * 2 ∧ s * 1048576 + q * 524288 + p * 262144 + x * 4096 + l * 2 < 2097152 := by omega
  have h25 : 0 ≤ s * 16777216 + a * 8388608 + b * 4194304 + x10 * 4096 + l * 2 ∧ s * 16777216 + a * 8388608 + b * 4194304 + x10 * 4096 + l * 2 < 33554432 := by omega
  have g21 : g82 (s * 1048576 + q * 524288 + p * 262144 + x * 4096 + l * 2) 21 = sg21 (s * 1048576 + q * 524288 + p * 262144 + x * 4096 + l * 2) := by unfold g82; rw [sign_ref21 h21, Option.getD_some]
  have g25 : g82 (s * 16777216 + a * 8388608 + b * 4194304 + x10 * 4096 + l * 2) 25 = sg25 (s * 16777216 + a * 8388608 + b * 4194304 + x10 * 4096 + l * 2) := by unfold g82; rw [sign_ref25 h25, Option.getD_some]
  simp only [sign_ref21 h21, sign_ref25 h25, sign_prog21 h21, sign_prog25 h25, g21, g25, Option.isSome_some, cond_true]
  generalize sg21 _ = y21
  generalize sg25 _ = y25
  obtain rfl | rfl : b14 = 0 ∨ b14 = 1 := by omega
  all_goals
    cases b0
    · exact ⟨_, rfl, rfl⟩
    · cases decide (c ≥ 14)
      · cases i
        · exact ⟨_, rfl, rfl⟩
        · exact ⟨_, rfl, rfl⟩
      · exact ⟨_, rfl, rfl⟩

end Go.Den
