import Derived.Test.YtihdbaehaiaiiaaY13
set_option linter.unusedSimpArgs false
set_option linter.unusedVariables false
set_option maxRecDepth 100000
namespace Go.Den

/-- what is encoded stands in its row -/
theorem E_row {y : S30} (h : (E y).2.2 = true) : o35y y = some ((E y).1, (E y).2.1) ∧ dW (E y).1 (E y).2.1 false = y := by
  rcases E_back y with ⟨_, hd, ha, hb, h64, h65⟩ | e
  · have hg := good_all (E y).1 (E y).2.1 ha hb
    rw [hd] at hg
    rcases hg with hg | hg | ⟨g1, _, _⟩
    · exact absurd hg h64
    · exact absurd hg h65
    · exact ⟨g1, hd⟩
  · rw [e] at h
    cases h

theorem E_is {h k : Int} {y : S30} (hh : 0 ≤ h ∧ h ≤ 65535) (hk : 0 ≤ k ∧ k ≤ 65535) (hd : dW h k false = y) (h64 : y.f_Op ≠ 64) (h65 : y.f_Op ≠ 65) : E y = (h, k, true) := by
  subst hd
  exact E_dW hh hk h64 h65

/-- one whose row tells another is none -/
theorem E_not {h k : Int} {y z : S30} (hr : o35y y = some (h, k)) (hd : dW h k false = z) (hne : z ≠ y) : (E y).2.2 = false := by
  cases hE : (E y).2.2 with
  | false => rfl
  | true =>
    obtain ⟨h1, h2⟩ := E_row hE
    rw [hr] at h1
    have h3 := Option.some.inj h1
    have e1 : h = (E y).1 := congrArg Prod.fst h3
    have e2 : k = (E y).2.1 := congrArg Prod.snd h3
    rw [← e1, ← e2, hd] at h2
    exact absurd h2 hne

/-! ### branches -/

theorem p16_25 {h k : Int} (hh : U16 h) (hk : U16 k) (i : Bool) (c12 : fm k 12 1 = 1) : p16 h k i = S30.mk (getI [54, 55] (fm k 14 1).toNat) true false 14 0 0 0 0
    (sg25 (fm h 10 1 * 16777216 + bitsF .xor .u32 (bitsF .xor .u32 1 (fm k 13 1)) (fm h 10 1) * 8388608 + bitsF .xor .u32 (bitsF .xor .u32 1 (fm k 11 1)) (fm h 10 1) * 4194304 + fm h 0 1023 * 4096 + fm k 0 2047 * 2)) false 0 0 0 false false := by
  have rs := fm_fact h 10 1 (by decide)
  have rp := fm_fact k 13 1 (by decide)
  have rq := fm_fact k 11 1 (by decide)
  have r10 := fm_fact h 0 1023 (by decide)
  have rl := fm_fact k 0 2047 (by decide)
  have r14 := fm_fact k 14 1 (by decide)
  have xa := xr _ _ rp rs
  have xb := xr _ _ rq rs
  unfold p16
  simp only [wf32, gf1 hh, gf1 hk, gf2 hk, gf3 hk, gf4 hh, gf4 hk, gf5 hh, gf5 hk, gf6 hh, gf10 hh, gf11 hk, gf8 hk, Int.reduceLE, v25_p rs xa xb r10 rl]
  rw [sign_prog25 (by omega), beqF (show fm k 12 1 ≠ 0 by omega), cond_false]
  obtain c14 | c14 : fm k 14 1 = 0 ∨ fm k 14 1 = 1 := by omega
  · rw [c14]
    rfl
  · rw [c14]
    rfl

theorem p16_21 {h k : Int} (hh : U16 h) (hk : U16 k) (c12 : fm k 12 1 = 0) (c14 : fm k 14 1 = 0) (cc : fm h 6 15 < 14) : p16 h k false = S30.mk 54 true false (fm h 6 15) 0 0 0 0
    (sg21 (fm h 10 1 * 1048576 + fm k 11 1 * 524288 + fm k 13 1 * 262144 + fm h 0 63 * 4096 + fm k 0 2047 * 2)) false 0 0 0 false false ∧ (p16 h k true).f_Op = 65 := by
  have rs := fm_fact h 10 1 (by decide)
  have rp := fm_fact k 13 1 (by decide)
  have rq := fm_fact k 11 1 (by decide)
  have r6 := fm_fact h 0 63 (by decide)
  have rl := fm_fact k 0 2047 (by decide)
  unfold p16
  simp only [wf32, gf1 hh, gf1 hk, gf2 hk, gf3 hk, gf4 hh, gf4 hk, gf5 hh, gf5 hk, gf6 hh, gf11 hk, gf8 hk, Int.reduceLE, v21_p rs rq rp r6 rl]
  have h21 : 0 ≤ fm h 10 1 * 1048576 + fm k 11 1 * 524288 + fm k 13 1 * 262144 + fm h 0 63 * 4096 + fm k 0 2047 * 2 ∧ fm h 10 1 * 1048576 + fm k 11 1 * 524288 + fm k 13 1 * 262144 + fm h 0 63 * 4096 + fm k 0 2047 * 2 < 2097152 := by omega
  rw [sign_prog21 h21, beqT c12, beqF (show fm k 14 1 ≠ 1 by omega), decide_eq_false (show ¬ fm h 6 15 ≥ 14 by omega)]
  generalize sg21 _ = w
  generalize fm h 6 15 = c
  constructor
  · kernel_rfl
  · kernel_rfl

/-- which row two halves are of -/
theorem dW_c1 {h k : Int} (hh : U16 h) (hk : U16 k) (i : Bool) (h11 : fm h 11 31 = 30) (b : fm k 15 1 = 1) : dW h k i = p16 h k i := by
  have w1 : wrapF .u32 h = h := wrapF_le hh.1 (by have := hh.2; simp only [topN, Int.ofNat_eq_natCast]; omega)
  have w2 : wrapF .u32 k = k := wrapF_le hk.1 (by have := hk.2; simp only [topN, Int.ofNat_eq_natCast]; omega)
  obtain ⟨d1, d2⟩ := decode_eq hh hk i
  obtain ⟨r, hr⟩ := Option.isSome_iff_exists.1 d1
  have hd : dW h k i = r := by unfold dW g10; rw [hr, Option.getD_some]
  rw [hd]
  have h9 : o9 h k i = some r := d2.trans hr
  unfold o9 at h9
  simp only [w1, w2, gf7 hh, gf1 hh, gf1 hk, s16_11 hh, s16_8 hh, s16_6 hh, Int.reduceLE] at h9
  rw [beqT h11, beqF (show fm k 15 1 ≠ 0 by omega)] at h9
  exact (Option.some.inj (show some (p16 h k i) = some r from h9)).symm

theorem dW_c23 {h k : Int} (hh : U16 h) (hk : U16 k) (i : Bool) (h11 : fm h 11 31 = 30) (b : fm k 15 1 = 0) : (fm h 9 1 = 0 → dW h k i = g17 h k i) ∧ (fm h 9 1 = 1 → dW h k i = p18 h k i) := by
  have w1 : wrapF .u32 h = h := wrapF_le hh.1 (by have := hh.2; simp only [topN, Int.ofNat_eq_natCast]; omega)
  have w2 : wrapF .u32 k = k := wrapF_le hk.1 (by have := hk.2; simp only [topN, Int.ofNat_eq_natCast]; omega)
  obtain ⟨d1, d2⟩ := decode_eq hh hk i
  obtain ⟨r, hr⟩ := Option.isSome_iff_exists.1 d1
  have hd : dW h k i = r := by unfold dW g10; rw [hr, Option.getD_some]
  rw [hd]
  have h9 : o9 h k i = some r := d2.trans hr
  unfold o9 at h9
  simp only [w1, w2, gf7 hh, gf1 hh, gf1 hk, s16_11 hh, s16_8 hh, s16_6 hh, Int.reduceLE] at h9
  rw [beqT h11, beqT b] at h9
  refine ⟨fun c => ?_, fun c => ?_⟩
  · rw [beqT c] at h9
    obtain ⟨q, q1, q2⟩ := modified_eq hh hk i
    rw [q2] at h9
    exact (Option.some.inj (show some (g17 h k i) = some r from h9)).symm
  · rw [beqF (show fm h 9 1 ≠ 0 by omega)] at h9
    exact (Option.some.inj (show some (p18 h k i) = some r from h9)).symm

/-- far branches: two halves for each -/
theorem far_of {s a b x l : Int} (rs : 0 ≤ s ∧ s ≤ 1) (ra : 0 ≤ a ∧ a ≤ 1) (rb : 0 ≤ b ∧ b ≤ 1) (rx : 0 ≤ x ∧ x ≤ 1023) (rl : 0 ≤ l ∧ l ≤ 2047) (t : Int) (rt : 0 ≤ t ∧ t ≤ 1) :
    ∃ h k, U16 h ∧ U16 k ∧ ∀ i, dW h k i = S30.mk (getI [54, 55] t.toNat) true false 14 0 0 0 0 (4278190080 * s + 8388608 * a + 4194304 * b + 4096 * x + 2 * l) false 0 0 0 false false := by
  have key : ∀ a : Int, (0 ≤ a ∧ a ≤ 1) → ∃ p : Int, (0 ≤ p ∧ p ≤ 1) ∧ bitsF .xor .u32 (bitsF .xor .u32 1 p) s = a := by
    intro a ra
    obtain rfl | rfl : s = 0 ∨ s = 1 := by omega
    all_goals
      obtain rfl | rfl : a = 0 ∨ a = 1 := by omega
      all_goals first | exact ⟨0, by decide, by decide +kernel⟩ | exact ⟨1, by decide, by decide +kernel⟩
  obtain ⟨p, rp, ep⟩ := key a ra
  obtain ⟨q, rq, eq⟩ := key b rb
  have hh : U16 (61440 + 1024 * s + x) := ⟨by omega, by omega⟩
  have hk : U16 (36864 + 16384 * t + 8192 * p + 2048 * q + l) := ⟨by omega, by omega⟩
  have s1 := hBr hh
  have s2 := kBr hk
  have b1 := fm_fact (61440 + 1024 * s + x) 11 31 (by decide)
  have b2 := fm_fact (61440 + 1024 * s + x) 10 1 (by decide)
  have b3 := fm_fact (61440 + 1024 * s + x) 0 1023 (by decide)
  have d1 := fm_fact (36864 + 16384 * t + 8192 * p + 2048 * q + l) 15 1 (by decide)
  have d2 := fm_fact (36864 + 16384 * t + 8192 * p + 2048 * q + l) 14 1 (by decide)
  have d3 := fm_fact (36864 + 16384 * t + 8192 * p + 2048 * q + l) 13 1 (by decide)
  have d4 := fm_fact (36864 + 16384 * t + 8192 * p + 2048 * q + l) 12 1 (by decide)
  have d5 := fm_fact (36864 + 16384 * t + 8192 * p + 2048 * q + l) 11 1 (by decide)
  have d6 := fm_fact (36864 + 16384 * t + 8192 * p + 2048 * q + l) 0 2047 (by decide)
  refine ⟨_, _, hh, hk, fun i => ?_⟩
  have f1 : fm (61440 + 1024 * s + x) 11 31 = 30 := by omega
  have f2 : fm (61440 + 1024 * s + x) 10 1 = s := by omega
  have f3 : fm (61440 + 1024 * s + x) 0 1023 = x := by omega
  have g1 : fm (36864 + 16384 * t + 8192 * p + 2048 * q + l) 15 1 = 1 := by omega
  have g2 : fm (36864 + 16384 * t + 8192 * p + 2048 * q + l) 14 1 = t := by omega
  have g3 : fm (36864 + 16384 * t + 8192 * p + 2048 * q + l) 13 1 = p := by omega
  have g4 : fm (36864 + 16384 * t + 8192 * p + 2048 * q + l) 12 1 = 1 := by omega
  have g5 : fm (36864 + 16384 * t + 8192 * p + 2048 * q + l) 11 1 = q := by omega
  have g6 : fm (36864 + 16384 * t + 8192 * p + 2048 * q + l) 0 2047 = l := by omega
  rw [dW_c1 hh hk i f1 g1, p16_25 hh hk i g4, f2, f3, g2, g3, g5, g6, ep, eq]
  have e25 : sg25 (s * 16777216 + a * 8388608 + b * 4194304 + x * 4096 + l * 2) = 4278190080 * s + 8388608 * a + 4194304 * b + 4096 * x + 2 * l := by
    unfold sg25
    split <;> omega
  rw [e25]

/-- near branches with a condition -/
theorem near_of {s q p x l c : Int} (rs : 0 ≤ s ∧ s ≤ 1) (rq : 0 ≤ q ∧ q ≤ 1) (rp : 0 ≤ p ∧ p ≤ 1) (rx : 0 ≤ x ∧ x ≤ 63) (rl : 0 ≤ l ∧ l ≤ 2047) (rc : 0 ≤ c ∧ c ≤ 13) :
    ∃ h k, U16 h ∧ U16 k ∧ dW h k false = S30.mk 54 true false c 0 0 0 0 (4293918720 * s + 524288 * q + 262144 * p + 4096 * x + 2 * l) false 0 0 0 false false ∧ (dW h k true).f_Op = 65 := by
  have hh : U16 (61440 + 1024 * s + 64 * c + x) := ⟨by omega, by omega⟩
  have hk : U16 (32768 + 8192 * p + 2048 * q + l) := ⟨by omega, by omega⟩
  have s1 := hBc hh
  have s2 := kBr hk
  have b1 := fm_fact (61440 + 1024 * s + 64 * c + x) 11 31 (by decide)
  have b2 := fm_fact (61440 + 1024 * s + 64 * c + x) 10 1 (by decide)
  have b3 := fm_fact (61440 + 1024 * s + 64 * c + x) 6 15 (by decide)
  have b4 := fm_fact (61440 + 1024 * s + 64 * c + x) 0 63 (by decide)
  have d1 := fm_fact (32768 + 8192 * p + 2048 * q + l) 15 1 (by decide)
  have d2 := fm_fact (32768 + 8192 * p + 2048 * q + l) 14 1 (by decide)
  have d3 := fm_fact (32768 + 8192 * p + 2048 * q + l) 13 1 (by decide)
  have d4 := fm_fact (32768 + 8192 * p + 2048 * q + l) 12 1 (by decide)
  have d5 := fm_fact (32768 + 8192 * p + 2048 * q + l) 11 1 (by decide)
  have d6 := fm_fact (32768 + 8192 * p + 2048 * q + l) 0 2047 (by decide)
  have f1 : fm (61440 + 1024 * s + 64 * c + x) 11 31 = 30 := by omega
  have f2 : fm (61440 + 1024 * s + 64 * c + x) 10 1 = s := by omega
  have f3 : fm (61440 + 1024 * s + 64 * c + x) 6 15 = c := by omega
  have f4 : fm (61440 + 1024 * s + 64 * c + x) 0 63 = x := by omega
  have g1 : fm (32768 + 8192 * p + 2048 * q + l) 15 1 = 1 := by omega
  have g2 : fm (32768 + 8192 * p + 2048 * q + l) 14 1 = 0 := by omega
  have g3 : fm (32768 + 8192 * p + 2048 * q + l) 13 1 = p := by omega
  have g4 : fm (32768 + 8192 * p + 2048 * q + l) 12 1 = 0 := by omega
  have g5 : fm (32768 + 8192 * p + 2048 * q + l) 11 1 = q := by omega
  have g6 : fm (32768 + 8192 * p + 2048 * q + l) 0 2047 = l := by omega
  obtain ⟨e1, e2⟩ := p16_21 hh hk g4 g2 (by omega)
  refine ⟨_, _, hh, hk, ?_, ?_⟩
  · rw [dW_c1 hh hk false f1 g1, e1, f2, f3, f4, g3, g5, g6]
    have e21 : sg21 (s * 1048576 + q * 524288 + p * 262144 + x * 4096 + l * 2) = 4293918720 * s + 524288 * q + 262144 * p + 4096 * x + 2 * l := by
      unfold sg21
      split <;> omega
    rw [e21]
  · rw [dW_c1 hh hk true f1 g1]
    exact e2

end Go.Den
