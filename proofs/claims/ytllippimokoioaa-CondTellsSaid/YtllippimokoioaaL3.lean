import Derived.Test.YtllippimokoioaaP1
import Derived.Test.YtllippimokoioaaL5
namespace Go.Den

def inInt (a : Int) : Prop := -9223372036854775808 ≤ a ∧ a ≤ 9223372036854775807

theorem andNot1 {a : Int} (h : inInt a) : bitsF .andNot .i64 a 1 = 2 * (a / 2) := by
  obtain ⟨h0, h1⟩ := h
  have hu : unsK .i64 a = (a % 18446744073709551616).toNat := rfl
  have h2 : bitsN .andNot 18446744073709551616 (unsK .i64 a) 1 = 2 * (unsK .i64 a / 2) := by
    generalize hn : unsK .i64 a = n
    have hlt : n < 2 ^ 64 := by omega
    show Nat.land n 18446744073709551614 = _
    show n &&& 18446744073709551614 = _
    apply Nat.eq_of_testBit_eq
    intro i
    rw [Nat.testBit_and]
    cases i with
    | zero =>
      have : (2 * (n / 2)).testBit 0 = false := by
        rw [Nat.testBit_zero]; simp
      rw [this]; simp
    | succ i =>
      rw [show 2 * (n / 2) = 2 * (n / 2) + 0 by rfl, Nat.testBit_succ, Nat.testBit_succ, Nat.testBit_succ]
      have : (2 * (n / 2) + 0) / 2 = n / 2 := by omega
      rw [this]
      by_cases hi : i < 63
      · have : (18446744073709551614 / 2).testBit i = true := by
          rw [show 18446744073709551614 / 2 = 2 ^ 63 - 1 by rfl, Nat.testBit_two_pow_sub_one]
          simp [hi]
        rw [this]; simp
      · have : (n / 2).testBit i = false := by
          apply Nat.testBit_lt_two_pow
          have : n / 2 < 2 ^ 63 := by omega
          exact Nat.lt_of_lt_of_le this (Nat.pow_le_pow_right (by omega) (by omega))
        rw [this]; simp
  unfold bitsF
  rw [show modK .i64 = 18446744073709551616 from rfl, show unsK .i64 1 = 1 from rfl, h2, wrapF_eq]
  unfold IntKind.wrap
  simp only [IntKind.signed, IntKind.bits, Bool.true_and, Int.ofNat_eq_natCast]
  split
  · rename_i hs
    have hs := of_decide_eq_true hs
    omega
  · rename_i hs
    have hs := of_decide_eq_false (Bool.eq_false_iff.2 hs)
    omega

theorem and1 {a : Int} (h : inInt a) : bitsF .and .i64 a 1 = a % 2 := by
  obtain ⟨h0, h1⟩ := h
  have hu : unsK .i64 a = (a % 18446744073709551616).toNat := rfl
  have : bitsN .and (modK .i64) (unsK .i64 a) (unsK .i64 1) = unsK .i64 a % 2 := by
    show Nat.land _ 1 = _
    exact Nat.and_one_is_mod _
  have h3 := and_fact .i64 a 1 (by decide) (by decide)
  unfold bitsF at h3 ⊢
  rw [this] at h3 ⊢
  rw [wrapF_id (by simp only [Int.ofNat_eq_natCast]; omega) (by simp only [Int.ofNat_eq_natCast, halfK]; omega)]
  simp only [Int.ofNat_eq_natCast]
  omega

theorem upto {n : Int} (m : Nat) (P : Int → Prop) (h : ∀ i < m, P (i : Int)) (h0 : 0 ≤ n) (h1 : n < m) : P n := by
  have := h n.toNat (by omega)
  rwa [Int.toNat_of_nonneg h0] at this

theorem out16 {a f : Int} (h : inInt a) (ho : a < 0 ∨ 14 < a) : p16 a f = false := by
  unfold p16
  rw [andNot1 h]
  have e : ∀ m : Int, 0 ≤ m → m < 14 → (2 * (a / 2) == m) = false := fun m h0 h1 => by
    rw [beq_eq_false_iff_ne]; omega
  rw [e 0 (by omega) (by omega), e 2 (by omega) (by omega), e 4 (by omega) (by omega), e 6 (by omega) (by omega), e 8 (by omega) (by omega), e 10 (by omega) (by omega), e 12 (by omega) (by omega)]
  simp only [cond_false]
  cases (2 * (a / 2) == 14)
  · rfl
  · simp only [cond_true]; rw [beq_eq_false_iff_ne]; omega

theorem out17 {a f : Int} (ho : a < 0 ∨ 14 < a) : p17 a f = false := by
  unfold p17
  by_cases h : a < 0
  · rw [decide_eq_true h]; rfl
  · rw [decide_eq_false h, decide_eq_true (show a > 14 by omega)]; rfl

theorem in1617 : ∀ i < 15, ∀ f : Int, p16 (i : Nat) f = p17 (i : Nat) f := by
  intro i hi f
  unfold p16 p17
  generalize (bitsF BinOp.and IntKind.i64 f 4 != 0) = z
  generalize (bitsF BinOp.and IntKind.i64 f 2 != 0) = c
  generalize (bitsF BinOp.and IntKind.i64 f 8 != 0) = n
  generalize (bitsF BinOp.and IntKind.i64 f 1 != 0) = v
  revert i z c n v
  decide +kernel

theorem eq1617 {a : Int} (f : Int) (h : inInt a) : p16 a f = p17 a f := by
  by_cases ho : a < 0 ∨ 14 < a
  · rw [out16 h ho, out17 ho]
  · exact upto 15 (fun a => p16 a f = p17 a f) (fun i hi => in1617 i hi f) (by omega) (by omega)

theorem eq2021 (a : Int) : p20 a = p21 a := by
  unfold p20 p21
  rw [show decide (a ≥ 14) = decide (a > 13) by rw [decide_eq_decide]; omega]

theorem eq2425 : ∀ a b c d : Bool, p24 a b c d = p25 a b c d := by decide +kernel

theorem eq2223 {v : Int} (a b : Bool) (h : 0 ≤ v ∧ v < 4294967296) : p22 v a b = p23 v a b := by
  unfold p22 p23
  rw [eq2425]
  congr 1
  have hs : shrF .u32 v 31 = v / 2147483648 := by
    show v.fdiv 2147483648 = _
    rw [Int.fdiv_eq_ediv_of_nonneg _ (by omega)]
  have h1 : bitsF .and .u32 (v / 2147483648) 1 = v / 2147483648 := by
    by_cases hv : v < 2147483648
    · rw [show v / 2147483648 = 0 by omega]; rfl
    · rw [show v / 2147483648 = 1 by omega]; rfl
  unfold o42
  rw [hs]
  simp only [show decide ((31 : Int) < 0) = false from rfl, cond_false, Option.getD_some]
  rw [h1]

theorem in32 {v : Int} : 0 ≤ bitsF .and .u32 v 1 ∧ bitsF .and .u32 v 1 < 4294967296 := by
  have := and_fact .u32 v 1 (by decide) (by decide)
  omega

theorem in64 {v : Int} : 0 ≤ bitsF .and .i64 v 15 ∧ bitsF .and .i64 v 15 < 16 := by
  have := and_fact .i64 v 15 (by decide) (by decide)
  omega

theorem p3_ok {c f v : Int} (a b : Bool) (hc : inInt c) (hv : 0 ≤ v ∧ v < 4294967296) : p3 c f v a b = true := by
  unfold p3
  rw [eq1617 f hc, eq2021, eq2021, eq2223 a b hv, eq2223 a b in32, show p18 = p19 from rfl]
  simp only [beq_self_eq_true, cond_true]

theorem law4a : ∀ k < 14, ∀ f : Int, (p16 (k : Nat) f == p16 (p20 (k : Nat)) f) = false ∧ (p20 (p20 (k : Nat)) == (k : Nat)) = true := by
  intro k hk f
  unfold p16
  generalize (bitsF BinOp.and IntKind.i64 f 4 != 0) = z
  generalize (bitsF BinOp.and IntKind.i64 f 2 != 0) = c
  generalize (bitsF BinOp.and IntKind.i64 f 8 != 0) = n
  generalize (bitsF BinOp.and IntKind.i64 f 1 != 0) = v
  revert k z c n v
  decide +kernel

theorem law4b : ∀ k < 14, ∀ n z c v : Bool, (p16 (k : Nat) (p24 n z c v) == p16 (k : Nat) (bitsF .or .i64 (p24 n z c v) 16)) = true := by
  decide +kernel

theorem law4c : ∀ f : Int, p16 14 f = true := by
  intro f
  rfl

theorem p4_ok {c f : Int} (n z cc v : Bool) : p4 c f n z cc v = true := by
  unfold p4
  have hk := @in64 c
  generalize bitsF .and .i64 c 15 = k at hk ⊢
  by_cases hb : k > 13
  · rw [decide_eq_true hb]
    exact law4c f
  · rw [decide_eq_false hb]
    simp only [cond_false]
    refine upto 14 (fun k => (cond (!p16 k (p24 n z cc v) == p16 (p20 k) (p24 n z cc v)) (cond (!p16 k f == p16 (p20 k) f) (cond (p20 (p20 k) == k) (cond (p24 n z cc v == p25 n z cc v) (p16 k (p24 n z cc v) == p16 k (bitsF BinOp.or IntKind.i64 (p24 n z cc v) 16)) false) false) false) false) = true) (fun i hi => ?_) hk.1 (by omega)
    rw [(law4a i hi (p24 n z cc v)).1, (law4a i hi f).1, (law4a i hi f).2, law4b i hi, eq2425]
    simp only [beq_self_eq_true, Bool.not_false, cond_true]

end Go.Den
