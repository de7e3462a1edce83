import Derived.Test.YtllippimokoioaaP1
import Derived.Test.YtllippimokoioaaDen28
namespace Go.Den

theorem u32_sub {a b : Int} (ha : 0 ≤ a ∧ a < 4294967296) (hb : 0 ≤ b ∧ b < 4294967296) : wrapF .u32 (a - b) = if a < b then a - b + 4294967296 else a - b := by
  show (a - b) % 4294967296 = _
  split <;> omega

theorem z5 {a b : Int} (ha : 0 ≤ a ∧ a < 4294967296) (hb : 0 ≤ b ∧ b < 4294967296) : (wrapF .u32 (a - b) == 0) = (a == b) := by
  rw [u32_sub ha hb, Bool.eq_iff_iff, beq_iff_eq, beq_iff_eq]
  split <;> omega

theorem i32_of {a : Int} (ha : 0 ≤ a ∧ a < 4294967296) : wrapF .i32 a = if 2147483648 ≤ a then a - 4294967296 else a := by
  have hu : unsK .i32 a = a.toNat := by
    show (a % 4294967296).toNat = a.toNat
    congr 1
    omega
  simp only [wrapF, hu]
  by_cases h : 2147483648 ≤ a
  · rw [if_pos h, Nat.ble_eq_true_of_le (n := 2147483648) (m := a.toNat) (by omega)]
    show (a.toNat : Int) - 4294967296 = _
    omega
  · rw [if_neg h]
    have : Nat.ble 2147483648 a.toNat = false := by
      rw [Bool.eq_false_iff]
      intro hb
      have := Nat.le_of_ble_eq_true hb
      omega
    rw [this]
    show (a.toNat : Int) = a
    omega

theorem top_of {a : Int} (ha : 0 ≤ a ∧ a < 4294967296) : (shrF .u32 a 31 == 1) = decide (2147483648 ≤ a) := by
  have : shrF .u32 a 31 = a / 2147483648 := by
    show a.fdiv 2147483648 = _
    rw [Int.fdiv_eq_ediv_of_nonneg _ (by omega)]
  rw [this, Bool.eq_iff_iff, beq_iff_eq, decide_eq_true_iff]
  omega

theorem uns_u32 {a : Int} (ha : 0 ≤ a ∧ a < 4294967296) : unsK .u32 a = a.toNat := by
  show (a % 4294967296).toNat = a.toNat
  congr 1
  omega

theorem top_nat {n : Nat} (hn : n < 4294967296) : (shrF .u32 (n : Int) 31 == 1) = n.testBit 31 := by
  rw [top_of (by omega), Bool.eq_iff_iff, decide_eq_true_iff, Nat.testBit_eq_decide_div_mod_eq, decide_eq_true_iff]
  omega

theorem bits_u32 {op : BinOp} {a b : Int} {f : Nat → Nat → Nat} (hf : ∀ x y, bitsN op 4294967296 x y = f x y) (hlt : ∀ x y, x < 4294967296 → y < 4294967296 → f x y < 4294967296) (ha : 0 ≤ a ∧ a < 4294967296) (hb : 0 ≤ b ∧ b < 4294967296) :
    bitsF op .u32 a b = (f a.toNat b.toNat : Int) := by
  unfold bitsF
  rw [uns_u32 ha, uns_u32 hb]
  show ((bitsN op 4294967296 a.toNat b.toNat : Nat) : Int) % 4294967296 = _
  rw [hf]
  have := hlt a.toNat b.toNat (by omega) (by omega)
  omega

theorem and_top {a b : Int} (ha : 0 ≤ a ∧ a < 4294967296) (hb : 0 ≤ b ∧ b < 4294967296) : (0 ≤ bitsF .and .u32 a b ∧ bitsF .and .u32 a b < 4294967296) ∧ (shrF .u32 (bitsF .and .u32 a b) 31 == 1) = ((shrF .u32 a 31 == 1) && (shrF .u32 b 31 == 1)) := by
  have hlt : ∀ x y : Nat, x < 4294967296 → y < 4294967296 → x &&& y < 4294967296 := fun x y hx hy => Nat.and_lt_two_pow (n := 32) x hy
  have h := bits_u32 (op := .and) (f := fun x y => x &&& y) (fun _ _ => rfl) hlt ha hb
  have := hlt a.toNat b.toNat (by omega) (by omega)
  rw [h]
  refine ⟨by omega, ?_⟩
  rw [top_nat this, Nat.testBit_and, ← top_nat (by omega), ← top_nat (n := b.toNat) (by omega)]
  rw [Int.toNat_of_nonneg ha.1, Int.toNat_of_nonneg hb.1]

theorem xor_top {a b : Int} (ha : 0 ≤ a ∧ a < 4294967296) (hb : 0 ≤ b ∧ b < 4294967296) : (0 ≤ bitsF .xor .u32 a b ∧ bitsF .xor .u32 a b < 4294967296) ∧ (shrF .u32 (bitsF .xor .u32 a b) 31 == 1) = ((shrF .u32 a 31 == 1) ^^ (shrF .u32 b 31 == 1)) := by
  have hlt : ∀ x y : Nat, x < 4294967296 → y < 4294967296 → x ^^^ y < 4294967296 := fun x y hx hy => Nat.xor_lt_two_pow (n := 32) hx hy
  have h := bits_u32 (op := .xor) (f := fun x y => x ^^^ y) (fun _ _ => rfl) hlt ha hb
  have := hlt a.toNat b.toNat (by omega) (by omega)
  rw [h]
  refine ⟨by omega, ?_⟩
  rw [top_nat this, Nat.testBit_xor, ← top_nat (by omega), ← top_nat (n := b.toNat) (by omega)]
  rw [Int.toNat_of_nonneg ha.1, Int.toNat_of_nonneg hb.1]

end Go.Den
