import Derived.Test.YtllippimokoioaaL5
namespace Go.Den

theorem p5_ok {a b : Int} (ha : 0 ≤ a ∧ a < 4294967296) (hb : 0 ≤ b ∧ b < 4294967296) : p5 a b = true := by
  have hd : 0 ≤ wrapF .u32 (a - b) ∧ wrapF .u32 (a - b) < 4294967296 := by
    rw [u32_sub ha hb]
    split <;> omega
  have hx1 := xor_top ha hb
  have hx2 := xor_top ha hd
  have hv := (and_top hx1.1 hx2.1).2
  rw [hx1.2, hx2.2] at hv
  have hz := z5 ha hb
  have hN := top_of hd
  have e1 : (a != b) = !(a == b) := rfl
  have e2 : decide (a < b) = !decide (a ≥ b) := by
    rw [Bool.eq_iff_iff]; simp
  have e3 : decide (a > b) = (decide (a ≥ b) && !(a == b)) := by
    rw [Bool.eq_iff_iff]; simp; omega
  have e4 : decide (a ≤ b) = !(decide (a ≥ b) && !(a == b)) := by
    rw [Bool.eq_iff_iff]; simp; omega
  have hge : decide (wrapF .i32 a ≥ wrapF .i32 b) = ((shrF .u32 (wrapF .u32 (a - b)) 31 == 1) == (((shrF .u32 a 31 == 1) ^^ (shrF .u32 b 31 == 1)) && ((shrF .u32 a 31 == 1) ^^ (shrF .u32 (wrapF .u32 (a - b)) 31 == 1)))) := by
    rw [hN, top_of ha, top_of hb, i32_of ha, i32_of hb, u32_sub ha hb]
    rw [Bool.eq_iff_iff]
    by_cases h1 : 2147483648 ≤ a <;> by_cases h2 : 2147483648 ≤ b <;> by_cases h3 : a < b <;> simp [h1, h2, h3] <;> omega
  have heq : wrapF .i32 a = wrapF .i32 b ↔ a = b := by
    rw [i32_of ha, i32_of hb]
    split <;> split <;> omega
  have e5 : decide (wrapF .i32 a < wrapF .i32 b) = !decide (wrapF .i32 a ≥ wrapF .i32 b) := by
    rw [Bool.eq_iff_iff]; simp
  have e6 : decide (wrapF .i32 a > wrapF .i32 b) = (decide (wrapF .i32 a ≥ wrapF .i32 b) && !(a == b)) := by
    rw [Bool.eq_iff_iff]; simp; omega
  have e7 : decide (wrapF .i32 a ≤ wrapF .i32 b) = !(decide (wrapF .i32 a ≥ wrapF .i32 b) && !(a == b)) := by
    rw [Bool.eq_iff_iff]; simp; omega
  have hzc : (a == b) = true → decide (a ≥ b) = true := by simp; omega
  unfold p5 p22
  rw [e5, e6, e7, hge, hv, hz, e1, e2, e3, e4]
  revert hzc
  generalize (a == b) = z
  generalize decide (a ≥ b) = c
  generalize (shrF IntKind.u32 (wrapF IntKind.u32 (a - b)) 31 == 1) = n
  generalize (shrF IntKind.u32 a 31 == 1) = p
  generalize (shrF IntKind.u32 b 31 == 1) = q
  revert z c n p q
  decide +kernel

end Go.Den
