import Derived.Test.YtihdbaehaiaiiaaF8
set_option linter.unusedVariables false
set_option linter.unusedSimpArgs false
set_option maxRecDepth 100000
namespace Go.Den

/-- 0 none, 1 one that may not be, 2 an op and a shape, 3 the same of no condition -/
abbrev C3 := Nat × Int × Nat

noncomputable def mkC (h k : Int) (i : Bool) (g : Nat → Int → Int → S30) (c : C3) : S30 := match c.1 with
  | 0 => p24 h k i
  | 1 => p47 h k i 65
  | 2 => g c.2.2 c.2.1 14
  | _ => g c.2.2 c.2.1 0

theorem mkC_cond (h k : Int) (i : Bool) (g : Nat → Int → Int → S30) (b : Bool) (x y : C3) : mkC h k i g (cond b x y) = cond b (mkC h k i g x) (mkC h k i g y) := by cases b <;> rfl

theorem wrapR_cond (h k : Int) (i : Bool) (b : Bool) (x y : S30 × Bool) : wrapR h k i (cond b x y) = cond b (wrapR h k i x) (wrapR h k i y) := by cases b <;> rfl

theorem odd2 (x y : Int) : oddB [x, y] = cond (p81 x) true (p81 y) := by
  unfold oddB oddB oddB p81
  cases (x == 13) <;> cases (x == 15) <;> cases (y == 13) <;> cases (y == 15) <;> rfl

theorem odd3 (x y z : Int) : oddB [x, y, z] = cond (p81 x) true (cond (p81 y) true (p81 z)) := by
  unfold oddB
  rw [odd2]
  show cond (x == 13) true (cond (x == 15) true (cond (p81 y) true (p81 z))) = cond (cond (x == 13) true (x == 15)) true _
  cases (x == 13) <;> cases (x == 15) <;> rfl

theorem odd4 (x y z w : Int) : oddB [x, y, z, w] = cond (p81 x) true (cond (p81 y) true (cond (p81 z) true (p81 w))) := by
  unfold oddB
  rw [odd3]
  show cond (x == 13) true (cond (x == 15) true (cond (p81 y) true (cond (p81 z) true (p81 w)))) = cond (cond (x == 13) true (x == 15)) true _
  cases (x == 13) <;> cases (x == 15) <;> rfl

def eqC3 (a b : C3) : Bool := and1B (Nat.beq a.1 b.1) (and1B (ieq a.2.1 b.2.1) (Nat.beq a.2.2 b.2.2))

theorem eqC3_ok {a b : C3} (h : eqC3 a b = true) : a = b := by
  obtain ⟨h1, h⟩ := and1B_ok h
  obtain ⟨h2, h3⟩ := and1B_ok h
  obtain ⟨a1, a2, a3⟩ := a
  obtain ⟨b1, b2, b3⟩ := b
  simp only at h1 h2 h3
  rw [Nat.eq_of_beq_eq_true h1, ieq_ok h2, Nat.eq_of_beq_eq_true h3]

def allT (f : Bool → Bool) : Bool := and1B (f false) (f true)

theorem allT_ok {f : Bool → Bool} (h : allT f = true) (b : Bool) : f b = true := by
  obtain ⟨h1, h2⟩ := and1B_ok h
  cases b <;> assumption

theorem f7_4 {x : Int} (hx : U16 x) : fm x 7 1 = fm x 4 15 / 8 := by
  obtain ⟨n, rfl⟩ := Int.eq_ofNat_of_zero_le hx.1
  rw [show fm (n : Int) 7 1 = ((n / 2 ^ 7 % 2 ^ 1 : Nat) : Int) from fm_div n 7 1, show fm (n : Int) 4 15 = ((n / 2 ^ 4 % 2 ^ 4 : Nat) : Int) from fm_div n 4 4]
  omega

theorem f5_4 {x : Int} (hx : U16 x) : fm x 5 3 = fm x 4 15 / 2 % 4 := by
  obtain ⟨n, rfl⟩ := Int.eq_ofNat_of_zero_le hx.1
  rw [show fm (n : Int) 5 3 = ((n / 2 ^ 5 % 2 ^ 2 : Nat) : Int) from fm_div n 5 2, show fm (n : Int) 4 15 = ((n / 2 ^ 4 % 2 ^ 4 : Nat) : Int) from fm_div n 4 4]
  omega

theorem f43_4 {x : Int} (hx : U16 x) : fm x 4 7 = fm x 4 15 % 8 := by
  obtain ⟨n, rfl⟩ := Int.eq_ofNat_of_zero_le hx.1
  rw [show fm (n : Int) 4 7 = ((n / 2 ^ 4 % 2 ^ 3 : Nat) : Int) from fm_div n 4 3, show fm (n : Int) 4 15 = ((n / 2 ^ 4 % 2 ^ 4 : Nat) : Int) from fm_div n 4 4]
  omega

theorem f41_4 {x : Int} (hx : U16 x) : fm x 4 1 = fm x 4 15 % 2 := by
  obtain ⟨n, rfl⟩ := Int.eq_ofNat_of_zero_le hx.1
  rw [show fm (n : Int) 4 1 = ((n / 2 ^ 4 % 2 ^ 1 : Nat) : Int) from fm_div n 4 1, show fm (n : Int) 4 15 = ((n / 2 ^ 4 % 2 ^ 4 : Nat) : Int) from fm_div n 4 4]
  omega

theorem k63_4 {x : Int} (hx : U16 x) : fm x 6 3 = fm x 4 15 / 4 := by
  obtain ⟨n, rfl⟩ := Int.eq_ofNat_of_zero_le hx.1
  rw [show fm (n : Int) 6 3 = ((n / 2 ^ 6 % 2 ^ 2 : Nat) : Int) from fm_div n 6 2, show fm (n : Int) 4 15 = ((n / 2 ^ 4 % 2 ^ 4 : Nat) : Int) from fm_div n 4 4]
  omega

theorem k43_4 {x : Int} (hx : U16 x) : fm x 4 3 = fm x 4 15 % 4 := by
  obtain ⟨n, rfl⟩ := Int.eq_ofNat_of_zero_le hx.1
  rw [show fm (n : Int) 4 3 = ((n / 2 ^ 4 % 2 ^ 2 : Nat) : Int) from fm_div n 4 2, show fm (n : Int) 4 15 = ((n / 2 ^ 4 % 2 ^ 4 : Nat) : Int) from fm_div n 4 4]
  omega

end Go.Den
