import Derived.Test.YtihdbaehaiaiiaaY4
import Derived.Test.YtihdbaehaiaiiaaY5
import Derived.Test.YtihdbaehaiaiiaaY6
import Derived.Test.YtihdbaehaiaiiaaY7
import Derived.Test.YtihdbaehaiaiiaaY8
set_option linter.unusedSimpArgs false
set_option linter.unusedVariables false
set_option maxRecDepth 100000
namespace Go.Den

theorem nib {x : Int} (hx : U16 x) : x = 4096 * fm x 12 15 + 256 * fm x 8 15 + 16 * fm x 4 15 + fm x 0 15 := by
  obtain ⟨n, rfl⟩ := Int.eq_ofNat_of_zero_le hx.1
  have hn : n ≤ 65535 := by have := hx.2; omega
  rw [show fm (n : Int) 12 15 = ((n / 2 ^ 12 % 2 ^ 4 : Nat) : Int) from fm_div n 12 4, show fm (n : Int) 8 15 = ((n / 2 ^ 8 % 2 ^ 4 : Nat) : Int) from fm_div n 8 4, show fm (n : Int) 4 15 = ((n / 2 ^ 4 % 2 ^ 4 : Nat) : Int) from fm_div n 4 4, show fm (n : Int) 0 15 = ((n / 2 ^ 0 % 2 ^ 4 : Nat) : Int) from fm_div n 0 4]
  omega

theorem h84 {x : Int} (hx : U16 x) : x = 256 * fm x 8 255 + 16 * fm x 4 15 + fm x 0 15 := by
  obtain ⟨n, rfl⟩ := Int.eq_ofNat_of_zero_le hx.1
  have hn : n ≤ 65535 := by have := hx.2; omega
  rw [show fm (n : Int) 8 255 = ((n / 2 ^ 8 % 2 ^ 8 : Nat) : Int) from fm_div n 8 8, show fm (n : Int) 4 15 = ((n / 2 ^ 4 % 2 ^ 4 : Nat) : Int) from fm_div n 4 4, show fm (n : Int) 0 15 = ((n / 2 ^ 0 % 2 ^ 4 : Nat) : Int) from fm_div n 0 4]
  omega

theorem hMe {x : Int} (hx : U16 x) : x = 512 * fm x 9 127 + 256 * fm x 8 1 + 128 * fm x 7 1 + 32 * fm x 5 3 + 16 * fm x 4 1 + fm x 0 15 := by
  obtain ⟨n, rfl⟩ := Int.eq_ofNat_of_zero_le hx.1
  have hn : n ≤ 65535 := by have := hx.2; omega
  rw [show fm (n : Int) 9 127 = ((n / 2 ^ 9 % 2 ^ 7 : Nat) : Int) from fm_div n 9 7, show fm (n : Int) 8 1 = ((n / 2 ^ 8 % 2 ^ 1 : Nat) : Int) from fm_div n 8 1, show fm (n : Int) 7 1 = ((n / 2 ^ 7 % 2 ^ 1 : Nat) : Int) from fm_div n 7 1, show fm (n : Int) 5 3 = ((n / 2 ^ 5 % 2 ^ 2 : Nat) : Int) from fm_div n 5 2, show fm (n : Int) 4 1 = ((n / 2 ^ 4 % 2 ^ 1 : Nat) : Int) from fm_div n 4 1, show fm (n : Int) 0 15 = ((n / 2 ^ 0 % 2 ^ 4 : Nat) : Int) from fm_div n 0 4]
  omega

theorem kWd {x : Int} (hx : U16 x) : x = 4096 * fm x 12 15 + fm x 0 4095 := by
  obtain ⟨n, rfl⟩ := Int.eq_ofNat_of_zero_le hx.1
  have hn : n ≤ 65535 := by have := hx.2; omega
  rw [show fm (n : Int) 12 15 = ((n / 2 ^ 12 % 2 ^ 4 : Nat) : Int) from fm_div n 12 4, show fm (n : Int) 0 4095 = ((n / 2 ^ 0 % 2 ^ 12 : Nat) : Int) from fm_div n 0 12]
  omega

theorem kMe {x : Int} (hx : U16 x) : x = 4096 * fm x 12 15 + 64 * fm x 6 63 + 16 * fm x 4 3 + fm x 0 15 := by
  obtain ⟨n, rfl⟩ := Int.eq_ofNat_of_zero_le hx.1
  have hn : n ≤ 65535 := by have := hx.2; omega
  rw [show fm (n : Int) 12 15 = ((n / 2 ^ 12 % 2 ^ 4 : Nat) : Int) from fm_div n 12 4, show fm (n : Int) 6 63 = ((n / 2 ^ 6 % 2 ^ 6 : Nat) : Int) from fm_div n 6 6, show fm (n : Int) 4 3 = ((n / 2 ^ 4 % 2 ^ 2 : Nat) : Int) from fm_div n 4 2, show fm (n : Int) 0 15 = ((n / 2 ^ 0 % 2 ^ 4 : Nat) : Int) from fm_div n 0 4]
  omega

theorem hMo {x : Int} (hx : U16 x) : x = 2048 * fm x 11 31 + 1024 * fm x 10 1 + 512 * fm x 9 1 + 32 * fm x 5 15 + 16 * fm x 4 1 + fm x 0 15 := by
  obtain ⟨n, rfl⟩ := Int.eq_ofNat_of_zero_le hx.1
  have hn : n ≤ 65535 := by have := hx.2; omega
  rw [show fm (n : Int) 11 31 = ((n / 2 ^ 11 % 2 ^ 5 : Nat) : Int) from fm_div n 11 5, show fm (n : Int) 10 1 = ((n / 2 ^ 10 % 2 ^ 1 : Nat) : Int) from fm_div n 10 1, show fm (n : Int) 9 1 = ((n / 2 ^ 9 % 2 ^ 1 : Nat) : Int) from fm_div n 9 1, show fm (n : Int) 5 15 = ((n / 2 ^ 5 % 2 ^ 4 : Nat) : Int) from fm_div n 5 4, show fm (n : Int) 4 1 = ((n / 2 ^ 4 % 2 ^ 1 : Nat) : Int) from fm_div n 4 1, show fm (n : Int) 0 15 = ((n / 2 ^ 0 % 2 ^ 4 : Nat) : Int) from fm_div n 0 4]
  omega

theorem kMo {x : Int} (hx : U16 x) : x = 32768 * fm x 15 1 + 4096 * fm x 12 7 + 256 * fm x 8 15 + fm x 0 255 := by
  obtain ⟨n, rfl⟩ := Int.eq_ofNat_of_zero_le hx.1
  have hn : n ≤ 65535 := by have := hx.2; omega
  rw [show fm (n : Int) 15 1 = ((n / 2 ^ 15 % 2 ^ 1 : Nat) : Int) from fm_div n 15 1, show fm (n : Int) 12 7 = ((n / 2 ^ 12 % 2 ^ 3 : Nat) : Int) from fm_div n 12 3, show fm (n : Int) 8 15 = ((n / 2 ^ 8 % 2 ^ 4 : Nat) : Int) from fm_div n 8 4, show fm (n : Int) 0 255 = ((n / 2 ^ 0 % 2 ^ 8 : Nat) : Int) from fm_div n 0 8]
  omega

theorem hSh {x : Int} (hx : U16 x) : x = 512 * fm x 9 127 + 32 * fm x 5 15 + 16 * fm x 4 1 + fm x 0 15 := by
  obtain ⟨n, rfl⟩ := Int.eq_ofNat_of_zero_le hx.1
  have hn : n ≤ 65535 := by have := hx.2; omega
  rw [show fm (n : Int) 9 127 = ((n / 2 ^ 9 % 2 ^ 7 : Nat) : Int) from fm_div n 9 7, show fm (n : Int) 5 15 = ((n / 2 ^ 5 % 2 ^ 4 : Nat) : Int) from fm_div n 5 4, show fm (n : Int) 4 1 = ((n / 2 ^ 4 % 2 ^ 1 : Nat) : Int) from fm_div n 4 1, show fm (n : Int) 0 15 = ((n / 2 ^ 0 % 2 ^ 4 : Nat) : Int) from fm_div n 0 4]
  omega

theorem kSh {x : Int} (hx : U16 x) : x = 32768 * fm x 15 1 + 4096 * fm x 12 7 + 256 * fm x 8 15 + 64 * fm x 6 3 + 16 * fm x 4 3 + fm x 0 15 := by
  obtain ⟨n, rfl⟩ := Int.eq_ofNat_of_zero_le hx.1
  have hn : n ≤ 65535 := by have := hx.2; omega
  rw [show fm (n : Int) 15 1 = ((n / 2 ^ 15 % 2 ^ 1 : Nat) : Int) from fm_div n 15 1, show fm (n : Int) 12 7 = ((n / 2 ^ 12 % 2 ^ 3 : Nat) : Int) from fm_div n 12 3, show fm (n : Int) 8 15 = ((n / 2 ^ 8 % 2 ^ 4 : Nat) : Int) from fm_div n 8 4, show fm (n : Int) 6 3 = ((n / 2 ^ 6 % 2 ^ 2 : Nat) : Int) from fm_div n 6 2, show fm (n : Int) 4 3 = ((n / 2 ^ 4 % 2 ^ 2 : Nat) : Int) from fm_div n 4 2, show fm (n : Int) 0 15 = ((n / 2 ^ 0 % 2 ^ 4 : Nat) : Int) from fm_div n 0 4]
  omega

theorem hNu {x : Int} (hx : U16 x) : x = 2048 * fm x 11 31 + 1024 * fm x 10 1 + 512 * fm x 9 1 + 16 * fm x 4 31 + fm x 0 15 := by
  obtain ⟨n, rfl⟩ := Int.eq_ofNat_of_zero_le hx.1
  have hn : n ≤ 65535 := by have := hx.2; omega
  rw [show fm (n : Int) 11 31 = ((n / 2 ^ 11 % 2 ^ 5 : Nat) : Int) from fm_div n 11 5, show fm (n : Int) 10 1 = ((n / 2 ^ 10 % 2 ^ 1 : Nat) : Int) from fm_div n 10 1, show fm (n : Int) 9 1 = ((n / 2 ^ 9 % 2 ^ 1 : Nat) : Int) from fm_div n 9 1, show fm (n : Int) 4 31 = ((n / 2 ^ 4 % 2 ^ 5 : Nat) : Int) from fm_div n 4 5, show fm (n : Int) 0 15 = ((n / 2 ^ 0 % 2 ^ 4 : Nat) : Int) from fm_div n 0 4]
  omega

theorem kFi {x : Int} (hx : U16 x) : x = 32768 * fm x 15 1 + 4096 * fm x 12 7 + 256 * fm x 8 15 + 64 * fm x 6 3 + 32 * fm x 5 1 + fm x 0 31 := by
  obtain ⟨n, rfl⟩ := Int.eq_ofNat_of_zero_le hx.1
  have hn : n ≤ 65535 := by have := hx.2; omega
  rw [show fm (n : Int) 15 1 = ((n / 2 ^ 15 % 2 ^ 1 : Nat) : Int) from fm_div n 15 1, show fm (n : Int) 12 7 = ((n / 2 ^ 12 % 2 ^ 3 : Nat) : Int) from fm_div n 12 3, show fm (n : Int) 8 15 = ((n / 2 ^ 8 % 2 ^ 4 : Nat) : Int) from fm_div n 8 4, show fm (n : Int) 6 3 = ((n / 2 ^ 6 % 2 ^ 2 : Nat) : Int) from fm_div n 6 2, show fm (n : Int) 5 1 = ((n / 2 ^ 5 % 2 ^ 1 : Nat) : Int) from fm_div n 5 1, show fm (n : Int) 0 31 = ((n / 2 ^ 0 % 2 ^ 5 : Nat) : Int) from fm_div n 0 5]
  omega

theorem hBc {x : Int} (hx : U16 x) : x = 2048 * fm x 11 31 + 1024 * fm x 10 1 + 64 * fm x 6 15 + fm x 0 63 := by
  obtain ⟨n, rfl⟩ := Int.eq_ofNat_of_zero_le hx.1
  have hn : n ≤ 65535 := by have := hx.2; omega
  rw [show fm (n : Int) 11 31 = ((n / 2 ^ 11 % 2 ^ 5 : Nat) : Int) from fm_div n 11 5, show fm (n : Int) 10 1 = ((n / 2 ^ 10 % 2 ^ 1 : Nat) : Int) from fm_div n 10 1, show fm (n : Int) 6 15 = ((n / 2 ^ 6 % 2 ^ 4 : Nat) : Int) from fm_div n 6 4, show fm (n : Int) 0 63 = ((n / 2 ^ 0 % 2 ^ 6 : Nat) : Int) from fm_div n 0 6]
  omega

theorem hBr {x : Int} (hx : U16 x) : x = 2048 * fm x 11 31 + 1024 * fm x 10 1 + fm x 0 1023 := by
  obtain ⟨n, rfl⟩ := Int.eq_ofNat_of_zero_le hx.1
  have hn : n ≤ 65535 := by have := hx.2; omega
  rw [show fm (n : Int) 11 31 = ((n / 2 ^ 11 % 2 ^ 5 : Nat) : Int) from fm_div n 11 5, show fm (n : Int) 10 1 = ((n / 2 ^ 10 % 2 ^ 1 : Nat) : Int) from fm_div n 10 1, show fm (n : Int) 0 1023 = ((n / 2 ^ 0 % 2 ^ 10 : Nat) : Int) from fm_div n 0 10]
  omega

theorem kBr {x : Int} (hx : U16 x) : x = 32768 * fm x 15 1 + 16384 * fm x 14 1 + 8192 * fm x 13 1 + 4096 * fm x 12 1 + 2048 * fm x 11 1 + fm x 0 2047 := by
  obtain ⟨n, rfl⟩ := Int.eq_ofNat_of_zero_le hx.1
  have hn : n ≤ 65535 := by have := hx.2; omega
  rw [show fm (n : Int) 15 1 = ((n / 2 ^ 15 % 2 ^ 1 : Nat) : Int) from fm_div n 15 1, show fm (n : Int) 14 1 = ((n / 2 ^ 14 % 2 ^ 1 : Nat) : Int) from fm_div n 14 1, show fm (n : Int) 13 1 = ((n / 2 ^ 13 % 2 ^ 1 : Nat) : Int) from fm_div n 13 1, show fm (n : Int) 12 1 = ((n / 2 ^ 12 % 2 ^ 1 : Nat) : Int) from fm_div n 12 1, show fm (n : Int) 11 1 = ((n / 2 ^ 11 % 2 ^ 1 : Nat) : Int) from fm_div n 11 1, show fm (n : Int) 0 2047 = ((n / 2 ^ 0 % 2 ^ 11 : Nat) : Int) from fm_div n 0 11]
  omega

theorem hMa {x : Int} (hx : U16 x) : x = 64 * fm x 6 1023 + 32 * fm x 5 1 + 16 * fm x 4 1 + fm x 0 15 := by
  obtain ⟨n, rfl⟩ := Int.eq_ofNat_of_zero_le hx.1
  have hn : n ≤ 65535 := by have := hx.2; omega
  rw [show fm (n : Int) 6 1023 = ((n / 2 ^ 6 % 2 ^ 10 : Nat) : Int) from fm_div n 6 10, show fm (n : Int) 5 1 = ((n / 2 ^ 5 % 2 ^ 1 : Nat) : Int) from fm_div n 5 1, show fm (n : Int) 4 1 = ((n / 2 ^ 4 % 2 ^ 1 : Nat) : Int) from fm_div n 4 1, show fm (n : Int) 0 15 = ((n / 2 ^ 0 % 2 ^ 4 : Nat) : Int) from fm_div n 0 4]
  omega

def or1B (a b : Bool) : Bool := match a with
  | true => true
  | false => b

theorem or1B_ok {a b : Bool} (h : or1B a b = true) : a = true ∨ b = true := by
  cases a
  · exact Or.inr h
  · exact Or.inl rfl

theorem good_leaf {h k H K : Int} {y : S30} (l : o35y y = some (H, K) ∧ [H, K] ∈ cands y) (eh : H = h) (ek : K = k) (b : Bnd y) : GoodE h k y := by
  rw [eh, ek] at l
  exact Or.inr (Or.inr ⟨l.1, l.2, b⟩)

theorem mkC0 {h k : Int} {i : Bool} (g : Nat → Int → Int → S30) (c : C3) (hc : c.1 = 0) : (mkC h k i g c).f_Op = 64 := by
  obtain ⟨c1, c2, c3⟩ := c
  simp only at hc
  subst hc
  rfl

theorem mkC1 {h k : Int} {i : Bool} (g : Nat → Int → Int → S30) (c : C3) (hc : c.1 = 1) : (mkC h k i g c).f_Op = 65 := by
  obtain ⟨c1, c2, c3⟩ := c
  simp only at hc
  subst hc
  rfl

theorem negz {x : Int} (hx : 1 ≤ x ∧ x ≤ 4095) : (4096 ≤ wrapF .u32 (0 - x) ∧ wrapF .u32 (0 - x) ≤ 4294967295) ∧ wU (0 - wrapF .u32 (0 - x)) = x := by
  have e : wrapF .u32 (0 - x) = 4294967296 - x := by
    rw [wrapF_eq]
    unfold IntKind.wrap
    simp only [IntKind.signed, IntKind.bits, Bool.false_and, Bool.false_eq_true, if_false]
    omega
  have e2 : wrapF .u32 (0 - (4294967296 - x)) = x := by
    rw [wrapF_eq]
    unfold IntKind.wrap
    simp only [IntKind.signed, IntKind.bits, Bool.false_and, Bool.false_eq_true, if_false]
    omega
  rw [e]
  exact ⟨by omega, e2⟩

noncomputable def lawUn (m : Nat) (bn : Bool) (bnm : Bool) (on : Bool) (od : Bool) (om : Bool) (c : C3) : Bool := or1B (Nat.beq c.1 0) (or1B (Nat.beq c.1 1) (or1B (and1B (Nat.beq (m / 16 % 16) 0) (and1B (Nat.beq (m / 1 % 16) 0) (eqC3 c (2, 17, 0)))) (or1B (and1B (Nat.beq (m / 16 % 16) 1) (and1B (Nat.beq (m / 1 % 16) 0) (eqC3 c (2, 17, 0)))) (or1B (and1B (Nat.beq (m / 16 % 16) 2) (and1B (Nat.beq (m / 1 % 16) 0) (eqC3 c (2, 18, 0)))) (or1B (and1B (Nat.beq (m / 16 % 16) 3) (and1B (Nat.beq (m / 1 % 16) 0) (eqC3 c (2, 18, 0)))) (or1B (and1B (Nat.beq (m / 16 % 16) 4) (and1B (Nat.beq (m / 1 % 16) 0) (eqC3 c (2, 19, 0)))) (or1B (and1B (Nat.beq (m / 16 % 16) 5) (and1B (Nat.beq (m / 1 % 16) 0) (eqC3 c (2, 19, 0)))) (or1B (and1B (Nat.beq (m / 16 % 16) 6) (and1B (Nat.beq (m / 1 % 16) 0) (eqC3 c (2, 20, 0)))) (or1B (and1B (Nat.beq (m / 16 % 16) 7) (and1B (Nat.beq (m / 1 % 16) 0) (eqC3 c (2, 20, 0)))) (or1B (and1B (Nat.beq (m / 16 % 16) 0) (and1B (Nat.beq (m / 1 % 16) 8) (and1B bn (eqC3 c (2, 40, 1))))) (or1B (and1B (Nat.beq (m / 16 % 16) 1) (and1B (Nat.beq (m / 1 % 16) 8) (and1B bn (eqC3 c (2, 42, 1))))) (or1B (and1B (Nat.beq (m / 16 % 16) 4) (and1B (Nat.beq (m / 1 % 16) 8) (and1B bn (eqC3 c (2, 39, 1))))) (or1B (and1B (Nat.beq (m / 16 % 16) 5) (and1B (Nat.beq (m / 1 % 16) 8) (and1B bn (eqC3 c (2, 41, 1))))) (or1B (and1B (Nat.beq (m / 16 % 16) 9) (and1B (Nat.beq (m / 1 % 16) 8) (and1B (!bnm) (eqC3 c (2, 36, 1))))) (or1B (and1B (Nat.beq (m / 16 % 16) 9) (and1B (Nat.beq (m / 1 % 16) 9) (and1B (!bnm) (eqC3 c (2, 37, 1))))) (or1B (and1B (Nat.beq (m / 16 % 16) 9) (and1B (Nat.beq (m / 1 % 16) 10) (and1B (!bnm) (eqC3 c (2, 35, 1))))) (or1B (and1B (Nat.beq (m / 16 % 16) 9) (and1B (Nat.beq (m / 1 % 16) 11) (and1B (!bnm) (eqC3 c (2, 38, 1))))) (or1B (and1B (Nat.beq (m / 16 % 16) 11) (and1B (Nat.beq (m / 1 % 16) 8) (and1B (!bnm) (eqC3 c (2, 34, 1))))) false))))))))))))))))))
noncomputable def lchkUn (m : Nat) : Bool := allT fun bn => allT fun bnm => allT fun on => allT fun od => allT fun om => lawUn m bn bnm on od om (cUnp (Int.ofNat (m / 16 % 16)) (Int.ofNat (m / 1 % 16)) bn bnm on od om)

theorem lchkUn_0 : allB lchkUn 64 0 = true := by kernel_rfl
theorem lchkUn_1 : allB lchkUn 64 64 = true := by kernel_rfl
theorem lchkUn_2 : allB lchkUn 64 128 = true := by kernel_rfl
theorem lchkUn_3 : allB lchkUn 64 192 = true := by kernel_rfl

theorem lchkUn_all {n : Nat} (h : n < 256) : lchkUn n = true := by
  rcases Nat.lt_or_ge n 64 with h0 | h0
  · exact allB_ok lchkUn_0 n (by omega) (by omega)
  rcases Nat.lt_or_ge n 128 with h1 | h1
  · exact allB_ok lchkUn_1 n (by omega) (by omega)
  rcases Nat.lt_or_ge n 192 with h2 | h2
  · exact allB_ok lchkUn_2 n (by omega) (by omega)
  exact allB_ok lchkUn_3 n (by omega) (by omega)

theorem Un_law {f : Int} {w : Int} (hf : 0 ≤ f ∧ f ≤ 15) (hw : 0 ≤ w ∧ w ≤ 15) (bn : Bool) (bnm : Bool) (on : Bool) (od : Bool) (om : Bool) : (cUnp f w bn bnm on od om).1 = 0 ∨ (cUnp f w bn bnm on od om).1 = 1 ∨ (f = 0 ∧ w = 0 ∧ cUnp f w bn bnm on od om = (2, 17, 0)) ∨ (f = 1 ∧ w = 0 ∧ cUnp f w bn bnm on od om = (2, 17, 0)) ∨ (f = 2 ∧ w = 0 ∧ cUnp f w bn bnm on od om = (2, 18, 0)) ∨ (f = 3 ∧ w = 0 ∧ cUnp f w bn bnm on od om = (2, 18, 0)) ∨ (f = 4 ∧ w = 0 ∧ cUnp f w bn bnm on od om = (2, 19, 0)) ∨ (f = 5 ∧ w = 0 ∧ cUnp f w bn bnm on od om = (2, 19, 0)) ∨ (f = 6 ∧ w = 0 ∧ cUnp f w bn bnm on od om = (2, 20, 0)) ∨ (f = 7 ∧ w = 0 ∧ cUnp f w bn bnm on od om = (2, 20, 0)) ∨ (f = 0 ∧ w = 8 ∧ bn = true ∧ cUnp f w bn bnm on od om = (2, 40, 1)) ∨ (f = 1 ∧ w = 8 ∧ bn = true ∧ cUnp f w bn bnm on od om = (2, 42, 1)) ∨ (f = 4 ∧ w = 8 ∧ bn = true ∧ cUnp f w bn bnm on od om = (2, 39, 1)) ∨ (f = 5 ∧ w = 8 ∧ bn = true ∧ cUnp f w bn bnm on od om = (2, 41, 1)) ∨ (f = 9 ∧ w = 8 ∧ bnm = false ∧ cUnp f w bn bnm on od om = (2, 36, 1)) ∨ (f = 9 ∧ w = 9 ∧ bnm = false ∧ cUnp f w bn bnm on od om = (2, 37, 1)) ∨ (f = 9 ∧ w = 10 ∧ bnm = false ∧ cUnp f w bn bnm on od om = (2, 35, 1)) ∨ (f = 9 ∧ w = 11 ∧ bnm = false ∧ cUnp f w bn bnm on od om = (2, 38, 1)) ∨ (f = 11 ∧ w = 8 ∧ bnm = false ∧ cUnp f w bn bnm on od om = (2, 34, 1)) := by
  obtain ⟨f, rfl⟩ := Int.eq_ofNat_of_zero_le hf.1
  obtain ⟨w, rfl⟩ := Int.eq_ofNat_of_zero_le hw.1
  have hc := lchkUn_all (n := f * 16 + w * 1) (by omega)
  unfold lchkUn at hc
  have hc := allT_ok hc bn
  have hc := allT_ok hc bnm
  have hc := allT_ok hc on
  have hc := allT_ok hc od
  have hc := allT_ok hc om
  unfold lawUn at hc
  rw [show (f * 16 + w * 1) / 16 % 16 = f by omega, show (f * 16 + w * 1) / 1 % 16 = w by omega] at hc
  rcases or1B_ok hc with hc | hc
  · exact Or.inl (Nat.eq_of_beq_eq_true hc)
  rcases or1B_ok hc with hc | hc
  · exact Or.inr (Or.inl (Nat.eq_of_beq_eq_true hc))
  refine Or.inr (Or.inr ?_)
  rcases or1B_ok hc with hc | hc
  · obtain ⟨e0, hc⟩ := and1B_ok hc
    obtain ⟨e1, hc⟩ := and1B_ok hc
    exact Or.inl ⟨(by rw [Nat.eq_of_beq_eq_true e0]; rfl), (by rw [Nat.eq_of_beq_eq_true e1]; rfl), eqC3_ok hc⟩
  refine Or.inr ?_
  rcases or1B_ok hc with hc | hc
  · obtain ⟨e0, hc⟩ := and1B_ok hc
    obtain ⟨e1, hc⟩ := and1B_ok hc
    exact Or.inl ⟨(by rw [Nat.eq_of_beq_eq_true e0]; rfl), (by rw [Nat.eq_of_beq_eq_true e1]; rfl), eqC3_ok hc⟩
  refine Or.inr ?_
  rcases or1B_ok hc with hc | hc
  · obtain ⟨e0, hc⟩ := and1B_ok hc
    obtain ⟨e1, hc⟩ := and1B_ok hc
    exact Or.inl ⟨(by rw [Nat.eq_of_beq_eq_true e0]; rfl), (by rw [Nat.eq_of_beq_eq_true e1]; rfl), eqC3_ok hc⟩
  refine Or.inr ?_
  rcases or1B_ok hc with hc | hc
  · obtain ⟨e0, hc⟩ := and1B_ok hc
    obtain ⟨e1, hc⟩ := and1B_ok hc
    exact Or.inl ⟨(by rw [Nat.eq_of_beq_eq_true e0]; rfl), (by rw [Nat.eq_of_beq_eq_true e1]; rfl), eqC3_ok hc⟩
  refine Or.inr ?_
  rcases or1B_ok hc with hc | hc
  · obtain ⟨e0, hc⟩ := and1B_ok hc
    obtain ⟨e1, hc⟩ := and1B_ok hc
    exact Or.inl ⟨(by rw [Nat.eq_of_beq_eq_true e0]; rfl), (by rw [Nat.eq_of_beq_eq_true e1]; rfl), eqC3_ok hc⟩
  refine Or.inr ?_
  rcases or1B_ok hc with hc | hc
  · obtain ⟨e0, hc⟩ := and1B_ok hc
    obtain ⟨e1, hc⟩ := and1B_ok hc
    exact Or.inl ⟨(by rw [Nat.eq_of_beq_eq_true e0]; rfl), (by rw [Nat.eq_of_beq_eq_true e1]; rfl), eqC3_ok hc⟩
  refine Or.inr ?_
  rcases or1B_ok hc with hc | hc
  · obtain ⟨e0, hc⟩ := and1B_ok hc
    obtain ⟨e1, hc⟩ := and1B_ok hc
    exact Or.inl ⟨(by rw [Nat.eq_of_beq_eq_true e0]; rfl), (by rw [Nat.eq_of_beq_eq_true e1]; rfl), eqC3_ok hc⟩
  refine Or.inr ?_
  rcases or1B_ok hc with hc | hc
  · obtain ⟨e0, hc⟩ := and1B_ok hc
    obtain ⟨e1, hc⟩ := and1B_ok hc
    exact Or.inl ⟨(by rw [Nat.eq_of_beq_eq_true e0]; rfl), (by rw [Nat.eq_of_beq_eq_true e1]; rfl), eqC3_ok hc⟩
  refine Or.inr ?_
  rcases or1B_ok hc with hc | hc
  · obtain ⟨e0, hc⟩ := and1B_ok hc
    obtain ⟨e1, hc⟩ := and1B_ok hc
    obtain ⟨e2, hc⟩ := and1B_ok hc
    exact Or.inl ⟨(by rw [Nat.eq_of_beq_eq_true e0]; rfl), (by rw [Nat.eq_of_beq_eq_true e1]; rfl), e2, eqC3_ok hc⟩
  refine Or.inr ?_
  rcases or1B_ok hc with hc | hc
  · obtain ⟨e0, hc⟩ := and1B_ok hc
    obtain ⟨e1, hc⟩ := and1B_ok hc
    obtain ⟨e2, hc⟩ := and1B_ok hc
    exact Or.inl ⟨(by rw [Nat.eq_of_beq_eq_true e0]; rfl), (by rw [Nat.eq_of_beq_eq_true e1]; rfl), e2, eqC3_ok hc⟩
  refine Or.inr ?_
  rcases or1B_ok hc with hc | hc
  · obtain ⟨e0, hc⟩ := and1B_ok hc
    obtain ⟨e1, hc⟩ := and1B_ok hc
    obtain ⟨e2, hc⟩ := and1B_ok hc
    exact Or.inl ⟨(by rw [Nat.eq_of_beq_eq_true e0]; rfl), (by rw [Nat.eq_of_beq_eq_true e1]; rfl), e2, eqC3_ok hc⟩
  refine Or.inr ?_
  rcases or1B_ok hc with hc | hc
  · obtain ⟨e0, hc⟩ := and1B_ok hc
    obtain ⟨e1, hc⟩ := and1B_ok hc
    obtain ⟨e2, hc⟩ := and1B_ok hc
    exact Or.inl ⟨(by rw [Nat.eq_of_beq_eq_true e0]; rfl), (by rw [Nat.eq_of_beq_eq_true e1]; rfl), e2, eqC3_ok hc⟩
  refine Or.inr ?_
  rcases or1B_ok hc with hc | hc
  · obtain ⟨e0, hc⟩ := and1B_ok hc
    obtain ⟨e1, hc⟩ := and1B_ok hc
    obtain ⟨e2, hc⟩ := and1B_ok hc
    exact Or.inl ⟨(by rw [Nat.eq_of_beq_eq_true e0]; rfl), (by rw [Nat.eq_of_beq_eq_true e1]; rfl), (by simpa using e2), eqC3_ok hc⟩
  refine Or.inr ?_
  rcases or1B_ok hc with hc | hc
  · obtain ⟨e0, hc⟩ := and1B_ok hc
    obtain ⟨e1, hc⟩ := and1B_ok hc
    obtain ⟨e2, hc⟩ := and1B_ok hc
    exact Or.inl ⟨(by rw [Nat.eq_of_beq_eq_true e0]; rfl), (by rw [Nat.eq_of_beq_eq_true e1]; rfl), (by simpa using e2), eqC3_ok hc⟩
  refine Or.inr ?_
  rcases or1B_ok hc with hc | hc
  · obtain ⟨e0, hc⟩ := and1B_ok hc
    obtain ⟨e1, hc⟩ := and1B_ok hc
    obtain ⟨e2, hc⟩ := and1B_ok hc
    exact Or.inl ⟨(by rw [Nat.eq_of_beq_eq_true e0]; rfl), (by rw [Nat.eq_of_beq_eq_true e1]; rfl), (by simpa using e2), eqC3_ok hc⟩
  refine Or.inr ?_
  rcases or1B_ok hc with hc | hc
  · obtain ⟨e0, hc⟩ := and1B_ok hc
    obtain ⟨e1, hc⟩ := and1B_ok hc
    obtain ⟨e2, hc⟩ := and1B_ok hc
    exact Or.inl ⟨(by rw [Nat.eq_of_beq_eq_true e0]; rfl), (by rw [Nat.eq_of_beq_eq_true e1]; rfl), (by simpa using e2), eqC3_ok hc⟩
  refine Or.inr ?_
  rcases or1B_ok hc with hc | hc
  · obtain ⟨e0, hc⟩ := and1B_ok hc
    obtain ⟨e1, hc⟩ := and1B_ok hc
    obtain ⟨e2, hc⟩ := and1B_ok hc
    exact ⟨(by rw [Nat.eq_of_beq_eq_true e0]; rfl), (by rw [Nat.eq_of_beq_eq_true e1]; rfl), (by simpa using e2), eqC3_ok hc⟩
  · cases hc

noncomputable def lawLo (m : Nat) (a15 : Bool) (ad : Bool) (oa : Bool) (on : Bool) (od : Bool) (om : Bool) (c : C3) : Bool := or1B (Nat.beq c.1 0) (or1B (Nat.beq c.1 1) (or1B (and1B (Nat.beq (m / 16 % 16) 0) (and1B (Nat.beq (m / 1 % 16) 0) (and1B a15 (eqC3 c (2, 21, 0))))) (or1B (and1B (Nat.beq (m / 16 % 16) 0) (and1B (Nat.beq (m / 1 % 16) 0) (eqC3 c (2, 22, 1)))) (or1B (and1B (Nat.beq (m / 16 % 16) 0) (and1B (Nat.beq (m / 1 % 16) 1) (eqC3 c (2, 23, 1)))) (or1B (and1B (Nat.beq (m / 16 % 16) 9) (and1B (Nat.beq (m / 1 % 16) 15) (and1B a15 (eqC3 c (2, 29, 0))))) (or1B (and1B (Nat.beq (m / 16 % 16) 11) (and1B (Nat.beq (m / 1 % 16) 15) (and1B a15 (eqC3 c (2, 28, 0))))) (or1B (and1B (Nat.beq (m / 16 % 16) 8) (and1B (Nat.beq (m / 1 % 16) 0) (eqC3 c (2, 25, 2)))) (or1B (and1B (Nat.beq (m / 16 % 16) 10) (and1B (Nat.beq (m / 1 % 16) 0) (eqC3 c (2, 24, 2)))) (or1B (and1B (Nat.beq (m / 16 % 16) 12) (and1B (Nat.beq (m / 1 % 16) 0) (eqC3 c (2, 27, 2)))) (or1B (and1B (Nat.beq (m / 16 % 16) 14) (and1B (Nat.beq (m / 1 % 16) 0) (eqC3 c (2, 26, 2)))) false))))))))))
noncomputable def lchkLo (m : Nat) : Bool := allT fun a15 => allT fun ad => allT fun oa => allT fun on => allT fun od => allT fun om => lawLo m a15 ad oa on od om (cLop (Int.ofNat (m / 16 % 16)) (Int.ofNat (m / 1 % 16)) a15 ad oa on od om)

theorem lchkLo_0 : allB lchkLo 32 0 = true := by kernel_rfl
theorem lchkLo_1 : allB lchkLo 32 32 = true := by kernel_rfl
theorem lchkLo_2 : allB lchkLo 32 64 = true := by kernel_rfl
theorem lchkLo_3 : allB lchkLo 32 96 = true := by kernel_rfl
theorem lchkLo_4 : allB lchkLo 32 128 = true := by kernel_rfl
theorem lchkLo_5 : allB lchkLo 32 160 = true := by kernel_rfl
theorem lchkLo_6 : allB lchkLo 32 192 = true := by kernel_rfl
theorem lchkLo_7 : allB lchkLo 32 224 = true := by kernel_rfl

theorem lchkLo_all {n : Nat} (h : n < 256) : lchkLo n = true := by
  rcases Nat.lt_or_ge n 32 with h0 | h0
  · exact allB_ok lchkLo_0 n (by omega) (by omega)
  rcases Nat.lt_or_ge n 64 with h1 | h1
  · exact allB_ok lchkLo_1 n (by omega) (by omega)
  rcases Nat.lt_or_ge n 96 with h2 | h2
  · exact allB_ok lchkLo_2 n (by omega) (by omega)
  rcases Nat.lt_or_ge n 128 with h3 | h3
  · exact allB_ok lchkLo_3 n (by omega) (by omega)
  rcases Nat.lt_or_ge n 160 with h4 | h4
  · exact allB_ok lchkLo_4 n (by omega) (by omega)
  rcases Nat.lt_or_ge n 192 with h5 | h5
  · exact allB_ok lchkLo_5 n (by omega) (by omega)
  rcases Nat.lt_or_ge n 224 with h6 | h6
  · exact allB_ok lchkLo_6 n (by omega) (by omega)
  exact allB_ok lchkLo_7 n (by omega) (by omega)

theorem Lo_law {f : Int} {w : Int} (hf : 0 ≤ f ∧ f ≤ 15) (hw : 0 ≤ w ∧ w ≤ 15) (a15 : Bool) (ad : Bool) (oa : Bool) (on : Bool) (od : Bool) (om : Bool) : (cLop f w a15 ad oa on od om).1 = 0 ∨ (cLop f w a15 ad oa on od om).1 = 1 ∨ (f = 0 ∧ w = 0 ∧ a15 = true ∧ cLop f w a15 ad oa on od om = (2, 21, 0)) ∨ (f = 0 ∧ w = 0 ∧ cLop f w a15 ad oa on od om = (2, 22, 1)) ∨ (f = 0 ∧ w = 1 ∧ cLop f w a15 ad oa on od om = (2, 23, 1)) ∨ (f = 9 ∧ w = 15 ∧ a15 = true ∧ cLop f w a15 ad oa on od om = (2, 29, 0)) ∨ (f = 11 ∧ w = 15 ∧ a15 = true ∧ cLop f w a15 ad oa on od om = (2, 28, 0)) ∨ (f = 8 ∧ w = 0 ∧ cLop f w a15 ad oa on od om = (2, 25, 2)) ∨ (f = 10 ∧ w = 0 ∧ cLop f w a15 ad oa on od om = (2, 24, 2)) ∨ (f = 12 ∧ w = 0 ∧ cLop f w a15 ad oa on od om = (2, 27, 2)) ∨ (f = 14 ∧ w = 0 ∧ cLop f w a15 ad oa on od om = (2, 26, 2)) := by
  obtain ⟨f, rfl⟩ := Int.eq_ofNat_of_zero_le hf.1
  obtain ⟨w, rfl⟩ := Int.eq_ofNat_of_zero_le hw.1
  have hc := lchkLo_all (n := f * 16 + w * 1) (by omega)
  unfold lchkLo at hc
  have hc := allT_ok hc a15
  have hc := allT_ok hc ad
  have hc := allT_ok hc oa
  have hc := allT_ok hc on
  have hc := allT_ok hc od
  have hc := allT_ok hc om
  unfold lawLo at hc
  rw [show (f * 16 + w * 1) / 16 % 16 = f by omega, show (f * 16 + w * 1) / 1 % 16 = w by omega] at hc
  rcases or1B_ok hc with hc | hc
  · exact Or.inl (Nat.eq_of_beq_eq_true hc)
  rcases or1B_ok hc with hc | hc
  · exact Or.inr (Or.inl (Nat.eq_of_beq_eq_true hc))
  refine Or.inr (Or.inr ?_)
  rcases or1B_ok hc with hc | hc
  · obtain ⟨e0, hc⟩ := and1B_ok hc
    obtain ⟨e1, hc⟩ := and1B_ok hc
    obtain ⟨e2, hc⟩ := and1B_ok hc
    exact Or.inl ⟨(by rw [Nat.eq_of_beq_eq_true e0]; rfl), (by rw [Nat.eq_of_beq_eq_true e1]; rfl), e2, eqC3_ok hc⟩
  refine Or.inr ?_
  rcases or1B_ok hc with hc | hc
  · obtain ⟨e0, hc⟩ := and1B_ok hc
    obtain ⟨e1, hc⟩ := and1B_ok hc
    exact Or.inl ⟨(by rw [Nat.eq_of_beq_eq_true e0]; rfl), (by rw [Nat.eq_of_beq_eq_true e1]; rfl), eqC3_ok hc⟩
  refine Or.inr ?_
  rcases or1B_ok hc with hc | hc
  · obtain ⟨e0, hc⟩ := and1B_ok hc
    obtain ⟨e1, hc⟩ := and1B_ok hc
    exact Or.inl ⟨(by rw [Nat.eq_of_beq_eq_true e0]; rfl), (by rw [Nat.eq_of_beq_eq_true e1]; rfl), eqC3_ok hc⟩
  refine Or.inr ?_
  rcases or1B_ok hc with hc | hc
  · obtain ⟨e0, hc⟩ := and1B_ok hc
    obtain ⟨e1, hc⟩ := and1B_ok hc
    obtain ⟨e2, hc⟩ := and1B_ok hc
    exact Or.inl ⟨(by rw [Nat.eq_of_beq_eq_true e0]; rfl), (by rw [Nat.eq_of_beq_eq_true e1]; rfl), e2, eqC3_ok hc⟩
  refine Or.inr ?_
  rcases or1B_ok hc with hc | hc
  · obtain ⟨e0, hc⟩ := and1B_ok hc
    obtain ⟨e1, hc⟩ := and1B_ok hc
    obtain ⟨e2, hc⟩ := and1B_ok hc
    exact Or.inl ⟨(by rw [Nat.eq_of_beq_eq_true e0]; rfl), (by rw [Nat.eq_of_beq_eq_true e1]; rfl), e2, eqC3_ok hc⟩
  refine Or.inr ?_
  rcases or1B_ok hc with hc | hc
  · obtain ⟨e0, hc⟩ := and1B_ok hc
    obtain ⟨e1, hc⟩ := and1B_ok hc
    exact Or.inl ⟨(by rw [Nat.eq_of_beq_eq_true e0]; rfl), (by rw [Nat.eq_of_beq_eq_true e1]; rfl), eqC3_ok hc⟩
  refine Or.inr ?_
  rcases or1B_ok hc with hc | hc
  · obtain ⟨e0, hc⟩ := and1B_ok hc
    obtain ⟨e1, hc⟩ := and1B_ok hc
    exact Or.inl ⟨(by rw [Nat.eq_of_beq_eq_true e0]; rfl), (by rw [Nat.eq_of_beq_eq_true e1]; rfl), eqC3_ok hc⟩
  refine Or.inr ?_
  rcases or1B_ok hc with hc | hc
  · obtain ⟨e0, hc⟩ := and1B_ok hc
    obtain ⟨e1, hc⟩ := and1B_ok hc
    exact Or.inl ⟨(by rw [Nat.eq_of_beq_eq_true e0]; rfl), (by rw [Nat.eq_of_beq_eq_true e1]; rfl), eqC3_ok hc⟩
  refine Or.inr ?_
  rcases or1B_ok hc with hc | hc
  · obtain ⟨e0, hc⟩ := and1B_ok hc
    obtain ⟨e1, hc⟩ := and1B_ok hc
    exact ⟨(by rw [Nat.eq_of_beq_eq_true e0]; rfl), (by rw [Nat.eq_of_beq_eq_true e1]; rfl), eqC3_ok hc⟩
  · cases hc

noncomputable def lawMe (m : Nat) (n15 : Bool) (k6 : Bool) (i0 : Bool) (od : Bool) (om : Bool) (c : C3) : Bool := or1B (Nat.beq c.1 0) (or1B (Nat.beq c.1 1) (or1B (and1B (Nat.beq (m / 16 % 2) 0) (and1B (Nat.beq (m / 8 % 2) 1) (and1B (Nat.beq (m / 2 % 4) 0) (and1B (Nat.beq (m / 1 % 2) 0) (and1B (!n15) (eqC3 c (2, 50, 1))))))) (or1B (and1B (Nat.beq (m / 16 % 2) 0) (and1B (Nat.beq (m / 8 % 2) 0) (and1B (Nat.beq (m / 2 % 4) 0) (and1B (Nat.beq (m / 1 % 2) 0) (and1B (!n15) (and1B k6 (eqC3 c (2, 50, 2)))))))) (or1B (and1B (Nat.beq (m / 16 % 2) 0) (and1B (Nat.beq (m / 8 % 2) 1) (and1B (Nat.beq (m / 2 % 4) 1) (and1B (Nat.beq (m / 1 % 2) 0) (and1B (!n15) (eqC3 c (2, 51, 1))))))) (or1B (and1B (Nat.beq (m / 16 % 2) 0) (and1B (Nat.beq (m / 8 % 2) 0) (and1B (Nat.beq (m / 2 % 4) 1) (and1B (Nat.beq (m / 1 % 2) 0) (and1B (!n15) (and1B k6 (eqC3 c (2, 51, 2)))))))) (or1B (and1B (Nat.beq (m / 16 % 2) 0) (and1B (Nat.beq (m / 8 % 2) 1) (and1B (Nat.beq (m / 2 % 4) 2) (and1B (Nat.beq (m / 1 % 2) 0) (and1B (!n15) (eqC3 c (2, 49, 1))))))) (or1B (and1B (Nat.beq (m / 16 % 2) 0) (and1B (Nat.beq (m / 8 % 2) 0) (and1B (Nat.beq (m / 2 % 4) 2) (and1B (Nat.beq (m / 1 % 2) 0) (and1B (!n15) (and1B k6 (eqC3 c (2, 49, 2)))))))) (or1B (and1B (Nat.beq (m / 16 % 2) 0) (and1B (Nat.beq (m / 8 % 2) 0) (and1B (Nat.beq (m / 2 % 4) 0) (and1B (Nat.beq (m / 1 % 2) 1) (and1B n15 (and1B (!i0) (eqC3 c (2, 45, 0)))))))) (or1B (and1B (Nat.beq (m / 16 % 2) 0) (and1B (Nat.beq (m / 8 % 2) 1) (and1B (Nat.beq (m / 2 % 4) 0) (and1B (Nat.beq (m / 1 % 2) 1) (and1B n15 (eqC3 c (2, 45, 1))))))) (or1B (and1B (Nat.beq (m / 16 % 2) 0) (and1B (Nat.beq (m / 8 % 2) 1) (and1B (Nat.beq (m / 2 % 4) 0) (and1B (Nat.beq (m / 1 % 2) 1) (and1B (!n15) (eqC3 c (2, 45, 1))))))) (or1B (and1B (Nat.beq (m / 16 % 2) 0) (and1B (Nat.beq (m / 8 % 2) 0) (and1B (Nat.beq (m / 2 % 4) 0) (and1B (Nat.beq (m / 1 % 2) 1) (and1B (!n15) (and1B k6 (eqC3 c (2, 45, 2)))))))) (or1B (and1B (Nat.beq (m / 16 % 2) 0) (and1B (Nat.beq (m / 8 % 2) 0) (and1B (Nat.beq (m / 2 % 4) 1) (and1B (Nat.beq (m / 1 % 2) 1) (and1B n15 (and1B (!i0) (eqC3 c (2, 46, 0)))))))) (or1B (and1B (Nat.beq (m / 16 % 2) 0) (and1B (Nat.beq (m / 8 % 2) 1) (and1B (Nat.beq (m / 2 % 4) 1) (and1B (Nat.beq (m / 1 % 2) 1) (and1B n15 (eqC3 c (2, 46, 1))))))) (or1B (and1B (Nat.beq (m / 16 % 2) 0) (and1B (Nat.beq (m / 8 % 2) 1) (and1B (Nat.beq (m / 2 % 4) 1) (and1B (Nat.beq (m / 1 % 2) 1) (and1B (!n15) (eqC3 c (2, 46, 1))))))) (or1B (and1B (Nat.beq (m / 16 % 2) 0) (and1B (Nat.beq (m / 8 % 2) 0) (and1B (Nat.beq (m / 2 % 4) 1) (and1B (Nat.beq (m / 1 % 2) 1) (and1B (!n15) (and1B k6 (eqC3 c (2, 46, 2)))))))) (or1B (and1B (Nat.beq (m / 16 % 2) 0) (and1B (Nat.beq (m / 8 % 2) 0) (and1B (Nat.beq (m / 2 % 4) 2) (and1B (Nat.beq (m / 1 % 2) 1) (and1B n15 (and1B (!i0) (eqC3 c (2, 44, 0)))))))) (or1B (and1B (Nat.beq (m / 16 % 2) 0) (and1B (Nat.beq (m / 8 % 2) 1) (and1B (Nat.beq (m / 2 % 4) 2) (and1B (Nat.beq (m / 1 % 2) 1) (and1B n15 (eqC3 c (2, 44, 1))))))) (or1B (and1B (Nat.beq (m / 16 % 2) 0) (and1B (Nat.beq (m / 8 % 2) 1) (and1B (Nat.beq (m / 2 % 4) 2) (and1B (Nat.beq (m / 1 % 2) 1) (and1B (!n15) (eqC3 c (2, 44, 1))))))) (or1B (and1B (Nat.beq (m / 16 % 2) 0) (and1B (Nat.beq (m / 8 % 2) 0) (and1B (Nat.beq (m / 2 % 4) 2) (and1B (Nat.beq (m / 1 % 2) 1) (and1B (!n15) (and1B k6 (eqC3 c (2, 44, 2)))))))) (or1B (and1B (Nat.beq (m / 16 % 2) 1) (and1B (Nat.beq (m / 8 % 2) 0) (and1B (Nat.beq (m / 2 % 4) 0) (and1B (Nat.beq (m / 1 % 2) 1) (and1B n15 (and1B (!i0) (eqC3 c (2, 47, 0)))))))) (or1B (and1B (Nat.beq (m / 16 % 2) 1) (and1B (Nat.beq (m / 8 % 2) 1) (and1B (Nat.beq (m / 2 % 4) 0) (and1B (Nat.beq (m / 1 % 2) 1) (and1B n15 (eqC3 c (2, 47, 1))))))) (or1B (and1B (Nat.beq (m / 16 % 2) 1) (and1B (Nat.beq (m / 8 % 2) 1) (and1B (Nat.beq (m / 2 % 4) 0) (and1B (Nat.beq (m / 1 % 2) 1) (and1B (!n15) (eqC3 c (2, 47, 1))))))) (or1B (and1B (Nat.beq (m / 16 % 2) 1) (and1B (Nat.beq (m / 8 % 2) 0) (and1B (Nat.beq (m / 2 % 4) 0) (and1B (Nat.beq (m / 1 % 2) 1) (and1B (!n15) (and1B k6 (eqC3 c (2, 47, 2)))))))) (or1B (and1B (Nat.beq (m / 16 % 2) 1) (and1B (Nat.beq (m / 8 % 2) 0) (and1B (Nat.beq (m / 2 % 4) 1) (and1B (Nat.beq (m / 1 % 2) 1) (and1B n15 (and1B (!i0) (eqC3 c (2, 48, 0)))))))) (or1B (and1B (Nat.beq (m / 16 % 2) 1) (and1B (Nat.beq (m / 8 % 2) 1) (and1B (Nat.beq (m / 2 % 4) 1) (and1B (Nat.beq (m / 1 % 2) 1) (and1B n15 (eqC3 c (2, 48, 1))))))) (or1B (and1B (Nat.beq (m / 16 % 2) 1) (and1B (Nat.beq (m / 8 % 2) 1) (and1B (Nat.beq (m / 2 % 4) 1) (and1B (Nat.beq (m / 1 % 2) 1) (and1B (!n15) (eqC3 c (2, 48, 1))))))) (or1B (and1B (Nat.beq (m / 16 % 2) 1) (and1B (Nat.beq (m / 8 % 2) 0) (and1B (Nat.beq (m / 2 % 4) 1) (and1B (Nat.beq (m / 1 % 2) 1) (and1B (!n15) (and1B k6 (eqC3 c (2, 48, 2)))))))) false)))))))))))))))))))))))))))
noncomputable def lchkMe (m : Nat) : Bool := allT fun n15 => allT fun k6 => allT fun i0 => allT fun od => allT fun om => lawMe m n15 k6 i0 od om (cMep (Int.ofNat (m / 16 % 2)) (Int.ofNat (m / 8 % 2)) (Int.ofNat (m / 2 % 4)) (Int.ofNat (m / 1 % 2)) n15 k6 i0 od om)

theorem lchkMe_0 : allB lchkMe 32 0 = true := by kernel_rfl

theorem lchkMe_all {n : Nat} (h : n < 32) : lchkMe n = true := by
  exact allB_ok lchkMe_0 n (by omega) (by omega)

theorem Me_law {g : Int} {u : Int} {z : Int} {l : Int} (hg : 0 ≤ g ∧ g ≤ 1) (hu : 0 ≤ u ∧ u ≤ 1) (hz : 0 ≤ z ∧ z ≤ 3) (hl : 0 ≤ l ∧ l ≤ 1) (n15 : Bool) (k6 : Bool) (i0 : Bool) (od : Bool) (om : Bool) : (cMep g u z l n15 k6 i0 od om).1 = 0 ∨ (cMep g u z l n15 k6 i0 od om).1 = 1 ∨ (g = 0 ∧ u = 1 ∧ z = 0 ∧ l = 0 ∧ n15 = false ∧ cMep g u z l n15 k6 i0 od om = (2, 50, 1)) ∨ (g = 0 ∧ u = 0 ∧ z = 0 ∧ l = 0 ∧ n15 = false ∧ k6 = true ∧ cMep g u z l n15 k6 i0 od om = (2, 50, 2)) ∨ (g = 0 ∧ u = 1 ∧ z = 1 ∧ l = 0 ∧ n15 = false ∧ cMep g u z l n15 k6 i0 od om = (2, 51, 1)) ∨ (g = 0 ∧ u = 0 ∧ z = 1 ∧ l = 0 ∧ n15 = false ∧ k6 = true ∧ cMep g u z l n15 k6 i0 od om = (2, 51, 2)) ∨ (g = 0 ∧ u = 1 ∧ z = 2 ∧ l = 0 ∧ n15 = false ∧ cMep g u z l n15 k6 i0 od om = (2, 49, 1)) ∨ (g = 0 ∧ u = 0 ∧ z = 2 ∧ l = 0 ∧ n15 = false ∧ k6 = true ∧ cMep g u z l n15 k6 i0 od om = (2, 49, 2)) ∨ (g = 0 ∧ u = 0 ∧ z = 0 ∧ l = 1 ∧ n15 = true ∧ i0 = false ∧ cMep g u z l n15 k6 i0 od om = (2, 45, 0)) ∨ (g = 0 ∧ u = 1 ∧ z = 0 ∧ l = 1 ∧ n15 = true ∧ cMep g u z l n15 k6 i0 od om = (2, 45, 1)) ∨ (g = 0 ∧ u = 1 ∧ z = 0 ∧ l = 1 ∧ n15 = false ∧ cMep g u z l n15 k6 i0 od om = (2, 45, 1)) ∨ (g = 0 ∧ u = 0 ∧ z = 0 ∧ l = 1 ∧ n15 = false ∧ k6 = true ∧ cMep g u z l n15 k6 i0 od om = (2, 45, 2)) ∨ (g = 0 ∧ u = 0 ∧ z = 1 ∧ l = 1 ∧ n15 = true ∧ i0 = false ∧ cMep g u z l n15 k6 i0 od om = (2, 46, 0)) ∨ (g = 0 ∧ u = 1 ∧ z = 1 ∧ l = 1 ∧ n15 = true ∧ cMep g u z l n15 k6 i0 od om = (2, 46, 1)) ∨ (g = 0 ∧ u = 1 ∧ z = 1 ∧ l = 1 ∧ n15 = false ∧ cMep g u z l n15 k6 i0 od om = (2, 46, 1)) ∨ (g = 0 ∧ u = 0 ∧ z = 1 ∧ l = 1 ∧ n15 = false ∧ k6 = true ∧ cMep g u z l n15 k6 i0 od om = (2, 46, 2)) ∨ (g = 0 ∧ u = 0 ∧ z = 2 ∧ l = 1 ∧ n15 = true ∧ i0 = false ∧ cMep g u z l n15 k6 i0 od om = (2, 44, 0)) ∨ (g = 0 ∧ u = 1 ∧ z = 2 ∧ l = 1 ∧ n15 = true ∧ cMep g u z l n15 k6 i0 od om = (2, 44, 1)) ∨ (g = 0 ∧ u = 1 ∧ z = 2 ∧ l = 1 ∧ n15 = false ∧ cMep g u z l n15 k6 i0 od om = (2, 44, 1)) ∨ (g = 0 ∧ u = 0 ∧ z = 2 ∧ l = 1 ∧ n15 = false ∧ k6 = true ∧ cMep g u z l n15 k6 i0 od om = (2, 44, 2)) ∨ (g = 1 ∧ u = 0 ∧ z = 0 ∧ l = 1 ∧ n15 = true ∧ i0 = false ∧ cMep g u z l n15 k6 i0 od om = (2, 47, 0)) ∨ (g = 1 ∧ u = 1 ∧ z = 0 ∧ l = 1 ∧ n15 = true ∧ cMep g u z l n15 k6 i0 od om = (2, 47, 1)) ∨ (g = 1 ∧ u = 1 ∧ z = 0 ∧ l = 1 ∧ n15 = false ∧ cMep g u z l n15 k6 i0 od om = (2, 47, 1)) ∨ (g = 1 ∧ u = 0 ∧ z = 0 ∧ l = 1 ∧ n15 = false ∧ k6 = true ∧ cMep g u z l n15 k6 i0 od om = (2, 47, 2)) ∨ (g = 1 ∧ u = 0 ∧ z = 1 ∧ l = 1 ∧ n15 = true ∧ i0 = false ∧ cMep g u z l n15 k6 i0 od om = (2, 48, 0)) ∨ (g = 1 ∧ u = 1 ∧ z = 1 ∧ l = 1 ∧ n15 = true ∧ cMep g u z l n15 k6 i0 od om = (2, 48, 1)) ∨ (g = 1 ∧ u = 1 ∧ z = 1 ∧ l = 1 ∧ n15 = false ∧ cMep g u z l n15 k6 i0 od om = (2, 48, 1)) ∨ (g = 1 ∧ u = 0 ∧ z = 1 ∧ l = 1 ∧ n15 = false ∧ k6 = true ∧ cMep g u z l n15 k6 i0 od om = (2, 48, 2)) := by
  obtain ⟨g, rfl⟩ := Int.eq_ofNat_of_zero_le hg.1
  obtain ⟨u, rfl⟩ := Int.eq_ofNat_of_zero_le hu.1
  obtain ⟨z, rfl⟩ := Int.eq_ofNat_of_zero_le hz.1
  obtain ⟨l, rfl⟩ := Int.eq_ofNat_of_zero_le hl.1
  have hc := lchkMe_all (n := g * 16 + u * 8 + z * 2 + l * 1) (by omega)
  unfold lchkMe at hc
  have hc := allT_ok hc n15
  have hc := allT_ok hc k6
  have hc := allT_ok hc i0
  have hc := allT_ok hc od
  have hc := allT_ok hc om
  unfold lawMe at hc
  rw [show (g * 16 + u * 8 + z * 2 + l * 1) / 16 % 2 = g by omega, show (g * 16 + u * 8 + z * 2 + l * 1) / 8 % 2 = u by omega, show (g * 16 + u * 8 + z * 2 + l * 1) / 2 % 4 = z by omega, show (g * 16 + u * 8 + z * 2 + l * 1) / 1 % 2 = l by omega] at hc
  rcases or1B_ok hc with hc | hc
  · exact Or.inl (Nat.eq_of_beq_eq_true hc)
  rcases or1B_ok hc with hc | hc
  · exact Or.inr (Or.inl (Nat.eq_of_beq_eq_true hc))
  refine Or.inr (Or.inr ?_)
  rcases or1B_ok hc with hc | hc
  · obtain ⟨e0, hc⟩ := and1B_ok hc
    obtain ⟨e1, hc⟩ := and1B_ok hc
    obtain ⟨e2, hc⟩ := and1B_ok hc
    obtain ⟨e3, hc⟩ := and1B_ok hc
    obtain ⟨e4, hc⟩ := and1B_ok hc
    exact Or.inl ⟨(by rw [Nat.eq_of_beq_eq_true e0]; rfl), (by rw [Nat.eq_of_beq_eq_true e1]; rfl), (by rw [Nat.eq_of_beq_eq_true e2]; rfl), (by rw [Nat.eq_of_beq_eq_true e3]; rfl), (by simpa using e4), eqC3_ok hc⟩
  refine Or.inr ?_
  rcases or1B_ok hc with hc | hc
  · obtain ⟨e0, hc⟩ := and1B_ok hc
    obtain ⟨e1, hc⟩ := and1B_ok hc
    obtain ⟨e2, hc⟩ := and1B_ok hc
    obtain ⟨e3, hc⟩ := and1B_ok hc
    obtain ⟨e4, hc⟩ := and1B_ok hc
    obtain ⟨e5, hc⟩ := and1B_ok hc
    exact Or.inl ⟨(by rw [Nat.eq_of_beq_eq_true e0]; rfl), (by rw [Nat.eq_of_beq_eq_true e1]; rfl), (by rw [Nat.eq_of_beq_eq_true e2]; rfl), (by rw [Nat.eq_of_beq_eq_true e3]; rfl), (by simpa using e4), e5, eqC3_ok hc⟩
  refine Or.inr ?_
  rcases or1B_ok hc with hc | hc
  · obtain ⟨e0, hc⟩ := and1B_ok hc
    obtain ⟨e1, hc⟩ := and1B_ok hc
    obtain ⟨e2, hc⟩ := and1B_ok hc
    obtain ⟨e3, hc⟩ := and1B_ok hc
    obtain ⟨e4, hc⟩ := and1B_ok hc
    exact Or.inl ⟨(by rw [Nat.eq_of_beq_eq_true e0]; rfl), (by rw [Nat.eq_of_beq_eq_true e1]; rfl), (by rw [Nat.eq_of_beq_eq_true e2]; rfl), (by rw [Nat.eq_of_beq_eq_true e3]; rfl), (by simpa using e4), eqC3_ok hc⟩
  refine Or.inr ?_
  rcases or1B_ok hc with hc | hc
  · obtain ⟨e0, hc⟩ := and1B_ok hc
    obtain ⟨e1, hc⟩ := and1B_ok hc
    obtain ⟨e2, hc⟩ := and1B_ok hc
    obtain ⟨e3, hc⟩ := and1B_ok hc
    obtain ⟨e4, hc⟩ := and1B_ok hc
    obtain ⟨e5, hc⟩ := and1B_ok hc
    exact Or.inl ⟨(by rw [Nat.eq_of_beq_eq_true e0]; rfl), (by rw [Nat.eq_of_beq_eq_true e1]; rfl), (by rw [Nat.eq_of_beq_eq_true e2]; rfl), (by rw [Nat.eq_of_beq_eq_true e3]; rfl), (by simpa using e4), e5, eqC3_ok hc⟩
  refine Or.inr ?_
  rcases or1B_ok hc with hc | hc
  · obtain ⟨e0, hc⟩ := and1B_ok hc
    obtain ⟨e1, hc⟩ := and1B_ok hc
    obtain ⟨e2, hc⟩ := and1B_ok hc
    obtain ⟨e3, hc⟩ := and1B_ok hc
    obtain ⟨e4, hc⟩ := and1B_ok hc
    exact Or.inl ⟨(by rw [Nat.eq_of_beq_eq_true e0]; rfl), (by rw [Nat.eq_of_beq_eq_true e1]; rfl), (by rw [Nat.eq_of_beq_eq_true e2]; rfl), (by rw [Nat.eq_of_beq_eq_true e3]; rfl), (by simpa using e4), eqC3_ok hc⟩
  refine Or.inr ?_
  rcases or1B_ok hc with hc | hc
  · obtain ⟨e0, hc⟩ := and1B_ok hc
    obtain ⟨e1, hc⟩ := and1B_ok hc
    obtain ⟨e2, hc⟩ := and1B_ok hc
    obtain ⟨e3, hc⟩ := and1B_ok hc
    obtain ⟨e4, hc⟩ := and1B_ok hc
    obtain ⟨e5, hc⟩ := and1B_ok hc
    exact Or.inl ⟨(by rw [Nat.eq_of_beq_eq_true e0]; rfl), (by rw [Nat.eq_of_beq_eq_true e1]; rfl), (by rw [Nat.eq_of_beq_eq_true e2]; rfl), (by rw [Nat.eq_of_beq_eq_true e3]; rfl), (by simpa using e4), e5, eqC3_ok hc⟩
  refine Or.inr ?_
  rcases or1B_ok hc with hc | hc
  · obtain ⟨e0, hc⟩ := and1B_ok hc
    obtain ⟨e1, hc⟩ := and1B_ok hc
    obtain ⟨e2, hc⟩ := and1B_ok hc
    obtain ⟨e3, hc⟩ := and1B_ok hc
    obtain ⟨e4, hc⟩ := and1B_ok hc
    obtain ⟨e5, hc⟩ := and1B_ok hc
    exact Or.inl ⟨(by rw [Nat.eq_of_beq_eq_true e0]; rfl), (by rw [Nat.eq_of_beq_eq_true e1]; rfl), (by rw [Nat.eq_of_beq_eq_true e2]; rfl), (by rw [Nat.eq_of_beq_eq_true e3]; rfl), e4, (by simpa using e5), eqC3_ok hc⟩
  refine Or.inr ?_
  rcases or1B_ok hc with hc | hc
  · obtain ⟨e0, hc⟩ := and1B_ok hc
    obtain ⟨e1, hc⟩ := and1B_ok hc
    obtain ⟨e2, hc⟩ := and1B_ok hc
    obtain ⟨e3, hc⟩ := and1B_ok hc
    obtain ⟨e4, hc⟩ := and1B_ok hc
    exact Or.inl ⟨(by rw [Nat.eq_of_beq_eq_true e0]; rfl), (by rw [Nat.eq_of_beq_eq_true e1]; rfl), (by rw [Nat.eq_of_beq_eq_true e2]; rfl), (by rw [Nat.eq_of_beq_eq_true e3]; rfl), e4, eqC3_ok hc⟩
  refine Or.inr ?_
  rcases or1B_ok hc with hc | hc
  · obtain ⟨e0, hc⟩ := and1B_ok hc
    obtain ⟨e1, hc⟩ := and1B_ok hc
    obtain ⟨e2, hc⟩ := and1B_ok hc
    obtain ⟨e3, hc⟩ := and1B_ok hc
    obtain ⟨e4, hc⟩ := and1B_ok hc
    exact Or.inl ⟨(by rw [Nat.eq_of_beq_eq_true e0]; rfl), (by rw [Nat.eq_of_beq_eq_true e1]; rfl), (by rw [Nat.eq_of_beq_eq_true e2]; rfl), (by rw [Nat.eq_of_beq_eq_true e3]; rfl), (by simpa using e4), eqC3_ok hc⟩
  refine Or.inr ?_
  rcases or1B_ok hc with hc | hc
  · obtain ⟨e0, hc⟩ := and1B_ok hc
    obtain ⟨e1, hc⟩ := and1B_ok hc
    obtain ⟨e2, hc⟩ := and1B_ok hc
    obtain ⟨e3, hc⟩ := and1B_ok hc
    obtain ⟨e4, hc⟩ := and1B_ok hc
    obtain ⟨e5, hc⟩ := and1B_ok hc
    exact Or.inl ⟨(by rw [Nat.eq_of_beq_eq_true e0]; rfl), (by rw [Nat.eq_of_beq_eq_true e1]; rfl), (by rw [Nat.eq_of_beq_eq_true e2]; rfl), (by rw [Nat.eq_of_beq_eq_true e3]; rfl), (by simpa using e4), e5, eqC3_ok hc⟩
  refine Or.inr ?_
  rcases or1B_ok hc with hc | hc
  · obtain ⟨e0, hc⟩ := and1B_ok hc
    obtain ⟨e1, hc⟩ := and1B_ok hc
    obtain ⟨e2, hc⟩ := and1B_ok hc
    obtain ⟨e3, hc⟩ := and1B_ok hc
    obtain ⟨e4, hc⟩ := and1B_ok hc
    obtain ⟨e5, hc⟩ := and1B_ok hc
    exact Or.inl ⟨(by rw [Nat.eq_of_beq_eq_true e0]; rfl), (by rw [Nat.eq_of_beq_eq_true e1]; rfl), (by rw [Nat.eq_of_beq_eq_true e2]; rfl), (by rw [Nat.eq_of_beq_eq_true e3]; rfl), e4, (by simpa using e5), eqC3_ok hc⟩
  refine Or.inr ?_
  rcases or1B_ok hc with hc | hc
  · obtain ⟨e0, hc⟩ := and1B_ok hc
    obtain ⟨e1, hc⟩ := and1B_ok hc
    obtain ⟨e2, hc⟩ := and1B_ok hc
    obtain ⟨e3, hc⟩ := and1B_ok hc
    obtain ⟨e4, hc⟩ := and1B_ok hc
    exact Or.inl ⟨(by rw [Nat.eq_of_beq_eq_true e0]; rfl), (by rw [Nat.eq_of_beq_eq_true e1]; rfl), (by rw [Nat.eq_of_beq_eq_true e2]; rfl), (by rw [Nat.eq_of_beq_eq_true e3]; rfl), e4, eqC3_ok hc⟩
  refine Or.inr ?_
  rcases or1B_ok hc with hc | hc
  · obtain ⟨e0, hc⟩ := and1B_ok hc
    obtain ⟨e1, hc⟩ := and1B_ok hc
    obtain ⟨e2, hc⟩ := and1B_ok hc
    obtain ⟨e3, hc⟩ := and1B_ok hc
    obtain ⟨e4, hc⟩ := and1B_ok hc
    exact Or.inl ⟨(by rw [Nat.eq_of_beq_eq_true e0]; rfl), (by rw [Nat.eq_of_beq_eq_true e1]; rfl), (by rw [Nat.eq_of_beq_eq_true e2]; rfl), (by rw [Nat.eq_of_beq_eq_true e3]; rfl), (by simpa using e4), eqC3_ok hc⟩
  refine Or.inr ?_
  rcases or1B_ok hc with hc | hc
  · obtain ⟨e0, hc⟩ := and1B_ok hc
    obtain ⟨e1, hc⟩ := and1B_ok hc
    obtain ⟨e2, hc⟩ := and1B_ok hc
    obtain ⟨e3, hc⟩ := and1B_ok hc
    obtain ⟨e4, hc⟩ := and1B_ok hc
    obtain ⟨e5, hc⟩ := and1B_ok hc
    exact Or.inl ⟨(by rw [Nat.eq_of_beq_eq_true e0]; rfl), (by rw [Nat.eq_of_beq_eq_true e1]; rfl), (by rw [Nat.eq_of_beq_eq_true e2]; rfl), (by rw [Nat.eq_of_beq_eq_true e3]; rfl), (by simpa using e4), e5, eqC3_ok hc⟩
  refine Or.inr ?_
  rcases or1B_ok hc with hc | hc
  · obtain ⟨e0, hc⟩ := and1B_ok hc
    obtain ⟨e1, hc⟩ := and1B_ok hc
    obtain ⟨e2, hc⟩ := and1B_ok hc
    obtain ⟨e3, hc⟩ := and1B_ok hc
    obtain ⟨e4, hc⟩ := and1B_ok hc
    obtain ⟨e5, hc⟩ := and1B_ok hc
    exact Or.inl ⟨(by rw [Nat.eq_of_beq_eq_true e0]; rfl), (by rw [Nat.eq_of_beq_eq_true e1]; rfl), (by rw [Nat.eq_of_beq_eq_true e2]; rfl), (by rw [Nat.eq_of_beq_eq_true e3]; rfl), e4, (by simpa using e5), eqC3_ok hc⟩
  refine Or.inr ?_
  rcases or1B_ok hc with hc | hc
  · obtain ⟨e0, hc⟩ := and1B_ok hc
    obtain ⟨e1, hc⟩ := and1B_ok hc
    obtain ⟨e2, hc⟩ := and1B_ok hc
    obtain ⟨e3, hc⟩ := and1B_ok hc
    obtain ⟨e4, hc⟩ := and1B_ok hc
    exact Or.inl ⟨(by rw [Nat.eq_of_beq_eq_true e0]; rfl), (by rw [Nat.eq_of_beq_eq_true e1]; rfl), (by rw [Nat.eq_of_beq_eq_true e2]; rfl), (by rw [Nat.eq_of_beq_eq_true e3]; rfl), e4, eqC3_ok hc⟩
  refine Or.inr ?_
  rcases or1B_ok hc with hc | hc
  · obtain ⟨e0, hc⟩ := and1B_ok hc
    obtain ⟨e1, hc⟩ := and1B_ok hc
    obtain ⟨e2, hc⟩ := and1B_ok hc
    obtain ⟨e3, hc⟩ := and1B_ok hc
    obtain ⟨e4, hc⟩ := and1B_ok hc
    exact Or.inl ⟨(by rw [Nat.eq_of_beq_eq_true e0]; rfl), (by rw [Nat.eq_of_beq_eq_true e1]; rfl), (by rw [Nat.eq_of_beq_eq_true e2]; rfl), (by rw [Nat.eq_of_beq_eq_true e3]; rfl), (by simpa using e4), eqC3_ok hc⟩
  refine Or.inr ?_
  rcases or1B_ok hc with hc | hc
  · obtain ⟨e0, hc⟩ := and1B_ok hc
    obtain ⟨e1, hc⟩ := and1B_ok hc
    obtain ⟨e2, hc⟩ := and1B_ok hc
    obtain ⟨e3, hc⟩ := and1B_ok hc
    obtain ⟨e4, hc⟩ := and1B_ok hc
    obtain ⟨e5, hc⟩ := and1B_ok hc
    exact Or.inl ⟨(by rw [Nat.eq_of_beq_eq_true e0]; rfl), (by rw [Nat.eq_of_beq_eq_true e1]; rfl), (by rw [Nat.eq_of_beq_eq_true e2]; rfl), (by rw [Nat.eq_of_beq_eq_true e3]; rfl), (by simpa using e4), e5, eqC3_ok hc⟩
  refine Or.inr ?_
  rcases or1B_ok hc with hc | hc
  · obtain ⟨e0, hc⟩ := and1B_ok hc
    obtain ⟨e1, hc⟩ := and1B_ok hc
    obtain ⟨e2, hc⟩ := and1B_ok hc
    obtain ⟨e3, hc⟩ := and1B_ok hc
    obtain ⟨e4, hc⟩ := and1B_ok hc
    obtain ⟨e5, hc⟩ := and1B_ok hc
    exact Or.inl ⟨(by rw [Nat.eq_of_beq_eq_true e0]; rfl), (by rw [Nat.eq_of_beq_eq_true e1]; rfl), (by rw [Nat.eq_of_beq_eq_true e2]; rfl), (by rw [Nat.eq_of_beq_eq_true e3]; rfl), e4, (by simpa using e5), eqC3_ok hc⟩
  refine Or.inr ?_
  rcases or1B_ok hc with hc | hc
  · obtain ⟨e0, hc⟩ := and1B_ok hc
    obtain ⟨e1, hc⟩ := and1B_ok hc
    obtain ⟨e2, hc⟩ := and1B_ok hc
    obtain ⟨e3, hc⟩ := and1B_ok hc
    obtain ⟨e4, hc⟩ := and1B_ok hc
    exact Or.inl ⟨(by rw [Nat.eq_of_beq_eq_true e0]; rfl), (by rw [Nat.eq_of_beq_eq_true e1]; rfl), (by rw [Nat.eq_of_beq_eq_true e2]; rfl), (by rw [Nat.eq_of_beq_eq_true e3]; rfl), e4, eqC3_ok hc⟩
  refine Or.inr ?_
  rcases or1B_ok hc with hc | hc
  · obtain ⟨e0, hc⟩ := and1B_ok hc
    obtain ⟨e1, hc⟩ := and1B_ok hc
    obtain ⟨e2, hc⟩ := and1B_ok hc
    obtain ⟨e3, hc⟩ := and1B_ok hc
    obtain ⟨e4, hc⟩ := and1B_ok hc
    exact Or.inl ⟨(by rw [Nat.eq_of_beq_eq_true e0]; rfl), (by rw [Nat.eq_of_beq_eq_true e1]; rfl), (by rw [Nat.eq_of_beq_eq_true e2]; rfl), (by rw [Nat.eq_of_beq_eq_true e3]; rfl), (by simpa using e4), eqC3_ok hc⟩
  refine Or.inr ?_
  rcases or1B_ok hc with hc | hc
  · obtain ⟨e0, hc⟩ := and1B_ok hc
    obtain ⟨e1, hc⟩ := and1B_ok hc
    obtain ⟨e2, hc⟩ := and1B_ok hc
    obtain ⟨e3, hc⟩ := and1B_ok hc
    obtain ⟨e4, hc⟩ := and1B_ok hc
    obtain ⟨e5, hc⟩ := and1B_ok hc
    exact Or.inl ⟨(by rw [Nat.eq_of_beq_eq_true e0]; rfl), (by rw [Nat.eq_of_beq_eq_true e1]; rfl), (by rw [Nat.eq_of_beq_eq_true e2]; rfl), (by rw [Nat.eq_of_beq_eq_true e3]; rfl), (by simpa using e4), e5, eqC3_ok hc⟩
  refine Or.inr ?_
  rcases or1B_ok hc with hc | hc
  · obtain ⟨e0, hc⟩ := and1B_ok hc
    obtain ⟨e1, hc⟩ := and1B_ok hc
    obtain ⟨e2, hc⟩ := and1B_ok hc
    obtain ⟨e3, hc⟩ := and1B_ok hc
    obtain ⟨e4, hc⟩ := and1B_ok hc
    obtain ⟨e5, hc⟩ := and1B_ok hc
    exact Or.inl ⟨(by rw [Nat.eq_of_beq_eq_true e0]; rfl), (by rw [Nat.eq_of_beq_eq_true e1]; rfl), (by rw [Nat.eq_of_beq_eq_true e2]; rfl), (by rw [Nat.eq_of_beq_eq_true e3]; rfl), e4, (by simpa using e5), eqC3_ok hc⟩
  refine Or.inr ?_
  rcases or1B_ok hc with hc | hc
  · obtain ⟨e0, hc⟩ := and1B_ok hc
    obtain ⟨e1, hc⟩ := and1B_ok hc
    obtain ⟨e2, hc⟩ := and1B_ok hc
    obtain ⟨e3, hc⟩ := and1B_ok hc
    obtain ⟨e4, hc⟩ := and1B_ok hc
    exact Or.inl ⟨(by rw [Nat.eq_of_beq_eq_true e0]; rfl), (by rw [Nat.eq_of_beq_eq_true e1]; rfl), (by rw [Nat.eq_of_beq_eq_true e2]; rfl), (by rw [Nat.eq_of_beq_eq_true e3]; rfl), e4, eqC3_ok hc⟩
  refine Or.inr ?_
  rcases or1B_ok hc with hc | hc
  · obtain ⟨e0, hc⟩ := and1B_ok hc
    obtain ⟨e1, hc⟩ := and1B_ok hc
    obtain ⟨e2, hc⟩ := and1B_ok hc
    obtain ⟨e3, hc⟩ := and1B_ok hc
    obtain ⟨e4, hc⟩ := and1B_ok hc
    exact Or.inl ⟨(by rw [Nat.eq_of_beq_eq_true e0]; rfl), (by rw [Nat.eq_of_beq_eq_true e1]; rfl), (by rw [Nat.eq_of_beq_eq_true e2]; rfl), (by rw [Nat.eq_of_beq_eq_true e3]; rfl), (by simpa using e4), eqC3_ok hc⟩
  refine Or.inr ?_
  rcases or1B_ok hc with hc | hc
  · obtain ⟨e0, hc⟩ := and1B_ok hc
    obtain ⟨e1, hc⟩ := and1B_ok hc
    obtain ⟨e2, hc⟩ := and1B_ok hc
    obtain ⟨e3, hc⟩ := and1B_ok hc
    obtain ⟨e4, hc⟩ := and1B_ok hc
    obtain ⟨e5, hc⟩ := and1B_ok hc
    exact ⟨(by rw [Nat.eq_of_beq_eq_true e0]; rfl), (by rw [Nat.eq_of_beq_eq_true e1]; rfl), (by rw [Nat.eq_of_beq_eq_true e2]; rfl), (by rw [Nat.eq_of_beq_eq_true e3]; rfl), (by simpa using e4), e5, eqC3_ok hc⟩
  · cases hc

theorem good_Un {h k : Int} (hh : U16 h) (hk : U16 k) (i : Bool) (h8 : fm h 8 255 = 250) : GoodE h k (p21 h k i) := by
  have sh := h84 hh
  have sk := nib hk
  have rf := fm_fact h 4 15 (by decide)
  have rn := fm_fact h 0 15 (by decide)
  have rw_ := fm_fact k 4 15 (by decide)
  have rd := fm_fact k 8 15 (by decide)
  have rm := fm_fact k 0 15 (by decide)
  have ra := fm_fact k 12 15 (by decide)
  by_cases h15 : ¬ fm k 12 15 = 15
  · rw [unary_none hk i h15]
    exact Or.inl rfl
  have h15 : fm k 12 15 = 15 := Decidable.not_not.1 h15
  rw [Un_p hh hk i h15]
  rcases Un_law rf rw_ (fm h 0 15 == 15) (fm h 0 15 != fm k 0 15) (p81 (fm h 0 15)) (p81 (fm k 8 15)) (p81 (fm k 0 15)) with hc | hc | ⟨e0, e1, hc⟩ | ⟨e0, e1, hc⟩ | ⟨e0, e1, hc⟩ | ⟨e0, e1, hc⟩ | ⟨e0, e1, hc⟩ | ⟨e0, e1, hc⟩ | ⟨e0, e1, hc⟩ | ⟨e0, e1, hc⟩ | ⟨e0, e1, e2, hc⟩ | ⟨e0, e1, e2, hc⟩ | ⟨e0, e1, e2, hc⟩ | ⟨e0, e1, e2, hc⟩ | ⟨e0, e1, e2, hc⟩ | ⟨e0, e1, e2, hc⟩ | ⟨e0, e1, e2, hc⟩ | ⟨e0, e1, e2, hc⟩ | ⟨e0, e1, e2, hc⟩
  · exact Or.inl (mkC0 _ _ hc)
  · exact Or.inr (Or.inl (mkC1 _ _ hc))
  · rw [hc, show mkC h k i (gUn h k) (2, 17, 0) = S30.mk 17 true ((fm h 4 15) % 2 == 1) 14 (fm k 8 15) (fm h 0 15) (fm k 0 15) 0 0 false 0 0 0 false false from rfl]
    exact good_leaf (leaf_Un0_0 (d := fm k 8 15) (n := fm h 0 15) (m := fm k 0 15) (s := fm h 4 15 % 2) rd rn rm (by omega)) (by omega) (by omega) (by refine ⟨rfl, ?_, ?_, ?_, ?_, ?_, ?_⟩ <;> dsimp only <;> omega)
  · rw [hc, show mkC h k i (gUn h k) (2, 17, 0) = S30.mk 17 true ((fm h 4 15) % 2 == 1) 14 (fm k 8 15) (fm h 0 15) (fm k 0 15) 0 0 false 0 0 0 false false from rfl]
    exact good_leaf (leaf_Un0_0 (d := fm k 8 15) (n := fm h 0 15) (m := fm k 0 15) (s := fm h 4 15 % 2) rd rn rm (by omega)) (by omega) (by omega) (by refine ⟨rfl, ?_, ?_, ?_, ?_, ?_, ?_⟩ <;> dsimp only <;> omega)
  · rw [hc, show mkC h k i (gUn h k) (2, 18, 0) = S30.mk 18 true ((fm h 4 15) % 2 == 1) 14 (fm k 8 15) (fm h 0 15) (fm k 0 15) 0 0 false 0 0 0 false false from rfl]
    exact good_leaf (leaf_Un0_1 (d := fm k 8 15) (n := fm h 0 15) (m := fm k 0 15) (s := fm h 4 15 % 2) rd rn rm (by omega)) (by omega) (by omega) (by refine ⟨rfl, ?_, ?_, ?_, ?_, ?_, ?_⟩ <;> dsimp only <;> omega)
  · rw [hc, show mkC h k i (gUn h k) (2, 18, 0) = S30.mk 18 true ((fm h 4 15) % 2 == 1) 14 (fm k 8 15) (fm h 0 15) (fm k 0 15) 0 0 false 0 0 0 false false from rfl]
    exact good_leaf (leaf_Un0_1 (d := fm k 8 15) (n := fm h 0 15) (m := fm k 0 15) (s := fm h 4 15 % 2) rd rn rm (by omega)) (by omega) (by omega) (by refine ⟨rfl, ?_, ?_, ?_, ?_, ?_, ?_⟩ <;> dsimp only <;> omega)
  · rw [hc, show mkC h k i (gUn h k) (2, 19, 0) = S30.mk 19 true ((fm h 4 15) % 2 == 1) 14 (fm k 8 15) (fm h 0 15) (fm k 0 15) 0 0 false 0 0 0 false false from rfl]
    exact good_leaf (leaf_Un0_2 (d := fm k 8 15) (n := fm h 0 15) (m := fm k 0 15) (s := fm h 4 15 % 2) rd rn rm (by omega)) (by omega) (by omega) (by refine ⟨rfl, ?_, ?_, ?_, ?_, ?_, ?_⟩ <;> dsimp only <;> omega)
  · rw [hc, show mkC h k i (gUn h k) (2, 19, 0) = S30.mk 19 true ((fm h 4 15) % 2 == 1) 14 (fm k 8 15) (fm h 0 15) (fm k 0 15) 0 0 false 0 0 0 false false from rfl]
    exact good_leaf (leaf_Un0_2 (d := fm k 8 15) (n := fm h 0 15) (m := fm k 0 15) (s := fm h 4 15 % 2) rd rn rm (by omega)) (by omega) (by omega) (by refine ⟨rfl, ?_, ?_, ?_, ?_, ?_, ?_⟩ <;> dsimp only <;> omega)
  · rw [hc, show mkC h k i (gUn h k) (2, 20, 0) = S30.mk 20 true ((fm h 4 15) % 2 == 1) 14 (fm k 8 15) (fm h 0 15) (fm k 0 15) 0 0 false 0 0 0 false false from rfl]
    exact good_leaf (leaf_Un0_3 (d := fm k 8 15) (n := fm h 0 15) (m := fm k 0 15) (s := fm h 4 15 % 2) rd rn rm (by omega)) (by omega) (by omega) (by refine ⟨rfl, ?_, ?_, ?_, ?_, ?_, ?_⟩ <;> dsimp only <;> omega)
  · rw [hc, show mkC h k i (gUn h k) (2, 20, 0) = S30.mk 20 true ((fm h 4 15) % 2 == 1) 14 (fm k 8 15) (fm h 0 15) (fm k 0 15) 0 0 false 0 0 0 false false from rfl]
    exact good_leaf (leaf_Un0_3 (d := fm k 8 15) (n := fm h 0 15) (m := fm k 0 15) (s := fm h 4 15 % 2) rd rn rm (by omega)) (by omega) (by omega) (by refine ⟨rfl, ?_, ?_, ?_, ?_, ?_, ?_⟩ <;> dsimp only <;> omega)
  · rw [hc, show mkC h k i (gUn h k) (2, 40, 1) = S30.mk 40 true false 14 (fm k 8 15) 0 (fm k 0 15) 0 0 false 0 0 0 false false from rfl]
    have e2 : fm h 0 15 = 15 := eq_of_beq e2
    exact good_leaf (leaf_Un1_40 (d := fm k 8 15) (m := fm k 0 15) rd rm) (by omega) (by omega) (by refine ⟨rfl, ?_, ?_, ?_, ?_, ?_, ?_⟩ <;> dsimp only <;> omega)
  · rw [hc, show mkC h k i (gUn h k) (2, 42, 1) = S30.mk 42 true false 14 (fm k 8 15) 0 (fm k 0 15) 0 0 false 0 0 0 false false from rfl]
    have e2 : fm h 0 15 = 15 := eq_of_beq e2
    exact good_leaf (leaf_Un1_42 (d := fm k 8 15) (m := fm k 0 15) rd rm) (by omega) (by omega) (by refine ⟨rfl, ?_, ?_, ?_, ?_, ?_, ?_⟩ <;> dsimp only <;> omega)
  · rw [hc, show mkC h k i (gUn h k) (2, 39, 1) = S30.mk 39 true false 14 (fm k 8 15) 0 (fm k 0 15) 0 0 false 0 0 0 false false from rfl]
    have e2 : fm h 0 15 = 15 := eq_of_beq e2
    exact good_leaf (leaf_Un1_39 (d := fm k 8 15) (m := fm k 0 15) rd rm) (by omega) (by omega) (by refine ⟨rfl, ?_, ?_, ?_, ?_, ?_, ?_⟩ <;> dsimp only <;> omega)
  · rw [hc, show mkC h k i (gUn h k) (2, 41, 1) = S30.mk 41 true false 14 (fm k 8 15) 0 (fm k 0 15) 0 0 false 0 0 0 false false from rfl]
    have e2 : fm h 0 15 = 15 := eq_of_beq e2
    exact good_leaf (leaf_Un1_41 (d := fm k 8 15) (m := fm k 0 15) rd rm) (by omega) (by omega) (by refine ⟨rfl, ?_, ?_, ?_, ?_, ?_, ?_⟩ <;> dsimp only <;> omega)
  · rw [hc, show mkC h k i (gUn h k) (2, 36, 1) = S30.mk 36 true false 14 (fm k 8 15) 0 (fm k 0 15) 0 0 false 0 0 0 false false from rfl]
    have e2 : fm h 0 15 = fm k 0 15 := by simpa using e2
    exact good_leaf (leaf_Un1_36 (d := fm k 8 15) (m := fm k 0 15) rd rm) (by omega) (by omega) (by refine ⟨rfl, ?_, ?_, ?_, ?_, ?_, ?_⟩ <;> dsimp only <;> omega)
  · rw [hc, show mkC h k i (gUn h k) (2, 37, 1) = S30.mk 37 true false 14 (fm k 8 15) 0 (fm k 0 15) 0 0 false 0 0 0 false false from rfl]
    have e2 : fm h 0 15 = fm k 0 15 := by simpa using e2
    exact good_leaf (leaf_Un1_37 (d := fm k 8 15) (m := fm k 0 15) rd rm) (by omega) (by omega) (by refine ⟨rfl, ?_, ?_, ?_, ?_, ?_, ?_⟩ <;> dsimp only <;> omega)
  · rw [hc, show mkC h k i (gUn h k) (2, 35, 1) = S30.mk 35 true false 14 (fm k 8 15) 0 (fm k 0 15) 0 0 false 0 0 0 false false from rfl]
    have e2 : fm h 0 15 = fm k 0 15 := by simpa using e2
    exact good_leaf (leaf_Un1_35 (d := fm k 8 15) (m := fm k 0 15) rd rm) (by omega) (by omega) (by refine ⟨rfl, ?_, ?_, ?_, ?_, ?_, ?_⟩ <;> dsimp only <;> omega)
  · rw [hc, show mkC h k i (gUn h k) (2, 38, 1) = S30.mk 38 true false 14 (fm k 8 15) 0 (fm k 0 15) 0 0 false 0 0 0 false false from rfl]
    have e2 : fm h 0 15 = fm k 0 15 := by simpa using e2
    exact good_leaf (leaf_Un1_38 (d := fm k 8 15) (m := fm k 0 15) rd rm) (by omega) (by omega) (by refine ⟨rfl, ?_, ?_, ?_, ?_, ?_, ?_⟩ <;> dsimp only <;> omega)
  · rw [hc, show mkC h k i (gUn h k) (2, 34, 1) = S30.mk 34 true false 14 (fm k 8 15) 0 (fm k 0 15) 0 0 false 0 0 0 false false from rfl]
    have e2 : fm h 0 15 = fm k 0 15 := by simpa using e2
    exact good_leaf (leaf_Un1_34 (d := fm k 8 15) (m := fm k 0 15) rd rm) (by omega) (by omega) (by refine ⟨rfl, ?_, ?_, ?_, ?_, ?_, ?_⟩ <;> dsimp only <;> omega)

theorem good_Lo {h k : Int} (hh : U16 h) (hk : U16 k) (i : Bool) (h8 : fm h 8 255 = 251) : GoodE h k (p22 h k i) := by
  have sh := h84 hh
  have sk := nib hk
  have rf := fm_fact h 4 15 (by decide)
  have rn := fm_fact h 0 15 (by decide)
  have rw_ := fm_fact k 4 15 (by decide)
  have rd := fm_fact k 8 15 (by decide)
  have rm := fm_fact k 0 15 (by decide)
  have ra := fm_fact k 12 15 (by decide)
  rw [Lo_p hh hk i]
  rcases Lo_law rf rw_ (fm k 12 15 == 15) (fm k 12 15 == fm k 8 15) (p81 (fm k 12 15)) (p81 (fm h 0 15)) (p81 (fm k 8 15)) (p81 (fm k 0 15)) with hc | hc | ⟨e0, e1, e2, hc⟩ | ⟨e0, e1, hc⟩ | ⟨e0, e1, hc⟩ | ⟨e0, e1, e2, hc⟩ | ⟨e0, e1, e2, hc⟩ | ⟨e0, e1, hc⟩ | ⟨e0, e1, hc⟩ | ⟨e0, e1, hc⟩ | ⟨e0, e1, hc⟩
  · exact Or.inl (mkC0 _ _ hc)
  · exact Or.inr (Or.inl (mkC1 _ _ hc))
  · rw [hc, show mkC h k i (gLo h k) (2, 21, 0) = S30.mk 21 true false 14 (fm k 8 15) (fm h 0 15) (fm k 0 15) 0 0 false 0 0 0 false false from rfl]
    have e2 : fm k 12 15 = 15 := eq_of_beq e2
    exact good_leaf (leaf_Lo0_21 (d := fm k 8 15) (n := fm h 0 15) (m := fm k 0 15) rd rn rm) (by omega) (by omega) (by refine ⟨rfl, ?_, ?_, ?_, ?_, ?_, ?_⟩ <;> dsimp only <;> omega)
  · rw [hc, show mkC h k i (gLo h k) (2, 22, 1) = S30.mk 22 true false 14 (fm k 8 15) (fm h 0 15) (fm k 0 15) (fm k 12 15) 0 false 0 0 0 false false from rfl]
    exact good_leaf (leaf_Lo1_22 (d := fm k 8 15) (n := fm h 0 15) (m := fm k 0 15) (a := fm k 12 15) rd rn rm ra) (by omega) (by omega) (by refine ⟨rfl, ?_, ?_, ?_, ?_, ?_, ?_⟩ <;> dsimp only <;> omega)
  · rw [hc, show mkC h k i (gLo h k) (2, 23, 1) = S30.mk 23 true false 14 (fm k 8 15) (fm h 0 15) (fm k 0 15) (fm k 12 15) 0 false 0 0 0 false false from rfl]
    exact good_leaf (leaf_Lo1_23 (d := fm k 8 15) (n := fm h 0 15) (m := fm k 0 15) (a := fm k 12 15) rd rn rm ra) (by omega) (by omega) (by refine ⟨rfl, ?_, ?_, ?_, ?_, ?_, ?_⟩ <;> dsimp only <;> omega)
  · rw [hc, show mkC h k i (gLo h k) (2, 29, 0) = S30.mk 29 true false 14 (fm k 8 15) (fm h 0 15) (fm k 0 15) 0 0 false 0 0 0 false false from rfl]
    have e2 : fm k 12 15 = 15 := eq_of_beq e2
    exact good_leaf (leaf_Lo0_29 (d := fm k 8 15) (n := fm h 0 15) (m := fm k 0 15) rd rn rm) (by omega) (by omega) (by refine ⟨rfl, ?_, ?_, ?_, ?_, ?_, ?_⟩ <;> dsimp only <;> omega)
  · rw [hc, show mkC h k i (gLo h k) (2, 28, 0) = S30.mk 28 true false 14 (fm k 8 15) (fm h 0 15) (fm k 0 15) 0 0 false 0 0 0 false false from rfl]
    have e2 : fm k 12 15 = 15 := eq_of_beq e2
    exact good_leaf (leaf_Lo0_28 (d := fm k 8 15) (n := fm h 0 15) (m := fm k 0 15) rd rn rm) (by omega) (by omega) (by refine ⟨rfl, ?_, ?_, ?_, ?_, ?_, ?_⟩ <;> dsimp only <;> omega)
  · rw [hc, show mkC h k i (gLo h k) (2, 25, 2) = S30.mk 25 true false 14 (fm k 12 15) (fm h 0 15) (fm k 0 15) (fm k 8 15) 0 false 0 0 0 false false from rfl]
    exact good_leaf (leaf_Lo1_25 (d := fm k 12 15) (n := fm h 0 15) (m := fm k 0 15) (a := fm k 8 15) ra rn rm rd) (by omega) (by omega) (by refine ⟨rfl, ?_, ?_, ?_, ?_, ?_, ?_⟩ <;> dsimp only <;> omega)
  · rw [hc, show mkC h k i (gLo h k) (2, 24, 2) = S30.mk 24 true false 14 (fm k 12 15) (fm h 0 15) (fm k 0 15) (fm k 8 15) 0 false 0 0 0 false false from rfl]
    exact good_leaf (leaf_Lo1_24 (d := fm k 12 15) (n := fm h 0 15) (m := fm k 0 15) (a := fm k 8 15) ra rn rm rd) (by omega) (by omega) (by refine ⟨rfl, ?_, ?_, ?_, ?_, ?_, ?_⟩ <;> dsimp only <;> omega)
  · rw [hc, show mkC h k i (gLo h k) (2, 27, 2) = S30.mk 27 true false 14 (fm k 12 15) (fm h 0 15) (fm k 0 15) (fm k 8 15) 0 false 0 0 0 false false from rfl]
    exact good_leaf (leaf_Lo1_27 (d := fm k 12 15) (n := fm h 0 15) (m := fm k 0 15) (a := fm k 8 15) ra rn rm rd) (by omega) (by omega) (by refine ⟨rfl, ?_, ?_, ?_, ?_, ?_, ?_⟩ <;> dsimp only <;> omega)
  · rw [hc, show mkC h k i (gLo h k) (2, 26, 2) = S30.mk 26 true false 14 (fm k 12 15) (fm h 0 15) (fm k 0 15) (fm k 8 15) 0 false 0 0 0 false false from rfl]
    exact good_leaf (leaf_Lo1_26 (d := fm k 12 15) (n := fm h 0 15) (m := fm k 0 15) (a := fm k 8 15) ra rn rm rd) (by omega) (by omega) (by refine ⟨rfl, ?_, ?_, ?_, ?_, ?_, ?_⟩ <;> dsimp only <;> omega)

theorem good_Me {h k : Int} (hh : U16 h) (hk : U16 k) (i : Bool) (h9 : fm h 9 127 = 124) : GoodE h k (p20 h k i) := by
  have sh := hMe hh
  have sk := kWd hk
  have sk2 := kMe hk
  have rg := fm_fact h 8 1 (by decide)
  have ru := fm_fact h 7 1 (by decide)
  have rz := fm_fact h 5 3 (by decide)
  have rl := fm_fact h 4 1 (by decide)
  have rn := fm_fact h 0 15 (by decide)
  have rd := fm_fact k 12 15 (by decide)
  have rv := fm_fact k 0 4095 (by decide)
  have rm := fm_fact k 0 15 (by decide)
  have rt := fm_fact k 4 3 (by decide)
  rw [Me_p hh hk i]
  rcases Me_law rg ru rz rl (fm h 0 15 == 15) (fm k 6 63 == 0) (fm k 0 4095 == 0) (p81 (fm k 12 15)) (p81 (fm k 0 15)) with hc | hc | ⟨e0, e1, e2, e3, e4, hc⟩ | ⟨e0, e1, e2, e3, e4, e5, hc⟩ | ⟨e0, e1, e2, e3, e4, hc⟩ | ⟨e0, e1, e2, e3, e4, e5, hc⟩ | ⟨e0, e1, e2, e3, e4, hc⟩ | ⟨e0, e1, e2, e3, e4, e5, hc⟩ | ⟨e0, e1, e2, e3, e4, e5, hc⟩ | ⟨e0, e1, e2, e3, e4, hc⟩ | ⟨e0, e1, e2, e3, e4, hc⟩ | ⟨e0, e1, e2, e3, e4, e5, hc⟩ | ⟨e0, e1, e2, e3, e4, e5, hc⟩ | ⟨e0, e1, e2, e3, e4, hc⟩ | ⟨e0, e1, e2, e3, e4, hc⟩ | ⟨e0, e1, e2, e3, e4, e5, hc⟩ | ⟨e0, e1, e2, e3, e4, e5, hc⟩ | ⟨e0, e1, e2, e3, e4, hc⟩ | ⟨e0, e1, e2, e3, e4, hc⟩ | ⟨e0, e1, e2, e3, e4, e5, hc⟩ | ⟨e0, e1, e2, e3, e4, e5, hc⟩ | ⟨e0, e1, e2, e3, e4, hc⟩ | ⟨e0, e1, e2, e3, e4, hc⟩ | ⟨e0, e1, e2, e3, e4, e5, hc⟩ | ⟨e0, e1, e2, e3, e4, e5, hc⟩ | ⟨e0, e1, e2, e3, e4, hc⟩ | ⟨e0, e1, e2, e3, e4, hc⟩ | ⟨e0, e1, e2, e3, e4, e5, hc⟩
  · exact Or.inl (mkC0 _ _ hc)
  · exact Or.inr (Or.inl (mkC1 _ _ hc))
  · rw [hc, show mkC h k i (gMe h k) (2, 50, 1) = S30.mk 50 true false 14 (fm k 12 15) (fm h 0 15) 0 0 (fm k 0 4095) true 0 0 0 false false from rfl]
    have e4 : fm h 0 15 ≠ 15 := by simpa using e4
    exact good_leaf (leaf_Ma1_50 (d := fm k 12 15) (n := fm h 0 15) (v := fm k 0 4095) rd (by omega) rv) (by omega) (by omega) (by refine ⟨rfl, ?_, ?_, ?_, ?_, ?_, ?_⟩ <;> dsimp only <;> omega)
  · rw [hc, show mkC h k i (gMe h k) (2, 50, 2) = S30.mk 50 true false 14 (fm k 12 15) (fm h 0 15) (fm k 0 15) 0 0 false 0 (fm k 4 3) 0 false false from rfl]
    have e4 : fm h 0 15 ≠ 15 := by simpa using e4
    have e5 : fm k 6 63 = 0 := eq_of_beq e5
    exact good_leaf (leaf_Me2_50 (d := fm k 12 15) (n := fm h 0 15) (m := fm k 0 15) (t := fm k 4 3) rd rn rm rt) (by omega) (by omega) (by refine ⟨rfl, ?_, ?_, ?_, ?_, ?_, ?_⟩ <;> dsimp only <;> omega)
  · rw [hc, show mkC h k i (gMe h k) (2, 51, 1) = S30.mk 51 true false 14 (fm k 12 15) (fm h 0 15) 0 0 (fm k 0 4095) true 0 0 0 false false from rfl]
    have e4 : fm h 0 15 ≠ 15 := by simpa using e4
    exact good_leaf (leaf_Ma1_51 (d := fm k 12 15) (n := fm h 0 15) (v := fm k 0 4095) rd (by omega) rv) (by omega) (by omega) (by refine ⟨rfl, ?_, ?_, ?_, ?_, ?_, ?_⟩ <;> dsimp only <;> omega)
  · rw [hc, show mkC h k i (gMe h k) (2, 51, 2) = S30.mk 51 true false 14 (fm k 12 15) (fm h 0 15) (fm k 0 15) 0 0 false 0 (fm k 4 3) 0 false false from rfl]
    have e4 : fm h 0 15 ≠ 15 := by simpa using e4
    have e5 : fm k 6 63 = 0 := eq_of_beq e5
    exact good_leaf (leaf_Me2_51 (d := fm k 12 15) (n := fm h 0 15) (m := fm k 0 15) (t := fm k 4 3) rd rn rm rt) (by omega) (by omega) (by refine ⟨rfl, ?_, ?_, ?_, ?_, ?_, ?_⟩ <;> dsimp only <;> omega)
  · rw [hc, show mkC h k i (gMe h k) (2, 49, 1) = S30.mk 49 true false 14 (fm k 12 15) (fm h 0 15) 0 0 (fm k 0 4095) true 0 0 0 false false from rfl]
    have e4 : fm h 0 15 ≠ 15 := by simpa using e4
    exact good_leaf (leaf_Ma1_49 (d := fm k 12 15) (n := fm h 0 15) (v := fm k 0 4095) rd (by omega) rv) (by omega) (by omega) (by refine ⟨rfl, ?_, ?_, ?_, ?_, ?_, ?_⟩ <;> dsimp only <;> omega)
  · rw [hc, show mkC h k i (gMe h k) (2, 49, 2) = S30.mk 49 true false 14 (fm k 12 15) (fm h 0 15) (fm k 0 15) 0 0 false 0 (fm k 4 3) 0 false false from rfl]
    have e4 : fm h 0 15 ≠ 15 := by simpa using e4
    have e5 : fm k 6 63 = 0 := eq_of_beq e5
    exact good_leaf (leaf_Me2_49 (d := fm k 12 15) (n := fm h 0 15) (m := fm k 0 15) (t := fm k 4 3) rd rn rm rt) (by omega) (by omega) (by refine ⟨rfl, ?_, ?_, ?_, ?_, ?_, ?_⟩ <;> dsimp only <;> omega)
  · rw [hc, show mkC h k i (gMe h k) (2, 45, 0) = S30.mk 45 true false 14 (fm k 12 15) (fm h 0 15) 0 0 (wrapF .u32 (0 - (fm k 0 4095))) true 0 0 0 false false from rfl]
    have e4 : fm h 0 15 = 15 := eq_of_beq e4
    have e5 : fm k 0 4095 ≠ 0 := by simpa using e5
    have hz := negz (x := fm k 0 4095) (by omega)
    rw [e4]
    exact good_leaf (leaf_Ma15d_45 (d := fm k 12 15) (x := fm k 0 4095) rd (by omega) hz.1 hz.2) (by omega) (by omega) (by refine ⟨rfl, ?_, ?_, ?_, ?_, ?_, ?_⟩ <;> dsimp only <;> omega)
  · rw [hc, show mkC h k i (gMe h k) (2, 45, 1) = S30.mk 45 true false 14 (fm k 12 15) (fm h 0 15) 0 0 (fm k 0 4095) true 0 0 0 false false from rfl]
    have e4 : fm h 0 15 = 15 := eq_of_beq e4
    rw [e4]
    exact good_leaf (leaf_Ma15u_45 (d := fm k 12 15) (v := fm k 0 4095) rd rv) (by omega) (by omega) (by refine ⟨rfl, ?_, ?_, ?_, ?_, ?_, ?_⟩ <;> dsimp only <;> omega)
  · rw [hc, show mkC h k i (gMe h k) (2, 45, 1) = S30.mk 45 true false 14 (fm k 12 15) (fm h 0 15) 0 0 (fm k 0 4095) true 0 0 0 false false from rfl]
    have e4 : fm h 0 15 ≠ 15 := by simpa using e4
    exact good_leaf (leaf_Ma1_45 (d := fm k 12 15) (n := fm h 0 15) (v := fm k 0 4095) rd (by omega) rv) (by omega) (by omega) (by refine ⟨rfl, ?_, ?_, ?_, ?_, ?_, ?_⟩ <;> dsimp only <;> omega)
  · rw [hc, show mkC h k i (gMe h k) (2, 45, 2) = S30.mk 45 true false 14 (fm k 12 15) (fm h 0 15) (fm k 0 15) 0 0 false 0 (fm k 4 3) 0 false false from rfl]
    have e4 : fm h 0 15 ≠ 15 := by simpa using e4
    have e5 : fm k 6 63 = 0 := eq_of_beq e5
    exact good_leaf (leaf_Me2_45 (d := fm k 12 15) (n := fm h 0 15) (m := fm k 0 15) (t := fm k 4 3) rd rn rm rt) (by omega) (by omega) (by refine ⟨rfl, ?_, ?_, ?_, ?_, ?_, ?_⟩ <;> dsimp only <;> omega)
  · rw [hc, show mkC h k i (gMe h k) (2, 46, 0) = S30.mk 46 true false 14 (fm k 12 15) (fm h 0 15) 0 0 (wrapF .u32 (0 - (fm k 0 4095))) true 0 0 0 false false from rfl]
    have e4 : fm h 0 15 = 15 := eq_of_beq e4
    have e5 : fm k 0 4095 ≠ 0 := by simpa using e5
    have hz := negz (x := fm k 0 4095) (by omega)
    rw [e4]
    exact good_leaf (leaf_Ma15d_46 (d := fm k 12 15) (x := fm k 0 4095) rd (by omega) hz.1 hz.2) (by omega) (by omega) (by refine ⟨rfl, ?_, ?_, ?_, ?_, ?_, ?_⟩ <;> dsimp only <;> omega)
  · rw [hc, show mkC h k i (gMe h k) (2, 46, 1) = S30.mk 46 true false 14 (fm k 12 15) (fm h 0 15) 0 0 (fm k 0 4095) true 0 0 0 false false from rfl]
    have e4 : fm h 0 15 = 15 := eq_of_beq e4
    rw [e4]
    exact good_leaf (leaf_Ma15u_46 (d := fm k 12 15) (v := fm k 0 4095) rd rv) (by omega) (by omega) (by refine ⟨rfl, ?_, ?_, ?_, ?_, ?_, ?_⟩ <;> dsimp only <;> omega)
  · rw [hc, show mkC h k i (gMe h k) (2, 46, 1) = S30.mk 46 true false 14 (fm k 12 15) (fm h 0 15) 0 0 (fm k 0 4095) true 0 0 0 false false from rfl]
    have e4 : fm h 0 15 ≠ 15 := by simpa using e4
    exact good_leaf (leaf_Ma1_46 (d := fm k 12 15) (n := fm h 0 15) (v := fm k 0 4095) rd (by omega) rv) (by omega) (by omega) (by refine ⟨rfl, ?_, ?_, ?_, ?_, ?_, ?_⟩ <;> dsimp only <;> omega)
  · rw [hc, show mkC h k i (gMe h k) (2, 46, 2) = S30.mk 46 true false 14 (fm k 12 15) (fm h 0 15) (fm k 0 15) 0 0 false 0 (fm k 4 3) 0 false false from rfl]
    have e4 : fm h 0 15 ≠ 15 := by simpa using e4
    have e5 : fm k 6 63 = 0 := eq_of_beq e5
    exact good_leaf (leaf_Me2_46 (d := fm k 12 15) (n := fm h 0 15) (m := fm k 0 15) (t := fm k 4 3) rd rn rm rt) (by omega) (by omega) (by refine ⟨rfl, ?_, ?_, ?_, ?_, ?_, ?_⟩ <;> dsimp only <;> omega)
  · rw [hc, show mkC h k i (gMe h k) (2, 44, 0) = S30.mk 44 true false 14 (fm k 12 15) (fm h 0 15) 0 0 (wrapF .u32 (0 - (fm k 0 4095))) true 0 0 0 false false from rfl]
    have e4 : fm h 0 15 = 15 := eq_of_beq e4
    have e5 : fm k 0 4095 ≠ 0 := by simpa using e5
    have hz := negz (x := fm k 0 4095) (by omega)
    rw [e4]
    exact good_leaf (leaf_Ma15d_44 (d := fm k 12 15) (x := fm k 0 4095) rd (by omega) hz.1 hz.2) (by omega) (by omega) (by refine ⟨rfl, ?_, ?_, ?_, ?_, ?_, ?_⟩ <;> dsimp only <;> omega)
  · rw [hc, show mkC h k i (gMe h k) (2, 44, 1) = S30.mk 44 true false 14 (fm k 12 15) (fm h 0 15) 0 0 (fm k 0 4095) true 0 0 0 false false from rfl]
    have e4 : fm h 0 15 = 15 := eq_of_beq e4
    rw [e4]
    exact good_leaf (leaf_Ma15u_44 (d := fm k 12 15) (v := fm k 0 4095) rd rv) (by omega) (by omega) (by refine ⟨rfl, ?_, ?_, ?_, ?_, ?_, ?_⟩ <;> dsimp only <;> omega)
  · rw [hc, show mkC h k i (gMe h k) (2, 44, 1) = S30.mk 44 true false 14 (fm k 12 15) (fm h 0 15) 0 0 (fm k 0 4095) true 0 0 0 false false from rfl]
    have e4 : fm h 0 15 ≠ 15 := by simpa using e4
    exact good_leaf (leaf_Ma1_44 (d := fm k 12 15) (n := fm h 0 15) (v := fm k 0 4095) rd (by omega) rv) (by omega) (by omega) (by refine ⟨rfl, ?_, ?_, ?_, ?_, ?_, ?_⟩ <;> dsimp only <;> omega)
  · rw [hc, show mkC h k i (gMe h k) (2, 44, 2) = S30.mk 44 true false 14 (fm k 12 15) (fm h 0 15) (fm k 0 15) 0 0 false 0 (fm k 4 3) 0 false false from rfl]
    have e4 : fm h 0 15 ≠ 15 := by simpa using e4
    have e5 : fm k 6 63 = 0 := eq_of_beq e5
    exact good_leaf (leaf_Me2_44 (d := fm k 12 15) (n := fm h 0 15) (m := fm k 0 15) (t := fm k 4 3) rd rn rm rt) (by omega) (by omega) (by refine ⟨rfl, ?_, ?_, ?_, ?_, ?_, ?_⟩ <;> dsimp only <;> omega)
  · rw [hc, show mkC h k i (gMe h k) (2, 47, 0) = S30.mk 47 true false 14 (fm k 12 15) (fm h 0 15) 0 0 (wrapF .u32 (0 - (fm k 0 4095))) true 0 0 0 false false from rfl]
    have e4 : fm h 0 15 = 15 := eq_of_beq e4
    have e5 : fm k 0 4095 ≠ 0 := by simpa using e5
    have hz := negz (x := fm k 0 4095) (by omega)
    rw [e4]
    exact good_leaf (leaf_Ma15d_47 (d := fm k 12 15) (x := fm k 0 4095) rd (by omega) hz.1 hz.2) (by omega) (by omega) (by refine ⟨rfl, ?_, ?_, ?_, ?_, ?_, ?_⟩ <;> dsimp only <;> omega)
  · rw [hc, show mkC h k i (gMe h k) (2, 47, 1) = S30.mk 47 true false 14 (fm k 12 15) (fm h 0 15) 0 0 (fm k 0 4095) true 0 0 0 false false from rfl]
    have e4 : fm h 0 15 = 15 := eq_of_beq e4
    rw [e4]
    exact good_leaf (leaf_Ma15u_47 (d := fm k 12 15) (v := fm k 0 4095) rd rv) (by omega) (by omega) (by refine ⟨rfl, ?_, ?_, ?_, ?_, ?_, ?_⟩ <;> dsimp only <;> omega)
  · rw [hc, show mkC h k i (gMe h k) (2, 47, 1) = S30.mk 47 true false 14 (fm k 12 15) (fm h 0 15) 0 0 (fm k 0 4095) true 0 0 0 false false from rfl]
    have e4 : fm h 0 15 ≠ 15 := by simpa using e4
    exact good_leaf (leaf_Ma1_47 (d := fm k 12 15) (n := fm h 0 15) (v := fm k 0 4095) rd (by omega) rv) (by omega) (by omega) (by refine ⟨rfl, ?_, ?_, ?_, ?_, ?_, ?_⟩ <;> dsimp only <;> omega)
  · rw [hc, show mkC h k i (gMe h k) (2, 47, 2) = S30.mk 47 true false 14 (fm k 12 15) (fm h 0 15) (fm k 0 15) 0 0 false 0 (fm k 4 3) 0 false false from rfl]
    have e4 : fm h 0 15 ≠ 15 := by simpa using e4
    have e5 : fm k 6 63 = 0 := eq_of_beq e5
    exact good_leaf (leaf_Me2_47 (d := fm k 12 15) (n := fm h 0 15) (m := fm k 0 15) (t := fm k 4 3) rd rn rm rt) (by omega) (by omega) (by refine ⟨rfl, ?_, ?_, ?_, ?_, ?_, ?_⟩ <;> dsimp only <;> omega)
  · rw [hc, show mkC h k i (gMe h k) (2, 48, 0) = S30.mk 48 true false 14 (fm k 12 15) (fm h 0 15) 0 0 (wrapF .u32 (0 - (fm k 0 4095))) true 0 0 0 false false from rfl]
    have e4 : fm h 0 15 = 15 := eq_of_beq e4
    have e5 : fm k 0 4095 ≠ 0 := by simpa using e5
    have hz := negz (x := fm k 0 4095) (by omega)
    rw [e4]
    exact good_leaf (leaf_Ma15d_48 (d := fm k 12 15) (x := fm k 0 4095) rd (by omega) hz.1 hz.2) (by omega) (by omega) (by refine ⟨rfl, ?_, ?_, ?_, ?_, ?_, ?_⟩ <;> dsimp only <;> omega)
  · rw [hc, show mkC h k i (gMe h k) (2, 48, 1) = S30.mk 48 true false 14 (fm k 12 15) (fm h 0 15) 0 0 (fm k 0 4095) true 0 0 0 false false from rfl]
    have e4 : fm h 0 15 = 15 := eq_of_beq e4
    rw [e4]
    exact good_leaf (leaf_Ma15u_48 (d := fm k 12 15) (v := fm k 0 4095) rd rv) (by omega) (by omega) (by refine ⟨rfl, ?_, ?_, ?_, ?_, ?_, ?_⟩ <;> dsimp only <;> omega)
  · rw [hc, show mkC h k i (gMe h k) (2, 48, 1) = S30.mk 48 true false 14 (fm k 12 15) (fm h 0 15) 0 0 (fm k 0 4095) true 0 0 0 false false from rfl]
    have e4 : fm h 0 15 ≠ 15 := by simpa using e4
    exact good_leaf (leaf_Ma1_48 (d := fm k 12 15) (n := fm h 0 15) (v := fm k 0 4095) rd (by omega) rv) (by omega) (by omega) (by refine ⟨rfl, ?_, ?_, ?_, ?_, ?_, ?_⟩ <;> dsimp only <;> omega)
  · rw [hc, show mkC h k i (gMe h k) (2, 48, 2) = S30.mk 48 true false 14 (fm k 12 15) (fm h 0 15) (fm k 0 15) 0 0 false 0 (fm k 4 3) 0 false false from rfl]
    have e4 : fm h 0 15 ≠ 15 := by simpa using e4
    have e5 : fm k 6 63 = 0 := eq_of_beq e5
    exact good_leaf (leaf_Me2_48 (d := fm k 12 15) (n := fm h 0 15) (m := fm k 0 15) (t := fm k 4 3) rd rn rm rt) (by omega) (by omega) (by refine ⟨rfl, ?_, ?_, ?_, ?_, ?_, ?_⟩ <;> dsimp only <;> omega)

end Go.Den
