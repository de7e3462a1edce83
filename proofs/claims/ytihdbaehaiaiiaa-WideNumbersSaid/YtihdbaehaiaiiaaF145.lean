import Derived.Test.YtihdbaehaiaiiaaF13a
import Derived.Test.YtihdbaehaiaiiaaF13b
import Derived.Test.YtihdbaehaiaiiaaF13c
import Derived.Test.YtihdbaehaiaiiaaF13d
set_option linter.unusedSimpArgs false
section
set_option maxRecDepth 100000
namespace Go.Den
theorem ones_eq {k : Int} (hk : 0 ≤ k ∧ k ≤ 65535) : decide (p46 k < 2) = decide ((((encI (regL k true 16 0)).length : Nat) : Int) < 2) := by
  obtain ⟨n, rfl⟩ := Int.eq_ofNat_of_zero_le hk.1
  have h : chkOnes n = true := by
    rcases Nat.lt_or_ge n 16384 with h1 | h1
    · exact chkOnesA0 (by omega) (by omega)
    rcases Nat.lt_or_ge n 32768 with h2 | h2
    · exact chkOnesA1 (by omega) (by omega)
    rcases Nat.lt_or_ge n 49152 with h3 | h3
    · exact chkOnesA2 (by omega) (by omega)
    · exact chkOnesA3 (by omega) (by omega)
  exact beqB_ok h
end Go.Den
end
section
set_option linter.unusedVariables false
set_option maxRecDepth 100000
namespace Go.Den

theorem shr_fm64 {x : Int} (hx : U16 x) (a : Nat) (m : Int) (ha : a ≤ 16) (hm : m = ((2 ^ (16 - a) - 1 : Nat) : Int)) : shrF .i64 x (a : Int) = fm x (a : Int) m := by
  obtain ⟨n, rfl⟩ := Int.eq_ofNat_of_zero_le hx.1
  have hn : n ≤ 65535 := by have := hx.2; omega
  subst hm
  rw [fm_div]
  show shrF .i64 (Int.ofNat n) (Int.ofNat a) = _
  rw [shrF_nat .i64 n a (by simp only [topN]; omega)]
  have hp : 2 ^ 16 = 2 ^ a * 2 ^ (16 - a) := by rw [← Nat.pow_add]; congr 1; omega
  have hlt : n / 2 ^ a < 2 ^ (16 - a) := by
    rw [Nat.div_lt_iff_lt_mul (Nat.pow_pos (by omega)), Nat.mul_comm, ← hp]
    omega
  rw [Nat.mod_eq_of_lt hlt]
  rfl

theorem f8_7 {x : Int} (hx : U16 x) : fm x 8 1 = fm x 7 3 / 2 := by
  obtain ⟨n, rfl⟩ := Int.eq_ofNat_of_zero_le hx.1
  rw [show fm (n : Int) 8 1 = ((n / 2 ^ 8 % 2 ^ 1 : Nat) : Int) from fm_div n 8 1, show fm (n : Int) 7 3 = ((n / 2 ^ 7 % 2 ^ 2 : Nat) : Int) from fm_div n 7 2]
  omega

theorem many_eq {h k : Int} (hh : U16 h) (hk : U16 k) (i : Bool) (hp : fm h 7 3 = 1 ∨ fm h 7 3 = 2) : p23 h k i = wrapR h k i (p55 h k) := by
  have w1 : wrapF .i64 k = k := wrapF_le hk.1 (by have := hk.2; simp only [topN, Int.ofNat_eq_natCast]; omega)
  have w2 : wrapF .u64 k = k := wrapF_le hk.1 (by have := hk.2; simp only [topN, Int.ofNat_eq_natCast]; omega)
  have a13 : bitsF .and .i64 (shrF .i64 k 13) 1 = fm k 13 1 := and_fm .i64 k 13 1 ⟨hk.1, by have := hk.2; simp only [topN, Int.ofNat_eq_natCast]; omega⟩ (by decide) (by decide)
  have s14 : shrF .i64 k 14 = fm k 14 3 := shr_fm64 hk 14 3 (by decide) (by decide)
  have s15 : shrF .i64 k 15 = fm k 15 1 := shr_fm64 hk 15 1 (by decide) (by decide)
  have r4 := fm_fact h 4 1 (by decide)
  unfold p23 p55
  simp only [w1, w2, a13, s14, s15, ones_eq hk, af16 hh, af16 hk, a016 hh, a016 hk, wf64, wf32, gf1 hh, gf4 hh, s16_14 hk, s16_15 hk, Int.reduceLE, f8_7 hh]
  generalize decide ((((encI (regL k true 16 0)).length : Nat) : Int) < 2) = b2
  generalize (bitsF .and .i64 (shrF .i64 k (fm h 0 15)) 1 == 1) = bl
  generalize (fm h 0 15 == 15) = bn
  generalize fm h 0 15 = n
  generalize (fm k 13 1 == 1) = b13
  generalize (fm k 14 3 == 3) = b14
  generalize (fm k 15 1 == 1) = b15
  generalize (fm h 5 1 == 1) = b5
  generalize fm h 4 1 = l at *
  obtain rfl | rfl : l = 0 ∨ l = 1 := by omega
  all_goals
    rcases hp with hp | hp
    all_goals
      simp only [hp]
      cases bn <;> cases b13 <;> cases b2 <;> cases b5 <;> cases bl <;> cases b14 <;> cases b15 <;> rfl

end Go.Den
end
