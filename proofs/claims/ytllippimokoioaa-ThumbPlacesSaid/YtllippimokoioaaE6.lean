import Derived.Test.YtllippimokoioaaE5
set_option linter.unusedVariables false
set_option linter.unusedSimpArgs false
set_option maxRecDepth 100000
namespace Go.Den

theorem tmod_rng (a : Int) (b : Nat) (hb : 0 < b) : -(b : Int) < a.tmod b ∧ a.tmod b < b := by
  by_cases ha : 0 ≤ a
  · rw [Int.tmod_eq_emod_of_nonneg ha]
    have h1 := Int.emod_nonneg a (show (b : Int) ≠ 0 by omega)
    have h2 := Int.emod_lt_of_pos a (show (0 : Int) < b by omega)
    omega
  · have e : a = -(-a) := by omega
    rw [e, Int.neg_tmod, Int.tmod_eq_emod_of_nonneg (by omega)]
    have h1 := Int.emod_nonneg (-a) (show (b : Int) ≠ 0 by omega)
    have h2 := Int.emod_lt_of_pos (-a) (show (0 : Int) < b by omega)
    omega

theorem and_pow (n : Nat) (hn : n ≤ 62) (d : Int) : bitsF .and .i64 d ((2 ^ n - 1 : Nat) : Int) = d % ((2 ^ n : Nat) : Int) := by
  have hp : 0 < 2 ^ n := Nat.pow_pos (by omega)
  have hle : 2 ^ n ≤ 2 ^ 62 := Nat.pow_le_pow_right (by omega) hn
  rw [bitsF_S]
  unfold bitsS
  have hb : unsK .i64 ((2 ^ n - 1 : Nat) : Int) = 2 ^ n - 1 := unsK_nat (by simp only [topN]; omega)
  have hd : ((unsK .i64 d : Nat) : Int) = d % 18446744073709551616 := by
    show (((d % 18446744073709551616).toNat : Nat) : Int) = _
    exact Int.toNat_of_nonneg (Int.emod_nonneg _ (by omega))
  rw [hb, show bitsN .and (modK .i64) (unsK .i64 d) (2 ^ n - 1) = unsK .i64 d % 2 ^ n from Nat.and_two_pow_sub_one_eq_mod _ _]
  have hm : unsK .i64 d % 2 ^ n < 2 ^ n := Nat.mod_lt _ hp
  rw [wrapF_S, wrapS_id _ _ (by simp only [topN]; omega)]
  show ((unsK .i64 d % 2 ^ n : Nat) : Int) = _
  rw [show ((unsK .i64 d % 2 ^ n : Nat) : Int) = ((unsK .i64 d : Nat) : Int) % ((2 ^ n : Nat) : Int) from rfl, hd]
  refine Int.emod_emod_of_dvd _ ?_
  have : (18446744073709551616 : Int) = ((2 ^ 64 : Nat) : Int) := by decide
  rw [this]
  exact Int.natCast_dvd_natCast.2 (Nat.pow_dvd_pow 2 (by omega))

theorem and255 (d : Int) : bitsF .and .i64 d 255 = d % 256 := and_pow 8 (by omega) d
theorem and2047 (d : Int) : bitsF .and .i64 d 2047 = d % 2048 := and_pow 11 (by omega) d

theorem orC : ∀ c < 14, ∀ e < 256, bitsF .or .u16 (bitsF .or .u16 53248 (shlF .u16 (wrapF .u16 ((c : Nat) : Int)) 8)) (wrapF .u16 ((e : Nat) : Int)) = 53248 + ((c : Nat) : Int) * 256 + ((e : Nat) : Int) := by decide +kernel
theorem orA : ∀ e < 2048, bitsF .or .u16 57344 (wrapF .u16 ((e : Nat) : Int)) = 57344 + ((e : Nat) : Int) := by decide +kernel

theorem p10_ok {x0 x1 : Int} (h1 : 0 ≤ x1) : p10 x0 x1 = true := by
  have hc := tmod_fact x1 14 (by omega) h1
  obtain ⟨c, hc'⟩ := Int.eq_ofNat_of_zero_le hc.1
  have hc14 : c < 14 := by omega
  have hd := tmod_rng x0 256 (by omega)
  have hf := tmod_rng x0 2048 (by omega)
  have hd : -256 < x0.tmod 256 ∧ x0.tmod 256 < 256 := hd
  have hf : -2048 < x0.tmod 2048 ∧ x0.tmod 2048 < 2048 := hf
  obtain ⟨a1, a2⟩ := enc_c hc14 hd.1 hd.2
  obtain ⟨b1, b2⟩ := enc_a hf.1 hf.2
  have hw : wrapF .i64 (x1.tmod 14) = (c : Int) := by
    rw [hc']
    exact wrapF_id (by omega) (by simp only [halfK]; omega)
  have e1 : bitsF .or .u16 (bitsF .or .u16 53248 (shlF .u16 (wrapF .u16 (x1.tmod 14)) 8)) (wrapF .u16 (bitsF .and .i64 (x0.tmod 256) 255)) = 53248 + c * 256 + x0.tmod 256 % 256 := by
    rw [and255, hc']
    obtain ⟨g, hg⟩ := Int.eq_ofNat_of_zero_le (show 0 ≤ x0.tmod 256 % 256 by omega)
    rw [hg]
    exact orC c hc14 g (by omega)
  have e2 : bitsF .or .u16 57344 (wrapF .u16 (bitsF .and .i64 (x0.tmod 2048) 2047)) = 57344 + x0.tmod 2048 % 2048 := by
    rw [and2047]
    obtain ⟨g, hg⟩ := Int.eq_ofNat_of_zero_le (show 0 ≤ x0.tmod 2048 % 2048 by omega)
    rw [hg]
    exact orA g (by omega)
  unfold p10
  rw [p26_ok]
  dsimp only
  rw [hw, e1, e2]
  simp only [Bool.not_true, cond_false]
  rw [show wrapF .u32 (wrapF .i32 (wrapF .i64 (x0.tmod 256 * 2))) = immD (x0.tmod 256) from rfl, show wrapF .u32 (wrapF .i32 (wrapF .i64 (x0.tmod 2048 * 2))) = immD (x0.tmod 2048) from rfl]
  revert a1 a2 b1 b2
  generalize p32 54 false false c 0 0 0 0 (immD (x0.tmod 256)) false 0 0 0 false false false = A
  generalize p32 54 false false 14 0 0 0 0 (immD (x0.tmod 2048)) false 0 0 0 false false false = B
  generalize x0.tmod 256 = d
  generalize x0.tmod 2048 = f
  intro a1 a2 b1 b2
  have a1 : A.2 = (decide (d ≥ -128) && decide (d < 128)) := by rw [a1, Bool.decide_and]
  have b1 : B.2 = (decide (f ≥ -1024) && decide (f < 1024)) := by rw [b1, Bool.decide_and]
  have a2 : decide (d ≥ -128) = true → decide (d < 128) = true → A.1 = 53248 + c * 256 + d % 256 := fun h1 h2 => a2 ⟨of_decide_eq_true h1, of_decide_eq_true h2⟩
  have b2 : decide (f ≥ -1024) = true → decide (f < 1024) = true → B.1 = 57344 + f % 2048 := fun h1 h2 => b2 ⟨of_decide_eq_true h1, of_decide_eq_true h2⟩
  rw [a1, b1]
  clear a1 b1
  revert a2 b2
  generalize decide (d ≥ -128) = n1
  generalize decide (d < 128) = n2
  generalize decide (f ≥ -1024) = n3
  generalize decide (f < 1024) = n4
  generalize A.1 = A1
  generalize B.1 = B1
  generalize (53248 + c * 256 + d % 256 : Int) = W1
  generalize (57344 + f % 2048 : Int) = W2
  clear e1 e2 hw hc' hc hd hf
  cases n1 <;> cases n2 <;> cases n3 <;> cases n4 <;> simp
  exact fun h1 h2 => ⟨h1, h2⟩

end Go.Den
