import Derived.Test.YtihdbaehaiaiiaaF4
set_option linter.unusedVariables false
set_option linter.unusedSimpArgs false
set_option maxRecDepth 100000
namespace Go.Den

theorem shr_fm16 {x : Int} (hx : U16 x) (a : Nat) (m : Int) (ha : a ≤ 16) (hm : m = ((2 ^ (16 - a) - 1 : Nat) : Int)) : shrF .u16 x (a : Int) = fm x (a : Int) m := by
  obtain ⟨n, rfl⟩ := Int.eq_ofNat_of_zero_le hx.1
  have hn : n ≤ 65535 := by have := hx.2; omega
  subst hm
  rw [fm_div]
  show shrF .u16 (Int.ofNat n) (Int.ofNat a) = _
  rw [shrF_nat .u16 n a hn]
  have hp : 2 ^ 16 = 2 ^ a * 2 ^ (16 - a) := by rw [← Nat.pow_add]; congr 1; omega
  have hlt : n / 2 ^ a < 2 ^ (16 - a) := by
    rw [Nat.div_lt_iff_lt_mul (Nat.pow_pos (by omega)), Nat.mul_comm, ← hp]
    omega
  rw [Nat.mod_eq_of_lt hlt]
  rfl

theorem s16_15 {x : Int} (hx : U16 x) : shrF .u16 x 15 = fm x 15 1 := shr_fm16 hx 15 1 (by decide) (by decide)
theorem s16_12 {x : Int} (hx : U16 x) : shrF .u16 x 12 = fm x 12 15 := shr_fm16 hx 12 15 (by decide) (by decide)
theorem s16_14 {x : Int} (hx : U16 x) : shrF .u16 x 14 = fm x 14 3 := shr_fm16 hx 14 3 (by decide) (by decide)
theorem s16_11 {x : Int} (hx : U16 x) : shrF .u16 x 11 = fm x 11 31 := shr_fm16 hx 11 31 (by decide) (by decide)
theorem s16_9 {x : Int} (hx : U16 x) : shrF .u16 x 9 = fm x 9 127 := shr_fm16 hx 9 127 (by decide) (by decide)
theorem s16_8 {x : Int} (hx : U16 x) : shrF .u16 x 8 = fm x 8 255 := shr_fm16 hx 8 255 (by decide) (by decide)
theorem s16_6 {x : Int} (hx : U16 x) : shrF .u16 x 6 = fm x 6 1023 := shr_fm16 hx 6 1023 (by decide) (by decide)

theorem odd1 (x : Int) : oddB [x] = p81 x := by
  unfold oddB oddB p81
  cases (x == 13) <;> cases (x == 15) <;> rfl

def am5 (a b : Int) : Int := a * 4 + b

theorem am5_p {a b : Int} (ha : 0 ≤ a ∧ a ≤ 7) (hb : 0 ≤ b ∧ b ≤ 3) : bitsF .or .i64 (shlF .i64 a 2) b = am5 a b := by
  rw [shl_mul' .i64 a 2 4 ha.1 (by decide) (by decide) (by simp only [topN, Int.ofNat_eq_natCast]; omega),
    or_add .i64 _ _ 4 2 (by decide) (by omega) (by omega) (by omega) (by simp only [topN, Int.ofNat_eq_natCast]; omega)]
  rfl

theorem am5_r {a b : Int} (ha : 0 ≤ a ∧ a ≤ 7) (hb : 0 ≤ b ∧ b ≤ 3) : bitsF .or .u16 (shlF .u16 a 2) b = am5 a b := by
  rw [shl_mul' .u16 a 2 4 ha.1 (by decide) (by decide) (by simp only [topN, Int.ofNat_eq_natCast]; omega),
    or_add .u16 _ _ 4 2 (by decide) (by omega) (by omega) (by omega) (by simp only [topN, Int.ofNat_eq_natCast]; omega)]
  rfl

theorem am5_rng {a b : Int} (ha : 0 ≤ a ∧ a ≤ 7) (hb : 0 ≤ b ∧ b ≤ 3) : 0 ≤ am5 a b ∧ am5 a b < 32 := by
  unfold am5
  omega

theorem am5_w {a b : Int} (ha : 0 ≤ a ∧ a ≤ 7) (hb : 0 ≤ b ∧ b ≤ 3) (k : IntKind) (hk : 31 ≤ topN k) : wrapF k (am5 a b) = am5 a b := by
  have := am5_rng ha hb
  exact wrapF_le this.1 (by simp only [Int.ofNat_eq_natCast]; omega)

/-- how far, where 0 tells 32 -/
theorem far_eq : ∀ a < 32, wrapF .i64 ((wrapF .i64 (((a : Nat) : Int) + 31)).tmod 32 + 1) = if a = 0 then 32 else (a : Int) := by decide +kernel

theorem shifted_eq {h k : Int} (hh : U16 h) (hk : U16 k) (i : Bool) (h15 : fm k 15 1 = 0) : ∃ r, o51 h k = some r ∧ p19 h k i = wrapR h k i r := by
  have ro := fm_fact h 5 15 (by decide)
  have rn := fm_fact h 0 15 (by decide)
  have rd := fm_fact k 8 15 (by decide)
  have r1 := fm_fact k 12 7 (by decide)
  have r2 := fm_fact k 6 3 (by decide)
  have rt := fm_fact k 4 3 (by decide)
  have rm := fm_fact k 0 15 (by decide)
  have ra := am5_rng r1 r2
  have far := upto 32 (fun a => wrapF .i64 ((wrapF .i64 (a + 31)).tmod 32 + 1) = if a.toNat = 0 then 32 else a) (fun a ha => by have := far_eq a ha; simpa using this) ra.1 ra.2
  have ho1 := odd1
  unfold o51 p19
  simp only [af16 hh, af16 hk, a016 hh, a016 hk, wf64, wf32, gf1 hh, gf1 hk, gf2 hk, gf3 hk, gf4 hh, gf4 hk, gf8 hk, Int.reduceLE, s16_15 hk, h15, am5_p r1 r2, am5_r r1 r2, am5_w r1 r2 .i64 (by decide), am5_w r1 r2 .u16 (by decide), p42_c, far, ho1]
  generalize am5 (fm k 12 7) (fm k 6 3) = a at *
  generalize (fm h 4 1 == 1) = s
  generalize fm h 5 15 = o at *
  generalize fm h 0 15 = n at *
  generalize fm k 8 15 = d at *
  generalize fm k 0 15 = m at *
  generalize fm k 4 3 = t at *
  have hd := fun first bad => data_eq (o := o) (n := n) (d := d) ⟨ro.1, by omega⟩ ⟨rn.1, by omega⟩ ⟨rd.1, by omega⟩ s first bad
  unfold ops16 at hd
  simp only [hd]
  have ht : t = 0 ∨ t = 1 ∨ t = 2 ∨ t = 3 := by omega
  rcases form_eq (o := o) (n := n) (d := d) ⟨ro.1, by omega⟩ ⟨rn.1, by omega⟩ ⟨rd.1, by omega⟩ s with ⟨y, hy⟩ | ⟨op, d', n', hy, h54, h65, h64⟩
  · have hg7 : g77 o d n s = (y, false) := by unfold g77; rw [hy]; rfl
    have hr7 : ∀ first, r77 o n d s first = (0, 0, 0, 0) := fun first => by unfold r77; rw [hy]; rfl
    have hm : ∀ Sh Amt, mkD h k i s m 0 0 false Sh Amt (cond (p81 m) (badC (0, 0, 0, 0)) (0, 0, 0, 0)) = p47 h k i 64 := fun Sh Amt => by cases p81 m <;> rfl
    rw [hy, hg7]
    simp only [hr7, hm, Option.isSome_some, cond_true, Bool.not_false, Bool.cond_self]
    exact ⟨_, rfl, rfl⟩
  · have hg7 : g77 o d n s = (S30.mk op true s 14 d' n' 0 0 0 false 0 0 0 false false, true) := by unfold g77; rw [hy]; rfl
    have hr7 : r77 o n d s false = cond (p78 op true s 14 d' n' 0 0 0 false 0 0 0 false false false) (2, op, d', n') (1, 0, 0, 0) := by unfold r77; rw [hy]; rfl
    have hp : ∀ Sh Amt, p78 op true s 14 d' n' m 0 0 false Sh Amt 0 false false false = p78 op true s 14 d' n' 0 0 0 false 0 0 0 false false false := fun Sh Amt => rfl
    rw [hy, hg7, hr7]
    simp only [hp, Option.isSome_some, cond_true, Bool.not_true, cond_false]
    generalize p78 op true s 14 d' n' 0 0 0 false 0 0 0 false false false = q
    have hm : ∀ Sh Amt, ∃ r, cond (!q) (some (S30.mk 65 true false 14 0 0 0 0 0 false 0 0 0 false false, true)) (cond (p81 m) (some (S30.mk 65 true false 14 0 0 0 0 0 false 0 0 0 false false, true)) (some (S30.mk op true s 14 d' n' m 0 0 false Sh Amt 0 false false, true))) = some r ∧
        mkD h k i s m 0 0 false Sh Amt (cond (p81 m) (badC (cond q (2, op, d', n') (1, 0, 0, 0))) (cond q (2, op, d', n') (1, 0, 0, 0))) = wrapR h k i r := fun Sh Amt => by
      cases q
      · refine ⟨_, rfl, ?_⟩
        cases p81 m <;> rfl
      · cases p81 m
        · refine ⟨_, rfl, ?_⟩
          show cond (op != 54) _ _ = cond (op == 65) _ _
          rw [h54, h65]
          rfl
        · exact ⟨_, rfl, rfl⟩
    by_cases ha : a = 0
    · subst ha
      rcases ht with rfl | rfl | rfl | rfl
      · exact hm 0 0
      · exact hm 2 32
      · exact hm 3 32
      · exact hm 5 1
    · have a1 : decide (a > 0) = true := decide_eq_true (by omega)
      have a2 : (a == 0) = false := by simp [ha]
      have a3 : (a.toNat = 0) = False := by simp; omega
      simp only [a1, a2, a3, if_false]
      rcases ht with rfl | rfl | rfl | rfl
      · exact hm 1 a
      · exact hm 2 a
      · exact hm 3 a
      · exact hm 4 a

end Go.Den
