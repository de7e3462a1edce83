import Derived.Test.YtihdbaehaiaiiaaF12a
import Derived.Test.YtihdbaehaiaiiaaV7
import Derived.Test.YtihdbaehaiaiiaaDenB
set_option linter.unusedSimpArgs false
section
set_option linter.unusedVariables false
set_option maxRecDepth 100000
namespace Go.Den

abbrev U16 (x : Int) : Prop := 0 ≤ x ∧ x ≤ 65535

theorem af16 {x : Int} (hx : U16 x) (a m : Int) (ha : 0 ≤ a) (hm : 0 ≤ m) (hm' : m ≤ 65535) : bitsF .and .u16 (shrF .u16 x a) m = fm x a m := and_fm .u16 x a m hx ha ⟨hm, hm'⟩
theorem a016 {x : Int} (hx : U16 x) (m : Int) (hm : 0 ≤ m) (hm' : m ≤ 65535) : bitsF .and .u16 x m = fm x 0 m := and0_fm .u16 x m hx ⟨hm, hm'⟩
theorem wf64 (x a m : Int) (hm : 0 ≤ m) (hm' : m ≤ 65535) : wrapF .i64 (fm x a m) = fm x a m := wrap_fm .i64 x a m ⟨hm, by simp only [topN, Int.ofNat_eq_natCast]; omega⟩
theorem wf32 (x a m : Int) (hm : 0 ≤ m) (hm' : m ≤ 65535) : wrapF .u32 (fm x a m) = fm x a m := wrap_fm .u32 x a m ⟨hm, by simp only [topN, Int.ofNat_eq_natCast]; omega⟩

theorem gf {x : Int} (hx : U16 x) (a n m : Int) (ha : 0 ≤ a) (hn : 0 ≤ n) (h1 : wrapF .u32 (shlF .u32 1 n - 1) = m) (h2 : 0 ≤ m) (h3 : m < 65536) : g37 x a n = fm x a m :=
  g37_fm x a n m ⟨hx.1, by have := hx.2; omega⟩ ⟨⟨ha, hn⟩, h1, h2, by omega⟩
theorem gf1 {x : Int} (hx : U16 x) (a : Int) (ha : 0 ≤ a) : g37 x a 1 = fm x a 1 := gf hx a 1 1 ha (by decide) (by decide +kernel) (by decide) (by decide)
theorem gf2 {x : Int} (hx : U16 x) (a : Int) (ha : 0 ≤ a) : g37 x a 2 = fm x a 3 := gf hx a 2 3 ha (by decide) (by decide +kernel) (by decide) (by decide)
theorem gf3 {x : Int} (hx : U16 x) (a : Int) (ha : 0 ≤ a) : g37 x a 3 = fm x a 7 := gf hx a 3 7 ha (by decide) (by decide +kernel) (by decide) (by decide)
theorem gf4 {x : Int} (hx : U16 x) (a : Int) (ha : 0 ≤ a) : g37 x a 4 = fm x a 15 := gf hx a 4 15 ha (by decide) (by decide +kernel) (by decide) (by decide)
theorem gf5 {x : Int} (hx : U16 x) (a : Int) (ha : 0 ≤ a) : g37 x a 5 = fm x a 31 := gf hx a 5 31 ha (by decide) (by decide +kernel) (by decide) (by decide)
theorem gf6 {x : Int} (hx : U16 x) (a : Int) (ha : 0 ≤ a) : g37 x a 6 = fm x a 63 := gf hx a 6 63 ha (by decide) (by decide +kernel) (by decide) (by decide)
theorem gf7 {x : Int} (hx : U16 x) (a : Int) (ha : 0 ≤ a) : g37 x a 7 = fm x a 127 := gf hx a 7 127 ha (by decide) (by decide +kernel) (by decide) (by decide)
theorem gf8 {x : Int} (hx : U16 x) (a : Int) (ha : 0 ≤ a) : g37 x a 8 = fm x a 255 := gf hx a 8 255 ha (by decide) (by decide +kernel) (by decide) (by decide)
theorem gf10 {x : Int} (hx : U16 x) (a : Int) (ha : 0 ≤ a) : g37 x a 10 = fm x a 1023 := gf hx a 10 1023 ha (by decide) (by decide +kernel) (by decide) (by decide)
theorem gf11 {x : Int} (hx : U16 x) (a : Int) (ha : 0 ≤ a) : g37 x a 11 = fm x a 2047 := gf hx a 11 2047 ha (by decide) (by decide +kernel) (by decide) (by decide)
theorem gf12 {x : Int} (hx : U16 x) (a : Int) (ha : 0 ≤ a) : g37 x a 12 = fm x a 4095 := gf hx a 12 4095 ha (by decide) (by decide +kernel) (by decide) (by decide)

/-- the reference's rows, as they are told -/
noncomputable def wrapR (h k : Int) (i : Bool) (r : S30 × Bool) : S30 := cond r.2 (cond (r.1.f_Op == 65) (p47 h k i 65) r.1) (p47 h k i 64)

/-- twelve bits of a number -/
def n12 (i a b : Int) : Int := i * 2048 + a * 256 + b

theorem n12_p {i a b : Int} (hi : 0 ≤ i ∧ i ≤ 1) (ha : 0 ≤ a ∧ a ≤ 7) (hb : 0 ≤ b ∧ b ≤ 255) : bitsF .or .i64 (bitsF .or .i64 (shlF .i64 i 11) (shlF .i64 a 8)) b = n12 i a b := by
  rw [shl_mul' .i64 i 11 2048 hi.1 (by decide) (by decide) (by simp only [topN, Int.ofNat_eq_natCast]; omega), shl_mul' .i64 a 8 256 ha.1 (by decide) (by decide) (by simp only [topN, Int.ofNat_eq_natCast]; omega),
    or_add .i64 (i * ((2048 : Nat) : Int)) _ 2048 11 (by decide) (by omega) (by omega) (by omega) (by simp only [topN, Int.ofNat_eq_natCast]; omega),
    or_add .i64 _ _ 256 8 (by decide) (by omega) (by omega) (by omega) (by simp only [topN, Int.ofNat_eq_natCast]; omega)]
  rfl

theorem n12_r {i a b : Int} (hi : 0 ≤ i ∧ i ≤ 1) (ha : 0 ≤ a ∧ a ≤ 7) (hb : 0 ≤ b ∧ b ≤ 255) : bitsF .or .u32 (bitsF .or .u32 (shlF .u32 i 11) (shlF .u32 a 8)) b = n12 i a b := by
  rw [shl_mul' .u32 i 11 2048 hi.1 (by decide) (by decide) (by simp only [topN, Int.ofNat_eq_natCast]; omega), shl_mul' .u32 a 8 256 ha.1 (by decide) (by decide) (by simp only [topN, Int.ofNat_eq_natCast]; omega),
    or_add .u32 (i * ((2048 : Nat) : Int)) _ 2048 11 (by decide) (by omega) (by omega) (by omega) (by simp only [topN, Int.ofNat_eq_natCast]; omega),
    or_add .u32 _ _ 256 8 (by decide) (by omega) (by omega) (by omega) (by simp only [topN, Int.ofNat_eq_natCast]; omega)]
  rfl

theorem n12_rng {i a b : Int} (hi : 0 ≤ i ∧ i ≤ 1) (ha : 0 ≤ a ∧ a ≤ 7) (hb : 0 ≤ b ∧ b ≤ 255) : 0 ≤ n12 i a b ∧ n12 i a b < 4096 := by
  unfold n12
  omega

theorem n12_w {i a b : Int} (hi : 0 ≤ i ∧ i ≤ 1) (ha : 0 ≤ a ∧ a ≤ 7) (hb : 0 ≤ b ∧ b ≤ 255) : wrapF .u32 (n12 i a b) = n12 i a b := by
  have := n12_rng hi ha hb
  exact wrapF_le this.1 (by simp only [topN, Int.ofNat_eq_natCast]; omega)

theorem top_eq : ∀ n < 4096, (shrF .u32 ((n : Nat) : Int) 10 != 0) = (bitsF .and .u32 (shrF .u32 ((n : Nat) : Int) 10) 3 != 0) := by decide +kernel

end Go.Den
end
section
set_option linter.unusedVariables false
set_option maxRecDepth 100000
namespace Go.Den

theorem modified_eq {h k : Int} (hh : U16 h) (hk : U16 k) (i : Bool) : ∃ r, o48 h k = some r ∧ o17 h k i = some (wrapR h k i r) := by
  have ro := fm_fact h 5 15 (by decide)
  have rn := fm_fact h 0 15 (by decide)
  have rd := fm_fact k 8 15 (by decide)
  have r1 := fm_fact h 10 1 (by decide)
  have r2 := fm_fact k 12 7 (by decide)
  have r3 := fm_fact k 0 255 (by decide)
  have rm := n12_rng r1 r2 r3
  have e1 : p40 h k i = n12 (fm h 10 1) (fm k 12 7) (fm k 0 255) := by
    unfold p40
    rw [gf1 hh 10 (by decide), gf3 hk 12 (by decide), gf8 hk 0 (by decide)]
    exact n12_p r1 r2 r3
  have e2 := n12_w r1 r2 r3
  have et : (shrF .u32 (n12 (fm h 10 1) (fm k 12 7) (fm k 0 255)) 10 != 0) = (bitsF .and .u32 (shrF .u32 (n12 (fm h 10 1) (fm k 12 7) (fm k 0 255)) 10) 3 != 0) := by
    have := upto 4096 (fun n => (shrF .u32 n 10 != 0) = (bitsF .and .u32 (shrF .u32 n 10) 3 != 0)) top_eq rm.1 rm.2
    exact this
  have ex := expand_eq rm
  have exg := expand_eqg rm
  unfold o48 o17
  simp only [af16 hh, af16 hk, a016 hh, a016 hk, wf64, wf32, gf1 hh, gf1 hk, gf2 hk, gf3 hk, gf4 hh, gf4 hk, gf8 hk, Int.reduceLE, e1, e2, n12_r r1 r2 r3, et, ex, exg, p42_c]
  generalize n12 (fm h 10 1) (fm k 12 7) (fm k 0 255) = m at *
  generalize (fm h 4 1 == 1) = s
  generalize (bitsF .and .u32 (shrF .u32 m 10) 3 != 0) = t
  generalize fm h 5 15 = o at *
  generalize fm h 0 15 = n at *
  generalize fm k 8 15 = d at *
  have hd := fun first bad => data_eq (o := o) (n := n) (d := d) ⟨ro.1, by omega⟩ ⟨rn.1, by omega⟩ ⟨rd.1, by omega⟩ s first bad
  unfold ops16 at hd
  simp only [hd]
  obtain ⟨v, hv⟩ := expand_some rm
  have hg : g41 m false = v := by unfold g41; rw [hv]; rfl
  rw [hv, hg]
  simp only [Option.isSome_some, cond_true]
  rcases form_eq (o := o) (n := n) (d := d) ⟨ro.1, by omega⟩ ⟨rn.1, by omega⟩ ⟨rd.1, by omega⟩ s with ⟨y, hy⟩ | ⟨op, d', n', hy, h54, h65, h64⟩
  · have hg7 : g77 o d n s = (y, false) := by unfold g77; rw [hy]; rfl
    have hr7 : ∀ first, r77 o n d s first = (0, 0, 0, 0) := fun first => by unfold r77; rw [hy]; rfl
    rw [hy, hg7]
    simp only [hr7, Option.isSome_some, cond_true, Bool.not_false]
    refine ⟨_, rfl, ?_⟩
    cases t <;> cases v.snd.snd <;> rfl
  · have hg7 : g77 o d n s = (S30.mk op true s 14 d' n' 0 0 0 false 0 0 0 false false, true) := by unfold g77; rw [hy]; rfl
    have hr7 : r77 o n d s true = cond (p78 op true s 14 d' n' 0 0 0 false 0 0 0 false false true) (2, op, d', n') (1, 0, 0, 0) := by unfold r77; rw [hy]; rfl
    rw [hy, hg7, hr7]
    simp only [Option.isSome_some, cond_true, Bool.not_true, cond_false]
    cases v.snd.snd
    · simp only [Bool.not_false, cond_true]
      refine ⟨_, rfl, ?_⟩
      cases p78 op true s 14 d' n' 0 0 0 false 0 0 0 false false true <;> cases t <;> rfl
    · simp only [Bool.not_true, cond_false]
      cases p78 op true s 14 d' n' 0 0 0 false 0 0 0 false false true
      · simp only [Bool.not_false, cond_true]
        refine ⟨_, rfl, ?_⟩
        cases t <;> rfl
      · simp only [Bool.not_true, cond_false, cond_true]
        have hm : ∀ A, mkD h k i s 0 A v.fst true 0 0 (2, op, d', n') = S30.mk op true s 14 d' n' 0 A v.fst true 0 0 0 false false := fun A => by
          show cond (op != 54) _ _ = _
          rw [h54]
          rfl
        have hw : ∀ A, wrapR h k i (S30.mk op true s 14 d' n' 0 A v.fst true 0 0 0 false false, true) = S30.mk op true s 14 d' n' 0 A v.fst true 0 0 0 false false := fun A => by
          show cond (op == 65) _ _ = _
          rw [h65]
          rfl
        cases t
        · exact ⟨_, rfl, by simp only [cond_false, cond_true]; rw [hm]; exact congrArg some (hw 0).symm⟩
        · exact ⟨_, rfl, by simp only [cond_false, cond_true]; rw [hm]; exact congrArg some (hw 1).symm⟩

end Go.Den
end
section
set_option linter.unusedVariables false
set_option maxRecDepth 100000
namespace Go.Den

theorem shr_fm16 {x : Int} (hx : U16 x) (a : Nat) (m : Int) (ha : a ≤ 16) (hm : m = ((2 ^ (16 - a) - 1 : Nat) : Int)) : shrF .u16 x (a : Int) = fm x (a : Int) m := by
  obtain ⟨n, rfl⟩ := Int.eq_ofNat_of_zero_le hx.1
  have hn : n ≤ 65535 := by have := hx.2; omega
  subst hm
  rw [fm_div]
  show shrF .u16 (Int.ofNat n) (Int.ofNat a) = _
  rw [shrF_nat .u16 n a hn]
  have hp : 2 ^ 16 = 2 ^ a * 2 ^ (16 - a) := by rw [← Nat.pow_add]; congr 1; omega
  have hlt : n / 2 ^ a < 2 ^ (16 - a) := by
    rw [Nat.div_lt_iff_lt_mul (Nat.pow_pos (by omega)), Nat.mul_comm, ← hp]
    omega
  rw [Nat.mod_eq_of_lt hlt]
  rfl

theorem s16_15 {x : Int} (hx : U16 x) : shrF .u16 x 15 = fm x 15 1 := shr_fm16 hx 15 1 (by decide) (by decide)
theorem s16_12 {x : Int} (hx : U16 x) : shrF .u16 x 12 = fm x 12 15 := shr_fm16 hx 12 15 (by decide) (by decide)
theorem s16_14 {x : Int} (hx : U16 x) : shrF .u16 x 14 = fm x 14 3 := shr_fm16 hx 14 3 (by decide) (by decide)
theorem s16_11 {x : Int} (hx : U16 x) : shrF .u16 x 11 = fm x 11 31 := shr_fm16 hx 11 31 (by decide) (by decide)
theorem s16_9 {x : Int} (hx : U16 x) : shrF .u16 x 9 = fm x 9 127 := shr_fm16 hx 9 127 (by decide) (by decide)
theorem s16_8 {x : Int} (hx : U16 x) : shrF .u16 x 8 = fm x 8 255 := shr_fm16 hx 8 255 (by decide) (by decide)
theorem s16_6 {x : Int} (hx : U16 x) : shrF .u16 x 6 = fm x 6 1023 := shr_fm16 hx 6 1023 (by decide) (by decide)

theorem odd1 (x : Int) : oddB [x] = p81 x := by
  unfold oddB oddB p81
  cases (x == 13) <;> cases (x == 15) <;> rfl

def am5 (a b : Int) : Int := a * 4 + b

theorem am5_p {a b : Int} (ha : 0 ≤ a ∧ a ≤ 7) (hb : 0 ≤ b ∧ b ≤ 3) : bitsF .or .i64 (shlF .i64 a 2) b = am5 a b := by
  rw [shl_mul' .i64 a 2 4 ha.1 (by decide) (by decide) (by simp only [topN, Int.ofNat_eq_natCast]; omega),
    or_add .i64 _ _ 4 2 (by decide) (by omega) (by omega) (by omega) (by simp only [topN, Int.ofNat_eq_natCast]; omega)]
  rfl

theorem am5_r {a b : Int} (ha : 0 ≤ a ∧ a ≤ 7) (hb : 0 ≤ b ∧ b ≤ 3) : bitsF .or .u16 (shlF .u16 a 2) b = am5 a b := by
  rw [shl_mul' .u16 a 2 4 ha.1 (by decide) (by decide) (by simp only [topN, Int.ofNat_eq_natCast]; omega),
    or_add .u16 _ _ 4 2 (by decide) (by omega) (by omega) (by omega) (by simp only [topN, Int.ofNat_eq_natCast]; omega)]
  rfl

theorem am5_rng {a b : Int} (ha : 0 ≤ a ∧ a ≤ 7) (hb : 0 ≤ b ∧ b ≤ 3) : 0 ≤ am5 a b ∧ am5 a b < 32 := by
  unfold am5
  omega

theorem am5_w {a b : Int} (ha : 0 ≤ a ∧ a ≤ 7) (hb : 0 ≤ b ∧ b ≤ 3) (k : IntKind) (hk : 31 ≤ topN k) : wrapF k (am5 a b) = am5 a b := by
  have := am5_rng ha hb
  exact wrapF_le this.1 (by simp only [Int.ofNat_eq_natCast]; omega)

/-- how far, where 0 tells 32 -/
theorem far_eq : ∀ a < 32, wrapF .i64 ((wrapF .i64 (((a : Nat) : Int) + 31)).tmod 32 + 1) = if a = 0 then 32 else (a : Int) := by decide +kernel

theorem shifted_eq {h k : Int} (hh : U16 h) (hk : U16 k) (i : Bool) (h15 : fm k 15 1 = 0) : ∃ r, o51 h k = some r ∧ p19 h k i = wrapR h k i r := by
  have ro := fm_fact h 5 15 (by decide)
  have rn := fm_fact h 0 15 (by decide)
  have rd := fm_fact k 8 15 (by decide)
  have r1 := fm_fact k 12 7 (by decide)
  have r2 := fm_fact k 6 3 (by decide)
  have rt := fm_fact k 4 3 (by decide)
  have rm := fm_fact k 0 15 (by decide)
  have ra := am5_rng r1 r2
  have far := upto 32 (fun a => wrapF .i64 ((wrapF .i64 (a + 31)).tmod 32 + 1) = if a.toNat = 0 then 32 else a) (fun a ha => by have := far_eq a ha; simpa using this) ra.1 ra.2
  have ho1 := odd1
  unfold o51 p19
  simp only [af16 hh, af16 hk, a016 hh, a016 hk, wf64, wf32, gf1 hh, gf1 hk, gf2 hk, gf3 hk, gf4 hh, gf4 hk, gf8 hk, Int.reduceLE, s16_15 hk, h15, am5_p r1 r2, am5_r r1 r2, am5_w r1 r2 .i64 (by decide), am5_w r1 r2 .u16 (by decide), p42_c, far, ho1]
  generalize am5 (fm k 12 7) (fm k 6 3) = a at *
  generalize (fm h 4 1 == 1) = s
  generalize fm h 5 15 = o at *
  generalize fm h 0 15 = n at *
  generalize fm k 8 15 = d at *
  generalize fm k 0 15 = m at *
  generalize fm k 4 3 = t at *
  have hd := fun first bad => data_eq (o := o) (n := n) (d := d) ⟨ro.1, by omega⟩ ⟨rn.1, by omega⟩ ⟨rd.1, by omega⟩ s first bad
  unfold ops16 at hd
  simp only [hd]
  have ht : t = 0 ∨ t = 1 ∨ t = 2 ∨ t = 3 := by omega
  rcases form_eq (o := o) (n := n) (d := d) ⟨ro.1, by omega⟩ ⟨rn.1, by omega⟩ ⟨rd.1, by omega⟩ s with ⟨y, hy⟩ | ⟨op, d', n', hy, h54, h65, h64⟩
  · have hg7 : g77 o d n s = (y, false) := by unfold g77; rw [hy]; rfl
    have hr7 : ∀ first, r77 o n d s first = (0, 0, 0, 0) := fun first => by unfold r77; rw [hy]; rfl
    have hm : ∀ Sh Amt, mkD h k i s m 0 0 false Sh Amt (cond (p81 m) (badC (0, 0, 0, 0)) (0, 0, 0, 0)) = p47 h k i 64 := fun Sh Amt => by cases p81 m <;> rfl
    rw [hy, hg7]
    simp only [hr7, hm, Option.isSome_some, cond_true, Bool.not_false, Bool.cond_self]
    exact ⟨_, rfl, rfl⟩
  · have hg7 : g77 o d n s = (S30.mk op true s 14 d' n' 0 0 0 false 0 0 0 false false, true) := by unfold g77; rw [hy]; rfl
    have hr7 : r77 o n d s false = cond (p78 op true s 14 d' n' 0 0 0 false 0 0 0 false false false) (2, op, d', n') (1, 0, 0, 0) := by unfold r77; rw [hy]; rfl
    have hp : ∀ Sh Amt, p78 op true s 14 d' n' m 0 0 false Sh Amt 0 false false false = p78 op true s 14 d' n' 0 0 0 false 0 0 0 false false false := fun Sh Amt => rfl
    rw [hy, hg7, hr7]
    simp only [hp, Option.isSome_some, cond_true, Bool.not_true, cond_false]
    generalize p78 op true s 14 d' n' 0 0 0 false 0 0 0 false false false = q
    have hm : ∀ Sh Amt, ∃ r, cond (!q) (some (S30.mk 65 true false 14 0 0 0 0 0 false 0 0 0 false false, true)) (cond (p81 m) (some (S30.mk 65 true false 14 0 0 0 0 0 false 0 0 0 false false, true)) (some (S30.mk op true s 14 d' n' m 0 0 false Sh Amt 0 false false, true))) = some r ∧
        mkD h k i s m 0 0 false Sh Amt (cond (p81 m) (badC (cond q (2, op, d', n') (1, 0, 0, 0))) (cond q (2, op, d', n') (1, 0, 0, 0))) = wrapR h k i r := fun Sh Amt => by
      cases q
      · refine ⟨_, rfl, ?_⟩
        cases p81 m <;> rfl
      · cases p81 m
        · refine ⟨_, rfl, ?_⟩
          show cond (op != 54) _ _ = cond (op == 65) _ _
          rw [h54, h65]
          rfl
        · exact ⟨_, rfl, rfl⟩
    by_cases ha : a = 0
    · subst ha
      rcases ht with rfl | rfl | rfl | rfl
      · exact hm 0 0
      · exact hm 2 32
      · exact hm 3 32
      · exact hm 5 1
    · have a1 : decide (a > 0) = true := decide_eq_true (by omega)
      have a2 : (a == 0) = false := by simp [ha]
      have a3 : (a.toNat = 0) = False := by simp; omega
      simp only [a1, a2, a3, if_false]
      rcases ht with rfl | rfl | rfl | rfl
      · exact hm 1 a
      · exact hm 2 a
      · exact hm 3 a
      · exact hm 4 a

end Go.Den
end
section
set_option linter.unusedVariables false
set_option maxRecDepth 100000
namespace Go.Den

theorem fm_7_1 {x : Int} (hx : U16 x) : fm x 7 1 = fm x 4 31 / 8 % 2 := by
  obtain ⟨n, rfl⟩ := Int.eq_ofNat_of_zero_le hx.1
  rw [show fm (n : Int) 7 1 = ((n / 2 ^ 7 % 2 ^ 1 : Nat) : Int) from fm_div n 7 1, show fm (n : Int) 4 31 = ((n / 2 ^ 4 % 2 ^ 5 : Nat) : Int) from fm_div n 4 5]
  omega

theorem form8 (n d : Int) : o77 8 d n false = some (S30.mk 5 true false 14 d n 0 0 0 false 0 0 0 false false, true) := by
  unfold o77
  generalize (d == 15) = b1
  generalize (n == 15) = b2
  cases b1 <;> cases b2 <;> rfl

theorem form13 (n d : Int) : o77 13 d n false = some (S30.mk 3 true false 14 d n 0 0 0 false 0 0 0 false false, true) := by
  unfold o77
  generalize (d == 15) = b1
  generalize (n == 15) = b2
  cases b1 <;> cases b2 <;> rfl

theorem p78_any (op : Int) (w s : Bool) (c d n m a im : Int) (u : Bool) (sh am l : Int) (b dn f : Bool) : p78 op w s c d n m a im u sh am l b dn f = p78 op true false 14 d n 0 0 0 false 0 0 0 false false f := rfl

/-- sixteen bits of a number -/
def n16 (n m : Int) : Int := n * 4096 + m

theorem n16_p {n m : Int} (hn : 0 ≤ n ∧ n ≤ 15) (hm : 0 ≤ m ∧ m < 4096) : wrapF .u32 (bitsF .or .i64 (shlF .i64 n 12) m) = n16 n m := by
  rw [shl_mul' .i64 n 12 4096 hn.1 (by decide) (by decide) (by simp only [topN, Int.ofNat_eq_natCast]; omega),
    or_add .i64 _ _ 4096 12 (by decide) (by omega) (by omega) (by omega) (by simp only [topN, Int.ofNat_eq_natCast]; omega), wrapF_le (by omega) (by simp only [topN, Int.ofNat_eq_natCast]; omega)]
  rfl

theorem n16_r {n m : Int} (hn : 0 ≤ n ∧ n ≤ 15) (hm : 0 ≤ m ∧ m < 4096) : bitsF .or .u32 (shlF .u32 n 12) m = n16 n m := by
  rw [shl_mul' .u32 n 12 4096 hn.1 (by decide) (by decide) (by simp only [topN, Int.ofNat_eq_natCast]; omega),
    or_add .u32 _ _ 4096 12 (by decide) (by omega) (by omega) (by omega) (by simp only [topN, Int.ofNat_eq_natCast]; omega)]
  rfl

theorem numbers_eq {h k : Int} (hh : U16 h) (hk : U16 k) (i : Bool) : p18 h k i = wrapR h k i (p49 h k) := by
  have rn := fm_fact h 0 15 (by decide)
  have rd := fm_fact k 8 15 (by decide)
  have r1 := fm_fact h 10 1 (by decide)
  have r2 := fm_fact k 12 7 (by decide)
  have r3 := fm_fact k 0 255 (by decide)
  have r4 := fm_fact k 6 3 (by decide)
  have r5 := fm_fact k 0 31 (by decide)
  have rf := fm_fact h 4 31 (by decide)
  have rm := n12_rng r1 r2 r3
  have ra := am5_rng r2 r4
  have e1 : p40 h k i = n12 (fm h 10 1) (fm k 12 7) (fm k 0 255) := by
    unfold p40
    rw [gf1 hh 10 (by decide), gf3 hk 12 (by decide), gf8 hk 0 (by decide)]
    exact n12_p r1 r2 r3
  have e2 := n12_w r1 r2 r3
  unfold p49 p18 p45
  simp only [af16 hh, af16 hk, a016 hh, a016 hk, wf64, wf32, gf1 hh, gf1 hk, gf2 hk, gf3 hk, gf4 hh, gf4 hk, gf5 hh, gf5 hk, gf8 hk, Int.reduceLE, e1, e2, n12_r r1 r2 r3, p42_c, odd1, n16_p rn rm, n16_r rn rm, am5_p r2 r4, am5_r r2 r4, fm_7_1 hh]
  simp only [am5_w r2 r4 .u32 (by decide), am5_w r2 r4 .i64 (by decide)]
  generalize am5 (fm k 12 7) (fm k 6 3) = a at *
  generalize n12 (fm h 10 1) (fm k 12 7) (fm k 0 255) = m at *
  generalize fm h 4 31 = f at *
  generalize fm h 0 15 = n at *
  generalize fm k 8 15 = d at *
  generalize (fm h 10 1 == 1) = b1
  generalize (fm k 5 1 == 1) = b2
  generalize fm k 0 31 = w at *
  have f1 : wrapF .i64 (w + 1) = w + 1 := wrapF_le (by omega) (by simp only [topN, Int.ofNat_eq_natCast]; omega)
  have f2 : wrapF .u32 (w + 1) = w + 1 := wrapF_le (by omega) (by simp only [topN, Int.ofNat_eq_natCast]; omega)
  have f3 : wrapF .i64 (32 * (w + 1)) = 32 * (w + 1) := wrapF_le (by omega) (by simp only [topN, Int.ofNat_eq_natCast]; omega)
  have f4 : wrapF .u32 (32 * (w + 1)) = 32 * (w + 1) := wrapF_le (by omega) (by simp only [topN, Int.ofNat_eq_natCast]; omega)
  have f5 : wrapF .i64 (a + 32 * (w + 1)) = a + 32 * (w + 1) := wrapF_le (by omega) (by simp only [topN, Int.ofNat_eq_natCast]; omega)
  have f6 : wrapF .u32 (a + 32 * (w + 1)) = a + 32 * (w + 1) := wrapF_le (by omega) (by simp only [topN, Int.ofNat_eq_natCast]; omega)
  have f7 : wrapF .i64 (a + (w + 1)) = a + (w + 1) := wrapF_le (by omega) (by simp only [topN, Int.ofNat_eq_natCast]; omega)
  have f8 : wrapF .i64 (w + 1 - a) = w + 1 - a := (wrap_fact .i64 (w + 1 - a) (-9223372036854775808) 9223372036854775807 (by decide)).2 (by omega) (by omega)
  have f9 : decide (w + 1 < 1) = false := decide_eq_false (by omega)
  simp only [f1, f2, f3, f4, f5, f6, f7, f8, f9, cond_false]
  have odd2 : ∀ x y, oddB [x, y] = cond (p81 x) true (p81 y) := fun x y => by
    unfold oddB oddB oddB p81
    cases (x == 13) <;> cases (x == 15) <;> cases (y == 13) <;> cases (y == 15) <;> rfl
  have c5 : c42 5 n d false true false = cond (p78 5 true false 14 d n 0 0 0 false 0 0 0 false false true) (2, 5, d, n) (1, 0, 0, 0) := by
    have := data_eq (o := 8) (n := n) (d := d) (by decide) ⟨rn.1, by omega⟩ ⟨rd.1, by omega⟩ false true false
    refine Eq.trans this ?_
    show r77 8 n d false true = _
    unfold r77
    rw [form8]
    rfl
  have c3 : c42 3 n d false true false = cond (p78 3 true false 14 d n 0 0 0 false 0 0 0 false false true) (2, 3, d, n) (1, 0, 0, 0) := by
    have := data_eq (o := 13) (n := n) (d := d) (by decide) ⟨rn.1, by omega⟩ ⟨rd.1, by omega⟩ false true false
    refine Eq.trans this ?_
    show r77 13 n d false true = _
    unfold r77
    rw [form13]
    rfl
  simp only [odd2]
  by_cases h0 : f = 0
  · subst h0
    show mkD h k i false 0 2 m true 0 0 (c42 5 n d false true false) = wrapR h k i (cond (!(p78 5 true false 14 d n 0 0 0 false 0 0 0 false false true)) (S30.mk 65 true false 14 0 0 0 0 0 false 0 0 0 false false, true) (S30.mk 5 true false 14 d n 0 2 m true 0 0 0 false false, true))
    rw [c5]
    generalize p78 5 true false 14 d n 0 0 0 false 0 0 0 false false true = q
    cases q <;> rfl
  by_cases h1 : f = 10
  · subst h1
    show mkD h k i false 0 2 m true 0 0 (c42 3 n d false true false) = wrapR h k i (cond (!(p78 3 true false 14 d n 0 0 0 false 0 0 0 false false true)) (S30.mk 65 true false 14 0 0 0 0 0 false 0 0 0 false false, true) (S30.mk 3 true false 14 d n 0 2 m true 0 0 0 false false, true))
    rw [c3]
    generalize p78 3 true false 14 d n 0 0 0 false 0 0 0 false false true = q
    cases q <;> rfl
  by_cases h2 : f = 4
  · subst h2
    show p38 h k i (p81 d) 13 false false 0 d 0 0 2 (n16 n m) true 0 0 0 false false = wrapR h k i (cond (p81 d) (S30.mk 65 true false 14 0 0 0 0 0 false 0 0 0 false false, true) (S30.mk 13 true false 14 d 0 0 2 (n16 n m) true 0 0 0 false false, true))
    cases p81 d <;> rfl
  by_cases h3 : f = 12
  · subst h3
    show p38 h k i (p81 d) 30 false false 0 d 0 0 0 (n16 n m) false 0 0 0 false false = wrapR h k i (cond (p81 d) (S30.mk 65 true false 14 0 0 0 0 0 false 0 0 0 false false, true) (S30.mk 30 true false 14 d 0 0 0 (n16 n m) false 0 0 0 false false, true))
    cases p81 d <;> rfl
  by_cases h4 : f = 20
  · subst h4
    show cond b1 (p24 h k i) (cond b2 (p24 h k i) (cond (cond (p81 d) true (p81 n)) (p38 h k i true 32 false false 0 d n 0 0 (a + 32 * (w + 1)) false 0 0 0 false false) (p38 h k i (decide (a + (w + 1) > 32)) 32 false false 0 d n 0 0 (a + 32 * (w + 1)) false 0 0 0 false false))) =
      wrapR h k i (cond b1 (S30.mk 0 false false 0 0 0 0 0 0 false 0 0 0 false false, false) (cond b2 (S30.mk 0 false false 0 0 0 0 0 0 false 0 0 0 false false, false) (cond (decide (a + (w + 1) > 32)) (S30.mk 65 true false 14 0 0 0 0 0 false 0 0 0 false false, true) (cond (p81 d) (S30.mk 65 true false 14 0 0 0 0 0 false 0 0 0 false false, true) (cond (p81 n) (S30.mk 65 true false 14 0 0 0 0 0 false 0 0 0 false false, true) (S30.mk 32 true false 14 d n 0 0 (a + 32 * (w + 1)) false 0 0 0 false false, true))))))
    cases b1 <;> cases b2 <;> cases decide (a + (w + 1) > 32) <;> cases p81 d <;> cases p81 n <;> rfl
  by_cases h5 : f = 28
  · subst h5
    show cond b1 (p24 h k i) (cond b2 (p24 h k i) (cond (cond (p81 d) true (p81 n)) (p38 h k i true 31 false false 0 d n 0 0 (a + 32 * (w + 1)) false 0 0 0 false false) (p38 h k i (decide (a + (w + 1) > 32)) 31 false false 0 d n 0 0 (a + 32 * (w + 1)) false 0 0 0 false false))) =
      wrapR h k i (cond b1 (S30.mk 0 false false 0 0 0 0 0 0 false 0 0 0 false false, false) (cond b2 (S30.mk 0 false false 0 0 0 0 0 0 false 0 0 0 false false, false) (cond (decide (a + (w + 1) > 32)) (S30.mk 65 true false 14 0 0 0 0 0 false 0 0 0 false false, true) (cond (p81 d) (S30.mk 65 true false 14 0 0 0 0 0 false 0 0 0 false false, true) (cond (p81 n) (S30.mk 65 true false 14 0 0 0 0 0 false 0 0 0 false false, true) (S30.mk 31 true false 14 d n 0 0 (a + 32 * (w + 1)) false 0 0 0 false false, true))))))
    cases b1 <;> cases b2 <;> cases decide (a + (w + 1) > 32) <;> cases p81 d <;> cases p81 n <;> rfl
  by_cases h6 : f = 22
  · subst h6
    show cond b1 (p24 h k i) (cond b2 (p24 h k i) (cond (p81 d) (p38 h k i true 33 false false 0 d n 0 0 (wrapF .u32 (wrapF .i64 (a + wrapF .i64 (32 * (w + 1 - a))))) false 0 0 0 false false) (cond (n == 13) (p38 h k i true 33 false false 0 d n 0 0 (wrapF .u32 (wrapF .i64 (a + wrapF .i64 (32 * (w + 1 - a))))) false 0 0 0 false false) (p38 h k i (decide (w + 1 - a < 1)) 33 false false 0 d n 0 0 (wrapF .u32 (wrapF .i64 (a + wrapF .i64 (32 * (w + 1 - a))))) false 0 0 0 false false)))) =
      wrapR h k i (cond b1 (S30.mk 0 false false 0 0 0 0 0 0 false 0 0 0 false false, false) (cond b2 (S30.mk 0 false false 0 0 0 0 0 0 false 0 0 0 false false, false) (cond (decide (w + 1 - a < 1)) (S30.mk 65 true false 14 0 0 0 0 0 false 0 0 0 false false, true) (cond (decide (wrapF .i64 (a + (w + 1 - a)) > 32)) (S30.mk 65 true false 14 0 0 0 0 0 false 0 0 0 false false, true) (cond (p81 d) (S30.mk 65 true false 14 0 0 0 0 0 false 0 0 0 false false, true) (cond (p81 n) (cond (n == 15) (S30.mk 33 true false 14 d n 0 0 (wrapF .u32 (a + wrapF .u32 (32 * wrapF .u32 (w + 1 - a)))) false 0 0 0 false false, true) (S30.mk 65 true false 14 0 0 0 0 0 false 0 0 0 false false, true)) (S30.mk 33 true false 14 d n 0 0 (wrapF .u32 (a + wrapF .u32 (32 * wrapF .u32 (w + 1 - a)))) false 0 0 0 false false, true)))))))
    by_cases hw : w + 1 - a < 1
    · rw [decide_eq_true hw]
      cases b1 <;> cases b2 <;> cases p81 d <;> cases (n == 13) <;> rfl
    · have g1 : wrapF .i64 (a + (w + 1 - a)) = w + 1 := by
        rw [show a + (w + 1 - a) = w + 1 by omega]
        exact f1
      have g2 : wrapF .i64 (32 * (w + 1 - a)) = 32 * (w + 1 - a) := wrapF_le (by omega) (by simp only [topN, Int.ofNat_eq_natCast]; omega)
      have g3 : wrapF .u32 (w + 1 - a) = w + 1 - a := wrapF_le (by omega) (by simp only [topN, Int.ofNat_eq_natCast]; omega)
      have g4 : wrapF .u32 (32 * (w + 1 - a)) = 32 * (w + 1 - a) := wrapF_le (by omega) (by simp only [topN, Int.ofNat_eq_natCast]; omega)
      have g5 : wrapF .i64 (a + 32 * (w + 1 - a)) = a + 32 * (w + 1 - a) := wrapF_le (by omega) (by simp only [topN, Int.ofNat_eq_natCast]; omega)
      rw [g1, g2, g3, g4, g5, decide_eq_false hw, decide_eq_false (show ¬ (w + 1 > 32) by omega)]
      unfold p81
      by_cases n13 : n = 13
      · subst n13
        cases b1 <;> cases b2 <;> cases (d == 13) <;> cases (d == 15) <;> rfl
      · rw [show (n == 13) = false by simp [n13]]
        cases b1 <;> cases b2 <;> cases (d == 13) <;> cases (d == 15) <;> cases (n == 15) <;> rfl
  · have e : ∀ v : Int, f ≠ v → (f == v) = false := fun v hv => by simp [hv]
    simp only [e _ h0, e _ h1, e _ h2, e _ h3, e _ h4, e _ h5, e _ h6, cond_false]
    cases b1 <;> cases b2 <;> rfl

end Go.Den
end
