import Derived.Test.YtihdbaehaiaiiaaF2
import Derived.Test.YtihdbaehaiaiiaaV7
import Derived.Test.YtihdbaehaiaiiaaDenB
set_option linter.unusedVariables false
set_option linter.unusedSimpArgs false
set_option maxRecDepth 100000
namespace Go.Den

abbrev U16 (x : Int) : Prop := 0 ≤ x ∧ x ≤ 65535

theorem af16 {x : Int} (hx : U16 x) (a m : Int) (ha : 0 ≤ a) (hm : 0 ≤ m) (hm' : m ≤ 65535) : bitsF .and .u16 (shrF .u16 x a) m = fm x a m := and_fm .u16 x a m hx ha ⟨hm, hm'⟩
theorem a016 {x : Int} (hx : U16 x) (m : Int) (hm : 0 ≤ m) (hm' : m ≤ 65535) : bitsF .and .u16 x m = fm x 0 m := and0_fm .u16 x m hx ⟨hm, hm'⟩
theorem wf64 (x a m : Int) (hm : 0 ≤ m) (hm' : m ≤ 65535) : wrapF .i64 (fm x a m) = fm x a m := wrap_fm .i64 x a m ⟨hm, by simp only [topN, Int.ofNat_eq_natCast]; omega⟩
theorem wf32 (x a m : Int) (hm : 0 ≤ m) (hm' : m ≤ 65535) : wrapF .u32 (fm x a m) = fm x a m := wrap_fm .u32 x a m ⟨hm, by simp only [topN, Int.ofNat_eq_natCast]; omega⟩

theorem gf {x : Int} (hx : U16 x) (a n m : Int) (ha : 0 ≤ a) (hn : 0 ≤ n) (h1 : wrapF .u32 (shlF .u32 1 n - 1) = m) (h2 : 0 ≤ m) (h3 : m < 65536) : g37 x a n = fm x a m :=
  g37_fm x a n m ⟨hx.1, by have := hx.2; omega⟩ ⟨⟨ha, hn⟩, h1, h2, by omega⟩
theorem gf1 {x : Int} (hx : U16 x) (a : Int) (ha : 0 ≤ a) : g37 x a 1 = fm x a 1 := gf hx a 1 1 ha (by decide) (by decide +kernel) (by decide) (by decide)
theorem gf2 {x : Int} (hx : U16 x) (a : Int) (ha : 0 ≤ a) : g37 x a 2 = fm x a 3 := gf hx a 2 3 ha (by decide) (by decide +kernel) (by decide) (by decide)
theorem gf3 {x : Int} (hx : U16 x) (a : Int) (ha : 0 ≤ a) : g37 x a 3 = fm x a 7 := gf hx a 3 7 ha (by decide) (by decide +kernel) (by decide) (by decide)
theorem gf4 {x : Int} (hx : U16 x) (a : Int) (ha : 0 ≤ a) : g37 x a 4 = fm x a 15 := gf hx a 4 15 ha (by decide) (by decide +kernel) (by decide) (by decide)
theorem gf5 {x : Int} (hx : U16 x) (a : Int) (ha : 0 ≤ a) : g37 x a 5 = fm x a 31 := gf hx a 5 31 ha (by decide) (by decide +kernel) (by decide) (by decide)
theorem gf6 {x : Int} (hx : U16 x) (a : Int) (ha : 0 ≤ a) : g37 x a 6 = fm x a 63 := gf hx a 6 63 ha (by decide) (by decide +kernel) (by decide) (by decide)
theorem gf7 {x : Int} (hx : U16 x) (a : Int) (ha : 0 ≤ a) : g37 x a 7 = fm x a 127 := gf hx a 7 127 ha (by decide) (by decide +kernel) (by decide) (by decide)
theorem gf8 {x : Int} (hx : U16 x) (a : Int) (ha : 0 ≤ a) : g37 x a 8 = fm x a 255 := gf hx a 8 255 ha (by decide) (by decide +kernel) (by decide) (by decide)
theorem gf10 {x : Int} (hx : U16 x) (a : Int) (ha : 0 ≤ a) : g37 x a 10 = fm x a 1023 := gf hx a 10 1023 ha (by decide) (by decide +kernel) (by decide) (by decide)
theorem gf11 {x : Int} (hx : U16 x) (a : Int) (ha : 0 ≤ a) : g37 x a 11 = fm x a 2047 := gf hx a 11 2047 ha (by decide) (by decide +kernel) (by decide) (by decide)
theorem gf12 {x : Int} (hx : U16 x) (a : Int) (ha : 0 ≤ a) : g37 x a 12 = fm x a 4095 := gf hx a 12 4095 ha (by decide) (by decide +kernel) (by decide) (by decide)

/-- the reference's rows, as they are told -/
noncomputable def wrapR (h k : Int) (i : Bool) (r : S30 × Bool) : S30 := cond r.2 (cond (r.1.f_Op == 65) (p47 h k i 65) r.1) (p47 h k i 64)

/-- twelve bits of a number -/
def n12 (i a b : Int) : Int := i * 2048 + a * 256 + b

theorem n12_p {i a b : Int} (hi : 0 ≤ i ∧ i ≤ 1) (ha : 0 ≤ a ∧ a ≤ 7) (hb : 0 ≤ b ∧ b ≤ 255) : bitsF .or .i64 (bitsF .or .i64 (shlF .i64 i 11) (shlF .i64 a 8)) b = n12 i a b := by
  rw [shl_mul' .i64 i 11 2048 hi.1 (by decide) (by decide) (by simp only [topN, Int.ofNat_eq_natCast]; omega), shl_mul' .i64 a 8 256 ha.1 (by decide) (by decide) (by simp only [topN, Int.ofNat_eq_natCast]; omega),
    or_add .i64 (i * ((2048 : Nat) : Int)) _ 2048 11 (by decide) (by omega) (by omega) (by omega) (by simp only [topN, Int.ofNat_eq_natCast]; omega),
    or_add .i64 _ _ 256 8 (by decide) (by omega) (by omega) (by omega) (by simp only [topN, Int.ofNat_eq_natCast]; omega)]
  rfl

theorem n12_r {i a b : Int} (hi : 0 ≤ i ∧ i ≤ 1) (ha : 0 ≤ a ∧ a ≤ 7) (hb : 0 ≤ b ∧ b ≤ 255) : bitsF .or .u32 (bitsF .or .u32 (shlF .u32 i 11) (shlF .u32 a 8)) b = n12 i a b := by
  rw [shl_mul' .u32 i 11 2048 hi.1 (by decide) (by decide) (by simp only [topN, Int.ofNat_eq_natCast]; omega), shl_mul' .u32 a 8 256 ha.1 (by decide) (by decide) (by simp only [topN, Int.ofNat_eq_natCast]; omega),
    or_add .u32 (i * ((2048 : Nat) : Int)) _ 2048 11 (by decide) (by omega) (by omega) (by omega) (by simp only [topN, Int.ofNat_eq_natCast]; omega),
    or_add .u32 _ _ 256 8 (by decide) (by omega) (by omega) (by omega) (by simp only [topN, Int.ofNat_eq_natCast]; omega)]
  rfl

theorem n12_rng {i a b : Int} (hi : 0 ≤ i ∧ i ≤ 1) (ha : 0 ≤ a ∧ a ≤ 7) (hb : 0 ≤ b ∧ b ≤ 255) : 0 ≤ n12 i a b ∧ n12 i a b < 4096 := by
  unfold n12
  omega

theorem n12_w {i a b : Int} (hi : 0 ≤ i ∧ i ≤ 1) (ha : 0 ≤ a ∧ a ≤ 7) (hb : 0 ≤ b ∧ b ≤ 255) : wrapF .u32 (n12 i a b) = n12 i a b := by
  have := n12_rng hi ha hb
  exact wrapF_le this.1 (by simp only [topN, Int.ofNat_eq_natCast]; omega)

theorem top_eq : ∀ n < 4096, (shrF .u32 ((n : Nat) : Int) 10 != 0) = (bitsF .and .u32 (shrF .u32 ((n : Nat) : Int) 10) 3 != 0) := by decide +kernel

end Go.Den
