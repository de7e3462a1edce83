import Derived.Test.YtihdbaehaiaiiaaY10
set_option linter.unusedSimpArgs false
section
set_option linter.unusedVariables false
set_option maxRecDepth 100000
namespace Go.Den

theorem good_cond {h k : Int} {b : Bool} {x y : S30} (hx : GoodE h k x) (hy : GoodE h k y) : GoodE h k (cond b x y) := by cases b <;> assumption

theorem good_p38 {h k h' k' : Int} {i : Bool} (bad : Bool) {op d n m a im sh am l : Int} {w s u bk dn : Bool} (hop : (op != 54) = true) (H : bad = false → GoodE h k (S30.mk op true s 14 d n m a im u sh am l bk dn)) :
    GoodE h k (p38 h' k' i bad op w s 0 d n m a im u sh am l bk dn) := by
  cases bad
  · unfold p38
    rw [hop]
    exact H rfl
  · exact Or.inr (Or.inl rfl)

theorem bfi_leaf {h k d n p g w : Int} (rd : 0 ≤ d ∧ d ≤ 15) (rn : 0 ≤ n ∧ n ≤ 15) (r2 : 0 ≤ p ∧ p ≤ 7) (r4 : 0 ≤ g ∧ g ≤ 3) (r5 : 0 ≤ w ∧ w ≤ 31) (hh : h = 62304 + n) (hk : k = 4096 * p + 256 * d + 64 * g + w)
    (hb : ¬ w + 1 - (4 * p + g) < 1) : GoodE h k (S30.mk 33 true false 14 d n 0 0 (wrapF .u32 (wrapF .i64 (4 * p + g + wrapF .i64 (32 * (w + 1 - (4 * p + g)))))) false 0 0 0 false false) := by
  have g1 : wrapF .i64 (32 * (w + 1 - (4 * p + g))) = 32 * (w + 1 - (4 * p + g)) := wrapF_le (by omega) (by simp only [topN, Int.ofNat_eq_natCast]; omega)
  have g2 : wrapF .i64 (4 * p + g + 32 * (w + 1 - (4 * p + g))) = 4 * p + g + 32 * (w + 1 - (4 * p + g)) := wrapF_le (by omega) (by simp only [topN, Int.ofNat_eq_natCast]; omega)
  have g3 : wrapF .u32 (4 * p + g + 32 * (w + 1 - (4 * p + g))) = 32 * (w + 1 - (4 * p + g)) + 4 * p + g := (wrapF_le (by omega) (by simp only [topN, Int.ofNat_eq_natCast]; omega)).trans (by omega)
  rw [g1, g2, g3]
  exact good_leaf (leaf_Nu_33 (u := w + 1 - (4 * p + g)) rd rn r2 r4 r5 (by omega) (by omega)) (by omega) (by omega) (by refine ⟨rfl, ?_, ?_, ?_, ?_, ?_, ?_⟩ <;> dsimp only <;> omega)

theorem fx_leaf {h k d n p g w : Int} (rd : 0 ≤ d ∧ d ≤ 15) (rn : 0 ≤ n ∧ n ≤ 15) (r2 : 0 ≤ p ∧ p ≤ 7) (r4 : 0 ≤ g ∧ g ≤ 3) (r5 : 0 ≤ w ∧ w ≤ 31) (hk : k = 4096 * p + 256 * d + 64 * g + w) :
    (h = 62272 + n → GoodE h k (S30.mk 32 true false 14 d n 0 0 (32 + 32 * w + 4 * p + g) false 0 0 0 false false)) ∧ (h = 62400 + n → GoodE h k (S30.mk 31 true false 14 d n 0 0 (32 + 32 * w + 4 * p + g) false 0 0 0 false false)) :=
  ⟨fun hh => good_leaf (leaf_Nu_32 rd rn r2 r4 r5) (by omega) (by omega) (by refine ⟨rfl, ?_, ?_, ?_, ?_, ?_, ?_⟩ <;> dsimp only <;> omega),
   fun hh => good_leaf (leaf_Nu_31 rd rn r2 r4 r5) (by omega) (by omega) (by refine ⟨rfl, ?_, ?_, ?_, ?_, ?_, ?_⟩ <;> dsimp only <;> omega)⟩

theorem good_Fi {h k : Int} (hh : U16 h) (hk : U16 k) (i : Bool) (h11 : fm h 11 31 = 30) (hk15 : fm k 15 1 = 0) (h9 : fm h 9 1 = 1) : GoodE h k (p45 h k i (fm h 0 15) (fm k 8 15)) := by
  have sh := hNu hh
  have sf := kFi hk
  have rn := fm_fact h 0 15 (by decide)
  have rd := fm_fact k 8 15 (by decide)
  have r1 := fm_fact h 10 1 (by decide)
  have r2 := fm_fact k 12 7 (by decide)
  have r4 := fm_fact k 6 3 (by decide)
  have r5 := fm_fact k 0 31 (by decide)
  have r6 := fm_fact k 5 1 (by decide)
  have ra := am5_rng r2 r4
  have ea : am5 (fm k 12 7) (fm k 6 3) = 4 * fm k 12 7 + fm k 6 3 := by
    unfold am5
    omega
  unfold p45
  simp only [gf1 hh, gf1 hk, gf2 hk, gf3 hk, gf5 hh, gf5 hk, Int.reduceLE, am5_p r2 r4]
  rw [ea]
  by_cases h4 : fm h 10 1 = 1
  · rw [beqT h4]
    exact Or.inl rfl
  rw [beqF h4, cond_false]
  by_cases h5 : fm k 5 1 = 1
  · rw [beqT h5]
    exact Or.inl rfl
  rw [beqF h5, cond_false]
  have sk : k = 4096 * fm k 12 7 + 256 * fm k 8 15 + 64 * fm k 6 3 + fm k 0 31 := by omega
  have sh : h = 61952 + 16 * fm h 4 31 + fm h 0 15 := by omega
  clear sf ra r6 r1 hh hk h11 hk15 h9 h4 h5 ea
  generalize fm h 0 15 = n at *
  generalize fm k 8 15 = d at *
  generalize fm k 12 7 = p at *
  generalize fm k 6 3 = g at *
  generalize fm k 0 31 = w at *
  generalize fm h 4 31 = f at *
  have f1 : wrapF .i64 (w + 1) = w + 1 := wrapF_le (by omega) (by simp only [topN, Int.ofNat_eq_natCast]; omega)
  have f3 : wrapF .i64 (32 * (w + 1)) = 32 * (w + 1) := wrapF_le (by omega) (by simp only [topN, Int.ofNat_eq_natCast]; omega)
  have f5 : wrapF .i64 (4 * p + g + 32 * (w + 1)) = 32 + 32 * w + 4 * p + g := (wrapF_le (by omega) (by simp only [topN, Int.ofNat_eq_natCast]; omega)).trans (by omega)
  have f6 : wrapF .u32 (32 + 32 * w + 4 * p + g) = 32 + 32 * w + 4 * p + g := wrapF_le (by omega) (by simp only [topN, Int.ofNat_eq_natCast]; omega)
  have f8 : wrapF .i64 (w + 1 - (4 * p + g)) = w + 1 - (4 * p + g) := (wrap_fact .i64 (w + 1 - (4 * p + g)) (-9223372036854775808) 9223372036854775807 (by decide)).2 (by omega) (by omega)
  simp only [f1, f3, f5, f6, f8]
  by_cases h6 : f = 20
  · have q := (fx_leaf (h := h) rd rn r2 r4 r5 sk).1 (by omega)
    rw [beqT h6, cond_true]
    exact good_cond (good_p38 _ rfl fun _ => q) (good_p38 _ rfl fun _ => q)
  rw [beqF h6, cond_false]
  by_cases h7 : f = 28
  · have q := (fx_leaf (h := h) rd rn r2 r4 r5 sk).2 (by omega)
    rw [beqT h7, cond_true]
    exact good_cond (good_p38 _ rfl fun _ => q) (good_p38 _ rfl fun _ => q)
  rw [beqF h7, cond_false]
  by_cases h8 : f = 22
  · rw [beqT h8, cond_true]
    refine good_cond (good_p38 _ rfl fun hb => nomatch hb) (good_cond (good_p38 _ rfl fun hb => nomatch hb) (good_p38 _ rfl fun hb => ?_))
    exact bfi_leaf rd rn r2 r4 r5 (by omega) sk (of_decide_eq_false hb)
  rw [beqF h8, cond_false]
  exact Or.inl rfl

theorem good_Nu {h k : Int} (hh : U16 h) (hk : U16 k) (i : Bool) (h11 : fm h 11 31 = 30) (hk15 : fm k 15 1 = 0) (h9 : fm h 9 1 = 1) : GoodE h k (p18 h k i) := by
  have sh := hNu hh
  have sk := kMo hk
  have sf := kFi hk
  have rn := fm_fact h 0 15 (by decide)
  have rd := fm_fact k 8 15 (by decide)
  have r1 := fm_fact h 10 1 (by decide)
  have r2 := fm_fact k 12 7 (by decide)
  have r3 := fm_fact k 0 255 (by decide)
  have r4 := fm_fact k 6 3 (by decide)
  have r5 := fm_fact k 0 31 (by decide)
  have r6 := fm_fact k 5 1 (by decide)
  have rf := fm_fact h 4 31 (by decide)
  have rm := n12_rng r1 r2 r3
  have e1 : p40 h k i = n12 (fm h 10 1) (fm k 12 7) (fm k 0 255) := by
    unfold p40
    rw [gf1 hh 10 (by decide), gf3 hk 12 (by decide), gf8 hk 0 (by decide)]
    exact n12_p r1 r2 r3
  have e2 := n12_w r1 r2 r3
  have en : n12 (fm h 10 1) (fm k 12 7) (fm k 0 255) = 2048 * fm h 10 1 + 256 * fm k 12 7 + fm k 0 255 := by
    unfold n12
    omega
  have en16 : n16 (fm h 0 15) (n12 (fm h 10 1) (fm k 12 7) (fm k 0 255)) = 4096 * fm h 0 15 + 2048 * fm h 10 1 + 256 * fm k 12 7 + fm k 0 255 := by
    unfold n16
    rw [en]
    omega
  unfold p18
  simp only [gf1 hh, gf1 hk, gf2 hk, gf3 hk, gf4 hh, gf4 hk, gf5 hh, gf5 hk, gf8 hk, Int.reduceLE, e1, e2, p42_c, n16_p rn rm]
  rw [en16, en]
  have c5 : c42 5 (fm h 0 15) (fm k 8 15) false true false = cond (p78 5 true false 14 (fm k 8 15) (fm h 0 15) 0 0 0 false 0 0 0 false false true) (2, 5, fm k 8 15, fm h 0 15) (1, 0, 0, 0) := by
    have := data_eq (o := 8) (n := fm h 0 15) (d := fm k 8 15) (by decide) ⟨rn.1, by omega⟩ ⟨rd.1, by omega⟩ false true false
    refine Eq.trans this ?_
    show r77 8 (fm h 0 15) (fm k 8 15) false true = _
    unfold r77
    rw [form8]
    rfl
  have c3 : c42 3 (fm h 0 15) (fm k 8 15) false true false = cond (p78 3 true false 14 (fm k 8 15) (fm h 0 15) 0 0 0 false 0 0 0 false false true) (2, 3, fm k 8 15, fm h 0 15) (1, 0, 0, 0) := by
    have := data_eq (o := 13) (n := fm h 0 15) (d := fm k 8 15) (by decide) ⟨rn.1, by omega⟩ ⟨rd.1, by omega⟩ false true false
    refine Eq.trans this ?_
    show r77 13 (fm h 0 15) (fm k 8 15) false true = _
    unfold r77
    rw [form13]
    rfl
  by_cases h0 : fm h 4 31 = 0
  · rw [beqT h0, cond_true, c5]
    cases p78 5 true false 14 (fm k 8 15) (fm h 0 15) 0 0 0 false 0 0 0 false false true
    · exact Or.inr (Or.inl rfl)
    · show GoodE h k (S30.mk 5 true false 14 (fm k 8 15) (fm h 0 15) 0 2 _ true 0 0 0 false false)
      exact good_leaf (leaf_Nu_5 (d := fm k 8 15) (n := fm h 0 15) (i := fm h 10 1) (p := fm k 12 7) (e := fm k 0 255) rd rn r1 r2 r3) (by omega) (by omega) (by refine ⟨rfl, ?_, ?_, ?_, ?_, ?_, ?_⟩ <;> dsimp only <;> omega)
  rw [beqF h0, cond_false]
  by_cases h1 : fm h 4 31 = 10
  · rw [beqT h1, cond_true, c3]
    cases p78 3 true false 14 (fm k 8 15) (fm h 0 15) 0 0 0 false 0 0 0 false false true
    · exact Or.inr (Or.inl rfl)
    · show GoodE h k (S30.mk 3 true false 14 (fm k 8 15) (fm h 0 15) 0 2 _ true 0 0 0 false false)
      exact good_leaf (leaf_Nu_3 (d := fm k 8 15) (n := fm h 0 15) (i := fm h 10 1) (p := fm k 12 7) (e := fm k 0 255) rd rn r1 r2 r3) (by omega) (by omega) (by refine ⟨rfl, ?_, ?_, ?_, ?_, ?_, ?_⟩ <;> dsimp only <;> omega)
  rw [beqF h1, cond_false]
  by_cases h2 : fm h 4 31 = 4
  · rw [beqT h2, cond_true]
    exact good_p38 _ rfl fun _ => good_leaf (leaf_Nu_13 (d := fm k 8 15) (n := fm h 0 15) (i := fm h 10 1) (p := fm k 12 7) (e := fm k 0 255) rd rn r1 r2 r3) (by omega) (by omega) (by refine ⟨rfl, ?_, ?_, ?_, ?_, ?_, ?_⟩ <;> dsimp only <;> omega)
  rw [beqF h2, cond_false]
  by_cases h3 : fm h 4 31 = 12
  · rw [beqT h3, cond_true]
    exact good_p38 _ rfl fun _ => good_leaf (leaf_Nu_30 (d := fm k 8 15) (n := fm h 0 15) (i := fm h 10 1) (p := fm k 12 7) (e := fm k 0 255) rd rn r1 r2 r3) (by omega) (by omega) (by refine ⟨rfl, ?_, ?_, ?_, ?_, ?_, ?_⟩ <;> dsimp only <;> omega)
  rw [beqF h3, cond_false]
  exact good_Fi hh hk i h11 hk15 h9

theorem xr1 (p s : Int) (hp : 0 ≤ p ∧ p ≤ 1) (hs : 0 ≤ s ∧ s ≤ 1) : (0 ≤ xI 1 (bitsF .xor .u32 (bitsF .xor .u32 1 p) s) ∧ xI 1 (bitsF .xor .u32 (bitsF .xor .u32 1 p) s) ≤ 1) ∧ xI (xI 1 (bitsF .xor .u32 (bitsF .xor .u32 1 p) s)) s = p := by
  obtain rfl | rfl : p = 0 ∨ p = 1 := by omega
  all_goals
    obtain rfl | rfl : s = 0 ∨ s = 1 := by omega
    all_goals decide +kernel

theorem br_c_leaf {h k c s q p x l : Int} (rc : 0 ≤ c ∧ c ≤ 13) (rs : 0 ≤ s ∧ s ≤ 1) (rq : 0 ≤ q ∧ q ≤ 1) (rp : 0 ≤ p ∧ p ≤ 1) (r6 : 0 ≤ x ∧ x ≤ 63) (rl : 0 ≤ l ∧ l ≤ 2047) (hh : h = 61440 + 1024 * s + 64 * c + x) (hk : k = 32768 + 8192 * p + 2048 * q + l) :
    GoodE h k (S30.mk 54 true false c 0 0 0 0 (sg21 (s * 1048576 + q * 524288 + p * 262144 + x * 4096 + l * 2)) false 0 0 0 false false) := by
  have e21 : sg21 (s * 1048576 + q * 524288 + p * 262144 + x * 4096 + l * 2) = 4293918720 * s + 524288 * q + 262144 * p + 4096 * x + 2 * l := by
    unfold sg21
    split <;> omega
  rw [e21]
  exact good_leaf (leaf_Br_c rc rs rq rp r6 rl) (by omega) (by omega) (by refine ⟨rfl, ?_, ?_, ?_, ?_, ?_, ?_⟩ <;> dsimp only <;> omega)

theorem br_leaf {h k s a b p q x l : Int} (rs : 0 ≤ s ∧ s ≤ 1) (xa : 0 ≤ a ∧ a ≤ 1) (xb : 0 ≤ b ∧ b ≤ 1) (rp : 0 ≤ p ∧ p ≤ 1) (rq : 0 ≤ q ∧ q ≤ 1) (r6 : 0 ≤ x ∧ x ≤ 1023) (rl : 0 ≤ l ∧ l ≤ 2047) (hh : h = 61440 + 1024 * s + x)
    (ya : (0 ≤ xI 1 a ∧ xI 1 a ≤ 1) ∧ xI (xI 1 a) s = p) (yb : (0 ≤ xI 1 b ∧ xI 1 b ≤ 1) ∧ xI (xI 1 b) s = q) :
    (k = 36864 + 8192 * p + 2048 * q + l → GoodE h k (S30.mk 54 true false 14 0 0 0 0 (sg25 (s * 16777216 + a * 8388608 + b * 4194304 + x * 4096 + l * 2)) false 0 0 0 false false)) ∧
    (k = 53248 + 8192 * p + 2048 * q + l → GoodE h k (S30.mk 55 true false 14 0 0 0 0 (sg25 (s * 16777216 + a * 8388608 + b * 4194304 + x * 4096 + l * 2)) false 0 0 0 false false)) := by
  have e25 : sg25 (s * 16777216 + a * 8388608 + b * 4194304 + x * 4096 + l * 2) = 4278190080 * s + 8388608 * a + 4194304 * b + 4096 * x + 2 * l := by
    unfold sg25
    split <;> omega
  rw [e25]
  obtain ⟨ya1, ya2⟩ := ya
  obtain ⟨yb1, yb2⟩ := yb
  generalize hna : xI 1 a = na at *
  generalize hnb : xI 1 b = nb at *
  exact ⟨fun hk => good_leaf (leaf_Br_54 rs xa xb rp rq ya1 yb1 r6 rl hna ya2 hnb yb2) (by omega) (by omega) (by refine ⟨rfl, ?_, ?_, ?_, ?_, ?_, ?_⟩ <;> dsimp only <;> omega),
    fun hk => good_leaf (leaf_Br_55 rs xa xb rp rq ya1 yb1 r6 rl hna ya2 hnb yb2) (by omega) (by omega) (by refine ⟨rfl, ?_, ?_, ?_, ?_, ?_, ?_⟩ <;> dsimp only <;> omega)⟩

theorem good_Br {h k : Int} (hh : U16 h) (hk : U16 k) (h11 : fm h 11 31 = 30) (hk15 : fm k 15 1 = 1) : GoodE h k (p16 h k false) := by
  have shc := hBc hh
  have sh := hBr hh
  have sk := kBr hk
  have rs := fm_fact h 10 1 (by decide)
  have rp := fm_fact k 13 1 (by decide)
  have rq := fm_fact k 11 1 (by decide)
  have r6 := fm_fact h 0 63 (by decide)
  have r10 := fm_fact h 0 1023 (by decide)
  have rl := fm_fact k 0 2047 (by decide)
  have rc := fm_fact h 6 15 (by decide)
  have r14 := fm_fact k 14 1 (by decide)
  have r12 := fm_fact k 12 1 (by decide)
  have xa := xr _ _ rp rs
  have xb := xr _ _ rq rs
  have ya := xr1 _ _ rp rs
  have yb := xr1 _ _ rq rs
  have H1 : h = 61440 + 1024 * fm h 10 1 + 64 * fm h 6 15 + fm h 0 63 := by rw [h11] at shc; omega
  have H2 : h = 61440 + 1024 * fm h 10 1 + fm h 0 1023 := by rw [h11] at sh; omega
  have H3 : k = 32768 + 16384 * fm k 14 1 + 8192 * fm k 13 1 + 4096 * fm k 12 1 + 2048 * fm k 11 1 + fm k 0 2047 := by rw [hk15] at sk; omega
  clear shc sh sk h11 hk15
  unfold p16
  simp only [wf32, gf1 hh, gf1 hk, gf2 hk, gf3 hk, gf4 hh, gf4 hk, gf5 hh, gf5 hk, gf6 hh, gf10 hh, gf11 hk, gf8 hk, Int.reduceLE, v21_p rs rq rp r6 rl, v25_p rs xa xb r10 rl]
  clear hh hk
  generalize fm h 10 1 = s at *
  generalize fm k 13 1 = p at *
  generalize fm k 11 1 = q at *
  generalize fm h 0 63 = x at *
  generalize fm h 0 1023 = x10 at *
  generalize fm k 0 2047 = l at *
  generalize fm h 6 15 = c at *
  generalize bitsF .xor .u32 (bitsF .xor .u32 1 p) s = a at *
  generalize bitsF .xor .u32 (bitsF .xor .u32 1 q) s = b at *
  have h21 : 0 ≤ s * 1048576 + q * 524288 + p * 262144 + x * 4096 + l * 2 ∧ s * 1048576 + q * 524288 + p * 262144 + x * 4096 + l * 2 < 2097152 := by omega
  have h25 : 0 ≤ s * 16777216 + a * 8388608 + b * 4194304 + x10 * 4096 + l * 2 ∧ s * 16777216 + a * 8388608 + b * 4194304 + x10 * 4096 + l * 2 < 33554432 := by omega
  simp only [sign_prog21 h21, sign_prog25 h25]
  clear h21 h25
  by_cases c12 : fm k 12 1 = 0
  · rw [beqT c12, cond_true]
    by_cases c14 : fm k 14 1 = 1
    · rw [beqT c14]
      exact Or.inl rfl
    rw [beqF c14, cond_false]
    by_cases cc : c ≥ 14
    · rw [decide_eq_true cc]
      exact Or.inl rfl
    rw [decide_eq_false cc]
    show GoodE h k (S30.mk 54 true false c 0 0 0 0 (sg21 _) false 0 0 0 false false)
    exact br_c_leaf ⟨rc.1, by omega⟩ rs rq rp r6 rl H1 (by omega)
  · rw [beqF c12, cond_false]
    obtain c14 | c14 : fm k 14 1 = 0 ∨ fm k 14 1 = 1 := by omega
    · rw [c14]
      show GoodE h k (S30.mk 54 true false 14 0 0 0 0 (sg25 _) false 0 0 0 false false)
      exact (br_leaf rs xa xb rp rq r10 rl H2 ya yb).1 (by omega)
    · rw [c14]
      show GoodE h k (S30.mk 55 true false 14 0 0 0 0 (sg25 _) false 0 0 0 false false)
      exact (br_leaf rs xa xb rp rq r10 rl H2 ya yb).2 (by omega)

theorem good_Ma {h k : Int} (hh : U16 h) (hk : U16 k) (i : Bool) (h6 : fm h 6 1023 = 930 ∨ fm h 6 1023 = 932) : GoodE h k (p23 h k i) := by
  have sh := hMa hh
  have w1 : wrapF .i64 k = k := wrapF_le hk.1 (by have := hk.2; simp only [topN, Int.ofNat_eq_natCast]; omega)
  have rn := fm_fact h 0 15 (by decide)
  have r4 := fm_fact h 4 1 (by decide)
  have r5 := fm_fact h 5 1 (by decide)
  have t7 := t73 hh
  have f8 := f8_7 hh
  have hk1 := hk.1
  have hk2 := hk.2
  unfold p23
  simp only [w1, gf1 hh, gf4 hh, Int.reduceLE]
  have k0 : fm h 6 1023 = 930 → (fm h 8 1 == 1) = false := fun e => beqF (by omega)
  have k1 : fm h 6 1023 = 932 → (fm h 8 1 == 1) = true := fun e => beqT (by omega)
  rcases h6 with h6 | h6
  · rw [k0 h6]
    obtain c | c : fm h 4 1 = 1 ∨ fm h 4 1 = 0 := by omega
    · have g : GoodE h k (S30.mk 52 true false 14 0 (fm h 0 15) 0 0 0 false 0 0 k (fm h 5 1 == 1) false) := good_leaf (leaf_Ma_52_false (n := fm h 0 15) (l := k) (b := fm h 5 1) rn ⟨hk1, hk2⟩ r5) (by omega) rfl (by refine ⟨rfl, ?_, ?_, ?_, ?_, ?_, ?_⟩ <;> dsimp only <;> omega)
      rw [beqT c]
      simp only [cond_true]
      repeat' with_reducible refine good_cond ?_ ?_
      all_goals exact good_p38 _ rfl fun _ => g
    · have g : GoodE h k (S30.mk 53 true false 14 0 (fm h 0 15) 0 0 0 false 0 0 k (fm h 5 1 == 1) false) := good_leaf (leaf_Ma_53_false (n := fm h 0 15) (l := k) (b := fm h 5 1) rn ⟨hk1, hk2⟩ r5) (by omega) rfl (by refine ⟨rfl, ?_, ?_, ?_, ?_, ?_, ?_⟩ <;> dsimp only <;> omega)
      rw [beqF (show ¬ fm h 4 1 = 1 by omega)]
      simp only [cond_false]
      repeat' with_reducible refine good_cond ?_ ?_
      all_goals exact good_p38 _ rfl fun _ => g
  · rw [k1 h6]
    obtain c | c : fm h 4 1 = 1 ∨ fm h 4 1 = 0 := by omega
    · have g : GoodE h k (S30.mk 52 true false 14 0 (fm h 0 15) 0 0 0 false 0 0 k (fm h 5 1 == 1) true) := good_leaf (leaf_Ma_52_true (n := fm h 0 15) (l := k) (b := fm h 5 1) rn ⟨hk1, hk2⟩ r5) (by omega) rfl (by refine ⟨rfl, ?_, ?_, ?_, ?_, ?_, ?_⟩ <;> dsimp only <;> omega)
      rw [beqT c]
      simp only [cond_true]
      repeat' with_reducible refine good_cond ?_ ?_
      all_goals exact good_p38 _ rfl fun _ => g
    · have g : GoodE h k (S30.mk 53 true false 14 0 (fm h 0 15) 0 0 0 false 0 0 k (fm h 5 1 == 1) true) := good_leaf (leaf_Ma_53_true (n := fm h 0 15) (l := k) (b := fm h 5 1) rn ⟨hk1, hk2⟩ r5) (by omega) rfl (by refine ⟨rfl, ?_, ?_, ?_, ?_, ?_, ?_⟩ <;> dsimp only <;> omega)
      rw [beqF (show ¬ fm h 4 1 = 1 by omega)]
      simp only [cond_false]
      repeat' with_reducible refine good_cond ?_ ?_
      all_goals exact good_p38 _ rfl fun _ => g

/-- what two halves are is encoded as they are -/
theorem good_all (h k : Int) (hh : 0 ≤ h ∧ h ≤ 65535) (hk : 0 ≤ k ∧ k ≤ 65535) : GoodE h k (dW h k false) :=
  dW_cases hh hk false (GoodE h k) (good_Br hh hk) (good_Mo hh hk false) (good_Nu hh hk false) (good_Sh hh hk false) (good_Me hh hk false) (good_Un hh hk false) (good_Lo hh hk false) (good_Ma hh hk false) (Or.inl rfl)

end Go.Den
end
section
set_option linter.unusedVariables false
set_option maxRecDepth 100000
namespace Go.Den

def PL (x : Bool × List (List Int)) : Prop := allPair x.2 = true ∧ x.2.length ≤ 10000

theorem PL_cond {b : Bool} {x y : Bool × List (List Int)} (hx : PL x) (hy : PL y) : PL (cond b x y) := by cases b <;> assumption

theorem pair_ok (a b : Int) : isPair [wrapF .u16 a, wrapF .u16 b] = true := decide_eq_true ⟨w16 a, w16 b⟩

theorem PL0 (b : Bool) : PL (b, []) := ⟨rfl, Nat.zero_le _⟩
theorem PL1 (o : Bool) (a b : Int) : PL (o, [[wrapF .u16 a, wrapF .u16 b]]) := ⟨by simp only [allPair, pair_ok, Bool.and_self], by simp⟩

theorem allPair_app : ∀ {l m : List (List Int)}, allPair l = true → allPair m = true → allPair (l ++ m) = true
  | [], _, _, h => h
  | w :: l, m, h1, h2 => by
    simp only [List.cons_append, allPair, Bool.and_eq_true] at h1 ⊢
    exact ⟨h1.1, allPair_app h1.2 h2⟩

theorem m33_pair (y : S30) (i : Int) : allPair (m33 y i) = true := by
  unfold m33 ka33 kb33 kc33
  cases y.f_UseImm <;> cases (y.f_N == 15) <;> simp only [cond_true, cond_false, allPair, pair_ok, Bool.and_self]

theorem all33_pair (y : S30) : ∀ (j i : Nat), allPair (all33 y i j) = true ∧ (all33 y i j).length ≤ 2 * j
  | 0, i => ⟨rfl, Nat.zero_le _⟩
  | j + 1, i => by
    have ih := all33_pair y j (i + 1)
    have := m33_len y (i : Int)
    unfold all33
    refine ⟨allPair_app (m33_pair y _) ih.1, ?_⟩
    rw [List.length_append]
    omega

theorem lists_ok (y : S30) : Lists y := by
  refine ⟨?_, ?_, ?_, ?_, ?_, ?_, ?_⟩
  · show PL (p28 _ _ _ _ _ _ _ _ _ _ _ _ _ _ _)
    unfold p28
    repeat' with_reducible refine PL_cond ?_ ?_
    all_goals first | exact PL0 _ | exact PL1 _ _ _
  · show PL (p29 _ _ _ _ _ _ _ _ _ _ _ _ _ _ _)
    unfold p29
    repeat' with_reducible refine PL_cond ?_ ?_
    all_goals first | exact PL0 _ | exact PL1 _ _ _
  · show PL (p30 _ _ _ _ _ _ _ _ _ _ _ _ _ _ _)
    unfold p30
    repeat' with_reducible refine PL_cond ?_ ?_
    all_goals first | exact PL0 _ | exact PL1 _ _ _
  · show PL (p31 _ _ _ _ _ _ _ _ _ _ _ _ _ _ _)
    unfold p31
    repeat' with_reducible refine PL_cond ?_ ?_
    all_goals first | exact PL0 _ | exact PL1 _ _ _
  · show PL (p32 _ _ _ _ _ _ _ _ _ _ _ _ _ _ _)
    unfold p32
    repeat' with_reducible refine PL_cond ?_ ?_
    all_goals first | exact PL0 _ | exact PL1 _ _ _
  · have := all33_pair y 16 0
    exact ⟨this.1, by show (all33 y 0 16).length ≤ _; omega⟩
  · have hd : decide (0 ≤ p59 y.f_Down ∧ p59 y.f_Down < 2) = true := by cases y.f_Down <;> decide
    have e : ∃ a b, o34y y = some (true, [[wrapF .u16 a, wrapF .u16 b]]) := by
      unfold o34y o34
      rw [hd]
      exact ⟨_, _, rfl⟩
    obtain ⟨a, b, e⟩ := e
    have e2 : L34 y = [[wrapF .u16 a, wrapF .u16 b]] := by
      unfold L34 g34
      rw [show o34 y.f_Op y.f_Wide y.f_S y.f_Cond y.f_D y.f_N y.f_M y.f_A y.f_Imm y.f_UseImm y.f_Sh y.f_Amt y.f_List y.f_Back y.f_Down = o34y y from rfl, e]
      rfl
    rw [e, e2]
    exact ⟨rfl, (PL1 true a b).1, (PL1 true a b).2⟩

/-! ### the reference's row is always told -/

theorem placeR_rng : ∀ (l : List Int) (x i : Int), 0 ≤ i → (placeR l x i = 0 ∨ (i ≤ placeR l x i ∧ placeR l x i < i + l.length))
  | [], x, i, _ => Or.inl rfl
  | a :: l, x, i, h => by
    unfold placeR
    cases (a == x)
    · rcases placeR_rng l x (i + 1) (by omega) with e | e
      · exact Or.inl e
      · refine Or.inr ?_
        simp only [cond_false, List.length_cons]
        omega
    · refine Or.inr ?_
      simp only [cond_true, List.length_cons]
      omega

theorem placeR_in (l : List Int) (x : Int) (n : Int) (hn : (l.length : Int) ≤ n) (h0 : 0 < n) : decide (0 ≤ placeR l x 0 ∧ placeR l x 0 < n) = true := by
  refine decide_eq_true ?_
  rcases placeR_rng l x 0 (by omega) with e | e <;> omega

theorem isSome_cond {α : Type} {b : Bool} {x y : Option α} (hx : x.isSome = true) (hy : y.isSome = true) : (cond b x y).isSome = true := by cases b <;> assumption

theorem o65_some (a : Int) (b c : Bool) (d e f g h i : Int) (j : Bool) (k l m : Int) (n o : Bool) : (o65 a b c d e f g h i j k l m n o).isSome = true := by
  unfold o65
  rw [placeR_in [5, 3, 13] a 3 (by decide) (by decide)]
  simp only [cond_true]
  repeat' with_reducible refine isSome_cond ?_ ?_
  all_goals rfl

theorem o67_some (a : Int) (b c : Bool) (d e f g h i : Int) (j : Bool) (k l m : Int) (n o : Bool) : (o67 a b c d e f g h i j k l m n o).isSome = true := by
  unfold o67
  rw [placeR_in [32, 31, 33] a 3 (by decide) (by decide)]
  have h0 := placeR_in [40, 42, 39, 41, 36, 37, 35, 38, 34] a 9 (by decide) (by decide)
  have h0 := of_decide_eq_true h0
  by_cases c4 : placeR [40, 42, 39, 41, 36, 37, 35, 38, 34] a 0 < 4
  · rw [decide_eq_true (show 0 ≤ placeR [40, 42, 39, 41, 36, 37, 35, 38, 34] a 0 ∧ placeR [40, 42, 39, 41, 36, 37, 35, 38, 34] a 0 < 4 from ⟨h0.1, c4⟩)]
    simp only [cond_true]
    repeat' with_reducible refine isSome_cond ?_ ?_
    all_goals rfl
  · rw [decide_eq_false c4]
    simp only [cond_true, cond_false]
    repeat' with_reducible refine isSome_cond ?_ ?_
    all_goals rfl

theorem o35_some (y : S30) : (o35y y).isSome = true := by
  unfold o35y o35
  rw [o65_some, o67_some, placeR_in [21, 23, 29, 28, 25, 24, 27, 26, 22] y.f_Op 9 (by decide) (by decide), placeR_in [50, 51, 49, 45, 46, 44, 47, 48] y.f_Op 8 (by decide) (by decide),
    show decide (0 ≤ p68 y.f_Down ∧ p68 y.f_Down < 2) = true by cases y.f_Down <;> decide]
  simp only [cond_true]
  repeat' with_reducible refine isSome_cond ?_ ?_
  all_goals rfl

/-- the program's Encode is the reference's -/
theorem enc_same (y : S30) : ∃ r, o11y y = some r ∧ o12y y = some r := enc_eq (lists_ok y) (o35_some y) good_all

end Go.Den
end
