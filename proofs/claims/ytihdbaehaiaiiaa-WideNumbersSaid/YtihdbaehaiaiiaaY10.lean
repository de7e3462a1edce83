import Derived.Test.YtihdbaehaiaiiaaY9
set_option linter.unusedSimpArgs false
set_option linter.unusedVariables false
set_option maxRecDepth 100000
namespace Go.Den

/-! ### Data -/

def le15 (x : Int) : Bool := match x with
  | .ofNat n => Nat.ble n 15
  | _ => false

theorem le15_ok {x : Int} (h : le15 x = true) : 0 ≤ x ∧ x ≤ 15 := by
  unfold le15 at h
  split at h
  · have := Nat.le_of_ble_eq_true h
    simp only [Int.ofNat_eq_natCast]
    omega
  · cases h

noncomputable def factD (o n d op d' n' : Int) : Bool := and1B (ieq (p64 op) 1) (and1B (beqB (p85 op) false) (and1B (ieq (p84' op d' n').1 o) (and1B (ieq (p84' op d' n').2.1 d) (and1B (ieq (p84' op d' n').2.2 n)
  (and1B (ieq (placeI ops16 (p57' op d' n').1 0) o) (and1B (ieq (p57' op d' n').2.1 n) (and1B (ieq (p57' op d' n').2.2 d) (and1B (le15 d') (le15 n')))))))))

noncomputable def chkD (m : Nat) : Bool := allT fun s => match o77 (Int.ofNat (m / 256)) (Int.ofNat (m / 16 % 16)) (Int.ofNat (m % 16)) s with
  | some (y, true) => factD (Int.ofNat (m / 256)) (Int.ofNat (m % 16)) (Int.ofNat (m / 16 % 16)) y.f_Op y.f_D y.f_N
  | some (_, false) => true
  | none => false

theorem chkD_0 : allB chkD 1024 0 = true := by kernel_rfl
theorem chkD_1 : allB chkD 1024 1024 = true := by kernel_rfl
theorem chkD_2 : allB chkD 1024 2048 = true := by kernel_rfl
theorem chkD_3 : allB chkD 1024 3072 = true := by kernel_rfl

theorem chkD_all {n : Nat} (h : n < 4096) : chkD n = true := by
  rcases Nat.lt_or_ge n 1024 with h1 | h1
  · exact allB_ok chkD_0 n (by omega) (by omega)
  rcases Nat.lt_or_ge n 2048 with h2 | h2
  · exact allB_ok chkD_1 n (by omega) (by omega)
  rcases Nat.lt_or_ge n 3072 with h3 | h3
  · exact allB_ok chkD_2 n (by omega) (by omega)
  · exact allB_ok chkD_3 n (by omega) (by omega)

/-- what is known of an op of Data, with its registers -/
def FormOK (o n d op d' n' : Int) : Prop := p64 op = 1 ∧ p85 op = false ∧ p84' op d' n' = (o, d, n) ∧ (∃ u, p57' op d' n' = (u, n, d) ∧ placeI [1, 14, 12, 16, 2, 0, 0, 0, 5, 0, 6, 7, 0, 3, 4, 0] u 0 = o) ∧ (0 ≤ d' ∧ d' ≤ 15) ∧ (0 ≤ n' ∧ n' ≤ 15)

theorem factD_ok {o n d op d' n' : Int} (h : factD o n d op d' n' = true) : FormOK o n d op d' n' := by
  unfold factD at h
  obtain ⟨h1, h⟩ := and1B_ok h
  obtain ⟨h2, h⟩ := and1B_ok h
  obtain ⟨h3, h⟩ := and1B_ok h
  obtain ⟨h4, h⟩ := and1B_ok h
  obtain ⟨h5, h⟩ := and1B_ok h
  obtain ⟨h6, h⟩ := and1B_ok h
  obtain ⟨h7, h⟩ := and1B_ok h
  obtain ⟨h8, h⟩ := and1B_ok h
  obtain ⟨h9, h⟩ := and1B_ok h
  have e1 := ieq_ok h3
  have e2 := ieq_ok h4
  have e3 := ieq_ok h5
  have e4 := ieq_ok h7
  have e5 := ieq_ok h8
  refine ⟨ieq_ok h1, beqB_ok h2, ?_, ⟨(p57' op d' n').1, ?_, ieq_ok h6⟩, le15_ok h9, le15_ok h⟩
  · rw [← e1, ← e2, ← e3]
  · rw [← e4, ← e5]

theorem form_tab {o n d : Int} (ho : 0 ≤ o ∧ o ≤ 15) (hn : 0 ≤ n ∧ n ≤ 15) (hd : 0 ≤ d ∧ d ≤ 15) (s : Bool) :
    (∃ y, o77 o d n s = some (y, false)) ∨ ∃ op d' n', o77 o d n s = some (S30.mk op true s 14 d' n' 0 0 0 false 0 0 0 false false, true) ∧ (op != 54) = true ∧ FormOK o n d op d' n' := by
  rcases form_eq (o := o) (n := n) (d := d) ⟨ho.1, by omega⟩ ⟨hn.1, by omega⟩ ⟨hd.1, by omega⟩ s with h | ⟨op, d', n', h1, h2, _, _⟩
  · exact Or.inl h
  · refine Or.inr ⟨op, d', n', h1, h2, ?_⟩
    obtain ⟨o, rfl⟩ := Int.eq_ofNat_of_zero_le ho.1
    obtain ⟨n, rfl⟩ := Int.eq_ofNat_of_zero_le hn.1
    obtain ⟨d, rfl⟩ := Int.eq_ofNat_of_zero_le hd.1
    have hc := chkD_all (n := o * 256 + d * 16 + n) (by omega)
    unfold chkD at hc
    have hc := allT_ok hc s
    rw [show (o * 256 + d * 16 + n) / 256 = o by omega, show (o * 256 + d * 16 + n) / 16 % 16 = d by omega, show (o * 256 + d * 16 + n) % 16 = n by omega] at hc
    have h1 : o77 (Int.ofNat o) (Int.ofNat d) (Int.ofNat n) s = some (S30.mk op true s 14 d' n' 0 0 0 false 0 0 0 false false, true) := h1
    rw [h1] at hc
    exact factD_ok hc

theorem good_mkD {h k h' k' : Int} {i s : Bool} {M A Imm : Int} {U : Bool} {Sh Amt o n d : Int} (ho : 0 ≤ o ∧ o ≤ 15) (hn : 0 ≤ n ∧ n ≤ 15) (hd : 0 ≤ d ∧ d ≤ 15) (first bad : Bool)
    (H : bad = false → ∀ op d' n', FormOK o n d op d' n' → GoodE h k (S30.mk op true s 14 d' n' M A Imm U Sh Amt 0 false false)) :
    GoodE h k (mkD h' k' i s M A Imm U Sh Amt (c42 (getI ops16 o.toNat) n d s first bad)) := by
  rw [data_eq (o := o) (n := n) (d := d) ⟨ho.1, by omega⟩ ⟨hn.1, by omega⟩ ⟨hd.1, by omega⟩ s first bad]
  rcases form_tab ho hn hd s with ⟨y, hy⟩ | ⟨op, d', n', hy, h54, hf⟩
  · have hr : r77 o n d s first = (0, 0, 0, 0) := by unfold r77; rw [hy]; rfl
    rw [hr]
    cases bad <;> exact Or.inl rfl
  · have hr : r77 o n d s first = cond (p78 op true s 14 d' n' 0 0 0 false 0 0 0 false false first) (2, op, d', n') (1, 0, 0, 0) := by unfold r77; rw [hy]; rfl
    rw [hr]
    cases p78 op true s 14 d' n' 0 0 0 false 0 0 0 false false first
    · cases bad <;> exact Or.inr (Or.inl rfl)
    · cases bad
      · show GoodE h k (cond (op != 54) _ _)
        rw [h54]
        exact H rfl op d' n' hf
      · exact Or.inr (Or.inl rfl)

/-! ### twelve bits and the number that they mean -/

/-- the twelve bits of a number -/
def invE (v : Nat) : Nat := cond (Nat.blt v 256) v (cond (Nat.beq (v % 65536) (v / 65536)) (cond (Nat.beq (v / 256 % 256) 0) (256 + v % 256) (cond (Nat.beq (v % 256) 0) (512 + v / 256 % 256) (768 + v % 256)))
  ((39 - Nat.log2 v) * 128 + v / 2 ^ (Nat.log2 v - 7) % 128))

noncomputable def chkI (n : Nat) : Bool := match g41 (Int.ofNat n) false with
  | (v, _, ok) => cond ok (Nat.beq (invE v.toNat) n) true

theorem chkI_0 : allB chkI 1024 0 = true := by kernel_rfl
theorem chkI_1 : allB chkI 1024 1024 = true := by kernel_rfl
theorem chkI_2 : allB chkI 1024 2048 = true := by kernel_rfl
theorem chkI_3 : allB chkI 1024 3072 = true := by kernel_rfl

theorem chkI_all {n : Nat} (h : n < 4096) : chkI n = true := by
  rcases Nat.lt_or_ge n 1024 with h1 | h1
  · exact allB_ok chkI_0 n (by omega) (by omega)
  rcases Nat.lt_or_ge n 2048 with h2 | h2
  · exact allB_ok chkI_1 n (by omega) (by omega)
  rcases Nat.lt_or_ge n 3072 with h3 | h3
  · exact allB_ok chkI_2 n (by omega) (by omega)
  · exact allB_ok chkI_3 n (by omega) (by omega)

theorem exp_inv {v : Int} {n : Nat} (h : ExpP v n) : invE v.toNat = n := by
  have hc := chkI_all h.1
  have h2 : (g41 (Int.ofNat n) false).snd.snd = true := h.2.1
  have h3 : (g41 (Int.ofNat n) false).fst = v := h.2.2
  unfold chkI at hc
  generalize g41 (Int.ofNat n) false = w at *
  obtain ⟨a, b, c⟩ := w
  simp only at h2 h3 hc
  subst h2 h3
  exact Nat.eq_of_beq_eq_true hc

/-- what is expanded is compressed -/
theorem cmp_of {n : Int} (hn : 0 ≤ n ∧ n < 4096) (hv : (g41 n false).snd.snd = true) : cmpB (g41 n false).fst = true ∧ cmpN (g41 n false).fst = n := by
  obtain ⟨m, rfl⟩ := Int.eq_ofNat_of_zero_le hn.1
  have hP : ExpP (g41 (m : Int) false).fst m := ⟨by omega, hv, rfl⟩
  refine cmp_is hP fun j hj hP' => ?_
  have e1 := exp_inv hP
  have e2 := exp_inv hP'
  omega

theorem good_Mo {h k : Int} (hh : U16 h) (hk : U16 k) (i : Bool) (h11 : fm h 11 31 = 30) (hk15 : fm k 15 1 = 0) (h9 : fm h 9 1 = 0) : GoodE h k (g17 h k i) := by
  have sh := hMo hh
  have sk := kMo hk
  have ro := fm_fact h 5 15 (by decide)
  have rs := fm_fact h 4 1 (by decide)
  have rn := fm_fact h 0 15 (by decide)
  have rd := fm_fact k 8 15 (by decide)
  have r1 := fm_fact h 10 1 (by decide)
  have r2 := fm_fact k 12 7 (by decide)
  have r3 := fm_fact k 0 255 (by decide)
  have rm := n12_rng r1 r2 r3
  have e1 : p40 h k i = n12 (fm h 10 1) (fm k 12 7) (fm k 0 255) := by
    unfold p40
    rw [gf1 hh 10 (by decide), gf3 hk 12 (by decide), gf8 hk 0 (by decide)]
    exact n12_p r1 r2 r3
  have e2 := n12_w r1 r2 r3
  have en : n12 (fm h 10 1) (fm k 12 7) (fm k 0 255) = 2048 * fm h 10 1 + 256 * fm k 12 7 + fm k 0 255 := by
    unfold n12
    omega
  unfold g17 o17
  simp only [gf1 hh, gf1 hk, gf2 hk, gf3 hk, gf4 hh, gf4 hk, gf8 hk, Int.reduceLE, e1, e2, p42_c]
  have hcm := cmp_of rm
  generalize n12 (fm h 10 1) (fm k 12 7) (fm k 0 255) = m at *
  obtain ⟨v, hv⟩ := expand_some rm
  have hg : g41 m false = v := by unfold g41; rw [hv]; rfl
  rw [hv, hg]
  rw [hg] at hcm
  simp only [Option.isSome_some, cond_true]
  cases (shrF .u32 m 10 != 0)
  · simp only [cond_false, Option.getD_some]
    refine good_mkD ro rn rd true _ fun hb op d' n' ⟨f1, f2, f3, ⟨u, f4, f5⟩, f6, f7⟩ => ?_
    have hb : v.snd.snd = true := by simpa using hb
    obtain ⟨g1, g2⟩ := hcm hb
    exact good_leaf (leaf_Mo0 (v := v.fst) (o := fm h 5 15) (n := fm h 0 15) (d := fm k 8 15) (s := fm h 4 1) (i := fm h 10 1) (p := fm k 12 7) (e := fm k 0 255) ro rn rd rs r1 r2 r3 f1 f2 f3 f4 f5 g1 (g2.trans en)) (by omega) (by omega) (by refine ⟨rfl, ?_, ?_, ?_, ?_, ?_, ?_⟩ <;> dsimp only <;> omega)
  · simp only [cond_true, Option.getD_some]
    refine good_mkD ro rn rd true _ fun hb op d' n' ⟨f1, f2, f3, ⟨u, f4, f5⟩, f6, f7⟩ => ?_
    have hb : v.snd.snd = true := by simpa using hb
    obtain ⟨g1, g2⟩ := hcm hb
    exact good_leaf (leaf_Mo1 (v := v.fst) (o := fm h 5 15) (n := fm h 0 15) (d := fm k 8 15) (s := fm h 4 1) (i := fm h 10 1) (p := fm k 12 7) (e := fm k 0 255) ro rn rd rs r1 r2 r3 f1 f2 f3 f4 f5 g1 (g2.trans en)) (by omega) (by omega) (by refine ⟨rfl, ?_, ?_, ?_, ?_, ?_, ?_⟩ <;> dsimp only <;> omega)

theorem good_Sh {h k : Int} (hh : U16 h) (hk : U16 k) (i : Bool) (h9 : fm h 9 127 = 117) (hk15 : fm k 15 1 = 0) : GoodE h k (p19 h k i) := by
  have sh := hSh hh
  have sk := kSh hk
  have ro := fm_fact h 5 15 (by decide)
  have rs := fm_fact h 4 1 (by decide)
  have rn := fm_fact h 0 15 (by decide)
  have rd := fm_fact k 8 15 (by decide)
  have r1 := fm_fact k 12 7 (by decide)
  have r2 := fm_fact k 6 3 (by decide)
  have rt := fm_fact k 4 3 (by decide)
  have rm := fm_fact k 0 15 (by decide)
  have ra := am5_rng r1 r2
  have far := upto 32 (fun a => wrapF .i64 ((wrapF .i64 (a + 31)).tmod 32 + 1) = if a.toNat = 0 then 32 else a) (fun a ha => by have := far_eq a ha; simpa using this) ra.1 ra.2
  have ho1 := odd1
  have ea : am5 (fm k 12 7) (fm k 6 3) = 4 * fm k 12 7 + fm k 6 3 := by
    unfold am5
    omega
  unfold p19
  simp only [gf1 hh, gf1 hk, gf2 hk, gf3 hk, gf4 hh, gf4 hk, gf8 hk, Int.reduceLE, am5_p r1 r2, am5_w r1 r2 .i64 (by decide), p42_c, far, ho1]
  generalize am5 (fm k 12 7) (fm k 6 3) = a at *
  have ht : fm k 4 3 = 0 ∨ fm k 4 3 = 1 ∨ fm k 4 3 = 2 ∨ fm k 4 3 = 3 := by omega
  by_cases ha : a = 0
  · rcases ht with ht | ht | ht | ht
    · rw [ht, ha]
      refine good_mkD ro rn rd false _ fun hb op d' n' ⟨f1, f2, f3, ⟨u, f4, f5⟩, f6, f7⟩ => ?_
      exact good_leaf (leaf_Sh0 (v := 0) (o := fm h 5 15) (n := fm h 0 15) (d := fm k 8 15) (s := fm h 4 1) (m := fm k 0 15) ro rn rd rs rm f1 f2 f3 f4 f5) (by omega) (by omega) (by refine ⟨rfl, ?_, ?_, ?_, ?_, ?_, ?_⟩ <;> dsimp only <;> omega)
    · rw [ht, ha]
      refine good_mkD ro rn rd false _ fun hb op d' n' ⟨f1, f2, f3, ⟨u, f4, f5⟩, f6, f7⟩ => ?_
      exact good_leaf (leaf_Sh2z (v := 0) (o := fm h 5 15) (n := fm h 0 15) (d := fm k 8 15) (s := fm h 4 1) (m := fm k 0 15) ro rn rd rs rm f1 f2 f3 f4 f5) (by omega) (by omega) (by refine ⟨rfl, ?_, ?_, ?_, ?_, ?_, ?_⟩ <;> dsimp only <;> omega)
    · rw [ht, ha]
      refine good_mkD ro rn rd false _ fun hb op d' n' ⟨f1, f2, f3, ⟨u, f4, f5⟩, f6, f7⟩ => ?_
      exact good_leaf (leaf_Sh3z (v := 0) (o := fm h 5 15) (n := fm h 0 15) (d := fm k 8 15) (s := fm h 4 1) (m := fm k 0 15) ro rn rd rs rm f1 f2 f3 f4 f5) (by omega) (by omega) (by refine ⟨rfl, ?_, ?_, ?_, ?_, ?_, ?_⟩ <;> dsimp only <;> omega)
    · rw [ht, ha]
      refine good_mkD ro rn rd false _ fun hb op d' n' ⟨f1, f2, f3, ⟨u, f4, f5⟩, f6, f7⟩ => ?_
      exact good_leaf (leaf_Sh5 (v := 0) (o := fm h 5 15) (n := fm h 0 15) (d := fm k 8 15) (s := fm h 4 1) (m := fm k 0 15) ro rn rd rs rm f1 f2 f3 f4 f5) (by omega) (by omega) (by refine ⟨rfl, ?_, ?_, ?_, ?_, ?_, ?_⟩ <;> dsimp only <;> omega)
  · have a1 : decide (a > 0) = true := decide_eq_true (by omega)
    have a2 : (a == 0) = false := by simp [ha]
    have a3 : (a.toNat = 0) = False := by simp; omega
    simp only [a1, a2, a3, if_false]
    rw [ea] at ra ⊢
    rcases ht with ht | ht | ht | ht
    · rw [ht]
      refine good_mkD ro rn rd false _ fun hb op d' n' ⟨f1, f2, f3, ⟨u, f4, f5⟩, f6, f7⟩ => ?_
      exact good_leaf (leaf_Sh1 (v := 0) (o := fm h 5 15) (n := fm h 0 15) (d := fm k 8 15) (s := fm h 4 1) (m := fm k 0 15) (p := fm k 12 7) (g := fm k 6 3) ro rn rd rs rm r1 r2 f1 f2 f3 f4 f5) (by omega) (by omega) (by refine ⟨rfl, ?_, ?_, ?_, ?_, ?_, ?_⟩ <;> dsimp only <;> omega)
    · rw [ht]
      refine good_mkD ro rn rd false _ fun hb op d' n' ⟨f1, f2, f3, ⟨u, f4, f5⟩, f6, f7⟩ => ?_
      exact good_leaf (leaf_Sh2 (v := 0) (o := fm h 5 15) (n := fm h 0 15) (d := fm k 8 15) (s := fm h 4 1) (m := fm k 0 15) (p := fm k 12 7) (g := fm k 6 3) ro rn rd rs rm r1 r2 f1 f2 f3 f4 f5) (by omega) (by omega) (by refine ⟨rfl, ?_, ?_, ?_, ?_, ?_, ?_⟩ <;> dsimp only <;> omega)
    · rw [ht]
      refine good_mkD ro rn rd false _ fun hb op d' n' ⟨f1, f2, f3, ⟨u, f4, f5⟩, f6, f7⟩ => ?_
      exact good_leaf (leaf_Sh3 (v := 0) (o := fm h 5 15) (n := fm h 0 15) (d := fm k 8 15) (s := fm h 4 1) (m := fm k 0 15) (p := fm k 12 7) (g := fm k 6 3) ro rn rd rs rm r1 r2 f1 f2 f3 f4 f5) (by omega) (by omega) (by refine ⟨rfl, ?_, ?_, ?_, ?_, ?_, ?_⟩ <;> dsimp only <;> omega)
    · rw [ht]
      refine good_mkD ro rn rd false _ fun hb op d' n' ⟨f1, f2, f3, ⟨u, f4, f5⟩, f6, f7⟩ => ?_
      exact good_leaf (leaf_Sh4 (v := 0) (o := fm h 5 15) (n := fm h 0 15) (d := fm k 8 15) (s := fm h 4 1) (m := fm k 0 15) (p := fm k 12 7) (g := fm k 6 3) ro rn rd rs rm r1 r2 f1 f2 f3 f4 f5) (by omega) (by omega) (by refine ⟨rfl, ?_, ?_, ?_, ?_, ?_, ?_⟩ <;> dsimp only <;> omega)

end Go.Den
