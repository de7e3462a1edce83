import Derived.Test.YtihdbaehaiaiiaaF145
import Derived.Test.YtihdbaehaiaiiaaFC
import Derived.Test.YtihdbaehaiaiiaaV12
set_option linter.unusedSimpArgs false
section
set_option linter.unusedVariables false
set_option maxRecDepth 100000
namespace Go.Den

theorem t11 {x : Int} (hx : U16 x) : fm x 11 31 = fm x 6 1023 / 32 := by
  obtain ⟨n, rfl⟩ := Int.eq_ofNat_of_zero_le hx.1
  have hn : n ≤ 65535 := by have := hx.2; omega
  rw [show fm (n : Int) 11 31 = ((n / 2 ^ 11 % 2 ^ 5 : Nat) : Int) from fm_div n 11 5, show fm (n : Int) 6 1023 = ((n / 2 ^ 6 % 2 ^ 10 : Nat) : Int) from fm_div n 6 10]
  omega

theorem t9 {x : Int} (hx : U16 x) : fm x 9 127 = fm x 6 1023 / 8 := by
  obtain ⟨n, rfl⟩ := Int.eq_ofNat_of_zero_le hx.1
  have hn : n ≤ 65535 := by have := hx.2; omega
  rw [show fm (n : Int) 9 127 = ((n / 2 ^ 9 % 2 ^ 7 : Nat) : Int) from fm_div n 9 7, show fm (n : Int) 6 1023 = ((n / 2 ^ 6 % 2 ^ 10 : Nat) : Int) from fm_div n 6 10]
  omega

theorem t8 {x : Int} (hx : U16 x) : fm x 8 255 = fm x 6 1023 / 4 := by
  obtain ⟨n, rfl⟩ := Int.eq_ofNat_of_zero_le hx.1
  have hn : n ≤ 65535 := by have := hx.2; omega
  rw [show fm (n : Int) 8 255 = ((n / 2 ^ 8 % 2 ^ 8 : Nat) : Int) from fm_div n 8 8, show fm (n : Int) 6 1023 = ((n / 2 ^ 6 % 2 ^ 10 : Nat) : Int) from fm_div n 6 10]
  omega

theorem t91 {x : Int} (hx : U16 x) : fm x 9 1 = fm x 6 1023 / 8 % 2 := by
  obtain ⟨n, rfl⟩ := Int.eq_ofNat_of_zero_le hx.1
  have hn : n ≤ 65535 := by have := hx.2; omega
  rw [show fm (n : Int) 9 1 = ((n / 2 ^ 9 % 2 ^ 1 : Nat) : Int) from fm_div n 9 1, show fm (n : Int) 6 1023 = ((n / 2 ^ 6 % 2 ^ 10 : Nat) : Int) from fm_div n 6 10]
  omega

theorem t61 {x : Int} (hx : U16 x) : fm x 6 1 = fm x 6 1023 % 2 := by
  obtain ⟨n, rfl⟩ := Int.eq_ofNat_of_zero_le hx.1
  have hn : n ≤ 65535 := by have := hx.2; omega
  rw [show fm (n : Int) 6 1 = ((n / 2 ^ 6 % 2 ^ 1 : Nat) : Int) from fm_div n 6 1, show fm (n : Int) 6 1023 = ((n / 2 ^ 6 % 2 ^ 10 : Nat) : Int) from fm_div n 6 10]
  omega

theorem t73 {x : Int} (hx : U16 x) : fm x 7 3 = fm x 6 1023 / 2 % 4 := by
  obtain ⟨n, rfl⟩ := Int.eq_ofNat_of_zero_le hx.1
  have hn : n ≤ 65535 := by have := hx.2; omega
  rw [show fm (n : Int) 7 3 = ((n / 2 ^ 7 % 2 ^ 2 : Nat) : Int) from fm_div n 7 2, show fm (n : Int) 6 1023 = ((n / 2 ^ 6 % 2 ^ 10 : Nat) : Int) from fm_div n 6 10]
  omega

theorem k15 {x : Int} (hx : U16 x) : fm x 15 1 = fm x 12 15 / 8 := by
  obtain ⟨n, rfl⟩ := Int.eq_ofNat_of_zero_le hx.1
  have hn : n ≤ 65535 := by have := hx.2; omega
  rw [show fm (n : Int) 15 1 = ((n / 2 ^ 15 % 2 ^ 1 : Nat) : Int) from fm_div n 15 1, show fm (n : Int) 12 15 = ((n / 2 ^ 12 % 2 ^ 4 : Nat) : Int) from fm_div n 12 4]
  omega

theorem shifted_none {h k : Int} (hh : U16 h) (hk : U16 k) (i : Bool) (h15 : fm k 15 1 = 1) : ∃ r, o51 h k = some r ∧ wrapR h k i r = p24 h k i := by
  have ro := fm_fact h 5 15 (by decide)
  have rn := fm_fact h 0 15 (by decide)
  have rd := fm_fact k 8 15 (by decide)
  unfold o51
  simp only [af16 hh, af16 hk, a016 hh, a016 hk, wf64, wf32, Int.reduceLE, s16_15 hk, h15]
  generalize (fm h 4 1 == 1) = s
  generalize fm h 5 15 = o at *
  generalize fm h 0 15 = n at *
  generalize fm k 8 15 = d at *
  rcases form_eq (o := o) (n := n) (d := d) ⟨ro.1, by omega⟩ ⟨rn.1, by omega⟩ ⟨rd.1, by omega⟩ s with ⟨y, hy⟩ | ⟨op, d', n', hy, h54, h65, h64⟩
  · have hg7 : g77 o d n s = (y, false) := by unfold g77; rw [hy]; rfl
    rw [hy, hg7]
    exact ⟨_, rfl, rfl⟩
  · have hg7 : g77 o d n s = (S30.mk op true s 14 d' n' 0 0 0 false 0 0 0 false false, true) := by unfold g77; rw [hy]; rfl
    rw [hy, hg7]
    exact ⟨_, rfl, rfl⟩

theorem unary_none {h k : Int} (hk : U16 k) (i : Bool) (h12 : fm k 12 15 ≠ 15) : p21 h k i = p24 h k i := by
  unfold p21
  rw [gf4 hk 12 (by decide), show (fm k 12 15 != 15) = true from bne_iff_ne.2 h12]
  rfl

theorem many_none {h k : Int} (hh : U16 h) (hk : U16 k) (i : Bool) (hp : fm h 7 3 = 0 ∨ fm h 7 3 = 3) : wrapR h k i (p55 h k) = p24 h k i := by
  unfold p55
  simp only [af16 hh, Int.reduceLE]
  rcases hp with hp | hp
  · rw [hp]; rfl
  · rw [hp]; rfl

/-- the reference's DecodeWide, where its row is known -/
theorem o10_of {h k : Int} (hh : U16 h) (hk : U16 k) (i : Bool) {r : S30 × Bool} (hr : o25 h k i = some r) : o10 h k i = some (wrapR h k i r) := by
  have g : g25 h k i = r := by unfold g25; rw [hr, Option.getD_some]
  have w1 : wrapF .u32 h = h := wrapF_le hh.1 (by have := hh.2; simp only [topN, Int.ofNat_eq_natCast]; omega)
  have w2 : wrapF .u32 k = k := wrapF_le hk.1 (by have := hk.2; simp only [topN, Int.ofNat_eq_natCast]; omega)
  unfold o10 wrapR
  rw [hr, g, w1, w2]
  obtain ⟨y, ok⟩ := r
  cases ok
  · rfl
  · simp only [Option.isSome_some, cond_true, Bool.not_true, cond_false]
    cases (y.f_Op == 65) <;> rfl

theorem beqT {a b : Int} (h : a = b) : (a == b) = true := beq_iff_eq.2 h
theorem beqF {a b : Int} (h : a ≠ b) : (a == b) = false := beq_eq_false_iff_ne.2 h

theorem decode_row {h k : Int} (hh : U16 h) (hk : U16 k) (i : Bool) : ∃ r, o25 h k i = some r ∧ o9 h k i = some (wrapR h k i r) := by
  have w1 : wrapF .u32 h = h := wrapF_le hh.1 (by have := hh.2; simp only [topN, Int.ofNat_eq_natCast]; omega)
  have w2 : wrapF .u32 k = k := wrapF_le hk.1 (by have := hk.2; simp only [topN, Int.ofNat_eq_natCast]; omega)
  have rt := fm_fact h 6 1023 (by decide)
  have rk := fm_fact k 12 15 (by decide)
  have e12 : ∀ x : S30 × Bool, (x.fst, x.snd) = x := fun x => rfl
  unfold o25 o9
  simp only [w1, w2, gf7 hh, gf1 hh, gf1 hk, af16 hh, Int.reduceLE]
  simp only [s16_11 hh, s16_9 hh, s16_8 hh, s16_6 hh, s16_15 hk, s16_12 hk, t11 hh, t9 hh, t8 hh, t91 hh, t61 hh, k15 hk, e12]
  have hk15 := k15 hk
  have ht7 := t73 hh
  generalize ht : fm h 6 1023 = t at *
  generalize hw : fm k 12 15 = w at *
  by_cases a : t / 32 = 30
  · rw [beqT a]
    by_cases b : w / 8 = 0
    · rw [beqT b]
      by_cases c : t / 8 % 2 = 0
      · rw [beqT c]
        obtain ⟨r, h1, h2⟩ := modified_eq hh hk i
        have g1 : g48 h k = r := by unfold g48; rw [h1, Option.getD_some]
        have g2 : g17 h k i = wrapR h k i r := by unfold g17; rw [h2, Option.getD_some]
        rw [h1, h2, g1, g2]
        exact ⟨_, rfl, rfl⟩
      · rw [beqF c, numbers_eq hh hk i]
        exact ⟨_, rfl, rfl⟩
    · rw [beqF b]
      obtain ⟨r, h1, h2⟩ := branch_eq hh hk i
      have g1 : g50 h k i = r := by unfold g50; rw [h1, Option.getD_some]
      rw [h1, g1, h2]
      exact ⟨_, rfl, rfl⟩
  · rw [beqF a]
    by_cases b : t / 8 = 117
    · rw [beqT b]
      by_cases c : w / 8 = 0
      · rw [beqT c]
        obtain ⟨r, h1, h2⟩ := shifted_eq hh hk i (by rw [hk15, c])
        have g1 : g51 h k = r := by unfold g51; rw [h1, Option.getD_some]
        rw [h1, g1, h2]
        exact ⟨_, rfl, rfl⟩
      · have c1 : fm k 15 1 = 1 := by rw [hk15]; omega
        obtain ⟨r, h1, h2⟩ := shifted_none hh hk i c1
        have g1 : g51 h k = r := by unfold g51; rw [h1, Option.getD_some]
        rw [beqF c, h1, g1, beqF (show t / 8 ≠ 124 by omega), beqF (show t / 4 ≠ 250 by omega), beqF (show t / 4 ≠ 251 by omega), beqF (show t ≠ 930 by omega), beqF (show t ≠ 932 by omega), ← h2]
        exact ⟨_, rfl, rfl⟩
    · rw [beqF b]
      by_cases c : t / 8 = 124
      · rw [beqT c, beqF (show t / 4 ≠ 250 by omega), beqF (show t / 4 ≠ 251 by omega), Me_eq hh hk i]
        exact ⟨_, rfl, rfl⟩
      · rw [beqF c]
        by_cases d : t / 4 = 250
        · rw [beqT d]
          by_cases e : w = 15
          · rw [beqT e, Un_eq hh hk i (by rw [hw, e])]
            exact ⟨_, rfl, rfl⟩
          · rw [beqF e, unary_none hk i (by rw [hw]; exact e), beqF (show t / 4 ≠ 251 by omega), beqF (show t / 8 ≠ 116 by omega)]
            exact ⟨_, rfl, rfl⟩
        · rw [beqF d]
          by_cases e : t / 4 = 251
          · rw [beqT e, Lo_eq hh hk i]
            exact ⟨_, rfl, rfl⟩
          · rw [beqF e]
            by_cases f : t / 8 = 116
            · rw [beqT f]
              by_cases g : t % 2 = 0
              · rw [beqT g]
                by_cases m1 : t = 930
                · rw [beqT m1, many_eq hh hk i (by rw [ht7, m1]; decide)]
                  exact ⟨_, rfl, rfl⟩
                · rw [beqF m1]
                  by_cases m2 : t = 932
                  · rw [beqT m2, many_eq hh hk i (by rw [ht7, m2]; decide)]
                    exact ⟨_, rfl, rfl⟩
                  · rw [beqF m2, ← many_none hh hk i (by rw [ht7]; omega)]
                    exact ⟨_, rfl, rfl⟩
              · rw [beqF g, beqF (show t ≠ 930 by omega), beqF (show t ≠ 932 by omega)]
                exact ⟨_, rfl, rfl⟩
            · rw [beqF f, beqF (show t ≠ 930 by omega), beqF (show t ≠ 932 by omega)]
              exact ⟨_, rfl, rfl⟩

/-- the program's Decode is the reference's -/
theorem decode_eq {h k : Int} (hh : U16 h) (hk : U16 k) (i : Bool) : (o10 h k i).isSome = true ∧ o9 h k i = o10 h k i := by
  obtain ⟨r, h1, h2⟩ := decode_row hh hk i
  rw [h2, o10_of hh hk i h1]
  exact ⟨rfl, rfl⟩

end Go.Den
end
section
set_option linter.unusedVariables false
set_option maxRecDepth 100000
namespace Go.Den

/-- what two halves are -/
noncomputable def dW (h k : Int) (i : Bool) : S30 := g10 h k i

noncomputable def k10d (l : List V) : Option (Bool × V) := match l with
  | [.sc (.int .u16 h), .sc (.int .u16 k), .sc (.bool i)] => some (decide ((0 ≤ h ∧ h ≤ 65535) ∧ (0 ≤ k ∧ k ≤ 65535)), encS30 (dW h k i))
  | _ => none

noncomputable def kn10d : Known := kn9.add 10 k10d
theorem kn10d_ok : KnownOK ctx kn10d 156 := Known.add_ok kn9_ok rfl (by omega) (by
  intro l r h
  unfold k10d at h
  split at h
  · rename_i x y b
    simp only [Option.some.injEq, Prod.mk.injEq] at h
    obtain ⟨h1, rfl⟩ := h
    have h1 := of_decide_eq_true h1
    obtain ⟨a, ha⟩ := Option.isSome_iff_exists.1 (decode_eq h1.1 h1.2 b).1
    have hg : dW x y b = a := by unfold dW g10; rw [ha, Option.getD_some]
    rw [hg]
    exact ⟨(Told.spec kn25_ok (noLoops_ok _) (run10 _ _ _) (told10 _ _ _) ha).mono (by omega), rfl, rfl⟩
  · cases h)

noncomputable def kn9d : Known := kn10d.add 9 k10d
theorem kn9d_ok : KnownOK ctx kn9d 156 := Known.add_ok kn10d_ok rfl (by omega) (by
  intro l r h
  unfold k10d at h
  split at h
  · rename_i x y b
    simp only [Option.some.injEq, Prod.mk.injEq] at h
    obtain ⟨h1, rfl⟩ := h
    have h1 := of_decide_eq_true h1
    obtain ⟨h2, h3⟩ := decode_eq h1.1 h1.2 b
    obtain ⟨a, ha⟩ := Option.isSome_iff_exists.1 h2
    have hg : dW x y b = a := by unfold dW g10; rw [ha, Option.getD_some]
    rw [hg]
    exact ⟨(Told.spec kn10_ok (noLoops_ok _) (run9 _ _ _) (told9 _ _ _) (h3.trans ha)).mono (by omega), rfl, rfl⟩
  · cases h)

end Go.Den
end
