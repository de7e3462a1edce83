import Derived.Test.YtihdbaehaiaiiaaF3
set_option linter.unusedVariables false
set_option linter.unusedSimpArgs false
set_option maxRecDepth 100000
namespace Go.Den

theorem modified_eq {h k : Int} (hh : U16 h) (hk : U16 k) (i : Bool) : ∃ r, o48 h k = some r ∧ o17 h k i = some (wrapR h k i r) := by
  have ro := fm_fact h 5 15 (by decide)
  have rn := fm_fact h 0 15 (by decide)
  have rd := fm_fact k 8 15 (by decide)
  have r1 := fm_fact h 10 1 (by decide)
  have r2 := fm_fact k 12 7 (by decide)
  have r3 := fm_fact k 0 255 (by decide)
  have rm := n12_rng r1 r2 r3
  have e1 : p40 h k i = n12 (fm h 10 1) (fm k 12 7) (fm k 0 255) := by
    unfold p40
    rw [gf1 hh 10 (by decide), gf3 hk 12 (by decide), gf8 hk 0 (by decide)]
    exact n12_p r1 r2 r3
  have e2 := n12_w r1 r2 r3
  have et : (shrF .u32 (n12 (fm h 10 1) (fm k 12 7) (fm k 0 255)) 10 != 0) = (bitsF .and .u32 (shrF .u32 (n12 (fm h 10 1) (fm k 12 7) (fm k 0 255)) 10) 3 != 0) := by
    have := upto 4096 (fun n => (shrF .u32 n 10 != 0) = (bitsF .and .u32 (shrF .u32 n 10) 3 != 0)) top_eq rm.1 rm.2
    exact this
  have ex := expand_eq rm
  have exg := expand_eqg rm
  unfold o48 o17
  simp only [af16 hh, af16 hk, a016 hh, a016 hk, wf64, wf32, gf1 hh, gf1 hk, gf2 hk, gf3 hk, gf4 hh, gf4 hk, gf8 hk, Int.reduceLE, e1, e2, n12_r r1 r2 r3, et, ex, exg, p42_c]
  generalize n12 (fm h 10 1) (fm k 12 7) (fm k 0 255) = m at *
  generalize (fm h 4 1 == 1) = s
  generalize (bitsF .and .u32 (shrF .u32 m 10) 3 != 0) = t
  generalize fm h 5 15 = o at *
  generalize fm h 0 15 = n at *
  generalize fm k 8 15 = d at *
  have hd := fun first bad => data_eq (o := o) (n := n) (d := d) ⟨ro.1, by omega⟩ ⟨rn.1, by omega⟩ ⟨rd.1, by omega⟩ s first bad
  unfold ops16 at hd
  simp only [hd]
  obtain ⟨v, hv⟩ := expand_some rm
  have hg : g41 m false = v := by unfold g41; rw [hv]; rfl
  rw [hv, hg]
  simp only [Option.isSome_some, cond_true]
  rcases form_eq (o := o) (n := n) (d := d) ⟨ro.1, by omega⟩ ⟨rn.1, by omega⟩ ⟨rd.1, by omega⟩ s with ⟨y, hy⟩ | ⟨op, d', n', hy, h54, h65, h64⟩
  · have hg7 : g77 o d n s = (y, false) := by unfold g77; rw [hy]; rfl
    have hr7 : ∀ first, r77 o n d s first = (0, 0, 0, 0) := fun first => by unfold r77; rw [hy]; rfl
    rw [hy, hg7]
    simp only [hr7, Option.isSome_some, cond_true, Bool.not_false]
    refine ⟨_, rfl, ?_⟩
    cases t <;> cases v.snd.snd <;> rfl
  · have hg7 : g77 o d n s = (S30.mk op true s 14 d' n' 0 0 0 false 0 0 0 false false, true) := by unfold g77; rw [hy]; rfl
    have hr7 : r77 o n d s true = cond (p78 op true s 14 d' n' 0 0 0 false 0 0 0 false false true) (2, op, d', n') (1, 0, 0, 0) := by unfold r77; rw [hy]; rfl
    rw [hy, hg7, hr7]
    simp only [Option.isSome_some, cond_true, Bool.not_true, cond_false]
    cases v.snd.snd
    · simp only [Bool.not_false, cond_true]
      refine ⟨_, rfl, ?_⟩
      cases p78 op true s 14 d' n' 0 0 0 false 0 0 0 false false true <;> cases t <;> rfl
    · simp only [Bool.not_true, cond_false]
      cases p78 op true s 14 d' n' 0 0 0 false 0 0 0 false false true
      · simp only [Bool.not_false, cond_true]
        refine ⟨_, rfl, ?_⟩
        cases t <;> rfl
      · simp only [Bool.not_true, cond_false, cond_true]
        have hm : ∀ A, mkD h k i s 0 A v.fst true 0 0 (2, op, d', n') = S30.mk op true s 14 d' n' 0 A v.fst true 0 0 0 false false := fun A => by
          show cond (op != 54) _ _ = _
          rw [h54]
          rfl
        have hw : ∀ A, wrapR h k i (S30.mk op true s 14 d' n' 0 A v.fst true 0 0 0 false false, true) = S30.mk op true s 14 d' n' 0 A v.fst true 0 0 0 false false := fun A => by
          show cond (op == 65) _ _ = _
          rw [h65]
          rfl
        cases t
        · exact ⟨_, rfl, by simp only [cond_false, cond_true]; rw [hm]; exact congrArg some (hw 0).symm⟩
        · exact ⟨_, rfl, by simp only [cond_false, cond_true]; rw [hm]; exact congrArg some (hw 1).symm⟩

end Go.Den
