import Derived.Test.YtihdbaehaiaiiaaF16
set_option linter.unusedVariables false
set_option linter.unusedSimpArgs false
set_option maxRecDepth 100000
namespace Go.Den

/-- what two halves are -/
noncomputable def dW (h k : Int) (i : Bool) : S30 := g10 h k i

noncomputable def k10d (l : List V) : Option (Bool × V) := match l with
  | [.sc (.int .u16 h), .sc (.int .u16 k), .sc (.bool i)] => some (decide ((0 ≤ h ∧ h ≤ 65535) ∧ (0 ≤ k ∧ k ≤ 65535)), encS30 (dW h k i))
  | _ => none

noncomputable def kn10d : Known := kn9.add 10 k10d
theorem kn10d_ok : KnownOK ctx kn10d 156 := Known.add_ok kn9_ok rfl (by omega) (by
  intro l r h
  unfold k10d at h
  split at h
  · rename_i x y b
    simp only [Option.some.injEq, Prod.mk.injEq] at h
    obtain ⟨h1, rfl⟩ := h
    have h1 := of_decide_eq_true h1
    obtain ⟨a, ha⟩ := Option.isSome_iff_exists.1 (decode_eq h1.1 h1.2 b).1
    have hg : dW x y b = a := by unfold dW g10; rw [ha, Option.getD_some]
    rw [hg]
    exact ⟨(Told.spec kn25_ok (noLoops_ok _) (run10 _ _ _) (told10 _ _ _) ha).mono (by omega), rfl, rfl⟩
  · cases h)

noncomputable def kn9d : Known := kn10d.add 9 k10d
theorem kn9d_ok : KnownOK ctx kn9d 156 := Known.add_ok kn10d_ok rfl (by omega) (by
  intro l r h
  unfold k10d at h
  split at h
  · rename_i x y b
    simp only [Option.some.injEq, Prod.mk.injEq] at h
    obtain ⟨h1, rfl⟩ := h
    have h1 := of_decide_eq_true h1
    obtain ⟨h2, h3⟩ := decode_eq h1.1 h1.2 b
    obtain ⟨a, ha⟩ := Option.isSome_iff_exists.1 h2
    have hg : dW x y b = a := by unfold dW g10; rw [ha, Option.getD_some]
    rw [hg]
    exact ⟨(Told.spec kn10_ok (noLoops_ok _) (run9 _ _ _) (told9 _ _ _) (h3.trans ha)).mono (by omega), rfl, rfl⟩
  · cases h)

end Go.Den
