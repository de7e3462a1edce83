import Derived.Test.YtihdbaehaiaiiaaV14
set_option linter.unusedVariables false
set_option linter.unusedSimpArgs false
set_option maxRecDepth 100000
namespace Go.Den
-- sourdine/sourdinelaw9.known, 1
def enc7 (y : Bool) : V := .sc (.bool y)
noncomputable def tree7  : R := (some (enc7 (true), []))
theorem run7  : funK ctx kn8 noLoops 6 7 [] [] 0 finV = tree7  := by kernel_rfl
noncomputable def p7  : Bool := (true)
theorem told7  : Told enc7 (tree7 ) (some (p7 )) := told_leaf _
noncomputable def k7 (l : List V) : Option (Bool × V) := match l with
  | [] => some (true, enc7 (p7 ))
  | _ => none
noncomputable def kn7 : Known := kn8.add 7 k7
theorem kn7_ok : KnownOK ctx kn7 165 := Known.add_ok kn8_ok rfl (by omega) (by
  intro l r h
  unfold k7 at h
  split at h
  · simp only [Option.some.injEq, Prod.mk.injEq] at h
    obtain ⟨_, rfl⟩ := h
    exact ⟨(Told.spec kn8_ok (noLoops_ok _) (run7) (told7) rfl).mono (by omega), rfl, rfl⟩
  · cases h)
end Go.Den
