import Derived.Test.YtihdbaehaiaiiaaV9
set_option linter.unusedVariables false
set_option linter.unusedSimpArgs false
set_option maxRecDepth 100000
namespace Go.Den

noncomputable def encL83 (l : List Int) : V := .sl false 1 (encI l)

theorem closedL_encI (n : Nat) : ∀ l : List Int, closedL n (encI l) = true
  | [] => rfl
  | x :: l => by
    have := closedL_encI n l
    simp only [encI, List.map_cons, closedL] at this ⊢
    rw [this]
    rfl

theorem run83 (m : Int) (b : Bool) : funK ctx kn23 lt83 3 83 [.sc (.int .i64 m), .sc (.bool b)] [] 0 finV = some (encL83 (regL m b 16 0), []) := by kernel_rfl

noncomputable def k83 (l : List V) : Option (Bool × V) := match l with
  | [.sc (.int .i64 m), .sc (.bool b)] => some (true, encL83 (regL m b 16 0))
  | _ => none
noncomputable def kn83 : Known := kn23.add 83 k83
theorem kn83_ok : KnownOK ctx kn83 144 := Known.add_ok kn23_ok rfl (by omega) (by
  intro l r h
  unfold k83 at h
  split at h
  · simp only [Option.some.injEq, Prod.mk.injEq] at h
    obtain ⟨_, rfl⟩ := h
    refine ⟨(Told.spec (enc := encL83) kn23_ok (lt83_ok.mono (by omega)) (run83 _ _) (told_leaf _) rfl).mono (by omega), rfl, ?_⟩
    simp only [encL83, closed]
    exact closedL_encI 0 _
  · cases h)

end Go.Den
