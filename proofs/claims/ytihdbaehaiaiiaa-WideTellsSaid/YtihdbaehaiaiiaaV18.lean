import Derived.Test.YtihdbaehaiaiiaaV17
set_option linter.unusedVariables false
set_option linter.unusedSimpArgs false
set_option maxRecDepth 100000
namespace Go.Den
-- sourdine/sourdinelaw9.WideTells, 3
def enc3 (y : Bool) : V := .sc (.bool y)
noncomputable def tree3 (x0 : Int) (x1 : Int) (x2 : Int) (x3 : Int) (x4 : Int) (x5 : Bool) : R := (cond (decide ((0 ≤ x0 ∧ x0 ≤ 65535) ∧ (0 ≤ x1 ∧ x1 ≤ 65535) ∧ (0 ≤ x3 ∧ x3 ≤ 65535) ∧ 0 ≤ x4 ∧ x4 ≤ 65535)) (some (enc3 (true), [])) none)
theorem run3 (x0 : Int) (x1 : Int) (x2 : Int) (x3 : Int) (x4 : Int) (x5 : Bool) : funK ctx knL3 lt3 3 3 [.sc (.int .u16 x0), .sc (.int .u16 x1), .sc (.int .u8 x2), .sc (.int .u16 x3), .sc (.int .u16 x4), .sc (.bool x5)] [] 0 finV = tree3 x0 x1 x2 x3 x4 x5 := by kernel_rfl
noncomputable def p3 (x0 : Int) (x1 : Int) (x2 : Int) (x3 : Int) (x4 : Int) (x5 : Bool) : Bool := (true)
theorem told3 (x0 : Int) (x1 : Int) (x2 : Int) (x3 : Int) (x4 : Int) (x5 : Bool) (hd : (0 ≤ x0 ∧ x0 ≤ 65535) ∧ (0 ≤ x1 ∧ x1 ≤ 65535) ∧ (0 ≤ x2 ∧ x2 ≤ 255) ∧ (0 ≤ x3 ∧ x3 ≤ 65535) ∧ (0 ≤ x4 ∧ x4 ≤ 65535)) : Told enc3 (tree3 x0 x1 x2 x3 x4 x5) (some (p3 x0 x1 x2 x3 x4 x5)) := (told_t (by try simp only [decide_eq_true_eq, decide_eq_false_iff_not, beq_iff_eq, beq_eq_false_iff_ne, bne_iff_ne, bne_eq_false_iff_eq, Bool.not_eq_true', Bool.not_eq_false'] at *; omega) (told_leaf _))
noncomputable def k3 (l : List V) : Option (Bool × V) := match l with
  | [.sc (.int .u16 x0), .sc (.int .u16 x1), .sc (.int .u8 x2), .sc (.int .u16 x3), .sc (.int .u16 x4), .sc (.bool x5)] => some (decide ((0 ≤ x0 ∧ x0 ≤ 65535) ∧ (0 ≤ x1 ∧ x1 ≤ 65535) ∧ (0 ≤ x2 ∧ x2 ≤ 255) ∧ (0 ≤ x3 ∧ x3 ≤ 65535) ∧ (0 ≤ x4 ∧ x4 ≤ 65535)), enc3 (p3 x0 x1 x2 x3 x4 x5))
  | _ => none
noncomputable def kn3 : Known := knL3.add 3 k3
theorem kn3_ok : KnownOK ctx kn3 171 := Known.add_ok knL3_ok rfl (by omega) (by
  intro l r h
  unfold k3 at h
  split at h
  · simp only [Option.some.injEq, Prod.mk.injEq] at h
    obtain ⟨h1, rfl⟩ := h
    exact ⟨(Told.spec knL3_ok (lt3_ok.mono (by omega)) (run3 _ _ _ _ _ _) (told3 _ _ _ _ _ _ (of_decide_eq_true h1)) rfl).mono (by omega), rfl, rfl⟩
  · cases h)
end Go.Den
