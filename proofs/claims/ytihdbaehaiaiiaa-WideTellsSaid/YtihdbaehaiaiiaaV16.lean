import Derived.Test.YtihdbaehaiaiiaaV15
import Derived.Test.YtihdbaehaiaiiaaF17
set_option linter.unusedVariables false
set_option maxRecDepth 100000
namespace Go.Den

/-- two instructions are the same -/
def eq30 (a y : S30) : Bool := (a.f_Op == y.f_Op && (a.f_Wide == y.f_Wide && (a.f_S == y.f_S && (a.f_Cond == y.f_Cond && (a.f_D == y.f_D && (a.f_N == y.f_N && (a.f_M == y.f_M && (a.f_A == y.f_A && (a.f_Imm == y.f_Imm && (a.f_UseImm == y.f_UseImm && (a.f_Sh == y.f_Sh && (a.f_Amt == y.f_Amt && (a.f_List == y.f_List && (a.f_Back == y.f_Back && (a.f_Down == y.f_Down && true)))))))))))))))

theorem eq30_iff (a y : S30) : eq30 a y = true ↔ a = y := by
  cases a; cases y
  simp only [eq30, Bool.and_eq_true, beq_iff_eq, and_true, S30.mk.injEq]

theorem eq30_refl (a : S30) : eq30 a a = true := (eq30_iff a a).2 rfl

theorem p8_fact0 (n x y : Int) : (0 ≤ x ∧ x ≤ 65535) → (0 ≤ y ∧ y ≤ 65535) → 0 ≤ (p8 n x y).1 ∧ (p8 n x y).1 ≤ 65535 := fun hx hy => (p8_rng n x y hx hy).1
theorem p8_fact1 (n x y : Int) : (0 ≤ x ∧ x ≤ 65535) → (0 ≤ y ∧ y ≤ 65535) → 0 ≤ (p8 n x y).2 ∧ (p8 n x y).2 ≤ 65535 := fun hx hy => (p8_rng n x y hx hy).2

end Go.Den
