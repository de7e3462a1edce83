import Derived.Test.YtihdbaehaiaiiaaV14
set_option linter.unusedSimpArgs false
section
set_option linter.unusedVariables false
set_option maxRecDepth 100000
namespace Go.Den
def enc7 (y : Bool) : V := .sc (.bool y)
noncomputable def tree7  : R := (some (enc7 (true), []))
theorem run7  : funK ctx kn8 noLoops 6 7 [] [] 0 finV = tree7  := by kernel_rfl
noncomputable def p7  : Bool := (true)
theorem told7  : Told enc7 (tree7 ) (some (p7 )) := told_leaf _
noncomputable def k7 (l : List V) : Option (Bool × V) := match l with
  | [] => some (true, enc7 (p7 ))
  | _ => none
noncomputable def kn7 : Known := kn8.add 7 k7
theorem kn7_ok : KnownOK ctx kn7 165 := Known.add_ok kn8_ok rfl (by omega) (by
  intro l r h
  unfold k7 at h
  split at h
  · simp only [Option.some.injEq, Prod.mk.injEq] at h
    obtain ⟨_, rfl⟩ := h
    exact ⟨(Told.spec kn8_ok (noLoops_ok _) (run7) (told7) rfl).mono (by omega), rfl, rfl⟩
  · cases h)
end Go.Den
end
section
set_option linter.unusedVariables false
set_option maxRecDepth 100000
namespace Go.Den

def Rng (p : Int × Int) : Prop := (0 ≤ p.1 ∧ p.1 ≤ 65535) ∧ (0 ≤ p.2 ∧ p.2 ≤ 65535)

theorem rng_cond {b : Bool} {x y : Int × Int} (hx : Rng x) (hy : Rng y) : Rng (cond b x y) := by cases b <;> assumption

theorem getI_rng : ∀ (l : List Int) (n : Nat), (l.all fun x => decide (0 ≤ x ∧ x ≤ 65535)) = true → 0 ≤ getI l n ∧ getI l n ≤ 65535
  | [], n, _ => by
    have e : getI [] n = 0 := by cases n <;> rfl
    rw [e]
    exact ⟨by decide, by decide⟩
  | x :: l, 0, h => by
    simp only [List.all_cons, Bool.and_eq_true, decide_eq_true_eq] at h
    exact h.1
  | x :: l, n + 1, h => by
    simp only [List.all_cons, Bool.and_eq_true] at h
    exact getI_rng l n h.2

theorem p8_rng (n x y : Int) (hx : 0 ≤ x ∧ x ≤ 65535) (hy : 0 ≤ y ∧ y ≤ 65535) : Rng (p8 n x y) := by
  unfold p8
  repeat' refine rng_cond ?_ ?_
  all_goals
    refine ⟨?_, ?_⟩ <;> dsimp only <;> first
      | exact bits_rng .or .u16 _ _ 0 65535 (by decide)
      | exact bits_rng .and .u16 _ _ 0 65535 (by decide)
      | exact bits_rng .xor .u16 _ _ 0 65535 (by decide)
      | exact (wrap_fact .u16 _ 0 65535 (by decide)).1
      | exact getI_rng _ _ (by decide)
      | assumption
      | exact ⟨by decide, by decide⟩

end Go.Den
end
section
set_option linter.unusedVariables false
set_option maxRecDepth 100000
namespace Go.Den

/-- two instructions are the same -/
def eq30 (a y : S30) : Bool := (a.f_Op == y.f_Op && (a.f_Wide == y.f_Wide && (a.f_S == y.f_S && (a.f_Cond == y.f_Cond && (a.f_D == y.f_D && (a.f_N == y.f_N && (a.f_M == y.f_M && (a.f_A == y.f_A && (a.f_Imm == y.f_Imm && (a.f_UseImm == y.f_UseImm && (a.f_Sh == y.f_Sh && (a.f_Amt == y.f_Amt && (a.f_List == y.f_List && (a.f_Back == y.f_Back && (a.f_Down == y.f_Down && true)))))))))))))))

theorem eq30_iff (a y : S30) : eq30 a y = true ↔ a = y := by
  cases a; cases y
  simp only [eq30, Bool.and_eq_true, beq_iff_eq, and_true, S30.mk.injEq]

theorem eq30_refl (a : S30) : eq30 a a = true := (eq30_iff a a).2 rfl

theorem p8_fact0 (n x y : Int) : (0 ≤ x ∧ x ≤ 65535) → (0 ≤ y ∧ y ≤ 65535) → 0 ≤ (p8 n x y).1 ∧ (p8 n x y).1 ≤ 65535 := fun hx hy => (p8_rng n x y hx hy).1
theorem p8_fact1 (n x y : Int) : (0 ≤ x ∧ x ≤ 65535) → (0 ≤ y ∧ y ≤ 65535) → 0 ≤ (p8 n x y).2 ∧ (p8 n x y).2 ≤ 65535 := fun hx hy => (p8_rng n x y hx hy).2

end Go.Den
end
