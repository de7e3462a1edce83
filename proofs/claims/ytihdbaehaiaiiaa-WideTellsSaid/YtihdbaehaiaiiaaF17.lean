import Derived.Test.YtihdbaehaiaiiaaV14
set_option linter.unusedVariables false
set_option maxRecDepth 100000
namespace Go.Den

def Rng (p : Int × Int) : Prop := (0 ≤ p.1 ∧ p.1 ≤ 65535) ∧ (0 ≤ p.2 ∧ p.2 ≤ 65535)

theorem rng_cond {b : Bool} {x y : Int × Int} (hx : Rng x) (hy : Rng y) : Rng (cond b x y) := by cases b <;> assumption

theorem getI_rng : ∀ (l : List Int) (n : Nat), (l.all fun x => decide (0 ≤ x ∧ x ≤ 65535)) = true → 0 ≤ getI l n ∧ getI l n ≤ 65535
  | [], n, _ => by
    have e : getI [] n = 0 := by cases n <;> rfl
    rw [e]
    exact ⟨by decide, by decide⟩
  | x :: l, 0, h => by
    simp only [List.all_cons, Bool.and_eq_true, decide_eq_true_eq] at h
    exact h.1
  | x :: l, n + 1, h => by
    simp only [List.all_cons, Bool.and_eq_true] at h
    exact getI_rng l n h.2

theorem p8_rng (n x y : Int) (hx : 0 ≤ x ∧ x ≤ 65535) (hy : 0 ≤ y ∧ y ≤ 65535) : Rng (p8 n x y) := by
  unfold p8
  repeat' refine rng_cond ?_ ?_
  all_goals
    refine ⟨?_, ?_⟩ <;> dsimp only <;> first
      | exact bits_rng .or .u16 _ _ 0 65535 (by decide)
      | exact bits_rng .and .u16 _ _ 0 65535 (by decide)
      | exact bits_rng .xor .u16 _ _ 0 65535 (by decide)
      | exact (wrap_fact .u16 _ 0 65535 (by decide)).1
      | exact getI_rng _ _ (by decide)
      | assumption
      | exact ⟨by decide, by decide⟩

end Go.Den
