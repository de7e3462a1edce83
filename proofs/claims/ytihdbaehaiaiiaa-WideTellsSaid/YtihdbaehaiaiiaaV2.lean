import Derived.Test.YtihdbaehaiaiiaaV1
set_option linter.unusedVariables false
set_option maxRecDepth 100000
namespace Go.Den

def ieq : Int → Int → Bool
  | .ofNat a, .ofNat b => Nat.beq a b
  | .negSucc a, .negSucc b => Nat.beq a b
  | _, _ => false

theorem ieq_ok : ∀ {a b : Int}, ieq a b = true → a = b
  | .ofNat a, .ofNat b, h => by rw [Nat.eq_of_beq_eq_true h]
  | .negSucc a, .negSucc b, h => by rw [Nat.eq_of_beq_eq_true h]
  | .ofNat _, .negSucc _, h => by cases h
  | .negSucc _, .ofNat _, h => by cases h

def beqB : Bool → Bool → Bool
  | true, b => b
  | false, true => false
  | false, false => true

theorem beqB_ok : ∀ {a b : Bool}, beqB a b = true → a = b := by decide

def and1B (a : Bool) (b : Bool) : Bool := match a with
  | true => b
  | false => false

theorem and1B_ok {a b : Bool} (h : and1B a b = true) : a = true ∧ b = true := by
  cases a
  · cases h
  · exact ⟨rfl, h⟩

def allB (f : Nat → Bool) : Nat → Nat → Bool
  | 0, _ => true
  | n + 1, i => match f i with
    | true => allB f n (i + 1)
    | false => false

theorem allB_ok {f : Nat → Bool} : ∀ {n i : Nat}, allB f n i = true → ∀ j, i ≤ j → j < i + n → f j = true
  | 0, i, _, j, h1, h2 => absurd h2 (by omega)
  | n + 1, i, h, j, h1, h2 => by
    simp only [allB] at h
    split at h
    · rename_i hf
      by_cases hj : j = i
      · subst hj; exact hf
      · exact allB_ok h j (by omega) (by omega)
    · cases h

end Go.Den
