import Derived.Test.YtihdbaehaiaiiaaV5
set_option linter.unusedVariables false
set_option maxRecDepth 100000
namespace Go.Den

/-- the reference's Expand is the program's -/
noncomputable def chk36 (n : Nat) : Bool := match o36 (Int.ofNat n) false with
  | some (a, b, c) => (match o41 (Int.ofNat n) false with
    | some (a', b', c') => and1B (ieq a a') (and1B (beqB b b') (beqB c c'))
    | none => false)
  | none => false

theorem chk36_0 : allB chk36 1024 0 = true := by kernel_rfl
theorem chk36_1 : allB chk36 1024 1024 = true := by kernel_rfl
theorem chk36_2 : allB chk36 1024 2048 = true := by kernel_rfl
theorem chk36_3 : allB chk36 1024 3072 = true := by kernel_rfl

theorem chk36_all {n : Nat} (h : n < 4096) : chk36 n = true := by
  rcases Nat.lt_or_ge n 1024 with h1 | h1
  · exact allB_ok chk36_0 n (by omega) (by omega)
  rcases Nat.lt_or_ge n 2048 with h2 | h2
  · exact allB_ok chk36_1 n (by omega) (by omega)
  rcases Nat.lt_or_ge n 3072 with h3 | h3
  · exact allB_ok chk36_2 n (by omega) (by omega)
  · exact allB_ok chk36_3 n (by omega) (by omega)

theorem expand_eq {x : Int} (h : 0 ≤ x ∧ x < 4096) : o36 x false = o41 x false := by
  obtain ⟨n, rfl⟩ := Int.eq_ofNat_of_zero_le h.1
  have hc := chk36_all (show n < 4096 by omega)
  unfold chk36 at hc
  rw [show (n : Int) = Int.ofNat n from rfl]
  split at hc
  · rename_i a b c ha
    split at hc
    · rename_i a' b' c' hb
      obtain ⟨h1, h2⟩ := and1B_ok hc
      obtain ⟨h2, h3⟩ := and1B_ok h2
      rw [ha, hb, ieq_ok h1, beqB_ok h2, beqB_ok h3]
    · cases hc
  · cases hc

theorem expand_eqg {x : Int} (h : 0 ≤ x ∧ x < 4096) : g36 x false = g41 x false := by
  unfold g36 g41
  rw [expand_eq h]

end Go.Den
