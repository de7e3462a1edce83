import Derived.Test.YtllippimokoioaaQ5
namespace Go.Den
set_option maxRecDepth 100000

def ieq : Int → Int → Bool
  | .ofNat a, .ofNat b => Nat.beq a b
  | .negSucc a, .negSucc b => Nat.beq a b
  | _, _ => false

theorem ieq_ok : ∀ {a b : Int}, ieq a b = true → a = b
  | .ofNat a, .ofNat b, h => by rw [Nat.eq_of_beq_eq_true h]
  | .negSucc a, .negSucc b, h => by rw [Nat.eq_of_beq_eq_true h]
  | .ofNat _, .negSucc _, h => by cases h
  | .negSucc _, .ofNat _, h => by cases h

def beqB : Bool → Bool → Bool
  | true, b => b
  | false, true => false
  | false, false => true

theorem beqB_ok : ∀ {a b : Bool}, beqB a b = true → a = b := by decide

def and1B (a : Bool) (b : Bool) : Bool := match a with
  | true => b
  | false => false

theorem and1B_ok {a b : Bool} (h : and1B a b = true) : a = true ∧ b = true := by
  cases a
  · cases h
  · exact ⟨rfl, h⟩

def eqS : S39 → S39 → Bool
  | ⟨a1, a2, a3, a4, a5, a6, a7, a8, a9, a10, a11, a12, a13, a14, a15⟩, ⟨b1, b2, b3, b4, b5, b6, b7, b8, b9, b10, b11, b12, b13, b14, b15⟩ =>
    and1B (ieq a1 b1) (and1B (beqB a2 b2) (and1B (beqB a3 b3) (and1B (ieq a4 b4) (and1B (ieq a5 b5) (and1B (ieq a6 b6) (and1B (ieq a7 b7) (and1B (ieq a8 b8) (and1B (ieq a9 b9) (and1B (beqB a10 b10) (and1B (ieq a11 b11) (and1B (ieq a12 b12) (and1B (ieq a13 b13) (and1B (beqB a14 b14) (beqB a15 b15))))))))))))))

theorem eqS_ok {a b : S39} (h : eqS a b = true) : a = b := by
  cases a; cases b
  simp only [eqS] at h
  obtain ⟨h1, h⟩ := and1B_ok h
  obtain ⟨h2, h⟩ := and1B_ok h
  obtain ⟨h3, h⟩ := and1B_ok h
  obtain ⟨h4, h⟩ := and1B_ok h
  obtain ⟨h5, h⟩ := and1B_ok h
  obtain ⟨h6, h⟩ := and1B_ok h
  obtain ⟨h7, h⟩ := and1B_ok h
  obtain ⟨h8, h⟩ := and1B_ok h
  obtain ⟨h9, h⟩ := and1B_ok h
  obtain ⟨h10, h⟩ := and1B_ok h
  obtain ⟨h11, h⟩ := and1B_ok h
  obtain ⟨h12, h⟩ := and1B_ok h
  obtain ⟨h13, h⟩ := and1B_ok h
  obtain ⟨h14, h15⟩ := and1B_ok h
  rw [ieq_ok h1, beqB_ok h2, beqB_ok h3, ieq_ok h4, ieq_ok h5, ieq_ok h6, ieq_ok h7, ieq_ok h8, ieq_ok h9, beqB_ok h10, ieq_ok h11, ieq_ok h12, ieq_ok h13, beqB_ok h14, beqB_ok h15]

def eqO (a : Option S39) (b : S39) : Bool := match a with
  | some a => eqS a b
  | none => false

theorem eqO_ok {a : Option S39} {b : S39} (h : eqO a b = true) : a = some b := by
  unfold eqO at h
  split at h
  · rw [eqS_ok h]
  · cases h

def allB : Nat → (Nat → Bool) → Bool
  | 0, _ => true
  | n + 1, f => match f n with
    | true => allB n f
    | false => false

theorem allB_ok : ∀ {n : Nat} {f : Nat → Bool}, allB n f = true → ∀ i < n, f i = true
  | 0, f, h, i, hi => by omega
  | n + 1, f, h, i, hi => by
    unfold allB at h
    split at h
    · rename_i hf
      by_cases he : i = n
      · subst he; exact hf
      · exact allB_ok h i (by omega)
    · cases h

noncomputable def dec2 (h : Nat) : Bool := and1B (eqO (o31 (Int.ofNat h) false) (p30 (Int.ofNat h) false)) (eqO (o31 (Int.ofNat h) true) (p30 (Int.ofNat h) true))

end Go.Den
