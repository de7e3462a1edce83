import Derived.Test.YtihdbaehaiaiiaaF1
set_option linter.unusedVariables false
set_option maxRecDepth 100000
namespace Go.Den

theorem chkF_0 : allB chkF 1024 0 = true := by kernel_rfl
theorem chkF_1 : allB chkF 1024 1024 = true := by kernel_rfl
theorem chkF_2 : allB chkF 1024 2048 = true := by kernel_rfl
theorem chkF_3 : allB chkF 1024 3072 = true := by kernel_rfl

theorem chkF_all {n : Nat} (h : n < 4096) : chkF n = true := by
  rcases Nat.lt_or_ge n 1024 with h1 | h1
  · exact allB_ok chkF_0 n (by omega) (by omega)
  rcases Nat.lt_or_ge n 2048 with h2 | h2
  · exact allB_ok chkF_1 n (by omega) (by omega)
  rcases Nat.lt_or_ge n 3072 with h3 | h3
  · exact allB_ok chkF_2 n (by omega) (by omega)
  · exact allB_ok chkF_3 n (by omega) (by omega)

theorem chkF_at (o n d : Nat) (ho : o < 16) (hn : n < 16) (hd : d < 16) (s : Bool) : formOK (o : Int) (n : Int) (d : Int) s = true ∧ ∀ first, chk2 (o : Int) (n : Int) (d : Int) s first = true := by
  have h := chkF_all (show o * 256 + n * 16 + d < 4096 by omega)
  unfold chkF at h
  rw [show (o * 256 + n * 16 + d) / 256 = o by omega, show (o * 256 + n * 16 + d) / 16 % 16 = n by omega, show (o * 256 + n * 16 + d) % 16 = d by omega] at h
  obtain ⟨h1, h2⟩ := and1B_ok h
  obtain ⟨h3, h4⟩ := and1B_ok h1
  obtain ⟨h5, h6⟩ := and1B_ok h2
  obtain ⟨h7, h8⟩ := and1B_ok h5
  obtain ⟨h9, h10⟩ := and1B_ok h6
  cases s
  · exact ⟨h3, fun first => by cases first <;> assumption⟩
  · exact ⟨h4, fun first => by cases first <;> assumption⟩

/-- 'data' is the reference's form and may -/
theorem data_eq {o n d : Int} (ho : 0 ≤ o ∧ o < 16) (hn : 0 ≤ n ∧ n < 16) (hd : 0 ≤ d ∧ d < 16) (s first bad : Bool) :
    c42 (getI ops16 o.toNat) n d s first bad = cond bad (badC (r77 o n d s first)) (r77 o n d s first) := by
  obtain ⟨o, rfl⟩ := Int.eq_ofNat_of_zero_le ho.1
  obtain ⟨n, rfl⟩ := Int.eq_ofNat_of_zero_le hn.1
  obtain ⟨d, rfl⟩ := Int.eq_ofNat_of_zero_le hd.1
  have h := (chkF_at o n d (by omega) (by omega) (by omega) s).2 first
  obtain ⟨h1, h2⟩ := and1B_ok h
  cases bad
  · exact eqC_ok h1
  · exact eqC_ok h2

theorem form_eq {o n d : Int} (ho : 0 ≤ o ∧ o < 16) (hn : 0 ≤ n ∧ n < 16) (hd : 0 ≤ d ∧ d < 16) (s : Bool) :
    (∃ y, o77 o d n s = some (y, false)) ∨ ∃ op d' n', o77 o d n s = some (S30.mk op true s 14 d' n' 0 0 0 false 0 0 0 false false, true) ∧ (op != 54) = true ∧ (op == 65) = false ∧ (op == 64) = false := by
  obtain ⟨o, rfl⟩ := Int.eq_ofNat_of_zero_le ho.1
  obtain ⟨n, rfl⟩ := Int.eq_ofNat_of_zero_le hn.1
  obtain ⟨d, rfl⟩ := Int.eq_ofNat_of_zero_le hd.1
  have h := (chkF_at o n d (by omega) (by omega) (by omega) s).1
  unfold formOK at h
  split at h
  · rename_i y hy
    obtain ⟨h1, h2⟩ := and1B_ok h
    have e := eqS_ok h1
    obtain ⟨h3, h4⟩ := and1B_ok h2
    obtain ⟨h4, h5⟩ := and1B_ok h4
    refine .inr ⟨y.f_Op, y.f_D, y.f_N, ?_, h3, by simpa using h4, by simpa using h5⟩
    rw [hy, ← e]
  · rename_i y hy
    exact .inl ⟨y, hy⟩
  · cases h

theorem expand_some {x : Int} (h : 0 ≤ x ∧ x < 4096) : ∃ v, o41 x false = some v := by
  obtain ⟨n, rfl⟩ := Int.eq_ofNat_of_zero_le h.1
  have hc := chk36_all (show n < 4096 by omega)
  unfold chk36 at hc
  rw [show (n : Int) = Int.ofNat n from rfl]
  split at hc
  · split at hc
    · rename_i a' b' c' hb
      exact ⟨_, hb⟩
    · cases hc
  · cases hc

end Go.Den
