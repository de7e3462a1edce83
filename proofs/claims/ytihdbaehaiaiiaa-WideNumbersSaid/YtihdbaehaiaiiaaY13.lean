import Derived.Test.YtihdbaehaiaiiaaY112
set_option linter.unusedSimpArgs false
set_option linter.unusedVariables false
set_option maxRecDepth 100000
namespace Go.Den

/-- the two halves of an instruction -/
noncomputable def E (y : S30) : Int × Int × Bool := (o11y y).getD default

theorem E_some (y : S30) : o11y y = some (E y) ∧ o12y y = some (E y) := by
  obtain ⟨r, h1, h2⟩ := enc_same y
  have e : E y = r := by unfold E; rw [h1, Option.getD_some]
  rw [e]
  exact ⟨h1, h2⟩

/-- what two halves are has these two -/
theorem E_dW {h k : Int} (hh : 0 ≤ h ∧ h ≤ 65535) (hk : 0 ≤ k ∧ k ≤ 65535) (h64 : (dW h k false).f_Op ≠ 64) (h65 : (dW h k false).f_Op ≠ 65) : E (dW h k false) = (h, k, true) := by
  have e := enc_of (lists_ok _) good_all hh hk rfl h64 h65
  have := (E_some (dW h k false)).1
  rw [e] at this
  exact (Option.some.inj this).symm

theorem E_none {y : S30} (h : y.f_Op = 64 ∨ y.f_Op = 65) : E y = (0, 0, false) := by
  have h1 := (E_some y).1
  rw [o11_form] at h1
  rcases h with h | h
  · rw [beqT h] at h1
    exact (Option.some.inj h1).symm
  · rw [beqF (show y.f_Op ≠ 64 by omega), beqT h] at h1
    exact (Option.some.inj h1).symm

/-- what is encoded is decoded so -/
theorem E_back (y : S30) : (E y).2.2 = true ∧ dW (E y).1 (E y).2.1 false = y ∧ (0 ≤ (E y).1 ∧ (E y).1 ≤ 65535) ∧ (0 ≤ (E y).2.1 ∧ (E y).2.1 ≤ 65535) ∧ y.f_Op ≠ 64 ∧ y.f_Op ≠ 65 ∨ E y = (0, 0, false) := by
  have h1 := (E_some y).1
  rcases o11_spec (lists_ok y) with ⟨a, b, e, h64, h65, hd, ha, hb⟩ | ⟨e, _⟩
  · rw [e] at h1
    have h2 : E y = (a, b, true) := (Option.some.inj h1).symm
    rw [h2]
    exact Or.inl ⟨rfl, hd, ha, hb, h64, h65⟩
  · rw [e] at h1
    exact Or.inr (Option.some.inj h1).symm

noncomputable def kEe (l : List V) : Option (Bool × V) := match l with
  | [.agg [.sc (.int .i64 u), .sc (.bool z), .sc (.bool g), .sc (.int .i64 m), .sc (.int .i64 d), .sc (.int .i64 t), .sc (.int .i64 s), .sc (.int .i64 c), .sc (.int .u32 p), .sc (.bool w), .sc (.int .i64 v), .sc (.int .i64 i), .sc (.int .i64 q), .sc (.bool j), .sc (.bool o)]] => some (true, enc11 (E (S30.mk u z g m d t s c p w v i q j o)))
  | _ => none

noncomputable def knE1 : Known := kn12.add 11 kEe
theorem knE1_ok : KnownOK ctx knE1 240 := Known.add_ok kn12_ok rfl (by omega) (by
  intro l r h
  unfold kEe at h
  split at h
  · simp only [Option.some.injEq, Prod.mk.injEq] at h
    obtain ⟨_, rfl⟩ := h
    exact ⟨(Told.spec kn12_ok (lt11_ok.mono (by omega)) (run11 _ _ _ _ _ _ _ _ _ _ _ _ _ _ _) (told11 _ _ _ _ _ _ _ _ _ _ _ _ _ _ _) (E_some (S30.mk _ _ _ _ _ _ _ _ _ _ _ _ _ _ _)).1).mono (by omega), rfl, rfl⟩
  · cases h)

noncomputable def knE2 : Known := knE1.add 12 kEe
theorem knE2_ok : KnownOK ctx knE2 240 := Known.add_ok knE1_ok rfl (by omega) (by
  intro l r h
  unfold kEe at h
  split at h
  · simp only [Option.some.injEq, Prod.mk.injEq] at h
    obtain ⟨_, rfl⟩ := h
    exact ⟨(Told.spec kn35_ok (lt33_ok.mono (by omega)) (run12 _ _ _ _ _ _ _ _ _ _ _ _ _ _ _) (told12 _ _ _ _ _ _ _ _ _ _ _ _ _ _ _) (E_some (S30.mk _ _ _ _ _ _ _ _ _ _ _ _ _ _ _)).2).mono (by omega), rfl, rfl⟩
  · cases h)

end Go.Den
