import Derived.Test.YtllippimokoioaaE4
import Derived.Test.YtllippimokoioaaQ9
set_option linter.unusedVariables false
set_option linter.unusedSimpArgs false
set_option maxRecDepth 100000
namespace Go.Den

theorem encB_dec {x : Int} (hx : 0 ≤ x ∧ x ≤ 65535) (b : Bool) : encB (p30 x b) b = ((p30 x b).f_Op != 64 && (p30 x b).f_Op != 65) := by
  obtain ⟨h, rfl⟩ := Int.eq_ofNat_of_zero_le hx.1
  have hc := chk_parts (show h < 65536 by omega)
  have hw : (p30 (h : Int) b).f_Wide = false := by
    cases b
    · exact hc.2.2.2.1
    · exact hc.2.2.2.2.1
  have hf : found (p30 (h : Int) b) b = true := found_iff.2 ⟨h, by omega, rfl⟩
  unfold encB
  rw [hw, hf]
  show cond false false (cond (_ == _) false (cond (_ == _) false true)) = (!(_ == _) && !(_ == _))
  cases ((p30 (h : Int) b).f_Op == 64) <;> cases ((p30 (h : Int) b).f_Op == 65) <;> rfl

theorem enc_found {y : S39} {b : Bool} (h : encB y b = true) : found y b = true := by
  unfold encB at h
  revert h
  cases y.f_Wide <;> cases (y.f_Op == 64) <;> cases (y.f_Op == 65) <;> simp

theorem encW_is {y : S39} {b : Bool} (h : encB y b = true) : p30 (encW y b) b = y ∧ ∀ v : Nat, v < 65536 → p30 (v : Int) b = y → encW y b ≤ v := by
  obtain ⟨w, h1, h2, h3⟩ := word_spec (enc_found h)
  have e : encW y b = (w : Int) := by
    unfold encW
    rw [h]
    exact h1
  rw [e]
  refine ⟨h2.2, fun v hv hp => ?_⟩
  have := h3 v ⟨hv, hp⟩
  omega

theorem encW_no {y : S39} {b : Bool} (h : encB y b = false) : encW y b = 0 := by
  unfold encW
  rw [h]
  rfl

theorem dec_back {x : Int} (hx : 0 ≤ x ∧ x ≤ 65535) {b : Bool} (h : encB (p30 x b) b = true) : decide (encW (p30 x b) b > x) = false ∧ eq39 (p30 (encW (p30 x b) b) b) (p30 x b) = true := by
  obtain ⟨h1, h2⟩ := encW_is h
  obtain ⟨n, rfl⟩ := Int.eq_ofNat_of_zero_le hx.1
  have := h2 n (by omega) rfl
  exact ⟨decide_eq_false (by omega), (eq39_iff _ _).2 h1⟩

theorem p7_ok {x : Int} (hx : 0 ≤ x ∧ x ≤ 65535) (k : Int) (y : S39) (b : Bool) : p7 x y.f_Op y.f_Wide y.f_S y.f_Cond y.f_D y.f_N y.f_M y.f_A y.f_Imm y.f_UseImm y.f_Sh y.f_Amt y.f_List y.f_Back y.f_Down k b = true := by
  have hz := p27_fact k x hx.1 hx.2
  have a1 := encB_dec hx b
  have b1 := encB_dec hz b
  have a2 := dec_back hx (b := b)
  have b2 := dec_back hz (b := b)
  have c1 : encB y b = true → eq39 (p30 (encW y b) b) y = true := fun h => (eq39_iff _ _).2 (encW_is h).1
  have c2 : encB y b = false → (encW y b == 0) = true := fun h => by rw [encW_no h]; rfl
  unfold p7
  rw [p26_ok, show (⟨y.f_Op, y.f_Wide, y.f_S, y.f_Cond, y.f_D, y.f_N, y.f_M, y.f_A, y.f_Imm, y.f_UseImm, y.f_Sh, y.f_Amt, y.f_List, y.f_Back, y.f_Down⟩ : S39) = y from rfl]
  revert a1 b1 a2 b2 c1 c2
  generalize eq39 (p30 (encW y b) b) y = q1
  generalize (encW y b == 0) = q2
  generalize encB y b = q3
  generalize eq39 (p30 (encW (p30 x b) b) b) (p30 x b) = r1
  generalize decide (encW (p30 x b) b > x) = r2
  generalize encB (p30 x b) b = r3
  generalize ((p30 x b).f_Op != 64) = r4
  generalize ((p30 x b).f_Op != 65) = r5
  generalize eq39 (p30 (encW (p30 (p27 k x) b) b) b) (p30 (p27 k x) b) = s1
  generalize decide (encW (p30 (p27 k x) b) b > p27 k x) = s2
  generalize encB (p30 (p27 k x) b) b = s3
  generalize ((p30 (p27 k x) b).f_Op != 64) = s4
  generalize ((p30 (p27 k x) b).f_Op != 65) = s5
  revert q1 q2 q3 r1 r2 r3 r4 r5 s1 s2 s3 s4 s5
  clear hz
  decide +kernel

end Go.Den
