import Derived.Test.YtllippimokoioaaE4
set_option linter.unusedVariables false
set_option linter.unusedSimpArgs false
set_option maxRecDepth 100000
namespace Go.Den

/-- what Imm of a branch is -/
def immD (d : Int) : Int := wrapF .u32 (wrapF .i32 (wrapF .i64 (d * 2)))

theorem immD_eq {d : Int} (h0 : -2048 < d) (h1 : d < 2048) : immD d = if d < 0 then 4294967296 + 2 * d else 2 * d := by
  have f1 := wrap_fact .i64 (d * 2) (-9223372036854775808) 9223372036854775807 (by decide)
  have f2 := wrap_fact .i32 (d * 2) (-2147483648) 2147483647 (by decide)
  unfold immD
  rw [f1.2 (by omega) (by omega), f2.2 (by omega) (by omega), wrapF_eq]
  unfold IntKind.wrap
  simp only [IntKind.signed, IntKind.bits, Bool.false_and, Bool.false_eq_true, if_false]
  split <;> omega

theorem immB_eq {e m : Nat} (h : e < 2 * m) (hm : m ≤ 1024) : immB e m = if e < m then (2 * e : Int) else 4294967296 + 2 * e - 4 * m := by
  unfold immB
  by_cases hb : e < m
  · rw [if_pos hb, show Nat.blt e m = true from Nat.ble_eq_true_of_le (by omega)]
    show ((2 * e : Nat) : Int) = _
    omega
  · rw [if_neg hb, show Nat.blt e m = false by
      rw [Bool.eq_false_iff]
      intro hx
      have := Nat.le_of_ble_eq_true hx
      omega]
    show ((4294967296 + 2 * e - 4 * m : Nat) : Int) = _
    omega

theorem chkP_c {h : Nat} {a : S39} (hc : chkP h a = true) (h0 : 53248 ≤ h) (h1 : h < 56832) : a = brB (Int.ofNat (h / 256 % 16)) (h % 256) 128 := by
  unfold chkP at hc
  rw [show Nat.ble 53248 h = true from Nat.ble_eq_true_of_le h0, show Nat.blt h 56832 = true from Nat.ble_eq_true_of_le h1] at hc
  exact eqS_ok hc

theorem chkP_a {h : Nat} {a : S39} (hc : chkP h a = true) (h0 : 57344 ≤ h) (h1 : h < 59392) : a = brB 14 (h % 2048) 1024 := by
  unfold chkP at hc
  have hx : Nat.blt h 56832 = false := by
    rw [Bool.eq_false_iff]
    intro hx
    have := Nat.le_of_ble_eq_true hx
    omega
  rw [hx, show Nat.ble 57344 h = true from Nat.ble_eq_true_of_le h0, show Nat.blt h 59392 = true from Nat.ble_eq_true_of_le h1] at hc
  have hy : and1B (Nat.ble 53248 h) false = false := by cases Nat.ble 53248 h <;> rfl
  rw [hy] at hc
  exact eqS_ok hc

theorem p30_c {c e : Nat} (hc : c < 14) (he : e < 256) : p30 ((53248 + c * 256 + e : Nat) : Int) false = brB c e 128 := by
  have h := chkP_c (chk_parts (show 53248 + c * 256 + e < 65536 by omega)).2.2.2.2.2.2 (by omega) (by omega)
  rw [h, show (53248 + c * 256 + e) / 256 % 16 = c by omega, show (53248 + c * 256 + e) % 256 = e by omega]
  rfl

theorem p30_a {e : Nat} (he : e < 2048) : p30 ((57344 + e : Nat) : Int) false = brB 14 e 1024 := by
  have h := chkP_a (chk_parts (show 57344 + e < 65536 by omega)).2.2.2.2.2.2 (by omega) (by omega)
  rw [h, show (57344 + e) % 2048 = e by omega]

theorem only_c {v : Nat} (hv : v < 65536) {c : Nat} (hc : c < 14) {i : Int} (h : p30 (v : Int) false = ⟨54, false, false, c, 0, 0, 0, 0, i, false, 0, 0, 0, false, false⟩) : ∃ e, e < 256 ∧ v = 53248 + c * 256 + e ∧ i = immB e 128 := by
  have hb := (chk_parts hv).2.2.2.2.2.1
  have hp := (chk_parts hv).2.2.2.2.2.2
  rw [h] at hb
  unfold chkB at hb
  simp only at hb
  have hne : ieq (c : Int) 14 = false := by
    rw [Bool.eq_false_iff]
    intro hx
    have := ieq_ok hx
    omega
  rw [show ieq 54 54 = true from rfl, hne] at hb
  simp only [cond_true, cond_false] at hb
  obtain ⟨b1, b2⟩ := and1B_ok hb
  have b1 : v / 4096 = 13 := Nat.eq_of_beq_eq_true b1
  have b2 := ieq_ok b2
  have b2 : c = v / 256 % 16 := Int.ofNat.inj b2
  have hp := chkP_c hp (by omega) (by omega)
  rw [h] at hp
  refine ⟨v % 256, by omega, by omega, ?_⟩
  have := congrArg S39.f_Imm hp
  exact this

theorem only_a {v : Nat} (hv : v < 65536) {i : Int} (h : p30 (v : Int) false = ⟨54, false, false, 14, 0, 0, 0, 0, i, false, 0, 0, 0, false, false⟩) : ∃ e, e < 2048 ∧ v = 57344 + e ∧ i = immB e 1024 := by
  have hb := (chk_parts hv).2.2.2.2.2.1
  have hp := (chk_parts hv).2.2.2.2.2.2
  rw [h] at hb
  have hb : Nat.beq (v / 2048) 28 = true := hb
  have b1 : v / 2048 = 28 := Nat.eq_of_beq_eq_true hb
  have hp := chkP_a hp (by omega) (by omega)
  rw [h] at hp
  refine ⟨v % 2048, by omega, by omega, ?_⟩
  have := congrArg S39.f_Imm hp
  exact this

theorem enc_c {c : Nat} (hc : c < 14) {d : Int} (h0 : -256 < d) (h1 : d < 256) :
    (p32 54 false false c 0 0 0 0 (immD d) false 0 0 0 false false false).2 = decide (-128 ≤ d ∧ d < 128) ∧
    ((-128 ≤ d ∧ d < 128) → (p32 54 false false c 0 0 0 0 (immD d) false 0 0 0 false false false).1 = 53248 + c * 256 + d % 256) := by
  have e : p32 54 false false c 0 0 0 0 (immD d) false 0 0 0 false false false = cond (found ⟨54, false, false, c, 0, 0, 0, 0, immD d, false, 0, 0, 0, false, false⟩ false) (word ⟨54, false, false, c, 0, 0, 0, 0, immD d, false, 0, 0, 0, false, false⟩ false, true) (0, false) := rfl
  rw [e]
  by_cases hd : -128 ≤ d ∧ d < 128
  · obtain ⟨g, hg⟩ := Int.eq_ofNat_of_zero_le (show 0 ≤ d % 256 by omega)
    have hg2 : g < 256 := by omega
    have hW : Word ⟨54, false, false, c, 0, 0, 0, 0, immD d, false, 0, 0, 0, false, false⟩ false (53248 + c * 256 + g) := by
      refine ⟨by omega, ?_⟩
      have := p30_c hc hg2
      rw [show Int.ofNat (53248 + c * 256 + g) = ((53248 + c * 256 + g : Nat) : Int) from rfl, this]
      unfold brB
      rw [immB_eq (by omega) (by omega), immD_eq (by omega) (by omega)]
      congr 1
      split <;> split <;> omega
    obtain ⟨hf, hw⟩ := word_is hW (fun v hv hV => by
      obtain ⟨g', hg', hv', hi⟩ := only_c hV.1 hc hV.2
      rw [immB_eq (by omega) (by omega), immD_eq (by omega) (by omega)] at hi
      split at hi <;> split at hi <;> omega)
    rw [hf, hw]
    refine ⟨by simp [hd], fun _ => ?_⟩
    show ((53248 + c * 256 + g : Nat) : Int) = _
    omega
  · have hf : found ⟨54, false, false, c, 0, 0, 0, 0, immD d, false, 0, 0, 0, false, false⟩ false = false := Bool.eq_false_iff.2 fun hf => by
      obtain ⟨v, hV⟩ := found_iff.1 hf
      obtain ⟨g', hg', hv', hi⟩ := only_c hV.1 hc hV.2
      rw [immB_eq (by omega) (by omega), immD_eq (by omega) (by omega)] at hi
      split at hi <;> split at hi <;> omega
    rw [hf]
    exact ⟨by simp [hd], fun h => absurd h hd⟩

theorem enc_a {d : Int} (h0 : -2048 < d) (h1 : d < 2048) :
    (p32 54 false false 14 0 0 0 0 (immD d) false 0 0 0 false false false).2 = decide (-1024 ≤ d ∧ d < 1024) ∧
    ((-1024 ≤ d ∧ d < 1024) → (p32 54 false false 14 0 0 0 0 (immD d) false 0 0 0 false false false).1 = 57344 + d % 2048) := by
  have e : p32 54 false false 14 0 0 0 0 (immD d) false 0 0 0 false false false = cond (found ⟨54, false, false, 14, 0, 0, 0, 0, immD d, false, 0, 0, 0, false, false⟩ false) (word ⟨54, false, false, 14, 0, 0, 0, 0, immD d, false, 0, 0, 0, false, false⟩ false, true) (0, false) := rfl
  rw [e]
  by_cases hd : -1024 ≤ d ∧ d < 1024
  · obtain ⟨g, hg⟩ := Int.eq_ofNat_of_zero_le (show 0 ≤ d % 2048 by omega)
    have hg2 : g < 2048 := by omega
    have hW : Word ⟨54, false, false, 14, 0, 0, 0, 0, immD d, false, 0, 0, 0, false, false⟩ false (57344 + g) := by
      refine ⟨by omega, ?_⟩
      have := p30_a hg2
      rw [show Int.ofNat (57344 + g) = ((57344 + g : Nat) : Int) from rfl, this]
      unfold brB
      rw [immB_eq (by omega) (by omega), immD_eq (by omega) (by omega)]
      congr 1
      split <;> split <;> omega
    obtain ⟨hf, hw⟩ := word_is hW (fun v hv hV => by
      obtain ⟨g', hg', hv', hi⟩ := only_a hV.1 hV.2
      rw [immB_eq (by omega) (by omega), immD_eq (by omega) (by omega)] at hi
      split at hi <;> split at hi <;> omega)
    rw [hf, hw]
    refine ⟨by simp [hd], fun _ => ?_⟩
    show ((57344 + g : Nat) : Int) = _
    omega
  · have hf : found ⟨54, false, false, 14, 0, 0, 0, 0, immD d, false, 0, 0, 0, false, false⟩ false = false := Bool.eq_false_iff.2 fun hf => by
      obtain ⟨v, hV⟩ := found_iff.1 hf
      obtain ⟨g', hg', hv', hi⟩ := only_a hV.1 hV.2
      rw [immB_eq (by omega) (by omega), immD_eq (by omega) (by omega)] at hi
      split at hi <;> split at hi <;> omega
    rw [hf]
    exact ⟨by simp [hd], fun h => absurd h hd⟩

end Go.Den
