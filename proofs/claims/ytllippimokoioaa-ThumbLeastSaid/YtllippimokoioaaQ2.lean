import Derived.Test.YtllippimokoioaaQ1
namespace Go.Den

/-- bits of a number, quickly -/
noncomputable def getN (s : Bool) (h a n : Int) : Int :=
  match h with
  | .ofNat x => match a with
    | .ofNat y => match n with
      | .ofNat z => match Nat.ble x 4294967295 with
        | true => match Nat.ble y 31 with
          | true => match Nat.ble z 31 with
            | true => .ofNat (Nat.mod (Nat.div x (Nat.pow 2 y)) (Nat.pow 2 z))
            | false => g44 (.ofNat x) s (.ofNat y) (.ofNat z)
          | false => g44 (.ofNat x) s (.ofNat y) (.ofNat z)
        | false => g44 (.ofNat x) s (.ofNat y) (.ofNat z)
      | .negSucc z => g44 (.ofNat x) s (.ofNat y) (.negSucc z)
    | .negSucc y => g44 (.ofNat x) s (.negSucc y) n
  | .negSucc x => g44 (.negSucc x) s a n

theorem get_fast (s : Bool) {x y z : Nat} (hx : x ≤ 4294967295) (hy : y ≤ 31) (hz : z ≤ 31) : g44 (Int.ofNat x) s (Int.ofNat y) (Int.ofNat z) = Int.ofNat (x / 2 ^ y % 2 ^ z) := by
  have hp : 0 < 2 ^ z := Nat.pow_pos (by omega)
  have hz2 : 2 ^ z ≤ 2 ^ 31 := Nat.pow_le_pow_right (by omega) hz
  have e1 : shrF .u32 (Int.ofNat x) (Int.ofNat y) = Int.ofNat (x / 2 ^ y) := by
    unfold shrF
    simp only
    rw [show Nat.ble y (bitsK .u32) = true from Nat.ble_eq_true_of_le (by show y ≤ 32; omega)]
    rfl
  have e2 : shlF .u32 1 (Int.ofNat z) = Int.ofNat (2 ^ z) := by
    show shlF .u32 (Int.ofNat 1) (Int.ofNat z) = _
    unfold shlF
    simp only
    rw [show Nat.ble z (bitsK .u32) = true from Nat.ble_eq_true_of_le (by show z ≤ 32; omega)]
    simp only
    rw [show Nat.mul 1 (Nat.pow 2 z) = 2 ^ z from Nat.one_mul _, wrapF_S, wrapS_id]
    simp only [topN]
    omega
  have e3 : wrapF .u32 (Int.ofNat (2 ^ z) - 1) = Int.ofNat (2 ^ z - 1) := by
    rw [show (Int.ofNat (2 ^ z) - 1 : Int) = Int.ofNat (2 ^ z - 1) by simp only [Int.ofNat_eq_natCast]; omega, wrapF_S, wrapS_id]
    simp only [topN]
    omega
  have hd : x / 2 ^ y ≤ x := Nat.div_le_self _ _
  have e4 : bitsF .and .u32 (Int.ofNat (x / 2 ^ y)) (Int.ofNat (2 ^ z - 1)) = Int.ofNat (x / 2 ^ y % 2 ^ z) := by
    unfold bitsF
    simp only
    rw [show Nat.ble (x / 2 ^ y) (topN .u32) = true from Nat.ble_eq_true_of_le (by simp only [topN]; omega), show Nat.ble (2 ^ z - 1) (topN .u32) = true from Nat.ble_eq_true_of_le (by simp only [topN]; omega)]
    simp only
    exact congrArg Int.ofNat (Nat.and_two_pow_sub_one_eq_mod _ _)
  have hm : x / 2 ^ y % 2 ^ z < 2 ^ z := Nat.mod_lt _ hp
  unfold g44 o44
  rw [decide_eq_false (by simp), decide_eq_false (by simp), e2, e3, e1, e4]
  simp only [cond_false, Option.getD_some]
  rw [wrapF_S, wrapS_id]
  simp only [topN]
  omega

theorem getN_eq (s : Bool) (h a n : Int) : getN s h a n = g44 h s a n := by
  unfold getN
  split
  · split
    · split
      · split
        · split
          · split
            · rename_i _ _ h1 _ h2 _ h3
              exact (get_fast s (Nat.le_of_ble_eq_true h1) (Nat.le_of_ble_eq_true h2) (Nat.le_of_ble_eq_true h3)).symm
            · rfl
          · rfl
        · rfl
      · rfl
    · rfl
  · rfl

/-- how large what 'get' tells is -/
theorem get_fact (s : Bool) (h a n m : Int) (hc : (0 ≤ a ∧ 0 ≤ n) ∧ wrapF .u32 (shlF .u32 1 n - 1) = m ∧ 0 ≤ m ∧ m < 2147483648) : 0 ≤ getN s h a n ∧ getN s h a n ≤ m := by
  obtain ⟨⟨h1, h2⟩, h3, h4, h5⟩ := hc
  have e : g44 h s a n = wrapF .i64 (bitsF .and .u32 (shrF .u32 h a) m) := by
    unfold g44 o44
    rw [decide_eq_false (by omega), decide_eq_false (by omega), h3]
    rfl
  have f := and_fact .u32 (shrF .u32 h a) m h4 h5
  rw [getN_eq, e, wrapF_id f.1 (by simp only [halfK]; omega)]
  exact f

noncomputable def k44n (l : List V) : Option (Bool × V) := match l with
  | [.agg [.sc (.int .u32 h), .sc (.bool s)], .sc (.int .i64 a), .sc (.int .i64 n)] => some (decide (0 ≤ a ∧ 0 ≤ n), .sc (.int .i64 (getN s h a n)))
  | _ => none

noncomputable def kn44n : Known := kn74.add 44 k44n

theorem kn44n_ok : KnownOK ctx kn44n 15 := Known.add_ok kn74_ok rfl (by omega) (by
  intro l r h
  unfold k44n at h
  split at h
  · rename_i x s a n
    simp only [Option.some.injEq, Prod.mk.injEq] at h
    obtain ⟨h1, rfl⟩ := h
    have h1 := of_decide_eq_true h1
    have ho : (o44 x s a n).isSome = true := by
      unfold o44
      rw [decide_eq_false (by omega), decide_eq_false (by omega)]
      rfl
    obtain ⟨v, hv⟩ := Option.isSome_iff_exists.1 ho
    have hg : getN s x a n = v := by rw [getN_eq]; unfold g44; rw [hv]; rfl
    rw [hg]
    exact ⟨(Told.spec kn21_ok (noLoops_ok _) (run44 _ _ _ _) (told44 _ _ _ _) hv).mono (by omega), rfl, rfl⟩
  · cases h)

set_option maxRecDepth 100000

/-- which conditions and masks an It has -/
def itOK (i j : Int) : Bool := !(i == 15) && !(j == 0) && (!(i == 14) || (j == 1 || j == 2 || j == 4 || j == 8))

theorem tab41 : ∀ i < 16, ∀ j < 16, pairOK (funK ctx kn44n noLoops 3 41 [.sc (.int .i64 ((i : Nat) : Int)), .sc (.int .i64 ((j : Nat) : Int))] [] 0 finV) (itOK i j) = true := by decide +kernel

noncomputable def kn41 : Known := kn44n.add 41 (pairE ctx kn44n noLoops 3 41 16 16 itOK)
theorem kn41_ok : KnownOK ctx kn41 18 := pairE_ok kn44n_ok (noLoops_ok _) rfl tab41

theorem tab79 : ∀ i < 16, ∀ j < 16, pairOK (funK ctx kn41 noLoops 3 79 [.sc (.int .i64 ((i : Nat) : Int)), .sc (.int .i64 ((j : Nat) : Int))] [] 0 finV) (itOK i j) = true := by decide +kernel

noncomputable def kn79 : Known := kn41.add 79 (pairE ctx kn41 noLoops 3 79 16 16 itOK)
theorem kn79_ok : KnownOK ctx kn79 21 := pairE_ok kn41_ok (noLoops_ok _) rfl tab79

end Go.Den
