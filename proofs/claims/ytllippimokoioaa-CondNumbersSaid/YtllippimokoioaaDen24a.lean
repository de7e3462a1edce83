import Derived.Test.YtllippimokoioaaDen23
set_option linter.unusedVariables false
namespace Go.Den

/-! ### numbers, so that they are quickly worked out -/

def modK : IntKind → Nat
  | .i8 | .u8 => 256
  | .i16 | .u16 => 65536
  | .i32 | .u32 => 4294967296
  | .i64 | .u64 => 18446744073709551616

def halfK : IntKind → Nat
  | .i8 | .u8 => 128
  | .i16 | .u16 => 32768
  | .i32 | .u32 => 2147483648
  | .i64 | .u64 => 9223372036854775808

/-- a number's bits -/
def unsK (k : IntKind) (x : Int) : Nat := (Int.emod x (Int.ofNat (modK k))).toNat

def wrapF (k : IntKind) (x : Int) : Int :=
  match k with
  | .u8 => Int.emod x (Int.ofNat 256)
  | .u16 => Int.emod x (Int.ofNat 65536)
  | .u32 => Int.emod x (Int.ofNat 4294967296)
  | .u64 => Int.emod x (Int.ofNat 18446744073709551616)
  | .i8 => cond (Nat.ble 128 (unsK .i8 x)) (Int.ofNat (unsK .i8 x) - Int.ofNat 256) (Int.ofNat (unsK .i8 x))
  | .i16 => cond (Nat.ble 32768 (unsK .i16 x)) (Int.ofNat (unsK .i16 x) - Int.ofNat 65536) (Int.ofNat (unsK .i16 x))
  | .i32 => cond (Nat.ble 2147483648 (unsK .i32 x)) (Int.ofNat (unsK .i32 x) - Int.ofNat 4294967296) (Int.ofNat (unsK .i32 x))
  | .i64 => cond (Nat.ble 9223372036854775808 (unsK .i64 x)) (Int.ofNat (unsK .i64 x) - Int.ofNat 18446744073709551616) (Int.ofNat (unsK .i64 x))

theorem wrapF_eq (k : IntKind) (x : Int) : wrapF k x = k.wrap x := by
  have un : ∀ M : Nat, 0 < M → Int.emod x (Int.ofNat M) = x % (M : Int) := fun M _ => rfl
  have key : ∀ (k : IntKind) (h M : Nat), 0 < M → (modK k) = M → (cond (Nat.ble h (unsK k x)) (Int.ofNat (unsK k x) - Int.ofNat M) (Int.ofNat (unsK k x)) : Int) = if (x % (M : Int)) ≥ (h : Int) then (x % (M : Int)) - M else x % (M : Int) := by
    intro k h M hM hk
    have hu : (Int.ofNat (unsK k x) : Int) = x % (M : Int) := by
      unfold unsK
      rw [hk, un M hM]
      exact Int.toNat_of_nonneg (Int.emod_nonneg _ (by omega))
    rw [hu]
    have hb : Nat.ble h (unsK k x) = decide ((x % (M : Int)) ≥ (h : Int)) := by
      rw [Bool.eq_iff_iff, Nat.ble_eq, decide_eq_true_iff, ← hu]
      exact Int.ofNat_le.symm
    rw [hb]
    by_cases hc : (x % (M : Int)) ≥ (h : Int)
    · rw [if_pos hc]; simp [hc]
    · rw [if_neg hc]; simp [hc]
  cases k
  all_goals simp only [wrapF, IntKind.wrap, IntKind.signed, IntKind.bits, Bool.true_and, Bool.false_and, Bool.false_eq_true, if_false]
  all_goals first
    | (rw [key .i8 128 256 (by omega) rfl]; simp; done)
    | (rw [key .i16 32768 65536 (by omega) rfl]; simp; done)
    | (rw [key .i32 2147483648 4294967296 (by omega) rfl]; simp; done)
    | (rw [key .i64 9223372036854775808 18446744073709551616 (by omega) rfl]; simp; done)
    | rfl

def bitsN (op : BinOp) (M a b : Nat) : Nat :=
  match op with
  | .and => Nat.land a b
  | .or => Nat.lor a b
  | .xor => Nat.xor a b
  | _ => Nat.land a (Nat.sub (Nat.sub M 1) b)

def bitsF (op : BinOp) (k : IntKind) (x y : Int) : Int := wrapF k (Int.ofNat (bitsN op (modK k) (unsK k x) (unsK k y)))

theorem modK_eq (k : IntKind) : modK k = 2 ^ k.bits := by cases k <;> rfl

theorem unsK_eq (k : IntKind) (x : Int) : unsK k x = (BitVec.ofInt k.bits x).toNat := by
  rw [BitVec.toNat_ofInt]
  unfold unsK
  rw [modK_eq]
  rfl

theorem bitsF_eq (op : BinOp) (k : IntKind) (x y : Int) : bitsF op k x y = bits op k x y := by
  unfold bitsF bits
  rw [wrapF_eq, unsK_eq, unsK_eq, modK_eq]
  congr 1
  simp only [Int.ofNat_eq_natCast]
  congr 1
  have hnot : ∀ b : BitVec k.bits, Nat.sub (Nat.sub (2 ^ k.bits) 1) b.toNat = (~~~b).toNat := fun b => by
    rw [BitVec.toNat_not]; rfl
  cases op <;> simp only [bitsN]
  case and => rw [BitVec.toNat_and]; rfl
  case or => rw [BitVec.toNat_or]; rfl
  case xor => rw [BitVec.toNat_xor]; rfl
  all_goals
    rw [hnot, BitVec.toNat_and]; rfl

theorem unsK_id {k : IntKind} {n : Int} (h0 : 0 ≤ n) (h1 : n < halfK k) : unsK k n = n.toNat := by
  have hm : n % (modK k : Int) = n := Int.emod_eq_of_lt h0 (by cases k <;> simp only [modK, halfK] at h1 ⊢ <;> omega)
  unfold unsK
  exact congrArg Int.toNat hm

theorem wrapF_id {k : IntKind} {n : Int} (h0 : 0 ≤ n) (h1 : n < halfK k) : wrapF k n = n := by
  have hm : n % (modK k : Int) = n := Int.emod_eq_of_lt h0 (by cases k <;> simp only [modK, halfK] at h1 ⊢ <;> omega)
  have hu : unsK k n = n.toNat := unsK_id h0 h1
  cases k
  all_goals simp only [modK, halfK] at hm h1
  all_goals first
    | exact hm
    | (simp only [wrapF, hu]
       have hb : ∀ m : Nat, n < m → Nat.ble m n.toNat = false := fun m hm' => by
         rw [Bool.eq_false_iff]
         intro hb
         have := Nat.le_of_ble_eq_true hb
         omega
       rw [hb _ (by omega)]
       simp only [cond_false]
       show (n.toNat : Int) = n
       omega)

def lowK : IntKind → Int
  | .i8 => -128 | .i16 => -32768 | .i32 => -2147483648 | .i64 => -9223372036854775808
  | _ => 0

def topK : IntKind → Int
  | .i8 => 127 | .i16 => 32767 | .i32 => 2147483647 | .i64 => 9223372036854775807
  | .u8 => 255 | .u16 => 65535 | .u32 => 4294967295 | .u64 => 18446744073709551615

/-- what is wrapped is of its kind, and what is of its kind is as it was -/
theorem wrap_fact (k : IntKind) (a lo hi : Int) (h : lo = lowK k ∧ hi = topK k) : (lo ≤ wrapF k a ∧ wrapF k a ≤ hi) ∧ (lo ≤ a → a ≤ hi → wrapF k a = a) := by
  obtain ⟨rfl, rfl⟩ := h
  rw [wrapF_eq]
  unfold IntKind.wrap
  cases k <;> simp only [IntKind.signed, IntKind.bits, lowK, topK, Bool.true_and, Bool.false_and, Bool.false_eq_true, if_false] <;> first | omega | (split; (rename_i hs; have hs := of_decide_eq_true hs; omega); (rename_i hs; have hs := of_decide_eq_false (Bool.eq_false_iff.2 hs); omega))

theorem tdiv_fact (a b : Int) (h : 0 < b) : (0 ≤ a → a.tdiv b = a / b) ∧ (a < 0 → a.tdiv b ≤ 0 ∧ a ≤ a.tdiv b) := by
  refine ⟨fun ha => Int.tdiv_eq_ediv_of_nonneg ha, fun ha => ?_⟩
  have h1 : a.tdiv b = -((-a) / b) := by
    rw [← Int.tdiv_eq_ediv_of_nonneg (by omega), Int.neg_tdiv, Int.neg_neg]
  have h2 : 0 ≤ (-a) / b := Int.ediv_nonneg (by omega) (by omega)
  have h3 : (-a) / b ≤ -a := Int.ediv_le_self _ (by omega)
  omega

/-- what is masked is no more than the mask -/
theorem and_fact (k : IntKind) (a b : Int) (h0 : 0 ≤ b) (h1 : b < halfK k) : 0 ≤ bitsF .and k a b ∧ bitsF .and k a b ≤ b := by
  have hb : unsK k b = b.toNat := unsK_id h0 h1
  have hle : bitsN .and (modK k) (unsK k a) (unsK k b) ≤ b.toNat := by
    rw [hb]
    exact Nat.and_le_right
  have : bitsF .and k a b = ((bitsN .and (modK k) (unsK k a) (unsK k b) : Nat) : Int) := wrapF_id (Int.natCast_nonneg _) (Int.lt_of_le_of_lt (Int.ofNat_le.2 hle) (by omega))
  rw [this]
  omega

end Go.Den
