import Derived.Test.YtllippimokoioaaDen24a
set_option linter.unusedVariables false
namespace Go.Den

/-! ### The same with what comes behind told along: where a number decides that is not known the rest stands on either side. -/

abbrev R := Option (V × Heap)

abbrev Fr := List (Nat × V)

def look : Fr → Nat → V
  | [], _ => .any
  | (k, v) :: l, t => match Nat.beq t k with
    | true => v
    | false => look l t

def keepL : List Nat → Fr → Fr
  | [], _ => []
  | k :: ks, l => (k, look l k) :: keepL ks l

def Fr.set (l : Fr) (d : Option Nat) (v : V) : Fr :=
  match d with
  | some d => (d, v) :: l
  | none => l

def argsL (i : Nat) : List V → Fr
  | [] => []
  | v :: vs => (i, v) :: argsL (i + 1) vs

def rdL (C : Ctx) (t : TypeId) (l : Fr) (take : Bool) : Operand → V
  | .tmp n => match take with
    | true => look l n
    | false => (look l n).dem
  | .const v => constV C t v
  | .func f => .fn (.func f) [] []
  | .global _ => .any

def leftL (take : Bool) (l : Fr) : List Operand → Fr
  | [] => l
  | .tmp n :: xs => match take with
    | true => leftL take ((n, (look l n).dem) :: l) xs
    | false => l
  | _ :: xs => match take with
    | true => leftL take l xs
    | false => l

/-- a value, seen -/
def force0 (v : V) (K : V → R) : R :=
  match v with
  | .any => K .any
  | .sc (.int k n) => K (.sc (.int k n))
  | .sc (.bool b) => K (.sc (.bool b))
  | .sc s => K (.sc s)
  | .sl o k xs => K (.sl o k xs)
  | .agg cs => K (.agg cs)
  | .tup vs => K (.tup vs)
  | .ptr a b => K (.ptr a b)
  | .elp cs => K (.elp cs)
  | .hs a b c d => K (.hs a b c d)
  | .fn f a b => K (.fn f a b)
  | .ifc t v => K (.ifc t v)

def forceL : List V → (List V → R) → R
  | [], K => K []
  | v :: vs, K => force0 v fun v => forceL vs fun vs => K (v :: vs)

def forceC (v : V) (K : V → R) : R :=
  match v with
  | .agg cs => forceL cs fun cs => K (.agg cs)
  | .elp cs => forceL cs fun cs => K (.elp cs)
  | v => force0 v K

def forceT : List V → (List V → R) → R
  | [], K => K []
  | v :: vs, K => forceC v fun v => forceT vs fun vs => K (v :: vs)

def force (v : V) (K : V → R) : R :=
  match v with
  | .tup vs => forceT vs fun vs => K (.tup vs)
  | v => forceC v K

def forceS (v : V) (K : V → R) : R :=
  match v with
  | .sl o k xs => forceT xs fun xs => K (.sl o k xs)
  | v => K v

def optK (v : Option V) (K : V → R) : R :=
  match v with
  | some v => K v
  | none => none

def natK (v : V) (n : Nat) (K : Nat → R) : R :=
  match v with
  | .sc (.int _ i) => cond (decide (0 ≤ i ∧ i ≤ n)) (K i.toNat) none
  | _ => none

def idxK (v : V) (n : Nat) (K : Nat → R) : R :=
  match v with
  | .sc (.int _ i) => cond (decide (0 ≤ i ∧ i < n)) (K i.toNat) none
  | _ => none

def kindN : IntKind → Nat
  | .i8 => 0 | .u8 => 1 | .i16 => 2 | .u16 => 3 | .i32 => 4 | .u32 => 5 | .i64 => 6 | .u64 => 7

def sameK (k k' : IntKind) : Bool := Nat.beq (kindN k) (kindN k')

theorem sameK_ok {k k' : IntKind} (h : sameK k k' = true) : k = k' := by
  have h := Nat.eq_of_beq_eq_true h
  revert h
  cases k <;> cases k' <;> decide

def intK (op : BinOp) (k : IntKind) (a b : Int) (K : V → R) : R :=
  match op with
  | .add => K (.sc (.int k (wrapF k (a + b))))
  | .sub => K (.sc (.int k (wrapF k (a - b))))
  | .mul => K (.sc (.int k (wrapF k (a * b))))
  | .quo => cond (decide (b = 0)) none (K (.sc (.int k (wrapF k (a.tdiv b)))))
  | .rem => cond (decide (b = 0)) none (K (.sc (.int k (a.tmod b))))
  | .and => K (.sc (.int k (bitsF .and k a b)))
  | .or => K (.sc (.int k (bitsF .or k a b)))
  | .xor => K (.sc (.int k (bitsF .xor k a b)))
  | .andNot => K (.sc (.int k (bitsF .andNot k a b)))
  | .eql => K (.sc (.bool (a == b)))
  | .neq => K (.sc (.bool (a != b)))
  | .lss => K (.sc (.bool (decide (a < b))))
  | .leq => K (.sc (.bool (decide (a ≤ b))))
  | .gtr => K (.sc (.bool (decide (a > b))))
  | .geq => K (.sc (.bool (decide (a ≥ b))))
  | .shl | .shr => none

theorem intK_ok {op : BinOp} {k : IntKind} {a b : Int} {K : V → R} {r : V × Heap} (h : intK op k a b K = some r) : ∃ v, (binI op k a b).map V.sc = some v ∧ K v = some r := by
  unfold intK at h
  cases op <;> simp only at h
  case quo =>
    cases hb : decide (b = 0) with
    | true => rw [hb] at h; cases h
    | false => rw [hb, wrapF_eq] at h; exact ⟨_, by simp only [binI, if_neg (of_decide_eq_false hb), Option.map_some], h⟩
  case rem =>
    cases hb : decide (b = 0) with
    | true => rw [hb] at h; cases h
    | false => rw [hb] at h; exact ⟨_, by simp only [binI, if_neg (of_decide_eq_false hb), Option.map_some], h⟩
  all_goals first
    | exact ⟨_, rfl, h⟩
    | exact ⟨_, rfl, by rw [← wrapF_eq]; exact h⟩
    | exact ⟨_, rfl, by rw [← bitsF_eq]; exact h⟩
    | cases h

def shlF (k : IntKind) (a b : Int) : Int := wrapF k (a * Int.ofNat (Nat.pow 2 (min b.toNat k.bits)))
def shrF (k : IntKind) (a b : Int) : Int := a.fdiv (Int.ofNat (Nat.pow 2 (min b.toNat k.bits)))

theorem two_pow (n : Nat) : (Int.ofNat (Nat.pow 2 n) : Int) = 2 ^ n := by
  show ((2 ^ n : Nat) : Int) = 2 ^ n
  simp

def binK (C : Ctx) (t : TypeId) (op : BinOp) (x y : V) (K : V → R) : R :=
  match x, y with
  | .sc (.int k a), .sc (.int k' b) =>
    match op with
    | .shl => cond (decide (b < 0)) none (K (.sc (.int k (shlF k a b))))
    | .shr => cond (decide (b < 0)) none (K (.sc (.int k (shrF k a b))))
    | op => match sameK k k' with
      | true => intK op k a b K
      | false => none
  | .sc (.string a), .sc (.string b) =>
    match op with
    | .add => cond (decide (a.size + b.size ≤ 9223372036854775807)) (K (.sc (.string (a ++ b)))) none
    | op => optK ((binS op a b).map V.sc) K
  | x, y => optK (binV C t op x y) K

theorem optK_ok {v : Option V} {K : V → R} {r : V × Heap} (h : optK v K = some r) : ∃ u, v = some u ∧ K u = some r := by
  unfold optK at h
  split at h
  · exact ⟨_, rfl, h⟩
  · cases h

theorem binK_ok {C : Ctx} {t : TypeId} {op : BinOp} {x y : V} {K : V → R} {r : V × Heap} (h : binK C t op x y K = some r) : ∃ v, binV C t op x y = some v ∧ K v = some r := by
  unfold binK at h
  split at h
  · rename_i k a k' b
    split at h
    · cases hb : decide (b < 0) with
      | true => rw [hb] at h; cases h
      | false =>
        rw [hb] at h
        unfold shlF at h
        rw [two_pow, wrapF_eq] at h
        exact ⟨_, by simp only [binV, shI, if_neg (of_decide_eq_false hb), Option.map_some], h⟩
    · cases hb : decide (b < 0) with
      | true => rw [hb] at h; cases h
      | false =>
        rw [hb] at h
        unfold shrF at h
        rw [two_pow] at h
        exact ⟨_, by simp only [binV, shI, if_neg (of_decide_eq_false hb), Option.map_some], h⟩
    · rename_i hn1 hn2
      split at h
      · rename_i hk
        have hk := sameK_ok hk
        obtain ⟨v, h1, h2⟩ := intK_ok h
        refine ⟨v, ?_, h2⟩
        cases op <;> first | exact absurd rfl hn1 | exact absurd rfl hn2 | (simp only [binV, if_pos hk]; exact h1)
      · cases h
  · rename_i a b
    split at h
    · cases hb : decide (a.size + b.size ≤ 9223372036854775807) with
      | false => rw [hb] at h; cases h
      | true =>
        rw [hb] at h
        exact ⟨_, by simp only [binV, binS, if_pos (of_decide_eq_true hb), Option.map_some], h⟩
    · obtain ⟨v, h1, h2⟩ := optK_ok h
      exact ⟨v, h1, h2⟩
  · exact optK_ok h

def allK : IntKind → Int
  | .u8 => 255
  | .u16 => 65535
  | .u32 => 4294967295
  | .u64 => 18446744073709551615
  | _ => -1

def unK (op : UnOp) (x : V) (K : V → R) : R :=
  match op, x with
  | .neg, .sc (.int k n) => K (.sc (.int k (wrapF k (0 - n))))
  | .xor, .sc (.int k n) => K (.sc (.int k (bitsF .xor k (allK k) n)))
  | .not, .sc (.bool b) => K (.sc (.bool (!b)))
  | _, _ => none

theorem allK_eq (k : IntKind) : allK k = if k.signed then -1 else k.max := by cases k <;> rfl

theorem unK_ok {op : UnOp} {x : V} {K : V → R} {r : V × Heap} (h : unK op x K = some r) : ∃ v, unV op x = some v ∧ K v = some r := by
  unfold unK at h
  split at h
  · exact ⟨_, rfl, by rw [← wrapF_eq]; exact h⟩
  · exact ⟨_, rfl, by rw [← allK_eq, ← bitsF_eq]; exact h⟩
  · exact ⟨_, rfl, h⟩
  · cases h

def convK (C : Ctx) (src dst : TypeId) (x : V) (K : V → R) : R :=
  match C.ti src, C.ti dst, x with
  | some _, some ⟨_, _, .int k⟩, .sc (.int _ n) => K (.sc (.int k (wrapF k n)))
  | a, b, x => optK (convV C src dst x) K

theorem convK_ok {C : Ctx} {s d : TypeId} {x : V} {K : V → R} {r : V × Heap} (h : convK C s d x K = some r) : ∃ v, convV C s d x = some v ∧ K v = some r := by
  unfold convK at h
  split at h
  · rename_i h1 h2
    rw [wrapF_eq] at h
    exact ⟨_, by simp only [convV, h1, h2], h⟩
  · exact optK_ok h

theorem natK_ok {v : V} {n : Nat} {K : Nat → R} {r : V × Heap} (h : natK v n K = some r) : ∃ m, natIn v n = some m ∧ K m = some r := by
  unfold natK at h
  split at h
  · rename_i k i
    cases hb : decide (0 ≤ i ∧ i ≤ n) with
    | false => rw [hb] at h; cases h
    | true =>
      rw [hb] at h
      exact ⟨_, by simp only [natIn, if_pos (of_decide_eq_true hb)], h⟩
  · cases h

theorem idxK_ok {v : V} {n : Nat} {K : Nat → R} {r : V × Heap} (h : idxK v n K = some r) : ∃ m, idxIn v n = some m ∧ K m = some r := by
  unfold idxK at h
  split at h
  · rename_i k i
    cases hb : decide (0 ≤ i ∧ i < n) with
    | false => rw [hb] at h; cases h
    | true =>
      rw [hb] at h
      exact ⟨_, by simp only [idxIn, if_pos (of_decide_eq_true hb)], h⟩
  · cases h

theorem force0_eq (v : V) (K : V → R) : force0 v K = K v := by
  cases v <;> try rfl
  rename_i s
  cases s <;> rfl

theorem forceL_eq : ∀ (vs : List V) (K : List V → R), forceL vs K = K vs
  | [], K => rfl
  | v :: vs, K => by simp only [forceL, force0_eq, forceL_eq vs]

theorem forceC_eq (v : V) (K : V → R) : forceC v K = K v := by
  cases v <;> simp only [forceC, forceL_eq, force0_eq]

theorem forceT_eq : ∀ (vs : List V) (K : List V → R), forceT vs K = K vs
  | [], K => rfl
  | v :: vs, K => by simp only [forceT, forceC_eq, forceT_eq vs]

theorem force_eq (v : V) (K : V → R) : force v K = K v := by
  cases v <;> simp only [force, forceT_eq, forceC_eq]

theorem forceS_eq (v : V) (K : V → R) : forceS v K = K v := by
  cases v <;> simp only [forceS, forceT_eq]

/-- where a slice begins, ends -/
def hiK (o : Option V) (n : Nat) (K : Nat → R) : R :=
  match o with
  | some h => natK h n K
  | none => K n

def loK (o : Option V) (n : Nat) (K : Nat → R) : R :=
  match o with
  | some h => natK h n K
  | none => K 0

def sliceK (own : Bool) (k : Nat) (xs : List V) (lo hi mx : Option V) (K : V → R) : R :=
  match mx with
  | some m => natK m xs.length fun m => match hi with
    | some h => natK h m fun h => loK lo h fun l => K (.sl (h == m) k ((xs.take h).drop l))
    | none => none
  | none => hiK hi xs.length fun h => loK lo h fun l => K (.sl false k ((xs.take h).drop l))

theorem sliceK_ok {own : Bool} {k : Nat} {xs : List V} {lo hi mx : Option V} {K : V → R} {r : V × Heap} (h : sliceK own k xs lo hi mx K = some r) : ∃ v, sliceV own k xs lo hi mx = some v ∧ K v = some r := by
  unfold sliceK at h
  unfold sliceV
  cases mx with
  | some m =>
    simp only at h ⊢
    obtain ⟨m', h1, h⟩ := natK_ok h
    rw [h1]
    simp only [Option.bind_some]
    cases hi with
    | none => cases h
    | some hh =>
      simp only at h ⊢
      obtain ⟨h', h2, h⟩ := natK_ok h
      rw [h2]
      simp only [Option.bind_some]
      cases lo with
      | none => exact ⟨_, rfl, h⟩
      | some l =>
        simp only [loK] at h
        obtain ⟨l', h3, h⟩ := natK_ok h
        simp only [h3]
        exact ⟨_, rfl, h⟩
  | none =>
    simp only at h ⊢
    cases hi with
    | none =>
      simp only [hiK] at h ⊢
      cases lo with
      | none => exact ⟨_, rfl, h⟩
      | some l =>
        simp only [loK] at h
        obtain ⟨l', h3, h⟩ := natK_ok h
        simp only [Option.bind_some, h3]
        exact ⟨_, rfl, h⟩
    | some hh =>
      simp only [hiK] at h ⊢
      obtain ⟨h', h2, h⟩ := natK_ok h
      simp only [h2, Option.bind_some]
      cases lo with
      | none => exact ⟨_, rfl, h⟩
      | some l =>
        simp only [loK] at h
        obtain ⟨l', h3, h⟩ := natK_ok h
        simp only [h3]
        exact ⟨_, rfl, h⟩

def sliceSK (s : ByteArray) (lo hi : Option V) (K : V → R) : R := hiK hi s.size fun h => loK lo h fun l => K (.sc (.string (s.extract l h)))

theorem sliceSK_ok {s : ByteArray} {lo hi : Option V} {K : V → R} {r : V × Heap} (h : sliceSK s lo hi K = some r) : ∃ v, sliceS s lo hi = some v ∧ K v = some r := by
  unfold sliceSK at h
  unfold sliceS
  cases hi with
  | none =>
    simp only [hiK] at h ⊢
    cases lo with
    | none => exact ⟨_, rfl, h⟩
    | some l =>
      simp only [loK] at h
      obtain ⟨l', h3, h⟩ := natK_ok h
      simp only [Option.bind_some, h3]
      exact ⟨_, rfl, h⟩
  | some hh =>
    simp only [hiK] at h ⊢
    obtain ⟨h', h2, h⟩ := natK_ok h
    simp only [h2, Option.bind_some]
    cases lo with
    | none => exact ⟨_, rfl, h⟩
    | some l =>
      simp only [loK] at h
      obtain ⟨l', h3, h⟩ := natK_ok h
      simp only [h3]
      exact ⟨_, rfl, h⟩

end Go.Den
