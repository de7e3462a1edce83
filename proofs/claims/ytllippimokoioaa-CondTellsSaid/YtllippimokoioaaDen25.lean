import Derived.Test.YtllippimokoioaaDen24
set_option linter.unusedVariables false
namespace Go.Den

/-- one of a list of numbers of a kind -/
def intsOf (k : IntKind) : List V → Option (List Int)
  | [] => some []
  | .sc (.int k' n) :: vs => match decide (k' = k) with
    | true => match intsOf k vs with
      | some ns => some (n :: ns)
      | none => none
    | false => none
  | _ => none

def getI (l : List Int) (j : Nat) : Int := l.getD j 0
def getB (l : List Bool) (j : Nat) : Bool := l.getD j false
def getS (l : List ByteArray) (j : Nat) : ByteArray := l.getD j default

def boolsOf : List V → Option (List Bool)
  | [] => some []
  | .sc (.bool b) :: vs => match boolsOf vs with
    | some bs => some (b :: bs)
    | none => none
  | _ => none

def strsOf : List V → Option (List ByteArray)
  | [] => some []
  | .sc (.string b) :: vs => match strsOf vs with
    | some bs => some (b :: bs)
    | none => none
  | _ => none

def chainK (i : Nat) (j : Nat) (K : V → R) : List V → R
  | [] => none
  | v :: vs => cond (Nat.beq j i) (K v) (chainK (i + 1) j K vs)

/-- an element, wherever -/
def selK (xs : List V) (j : Nat) (K : V → R) : R :=
  match xs with
  | [v] => cond (Nat.beq j 0) (K v) none
  | .sc (.int k n) :: vs => match intsOf k vs with
    | some ns => cond (decide (j < vs.length + 1)) (K (.sc (.int k (getI (n :: ns) j)))) none
    | none => chainK 0 j K xs
  | .sc (.bool b) :: vs => match boolsOf vs with
    | some bs => cond (decide (j < vs.length + 1)) (K (.sc (.bool (getB (b :: bs) j)))) none
    | none => chainK 0 j K xs
  | .sc (.string b) :: vs => match strsOf vs with
    | some bs => cond (decide (j < vs.length + 1)) (K (.sc (.string (getS (b :: bs) j)))) none
    | none => chainK 0 j K xs
  | xs => chainK 0 j K xs

theorem intsOf_at {k : IntKind} : ∀ {vs : List V} {ns : List Int} {j : Nat}, intsOf k vs = some ns → j < vs.length → vs[j]? = some (.sc (.int k (ns.getD j 0)))
  | [], _, j, _, h => by simp at h
  | v :: vs, ns, j, hv, h => by
    unfold intsOf at hv
    split at hv
    · cases ‹v :: vs = []›
    · rename_i vs0 k' n vs' heq
      cases heq
      split at hv
      · rename_i hk
        have hk := of_decide_eq_true hk
        subst hk
        split at hv
        · rename_i ns' hns
          cases hv
          cases j with
          | zero => simp
          | succ j =>
            have := intsOf_at (j := j) hns (by simpa using h)
            simpa using this
        · cases hv
      · cases hv
    · cases hv

theorem boolsOf_at : ∀ {vs : List V} {ns : List Bool} {j : Nat}, boolsOf vs = some ns → j < vs.length → vs[j]? = some (.sc (.bool (ns.getD j false)))
  | [], _, j, _, h => by simp at h
  | v :: vs, ns, j, hv, h => by
    unfold boolsOf at hv
    split at hv
    · cases ‹v :: vs = []›
    · rename_i vs0 n vs' heq
      cases heq
      split at hv
      · rename_i ns' hns
        cases hv
        cases j with
        | zero => simp
        | succ j =>
          have := boolsOf_at (j := j) hns (by simpa using h)
          simpa using this
      · cases hv
    · cases hv

theorem strsOf_at : ∀ {vs : List V} {ns : List ByteArray} {j : Nat}, strsOf vs = some ns → j < vs.length → vs[j]? = some (.sc (.string (ns.getD j default)))
  | [], _, j, _, h => by simp at h
  | v :: vs, ns, j, hv, h => by
    unfold strsOf at hv
    split at hv
    · cases ‹v :: vs = []›
    · rename_i vs0 n vs' heq
      cases heq
      split at hv
      · rename_i ns' hns
        cases hv
        cases j with
        | zero => simp
        | succ j =>
          have := strsOf_at (j := j) hns (by simpa using h)
          simpa using this
      · cases hv
    · cases hv

theorem chainK_ok {K : V → R} {j : Nat} {r : V × Heap} : ∀ {vs : List V} {i : Nat}, chainK i j K vs = some r → ∃ v, i ≤ j ∧ vs[j - i]? = some v ∧ K v = some r
  | [], i, h => by cases h
  | v :: vs, i, h => by
    unfold chainK at h
    cases hb : Nat.beq j i with
    | true =>
      rw [hb] at h
      have : j = i := Nat.eq_of_beq_eq_true hb
      subst this
      exact ⟨v, Nat.le_refl _, by simp, h⟩
    | false =>
      rw [hb] at h
      obtain ⟨u, h1, h2, h3⟩ := chainK_ok h
      refine ⟨u, by omega, ?_, h3⟩
      rw [show j - i = (j - (i + 1)) + 1 by omega]
      simpa using h2

theorem cond_l {b : Bool} {x : R} {r : V × Heap} (h : cond b x none = some r) : b = true ∧ x = some r := by
  cases b
  · cases h
  · exact ⟨rfl, h⟩

theorem selK_ok {xs : List V} {j : Nat} {K : V → R} {r : V × Heap} (h : selK xs j K = some r) : ∃ v, xs[j]? = some v ∧ K v = some r := by
  unfold selK at h
  split at h
  · rename_i v
    obtain ⟨h1, h2⟩ := cond_l h
    have := Nat.eq_of_beq_eq_true h1
    subst this
    exact ⟨v, rfl, h2⟩
  · rename_i k n vs _
    split at h
    · rename_i ns hns
      cases hb : decide (j < vs.length + 1) with
      | false => rw [hb] at h; cases h
      | true =>
        rw [hb] at h
        have hb := of_decide_eq_true hb
        refine ⟨_, ?_, h⟩
        cases j with
        | zero => rfl
        | succ j => simpa [getI] using intsOf_at (j := j) hns (by omega)
    · obtain ⟨v, _, h2, h3⟩ := chainK_ok h
      exact ⟨v, by simpa using h2, h3⟩
  · rename_i b vs _
    split at h
    · rename_i ns hns
      cases hb : decide (j < vs.length + 1) with
      | false => rw [hb] at h; cases h
      | true =>
        rw [hb] at h
        have hb := of_decide_eq_true hb
        refine ⟨_, ?_, h⟩
        cases j with
        | zero => rfl
        | succ j => simpa [getB] using boolsOf_at (j := j) hns (by omega)
    · obtain ⟨v, _, h2, h3⟩ := chainK_ok h
      exact ⟨v, by simpa using h2, h3⟩
  · rename_i b vs _
    split at h
    · rename_i ns hns
      cases hb : decide (j < vs.length + 1) with
      | false => rw [hb] at h; cases h
      | true =>
        rw [hb] at h
        have hb := of_decide_eq_true hb
        refine ⟨_, ?_, h⟩
        cases j with
        | zero => rfl
        | succ j => simpa [getS] using strsOf_at (j := j) hns (by omega)
    · obtain ⟨v, _, h2, h3⟩ := chainK_ok h
      exact ⟨v, by simpa using h2, h3⟩
  · obtain ⟨v, _, h2, h3⟩ := chainK_ok h
    exact ⟨v, by simpa using h2, h3⟩

/-- a part of one cell, wherever -/
def subK (cs : List V) (off n : Nat) (K : List V → R) : R :=
  match n with
  | 1 => selK cs off fun v => K [v]
  | n => match sub cs off n with
    | some ds => K ds
    | none => none

theorem subK_ok {cs : List V} {off n : Nat} {K : List V → R} {r : V × Heap} (h : subK cs off n K = some r) : ∃ ds, sub cs off n = some ds ∧ K ds = some r := by
  unfold subK at h
  split at h
  · obtain ⟨v, h1, h2⟩ := selK_ok h
    have hlt := (List.getElem?_eq_some_iff.1 h1).1
    have hv := (List.getElem?_eq_some_iff.1 h1).2
    refine ⟨[v], ?_, h2⟩
    unfold sub
    rw [if_pos (by omega), List.drop_eq_getElem_cons hlt]
    simp [hv]
  · split at h
    · rename_i ds hds
      exact ⟨ds, hds, h⟩
    · cases h

def appendK (C : Ctx) (ts : List TypeId) (xs : List V) (K : V → R) : R :=
  match ts, xs with
  | t :: u :: _, [.sl own k l, .sl _ k' m] =>
    match C.ti t, C.ti u with
    | some ⟨_, _, .slice e⟩, some ⟨_, _, .slice _⟩ =>
      match C.ti e with
      | some ti => match own && decide (0 < ti.size ∧ 0 < ti.bytes ∧ (k = 0 ∨ k = ti.size) ∧ (k' = 0 ∨ k' = ti.size)) with
        | true => cond (decide ((l.length + m.length) * ti.bytes ≤ 140737488355328)) (K (.sl true ti.size (l ++ m.map V.dem))) none
        | false => none
      | none => none
    | _, _ => none
  | _, _ => none

theorem appendK_ok {C : Ctx} {ts : List TypeId} {xs : List V} {K : V → R} {r : V × Heap} (h : appendK C ts xs K = some r) : ∃ v, builtinV C .append ts xs = some v ∧ K v = some r := by
  unfold appendK at h
  split at h
  · rename_i t u tl own k l own' k' m
    split at h
    · rename_i z1 b1 e z2 b2 e2 h1 h2
      split at h
      · rename_i ti h3
        split at h
        · rename_i hb
          simp only [Bool.and_eq_true, decide_eq_true_eq] at hb
          cases hc : decide ((l.length + m.length) * ti.bytes ≤ 140737488355328) with
          | false => rw [hc] at h; cases h
          | true =>
            rw [hc] at h
            have hc := of_decide_eq_true hc
            refine ⟨_, ?_, h⟩
            simp only [builtinV, h1, h2, h3]
            rw [if_pos ⟨hb.1, hb.2.1, hb.2.2.1, hb.2.2.2.1, hb.2.2.2.2, hc⟩]
        · cases h
      · cases h
    · cases h
  · cases h

def evalPK (C : Ctx) (rd : TypeId → Operand → V) (o : Oper) (K : V → R) : R :=
  match o.op with
  | .move x | .assign x => K (rd o.type x)
  | .binOp op t x y _ => binK C t op (rd t x) (rd t y) K
  | .unOp op _ x => unK op (rd 0 x) K
  | .convert s d x => convK C s d (rd s x) K
  | .pick c a b => match rd 0 c with
    | .sc (.bool t) => cond t (K (rd 0 a).dem) (K (rd 0 b).dem)
    | _ => none
  | .slice t x lo hi mx => match C.ti t, rd 0 x with
    | some ⟨_, _, .string⟩, .sc (.string s) => match mx with
      | none => sliceSK s (lo.map (rd 0)) (hi.map (rd 0)) K
      | some _ => none
    | some ⟨_, _, .slice e⟩, .sl own k xs => match C.ti e with
      | some ti => match decide (k = 0 ∨ k = ti.size) with
        | true => sliceK own k xs (lo.map (rd 0)) (hi.map (rd 0)) (mx.map (rd 0)) K
        | false => none
      | none => none
    | _, _ => none
  | .indexAddr t x i => match C.ti t with
    | some ⟨_, _, .slice e⟩ => match C.ti e with
      | some ti => match rd 0 x with
        | .sl _ k xs => idxK (rd 0 i) xs.length fun j => selK xs j fun v => match decide (k = ti.size ∧ plain v = true) with
            | true => K (.elp (v.cells.map V.dem1))
            | false => none
        | .hs id off n k => idxK (rd 0 i) n fun j => match decide (k = ti.size) with
            | true => K (.ptr id (off + j * k))
            | false => none
        | _ => none
      | none => none
    | some ⟨_, _, .array n e⟩ => match C.ti e with
      | some ti => idxK (rd 0 i) n fun j => match rd 0 x with
          | .ptr id off => K (.ptr id (off + j * ti.size))
          | .elp cs => cond (decide (j * ti.size ≤ cs.length)) (K (.elp ((cs.drop (j * ti.size)).map V.dem1))) none
          | _ => none
      | none => none
    | _ => none
  | .index t x i => match C.ti t, rd t x with
    | some ⟨_, _, .string⟩, .sc (.string s) => idxK (rd 0 i) s.size fun j => optK ((s.data[j]?).map fun b => V.sc (.int .u8 (b.toNat : Int))) K
    | some ⟨_, _, .array n e⟩, .agg cs => match C.ti e with
      | some ti => idxK (rd 0 i) n fun j => subK cs (j * ti.size) ti.size fun ds => match ofCells ti ds with
          | some v => K v.dem
          | none => none
      | none => none
    | _, _ => none
  | .buildSlice _ _ _ => optK (evalP C rd o) fun v => forceS v K
  | .makeSlice t n m => match C.ti t with
    | some ⟨_, _, .slice e⟩ => match C.ti e, rd 0 n, rd 0 m with
      | some ti, .sc (.int _ a), .sc (.int _ b) => cond (decide (a = b ∧ 0 ≤ a ∧ ti.bytes * a ≤ 140737488355328 ∧ 0 < ti.size ∧ 0 < ti.bytes))
          (match ofCells ti ti.zero with
          | some z => K (.sl true ti.size (List.replicate a.toNat z))
          | none => none) none
      | _, _, _ => none
    | _ => none
  | .call c => match c.callee with
    | .builtin .append => appendK C c.argTypes.toList (c.args.toList.zipIdx.map fun (x, j) => rd ((c.argTypes[j]?).getD 0) x) K
    | _ => optK (evalP C rd o) K
  | _ => optK (evalP C rd o) K

theorem evalPK_ok {C : Ctx} {rd : TypeId → Operand → V} {o : Oper} {K : V → R} {r : V × Heap} (h : evalPK C rd o K = some r) : ∃ v, evalP C rd o = some v ∧ K v = some r := by
  unfold evalPK at h
  cases hop : o.op <;> simp only [hop] at h
  case move x => exact ⟨_, by simp only [evalP, hop], h⟩
  case assign x => exact ⟨_, by simp only [evalP, hop], h⟩
  case binOp op t x y u =>
    obtain ⟨v, h1, h2⟩ := binK_ok h
    exact ⟨v, by simp only [evalP, hop, h1], h2⟩
  case unOp op u x =>
    obtain ⟨v, h1, h2⟩ := unK_ok h
    exact ⟨v, by simp only [evalP, hop, h1], h2⟩
  case convert s d x =>
    obtain ⟨v, h1, h2⟩ := convK_ok h
    exact ⟨v, by simp only [evalP, hop, h1], h2⟩
  case pick c a b =>
    split at h
    · rename_i t ht
      cases t
      · exact ⟨(rd 0 b).dem, by simp only [evalP, hop, ht]; rfl, h⟩
      · exact ⟨(rd 0 a).dem, by simp only [evalP, hop, ht]; rfl, h⟩
    · cases h
  case slice t x lo hi mx =>
    split at h
    · rename_i z b s hti hx
      split at h
      · obtain ⟨v, h1, h2⟩ := sliceSK_ok h
        exact ⟨v, by simp only [evalP, hop, hti, hx, h1], h2⟩
      · cases h
    · rename_i z b e own k xs hti hx
      split at h
      · rename_i ti hte
        split at h
        · rename_i hk
          obtain ⟨v, h1, h2⟩ := sliceK_ok h
          exact ⟨v, by simp only [evalP, hop, hti, hx, hte, if_pos (of_decide_eq_true hk), h1], h2⟩
        · cases h
      · cases h
    · cases h
  case indexAddr t x i =>
    split at h
    · rename_i z b e hti
      split at h
      · rename_i ti hte
        split at h
        · rename_i own k xs hx
          obtain ⟨j, h1, h⟩ := idxK_ok h
          obtain ⟨v, h2, h⟩ := selK_ok h
          split at h
          · rename_i hk
            exact ⟨_, by simp only [evalP, hop, hti, hte, hx, h1, h2, if_pos (of_decide_eq_true hk)], h⟩
          · cases h
        · rename_i id off n k hx
          obtain ⟨j, h1, h⟩ := idxK_ok h
          split at h
          · rename_i hk
            exact ⟨_, by simp only [evalP, hop, hti, hte, hx, h1, if_pos (of_decide_eq_true hk)], h⟩
          · cases h
        · cases h
      · cases h
    · rename_i z b n e hti
      split at h
      · rename_i ti hte
        obtain ⟨j, h1, h⟩ := idxK_ok h
        split at h
        · rename_i id off hx
          exact ⟨_, by simp only [evalP, hop, hti, hte, hx, h1], h⟩
        · rename_i cs hx
          obtain ⟨h2, h⟩ := cond_l h
          exact ⟨_, by simp only [evalP, hop, hti, hte, hx, h1, if_pos (of_decide_eq_true h2)], h⟩
        · cases h
      · cases h
    · cases h
  case index t x i =>
    split at h
    · rename_i z b s hti hx
      obtain ⟨j, h1, h⟩ := idxK_ok h
      obtain ⟨v, h2, h⟩ := optK_ok h
      exact ⟨v, by simp only [evalP, hop, hti, hx, h1, h2], h⟩
    · rename_i z b n e cs hti hx
      split at h
      · rename_i ti hte
        obtain ⟨j, h1, h⟩ := idxK_ok h
        obtain ⟨ds, h2, h⟩ := subK_ok h
        split at h
        · rename_i v hv
          exact ⟨_, by simp only [evalP, hop, hti, hx, hte, h1, h2, Option.bind_some, hv, Option.map_some], h⟩
        · cases h
      · cases h
    · cases h
  case buildSlice t n ps =>
    obtain ⟨v, h1, h2⟩ := optK_ok h
    rw [forceS_eq] at h2
    exact ⟨v, h1, h2⟩
  case makeSlice t n m =>
    split at h
    · rename_i z b e hti
      split at h
      · rename_i ti ka a kb b' hte hn hm
        obtain ⟨h1, h⟩ := cond_l h
        have h1 := of_decide_eq_true h1
        split at h
        · rename_i z' hz
          exact ⟨_, by simp only [evalP, hop, hti, hte, hn, hm, if_pos h1, hz], h⟩
        · cases h
      · cases h
    · cases h
  case call c =>
    split at h
    · rename_i hc
      obtain ⟨v, h1, h2⟩ := appendK_ok h
      exact ⟨v, by simp only [evalP, hop, hc, h1], h2⟩
    · exact optK_ok h
  all_goals exact optK_ok h

end Go.Den
