import Derived.Test.YtllippimokoioaaDen2
set_option linter.unusedVariables false
namespace Go.Den

mutual
theorem closed_mono {n m : Nat} (h : n ≤ m) : ∀ (v : V), closed n v = true → closed m v = true
  | .any, _ => by simp only [closed]
  | .sc _, _ => by simp only [closed]
  | .sl _ _ xs, hc => by simp only [closed] at hc ⊢; exact closedL_mono h xs hc
  | .agg xs, hc => by simp only [closed] at hc ⊢; exact closedL_mono h xs hc
  | .tup xs, hc => by simp only [closed] at hc ⊢; exact closedL_mono h xs hc
  | .ptr id _, hc => by simp only [closed, decide_eq_true_eq] at hc ⊢; omega
  | .elp xs, hc => by simp only [closed] at hc ⊢; exact closedL_mono h xs hc
  | .hs id _ _ _, hc => by simp only [closed, decide_eq_true_eq] at hc ⊢; omega
  | .fn _ a b, hc => by simp only [closed, Bool.and_eq_true] at hc ⊢; exact ⟨closedL_mono h a hc.1, closedL_mono h b hc.2⟩
  | .ifc _ v, hc => by simp only [closed] at hc ⊢; exact closed_mono h v hc
theorem closedL_mono {n m : Nat} (h : n ≤ m) : ∀ (v : List V), closedL n v = true → closedL m v = true
  | [], _ => by simp only [closedL]
  | v :: vs, hc => by simp only [closedL, Bool.and_eq_true] at hc ⊢; exact ⟨closed_mono h v hc.1, closedL_mono h vs hc.2⟩
end

/-- all that a value consists of -/
def V.parts : V → List V
  | .tup _ => []
  | v => v.cells

def vparts : Value → List Value
  | .tuple _ => []
  | v => v.cells.toList

/-- the block that a value may be appended to in -/
def tok1 : V → Value → Option Nat
  | .sl true _ _, .slice (some a) n c => if n = c then none else some a.block
  | _, _ => none

/-- .. is its own from there on -/
def own1 (Z : Nat → Zone) (w : World) (x : V) (y : Value) : Prop :=
  ∀ β, tok1 x y = some β → ∃ k xs c cur e, x = .sl true k xs ∧ y = .slice (some ⟨β, 0, none⟩) xs.length c ∧ Z β = .log (xs.length * k) ∧ w.heap[β]? = some (.cells cur e (0, 0)) ∧ cur.size = c * k ∧ c ≤ maxLen

def tokV (v : V) (u : Value) (j : Nat) : Option Nat :=
  match v.parts[j]?, (vparts u)[j]? with
  | some x, some y => tok1 x y
  | _, _ => none

def ownV (Z : Nat → Zone) (w : World) (v : V) (u : Value) : Prop := ∀ (j : Nat) (x : V) (y : Value), v.parts[j]? = some x → (vparts u)[j]? = some y → own1 Z w x y

def tokH (H : Heap) (ι : List Nat) (w : World) (i j : Nat) : Option Nat :=
  match (H[i]?).bind (·[j]?), (ι[i]?).bind fun β => w.cell? ⟨β, j, none⟩ with
  | some x, some y => tok1 x y
  | _, _ => none

/-- a place: of a slot, of a block -/
abbrev Loc := (Nat × Nat) ⊕ (Nat × Nat)

def tok (e : Env) (vals : Nat → Value) (H : Heap) (ι : List Nat) (w : World) : Loc → Option Nat
  | .inl (t, j) => tokV (e t) (vals t) j
  | .inr (i, j) => tokH H ι w i j

/-- no two places may append to one block -/
def Uniq (f : Loc → Option Nat) : Prop := ∀ l l' β, f l = some β → f l' = some β → l = l'

structure Good (Z : Nat → Zone) (ι : List Nat) (e : Env) (H : Heap) (vals : Nat → Value) (w : World) : Prop where
  rep : ∀ t, srep Z ι w (e t) (vals t)
  len : ι.length = H.length
  blk : ∀ (i : Nat) (cs : List V), H[i]? = some cs → ∃ (β : Nat) (us : Array Value) (ty : TypeId), ι[i]? = some β ∧ Z β = .box i ∧ w.heap[β]? = some (.cells us ty (0, 0)) ∧ srepL Z ι w cs us.toList ∧ ∀ (j : Nat) (x : V) (y : Value), cs[j]? = some x → us[j]? = some y → own1 Z w x y
  own : ∀ t, ownV Z w (e t) (vals t)
  uniq : Uniq (tok e vals H ι w)
  fresh : ∀ β, w.heap.size ≤ β → Z β = .free

/-- What a step may do: T: the blocks that were its own to append to; 'lim': blocks of the list from there on may be changed. -/
structure Ext (T : Nat → Prop) (lim : Nat) (Z : Nat → Zone) (ι : List Nat) (w : World) (Z' : Nat → Zone) (ι' : List Nat) (w' : World) : Prop where
  size : w.heap.size ≤ w'.heap.size
  os : w'.os = w.os
  out : w'.output = w.output
  tape : w'.tape = w.tape
  heap : ∀ β, β < w.heap.size → ¬ T β → (∀ i, lim ≤ i → Z β ≠ .box i) → w'.heap[β]? = w.heap[β]?
  zone : ∀ β, β < w.heap.size → ¬ T β → Z' β = Z β
  log : ∀ β m, Z β = .log m → ∃ m', m ≤ m' ∧ Z' β = .log m' ∧ ∀ o, o < m → w'.cell? ⟨β, o, none⟩ = w.cell? ⟨β, o, none⟩
  idx : ∀ (i β : Nat), ι[i]? = some β → ι'[i]? = some β

theorem Ext.keeps {T : Nat → Prop} {lim : Nat} {Z Z' : Nat → Zone} {ι ι' : List Nat} {w w' : World} (h : Ext T lim Z ι w Z' ι' w') (n : Nat) : Keeps n Z ι w Z' ι' w' :=
  ⟨h.log, fun i β _ h' => h.idx i β h'⟩

theorem Ext.refl (T : Nat → Prop) (lim : Nat) (Z : Nat → Zone) (ι : List Nat) (w : World) : Ext T lim Z ι w Z ι w :=
  ⟨Nat.le_refl _, rfl, rfl, rfl, fun _ _ _ _ => rfl, fun _ _ _ => rfl, fun _ m h => ⟨m, Nat.le_refl _, h, fun _ _ => rfl⟩, fun _ _ h => h⟩

theorem Ext.trans {T T' : Nat → Prop} {lim : Nat} {Z Z' Z'' : Nat → Zone} {ι ι' ι'' : List Nat} {w w' w'' : World} (h : Ext T lim Z ι w Z' ι' w') (h' : Ext T' lim Z' ι' w' Z'' ι'' w'')
    (hT : ∀ β, T' β → T β ∨ w.heap.size ≤ β) : Ext T lim Z ι w Z'' ι'' w'' where
  size := Nat.le_trans h.size h'.size
  os := h'.os.trans h.os
  out := h'.out.trans h.out
  tape := h'.tape.trans h.tape
  heap := fun β hb ht hz => by
    have hz' := h.zone β hb ht
    have ht' : ¬ T' β := fun x => (hT β x).elim ht (by omega)
    rw [h'.heap β (Nat.lt_of_lt_of_le hb h.size) ht' (fun i hi => by rw [hz']; exact hz i hi), h.heap β hb ht hz]
  zone := fun β hb ht => by
    have ht' : ¬ T' β := fun x => (hT β x).elim ht (by omega)
    rw [h'.zone β (Nat.lt_of_lt_of_le hb h.size) ht', h.zone β hb ht]
  log := fun β m hm => by
    obtain ⟨m', h1, h2, h3⟩ := h.log β m hm
    obtain ⟨m'', h4, h5, h6⟩ := h'.log β m' h2
    exact ⟨m'', by omega, h5, fun o ho => by rw [h6 o (by omega), h3 o ho]⟩
  idx := fun i β hi => h'.idx i β (h.idx i β hi)

theorem Ext.mono {T T' : Nat → Prop} {lim lim' : Nat} {Z Z' : Nat → Zone} {ι ι' : List Nat} {w w' : World} (h : Ext T lim Z ι w Z' ι' w') (hT : ∀ β, T β → T' β) (hl : lim' ≤ lim) : Ext T' lim' Z ι w Z' ι' w' :=
  { h with
    heap := fun β hb ht hz => h.heap β hb (fun x => ht (hT β x)) (fun i hi => hz i (by omega))
    zone := fun β hb ht => h.zone β hb (fun x => ht (hT β x)) }

theorem tokV_lt {v : V} {u : Value} {j β : Nat} (h : tokV v u j = some β) : ∃ x y, v.parts[j]? = some x ∧ (vparts u)[j]? = some y ∧ tok1 x y = some β := by
  unfold tokV at h
  split at h
  · rename_i x y hx hy
    exact ⟨x, y, hx, hy, h⟩
  · cases h

theorem tokH_lt {H : Heap} {ι : List Nat} {w : World} {i j β : Nat} (h : tokH H ι w i j = some β) :
    ∃ cs γ x y, H[i]? = some cs ∧ ι[i]? = some γ ∧ cs[j]? = some x ∧ w.cell? ⟨γ, j, none⟩ = some y ∧ tok1 x y = some β := by
  unfold tokH at h
  split at h
  · rename_i x y hx hy
    obtain ⟨cs, h1, h2⟩ := Option.bind_eq_some_iff.1 hx
    obtain ⟨γ, h3, h4⟩ := Option.bind_eq_some_iff.1 hy
    exact ⟨cs, γ, x, y, h1, h3, h2, h4, h⟩
  · cases h

theorem cell_row {w : World} {β j : Nat} {us : Array Value} {ty : TypeId} {fr : Nat × Nat} (h : w.heap[β]? = some (.cells us ty fr)) : w.cell? ⟨β, j, none⟩ = us[j]? := by
  simp [World.cell?, h]

/-- whoever may append: its block is in the memory, and no block of the list -/
theorem Good.tok_ok {Z : Nat → Zone} {ι : List Nat} {e : Env} {H : Heap} {vals : Nat → Value} {w : World} (G : Good Z ι e H vals w) {l : Loc} {β : Nat} (h : tok e vals H ι w l = some β) :
    β < w.heap.size ∧ ∃ m, Z β = .log m := by
  cases l with
  | inl p =>
    obtain ⟨x, y, hx, hy, ht⟩ := tokV_lt h
    obtain ⟨k, xs, c, cur, ty, rfl, rfl, hz, hh, _⟩ := G.own p.1 p.2 x y hx hy β ht
    exact ⟨(Array.getElem?_eq_some_iff.1 hh).1, _, hz⟩
  | inr p =>
    obtain ⟨cs, γ, x, y, h1, h2, h3, h4, ht⟩ := tokH_lt h
    obtain ⟨β', us, ty, h5, h6, h7, h8, h9⟩ := G.blk p.1 cs h1
    obtain rfl : γ = β' := by simpa [h2] using h5
    rw [cell_row h7] at h4
    obtain ⟨k, xs, c, cur, ty, rfl, rfl, hz, hh, _⟩ := h9 p.2 x y h3 h4 β ht
    exact ⟨(Array.getElem?_eq_some_iff.1 hh).1, _, hz⟩

/-- its own stays its own where its block is as it was -/
theorem own1_kept {Z Z' : Nat → Zone} {w w' : World} {x : V} {y : Value} (h : own1 Z w x y) (hk : ∀ β, tok1 x y = some β → Z' β = Z β ∧ w'.heap[β]? = w.heap[β]?) : own1 Z' w' x y := by
  intro β ht
  obtain ⟨k, xs, c, cur, ty, h1, h2, h3, h4, h5⟩ := h β ht
  obtain ⟨e1, e2⟩ := hk β ht
  exact ⟨k, xs, c, cur, ty, h1, h2, by rw [e1]; exact h3, by rw [e2]; exact h4, h5⟩


theorem tok1_dem1 (x : V) (y : Value) : tok1 x.dem1 y = none := by
  cases x <;> cases y <;> simp [V.dem1, tok1]

theorem cells_dem2 (v : V) : v.dem2.cells = v.cells.map V.dem1 := by
  cases v <;> simp [V.dem2, V.cells, V.dem1]

theorem parts_dem (v : V) : v.dem.parts = v.parts.map V.dem1 := by
  cases v with
  | tup vs => simp [V.dem, V.parts]
  | agg cs => simp [V.dem, V.dem2, V.parts, V.cells]
  | _ => simp [V.dem, V.dem2, V.dem1, V.parts, V.cells]

theorem tokV_dem (v : V) (u : Value) (j : Nat) : tokV v.dem u j = none := by
  unfold tokV
  rw [parts_dem, List.getElem?_map]
  cases v.parts[j]? <;> cases (vparts u)[j]? <;> simp [tok1_dem1]

/-- nothing of it may be appended to -/
def Cold (v : V) (u : Value) : Prop := ∀ j, tokV v u j = none

theorem Cold.own {Z : Nat → Zone} {w : World} {v : V} {u : Value} (h : Cold v u) : ownV Z w v u := by
  intro j x y hx hy β ht
  have := h j
  simp [tokV, hx, hy, ht] at this

theorem cold_dem (v : V) (u : Value) : Cold v.dem u := fun j => tokV_dem v u j

def one (v : V) : Env := fun t => if t = 0 then v else .any

theorem tokV_any (u : Value) (j : Nat) : tokV .any u j = none := by
  unfold tokV
  cases j with
  | zero =>
    cases h : (vparts u)[0]? with
    | none => simp
    | some y => simp [V.parts, V.cells, tok1]
  | succ j => simp [V.parts, V.cells]

/-- the blocks that a step may append to: those of slots of S, and of the blocks -/
def TT (e : Env) (vals : Nat → Value) (H : Heap) (ι : List Nat) (w : World) (S : Nat → Prop) (β : Nat) : Prop :=
  (∃ t j, S t ∧ tokV (e t) (vals t) j = some β) ∨ ∃ i j, tokH H ι w i j = some β

/-- Behind a step that tells v, with blocks H'. -/
def Post (T : Nat → Prop) (lim : Nat) (Z : Nat → Zone) (ι : List Nat) (w : World) (v : V) (H' : Heap) (u : Value) (w' : World) : Prop :=
  ∃ Z' ι', Good Z' ι' (one v) H' (fun _ => u) w' ∧ Ext T lim Z ι w Z' ι' w' ∧ ∀ l β, tok (one v) (fun _ => u) H' ι' w' l = some β → T β ∨ w.heap.size ≤ β

section
variable {Z : Nat → Zone} {ι : List Nat} {e : Env} {H : Heap} {vals : Nat → Value} {w : World}

/-- A step's value is put into a slot. -/
theorem Good.go (G : Good Z ι e H vals w) {S : Nat → Prop} {e' : Env} (he : ∀ t, (S t ∧ e' t = (e t).dem) ∨ (¬ S t ∧ e' t = e t)) {T : Nat → Prop} (hT : ∀ β, T β → TT e vals H ι w S β) {lim : Nat}
    {Z' : Nat → Zone} {ι' : List Nat} {w' : World} {v : V} {u : Value} {H' : Heap} (G' : Good Z' ι' (one v) H' (fun _ => u) w') (X : Ext T lim Z ι w Z' ι' w')
    (hN : ∀ l β, tok (one v) (fun _ => u) H' ι' w' l = some β → T β ∨ w.heap.size ≤ β) (d : Option Nat) :
    Good Z' ι' (e'.put d v) H' (fun t => if some t = d then u else vals t) w' := by
  have other : ∀ t, some t ≠ d → (e'.put d v) t = e' t := fun t ht => by
    cases d with
    | none => rfl
    | some d => simp only [Env.put]; rw [if_neg (by simpa using ht)]
  have same : ∀ t, some t = d → (e'.put d v) t = v := fun t ht => by
    subst ht; simp [Env.put]
  -- what an elder slot may still append to is none of T
  have notT : ∀ t j β, tokV (e' t) (vals t) j = some β → ¬ T β ∧ β < w.heap.size ∧ ¬ S t ∧ tokV (e t) (vals t) j = some β := by
    intro t j β hj
    rcases he t with ⟨hS, hd⟩ | ⟨hS, hd⟩
    · rw [hd, tokV_dem] at hj; cases hj
    · rw [hd] at hj
      refine ⟨fun ht => ?_, (G.tok_ok (l := .inl (t, j)) hj).1, hS, hj⟩
      rcases hT β ht with ⟨t', j', hS', h'⟩ | ⟨i, j', h'⟩
      · have := G.uniq (.inl (t, j)) (.inl (t', j')) β hj h'
        simp at this
        exact hS (this.1 ▸ hS')
      · have := G.uniq (.inl (t, j)) (.inr (i, j')) β hj h'
        cases this
  have res : ∀ l, (∀ t j, l = .inl (t, j) → some t = d) → tok (e'.put d v) (fun t => if some t = d then u else vals t) H' ι' w' l =
      tok (one v) (fun _ => u) H' ι' w' (match l with | .inl (_, j) => .inl (0, j) | .inr p => .inr p) := by
    intro l hl
    cases l with
    | inl p =>
      obtain ⟨t, j⟩ := p
      have ht := hl t j rfl
      simp only [tok, same t ht, if_pos ht, one, if_true]
    | inr p => rfl
  have oth : ∀ t j, some t ≠ d → tok (e'.put d v) (fun t => if some t = d then u else vals t) H' ι' w' (.inl (t, j)) = tokV (e' t) (vals t) j := by
    intro t j ht
    simp only [tok, other t ht, if_neg ht]
  refine ⟨fun t => ?_, G'.len, G'.blk, fun t => ?_, ?_, G'.fresh⟩
  · by_cases ht : some t = d
    · simp only [same t ht, if_pos ht]
      simpa [one] using G'.rep 0
    · simp only [other t ht, if_neg ht]
      have h0 := srep_keeps (X.keeps ι.length) _ _ (srep_closed _ _ (G.rep t)) (G.rep t)
      rcases he t with ⟨_, hd⟩ | ⟨_, hd⟩ <;> rw [hd]
      · exact srep_dem h0
      · exact h0
  · by_cases ht : some t = d
    · simp only [same t ht, if_pos ht]
      simpa [one] using G'.own 0
    · simp only [other t ht, if_neg ht]
      rcases he t with ⟨hS, hd⟩ | ⟨hS, hd⟩ <;> rw [hd]
      · exact (cold_dem _ _).own
      · intro j x y hx hy
        refine own1_kept (G.own t j x y hx hy) fun β hb => ?_
        have hj : tokV (e' t) (vals t) j = some β := by rw [hd]; simp [tokV, hx, hy, hb]
        obtain ⟨h1, h2, _, h3⟩ := notT t j β hj
        obtain ⟨m, hm⟩ := (G.tok_ok (l := .inl (t, j)) h3).2
        exact ⟨X.zone β h2 h1, X.heap β h2 h1 (fun i _ => by rw [hm]; simp)⟩
  · have key : ∀ (l : Loc), (∀ t j, l = .inl (t, j) → some t = d) ∨ ∃ t j, l = .inl (t, j) ∧ some t ≠ d := by
      intro l
      cases l with
      | inl p =>
        by_cases hp : some p.1 = d
        · exact .inl fun t j h => by cases h; exact hp
        · exact .inr ⟨p.1, p.2, rfl, hp⟩
      | inr p => exact .inl fun t j h => by cases h
    intro l l' β hl hl'
    rcases key l with k | ⟨t, j, rfl, k⟩ <;> rcases key l' with k' | ⟨t', j', rfl, k'⟩
    · rw [res l k] at hl
      rw [res l' k'] at hl'
      have := G'.uniq _ _ β hl hl'
      cases l with
      | inl p =>
        cases l' with
        | inl p' =>
          obtain ⟨t, j⟩ := p
          obtain ⟨t', j'⟩ := p'
          have e1 := k t j rfl
          have e2 := k' t' j' rfl
          have e3 : t = t' := by rw [← e2] at e1; simpa using e1
          have : j = j' := by simpa using this
          rw [this, e3]
        | inr p' => simp at this
      | inr p =>
        cases l' with
        | inl p' => simp at this
        | inr p' => simpa using this
    · rw [res l k] at hl
      rw [oth t' j' k'] at hl'
      obtain ⟨h1, h2, _⟩ := notT t' j' β hl'
      rcases hN _ β hl with h | h
      · exact absurd h h1
      · omega
    · rw [oth t j k] at hl
      rw [res l' k'] at hl'
      obtain ⟨h1, h2, _⟩ := notT t j β hl
      rcases hN _ β hl' with h | h
      · exact absurd h h1
      · omega
    · rw [oth t j k] at hl
      rw [oth t' j' k'] at hl'
      exact G.uniq (.inl (t, j)) (.inl (t', j')) β (notT t j β hl).2.2.2 (notT t' j' β hl').2.2.2

/-- A value that comes of slots of S, nothing else changed. -/
theorem Good.still (G : Good Z ι e H vals w) {S : Nat → Prop} {v : V} {u : Value} (hs : srep Z ι w v u) (ho : ownV Z w v u)
    (hsub : ∀ j β, tokV v u j = some β → ∃ t j', S t ∧ tokV (e t) (vals t) j' = some β) (hinj : ∀ j j' β, tokV v u j = some β → tokV v u j' = some β → j = j') (lim : Nat) :
    Post (TT e vals H ι w S) lim Z ι w v H u w := by
  refine ⟨Z, ι, ⟨fun t => ?_, G.len, G.blk, fun t => ?_, ?_, G.fresh⟩, Ext.refl _ _ _ _ _, ?_⟩
  · by_cases ht : t = 0
    · simpa [one, ht] using hs
    · simp [one, ht, srep]
  · by_cases ht : t = 0
    · simpa [one, ht] using ho
    · simp only [one, ht, if_false]
      exact Cold.own (fun j => tokV_any _ _)
  · intro l l' β hl hl'
    have key : ∀ (l : Loc), tok (one v) (fun _ => u) H ι w l = some β → (∃ j, l = .inl (0, j) ∧ tokV v u j = some β) ∨ ∃ p, l = .inr p ∧ tokH H ι w p.1 p.2 = some β := by
      intro l hl
      cases l with
      | inl p =>
        obtain ⟨t, j⟩ := p
        by_cases ht : t = 0
        · subst ht; exact .inl ⟨j, rfl, by simpa [tok, one] using hl⟩
        · simp [tok, one, ht, tokV_any] at hl
      | inr p => exact .inr ⟨p, rfl, by simpa [tok] using hl⟩
    rcases key l hl with ⟨j, rfl, h⟩ | ⟨p, rfl, h⟩ <;> rcases key l' hl' with ⟨j', rfl, h'⟩ | ⟨p', rfl, h'⟩
    · rw [hinj j j' β h h']
    · obtain ⟨t, j'', _, h2⟩ := hsub j β h
      have := G.uniq (.inl (t, j'')) (.inr p') β h2 h'
      cases this
    · obtain ⟨t, j'', _, h2⟩ := hsub j' β h'
      have := G.uniq (.inl (t, j'')) (.inr p) β h2 h
      cases this
    · exact G.uniq (.inr p) (.inr p') β h h'
  · intro l β hl
    left
    cases l with
    | inl p =>
      obtain ⟨t, j⟩ := p
      by_cases ht : t = 0
      · subst ht
        obtain ⟨t', j', h1, h2⟩ := hsub j β (by simpa [tok, one] using hl)
        exact .inl ⟨t', j', h1, h2⟩
      · simp [tok, one, ht, tokV_any] at hl
    | inr p => exact .inr ⟨p.1, p.2, by simpa [tok] using hl⟩

/-- .. that bears no right to append -/
theorem Good.cold (G : Good Z ι e H vals w) (S : Nat → Prop) {v : V} {u : Value} (hs : srep Z ι w v u) (hc : Cold v u) (lim : Nat) : Post (TT e vals H ι w S) lim Z ι w v H u w :=
  G.still hs hc.own (fun j β h => by rw [hc j] at h; cases h) (fun j _ β h => by rw [hc j] at h; cases h) lim

end
end Go.Den
