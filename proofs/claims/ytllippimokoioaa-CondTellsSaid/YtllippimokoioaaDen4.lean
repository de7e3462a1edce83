import Derived.Test.YtllippimokoioaaDen3
set_option linter.unusedVariables false
namespace Go.Den

section
variable {Z : Nat → Zone} {ι : List Nat} {e : Env} {H : Heap} {vals : Nat → Value} {w : World}

def zset (Z : Nat → Zone) (β : Nat) (z : Zone) : Nat → Zone := fun γ => if γ = β then z else Z γ

theorem Good.log_lt (G : Good Z ι e H vals w) {β m : Nat} (h : Z β = .log m) : β < w.heap.size := by
  rcases Nat.lt_or_ge β w.heap.size with h' | h'
  · exact h'
  · rw [G.fresh β h'] at h; cases h

theorem Good.box_lt (G : Good Z ι e H vals w) {β m : Nat} (h : Z β = .box m) : β < w.heap.size := by
  rcases Nat.lt_or_ge β w.heap.size with h' | h'
  · exact h'
  · rw [G.fresh β h'] at h; cases h

theorem ext_alloc (hf : ∀ β, w.heap.size ≤ β → Z β = .free) (T : Nat → Prop) (lim : Nat) (o : Obj) (z : Zone) (l : List Nat) :
    Ext T lim Z ι w (zset Z w.heap.size z) (ι ++ l) (w.alloc o) where
  size := by simp
  os := rfl
  out := rfl
  tape := rfl
  heap := fun β hb _ _ => heap_alloc_old w o β hb
  zone := fun β hb _ => by simp [zset]; intro h; omega
  log := fun β m hm => by
    have hlt : β < w.heap.size := by
      rcases Nat.lt_or_ge β w.heap.size with h' | h'
      · exact h'
      · rw [hf β h'] at hm; cases hm
    refine ⟨m, Nat.le_refl _, ?_, fun o' _ => ?_⟩
    · simp only [zset]; rw [if_neg (by omega)]; exact hm
    · exact World.cell?_alloc_lt w o ⟨β, o', none⟩ hlt
  idx := fun i β h => by
    rw [List.getElem?_append_left (List.getElem?_eq_some_iff.1 h).1]; exact h

theorem fresh_alloc (hf : ∀ β, w.heap.size ≤ β → Z β = .free) (o : Obj) (z : Zone) : ∀ β, (w.alloc o).heap.size ≤ β → zset Z w.heap.size z β = .free := by
  intro β hb
  simp at hb
  simp only [zset]
  rw [if_neg (by omega)]
  exact hf β (by omega)

/-- the blocks of the list, behind a step that leaves them alone -/
theorem Good.blk_ext (G : Good Z ι e H vals w) {T : Nat → Prop} {lim : Nat} {Z' : Nat → Zone} {ι' : List Nat} {w' : World} (X : Ext T lim Z ι w Z' ι' w') (hT : ∀ β, T β → ∃ m, Z β = .log m)
    (hT2 : ∀ β i j, T β → tokH H ι w i j ≠ some β)
    (i : Nat) (cs : List V) (h : H[i]? = some cs) (hi : i < lim) : ∃ (β : Nat) (us : Array Value) (ty : TypeId), ι'[i]? = some β ∧ Z' β = .box i ∧ w'.heap[β]? = some (.cells us ty (0, 0)) ∧ srepL Z' ι' w' cs us.toList ∧
      (∀ (j : Nat) (x : V) (y : Value), cs[j]? = some x → us[j]? = some y → own1 Z' w' x y) ∧ ι[i]? = some β ∧ w.heap[β]? = w'.heap[β]? := by
  obtain ⟨β, us, ty, h1, h2, h3, h4, h5⟩ := G.blk i cs h
  have hb := G.box_lt h2
  have ht : ¬ T β := fun x => by obtain ⟨m, hm⟩ := hT β x; rw [h2] at hm; cases hm
  have hh := X.heap β hb ht (fun k hk => by rw [h2]; intro e; cases e; omega)
  refine ⟨β, us, ty, X.idx i β h1, by rw [X.zone β hb ht]; exact h2, by rw [hh]; exact h3, srepL_keeps (X.keeps ι.length) _ _ (srepL_closed _ _ h4) h4, fun j x y hx hy => ?_, h1, hh.symm⟩
  refine own1_kept (h5 j x y hx hy) fun γ hγ => ?_
  have htok : tokH H ι w i j = some γ := by
    simp only [tokH, h, h1, Option.bind_some, hx, cell_row h3, hy, hγ]
  obtain ⟨hlt, m, hm⟩ := G.tok_ok (l := .inr (i, j)) htok
  have hnt : ¬ T γ := fun x => hT2 γ i j x htok
  exact ⟨X.zone γ hlt hnt, X.heap γ hlt hnt (fun k _ => by rw [hm]; simp)⟩

/-- A new block of the list. -/
theorem Good.box' (G : Good Z ι e H vals w) {S : Nat → Prop} {cs : List V} {us : Array Value} (hs : srepL Z ι w cs us.toList)
    (ho : ∀ (j : Nat) (x : V) (y : Value), cs[j]? = some x → us[j]? = some y → own1 Z w x y)
    (hsub : ∀ (j : Nat) (β : Nat) (x : V) (y : Value), cs[j]? = some x → us[j]? = some y → tok1 x y = some β → ∃ t j', S t ∧ tokV (e t) (vals t) j' = some β)
    (hinj : ∀ (j j' β : Nat) (x x' : V) (y y' : Value), cs[j]? = some x → us[j]? = some y → tok1 x y = some β → cs[j']? = some x' → us[j']? = some y' → tok1 x' y' = some β → j = j')
    (lim : Nat) (ty : TypeId) {v : V} {u : Value} (hv : srep (zset Z w.heap.size (.box H.length)) (ι ++ [w.heap.size]) (w.alloc (.cells us ty)) v u) (hc : Cold v u) :
    Post (TT e vals H ι w S) lim Z ι w v (H ++ [cs]) u (w.alloc (.cells us ty)) := by
  have X : Ext (fun _ => False) (H.length + 1) Z ι w (zset Z w.heap.size (.box H.length)) (ι ++ [w.heap.size]) (w.alloc (.cells us ty)) := ext_alloc G.fresh _ _ _ _ _
  have hnew : (w.alloc (.cells us ty)).heap[w.heap.size]? = some (.cells us ty (0, 0)) := heap_alloc_new w _
  have hidx : (ι ++ [w.heap.size])[H.length]? = some w.heap.size := by rw [← G.len]; simp
  -- what may be appended to, behind the step
  have htok : ∀ i j β, tokH (H ++ [cs]) (ι ++ [w.heap.size]) (w.alloc (.cells us ty)) i j = some β →
      (i < H.length ∧ tokH H ι w i j = some β) ∨ (i = H.length ∧ ∃ x y, cs[j]? = some x ∧ us[j]? = some y ∧ tok1 x y = some β) := by
    intro i j β h
    obtain ⟨cs', γ, x, y, h1, h2, h3, h4, h5⟩ := tokH_lt h
    have hi : i < H.length + 1 := by simpa using (List.getElem?_eq_some_iff.1 h1).1
    rcases Nat.lt_or_ge i H.length with hlt | hge
    · left
      refine ⟨hlt, ?_⟩
      rw [List.getElem?_append_left hlt] at h1
      rw [List.getElem?_append_left (by rw [G.len]; exact hlt)] at h2
      obtain ⟨β', us', ty', g1, g2, g3, _⟩ := G.blk i cs' h1
      obtain rfl : γ = β' := by simpa [h2] using g1
      have hc : (w.alloc (.cells us ty)).cell? ⟨γ, j, none⟩ = w.cell? ⟨γ, j, none⟩ := World.cell?_alloc_lt w _ ⟨γ, j, none⟩ (G.box_lt g2)
      rw [hc] at h4
      simp only [tokH, h1, h2, Option.bind_some, h3, h4, h5]
    · obtain rfl : i = H.length := by omega
      right
      refine ⟨rfl, ?_⟩
      rw [hidx] at h2
      simp at h1 h2
      subst h1 h2
      rw [cell_row hnew] at h4
      exact ⟨x, y, h3, h4, h5⟩
  refine ⟨zset Z w.heap.size (.box H.length), ι ++ [w.heap.size], ⟨fun t => ?_, ?_, fun i cs' h => ?_, fun t => ?_, ?_, fresh_alloc G.fresh _ _⟩, ext_alloc G.fresh _ _ _ _ _, ?_⟩
  · by_cases ht : t = 0
    · subst ht; simpa only [one, if_true] using hv
    · simp [one, ht, srep]
  · simp [G.len]
  · rcases Nat.lt_or_ge i H.length with hlt | hge
    · rw [List.getElem?_append_left hlt] at h
      obtain ⟨β, us', ty', g1, g2, g3, g4, g5, _⟩ := G.blk_ext X (fun _ h => h.elim) (fun _ _ _ h => h.elim) i cs' h (by omega)
      exact ⟨β, us', ty', g1, g2, g3, g4, g5⟩
    · have hi : i < H.length + 1 := by simpa using (List.getElem?_eq_some_iff.1 h).1
      obtain rfl : i = H.length := by omega
      simp at h
      subst h
      refine ⟨w.heap.size, us, ty, hidx, by simp [zset], hnew, srepL_keeps (X.keeps ι.length) _ _ (srepL_closed _ _ hs) hs, fun j x y hx hy => ?_⟩
      refine own1_kept (ho j x y hx hy) fun γ hγ => ?_
      obtain ⟨t, j', _, h'⟩ := hsub j γ x y hx hy hγ
      obtain ⟨hlt, m, hm⟩ := G.tok_ok (l := .inl (t, j')) h'
      exact ⟨X.zone γ hlt (fun h => h), X.heap γ hlt (fun h => h) (fun k _ => by rw [hm]; simp)⟩
  · by_cases ht : t = 0
    · subst ht; simp only [one, if_true]; exact hc.own
    · simp only [one, ht, if_false]; exact Cold.own (fun j => tokV_any _ _)
  · have key : ∀ (l : Loc) β, tok (one v) (fun _ => u) (H ++ [cs]) (ι ++ [w.heap.size]) (w.alloc (.cells us ty)) l = some β → ∃ p, l = .inr p ∧ tokH (H ++ [cs]) (ι ++ [w.heap.size]) (w.alloc (.cells us ty)) p.1 p.2 = some β := by
      intro l β hl
      cases l with
      | inl p =>
        obtain ⟨t, j⟩ := p
        by_cases ht : t = 0
        · subst ht; simp only [tok, one, if_true] at hl; rw [hc j] at hl; cases hl
        · simp [tok, one, ht, tokV_any] at hl
      | inr p => exact ⟨p, rfl, hl⟩
    intro l l' β hl hl'
    obtain ⟨⟨i, j⟩, rfl, h⟩ := key l β hl
    obtain ⟨⟨i', j'⟩, rfl, h'⟩ := key l' β hl'
    rcases htok i j β h with ⟨_, k⟩ | ⟨rfl, x, y, hx, hy, ht⟩ <;> rcases htok i' j' β h' with ⟨_, k'⟩ | ⟨rfl, x', y', hx', hy', ht'⟩
    · exact G.uniq (.inr (i, j)) (.inr (i', j')) β k k'
    · obtain ⟨t, j'', _, h2⟩ := hsub j' β x' y' hx' hy' ht'
      cases G.uniq (.inl (t, j'')) (.inr (i, j)) β h2 k
    · obtain ⟨t, j'', _, h2⟩ := hsub j β x y hx hy ht
      cases G.uniq (.inl (t, j'')) (.inr (i', j')) β h2 k'
    · rw [hinj j j' β x x' y y' hx hy ht hx' hy' ht']
  · intro l β hl
    left
    cases l with
    | inl p =>
      obtain ⟨t, j⟩ := p
      by_cases ht : t = 0
      · subst ht; simp only [tok, one, if_true] at hl; rw [hc j] at hl; cases hl
      · simp [tok, one, ht, tokV_any] at hl
    | inr p =>
      rcases htok p.1 p.2 β hl with ⟨_, k⟩ | ⟨_, x, y, hx, hy, ht⟩
      · exact .inr ⟨_, _, k⟩
      · exact .inl (hsub _ β x y hx hy ht)


theorem cold_ptr (id off : Nat) (u : Value) : Cold (.ptr id off) u := fun j => by
  unfold tokV
  cases j with
  | zero => cases h : (vparts u)[0]? <;> simp [V.parts, V.cells, tok1]
  | succ j => simp [V.parts, V.cells]

theorem Good.box (G : Good Z ι e H vals w) {S : Nat → Prop} {cs : List V} {us : Array Value} (hs : srepL Z ι w cs us.toList)
    (ho : ∀ (j : Nat) (x : V) (y : Value), cs[j]? = some x → us[j]? = some y → own1 Z w x y)
    (hsub : ∀ (j : Nat) (β : Nat) (x : V) (y : Value), cs[j]? = some x → us[j]? = some y → tok1 x y = some β → ∃ t j', S t ∧ tokV (e t) (vals t) j' = some β)
    (hinj : ∀ (j j' β : Nat) (x x' : V) (y y' : Value), cs[j]? = some x → us[j]? = some y → tok1 x y = some β → cs[j']? = some x' → us[j']? = some y' → tok1 x' y' = some β → j = j')
    (lim : Nat) (ty : TypeId) :
    Post (TT e vals H ι w S) lim Z ι w (.ptr H.length 0) (H ++ [cs]) (.pointer (some ⟨w.heap.size, 0, none⟩)) (w.alloc (.cells us ty)) :=
  G.box' hs ho hsub hinj lim ty (by simp only [srep]; exact ⟨w.heap.size, by rw [← G.len]; simp, rfl⟩) (cold_ptr _ _ _)

/-- A new row that nobody changes. -/
theorem Good.row (G : Good Z ι e H vals w) {S : Nat → Prop} {k : Nat} {xs : List V} {us : Array Value} (hk : 0 < k) (hs : srepE Z ι w k xs us.toList) (lim : Nat) (ty : TypeId) :
    Post (TT e vals H ι w S) lim Z ι w (.sl true k xs) H (.slice (some ⟨w.heap.size, 0, none⟩) xs.length xs.length) (w.alloc (.cells us ty)) := by
  have X := fun T lim => ext_alloc (w := w) (ι := ι) G.fresh T lim (.cells us ty) (.log us.size) []
  simp only [List.append_nil] at X
  have hnew : (w.alloc (.cells us ty)).heap[w.heap.size]? = some (.cells us ty (0, 0)) := heap_alloc_new w _
  have hlen := srepE_length hs
  have hrep : srep (zset Z w.heap.size (.log us.size)) ι (w.alloc (.cells us ty)) (.sl true k xs) (.slice (some ⟨w.heap.size, 0, none⟩) xs.length xs.length) := by
    simp only [srep]
    refine .inr ⟨w.heap.size, 0, xs.length, us.toList, us.size, rfl, Nat.le_refl _, hk, by simp [zset], by simp, fun j x hj => ?_, srepE_keeps ((X (fun _ => False) 0).keeps ι.length) _ _ _ (srepE_closed _ _ _ hs) hs⟩
    rw [Nat.zero_add, cell_row hnew]
    simpa using hj
  have hcold : Cold (.sl true k xs) (.slice (some ⟨w.heap.size, 0, none⟩) xs.length xs.length) := fun j => by
    unfold tokV
    cases j <;> simp [V.parts, V.cells, vparts, Value.cells, tok1]
  have htokn : ∀ i' j γ, tokH H ι (w.alloc (.cells us ty)) i' j = some γ → tokH H ι w i' j = some γ := by
    intro i' j γ h
    obtain ⟨cs, δ, a, b, h1, h2, h3, h4, h5⟩ := tokH_lt h
    obtain ⟨β', us', ty', g1, g2, g3, _⟩ := G.blk i' cs h1
    obtain rfl : δ = β' := by simpa [h2] using g1
    have hcc : (w.alloc (.cells us ty)).cell? ⟨δ, j, none⟩ = w.cell? ⟨δ, j, none⟩ := World.cell?_alloc_lt w _ ⟨δ, j, none⟩ (G.box_lt g2)
    rw [hcc] at h4
    simp only [tokH, h1, h2, Option.bind_some, h3, h4, h5]
  have key : ∀ (l : Loc) γ, tok (one (.sl true k xs)) (fun _ => .slice (some ⟨w.heap.size, 0, none⟩) xs.length xs.length) H ι (w.alloc (.cells us ty)) l = some γ → ∃ p, l = .inr p ∧ tokH H ι w p.1 p.2 = some γ := by
    intro l γ hl
    cases l with
    | inl p =>
      obtain ⟨t', j⟩ := p
      by_cases ht' : t' = 0
      · subst ht'; simp only [tok, one, if_true] at hl; rw [hcold j] at hl; cases hl
      · simp [tok, one, ht', tokV_any] at hl
    | inr p => exact ⟨p, rfl, htokn _ _ _ hl⟩
  refine ⟨zset Z w.heap.size (.log us.size), ι, ⟨fun t' => ?_, G.len, fun i' cs h => ?_, fun t' => ?_, ?_, fresh_alloc G.fresh _ _⟩, X _ _, ?_⟩
  · by_cases ht' : t' = 0
    · subst ht'; simpa [one] using hrep
    · simp [one, ht', srep]
  · obtain ⟨β, us', ty', a1, a2, a3, a4, a5, _⟩ := G.blk_ext (X (fun _ => False) H.length) (fun _ h => h.elim) (fun _ _ _ h => h.elim) i' cs h (List.getElem?_eq_some_iff.1 h).1
    exact ⟨β, us', ty', a1, a2, a3, a4, a5⟩
  · by_cases ht' : t' = 0
    · subst ht'; simp only [one, if_true]; exact hcold.own
    · simp only [one, ht', if_false]; exact Cold.own (fun j => tokV_any _ _)
  · intro l l' γ hl hl'
    obtain ⟨p, rfl, h⟩ := key l γ hl
    obtain ⟨p', rfl, h'⟩ := key l' γ hl'
    exact G.uniq (.inr p) (.inr p') γ h h'
  · intro l γ hl
    obtain ⟨p, rfl, h⟩ := key l γ hl
    exact .inl (.inr ⟨_, _, h⟩)

end
end Go.Den
