import Derived.Test.YtllippimokoioaaDen4
set_option linter.unusedVariables false
namespace Go.Den

theorem over_get {cs cs' vs : List V} {off : Nat} (h : over cs off vs = some cs') : cs'.length = cs.length ∧ off + vs.length ≤ cs.length ∧ cs' = cs.take off ++ vs ++ cs.drop (off + vs.length) := by
  unfold over at h
  split at h
  · rename_i hl
    simp at h
    subst h
    refine ⟨?_, hl, by simp⟩
    simp
    omega
  · cases h

theorem over_at {α : Type} {cs vs : List α} {off : Nat} (hl : off + vs.length ≤ cs.length) (j : Nat) :
    (cs.take off ++ vs ++ cs.drop (off + vs.length))[j]? = if off ≤ j ∧ j < off + vs.length then vs[j - off]? else cs[j]? := by
  by_cases h1 : j < off
  · rw [if_neg (by omega), List.append_assoc, List.getElem?_append_left (by simp; omega), List.getElem?_take, if_pos h1]
  · by_cases h2 : j < off + vs.length
    · rw [if_pos (by omega), List.append_assoc, List.getElem?_append_right (by simp; omega), List.getElem?_append_left (by simp; omega)]
      congr 1
      simp
      omega
    · rw [if_neg (by omega), List.getElem?_append_right (by simp; omega), List.getElem?_drop]
      congr 1
      simp
      omega

section
variable {Z : Nat → Zone} {ι : List Nat} {e : Env} {H : Heap} {vals : Nat → Value} {w : World}

/-- A store into a block of the list. -/
theorem Good.store (G : Good Z ι e H vals w) {S : Nat → Prop} {id off β : Nat} {cs vs cs' : List V} {us : Array Value} {news : List Value} {ty : TypeId} {lim : Nat}
    (hid : H[id]? = some cs) (hβ : ι[id]? = some β) (hh : w.heap[β]? = some (.cells us ty (0, 0))) (hov : over cs off vs = some cs') (hlim : lim ≤ id)
    (hs : srepL Z ι w vs news)
    (ho : ∀ (j : Nat) (x : V) (y : Value), vs[j]? = some x → news[j]? = some y → own1 Z w x y)
    (hsub : ∀ (j : Nat) (γ : Nat) (x : V) (y : Value), vs[j]? = some x → news[j]? = some y → tok1 x y = some γ → ∃ t j', S t ∧ tokV (e t) (vals t) j' = some γ)
    (hinj : ∀ (j j' γ : Nat) (x x' : V) (y y' : Value), vs[j]? = some x → news[j]? = some y → tok1 x y = some γ → vs[j']? = some x' → news[j']? = some y' → tok1 x' y' = some γ → j = j') :
    Post (TT e vals H ι w S) lim Z ι w .any (H.set id cs') undef (w.setRow β (us.toList.take off ++ news ++ us.toList.drop (off + news.length)).toArray) := by
  obtain ⟨hl, hfit, hcs'⟩ := over_get hov
  have hnl := srepL_length hs
  obtain ⟨β', us', ty', g1, g2, g3, g4, g5⟩ := G.blk id cs hid
  obtain rfl : β = β' := by simpa [hβ] using g1
  rw [hh] at g3
  simp at g3
  obtain ⟨rfl, rfl⟩ := g3
  have hul := srepL_length g4
  have hidlt : id < H.length := (List.getElem?_eq_some_iff.1 hid).1
  have hrow : (w.setRow β (us.toList.take off ++ news ++ us.toList.drop (off + news.length)).toArray).heap[β]? = some (.cells (us.toList.take off ++ news ++ us.toList.drop (off + news.length)).toArray ty (0, 0)) := setRow_heap w β us _ ty _ hh
  have hoth : ∀ γ, γ ≠ β → (w.setRow β (us.toList.take off ++ news ++ us.toList.drop (off + news.length)).toArray).heap[γ]? = w.heap[γ]? := fun γ h => setRow_other w β γ _ h
  generalize hw' : w.setRow β (us.toList.take off ++ news ++ us.toList.drop (off + news.length)).toArray = w' at *
  have hsz : w'.heap.size = w.heap.size := by rw [← hw']; simp
  have hcell : ∀ γ o, γ ≠ β → w'.cell? ⟨γ, o, none⟩ = w.cell? ⟨γ, o, none⟩ := fun γ o h => World.cell?_of_block (a := ⟨γ, o, none⟩) (hoth γ h)
  have X : ∀ T, Ext T lim Z ι w Z ι w' := fun T => {
    size := by omega
    os := by rw [← hw']; rfl
    out := by rw [← hw']; rfl
    tape := by rw [← hw']; rfl
    heap := fun γ _ _ hz => hoth γ (fun h => hz id hlim (by rw [h]; exact g2))
    zone := fun _ _ _ => rfl
    log := fun γ m hm => ⟨m, Nat.le_refl _, hm, fun o _ => hcell γ o (fun h => by rw [h, g2] at hm; cases hm)⟩
    idx := fun _ _ h => h }
  have K := (X (fun _ => False)).keeps ι.length
  -- what the blocks hold
  have hrep : srepL Z ι w' cs' (us.toList.take off ++ news ++ us.toList.drop (off + news.length)) := by
    rw [hcs']
    have h1 := srepL_keeps K _ _ (srepL_closed _ _ g4) g4
    have h2 := srepL_keeps K _ _ (srepL_closed _ _ hs) hs
    rw [hnl]
    exact srepL_append (srepL_append (srepL_take off h1) h2) (srepL_drop _ h1)
  have htok : ∀ i j γ, tokH (H.set id cs') ι w' i j = some γ → (tokH H ι w i j = some γ ∧ ¬ (i = id ∧ off ≤ j ∧ j < off + vs.length)) ∨
      (i = id ∧ off ≤ j ∧ ∃ x y, vs[j - off]? = some x ∧ news[j - off]? = some y ∧ tok1 x y = some γ) := by
    intro i j γ h
    obtain ⟨ds, δ, x, y, h1, h2, h3, h4, h5⟩ := tokH_lt h
    by_cases hi : i = id
    · subst hi
      obtain rfl : β = δ := by simpa [hβ] using h2
      have : ds = cs' := by simpa [hidlt] using h1.symm
      subst this
      rw [hcs', over_at hfit] at h3
      rw [cell_row hrow, List.getElem?_toArray, over_at (by simp [hnl]; simp at hul; omega)] at h4
      rw [hnl] at h4
      split at h3
      · rename_i hr
        rw [if_pos hr] at h4
        exact .inr ⟨rfl, hr.1, x, y, h3, h4, h5⟩
      · rename_i hr
        rw [if_neg hr] at h4
        left
        refine ⟨?_, fun h => hr h.2⟩
        simp only [tokH, hid, hβ, Option.bind_some, h3, cell_row hh]
        simp at h4
        simp only [h4, h5]
    · left
      refine ⟨?_, fun h => hi h.1⟩
      rw [List.getElem?_set_ne (Ne.symm hi)] at h1
      obtain ⟨β2, us2, ty2, k1, k2, k3, _⟩ := G.blk i ds h1
      obtain rfl : δ = β2 := by simpa [h2] using k1
      have hne : δ ≠ β := fun h => by rw [h, g2] at k2; cases k2; exact hi rfl
      rw [hcell δ j hne] at h4
      simp only [tokH, h1, h2, Option.bind_some, h3, h4, h5]
  have hown : ∀ x y, own1 Z w x y → (∀ γ, tok1 x y = some γ → γ ≠ β) → own1 Z w' x y := fun x y h hne => own1_kept h fun γ hγ => ⟨rfl, hoth γ (hne γ hγ)⟩
  have hnoβ : ∀ l γ, tok e vals H ι w l = some γ → γ ≠ β := fun l γ h heq => by
    obtain ⟨_, m, hm⟩ := G.tok_ok h
    rw [heq, g2] at hm
    cases hm
  refine ⟨Z, ι, ⟨fun t => ?_, ?_, fun i ds h => ?_, fun t => ?_, ?_, fun γ h => G.fresh γ (by omega)⟩, X _, ?_⟩
  · by_cases ht : t = 0 <;> simp [one, ht, srep]
  · simp [G.len]
  · by_cases hi : i = id
    · subst hi
      have : ds = cs' := by simpa [hidlt] using h.symm
      subst this
      refine ⟨β, _, ty, hβ, g2, hrow, by simpa using hrep, fun j x y hx hy => ?_⟩
      rw [hcs', over_at hfit] at hx
      rw [List.getElem?_toArray, over_at (by simp [hnl]; simp at hul; omega), hnl] at hy
      split at hx
      · rename_i hr
        rw [if_pos hr] at hy
        refine hown x y (ho _ x y hx hy) fun γ hγ => ?_
        obtain ⟨t, j', _, h'⟩ := hsub _ γ x y hx hy hγ
        exact hnoβ (.inl (t, j')) γ h'
      · rename_i hr
        rw [if_neg hr] at hy
        simp at hy
        refine hown x y (g5 j x y hx hy) fun γ hγ => ?_
        exact hnoβ (.inr (i, j)) γ (by simp only [tok, tokH, hid, hβ, Option.bind_some, hx, cell_row hh, hy, hγ])
    · rw [List.getElem?_set_ne (Ne.symm hi)] at h
      obtain ⟨β2, us2, ty2, k1, k2, k3, k4, k5⟩ := G.blk i ds h
      have hne : β2 ≠ β := fun h => by rw [h, g2] at k2; cases k2; exact hi rfl
      refine ⟨β2, us2, ty2, k1, k2, by rw [hoth β2 hne]; exact k3, srepL_keeps K _ _ (srepL_closed _ _ k4) k4, fun j x y hx hy => ?_⟩
      refine hown x y (k5 j x y hx hy) fun γ hγ => ?_
      exact hnoβ (.inr (i, j)) γ (by simp only [tok, tokH, h, k1, Option.bind_some, hx, cell_row k3, hy, hγ])
  · by_cases ht : t = 0 <;> simp only [one, ht, if_true, if_false] <;> exact Cold.own (fun j => tokV_any _ _)
  · have key : ∀ (l : Loc) γ, tok (one V.any) (fun _ => undef) (H.set id cs') ι w' l = some γ → ∃ p, l = .inr p ∧ tokH (H.set id cs') ι w' p.1 p.2 = some γ := by
      intro l γ hl
      cases l with
      | inl p =>
        obtain ⟨t, j⟩ := p
        by_cases ht : t = 0 <;> simp [tok, one, ht, tokV_any] at hl
      | inr p => exact ⟨p, rfl, hl⟩
    intro l l' γ hl hl'
    obtain ⟨⟨i, j⟩, rfl, h⟩ := key l γ hl
    obtain ⟨⟨i', j'⟩, rfl, h'⟩ := key l' γ hl'
    rcases htok i j γ h with ⟨k, kn⟩ | ⟨rfl, hj, x, y, hx, hy, ht⟩ <;> rcases htok i' j' γ h' with ⟨k', kn'⟩ | ⟨rfl, hj', x', y', hx', hy', ht'⟩
    · exact G.uniq (.inr (i, j)) (.inr (i', j')) γ k k'
    · obtain ⟨t, j'', _, h2⟩ := hsub _ γ x' y' hx' hy' ht'
      cases G.uniq (.inl (t, j'')) (.inr (i, j)) γ h2 k
    · obtain ⟨t, j'', _, h2⟩ := hsub _ γ x y hx hy ht
      cases G.uniq (.inl (t, j'')) (.inr (i', j')) γ h2 k'
    · have := hinj _ _ γ x x' y y' hx hy ht hx' hy' ht'
      have : j = j' := by omega
      rw [this]
  · intro l γ hl
    left
    cases l with
    | inl p =>
      obtain ⟨t, j⟩ := p
      by_cases ht : t = 0 <;> simp [tok, one, ht, tokV_any] at hl
    | inr p =>
      rcases htok p.1 p.2 γ hl with ⟨k, _⟩ | ⟨_, _, x, y, hx, hy, ht⟩
      · exact .inr ⟨_, _, k⟩
      · exact .inl (hsub _ γ x y hx hy ht)

end
end Go.Den
