import Derived.Test.YtllippimokoioaaDen8
set_option linter.unusedVariables false
namespace Go.Den

theorem fold_list : ∀ (vs : List Value) (s off : Nat) (cs : Array Value), off + s + vs.length ≤ cs.size →
    ((vs.zipIdx s).foldl (fun (cs : Array Value) (p : Value × Nat) => cs.setIfInBounds (off + p.2) p.1) cs).toList = cs.toList.take (off + s) ++ vs ++ cs.toList.drop (off + s + vs.length)
  | [], s, off, cs, h => by simp
  | v :: vs, s, off, cs, h => by
    simp only [List.length_cons] at h
    rw [List.zipIdx_cons, List.foldl_cons, fold_list vs (s + 1) off _ (by simp; omega)]
    simp only [Array.toList_setIfInBounds, List.length_cons]
    have h1 : (cs.toList.set (off + s) v).take (off + (s + 1)) = cs.toList.take (off + s) ++ [v] := by
      rw [show off + (s + 1) = off + s + 1 by omega, List.take_succ_eq_append_getElem (by simp; omega)]
      simp [List.take_set]
      exact List.set_eq_of_length_le (by simp; omega)
    have h2 : (cs.toList.set (off + s) v).drop (off + (s + 1) + vs.length) = cs.toList.drop (off + s + (vs.length + 1)) := by
      rw [List.drop_set, if_pos (by omega)]
      congr 1
      omega
    rw [h1, h2]
    simp

theorem fold_arr (vs : Array Value) (off : Nat) (cs : Array Value) (h : off + vs.size ≤ cs.size) :
    (vs.zipIdx.foldl (fun (cs : Array Value) (p : Value × Nat) => cs.setIfInBounds (off + p.2) p.1) cs).toList = cs.toList.take off ++ vs.toList ++ cs.toList.drop (off + vs.size) := by
  rw [← Array.foldl_toList, Array.toList_zipIdx, fold_list vs.toList 0 off cs (by simpa using h)]
  simp

section
variable {Z : Nat → Zone} {ι : List Nat} {w : World} {P : Program}

/-- parts and their values -/
inductive Parts (Z : Nat → Zone) (ι : List Nat) (w : World) : List (Nat × V) → List (Nat × Value) → Prop where
  | nil : Parts Z ι w [] []
  | cons {i : Nat} {v : V} {u : Value} {ps : List (Nat × V)} {qs : List (Nat × Value)} (h : srep Z ι w v u) (hc : Cold v u) (t : Parts Z ι w ps qs) : Parts Z ι w ((i, v) :: ps) ((i, u) :: qs)

theorem srep_cells' {v : V} {u : Value} (h : srep Z ι w v u) (hp : plain v = true) : srepL Z ι w v.cells u.cells.toList :=
  srep_cells h (fun e => by rw [e] at hp; cases hp) (fun vs e => by rw [e] at hp; cases hp)

theorem cold_cells {v : V} {u : Value} (h : srep Z ι w v u) (hp : plain v = true) (hc : Cold v u) (j : Nat) (x : V) (y : Value) (hx : v.cells[j]? = some x) (hy : u.cells[j]? = some y) : tok1 x y = none := by
  have hpp : v.parts = v.cells := by cases v <;> simp_all [V.parts, plain]
  have hvp : vparts u = u.cells.toList := by
    cases u with
    | tuple us =>
      cases v <;> simp [srep, plain] at h hp
      exact absurd h.2 (by rw [← h.1]; simp [flat])
    | _ => rfl
  have := hc j
  unfold tokV at this
  rw [hpp, hvp, hx] at this
  simpa [hy] using this

theorem fill_ok {place : Nat → Option (Nat × Nat)} : ∀ {ps : List (Nat × V)} {qs : List (Nat × Value)}, Parts Z ι w ps qs → ∀ {cs cs' : List V} {us : Array Value},
    srepL Z ι w cs us.toList → (∀ (j : Nat) (x : V) (y : Value), cs[j]? = some x → us[j]? = some y → tok1 x y = none) → fillV place cs ps = some cs' →
    ∃ us', Instr.fill place us qs = some us' ∧ srepL Z ι w cs' us'.toList ∧ ∀ (j : Nat) (x : V) (y : Value), cs'[j]? = some x → us'[j]? = some y → tok1 x y = none
  | _, _, .nil, cs, cs', us, hs, hc, h => by
    simp only [fillV] at h
    cases h
    exact ⟨us, rfl, hs, hc⟩
  | _, _, @Parts.cons _ _ _ i v u ps qs hv hcv ht, cs, cs', us, hs, hc, h => by
    simp only [fillV] at h
    cases hpl : place i with
    | none => simp [hpl] at h
    | some p =>
      obtain ⟨off, size⟩ := p
      rw [hpl] at h
      simp only at h
      split at h
      · rename_i hsz
        obtain ⟨ds, hd, h⟩ := Option.bind_eq_some_iff.1 h
        obtain ⟨h1, h2, h3⟩ := over_get hd
        have hcl := srep_cells' hv hsz.1
        have hl1 := srepL_length hcl
        have hl2 := srepL_length hs
        simp only [Array.length_toList] at hl1 hl2
        have hsz2 := hsz.2
        have hfold := fold_arr u.cells off us (by omega)
        have hs' : srepL Z ι w ds (u.cells.zipIdx.foldl (fun (cs : Array Value) (p : Value × Nat) => cs.setIfInBounds (off + p.2) p.1) us).toList := by
          rw [hfold, h3, hl1]
          exact srepL_append (srepL_append (srepL_take off hs) hcl) (srepL_drop _ hs)
        have hc' : ∀ (j : Nat) (x : V) (y : Value), ds[j]? = some x → (u.cells.zipIdx.foldl (fun (cs : Array Value) (p : Value × Nat) => cs.setIfInBounds (off + p.2) p.1) us)[j]? = some y → tok1 x y = none := by
          intro j x y hx hy
          rw [← Array.getElem?_toList, hfold, ← Array.length_toList, over_at (by simp; omega)] at hy
          rw [h3, over_at h2] at hx
          simp only [Array.length_toList, hl1] at hy
          split at hx
          · rename_i hr
            rw [if_pos hr] at hy
            exact cold_cells hv hsz.1 hcv _ x y hx (by simpa using hy)
          · rename_i hr
            rw [if_neg hr] at hy
            exact hc j x y hx (by simpa using hy)
        obtain ⟨us', e1, e2⟩ := fill_ok ht hs' hc' h
        refine ⟨us', ?_, e2⟩
        unfold Instr.fill
        simp only [hpl]
        rw [if_neg (by simp; omega)]
        exact e1
      · cases h

theorem srepE_set {k : Nat} {xs : List V} {us : List Value} {i : Nat} {v : V} {u : Value} (hs : srepE Z ι w k xs us) (hi : i < xs.length) (hv : srep Z ι w v u) (hk : u.cells.size = k) (h1 : ∀ x ∈ u.cells.toList, x.oneCell' = true) :
    srepE Z ι w k (xs.set i v) (us.take (i * k) ++ u.cells.toList ++ us.drop (i * k + k)) := by
  rw [List.set_eq_take_append_cons_drop, if_pos hi]
  have a := srepE_take i hs
  have b := srepE_drop (i + 1) hs
  rw [Nat.add_mul, Nat.one_mul] at b
  have c : srepE Z ι w k [v] u.cells.toList := by
    simp only [srepE]
    exact ⟨u, [], by simp, hk, h1, hv, rfl⟩
  have := srepE_append (srepE_append a c) b
  simpa using this

theorem fillL_ok {k : Nat} (hk : 0 < k) : ∀ {ps : List (Nat × V)} {qs : List (Nat × Value)}, Parts Z ι w ps qs → ∀ {xs xs' : List V} {us : Array Value},
    srepE Z ι w k xs us.toList → fillL k xs ps = some xs' → ∃ us', Instr.fill (fun i => some (i * k, k)) us qs = some us' ∧ srepE Z ι w k xs' us'.toList ∧ xs'.length = xs.length
  | _, _, .nil, cs, cs', us, hs, h => by
    simp only [fillL] at h
    cases h
    exact ⟨us, rfl, hs, rfl⟩
  | _, _, @Parts.cons _ _ _ i v u ps qs hv hc ht, cs, cs', us, hs, h => by
    simp only [fillL] at h
    split at h
    · rename_i hsz
      split at h
      · rename_i hi
        have hcl := srep_cells' hv hsz.1
        have hl1 := srepL_length hcl
        have hl2 := srepE_length hs
        simp only [Array.length_toList] at hl1 hl2
        have hfit : i * k + k ≤ us.size := by
          rw [hl2, ← Nat.succ_mul]
          exact Nat.mul_le_mul_right _ hi
        have hsz2 := hsz.2
        have hfold := fold_arr u.cells (i * k) us (by omega)
        have hs' : srepE Z ι w k (cs.set i v) (u.cells.zipIdx.foldl (fun (cs : Array Value) (p : Value × Nat) => cs.setIfInBounds (i * k + p.2) p.1) us).toList := by
          rw [hfold, hl1, hsz.2]
          exact srepE_set hs hi hv (by omega) (srepL_one hcl)
        obtain ⟨us', e1, e2, e3⟩ := fillL_ok hk ht hs' h
        refine ⟨us', ?_, e2, by simpa using e3⟩
        unfold Instr.fill
        simp only
        rw [if_neg (by simp; omega)]
        exact e1
      · cases h
    · cases h

/-- n values of noughts, one behind another -/
theorem zeros_ok {k : Nat} (zero : Array Value) (z : V) (u : Value) (hk : 0 < k) (hz : u.cells = zero) (hzs : zero.size = k) (h1 : ∀ x ∈ zero.toList, x.oneCell' = true) (hs : srep Z ι w z u) (n : Nat) :
    srepE Z ι w k (List.replicate n z) ((Array.range (n * k)).map (zero[· % zero.size]!)).toList := by
  have key : ((Array.range (n * k)).map (zero[· % zero.size]!)).toList = (List.replicate n zero.toList).flatten := by
    induction n with
    | zero => simp
    | succ n ih =>
      rw [List.replicate_succ', List.flatten_append, ← ih]
      apply List.ext_getElem
      · simp [hzs, Nat.add_mul]
      · intro j hj hj'
        simp only [Array.toList_map, Array.toList_range, List.getElem_map, List.getElem_range]
        rw [List.getElem_append]
        split
        · simp
        · rename_i hge
          simp at hge hj
          have : j % zero.size = j - n * k := by
            rw [hzs]
            have : j = (j - n * k) + k * n := by rw [Nat.mul_comm k n]; omega
            rw [this, Nat.add_mul_mod_self_left, Nat.mod_eq_of_lt (by rw [Nat.add_mul] at hj; omega)]
            rw [Nat.mul_comm k n]; omega
          have hlt : j - n * k < zero.size := by rw [hzs]; rw [Nat.add_mul] at hj; omega
          simp [this, hlt]
  rw [key]
  clear key
  induction n with
  | zero => simp [srepE]
  | succ n ih =>
    simp only [List.replicate_succ, List.flatten_cons, srepE]
    exact ⟨u, _, by rw [hz], by rw [hz]; exact hzs, by rw [hz]; exact h1, hs, ih⟩

end
end Go.Den
