import Derived.Test.YtllippimokoioaaDen9
set_option linter.unusedVariables false
namespace Go.Den

/-- An operation comes to a value and a world of which R holds. -/
def Runs (P : Program) (ρ : Operand → Value) (o : Oper) (w : World) (R : Value → World → Prop) : Prop :=
  (∃ u w', (execOp ρ o).run P w = .ok (.value u) w' ∧ R u w') ∨ (∃ w', (execOp ρ o).run P w = .ok .skip w' ∧ R undef w') ∨
  (∃ f args w1, (execOp ρ o).run P w = .ok (.enter f args) w1 ∧ Calls P f args w1 fun e w' => ∃ u, e = .returned u ∧ R u w')

theorem Runs.wp {P : Program} {a : Act} {o : Oper} {w : World} {R : Value → World → Prop} (h : Runs P a.eval o w R) {K : Act → World → Prop} {Q : Exit → Act → World → Prop}
    (hK : ∀ u w', R u w' → K (a.put o.dst u) w') : o.wp P a w K Q := by
  unfold Oper.wp
  rcases h with ⟨u, w', hr, h⟩ | ⟨w', hr, h⟩ | ⟨f, args, w1, hr, h⟩
  · rw [hr]; exact hK _ _ h
  · rw [hr]; exact hK _ _ h
  · rw [hr]
    refine h.mono fun e w' ⟨u, he, hR⟩ => ?_
    subst he
    exact hK _ _ hR

section
variable {Z : Nat → Zone} {ι : List Nat} {e : Env} {H : Heap} {w : World} {C : Ctx} {a : Act}

/-- of one value -/
theorem runs_val {P : Program} {o : Oper} {R : Value → World → Prop} {u : Value} {w' : World} (h : (execOp a.eval o).run P w = .ok (.value u) w') (hR : R u w') : Runs P a.eval o w R := .inl ⟨u, w', h, hR⟩

theorem move_ok {P : Program} (G : Good Z ι e H (fun t => a.tmps.getD t undef) w) (o : Oper) (x : Operand) (take : Bool) (lim : Nat) (ho : o.op = .move x ∨ o.op = .assign x) :
    Runs P a.eval o w (Post (TT e (fun t => a.tmps.getD t undef) H ι w (takesOf take o.op.operands.toList)) lim Z ι w (rdO C o.type e take x) H) := by
  have hops : o.op.operands.toList = [x] := by rcases ho with ho | ho <;> rw [ho] <;> rfl
  refine runs_val (u := a.eval x) (w' := w) (by rcases ho with ho | ho <;> simp [execOp, ho]) ?_
  rw [hops]
  refine G.still (rd_srep G C o.type take x) (rd_own G C o.type take x) (fun j β h => ?_) (fun j j' β h h' => ?_) lim
  · obtain ⟨n, rfl, h1, h2⟩ := rd_tok G C o.type take x [x] (by simp) j β h
    exact ⟨n, j, h1, h2⟩
  · obtain ⟨n, hn, _, h2⟩ := rd_tok G C o.type take x [x] (by simp) j β h
    obtain ⟨n', hn', _, h2'⟩ := rd_tok G C o.type take x [x] (by simp) j' β h'
    have : n = n' := by rw [hn] at hn'; simpa using hn'
    subst this
    simpa using G.uniq (.inl (n, j)) (.inl (n, j')) β h2 h2'

/-- of one value that bears no right to append, in the world as it was -/
theorem cold_val {P : Program} (G : Good Z ι e H (fun t => a.tmps.getD t undef) w) {o : Oper} {v : V} {u : Value} {lim : Nat} {S : Nat → Prop} (h : (execOp a.eval o).run P w = .ok (.value u) w) (hs : srep Z ι w v u) (hc : Cold v u) :
    Runs P a.eval o w (Post (TT e (fun t => a.tmps.getD t undef) H ι w S) lim Z ι w v H) := .inl ⟨u, w, h, G.cold S hs hc lim⟩

theorem extract_ok {P : Program} (G : Good Z ι e H (fun t => a.tmps.getD t undef) w) (o : Oper) (x : Operand) (i : Nat) (take : Bool) (lim : Nat) (ho : o.op = .extract x i) {vs : List V} {v : V} {S : Nat → Prop}
    (hx : rdO C 0 e take x = .tup vs) (hv : vs[i]? = some v) :
    Runs P a.eval o w (Post (TT e (fun t => a.tmps.getD t undef) H ι w S) lim Z ι w v.dem H) := by
  have hs := rd_srep G C 0 take x
  rw [hx] at hs
  simp only [srep] at hs
  obtain ⟨us, hu, hs⟩ := hs
  obtain ⟨u, hu1, hu2⟩ := srepT_get hs hv
  exact cold_val G (by simp [execOp, ho, hu, Instr.extract, hu1]) (srep_dem hu2) (cold_dem _ _)

theorem pick_ok {P : Program} (G : Good Z ι e H (fun t => a.tmps.getD t undef) w) (o : Oper) (c x y : Operand) (take : Bool) (lim : Nat) (ho : o.op = .pick c x y) {b : Bool} {S : Nat → Prop}
    (hc : rdO C 0 e take c = .sc (.bool b)) :
    Runs P a.eval o w (Post (TT e (fun t => a.tmps.getD t undef) H ι w S) lim Z ι w (if b then rdO C 0 e take x else rdO C 0 e take y).dem H) := by
  have hs := rd_srep G C 0 take c
  rw [hc] at hs
  simp only [srep] at hs
  refine cold_val G (u := if b then a.eval x else a.eval y) (by simp [execOp, ho, hs.1, asBool]) (srep_dem ?_) (cold_dem _ _)
  cases b
  · exact rd_srep G C 0 take y
  · exact rd_srep G C 0 take x

/-- an operand's cells -/
theorem rd_cells (G : Good Z ι e H (fun t => a.tmps.getD t undef) w) (C : Ctx) (t : TypeId) (take : Bool) (x : Operand) (hp : plain (rdO C t e take x) = true) :
    srepL Z ι w (rdO C t e take x).cells (a.eval x).cells.toList ∧ (∀ (j : Nat) (p : V) (q : Value), (rdO C t e take x).cells[j]? = some p → (a.eval x).cells[j]? = some q → own1 Z w p q) ∧
    (∀ (j β : Nat) (p : V) (q : Value), (rdO C t e take x).cells[j]? = some p → (a.eval x).cells[j]? = some q → tok1 p q = some β → ∃ t' j', takesOf take [x] t' ∧ tokV (e t') (a.tmps.getD t' undef) j' = some β) ∧
    (∀ (j j' β : Nat) (p p' : V) (q q' : Value), (rdO C t e take x).cells[j]? = some p → (a.eval x).cells[j]? = some q → tok1 p q = some β → (rdO C t e take x).cells[j']? = some p' → (a.eval x).cells[j']? = some q' → tok1 p' q' = some β → j = j') := by
  have hs := srep_cells' (rd_srep G C t take x) hp
  have hpp : (rdO C t e take x).parts = (rdO C t e take x).cells := by
    cases h : rdO C t e take x <;> simp_all [V.parts, plain]
  have hvp : vparts (a.eval x) = (a.eval x).cells.toList := by
    have h0 := rd_srep G C t take x
    cases h : a.eval x with
    | tuple us =>
      rw [h] at h0
      cases hr : rdO C t e take x <;> rw [hr] at h0 hp <;> simp [srep, plain] at h0 hp
      exact absurd h0.2 (by rw [← h0.1]; simp [flat])
    | _ => rfl
  have tk : ∀ (j β : Nat) (p : V) (q : Value), (rdO C t e take x).cells[j]? = some p → (a.eval x).cells[j]? = some q → tok1 p q = some β → tokV (rdO C t e take x) (a.eval x) j = some β := by
    intro j β p q h1 h2 h3
    unfold tokV
    rw [hpp, hvp, h1]
    simp [h2, h3]
  refine ⟨hs, fun j p q h1 h2 => rd_own G C t take x j p q (by rw [hpp]; exact h1) (by rw [hvp]; simpa using h2), fun j β p q h1 h2 h3 => ?_, fun j j' β p p' q q' h1 h2 h3 h1' h2' h3' => ?_⟩
  · obtain ⟨n, rfl, h4, h5⟩ := rd_tok G C t take x [x] (by simp) j β (tk j β p q h1 h2 h3)
    exact ⟨n, j, h4, h5⟩
  · obtain ⟨n, hn, h4, h5⟩ := rd_tok G C t take x [x] (by simp) j β (tk j β p q h1 h2 h3)
    obtain ⟨n', hn', h4', h5'⟩ := rd_tok G C t take x [x] (by simp) j' β (tk j' β p' q' h1' h2' h3')
    have : n = n' := by rw [hn] at hn'; simpa using hn'
    subst this
    simpa using G.uniq (.inl (n, j)) (.inl (n, j')) β h5 h5'

theorem alloc_ok (CO : CtxOK C) (G : Good Z ι e H (fun t => a.tmps.getD t undef) w) (o : Oper) (t : TypeId) (lim : Nat) (ho : o.op = .alloc t) {ti : TI} (hti : C.ti t = some ti) {S : Nat → Prop} :
    Runs C.P a.eval o w (Post (TT e (fun t => a.tmps.getD t undef) H ι w S) lim Z ι w (.ptr H.length 0) (H ++ [ti.zero])) := by
  obtain ⟨z, hz, h1, h2, h3⟩ := (CO.ti t ti hti).run_zero
  refine runs_val (u := .pointer (some ⟨w.heap.size, 0, none⟩)) (w' := w.alloc (.cells z.cells t)) (by simp [execOp, ho, Instr.alloc, hz, newVar, newRow]) ?_
  exact G.box (h1 Z ι w) (fun j x y hx hy β hβ => by rw [h2 j x y hx hy] at hβ; cases hβ) (fun j β x y hx hy hβ => by rw [h2 j x y hx hy] at hβ; cases hβ)
    (fun j j' β x x' y y' hx hy hβ => by rw [h2 j x y hx hy] at hβ; cases hβ) lim t

theorem box_ok (G : Good Z ι e H (fun t => a.tmps.getD t undef) w) (o : Oper) (t : TypeId) (x : Operand) (take : Bool) (lim : Nat) (ho : o.op = .box t x) (hp : plain (rdO C t e take x) = true) :
    Runs C.P a.eval o w (Post (TT e (fun t => a.tmps.getD t undef) H ι w (takesOf take o.op.operands.toList)) lim Z ι w (.ptr H.length 0) (H ++ [(rdO C t e take x).cells])) := by
  have hops : o.op.operands.toList = [x] := by rw [ho]; rfl
  rw [hops]
  obtain ⟨h1, h2, h3, h4⟩ := rd_cells G C t take x hp
  refine runs_val (u := .pointer (some ⟨w.heap.size, 0, none⟩)) (w' := w.alloc (.cells (a.eval x).cells t)) (by simp [execOp, ho, Instr.box, newVar, newRow]) ?_
  exact G.box h1 h2 h3 h4 lim t

theorem store_ok (CO : CtxOK C) (G : Good Z ι e H (fun t => a.tmps.getD t undef) w) (o : Oper) (t : TypeId) (x y : Operand) (take : Bool) (lim : Nat) (ho : o.op = .store t x y) {ti : TI} (hti : C.ti t = some ti)
    {id off : Nat} {cs cs' : List V} (hx : rdO C 0 e take x = .ptr id off) (hcs : H[id]? = some cs) (hlim : lim ≤ id) (hp : plain (rdO C t e take y) = true) (hsz : (rdO C t e take y).cells.length = ti.size)
    (hov : over cs off (rdO C t e take y).cells = some cs') :
    Runs C.P a.eval o w (Post (TT e (fun t => a.tmps.getD t undef) H ι w (takesOf take o.op.operands.toList)) lim Z ι w .any (H.set id cs')) := by
  have hops : o.op.operands.toList = [x, y] := by rw [ho]; rfl
  obtain ⟨h1, h2, h3, h4⟩ := rd_cells G C t take y hp
  have hs := rd_srep G C 0 take x
  rw [hx] at hs
  simp only [srep] at hs
  obtain ⟨β, hβ, hu⟩ := hs
  obtain ⟨β', us, ty, g1, g2, g3, g4, g5⟩ := G.blk id cs hcs
  obtain rfl : β = β' := by simpa [hβ] using g1
  obtain ⟨hl, hfit, _⟩ := over_get hov
  have hnl := srepL_length h1
  have hul := srepL_length g4
  simp only [Array.length_toList] at hnl hul
  have hst := run_storeCells_at C.P β off ty (a.eval y).cells.toList 0 us w g3 (by simp; omega) (srepL_one h1)
  have hpost := G.store (S := takesOf take o.op.operands.toList) (lim := lim) hcs hβ g3 hov hlim h1 (fun j p q e1 e2 => h2 j p q e1 (by simpa using e2))
    (fun j γ p q e1 e2 e3 => by
      obtain ⟨t', j', f1, f2⟩ := h3 j γ p q e1 (by simpa using e2) e3
      exact ⟨t', j', ⟨f1.1, by rw [hops]; have := f1.2; simp at this; simp [this]⟩, f2⟩)
    (fun j j' γ p p' q q' e1 e2 e3 e1' e2' e3' => h4 j j' γ p p' q q' e1 (by simpa using e2) e3 e1' (by simpa using e2') e3')
  refine .inr (.inl ⟨_, ?_, hpost⟩)
  have hsize : (sizeOf t).run C.P w = .ok ti.size w := (CO.ti t ti hti).run_size w
  have hne : ¬ ((a.eval y).cells.size ≠ ti.size) := by omega
  simp only [Nat.add_zero] at hst
  simp [execOp, ho, hu, Instr.storeAt, Instr.sureAddr, storeVar, hsize, hnl, hsz, hst]

theorem load_ptr_ok (CO : CtxOK C) (G : Good Z ι e H (fun t => a.tmps.getD t undef) w) (o : Oper) (t : TypeId) (x : Operand) (take : Bool) (lim : Nat) (ho : o.op = .load t x) {ti : TI} (hti : C.ti t = some ti)
    {id off : Nat} {cs ds : List V} {v : V} (hx : rdO C 0 e take x = .ptr id off) (hcs : H[id]? = some cs) (hsub : sub cs off ti.size = some ds) (hv : ofCells ti ds = some v) {S : Nat → Prop} :
    Runs C.P a.eval o w (Post (TT e (fun t => a.tmps.getD t undef) H ι w S) lim Z ι w v.dem H) := by
  have hs := rd_srep G C 0 take x
  rw [hx] at hs
  simp only [srep] at hs
  obtain ⟨β, hβ, hu⟩ := hs
  obtain ⟨β', us, ty, g1, g2, g3, g4, g5⟩ := G.blk id cs hcs
  obtain rfl : β = β' := by simpa [hβ] using g1
  unfold sub at hsub
  split at hsub
  · rename_i hle
    simp at hsub
    have hul := srepL_length g4
    have hs' : srepL Z ι w ds ((us.toList.drop off).take ti.size) := by rw [← hsub]; exact srepL_take _ (srepL_drop _ g4)
    have hlies : lies w β off ((us.toList.drop off).take ti.size) := by
      intro j q hj
      rw [cell_row g3]
      rw [List.getElem?_take] at hj
      split at hj
      · simpa using hj
      · cases hj
    obtain ⟨u, hr, hsr⟩ := load_ok (CO.ti t ti hti) hlies (by simp; simp at hul; omega) hs' hv
    exact cold_val G (by simp [execOp, ho, hu, Instr.loadAt, Instr.sureAddr, hr]) (srep_dem hsr) (cold_dem _ _)
  · cases hsub

theorem load_elp_ok (CO : CtxOK C) (G : Good Z ι e H (fun t => a.tmps.getD t undef) w) (o : Oper) (t : TypeId) (x : Operand) (take : Bool) (lim : Nat) (ho : o.op = .load t x) {ti : TI} (hti : C.ti t = some ti)
    {cs ds : List V} {v : V} (hx : rdO C 0 e take x = .elp cs) (hsub : sub cs 0 ti.size = some ds) (hv : ofCells ti ds = some v) {S : Nat → Prop} :
    Runs C.P a.eval o w (Post (TT e (fun t => a.tmps.getD t undef) H ι w S) lim Z ι w v.dem H) := by
  have hs := rd_srep G C 0 take x
  rw [hx] at hs
  simp only [srep] at hs
  obtain ⟨β, off, us, m, hu, hz, hm, hl, hL⟩ := hs
  unfold sub at hsub
  split at hsub
  · rename_i hle
    simp at hsub
    have hul := srepL_length hL
    have hs' : srepL Z ι w ds (us.take ti.size) := by rw [← hsub]; exact srepL_take _ hL
    have hlies : lies w β off (us.take ti.size) := by
      intro j q hj
      rw [List.getElem?_take] at hj
      split at hj
      · exact hl j q hj
      · cases hj
    obtain ⟨u, hr, hsr⟩ := load_ok (CO.ti t ti hti) hlies (by simp; omega) hs' hv
    exact cold_val G (by simp [execOp, ho, hu, Instr.loadAt, Instr.sureAddr, hr]) (srep_dem hsr) (cold_dem _ _)
  · cases hsub

end
end Go.Den
