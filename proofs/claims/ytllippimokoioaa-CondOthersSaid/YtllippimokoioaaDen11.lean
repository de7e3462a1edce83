import Derived.Test.YtllippimokoioaaDen10
set_option linter.unusedVariables false
namespace Go.Den

section
variable {Z : Nat → Zone} {ι : List Nat} {e : Env} {H : Heap} {w : World} {C : Ctx} {a : Act}

theorem tok1_ne {x : V} (h : ∀ k xs, x ≠ .sl true k xs) (y : Value) : tok1 x y = none := by
  cases x with
  | sl o k xs =>
    cases o with
    | true => exact absurd rfl (h k xs)
    | false => rfl
  | _ => rfl

theorem cold_one {v : V} (h : v.parts = [v]) (h' : ∀ k xs, v ≠ .sl true k xs) (u : Value) : Cold v u := by
  intro j
  unfold tokV
  rw [h]
  cases j with
  | zero => cases hv : (vparts u)[0]? <;> simp [tok1_ne h']
  | succ j => simp

theorem cold_agg {cs : List V} {us : Array Value} (h : ∀ (j : Nat) (x : V) (y : Value), cs[j]? = some x → us[j]? = some y → tok1 x y = none) : Cold (.agg cs) (.agg us) := by
  intro j
  unfold tokV
  cases hc : (V.agg cs).parts[j]? with
  | none => rfl
  | some c => 
    cases hv : (vparts (.agg us))[j]? with
    | none => rfl
    | some y => exact h j c y hc (by simpa [vparts, Value.cells] using hv)

theorem parts_ok (G : Good Z ι e H (fun t => a.tmps.getD t undef) w) (C : Ctx) (take : Bool) (f : Nat → TypeId) : ∀ (ps : List (Nat × Operand)),
    Parts Z ι w (ps.map fun p => (p.1, (rdO C (f p.1) e take p.2).dem)) (ps.map fun p => (p.1, a.eval p.2))
  | [] => .nil
  | p :: ps => .cons (srep_dem (rd_srep G C _ take p.2)) (cold_dem _ _) (parts_ok G C take f ps)

theorem nilCheck_ok (G : Good Z ι e H (fun t => a.tmps.getD t undef) w) (o : Oper) (x : Operand) (take : Bool) (lim : Nat) (ho : o.op = .nilCheck x) {v : V} {S : Nat → Prop}
    (hx : rdO C 0 e take x = v) (hv : (∃ id off, v = .ptr id off) ∨ (∃ cs, v = .elp cs) ∨ ∃ f p q, v = .fn (.func f) p q) :
    Runs C.P a.eval o w (Post (TT e (fun t => a.tmps.getD t undef) H ι w S) lim Z ι w v H) := by
  have hs := rd_srep G C 0 take x
  rw [hx] at hs
  have hc : Cold v (a.eval x) := by
    rcases hv with ⟨id, off, rfl⟩ | ⟨cs, rfl⟩ | ⟨f, p, q, rfl⟩ <;> exact cold_one rfl (fun _ _ h => by cases h) _
  refine cold_val G (u := a.eval x) ?_ hs hc
  rcases hv with ⟨id, off, rfl⟩ | ⟨cs, rfl⟩ | ⟨f, p, q, rfl⟩ <;> simp only [srep] at hs
  · obtain ⟨β, _, hu⟩ := hs
    simp [execOp, ho, hu]
  · obtain ⟨β, off, us, m, hu, _⟩ := hs
    simp [execOp, ho, hu]
  · obtain ⟨us, ws, hu, _⟩ := hs
    simp [execOp, ho, hu]

theorem binOp_ok (CO : CtxOK C) (G : Good Z ι e H (fun t => a.tmps.getD t undef) w) (o : Oper) (op : BinOp) (t yt : TypeId) (x y : Operand) (take : Bool) (lim : Nat) (ho : o.op = .binOp op t x y yt) {v : V} {S : Nat → Prop}
    (h : binV C t op (rdO C t e take x) (rdO C t e take y) = some v) : Runs C.P a.eval o w (Post (TT e (fun t => a.tmps.getD t undef) H ι w S) lim Z ι w v H) := by
  obtain ⟨u, h1, h2, h3⟩ := binV_ok CO (rd_srep G C t take x) (rd_srep G C t take y) h x y
  refine cold_val G ?_ h2 h3
  simp only [execOp, ho, Sem.run_bind] at h1 ⊢
  rw [h1]
  rfl

theorem unOp_ok (G : Good Z ι e H (fun t => a.tmps.getD t undef) w) (o : Oper) (op : UnOp) (t : TypeId) (x : Operand) (take : Bool) (lim : Nat) (ho : o.op = .unOp op t x) {v : V} {S : Nat → Prop}
    (h : unV op (rdO C 0 e take x) = some v) : Runs C.P a.eval o w (Post (TT e (fun t => a.tmps.getD t undef) H ι w S) lim Z ι w v H) := by
  obtain ⟨u, h1, h2, h3⟩ := unV_ok (P := C.P) (rd_srep G C 0 take x) h
  exact cold_val G (by simp [execOp, ho, h1]) h2 h3

theorem convert_ok (CO : CtxOK C) (G : Good Z ι e H (fun t => a.tmps.getD t undef) w) (o : Oper) (s d : TypeId) (x : Operand) (take : Bool) (lim : Nat) (ho : o.op = .convert s d x) {v : V} {S : Nat → Prop}
    (h : convV C s d (rdO C s e take x) = some v) : Runs C.P a.eval o w (Post (TT e (fun t => a.tmps.getD t undef) H ι w S) lim Z ι w v H) := by
  obtain ⟨u, h1, h2, h3⟩ := convV_ok CO (rd_srep G C s take x) h
  exact cold_val G (by simp [execOp, ho, h1]) h2 h3

theorem build_struct_ok (CO : CtxOK C) (G : Good Z ι e H (fun t => a.tmps.getD t undef) w) (o : Oper) (t : TypeId) (ps : Array (Nat × Operand)) (take : Bool) (lim : Nat) (ho : o.op = .build t ps) {zero : List V} {by_ : Nat} {fs : List (TypeId × Nat)}
    (hti : C.ti t = some ⟨zero, by_, .struct fs⟩) {cs : List V} {S : Nat → Prop}
    (h : fillV (fun i => (fs[i]?).bind fun (u, off) => (C.ti u).map fun ti => (off, ti.size)) zero (ps.toList.map fun p => (p.1, (rdO C (((fs[p.1]?).map (·.1)).getD 0) e take p.2).dem)) = some cs)
    :
    Runs C.P a.eval o w (Post (TT e (fun t => a.tmps.getD t undef) H ι w S) lim Z ι w (.agg cs) H) := by
  obtain ⟨z, hz, h1, h2, h3⟩ := (CO.ti t _ hti).run_zero
  have hk := (CO.ti t _ hti).kind
  simp only [kindOK] at hk
  obtain ⟨fields, hu, hf⟩ := hk
  have hall := CO.fields t _ _ _ hti
  have hzc : z.cells.toList.length = zero.length := srepL_length (h1 Z ι w)
  obtain ⟨us', e1, e2⟩ := fill_ok (parts_ok G C take (fun i => ((fs[i]?).map (·.1)).getD 0) ps.toList) (h1 Z ι w) h2 h
  -- the fields' places
  have hplaces : ∀ (fl : List Field), (∀ f ∈ fl, ∃ ti, C.ti f.type = some ti) →
      ∃ pl : List (Nat × Nat), (fl.mapM fun f => (do pure (f.offset, ← sizeOf f.type) : Sem (Nat × Nat))).run C.P w = .ok pl w ∧ pl = fl.map fun f => (f.offset, ((C.ti f.type).map TI.size).getD 0) := by
    intro fl
    induction fl with
    | nil => intro _; exact ⟨[], by simp, rfl⟩
    | cons f fl ih =>
      intro hh
      obtain ⟨ti, hti'⟩ := hh f List.mem_cons_self
      obtain ⟨pl, hr, hpl⟩ := ih (fun g hg => hh g (List.mem_cons_of_mem _ hg))
      refine ⟨(f.offset, ti.size) :: pl, ?_, by simp [hti', hpl]⟩
      simp only [List.mapM_cons, Sem.run_bind, (CO.ti f.type ti hti').run_size, Result.andThen_ok, Sem.run_pure, hr]
  have hflds : ∀ f ∈ fields.toList, ∃ ti, C.ti f.type = some ti := fun f hf' => by
    have : (f.type, f.offset) ∈ fs := by rw [← hf]; exact List.mem_map.2 ⟨f, hf', rfl⟩
    exact hall _ this
  obtain ⟨pl, hr, hpl⟩ := hplaces fields.toList hflds
  have hplace : (fun (i : Nat) => (pl.toArray)[i]?) = (fun (i : Nat) => (fs[i]?).bind fun (x : TypeId × Nat) => (C.ti x.1).map fun ti => (x.2, ti.size)) := by
    funext i
    rw [List.getElem?_toArray, hpl, ← hf]
    simp only [List.getElem?_map]
    cases hfi : fields.toList[i]? with
    | none => rfl
    | some f =>
      obtain ⟨ti, hti'⟩ := hflds f (List.mem_of_getElem? hfi)
      simp [hti']
  refine cold_val G (u := .agg us') ?_ (by simp only [srep]; exact ⟨us'.toList, by simp, e2.1⟩) (cold_agg e2.2)
  have hmap : (fields.mapM fun f => (do pure (f.offset, ← sizeOf f.type) : Sem (Nat × Nat))).run C.P w = .ok pl.toArray w := by
    rw [Array.mapM_eq_mapM_toList]
    simp only [Sem.run_map, hr, Result.andThen_ok]
  have hparts : (ps.map fun (i, x) => (i, a.eval x)).toList = ps.toList.map fun p => (p.1, a.eval p.2) := by simp
  simp only [execOp, ho, Instr.build, Sem.run_bind, hz, Result.andThen_ok, run_underlying hu, hmap, hplace, hparts, e1, Sem.run_pure]


theorem build_array_ok (CO : CtxOK C) (G : Good Z ι e H (fun t => a.tmps.getD t undef) w) (o : Oper) (t : TypeId) (ps : Array (Nat × Operand)) (take : Bool) (lim : Nat) (ho : o.op = .build t ps) {zero : List V} {by_ n : Nat} {el : TypeId} {ti : TI}
    (hti : C.ti t = some ⟨zero, by_, .array n el⟩) (hel : C.ti el = some ti) {cs : List V} {S : Nat → Prop}
    (h : fillV (fun i => some (i * ti.size, ti.size)) zero (ps.toList.map fun p => (p.1, (rdO C el e take p.2).dem)) = some cs) :
    Runs C.P a.eval o w (Post (TT e (fun t => a.tmps.getD t undef) H ι w S) lim Z ι w (.agg cs) H) := by
  obtain ⟨z, hz, h1, h2, h3⟩ := (CO.ti t _ hti).run_zero
  have hk := (CO.ti t _ hti).kind
  simp only [kindOK] at hk
  obtain ⟨us', e1, e2⟩ := fill_ok (parts_ok G C take (fun _ => el) ps.toList) (h1 Z ι w) h2 h
  refine cold_val G (u := .agg us') ?_ (by simp only [srep]; exact ⟨us'.toList, by simp, e2.1⟩) (cold_agg e2.2)
  have hparts : (ps.map fun (i, x) => (i, a.eval x)).toList = ps.toList.map fun p => (p.1, a.eval p.2) := by simp
  simp only [execOp, ho, Instr.build, Sem.run_bind, hz, Result.andThen_ok, run_underlying hk, (CO.ti el ti hel).run_size, hparts, e1, Sem.run_pure]

theorem zero_val {P : Program} {t : TypeId} {ti : TI} (h : TIok P t ti) {z : V} (hz : ofCells ti ti.zero = some z) : ∃ u, (∀ w, (zeroValue t).run P w = .ok u w) ∧ (∀ Z ι w, srep Z ι w z u) ∧ u.cells.size = ti.size ∧ (∀ x ∈ u.cells.toList, x.oneCell' = true) := by
  obtain ⟨u, hu, h1, h2, h3⟩ := h.run_zero
  have hl := srepL_length (h1 (fun _ => .free) [] default)
  have ho := srepL_one (h1 (fun _ => .free) [] default)
  unfold ofCells at hz
  split at hz
  · rename_i ha
    rw [if_pos ha] at h3
    obtain ⟨us, rfl⟩ := h3
    simp at hz
    subst hz
    refine ⟨_, hu, fun Z ι w => ?_, by simpa [TI.size] using hl, ho⟩
    simp only [srep]
    exact ⟨us.toList, by simp, by simpa [Value.cells] using h1 Z ι w⟩
  · rename_i ha
    rw [if_neg ha] at h3
    split at hz
    · rename_i c hc
      simp at hz
      subst hz
      refine ⟨u, hu, fun Z ι w => ?_, by simpa [TI.size] using hl, ho⟩
      · have := h1 Z ι w
        rw [hc, h3] at this
        simp only [srepL] at this
        obtain ⟨u', us', he, _, hs, _⟩ := this
        have : u = u' := by simp at he; exact he.1
        rw [this]; exact hs
    · cases hz


theorem range0 (f : Nat → Value) : (Array.range 0).map f = #[] := Array.eq_empty_of_size_eq_zero (by simp)

theorem buildSlice_ok (CO : CtxOK C) (G : Good Z ι e H (fun t => a.tmps.getD t undef) w) (o : Oper) (t : TypeId) (n : Nat) (ps : Array (Nat × Operand)) (take : Bool) (lim : Nat) (ho : o.op = .buildSlice t n ps) {zero : List V} {by_ : Nat} {el : TypeId} {ti : TI}
    (hti : C.ti t = some ⟨zero, by_, .slice el⟩) (hel : C.ti el = some ti) {z : V} {xs : List V} {S : Nat → Prop} (hz : ofCells ti ti.zero = some z) (hn : n * ti.size ≤ 16777216) (hp : 0 < ti.size)
    (h : fillL ti.size (List.replicate n z) (ps.toList.map fun p => (p.1, (rdO C el e take p.2).dem)) = some xs) :
    Runs C.P a.eval o w (Post (TT e (fun t => a.tmps.getD t undef) H ι w S) lim Z ι w (.sl true ti.size xs) H) := by
  have hk := (CO.ti t _ hti).kind
  simp only [kindOK] at hk
  obtain ⟨u, hu, hu1, hu2, hu3⟩ := zero_val (CO.ti el ti hel) hz
  have hzs := zeros_ok (Z := Z) (ι := ι) (w := w) u.cells z u hp rfl hu2 hu3 (hu1 Z ι w) n
  obtain ⟨us', e1, e2, e3⟩ := fillL_ok hp (parts_ok G C take (fun _ => el) ps.toList) hzs h
  have hxl : xs.length = n := by simpa using e3
  have hparts : (ps.map fun (i, x) => (i, a.eval x)).toList = ps.toList.map fun p => (p.1, a.eval p.2) := by simp
  have hrow := G.row (S := S) hp e2 lim el
  rw [hxl] at hrow
  refine runs_val ?_ hrow
  simp only [execOp, ho, Instr.buildSlice, Sem.run_bind, run_underlying hk, Result.andThen_ok, (CO.ti el ti hel).run_size]
  rw [if_neg (by omega)]
  by_cases hn0 : n * ti.size = 0
  · have : n = 0 := by rcases Nat.mul_eq_zero.1 hn0 with h | h <;> omega
    subst this
    simp only [Nat.zero_mul, range0] at e1 ⊢
    simp [hparts, e1, newRow, range0]
  · simp [hn0, hu, hparts, e1, newRow]

theorem makeSlice_val_ok (CO : CtxOK C) (G : Good Z ι e H (fun t => a.tmps.getD t undef) w) (o : Oper) (t : TypeId) (x y : Operand) (take : Bool) (lim : Nat) (ho : o.op = .makeSlice t x y) {zero : List V} {by_ : Nat} {el : TypeId} {ti : TI}
    (hti : C.ti t = some ⟨zero, by_, .slice el⟩) (hel : C.ti el = some ti) {k k' : IntKind} {n : Int} (hx : rdO C 0 e take x = .sc (.int k n)) (hy : rdO C 0 e take y = .sc (.int k' n))
    (h0 : 0 ≤ n) (hb : (ti.bytes : Int) * n ≤ 140737488355328) (hp : 0 < ti.size) (hbp : 0 < ti.bytes) :
    ∃ us : Array Value, (∀ z, ofCells ti ti.zero = some z → srepE Z ι w ti.size (List.replicate n.toNat z) us.toList) ∧ (srepL Z ι w (List.replicate n.toNat ti.zero).flatten us.toList) ∧
      (∀ (j : Nat) (x : V) (y : Value), (List.replicate n.toNat ti.zero).flatten[j]? = some x → us[j]? = some y → tok1 x y = none) ∧
      (execOp a.eval o).run C.P w = .ok (.value (.slice (some ⟨w.heap.size, 0, none⟩) n.toNat n.toNat)) (w.alloc (.cells us el)) := by
  have hk := (CO.ti t _ hti).kind
  simp only [kindOK] at hk
  obtain ⟨i, z0, hi, hi1, hi2, hi3, h1, h2, h3⟩ := (CO.ti el ti hel).info
  have hsx := rd_srep G C 0 take x
  have hsy := rd_srep G C 0 take y
  rw [hx] at hsx
  rw [hy] at hsy
  simp only [srep] at hsx hsy
  have hzl := srepL_length (h1 Z ι w)
  simp only [Array.length_toList] at hzl
  have hle : n ≤ 140737488355328 := by
    have : (1 : Int) * n ≤ ti.bytes * n := Int.mul_le_mul_of_nonneg_right (by omega) h0
    omega
  have hw1 : IntKind.i64.wrap n = n := by rw [IntKind.wrap_i64]; omega
  have key : ∀ m : Nat, ((Array.range (m * ti.size)).map (z0.cells[· % z0.cells.size]!)).toList = (List.replicate m z0.cells.toList).flatten := by
    intro m
    induction m with
    | zero => simp
    | succ m ih =>
      rw [List.replicate_succ', List.flatten_append, ← ih]
      apply List.ext_getElem
      · simp [hzl, Nat.add_mul, TI.size]
      · intro j hj hj'
        simp only [Array.toList_map, Array.toList_range, List.getElem_map, List.getElem_range]
        rw [List.getElem_append]
        have hzl' : z0.cells.size = ti.size := hzl
        split
        · simp
        · rename_i hge
          simp at hge hj
          have : j % z0.cells.size = j - m * ti.size := by
            rw [hzl']
            have e : j = (j - m * ti.size) + ti.size * m := by rw [Nat.mul_comm ti.size m]; omega
            rw [e, Nat.add_mul_mod_self_left, Nat.mod_eq_of_lt (by rw [Nat.add_mul] at hj; omega)]
            rw [Nat.mul_comm ti.size m]; omega
          have hlt : j - m * ti.size < z0.cells.size := by rw [hzl']; rw [Nat.add_mul] at hj; omega
          simp [this, hlt]
  refine ⟨(Array.range (n.toNat * ti.size)).map (z0.cells[· % z0.cells.size]!), fun z hz => ?_, ?_, ?_, ?_⟩
  · obtain ⟨u, hu, hu1, hu2, hu3⟩ := zero_val (CO.ti el ti hel) hz
    have : u = z0 := by
      have := hu w
      simp [zeroValue, typeInfo, hi, hi3] at this
      exact this.symm
    subst this
    exact zeros_ok (Z := Z) (ι := ι) (w := w) u.cells z u hp rfl hu2 hu3 (hu1 Z ι w) n.toNat
  · rw [key]
    generalize n.toNat = m
    induction m with
    | zero => simp [srepL]
    | succ m ih => rw [List.replicate_succ, List.replicate_succ, List.flatten_cons, List.flatten_cons]; exact srepL_append (h1 Z ι w) ih
  · intro j p q hp' hq
    rw [← Array.getElem?_toList, key] at hq
    generalize n.toNat = m at hp' hq
    induction m generalizing j with
    | zero => simp at hp'
    | succ m ih =>
      rw [List.replicate_succ, List.flatten_cons, List.getElem?_append] at hp' hq
      simp only [Array.length_toList, hzl] at hq
      split at hp'
      · rename_i hlt
        rw [if_pos hlt] at hq
        exact h2 j p q hp' (by simpa using hq)
      · rename_i hlt
        rw [if_neg hlt] at hq
        exact ih _ hp' hq
  · have hb' : ¬ ((i.bytes : Int) * n > 281474976710656) := by rw [hi2]; omega
    have hsz : i.size = ti.size := hi1
    have hz' : ∀ w', (zeroValue el).run C.P w' = .ok z0 w' := fun w' => by simp [zeroValue, typeInfo, hi, hi3]
    have hcond : ¬ ((decide (n < 0) || decide ((i.bytes : Int) * n > 281474976710656)) = true ∨ n < 0 ∨ n > n) := by simp; omega
    by_cases hn0 : n.toNat * ti.size = 0
    · have hz0 : n.toNat = 0 := by rcases Nat.mul_eq_zero.1 hn0 with h | h <;> omega
      have hnz : n = 0 := by omega
      subst hnz
      simp [execOp, ho, Instr.makeSlice, run_underlying hk, hsx.1, hsy.1, asInt, asIntOf, typeInfo, hi, hw1, sizeOf, newRow, range0]
    · have h1' : ¬ n < 0 := by omega
      have h2' : ¬ (281474976710656 < (i.bytes : Int) * n) := by omega
      simp [execOp, ho, Instr.makeSlice, run_underlying hk, hsx.1, hsy.1, asInt, asIntOf, typeInfo, hi, hw1, sizeOf, newRow, hsz, hz', h1', h2', hn0]

end
end Go.Den
