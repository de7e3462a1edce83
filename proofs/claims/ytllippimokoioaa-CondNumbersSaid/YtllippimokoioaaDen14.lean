import Derived.Test.YtllippimokoioaaDen13
set_option linter.unusedVariables false
namespace Go.Den

section
variable {Z : Nat → Zone} {ι : List Nat} {e : Env} {H : Heap} {vals : Nat → Value} {w : World} {C : Ctx} {a : Act} {P : Program}

theorem exec_builtin (o : Oper) (c : Call) (b : Builtin) (ho : o.op = .call c) (hc : c.callee = .builtin b) :
    execOp a.eval o = builtin b c.argTypes o.type (c.args.map fun | .const _ => true | _ => false) (c.args.map a.eval) := by
  simp only [execOp, ho, resolve, hc]
  rfl

theorem mm_ok {op : Bool} {x y v : V} {p q : Value} (hx : srep Z ι w x p) (hy : srep Z ι w y q) (h : mm op x y = some v) : ∃ u, (if op then Builtin.max2 p q else Builtin.min2 p q).run P w = .ok u w ∧ srep Z ι w v u ∧ Cold v u := by
  unfold mm at h
  split at h
  · split at h
    · rename_i k m k' n hk
      simp only [srep] at hx hy
      obtain ⟨rfl, _⟩ := hx
      obtain ⟨rfl, _⟩ := hy
      simp at h
      subst h
      refine ⟨_, ?_, by simp only [srep]; exact ⟨rfl, rfl⟩, cold_sc _ _⟩
      cases op <;> simp [Builtin.max2, Builtin.min2]
    · cases h
  · cases h

theorem mmL_ok {op : Bool} : ∀ {ys : List V} {qs : List Value} {x v : V} {p : Value}, srep Z ι w x p → Cold x p → srepT Z ι w ys qs → mmL op x ys = some v →
    ∃ u, (qs.foldlM (if op then Builtin.max2 else Builtin.min2) p).run P w = .ok u w ∧ srep Z ι w v u ∧ Cold v u
  | [], qs, x, v, p, hx, hc, hq, h => by
    simp only [srepT] at hq
    subst hq
    simp only [mmL] at h
    cases h
    exact ⟨p, rfl, hx, hc⟩
  | y :: ys, qs, x, v, p, hx, hc, hq, h => by
    simp only [srepT] at hq
    obtain ⟨q, qs', rfl, hy, hq⟩ := hq
    simp only [mmL] at h
    obtain ⟨z, hz, h⟩ := Option.bind_eq_some_iff.1 h
    obtain ⟨u, hu, hs, hcu⟩ := mm_ok (P := P) hx hy hz
    obtain ⟨u', h1, h2, h3⟩ := mmL_ok hs hcu hq h
    refine ⟨u', ?_, h2, h3⟩
    cases op <;> simp only [List.foldlM_cons, Sem.run_bind, if_true, if_false, Bool.false_eq_true] at hu h1 ⊢ <;> rw [hu] <;> exact h1


theorem srepT_zip (f : Nat → TypeId) (G : Good Z ι e H (fun t => a.tmps.getD t undef) w) (C : Ctx) (take : Bool) : ∀ (xs : List Operand) (n : Nat), srepT Z ι w ((xs.zipIdx n).map fun p => rdO C (f p.2) e take p.1) (xs.map a.eval)
  | [], n => by simp [srepT]
  | x :: xs, n => by
    simp only [List.zipIdx_cons, List.map_cons, srepT]
    exact ⟨_, _, rfl, rd_srep G C _ take x, srepT_zip f G C take xs (n + 1)⟩

theorem cold_int (k : IntKind) (n : Int) (u : Value) : Cold (.sc (.int k n)) u := cold_sc _ _

/-- a built-in function that isn't append -/
theorem builtinV_ok (CO : CtxOK C) {b : Builtin} {ts : List TypeId} {xs : List V} {us : List Value} {v : V} (hb : b ≠ .append) (hs : srepT Z ι w xs us) (h : builtinV C b ts xs = some v) (ty : TypeId) (consts : Array Bool) :
    ∃ u, (builtin b ts.toArray ty consts us.toArray).run C.P w = .ok (.value u) w ∧ srep Z ι w v u ∧ Cold v u := by
  unfold builtinV at h
  split at h
  · -- len of a text
    rename_i t ts s
    split at h
    · rename_i hti
      have hk := (CO.ti t _ hti).kind
      simp only [kindOK] at hk
      simp only [srepT, srep] at hs
      obtain ⟨u, us', rfl, ⟨rfl, _⟩, rfl⟩ := hs
      simp at h; subst h
      exact ⟨.int .i64 s.size, by simp [builtin, Builtin.len_, run_underlying hk, goInt], by simp [srep, flat], cold_sc _ _⟩
    · cases h
  · rename_i t ts o k l
    split at h
    · rename_i hti
      have hk := (CO.ti t _ hti).kind
      simp only [kindOK] at hk
      simp only [srepT] at hs
      obtain ⟨u, us', rfl, hu, rfl⟩ := hs
      simp at h; subst h
      refine ⟨.int .i64 l.length, ?_, by simp [srep, flat], cold_sc _ _⟩
      simp only [srep] at hu
      rcases hu with ⟨rfl, rfl⟩ | ⟨β, off, c, us, m, rfl, _⟩ <;> simp [builtin, Builtin.len_, run_underlying hk, goInt]
    · cases h
  · rename_i t ts id off n k
    split at h
    · rename_i hti
      have hk := (CO.ti t _ hti).kind
      simp only [kindOK] at hk
      simp only [srepT, srep] at hs
      obtain ⟨u, us', rfl, ⟨β, c, _, rfl, _⟩, rfl⟩ := hs
      simp at h; subst h
      exact ⟨.int .i64 n, by simp [builtin, Builtin.len_, run_underlying hk, goInt], by simp [srep, flat], cold_sc _ _⟩
    · cases h
  · rename_i t ts x _ _ _
    split at h
    · rename_i n el hti
      have hk := (CO.ti t _ hti).kind
      simp only [kindOK] at hk
      simp only [srepT] at hs
      obtain ⟨u, us', rfl, hu, rfl⟩ := hs
      simp at h; subst h
      exact ⟨.int .i64 n, by simp [builtin, Builtin.len_, run_underlying hk, goInt], by simp [srep, flat], cold_sc _ _⟩
    · cases h
  · exact absurd rfl hb
  · rename_i x y ys
    simp only [srepT] at hs
    obtain ⟨p, us', rfl, hp, q, us'', rfl, hq, hr⟩ := hs
    have h2 := h
    simp only [mmL] at h2
    obtain ⟨z, hz, _⟩ := Option.bind_eq_some_iff.1 h2
    have hcx : Cold x p := by
      unfold mm at hz
      split at hz
      · exact cold_sc _ _
      · cases hz
    obtain ⟨u, h3, h4, h5⟩ := mmL_ok (P := C.P) (op := true) hp hcx (by simp only [srepT]; exact ⟨q, us'', rfl, hq, hr⟩) h
    refine ⟨u, ?_, h4, h5⟩
    simp only [if_true] at h3
    simp only [builtin, Builtin.max_, Sem.run_bind, h3, Result.andThen_ok, Sem.run_pure]
  · rename_i x y ys
    simp only [srepT] at hs
    obtain ⟨p, us', rfl, hp, q, us'', rfl, hq, hr⟩ := hs
    have h2 := h
    simp only [mmL] at h2
    obtain ⟨z, hz, _⟩ := Option.bind_eq_some_iff.1 h2
    have hcx : Cold x p := by
      unfold mm at hz
      split at hz
      · exact cold_sc _ _
      · cases hz
    obtain ⟨u, h3, h4, h5⟩ := mmL_ok (P := C.P) (op := false) hp hcx (by simp only [srepT]; exact ⟨q, us'', rfl, hq, hr⟩) h
    refine ⟨u, ?_, h4, h5⟩
    simp only [Bool.false_eq_true, if_false] at h3
    simp only [builtin, Builtin.min_, Sem.run_bind, h3, Result.andThen_ok, Sem.run_pure]
  · cases h

theorem append_ok (CO : CtxOK C) (G : Good Z ι e H (fun t => a.tmps.getD t undef) w) (o : Oper) (c : Call) (take : Bool) (lim : Nat) (ho : o.op = .call c) (hc : c.callee = .builtin .append) {t u : TypeId} {ts : List TypeId} {x y : Operand} (hts : c.argTypes.toList = t :: u :: ts) (hxs : c.args.toList = [x, y])
    {z1 z2 : List V} {b1 b2 : Nat} {el el' : TypeId} {ti : TI} {k k' : Nat} {l m : List V} {o' : Bool} (hti : C.ti t = some ⟨z1, b1, .slice el⟩) (htu : C.ti u = some ⟨z2, b2, .slice el'⟩) (hel : C.ti el = some ti)
    (hx : rdO C t e take x = .sl true k l) (hy : rdO C u e take y = .sl o' k' m) (hp : 0 < ti.size) (hb : 0 < ti.bytes) (hk : k = 0 ∨ k = ti.size) (hk' : k' = 0 ∨ k' = ti.size) (hbound : (l.length + m.length) * ti.bytes ≤ 140737488355328) :
    Runs C.P a.eval o w (Post (TT e (fun t => a.tmps.getD t undef) H ι w (takesOf take o.op.operands.toList)) lim Z ι w (.sl true ti.size (l ++ m.map V.dem)) H) := by
  have hk1 := (CO.ti t _ hti).kind
  have hk2 := (CO.ti u _ htu).kind
  simp only [kindOK] at hk1 hk2
  obtain ⟨i, z, hi, hi1, hi2, hi3, h1, h2, h3⟩ := (CO.ti el ti hel).info
  have hzl := srepL_length (h1 Z ι w)
  simp only [Array.length_toList] at hzl
  have hsx := rd_srep G C t take x
  have hsy := rd_srep G C u take y
  have hox := rd_own G C t take x
  have htx := fun j β => rd_tok G C t take x o.op.operands.toList (by rw [ho]; simp [Op.operands, Call.operands, hc, hxs]) j β
  rw [hx] at hsx hox htx
  rw [hy] at hsy
  have h0 : ∀ (V0 : V) (u0 : Value), V0 = .sl true k l → srep Z ι w V0 u0 → V0.parts[0]? = some V0 ∧ (vparts u0)[0]? = some u0 := by
    intro V0 u0 hv hs
    subst hv
    simp only [srep] at hs
    rcases hs with ⟨rfl, _⟩ | ⟨β, off, c, us, m, rfl, _⟩ <;> simp [V.parts, V.cells, vparts, Value.cells]
  obtain ⟨e1, e2⟩ := h0 _ _ rfl hsx
  obtain ⟨v, w', hr, hpost⟩ := G.append (P := C.P) (S := takesOf take o.op.operands.toList) lim hsx (hox 0 _ _ e1 e2) (fun β hβ => by
      obtain ⟨n, _, h4, h5⟩ := htx 0 β (by simp only [tokV, e1, e2]; exact hβ)
      exact ⟨n, 0, h4, h5⟩) hsy t u o.type el el' i z hk1 hk2 hi hi3 (by rw [hzl, hi1]; rfl) (by omega) (by omega) (by rw [hi1]; exact hk) (by rw [hi1]; exact hk') (by rw [hi2]; exact hbound)
  rw [hi1] at hpost
  refine runs_val (u := v) (w' := w') ?_ hpost
  rw [exec_builtin o c .append ho hc]
  have ea : c.args.map a.eval = #[a.eval x, a.eval y] := by apply Array.ext'; simp [hxs]
  have et : c.argTypes[0]? = some t ∧ c.argTypes[1]? = some u := by
    rw [← Array.getElem?_toList, ← Array.getElem?_toList, hts]; simp
  have happ : ∀ (s q : Value), Builtin.append_ c.argTypes o.type #[s, q] = Builtin.append_ #[t, u] o.type #[s, q] := by
    intro s q
    simp only [Builtin.append_, et.1, et.2]
    rfl
  simp only [builtin, ea, happ, Sem.run_bind, hr, Result.andThen_ok, Sem.run_pure]

theorem makeInterface_ok (CO : CtxOK C) (G : Good Z ι e H (fun t => a.tmps.getD t undef) w) (o : Oper) (t : TypeId) (x : Operand) (take : Bool) (lim : Nat) (ho : o.op = .makeInterface t x) {ti : TI} {S : Nat → Prop} (hti : C.ti t = some ti) (hk : ti.kind ≠ .iface) :
    Runs C.P a.eval o w (Post (TT e (fun t => a.tmps.getD t undef) H ι w S) lim Z ι w (.ifc t (rdO C t e take x).dem) H) := by
  obtain ⟨d, hd, _⟩ := (CO.ti t ti hti).und
  have hkd := (CO.ti t ti hti).kind
  have hne : ∀ ms, d ≠ .interface ms := by
    rintro ms rfl
    cases hkk : ti.kind <;> simp only [hkk, kindOK, hd] at hkd <;> simp_all
  refine cold_val G (u := .iface t (a.eval x)) ?_ (by simp only [srep]; exact ⟨_, rfl, srep_dem (rd_srep G C t take x)⟩) (cold_one rfl (fun _ _ h => by cases h) _)
  simp only [execOp, ho, Instr.makeInterface, Sem.run_bind, run_underlying hd, Result.andThen_ok]
  cases d <;> first | exact absurd rfl (hne _) | rfl

theorem srepT_dems (G : Good Z ι e H (fun t => a.tmps.getD t undef) w) (C : Ctx) (take : Bool) : ∀ (xs : List Operand), srepT Z ι w (xs.map fun x => (rdO C 0 e take x).dem) (xs.map a.eval)
  | [] => by simp [srepT]
  | x :: xs => by
    simp only [List.map_cons, srepT]
    exact ⟨_, _, rfl, srep_dem (rd_srep G C _ take x), srepT_dems G C take xs⟩

theorem makeFunc_ok (G : Good Z ι e H (fun t => a.tmps.getD t undef) w) (o : Oper) (f : Fn) (x y : Array Operand) (take : Bool) (lim : Nat) (ho : o.op = .makeFunc f x y) {S : Nat → Prop} :
    Runs C.P a.eval o w (Post (TT e (fun t => a.tmps.getD t undef) H ι w S) lim Z ι w (.fn f (x.toList.map fun x => (rdO C 0 e take x).dem) (y.toList.map fun x => (rdO C 0 e take x).dem)) H) := by
  refine cold_val G (u := .func f (x.map a.eval) (y.map a.eval)) (by simp [execOp, ho, Instr.makeFunc]) ?_ (cold_one rfl (fun _ _ h => by cases h) _)
  simp only [srep]
  exact ⟨x.toList.map a.eval, y.toList.map a.eval, by congr 1 <;> apply Array.ext' <;> simp, srepT_dems G C take _, srepT_dems G C take _⟩

theorem typeAssert_ok (CO : CtxOK C) (G : Good Z ι e H (fun t => a.tmps.getD t undef) w) (o : Oper) (x : Operand) (xt t : TypeId) (ok : Bool) (take : Bool) (lim : Nat) (ho : o.op = .typeAssert x xt t ok) {ti : TI} {v : V} {S : Nat → Prop} (hti : C.ti t = some ti) (hk : ti.kind ≠ .iface)
    (h : (∃ y, rdO C 0 e take x = .ifc t y ∧ v = (if ok then V.tup [y, .sc (.bool true)] else y).dem) ∨
      (∃ z, ((∃ u y, rdO C 0 e take x = .ifc u y ∧ u ≠ t) ∨ rdO C 0 e take x = .sc .nilIface) ∧ ok = true ∧ ofCells ti ti.zero = some z ∧ v = (V.tup [z, .sc (.bool false)]).dem)) :
    Runs C.P a.eval o w (Post (TT e (fun t => a.tmps.getD t undef) H ι w S) lim Z ι w v H) := by
  obtain ⟨d, hd, _⟩ := (CO.ti t ti hti).und
  have hkd := (CO.ti t ti hti).kind
  have hne : ∀ ms, d ≠ .interface ms := by
    rintro ms rfl
    cases hkk : ti.kind <;> simp only [hkk, kindOK, hd] at hkd <;> simp_all
  have hs := rd_srep G C 0 take x
  rcases h with ⟨y, hx, rfl⟩ | ⟨z, hx, rfl, hz, rfl⟩
  · rw [hx] at hs
    simp only [srep] at hs
    obtain ⟨p, hp, hy⟩ := hs
    refine cold_val G (u := if ok then .tuple #[p, .bool true] else p) ?_ (srep_dem ?_) (cold_dem _ _)
    · simp only [execOp, ho, Instr.typeAssert, Sem.run_bind, run_underlying hd, Result.andThen_ok, hp]
      cases d <;> first | exact absurd rfl (hne _) | (cases ok <;> simp)
    · cases ok
      · exact hy
      · simp only [if_true, srep, srepT]
        exact ⟨[p, .bool true], rfl, p, [.bool true], rfl, hy, .bool true, [], rfl, ⟨rfl, rfl⟩, rfl⟩
  · obtain ⟨u0, hu0, hu1, _⟩ := zero_val (CO.ti t ti hti) hz
    refine cold_val G (u := .tuple #[u0, .bool false]) ?_ (srep_dem ?_) (cold_dem _ _)
    · rcases hx with ⟨u, y, hx, hut⟩ | hx
      · rw [hx] at hs
        simp only [srep] at hs
        obtain ⟨p, hp, hy⟩ := hs
        simp only [execOp, ho, Instr.typeAssert, Sem.run_bind, run_underlying hd, Result.andThen_ok, hp]
        cases d <;> first | exact absurd rfl (hne _) | simp [hut, hu0]
      · rw [hx] at hs
        simp only [srep] at hs
        simp only [execOp, ho, Instr.typeAssert, Sem.run_bind, run_underlying hd, Result.andThen_ok, hs.1]
        cases d <;> first | exact absurd rfl (hne _) | simp [hu0]
    · simp only [srep, srepT]
      exact ⟨[u0, .bool false], rfl, u0, [.bool false], rfl, hu1 Z ι w, .bool false, [], rfl, ⟨rfl, rfl⟩, rfl⟩

end
end Go.Den
