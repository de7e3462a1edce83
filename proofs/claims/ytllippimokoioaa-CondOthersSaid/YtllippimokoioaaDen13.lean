import Derived.Test.YtllippimokoioaaDen12
set_option linter.unusedVariables false
namespace Go.Den

theorem Post.mono {T T' : Nat → Prop} {lim lim' : Nat} {Z : Nat → Zone} {ι : List Nat} {w : World} {v : V} {H' : Heap} {u : Value} {w' : World} (h : Post T lim Z ι w v H' u w') (hT : ∀ β, T β → T' β) (hl : lim' ≤ lim) : Post T' lim' Z ι w v H' u w' := by
  obtain ⟨Z', ι', G, X, hN⟩ := h
  exact ⟨Z', ι', G, X.mono hT hl, fun l β hl => (hN l β hl).imp (hT β) id⟩

def CallOK (C : Ctx) (call : FuncId → List V → Heap → Nat → Option (V × Heap)) : Prop :=
  ∀ g l H lim r H', call g l H lim = some (r, H') → (∃ fn, C.P.funcs[g]? = some fn ∧ fn.body.isSome = true) ∧
    ∀ (Z : Nat → Zone) (ι : List Nat) (w : World) (us : Array Value), us.size = l.length → Good Z ι (args l) H (fun t => us.getD t undef) w →
      Calls C.P g us w fun e w' => ∃ u, e = .returned u ∧ Post (TT (args l) (fun t => us.getD t undef) H ι w (fun _ => True)) lim Z ι w r H' u w'

section
variable {Z : Nat → Zone} {ι : List Nat} {e : Env} {H : Heap} {vals : Nat → Value} {w : World} {C : Ctx} {a : Act} {P : Program}

theorem Good.args (G : Good Z ι e H vals w) (vs : List V) (us : Array Value) (hl : us.size = vs.length)
    (hs : ∀ (i : Nat) (v : V) (u : Value), vs[i]? = some v → us[i]? = some u → srep Z ι w v u ∧ ownV Z w v u)
    (src : ∀ (i j β : Nat) (v : V) (u : Value), vs[i]? = some v → us[i]? = some u → tokV v u j = some β → ∃ t j', tokV (e t) (vals t) j' = some β)
    (hinj : ∀ (i i' j j' β : Nat) (v v' : V) (u u' : Value), vs[i]? = some v → us[i]? = some u → tokV v u j = some β → vs[i']? = some v' → us[i']? = some u' → tokV v' u' j' = some β → i = i' ∧ j = j') :
    Good Z ι (Den.args vs) H (fun t => us.getD t undef) w := by
  have key : ∀ t, (∃ v u, vs[t]? = some v ∧ us[t]? = some u ∧ Den.args vs t = v ∧ us.getD t undef = u) ∨ (Den.args vs t = .any) := by
    intro t
    cases h : vs[t]? with
    | none => right; simp [Den.args, h]
    | some v =>
      left
      have hlt : t < us.size := by rw [hl]; exact (List.getElem?_eq_some_iff.1 h).1
      exact ⟨v, us[t], rfl, by simp [hlt], by simp [Den.args, h], by simp [hlt]⟩
  refine ⟨fun t => ?_, G.len, G.blk, fun t => ?_, ?_, G.fresh⟩
  · rcases key t with ⟨v, u, h1, h2, h3, h4⟩ | h
    · simp only [h3, h4]; exact (hs t v u h1 h2).1
    · simp [h, srep]
  · rcases key t with ⟨v, u, h1, h2, h3, h4⟩ | h
    · simp only [h3, h4]; exact (hs t v u h1 h2).2
    · simp only [h]; exact Cold.own (fun j => tokV_any _ _)
  · intro l l' β hl hl'
    cases l with
    | inl p =>
      obtain ⟨t, j⟩ := p
      simp only [tok] at hl
      rcases key t with ⟨v, u, h1, h2, h3, h4⟩ | h
      · rw [h3, h4] at hl
        cases l' with
        | inl p' =>
          obtain ⟨t', j'⟩ := p'
          simp only [tok] at hl'
          rcases key t' with ⟨v', u', h1', h2', h3', h4'⟩ | h'
          · rw [h3', h4'] at hl'
            obtain ⟨rfl, rfl⟩ := hinj t t' j j' β v v' u u' h1 h2 hl h1' h2' hl'
            rfl
          · rw [h', tokV_any] at hl'; cases hl'
        | inr p' =>
          obtain ⟨t0, j0, h0⟩ := src t j β v u h1 h2 hl
          cases G.uniq (.inl (t0, j0)) (.inr p') β h0 hl'
      · rw [h, tokV_any] at hl; cases hl
    | inr p =>
      cases l' with
      | inl p' =>
        obtain ⟨t', j'⟩ := p'
        simp only [tok] at hl'
        rcases key t' with ⟨v', u', h1', h2', h3', h4'⟩ | h'
        · rw [h3', h4'] at hl'
          obtain ⟨t0, j0, h0⟩ := src t' j' β v' u' h1' h2' hl'
          cases G.uniq (.inl (t0, j0)) (.inr p) β h0 hl
        · rw [h', tokV_any] at hl'; cases hl'
      | inr p' => exact G.uniq (.inr p) (.inr p') β hl hl'

theorem TT_args (vs : List V) (us : Array Value) (hl : us.size = vs.length) {S : Nat → Prop}
    (src : ∀ (i j β : Nat) (v : V) (u : Value), vs[i]? = some v → us[i]? = some u → tokV v u j = some β → ∃ t j', S t ∧ tokV (e t) (vals t) j' = some β) (β : Nat)
    (h : TT (Den.args vs) (fun t => us.getD t undef) H ι w (fun _ => True) β) : TT e vals H ι w S β := by
  rcases h with ⟨t, j, _, h⟩ | h
  · left
    cases hv : vs[t]? with
    | none => simp [Den.args, hv, tokV_any] at h
    | some v =>
      have hlt : t < us.size := by rw [hl]; exact (List.getElem?_eq_some_iff.1 hv).1
      exact src t j β v us[t] hv (by simp [hlt]) (by simpa [Den.args, hv, hlt] using h)
  · exact .inr h

def tmpOf : Operand → Option Nat
  | .tmp t => some t
  | _ => none

theorem nodup_at : ∀ (xs : List Operand) (m m' n : Nat), (xs.filterMap tmpOf).Nodup → xs[m]? = some (.tmp n) → xs[m']? = some (.tmp n) → m = m'
  | [], m, _, _, _, h, _ => by simp at h
  | x :: xs, m, m', n, hn, h, h' => by
    have hn' : (xs.filterMap tmpOf).Nodup := by
      rw [List.filterMap_cons] at hn
      cases htf : tmpOf x <;> simp only [htf] at hn
      · exact hn
      · exact (List.nodup_cons.1 hn).2
    have hno : x = Operand.tmp n → ∀ (k : Nat), xs[k]? ≠ some (Operand.tmp n) := by
      rintro rfl k hk
      rw [List.filterMap_cons] at hn
      simp only [tmpOf] at hn
      exact (List.nodup_cons.1 hn).1 (List.mem_filterMap.2 ⟨_, List.mem_of_getElem? hk, rfl⟩)
    cases m with
    | zero =>
      cases m' with
      | zero => rfl
      | succ m' => simp at h h'; exact absurd h' (hno h m')
    | succ m =>
      cases m' with
      | zero => simp at h h'; exact absurd h (hno h' m)
      | succ m' => simp at h h'; rw [nodup_at xs m m' n hn' h h']

theorem call_ok (CO : CtxOK C) {call : FuncId → List V → Heap → Nat → Option (V × Heap)} (hcall : CallOK C call) (G : Good Z ι e H (fun t => a.tmps.getD t undef) w) (o : Oper) (c : Call) (f : Operand) (take : Bool) (lim : Nat) (ho : o.op = .call c) (hc : c.callee = .value f)
    (hnd : take = true → (o.op.operands.toList.filterMap tmpOf).Nodup) {g : FuncId} {p q : List V} {r : V} {H' : Heap}
    (hf : rdO C 0 e take f = .fn (.func g) p q) (h : call g (p.map V.dem ++ c.args.toList.map (rdO C 0 e take) ++ q.map V.dem) H lim = some (r, H')) :
    Runs C.P a.eval o w (Post (TT e (fun t => a.tmps.getD t undef) H ι w (takesOf take o.op.operands.toList)) lim Z ι w r H') := by
  have hs := rd_srep G C 0 take f
  rw [hf] at hs
  simp only [srep] at hs
  obtain ⟨us, ws, hu, hp, hq⟩ := hs
  obtain ⟨⟨fn, hfn, hbody⟩, hcalls⟩ := hcall _ _ _ _ _ _ h
  have hname := CO.names g fn hfn
  have hpl := srepT_length hp
  have hql := srepT_length hq
  have hrun : (execOp a.eval o).run C.P w = .ok (.enter g ((us.toArray ++ c.args.map a.eval) ++ ws.toArray)) w := by
    have hb : ¬ fn.body = none := by intro hh; simp [hh] at hbody
    simp [execOp, ho, resolve, hc, hu, Deferred.ofValue, invoke, callFunc, hfn, hb, hname]
  -- what stands where among the arguments
  have hops : o.op.operands.toList = f :: c.args.toList := by
    rw [ho]
    simp [Op.operands, Call.operands, hc]
  have split : ∀ (i : Nat) (v : V) (u : Value), (p.map V.dem ++ c.args.toList.map (rdO C 0 e take) ++ q.map V.dem)[i]? = some v → ((us.toArray ++ c.args.map a.eval) ++ ws.toArray)[i]? = some u →
      (srep Z ι w v u ∧ Cold v u) ∨ ∃ x, c.args.toList[i - p.length]? = some x ∧ p.length ≤ i ∧ v = rdO C 0 e take x ∧ u = a.eval x := by
    intro i v u hv hu'
    have hU : ((us.toArray ++ c.args.map a.eval) ++ ws.toArray) = (us ++ (c.args.toList.map a.eval ++ ws)).toArray := by apply Array.ext'; simp
    rw [hU, List.getElem?_toArray, List.getElem?_append] at hu'
    rw [List.append_assoc, List.getElem?_append] at hv
    rw [List.length_map] at hv
    split at hv
    · rename_i hlt
      rw [if_pos (by omega)] at hu'
      rw [List.getElem?_map] at hv
      obtain ⟨v0, hv0, rfl⟩ := Option.map_eq_some_iff.1 hv
      obtain ⟨u0, hu0, hs0⟩ := srepT_get hp hv0
      have : u = u0 := by rw [hu0] at hu'; simpa using hu'.symm
      rw [this]
      exact .inl ⟨srep_dem hs0, cold_dem _ _⟩
    · rename_i hge
      rw [if_neg (by omega), hpl, List.getElem?_append, List.length_map] at hu'
      rw [List.getElem?_append, List.length_map] at hv
      split at hv
      · rename_i hlt
        rw [if_pos hlt] at hu'
        rw [List.getElem?_map] at hv hu'
        obtain ⟨x, hx, rfl⟩ := Option.map_eq_some_iff.1 hv
        rw [hx] at hu'
        exact .inr ⟨x, hx, by omega, rfl, by simpa using hu'.symm⟩
      · rename_i hlt
        rw [if_neg hlt] at hu'
        rw [List.getElem?_map] at hv
        obtain ⟨v0, hv0, rfl⟩ := Option.map_eq_some_iff.1 hv
        obtain ⟨u0, hu0, hs0⟩ := srepT_get hq hv0
        have : u = u0 := by rw [hu0] at hu'; simpa using hu'.symm
        rw [this]
        exact .inl ⟨srep_dem hs0, cold_dem _ _⟩
  have hsize : ((us.toArray ++ c.args.map a.eval) ++ ws.toArray).size = (p.map V.dem ++ c.args.toList.map (rdO C 0 e take) ++ q.map V.dem).length := by
    simp; omega
  have src : ∀ (i j β : Nat) (v : V) (u : Value), (p.map V.dem ++ c.args.toList.map (rdO C 0 e take) ++ q.map V.dem)[i]? = some v → ((us.toArray ++ c.args.map a.eval) ++ ws.toArray)[i]? = some u → tokV v u j = some β →
      ∃ n, takesOf take o.op.operands.toList n ∧ tokV (e n) (a.tmps.getD n undef) j = some β ∧ c.args.toList[i - p.length]? = some (.tmp n) ∧ p.length ≤ i := by
    intro i j β v u hv hu' ht
    rcases split i v u hv hu' with ⟨_, hc'⟩ | ⟨x, hx, hle, rfl, rfl⟩
    · rw [hc' j] at ht; cases ht
    · obtain ⟨n, rfl, h1, h2⟩ := rd_tok G C 0 take x o.op.operands.toList (by rw [hops]; exact List.mem_cons_of_mem _ (List.mem_of_getElem? hx)) j β ht
      exact ⟨n, h1, h2, hx, hle⟩
  have GA : Good Z ι (Den.args (p.map V.dem ++ c.args.toList.map (rdO C 0 e take) ++ q.map V.dem)) H (fun t => ((us.toArray ++ c.args.map a.eval) ++ ws.toArray).getD t undef) w := by
    refine G.args _ _ hsize (fun i v u hv hu' => ?_) (fun i j β v u hv hu' ht => ?_) (fun i i' j j' β v v' u u' hv hu' ht hv' hu'' ht' => ?_)
    · rcases split i v u hv hu' with ⟨h1, hc'⟩ | ⟨x, hx, hle, rfl, rfl⟩
      · exact ⟨h1, hc'.own⟩
      · exact ⟨rd_srep G C 0 take x, rd_own G C 0 take x⟩
    · obtain ⟨n, _, h2, _⟩ := src i j β v u hv hu' ht
      exact ⟨n, j, h2⟩
    · obtain ⟨n, h1, h2, h3, h4⟩ := src i j β v u hv hu' ht
      obtain ⟨n', h1', h2', h3', h4'⟩ := src i' j' β v' u' hv' hu'' ht'
      have := G.uniq (.inl (n, j)) (.inl (n', j')) β h2 h2'
      simp at this
      obtain ⟨rfl, rfl⟩ := this
      refine ⟨?_, rfl⟩
      have hnd' := hnd h1.1
      rw [hops] at hnd'
      have hnd2 : (c.args.toList.filterMap tmpOf).Nodup := by
        rw [List.filterMap_cons] at hnd'
        cases htf : tmpOf f <;> simp only [htf] at hnd'
        · exact hnd'
        · exact (List.nodup_cons.1 hnd').2
      have := nodup_at _ _ _ n hnd2 h3 h3'
      omega
  refine .inr (.inr ⟨g, _, w, hrun, (hcalls Z ι w _ hsize GA).mono fun e' w' ⟨u, he, hpost⟩ => ⟨u, he, hpost.mono (fun β hβ => ?_) (Nat.le_refl _)⟩⟩)
  refine TT_args _ _ hsize (fun i j β v u hv hu' ht => ?_) β hβ
  obtain ⟨n, h1, h2, _⟩ := src i j β v u hv hu' ht
  exact ⟨n, j, h1, h2⟩

end
end Go.Den
