import Derived.Test.YtllippimokoioaaDen15
set_option linter.unusedVariables false
namespace Go.Den

/-- where a function began -/
structure Start where
  T : Nat → Prop
  lim : Nat
  Z : Nat → Zone
  ι : List Nat
  w : World
  nt : Nat

def St (s : Start) (e : Env) (H : Heap) (a : Act) (w : World) : Prop :=
  a.defers = [] ∧ a.tmps.size = s.nt ∧ ∃ Z ι, Good Z ι e H (fun t => a.tmps.getD t undef) w ∧ Ext s.T s.lim s.Z s.ι s.w Z ι w ∧
    ∀ l β, tok e (fun t => a.tmps.getD t undef) H ι w l = some β → s.T β ∨ s.w.heap.size ≤ β

section
variable {s : Start} {e : Env} {H : Heap} {a : Act} {w : World} {C : Ctx}

theorem St.put (h : St s e H a w) {Z : Nat → Zone} {ι : List Nat} (G : Good Z ι e H (fun t => a.tmps.getD t undef) w) (X : Ext s.T s.lim s.Z s.ι s.w Z ι w)
    (hN : ∀ l β, tok e (fun t => a.tmps.getD t undef) H ι w l = some β → s.T β ∨ s.w.heap.size ≤ β) {S : Nat → Prop} {e' : Env} (he : ∀ t, (S t ∧ e' t = (e t).dem) ∨ (¬ S t ∧ e' t = e t))
    {v : V} {H' : Heap} {u : Value} {w' : World} (hp : Post (TT e (fun t => a.tmps.getD t undef) H ι w S) s.lim Z ι w v H' u w') {d : Option Nat} (hd : ∀ n, d = some n → n < s.nt) :
    St s (e'.put d v) H' (a.put d u) w' := by
  obtain ⟨hdef, hsz, _⟩ := h
  obtain ⟨Z', ι', G', X', hN'⟩ := hp
  have hvals : (fun t => (a.put d u).tmps.getD t undef) = (fun t => if some t = d then u else a.tmps.getD t undef) := by
    funext t
    cases d with
    | none => simp [Act.put]
    | some n =>
      have hn := hd n rfl
      simp only [Act.put]
      by_cases ht : t = n
      · subst ht; simp [show t < a.tmps.size by omega]
      · simp [ht, Array.getElem?_setIfInBounds_ne (Ne.symm ht)]
  have hTs : ∀ β, TT e (fun t => a.tmps.getD t undef) H ι w S β → s.T β ∨ s.w.heap.size ≤ β := by
    intro β hβ
    rcases hβ with ⟨t, j, _, h⟩ | ⟨i, j, h⟩
    · exact hN (.inl (t, j)) β h
    · exact hN (.inr (i, j)) β h
  refine ⟨by cases d <;> simpa [Act.put] using hdef, by cases d <;> simpa [Act.put] using hsz, Z', ι', ?_, X.trans X' hTs, ?_⟩
  · rw [hvals]
    exact G.go he (fun _ h => h) G' X' hN' d
  · rw [hvals]
    intro l β hl
    -- of the value, of a block, of an elder slot
    cases l with
    | inr p =>
      rcases hN' (.inr p) β hl with h | h
      · exact hTs β h
      · exact .inr (Nat.le_trans X.size h)
    | inl p =>
      obtain ⟨t, j⟩ := p
      simp only [tok] at hl
      by_cases ht : some t = d
      · subst ht
        simp [Env.put] at hl
        rcases hN' (.inl (0, j)) β (by simpa [tok, one] using hl) with h | h
        · exact hTs β h
        · exact .inr (Nat.le_trans X.size h)
      · have h1 : (e'.put d v) t = e' t := by
          cases d with
          | none => rfl
          | some n => simp only [Env.put]; rw [if_neg (by simpa using ht)]
        rw [h1, if_neg ht] at hl
        rcases he t with ⟨_, h2⟩ | ⟨_, h2⟩
        · rw [h2, tokV_dem] at hl; cases hl
        · rw [h2] at hl; exact hN (.inl (t, j)) β hl

theorem gate_ok {ops : Array Oper} {o : Oper} {b : Bool} (h : St s e H a w) (hg : gate ops e o = some b) : Region.wanted o (yielded ops a.tmps) = b := by
  obtain ⟨_, hsz, Z, ι, G, _⟩ := h
  unfold gate at hg
  unfold Region.wanted
  cases hgd : o.guard with
  | none => rw [hgd] at hg; simpa using hg
  | some p =>
    obtain ⟨j, want⟩ := p
    rw [hgd] at hg
    simp only at hg ⊢
    unfold yielded
    cases hd : (ops[j]?).bind (·.dst) with
    | none => rw [hd] at hg; cases hg
    | some d =>
      rw [hd] at hg
      simp only at hg
      split at hg
      · rename_i b' hb
        have := G.rep d
        rw [hb] at this
        simp only [srep] at this
        have h1 := this.1
        have hdt : a.tmps[d]? = some (.bool b') := by
          cases hx : a.tmps[d]? with
          | none => simp [hx, undef] at h1
          | some y => simp [hx] at h1; rw [h1]
        simp only [Option.bind_some, hdt]
        simpa using hg
      · rename_i hb
        have := G.rep d
        rw [hb] at this
        simp only [srep, srepT] at this
        obtain ⟨us, h1, rfl⟩ := this
        cases hg
        simp only [Option.bind_some]
        cases hx : a.tmps[d]? with
        | none => rfl
        | some y =>
          simp [hx] at h1
          rw [h1]
          rfl
      · cases hg

/-- One operation, as the interpreter takes it. -/
theorem step_sound (CO : CtxOK C) {call : FuncId → List V → Heap → Nat → Option (V × Heap)} (hcall : CallOK C call) {h : Hint} {rid i : Nat} {ops : Array Oper} {o : Oper} (hi : ops[i]? = some o)
    (hd : ∀ n, o.dst = some n → n < s.nt) (hnd : h.takes.contains (rid, i) = true → (o.op.operands.toList.filterMap tmpOf).Nodup) {e' : Env} {H' : Heap}
    (hs : stepOp C call h rid ops s.lim i o e H = some (e', H')) (hst : St s e H a w) (Q : Exit → Act → World → Prop) {K : Act → World → Prop} (hK : ∀ a w, St s e' H' a w → K a w) : wpOp C.P ops Q i K a w := by
  unfold wpOp
  simp only [hi]
  have hst0 := hst
  obtain ⟨hdef, hsz, Z, ι, G, X, hN⟩ := hst0
  unfold stepOp at hs
  split at hs
  · rename_i hg
    rw [gate_ok hst hg, if_pos rfl]
    dsimp only at hs
    split at hs
    · rename_i v H'' hev
      simp only [Option.some.injEq, Prod.mk.injEq] at hs
      obtain ⟨rfl, rfl⟩ := hs
      left
      have hr := op_sound CO hcall G o _ _ s.lim hnd hev
      exact hr.wp fun u w' hp => hK _ _ (hst.put G X hN (left_at _ _ e) hp hd)
    · cases hs
  · rename_i hg
    rw [gate_ok hst hg, if_neg (by simp)]
    simp only [Option.some.injEq, Prod.mk.injEq] at hs
    obtain ⟨rfl, rfl⟩ := hs
    refine hK _ _ (hst.put (e' := e) (S := fun _ => False) (v := .tup []) (u := undef) (w' := w) G X hN (fun t => .inr ⟨fun h => h, rfl⟩) ?_ hd)
    exact G.cold _ (by simp only [srep, srepT]; exact ⟨[], rfl, rfl⟩) (fun j => by simp [tokV, V.parts]) s.lim
  · cases hs

/-- what is asked of a region's text -/
def opsOK (h : Hint) (rid nt : Nat) (ops : Array Oper) : Prop :=
  ∀ (i : Nat) (o : Oper), ops[i]? = some o → (∀ n, o.dst = some n → n < nt) ∧ (h.takes.contains (rid, i) = true → (o.op.operands.toList.filterMap tmpOf).Nodup)

theorem ops_sound (CO : CtxOK C) {call : FuncId → List V → Heap → Nat → Option (V × Heap)} (hcall : CallOK C call) {h : Hint} {rid : Nat} {ops : Array Oper} (hok : opsOK h rid s.nt ops) (Q : Exit → Act → World → Prop) :
    ∀ (os : List Oper) (k : Nat) (e : Env) (H : Heap) (a : Act) (w : World) (e' : Env) (H' : Heap), (∀ (j : Nat) (o : Oper), os[j]? = some o → ops[k + j]? = some o) → evalOps C call h rid ops s.lim os k e H = some (e', H') → St s e H a w →
      (∀ a w, St s e' H' a w → Q .normal a w) → wpOps C.P ops Q (List.range' k os.length) a w
  | [], k, e, H, a, w, e', H', _, hs, hst, hQ => by
    simp only [evalOps] at hs
    cases hs
    simpa [wpOps] using hQ _ _ hst
  | o :: os, k, e, H, a, w, e', H', hl, hs, hst, hQ => by
    simp only [evalOps] at hs
    split at hs
    · rename_i e1 H1 h1
      have hi : ops[k]? = some o := by simpa using hl 0 o rfl
      rw [List.length_cons, List.range'_succ, wpOps_cons]
      refine step_sound CO hcall hi (hok k o hi).1 (hok k o hi).2 h1 hst Q fun a w hst' => ?_
      exact ops_sound CO hcall hok Q os (k + 1) e1 H1 a w e' H' (fun j o' hj => by have := hl (j + 1) o' (by simpa using hj); rw [show k + 1 + j = k + (j + 1) by omega]; exact this) hs hst' hQ
    · cases hs

theorem region_sound (CO : CtxOK C) {call : FuncId → List V → Heap → Nat → Option (V × Heap)} (hcall : CallOK C call) {h : Hint} {rid : Nat} {ops : Array Oper} (hok : opsOK h rid s.nt ops) {Q : Exit → Act → World → Prop}
    {e' : Env} {H' : Heap} (hs : evalOps C call h rid ops s.lim ops.toList 0 e H = some (e', H')) (hst : St s e H a w) (hQ : ∀ a w, St s e' H' a w → Q .normal a w) : (Code.region rid ops false).wp C.P Q a w := by
  refine wp_region ?_
  have := ops_sound CO hcall hok Q ops.toList 0 e H a w e' H' (fun j o hj => by simpa using hj) hs hst hQ
  rwa [show ops.toList.length = ops.size from rfl, ← List.range_eq_range'] at this

theorem St.drew (h : St s e H a w) : St s e H a { w with drawn := w.drawn + 1 } := by
  obtain ⟨h1, h2, Z, ι, G, X, hN⟩ := h
  have K : Keeps ι.length Z ι w Z ι { w with drawn := w.drawn + 1 } := ⟨fun β m h => ⟨m, Nat.le_refl _, h, fun _ _ => rfl⟩, fun _ _ _ h => h⟩
  refine ⟨h1, h2, Z, ι, ⟨fun t => srep_keeps K _ _ (srep_closed _ _ (G.rep t)) (G.rep t), G.len, fun i cs h => ?_, G.own, G.uniq, G.fresh⟩, ⟨X.size, X.os, X.out, X.tape, X.heap, X.zone, X.log, X.idx⟩, hN⟩
  obtain ⟨β, us, ty, g1, g2, g3, g4, g5⟩ := G.blk i cs h
  exact ⟨β, us, ty, g1, g2, g3, srepL_keeps K _ _ (srepL_closed _ _ g4) g4, g5⟩

end
end Go.Den
