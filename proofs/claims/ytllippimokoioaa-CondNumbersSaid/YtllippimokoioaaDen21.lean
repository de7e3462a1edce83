import Derived.Test.YtllippimokoioaaDen20
set_option linter.unusedVariables false
namespace Go.Den

section
variable {Z : Nat → Zone} {ι : List Nat} {e : Env} {H : Heap} {vals : Nat → Value} {w : World} {C : Ctx} {s : Start} {a : Act}
  {call : FuncId → List V → Heap → Nat → Option (V × Heap)} {h : Hint} {rid lim nt : Nat} {ops : Array Oper}

theorem mapM_run {P : Program} {w : World} {α : Type} {g : α → Sem Value} : ∀ (l : List α) (us : List Value), l.length = us.length → (∀ (i : Nat) (x : α) (u : Value), l[i]? = some x → us[i]? = some u → (g x).run P w = .ok u w) → (l.mapM g).run P w = .ok us w
  | [], [], _, _ => by simp [Sem.run_pure]
  | [], _ :: _, h, _ => by simp at h
  | _ :: _, [], h, _ => by simp at h
  | x :: l, u :: us, hl, h => by
    rw [List.mapM_cons, Sem.run_bind, h 0 x u rfl rfl]
    simp only [Result.andThen_ok, Sem.run_bind]
    rw [mapM_run l us (by simpa using hl) fun i x u hx hu => h (i + 1) x u (by simpa using hx) (by simpa using hu)]
    simp [Sem.run_pure]

def rvar (tmps : Array Value) : ResultVar → Sem Value
  | .tmp t => pure (tmps.getD t undef)
  | .cell a t => do loadVar t (← asAddr (tmps.getD a undef))

theorem results_run {P : Program} {w : World} {fn : Func} {tmps : Array Value} {us : List Value} (hl : fn.results.toList.length = us.length) (h : ∀ (i : Nat) (x : ResultVar) (u : Value), fn.results.toList[i]? = some x → us[i]? = some u → (rvar tmps x).run P w = .ok u w) :
    (results fn tmps).run P w = .ok (if h : us.toArray.size = 1 then us.toArray[0] else .tuple us.toArray) w := by
  have hm := mapM_run (P := P) (w := w) (g := rvar tmps) fn.results.toList us hl h
  have hr : results fn tmps = (fn.results.mapM (rvar tmps) >>= fun vs => pure (if h : vs.size = 1 then vs[0] else .tuple vs)) := rfl
  rw [hr, Array.mapM_eq_mapM_toList]
  simp only [Sem.run_bind, Sem.run_map, hm, Result.andThen_ok, Sem.run_pure, Result.andThen]

/-- One result: what it tells, and what it may be appended to. -/
theorem rvar_ok (CO : CtxOK C) (G : Good Z ι e H (fun t => a.tmps.getD t undef) w) {r : ResultVar} {v : V} (h : resultV C e H r = some v) :
    ∃ u, (rvar a.tmps r).run C.P w = .ok u w ∧ srep Z ι w v u ∧ ((∃ t, v = e t ∧ u = a.tmps.getD t undef) ∨ Cold v u) := by
  unfold resultV at h
  cases r with
  | tmp t =>
    cases h
    exact ⟨_, Sem.run_pure _ _ _, G.rep t, .inl ⟨t, rfl, rfl⟩⟩
  | cell b t =>
    simp only at h
    split at h
    · rename_i id off ti hb hti
      split at h
      · rename_i cs hcs
        obtain ⟨v0, hv0, rfl⟩ := Option.map_eq_some_iff.1 h
        obtain ⟨ds, hsub, hv⟩ := Option.bind_eq_some_iff.1 hv0
        have hs := G.rep b
        rw [hb] at hs
        simp only [srep] at hs
        obtain ⟨β, hβ, hu⟩ := hs
        obtain ⟨β', us, ty, g1, g2, g3, g4, g5⟩ := G.blk id cs hcs
        obtain rfl : β = β' := by simpa [hβ] using g1
        unfold sub at hsub
        split at hsub
        · rename_i hle
          simp at hsub
          have hul := srepL_length g4
          have hs' : srepL Z ι w ds ((us.toList.drop off).take ti.size) := by rw [← hsub]; exact srepL_take _ (srepL_drop _ g4)
          have hlies : lies w β off ((us.toList.drop off).take ti.size) := by
            intro j q hj
            rw [cell_row g3]
            rw [List.getElem?_take] at hj
            split at hj
            · simpa using hj
            · cases hj
          obtain ⟨u, hr, hsr⟩ := load_ok (CO.ti t ti hti) hlies (by simp; simp at hul; omega) hs' hv
          refine ⟨u, ?_, srep_dem hsr, .inr (cold_dem _ _)⟩
          simp only [rvar, hu, asAddr, Sem.run_bind, Sem.run_pure, Result.andThen_ok]
          exact hr
        · cases hsub
      · cases h
    · cases h

theorem rvars_ok (CO : CtxOK C) (G : Good Z ι e H (fun t => a.tmps.getD t undef) w) : ∀ (rs : List ResultVar) (vs : List V), resultVs C e H rs = some vs →
    ∃ us : List Value, rs.length = us.length ∧ (∀ (i : Nat) (x : ResultVar) (u : Value), rs[i]? = some x → us[i]? = some u → (rvar a.tmps x).run C.P w = .ok u w) ∧ srepT Z ι w vs us ∧
      ∀ v u, vs = [v] → us = [u] → ((∃ t, v = e t ∧ u = a.tmps.getD t undef) ∨ Cold v u)
  | [], vs, h => by
    simp only [resultVs] at h
    cases h
    exact ⟨[], rfl, fun i x u hx => by simp at hx, by simp only [srepT], fun v u hv => by cases hv⟩
  | r :: rs, vs, h => by
    simp only [resultVs] at h
    split at h
    · rename_i v vs' h1 h2
      cases h
      obtain ⟨u, k1, k2, k3⟩ := rvar_ok CO G h1
      obtain ⟨us, l1, l2, l3, _⟩ := rvars_ok CO G rs vs' h2
      refine ⟨u :: us, by simp [l1], fun i x u' hx hu => ?_, by simp only [srepT]; exact ⟨u, us, rfl, k2, l3⟩, fun v' u' hv hu => ?_⟩
      · cases i with
        | zero => simp at hx hu; subst hx; subst hu; exact k1
        | succ i => exact l2 i x u' (by simpa using hx) (by simpa using hu)
      · simp at hv hu
        obtain ⟨rfl, _⟩ := hv
        obtain ⟨rfl, _⟩ := hu
        exact k3
    · cases h

/-- The end of a function. -/
theorem ends_ok (CO : CtxOK C) (hst : St s e H a w) {fn : Func} {vs : List V} (h : resultVs C e H fn.results.toList = some vs) :
    a.defers = [] ∧ ∃ u, (results fn a.tmps).run C.P w = .ok u w ∧ Post s.T s.lim s.Z s.ι s.w (oneV vs) H u w := by
  obtain ⟨hd, _, Z, ι, G, X, hN⟩ := hst
  obtain ⟨us, l1, l2, l3, l4⟩ := rvars_ok CO G _ _ h
  refine ⟨hd, _, results_run l1 l2, ?_⟩
  have hlen := srepT_length l3
  have hH : ∀ i j β, tokH H ι w i j = some β → s.T β ∨ s.w.heap.size ≤ β := fun i j β h => hN (.inr (i, j)) β h
  -- a value that is its own, at most at one slot
  have mk : ∀ (v : V) (u : Value), srep Z ι w v u → ((∃ t, v = e t ∧ u = a.tmps.getD t undef) ∨ Cold v u) → Post s.T s.lim s.Z s.ι s.w v H u w := by
    intro v u hs hc
    have hpost : Post (TT e (fun t => a.tmps.getD t undef) H ι w (fun _ => True)) s.lim Z ι w v H u w := by
      rcases hc with ⟨t, rfl, rfl⟩ | hc
      · exact G.still hs (G.own t) (fun j β h => ⟨t, j, trivial, h⟩) (fun j j' β h h' => by
          have := G.uniq (.inl (t, j)) (.inl (t, j')) β h h'
          simpa using this) _
      · exact G.cold _ hs hc _
    obtain ⟨Z', ι', G', X', hN'⟩ := hpost
    have hTs : ∀ β, TT e (fun t => a.tmps.getD t undef) H ι w (fun _ => True) β → s.T β ∨ s.w.heap.size ≤ β := by
      intro β hβ
      rcases hβ with ⟨t, j, _, h⟩ | ⟨i, j, h⟩
      · exact hN (.inl (t, j)) β h
      · exact hN (.inr (i, j)) β h
    refine ⟨Z', ι', G', X.trans X' hTs, fun l β hl => ?_⟩
    rcases hN' l β hl with h | h
    · exact hTs β h
    · exact .inr (Nat.le_trans X.size h)
  cases vs with
  | nil =>
    simp only [List.length_nil] at hlen
    have : us = [] := List.eq_nil_of_length_eq_zero hlen
    subst this
    exact mk _ _ (by simp only [oneV, srep]; exact ⟨[], by simp, l3⟩) (.inr fun j => by simp [oneV, tokV, V.parts])
  | cons v vs =>
    cases vs with
    | nil =>
      obtain ⟨u, rfl⟩ := List.length_eq_one_iff.1 (by simpa using hlen)
      simp only [srepT] at l3
      obtain ⟨u', us', hu, l3, _⟩ := l3
      cases hu
      simpa [oneV] using mk v u l3 (l4 v u rfl rfl)
    | cons v' vs =>
      rw [dif_neg (by simp [hlen])]
      exact mk _ _ (by simp only [oneV, srep]; exact ⟨us, rfl, l3⟩) (.inr fun j => by simp [oneV, tokV, V.parts])

end
end Go.Den
