import Derived.Test.YtllippimokoioaaDen21
set_option linter.unusedVariables false
namespace Go.Den

/-- every text that is reached was looked at -/
def CodesOK (C : Ctx) : Prop := ∀ f fn c, (C.hint f).ok = true → C.P.funcs[f]? = some fn → fn.body = some c → codeOK C (C.hint f) fn.ntmps c = true

section
variable {Z : Nat → Zone} {ι : List Nat} {e : Env} {H : Heap} {vals : Nat → Value} {w : World} {C : Ctx} {s : Start} {a : Act}

theorem getD_fill (us : Array Value) (n : Nat) : (fun t => (us ++ Array.replicate n undef).getD t undef) = fun t => us.getD t undef := by
  funext t
  simp only [Array.getD_eq_getD_getElem?]
  by_cases h : t < us.size
  · rw [Array.getElem?_append_left h]
  · rw [Array.getElem?_append_right (by omega), Array.getElem?_eq_none (xs := us) (by omega), Array.getElem?_replicate]
    split <;> rfl

theorem trunc {T : Nat → Prop} {lim lim' : Nat} {H' : Heap} {r : V} {u : Value} {w' : World} (hp : Post T lim Z ι w r H' u w') (hg : Grow lim' H H') (hι : ι.length = H.length)
    (hH : ∀ (i : Nat) (cs : List V), H[i]? = some cs → closedL H.length cs = true) (hr : closed H.length r = true) : Post T lim Z ι w r (H'.take H.length) u w' := by
  obtain ⟨Z', ι', G, X, hN⟩ := hp
  have hlen := hg.len
  have hl' := G.len
  have K : Keeps H.length Z' ι' w' Z' (ι'.take H.length) w' := ⟨fun β m h => ⟨m, Nat.le_refl _, h, fun _ _ => rfl⟩, fun i β hi h => by rw [List.getElem?_take_of_lt hi]; exact h⟩
  have htok : ∀ i j β, tokH (H'.take H.length) (ι'.take H.length) w' i j = some β → tokH H' ι' w' i j = some β := by
    intro i j β h
    unfold tokH at h ⊢
    by_cases hi : i < H.length
    · rwa [List.getElem?_take_of_lt hi, List.getElem?_take_of_lt hi] at h
    · rw [List.getElem?_eq_none (l := H'.take H.length) (by simp; omega)] at h
      simp at h
  have htok' : ∀ l β, tok (one r) (fun _ => u) (H'.take H.length) (ι'.take H.length) w' l = some β → tok (one r) (fun _ => u) H' ι' w' l = some β := by
    intro l β h
    cases l with
    | inl p => exact h
    | inr p => exact htok _ _ _ h
  refine ⟨Z', ι'.take H.length, ⟨fun t => ?_, by simp; omega, fun i cs hc => ?_, G.own, fun l l' β h h' => G.uniq l l' β (htok' l β h) (htok' l' β h'), G.fresh⟩,
    ⟨X.size, X.os, X.out, X.tape, X.heap, X.zone, X.log, fun i β hi => ?_⟩, fun l β h => hN l β (htok' l β h)⟩
  · have := G.rep t
    unfold one at this ⊢
    split
    · rename_i h0
      rw [if_pos h0] at this
      exact srep_keeps K r u hr this
    · simp only [srep]
  · have hi : i < H.length := by
      rcases Nat.lt_or_ge i H.length with h | h
      · exact h
      · rw [List.getElem?_eq_none (by simp; omega)] at hc; cases hc
    rw [List.getElem?_take_of_lt hi] at hc
    obtain ⟨β, us, ty, g1, g2, g3, g4, g5⟩ := G.blk i cs hc
    refine ⟨β, us, ty, by rw [List.getElem?_take_of_lt hi]; exact g1, g2, g3, srepL_keeps K _ _ ?_ g4, g5⟩
    obtain ⟨cs0, h0, h1⟩ := hg.low i cs hi hc
    refine closedL_of _ _ fun c hcm => ?_
    rcases h1 c hcm with h | h
    · obtain ⟨j, hj⟩ := List.mem_iff_getElem?.1 h
      exact closedL_at cs0 _ j c (hH i cs0 h0) hj
    · exact closed_mono (by omega) c h
  · have h1 := X.idx i β hi
    have : i < H.length := by rw [← hι]; exact (List.getElem?_eq_some_iff.1 hi).1
    rw [List.getElem?_take_of_lt this]; exact h1

theorem evalFun_body {n : Nat} {g : FuncId} {l : List V} {lim : Nat} {r : V} {H' : Heap} (h : evalFun C n g l H lim = some (r, H')) : ∃ fn, C.P.funcs[g]? = some fn ∧ fn.body.isSome = true := by
  cases n with
  | zero => cases h
  | succ n =>
    simp only [evalFun] at h
    split at h
    · rename_i fn hfn
      refine ⟨fn, hfn, ?_⟩
      split at h
      · rename_i c hc; rw [hc]; rfl
      · cases h
    · cases h

/-- blocks of the list: seen as what is never to be changed -/
def unbox (Z : Nat → Zone) : Nat → Zone := fun β => match Z β with
  | .box _ => .free
  | z => z

theorem unbox_log {Z : Nat → Zone} {β m : Nat} (h : Z β = .log m) : unbox Z β = .log m := by simp [unbox, h]

theorem unbox_box (Z : Nat → Zone) (β i : Nat) : unbox Z β ≠ .box i := by
  unfold unbox
  cases Z β <;> simp

theorem unbox_not {Z : Nat → Zone} {β : Nat} (h : ∀ i, Z β ≠ .box i) : unbox Z β = Z β := by
  unfold unbox
  cases hz : Z β <;> simp_all

theorem unbox_free {Z : Nat → Zone} {β : Nat} (h : Z β = .free) : unbox Z β = .free := by simp [unbox, h]

theorem args_closed {l : List V} {n : Nat} (h : closedL n l = true) (t : Nat) : closed n (args l t) = true := by
  unfold args
  cases ht : l[t]? with
  | none => simp [closed]
  | some v => simpa using closedL_at l n t v h ht

theorem Good.bare {l : List V} {us : Array Value} (G : Good Z ι (Den.args l) H (fun t => us.getD t undef) w) (hc : closedL 0 l = true) : Good (unbox Z) [] (Den.args l) [] (fun t => us.getD t undef) w := by
  have K : Keeps 0 Z ι w (unbox Z) [] w := ⟨fun β m h => ⟨m, Nat.le_refl _, unbox_log h, fun _ _ => rfl⟩, fun i β hi => by omega⟩
  refine ⟨fun t => srep_keeps K _ _ (args_closed hc t) (G.rep t), rfl, fun i cs h => by simp at h, fun t j x y hx hy β hβ => ?_, fun l' l'' β h h' => ?_, fun β h => unbox_free (G.fresh β h)⟩
  · obtain ⟨k, xs, c, cur, e, h1, h2, h3, h4⟩ := G.own t j x y hx hy β hβ
    exact ⟨k, xs, c, cur, e, h1, h2, unbox_log h3, h4⟩
  · cases l' with
    | inr p => simp [tok, tokH] at h
    | inl p =>
      cases l'' with
      | inr p => simp [tok, tokH] at h'
      | inl p' => exact G.uniq (.inl p) (.inl p') β h h'

def rezone (Z Z' : Nat → Zone) : Nat → Zone := fun β => match Z β with
  | .box i => .box i
  | _ => Z' β

theorem rezone_box {Z Z' : Nat → Zone} {β i : Nat} (h : Z β = .box i) : rezone Z Z' β = .box i := by simp [rezone, h]

theorem rezone_not {Z Z' : Nat → Zone} {β : Nat} (h : ∀ i, Z β ≠ .box i) : rezone Z Z' β = Z' β := by
  unfold rezone
  cases hz : Z β <;> simp_all

theorem rebox {l : List V} {us : Array Value} (G : Good Z ι (args l) H (fun t => us.getD t undef) w) {r : V} {H' : Heap} {u : Value} {w' : World} {lim : Nat}
    (hp : Post (TT (args l) (fun t => us.getD t undef) [] [] w (fun _ => True)) 0 (unbox Z) [] w r H' u w') (hr : closed 0 r = true) : Post (TT (args l) (fun t => us.getD t undef) H ι w (fun _ => True)) lim Z ι w r H u w' := by
  obtain ⟨Z', ι', G', X, hN⟩ := hp
  -- what was its own to append to: of the arguments alone
  have hT : ∀ β, TT (args l) (fun t => us.getD t undef) [] [] w (fun _ => True) β → ∃ t j, tokV (args l t) (us.getD t undef) j = some β := by
    rintro β (⟨t, j, _, h⟩ | ⟨i, j, h⟩)
    · exact ⟨t, j, h⟩
    · simp [tokH] at h
  have hTlog : ∀ β, TT (args l) (fun t => us.getD t undef) [] [] w (fun _ => True) β → ∀ i, Z β ≠ .box i := by
    intro β h i hb
    obtain ⟨t, j, h⟩ := hT β h
    unfold tokV at h
    split at h
    · rename_i x y hx hy
      obtain ⟨k, xs, c, cur, e, _, _, h3, _⟩ := G.own t j x y hx hy β h
      rw [hb] at h3; cases h3
    · cases h
  have hbox : ∀ β i, Z β = .box i → β < w.heap.size := fun β i h => by
    rcases Nat.lt_or_ge β w.heap.size with h' | h'
    · exact h'
    · rw [G.fresh β h'] at h; cases h
  have hZbox : ∀ β i, Z β = .box i → Z' β = .free := fun β i h => by
    rw [X.zone β (hbox β i h) fun ht => hTlog β ht i h]
    simp [unbox, h]
  have hlog : ∀ β m, Z' β = .log m → rezone Z Z' β = .log m := fun β m h => by
    rw [rezone_not fun i hb => by rw [hZbox β i hb] at h; cases h]; exact h
  have hkeep : ∀ β, β < w.heap.size → ¬ TT (args l) (fun t => us.getD t undef) [] [] w (fun _ => True) β → w'.heap[β]? = w.heap[β]? := fun β h1 h2 => X.heap β h1 h2 fun i _ => unbox_box Z β i
  have K : Keeps ι.length Z ι w (rezone Z Z') ι w' := ⟨fun β m h => by
    obtain ⟨m', h1, h2, h3⟩ := X.log β m (unbox_log h)
    exact ⟨m', h1, hlog β m' h2, h3⟩, fun _ _ _ h => h⟩
  have hblk : ∀ (i : Nat) (cs : List V), H[i]? = some cs → ∃ (β : Nat) (us : Array Value) (ty : TypeId), ι[i]? = some β ∧ Z β = .box i ∧ w.heap[β]? = some (.cells us ty (0, 0)) ∧ w'.heap[β]? = some (.cells us ty (0, 0)) ∧ srepL Z ι w cs us.toList ∧ ∀ (j : Nat) (x : V) (y : Value), cs[j]? = some x → us[j]? = some y → own1 Z w x y := by
    intro i cs hi
    obtain ⟨β, us, ty, g1, g2, g3, g4, g5⟩ := G.blk i cs hi
    exact ⟨β, us, ty, g1, g2, g3, by rw [hkeep β (hbox β i g2) fun ht => hTlog β ht i g2]; exact g3, g4, g5⟩
  have htokH : ∀ i j, tokH H ι w' i j = tokH H ι w i j := by
    intro i j
    unfold tokH
    cases hi : H[i]? with
    | none => simp
    | some cs =>
      obtain ⟨β, us, ty, g1, g2, g3, g3', _⟩ := hblk i cs hi
      simp only [g1, Option.bind_some, cell_row g3, cell_row g3']
  have hHtok : ∀ i j β, tokH H ι w i j = some β → β < w.heap.size ∧ (∀ i, Z β ≠ .box i) ∧ ¬ TT (args l) (fun t => us.getD t undef) [] [] w (fun _ => True) β := by
    intro i j β h
    have h0 := h
    unfold tokH at h
    split at h
    · rename_i x y hx hy
      obtain ⟨cs, hi, hxc⟩ := Option.bind_eq_some_iff.1 hx
      obtain ⟨γ, us', ty, g1, g2, g3, g4, g5⟩ := G.blk i cs hi
      rw [g1, Option.bind_some, cell_row g3] at hy
      obtain ⟨k, xs, c, cur, e, _, _, h3, h4, _⟩ := g5 j x y hxc hy β h
      refine ⟨(Array.getElem?_eq_some_iff.1 h4).1, fun i hb => (by rw [hb] at h3; cases h3), fun ht => ?_⟩
      obtain ⟨t, j', ht⟩ := hT β ht
      have := G.uniq (.inl (t, j')) (.inr (i, j)) β ht h0
      cases this
    · cases h
  refine ⟨rezone Z Z', ι, ⟨fun t => ?_, G.len, fun i cs hi => ?_, fun t j x y hx hy β hβ => ?_, fun l1 l2 β h1 h2 => ?_, fun β h => ?_⟩,
    ⟨X.size, X.os, X.out, X.tape, fun β h1 h2 _ => hkeep β h1 fun ht => h2 ?_, fun β h1 h2 => ?_, fun β m h => ?_, fun _ _ h => h⟩, fun l1 β h1 => ?_⟩
  · have K0 : Keeps 0 Z' ι' w' (rezone Z Z') ι w' := ⟨fun β m h => ⟨m, Nat.le_refl _, hlog β m h, fun _ _ => rfl⟩, fun i β hi => by omega⟩
    have := G'.rep t
    unfold one at this ⊢
    split
    · rename_i h0
      rw [if_pos h0] at this
      exact srep_keeps K0 r u hr this
    · simp only [srep]
  · obtain ⟨β, us, ty, g1, g2, g3, g3', g4, g5⟩ := hblk i cs hi
    refine ⟨β, us, ty, g1, rezone_box g2, g3', srepL_keeps K _ _ (srepL_closed _ _ g4) g4, fun j x y hx hy γ hγ => ?_⟩
    have ht : tokH H ι w i j = some γ := by
      unfold tokH
      simp only [hi, g1, Option.bind_some, cell_row g3, hx, hy]
      exact hγ
    obtain ⟨q1, q2, q3⟩ := hHtok i j γ ht
    obtain ⟨k, xs, c, cur, e, e1, e2, e3, e4, e5⟩ := g5 j x y hx hy γ hγ
    refine ⟨k, xs, c, cur, e, e1, e2, ?_, by rw [hkeep γ q1 q3]; exact e4, e5⟩
    rw [rezone_not q2, X.zone γ q1 q3, unbox_not q2]
    exact e3
  · obtain ⟨k, xs, c, cur, e, e1, e2, e3, e4⟩ := G'.own t j x y hx hy β hβ
    exact ⟨k, xs, c, cur, e, e1, e2, hlog β _ e3, e4⟩
  · cases l1 with
    | inl p =>
      cases l2 with
      | inl p' => exact G'.uniq (.inl p) (.inl p') β h1 h2
      | inr p' =>
        simp only [tok, htokH] at h2
        obtain ⟨q1, q2, q3⟩ := hHtok _ _ _ h2
        rcases hN (.inl p) β h1 with h | h
        · exact absurd h q3
        · omega
    | inr p =>
      simp only [tok, htokH] at h1
      cases l2 with
      | inl p' =>
        obtain ⟨q1, q2, q3⟩ := hHtok _ _ _ h1
        rcases hN (.inl p') β h2 with h | h
        · exact absurd h q3
        · omega
      | inr p' =>
        simp only [tok, htokH] at h2
        exact G.uniq (.inr p) (.inr p') β h1 h2
  · have hz := G.fresh β (Nat.le_trans X.size h)
    rw [rezone_not fun i hb => by rw [hz] at hb; cases hb]
    exact G'.fresh β h
  · obtain ⟨t, j, h⟩ := hT β ht
    exact .inl ⟨t, j, trivial, h⟩
  · by_cases hb : ∃ i, Z β = .box i
    · obtain ⟨i, hb⟩ := hb
      rw [rezone_box hb, hb]
    · have hb' : ∀ i, Z β ≠ .box i := fun i h => hb ⟨i, h⟩
      rw [rezone_not hb', X.zone β h1, unbox_not hb']
      intro ht
      obtain ⟨t, j, h⟩ := hT β ht
      exact h2 (.inl ⟨t, j, trivial, h⟩)
  · obtain ⟨m', h1, h2, h3⟩ := X.log β m (unbox_log h)
    exact ⟨m', h1, hlog β m' h2, h3⟩
  · cases l1 with
    | inl p =>
      rcases hN (.inl p) β h1 with h | h
      · obtain ⟨t, j, h⟩ := hT β h
        exact .inl (.inl ⟨t, j, trivial, h⟩)
      · exact .inr h
    | inr p =>
      simp only [tok, htokH] at h1
      exact .inl (.inr ⟨p.1, p.2, h1⟩)

theorem callM_ok {ev : FuncId → List V → Heap → Nat → Option (V × Heap)} (hg : GrowC ev) (hev : CallOK C ev) : CallOK C (callM C ev) := by
  intro g l H lim r H' h
  unfold callM at h
  split at h
  · split at h
    · rename_i hcl
      split at h
      · rename_i r' H1 h1
        split at h
        · rename_i hc
          cases h
          obtain ⟨hb, hcall⟩ := hev _ _ _ _ _ _ h1
          refine ⟨hb, fun Z ι w us hl G => (hcall (unbox Z) [] w us hl (G.bare hcl)).mono ?_⟩
          rintro e w' ⟨u, rfl, hp⟩
          exact ⟨u, rfl, rebox G hp hc⟩
        · cases h
      · cases h
    · cases h
  · split at h
    · rename_i r' H1 h1
      split at h
      · rename_i hc
        cases h
        obtain ⟨hb, hcall⟩ := hev _ _ _ _ _ _ h1
        refine ⟨hb, fun Z ι w us hl G => (hcall Z ι w us hl G).mono ?_⟩
        rintro e w' ⟨u, rfl, hp⟩
        refine ⟨u, rfl, ?_⟩
        have hgr := hg _ _ _ _ _ _ h1
        have := trunc hp hgr G.len (fun i cs hi => by
          obtain ⟨_, _, _, _, _, _, g4, _⟩ := G.blk i cs hi
          rw [← G.len]; exact srepL_closed _ _ g4) hc
        rw [hgr.take_eq (by omega)] at this
        exact this.mono (fun _ h => h) (by omega)
      · cases h
    · cases h
  · split at h
    · rename_i r' H1 h1
      split at h
      · rename_i hc
        cases h
        obtain ⟨hb, hcall⟩ := hev _ _ _ _ _ _ h1
        refine ⟨hb, fun Z ι w us hl G => (hcall Z ι w us hl G).mono ?_⟩
        rintro e w' ⟨u, rfl, hp⟩
        exact ⟨u, rfl, trunc hp (hg _ _ _ _ _ _ h1) G.len (fun i cs hi => by
          obtain ⟨_, _, _, _, _, _, g4, _⟩ := G.blk i cs hi
          rw [← G.len]; exact srepL_closed _ _ g4) hc⟩
      · cases h
    · cases h
  · exact hev _ _ _ _ _ _ h

/-- **A function that evaluates to a value returns what the value tells.** -/
theorem evalFun_ok (CO : CtxOK C) (KO : CodesOK C) : ∀ (n : Nat), CallOK C (evalFun C n)
  | 0, _, _, _, _, _, _, h => by cases h
  | n + 1, g, l, H, lim, r, H', h => by
    refine ⟨evalFun_body h, fun Z ι w us hl G => ?_⟩
    simp only [evalFun] at h
    split at h
    · rename_i fn hfn
      split at h
      · rename_i c hc
        split at h
        · rename_i hok
          let s : Start := ⟨TT (args l) (fun t => us.getD t undef) H ι w (fun _ => True), lim, Z, ι, w, (us ++ Array.replicate (fn.ntmps - us.size) undef).size⟩
          have hst : St s (args l) H { tmps := us ++ Array.replicate (fn.ntmps - us.size) undef, defers := [] } w := by
            refine ⟨rfl, rfl, Z, ι, by rw [show (fun t => ({ tmps := us ++ Array.replicate (fn.ntmps - us.size) undef, defers := [] } : Act).tmps.getD t undef) = fun t => us.getD t undef from getD_fill us _]; exact G, Ext.refl _ _ _ _ _, fun l' β hl' => .inl ?_⟩
            rw [show (fun t => ({ tmps := us ++ Array.replicate (fn.ntmps - us.size) undef, defers := [] } : Act).tmps.getD t undef) = fun t => us.getD t undef from getD_fill us _] at hl'
            cases l' with
            | inl p => exact .inl ⟨p.1, p.2, trivial, hl'⟩
            | inr p => exact .inr ⟨p.1, p.2, hl'⟩
          have hn : fn.ntmps ≤ s.nt := by simp [s]; omega
          refine calls_of_wp hfn hc ?_
          generalize hres : evalCode C (callM C (evalFun C n)) (C.hint g) lim c (args l) H = res at h
          cases res with
          | none => cases h
          | some p =>
            obtain ⟨x, e', H1⟩ := p
            refine code_sound CO (callM_ok (evalFun_grow n) (evalFun_ok CO KO n)) callM_tame hn c (KO g fn c hok hfn hc) _ H _ w x e' H1 _ hres hst fun a w' hst' => ?_
            cases x with
            | nrm =>
              simp only [ends] at h
              obtain ⟨vs, hvs, h2⟩ := Option.map_eq_some_iff.1 h
              cases h2
              obtain ⟨hd, u, hr, hp⟩ := ends_ok CO hst' hvs
              exact ⟨hd, u, hr, u, rfl, hp⟩
            | ret =>
              simp only [ends] at h
              obtain ⟨vs, hvs, h2⟩ := Option.map_eq_some_iff.1 h
              cases h2
              obtain ⟨hd, u, hr, hp⟩ := ends_ok CO hst' hvs
              exact ⟨hd, u, hr, u, rfl, hp⟩
            | ext i => cases h
        · cases h
      · cases h
    · cases h

end
end Go.Den
