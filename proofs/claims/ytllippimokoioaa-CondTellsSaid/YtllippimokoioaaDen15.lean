import Derived.Test.YtllippimokoioaaDen14
set_option linter.unusedVariables false
namespace Go.Den

section
variable {Z : Nat → Zone} {ι : List Nat} {e : Env} {H : Heap} {w : World} {C : Ctx} {a : Act}

theorem okV_some {o : Option V} {v : V} {H H' : Heap} (h : okV H o = some (v, H')) : o = some v ∧ H' = H := by
  unfold okV at h
  obtain ⟨x, h1, h2⟩ := Option.map_eq_some_iff.1 h
  cases h2
  exact ⟨h1, rfl⟩

theorem append_inv {ts : List TypeId} {xs : List V} {v : V} (h : builtinV C .append ts xs = some v) : ∃ t u ts' k l o' k' m z1 b1 el z2 b2 el' ti, ts = t :: u :: ts' ∧ xs = [.sl true k l, .sl o' k' m] ∧
    C.ti t = some ⟨z1, b1, .slice el⟩ ∧ C.ti u = some ⟨z2, b2, .slice el'⟩ ∧ C.ti el = some ti ∧ 0 < ti.size ∧ 0 < ti.bytes ∧ (k = 0 ∨ k = ti.size) ∧ (k' = 0 ∨ k' = ti.size) ∧ (l.length + m.length) * ti.bytes ≤ 140737488355328 ∧ v = .sl true ti.size (l ++ m.map V.dem) := by
  cases ts with
  | nil => simp [builtinV] at h
  | cons t ts =>
    cases ts with
    | nil => simp [builtinV] at h
    | cons u ts =>
      simp only [builtinV] at h
      split at h
      all_goals first
        | (rename_i heq _; cases heq; done)
        | (rename_i heq; cases heq; done)
        | skip
      · rename_i a b t' u' ts' own k l o' k' m e1 e2
        cases e1; cases e2
        split at h
        · rename_i z1 b1 el z2 b2 el' h1 h2
          split at h
          · rename_i ti h3
            split at h
            · rename_i hc
              simp at h
              obtain ⟨rfl, h4, h5, h6, h7, h8⟩ := hc
              exact ⟨_, _, _, k, l, o', k', m, _, _, el, _, _, el', ti, rfl, rfl, h1, h2, h3, h4, h5, h6, h7, h8, h.symm⟩
            · cases h
          · cases h
        · cases h
      · cases h

set_option maxHeartbeats 1000000 in
theorem pure_sound (CO : CtxOK C) (G : Good Z ι e H (fun t => a.tmps.getD t undef) w) (o : Oper) (take : Bool) (lim : Nat) {v : V} (h : evalP C (fun t => rdO C t e take) o = some v) :
    Runs C.P a.eval o w (Post (TT e (fun t => a.tmps.getD t undef) H ι w (takesOf take o.op.operands.toList)) lim Z ι w v H) := by
  unfold evalP at h
  dsimp only at h
  split at h
  · rename_i x ho
    simp only [Option.some.injEq] at h; subst h
    exact move_ok G o x take lim (.inl ho)
  · rename_i x ho
    simp only [Option.some.injEq] at h; subst h
    exact move_ok G o x take lim (.inr ho)
  · rename_i c x y ho
    split at h
    · rename_i b hc
      simp only [Option.some.injEq] at h; subst h
      exact pick_ok G o c x y take lim ho hc
    · cases h
  · rename_i t ps ho
    split at h
    · rename_i zero by_ fs hti
      have hv := h
      obtain ⟨cs, hcs, rfl⟩ := Option.map_eq_some_iff.1 hv
      exact build_struct_ok CO G o t ps take lim ho hti hcs
    · rename_i zero by_ n el hti
      split at h
      · rename_i ti hel
        have hv := h
        obtain ⟨cs, hcs, rfl⟩ := Option.map_eq_some_iff.1 hv
        exact build_array_ok CO G o t ps take lim ho hti hel hcs
      · cases h
    · cases h
  · rename_i t n ps ho
    split at h
    · rename_i zero by_ el hti
      split at h
      · rename_i ti hel
        split at h
        · rename_i hc
          split at h
          · rename_i z hz
            have hv := h
            obtain ⟨cs, hcs, rfl⟩ := Option.map_eq_some_iff.1 hv
            exact buildSlice_ok CO G o t n ps take lim ho hti hel hz hc.1 hc.2 hcs
          · cases h
        · cases h
      · cases h
    · cases h
  · rename_i x ho
    split at h
    · rename_i id off hx
      simp only [Option.some.injEq] at h; subst h
      exact nilCheck_ok G o x take lim ho hx (.inl ⟨_, _, rfl⟩)
    · rename_i cs hx
      simp only [Option.some.injEq] at h; subst h
      exact nilCheck_ok G o x take lim ho hx (.inr (.inl ⟨_, rfl⟩))
    · rename_i f p q hx
      simp only [Option.some.injEq] at h; subst h
      exact nilCheck_ok G o x take lim ho hx (.inr (.inr ⟨_, _, _, rfl⟩))
    · cases h
  · rename_i op t x y yt ho
    have hv := h
    exact binOp_ok CO G o op t yt x y take lim ho hv
  · rename_i op t x ho
    have hv := h
    exact unOp_ok G o op t x take lim ho hv
  · rename_i s d x ho
    have hv := h
    exact convert_ok CO G o s d x take lim ho hv
  · rename_i t x ho
    split at h
    · cases h
    · rename_i ti hk hti
      simp only [Option.some.injEq] at h; subst h
      refine makeInterface_ok CO G o t x take lim ho hti (fun hkk => ?_)
      obtain ⟨z, b, k⟩ := ti
      simp at hkk
      subst hkk
      exact hk _ _ rfl
    · cases h
  · rename_i f x y ho
    simp only [Option.some.injEq] at h; subst h
    have := makeFunc_ok (C := C) (S := takesOf take o.op.operands.toList) G o f x y take lim ho
    simpa using this
  · rename_i t x y ho
    split at h
    · rename_i zero by_ el hti
      split at h
      · rename_i ti k n k' m hel hx hy
        split at h
        · rename_i hc
          obtain ⟨rfl, h0, hb, hp, hbp⟩ := hc
          obtain ⟨us, u1, u2, u3, u4⟩ := makeSlice_val_ok CO G o t x y take lim ho hti hel hx hy h0 hb hp hbp
          split at h
          · rename_i z hz
            simp only [Option.some.injEq] at h; subst h
            have := G.row (S := takesOf take o.op.operands.toList) hp (u1 z hz) lim el
            simp only [List.length_replicate] at this
            exact runs_val u4 this
          · cases h
        · cases h
      · cases h
    · cases h
  · rename_i t x lo hi mx ho
    split at h
    · rename_i zz bb s hti hx
      split at h
      · have hv := h
        exact sliceS_ok CO G o t x lo hi take lim ho hti hx hv
      · cases h
    · rename_i zz bb el own k xs hti hx
      split at h
      · rename_i ti hel
        split at h
        · rename_i hk
          have hv := h
          exact sliceV_ok CO G o t x lo hi mx take lim ho hti hel hx hk hv
        · cases h
      · cases h
    · cases h
  · rename_i t x i ho
    split at h
    · rename_i zz bb fs hti
      split at h
      · rename_i u off hf
        split at h
        · rename_i ti hu
          split at h
          · rename_i hp
            split at h
            · rename_i id o' hx
              simp only [Option.some.injEq] at h; subst h
              exact fieldAddr_ok CO G o t x i take lim ho hti hf hu hp (.inl ⟨_, _, hx, rfl⟩)
            · rename_i cs hx
              split at h
              · rename_i hle
                simp only [Option.some.injEq] at h; subst h
                exact fieldAddr_ok CO G o t x i take lim ho hti hf hu hp (.inr ⟨_, hx, hle, rfl⟩)
              · cases h
            · cases h
          · cases h
        · cases h
      · cases h
    · cases h
  · rename_i t x i ho
    split at h
    · rename_i zz bb fs hti
      split at h
      · rename_i u off cs hf hx
        split at h
        · rename_i ti hu
          have hv := h
          obtain ⟨v0, hv0, rfl⟩ := Option.map_eq_some_iff.1 hv
          obtain ⟨ds, hd, hv1⟩ := Option.bind_eq_some_iff.1 hv0
          exact field_ok CO G o t x i take lim ho hti hf hu hx hd hv1
        · cases h
      · cases h
    · cases h
  · rename_i t x y ho
    split at h
    · rename_i zz bb el hti
      split at h
      · rename_i ti hel
        split at h
        · rename_i own k xs hx
          split at h
          · rename_i j hy
            split at h
            · rename_i v' hj
              split at h
              · rename_i hk
                simp only [Option.some.injEq] at h; subst h
                exact indexAddr_sl_ok CO G o t x y take lim ho hti hel hx hy hj hk.1 hk.2
              · cases h
            · cases h
          · cases h
        · rename_i id off n k hx
          split at h
          · rename_i j hy
            split at h
            · rename_i hk
              simp only [Option.some.injEq] at h; subst h
              exact indexAddr_hs_ok CO G o t x y take lim ho hti hel hx hy hk
            · cases h
          · cases h
        · cases h
      · cases h
    · rename_i zz bb n el hti
      split at h
      · rename_i ti hel
        split at h
        · rename_i j hy
          split at h
          · rename_i id off hx
            simp only [Option.some.injEq] at h; subst h
            exact indexAddr_arr_ok CO G o t x y take lim ho hti hel hy (.inl ⟨_, _, hx, rfl⟩)
          · rename_i cs hx
            split at h
            · rename_i hle
              simp only [Option.some.injEq] at h; subst h
              exact indexAddr_arr_ok CO G o t x y take lim ho hti hel hy (.inr ⟨_, hx, hle, rfl⟩)
            · cases h
          · cases h
        · cases h
      · cases h
    · cases h
  · rename_i t x y ho
    split at h
    · rename_i zz bb s hti hx
      split at h
      · rename_i j hy
        obtain ⟨b, hb, rfl⟩ := Option.map_eq_some_iff.1 h
        exact index_str_ok CO G o t x y take lim ho hti hx hy hb
      · cases h
    · rename_i zz bb n el cs hti hx
      split at h
      · rename_i ti j hel hy
        have hv := h
        obtain ⟨v0, hv0, rfl⟩ := Option.map_eq_some_iff.1 hv
        obtain ⟨ds, hd, hv1⟩ := Option.bind_eq_some_iff.1 hv0
        exact index_arr_ok CO G o t x y take lim ho hti hel hx hy hd hv1
      · cases h
    · cases h
  · rename_i x i ho
    split at h
    · rename_i vs hx
      obtain ⟨v', hv, rfl⟩ := Option.map_eq_some_iff.1 h
      exact extract_ok G o x i take lim ho hx hv
    · cases h
  · rename_i x xt t ok ho
    split at h
    · rename_i ti u y hti hx
      split at h
      · cases h
      · rename_i hk
        split at h
        · rename_i hut
          simp only [Option.some.injEq] at h; subst h
          exact typeAssert_ok CO G o x xt t ok take lim ho hti hk (.inl ⟨y, by rw [← hut]; exact hx, rfl⟩)
        · rename_i hut
          split at h
          · rename_i hok
            obtain ⟨z, hz, rfl⟩ := Option.map_eq_some_iff.1 h
            exact typeAssert_ok CO G o x xt t ok take lim ho hti hk (.inr ⟨z, .inl ⟨u, y, hx, hut⟩, hok, hz, rfl⟩)
          · cases h
    · rename_i ti hti hx
      split at h
      · cases h
      · rename_i hk
        split at h
        · rename_i hok
          obtain ⟨z, hz, rfl⟩ := Option.map_eq_some_iff.1 h
          exact typeAssert_ok CO G o x xt t ok take lim ho hti hk (.inr ⟨z, .inr hx, hok, hz, rfl⟩)
        · cases h
    · cases h
  · rename_i c ho
    split at h
    · rename_i b hc
      have hv := h
      by_cases hb : b = .append
      · subst hb
        obtain ⟨t, u, ts, k, l, o', k', m, z1, b1, el, z2, b2, el', ti, h1, h2, h3, h4, h5, h6, h7, h8, h9, h10, rfl⟩ := append_inv hv
        have hlen := congrArg List.length h2
        simp at hlen
        have hargs : ∃ x y, c.args.toList = [x, y] := by
          have hl : c.args.toList.length = 2 := by simpa using hlen
          match c.args.toList, hl with
          | [x, y], _ => exact ⟨x, y, rfl⟩
        obtain ⟨x, y, hxy⟩ := hargs
        have e0 : (c.argTypes[0]?).getD 0 = t ∧ (c.argTypes[1]?).getD 0 = u := by
          rw [← Array.getElem?_toList, ← Array.getElem?_toList, h1]; simp
        rw [hxy] at h2
        simp only [List.zipIdx_cons, List.zipIdx_nil, List.map_cons, List.map_nil, Nat.zero_add, e0.1, e0.2, List.cons.injEq, and_true] at h2
        exact append_ok CO G o c take lim ho hc h1 hxy h3 h4 h5 h2.1 h2.2 h6 h7 h8 h9 h10
      · obtain ⟨u, hr, hs, hcold⟩ := builtinV_ok CO hb (srepT_zip (fun j => (c.argTypes[j]?).getD 0) G C take c.args.toList 0) hv o.type (c.args.map fun | .const _ => true | _ => false)
        refine cold_val G (u := u) ?_ hs hcold
        rw [exec_builtin o c b ho hc]
        have e1 : (c.args.toList.map a.eval).toArray = c.args.map a.eval := by apply Array.ext'; simp
        have e2 : c.argTypes.toList.toArray = c.argTypes := by simp
        rw [e1, e2] at hr
        exact hr
    · cases h
  · cases h


set_option maxHeartbeats 1000000 in
theorem op_sound (CO : CtxOK C) {call : FuncId → List V → Heap → Nat → Option (V × Heap)} (hcall : CallOK C call) (G : Good Z ι e H (fun t => a.tmps.getD t undef) w) (o : Oper) (take blk : Bool) (lim : Nat)
    (hnd : take = true → (o.op.operands.toList.filterMap tmpOf).Nodup) {v : V} {H' : Heap} (h : evalOp C call (fun t => rdO C t e take) take blk o H lim = some (v, H')) :
    Runs C.P a.eval o w (Post (TT e (fun t => a.tmps.getD t undef) H ι w (takesOf take o.op.operands.toList)) lim Z ι w v H') := by
  have pure : okV H (evalP C (fun t => rdO C t e take) o) = some (v, H') → Runs C.P a.eval o w (Post (TT e (fun t => a.tmps.getD t undef) H ι w (takesOf take o.op.operands.toList)) lim Z ι w v H') := by
    intro h
    obtain ⟨h1, rfl⟩ := okV_some h
    exact pure_sound CO G o take lim h1
  unfold evalOp at h
  split at h
  · rename_i t ho
    split at h
    · rename_i ti hti
      simp at h; obtain ⟨rfl, rfl⟩ := h
      exact alloc_ok CO G o t lim ho hti
    · cases h
  · rename_i t x ho
    split at h
    · split at h
      · rename_i hp
        simp at h; obtain ⟨rfl, rfl⟩ := h
        exact box_ok G o t x take lim ho hp.1
      · cases h
    · cases h
  · rename_i t x ho
    split at h
    · rename_i ti hti
      split at h
      · rename_i id off hx
        split at h
        · rename_i cs hcs
          split at h
          · rename_i v' hv
            simp at h; obtain ⟨rfl, rfl⟩ := h
            obtain ⟨ds, hd, hv⟩ := Option.bind_eq_some_iff.1 hv
            exact load_ptr_ok CO G o t x take lim ho hti hx hcs hd hv
          · cases h
        · cases h
      · rename_i cs hx
        obtain ⟨hv, rfl⟩ := okV_some h
        obtain ⟨v0, hv0, rfl⟩ := Option.map_eq_some_iff.1 hv
        obtain ⟨ds, hd, hv1⟩ := Option.bind_eq_some_iff.1 hv0
        exact load_elp_ok CO G o t x take lim ho hti hx hd hv1
      · cases h
    · cases h
  · rename_i t x y ho
    split at h
    · rename_i ti id off hti hx
      split at h
      · rename_i cs hcs
        split at h
        · rename_i hc
          split at h
          · rename_i cs' hov
            simp at h; obtain ⟨rfl, rfl⟩ := h
            exact store_ok CO G o t x y take lim ho hti hx hcs hc.1 hc.2.1 hc.2.2.1 hov
          · cases h
        · cases h
      · cases h
    · cases h
  · rename_i t x y ho
    split at h
    · split at h
      · rename_i zero by_ el hti
        split at h
        · rename_i ti k n k' m hel hx hy
          split at h
          · rename_i hc
            obtain ⟨rfl, h0, hb, hp, hbp⟩ := hc
            obtain ⟨us, u1, u2, u3, u4⟩ := makeSlice_val_ok CO G o t x y take lim ho hti hel hx hy h0 hb hp hbp
            simp at h; obtain ⟨rfl, rfl⟩ := h
            refine runs_val u4 (G.box' (by simpa using u2) (fun j x y h1 h2 β hβ => ?_) (fun j β x y h1 h2 hβ => ?_) (fun j j' β x x' y y' h1 h2 hβ => ?_) lim el ?_ ?_)
            · rw [u3 j x y (by simpa using h1) h2] at hβ; cases hβ
            · rw [u3 j x y (by simpa using h1) h2] at hβ; cases hβ
            · rw [u3 j x y (by simpa using h1) h2] at hβ; cases hβ
            · simp only [srep]; exact ⟨w.heap.size, n.toNat, by rw [← G.len]; simp, rfl, Nat.le_refl _⟩
            · exact cold_one rfl (fun _ _ h => by cases h) _
          · cases h
        · cases h
      · cases h
    · exact pure h
  · rename_i c ho
    split at h
    · rename_i f hc
      split at h
      · rename_i g p q hf
        exact call_ok CO hcall G o c f take lim ho hc hnd hf h
      · cases h
    · exact pure h
  · exact pure h

end
end Go.Den
