import Derived.Test.YtllippimokoioaaDen11
set_option linter.unusedVariables false
namespace Go.Den

section
variable {Z : Nat → Zone} {ι : List Nat} {e : Env} {H : Heap} {w : World} {C : Ctx} {a : Act} {P : Program}

theorem natIn_ok {v : V} {u : Value} {n m : Nat} (h : natIn v n = some m) (hs : srep Z ι w v u) : m ≤ n ∧ ∃ k i, u = .int k i ∧ 0 ≤ i ∧ i ≤ n ∧ m = i.toNat := by
  unfold natIn at h
  split at h
  · rename_i k i
    split at h
    · rename_i hr
      simp at h
      simp only [srep] at hs
      exact ⟨by omega, k, i, hs.1, hr.1, hr.2, h.symm⟩
    · cases h
  · cases h

theorem idxIn_ok {v : V} {u : Value} {n m : Nat} (h : idxIn v n = some m) (hs : srep Z ι w v u) : m < n ∧ ∃ k i, u = .int k i ∧ 0 ≤ i ∧ i < n ∧ m = i.toNat := by
  unfold idxIn at h
  split at h
  · rename_i k i
    split at h
    · rename_i hr
      simp at h
      simp only [srep] at hs
      exact ⟨by omega, k, i, hs.1, hr.1, hr.2, h.symm⟩
    · cases h
  · cases h

theorem run_bound {k : IntKind} {i : Int} {y : Nat} {code : BoundsCode} (h0 : 0 ≤ i) (h1 : i ≤ y) : (Instr.sliceBound (.int k i) y code).run P w = .ok i.toNat w := by
  simp [Instr.sliceBound, asIntOf, h0, h1]

theorem sliceV_ok (CO : CtxOK C) (G : Good Z ι e H (fun t => a.tmps.getD t undef) w) (o : Oper) (t : TypeId) (x : Operand) (lo hi mx : Option Operand) (take : Bool) (lim : Nat) (ho : o.op = .slice t x lo hi mx)
    {zero : List V} {by_ : Nat} {el : TypeId} {ti : TI} {own : Bool} {k : Nat} {xs : List V} {v : V} {S : Nat → Prop}
    (hti : C.ti t = some ⟨zero, by_, .slice el⟩) (hel : C.ti el = some ti) (hx : rdO C 0 e take x = .sl own k xs) (hk : k = 0 ∨ k = ti.size)
    (h : sliceV own k xs (lo.map (rdO C 0 e take)) (hi.map (rdO C 0 e take)) (mx.map (rdO C 0 e take)) = some v) :
    Runs C.P a.eval o w (Post (TT e (fun t => a.tmps.getD t undef) H ι w S) lim Z ι w v H) := by
  have hkd := (CO.ti t _ hti).kind
  simp only [kindOK] at hkd
  have hs := rd_srep G C 0 take x
  rw [hx] at hs
  have hrd := fun y => rd_srep G C 0 take y
  -- the three bounds, and what is made of them
  suffices hb : ∃ (l h' : Nat) (o' : Bool), v = .sl o' k ((xs.take h').drop l) ∧ l ≤ h' ∧ h' ≤ xs.length ∧ ∀ cap, xs.length ≤ cap → ∃ m, h' ≤ m ∧ m ≤ cap ∧ (o' = true → m = h') ∧
      (Instr.sliceBounds true xs.length cap (lo.map a.eval) (hi.map a.eval) (mx.map a.eval)).run C.P w = .ok (l, h', m) w by
    obtain ⟨l, h', o', rfl, hl, hh, hb⟩ := hb
    have hlen : ((xs.take h').drop l).length = h' - l := by simp; omega
    simp only [srep] at hs
    rcases hs with ⟨hu, rfl⟩ | ⟨β, off, c, us, m', hu, hc, hk0, hz, hm, hlies, hE⟩
    · obtain ⟨m, hm1, hm2, hm3, hr⟩ := hb 0 (by simp)
      simp at hh
      subst hh
      obtain rfl : l = 0 := by omega
      obtain rfl : m = 0 := by omega
      refine cold_val G (u := .slice none 0 0) ?_ (by simp [srep]) (fun j => by unfold tokV; cases j <;> simp [V.parts, V.cells, vparts, Value.cells, tok1])
      simp only [List.length_nil] at hr
      simp [execOp, ho, hu, Instr.sliceAt, Instr.slice, run_underlying hkd, (CO.ti el ti hel).run_size, hr]
    · have hk2 : k = ti.size := hk.resolve_left (by omega)
      obtain ⟨m, hm1, hm2, hm3, hr⟩ := hb c hc
      have hE' : srepE Z ι w k ((xs.take h').drop l) ((us.take (h' * k)).drop (l * k)) := srepE_drop _ (srepE_take _ hE)
      have hul := srepE_length hE
      have hcold : ∀ (ad : Option Addr), Cold (.sl o' k ((xs.take h').drop l)) (.slice ad (h' - l) (m - l)) := fun ad j => by
        unfold tokV
        cases j with
        | succ j => simp [V.parts, V.cells]
        | zero =>
          cases o' with
          | false => simp [V.parts, V.cells, vparts, Value.cells, tok1]
          | true =>
            have := hm3 rfl
            subst this
            cases ad <;> simp [V.parts, V.cells, vparts, Value.cells, tok1]
      refine cold_val G (u := .slice (if m = l then some ⟨β, off, none⟩ else some ⟨β, off + l * k, none⟩) (h' - l) (m - l)) ?_ ?_ (hcold _)
      · subst hk2
        simp [execOp, ho, hu, Instr.sliceAt, Instr.slice, run_underlying hkd, (CO.ti el ti hel).run_size, hr, addr_add]
      · simp only [srep]
        right
        by_cases hml : m = l
        · refine ⟨β, off, m - l, (us.take (h' * k)).drop (l * k), m', by simp [hml]; omega, by simp; omega, hk0, hz, ?_, ?_, hE'⟩
          · simp
            have : h' = l := by omega
            subst this
            omega
          · have : h' = l := by omega
            subst this
            intro j q hj
            simp at hj
        · refine ⟨β, off + l * k, m - l, (us.take (h' * k)).drop (l * k), m', by simp [hml]; omega, by simp; omega, hk0, hz, ?_, ?_, hE'⟩
          · simp
            have h1 : l * k ≤ h' * k := Nat.mul_le_mul_right _ hl
            have h2 : h' * k ≤ xs.length * k := Nat.mul_le_mul_right _ hh
            omega
          · intro j q hj
            rw [List.getElem?_drop, List.getElem?_take] at hj
            split at hj
            · have := hlies _ q hj
              rw [show off + l * k + j = off + (l * k + j) by omega]
              exact this
            · cases hj
  -- the bounds
  unfold sliceV at h
  cases mx with
  | some mo =>
    simp only [Option.map_some] at h
    obtain ⟨m, hm, h⟩ := Option.bind_eq_some_iff.1 h
    cases hi with
    | none => simp at h
    | some ho' =>
      simp only [Option.map_some] at h
      obtain ⟨h', hh', h⟩ := Option.bind_eq_some_iff.1 h
      obtain ⟨l, hl, rfl⟩ := Option.map_eq_some_iff.1 h
      obtain ⟨m1, km, im, em, m2, m3, m4⟩ := natIn_ok hm (hrd mo)
      obtain ⟨h1, kh, ih, eh, h2, h3, h4⟩ := natIn_ok hh' (hrd ho')
      cases lo with
      | none =>
        simp at hl
        subst hl
        refine ⟨0, h', h' == m, rfl, Nat.zero_le _, by omega, fun cap hc => ⟨m, h1, by omega, fun e => (by simp at e; exact e.symm), ?_⟩⟩
        simp [Instr.sliceBounds, em, eh, run_bound m2 (show im ≤ (cap : Int) by omega), run_bound h2 h3, ← m4, ← h4]
      | some lo' =>
        simp only [Option.map_some] at hl
        obtain ⟨l1, kl, il, el', l2, l3, l4⟩ := natIn_ok hl (hrd lo')
        refine ⟨l, h', h' == m, rfl, l1, by omega, fun cap hc => ⟨m, h1, by omega, fun e => (by simp at e; exact e.symm), ?_⟩⟩
        simp [Instr.sliceBounds, em, eh, el', run_bound m2 (show im ≤ (cap : Int) by omega), run_bound h2 h3, run_bound l2 l3, ← m4, ← h4, ← l4]
  | none =>
    simp only [Option.map_none] at h
    obtain ⟨h', hh', h⟩ := Option.bind_eq_some_iff.1 h
    obtain ⟨l, hl, rfl⟩ := Option.map_eq_some_iff.1 h
    cases hi with
    | none =>
      simp at hh'
      subst hh'
      cases lo with
      | none =>
        simp at hl
        subst hl
        exact ⟨0, xs.length, false, rfl, Nat.zero_le _, Nat.le_refl _, fun cap hc => ⟨cap, hc, Nat.le_refl _, fun e => (by cases e), by simp [Instr.sliceBounds]⟩⟩
      | some lo' =>
        simp only [Option.map_some] at hl
        obtain ⟨l1, kl, il, el', l2, l3, l4⟩ := natIn_ok hl (hrd lo')
        exact ⟨l, xs.length, false, rfl, l1, Nat.le_refl _, fun cap hc => ⟨cap, hc, Nat.le_refl _, fun e => (by cases e), by simp [Instr.sliceBounds, el', run_bound l2 l3, ← l4]⟩⟩
    | some ho' =>
      simp only [Option.map_some] at hh'
      obtain ⟨h1, kh, ih, eh, h2, h3, h4⟩ := natIn_ok hh' (hrd ho')
      cases lo with
      | none =>
        simp at hl
        subst hl
        refine ⟨0, h', false, rfl, Nat.zero_le _, h1, fun cap hc => ⟨cap, by omega, Nat.le_refl _, fun e => (by cases e), ?_⟩⟩
        simp [Instr.sliceBounds, eh, run_bound h2 (show ih ≤ (cap : Int) by omega), ← h4]
      | some lo' =>
        simp only [Option.map_some] at hl
        obtain ⟨l1, kl, il, el', l2, l3, l4⟩ := natIn_ok hl (hrd lo')
        refine ⟨l, h', false, rfl, l1, h1, fun cap hc => ⟨cap, by omega, Nat.le_refl _, fun e => (by cases e), ?_⟩⟩
        simp [Instr.sliceBounds, eh, el', run_bound h2 (show ih ≤ (cap : Int) by omega), run_bound l2 l3, ← h4, ← l4]

theorem sliceS_ok (CO : CtxOK C) (G : Good Z ι e H (fun t => a.tmps.getD t undef) w) (o : Oper) (t : TypeId) (x : Operand) (lo hi : Option Operand) (take : Bool) (lim : Nat) (ho : o.op = .slice t x lo hi none)
    {zero : List V} {by_ : Nat} {s : ByteArray} {v : V} {S : Nat → Prop}
    (hti : C.ti t = some ⟨zero, by_, .string⟩) (hx : rdO C 0 e take x = .sc (.string s))
    (h : sliceS s (lo.map (rdO C 0 e take)) (hi.map (rdO C 0 e take)) = some v) :
    Runs C.P a.eval o w (Post (TT e (fun t => a.tmps.getD t undef) H ι w S) lim Z ι w v H) := by
  have hkd := (CO.ti t _ hti).kind
  simp only [kindOK] at hkd
  have hs := rd_srep G C 0 take x
  rw [hx] at hs
  simp only [srep] at hs
  have hrd := fun y => rd_srep G C 0 take y
  unfold sliceS at h
  obtain ⟨h', hh', h⟩ := Option.bind_eq_some_iff.1 h
  obtain ⟨l, hl, rfl⟩ := Option.map_eq_some_iff.1 h
  refine cold_val G (u := .string (s.extract l h')) ?_ (by simp [srep, flat]) (cold_sc _ _)
  suffices hb : (Instr.sliceBounds false s.size s.size (lo.map a.eval) (hi.map a.eval) none).run C.P w = .ok (l, h', s.size) w by
    simp [execOp, ho, hs.1, Instr.sliceAt, Instr.slice, run_underlying hkd, hb]
  cases hi with
  | none =>
    simp at hh'
    subst hh'
    cases lo with
    | none =>
      simp at hl
      subst hl
      simp [Instr.sliceBounds]
    | some lo' =>
      simp only [Option.map_some] at hl
      obtain ⟨l1, kl, il, el', l2, l3, l4⟩ := natIn_ok hl (hrd lo')
      simp [Instr.sliceBounds, el', run_bound l2 l3, ← l4]
  | some ho' =>
    simp only [Option.map_some] at hh'
    obtain ⟨h1, kh, ih, eh, h2, h3, h4⟩ := natIn_ok hh' (hrd ho')
    cases lo with
    | none =>
      simp at hl
      subst hl
      simp [Instr.sliceBounds, eh, run_bound h2 h3, ← h4]
    | some lo' =>
      simp only [Option.map_some] at hl
      obtain ⟨l1, kl, il, el', l2, l3, l4⟩ := natIn_ok hl (hrd lo')
      simp [Instr.sliceBounds, eh, el', run_bound h2 h3, run_bound l2 l3, ← h4, ← l4]


theorem srepL_mapdem {cs : List V} {us : List Value} (h : srepL Z ι w cs us) : srepL Z ι w (cs.map V.dem1) us := srepL_dem1 h

theorem fieldAddr_ok (CO : CtxOK C) (G : Good Z ι e H (fun t => a.tmps.getD t undef) w) (o : Oper) (t : TypeId) (x : Operand) (i : Nat) (take : Bool) (lim : Nat) (ho : o.op = .fieldAddr t x i)
    {zero : List V} {by_ : Nat} {fs : List (TypeId × Nat)} {u : TypeId} {off : Nat} {ti : TI} {v : V} {S : Nat → Prop}
    (hti : C.ti t = some ⟨zero, by_, .struct fs⟩) (hf : fs[i]? = some (u, off)) (hu : C.ti u = some ti) (hp : 0 < ti.size)
    (hv : (∃ id o', rdO C 0 e take x = .ptr id o' ∧ v = .ptr id (o' + off)) ∨ (∃ cs, rdO C 0 e take x = .elp cs ∧ off ≤ cs.length ∧ v = .elp ((cs.drop off).map V.dem1))) :
    Runs C.P a.eval o w (Post (TT e (fun t => a.tmps.getD t undef) H ι w S) lim Z ι w v H) := by
  have hk := (CO.ti t _ hti).kind
  simp only [kindOK] at hk
  obtain ⟨fields, hun, hfs⟩ := hk
  have hs := rd_srep G C 0 take x
  have hfl : ∃ f, fields[i]? = some f ∧ f.type = u ∧ f.offset = off := by
    rw [← hfs, List.getElem?_map] at hf
    obtain ⟨f, hf1, hf2⟩ := Option.map_eq_some_iff.1 hf
    cases hf2
    exact ⟨f, by simpa using hf1, rfl, rfl⟩
  obtain ⟨f, hf1, rfl, rfl⟩ := hfl
  have hsz := (CO.ti _ ti hu).run_size
  have hrun : ∀ β o', (Instr.fieldAt t (.pointer (some ⟨β, o', none⟩)) i).run C.P w = .ok (.pointer (some ⟨β, o' + f.offset, none⟩)) w := fun β o' => by
    simp [Instr.fieldAt, run_underlying hun, hf1, Instr.sureAddr, fieldPlace, hsz, show ti.size ≠ 0 by omega, addr_add]
  rcases hv with ⟨id, o', hx, rfl⟩ | ⟨cs, hx, hle, rfl⟩
  · rw [hx] at hs
    simp only [srep] at hs
    obtain ⟨β, hβ, hu'⟩ := hs
    exact cold_val G (u := .pointer (some ⟨β, o' + f.offset, none⟩)) (by simp [execOp, ho, hu', hrun]) (by simp only [srep]; exact ⟨β, hβ, rfl⟩) (cold_ptr _ _ _)
  · rw [hx] at hs
    simp only [srep] at hs
    obtain ⟨β, o', us, m, hu', hz, hm, hl, hL⟩ := hs
    have hul := srepL_length hL
    refine cold_val G (u := .pointer (some ⟨β, o' + f.offset, none⟩)) (by simp [execOp, ho, hu', hrun]) ?_ (cold_one rfl (fun _ _ h => by cases h) _)
    simp only [srep]
    refine ⟨β, o' + f.offset, us.drop f.offset, m, rfl, hz, by simp; omega, fun j q hj => ?_, srepL_dem1 (srepL_drop _ hL)⟩
    rw [List.getElem?_drop] at hj
    rw [show o' + f.offset + j = o' + (f.offset + j) by omega]
    exact hl _ q hj

theorem field_ok (CO : CtxOK C) (G : Good Z ι e H (fun t => a.tmps.getD t undef) w) (o : Oper) (t : TypeId) (x : Operand) (i : Nat) (take : Bool) (lim : Nat) (ho : o.op = .field t x i)
    {zero : List V} {by_ : Nat} {fs : List (TypeId × Nat)} {u : TypeId} {off : Nat} {ti : TI} {cs ds : List V} {v : V} {S : Nat → Prop}
    (hti : C.ti t = some ⟨zero, by_, .struct fs⟩) (hf : fs[i]? = some (u, off)) (hu : C.ti u = some ti) (hx : rdO C t e take x = .agg cs) (hsub : sub cs off ti.size = some ds) (hv : ofCells ti ds = some v) :
    Runs C.P a.eval o w (Post (TT e (fun t => a.tmps.getD t undef) H ι w S) lim Z ι w v.dem H) := by
  have hk := (CO.ti t _ hti).kind
  simp only [kindOK] at hk
  obtain ⟨fields, hun, hfs⟩ := hk
  have hs := rd_srep G C t take x
  rw [hx] at hs
  simp only [srep] at hs
  obtain ⟨us, hu', hL⟩ := hs
  have hfl : ∃ f, fields[i]? = some f ∧ f.type = u ∧ f.offset = off := by
    rw [← hfs, List.getElem?_map] at hf
    obtain ⟨f, hf1, hf2⟩ := Option.map_eq_some_iff.1 hf
    cases hf2
    exact ⟨f, by simpa using hf1, rfl, rfl⟩
  obtain ⟨f, hf1, rfl, rfl⟩ := hfl
  obtain ⟨r, hr, hsr⟩ := part_ok (CO.ti _ ti hu) hL hsub hv
  exact cold_val G (by simp [execOp, ho, hu', Instr.field, run_underlying hun, hf1, asAgg, hr]) (srep_dem hsr) (cold_dem _ _)

theorem indexAddr_sl_ok (CO : CtxOK C) (G : Good Z ι e H (fun t => a.tmps.getD t undef) w) (o : Oper) (t : TypeId) (x y : Operand) (take : Bool) (lim : Nat) (ho : o.op = .indexAddr t x y)
    {zero : List V} {by_ : Nat} {el : TypeId} {ti : TI} {own : Bool} {k j : Nat} {xs : List V} {v : V} {S : Nat → Prop}
    (hti : C.ti t = some ⟨zero, by_, .slice el⟩) (hel : C.ti el = some ti) (hx : rdO C 0 e take x = .sl own k xs) (hy : idxIn (rdO C 0 e take y) xs.length = some j) (hj : xs[j]? = some v) (hk : k = ti.size) (hp : plain v = true) :
    Runs C.P a.eval o w (Post (TT e (fun t => a.tmps.getD t undef) H ι w S) lim Z ι w (.elp (v.cells.map V.dem1)) H) := by
  have hkd := (CO.ti t _ hti).kind
  simp only [kindOK] at hkd
  have hs := rd_srep G C 0 take x
  rw [hx] at hs
  simp only [srep] at hs
  obtain ⟨hlt, ki, i, hi, i0, i1, rfl⟩ := idxIn_ok hy (rd_srep G C 0 take y)
  rcases hs with ⟨_, rfl⟩ | ⟨β, off, c, us, m', hu, hc, hk0, hz, hm, hlies, hE⟩
  · simp at hlt
  · obtain ⟨u, hu1, hu2, hu3, hu4⟩ := srepE_get hE hj
    have hul := srepE_length hE
    have hfit : i.toNat * k + k ≤ us.length := by
      rw [hul, ← Nat.succ_mul]
      exact Nat.mul_le_mul_right _ hlt
    refine cold_val G (u := .pointer (some ⟨β, off + i.toNat * k, none⟩)) ?_ ?_ (cold_one rfl (fun _ _ h => by cases h) _)
    · subst hk
      simp [execOp, ho, hu, hi, Instr.indexAt, asIntOf, run_underlying hkd, i0, i1, (CO.ti el ti hel).run_size, addr_add]
    · simp only [srep]
      refine ⟨β, off + i.toNat * k, u.cells.toList, m', rfl, hz, by simp; omega, fun q r hq => ?_, srepL_dem1 (srep_cells' hu4 hp)⟩
      rw [hu1, List.getElem?_take] at hq
      split at hq
      · rw [List.getElem?_drop] at hq
        rw [show off + i.toNat * k + q = off + (i.toNat * k + q) by omega]
        exact hlies _ r hq
      · cases hq

theorem indexAddr_hs_ok (CO : CtxOK C) (G : Good Z ι e H (fun t => a.tmps.getD t undef) w) (o : Oper) (t : TypeId) (x y : Operand) (take : Bool) (lim : Nat) (ho : o.op = .indexAddr t x y)
    {zero : List V} {by_ : Nat} {el : TypeId} {ti : TI} {id off n k j : Nat} {S : Nat → Prop}
    (hti : C.ti t = some ⟨zero, by_, .slice el⟩) (hel : C.ti el = some ti) (hx : rdO C 0 e take x = .hs id off n k) (hy : idxIn (rdO C 0 e take y) n = some j) (hk : k = ti.size) :
    Runs C.P a.eval o w (Post (TT e (fun t => a.tmps.getD t undef) H ι w S) lim Z ι w (.ptr id (off + j * k)) H) := by
  have hkd := (CO.ti t _ hti).kind
  simp only [kindOK] at hkd
  have hs := rd_srep G C 0 take x
  rw [hx] at hs
  simp only [srep] at hs
  obtain ⟨hlt, ki, i, hi, i0, i1, rfl⟩ := idxIn_ok hy (rd_srep G C 0 take y)
  obtain ⟨β, c, hβ, hu, hc⟩ := hs
  subst hk
  exact cold_val G (u := .pointer (some ⟨β, off + i.toNat * ti.size, none⟩)) (by simp [execOp, ho, hu, hi, Instr.indexAt, asIntOf, run_underlying hkd, i0, i1, (CO.ti el ti hel).run_size, addr_add]) (by simp only [srep]; exact ⟨β, hβ, rfl⟩) (cold_ptr _ _ _)

theorem indexAddr_arr_ok (CO : CtxOK C) (G : Good Z ι e H (fun t => a.tmps.getD t undef) w) (o : Oper) (t : TypeId) (x y : Operand) (take : Bool) (lim : Nat) (ho : o.op = .indexAddr t x y)
    {zero : List V} {by_ : Nat} {el : TypeId} {ti : TI} {n j : Nat} {v : V} {S : Nat → Prop}
    (hti : C.ti t = some ⟨zero, by_, .array n el⟩) (hel : C.ti el = some ti) (hy : idxIn (rdO C 0 e take y) n = some j)
    (hv : (∃ id o', rdO C 0 e take x = .ptr id o' ∧ v = .ptr id (o' + j * ti.size)) ∨ (∃ cs, rdO C 0 e take x = .elp cs ∧ j * ti.size ≤ cs.length ∧ v = .elp ((cs.drop (j * ti.size)).map V.dem1))) :
    Runs C.P a.eval o w (Post (TT e (fun t => a.tmps.getD t undef) H ι w S) lim Z ι w v H) := by
  have hkd := (CO.ti t _ hti).kind
  simp only [kindOK] at hkd
  have hs := rd_srep G C 0 take x
  obtain ⟨hlt, ki, i, hi, i0, i1, rfl⟩ := idxIn_ok hy (rd_srep G C 0 take y)
  have hrun : ∀ β o', (Instr.indexAt t (.pointer (some ⟨β, o', none⟩)) (.int ki i)).run C.P w = .ok (.pointer (some ⟨β, o' + i.toNat * ti.size, none⟩)) w := fun β o' => by
    simp [Instr.indexAt, asIntOf, run_underlying hkd, Instr.sureAddr, i0, i1, (CO.ti el ti hel).run_size, addr_add]
  rcases hv with ⟨id, o', hx, rfl⟩ | ⟨cs, hx, hle, rfl⟩
  · rw [hx] at hs
    simp only [srep] at hs
    obtain ⟨β, hβ, hu'⟩ := hs
    exact cold_val G (u := .pointer (some ⟨β, o' + i.toNat * ti.size, none⟩)) (by simp [execOp, ho, hu', hi, hrun]) (by simp only [srep]; exact ⟨β, hβ, rfl⟩) (cold_ptr _ _ _)
  · rw [hx] at hs
    simp only [srep] at hs
    obtain ⟨β, o', us, m, hu', hz, hm, hl, hL⟩ := hs
    have hul := srepL_length hL
    refine cold_val G (u := .pointer (some ⟨β, o' + i.toNat * ti.size, none⟩)) (by simp [execOp, ho, hu', hi, hrun]) ?_ (cold_one rfl (fun _ _ h => by cases h) _)
    simp only [srep]
    refine ⟨β, o' + i.toNat * ti.size, us.drop (i.toNat * ti.size), m, rfl, hz, by simp; omega, fun q r hj => ?_, srepL_dem1 (srepL_drop _ hL)⟩
    rw [List.getElem?_drop] at hj
    rw [show o' + i.toNat * ti.size + q = o' + (i.toNat * ti.size + q) by omega]
    exact hl _ r hj

theorem index_str_ok (CO : CtxOK C) (G : Good Z ι e H (fun t => a.tmps.getD t undef) w) (o : Oper) (t : TypeId) (x y : Operand) (take : Bool) (lim : Nat) (ho : o.op = .index t x y)
    {zero : List V} {by_ : Nat} {s : ByteArray} {j : Nat} {b : UInt8} {S : Nat → Prop}
    (hti : C.ti t = some ⟨zero, by_, .string⟩) (hx : rdO C t e take x = .sc (.string s)) (hy : idxIn (rdO C 0 e take y) s.size = some j) (hb : s.data[j]? = some b) :
    Runs C.P a.eval o w (Post (TT e (fun t => a.tmps.getD t undef) H ι w S) lim Z ι w (.sc (.int .u8 (b.toNat : Int))) H) := by
  have hkd := (CO.ti t _ hti).kind
  simp only [kindOK] at hkd
  have hs := rd_srep G C t take x
  rw [hx] at hs
  simp only [srep] at hs
  obtain ⟨hlt, ki, i, hi, i0, i1, rfl⟩ := idxIn_ok hy (rd_srep G C 0 take y)
  have hb' : s[i.toNat]? = some b := by
    obtain ⟨d⟩ := s
    rw [Array.getElem?_eq_some_iff] at hb
    obtain ⟨h1, h2⟩ := hb
    show (if h : _ then _ else _) = _
    rw [dif_pos (show i.toNat < (⟨d⟩ : ByteArray).size from h1)]
    exact congrArg some h2
  exact cold_val G (u := .int .u8 (b.toNat : Int)) (by simp [execOp, ho, hs.1, hi, Instr.index, asIntOf, run_underlying hkd, i0, hb']) (by simp [srep, flat]) (cold_sc _ _)

theorem index_arr_ok (CO : CtxOK C) (G : Good Z ι e H (fun t => a.tmps.getD t undef) w) (o : Oper) (t : TypeId) (x y : Operand) (take : Bool) (lim : Nat) (ho : o.op = .index t x y)
    {zero : List V} {by_ n : Nat} {el : TypeId} {ti : TI} {cs ds : List V} {j : Nat} {v : V} {S : Nat → Prop}
    (hti : C.ti t = some ⟨zero, by_, .array n el⟩) (hel : C.ti el = some ti) (hx : rdO C t e take x = .agg cs) (hy : idxIn (rdO C 0 e take y) n = some j) (hsub : sub cs (j * ti.size) ti.size = some ds) (hv : ofCells ti ds = some v) :
    Runs C.P a.eval o w (Post (TT e (fun t => a.tmps.getD t undef) H ι w S) lim Z ι w v.dem H) := by
  have hkd := (CO.ti t _ hti).kind
  simp only [kindOK] at hkd
  have hs := rd_srep G C t take x
  rw [hx] at hs
  simp only [srep] at hs
  obtain ⟨us, hu', hL⟩ := hs
  obtain ⟨hlt, ki, i, hi, i0, i1, rfl⟩ := idxIn_ok hy (rd_srep G C 0 take y)
  obtain ⟨r, hr, hsr⟩ := part_ok (CO.ti _ ti hel) hL hsub hv
  exact cold_val G (by simp [execOp, ho, hu', hi, Instr.index, asIntOf, run_underlying hkd, i0, i1, (CO.ti el ti hel).run_size, hr]) (srep_dem hsr) (cold_dem _ _)

end
end Go.Den
