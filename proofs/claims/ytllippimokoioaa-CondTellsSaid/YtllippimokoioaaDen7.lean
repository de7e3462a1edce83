import Derived.Test.YtllippimokoioaaDen6
set_option linter.unusedVariables false
namespace Go.Den

def kindOK (P : Program) (t : TypeId) : TK → Prop
  | .int k => P.underlying t = some (.int k)
  | .bool => P.underlying t = some .bool
  | .string => P.underlying t = some .string
  | .slice e => P.underlying t = some (.slice e)
  | .array n e => P.underlying t = some (.array n e)
  | .struct fs => ∃ fields, P.underlying t = some (.struct fields) ∧ fields.toList.map (fun f => (f.type, f.offset)) = fs
  | .pointer e => P.underlying t = some (.pointer e)
  | .iface => ∃ ms, P.underlying t = some (.interface ms)
  | .func => ∃ a b c, P.underlying t = some (.func a b c)
  | .map k v => P.underlying t = some (.map k v)
  | .other => ∃ ts, P.underlying t = some (.tuple ts)

structure TIok (P : Program) (t : TypeId) (ti : TI) : Prop where
  info : ∃ i z, P.info? t = some i ∧ i.size = ti.size ∧ i.bytes = ti.bytes ∧ i.zero = some z ∧ (∀ Z ι w, srepL Z ι w ti.zero z.cells.toList) ∧
    (∀ (j : Nat) (x : V) (y : Value), ti.zero[j]? = some x → z.cells[j]? = some y → tok1 x y = none) ∧ (if ti.agg then ∃ us, z = .agg us else z.cells = #[z])
  kind : kindOK P t ti.kind

/-- structs of which the one may be held against the other -/
def eqB (P : Program) (t : TypeId) : Bool := (P.fieldsOf t).all (fun f => f.name != "_") && !P.stoodInHeld t && !P.eqGuardType P.depth t

structure CtxOK (C : Ctx) : Prop where
  ti : ∀ t ti, C.ti t = some ti → TIok C.P t ti
  eqT : ∀ t, C.eqT t = true → eqB C.P t = true
  names : ∀ (f : FuncId) (fn : Func), C.P.funcs[f]? = some fn → fn.name ≠ "runtime.NumGoroutine"
  mixed : C.P.follows .mixedOrders = true
  fields : ∀ t z b fs, C.ti t = some ⟨z, b, .struct fs⟩ → ∀ p ∈ fs, ∃ ti, C.ti p.1 = some ti

theorem TIok.und {P : Program} {t : TypeId} {ti : TI} (h : TIok P t ti) : ∃ d, P.underlying t = some d ∧ ((match d with | .struct _ | .array _ _ => true | _ => false) = ti.agg) := by
  have hk := h.kind
  unfold kindOK at hk
  unfold TI.agg
  cases hkk : ti.kind <;> simp only [hkk] at hk <;> first | exact ⟨_, hk, rfl⟩ | (obtain ⟨_, hk⟩ := hk; first | exact ⟨_, hk, rfl⟩ | exact ⟨_, hk.1, rfl⟩ | (obtain ⟨_, _, hk⟩ := hk; exact ⟨_, hk, rfl⟩))

theorem TIok.run_isAgg {P : Program} {t : TypeId} {ti : TI} (h : TIok P t ti) (w : World) : (isAgg t).run P w = .ok ti.agg w := by
  obtain ⟨d, hd, ha⟩ := h.und
  unfold isAgg
  simp only [Sem.run_bind, run_underlying hd, Result.andThen_ok]
  rw [← ha]
  cases d <;> rfl

theorem TIok.run_size {P : Program} {t : TypeId} {ti : TI} (h : TIok P t ti) (w : World) : (sizeOf t).run P w = .ok ti.size w := by
  obtain ⟨i, z, hi, hs, _⟩ := h.info
  simp [sizeOf, typeInfo, hi, hs]

theorem TIok.run_zero {P : Program} {t : TypeId} {ti : TI} (h : TIok P t ti) : ∃ z, (∀ w, (zeroValue t).run P w = .ok z w) ∧ (∀ Z ι w, srepL Z ι w ti.zero z.cells.toList) ∧
    (∀ (j : Nat) (x : V) (y : Value), ti.zero[j]? = some x → z.cells[j]? = some y → tok1 x y = none) ∧ (if ti.agg then ∃ us, z = .agg us else z.cells = #[z]) := by
  obtain ⟨i, z, hi, hs, hb, hz, h1, h2, h3⟩ := h.info
  exact ⟨z, fun w => by simp [zeroValue, typeInfo, hi, hz], h1, h2, h3⟩

section
variable {Z : Nat → Zone} {ι : List Nat} {e : Env} {H : Heap} {vals : Nat → Value} {w : World} {P : Program}

theorem addr_add (β o n : Nat) : ((⟨β, o, none⟩ : Addr).add n) = ⟨β, o + n, none⟩ := by unfold Addr.add; split <;> simp_all

theorem load_ok {t : TypeId} {ti : TI} (h : TIok P t ti) {β off : Nat} {us : List Value} {cs : List V} {v : V} (hl : lies w β off us) (hlen : us.length = ti.size) (hs : srepL Z ι w cs us) (hv : ofCells ti cs = some v) :
    ∃ u, (loadVar t ⟨β, off, none⟩).run P w = .ok u w ∧ srep Z ι w v u := by
  unfold ofCells at hv
  unfold loadVar
  simp only [Sem.run_bind, h.run_isAgg, Result.andThen_ok, Sem.run_ite]
  cases hagg : ti.agg with
  | true =>
    rw [hagg] at hv
    simp at hv
    subst hv
    have := run_loadCells_list (P := P) w ⟨β, off, none⟩ us (fun j x hj => by rw [addr_add]; exact hl j x hj)
    refine ⟨.agg us.toArray, ?_, by simp only [srep]; exact ⟨us, rfl, hs⟩⟩
    simp [h.run_size, ← hlen, this]
  | false =>
    rw [hagg] at hv
    cases cs with
    | nil => simp at hv
    | cons c cs =>
      cases cs with
      | cons _ _ => simp at hv
      | nil =>
        simp at hv
        subst hv
        simp only [srepL] at hs
        obtain ⟨u, us', rfl, _, hs, rfl⟩ := hs
        have := hl 0 u rfl
        simp only [Nat.add_zero] at this
        exact ⟨u, by simp [run_load, this], hs⟩

theorem part_ok {t : TypeId} {ti : TI} (h : TIok P t ti) {off : Nat} {us : List Value} {cs ds : List V} {v : V} (hs : srepL Z ι w cs us) (hsub : sub cs off ti.size = some ds) (hv : ofCells ti ds = some v) :
    ∃ u, (part t us.toArray off).run P w = .ok u w ∧ srep Z ι w v u := by
  have hlen := srepL_length hs
  unfold sub at hsub
  split at hsub
  · rename_i hle
    simp at hsub
    have hs' : srepL Z ι w ds ((us.drop off).take ti.size) := by rw [← hsub]; exact srepL_take _ (srepL_drop _ hs)
    unfold ofCells at hv
    unfold part
    simp only [Sem.run_bind, h.run_isAgg, Result.andThen_ok, Sem.run_ite]
    cases hagg : ti.agg with
    | true =>
      rw [hagg] at hv
      simp at hv
      subst hv
      refine ⟨.agg ((us.drop off).take ti.size).toArray, ?_, by simp only [srep]; exact ⟨_, rfl, hs'⟩⟩
      simp [h.run_size, List.extract_toArray, List.extract_eq_take_drop]
    | false =>
      rw [hagg] at hv
      cases ds with
      | nil => simp at hv
      | cons c ds =>
        cases ds with
        | cons _ _ => simp at hv
        | nil =>
          simp at hv
          subst hv
          simp only [srepL] at hs'
          obtain ⟨u, us', he, _, hs', rfl⟩ := hs'
          refine ⟨u, ?_, hs'⟩
          have h0 := congrArg (fun l => l[0]?) he
          have hpos : 0 < ti.size := by
            rcases Nat.eq_zero_or_pos ti.size with h | h
            · rw [h] at he; simp at he
            · exact h
          rw [List.getElem?_take, if_pos hpos, List.getElem?_drop] at h0
          simp at h0
          simp [h0]
  · cases hsub

/-- what an operand tells -/
theorem constV_ok (C : Ctx) (t : TypeId) (v : Value) : srep Z ι w (constV C t v) v ∧ Cold (constV C t v) v := by
  unfold constV
  split
  · split
    · exact ⟨by simp [srep], fun j => by unfold tokV; cases j <;> simp [V.parts, V.cells, vparts, Value.cells, tok1]⟩
    · exact ⟨by simp [srep], fun j => by unfold tokV; cases j <;> simp [V.parts, V.cells, vparts, Value.cells, tok1]⟩
  all_goals first
    | exact ⟨by simp [srep], fun j => tokV_any _ _⟩
    | exact ⟨by simp [srep, flat], fun j => by unfold tokV; cases j <;> simp [V.parts, V.cells, vparts, Value.cells, tok1]⟩

theorem rd_srep {a : Act} (G : Good Z ι e H (fun t => a.tmps.getD t undef) w) (C : Ctx) (t : TypeId) (take : Bool) (x : Operand) : srep Z ι w (rdO C t e take x) (a.eval x) := by
  cases x with
  | tmp n =>
    simp only [rdO, Act.eval]
    split
    · exact G.rep n
    · exact srep_dem (G.rep n)
  | const v => exact (constV_ok C t v).1
  | global g => simp [rdO, srep]
  | func f => simp only [rdO, Act.eval, srep, srepT]; exact ⟨[], [], rfl, rfl, rfl⟩

theorem rd_cold {a : Act} (C : Ctx) (t : TypeId) (x : Operand) : Cold (rdO C t e false x) (a.eval x) := by
  cases x with
  | tmp n => exact cold_dem _ _
  | const v => exact (constV_ok (Z := fun _ => .free) (ι := []) (w := default) C t v).2
  | global g => exact fun j => tokV_any _ _
  | func f => exact fun j => by unfold tokV; cases j <;> simp [rdO, Act.eval, V.parts, V.cells, vparts, Value.cells, tok1]

/-- the slots that an operation takes -/
def takesOf (take : Bool) (xs : List Operand) (t : Nat) : Prop := take = true ∧ Operand.tmp t ∈ xs

theorem rd_tok {a : Act} (G : Good Z ι e H (fun t => a.tmps.getD t undef) w) (C : Ctx) (t : TypeId) (take : Bool) (x : Operand) (xs : List Operand) (hx : x ∈ xs) (j β : Nat)
    (h : tokV (rdO C t e take x) (a.eval x) j = some β) : ∃ n, x = .tmp n ∧ takesOf take xs n ∧ tokV (e n) (a.tmps.getD n undef) j = some β := by
  cases take with
  | false => rw [rd_cold C t x j] at h; cases h
  | true =>
    cases x with
    | tmp n => exact ⟨n, rfl, ⟨rfl, hx⟩, by simpa [rdO, Act.eval] using h⟩
    | const v =>
      change tokV (constV C t v) v j = some β at h
      rw [(constV_ok (Z := fun _ => .free) (ι := []) (w := default) C t v).2 j] at h; cases h
    | global g => rw [show rdO C t e true (.global g) = V.any from rfl, tokV_any] at h; cases h
    | func f =>
      simp only [rdO, Act.eval] at h
      unfold tokV at h
      cases j <;> simp [V.parts, V.cells, vparts, Value.cells, tok1] at h

theorem rd_own {a : Act} (G : Good Z ι e H (fun t => a.tmps.getD t undef) w) (C : Ctx) (t : TypeId) (take : Bool) (x : Operand) : ownV Z w (rdO C t e take x) (a.eval x) := by
  cases take with
  | false => exact (rd_cold C t x).own
  | true =>
    cases x with
    | tmp n => exact G.own n
    | const v => exact (constV_ok (Z := fun _ => .free) (ι := []) (w := default) C t v).2.own
    | global g => exact Cold.own (fun j => tokV_any _ _)
    | func f => exact Cold.own (fun j => by unfold tokV; cases j <;> simp [rdO, Act.eval, V.parts, V.cells, vparts, Value.cells, tok1])

theorem dem1_dem1 (v : V) : v.dem1.dem1 = v.dem1 := by cases v <;> rfl
theorem dem2_dem2 (v : V) : v.dem2.dem2 = v.dem2 := by
  cases v with
  | agg cs => simp only [V.dem2, List.map_map]; congr 1; exact List.map_congr_left (fun a _ => dem1_dem1 a)
  | _ => rfl
theorem dem_dem (v : V) : v.dem.dem = v.dem := by
  cases v with
  | tup cs => simp only [V.dem, List.map_map]; congr 1; exact List.map_congr_left (fun a _ => dem2_dem2 a)
  | agg cs => exact dem2_dem2 (.agg cs)
  | _ => rfl

theorem left_at (take : Bool) (xs : List Operand) (e : Env) (t : Nat) : (takesOf take xs t ∧ e.left take xs t = (e t).dem) ∨ (¬ takesOf take xs t ∧ e.left take xs t = e t) := by
  unfold takesOf Env.left
  cases take with
  | false => simp
  | true =>
    simp only [true_and, if_true]
    suffices h : ∀ (xs : List Operand) (e : Env), (Operand.tmp t ∈ xs ∧ (xs.foldl (fun e x => match x with | .tmp n => e.put (some n) (e n).dem | _ => e) e) t = (e t).dem) ∨
        (¬ Operand.tmp t ∈ xs ∧ (xs.foldl (fun e x => match x with | .tmp n => e.put (some n) (e n).dem | _ => e) e) t = e t) from h xs e
    intro xs
    induction xs with
    | nil => intro e; simp
    | cons x xs ih =>
      intro e
      rw [List.foldl_cons]
      rcases ih (match x with | .tmp n => e.put (some n) (e n).dem | _ => e) with ⟨hm, h⟩ | ⟨hm, h⟩
      · left
        refine ⟨List.mem_cons_of_mem _ hm, ?_⟩
        rw [h]
        cases x with
        | tmp n =>
          simp only [Env.put]
          split
          · rename_i hn; subst hn; exact dem_dem _
          · rfl
        | _ => rfl
      · cases x with
        | tmp n =>
          by_cases hn : t = n
          · subst hn
            left
            exact ⟨List.mem_cons_self, by rw [h]; simp [Env.put]⟩
          · right
            refine ⟨by simp [hn, hm], ?_⟩
            rw [h]
            simp [Env.put, hn]
        | _ => right; exact ⟨by simp [hm], h⟩

end
end Go.Den
