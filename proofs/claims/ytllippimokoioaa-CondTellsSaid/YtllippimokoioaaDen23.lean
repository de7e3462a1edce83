import Derived.Test.YtllippimokoioaaDen22
import Derived.KernelRfl
set_option linter.unusedVariables false
namespace Go.Den

/-- an empty cell, told -/
def zeroC : Value → Option V
  | .bool b => some (.sc (.bool b))
  | .int k n => some (.sc (.int k n))
  | .string s => some (.sc (.string s))
  | .pointer none => some (.sc (.pointer none))
  | .nilFunc => some (.sc .nilFunc)
  | .nilIface => some (.sc .nilIface)
  | .map none => some (.sc (.map none))
  | .slice none 0 0 => some (.sl true 0 [])
  | _ => none

def zeroCs : List Value → Option (List V)
  | [] => some []
  | u :: us => match zeroC u, zeroCs us with
    | some v, some vs => some (v :: vs)
    | _, _ => none

def kindOf : TypeDesc → Option TK
  | .int k => some (.int k)
  | .bool => some .bool
  | .string => some .string
  | .slice e => some (.slice e)
  | .array n e => some (.array n e)
  | .struct fs => some (.struct (fs.toList.map fun f => (f.type, f.offset)))
  | .pointer e => some (.pointer e)
  | .interface _ => some .iface
  | .func _ _ _ => some .func
  | .map k v => some (.map k v)
  | .tuple _ => some .other
  | _ => none

def isAggV : Value → Bool
  | .agg _ => true
  | _ => false

/-- What a program tells of a type. -/
def mkTI (P : Program) (t : TypeId) : Option TI :=
  match P.info? t with
  | some i => match i.zero with
    | some z => match zeroCs z.cells.toList, (P.underlying t).bind kindOf with
      | some cs, some k => if i.size = cs.length ∧ isAggV z = (TI.agg ⟨cs, i.bytes, k⟩) then some ⟨cs, i.bytes, k⟩ else none
      | _, _ => none
    | none => none
  | none => none

theorem zeroC_ok {u : Value} {v : V} (h : zeroC u = some v) : u.oneCell' = true ∧ (∀ Z ι w, srep Z ι w v u) ∧ tok1 v u = none := by
  unfold zeroC at h
  split at h <;> cases h <;> exact ⟨rfl, fun Z ι w => by simp [srep, flat], rfl⟩

theorem zeroCs_ok : ∀ {us : List Value} {vs : List V}, zeroCs us = some vs → (∀ Z ι w, srepL Z ι w vs us) ∧ ∀ (j : Nat) (x : V) (y : Value), vs[j]? = some x → us[j]? = some y → tok1 x y = none
  | [], vs, h => by
    simp only [zeroCs] at h
    cases h
    exact ⟨fun Z ι w => by simp only [srepL], fun j x y hx => by simp at hx⟩
  | u :: us, vs, h => by
    simp only [zeroCs] at h
    split at h
    · rename_i v vs' h1 h2
      cases h
      obtain ⟨a1, a2, a3⟩ := zeroC_ok h1
      obtain ⟨b1, b2⟩ := zeroCs_ok h2
      refine ⟨fun Z ι w => by simp only [srepL]; exact ⟨u, us, rfl, a1, a2 Z ι w, b1 Z ι w⟩, fun j x y hx hy => ?_⟩
      cases j with
      | zero => simp at hx hy; subst hx; subst hy; exact a3
      | succ j => exact b2 j x y (by simpa using hx) (by simpa using hy)
    · cases h

theorem mkTI_ok {P : Program} {t : TypeId} {ti : TI} (h : mkTI P t = some ti) : TIok P t ti := by
  unfold mkTI at h
  split at h
  · rename_i i hi
    split at h
    · rename_i z hz
      split at h
      · rename_i cs k hcs hk
        split at h
        · rename_i hc
          cases h
          obtain ⟨h1, h2⟩ := zeroCs_ok hcs
          refine ⟨⟨i, z, hi, hc.1, rfl, hz, h1, fun j x y hx hy => h2 j x y hx (by simpa using hy), ?_⟩, ?_⟩
          · rw [← hc.2]
            cases z <;> simp [isAggV, Value.cells]
          · obtain ⟨d, hd, hk⟩ := Option.bind_eq_some_iff.1 hk
            unfold kindOf at hk
            split at hk <;> cases hk <;> simp only [kindOK, hd] <;> first | rfl | exact ⟨_, rfl⟩ | exact ⟨_, rfl, rfl⟩ | exact ⟨_, _, _, rfl⟩
        · cases h
      · cases h
    · cases h
  · cases h

def fieldsB (C : Ctx) : Option TI → Bool
  | some ⟨_, _, .struct fs⟩ => fs.all fun p => (C.ti p.1).isSome
  | _ => true

/-- A context that is read off a program. -/
theorem ctxOK_of {C : Ctx} (n : Nat) (tab : List (Option TI)) (hti : C.ti = fun t => (tab[t]?).join) (htab : tab = (List.range n).map (fun t => mkTI C.P t)) (hf : tab.all (fieldsB C) = true)
    (es : List TypeId) (heq : C.eqT = fun t => es.contains t) (hes : es.all (eqB C.P) = true) (hn : (C.P.funcs.all fun fn => fn.name != "runtime.NumGoroutine") = true) (hm : C.P.follows .mixedOrders = true) : CtxOK C := by
  have key : ∀ t ti, C.ti t = some ti → (C.ti t) ∈ tab ∧ mkTI C.P t = some ti := by
    intro t ti h
    rw [hti] at h
    simp only at h
    cases ht : tab[t]? with
    | none => rw [ht] at h; cases h
    | some o =>
      rw [ht] at h
      simp only [Option.join] at h
      refine ⟨by rw [hti]; simp only [ht]; exact List.mem_of_getElem? ht, ?_⟩
      rw [htab] at ht
      have hlt : t < n := by
        rcases Nat.lt_or_ge t n with h' | h'
        · exact h'
        · rw [List.getElem?_eq_none (by simpa using h')] at ht; cases ht
      rw [List.getElem?_map, List.getElem?_range hlt, Option.map_some, Option.some.injEq] at ht
      rw [ht]
      simpa using h
  refine ⟨fun t ti h => mkTI_ok (key t ti h).2, fun t h => List.all_eq_true.1 hes t (by rw [heq] at h; simpa using h), fun f fn hfn he => ?_, hm, fun t z b fs h p hp => ?_⟩
  · have := Array.all_eq_true'.1 hn fn (Array.mem_of_getElem? hfn)
    simp [he] at this
  · have h1 := List.all_eq_true.1 hf _ (key t _ h).1
    rw [h] at h1
    simp only [fieldsB, List.all_eq_true] at h1
    exact Option.isSome_iff_exists.1 (h1 p hp)

def codesB (C : Ctx) (fs : List FuncId) : Bool := fs.all fun f => match C.P.funcs[f]? with
  | some fn => match fn.body with
    | some c => codeOK C (C.hint f) fn.ntmps c
    | none => true
  | none => true

def noHint : Hint := ⟨.n, [], [], [], false⟩

def hintOf : List (FuncId × Hint) → FuncId → Hint
  | [], _ => noHint
  | (g, h) :: l, f => if f = g then h else hintOf l f

theorem hintOf_mem : ∀ (l : List (FuncId × Hint)) (f : FuncId), (hintOf l f).ok = true → f ∈ l.map (·.1)
  | [], f, h => by cases h
  | (g, x) :: l, f, h => by
    simp only [hintOf] at h
    split at h
    · rename_i hf; simp [hf]
    · exact List.mem_cons_of_mem _ (hintOf_mem l f h)

theorem codesOK_of {C : Ctx} (hs : List (FuncId × Hint)) (hh : C.hint = hintOf hs) (h : codesB C (hs.map (·.1)) = true) : CodesOK C := by
  intro f fn c hok hfn hc
  have := List.all_eq_true.1 h f (hintOf_mem hs f (by rw [← hh]; exact hok))
  rw [hfn] at this
  simp only [hc] at this
  exact this

end Go.Den
