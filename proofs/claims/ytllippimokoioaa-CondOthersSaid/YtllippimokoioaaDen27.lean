import Derived.Test.YtllippimokoioaaDen26
set_option linter.unusedVariables false
namespace Go.Den

def gateK (ops : Array Oper) (l : Fr) (o : Oper) (x y : Fr → R) : R :=
  match o.guard with
  | none => x l
  | some (j, want) => match (ops[j]?).bind (·.dst) with
    | some d => match look l d with
      | .sc (.bool b) => match want with
        | true => cond b (x ((d, .sc (.bool true)) :: l)) (y ((d, .sc (.bool false)) :: l))
        | false => cond b (y ((d, .sc (.bool true)) :: l)) (x ((d, .sc (.bool false)) :: l))
      | .tup [] => y l
      | _ => none
    | none => none

/-- which number's slot is asked -/
def slotOf : Operand → Option Nat
  | .tmp n => some n
  | _ => none

def mark (l : List (Nat × Nat)) (rid i : Nat) : Bool :=
  match l with
  | [] => false
  | (a, b) :: l => match Nat.beq a rid && Nat.beq b i with
    | true => true
    | false => mark l rid i

def opsK (C : Ctx) (call : CallK) (h : Hint) (rid : Nat) (ops : Array Oper) (lim : Nat) : List Oper → Nat → Fr → Heap → (Fr → Heap → R) → R
  | [], _, l, H, K => K l H
  | o :: os, i, l, H, K => gateK ops l o
      (fun l => evalOpK C call (fun t => rdL C t l (mark h.takes rid i)) (mark h.takes rid i) (mark h.blocks rid i) o H lim fun v H' =>
        force v fun v => opsK C call h rid ops lim os (i + 1) ((leftL (mark h.takes rid i) l o.op.operands.toList).set o.dst v) H' K)
      (fun l => opsK C call h rid ops lim os (i + 1) (l.set o.dst (.tup [])) H K)

def iterK (body : Fr → Heap → (Ex → Fr → Heap → R) → R) : Nat → Fr → Heap → (Ex → Fr → Heap → R) → R
  | 0, _, _, _ => none
  | n + 1, l, H, K => body l H fun x l H => match x with
    | .nrm => iterK body n l H K
    | .ext i => K (.ext i) l H
    | .ret => K .ret l H

def codeK (C : Ctx) (call : CallK) (h : Hint) (lim : Nat) : Code → Fr → Heap → (Ex → Fr → Heap → R) → R
  | .skip, l, H, K => K .nrm l H
  | .region id ops _, l, H, K => opsK C call h id ops lim ops.toList 0 l H fun l H => K .nrm (keepL h.keep l) H
  | .seq a b, l, H, K => codeK C call h lim a l H fun x l H => match x with
    | .nrm => codeK C call h lim b l H K
    | .ext i => K (.ext i) l H
    | .ret => K .ret l H
  | .cond c a b, l, H, K => match rdL C 0 l false c with
    | .sc (.bool t) => cond t (codeK C call h lim a (l.set (slotOf c) (.sc (.bool true))) H K) (codeK C call h lim b (l.set (slotOf c) (.sc (.bool false))) H K)
    | _ => none
  | .block id b, l, H, K => codeK C call h lim b l H fun x l H => match x with
    | .nrm => K .nrm l H
    | .ext i => match Nat.beq i id with
      | true => K .nrm l H
      | false => K (.ext i) l H
    | .ret => K .ret l H
  | .loop b, l, H, K => iterK (codeK C call h lim b) C.fuel l H K
  | .exit id, l, H, K => K (.ext id) l H
  | .ret, l, H, K => K .ret l H
  | _, _, _, _ => none

def resL (C : Ctx) (l : Fr) (H : Heap) : ResultVar → Option V
  | .tmp t => some (look l t)
  | .cell a t => match look l a, C.ti t with
    | .ptr id off, some ti => match H[id]? with
      | some cs => ((sub cs off ti.size).bind (ofCells ti)).map V.dem
      | none => none
    | _, _ => none

def resK (C : Ctx) (l : Fr) (H : Heap) : List ResultVar → (List V → R) → R
  | [], K => K []
  | r :: rs, K => match resL C l H r with
    | some v => resK C l H rs fun vs => K (v :: vs)
    | none => none

def endK (C : Ctx) (fn : Func) (K : V → Heap → R) (x : Ex) (l : Fr) (H : Heap) : R :=
  match x with
  | .nrm => resK C l H fn.results.toList fun vs => K (oneV vs) H
  | .ret => resK C l H fn.results.toList fun vs => K (oneV vs) H
  | .ext _ => none

def callMK (C : Ctx) (ev : CallK) (f : FuncId) (args : List V) (H : Heap) (lim : Nat) (K : V → Heap → R) : R :=
  match (C.hint f).mode with
  | .z => match closedL 0 args with
    | true => ev f args [] 0 fun r _ => match closed 0 r with
      | true => K r H
      | false => none
    | false => none
  | .q => ev f args H (max lim H.length) fun r _ => match closed H.length r with
    | true => K r H
    | false => none
  | .w => ev f args H lim fun r H' => match closed H.length r with
    | true => K r (H'.take H.length)
    | false => none
  | .n => ev f args H lim K

/-- what is known of functions that look at no block: when they end well, and their values -/
abbrev Known := FuncId → List V → Option (Bool × V)

/-- a call: known, or looked into -/
def funK.callKK (C : Ctx) (kn : Known) (ev : CallK) (f : FuncId) (l : List V) (H : Heap) (lim : Nat) (K : V → Heap → R) : R :=
  match kn f l with
  | some (p, r) => cond p (K r H) none
  | none => callMK C ev f l H lim K

def funK (C : Ctx) (kn : Known) : Nat → CallK
  | 0, _, _, _, _, _ => none
  | n + 1, f, l, H, lim, K =>
    match C.P.funcs[f]? with
    | some fn => match fn.body with
      | some c => match (C.hint f).ok with
        | true => codeK C (funK.callKK C kn (funK C kn n)) (C.hint f) lim c (argsL 0 l) H (endK C fn K)
        | false => none
      | none => none
    | none => none

section
variable {C : Ctx} {call : CallT} {callK : CallK} {h : Hint} {rid lim : Nat} {ops : Array Oper}

theorem mark_eq : ∀ (l : List (Nat × Nat)) (rid i : Nat), mark l rid i = l.contains (rid, i)
  | [], rid, i => rfl
  | (a, b) :: l, rid, i => by
    simp only [mark, List.contains_cons]
    rw [mark_eq l rid i]
    have : ((rid, i) == (a, b)) = (Nat.beq a rid && Nat.beq b i) := by
      rw [Bool.eq_iff_iff]
      simp only [beq_iff_eq, Prod.mk.injEq, Bool.and_eq_true, Nat.beq_eq]
      constructor <;> (rintro ⟨rfl, rfl⟩; exact ⟨rfl, rfl⟩)
    rw [this]
    cases Nat.beq a rid && Nat.beq b i <;> rfl

theorem Rep.same {l : Fr} {e : Env} (hr : Rep l e) {d : Nat} {v : V} (h : e d = v) : Rep ((d, v) :: l) e := by
  intro t
  rw [look_cons, hr t]
  split
  · subst t; exact h.symm
  · rfl

theorem dem_bool {b : Bool} (u : V) (h : u.dem = .sc (.bool b)) : u = .sc (.bool b) := by
  cases u <;> simp [V.dem, V.dem2, V.dem1] at h ⊢
  all_goals first | exact h | skip

theorem Rep.slot {l : Fr} {e : Env} (hr : Rep l e) {c : Operand} {v : V} (h : rdO C 0 e false c = v) (hv : v.dem = v) (hd : ∀ u : V, u.dem = v → u = v) : Rep (l.set (slotOf c) v) e := by
  cases c with
  | tmp n =>
    refine hr.same ?_
    simp only [rdO] at h
    exact hd _ h
  | _ => exact hr

theorem opsK_ok (hc : Tells call callK) : ∀ (os : List Oper) (i : Nat) (l : Fr) (e : Env) (H : Heap) (K : Fr → Heap → R) (r : V × Heap), Rep l e → opsK C callK h rid ops lim os i l H K = some r →
    ∃ l' e' H', Rep l' e' ∧ evalOps C call h rid ops lim os i e H = some (e', H') ∧ K l' H' = some r
  | [], i, l, e, H, K, r, hr, hs => ⟨l, e, H, hr, rfl, hs⟩
  | o :: os, i, l, e, H, K, r, hr, hs => by
    -- carried out, passed over
    have yes : ∀ l, Rep l e → gate ops e o = some true → (evalOpK C callK (fun t => rdL C t l (mark h.takes rid i)) (mark h.takes rid i) (mark h.blocks rid i) o H lim fun v H' =>
        force v fun v => opsK C callK h rid ops lim os (i + 1) ((leftL (mark h.takes rid i) l o.op.operands.toList).set o.dst v) H' K) = some r →
        ∃ l' e' H', Rep l' e' ∧ evalOps C call h rid ops lim (o :: os) i e H = some (e', H') ∧ K l' H' = some r := by
      intro l hr hg h1
      obtain ⟨v, H', h2, h3⟩ := evalOpK_ok hc h1
      rw [force_eq] at h3
      rw [mark_eq, mark_eq] at h2
      rw [mark_eq] at h3
      have hrd : (fun t => rdL C t l (h.takes.contains (rid, i))) = fun t => rdO C t e (h.takes.contains (rid, i)) := by
        funext t x
        exact hr.rd t _ x
      rw [hrd] at h2
      obtain ⟨l', e', H'', g1, g2, g3⟩ := opsK_ok hc os (i + 1) _ _ H' K r ((hr.left (h.takes.contains (rid, i)) o.op.operands.toList).set o.dst v) h3
      refine ⟨l', e', H'', g1, ?_, g3⟩
      simp only [evalOps, stepOp, hg, h2]
      exact g2
    have no : ∀ l, Rep l e → gate ops e o = some false → opsK C callK h rid ops lim os (i + 1) (l.set o.dst (.tup [])) H K = some r →
        ∃ l' e' H', Rep l' e' ∧ evalOps C call h rid ops lim (o :: os) i e H = some (e', H') ∧ K l' H' = some r := by
      intro l hr hg h1
      obtain ⟨l', e', H'', g1, g2, g3⟩ := opsK_ok hc os (i + 1) _ _ H K r (hr.set o.dst (.tup [])) h1
      refine ⟨l', e', H'', g1, ?_, g3⟩
      simp only [evalOps, stepOp, hg]
      exact g2
    simp only [opsK] at hs
    unfold gateK at hs
    cases hgd : o.guard with
    | none =>
      rw [hgd] at hs
      exact yes l hr (by simp [gate, hgd]) hs
    | some p =>
      obtain ⟨j, want⟩ := p
      rw [hgd] at hs
      simp only at hs
      cases hd : (ops[j]?).bind (·.dst) with
      | none => rw [hd] at hs; cases hs
      | some d =>
        rw [hd] at hs
        simp only at hs
        rw [hr d] at hs
        split at hs
        · rename_i b hb
          have hg : gate ops e o = some (b == want) := by simp only [gate, hgd, hd, hb]
          split at hs
          · cases b with
            | true => exact yes _ (hr.same hb) (by rw [hg]; rfl) hs
            | false => exact no _ (hr.same hb) (by rw [hg]; rfl) hs
          · cases b with
            | true => exact no _ (hr.same hb) (by rw [hg]; rfl) hs
            | false => exact yes _ (hr.same hb) (by rw [hg]; rfl) hs
        · rename_i hb
          exact no l hr (by simp only [gate, hgd, hd, hb]) hs
        · cases hs

theorem codeK_ok (hc : Tells call callK) : ∀ (c : Code) (l : Fr) (e : Env) (H : Heap) (K : Ex → Fr → Heap → R) (r : V × Heap), Rep l e → codeK C callK h lim c l H K = some r →
    ∃ x l' e' H', Rep l' e' ∧ evalCode C call h lim c e H = some (x, e', H') ∧ K x l' H' = some r := by
  intro c
  induction c with
  | skip => intro l e H K r hr hs; exact ⟨.nrm, l, e, H, hr, rfl, hs⟩
  | region id ops d =>
    intro l e H K r hr hs
    simp only [codeK] at hs
    obtain ⟨l', e', H', h1, h2, h3⟩ := opsK_ok hc _ _ _ _ _ _ _ hr hs
    exact ⟨.nrm, _, _, H', h1.keep h.keep, by simp only [evalCode, h2, Option.map_some], h3⟩
  | seq a b ha hb =>
    intro l e H K r hr hs
    simp only [codeK] at hs
    obtain ⟨x, l1, e1, H1, h1, h2, h3⟩ := ha _ _ _ _ _ hr hs
    cases x with
    | nrm =>
      obtain ⟨x, l2, e2, H2, g1, g2, g3⟩ := hb _ _ _ _ _ h1 h3
      exact ⟨x, l2, e2, H2, g1, by simp only [evalCode, h2, thenR, g2], g3⟩
    | ext i => exact ⟨_, l1, e1, H1, h1, by simp only [evalCode, h2, thenR], h3⟩
    | ret => exact ⟨_, l1, e1, H1, h1, by simp only [evalCode, h2, thenR], h3⟩
  | cond v a b ha hb =>
    intro l e H K r hr hs
    simp only [codeK] at hs
    rw [hr.rd] at hs
    split at hs
    · rename_i t ht
      cases t with
      | true =>
        obtain ⟨x, l2, e2, H2, g1, g2, g3⟩ := ha _ _ _ _ _ (hr.slot ht rfl dem_bool) hs
        exact ⟨x, l2, e2, H2, g1, by simp only [evalCode, ht, condR, if_true, g2], g3⟩
      | false =>
        obtain ⟨x, l2, e2, H2, g1, g2, g3⟩ := hb _ _ _ _ _ (hr.slot ht rfl dem_bool) hs
        exact ⟨x, l2, e2, H2, g1, by simp only [evalCode, ht, condR, Bool.false_eq_true, if_false, g2], g3⟩
    · cases hs
  | block id b hb =>
    intro l e H K r hr hs
    simp only [codeK] at hs
    obtain ⟨x, l1, e1, H1, h1, h2, h3⟩ := hb _ _ _ _ _ hr hs
    cases x with
    | nrm => exact ⟨_, l1, e1, H1, h1, by simp only [evalCode, h2, inBlk], h3⟩
    | ret => exact ⟨_, l1, e1, H1, h1, by simp only [evalCode, h2, inBlk], h3⟩
    | ext i =>
      simp only at h3
      split at h3
      · rename_i hi
        exact ⟨_, l1, e1, H1, h1, by simp only [evalCode, h2, inBlk, if_pos (Nat.eq_of_beq_eq_true hi)], h3⟩
      · rename_i hi
        exact ⟨_, l1, e1, H1, h1, by simp only [evalCode, h2, inBlk, if_neg (Nat.ne_of_beq_eq_false hi)], h3⟩
  | loop b hb =>
    intro l e H K r hr hs
    simp only [codeK] at hs
    simp only [evalCode]
    generalize C.fuel = n at hs
    induction n generalizing l e H with
    | zero => cases hs
    | succ n ih =>
      simp only [iterK] at hs
      obtain ⟨x, l1, e1, H1, h1, h2, h3⟩ := hb _ _ _ _ _ hr hs
      cases x with
      | nrm =>
        obtain ⟨x, l2, e2, H2, g1, g2, g3⟩ := ih l1 e1 H1 h1 h3
        exact ⟨x, l2, e2, H2, g1, by simp only [iter, h2, thenR, g2], g3⟩
      | ext i => exact ⟨_, l1, e1, H1, h1, by simp only [iter, h2, thenR], h3⟩
      | ret => exact ⟨_, l1, e1, H1, h1, by simp only [iter, h2, thenR], h3⟩
  | exit id => intro l e H K r hr hs; exact ⟨_, l, e, H, hr, rfl, hs⟩
  | ret => intro l e H K r hr hs; exact ⟨_, l, e, H, hr, rfl, hs⟩
  | _ => intro l e H K r hr hs; cases hs

theorem resK_ok {l : Fr} {e : Env} {H : Heap} (hr : Rep l e) : ∀ (rs : List ResultVar) (K : List V → R) (r : V × Heap), resK C l H rs K = some r → ∃ vs, resultVs C e H rs = some vs ∧ K vs = some r
  | [], K, r, hs => ⟨[], rfl, hs⟩
  | x :: rs, K, r, hs => by
    simp only [resK] at hs
    split at hs
    · rename_i v hv
      obtain ⟨vs, h1, h2⟩ := resK_ok hr rs _ r hs
      have : resultV C e H x = some v := by
        cases x with
        | tmp t => simp only [resL, hr t] at hv; simpa [resultV] using hv
        | cell a t => simp only [resL, hr a] at hv; exact hv
      exact ⟨v :: vs, by simp only [resultVs, this, h1], h2⟩
    · cases hs

theorem endK_ok {fn : Func} {K : V → Heap → R} {x : Ex} {l : Fr} {e : Env} {H : Heap} {r : V × Heap} (hr : Rep l e) (hs : endK C fn K x l H = some r) : ∃ v, ends C fn (some (x, e, H)) = some (v, H) ∧ K v H = some r := by
  unfold endK at hs
  cases x with
  | nrm =>
    obtain ⟨vs, h1, h2⟩ := resK_ok hr _ _ _ hs
    exact ⟨_, by simp only [ends, h1, Option.map_some], h2⟩
  | ret =>
    obtain ⟨vs, h1, h2⟩ := resK_ok hr _ _ _ hs
    exact ⟨_, by simp only [ends, h1, Option.map_some], h2⟩
  | ext i => cases hs

theorem callMK_ok {ev : CallT} {evK : CallK} (hc : Tells ev evK) : Tells (callM C ev) (callMK C evK) := by
  intro g l H lim K r hs
  unfold callMK at hs
  unfold callM
  cases hm : (C.hint g).mode <;> simp only [hm] at hs ⊢
  · split at hs
    · rename_i hcl
      obtain ⟨v, H', h1, h2⟩ := hc _ _ _ _ _ _ hs
      split at h2
      · rename_i hv
        exact ⟨v, H, by simp only [if_pos hcl, h1, if_pos hv], h2⟩
      · cases h2
    · cases hs
  · obtain ⟨v, H', h1, h2⟩ := hc _ _ _ _ _ _ hs
    split at h2
    · rename_i hv
      exact ⟨v, H, by simp only [h1, if_pos hv], h2⟩
    · cases h2
  · obtain ⟨v, H', h1, h2⟩ := hc _ _ _ _ _ _ hs
    split at h2
    · rename_i hv
      exact ⟨v, _, by simp only [h1, if_pos hv], h2⟩
    · cases h2
  · exact hc _ _ _ _ _ _ hs

/-- values known of calls, from a depth on -/
def KnownOK (C : Ctx) (kn : Known) (d : Nat) : Prop := ∀ f l r, kn f l = some (true, r) → ∀ m, d ≤ m → ∀ H lim, callM C (evalFun C m) f l H lim = some (r, H)

theorem funK_ok {kn : Known} {d : Nat} (hk : KnownOK C kn d) : ∀ (n m : Nat), n + d ≤ m → Tells (evalFun C m) (funK C kn n)
  | 0, _, _, _, _, _, _, _, _, hs => by cases hs
  | n + 1, 0, h, _, _, _, _, _, _, hs => by omega
  | n + 1, m + 1, h, g, l, H, lim, K, r, hs => by
    simp only [funK] at hs
    simp only [evalFun]
    split at hs
    · rename_i fn hfn
      split at hs
      · rename_i c hcb
        split at hs
        · rename_i hok
          have hcall : Tells (callM C (evalFun C m)) (funK.callKK C kn (funK C kn n)) := by
            intro g l H lim K r hs
            unfold funK.callKK at hs
            split at hs
            · rename_i p v hv
              obtain ⟨hp, hs⟩ := cond_l hs
              subst hp
              exact ⟨v, H, hk _ _ _ hv m (by omega) H lim, hs⟩
            · exact callMK_ok (funK_ok hk n m (by omega)) _ _ _ _ _ _ hs
          obtain ⟨x, l', e', H', h1, h2, h3⟩ := codeK_ok hcall c _ _ _ _ _ (Rep.args l) hs
          obtain ⟨v, h4, h5⟩ := endK_ok h1 h3
          exact ⟨v, H', by simp only [hfn, hcb, if_pos hok, h2, h4], h5⟩
        · cases hs
      · cases hs
    · cases hs

def fin (v : V) (H : Heap) : R := some (v, H)

/-- what a function tells, from a depth on -/
def Spec (C : Ctx) (d : Nat) (f : FuncId) (l : List V) (r : V) : Prop := ∀ m, d ≤ m → ∃ H', evalFun C m f l [] 0 = some (r, H')

theorem Spec.mono {d d' : Nat} {f : FuncId} {l : List V} {r : V} (h : Spec C d f l r) (hd : d ≤ d') : Spec C d' f l r := fun m hm => h m (by omega)

theorem spec_of {kn : Known} {d : Nat} (hk : KnownOK C kn d) (n : Nat) {f : FuncId} {l : List V} {r : V} {H' : Heap} (h : funK C kn n f l [] 0 fin = some (r, H')) : Spec C (n + d) f l r := by
  intro m hm
  obtain ⟨v, H1, h1, h2⟩ := funK_ok hk n m hm _ _ _ _ _ _ h
  unfold fin at h2
  cases h2
  exact ⟨H', h1⟩

theorem Spec.told {d : Nat} {f : FuncId} {l : List V} {r : V} (h : Spec C d f l r) (hm : (C.hint f).mode = .z) (hl : closedL 0 l = true) (hr : closed 0 r = true) : ∀ m, d ≤ m → ∀ H lim, callM C (evalFun C m) f l H lim = some (r, H) := by
  intro m hd H lim
  obtain ⟨H', h1⟩ := h m hd
  unfold callM
  rw [hm]
  simp only
  rw [if_pos hl, h1]
  simp only
  rw [if_pos hr]

def noneKnown : Known := fun _ _ => none

theorem noneKnown_ok (d : Nat) : KnownOK C noneKnown d := fun f l r h => by cases h

/-- the value alone -/
def finV (v : V) (_ : Heap) : R := some (v, [])

/-- It ends with what is told. -/
def Told {α : Type} (enc : α → V) (t : R) (o : Option α) : Prop := ∀ a, o = some a → t = some (enc a, [])

theorem not_t {b : Bool} (h : b = true) : (!b) = false := by subst h; rfl
theorem not_f {b : Bool} (h : b = false) : (!b) = true := by subst h; rfl
theorem of_not_t {b : Bool} (h : (!b) = true) : b = false := by cases b <;> first | rfl | cases h
theorem of_not_f {b : Bool} (h : (!b) = false) : b = true := by cases b <;> first | rfl | cases h

theorem told_leaf {α : Type} {enc : α → V} (a : α) : Told enc (some (enc a, [])) (some a) := fun b h => by cases h; rfl
theorem told_none {α : Type} {enc : α → V} (t : R) : Told enc t none := fun b h => by cases h
theorem told_c {α : Type} {enc : α → V} {b : Bool} {x y : R} {p q : Option α} (h1 : b = true → Told enc x p) (h2 : b = false → Told enc y q) : Told enc (cond b x y) (cond b p q) := by
  cases b
  · exact h2 rfl
  · exact h1 rfl
theorem told_p {α : Type} {enc : α → V} {b : Bool} {x y : R} {p q : α} (h1 : b = true → Told enc x (some p)) (h2 : b = false → Told enc y (some q)) : Told enc (cond b x y) (some (cond b p q)) := by
  cases b
  · exact h2 rfl
  · exact h1 rfl
theorem told_s {α : Type} {enc : α → V} {b : Bool} {x y : R} {p : Option α} (h1 : b = true → Told enc x p) (h2 : b = false → Told enc y p) : Told enc (cond b x y) p := by
  cases b
  · exact h2 rfl
  · exact h1 rfl
theorem told_t {α : Type} {enc : α → V} {b : Bool} {x y : R} {p : Option α} (hb : b = true) (h : Told enc x p) : Told enc (cond b x y) p := by subst hb; exact h
theorem told_f {α : Type} {enc : α → V} {b : Bool} {x y : R} {p : Option α} (hb : b = false) (h : Told enc y p) : Told enc (cond b x y) p := by subst hb; exact h

theorem Told.spec {α : Type} {enc : α → V} {kn : Known} {d : Nat} (hk : KnownOK C kn d) {n : Nat} {f : FuncId} {l : List V} {t : R} {o : Option α} (hr : funK C kn n f l [] 0 finV = t) (h : Told enc t o) {a : α} (ha : o = some a) : Spec C (n + d) f l (enc a) := by
  intro m hm
  obtain ⟨v, H1, h1, h2⟩ := funK_ok hk n m hm _ _ _ _ _ _ (hr.trans (h a ha))
  unfold finV at h2
  cases h2
  exact ⟨H1, h1⟩

/-- One more that is known. -/
def Known.add (kn : Known) (f : FuncId) (k : List V → Option (Bool × V)) : Known := fun g l => match Nat.beq g f with
  | true => k l
  | false => kn g l

theorem Known.add_ok {kn : Known} {d d' : Nat} (hk : KnownOK C kn d) {f : FuncId} {k : List V → Option (Bool × V)} (hm : (C.hint f).mode = .z) (hd : d ≤ d') (h : ∀ l r, k l = some (true, r) → Spec C d' f l r ∧ closedL 0 l = true ∧ closed 0 r = true) : KnownOK C (kn.add f k) d' := by
  intro g l r hg m hm' H lim
  unfold Known.add at hg
  cases hb : Nat.beq g f with
  | true =>
    rw [hb] at hg
    have := Nat.eq_of_beq_eq_true hb
    subst this
    obtain ⟨h1, h2, h3⟩ := h l r hg
    exact h1.told hm h2 h3 m hm' H lim
  | false =>
    rw [hb] at hg
    exact hk g l r hg m (by omega) H lim

end
end Go.Den
