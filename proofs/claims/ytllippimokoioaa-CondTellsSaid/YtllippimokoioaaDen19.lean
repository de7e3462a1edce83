import Derived.Test.YtllippimokoioaaDen18
set_option linter.unusedVariables false
namespace Go.Den

/-- What evaluation does to the blocks. -/
structure Grow (lim : Nat) (H H' : Heap) : Prop where
  len : H.length ≤ H'.length
  old : ∀ i, i < H.length → i < lim → H'[i]? = H[i]?
  low : ∀ i cs, i < H.length → H'[i]? = some cs → ∃ cs0, H[i]? = some cs0 ∧ ∀ c ∈ cs, c ∈ cs0 ∨ closed (i + 1) c = true

theorem Grow.refl (lim : Nat) (H : Heap) : Grow lim H H := ⟨Nat.le_refl _, fun _ _ _ => rfl, fun _ cs _ h => ⟨cs, h, fun _ h => .inl h⟩⟩

theorem Grow.trans {lim : Nat} {H H' H'' : Heap} (h : Grow lim H H') (h' : Grow lim H' H'') : Grow lim H H'' :=
  ⟨Nat.le_trans h.len h'.len, fun i hi hl => by rw [h'.old i (Nat.lt_of_lt_of_le hi h.len) hl, h.old i hi hl],
    fun i cs hi hc => by
      obtain ⟨cs1, h1, h2⟩ := h'.low i cs (Nat.lt_of_lt_of_le hi h.len) hc
      obtain ⟨cs0, h3, h4⟩ := h.low i cs1 hi h1
      exact ⟨cs0, h3, fun c hc => (h2 c hc).elim (h4 c) .inr⟩⟩

theorem Grow.push (lim : Nat) (H : Heap) (c : List (List V)) : Grow lim H (H ++ c) :=
  ⟨by simp, fun i hi _ => by simp [List.getElem?_append_left hi], fun i cs hi hc => ⟨cs, by simpa [List.getElem?_append_left hi] using hc, fun _ h => .inl h⟩⟩

theorem Grow.mono {lim lim' : Nat} {H H' : Heap} (h : Grow lim H H') (hl : lim' ≤ lim) : Grow lim' H H' :=
  ⟨h.len, fun i hi hlt => h.old i hi (by omega), h.low⟩

theorem Grow.take {lim : Nat} {H H' : Heap} (h : Grow lim H H') : Grow lim H (H'.take H.length) :=
  ⟨by have := h.len; simp; omega, fun i hi hl => by rw [List.getElem?_take_of_lt hi]; exact h.old i hi hl, fun i cs hi hc => by rw [List.getElem?_take_of_lt hi] at hc; exact h.low i cs hi hc⟩

/-- Where none may be changed the elder ones stay. -/
theorem Grow.take_eq {lim : Nat} {H H' : Heap} (h : Grow lim H H') (hl : H.length ≤ lim) : H'.take H.length = H := by
  apply List.ext_getElem?
  intro i
  by_cases hi : i < H.length
  · rw [List.getElem?_take_of_lt hi]; exact h.old i hi (by omega)
  · rw [List.getElem?_eq_none (l := H) (by omega), List.getElem?_eq_none (by simp; omega)]

def GrowC (call : FuncId → List V → Heap → Nat → Option (V × Heap)) : Prop := ∀ f l H lim r H', call f l H lim = some (r, H') → Grow lim H H'

theorem closedL_at : ∀ (cs : List V) (n j : Nat) (c : V), closedL n cs = true → cs[j]? = some c → closed n c = true
  | [], _, _, _, _, h => by simp at h
  | x :: cs, n, 0, c, hc, h => by
    simp only [closedL, Bool.and_eq_true] at hc
    simp at h; subst h; exact hc.1
  | x :: cs, n, j + 1, c, hc, h => by
    simp only [closedL, Bool.and_eq_true] at hc
    exact closedL_at cs n j c hc.2 (by simpa using h)

theorem closedL_of : ∀ (cs : List V) (n : Nat), (∀ c ∈ cs, closed n c = true) → closedL n cs = true
  | [], _, _ => by simp only [closedL]
  | x :: cs, n, h => by
    simp only [closedL, Bool.and_eq_true]
    exact ⟨h x (by simp), closedL_of cs n fun c hc => h c (by simp [hc])⟩

section
variable {C : Ctx} {call : FuncId → List V → Heap → Nat → Option (V × Heap)} {h : Hint} {rid lim : Nat} {ops : Array Oper}

theorem over_mem {cs ds cs' : List V} {off : Nat} (ho : over cs off ds = some cs') (c : V) (hc : c ∈ cs') : c ∈ cs ∨ c ∈ ds := by
  unfold over at ho
  split at ho
  · cases ho
    simp only [List.mem_append] at hc
    rcases hc with (hc | hc) | hc
    · exact .inl (List.mem_of_mem_take hc)
    · exact .inr hc
    · exact .inl (List.mem_of_mem_drop hc)
  · cases ho

theorem Grow.set {lim id : Nat} {H : Heap} {cs cs' ds : List V} {off : Nat} (hid : H[id]? = some cs) (hl : lim ≤ id) (ho : over cs off ds = some cs') (hd : closedL (id + 1) ds = true) : Grow lim H (H.set id cs') := by
  have hlt := (List.getElem?_eq_some_iff.1 hid).1
  refine ⟨by simp, fun i hi hil => ?_, fun i us hi hc => ?_⟩
  · rw [List.getElem?_set_ne (by omega)]
  · by_cases hii : id = i
    · subst hii
      rw [List.getElem?_set_self hlt] at hc
      cases hc
      refine ⟨cs, hid, fun c hc => (over_mem ho c hc).imp (fun h => h) fun h => ?_⟩
      obtain ⟨j, hj⟩ := List.mem_iff_getElem?.1 h
      exact closedL_at ds _ j c hd hj
    · rw [List.getElem?_set_ne hii] at hc
      exact ⟨us, hc, fun _ h => .inl h⟩

theorem okV_grow {H H' : Heap} {o : Option V} {v : V} (h : okV H o = some (v, H')) : Grow lim H H' := by rw [(okV_some h).2]; exact .refl _ _

theorem evalOp_grow (hg : GrowC call) {rd : TypeId → Operand → V} {take blk : Bool} {o : Oper} {H H' : Heap} {v : V} (he : evalOp C call rd take blk o H lim = some (v, H')) : Grow lim H H' := by
  unfold evalOp at he
  cases hop : o.op <;> simp only [hop] at he
  case alloc t =>
    split at he
    · cases he; exact .push _ _ _
    · cases he
  case box t x =>
    split at he
    · split at he
      · cases he; exact .push _ _ _
      · cases he
    · cases he
  case load t a =>
    split at he
    · split at he
      · split at he
        · split at he
          · cases he; exact .refl _ _
          · cases he
        · cases he
      · exact okV_grow he
      · cases he
    · cases he
  case store t a x =>
    split at he
    · split at he
      · split at he
        · split at he
          · cases he
            rename_i hid hc _ _ hov
            exact .set hid hc.1 hov hc.2.2.2
          · cases he
        · cases he
      · cases he
    · cases he
  case makeSlice t n m =>
    split at he
    · split at he
      · split at he
        · split at he
          · cases he; exact .push _ _ _
          · cases he
        · cases he
      · cases he
    · exact okV_grow he
  case call c =>
    split at he
    · split at he
      · exact hg _ _ _ _ _ _ he
      · cases he
    · exact okV_grow he
  all_goals exact okV_grow he

theorem stepOp_grow (hg : GrowC call) {i : Nat} {o : Oper} {e e' : Env} {H H' : Heap} (he : stepOp C call h rid ops lim i o e H = some (e', H')) : Grow lim H H' := by
  unfold stepOp at he
  split at he
  · dsimp only at he
    split at he
    · rename_i hev
      cases he
      exact evalOp_grow hg hev
    · cases he
  · cases he; exact .refl _ _
  · cases he

theorem evalOps_grow (hg : GrowC call) : ∀ (os : List Oper) (i : Nat) (e : Env) (H : Heap) (e' : Env) (H' : Heap), evalOps C call h rid ops lim os i e H = some (e', H') → Grow lim H H'
  | [], i, e, H, e', H', he => by simp only [evalOps] at he; cases he; exact .refl _ _
  | o :: os, i, e, H, e', H', he => by
    simp only [evalOps] at he
    split at he
    · rename_i h1
      exact (stepOp_grow hg h1).trans (evalOps_grow hg os _ _ _ _ _ he)
    · cases he

theorem thenR_grow {r : Res} {k : Env → Heap → Res} {H : Heap} (hr : ∀ x e H', r = some (x, e, H') → Grow lim H H') (hk : ∀ e H' x e' H'', k e H' = some (x, e', H'') → Grow lim H' H'') {x : Ex} {e : Env} {H' : Heap} (he : thenR r k = some (x, e, H')) : Grow lim H H' := by
  unfold thenR at he
  split at he
  · rename_i e1 H1
    exact (hr _ _ _ rfl).trans (hk _ _ _ _ _ he)
  · exact hr _ _ _ he

theorem iter_grow {body : Env → Heap → Res} (hb : ∀ e H x e' H', body e H = some (x, e', H') → Grow lim H H') : ∀ (n : Nat) (e : Env) (H : Heap) (x : Ex) (e' : Env) (H' : Heap), iter body n e H = some (x, e', H') → Grow lim H H'
  | 0, _, _, _, _, _, he => by cases he
  | n + 1, e, H, x, e', H', he => thenR_grow (fun x e1 H1 h => hb _ _ _ _ _ h) (fun e1 H1 x e' H' h => iter_grow hb n e1 H1 x e' H' h) he

theorem evalCode_grow (hg : GrowC call) : ∀ (c : Code) (e : Env) (H : Heap) (x : Ex) (e' : Env) (H' : Heap), evalCode C call h lim c e H = some (x, e', H') → Grow lim H H' := by
  intro c
  induction c with
  | skip => intro e H x e' H' he; simp only [evalCode] at he; cases he; exact .refl _ _
  | region id ops d =>
    intro e H x e' H' he
    simp only [evalCode] at he
    obtain ⟨⟨e1, H1⟩, h1, h2⟩ := Option.map_eq_some_iff.1 he
    cases h2
    exact evalOps_grow hg _ _ _ _ _ _ h1
  | seq a b ha hb =>
    intro e H x e' H' he
    simp only [evalCode] at he
    exact thenR_grow (fun x e1 H1 h => ha _ _ _ _ _ h) (fun e1 H1 x e' H' h => hb _ _ _ _ _ h) he
  | cond v a b ha hb =>
    intro e H x e' H' he
    simp only [evalCode] at he
    unfold condR at he
    split at he
    · split at he
      · exact ha _ _ _ _ _ he
      · exact hb _ _ _ _ _ he
    · cases he
  | block id b hb =>
    intro e H x e' H' he
    simp only [evalCode] at he
    unfold inBlk at he
    split at he
    · rename_i hbb
      split at he <;> (cases he; exact hb _ _ _ _ _ hbb)
    · exact hb _ _ _ _ _ he
  | loop b hb =>
    intro e H x e' H' he
    simp only [evalCode] at he
    exact iter_grow (fun e H x e' H' h => hb _ _ _ _ _ h) _ _ _ _ _ _ he
  | exit id => intro e H x e' H' he; simp only [evalCode] at he; cases he; exact .refl _ _
  | ret => intro e H x e' H' he; simp only [evalCode] at he; cases he; exact .refl _ _
  | _ => intro e H x e' H' he; simp only [evalCode] at he; cases he

theorem callM_grow {ev : FuncId → List V → Heap → Nat → Option (V × Heap)} (hg : GrowC ev) : GrowC (callM C ev) := by
  intro f l H lim r H' he
  unfold callM at he
  split at he
  · split at he
    · split at he
      · split at he
        · cases he; exact .refl _ _
        · cases he
      · cases he
    · cases he
  · split at he
    · split at he
      · cases he; exact .refl _ _
      · cases he
    · cases he
  · split at he
    · rename_i hev
      split at he
      · cases he; exact (hg _ _ _ _ _ _ hev).take
      · cases he
    · cases he
  · exact hg _ _ _ _ _ _ he

theorem ends_grow {fn : Func} {r : Res} {H H' : Heap} {v : V} (hr : ∀ x e H', r = some (x, e, H') → Grow lim H H') (he : ends C fn r = some (v, H')) : Grow lim H H' := by
  unfold ends at he
  split at he
  · obtain ⟨vs, _, h2⟩ := Option.map_eq_some_iff.1 he
    cases h2
    exact hr _ _ _ rfl
  · obtain ⟨vs, _, h2⟩ := Option.map_eq_some_iff.1 he
    cases h2
    exact hr _ _ _ rfl
  · cases he

theorem evalFun_grow : ∀ (n : Nat), GrowC (evalFun C n)
  | 0, _, _, _, _, _, _, he => by cases he
  | n + 1, f, l, H, lim, r, H', he => by
    simp only [evalFun] at he
    split at he
    · split at he
      · split at he
        · exact ends_grow (fun x e H' h => evalCode_grow (callM_grow (evalFun_grow n)) _ _ _ _ _ _ h) he
        · cases he
      · cases he
    · cases he

theorem callM_tame {ev : FuncId → List V → Heap → Nat → Option (V × Heap)} : Tame C (callM C ev) := by
  refine ⟨fun g l H lim r H' hm he => ?_, fun g l H lim r H' hm he => ?_⟩
  · unfold callM at he
    rw [hm] at he
    simp only at he
    split at he
    · split at he
      · cases he; rfl
      · cases he
    · cases he
  · unfold callM at he ⊢
    rw [hm] at he ⊢
    simp only at he ⊢
    split at he
    · rename_i hc
      split at he
      · rename_i hev
        split at he
        · rename_i hr
          cases he
          refine ⟨rfl, fun H2 => ?_⟩
          simp only [if_pos hc, hev, if_pos hr]
        · cases he
      · cases he
    · cases he

end
end Go.Den
