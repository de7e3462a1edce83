import Derived.Test.YtllippimokoioaaDen25
set_option linter.unusedVariables false
namespace Go.Den

abbrev CallT := FuncId → List V → Heap → Nat → Option (V × Heap)
abbrev CallK := FuncId → List V → Heap → Nat → (V → Heap → R) → R

def evalOpK (C : Ctx) (call : CallK) (rd : TypeId → Operand → V) (take blk : Bool) (o : Oper) (H : Heap) (lim : Nat) (K : V → Heap → R) : R :=
  match o.op with
  | .alloc t => match C.ti t with
    | some ti => K (.ptr H.length 0) (H ++ [ti.zero])
    | none => none
  | .box t x => match C.ti t with
    | some ti => match decide (plain (rd t x) = true ∧ (rd t x).cells.length = ti.size) with
      | true => K (.ptr H.length 0) (H ++ [(rd t x).cells])
      | false => none
    | none => none
  | .load t a => match C.ti t with
    | some ti => match rd 0 a with
      | .ptr id off => match H[id]? with
        | some cs => subK cs off ti.size fun ds => match ofCells ti ds with
          | some v => K v.dem H
          | none => none
        | none => none
      | .elp cs => subK cs 0 ti.size fun ds => match ofCells ti ds with
          | some v => K v.dem H
          | none => none
      | _ => none
    | none => none
  | .store t a x => match C.ti t, rd 0 a with
    | some ti, .ptr id off => match H[id]? with
      | some cs => match decide (lim ≤ id ∧ plain (rd t x) = true ∧ (rd t x).cells.length = ti.size ∧ closedL (id + 1) (rd t x).cells = true) with
        | true => match over cs off (rd t x).cells with
          | some cs' => K .any (H.set id cs')
          | none => none
        | false => none
      | none => none
    | _, _ => none
  | .makeSlice t n m => match blk with
    | true => match C.ti t with
      | some ⟨_, _, .slice e⟩ => match C.ti e, rd 0 n, rd 0 m with
        | some ti, .sc (.int _ a), .sc (.int _ b) =>
          cond (decide (a = b ∧ 0 ≤ a ∧ ti.bytes * a ≤ 140737488355328 ∧ 0 < ti.size ∧ 0 < ti.bytes))
            (K (.hs H.length 0 a.toNat ti.size) (H ++ [(List.replicate a.toNat ti.zero).flatten])) none
        | _, _, _ => none
      | _ => none
    | false => evalPK C rd o fun v => K v H
  | .call c => match c.callee with
    | .value f => match rd 0 f with
      | .fn (.func g) a b => call g (a.map V.dem ++ (c.args.toList.map (rd 0)) ++ b.map V.dem) H lim K
      | _ => none
    | _ => evalPK C rd o fun v => K v H
  | _ => evalPK C rd o fun v => K v H

/-- calls told along are those told -/
def Tells (call : CallT) (callK : CallK) : Prop := ∀ g l H lim K r, callK g l H lim K = some r → ∃ v H', call g l H lim = some (v, H') ∧ K v H' = some r

section
variable {C : Ctx} {call : CallT} {callK : CallK} {h : Hint} {rid lim : Nat} {ops : Array Oper}

theorem evalOpK_ok (hc : Tells call callK) {rd : TypeId → Operand → V} {take blk : Bool} {o : Oper} {H : Heap} {K : V → Heap → R} {r : V × Heap} (h : evalOpK C callK rd take blk o H lim K = some r) :
    ∃ v H', evalOp C call rd take blk o H lim = some (v, H') ∧ K v H' = some r := by
  have pure_ : ∀ {K : V → Heap → R}, evalPK C rd o (fun v => K v H) = some r → ∃ v, okV H (evalP C rd o) = some (v, H) ∧ K v H = some r := fun h => by
    obtain ⟨v, h1, h2⟩ := evalPK_ok h
    exact ⟨v, by simp [okV, h1], h2⟩
  unfold evalOpK at h
  cases hop : o.op <;> simp only [hop] at h
  case alloc t =>
    split at h
    · rename_i ti hti
      exact ⟨_, _, by simp only [evalOp, hop, hti], h⟩
    · cases h
  case box t x =>
    split at h
    · rename_i ti hti
      split at h
      · rename_i hk
        exact ⟨_, _, by simp only [evalOp, hop, hti]; rw [if_pos (of_decide_eq_true hk)], h⟩
      · cases h
    · cases h
  case load t a =>
    split at h
    · rename_i ti hti
      split at h
      · rename_i id off ha
        split at h
        · rename_i cs hcs
          obtain ⟨ds, h1, h⟩ := subK_ok h
          split at h
          · rename_i v hv
            exact ⟨_, _, by simp only [evalOp, hop, hti, ha, hcs, h1, Option.bind_some, hv], h⟩
          · cases h
        · cases h
      · rename_i cs ha
        obtain ⟨ds, h1, h⟩ := subK_ok h
        split at h
        · rename_i v hv
          exact ⟨_, _, by simp only [evalOp, hop, hti, ha, h1, Option.bind_some, hv, okV, Option.map_some], h⟩
        · cases h
      · cases h
    · cases h
  case store t a x =>
    split at h
    · rename_i ti id off hti ha
      split at h
      · rename_i cs hcs
        split at h
        · rename_i hk
          split at h
          · rename_i cs' hov
            exact ⟨_, _, by simp only [evalOp, hop, hti, ha, hcs]; rw [if_pos (of_decide_eq_true hk)]; simp only [hov], h⟩
          · cases h
        · cases h
      · cases h
    · cases h
  case makeSlice t n m =>
    split at h
    · split at h
      · rename_i z b e hti
        split at h
        · rename_i ti ka a kb b' hte hn hm
          obtain ⟨h1, h⟩ := cond_l h
          exact ⟨_, _, by simp only [evalOp, hop, hti, hte, hn, hm, if_true]; rw [if_pos (of_decide_eq_true h1)], h⟩
        · cases h
      · cases h
    · obtain ⟨v, h1, h2⟩ := pure_ h
      exact ⟨v, H, by simp only [evalOp, hop, Bool.false_eq_true, if_false, h1], h2⟩
  case call c =>
    split at h
    · rename_i f hf
      split at h
      · rename_i g a b hg
        obtain ⟨v, H', h1, h2⟩ := hc _ _ _ _ _ _ h
        exact ⟨v, H', by simp only [evalOp, hop, hf, hg, h1], h2⟩
      · cases h
    · rename_i hnv
      obtain ⟨v, h1, h2⟩ := pure_ h
      refine ⟨v, H, ?_, h2⟩
      cases hcc : c.callee with
      | value f => exact absurd hcc (hnv f)
      | builtin b => simp only [evalOp, hop, hcc, h1]
      | invoke x y => simp only [evalOp, hop, hcc, h1]
  all_goals
    obtain ⟨v, h1, h2⟩ := pure_ h
    exact ⟨v, H, by simp only [evalOp, hop, h1], h2⟩

/-! ### frames -/

def Rep (l : Fr) (e : Env) : Prop := ∀ t, look l t = e t

theorem look_cons (k : Nat) (v : V) (l : Fr) (t : Nat) : look ((k, v) :: l) t = if t = k then v else look l t := by
  simp only [look]
  cases hb : Nat.beq t k with
  | true => rw [if_pos (Nat.eq_of_beq_eq_true hb)]
  | false => rw [if_neg (Nat.ne_of_beq_eq_false hb)]

theorem Rep.set {l : Fr} {e : Env} (hr : Rep l e) (d : Option Nat) (v : V) : Rep (l.set d v) (e.put d v) := by
  intro t
  cases d with
  | none => exact hr t
  | some d =>
    simp only [Fr.set, Env.put]
    rw [look_cons, hr t]

theorem keep_at (e : Env) : ∀ (ks : List Nat) (l : Fr), Rep l e → Rep (keepL ks l) (tab (ks.map fun k => (k, e k)))
  | [], l, _, t => rfl
  | k :: ks, l, hr, t => by
    simp only [keepL, List.map_cons, tab]
    rw [look_cons, hr k, keep_at e ks l hr t]

theorem Rep.keep {l : Fr} {e : Env} (hr : Rep l e) (ks : List Nat) : Rep (keepL ks l) (e.keep ks) := keep_at e ks l hr

theorem left_at' (take : Bool) : ∀ (xs : List Operand) (l : Fr) (e : Env), Rep l e → Rep (leftL take l xs) (if take then xs.foldl (fun e x => match x with | .tmp n => e.put (some n) (e n).dem | _ => e) e else e)
  | [], l, e, hr => by
    cases take <;> exact hr
  | x :: xs, l, e, hr => by
    cases take with
    | false =>
      cases x <;> exact hr
    | true =>
      simp only [if_true, List.foldl_cons]
      cases x with
      | tmp n =>
        simp only [leftL]
        have := left_at' true xs ((n, (look l n).dem) :: l) (e.put (some n) (e n).dem) (by have := hr.set (some n) (e n).dem; rw [hr n]; exact this)
        simpa using this
      | _ =>
        simp only [leftL]
        have := left_at' true xs l e hr
        simpa using this

theorem Rep.left {l : Fr} {e : Env} (hr : Rep l e) (take : Bool) (xs : List Operand) : Rep (leftL take l xs) (e.left take xs) := left_at' take xs l e hr

theorem Rep.rd {l : Fr} {e : Env} (hr : Rep l e) (t : TypeId) (take : Bool) (x : Operand) : rdL C t l take x = rdO C t e take x := by
  cases x with
  | tmp n => cases take <;> simp [rdL, rdO, hr n]
  | _ => rfl

theorem argsL_at : ∀ (vs : List V) (i t : Nat), look (argsL i vs) t = if i ≤ t then (vs[t - i]?).getD .any else .any
  | [], i, t => by simp [argsL, look]
  | v :: vs, i, t => by
    rw [argsL, look_cons, argsL_at vs (i + 1) t]
    by_cases h : t = i
    · subst h; simp
    · rw [if_neg h]
      by_cases h2 : i ≤ t
      · rw [if_pos (by omega), if_pos h2, show t - i = (t - (i + 1)) + 1 by omega]
        simp
      · rw [if_neg (by omega), if_neg h2]

theorem Rep.args (vs : List V) : Rep (argsL 0 vs) (args vs) := by
  intro t
  rw [argsL_at]
  simp [Den.args]

end
end Go.Den
