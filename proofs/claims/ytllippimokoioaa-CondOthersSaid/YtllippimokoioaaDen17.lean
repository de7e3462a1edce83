import Derived.Test.YtllippimokoioaaDen16
set_option linter.unusedVariables false
namespace Go.Den

/-- 0: it does not look at the blocks; 1: it leaves them alone; 2: it may change them. -/
def opClass (C : Ctx) (blk : Bool) : Op → Nat
  | .load _ _ => 1
  | .store _ _ _ | .alloc _ | .box _ _ => 2
  | .makeSlice _ _ _ => if blk then 2 else 0
  | .call c => match c.callee with
    | .value (.func g) => if (C.hint g).mode = .z then 0 else if (C.hint g).mode = .q then 1 else 2
    | .value _ => 2
    | _ => 0
  | _ => 0

/-- what is asked of calls: those that look at no block, those that leave them alone -/
structure Tame (C : Ctx) (call : FuncId → List V → Heap → Nat → Option (V × Heap)) : Prop where
  q : ∀ g l H lim r H', (C.hint g).mode = .q → call g l H lim = some (r, H') → H' = H
  z : ∀ g l H lim r H', (C.hint g).mode = .z → call g l H lim = some (r, H') → H' = H ∧ ∀ H2, call g l H2 lim = some (r, H2)

section
variable {C : Ctx} {call : FuncId → List V → Heap → Nat → Option (V × Heap)} {rd rd' : TypeId → Operand → V} {take blk : Bool} {o : Oper} {H H' : Heap} {lim : Nat} {v : V}

theorem okV_of {o : Option V} (h : okV H o = some (v, H')) (H2 : Heap) : H' = H ∧ okV H2 o = some (v, H2) := by
  obtain ⟨h1, h2⟩ := okV_some h
  exact ⟨h2, by simp [okV, h1]⟩

theorem class0 (hq : Tame C call) (hrd : ∀ f, rd 0 (.func f) = .fn (.func f) [] []) (hc : opClass C blk o.op = 0) (h : evalOp C call rd take blk o H lim = some (v, H')) (H2 : Heap) : H' = H ∧ evalOp C call rd take blk o H2 lim = some (v, H2) := by
  unfold evalOp at h ⊢
  cases hop : o.op <;> simp only [hop] at h hc ⊢ <;> (try (simp only [opClass] at hc; done)) <;> (try (cases hc; done))
  case makeSlice t x y =>
    simp only [opClass] at hc
    cases blk with
    | true => simp at hc
    | false =>
      simp only [Bool.false_eq_true, if_false] at h ⊢
      exact okV_of h H2
  case call c =>
    simp only [opClass] at hc
    cases hcal : c.callee with
    | builtin b => simp only [hcal] at h ⊢; exact okV_of h H2
    | invoke r m => simp only [hcal] at h ⊢; exact okV_of h H2
    | value f =>
      rw [hcal] at hc
      cases f <;> simp only at hc <;> (try omega)
      rename_i g
      split at hc
      · rename_i hm
        simp only [hcal, hrd] at h ⊢
        obtain ⟨h1, h2⟩ := hq.z _ _ _ _ _ _ hm h
        exact ⟨h1, h2 H2⟩
      · split at hc <;> omega
  all_goals exact okV_of h H2

theorem class1 (hq : Tame C call) (hc : opClass C blk o.op = 1)
    (hrd : ∀ f, rd 0 (.func f) = .fn (.func f) [] []) (h : evalOp C call rd take blk o H lim = some (v, H')) : H' = H := by
  unfold evalOp at h
  cases hop : o.op <;> simp only [hop] at h hc <;> (try (simp only [opClass] at hc; done)) <;> (try (cases hc; done))
  case makeSlice t x y =>
    simp only [opClass] at hc
    split at hc <;> omega
  case load t x =>
    split at h
    · split at h
      · split at h
        · split at h
          · simp at h; exact h.2.symm
          · cases h
        · cases h
      · exact (okV_some h).2
      · cases h
    · cases h
  case call c =>
    simp only [opClass] at hc
    cases hcal : c.callee with
    | builtin b => rw [hcal] at hc; cases hc
    | invoke r m => rw [hcal] at hc; cases hc
    | value f =>
      rw [hcal] at hc
      cases f <;> simp only at hc <;> (try omega)
      rename_i g
      split at hc
      · omega
      · split at hc
        · rename_i hm
          simp only [hcal, hrd] at h
          exact hq.q _ _ _ _ _ _ hm h
        · omega

theorem evalP_congr (h : ∀ t x, x ∈ o.op.operands → rd t x = rd' t x) : evalP C rd o = evalP C rd' o := by
  have parts : ∀ (ps : Array (Nat × Operand)) (f : Nat → TypeId), (∀ p ∈ ps, ∀ t, rd t p.2 = rd' t p.2) →
      (ps.toList.map fun (p : Nat × Operand) => (p.1, (rd (f p.1) p.2).dem)) = ps.toList.map fun (p : Nat × Operand) => (p.1, (rd' (f p.1) p.2).dem) := fun ps f hp =>
    List.map_congr_left fun p hp' => by rw [hp p (by simpa using hp')]
  unfold evalP
  cases hop : o.op <;> simp only [hop, Op.operands] at h ⊢
  case build t ps =>
    have hp : ∀ p ∈ ps, ∀ t, rd t p.2 = rd' t p.2 := fun p hp t => h t p.2 (by simp; exact ⟨p.1, hp⟩)
    split
    · rename_i zero by_ fs _
      have := parts ps (fun i => ((fs[i]?).map (·.1)).getD 0) hp
      simp only [this]
    · rename_i zero by_ n el _
      split
      · have := parts ps (fun _ => el) hp
        simp only [this]
      · rfl
    · rfl
  case buildSlice t n ps =>
    have hp : ∀ p ∈ ps, ∀ t, rd t p.2 = rd' t p.2 := fun p hp t => h t p.2 (by simp; exact ⟨p.1, hp⟩)
    split
    · rename_i zero by_ el _
      split
      · have := parts ps (fun _ => el) hp
        simp only [this]
      · rfl
    · rfl
  case makeFunc f x y =>
    have h1 : x.toList.map (fun x => (rd 0 x).dem) = x.toList.map (fun x => (rd' 0 x).dem) := List.map_congr_left fun p hp => by rw [h 0 p (by simp at hp ⊢; exact .inl hp)]
    have h2 : y.toList.map (fun x => (rd 0 x).dem) = y.toList.map (fun x => (rd' 0 x).dem) := List.map_congr_left fun p hp => by rw [h 0 p (by simp at hp ⊢; exact .inr hp)]
    rw [h1, h2]
  case slice t x lo hi mx =>
    have h1 : rd 0 x = rd' 0 x := h 0 x (by simp)
    have h2 : lo.map (rd 0) = lo.map (rd' 0) := by cases lo <;> simp [h]
    have h3 : hi.map (rd 0) = hi.map (rd' 0) := by cases hi <;> simp [h]
    have h4 : mx.map (rd 0) = mx.map (rd' 0) := by cases mx <;> simp [h]
    rw [h1, h2, h3, h4]
  case call c =>
    cases hcal : c.callee with
    | builtin b =>
      simp only
      have : (c.args.toList.zipIdx.map fun (p : Operand × Nat) => rd ((c.argTypes[p.2]?).getD 0) p.1) = c.args.toList.zipIdx.map fun (p : Operand × Nat) => rd' ((c.argTypes[p.2]?).getD 0) p.1 := List.map_congr_left fun p hp => by
        rw [h _ p.1 (by
          have := List.fst_mem_of_mem_zipIdx hp
          simp [Call.operands, hcal]
          simpa using this)]
      rw [this]
    | _ => rfl
  all_goals first
    | rfl
    | (simp [h]; done)
    | (simp only [List.mem_toArray, List.mem_cons, List.not_mem_nil, or_false] at h; simp only [h _ _ rfl])


theorem evalOp_congr (h : ∀ t x, x ∈ o.op.operands → rd t x = rd' t x) : evalOp C call rd take blk o H lim = evalOp C call rd' take blk o H lim := by
  have hp := evalP_congr (C := C) h
  unfold evalOp
  rw [hp]
  cases hop : o.op <;> simp only [hop, Op.operands] at h ⊢
  case call c =>
    cases hcal : c.callee with
    | value f =>
      have h1 : rd 0 f = rd' 0 f := h 0 f (by simp [Call.operands, hcal])
      have h2 : c.args.toList.map (rd 0) = c.args.toList.map (rd' 0) := List.map_congr_left fun p hp => h 0 p (by simp [Call.operands, hcal]; right; simpa using hp)
      simp only [h1, h2]
    | _ => rfl
  case store t x y => rw [h 0 x (by simp), h t y (by simp)]
  case load t x => rw [h 0 x (by simp)]
  case box t x => rw [h t x (by simp)]
  case makeSlice t x y => rw [h 0 x (by simp), h 0 y (by simp)]

end

/-! ### the order within a region -/
section
variable {C : Ctx} {call : FuncId → List V → Heap → Nat → Option (V × Heap)} {h : Hint} {rid lim : Nat} {ops : Array Oper}

def takeAt (h : Hint) (rid i : Nat) : Bool := h.takes.contains (rid, i)
def classAt (C : Ctx) (h : Hint) (rid i : Nat) (o : Oper) : Nat := opClass C (h.blocks.contains (rid, i)) o.op

/-- Two operations of which either may come first. -/
def indep (C : Ctx) (h : Hint) (rid : Nat) (ops : Array Oper) (i j : Nat) (oi oj : Oper) : Prop :=
  oi.apart ops oj = true ∧ (classAt C h rid i oi = 0 ∨ classAt C h rid j oj = 0 ∨ (classAt C h rid i oi = 1 ∧ classAt C h rid j oj = 1)) ∧
    ∀ t, takesOf (takeAt h rid i) oi.op.operands.toList t → ¬ takesOf (takeAt h rid j) oj.op.operands.toList t

theorem gate_congr {e e' : Env} {o : Oper} (hg : ∀ d, d ∈ o.looksAt ops → e' d = e d ∨ e' d = (e d).dem) : gate ops e' o = gate ops e o := by
  unfold gate
  cases hgd : o.guard with
  | none => rfl
  | some p =>
    obtain ⟨j, want⟩ := p
    simp only
    cases hd : (ops[j]?).bind (·.dst) with
    | none => rfl
    | some d =>
      simp only
      have hm : d ∈ o.looksAt ops := by
        unfold Oper.looksAt
        rw [hgd]
        simp only
        rw [hd]
        simp
      rcases hg d hm with h | h
      · rw [h]
      · rw [h]
        cases hd : e d with
        | tup vs => cases vs <;> rfl
        | _ => rfl

/-- what an operation leaves: some slots it took, one it wrote -/
structure Left (e e1 : Env) (S : Nat → Prop) (d : Option Nat) (v : V) : Prop where
  wrote : ∀ t, some t = d → e1 t = v
  took : ∀ t, some t ≠ d → S t → e1 t = (e t).dem
  kept : ∀ t, some t ≠ d → ¬ S t → e1 t = e t

theorem Left.eq {e e1 e2 : Env} {S : Nat → Prop} {d : Option Nat} {v : V} (h1 : Left e e1 S d v) (h2 : Left e e2 S d v) : e1 = e2 := by
  funext t
  by_cases ht : some t = d
  · rw [h1.wrote t ht, h2.wrote t ht]
  · by_cases hS : S t
    · rw [h1.took t ht hS, h2.took t ht hS]
    · rw [h1.kept t ht hS, h2.kept t ht hS]

theorem left_left (e : Env) (take : Bool) (xs : List Operand) (d : Option Nat) (v : V) : Left e ((e.left take xs).put d v) (takesOf take xs) d v := by
  refine ⟨fun t ht => by subst ht; simp [Env.put], fun t ht hS => ?_, fun t ht hS => ?_⟩
  all_goals
    have h1 : ((e.left take xs).put d v) t = e.left take xs t := by
      cases d with
      | none => rfl
      | some n => simp only [Env.put]; rw [if_neg (by simpa using ht)]
    rw [h1]
    rcases left_at take xs e t with ⟨a, b⟩ | ⟨a, b⟩
  · exact b
  · exact absurd hS a
  · exact absurd a hS
  · exact b

theorem left_skip (e : Env) (d : Option Nat) : Left e (e.put d (.tup [])) (fun _ => False) d (.tup []) := by
  refine ⟨fun t ht => by subst ht; simp [Env.put], fun t ht hS => hS.elim, fun t ht hS => ?_⟩
  cases d with
  | none => rfl
  | some n => simp only [Env.put]; rw [if_neg (by simpa using ht)]

/-- an operation that is carried out, or passed over: what comes of it -/
def outcome (C : Ctx) (call : FuncId → List V → Heap → Nat → Option (V × Heap)) (h : Hint) (rid : Nat) (ops : Array Oper) (lim i : Nat) (o : Oper) (e : Env) (H : Heap) : Option (Bool × V × Heap) :=
  match gate ops e o with
  | some true => match evalOp C call (fun t => rdO C t e (takeAt h rid i)) (takeAt h rid i) (h.blocks.contains (rid, i)) o H lim with
    | some (v, H') => some (true, v, H')
    | none => none
  | some false => some (false, .tup [], H)
  | none => none

def after (h : Hint) (rid i : Nat) (o : Oper) (e : Env) (p : Bool × V × Heap) : Env × Heap :=
  if p.1 then ((e.left (takeAt h rid i) o.op.operands.toList).put o.dst p.2.1, p.2.2) else (e.put o.dst (.tup []), p.2.2)

theorem stepOp_eq (i : Nat) (o : Oper) (e : Env) (H : Heap) : stepOp C call h rid ops lim i o e H = (outcome C call h rid ops lim i o e H).map (after h rid i o e) := by
  unfold stepOp outcome takeAt
  cases hg : gate ops e o with
  | none => rfl
  | some b =>
    cases b with
    | false => rfl
    | true =>
      dsimp only
      cases evalOp C call (fun t => rdO C t e (h.takes.contains (rid, i))) (h.takes.contains (rid, i)) (h.blocks.contains (rid, i)) o H lim with
      | none => rfl
      | some p => rfl

def tookBy (h : Hint) (rid i : Nat) (o : Oper) (b : Bool) (t : Nat) : Prop := b = true ∧ takesOf (takeAt h rid i) o.op.operands.toList t

theorem after_left (i : Nat) (o : Oper) (e : Env) (p : Bool × V × Heap) (hp : p.1 = false → p.2.1 = .tup []) : Left e (after h rid i o e p).1 (tookBy h rid i o p.1) o.dst p.2.1 := by
  unfold after tookBy
  cases hb : p.1 with
  | true =>
    simp only [if_true, true_and]
    exact left_left _ _ _ _ _
  | false =>
    simp only [Bool.false_eq_true, if_false, false_and]
    rw [hp hb]
    exact left_skip _ _

theorem outcome_any {i : Nat} {o : Oper} {e : Env} {H : Heap} {p : Bool × V × Heap} (ho : outcome C call h rid ops lim i o e H = some p) : p.1 = false → p.2.1 = .tup [] := by
  unfold outcome at ho
  split at ho
  · split at ho
    · cases ho; intro h; cases h
    · cases ho
  · cases ho; intro _; rfl
  · cases ho

/-- what comes of an operation hangs on what it looks at alone -/
theorem outcome_congr {i : Nat} {o : Oper} {e e' : Env} {H : Heap} (hg : ∀ d, d ∈ o.looksAt ops → e' d = e d ∨ (e' d = (e d).dem ∧ ¬ takesOf (takeAt h rid i) o.op.operands.toList d)) :
    outcome C call h rid ops lim i o e' H = outcome C call h rid ops lim i o e H := by
  unfold outcome
  rw [gate_congr fun d hd => (hg d hd).imp id And.left]
  have : evalOp C call (fun t => rdO C t e' (takeAt h rid i)) (takeAt h rid i) (h.blocks.contains (rid, i)) o H lim = evalOp C call (fun t => rdO C t e (takeAt h rid i)) (takeAt h rid i) (h.blocks.contains (rid, i)) o H lim := by
    refine evalOp_congr fun t x hx => ?_
    cases x with
    | tmp n =>
      have hn : n ∈ o.looksAt ops := List.mem_append_left _ (List.mem_filterMap.2 ⟨.tmp n, by simpa using hx, rfl⟩)
      simp only [rdO]
      rcases hg n hn with h1 | ⟨h1, h2⟩
      · rw [h1]
      · cases ht : takeAt h rid i with
        | true => exact absurd ⟨ht, by simpa using hx⟩ h2
        | false => simp only [Bool.false_eq_true, if_false, h1, dem_dem]
    | _ => rfl
  rw [this]

theorem outcome_class (hq : Tame C call) {i : Nat} {o : Oper} {e : Env} {H : Heap} {p : Bool × V × Heap} (ho : outcome C call h rid ops lim i o e H = some p) (hc : classAt C h rid i o = 0) (H2 : Heap) :
    p.2.2 = H ∧ outcome C call h rid ops lim i o e H2 = some (p.1, p.2.1, H2) := by
  unfold outcome at ho ⊢
  cases hg : gate ops e o with
  | none => rw [hg] at ho; cases ho
  | some b =>
    rw [hg] at ho
    cases b with
    | false => cases ho; exact ⟨rfl, rfl⟩
    | true =>
      simp only at ho ⊢
      split at ho
      · rename_i v H' hev
        cases ho
        obtain ⟨h1, h2⟩ := class0 hq (fun f => rfl) hc hev H2
        exact ⟨h1, by simp only [h2]⟩
      · cases ho

theorem outcome_class1 (hq : Tame C call) {i : Nat} {o : Oper} {e : Env} {H : Heap} {p : Bool × V × Heap} (ho : outcome C call h rid ops lim i o e H = some p) (hc : classAt C h rid i o = 1) : p.2.2 = H := by
  unfold outcome at ho
  split at ho
  · split at ho
    · rename_i v H' hev
      cases ho
      exact class1 hq hc (fun f => rfl) hev
    · cases ho
  · cases ho; rfl
  · cases ho

/-- Of two that hang on nothing of one another either may come first. -/
theorem step_comm (hq : Tame C call) {i j : Nat} {oi oj : Oper} (hin : indep C h rid ops i j oi oj) {e e1 e2 : Env} {H H1 H2 : Heap}
    (h1 : stepOp C call h rid ops lim i oi e H = some (e1, H1)) (h2 : stepOp C call h rid ops lim j oj e1 H1 = some (e2, H2)) :
    ∃ ej Hj, stepOp C call h rid ops lim j oj e H = some (ej, Hj) ∧ stepOp C call h rid ops lim i oi ej Hj = some (e2, H2) := by
  obtain ⟨hap, hcl, htk⟩ := hin
  obtain ⟨a1, a2, a3⟩ := Oper.apart_spec hap
  rw [stepOp_eq] at h1 h2
  obtain ⟨p, hp, h1⟩ := Option.map_eq_some_iff.1 h1
  obtain ⟨q, hq', h2⟩ := Option.map_eq_some_iff.1 h2
  have Li := after_left (h := h) (rid := rid) i oi e p (outcome_any hp)
  rw [h1] at Li
  simp only at Li
  have Hp : p.2.2 = H1 := by
    have := congrArg Prod.snd h1
    unfold after at this
    split at this <;> exact this
  have Lj := after_left (h := h) (rid := rid) j oj e1 q (outcome_any hq')
  rw [h2] at Lj
  simp only at Lj
  have Hq : q.2.2 = H2 := by
    have := congrArg Prod.snd h2
    unfold after at this
    split at this <;> exact this
  -- j ahead of i, in the frame as it was
  have cj : ∀ H0, outcome C call h rid ops lim j oj e1 H0 = outcome C call h rid ops lim j oj e H0 := fun H0 => outcome_congr fun d hd => by
    have hne : some d ≠ oi.dst := fun he => a1 d he.symm hd
    by_cases hS : tookBy h rid i oi p.1 d
    · exact .inr ⟨Li.took d hne hS, htk d hS.2⟩
    · exact .inl (Li.kept d hne hS)
  have hjH : ∃ Hj, outcome C call h rid ops lim j oj e H = some (q.1, q.2.1, Hj) ∧ ∀ e', (∀ H0, outcome C call h rid ops lim i oi e' H0 = outcome C call h rid ops lim i oi e H0) → outcome C call h rid ops lim i oi e' Hj = some (p.1, p.2.1, H2) := by
    rcases hcl with hc | hc | ⟨hci, hcj⟩
    · obtain ⟨e0, e3⟩ := outcome_class hq hp hc H
      obtain ⟨_, e4⟩ := outcome_class hq hp hc H2
      refine ⟨H2, ?_, fun e' he => by rw [he]; exact e4⟩
      rw [← cj, ← e0, Hp, hq', ← Hq]
    · obtain ⟨e0, e3⟩ := outcome_class hq hq' hc H
      refine ⟨H, by rw [← cj]; exact e3, fun e' he => ?_⟩
      rw [he, hp, ← Hq, e0, ← Hp]
    · have e0 := outcome_class1 hq hp hci
      have e3 := outcome_class1 hq hq' hcj
      refine ⟨H, ?_, fun e' he => ?_⟩
      · rw [← cj, show H = H1 by rw [← Hp, e0], hq', ← e3]
      · rw [he, hp, ← Hq, e3, ← Hp]
  obtain ⟨Hj, hj1, hj2⟩ := hjH
  have Lj' := after_left (h := h) (rid := rid) j oj e (q.1, q.2.1, Hj) (outcome_any hj1)
  refine ⟨(after h rid j oj e (q.1, q.2.1, Hj)).1, Hj, ?_, ?_⟩
  · rw [stepOp_eq, hj1]
    simp only [Option.map_some, Option.some.injEq]
    unfold after
    split <;> rfl
  · have ci : ∀ H0, outcome C call h rid ops lim i oi (after h rid j oj e (q.1, q.2.1, Hj)).1 H0 = outcome C call h rid ops lim i oi e H0 := fun H0 => outcome_congr fun d hd => by
      have hne : some d ≠ oj.dst := fun he => a3 d he.symm hd
      by_cases hS : tookBy h rid j oj q.1 d
      · exact .inr ⟨Lj'.took d hne hS, fun hh => htk d hh hS.2⟩
      · exact .inl (Lj'.kept d hne hS)
    have hi2 := hj2 _ ci
    rw [stepOp_eq, hi2]
    simp only [Option.map_some, Option.some.injEq]
    have Li' := after_left (h := h) (rid := rid) i oi (after h rid j oj e (q.1, q.2.1, Hj)).1 (p.1, p.2.1, H2) (outcome_any hi2)
    have hsnd : (after h rid i oi (after h rid j oj e (q.1, q.2.1, Hj)).1 (p.1, p.2.1, H2)).2 = H2 := by unfold after; split <;> rfl
    refine Prod.ext ?_ hsnd
    funext t
    show (after h rid i oi (after h rid j oj e (q.1, q.2.1, Hj)).1 (p.1, p.2.1, H2)).1 t = e2 t
    -- the same at each slot
    by_cases ti : some t = oi.dst
    · have tj : some t ≠ oj.dst := fun h' => a2 t ti.symm h'.symm
      have nj : ¬ tookBy h rid j oj q.1 t := fun hh => a1 t ti.symm (List.mem_append_left _ (List.mem_filterMap.2 ⟨.tmp t, by simpa using hh.2.2, rfl⟩))
      rw [Li'.wrote t ti, Lj.kept t tj nj, Li.wrote t ti]
    · by_cases tj : some t = oj.dst
      · have ni : ¬ tookBy h rid i oi p.1 t := fun hh => a3 t tj.symm (List.mem_append_left _ (List.mem_filterMap.2 ⟨.tmp t, by simpa using hh.2.2, rfl⟩))
        rw [Li'.kept t ti ni, Lj'.wrote t tj, Lj.wrote t tj]
      · by_cases si : tookBy h rid i oi p.1 t <;> by_cases sj : tookBy h rid j oj q.1 t
        · exact absurd sj.2 (htk t si.2)
        · rw [Li'.took t ti si, Lj'.kept t tj sj, Lj.kept t tj sj, Li.took t ti si]
        · rw [Li'.kept t ti si, Lj'.took t tj sj, Lj.took t tj sj, Li.kept t ti si]
        · rw [Li'.kept t ti si, Lj'.kept t tj sj, Lj.kept t tj sj, Li.kept t ti si]

end
end Go.Den
