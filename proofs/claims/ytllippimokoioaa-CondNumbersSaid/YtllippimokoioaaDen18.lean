import Derived.Test.YtllippimokoioaaDen17
set_option linter.unusedVariables false
namespace Go.Den

def indepB (C : Ctx) (h : Hint) (rid : Nat) (ops : Array Oper) (i j : Nat) (oi oj : Oper) : Bool :=
  oi.apart ops oj && (classAt C h rid i oi == 0 || classAt C h rid j oj == 0 || (classAt C h rid i oi == 1 && classAt C h rid j oj == 1)) &&
    (!takeAt h rid i || !takeAt h rid j || (oi.op.operands.toList.filterMap tmpOf).all fun t => !(oj.op.operands.toList.filterMap tmpOf).contains t)

section
variable {C : Ctx} {call : FuncId → List V → Heap → Nat → Option (V × Heap)} {h : Hint} {rid lim : Nat} {ops : Array Oper} {md : Region.Mode}

theorem indepB_spec {i j : Nat} {oi oj : Oper} (hb : indepB C h rid ops i j oi oj = true) : indep C h rid ops i j oi oj := by
  simp only [indepB, Bool.and_eq_true, Bool.or_eq_true, beq_iff_eq, Bool.not_eq_true'] at hb
  obtain ⟨⟨h1, h2⟩, h3⟩ := hb
  refine ⟨h1, by rcases h2 with (h2 | h2) | h2 <;> simp [h2], ?_⟩
  rintro t ⟨t1, t2⟩ ⟨t3, t4⟩
  rcases h3 with (h3 | h3) | h3
  · rw [t1] at h3; cases h3
  · rw [t3] at h3; cases h3
  · have := List.all_eq_true.1 h3 t (List.mem_filterMap.2 ⟨.tmp t, t2, rfl⟩)
    simp only [Bool.not_eq_true', List.contains_eq_mem, decide_eq_false_iff_not] at this
    exact this (List.mem_filterMap.2 ⟨.tmp t, t4, rfl⟩)

/-- every order the rules leave open comes to the same -/
def anyA (C : Ctx) (call : FuncId → List V → Heap → Nat → Option (V × Heap)) (h : Hint) (rid lim : Nat) (md : Region.Mode) (ops : Array Oper) (K : Env → Heap → Prop) : Nat → Array Bool → Env → Heap → Prop
  | 0, listed, e, H => Region.ready md ops listed = [] ∧ K e H
  | n + 1, listed, e, H => (Region.ready md ops listed = [] → K e H) ∧
    ∀ i ∈ Region.ready md ops listed, ∃ o e' H', ops[i]? = some o ∧ stepOp C call h rid ops lim i o e H = some (e', H') ∧ anyA C call h rid lim md ops K n (listed.setIfInBounds i true) e' H'

theorem anyA_first (hq : Tame C call) {K : Env → Heap → Prop} {i : Nat} {oi : Oper} (hi : ops[i]? = some oi) :
    ∀ (fuel : Nat) (listed : Array Bool) (e e' : Env) (H H' : Heap),
      (∀ j oj, ops[j]? = some oj → j ≠ i → listed.getD j true = false → (∀ d ∈ oj.after, Region.binds md d = true → d.on ≠ i) → indep C h rid ops i j oi oj) →
      i ∈ Region.ready md ops listed → stepOp C call h rid ops lim i oi e H = some (e', H') →
      anyA C call h rid lim md ops K fuel (listed.setIfInBounds i true) e' H' → anyA C call h rid lim md ops K (fuel + 1) listed e H := by
  intro fuel
  induction fuel with
  | zero =>
    intro listed e e' H H' _ hr hy hA
    refine ⟨fun h => (by rw [h] at hr; cases hr), fun j hj => ?_⟩
    by_cases hji : j = i
    · subst hji; exact ⟨oi, e', H', hi, hy, hA⟩
    · have := ready_mono hj hji
      rw [hA.1] at this
      cases this
  | succ fuel ih =>
    intro listed e e' H H' hfree hr hy hA
    refine ⟨fun h => (by rw [h] at hr; cases hr), fun j hj => ?_⟩
    by_cases hji : j = i
    · subst hji; exact ⟨oi, e', H', hi, hy, hA⟩
    · obtain ⟨oj', e2, H2, hoj', hs2, hA2⟩ := hA.2 j (ready_mono hj hji)
      obtain ⟨hjun, oj, hoj, hall⟩ := mem_ready.1 hj
      have hoe : oj' = oj := by rw [hoj] at hoj'; exact (Option.some.inj hoj').symm
      rw [hoe] at hs2
      have hnot : ∀ d ∈ oj.after, Region.binds md d = true → d.on ≠ i := fun d he hb heq => by
        have h1 := hall d he hb
        have h0 := (mem_ready.1 hr).1
        rw [heq] at h1
        rcases Nat.lt_or_ge i listed.size with h' | h'
        · simp [h'] at h0 h1; rw [h0] at h1; cases h1
        · simp [Array.getElem?_eq_none h'] at h1
      obtain ⟨ej, Hj, hsj, hsi⟩ := step_comm hq (hfree j oj hoj hji hjun hnot) hy hs2
      have hfree' : ∀ k ok, ops[k]? = some ok → k ≠ i → (listed.setIfInBounds j true).getD k true = false →
          (∀ d ∈ ok.after, Region.binds md d = true → d.on ≠ i) → indep C h rid ops i k oi ok := fun k ok hk hki hun hno => by
        refine hfree k ok hk hki ?_ hno
        by_cases hjk : j = k
        · subst hjk; exact hjun
        · rw [getD_set_ne true hjk] at hun; exact hun
      refine ⟨oj, ej, Hj, hoj, hsj, ih (listed.setIfInBounds j true) ej e2 Hj H2 hfree' (ready_mono hr (Ne.symm hji)) hsi ?_⟩
      rw [Array.setIfInBounds_comm _ _ hji]
      exact hA2

/-- what may come ahead of operation 'i' though it stands behind it -/
def freeD (C : Ctx) (h : Hint) (rid : Nat) (md : Region.Mode) (ops : Array Oper) (listed : Array Bool) (i : Nat) : Bool :=
  match ops[i]? with
  | none => false
  | some oi => (List.range ops.size).all fun j => j == i || listed.getD j true || match ops[j]? with
      | some oj => oj.after.any (fun e => Region.binds md e && e.on == i) || indepB C h rid ops i j oi oj
      | none => true

theorem freeD_spec {i : Nat} {oi : Oper} {listed : Array Bool} (hi : ops[i]? = some oi) (hf : freeD C h rid md ops listed i = true) (j : Nat) (oj : Oper)
    (hj : ops[j]? = some oj) (hne : j ≠ i) (hun : listed.getD j true = false) (hno : ∀ e ∈ oj.after, Region.binds md e = true → e.on ≠ i) :
    indep C h rid ops i j oi oj := by
  simp only [freeD, hi, List.all_eq_true, List.mem_range] at hf
  have h1 := hf j (Array.getElem?_eq_some_iff.1 hj).1
  simp only [hj, Bool.or_eq_true, beq_iff_eq, hne, false_or, hun, Bool.false_eq_true] at h1
  rcases h1 with h1 | h1
  · obtain ⟨e, he, hb⟩ := Array.any_eq_true'.1 h1
    simp only [Bool.and_eq_true, beq_iff_eq] at hb
    exact absurd hb.2 (hno e he hb.1)
  · exact indepB_spec h1

def lexD (C : Ctx) (h : Hint) (rid : Nat) (md : Region.Mode) (ops : Array Oper) : Nat → Nat → Array Bool → Bool
  | 0, _, listed => (Region.ready md ops listed).isEmpty
  | fuel + 1, k, listed => (Region.ready md ops listed).contains k && freeD C h rid md ops listed k && lexD C h rid md ops fuel (k + 1) (listed.setIfInBounds k true)

theorem anyA_lex (hq : Tame C call) {K : Env → Heap → Prop} : ∀ (l : List Oper) (k : Nat) (listed : Array Bool) (e : Env) (H : Heap) (e' : Env) (H' : Heap), (∀ j, l[j]? = ops[k + j]?) →
    lexD C h rid md ops l.length k listed = true → evalOps C call h rid ops lim l k e H = some (e', H') → K e' H' → anyA C call h rid lim md ops K l.length listed e H
  | [], _, _, _, _, _, _, _, hB, hs, hK => ⟨by simpa [lexD] using hB, by simp only [evalOps] at hs; cases hs; exact hK⟩
  | o :: l, k, listed, e, H, e', H', hl, hB, hs, hK => by
    have h0 : ops[k]? = some o := by simpa using (hl 0).symm
    simp only [List.length_cons, lexD, Bool.and_eq_true] at hB
    obtain ⟨⟨hr, hf⟩, hB'⟩ := hB
    simp only [evalOps] at hs
    split at hs
    · rename_i e1 H1 h1
      exact anyA_first hq h0 l.length listed e e1 H H1 (freeD_spec h0 hf) (by simpa using hr) h1
        (anyA_lex hq l (k + 1) _ _ _ _ _ (fun j => by have := hl (j + 1); simpa [Nat.add_assoc, Nat.add_comm 1 j] using this) hB' hs hK)
    · cases hs

theorem any_sound (CO : CtxOK C) (hcall : CallOK C call) {s : Start} (hok : opsOK h rid s.nt ops) (hlim : lim = s.lim) (Q : Exit → Act → World → Prop) {K : Env → Heap → Prop} :
    ∀ (fuel : Nat) (listed : Array Bool) (e : Env) (H : Heap) (a : Act) (w : World), anyA C call h rid lim md ops K fuel listed e H → St s e H a w → (∀ e H a w, K e H → St s e H a w → Q .normal a w) →
      wpAny C.P md ops Q fuel listed a w := by
  subst hlim
  intro fuel
  induction fuel with
  | zero => intro listed e H a w hA hst hQ; exact ⟨hA.1, hQ _ _ _ _ hA.2 hst⟩
  | succ fuel ih =>
    intro listed e H a w hA hst hQ
    refine ⟨fun hr => hQ _ _ _ _ (hA.1 hr) hst, fun i hi => ?_⟩
    obtain ⟨o, e', H', ho, hs, hA'⟩ := hA.2 i hi
    exact step_sound CO hcall ho (hok i o ho).1 (hok i o ho).2 hs hst Q fun a w hst' => ih _ _ _ _ _ hA' hst' hQ

/-- A region, whether it draws or not. -/
def regOK (C : Ctx) (h : Hint) (nt rid : Nat) (ops : Array Oper) (draw : Bool) : Bool :=
  ((List.range ops.size).all fun i => match ops[i]? with
    | some o => (match o.dst with | some n => decide (n < nt) | none => true) && (!takeAt h rid i || decide (o.op.operands.toList.filterMap tmpOf).Nodup)
    | none => true) &&
  (!draw || lexD C h rid .any ops ops.size 0 (Array.replicate ops.size false))

theorem regOK_ops {nt : Nat} {draw : Bool} (hr : regOK C h nt rid ops draw = true) : opsOK h rid nt ops := by
  simp only [regOK, Bool.and_eq_true, List.all_eq_true, List.mem_range] at hr
  intro i o ho
  have := hr.1 i (Array.getElem?_eq_some_iff.1 ho).1
  rw [ho] at this
  simp only [Bool.and_eq_true, Bool.or_eq_true, Bool.not_eq_true', decide_eq_true_eq] at this
  refine ⟨fun n hn => ?_, fun ht => ?_⟩
  · have h1 := this.1
    rw [hn] at h1
    simpa using h1
  · rcases this.2 with h1 | h1
    · exact absurd ht (by rw [show h.takes.contains (rid, i) = takeAt h rid i from rfl, h1]; simp)
    · exact h1

theorem reg_sound (CO : CtxOK C) (hcall : CallOK C call) (hq : Tame C call) {s : Start} {draw : Bool} (hr : regOK C h s.nt rid ops draw = true)
    {e e' : Env} {H H' : Heap} {a : Act} {w : World} {Q : Exit → Act → World → Prop} (hs : evalOps C call h rid ops s.lim ops.toList 0 e H = some (e', H')) (hst : St s e H a w) (hQ : ∀ a w, St s e' H' a w → Q .normal a w) :
    (Code.region rid ops draw).wp C.P Q a w := by
  cases draw with
  | false => exact region_sound CO hcall (regOK_ops hr) hs hst hQ
  | true =>
    refine wp_region_any CO.mixed ?_
    have hr' := hr
    simp only [regOK, Bool.and_eq_true, Bool.not_true, Bool.false_or] at hr'
    have hA := anyA_lex (K := fun e1 H1 => e1 = e' ∧ H1 = H') (md := .any) hq ops.toList 0 (Array.replicate ops.size false) e H e' H' (by simp) (by simpa using hr'.2) hs ⟨rfl, rfl⟩
    refine any_sound CO hcall (regOK_ops hr) rfl Q _ _ _ _ _ _ (by simpa using hA) hst.drew ?_
    rintro e1 H1 a1 w1 ⟨rfl, rfl⟩ h1
    exact hQ _ _ h1

end
end Go.Den
