import Derived.Test.YtllippimokoioaaDen27
import Derived.Below
set_option linter.unusedVariables false
namespace Go.Den
open Go.RowKit

/-- a world as a law finds it: nothing in it is ever changed -/
def zone0 (w : World) : Nat → Zone := fun β => match w.heap[β]? with
  | some (.cells us _ _) => .log us.size
  | some _ => .log 0
  | none => .free

theorem zone0_free {w : World} {β : Nat} (h : w.heap.size ≤ β) : zone0 w β = .free := by
  unfold zone0
  rw [Array.getElem?_eq_none h]

theorem zone0_box {w : World} {β i : Nat} : zone0 w β ≠ .box i := by
  unfold zone0
  cases w.heap[β]? with
  | none => simp
  | some o => cases o <;> simp

theorem zone0_cells {w : World} {β : Nat} {us : Array Value} {t : TypeId} {p : Nat × Nat} (h : w.heap[β]? = some (.cells us t p)) : zone0 w β = .log us.size := by
  unfold zone0
  rw [h]

/-- **A law that evaluates to a flat value returns it, and nothing of old has changed.** -/
theorem law_ok {C : Ctx} (CO : CtxOK C) (KO : CodesOK C) {d : Nat} {f : FuncId} {l : List V} {v : Value} (h : Spec C d f l (.sc v)) {us : Array Value} {W : World} (hl : us.size = l.length)
    (hs : ∀ (i : Nat) (x : V) (u : Value), l[i]? = some x → us[i]? = some u → srep (zone0 W) [] W x u ∧ x.dem = x) :
    Calls C.P f us W fun e W' => e = .returned v ∧ Below W.heap.size W W' := by
  obtain ⟨H', he⟩ := h d (Nat.le_refl _)
  have cold : ∀ t j, tokV (args l t) (us.getD t undef) j = none := by
    intro t j
    unfold args
    cases ht : l[t]? with
    | none => exact tokV_any _ _
    | some x =>
      have hlt : t < us.size := by rw [hl]; exact (List.getElem?_eq_some_iff.1 ht).1
      have := (hs t x us[t] ht (by simp [hlt])).2
      simp only [Option.getD_some]
      rw [← this]
      exact tokV_dem _ _ _
  have G : Good (zone0 W) [] (args l) [] (fun t => us.getD t undef) W := by
    refine ⟨fun t => ?_, rfl, fun i cs h => by simp at h, fun t => Cold.own (cold t), fun l1 l2 β h1 h2 => ?_, fun β h => zone0_free h⟩
    · unfold args
      cases ht : l[t]? with
      | none => simp [srep]
      | some x =>
        have hlt : t < us.size := by rw [hl]; exact (List.getElem?_eq_some_iff.1 ht).1
        have := (hs t x us[t] ht (by simp [hlt])).1
        simpa [hlt] using this
    · cases l1 with
      | inl p => simp only [tok, cold] at h1; cases h1
      | inr p => simp [tok, tokH] at h1
  refine ((evalFun_ok CO KO d f l [] 0 _ H' he).2 (zone0 W) [] W us hl G).mono ?_
  rintro e W' ⟨u, rfl, Z', ι', G', X, hN⟩
  have hu := G'.rep 0
  simp only [one, if_true, srep] at hu
  refine ⟨by rw [hu.1], X.os, X.tape, X.out, X.size, fun k hk => X.heap k hk ?_ fun i _ => zone0_box⟩
  rintro (⟨t, j, _, h⟩ | ⟨i, j, h⟩)
  · rw [cold] at h; cases h
  · simp [tokH] at h

theorem srep_sc {Z : Nat → Zone} {ι : List Nat} {w : World} {v : Value} (h : flat v = true) : srep Z ι w (.sc v) v := by
  simp [srep, h]

theorem wf_rng {k : IntKind} {a : Int} (h : (Lit.int k a).wf = true) : lowK k ≤ a ∧ a ≤ topK k := by
  have h : (decide (k.min ≤ a) && decide (a ≤ k.max)) = true := h
  rw [Bool.and_eq_true, decide_eq_true_iff, decide_eq_true_iff] at h
  have hl : k.min = lowK k := by cases k <;> rfl
  have ht : k.max = topK k := by cases k <;> rfl
  rw [hl, ht] at h
  exact h

end Go.Den
