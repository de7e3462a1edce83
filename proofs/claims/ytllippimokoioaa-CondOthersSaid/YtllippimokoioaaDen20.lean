import Derived.Test.YtllippimokoioaaDen19
import Derived.LoopN
set_option linter.unusedVariables false
namespace Go.Den

def codeOK (C : Ctx) (h : Hint) (nt : Nat) : Code → Bool
  | .region id ops d => regOK C h nt id ops d
  | .seq a b => codeOK C h nt a && codeOK C h nt b
  | .cond _ a b => codeOK C h nt a && codeOK C h nt b
  | .block _ b => codeOK C h nt b
  | .loop b => codeOK C h nt b
  | _ => true

def Ex.out : Ex → Exit
  | .nrm => .normal
  | .ext i => .exit i
  | .ret => .ret

section
variable {Z : Nat → Zone} {ι : List Nat} {e : Env} {H : Heap} {vals : Nat → Value} {w : World} {C : Ctx} {s : Start} {a : Act}
  {call : FuncId → List V → Heap → Nat → Option (V × Heap)} {h : Hint} {rid lim nt : Nat} {ops : Array Oper}

/-- Less may be told of slots. -/
theorem Good.less (G : Good Z ι e H vals w) {e' : Env} (he : ∀ t, e' t = e t ∨ e' t = .any) : Good Z ι e' H vals w := by
  have htok : ∀ l β, tok e' vals H ι w l = some β → tok e vals H ι w l = some β := by
    intro l β hl
    cases l with
    | inr p => exact hl
    | inl p =>
      obtain ⟨t, j⟩ := p
      simp only [tok] at hl ⊢
      rcases he t with h | h
      · rwa [h] at hl
      · rw [h, tokV_any] at hl; cases hl
  refine ⟨fun t => ?_, G.len, G.blk, fun t => ?_, fun l l' β h h' => G.uniq l l' β (htok l β h) (htok l' β h'), G.fresh⟩
  · rcases he t with h | h
    · rw [h]; exact G.rep t
    · rw [h]; simp only [srep]
  · rcases he t with h | h
    · rw [h]; exact G.own t
    · rw [h]; exact Cold.own (fun j => tokV_any _ _)

theorem tab_at (e : Env) : ∀ (ks : List Nat) (t : Nat), tab (ks.map fun k => (k, e k)) t = e t ∨ tab (ks.map fun k => (k, e k)) t = .any
  | [], t => .inr rfl
  | k :: ks, t => by
    simp only [List.map_cons, tab]
    by_cases h : t = k
    · rw [if_pos h, h]; exact .inl rfl
    · rw [if_neg h]; exact tab_at e ks t

theorem St.less (hs : St s e H a w) {e' : Env} (he : ∀ t, e' t = e t ∨ e' t = .any) : St s e' H a w := by
  obtain ⟨h1, h2, Z, ι, G, X, hN⟩ := hs
  refine ⟨h1, h2, Z, ι, G.less he, X, fun l β hl => hN l β ?_⟩
  cases l with
  | inr p => exact hl
  | inl p =>
    obtain ⟨t, j⟩ := p
    simp only [tok] at hl ⊢
    rcases he t with h | h
    · rwa [h] at hl
    · rw [h, tokV_any] at hl; cases hl

theorem regOK_mono {nt' : Nat} {d : Bool} (hr : regOK C h nt rid ops d = true) (hn : nt ≤ nt') : regOK C h nt' rid ops d = true := by
  simp only [regOK, Bool.and_eq_true, List.all_eq_true, List.mem_range] at hr ⊢
  refine ⟨fun i hi => ?_, hr.2⟩
  have := hr.1 i hi
  split at this
  · rename_i o ho
    simp only [Bool.and_eq_true] at this ⊢
    refine ⟨?_, this.2⟩
    have h1 := this.1
    split at h1
    · simp only [decide_eq_true_eq] at h1 ⊢; exact Nat.lt_of_lt_of_le h1 hn
    · rfl
  · rfl

theorem code_sound (CO : CtxOK C) (hcall : CallOK C call) (hq : Tame C call) (hn : nt ≤ s.nt) :
    ∀ (c : Code), codeOK C h nt c = true → ∀ (e : Env) (H : Heap) (a : Act) (w : World) (x : Ex) (e' : Env) (H' : Heap) (Q : Exit → Act → World → Prop),
      evalCode C call h s.lim c e H = some (x, e', H') → St s e H a w → (∀ a w, St s e' H' a w → Q x.out a w) → c.wp C.P Q a w := by
  intro c
  induction c with
  | skip => intro _ e H a w x e' H' Q he hst hQ; simp only [evalCode] at he; cases he; exact wp_skip (hQ _ _ hst)
  | region id ops d =>
    intro hc e H a w x e' H' Q he hst hQ
    simp only [evalCode] at he
    obtain ⟨⟨e1, H1⟩, h1, h2⟩ := Option.map_eq_some_iff.1 he
    cases h2
    exact reg_sound CO hcall hq (regOK_mono hc hn) h1 hst fun a w hst' => hQ a w (hst'.less (tab_at e1 h.keep))
  | seq c1 c2 h1 h2 =>
    intro hc e H a w x e' H' Q he hst hQ
    simp only [codeOK, Bool.and_eq_true] at hc
    simp only [evalCode] at he
    unfold thenR at he
    refine wp_seq ?_
    split at he
    · rename_i e1 H1 hev
      exact h1 hc.1 e H a w .nrm e1 H1 _ hev hst fun a w hst' => h2 hc.2 e1 H1 a w x e' H' Q he hst' hQ
    · rename_i hnn
      refine h1 hc.1 e H a w x e' H' _ he hst fun a w hst' => ?_
      cases x with
      | nrm => exact (hnn _ _ he).elim
      | ext i => exact hQ a w hst'
      | ret => exact hQ a w hst'
  | cond v c1 c2 h1 h2 =>
    intro hc e H a w x e' H' Q he hst hQ
    simp only [codeOK, Bool.and_eq_true] at hc
    simp only [evalCode] at he
    unfold condR at he
    split at he
    · rename_i b hb
      have hst0 := hst
      obtain ⟨_, _, Z, ι, G, _⟩ := hst
      have := rd_srep G C 0 false v
      rw [hb] at this
      simp only [srep] at this
      refine wp_cond this.1 ?_
      cases b with
      | true => exact h1 hc.1 e H a w x e' H' Q he hst0 hQ
      | false => exact h2 hc.2 e H a w x e' H' Q he hst0 hQ
    · cases he
  | block id c h1 =>
    intro hc e H a w x e' H' Q he hst hQ
    simp only [codeOK] at hc
    simp only [evalCode] at he
    unfold inBlk at he
    refine wp_block ?_
    split at he
    · rename_i i e1 H1 hev
      refine h1 hc e H a w (.ext i) e1 H1 _ hev hst fun a w hst' => ?_
      simp only [Ex.out, Exit.inBlock]
      by_cases hi : i = id
      · rw [if_pos hi] at he ⊢; cases he; exact hQ a w hst'
      · rw [if_neg hi] at he ⊢; cases he; exact hQ a w hst'
    · rename_i hnn
      refine h1 hc e H a w x e' H' _ he hst fun a w hst' => ?_
      cases x with
      | nrm => exact hQ a w hst'
      | ext i => exact (hnn _ _ _ he).elim
      | ret => exact hQ a w hst'
  | loop c h1 =>
    intro hc e H a w x e' H' Q he hst hQ
    simp only [codeOK] at hc
    simp only [evalCode] at he
    refine wp_loop_rounds C.fuel ?_
    have key : ∀ n e H a w, iter (evalCode C call h s.lim c) n e H = some (x, e', H') → St s e H a w → Code.rounds C.P c Q n a w := by
      intro n
      induction n with
      | zero => intro e H a w he _; cases he
      | succ n ih =>
        intro e H a w he hst
        rw [rounds_succ]
        simp only [iter] at he
        unfold thenR at he
        split at he
        · rename_i e1 H1 hev
          exact h1 hc e H a w .nrm e1 H1 _ hev hst fun a w hst' => ih e1 H1 a w he hst'
        · rename_i hnn
          refine h1 hc e H a w x e' H' _ he hst fun a w hst' => ?_
          cases x with
          | nrm => exact (hnn _ _ he).elim
          | ext i => exact hQ a w hst'
          | ret => exact hQ a w hst'
    exact key _ _ _ _ _ he hst
  | exit id => intro _ e H a w x e' H' Q he hst hQ; simp only [evalCode] at he; cases he; exact wp_exit (hQ _ _ hst)
  | ret => intro _ e H a w x e' H' Q he hst hQ; simp only [evalCode] at he; cases he; exact wp_ret (hQ _ _ hst)
  | _ => intro _ e H a w x e' H' Q he; simp only [evalCode] at he; cases he

end
end Go.Den
