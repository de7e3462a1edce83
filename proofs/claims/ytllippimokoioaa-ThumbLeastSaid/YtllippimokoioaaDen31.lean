import Derived.Test.YtllippimokoioaaDenB
import Derived.ChangeArms
import Derived.ChangeShapes
set_option linter.unusedVariables false
namespace Go.Den
open Go.ChangeShapes Go.WideShapes

/-! ### a struct of numbers and truths, as an argument -/

inductive Sc where | int (k : IntKind) | bool

def Sc.of (P : Program) (t : TypeId) : Sc → Prop
  | .int k => P.underlying t = some (.int k)
  | .bool => P.underlying t = some .bool

/-- values, and what is read of them -/
def Fits {H : Type} : List Sc → List Value → List (DataW H) → Prop
  | [], vs, ds => vs = [] ∧ ds = []
  | .int k :: ks, vs, ds => ∃ n vs' ds', vs = .int k n :: vs' ∧ ds = .lit (.int k n) :: ds' ∧ (Lit.int k n).wf = true ∧ Fits ks vs' ds'
  | .bool :: ks, vs, ds => ∃ b vs' ds', vs = .bool b :: vs' ∧ ds = .lit (.bool b) :: ds' ∧ Fits ks vs' ds'

def scB (P : Program) (t : TypeId) (s : Sc) : Bool :=
  match P.underlying t, s with
  | some (.int k), .int k' => sameK k k'
  | some .bool, .bool => true
  | _, _ => false

theorem scB_ok {P : Program} {t : TypeId} {s : Sc} (h : scB P t s = true) : s.of P t := by
  unfold scB at h
  split at h
  · rename_i h1
    have := sameK_ok h
    subst this
    exact h1
  · rename_i h1; exact h1
  · cases h

/-- each field is one cell, of its kind, in its place -/
def flatFields (P : Program) (fs : Array Field) (ks : List Sc) : Bool := Nat.beq ks.length fs.size && (List.range fs.size).all fun i => match fs[i]?, ks[i]? with
  | some f, some s => Nat.beq f.offset i && Nat.beq (P.cellsOf f.type) 1 && scB P f.type s
  | _, _ => false

theorem flatFields_ok {P : Program} {fs : Array Field} {ks : List Sc} (h : flatFields P fs ks = true) : ks.length = fs.size ∧ ∀ (i : Nat) (f : Field), fs[i]? = some f → f.offset = i ∧ P.cellsOf f.type = 1 ∧ ∃ s, ks[i]? = some s ∧ s.of P f.type := by
  unfold flatFields at h
  rw [Bool.and_eq_true] at h
  refine ⟨Nat.eq_of_beq_eq_true h.1, fun i f hf => ?_⟩
  have hlt : i < fs.size := (Array.getElem?_eq_some_iff.1 hf).1
  have := List.all_eq_true.1 h.2 i (List.mem_range.2 hlt)
  rw [hf] at this
  cases hk : ks[i]? with
  | none => rw [hk] at this; cases this
  | some s =>
    rw [hk] at this
    simp only [Bool.and_eq_true] at this
    exact ⟨Nat.eq_of_beq_eq_true this.1.1, Nat.eq_of_beq_eq_true this.1.2, s, rfl, scB_ok this.2⟩

section
variable {H : Type} {enc : TypeId × Value → H} {P : Program} {w : World} {base : Nat} {spare : Nat → Bool} {held : Bool}

theorem drop_take1 {α : Type} {l : List α} {i : Nat} (h : i < l.length) : (l.drop i).take 1 = [l[i]] := by
  rw [List.drop_eq_getElem_cons h]
  rfl

theorem fits_from {fs : Array Field} {ks : List Sc} {cs : List Value} {xs : List (DataW H × List MemPlace)} {n : Nat} (hl : ks.length = fs.size) (hk : ∀ (i : Nat) (f : Field), fs[i]? = some f → f.offset = i ∧ P.cellsOf f.type = 1 ∧ ∃ s, ks[i]? = some s ∧ s.of P f.type)
    (hc : cs.length = fs.size) (hx : xs.length = fs.size) (hf : ∀ (i : Nat) (f : Field), fs[i]? = some f → DataW.trod enc P w base spare held n f.type ((cs.drop f.offset).take (P.cellsOf f.type)) = xs[i]?) :
    ∀ (m i : Nat), i + m = fs.size → Fits (ks.drop i) (cs.drop i) ((xs.drop i).map (·.1)) ∧ (xs.drop i).flatMap (·.2) = [] := by
  intro m
  induction m with
  | zero =>
    intro i hi
    rw [List.drop_of_length_le (by omega), List.drop_of_length_le (by omega), List.drop_of_length_le (by omega)]
    exact ⟨⟨rfl, rfl⟩, rfl⟩
  | succ m ih =>
    intro i hi
    have hlt : i < fs.size := by omega
    have hfi : fs[i]? = some fs[i] := by simp [hlt]
    obtain ⟨h1, h2, s, h3, h4⟩ := hk i _ hfi
    have g := hf i _ hfi
    rw [h1, h2, drop_take1 (by omega), List.getElem?_eq_getElem (by omega)] at g
    obtain ⟨ih1, ih2⟩ := ih (i + 1) (by omega)
    have hki : ks[i]'(by omega) = s := by
      rw [List.getElem?_eq_getElem (by omega)] at h3
      exact Option.some.inj h3
    rw [List.drop_eq_getElem_cons (show i < ks.length by omega), List.drop_eq_getElem_cons (show i < cs.length by omega), List.drop_eq_getElem_cons (show i < xs.length by omega), hki]
    cases s with
    | int k =>
      obtain ⟨z, e1, e2, e3⟩ := DataW.trod_int h4 g
      have e1 : cs[i]'(by omega) = .int k z := by simpa using e1
      rw [e1, List.map_cons, List.flatMap_cons, e2, ih2]
      exact ⟨⟨z, _, _, rfl, rfl, e3, ih1⟩, rfl⟩
    | bool =>
      obtain ⟨z, e1, e2⟩ := DataW.trod_bool h4 g
      have e1 : cs[i]'(by omega) = .bool z := by simpa using e1
      rw [e1, List.map_cons, List.flatMap_cons, e2, ih2]
      exact ⟨⟨z, _, _, rfl, rfl, ih1⟩, rfl⟩

theorem open_flat {r : Reach} {b0 : Nat} {t : TypeId} {fs : Array Field} {ks : List Sc} {v : Value} {d : DataW H} {ps : List MemPlace} (ht : P.underlying t = some (.struct fs)) (hB : flatFields P fs ks = true) (hC : P.cellsOf t = fs.size)
    (hval : Value.okWide P w r b0 t v) (hd : DataW.Trod enc P w base spare held t v d ps) : ∃ vs ds, v = .agg vs.toArray ∧ d = .agg ds ∧ ps = [] ∧ Fits ks vs ds := by
  obtain ⟨hl, hk⟩ := flatFields_ok hB
  unfold Value.okWide at hval
  rw [ht] at hval
  obtain ⟨cs, rfl, hs, _⟩ := hval
  obtain ⟨fuel, hf⟩ := hd
  obtain ⟨xs, n, _, hx, hcl, hxl, hxs⟩ := DataW.trod_struct ht hf
  have hcs : (Value.agg cs).cells.toList = cs.toList := rfl
  rw [hcs] at hcl hxs
  have := fits_from hl hk (by rw [hcl, hC]) hxl hxs fs.size 0 (by omega)
  simp only [List.drop_zero] at this
  simp only [Prod.mk.injEq] at hx
  exact ⟨cs.toList, _, by simp, hx.1, by rw [hx.2, this.2], this.1⟩

theorem mapM_of {α β : Type} {g : α → Option β} : ∀ {l : List α} {xs : List β}, l.length = xs.length → (∀ (i : Nat) (a : α), l[i]? = some a → g a = xs[i]?) → l.mapM g = some xs
  | [], [], _, _ => rfl
  | [], _ :: _, h, _ => by cases h
  | _ :: _, [], h, _ => by cases h
  | a :: l, x :: xs, h, hg => by
    have h0 := hg 0 a rfl
    have hr := mapM_of (l := l) (xs := xs) (by simpa using h) (fun i b hb => by simpa using hg (i + 1) b (by simpa using hb))
    rw [List.mapM_cons, h0, hr]
    rfl

theorem fits_length : ∀ {ks : List Sc} {vs : List Value} {ds : List (DataW H)}, Fits ks vs ds → vs.length = ks.length ∧ ds.length = ks.length
  | [], vs, ds, h => by obtain ⟨rfl, rfl⟩ := h; exact ⟨rfl, rfl⟩
  | .int k :: ks, vs, ds, h => by
    obtain ⟨n, vs', ds', rfl, rfl, _, h⟩ := h
    have := fits_length h
    simp [this.1, this.2]
  | .bool :: ks, vs, ds, h => by
    obtain ⟨n, vs', ds', rfl, rfl, h⟩ := h
    have := fits_length h
    simp [this.1, this.2]

theorem fits_at : ∀ {ks : List Sc} {vs : List Value} {ds : List (DataW H)}, Fits ks vs ds → ∀ (i : Nat) (s : Sc) (t : TypeId), ks[i]? = some s → s.of P t → ∃ v d, vs[i]? = some v ∧ ds[i]? = some d ∧ DataW.trod enc P w base spare held 1 t [v] = some (d, [])
  | [], vs, ds, h, i, s, t, hs, _ => by simp at hs
  | .int k :: ks, vs, ds, h, i, s, t, hs, ht => by
    obtain ⟨n, vs', ds', rfl, rfl, hw, h⟩ := h
    cases i with
    | zero =>
      simp only [List.getElem?_cons_zero, Option.some.injEq] at hs
      subst hs
      have ht : P.underlying t = some (.int k) := ht
      exact ⟨_, _, rfl, rfl, by simp [DataW.trod, ht, hw]⟩
    | succ i => exact fits_at h i s t (by simpa using hs) ht
  | .bool :: ks, vs, ds, h, i, s, t, hs, ht => by
    obtain ⟨n, vs', ds', rfl, rfl, h⟩ := h
    cases i with
    | zero =>
      simp only [List.getElem?_cons_zero, Option.some.injEq] at hs
      subst hs
      have ht : P.underlying t = some .bool := ht
      exact ⟨_, _, rfl, rfl, by simp [DataW.trod, ht]⟩
    | succ i => exact fits_at h i s t (by simpa using hs) ht

theorem shut_flat {t : TypeId} {fs : Array Field} {ks : List Sc} {vs : List Value} {ds : List (DataW H)} (ht : P.underlying t = some (.struct fs)) (hB : flatFields P fs ks = true) (hC : P.cellsOf t = fs.size) (h : Fits ks vs ds) :
    DataW.Trod enc P w base spare held t (.agg vs.toArray) (.agg ds) [] := by
  obtain ⟨hl, hk⟩ := flatFields_ok hB
  obtain ⟨l1, l2⟩ := fits_length h
  refine ⟨2, ?_⟩
  have hcs : (Value.agg vs.toArray).cells.toList = vs := by simp [Value.cells]
  rw [hcs]
  unfold DataW.trod
  rw [ht]
  have hm : (fs.toList.mapM fun f => DataW.trod enc P w base spare held 1 f.type ((vs.drop f.offset).take (P.cellsOf f.type))) = some (ds.map fun d => (d, [])) := by
    refine mapM_of (l := fs.toList) (xs := ds.map fun d => (d, [])) (by simp only [Array.length_toList, List.length_map]; omega) fun i f hf => ?_
    have hf : fs[i]? = some f := by simpa using hf
    have hlt : i < fs.size := (Array.getElem?_eq_some_iff.1 hf).1
    obtain ⟨h1, h2, s, h3, h4⟩ := hk i f hf
    obtain ⟨v, d, g1, g2, g3⟩ := fits_at (enc := enc) (P := P) (w := w) (base := base) (spare := spare) (held := held) h i s f.type h3 h4
    rw [h1, h2, drop_take1 (by omega)]
    rw [List.getElem?_eq_getElem (show i < vs.length by omega)] at g1
    rw [Option.some.inj g1, g3, List.getElem?_map, g2]
    rfl
  simp only [hm, l1, hC, hl, if_true, Option.map_some]
  simp [List.map_map, Function.comp_def, List.flatMap_map]

end

theorem srep_flat {Z : Nat → Zone} {ι : List Nat} {w : World} : ∀ {vs : List Value}, (∀ v ∈ vs, flat v = true ∧ v.oneCell' = true) → srepL Z ι w (vs.map V.sc) vs
  | [], _ => by simp [srepL]
  | v :: vs, h => by
    rw [List.map_cons]
    simp only [srepL]
    exact ⟨v, vs, rfl, (h v (by simp)).2, by simp [srep, (h v (by simp)).1], srep_flat fun u hu => h u (by simp [hu])⟩

theorem srep_agg {Z : Nat → Zone} {ι : List Nat} {w : World} {vs : List Value} (h : ∀ v ∈ vs, flat v = true ∧ v.oneCell' = true) : srep Z ι w (.agg (vs.map V.sc)) (.agg vs.toArray) := by
  simp only [srep]
  exact ⟨vs, rfl, srep_flat h⟩

theorem srep_aggB {Z : Nat → Zone} {ι : List Nat} {w : World} {vs : List Value} (h : (vs.all fun v => flat v && v.oneCell') = true) : srep Z ι w (.agg (vs.map V.sc)) (.agg vs.toArray) :=
  srep_agg fun v hv => by
    have := List.all_eq_true.1 h v hv
    rw [Bool.and_eq_true] at this
    exact this

end Go.Den
