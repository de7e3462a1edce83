import Derived.Test.YtllippimokoioaaDen5
set_option linter.unusedVariables false
namespace Go.Den

section
variable {P : Program} {w : World}

theorem run_app_in (t u ty e e' : TypeId) (i : TypeInfo) (ht : P.underlying t = some (.slice e)) (hu : P.underlying u = some (.slice e')) (hi : P.info? e = some i)
    (g n c m : Nat) (cur : Array Value) (et : TypeId) (hg : w.heap[g]? = some (.cells cur et (0, 0))) (x : Value) (news : List Value) (hlen : (Builtin.lenOf x).run P w = .ok m w)
    (hx : (Builtin.firstCells i.size m x).run P w = .ok news.toArray w) (h1 : ∀ v ∈ news, v.oneCell' = true)
    (hroom : n + m ≤ c) (hfit : n * i.size + news.length ≤ cur.size) :
    (Builtin.append_ #[t, u] ty #[.slice (some ⟨g, 0, none⟩) n c, x]).run P w =
      .ok (.slice (some ⟨g, 0, none⟩) (n + m) c) (w.setRow g (cur.toList.take (n * i.size) ++ news ++ cur.toList.drop (n * i.size + news.length)).toArray) := by
  have hst := run_storeCells_at P g (n * i.size) et news 0 cur w hg (by simpa using hfit) h1
  simp only [Nat.add_zero] at hst
  simp [Builtin.append_, run_underlying ht, run_underlying hu, sizeOf, typeInfo, hi, hlen, hroom, hx, Addr.add_lit, hst]

theorem run_app_none (t u ty e e' : TypeId) (i : TypeInfo) (ht : P.underlying t = some (.slice e)) (hu : P.underlying u = some (.slice e')) (hi : P.info? e = some i)
    (base : Option Addr) (n c : Nat) (x : Value) (hlen : (Builtin.lenOf x).run P w = .ok 0 w)
    (hx : (Builtin.firstCells i.size 0 x).run P w = .ok #[] w) (hc : n ≤ c) :
    (Builtin.append_ #[t, u] ty #[.slice base n c, x]).run P w = .ok (.slice base n c) w := by
  cases base <;> simp [Builtin.append_, run_underlying ht, run_underlying hu, sizeOf, typeInfo, hi, hlen, hc, hx, storeCells]

theorem run_app_grow (t u ty e e' : TypeId) (i : TypeInfo) (z : Value) (ht : P.underlying t = some (.slice e)) (hu : P.underlying u = some (.slice e')) (hi : P.info? e = some i) (hz : i.zero = some z)
    (s x : Value) (base : Option Addr) (n c m : Nat) (olds news : List Value) (hs : s = .slice base n c) (hlen : (Builtin.lenOf x).run P w = .ok m w)
    (hx : (Builtin.firstCells i.size m x).run P w.drew = .ok news.toArray w.drew) (ho : (Builtin.firstCells i.size n s).run P w.drew = .ok olds.toArray w.drew)
    (hg : c < n + m) (h63 : ((n + m : Nat) : Int) ≤ 9223372036854775807) (hfit : Builtin.nextslicecap (n + m) c * i.bytes ≤ 281474976710656) :
    (Builtin.append_ #[t, u] ty #[s, x]).run P w =
      .ok (.slice (some ⟨w.heap.size, 0, none⟩) (n + m) (grownCap w (n + m) c e))
        (w.drew.alloc (.cells (olds.toArray ++ news.toArray ++ Builtin.zeroCells z.cells (grownCap w (n + m) c e - (n + m))) e)) := by
  have hn : ¬ (n + m ≤ c) := by omega
  have h63' : ¬ (9223372036854775807 < ((n : Int) + (m : Int))) := by omega
  have h48' : ¬ (281474976710656 < Builtin.nextslicecap (n + m) c * i.bytes) := by omega
  subst hs
  simp [Builtin.append_, run_underlying ht, run_underlying hu, sizeOf, typeInfo, zeroValue, hi, hz, hlen, hn, h63', h48', Question.forced, hx, ho, newRow, grownCap]
  congr 2
  apply Array.ext'
  simp [List.append_assoc]

end

section
variable {Z : Nat → Zone} {ι : List Nat} {e : Env} {H : Heap} {vals : Nat → Value} {w : World}

theorem firstCells_of {P : Program} {k : Nat} {xs : List V} {o : Bool} {u : Value} {size : Nat} (h : srep Z ι w (.sl o k xs) u) (hk : k = 0 ∨ k = size) (w' : World) (hw : ∀ a, w'.cell? a = w.cell? a) :
    ∃ (news : List Value), (Builtin.lenOf u).run P w = .ok xs.length w ∧ (Builtin.firstCells size xs.length u).run P w' = .ok news.toArray w' ∧ srepE Z ι w size xs news := by
  simp only [srep] at h
  rcases h with ⟨rfl, rfl⟩ | ⟨β, off, c, us, m', rfl, hc, hk0, hz, hm, hl, hE⟩
  · exact ⟨[], by simp [Builtin.lenOf], by simp [Builtin.firstCells], by simp [srepE]⟩
  · rcases hk with rfl | rfl
    · omega
    · have hlen := srepE_length hE
      refine ⟨us, by simp [Builtin.lenOf], ?_, hE⟩
      refine run_firstCells_some (P := P) w' k xs.length _ _ _ us hlen (fun j v hj => ?_)
      rw [hw, show ((⟨β, off, none⟩ : Addr).add j) = ⟨β, off + j, none⟩ by unfold Addr.add; split <;> simp_all]
      exact hl j v hj

theorem fresh_ext {T : Nat → Prop} {lim : Nat} (hf : ∀ β, w.heap.size ≤ β → Z β = .free) (o : Obj) (z : Zone) : Ext T lim Z ι w (zset Z w.heap.size z) ι (w.drew.alloc o) := by
  have h := ext_alloc (w := w.drew) (ι := ι) hf T lim o z []
  simp only [List.append_nil] at h
  exact { size := h.size, os := h.os, out := h.out, tape := h.tape, heap := h.heap, zone := h.zone, log := h.log, idx := h.idx }

theorem srepE_any {k : Nat} : ∀ {xs : List V} {us : List Value}, srepE Z ι w k xs us → xs.length * k = us.length := fun h => (srepE_length h).symm

theorem srepE_dem {k : Nat} : ∀ {xs : List V} {us : List Value}, srepE Z ι w k xs us → srepE Z ι w k (xs.map V.dem) us
  | [], us, h => by simpa using h
  | c :: cs, us, h => by
    simp only [srepE, List.map_cons] at h ⊢
    obtain ⟨u, us', h0, h1, h2, h3, h4⟩ := h
    exact ⟨u, us', h0, h1, h2, srep_dem h3, srepE_dem h4⟩

/-- What a slot holds is appended to. -/
theorem Good.append {P : Program} (G : Good Z ι e H vals w) {S : Nat → Prop} {k k' : Nat} {xs ys : List V} {o : Bool} {s x : Value} (lim : Nat)
    (hs : srep Z ι w (.sl true k xs) s) (how : own1 Z w (.sl true k xs) s) (htk : ∀ β, tok1 (.sl true k xs) s = some β → ∃ t j, S t ∧ tokV (e t) (vals t) j = some β)
    (hx : srep Z ι w (.sl o k' ys) x) (t u ty el el' : TypeId) (i : TypeInfo) (z : Value) (ht : P.underlying t = some (.slice el)) (hu : P.underlying u = some (.slice el')) (hi : P.info? el = some i) (hz : i.zero = some z)
    (hzs : z.cells.size = i.size) (hp : 0 < i.size) (hb : 0 < i.bytes) (hk : k = 0 ∨ k = i.size) (hk' : k' = 0 ∨ k' = i.size) (hbound : (xs.length + ys.length) * i.bytes ≤ 140737488355328) :
    ∃ v w', (Builtin.append_ #[t, u] ty #[s, x]).run P w = .ok v w' ∧ Post (TT e vals H ι w S) lim Z ι w (.sl true i.size (xs ++ ys.map V.dem)) H v w' := by
  have hlen : xs.length + ys.length ≤ 140737488355328 := Nat.le_trans (Nat.le_mul_of_pos_right _ hb) hbound
  obtain ⟨news, hx1, hx2, hx3⟩ := firstCells_of (P := P) hx hk' w (fun _ => rfl)
  have hnl := srepE_length hx3
  obtain ⟨news', _, hx2', hx3'⟩ := firstCells_of (P := P) hx hk' w.drew (fun _ => rfl)
  have hsame : news'.toArray = news.toArray := by
    have h1 := hx2
    simp only [srep] at hx
    rcases hx with ⟨rfl, rfl⟩ | ⟨β, off, c, us, m', rfl, hc, hk0, hz', hm, hl, hE⟩
    · simp [Builtin.firstCells] at h1 hx2'
      rw [h1, hx2']
    · rcases hk' with rfl | rfl
      · omega
      · have hf : ∀ w'' : World, (∀ a, w''.cell? a = w.cell? a) → (Builtin.firstCells i.size ys.length (.slice (some ⟨β, off, none⟩) ys.length c)).run P w'' = .ok us.toArray w'' := fun w'' hw => by
          refine run_firstCells_some (P := P) w'' i.size ys.length _ _ _ us (srepE_length hE) (fun j v hj => ?_)
          rw [hw, show ((⟨β, off, none⟩ : Addr).add j) = ⟨β, off + j, none⟩ by unfold Addr.add; split <;> simp_all]
          exact hl j v hj
        rw [hf w (fun _ => rfl)] at h1
        rw [hf w.drew (fun _ => rfl)] at hx2'
        simp at h1 hx2'
        rw [← h1, ← hx2']
  rw [hsame] at hx2'
  -- a new row
  have grow : ∀ (base : Option Addr) (c : Nat) (olds : List Value), s = .slice base xs.length c → c < xs.length + ys.length → (Builtin.firstCells i.size xs.length s).run P w.drew = .ok olds.toArray w.drew → srepE Z ι w i.size xs olds →
      ∃ v w', (Builtin.append_ #[t, u] ty #[s, x]).run P w = .ok v w' ∧ Post (TT e vals H ι w S) lim Z ι w (.sl true i.size (xs ++ ys.map V.dem)) H v w' := by
    intro base c olds hse hc hol hE
    have hr := run_app_grow (P := P) (w := w) t u ty el el' i z ht hu hi hz s x base xs.length c ys.length olds news hse hx1 hx2' hol hc (by omega) (growslice_fits hc hbound)
    refine ⟨_, _, hr, ?_⟩
    generalize hcap : grownCap w (xs.length + ys.length) c el = cap
    have hge : xs.length + ys.length ≤ cap := by rw [← hcap]; exact grownCap_ge _ _ _ _
    have hcm : cap ≤ maxLen := by rw [← hcap]; exact grownCap_le_maxLen _ _ _ _ (by unfold maxLen; omega)
    generalize hO : Obj.cells (olds.toArray ++ news.toArray ++ Builtin.zeroCells z.cells (cap - (xs.length + ys.length))) el = O
    have hnew : (w.drew.alloc O).heap[w.heap.size]? = some O := heap_alloc_new w.drew O
    have hol' := srepE_length hE
    have hsize : (olds.toArray ++ news.toArray ++ Builtin.zeroCells z.cells (cap - (xs.length + ys.length))).size = cap * i.size := by
      simp only [Array.size_append, List.size_toArray, size_zeroCells, hzs, hol', hnl, ← Nat.add_mul]
      congr 1
      omega
    have X : Ext (TT e vals H ι w S) lim Z ι w (zset Z w.heap.size (.log ((xs.length + ys.length) * i.size))) ι (w.drew.alloc O) := fresh_ext G.fresh O _
    have X0 : Ext (fun _ => False) H.length Z ι w (zset Z w.heap.size (.log ((xs.length + ys.length) * i.size))) ι (w.drew.alloc O) := fresh_ext G.fresh O _
    have K := X.keeps ι.length
    have hEE : srepE (zset Z w.heap.size (.log ((xs.length + ys.length) * i.size))) ι (w.drew.alloc O) i.size (xs ++ ys.map V.dem) (olds ++ news) := by
      have := srepE_append hE (srepE_dem hx3)
      exact srepE_keeps K _ _ _ (srepE_closed _ _ _ this) this
    have hrep : srep (zset Z w.heap.size (.log ((xs.length + ys.length) * i.size))) ι (w.drew.alloc O) (.sl true i.size (xs ++ ys.map V.dem)) (.slice (some ⟨w.heap.size, 0, none⟩) (xs.length + ys.length) cap) := by
      simp only [srep]
      refine .inr ⟨w.heap.size, 0, cap, olds ++ news, (xs.length + ys.length) * i.size, by simp, by simpa using hge, hp, by simp [zset], by simp [hol', hnl, Nat.add_mul], fun j y hj => ?_, hEE⟩
      rw [Nat.zero_add, cell_row (by rw [hnew, ← hO])]
      rw [Array.getElem?_append_left, List.append_toArray, List.getElem?_toArray]
      · exact hj
      · have := (List.getElem?_eq_some_iff.1 hj).1
        simpa using this
    have htokn : ∀ i' j γ, tokH H ι (w.drew.alloc O) i' j = some γ → tokH H ι w i' j = some γ := by
      intro i' j γ h
      obtain ⟨cs, δ, a, b, h1, h2, h3, h4, h5⟩ := tokH_lt h
      obtain ⟨β', us', ty', g1, g2, g3, _⟩ := G.blk i' cs h1
      obtain rfl : δ = β' := by simpa [h2] using g1
      have hcc : (w.drew.alloc O).cell? ⟨δ, j, none⟩ = w.cell? ⟨δ, j, none⟩ := World.cell?_alloc_lt w.drew O ⟨δ, j, none⟩ (G.box_lt g2)
      rw [hcc] at h4
      simp only [tokH, h1, h2, Option.bind_some, h3, h4, h5]
    have key : ∀ (l : Loc) γ, tok (one (.sl true i.size (xs ++ ys.map V.dem))) (fun _ => .slice (some ⟨w.heap.size, 0, none⟩) (xs.length + ys.length) cap) H ι (w.drew.alloc O) l = some γ →
        (l = .inl (0, 0) ∧ γ = w.heap.size) ∨ ∃ p, l = .inr p ∧ tokH H ι w p.1 p.2 = some γ := by
      intro l γ hl
      cases l with
      | inl p =>
        obtain ⟨t', j⟩ := p
        by_cases ht' : t' = 0
        · subst ht'
          simp only [tok, one, if_true] at hl
          unfold tokV at hl
          cases j with
          | zero => simp [V.parts, V.cells, vparts, Value.cells, tok1] at hl; exact .inl ⟨rfl, hl.2.symm⟩
          | succ j => simp [V.parts, V.cells] at hl
        · simp [tok, one, ht', tokV_any] at hl
      | inr p => exact .inr ⟨p, rfl, htokn _ _ _ hl⟩
    refine ⟨_, ι, ⟨fun t' => ?_, G.len, fun i' cs h => ?_, fun t' => ?_, ?_, fun γ h => ?_⟩, X, ?_⟩
    · by_cases ht' : t' = 0
      · subst ht'; simpa [one] using hrep
      · simp [one, ht', srep]
    · obtain ⟨β, us, ty', a1, a2, a3, a4, a5, _⟩ := G.blk_ext X0 (fun _ h => h.elim) (fun _ _ _ h => h.elim) i' cs h (List.getElem?_eq_some_iff.1 h).1
      exact ⟨β, us, ty', a1, a2, a3, a4, a5⟩
    · by_cases ht' : t' = 0
      · subst ht'
        simp only [one, if_true]
        intro j a b ha hb' γ hγ
        cases j with
        | zero =>
          simp [V.parts, V.cells, vparts, Value.cells] at ha hb'
          subst ha hb'
          simp [tok1] at hγ
          obtain ⟨_, rfl⟩ := hγ
          exact ⟨i.size, _, cap, _, el, rfl, by simp, by simp [zset], by rw [hnew, ← hO], hsize, hcm⟩
        | succ j => simp [V.parts, V.cells] at ha
      · simp only [one, ht', if_false]; exact Cold.own (fun j => tokV_any _ _)
    · intro l l' γ hl hl'
      rcases key l γ hl with ⟨rfl, rfl⟩ | ⟨p, rfl, h⟩ <;> rcases key l' _ hl' with ⟨rfl, h'⟩ | ⟨p', rfl, h'⟩
      · rfl
      · have := (G.tok_ok (l := .inr p') h').1; omega
      · have := (G.tok_ok (l := .inr p) h).1; omega
      · exact G.uniq (.inr p) (.inr p') γ h h'
    · exact fresh_alloc (w := w.drew) G.fresh O _ γ h
    · intro l γ hl
      rcases key l γ hl with ⟨rfl, rfl⟩ | ⟨p, rfl, h⟩
      · exact .inr (Nat.le_refl _)
      · exact .inl (.inr ⟨_, _, h⟩)
  have hs0 := hs
  simp only [srep] at hs0
  by_cases hys : ys = []
  · -- nothing is appended
    subst hys
    have hn0 : news = [] := List.eq_nil_of_length_eq_zero (by simpa using hnl)
    subst hn0
    rcases hs0 with ⟨rfl, rfl⟩ | ⟨β, off, c, us, m', rfl, hc, hk0, hzz, hm, hl, hE⟩
    · refine ⟨_, _, run_app_none (P := P) t u ty el el' i ht hu hi none 0 0 x hx1 hx2 (Nat.le_refl _), G.cold S (by simp [srep]) (fun j => ?_) lim⟩
      unfold tokV
      cases j <;> simp [V.parts, V.cells, vparts, Value.cells, tok1]
    · have hk2 : k = i.size := hk.resolve_left (by omega)
      subst hk2
      refine ⟨_, _, run_app_none (P := P) t u ty el el' i ht hu hi _ _ _ x hx1 hx2 hc, ?_⟩
      simp only [List.map_nil, List.append_nil]
      have hpart : ∀ j γ, tokV (.sl true i.size xs) (.slice (some ⟨β, off, none⟩) xs.length c) j = some γ → j = 0 ∧ tok1 (.sl true i.size xs) (.slice (some ⟨β, off, none⟩) xs.length c) = some γ := by
        intro j γ h
        cases j with
        | zero => exact ⟨rfl, by simpa [tokV, V.parts, V.cells, vparts, Value.cells] using h⟩
        | succ j => simp [tokV, V.parts, V.cells] at h
      refine G.still hs (fun j a b ha hb' => ?_) (fun j γ h => htk γ (hpart j γ h).2) (fun j j' γ h h' => by rw [(hpart j γ h).1, (hpart j' γ h').1]) lim
      cases j with
      | zero =>
        simp [V.parts, V.cells, vparts, Value.cells] at ha hb'
        subst ha hb'
        exact how
      | succ j => simp [V.parts, V.cells] at ha
  · have hypos : 0 < ys.length := List.length_pos_iff.2 hys
    rcases hs0 with ⟨rfl, rfl⟩ | ⟨β, off, c, us, m', rfl, hc, hk0, hzz, hm, hl, hE⟩
    · exact grow none 0 [] rfl (by simpa using hypos) (by simp [Builtin.firstCells]) (by simp [srepE])
    · have hk2 : k = i.size := hk.resolve_left (by omega)
      subst hk2
      by_cases hroom : xs.length + ys.length ≤ c
      · -- in place
        have hne : xs.length ≠ c := by omega
        obtain ⟨k2, xs2, c2, cur, ety, e1, e2, hzl, hh, hcs, hcm⟩ := how β (by simp [tok1, hne])
        cases e1
        cases e2
        have hfit : xs.length * i.size + news.length ≤ cur.size := by rw [hnl, hcs, ← Nat.add_mul]; exact Nat.mul_le_mul_right _ hroom
        have hr := run_app_in (P := P) (w := w) t u ty el el' i ht hu hi β xs.length c ys.length cur ety hh x news hx1 hx2 (srepE_one hx3) hroom hfit
        refine ⟨_, _, hr, ?_⟩
        have hrow : (w.setRow β (cur.toList.take (xs.length * i.size) ++ news ++ cur.toList.drop (xs.length * i.size + news.length)).toArray).heap[β]? = some (.cells (cur.toList.take (xs.length * i.size) ++ news ++ cur.toList.drop (xs.length * i.size + news.length)).toArray ety (0, 0)) := setRow_heap w β cur _ ety _ hh
        have hoth : ∀ γ, γ ≠ β → (w.setRow β (cur.toList.take (xs.length * i.size) ++ news ++ cur.toList.drop (xs.length * i.size + news.length)).toArray).heap[γ]? = w.heap[γ]? := fun γ h => setRow_other w β γ _ h
        generalize hw' : w.setRow β (cur.toList.take (xs.length * i.size) ++ news ++ cur.toList.drop (xs.length * i.size + news.length)).toArray = w' at *
        have hsz : w'.heap.size = w.heap.size := by rw [← hw']; simp
        obtain ⟨ts, js, hS, htS⟩ := htk β (by simp [tok1, hne])
        have hβlt : β < w.heap.size := (Array.getElem?_eq_some_iff.1 hh).1
        have hcell : ∀ γ o', γ ≠ β → w'.cell? ⟨γ, o', none⟩ = w.cell? ⟨γ, o', none⟩ := fun γ o' h => World.cell?_of_block (a := ⟨γ, o', none⟩) (hoth γ h)
        have hfit' : xs.length * i.size + news.length ≤ cur.toList.length := by simpa using hfit
        have hbefore : ∀ o', o' < xs.length * i.size → w'.cell? ⟨β, o', none⟩ = w.cell? ⟨β, o', none⟩ := fun o' ho' => by
          rw [cell_row hrow, cell_row hh, List.getElem?_toArray, over_at hfit', if_neg (by omega)]
          simp
        let T : Nat → Prop := TT e vals H ι w S
        have hTβ : T β := .inl ⟨ts, js, hS, htS⟩
        have mkX : ∀ (T' : Nat → Prop) (lim' : Nat), T' β → Ext T' lim' Z ι w (zset Z β (.log ((xs.length + ys.length) * i.size))) ι w' := fun T' lim' hT' => {
          size := by omega
          os := by rw [← hw']; rfl
          out := by rw [← hw']; rfl
          tape := by rw [← hw']; rfl
          heap := fun γ _ hn _ => hoth γ (fun h => hn (by rw [h]; exact hT'))
          zone := fun γ _ hn => by simp only [zset]; rw [if_neg (fun (h : γ = β) => hn (by rw [h]; exact hT'))]
          log := fun γ m hm' => by
            by_cases hγ : γ = β
            · subst hγ
              rw [hzl] at hm'
              cases hm'
              exact ⟨(xs.length + ys.length) * i.size, Nat.mul_le_mul_right _ (by omega), by simp [zset], hbefore⟩
            · exact ⟨m, Nat.le_refl _, by simp only [zset]; rw [if_neg hγ]; exact hm', fun o' _ => hcell γ o' hγ⟩
          idx := fun _ _ h => h }
        have X := mkX T lim hTβ
        have X0 := mkX (fun γ => γ = β) H.length rfl
        have K := X.keeps ι.length
        have hEE : srepE (zset Z β (.log ((xs.length + ys.length) * i.size))) ι w' i.size (xs ++ ys.map V.dem) (us ++ news) := by
          have := srepE_append hE (srepE_dem hx3)
          exact srepE_keeps K _ _ _ (srepE_closed _ _ _ this) this
        have hul := srepE_length hE
        have hrep : srep (zset Z β (.log ((xs.length + ys.length) * i.size))) ι w' (.sl true i.size (xs ++ ys.map V.dem)) (.slice (some ⟨β, 0, none⟩) (xs.length + ys.length) c) := by
          simp only [srep]
          refine .inr ⟨β, 0, c, us ++ news, (xs.length + ys.length) * i.size, by simp, by simpa using hroom, hp, by simp [zset], by simp [hul, hnl, Nat.add_mul], fun j y hj => ?_, hEE⟩
          rw [Nat.zero_add, cell_row hrow, List.getElem?_toArray, over_at hfit']
          rw [List.getElem?_append, hul] at hj
          split at hj
          · rename_i hlt
            rw [if_neg (by omega)]
            have := hl j y hj
            rw [Nat.zero_add, cell_row hh] at this
            simpa using this
          · rename_i hge
            have := (List.getElem?_eq_some_iff.1 hj).1
            rw [if_pos (by omega)]
            exact hj
        have hnoβ : ∀ i' j, tokH H ι w i' j ≠ some β := fun i' j h => by cases G.uniq (.inl (ts, js)) (.inr (i', j)) β htS h
        have htokn : ∀ i' j γ, tokH H ι w' i' j = some γ → tokH H ι w i' j = some γ := by
          intro i' j γ h
          obtain ⟨cs, δ, a, b, h1, h2, h3, h4, h5⟩ := tokH_lt h
          obtain ⟨β', us', ty', g1, g2, g3, _⟩ := G.blk i' cs h1
          obtain rfl : δ = β' := by simpa [h2] using g1
          have hδ : δ ≠ β := fun h => by rw [h, hzl] at g2; cases g2
          rw [hcell δ j hδ] at h4
          simp only [tokH, h1, h2, Option.bind_some, h3, h4, h5]
        have key : ∀ (l : Loc) γ, tok (one (.sl true i.size (xs ++ ys.map V.dem))) (fun _ => .slice (some ⟨β, 0, none⟩) (xs.length + ys.length) c) H ι w' l = some γ →
            (l = .inl (0, 0) ∧ γ = β) ∨ ∃ p, l = .inr p ∧ tokH H ι w p.1 p.2 = some γ := by
          intro l γ hl
          cases l with
          | inl p =>
            obtain ⟨t', j⟩ := p
            by_cases ht' : t' = 0
            · subst ht'
              simp only [tok, one, if_true] at hl
              unfold tokV at hl
              cases j with
              | zero => simp [V.parts, V.cells, vparts, Value.cells, tok1] at hl; exact .inl ⟨rfl, hl.2.symm⟩
              | succ j => simp [V.parts, V.cells] at hl
            · simp [tok, one, ht', tokV_any] at hl
          | inr p => exact .inr ⟨p, rfl, htokn _ _ _ hl⟩
        refine ⟨_, ι, ⟨fun t' => ?_, G.len, fun i' cs h => ?_, fun t' => ?_, ?_, fun γ h => ?_⟩, X, ?_⟩
        · by_cases ht' : t' = 0
          · subst ht'; simpa [one] using hrep
          · simp [one, ht', srep]
        · obtain ⟨β', us', ty', a1, a2, a3, a4, a5, _⟩ := G.blk_ext X0 (fun γ h => ⟨xs.length * i.size, by rw [h]; exact hzl⟩) (fun _ i2 j2 h => by rw [h]; exact hnoβ i2 j2) i' cs h (List.getElem?_eq_some_iff.1 h).1
          exact ⟨β', us', ty', a1, a2, a3, a4, a5⟩
        · by_cases ht' : t' = 0
          · subst ht'
            simp only [one, if_true]
            intro j a b ha hb' γ hγ
            cases j with
            | zero =>
              simp [V.parts, V.cells, vparts, Value.cells] at ha hb'
              subst ha hb'
              simp [tok1] at hγ
              obtain ⟨_, rfl⟩ := hγ
              refine ⟨i.size, _, c, _, ety, rfl, by simp, by simp [zset], hrow, ?_, hcm⟩
              simp
              omega
            | succ j => simp [V.parts, V.cells] at ha
          · simp only [one, ht', if_false]; exact Cold.own (fun j => tokV_any _ _)
        · intro l l' γ hl hl'
          rcases key l γ hl with ⟨rfl, rfl⟩ | ⟨p, rfl, h⟩ <;> rcases key l' _ hl' with ⟨rfl, h'⟩ | ⟨p', rfl, h'⟩
          · rfl
          · exact absurd h' (hnoβ _ _)
          · subst h'; exact absurd h (hnoβ _ _)
          · exact G.uniq (.inr p) (.inr p') γ h h'
        · simp only [zset]
          rw [if_neg (by omega)]
          exact G.fresh γ (by omega)
        · intro l γ hl
          left
          rcases key l γ hl with ⟨rfl, rfl⟩ | ⟨p, rfl, h⟩
          · exact hTβ
          · exact .inr ⟨_, _, h⟩
      · have hol : (Builtin.firstCells i.size xs.length (.slice (some ⟨β, off, none⟩) xs.length c)).run P w.drew = .ok us.toArray w.drew := by
          refine run_firstCells_some (P := P) w.drew i.size xs.length _ _ _ us (srepE_length hE) (fun j v hj => ?_)
          rw [show ((⟨β, off, none⟩ : Addr).add j) = ⟨β, off + j, none⟩ by unfold Addr.add; split <;> simp_all]
          exact hl j v hj
        exact grow _ c us rfl (by omega) hol hE

end
end Go.Den
