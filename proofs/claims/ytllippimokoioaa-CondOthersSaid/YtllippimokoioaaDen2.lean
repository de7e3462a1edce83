import Derived.Test.YtllippimokoioaaDen1
set_option linter.unusedVariables false
namespace Go.Den

/-- What a block of the memory is for: nothing that is known; cells of which the first n are never changed; one of the list of blocks. -/
inductive Zone where
  | free
  | log (n : Nat)
  | box (i : Nat)

/-- values of one cell that lead nowhere -/
def flat : Value → Bool
  | .bool _ | .int _ _ | .string _ | .pointer none | .map none | .nilFunc | .nilIface => true
  | _ => false

theorem flat_one {v : Value} (h : flat v = true) : v.oneCell' = true := by cases v <;> simp_all [flat, Value.oneCell']

/-- cells that lie one behind another -/
def lies (w : World) (β o : Nat) (us : List Value) : Prop := ∀ j x, us[j]? = some x → w.cell? ⟨β, o + j, none⟩ = some x

mutual
/-- a value of the machine's is what is said of it, in a world -/
def srep (Z : Nat → Zone) (ι : List Nat) (w : World) : V → Value → Prop
  | .any, _ => True
  | .sc v, u => u = v ∧ flat v = true
  | .sl _ k xs, u => (u = .slice none 0 0 ∧ xs = []) ∨
      ∃ β o c us m, u = .slice (some ⟨β, o, none⟩) xs.length c ∧ xs.length ≤ c ∧ 0 < k ∧ Z β = .log m ∧ o + us.length ≤ m ∧ lies w β o us ∧ srepE Z ι w k xs us
  | .agg cs, u => ∃ us : List Value, u = .agg us.toArray ∧ srepL Z ι w cs us
  | .tup vs, u => ∃ us : List Value, u = .tuple us.toArray ∧ srepT Z ι w vs us
  | .ptr id off, u => ∃ β, ι[id]? = some β ∧ u = .pointer (some ⟨β, off, none⟩)
  | .elp cs, u => ∃ β o us m, u = .pointer (some ⟨β, o, none⟩) ∧ Z β = .log m ∧ o + us.length ≤ m ∧ lies w β o us ∧ srepL Z ι w cs us
  | .hs id off n k, u => ∃ β c, ι[id]? = some β ∧ u = .slice (some ⟨β, off, none⟩) n c ∧ n ≤ c
  | .fn f a b, u => ∃ us ws : List Value, u = .func f us.toArray ws.toArray ∧ srepT Z ι w a us ∧ srepT Z ι w b ws
  | .ifc t v, u => ∃ x, u = .iface t x ∧ srep Z ι w v x
/-- cells -/
def srepL (Z : Nat → Zone) (ι : List Nat) (w : World) : List V → List Value → Prop
  | [], us => us = []
  | v :: vs, us => ∃ u us', us = u :: us' ∧ u.oneCell' = true ∧ srep Z ι w v u ∧ srepL Z ι w vs us'
/-- values -/
def srepT (Z : Nat → Zone) (ι : List Nat) (w : World) : List V → List Value → Prop
  | [], us => us = []
  | v :: vs, us => ∃ u us', us = u :: us' ∧ srep Z ι w v u ∧ srepT Z ι w vs us'
/-- elements of k cells -/
def srepE (Z : Nat → Zone) (ι : List Nat) (w : World) (k : Nat) : List V → List Value → Prop
  | [], us => us = []
  | v :: vs, us => ∃ u us', us = u.cells.toList ++ us' ∧ u.cells.size = k ∧ (∀ x ∈ u.cells.toList, x.oneCell' = true) ∧ srep Z ι w v u ∧ srepE Z ι w k vs us'
end

section
variable {Z : Nat → Zone} {ι : List Nat} {w : World}

theorem srepL_length : ∀ {cs : List V} {us : List Value}, srepL Z ι w cs us → us.length = cs.length
  | [], us, h => by simp only [srepL] at h; simp [h]
  | c :: cs, us, h => by
    simp only [srepL] at h
    obtain ⟨u, us', rfl, _, _, h⟩ := h
    simp [srepL_length h]

theorem srepT_length : ∀ {cs : List V} {us : List Value}, srepT Z ι w cs us → us.length = cs.length
  | [], us, h => by simp only [srepT] at h; simp [h]
  | c :: cs, us, h => by
    simp only [srepT] at h
    obtain ⟨u, us', rfl, _, h⟩ := h
    simp [srepT_length h]

theorem srepE_length {k : Nat} : ∀ {xs : List V} {us : List Value}, srepE Z ι w k xs us → us.length = xs.length * k
  | [], us, h => by simp only [srepE] at h; simp [h]
  | x :: xs, us, h => by
    simp only [srepE] at h
    obtain ⟨u, us', rfl, hk, _, _, h⟩ := h
    simp [srepE_length h, hk, Nat.add_mul, Nat.add_comm]

theorem srepL_one : ∀ {cs : List V} {us : List Value}, srepL Z ι w cs us → ∀ x ∈ us, x.oneCell' = true
  | [], us, h => by simp only [srepL] at h; simp [h]
  | c :: cs, us, h => by
    simp only [srepL] at h
    obtain ⟨u, us', rfl, h1, _, h⟩ := h
    intro x hx
    rcases List.mem_cons.1 hx with rfl | hx
    · exact h1
    · exact srepL_one h x hx

theorem srepE_one {k : Nat} : ∀ {xs : List V} {us : List Value}, srepE Z ι w k xs us → ∀ x ∈ us, x.oneCell' = true
  | [], us, h => by simp only [srepE] at h; simp [h]
  | c :: cs, us, h => by
    simp only [srepE] at h
    obtain ⟨u, us', rfl, _, h1, _, h⟩ := h
    intro x hx
    rcases List.mem_append.1 hx with hx | hx
    · exact h1 x hx
    · exact srepE_one h x hx

theorem srepL_append : ∀ {as bs : List V} {us vs : List Value}, srepL Z ι w as us → srepL Z ι w bs vs → srepL Z ι w (as ++ bs) (us ++ vs)
  | [], _, us, _, h, h' => by simp only [srepL] at h; subst h; simpa using h'
  | a :: as, _, us, _, h, h' => by
    simp only [srepL] at h
    obtain ⟨u, us', rfl, h1, h2, h3⟩ := h
    simp only [List.cons_append, srepL]
    exact ⟨u, _, rfl, h1, h2, srepL_append h3 h'⟩

theorem srepE_append {k : Nat} : ∀ {as bs : List V} {us vs : List Value}, srepE Z ι w k as us → srepE Z ι w k bs vs → srepE Z ι w k (as ++ bs) (us ++ vs)
  | [], _, us, _, h, h' => by simp only [srepE] at h; subst h; simpa using h'
  | a :: as, _, us, _, h, h' => by
    simp only [srepE] at h
    obtain ⟨u, us', rfl, h0, h1, h2, h3⟩ := h
    simp only [List.cons_append, srepE, List.append_assoc]
    exact ⟨u, _, rfl, h0, h1, h2, srepE_append h3 h'⟩

theorem srepL_take (n : Nat) : ∀ {cs : List V} {us : List Value}, srepL Z ι w cs us → srepL Z ι w (cs.take n) (us.take n) := by
  induction n with
  | zero => intro cs us _; simp [srepL]
  | succ n ih =>
    intro cs us h
    cases cs with
    | nil => simp only [srepL] at h; subst h; simp [srepL]
    | cons c cs =>
      simp only [srepL] at h
      obtain ⟨u, us', rfl, h1, h2, h3⟩ := h
      simp only [List.take_succ_cons, srepL]
      exact ⟨u, _, rfl, h1, h2, ih h3⟩

theorem srepL_drop (n : Nat) : ∀ {cs : List V} {us : List Value}, srepL Z ι w cs us → srepL Z ι w (cs.drop n) (us.drop n) := by
  induction n with
  | zero => intro cs us h; simpa using h
  | succ n ih =>
    intro cs us h
    cases cs with
    | nil => simp only [srepL] at h; subst h; simp [srepL]
    | cons c cs =>
      simp only [srepL] at h
      obtain ⟨u, us', rfl, h1, h2, h3⟩ := h
      simpa using ih h3

theorem srepE_take {k : Nat} (n : Nat) : ∀ {xs : List V} {us : List Value}, srepE Z ι w k xs us → srepE Z ι w k (xs.take n) (us.take (n * k)) := by
  induction n with
  | zero => intro cs us _; simp [srepE]
  | succ n ih =>
    intro cs us h
    cases cs with
    | nil => simp only [srepE] at h; subst h; simp [srepE]
    | cons c cs =>
      simp only [srepE] at h
      obtain ⟨u, us', rfl, h0, h1, h2, h3⟩ := h
      simp only [List.take_succ_cons, srepE]
      refine ⟨u, us'.take (n * k), ?_, h0, h1, h2, ih h3⟩
      have hl : u.cells.toList.length = k := by simpa using h0
      rw [List.take_append, hl, List.take_of_length_le (by rw [hl, Nat.add_mul]; omega)]
      congr 2
      rw [Nat.add_mul]; omega

theorem srepE_drop {k : Nat} (n : Nat) : ∀ {xs : List V} {us : List Value}, srepE Z ι w k xs us → srepE Z ι w k (xs.drop n) (us.drop (n * k)) := by
  induction n with
  | zero => intro cs us h; simpa using h
  | succ n ih =>
    intro cs us h
    cases cs with
    | nil => simp only [srepE] at h; subst h; simp [srepE]
    | cons c cs =>
      simp only [srepE] at h
      obtain ⟨u, us', rfl, h0, h1, h2, h3⟩ := h
      have hl : u.cells.toList.length = k := by simpa using h0
      have : (n + 1) * k = u.cells.toList.length + n * k := by rw [hl, Nat.add_mul]; omega
      rw [this, List.drop_append, Nat.add_sub_cancel_left, List.drop_of_length_le (Nat.le_add_right _ _)]
      simpa using ih h3

theorem srepE_get {k : Nat} : ∀ {xs : List V} {us : List Value} {j : Nat} {v : V}, srepE Z ι w k xs us → xs[j]? = some v →
    ∃ u, u.cells.toList = (us.drop (j * k)).take k ∧ u.cells.size = k ∧ (∀ x ∈ u.cells.toList, x.oneCell' = true) ∧ srep Z ι w v u := by
  intro xs us j v h hv
  have h' := srepE_drop j h
  rw [List.drop_eq_getElem?_toList_append, hv] at h'
  simp only [Option.toList_some, List.cons_append, List.nil_append, srepE] at h'
  obtain ⟨u, us', he, h0, h1, h2, h3⟩ := h'
  refine ⟨u, ?_, h0, h1, h2⟩
  have hl : u.cells.toList.length = k := by simpa using h0
  rw [he, ← hl, List.take_left]

theorem srepL_get : ∀ {cs : List V} {us : List Value} {j : Nat} {v : V}, srepL Z ι w cs us → cs[j]? = some v →
    ∃ u, us[j]? = some u ∧ u.oneCell' = true ∧ srep Z ι w v u := by
  intro cs us j v h hv
  have h' := srepL_drop j h
  rw [List.drop_eq_getElem?_toList_append, hv] at h'
  simp only [Option.toList_some, List.cons_append, List.nil_append, srepL] at h'
  obtain ⟨u, us', he, h1, h2, h3⟩ := h'
  refine ⟨u, ?_, h1, h2⟩
  have := congrArg (fun l => l[0]?) he
  simpa using this

theorem srepT_get : ∀ {cs : List V} {us : List Value} {j : Nat} {v : V}, srepT Z ι w cs us → cs[j]? = some v → ∃ u, us[j]? = some u ∧ srep Z ι w v u
  | [], us, j, v, h, hv => by simp at hv
  | c :: cs, us, j, v, h, hv => by
    simp only [srepT] at h
    obtain ⟨u, us', rfl, h2, h3⟩ := h
    cases j with
    | zero => simp at hv; subst hv; exact ⟨u, by simp, h2⟩
    | succ j => simp at hv; simpa using srepT_get h3 hv

/-- what is said of a value does not hang on whether it may be appended to -/
theorem srep_dem1 {v : V} {u : Value} (h : srep Z ι w v u) : srep Z ι w v.dem1 u := by
  cases v <;> exact h

theorem srepL_dem1 : ∀ {cs : List V} {us : List Value}, srepL Z ι w cs us → srepL Z ι w (cs.map V.dem1) us
  | [], us, h => by simpa using h
  | c :: cs, us, h => by
    simp only [srepL, List.map_cons] at h ⊢
    obtain ⟨u, us', rfl, h1, h2, h3⟩ := h
    exact ⟨u, us', rfl, h1, srep_dem1 h2, srepL_dem1 h3⟩

theorem srepT_dem1 : ∀ {cs : List V} {us : List Value}, srepT Z ι w cs us → srepT Z ι w (cs.map V.dem1) us
  | [], us, h => by simpa using h
  | c :: cs, us, h => by
    simp only [srepT, List.map_cons] at h ⊢
    obtain ⟨u, us', rfl, h2, h3⟩ := h
    exact ⟨u, us', rfl, srep_dem1 h2, srepT_dem1 h3⟩

theorem srep_dem2 {v : V} {u : Value} (h : srep Z ι w v u) : srep Z ι w v.dem2 u := by
  cases v <;> try exact srep_dem1 h
  simp only [V.dem2, srep] at h ⊢
  obtain ⟨us, rfl, h⟩ := h
  exact ⟨us, rfl, srepL_dem1 h⟩

theorem srepT_dem2 : ∀ {cs : List V} {us : List Value}, srepT Z ι w cs us → srepT Z ι w (cs.map V.dem2) us
  | [], us, h => by simpa using h
  | c :: cs, us, h => by
    simp only [srepT, List.map_cons] at h ⊢
    obtain ⟨u, us', rfl, h2, h3⟩ := h
    exact ⟨u, us', rfl, srep_dem2 h2, srepT_dem2 h3⟩

theorem srep_dem {v : V} {u : Value} (h : srep Z ι w v u) : srep Z ι w v.dem u := by
  cases v <;> try exact srep_dem2 h
  simp only [V.dem, srep] at h ⊢
  obtain ⟨us, rfl, h⟩ := h
  exact ⟨us, rfl, srepT_dem2 h⟩

/-- a value's cells -/
theorem srep_cells {v : V} {u : Value} (h : srep Z ι w v u) (hn : v ≠ .any) (ht : ∀ vs, v ≠ .tup vs) : srepL Z ι w v.cells u.cells.toList := by
  cases v with
  | any => exact absurd rfl hn
  | tup vs => exact absurd rfl (ht vs)
  | agg cs =>
    simp only [srep] at h
    obtain ⟨us, rfl, h⟩ := h
    simpa [V.cells, Value.cells] using h
  | sc v =>
    have h' := h
    simp only [srep] at h
    obtain ⟨rfl, hf⟩ := h
    have : u.cells = #[u] := by cases u <;> simp_all [flat, Value.cells]
    simp only [V.cells, this, srepL]
    exact ⟨u, [], by simp, flat_one hf, h', rfl⟩
  | sl o k xs =>
    have h' := h
    simp only [srep] at h
    simp only [V.cells, srepL]
    rcases h with ⟨rfl, _⟩ | ⟨β, o, c, us, m, rfl, _⟩ <;> exact ⟨_, [], by simp [Value.cells], rfl, h', rfl⟩
  | ptr a b =>
    have h' := h
    simp only [srep] at h
    obtain ⟨β, _, rfl⟩ := h
    simp only [V.cells, srepL]
    exact ⟨_, [], by simp [Value.cells], rfl, h', rfl⟩
  | elp cs =>
    have h' := h
    simp only [srep] at h
    obtain ⟨β, o, us, m, rfl, _⟩ := h
    simp only [V.cells, srepL]
    exact ⟨_, [], by simp [Value.cells], rfl, h', rfl⟩
  | hs a b c d =>
    have h' := h
    simp only [srep] at h
    obtain ⟨β, c, _, rfl, _⟩ := h
    simp only [V.cells, srepL]
    exact ⟨_, [], by simp [Value.cells], rfl, h', rfl⟩
  | fn f a b =>
    have h' := h
    simp only [srep] at h
    obtain ⟨us, ws, rfl, _⟩ := h
    simp only [V.cells, srepL]
    exact ⟨_, [], by simp [Value.cells], rfl, h', rfl⟩
  | ifc t v =>
    have h' := h
    simp only [srep] at h
    obtain ⟨x, rfl, _⟩ := h
    simp only [V.cells, srepL]
    exact ⟨_, [], by simp [Value.cells], rfl, h', rfl⟩


/-- Behind a step: what was never to be changed is as it was; blocks of the list below n stand where they stood. -/
structure Keeps (n : Nat) (Z : Nat → Zone) (ι : List Nat) (w : World) (Z' : Nat → Zone) (ι' : List Nat) (w' : World) : Prop where
  log : ∀ β m, Z β = .log m → ∃ m', m ≤ m' ∧ Z' β = .log m' ∧ ∀ o, o < m → w'.cell? ⟨β, o, none⟩ = w.cell? ⟨β, o, none⟩
  idx : ∀ i β, i < n → ι[i]? = some β → ι'[i]? = some β

theorem lies_keeps {n : Nat} {Z' : Nat → Zone} {ι' : List Nat} {w' : World} (K : Keeps n Z ι w Z' ι' w') {β o m : Nat} {us : List Value} (hz : Z β = .log m) (hm : o + us.length ≤ m) (h : lies w β o us) : lies w' β o us := by
  intro j x hj
  obtain ⟨m', _, _, hk⟩ := K.log β m hz
  have hlt : j < us.length := by
    rcases Nat.lt_or_ge j us.length with h | h
    · exact h
    · simp [List.getElem?_eq_none h] at hj
  rw [hk _ (by omega)]
  exact h j x hj

mutual
theorem srep_keeps {n : Nat} {Z' : Nat → Zone} {ι' : List Nat} {w' : World} (K : Keeps n Z ι w Z' ι' w') : ∀ (v : V) (u : Value), closed n v = true → srep Z ι w v u → srep Z' ι' w' v u
  | .any, _, _, _ => by simp only [srep]
  | .sc v, u, _, h => by simpa only [srep] using h
  | .sl o k xs, u, hc, h => by
    simp only [srep] at h ⊢
    rcases h with h | ⟨β, o, c, us, m, h1, h2, h3, h4, h5, h6, h7⟩
    · exact .inl h
    · obtain ⟨m', hm, hz, _⟩ := K.log β m h4
      exact .inr ⟨β, o, c, us, m', h1, h2, h3, hz, by omega, lies_keeps K h4 h5 h6, srepE_keeps K k xs us (by simpa only [closed] using hc) h7⟩
  | .agg cs, u, hc, h => by
    simp only [srep] at h ⊢
    obtain ⟨us, h1, h2⟩ := h
    exact ⟨us, h1, srepL_keeps K cs us (by simpa only [closed] using hc) h2⟩
  | .tup cs, u, hc, h => by
    simp only [srep] at h ⊢
    obtain ⟨us, h1, h2⟩ := h
    exact ⟨us, h1, srepT_keeps K cs us (by simpa only [closed] using hc) h2⟩
  | .ptr id off, u, hc, h => by
    simp only [srep, closed, decide_eq_true_eq] at h hc ⊢
    obtain ⟨β, h1, h2⟩ := h
    exact ⟨β, K.idx id β hc h1, h2⟩
  | .elp cs, u, hc, h => by
    simp only [srep] at h ⊢
    obtain ⟨β, o, us, m, h1, h4, h5, h6, h7⟩ := h
    obtain ⟨m', hm, hz, _⟩ := K.log β m h4
    exact ⟨β, o, us, m', h1, hz, by omega, lies_keeps K h4 h5 h6, srepL_keeps K cs us (by simpa only [closed] using hc) h7⟩
  | .hs id off len k, u, hc, h => by
    simp only [srep, closed, decide_eq_true_eq] at h hc ⊢
    obtain ⟨β, c, h1, h2⟩ := h
    exact ⟨β, c, K.idx id β hc h1, h2⟩
  | .fn f a b, u, hc, h => by
    simp only [srep, closed, Bool.and_eq_true] at h hc ⊢
    obtain ⟨us, ws, h1, h2, h3⟩ := h
    exact ⟨us, ws, h1, srepT_keeps K a us hc.1 h2, srepT_keeps K b ws hc.2 h3⟩
  | .ifc t v, u, hc, h => by
    simp only [srep, closed] at h hc ⊢
    obtain ⟨x, h1, h2⟩ := h
    exact ⟨x, h1, srep_keeps K v x hc h2⟩
theorem srepL_keeps {n : Nat} {Z' : Nat → Zone} {ι' : List Nat} {w' : World} (K : Keeps n Z ι w Z' ι' w') : ∀ (cs : List V) (us : List Value), closedL n cs = true → srepL Z ι w cs us → srepL Z' ι' w' cs us
  | [], us, _, h => by simpa only [srepL] using h
  | c :: cs, us, hc, h => by
    simp only [srepL, closedL, Bool.and_eq_true] at h hc ⊢
    obtain ⟨u, us', h1, h2, h3, h4⟩ := h
    exact ⟨u, us', h1, h2, srep_keeps K c u hc.1 h3, srepL_keeps K cs us' hc.2 h4⟩
theorem srepT_keeps {n : Nat} {Z' : Nat → Zone} {ι' : List Nat} {w' : World} (K : Keeps n Z ι w Z' ι' w') : ∀ (cs : List V) (us : List Value), closedL n cs = true → srepT Z ι w cs us → srepT Z' ι' w' cs us
  | [], us, _, h => by simpa only [srepT] using h
  | c :: cs, us, hc, h => by
    simp only [srepT, closedL, Bool.and_eq_true] at h hc ⊢
    obtain ⟨u, us', h1, h3, h4⟩ := h
    exact ⟨u, us', h1, srep_keeps K c u hc.1 h3, srepT_keeps K cs us' hc.2 h4⟩
theorem srepE_keeps {n : Nat} {Z' : Nat → Zone} {ι' : List Nat} {w' : World} (K : Keeps n Z ι w Z' ι' w') (k : Nat) : ∀ (cs : List V) (us : List Value), closedL n cs = true → srepE Z ι w k cs us → srepE Z' ι' w' k cs us
  | [], us, _, h => by simpa only [srepE] using h
  | c :: cs, us, hc, h => by
    simp only [srepE, closedL, Bool.and_eq_true] at h hc ⊢
    obtain ⟨u, us', h1, h2, h2', h3, h4⟩ := h
    exact ⟨u, us', h1, h2, h2', srep_keeps K c u hc.1 h3, srepE_keeps K k cs us' hc.2 h4⟩
end

mutual
theorem srep_closed : ∀ (v : V) (u : Value), srep Z ι w v u → closed ι.length v = true
  | .any, _, _ => by simp only [closed]
  | .sc v, u, _ => by simp only [closed]
  | .sl o k xs, u, h => by
    simp only [srep, closed] at h ⊢
    rcases h with ⟨_, rfl⟩ | ⟨β, o, c, us, m, h1, h2, h3, h4, h5, h6, h7⟩
    · simp only [closedL]
    · exact srepE_closed k xs us h7
  | .agg cs, u, h => by
    simp only [srep, closed] at h ⊢
    obtain ⟨us, h1, h2⟩ := h
    exact srepL_closed cs us h2
  | .tup cs, u, h => by
    simp only [srep, closed] at h ⊢
    obtain ⟨us, h1, h2⟩ := h
    exact srepT_closed cs us h2
  | .ptr id off, u, h => by
    simp only [srep, closed, decide_eq_true_eq] at h ⊢
    obtain ⟨β, h1, h2⟩ := h
    exact (List.getElem?_eq_some_iff.1 h1).1
  | .elp cs, u, h => by
    simp only [srep, closed] at h ⊢
    obtain ⟨β, o, us, m, h1, h4, h5, h6, h7⟩ := h
    exact srepL_closed cs us h7
  | .hs id off len k, u, h => by
    simp only [srep, closed, decide_eq_true_eq] at h ⊢
    obtain ⟨β, c, h1, h2⟩ := h
    exact (List.getElem?_eq_some_iff.1 h1).1
  | .fn f a b, u, h => by
    simp only [srep, closed, Bool.and_eq_true] at h ⊢
    obtain ⟨us, ws, h1, h2, h3⟩ := h
    exact ⟨srepT_closed a us h2, srepT_closed b ws h3⟩
  | .ifc t v, u, h => by
    simp only [srep, closed] at h ⊢
    obtain ⟨x, h1, h2⟩ := h
    exact srep_closed v x h2
theorem srepL_closed : ∀ (cs : List V) (us : List Value), srepL Z ι w cs us → closedL ι.length cs = true
  | [], us, h => by simp only [closedL]
  | c :: cs, us, h => by
    simp only [srepL, closedL, Bool.and_eq_true] at h ⊢
    obtain ⟨u, us', h1, h2, h3, h4⟩ := h
    exact ⟨srep_closed c u h3, srepL_closed cs us' h4⟩
theorem srepT_closed : ∀ (cs : List V) (us : List Value), srepT Z ι w cs us → closedL ι.length cs = true
  | [], us, h => by simp only [closedL]
  | c :: cs, us, h => by
    simp only [srepT, closedL, Bool.and_eq_true] at h ⊢
    obtain ⟨u, us', h1, h3, h4⟩ := h
    exact ⟨srep_closed c u h3, srepT_closed cs us' h4⟩
theorem srepE_closed (k : Nat) : ∀ (cs : List V) (us : List Value), srepE Z ι w k cs us → closedL ι.length cs = true
  | [], us, h => by simp only [closedL]
  | c :: cs, us, h => by
    simp only [srepE, closedL, Bool.and_eq_true] at h ⊢
    obtain ⟨u, us', h1, h2, h2', h3, h4⟩ := h
    exact ⟨srep_closed c u h3, srepE_closed k cs us' h4⟩
end

end
end Go.Den
