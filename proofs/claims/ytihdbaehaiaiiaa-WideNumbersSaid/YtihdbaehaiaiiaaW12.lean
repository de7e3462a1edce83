import Derived.Test.YtihdbaehaiaiiaaCtx2
set_option linter.unusedSimpArgs false
section
set_option linter.unusedVariables false
set_option maxRecDepth 100000
namespace Go.Den
structure S30 where
  f_Op : Int
  f_Wide : Bool
  f_S : Bool
  f_Cond : Int
  f_D : Int
  f_N : Int
  f_M : Int
  f_A : Int
  f_Imm : Int
  f_UseImm : Bool
  f_Sh : Int
  f_Amt : Int
  f_List : Int
  f_Back : Bool
  f_Down : Bool
  deriving DecidableEq, Inhabited
def encS30 (y : S30) : V := .agg [.sc (.int .i64 y.f_Op), .sc (.bool y.f_Wide), .sc (.bool y.f_S), .sc (.int .i64 y.f_Cond), .sc (.int .i64 y.f_D), .sc (.int .i64 y.f_N), .sc (.int .i64 y.f_M), .sc (.int .i64 y.f_A), .sc (.int .u32 y.f_Imm), .sc (.bool y.f_UseImm), .sc (.int .i64 y.f_Sh), .sc (.int .i64 y.f_Amt), .sc (.int .i64 y.f_List), .sc (.bool y.f_Back), .sc (.bool y.f_Down)]
structure S43 where
  f_h : Int
  f_k : Int
  f_in : Bool
  deriving DecidableEq, Inhabited
def encS43 (y : S43) : V := .agg [.sc (.int .u32 y.f_h), .sc (.int .u32 y.f_k), .sc (.bool y.f_in)]
def enc37 (y : Int) : V := .sc (.int .i64 y)
noncomputable def tree37 (x0 : Int) (x1 : Int) (x2 : Int) : R := (cond (decide (x1 < 0)) none (cond (decide (x2 < 0)) none (some (enc37 (wrapF .i64 (bitsF .and .u32 (shrF .u32 x0 x1) (wrapF .u32 (shlF .u32 1 x2 - 1)))), []))))
theorem run37 (x0 : Int) (x1 : Int) (x2 : Int) : funK ctx noneKnown noLoops 3 37 [.sc (.int .u32 x0), .sc (.int .i64 x1), .sc (.int .i64 x2)] [] 0 finV = tree37 x0 x1 x2 := by kernel_rfl
noncomputable def o37 (x0 : Int) (x1 : Int) (x2 : Int) : Option Int := (cond (decide (x1 < 0)) none (cond (decide (x2 < 0)) none (some (wrapF .i64 (bitsF .and .u32 (shrF .u32 x0 x1) (wrapF .u32 (shlF .u32 1 x2 - 1)))))))
theorem told37 (x0 : Int) (x1 : Int) (x2 : Int) : Told enc37 (tree37 x0 x1 x2) (o37 x0 x1 x2) := (told_c (fun h0 => told_none _) (fun h0 => (told_c (fun h1 => told_none _) (fun h1 => told_leaf _))))
noncomputable def g37 (x0 : Int) (x1 : Int) (x2 : Int) : Int := (o37 x0 x1 x2).getD default
noncomputable def k37 (l : List V) : Option (Bool × V) := match l with
  | [.sc (.int .u32 x0), .sc (.int .i64 x1), .sc (.int .i64 x2)] => some ((o37 x0 x1 x2).isSome, enc37 (g37 x0 x1 x2))
  | _ => none
noncomputable def kn37 : Known := noneKnown.add 37 k37
theorem kn37_ok : KnownOK ctx kn37 3 := Known.add_ok (noneKnown_ok 0) rfl (by omega) (by
  intro l r h
  unfold k37 at h
  split at h
  · simp only [Option.some.injEq, Prod.mk.injEq] at h
    obtain ⟨h1, rfl⟩ := h
    obtain ⟨a, ha⟩ := Option.isSome_iff_exists.1 h1
    unfold g37
    rw [ha]
    exact ⟨(Told.spec (noneKnown_ok 0) (noLoops_ok _) (run37 _ _ _) (told37 _ _ _) ha).mono (by omega), rfl, rfl⟩
  · cases h)
def enc47 (y : S30) : V := encS30 y
noncomputable def tree47 (c : Int) (d : Int) (e : Bool) (x1 : Int) : R := (some (enc47 (S30.mk (x1) (true) (false) (14) (0) (0) (0) (0) (bitsF .or .u32 (shlF .u32 c 16) d) (false) (0) (0) (0) (false) (false)), []))
theorem run47 (c : Int) (d : Int) (e : Bool) (x1 : Int) : funK ctx kn37 noLoops 3 47 [.agg [.sc (.int .u32 c), .sc (.int .u32 d), .sc (.bool e)], .sc (.int .i64 x1)] [] 0 finV = tree47 c d e x1 := by kernel_rfl
noncomputable def p47 (c : Int) (d : Int) (e : Bool) (x1 : Int) : S30 := (S30.mk (x1) (true) (false) (14) (0) (0) (0) (0) (bitsF .or .u32 (shlF .u32 c 16) d) (false) (0) (0) (0) (false) (false))
theorem told47 (c : Int) (d : Int) (e : Bool) (x1 : Int) : Told enc47 (tree47 c d e x1) (some (p47 c d e x1)) := told_leaf _
noncomputable def k47 (l : List V) : Option (Bool × V) := match l with
  | [.agg [.sc (.int .u32 c), .sc (.int .u32 d), .sc (.bool e)], .sc (.int .i64 x1)] => some (true, enc47 (p47 c d e x1))
  | _ => none
noncomputable def kn47 : Known := kn37.add 47 k47
theorem kn47_ok : KnownOK ctx kn47 6 := Known.add_ok kn37_ok rfl (by omega) (by
  intro l r h
  unfold k47 at h
  split at h
  · simp only [Option.some.injEq, Prod.mk.injEq] at h
    obtain ⟨_, rfl⟩ := h
    exact ⟨(Told.spec kn37_ok (noLoops_ok _) (run47 _ _ _ _) (told47 _ _ _ _) rfl).mono (by omega), rfl, rfl⟩
  · cases h)
def enc24 (y : S30) : V := encS30 y
noncomputable def tree24 (c : Int) (d : Int) (e : Bool) : R := (some (enc24 ((p47 c d e 64)), []))
theorem run24 (c : Int) (d : Int) (e : Bool) : funK ctx kn47 noLoops 3 24 [.agg [.sc (.int .u32 c), .sc (.int .u32 d), .sc (.bool e)]] [] 0 finV = tree24 c d e := by kernel_rfl
noncomputable def p24 (c : Int) (d : Int) (e : Bool) : S30 := ((p47 c d e 64))
theorem told24 (c : Int) (d : Int) (e : Bool) : Told enc24 (tree24 c d e) (some (p24 c d e)) := told_leaf _
noncomputable def k24 (l : List V) : Option (Bool × V) := match l with
  | [.agg [.sc (.int .u32 c), .sc (.int .u32 d), .sc (.bool e)]] => some (true, enc24 (p24 c d e))
  | _ => none
noncomputable def kn24 : Known := kn47.add 24 k24
theorem kn24_ok : KnownOK ctx kn24 9 := Known.add_ok kn47_ok rfl (by omega) (by
  intro l r h
  unfold k24 at h
  split at h
  · simp only [Option.some.injEq, Prod.mk.injEq] at h
    obtain ⟨_, rfl⟩ := h
    exact ⟨(Told.spec kn47_ok (noLoops_ok _) (run24 _ _ _) (told24 _ _ _) rfl).mono (by omega), rfl, rfl⟩
  · cases h)
def enc38 (y : S30) : V := encS30 y
noncomputable def tree38 (c : Int) (d : Int) (e : Bool) (x1 : Bool) (m : Int) (q1 : Bool) (j : Bool) (q : Int) (i : Int) (w : Int) (v : Int) (g : Int) (t : Int) (q0 : Bool) (z : Int) (o : Int) (u : Int) (p : Bool) (s : Bool) : R := (cond (x1) (some (enc38 ((p47 c d e 65)), [])) (cond (q == 0) (cond (m != 54) (some (enc38 (S30.mk (m) (true) (j) (14) (i) (w) (v) (g) (t) (q0) (z) (o) (u) (p) (s)), [])) (some (enc38 (S30.mk (m) (true) (j) (q) (i) (w) (v) (g) (t) (q0) (z) (o) (u) (p) (s)), []))) (some (enc38 (S30.mk (m) (true) (j) (q) (i) (w) (v) (g) (t) (q0) (z) (o) (u) (p) (s)), []))))
theorem run38 (c : Int) (d : Int) (e : Bool) (x1 : Bool) (m : Int) (q1 : Bool) (j : Bool) (q : Int) (i : Int) (w : Int) (v : Int) (g : Int) (t : Int) (q0 : Bool) (z : Int) (o : Int) (u : Int) (p : Bool) (s : Bool) : funK ctx kn24 noLoops 3 38 [.agg [.sc (.int .u32 c), .sc (.int .u32 d), .sc (.bool e)], .sc (.bool x1), .agg [.sc (.int .i64 m), .sc (.bool q1), .sc (.bool j), .sc (.int .i64 q), .sc (.int .i64 i), .sc (.int .i64 w), .sc (.int .i64 v), .sc (.int .i64 g), .sc (.int .u32 t), .sc (.bool q0), .sc (.int .i64 z), .sc (.int .i64 o), .sc (.int .i64 u), .sc (.bool p), .sc (.bool s)]] [] 0 finV = tree38 c d e x1 m q1 j q i w v g t q0 z o u p s := by kernel_rfl
noncomputable def p38 (c : Int) (d : Int) (e : Bool) (x1 : Bool) (m : Int) (q1 : Bool) (j : Bool) (q : Int) (i : Int) (w : Int) (v : Int) (g : Int) (t : Int) (q0 : Bool) (z : Int) (o : Int) (u : Int) (p : Bool) (s : Bool) : S30 := (cond (x1) ((p47 c d e 65)) (cond (q == 0) (cond (m != 54) (S30.mk (m) (true) (j) (14) (i) (w) (v) (g) (t) (q0) (z) (o) (u) (p) (s)) (S30.mk (m) (true) (j) (q) (i) (w) (v) (g) (t) (q0) (z) (o) (u) (p) (s))) (S30.mk (m) (true) (j) (q) (i) (w) (v) (g) (t) (q0) (z) (o) (u) (p) (s))))
theorem told38 (c : Int) (d : Int) (e : Bool) (x1 : Bool) (m : Int) (q1 : Bool) (j : Bool) (q : Int) (i : Int) (w : Int) (v : Int) (g : Int) (t : Int) (q0 : Bool) (z : Int) (o : Int) (u : Int) (p : Bool) (s : Bool) : Told enc38 (tree38 c d e x1 m q1 j q i w v g t q0 z o u p s) (some (p38 c d e x1 m q1 j q i w v g t q0 z o u p s)) := (told_p (fun h0 => told_leaf _) (fun h0 => (told_p (fun h1 => (told_p (fun h2 => told_leaf _) (fun h2 => told_leaf _))) (fun h1 => told_leaf _))))
noncomputable def k38 (l : List V) : Option (Bool × V) := match l with
  | [.agg [.sc (.int .u32 c), .sc (.int .u32 d), .sc (.bool e)], .sc (.bool x1), .agg [.sc (.int .i64 m), .sc (.bool q1), .sc (.bool j), .sc (.int .i64 q), .sc (.int .i64 i), .sc (.int .i64 w), .sc (.int .i64 v), .sc (.int .i64 g), .sc (.int .u32 t), .sc (.bool q0), .sc (.int .i64 z), .sc (.int .i64 o), .sc (.int .i64 u), .sc (.bool p), .sc (.bool s)]] => some (true, enc38 (p38 c d e x1 m q1 j q i w v g t q0 z o u p s))
  | _ => none
noncomputable def kn38 : Known := kn24.add 38 k38
theorem kn38_ok : KnownOK ctx kn38 12 := Known.add_ok kn24_ok rfl (by omega) (by
  intro l r h
  unfold k38 at h
  split at h
  · simp only [Option.some.injEq, Prod.mk.injEq] at h
    obtain ⟨_, rfl⟩ := h
    exact ⟨(Told.spec kn24_ok (noLoops_ok _) (run38 _ _ _ _ _ _ _ _ _ _ _ _ _ _ _ _ _ _ _) (told38 _ _ _ _ _ _ _ _ _ _ _ _ _ _ _ _ _ _ _) rfl).mono (by omega), rfl, rfl⟩
  · cases h)
def enc73 (y : Int) : V := .sc (.int .i64 y)
noncomputable def tree73 (x0 : Int) : R := (cond (x0 == 1) (some (enc73 (8), [])) (cond (x0 == 2) (some (enc73 (9), [])) (cond (x0 == 5) (some (enc73 (11), [])) (cond (x0 == 3) (some (enc73 (10), [])) (some (enc73 (0), []))))))
theorem run73 (x0 : Int) : funK ctx kn38 noLoops 3 73 [.sc (.int .i64 x0)] [] 0 finV = tree73 x0 := by kernel_rfl
noncomputable def p73 (x0 : Int) : Int := (cond (x0 == 1) (8) (cond (x0 == 2) (9) (cond (x0 == 5) (11) (cond (x0 == 3) (10) (0)))))
theorem told73 (x0 : Int) : Told enc73 (tree73 x0) (some (p73 x0)) := (told_p (fun h0 => told_leaf _) (fun h0 => (told_p (fun h1 => told_leaf _) (fun h1 => (told_p (fun h2 => told_leaf _) (fun h2 => (told_p (fun h3 => told_leaf _) (fun h3 => told_leaf _))))))))
noncomputable def k73 (l : List V) : Option (Bool × V) := match l with
  | [.sc (.int .i64 x0)] => some (true, enc73 (p73 x0))
  | _ => none
noncomputable def kn73 : Known := kn38.add 73 k73
theorem kn73_ok : KnownOK ctx kn73 15 := Known.add_ok kn38_ok rfl (by omega) (by
  intro l r h
  unfold k73 at h
  split at h
  · simp only [Option.some.injEq, Prod.mk.injEq] at h
    obtain ⟨_, rfl⟩ := h
    exact ⟨(Told.spec kn38_ok (noLoops_ok _) (run73 _) (told73 _) rfl).mono (by omega), rfl, rfl⟩
  · cases h)
def enc74 (y : Int) : V := .sc (.int .i64 y)
noncomputable def tree74 (x0 : Int) : R := (cond (x0 == 12) (some (enc74 (13), [])) (cond (x0 == 16) (some (enc74 (15), [])) (some (enc74 (0), []))))
theorem run74 (x0 : Int) : funK ctx kn73 noLoops 3 74 [.sc (.int .i64 x0)] [] 0 finV = tree74 x0 := by kernel_rfl
noncomputable def p74 (x0 : Int) : Int := (cond (x0 == 12) (13) (cond (x0 == 16) (15) (0)))
theorem told74 (x0 : Int) : Told enc74 (tree74 x0) (some (p74 x0)) := (told_p (fun h0 => told_leaf _) (fun h0 => (told_p (fun h1 => told_leaf _) (fun h1 => told_leaf _))))
noncomputable def k74 (l : List V) : Option (Bool × V) := match l with
  | [.sc (.int .i64 x0)] => some (true, enc74 (p74 x0))
  | _ => none
noncomputable def kn74 : Known := kn73.add 74 k74
theorem kn74_ok : KnownOK ctx kn74 18 := Known.add_ok kn73_ok rfl (by omega) (by
  intro l r h
  unfold k74 at h
  split at h
  · simp only [Option.some.injEq, Prod.mk.injEq] at h
    obtain ⟨_, rfl⟩ := h
    exact ⟨(Told.spec kn73_ok (noLoops_ok _) (run74 _) (told74 _) rfl).mono (by omega), rfl, rfl⟩
  · cases h)
end Go.Den
end
section
set_option linter.unusedVariables false
set_option maxRecDepth 100000
namespace Go.Den

/-- how large what 'bitsOf' tells is -/
theorem g37_fact (h a n m : Int) (hc : (0 ≤ a ∧ 0 ≤ n) ∧ wrapF .u32 (shlF .u32 1 n - 1) = m ∧ 0 ≤ m ∧ m < 2147483648) : 0 ≤ g37 h a n ∧ g37 h a n ≤ m := by
  obtain ⟨⟨h1, h2⟩, h3, h4, h5⟩ := hc
  have e : g37 h a n = wrapF .i64 (bitsF .and .u32 (shrF .u32 h a) m) := by
    unfold g37 o37
    rw [decide_eq_false (by omega), decide_eq_false (by omega), h3]
    rfl
  have f := and_fact .u32 (shrF .u32 h a) m h4 h5
  rw [e, wrapF_id f.1 (by simp only [halfK]; omega)]
  exact f

/-- bits are a field -/
theorem g37_fm (x a n m : Int) (hx : 0 ≤ x ∧ x ≤ 4294967295) (hc : (0 ≤ a ∧ 0 ≤ n) ∧ wrapF .u32 (shlF .u32 1 n - 1) = m ∧ 0 ≤ m ∧ m < 2147483648) : g37 x a n = fm x a m := by
  obtain ⟨⟨h1, h2⟩, h3, h4, h5⟩ := hc
  have e : g37 x a n = wrapF .i64 (bitsF .and .u32 (shrF .u32 x a) m) := by
    unfold g37 o37
    rw [decide_eq_false (by omega), decide_eq_false (by omega), h3]
    rfl
  rw [e, and_fm .u32 x a m hx h1 ⟨h4, by simp only [topN, Int.ofNat_eq_natCast]; omega⟩, wrap_fm .i64 x a m ⟨h4, by simp only [topN, Int.ofNat_eq_natCast]; omega⟩]


/-- is one of some registers 13 or 15? -/
noncomputable def oddB : List Int → Bool
  | [] => false
  | x :: l => cond (x == 13) true (cond (x == 15) true (oddB l))

def encB (b : Bool) : V := .sc (.bool b)
noncomputable def tr44_1 (a : Int) : R := (cond (a == 13) (some (.sc (.bool true), [])) (cond (a == 15) (some (.sc (.bool true), [])) (some (.sc (.bool false), []))))
theorem run44_1 (o : Bool) (a : Int) : funK ctx kn74 noLoops 3 44 [.sl o 1 [.sc (.int .i64 a)]] [] 0 finV = tr44_1 a := by kernel_rfl
theorem told44_1 (a : Int) : Told encB (tr44_1 a) (some (oddB [a])) := by
  unfold tr44_1 oddB
  cases (a == 13)
  case true => exact told_leaf true
  simp only [cond_false]
  cases (a == 15)
  case true => exact told_leaf true
  simp only [cond_false]
  exact told_leaf false
noncomputable def tr44_2 (a b : Int) : R := (cond (a == 13) (some (.sc (.bool true), [])) (cond (a == 15) (some (.sc (.bool true), [])) (cond (b == 13) (some (.sc (.bool true), [])) (cond (b == 15) (some (.sc (.bool true), [])) (some (.sc (.bool false), []))))))
theorem run44_2 (o : Bool) (a b : Int) : funK ctx kn74 noLoops 3 44 [.sl o 1 [.sc (.int .i64 a), .sc (.int .i64 b)]] [] 0 finV = tr44_2 a b := by kernel_rfl
theorem told44_2 (a b : Int) : Told encB (tr44_2 a b) (some (oddB [a, b])) := by
  unfold tr44_2 oddB
  cases (a == 13)
  case true => exact told_leaf true
  simp only [cond_false]
  cases (a == 15)
  case true => exact told_leaf true
  simp only [cond_false]
  unfold oddB
  cases (b == 13)
  case true => exact told_leaf true
  simp only [cond_false]
  cases (b == 15)
  case true => exact told_leaf true
  simp only [cond_false]
  exact told_leaf false
noncomputable def tr44_3 (a b c : Int) : R := (cond (a == 13) (some (.sc (.bool true), [])) (cond (a == 15) (some (.sc (.bool true), [])) (cond (b == 13) (some (.sc (.bool true), [])) (cond (b == 15) (some (.sc (.bool true), [])) (cond (c == 13) (some (.sc (.bool true), [])) (cond (c == 15) (some (.sc (.bool true), [])) (some (.sc (.bool false), []))))))))
theorem run44_3 (o : Bool) (a b c : Int) : funK ctx kn74 noLoops 3 44 [.sl o 1 [.sc (.int .i64 a), .sc (.int .i64 b), .sc (.int .i64 c)]] [] 0 finV = tr44_3 a b c := by kernel_rfl
theorem told44_3 (a b c : Int) : Told encB (tr44_3 a b c) (some (oddB [a, b, c])) := by
  unfold tr44_3 oddB
  cases (a == 13)
  case true => exact told_leaf true
  simp only [cond_false]
  cases (a == 15)
  case true => exact told_leaf true
  simp only [cond_false]
  unfold oddB
  cases (b == 13)
  case true => exact told_leaf true
  simp only [cond_false]
  cases (b == 15)
  case true => exact told_leaf true
  simp only [cond_false]
  unfold oddB
  cases (c == 13)
  case true => exact told_leaf true
  simp only [cond_false]
  cases (c == 15)
  case true => exact told_leaf true
  simp only [cond_false]
  exact told_leaf false
noncomputable def tr44_4 (a b c d : Int) : R := (cond (a == 13) (some (.sc (.bool true), [])) (cond (a == 15) (some (.sc (.bool true), [])) (cond (b == 13) (some (.sc (.bool true), [])) (cond (b == 15) (some (.sc (.bool true), [])) (cond (c == 13) (some (.sc (.bool true), [])) (cond (c == 15) (some (.sc (.bool true), [])) (cond (d == 13) (some (.sc (.bool true), [])) (cond (d == 15) (some (.sc (.bool true), [])) (some (.sc (.bool false), []))))))))))
theorem run44_4 (o : Bool) (a b c d : Int) : funK ctx kn74 noLoops 3 44 [.sl o 1 [.sc (.int .i64 a), .sc (.int .i64 b), .sc (.int .i64 c), .sc (.int .i64 d)]] [] 0 finV = tr44_4 a b c d := by kernel_rfl
theorem told44_4 (a b c d : Int) : Told encB (tr44_4 a b c d) (some (oddB [a, b, c, d])) := by
  unfold tr44_4 oddB
  cases (a == 13)
  case true => exact told_leaf true
  simp only [cond_false]
  cases (a == 15)
  case true => exact told_leaf true
  simp only [cond_false]
  unfold oddB
  cases (b == 13)
  case true => exact told_leaf true
  simp only [cond_false]
  cases (b == 15)
  case true => exact told_leaf true
  simp only [cond_false]
  unfold oddB
  cases (c == 13)
  case true => exact told_leaf true
  simp only [cond_false]
  cases (c == 15)
  case true => exact told_leaf true
  simp only [cond_false]
  unfold oddB
  cases (d == 13)
  case true => exact told_leaf true
  simp only [cond_false]
  cases (d == 15)
  case true => exact told_leaf true
  simp only [cond_false]
  exact told_leaf false

noncomputable def k44 (l : List V) : Option (Bool × V) := match l with
  | [.sl _ 1 [.sc (.int .i64 a)]] => some (true, encB (oddB [a]))
  | [.sl _ 1 [.sc (.int .i64 a), .sc (.int .i64 b)]] => some (true, encB (oddB [a, b]))
  | [.sl _ 1 [.sc (.int .i64 a), .sc (.int .i64 b), .sc (.int .i64 c)]] => some (true, encB (oddB [a, b, c]))
  | [.sl _ 1 [.sc (.int .i64 a), .sc (.int .i64 b), .sc (.int .i64 c), .sc (.int .i64 d)]] => some (true, encB (oddB [a, b, c, d]))
  | _ => none
noncomputable def kn44 : Known := kn74.add 44 k44
theorem kn44_ok : KnownOK ctx kn44 21 := Known.add_ok kn74_ok rfl (by omega) (by
  intro l r h
  unfold k44 at h
  split at h
  · simp only [Option.some.injEq, Prod.mk.injEq] at h
    obtain ⟨_, rfl⟩ := h
    exact ⟨(Told.spec kn74_ok (noLoops_ok _) (run44_1 _ _) (told44_1 _) rfl).mono (by omega), rfl, rfl⟩
  · simp only [Option.some.injEq, Prod.mk.injEq] at h
    obtain ⟨_, rfl⟩ := h
    exact ⟨(Told.spec kn74_ok (noLoops_ok _) (run44_2 _ _ _) (told44_2 _ _) rfl).mono (by omega), rfl, rfl⟩
  · simp only [Option.some.injEq, Prod.mk.injEq] at h
    obtain ⟨_, rfl⟩ := h
    exact ⟨(Told.spec kn74_ok (noLoops_ok _) (run44_3 _ _ _ _) (told44_3 _ _ _) rfl).mono (by omega), rfl, rfl⟩
  · simp only [Option.some.injEq, Prod.mk.injEq] at h
    obtain ⟨_, rfl⟩ := h
    exact ⟨(Told.spec kn74_ok (noLoops_ok _) (run44_4 _ _ _ _ _) (told44_4 _ _ _ _) rfl).mono (by omega), rfl, rfl⟩
  · cases h)

end Go.Den
end
