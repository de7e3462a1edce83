import Derived.Test.YtihdbaehaiaiiaaCtx2
set_option linter.unusedVariables false
set_option linter.unusedSimpArgs false
set_option maxRecDepth 100000
namespace Go.Den
structure S30 where
  f_Op : Int
  f_Wide : Bool
  f_S : Bool
  f_Cond : Int
  f_D : Int
  f_N : Int
  f_M : Int
  f_A : Int
  f_Imm : Int
  f_UseImm : Bool
  f_Sh : Int
  f_Amt : Int
  f_List : Int
  f_Back : Bool
  f_Down : Bool
  deriving DecidableEq, Inhabited
def encS30 (y : S30) : V := .agg [.sc (.int .i64 y.f_Op), .sc (.bool y.f_Wide), .sc (.bool y.f_S), .sc (.int .i64 y.f_Cond), .sc (.int .i64 y.f_D), .sc (.int .i64 y.f_N), .sc (.int .i64 y.f_M), .sc (.int .i64 y.f_A), .sc (.int .u32 y.f_Imm), .sc (.bool y.f_UseImm), .sc (.int .i64 y.f_Sh), .sc (.int .i64 y.f_Amt), .sc (.int .i64 y.f_List), .sc (.bool y.f_Back), .sc (.bool y.f_Down)]
structure S43 where
  f_h : Int
  f_k : Int
  f_in : Bool
  deriving DecidableEq, Inhabited
def encS43 (y : S43) : V := .agg [.sc (.int .u32 y.f_h), .sc (.int .u32 y.f_k), .sc (.bool y.f_in)]
-- sourdine/wide.bitsOf, 5
def enc37 (y : Int) : V := .sc (.int .i64 y)
noncomputable def tree37 (x0 : Int) (x1 : Int) (x2 : Int) : R := (cond (decide (x1 < 0)) none (cond (decide (x2 < 0)) none (some (enc37 (wrapF IntKind.i64 (bitsF BinOp.and IntKind.u32 (shrF IntKind.u32 x0 x1) (wrapF IntKind.u32 (shlF IntKind.u32 1 x2 - 1)))), []))))
theorem run37 (x0 : Int) (x1 : Int) (x2 : Int) : funK ctx noneKnown noLoops 3 37 [.sc (.int .u32 x0), .sc (.int .i64 x1), .sc (.int .i64 x2)] [] 0 finV = tree37 x0 x1 x2 := by kernel_rfl
noncomputable def o37 (x0 : Int) (x1 : Int) (x2 : Int) : Option Int := (cond (decide (x1 < 0)) none (cond (decide (x2 < 0)) none (some (wrapF IntKind.i64 (bitsF BinOp.and IntKind.u32 (shrF IntKind.u32 x0 x1) (wrapF IntKind.u32 (shlF IntKind.u32 1 x2 - 1)))))))
theorem told37 (x0 : Int) (x1 : Int) (x2 : Int) : Told enc37 (tree37 x0 x1 x2) (o37 x0 x1 x2) := (told_c (fun h0 => told_none _) (fun h0 => (told_c (fun h1 => told_none _) (fun h1 => told_leaf _))))
noncomputable def g37 (x0 : Int) (x1 : Int) (x2 : Int) : Int := (o37 x0 x1 x2).getD default
noncomputable def k37 (l : List V) : Option (Bool × V) := match l with
  | [.sc (.int .u32 x0), .sc (.int .i64 x1), .sc (.int .i64 x2)] => some ((o37 x0 x1 x2).isSome, enc37 (g37 x0 x1 x2))
  | _ => none
noncomputable def kn37 : Known := noneKnown.add 37 k37
theorem kn37_ok : KnownOK ctx kn37 3 := Known.add_ok (noneKnown_ok 0) rfl (by omega) (by
  intro l r h
  unfold k37 at h
  split at h
  · simp only [Option.some.injEq, Prod.mk.injEq] at h
    obtain ⟨h1, rfl⟩ := h
    obtain ⟨a, ha⟩ := Option.isSome_iff_exists.1 h1
    unfold g37
    rw [ha]
    exact ⟨(Told.spec (noneKnown_ok 0) (noLoops_ok _) (run37 _ _ _) (told37 _ _ _) ha).mono (by omega), rfl, rfl⟩
  · cases h)
-- (sourdine/wide.pair).told, 1
def enc47 (y : S30) : V := encS30 y
noncomputable def tree47 (x0_h : Int) (x0_k : Int) (x0_in : Bool) (x1 : Int) : R := (some (enc47 (S30.mk (x1) (true) (false) (14) (0) (0) (0) (0) (bitsF BinOp.or IntKind.u32 (shlF IntKind.u32 x0_h 16) x0_k) (false) (0) (0) (0) (false) (false)), []))
theorem run47 (x0_h : Int) (x0_k : Int) (x0_in : Bool) (x1 : Int) : funK ctx kn37 noLoops 3 47 [.agg [.sc (.int .u32 x0_h), .sc (.int .u32 x0_k), .sc (.bool x0_in)], .sc (.int .i64 x1)] [] 0 finV = tree47 x0_h x0_k x0_in x1 := by kernel_rfl
noncomputable def p47 (x0_h : Int) (x0_k : Int) (x0_in : Bool) (x1 : Int) : S30 := (S30.mk (x1) (true) (false) (14) (0) (0) (0) (0) (bitsF BinOp.or IntKind.u32 (shlF IntKind.u32 x0_h 16) x0_k) (false) (0) (0) (0) (false) (false))
theorem told47 (x0_h : Int) (x0_k : Int) (x0_in : Bool) (x1 : Int) : Told enc47 (tree47 x0_h x0_k x0_in x1) (some (p47 x0_h x0_k x0_in x1)) := told_leaf _
noncomputable def k47 (l : List V) : Option (Bool × V) := match l with
  | [.agg [.sc (.int .u32 x0_h), .sc (.int .u32 x0_k), .sc (.bool x0_in)], .sc (.int .i64 x1)] => some (true, enc47 (p47 x0_h x0_k x0_in x1))
  | _ => none
noncomputable def kn47 : Known := kn37.add 47 k47
theorem kn47_ok : KnownOK ctx kn47 6 := Known.add_ok kn37_ok rfl (by omega) (by
  intro l r h
  unfold k47 at h
  split at h
  · simp only [Option.some.injEq, Prod.mk.injEq] at h
    obtain ⟨_, rfl⟩ := h
    exact ⟨(Told.spec kn37_ok (noLoops_ok _) (run47 _ _ _ _) (told47 _ _ _ _) rfl).mono (by omega), rfl, rfl⟩
  · cases h)
-- (sourdine/wide.pair).none, 1
def enc24 (y : S30) : V := encS30 y
noncomputable def tree24 (x0_h : Int) (x0_k : Int) (x0_in : Bool) : R := (some (enc24 ((p47 x0_h x0_k x0_in 64)), []))
theorem run24 (x0_h : Int) (x0_k : Int) (x0_in : Bool) : funK ctx kn47 noLoops 3 24 [.agg [.sc (.int .u32 x0_h), .sc (.int .u32 x0_k), .sc (.bool x0_in)]] [] 0 finV = tree24 x0_h x0_k x0_in := by kernel_rfl
noncomputable def p24 (x0_h : Int) (x0_k : Int) (x0_in : Bool) : S30 := ((p47 x0_h x0_k x0_in 64))
theorem told24 (x0_h : Int) (x0_k : Int) (x0_in : Bool) : Told enc24 (tree24 x0_h x0_k x0_in) (some (p24 x0_h x0_k x0_in)) := told_leaf _
noncomputable def k24 (l : List V) : Option (Bool × V) := match l with
  | [.agg [.sc (.int .u32 x0_h), .sc (.int .u32 x0_k), .sc (.bool x0_in)]] => some (true, enc24 (p24 x0_h x0_k x0_in))
  | _ => none
noncomputable def kn24 : Known := kn47.add 24 k24
theorem kn24_ok : KnownOK ctx kn24 9 := Known.add_ok kn47_ok rfl (by omega) (by
  intro l r h
  unfold k24 at h
  split at h
  · simp only [Option.some.injEq, Prod.mk.injEq] at h
    obtain ⟨_, rfl⟩ := h
    exact ⟨(Told.spec kn47_ok (noLoops_ok _) (run24 _ _ _) (told24 _ _ _) rfl).mono (by omega), rfl, rfl⟩
  · cases h)
-- (sourdine/wide.pair).unless, 7
def enc38 (y : S30) : V := encS30 y
noncomputable def tree38 (x0_h : Int) (x0_k : Int) (x0_in : Bool) (x1 : Bool) (x2_Op : Int) (x2_Wide : Bool) (x2_S : Bool) (x2_Cond : Int) (x2_D : Int) (x2_N : Int) (x2_M : Int) (x2_A : Int) (x2_Imm : Int) (x2_UseImm : Bool) (x2_Sh : Int) (x2_Amt : Int) (x2_List : Int) (x2_Back : Bool) (x2_Down : Bool) : R := (cond (x1) (some (enc38 ((p47 x0_h x0_k x0_in 65)), [])) (cond (x2_Cond == 0) (cond (x2_Op != 54) (some (enc38 (S30.mk (x2_Op) (true) (x2_S) (14) (x2_D) (x2_N) (x2_M) (x2_A) (x2_Imm) (x2_UseImm) (x2_Sh) (x2_Amt) (x2_List) (x2_Back) (x2_Down)), [])) (some (enc38 (S30.mk (x2_Op) (true) (x2_S) (x2_Cond) (x2_D) (x2_N) (x2_M) (x2_A) (x2_Imm) (x2_UseImm) (x2_Sh) (x2_Amt) (x2_List) (x2_Back) (x2_Down)), []))) (some (enc38 (S30.mk (x2_Op) (true) (x2_S) (x2_Cond) (x2_D) (x2_N) (x2_M) (x2_A) (x2_Imm) (x2_UseImm) (x2_Sh) (x2_Amt) (x2_List) (x2_Back) (x2_Down)), []))))
theorem run38 (x0_h : Int) (x0_k : Int) (x0_in : Bool) (x1 : Bool) (x2_Op : Int) (x2_Wide : Bool) (x2_S : Bool) (x2_Cond : Int) (x2_D : Int) (x2_N : Int) (x2_M : Int) (x2_A : Int) (x2_Imm : Int) (x2_UseImm : Bool) (x2_Sh : Int) (x2_Amt : Int) (x2_List : Int) (x2_Back : Bool) (x2_Down : Bool) : funK ctx kn24 noLoops 3 38 [.agg [.sc (.int .u32 x0_h), .sc (.int .u32 x0_k), .sc (.bool x0_in)], .sc (.bool x1), .agg [.sc (.int .i64 x2_Op), .sc (.bool x2_Wide), .sc (.bool x2_S), .sc (.int .i64 x2_Cond), .sc (.int .i64 x2_D), .sc (.int .i64 x2_N), .sc (.int .i64 x2_M), .sc (.int .i64 x2_A), .sc (.int .u32 x2_Imm), .sc (.bool x2_UseImm), .sc (.int .i64 x2_Sh), .sc (.int .i64 x2_Amt), .sc (.int .i64 x2_List), .sc (.bool x2_Back), .sc (.bool x2_Down)]] [] 0 finV = tree38 x0_h x0_k x0_in x1 x2_Op x2_Wide x2_S x2_Cond x2_D x2_N x2_M x2_A x2_Imm x2_UseImm x2_Sh x2_Amt x2_List x2_Back x2_Down := by kernel_rfl
noncomputable def p38 (x0_h : Int) (x0_k : Int) (x0_in : Bool) (x1 : Bool) (x2_Op : Int) (x2_Wide : Bool) (x2_S : Bool) (x2_Cond : Int) (x2_D : Int) (x2_N : Int) (x2_M : Int) (x2_A : Int) (x2_Imm : Int) (x2_UseImm : Bool) (x2_Sh : Int) (x2_Amt : Int) (x2_List : Int) (x2_Back : Bool) (x2_Down : Bool) : S30 := (cond (x1) ((p47 x0_h x0_k x0_in 65)) (cond (x2_Cond == 0) (cond (x2_Op != 54) (S30.mk (x2_Op) (true) (x2_S) (14) (x2_D) (x2_N) (x2_M) (x2_A) (x2_Imm) (x2_UseImm) (x2_Sh) (x2_Amt) (x2_List) (x2_Back) (x2_Down)) (S30.mk (x2_Op) (true) (x2_S) (x2_Cond) (x2_D) (x2_N) (x2_M) (x2_A) (x2_Imm) (x2_UseImm) (x2_Sh) (x2_Amt) (x2_List) (x2_Back) (x2_Down))) (S30.mk (x2_Op) (true) (x2_S) (x2_Cond) (x2_D) (x2_N) (x2_M) (x2_A) (x2_Imm) (x2_UseImm) (x2_Sh) (x2_Amt) (x2_List) (x2_Back) (x2_Down))))
theorem told38 (x0_h : Int) (x0_k : Int) (x0_in : Bool) (x1 : Bool) (x2_Op : Int) (x2_Wide : Bool) (x2_S : Bool) (x2_Cond : Int) (x2_D : Int) (x2_N : Int) (x2_M : Int) (x2_A : Int) (x2_Imm : Int) (x2_UseImm : Bool) (x2_Sh : Int) (x2_Amt : Int) (x2_List : Int) (x2_Back : Bool) (x2_Down : Bool) : Told enc38 (tree38 x0_h x0_k x0_in x1 x2_Op x2_Wide x2_S x2_Cond x2_D x2_N x2_M x2_A x2_Imm x2_UseImm x2_Sh x2_Amt x2_List x2_Back x2_Down) (some (p38 x0_h x0_k x0_in x1 x2_Op x2_Wide x2_S x2_Cond x2_D x2_N x2_M x2_A x2_Imm x2_UseImm x2_Sh x2_Amt x2_List x2_Back x2_Down)) := (told_p (fun h0 => told_leaf _) (fun h0 => (told_p (fun h1 => (told_p (fun h2 => told_leaf _) (fun h2 => told_leaf _))) (fun h1 => told_leaf _))))
noncomputable def k38 (l : List V) : Option (Bool × V) := match l with
  | [.agg [.sc (.int .u32 x0_h), .sc (.int .u32 x0_k), .sc (.bool x0_in)], .sc (.bool x1), .agg [.sc (.int .i64 x2_Op), .sc (.bool x2_Wide), .sc (.bool x2_S), .sc (.int .i64 x2_Cond), .sc (.int .i64 x2_D), .sc (.int .i64 x2_N), .sc (.int .i64 x2_M), .sc (.int .i64 x2_A), .sc (.int .u32 x2_Imm), .sc (.bool x2_UseImm), .sc (.int .i64 x2_Sh), .sc (.int .i64 x2_Amt), .sc (.int .i64 x2_List), .sc (.bool x2_Back), .sc (.bool x2_Down)]] => some (true, enc38 (p38 x0_h x0_k x0_in x1 x2_Op x2_Wide x2_S x2_Cond x2_D x2_N x2_M x2_A x2_Imm x2_UseImm x2_Sh x2_Amt x2_List x2_Back x2_Down))
  | _ => none
noncomputable def kn38 : Known := kn24.add 38 k38
theorem kn38_ok : KnownOK ctx kn38 12 := Known.add_ok kn24_ok rfl (by omega) (by
  intro l r h
  unfold k38 at h
  split at h
  · simp only [Option.some.injEq, Prod.mk.injEq] at h
    obtain ⟨_, rfl⟩ := h
    exact ⟨(Told.spec kn24_ok (noLoops_ok _) (run38 _ _ _ _ _ _ _ _ _ _ _ _ _ _ _ _ _ _ _) (told38 _ _ _ _ _ _ _ _ _ _ _ _ _ _ _ _ _ _ _) rfl).mono (by omega), rfl, rfl⟩
  · cases h)
-- sourdine/wide.flagsAlone, 9
def enc73 (y : Int) : V := .sc (.int .i64 y)
noncomputable def tree73 (x0 : Int) : R := (cond (x0 == 1) (some (enc73 (8), [])) (cond (x0 == 2) (some (enc73 (9), [])) (cond (x0 == 5) (some (enc73 (11), [])) (cond (x0 == 3) (some (enc73 (10), [])) (some (enc73 (0), []))))))
theorem run73 (x0 : Int) : funK ctx kn38 noLoops 3 73 [.sc (.int .i64 x0)] [] 0 finV = tree73 x0 := by kernel_rfl
noncomputable def p73 (x0 : Int) : Int := (cond (x0 == 1) (8) (cond (x0 == 2) (9) (cond (x0 == 5) (11) (cond (x0 == 3) (10) (0)))))
theorem told73 (x0 : Int) : Told enc73 (tree73 x0) (some (p73 x0)) := (told_p (fun h0 => told_leaf _) (fun h0 => (told_p (fun h1 => told_leaf _) (fun h1 => (told_p (fun h2 => told_leaf _) (fun h2 => (told_p (fun h3 => told_leaf _) (fun h3 => told_leaf _))))))))
noncomputable def k73 (l : List V) : Option (Bool × V) := match l with
  | [.sc (.int .i64 x0)] => some (true, enc73 (p73 x0))
  | _ => none
noncomputable def kn73 : Known := kn38.add 73 k73
theorem kn73_ok : KnownOK ctx kn73 15 := Known.add_ok kn38_ok rfl (by omega) (by
  intro l r h
  unfold k73 at h
  split at h
  · simp only [Option.some.injEq, Prod.mk.injEq] at h
    obtain ⟨_, rfl⟩ := h
    exact ⟨(Told.spec kn38_ok (noLoops_ok _) (run73 _) (told73 _) rfl).mono (by omega), rfl, rfl⟩
  · cases h)
-- sourdine/wide.moves, 5
def enc74 (y : Int) : V := .sc (.int .i64 y)
noncomputable def tree74 (x0 : Int) : R := (cond (x0 == 12) (some (enc74 (13), [])) (cond (x0 == 16) (some (enc74 (15), [])) (some (enc74 (0), []))))
theorem run74 (x0 : Int) : funK ctx kn73 noLoops 3 74 [.sc (.int .i64 x0)] [] 0 finV = tree74 x0 := by kernel_rfl
noncomputable def p74 (x0 : Int) : Int := (cond (x0 == 12) (13) (cond (x0 == 16) (15) (0)))
theorem told74 (x0 : Int) : Told enc74 (tree74 x0) (some (p74 x0)) := (told_p (fun h0 => told_leaf _) (fun h0 => (told_p (fun h1 => told_leaf _) (fun h1 => told_leaf _))))
noncomputable def k74 (l : List V) : Option (Bool × V) := match l with
  | [.sc (.int .i64 x0)] => some (true, enc74 (p74 x0))
  | _ => none
noncomputable def kn74 : Known := kn73.add 74 k74
theorem kn74_ok : KnownOK ctx kn74 18 := Known.add_ok kn73_ok rfl (by omega) (by
  intro l r h
  unfold k74 at h
  split at h
  · simp only [Option.some.injEq, Prod.mk.injEq] at h
    obtain ⟨_, rfl⟩ := h
    exact ⟨(Told.spec kn73_ok (noLoops_ok _) (run74 _) (told74 _) rfl).mono (by omega), rfl, rfl⟩
  · cases h)
end Go.Den
