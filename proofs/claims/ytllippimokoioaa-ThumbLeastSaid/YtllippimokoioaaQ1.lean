import Derived.Test.YtllippimokoioaaCtx1
set_option linter.unusedVariables false
set_option linter.unusedSimpArgs false
set_option maxRecDepth 100000
namespace Go.Den
structure S39 where
  f_Op : Int
  f_Wide : Bool
  f_S : Bool
  f_Cond : Int
  f_D : Int
  f_N : Int
  f_M : Int
  f_A : Int
  f_Imm : Int
  f_UseImm : Bool
  f_Sh : Int
  f_Amt : Int
  f_List : Int
  f_Back : Bool
  f_Down : Bool
  deriving DecidableEq, Inhabited
def encS39 (y : S39) : V := .agg [.sc (.int .i64 y.f_Op), .sc (.bool y.f_Wide), .sc (.bool y.f_S), .sc (.int .i64 y.f_Cond), .sc (.int .i64 y.f_D), .sc (.int .i64 y.f_N), .sc (.int .i64 y.f_M), .sc (.int .i64 y.f_A), .sc (.int .u32 y.f_Imm), .sc (.bool y.f_UseImm), .sc (.int .i64 y.f_Sh), .sc (.int .i64 y.f_Amt), .sc (.int .i64 y.f_List), .sc (.bool y.f_Back), .sc (.bool y.f_Down)]
-- sourdine/cond.Not, 5
def enc20 (y : Int) : V := .sc (.int .i64 y)
noncomputable def tree20 (x0 : Int) : R := (cond (decide (x0 < 0)) (some (enc20 (x0), [])) (cond (decide (x0 ≥ 14)) (some (enc20 (x0), [])) (some (enc20 (bitsF BinOp.xor IntKind.i64 x0 1), []))))
theorem run20 (x0 : Int) : funK ctx noneKnown noLoops 3 20 [.sc (.int .i64 x0)] [] 0 finV = tree20 x0 := by kernel_rfl
noncomputable def p20 (x0 : Int) : Int := (cond (decide (x0 < 0)) (x0) (cond (decide (x0 ≥ 14)) (x0) (bitsF BinOp.xor IntKind.i64 x0 1)))
theorem told20 (x0 : Int) : Told enc20 (tree20 x0) (some (p20 x0)) := (told_p (fun h0 => told_leaf _) (fun h0 => (told_p (fun h1 => told_leaf _) (fun h1 => told_leaf _))))
noncomputable def k20 (l : List V) : Option (Bool × V) := match l with
  | [.sc (.int .i64 x0)] => some (true, enc20 (p20 x0))
  | _ => none
noncomputable def kn20 : Known := noneKnown.add 20 k20
theorem kn20_ok : KnownOK ctx kn20 3 := Known.add_ok (noneKnown_ok 0) rfl (by omega) (by
  intro l r h
  unfold k20 at h
  split at h
  · simp only [Option.some.injEq, Prod.mk.injEq] at h
    obtain ⟨_, rfl⟩ := h
    exact ⟨(Told.spec (noneKnown_ok 0) (noLoops_ok _) (run20 _) (told20 _) rfl).mono (by omega), rfl, rfl⟩
  · cases h)
-- sourdine/sourdineref1.Not, 5
def enc21 (y : Int) : V := .sc (.int .i64 y)
noncomputable def tree21 (x0 : Int) : R := (cond (decide (x0 < 0)) (some (enc21 (x0), [])) (cond (decide (x0 > 13)) (some (enc21 (x0), [])) (some (enc21 (bitsF BinOp.xor IntKind.i64 x0 1), []))))
theorem run21 (x0 : Int) : funK ctx kn20 noLoops 3 21 [.sc (.int .i64 x0)] [] 0 finV = tree21 x0 := by kernel_rfl
noncomputable def p21 (x0 : Int) : Int := (cond (decide (x0 < 0)) (x0) (cond (decide (x0 > 13)) (x0) (bitsF BinOp.xor IntKind.i64 x0 1)))
theorem told21 (x0 : Int) : Told enc21 (tree21 x0) (some (p21 x0)) := (told_p (fun h0 => told_leaf _) (fun h0 => (told_p (fun h1 => told_leaf _) (fun h1 => told_leaf _))))
noncomputable def k21 (l : List V) : Option (Bool × V) := match l with
  | [.sc (.int .i64 x0)] => some (true, enc21 (p21 x0))
  | _ => none
noncomputable def kn21 : Known := kn20.add 21 k21
theorem kn21_ok : KnownOK ctx kn21 6 := Known.add_ok kn20_ok rfl (by omega) (by
  intro l r h
  unfold k21 at h
  split at h
  · simp only [Option.some.injEq, Prod.mk.injEq] at h
    obtain ⟨_, rfl⟩ := h
    exact ⟨(Told.spec kn20_ok (noLoops_ok _) (run21 _) (told21 _) rfl).mono (by omega), rfl, rfl⟩
  · cases h)
-- (sourdine/thumb.half).get, 5
def enc44 (y : Int) : V := .sc (.int .i64 y)
noncomputable def tree44 (x0_h : Int) (x0_s : Bool) (x1 : Int) (x2 : Int) : R := (cond (decide (x1 < 0)) none (cond (decide (x2 < 0)) none (some (enc44 (wrapF IntKind.i64 (bitsF BinOp.and IntKind.u32 (shrF IntKind.u32 x0_h x1) (wrapF IntKind.u32 (shlF IntKind.u32 1 x2 - 1)))), []))))
theorem run44 (x0_h : Int) (x0_s : Bool) (x1 : Int) (x2 : Int) : funK ctx kn21 noLoops 3 44 [.agg [.sc (.int .u32 x0_h), .sc (.bool x0_s)], .sc (.int .i64 x1), .sc (.int .i64 x2)] [] 0 finV = tree44 x0_h x0_s x1 x2 := by kernel_rfl
noncomputable def o44 (x0_h : Int) (x0_s : Bool) (x1 : Int) (x2 : Int) : Option Int := (cond (decide (x1 < 0)) none (cond (decide (x2 < 0)) none (some (wrapF IntKind.i64 (bitsF BinOp.and IntKind.u32 (shrF IntKind.u32 x0_h x1) (wrapF IntKind.u32 (shlF IntKind.u32 1 x2 - 1)))))))
theorem told44 (x0_h : Int) (x0_s : Bool) (x1 : Int) (x2 : Int) : Told enc44 (tree44 x0_h x0_s x1 x2) (o44 x0_h x0_s x1 x2) := (told_c (fun h0 => told_none _) (fun h0 => (told_c (fun h1 => told_none _) (fun h1 => told_leaf _))))
noncomputable def g44 (x0_h : Int) (x0_s : Bool) (x1 : Int) (x2 : Int) : Int := (o44 x0_h x0_s x1 x2).getD default
noncomputable def k44 (l : List V) : Option (Bool × V) := match l with
  | [.agg [.sc (.int .u32 x0_h), .sc (.bool x0_s)], .sc (.int .i64 x1), .sc (.int .i64 x2)] => some ((o44 x0_h x0_s x1 x2).isSome, enc44 (g44 x0_h x0_s x1 x2))
  | _ => none
noncomputable def kn44 : Known := kn21.add 44 k44
theorem kn44_ok : KnownOK ctx kn44 9 := Known.add_ok kn21_ok rfl (by omega) (by
  intro l r h
  unfold k44 at h
  split at h
  · simp only [Option.some.injEq, Prod.mk.injEq] at h
    obtain ⟨h1, rfl⟩ := h
    obtain ⟨a, ha⟩ := Option.isSome_iff_exists.1 h1
    unfold g44
    rw [ha]
    exact ⟨(Told.spec kn21_ok (noLoops_ok _) (run44 _ _ _ _) (told44 _ _ _ _) ha).mono (by omega), rfl, rfl⟩
  · cases h)
-- math/bits.OnesCount64, 1
def enc89 (y : Int) : V := .sc (.int .i64 y)
noncomputable def tree89 (x0 : Int) : R := (some (enc89 (bitsF BinOp.and IntKind.i64 (wrapF IntKind.i64 (wrapF IntKind.u64 (wrapF IntKind.u64 (wrapF IntKind.u64 (bitsF BinOp.and IntKind.u64 (wrapF IntKind.u64 (shrF IntKind.u64 (wrapF IntKind.u64 (bitsF BinOp.and IntKind.u64 (shrF IntKind.u64 (wrapF IntKind.u64 (bitsF BinOp.and IntKind.u64 (shrF IntKind.u64 x0 1) 6148914691236517205 + bitsF BinOp.and IntKind.u64 x0 6148914691236517205)) 2) 3689348814741910323 + bitsF BinOp.and IntKind.u64 (wrapF IntKind.u64 (bitsF BinOp.and IntKind.u64 (shrF IntKind.u64 x0 1) 6148914691236517205 + bitsF BinOp.and IntKind.u64 x0 6148914691236517205)) 3689348814741910323)) 4 + wrapF IntKind.u64 (bitsF BinOp.and IntKind.u64 (shrF IntKind.u64 (wrapF IntKind.u64 (bitsF BinOp.and IntKind.u64 (shrF IntKind.u64 x0 1) 6148914691236517205 + bitsF BinOp.and IntKind.u64 x0 6148914691236517205)) 2) 3689348814741910323 + bitsF BinOp.and IntKind.u64 (wrapF IntKind.u64 (bitsF BinOp.and IntKind.u64 (shrF IntKind.u64 x0 1) 6148914691236517205 + bitsF BinOp.and IntKind.u64 x0 6148914691236517205)) 3689348814741910323))) 1085102592571150095 + shrF IntKind.u64 (bitsF BinOp.and IntKind.u64 (wrapF IntKind.u64 (shrF IntKind.u64 (wrapF IntKind.u64 (bitsF BinOp.and IntKind.u64 (shrF IntKind.u64 (wrapF IntKind.u64 (bitsF BinOp.and IntKind.u64 (shrF IntKind.u64 x0 1) 6148914691236517205 + bitsF BinOp.and IntKind.u64 x0 6148914691236517205)) 2) 3689348814741910323 + bitsF BinOp.and IntKind.u64 (wrapF IntKind.u64 (bitsF BinOp.and IntKind.u64 (shrF IntKind.u64 x0 1) 6148914691236517205 + bitsF BinOp.and IntKind.u64 x0 6148914691236517205)) 3689348814741910323)) 4 + wrapF IntKind.u64 (bitsF BinOp.and IntKind.u64 (shrF IntKind.u64 (wrapF IntKind.u64 (bitsF BinOp.and IntKind.u64 (shrF IntKind.u64 x0 1) 6148914691236517205 + bitsF BinOp.and IntKind.u64 x0 6148914691236517205)) 2) 3689348814741910323 + bitsF BinOp.and IntKind.u64 (wrapF IntKind.u64 (bitsF BinOp.and IntKind.u64 (shrF IntKind.u64 x0 1) 6148914691236517205 + bitsF BinOp.and IntKind.u64 x0 6148914691236517205)) 3689348814741910323))) 1085102592571150095) 8) + shrF IntKind.u64 (wrapF IntKind.u64 (bitsF BinOp.and IntKind.u64 (wrapF IntKind.u64 (shrF IntKind.u64 (wrapF IntKind.u64 (bitsF BinOp.and IntKind.u64 (shrF IntKind.u64 (wrapF IntKind.u64 (bitsF BinOp.and IntKind.u64 (shrF IntKind.u64 x0 1) 6148914691236517205 + bitsF BinOp.and IntKind.u64 x0 6148914691236517205)) 2) 3689348814741910323 + bitsF BinOp.and IntKind.u64 (wrapF IntKind.u64 (bitsF BinOp.and IntKind.u64 (shrF IntKind.u64 x0 1) 6148914691236517205 + bitsF BinOp.and IntKind.u64 x0 6148914691236517205)) 3689348814741910323)) 4 + wrapF IntKind.u64 (bitsF BinOp.and IntKind.u64 (shrF IntKind.u64 (wrapF IntKind.u64 (bitsF BinOp.and IntKind.u64 (shrF IntKind.u64 x0 1) 6148914691236517205 + bitsF BinOp.and IntKind.u64 x0 6148914691236517205)) 2) 3689348814741910323 + bitsF BinOp.and IntKind.u64 (wrapF IntKind.u64 (bitsF BinOp.and IntKind.u64 (shrF IntKind.u64 x0 1) 6148914691236517205 + bitsF BinOp.and IntKind.u64 x0 6148914691236517205)) 3689348814741910323))) 1085102592571150095 + shrF IntKind.u64 (bitsF BinOp.and IntKind.u64 (wrapF IntKind.u64 (shrF IntKind.u64 (wrapF IntKind.u64 (bitsF BinOp.and IntKind.u64 (shrF IntKind.u64 (wrapF IntKind.u64 (bitsF BinOp.and IntKind.u64 (shrF IntKind.u64 x0 1) 6148914691236517205 + bitsF BinOp.and IntKind.u64 x0 6148914691236517205)) 2) 3689348814741910323 + bitsF BinOp.and IntKind.u64 (wrapF IntKind.u64 (bitsF BinOp.and IntKind.u64 (shrF IntKind.u64 x0 1) 6148914691236517205 + bitsF BinOp.and IntKind.u64 x0 6148914691236517205)) 3689348814741910323)) 4 + wrapF IntKind.u64 (bitsF BinOp.and IntKind.u64 (shrF IntKind.u64 (wrapF IntKind.u64 (bitsF BinOp.and IntKind.u64 (shrF IntKind.u64 x0 1) 6148914691236517205 + bitsF BinOp.and IntKind.u64 x0 6148914691236517205)) 2) 3689348814741910323 + bitsF BinOp.and IntKind.u64 (wrapF IntKind.u64 (bitsF BinOp.and IntKind.u64 (shrF IntKind.u64 x0 1) 6148914691236517205 + bitsF BinOp.and IntKind.u64 x0 6148914691236517205)) 3689348814741910323))) 1085102592571150095) 8)) 16) + shrF IntKind.u64 (wrapF IntKind.u64 (wrapF IntKind.u64 (bitsF BinOp.and IntKind.u64 (wrapF IntKind.u64 (shrF IntKind.u64 (wrapF IntKind.u64 (bitsF BinOp.and IntKind.u64 (shrF IntKind.u64 (wrapF IntKind.u64 (bitsF BinOp.and IntKind.u64 (shrF IntKind.u64 x0 1) 6148914691236517205 + bitsF BinOp.and IntKind.u64 x0 6148914691236517205)) 2) 3689348814741910323 + bitsF BinOp.and IntKind.u64 (wrapF IntKind.u64 (bitsF BinOp.and IntKind.u64 (shrF IntKind.u64 x0 1) 6148914691236517205 + bitsF BinOp.and IntKind.u64 x0 6148914691236517205)) 3689348814741910323)) 4 + wrapF IntKind.u64 (bitsF BinOp.and IntKind.u64 (shrF IntKind.u64 (wrapF IntKind.u64 (bitsF BinOp.and IntKind.u64 (shrF IntKind.u64 x0 1) 6148914691236517205 + bitsF BinOp.and IntKind.u64 x0 6148914691236517205)) 2) 3689348814741910323 + bitsF BinOp.and IntKind.u64 (wrapF IntKind.u64 (bitsF BinOp.and IntKind.u64 (shrF IntKind.u64 x0 1) 6148914691236517205 + bitsF BinOp.and IntKind.u64 x0 6148914691236517205)) 3689348814741910323))) 1085102592571150095 + shrF IntKind.u64 (bitsF BinOp.and IntKind.u64 (wrapF IntKind.u64 (shrF IntKind.u64 (wrapF IntKind.u64 (bitsF BinOp.and IntKind.u64 (shrF IntKind.u64 (wrapF IntKind.u64 (bitsF BinOp.and IntKind.u64 (shrF IntKind.u64 x0 1) 6148914691236517205 + bitsF BinOp.and IntKind.u64 x0 6148914691236517205)) 2) 3689348814741910323 + bitsF BinOp.and IntKind.u64 (wrapF IntKind.u64 (bitsF BinOp.and IntKind.u64 (shrF IntKind.u64 x0 1) 6148914691236517205 + bitsF BinOp.and IntKind.u64 x0 6148914691236517205)) 3689348814741910323)) 4 + wrapF IntKind.u64 (bitsF BinOp.and IntKind.u64 (shrF IntKind.u64 (wrapF IntKind.u64 (bitsF BinOp.and IntKind.u64 (shrF IntKind.u64 x0 1) 6148914691236517205 + bitsF BinOp.and IntKind.u64 x0 6148914691236517205)) 2) 3689348814741910323 + bitsF BinOp.and IntKind.u64 (wrapF IntKind.u64 (bitsF BinOp.and IntKind.u64 (shrF IntKind.u64 x0 1) 6148914691236517205 + bitsF BinOp.and IntKind.u64 x0 6148914691236517205)) 3689348814741910323))) 1085102592571150095) 8) + shrF IntKind.u64 (wrapF IntKind.u64 (bitsF BinOp.and IntKind.u64 (wrapF IntKind.u64 (shrF IntKind.u64 (wrapF IntKind.u64 (bitsF BinOp.and IntKind.u64 (shrF IntKind.u64 (wrapF IntKind.u64 (bitsF BinOp.and IntKind.u64 (shrF IntKind.u64 x0 1) 6148914691236517205 + bitsF BinOp.and IntKind.u64 x0 6148914691236517205)) 2) 3689348814741910323 + bitsF BinOp.and IntKind.u64 (wrapF IntKind.u64 (bitsF BinOp.and IntKind.u64 (shrF IntKind.u64 x0 1) 6148914691236517205 + bitsF BinOp.and IntKind.u64 x0 6148914691236517205)) 3689348814741910323)) 4 + wrapF IntKind.u64 (bitsF BinOp.and IntKind.u64 (shrF IntKind.u64 (wrapF IntKind.u64 (bitsF BinOp.and IntKind.u64 (shrF IntKind.u64 x0 1) 6148914691236517205 + bitsF BinOp.and IntKind.u64 x0 6148914691236517205)) 2) 3689348814741910323 + bitsF BinOp.and IntKind.u64 (wrapF IntKind.u64 (bitsF BinOp.and IntKind.u64 (shrF IntKind.u64 x0 1) 6148914691236517205 + bitsF BinOp.and IntKind.u64 x0 6148914691236517205)) 3689348814741910323))) 1085102592571150095 + shrF IntKind.u64 (bitsF BinOp.and IntKind.u64 (wrapF IntKind.u64 (shrF IntKind.u64 (wrapF IntKind.u64 (bitsF BinOp.and IntKind.u64 (shrF IntKind.u64 (wrapF IntKind.u64 (bitsF BinOp.and IntKind.u64 (shrF IntKind.u64 x0 1) 6148914691236517205 + bitsF BinOp.and IntKind.u64 x0 6148914691236517205)) 2) 3689348814741910323 + bitsF BinOp.and IntKind.u64 (wrapF IntKind.u64 (bitsF BinOp.and IntKind.u64 (shrF IntKind.u64 x0 1) 6148914691236517205 + bitsF BinOp.and IntKind.u64 x0 6148914691236517205)) 3689348814741910323)) 4 + wrapF IntKind.u64 (bitsF BinOp.and IntKind.u64 (shrF IntKind.u64 (wrapF IntKind.u64 (bitsF BinOp.and IntKind.u64 (shrF IntKind.u64 x0 1) 6148914691236517205 + bitsF BinOp.and IntKind.u64 x0 6148914691236517205)) 2) 3689348814741910323 + bitsF BinOp.and IntKind.u64 (wrapF IntKind.u64 (bitsF BinOp.and IntKind.u64 (shrF IntKind.u64 x0 1) 6148914691236517205 + bitsF BinOp.and IntKind.u64 x0 6148914691236517205)) 3689348814741910323))) 1085102592571150095) 8)) 16)) 32))) 127), []))
theorem run89 (x0 : Int) : funK ctx kn44 noLoops 3 89 [.sc (.int .u64 x0)] [] 0 finV = tree89 x0 := by kernel_rfl
noncomputable def p89 (x0 : Int) : Int := (bitsF BinOp.and IntKind.i64 (wrapF IntKind.i64 (wrapF IntKind.u64 (wrapF IntKind.u64 (wrapF IntKind.u64 (bitsF BinOp.and IntKind.u64 (wrapF IntKind.u64 (shrF IntKind.u64 (wrapF IntKind.u64 (bitsF BinOp.and IntKind.u64 (shrF IntKind.u64 (wrapF IntKind.u64 (bitsF BinOp.and IntKind.u64 (shrF IntKind.u64 x0 1) 6148914691236517205 + bitsF BinOp.and IntKind.u64 x0 6148914691236517205)) 2) 3689348814741910323 + bitsF BinOp.and IntKind.u64 (wrapF IntKind.u64 (bitsF BinOp.and IntKind.u64 (shrF IntKind.u64 x0 1) 6148914691236517205 + bitsF BinOp.and IntKind.u64 x0 6148914691236517205)) 3689348814741910323)) 4 + wrapF IntKind.u64 (bitsF BinOp.and IntKind.u64 (shrF IntKind.u64 (wrapF IntKind.u64 (bitsF BinOp.and IntKind.u64 (shrF IntKind.u64 x0 1) 6148914691236517205 + bitsF BinOp.and IntKind.u64 x0 6148914691236517205)) 2) 3689348814741910323 + bitsF BinOp.and IntKind.u64 (wrapF IntKind.u64 (bitsF BinOp.and IntKind.u64 (shrF IntKind.u64 x0 1) 6148914691236517205 + bitsF BinOp.and IntKind.u64 x0 6148914691236517205)) 3689348814741910323))) 1085102592571150095 + shrF IntKind.u64 (bitsF BinOp.and IntKind.u64 (wrapF IntKind.u64 (shrF IntKind.u64 (wrapF IntKind.u64 (bitsF BinOp.and IntKind.u64 (shrF IntKind.u64 (wrapF IntKind.u64 (bitsF BinOp.and IntKind.u64 (shrF IntKind.u64 x0 1) 6148914691236517205 + bitsF BinOp.and IntKind.u64 x0 6148914691236517205)) 2) 3689348814741910323 + bitsF BinOp.and IntKind.u64 (wrapF IntKind.u64 (bitsF BinOp.and IntKind.u64 (shrF IntKind.u64 x0 1) 6148914691236517205 + bitsF BinOp.and IntKind.u64 x0 6148914691236517205)) 3689348814741910323)) 4 + wrapF IntKind.u64 (bitsF BinOp.and IntKind.u64 (shrF IntKind.u64 (wrapF IntKind.u64 (bitsF BinOp.and IntKind.u64 (shrF IntKind.u64 x0 1) 6148914691236517205 + bitsF BinOp.and IntKind.u64 x0 6148914691236517205)) 2) 3689348814741910323 + bitsF BinOp.and IntKind.u64 (wrapF IntKind.u64 (bitsF BinOp.and IntKind.u64 (shrF IntKind.u64 x0 1) 6148914691236517205 + bitsF BinOp.and IntKind.u64 x0 6148914691236517205)) 3689348814741910323))) 1085102592571150095) 8) + shrF IntKind.u64 (wrapF IntKind.u64 (bitsF BinOp.and IntKind.u64 (wrapF IntKind.u64 (shrF IntKind.u64 (wrapF IntKind.u64 (bitsF BinOp.and IntKind.u64 (shrF IntKind.u64 (wrapF IntKind.u64 (bitsF BinOp.and IntKind.u64 (shrF IntKind.u64 x0 1) 6148914691236517205 + bitsF BinOp.and IntKind.u64 x0 6148914691236517205)) 2) 3689348814741910323 + bitsF BinOp.and IntKind.u64 (wrapF IntKind.u64 (bitsF BinOp.and IntKind.u64 (shrF IntKind.u64 x0 1) 6148914691236517205 + bitsF BinOp.and IntKind.u64 x0 6148914691236517205)) 3689348814741910323)) 4 + wrapF IntKind.u64 (bitsF BinOp.and IntKind.u64 (shrF IntKind.u64 (wrapF IntKind.u64 (bitsF BinOp.and IntKind.u64 (shrF IntKind.u64 x0 1) 6148914691236517205 + bitsF BinOp.and IntKind.u64 x0 6148914691236517205)) 2) 3689348814741910323 + bitsF BinOp.and IntKind.u64 (wrapF IntKind.u64 (bitsF BinOp.and IntKind.u64 (shrF IntKind.u64 x0 1) 6148914691236517205 + bitsF BinOp.and IntKind.u64 x0 6148914691236517205)) 3689348814741910323))) 1085102592571150095 + shrF IntKind.u64 (bitsF BinOp.and IntKind.u64 (wrapF IntKind.u64 (shrF IntKind.u64 (wrapF IntKind.u64 (bitsF BinOp.and IntKind.u64 (shrF IntKind.u64 (wrapF IntKind.u64 (bitsF BinOp.and IntKind.u64 (shrF IntKind.u64 x0 1) 6148914691236517205 + bitsF BinOp.and IntKind.u64 x0 6148914691236517205)) 2) 3689348814741910323 + bitsF BinOp.and IntKind.u64 (wrapF IntKind.u64 (bitsF BinOp.and IntKind.u64 (shrF IntKind.u64 x0 1) 6148914691236517205 + bitsF BinOp.and IntKind.u64 x0 6148914691236517205)) 3689348814741910323)) 4 + wrapF IntKind.u64 (bitsF BinOp.and IntKind.u64 (shrF IntKind.u64 (wrapF IntKind.u64 (bitsF BinOp.and IntKind.u64 (shrF IntKind.u64 x0 1) 6148914691236517205 + bitsF BinOp.and IntKind.u64 x0 6148914691236517205)) 2) 3689348814741910323 + bitsF BinOp.and IntKind.u64 (wrapF IntKind.u64 (bitsF BinOp.and IntKind.u64 (shrF IntKind.u64 x0 1) 6148914691236517205 + bitsF BinOp.and IntKind.u64 x0 6148914691236517205)) 3689348814741910323))) 1085102592571150095) 8)) 16) + shrF IntKind.u64 (wrapF IntKind.u64 (wrapF IntKind.u64 (bitsF BinOp.and IntKind.u64 (wrapF IntKind.u64 (shrF IntKind.u64 (wrapF IntKind.u64 (bitsF BinOp.and IntKind.u64 (shrF IntKind.u64 (wrapF IntKind.u64 (bitsF BinOp.and IntKind.u64 (shrF IntKind.u64 x0 1) 6148914691236517205 + bitsF BinOp.and IntKind.u64 x0 6148914691236517205)) 2) 3689348814741910323 + bitsF BinOp.and IntKind.u64 (wrapF IntKind.u64 (bitsF BinOp.and IntKind.u64 (shrF IntKind.u64 x0 1) 6148914691236517205 + bitsF BinOp.and IntKind.u64 x0 6148914691236517205)) 3689348814741910323)) 4 + wrapF IntKind.u64 (bitsF BinOp.and IntKind.u64 (shrF IntKind.u64 (wrapF IntKind.u64 (bitsF BinOp.and IntKind.u64 (shrF IntKind.u64 x0 1) 6148914691236517205 + bitsF BinOp.and IntKind.u64 x0 6148914691236517205)) 2) 3689348814741910323 + bitsF BinOp.and IntKind.u64 (wrapF IntKind.u64 (bitsF BinOp.and IntKind.u64 (shrF IntKind.u64 x0 1) 6148914691236517205 + bitsF BinOp.and IntKind.u64 x0 6148914691236517205)) 3689348814741910323))) 1085102592571150095 + shrF IntKind.u64 (bitsF BinOp.and IntKind.u64 (wrapF IntKind.u64 (shrF IntKind.u64 (wrapF IntKind.u64 (bitsF BinOp.and IntKind.u64 (shrF IntKind.u64 (wrapF IntKind.u64 (bitsF BinOp.and IntKind.u64 (shrF IntKind.u64 x0 1) 6148914691236517205 + bitsF BinOp.and IntKind.u64 x0 6148914691236517205)) 2) 3689348814741910323 + bitsF BinOp.and IntKind.u64 (wrapF IntKind.u64 (bitsF BinOp.and IntKind.u64 (shrF IntKind.u64 x0 1) 6148914691236517205 + bitsF BinOp.and IntKind.u64 x0 6148914691236517205)) 3689348814741910323)) 4 + wrapF IntKind.u64 (bitsF BinOp.and IntKind.u64 (shrF IntKind.u64 (wrapF IntKind.u64 (bitsF BinOp.and IntKind.u64 (shrF IntKind.u64 x0 1) 6148914691236517205 + bitsF BinOp.and IntKind.u64 x0 6148914691236517205)) 2) 3689348814741910323 + bitsF BinOp.and IntKind.u64 (wrapF IntKind.u64 (bitsF BinOp.and IntKind.u64 (shrF IntKind.u64 x0 1) 6148914691236517205 + bitsF BinOp.and IntKind.u64 x0 6148914691236517205)) 3689348814741910323))) 1085102592571150095) 8) + shrF IntKind.u64 (wrapF IntKind.u64 (bitsF BinOp.and IntKind.u64 (wrapF IntKind.u64 (shrF IntKind.u64 (wrapF IntKind.u64 (bitsF BinOp.and IntKind.u64 (shrF IntKind.u64 (wrapF IntKind.u64 (bitsF BinOp.and IntKind.u64 (shrF IntKind.u64 x0 1) 6148914691236517205 + bitsF BinOp.and IntKind.u64 x0 6148914691236517205)) 2) 3689348814741910323 + bitsF BinOp.and IntKind.u64 (wrapF IntKind.u64 (bitsF BinOp.and IntKind.u64 (shrF IntKind.u64 x0 1) 6148914691236517205 + bitsF BinOp.and IntKind.u64 x0 6148914691236517205)) 3689348814741910323)) 4 + wrapF IntKind.u64 (bitsF BinOp.and IntKind.u64 (shrF IntKind.u64 (wrapF IntKind.u64 (bitsF BinOp.and IntKind.u64 (shrF IntKind.u64 x0 1) 6148914691236517205 + bitsF BinOp.and IntKind.u64 x0 6148914691236517205)) 2) 3689348814741910323 + bitsF BinOp.and IntKind.u64 (wrapF IntKind.u64 (bitsF BinOp.and IntKind.u64 (shrF IntKind.u64 x0 1) 6148914691236517205 + bitsF BinOp.and IntKind.u64 x0 6148914691236517205)) 3689348814741910323))) 1085102592571150095 + shrF IntKind.u64 (bitsF BinOp.and IntKind.u64 (wrapF IntKind.u64 (shrF IntKind.u64 (wrapF IntKind.u64 (bitsF BinOp.and IntKind.u64 (shrF IntKind.u64 (wrapF IntKind.u64 (bitsF BinOp.and IntKind.u64 (shrF IntKind.u64 x0 1) 6148914691236517205 + bitsF BinOp.and IntKind.u64 x0 6148914691236517205)) 2) 3689348814741910323 + bitsF BinOp.and IntKind.u64 (wrapF IntKind.u64 (bitsF BinOp.and IntKind.u64 (shrF IntKind.u64 x0 1) 6148914691236517205 + bitsF BinOp.and IntKind.u64 x0 6148914691236517205)) 3689348814741910323)) 4 + wrapF IntKind.u64 (bitsF BinOp.and IntKind.u64 (shrF IntKind.u64 (wrapF IntKind.u64 (bitsF BinOp.and IntKind.u64 (shrF IntKind.u64 x0 1) 6148914691236517205 + bitsF BinOp.and IntKind.u64 x0 6148914691236517205)) 2) 3689348814741910323 + bitsF BinOp.and IntKind.u64 (wrapF IntKind.u64 (bitsF BinOp.and IntKind.u64 (shrF IntKind.u64 x0 1) 6148914691236517205 + bitsF BinOp.and IntKind.u64 x0 6148914691236517205)) 3689348814741910323))) 1085102592571150095) 8)) 16)) 32))) 127)
theorem told89 (x0 : Int) : Told enc89 (tree89 x0) (some (p89 x0)) := told_leaf _
noncomputable def k89 (l : List V) : Option (Bool × V) := match l with
  | [.sc (.int .u64 x0)] => some (true, enc89 (p89 x0))
  | _ => none
noncomputable def kn89 : Known := kn44.add 89 k89
theorem kn89_ok : KnownOK ctx kn89 12 := Known.add_ok kn44_ok rfl (by omega) (by
  intro l r h
  unfold k89 at h
  split at h
  · simp only [Option.some.injEq, Prod.mk.injEq] at h
    obtain ⟨_, rfl⟩ := h
    exact ⟨(Told.spec kn44_ok (noLoops_ok _) (run89 _) (told89 _) rfl).mono (by omega), rfl, rfl⟩
  · cases h)
-- math/bits.OnesCount, 1
def enc74 (y : Int) : V := .sc (.int .i64 y)
noncomputable def tree74 (x0 : Int) : R := (some (enc74 (p89 x0), []))
theorem run74 (x0 : Int) : funK ctx kn89 noLoops 3 74 [.sc (.int .u64 x0)] [] 0 finV = tree74 x0 := by kernel_rfl
noncomputable def p74 (x0 : Int) : Int := (p89 x0)
theorem told74 (x0 : Int) : Told enc74 (tree74 x0) (some (p74 x0)) := told_leaf _
noncomputable def k74 (l : List V) : Option (Bool × V) := match l with
  | [.sc (.int .u64 x0)] => some (true, enc74 (p74 x0))
  | _ => none
noncomputable def kn74 : Known := kn89.add 74 k74
theorem kn74_ok : KnownOK ctx kn74 15 := Known.add_ok kn89_ok rfl (by omega) (by
  intro l r h
  unfold k74 at h
  split at h
  · simp only [Option.some.injEq, Prod.mk.injEq] at h
    obtain ⟨_, rfl⟩ := h
    exact ⟨(Told.spec kn89_ok (noLoops_ok _) (run74 _) (told74 _) rfl).mono (by omega), rfl, rfl⟩
  · cases h)
end Go.Den
