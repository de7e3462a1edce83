import Derived.Test.YtihdbaehaiaiiaaV2
set_option linter.unusedVariables false
set_option linter.unusedSimpArgs false
set_option maxRecDepth 100000
namespace Go.Den
-- sourdine/sourdineref1.one, 11
def enc86 (y : (Int × Bool)) : V := .tup [.sc (.int .u32 y.1), .sc (.bool y.2)]
noncomputable def tree86 (x0 : Int) (x1 : Int) (x2 : Bool) : R := (cond (x1 == 1) (some (enc86 ((shlF IntKind.u32 x0 1, g88 x0 31)), [])) (cond (x1 == 2) (some (enc86 ((shrF IntKind.u32 x0 1, g88 x0 0)), [])) (cond (x1 == 3) (some (enc86 ((bitsF BinOp.or IntKind.u32 (shrF IntKind.u32 x0 1) (bitsF BinOp.and IntKind.u32 x0 2147483648), g88 x0 0)), [])) (cond (x1 == 4) (some (enc86 ((bitsF BinOp.or IntKind.u32 (shrF IntKind.u32 x0 1) (shlF IntKind.u32 x0 31), g88 x0 0)), [])) (cond (x2) (some (enc86 ((bitsF BinOp.or IntKind.u32 (shrF IntKind.u32 x0 1) 2147483648, g88 x0 0)), [])) (some (enc86 ((shrF IntKind.u32 x0 1, g88 x0 0)), [])))))))
theorem run86 (x0 : Int) (x1 : Int) (x2 : Bool) : funK ctx kn82 noLoops 3 86 [.sc (.int .u32 x0), .sc (.int .i64 x1), .sc (.bool x2)] [] 0 finV = tree86 x0 x1 x2 := by kernel_rfl
noncomputable def p86 (x0 : Int) (x1 : Int) (x2 : Bool) : (Int × Bool) := (cond (x1 == 1) ((shlF IntKind.u32 x0 1, g88 x0 31)) (cond (x1 == 2) ((shrF IntKind.u32 x0 1, g88 x0 0)) (cond (x1 == 3) ((bitsF BinOp.or IntKind.u32 (shrF IntKind.u32 x0 1) (bitsF BinOp.and IntKind.u32 x0 2147483648), g88 x0 0)) (cond (x1 == 4) ((bitsF BinOp.or IntKind.u32 (shrF IntKind.u32 x0 1) (shlF IntKind.u32 x0 31), g88 x0 0)) (cond (x2) ((bitsF BinOp.or IntKind.u32 (shrF IntKind.u32 x0 1) 2147483648, g88 x0 0)) ((shrF IntKind.u32 x0 1, g88 x0 0)))))))
theorem told86 (x0 : Int) (x1 : Int) (x2 : Bool) : Told enc86 (tree86 x0 x1 x2) (some (p86 x0 x1 x2)) := (told_p (fun h0 => told_leaf _) (fun h0 => (told_p (fun h1 => told_leaf _) (fun h1 => (told_p (fun h2 => told_leaf _) (fun h2 => (told_p (fun h3 => told_leaf _) (fun h3 => (told_p (fun h4 => told_leaf _) (fun h4 => told_leaf _))))))))))
noncomputable def k86 (l : List V) : Option (Bool × V) := match l with
  | [.sc (.int .u32 x0), .sc (.int .i64 x1), .sc (.bool x2)] => some (true, enc86 (p86 x0 x1 x2))
  | _ => none
noncomputable def kn86 : Known := kn82.add 86 k86
theorem kn86_ok : KnownOK ctx kn86 102 := Known.add_ok kn82_ok rfl (by omega) (by
  intro l r h
  unfold k86 at h
  split at h
  · simp only [Option.some.injEq, Prod.mk.injEq] at h
    obtain ⟨_, rfl⟩ := h
    exact ⟨(Told.spec kn82_ok (noLoops_ok _) (run86 _ _ _) (told86 _ _ _) rfl).mono (by omega), rfl, rfl⟩
  · cases h)
end Go.Den
