import Derived.Test.YtihdbaehaiaiiaaV812
set_option linter.unusedSimpArgs false
set_option linter.unusedVariables false
set_option maxRecDepth 100000
namespace Go.Den
def enc25 (y : (S30 × Bool)) : V := .tup [encS30 y.1, .sc (.bool y.2)]
noncomputable def tree25 (x0 : Int) (x1 : Int) (x2 : Bool) : R := (cond (bif shrF .u16 x0 11 == 30 then shrF .u16 x1 15 == 0 else false) (cond (bitsF .and .u16 (shrF .u16 x0 9) 1 == 0) (cond ((o48 x0 x1).isSome) (some (enc25 (((g48 x0 x1).fst, (g48 x0 x1).snd)), [])) none) (some (enc25 (((p49 x0 x1).fst, (p49 x0 x1).snd)), []))) (cond (shrF .u16 x0 11 == 30) (cond ((o50 x0 x1 x2).isSome) (some (enc25 (((g50 x0 x1 x2).fst, (g50 x0 x1 x2).snd)), [])) none) (cond (shrF .u16 x0 9 == 117) (cond ((o51 x0 x1).isSome) (some (enc25 (((g51 x0 x1).fst, (g51 x0 x1).snd)), [])) none) (cond (bif shrF .u16 x0 8 == 250 then shrF .u16 x1 12 == 15 else false) (some (enc25 (((p52 x0 x1).fst, (p52 x0 x1).snd)), [])) (cond (shrF .u16 x0 8 == 251) (some (enc25 (((p53 x0 x1).fst, (p53 x0 x1).snd)), [])) (cond (shrF .u16 x0 9 == 124) (some (enc25 (((p54 x0 x1).fst, (p54 x0 x1).snd)), [])) (cond (bif shrF .u16 x0 9 == 116 then bitsF .and .u16 (shrF .u16 x0 6) 1 == 0 else false) (some (enc25 (((p55 x0 x1).fst, (p55 x0 x1).snd)), [])) (some (enc25 ((S30.mk (0) (false) (false) (0) (0) (0) (0) (0) (0) (false) (0) (0) (0) (false) (false), false)), [])))))))))
theorem run25 (x0 : Int) (x1 : Int) (x2 : Bool) : funK ctx kn55 noLoops 3 25 [.sc (.int .u16 x0), .sc (.int .u16 x1), .sc (.bool x2)] [] 0 finV = tree25 x0 x1 x2 := by kernel_rfl
noncomputable def o25 (x0 : Int) (x1 : Int) (x2 : Bool) : Option (S30 × Bool) := (cond (bif shrF .u16 x0 11 == 30 then shrF .u16 x1 15 == 0 else false) (cond (bitsF .and .u16 (shrF .u16 x0 9) 1 == 0) (cond ((o48 x0 x1).isSome) (some (((g48 x0 x1).fst, (g48 x0 x1).snd))) none) (some (((p49 x0 x1).fst, (p49 x0 x1).snd)))) (cond (shrF .u16 x0 11 == 30) (cond ((o50 x0 x1 x2).isSome) (some (((g50 x0 x1 x2).fst, (g50 x0 x1 x2).snd))) none) (cond (shrF .u16 x0 9 == 117) (cond ((o51 x0 x1).isSome) (some (((g51 x0 x1).fst, (g51 x0 x1).snd))) none) (cond (bif shrF .u16 x0 8 == 250 then shrF .u16 x1 12 == 15 else false) (some (((p52 x0 x1).fst, (p52 x0 x1).snd))) (cond (shrF .u16 x0 8 == 251) (some (((p53 x0 x1).fst, (p53 x0 x1).snd))) (cond (shrF .u16 x0 9 == 124) (some (((p54 x0 x1).fst, (p54 x0 x1).snd))) (cond (bif shrF .u16 x0 9 == 116 then bitsF .and .u16 (shrF .u16 x0 6) 1 == 0 else false) (some (((p55 x0 x1).fst, (p55 x0 x1).snd))) (some ((S30.mk (0) (false) (false) (0) (0) (0) (0) (0) (0) (false) (0) (0) (0) (false) (false), false))))))))))
theorem told25 (x0 : Int) (x1 : Int) (x2 : Bool) : Told enc25 (tree25 x0 x1 x2) (o25 x0 x1 x2) := (told_c (fun h0 => (told_c (fun h1 => (told_c (fun h2 => told_leaf _) (fun h2 => told_none _))) (fun h1 => told_leaf _))) (fun h0 => (told_c (fun h1 => (told_c (fun h2 => told_leaf _) (fun h2 => told_none _))) (fun h1 => (told_c (fun h2 => (told_c (fun h3 => told_leaf _) (fun h3 => told_none _))) (fun h2 => (told_c (fun h3 => told_leaf _) (fun h3 => (told_c (fun h4 => told_leaf _) (fun h4 => (told_c (fun h5 => told_leaf _) (fun h5 => (told_c (fun h6 => told_leaf _) (fun h6 => told_leaf _))))))))))))))
noncomputable def g25 (x0 : Int) (x1 : Int) (x2 : Bool) : (S30 × Bool) := (o25 x0 x1 x2).getD default
noncomputable def k25 (l : List V) : Option (Bool × V) := match l with
  | [.sc (.int .u16 x0), .sc (.int .u16 x1), .sc (.bool x2)] => some ((o25 x0 x1 x2).isSome, enc25 (g25 x0 x1 x2))
  | _ => none
noncomputable def kn25 : Known := kn55.add 25 k25
theorem kn25_ok : KnownOK ctx kn25 150 := Known.add_ok kn55_ok rfl (by omega) (by
  intro l r h
  unfold k25 at h
  split at h
  · simp only [Option.some.injEq, Prod.mk.injEq] at h
    obtain ⟨h1, rfl⟩ := h
    obtain ⟨a, ha⟩ := Option.isSome_iff_exists.1 h1
    unfold g25
    rw [ha]
    exact ⟨(Told.spec kn55_ok (noLoops_ok _) (run25 _ _ _) (told25 _ _ _) ha).mono (by omega), rfl, rfl⟩
  · cases h)
def enc10 (y : S30) : V := encS30 y
noncomputable def tree10 (x0 : Int) (x1 : Int) (x2 : Bool) : R := (fun (t0 : Int) => (cond ((o25 x0 x1 x2).isSome) (cond (!(g25 x0 x1 x2).snd) (some (enc10 (S30.mk ((p26 t0).f_Op) (true) ((p26 t0).f_S) ((p26 t0).f_Cond) ((p26 t0).f_D) ((p26 t0).f_N) ((p26 t0).f_M) ((p26 t0).f_A) ((p26 t0).f_Imm) ((p26 t0).f_UseImm) ((p26 t0).f_Sh) ((p26 t0).f_Amt) ((p26 t0).f_List) ((p26 t0).f_Back) ((p26 t0).f_Down)), [])) (cond ((g25 x0 x1 x2).fst.f_Op == 65) (some (enc10 (S30.mk ((p27 t0).f_Op) (true) ((p27 t0).f_S) ((p27 t0).f_Cond) ((p27 t0).f_D) ((p27 t0).f_N) ((p27 t0).f_M) ((p27 t0).f_A) ((p27 t0).f_Imm) ((p27 t0).f_UseImm) ((p27 t0).f_Sh) ((p27 t0).f_Amt) ((p27 t0).f_List) ((p27 t0).f_Back) ((p27 t0).f_Down)), [])) (some (enc10 ((g25 x0 x1 x2).fst), [])))) none)) (bitsF .or .u32 (shlF .u32 (wrapF .u32 x0) 16) (wrapF .u32 x1))
theorem run10 (x0 : Int) (x1 : Int) (x2 : Bool) : funK ctx kn25 noLoops 3 10 [.sc (.int .u16 x0), .sc (.int .u16 x1), .sc (.bool x2)] [] 0 finV = tree10 x0 x1 x2 := by kernel_rfl
noncomputable def o10 (x0 : Int) (x1 : Int) (x2 : Bool) : Option S30 := (fun (t0 : Int) => (cond ((o25 x0 x1 x2).isSome) (cond (!(g25 x0 x1 x2).snd) (some (S30.mk ((p26 t0).f_Op) (true) ((p26 t0).f_S) ((p26 t0).f_Cond) ((p26 t0).f_D) ((p26 t0).f_N) ((p26 t0).f_M) ((p26 t0).f_A) ((p26 t0).f_Imm) ((p26 t0).f_UseImm) ((p26 t0).f_Sh) ((p26 t0).f_Amt) ((p26 t0).f_List) ((p26 t0).f_Back) ((p26 t0).f_Down))) (cond ((g25 x0 x1 x2).fst.f_Op == 65) (some (S30.mk ((p27 t0).f_Op) (true) ((p27 t0).f_S) ((p27 t0).f_Cond) ((p27 t0).f_D) ((p27 t0).f_N) ((p27 t0).f_M) ((p27 t0).f_A) ((p27 t0).f_Imm) ((p27 t0).f_UseImm) ((p27 t0).f_Sh) ((p27 t0).f_Amt) ((p27 t0).f_List) ((p27 t0).f_Back) ((p27 t0).f_Down))) (some ((g25 x0 x1 x2).fst)))) none)) (bitsF .or .u32 (shlF .u32 (wrapF .u32 x0) 16) (wrapF .u32 x1))
theorem told10 (x0 : Int) (x1 : Int) (x2 : Bool) : Told enc10 (tree10 x0 x1 x2) (o10 x0 x1 x2) := (told_c (fun h0 => (told_c (fun h1 => told_leaf _) (fun h1 => (told_c (fun h2 => told_leaf _) (fun h2 => told_leaf _))))) (fun h0 => told_none _))
noncomputable def g10 (x0 : Int) (x1 : Int) (x2 : Bool) : S30 := (o10 x0 x1 x2).getD default
noncomputable def k10 (l : List V) : Option (Bool × V) := match l with
  | [.sc (.int .u16 x0), .sc (.int .u16 x1), .sc (.bool x2)] => some ((o10 x0 x1 x2).isSome, enc10 (g10 x0 x1 x2))
  | _ => none
noncomputable def kn10 : Known := kn25.add 10 k10
theorem kn10_ok : KnownOK ctx kn10 153 := Known.add_ok kn25_ok rfl (by omega) (by
  intro l r h
  unfold k10 at h
  split at h
  · simp only [Option.some.injEq, Prod.mk.injEq] at h
    obtain ⟨h1, rfl⟩ := h
    obtain ⟨a, ha⟩ := Option.isSome_iff_exists.1 h1
    unfold g10
    rw [ha]
    exact ⟨(Told.spec kn25_ok (noLoops_ok _) (run10 _ _ _) (told10 _ _ _) ha).mono (by omega), rfl, rfl⟩
  · cases h)
def enc9 (y : S30) : V := encS30 y
noncomputable def tree9 (x0 : Int) (x1 : Int) (x2 : Bool) : R := (fun (t1 : Int) => (fun (t2 : Int) => (fun (t0 : R) => (cond (bif shrF .u16 x0 11 == 30 then !g37 t2 15 1 == 0 else false) (some (enc9 ((p16 t1 t2 x2)), [])) (cond (shrF .u16 x0 11 == 30) (cond (g37 t1 9 1 == 0) (cond ((o17 t1 t2 x2).isSome) (some (enc9 ((g17 t1 t2 x2)), [])) none) t0) t0))) (cond (shrF .u16 x0 11 == 30) (some (enc9 ((p18 t1 t2 x2)), [])) (cond (bif g37 t1 9 7 == 117 then g37 t2 15 1 == 0 else false) (some (enc9 ((p19 t1 t2 x2)), [])) (cond (g37 t1 9 7 == 124) (some (enc9 ((p20 t1 t2 x2)), [])) (cond (shrF .u16 x0 8 == 250) (some (enc9 ((p21 t1 t2 x2)), [])) (cond (shrF .u16 x0 8 == 251) (some (enc9 ((p22 t1 t2 x2)), [])) (cond (bif shrF .u16 x0 6 == 930 then true else shrF .u16 x0 6 == 932) (some (enc9 ((p23 t1 t2 x2)), [])) (some (enc9 ((p24 t1 t2 x2)), []))))))))) (wrapF .u32 x1)) (wrapF .u32 x0)
theorem run9 (x0 : Int) (x1 : Int) (x2 : Bool) : funK ctx kn10 noLoops 3 9 [.sc (.int .u16 x0), .sc (.int .u16 x1), .sc (.bool x2)] [] 0 finV = tree9 x0 x1 x2 := by kernel_rfl
noncomputable def o9 (x0 : Int) (x1 : Int) (x2 : Bool) : Option S30 := (cond (bif shrF .u16 x0 11 == 30 then !g37 (wrapF .u32 x1) 15 1 == 0 else false) (some ((p16 (wrapF .u32 x0) (wrapF .u32 x1) x2))) (cond (shrF .u16 x0 11 == 30) (cond (g37 (wrapF .u32 x0) 9 1 == 0) (cond ((o17 (wrapF .u32 x0) (wrapF .u32 x1) x2).isSome) (some ((g17 (wrapF .u32 x0) (wrapF .u32 x1) x2))) none) (some ((p18 (wrapF .u32 x0) (wrapF .u32 x1) x2)))) (cond (bif g37 (wrapF .u32 x0) 9 7 == 117 then g37 (wrapF .u32 x1) 15 1 == 0 else false) (some ((p19 (wrapF .u32 x0) (wrapF .u32 x1) x2))) (cond (g37 (wrapF .u32 x0) 9 7 == 124) (some ((p20 (wrapF .u32 x0) (wrapF .u32 x1) x2))) (cond (shrF .u16 x0 8 == 250) (some ((p21 (wrapF .u32 x0) (wrapF .u32 x1) x2))) (cond (shrF .u16 x0 8 == 251) (some ((p22 (wrapF .u32 x0) (wrapF .u32 x1) x2))) (cond (bif shrF .u16 x0 6 == 930 then true else shrF .u16 x0 6 == 932) (some ((p23 (wrapF .u32 x0) (wrapF .u32 x1) x2))) (some ((p24 (wrapF .u32 x0) (wrapF .u32 x1) x2))))))))))
theorem told9 (x0 : Int) (x1 : Int) (x2 : Bool) : Told enc9 (tree9 x0 x1 x2) (o9 x0 x1 x2) := (told_c (fun h0 => told_leaf _) (fun h0 => (told_c (fun h1 => (told_c (fun h2 => (told_c (fun h3 => told_leaf _) (fun h3 => told_none _))) (fun h2 => (told_t h1 (told_leaf _))))) (fun h1 => (told_f h1 ((told_c (fun h3 => told_leaf _) (fun h3 => (told_c (fun h4 => told_leaf _) (fun h4 => (told_c (fun h5 => told_leaf _) (fun h5 => (told_c (fun h6 => told_leaf _) (fun h6 => (told_c (fun h7 => told_leaf _) (fun h7 => told_leaf _))))))))))))))))
noncomputable def g9 (x0 : Int) (x1 : Int) (x2 : Bool) : S30 := (o9 x0 x1 x2).getD default
noncomputable def k9 (l : List V) : Option (Bool × V) := match l with
  | [.sc (.int .u16 x0), .sc (.int .u16 x1), .sc (.bool x2)] => some ((o9 x0 x1 x2).isSome, enc9 (g9 x0 x1 x2))
  | _ => none
noncomputable def kn9 : Known := kn10.add 9 k9
theorem kn9_ok : KnownOK ctx kn9 156 := Known.add_ok kn10_ok rfl (by omega) (by
  intro l r h
  unfold k9 at h
  split at h
  · simp only [Option.some.injEq, Prod.mk.injEq] at h
    obtain ⟨h1, rfl⟩ := h
    obtain ⟨a, ha⟩ := Option.isSome_iff_exists.1 h1
    unfold g9
    rw [ha]
    exact ⟨(Told.spec kn10_ok (noLoops_ok _) (run9 _ _ _) (told9 _ _ _) ha).mono (by omega), rfl, rfl⟩
  · cases h)
end Go.Den
