import Derived.Test.YtihdbaehaiaiiaaW4
import Derived.Test.YtihdbaehaiaiiaaV0
set_option linter.unusedSimpArgs false
set_option linter.unusedVariables false
set_option maxRecDepth 100000
namespace Go.Den
def enc56 (y : S30) : V := encS30 y
noncomputable def tree56 (x0 : Int) : R := (some (enc56 (S30.mk (x0) (false) (false) (14) (0) (0) (0) (0) (0) (false) (0) (0) (0) (false) (false)), []))
theorem run56 (x0 : Int) : funK ctx kn20 noLoops 3 56 [.sc (.int .i64 x0)] [] 0 finV = tree56 x0 := by kernel_rfl
noncomputable def p56 (x0 : Int) : S30 := (S30.mk (x0) (false) (false) (14) (0) (0) (0) (0) (0) (false) (0) (0) (0) (false) (false))
theorem told56 (x0 : Int) : Told enc56 (tree56 x0) (some (p56 x0)) := told_leaf _
noncomputable def k56 (l : List V) : Option (Bool × V) := match l with
  | [.sc (.int .i64 x0)] => some (true, enc56 (p56 x0))
  | _ => none
noncomputable def kn56 : Known := kn20.add 56 k56
theorem kn56_ok : KnownOK ctx kn56 69 := Known.add_ok kn20_ok rfl (by omega) (by
  intro l r h
  unfold k56 at h
  split at h
  · simp only [Option.some.injEq, Prod.mk.injEq] at h
    obtain ⟨_, rfl⟩ := h
    exact ⟨(Told.spec kn20_ok (noLoops_ok _) (run56 _) (told56 _) rfl).mono (by omega), rfl, rfl⟩
  · cases h)
def enc80 (y : S30) : V := encS30 y
noncomputable def tree80 (x0 : Int) : R := (some (enc80 (S30.mk ((p56 x0).f_Op) (true) ((p56 x0).f_S) ((p56 x0).f_Cond) ((p56 x0).f_D) ((p56 x0).f_N) ((p56 x0).f_M) ((p56 x0).f_A) ((p56 x0).f_Imm) ((p56 x0).f_UseImm) ((p56 x0).f_Sh) ((p56 x0).f_Amt) ((p56 x0).f_List) ((p56 x0).f_Back) ((p56 x0).f_Down)), []))
theorem run80 (x0 : Int) : funK ctx kn56 noLoops 3 80 [.sc (.int .i64 x0)] [] 0 finV = tree80 x0 := by kernel_rfl
noncomputable def p80 (x0 : Int) : S30 := (S30.mk ((p56 x0).f_Op) (true) ((p56 x0).f_S) ((p56 x0).f_Cond) ((p56 x0).f_D) ((p56 x0).f_N) ((p56 x0).f_M) ((p56 x0).f_A) ((p56 x0).f_Imm) ((p56 x0).f_UseImm) ((p56 x0).f_Sh) ((p56 x0).f_Amt) ((p56 x0).f_List) ((p56 x0).f_Back) ((p56 x0).f_Down))
theorem told80 (x0 : Int) : Told enc80 (tree80 x0) (some (p80 x0)) := told_leaf _
noncomputable def k80 (l : List V) : Option (Bool × V) := match l with
  | [.sc (.int .i64 x0)] => some (true, enc80 (p80 x0))
  | _ => none
noncomputable def kn80 : Known := kn56.add 80 k80
theorem kn80_ok : KnownOK ctx kn80 72 := Known.add_ok kn56_ok rfl (by omega) (by
  intro l r h
  unfold k80 at h
  split at h
  · simp only [Option.some.injEq, Prod.mk.injEq] at h
    obtain ⟨_, rfl⟩ := h
    exact ⟨(Told.spec kn56_ok (noLoops_ok _) (run80 _) (told80 _) rfl).mono (by omega), rfl, rfl⟩
  · cases h)
def enc79 (y : (S30 × Bool)) : V := .tup [encS30 y.1, .sc (.bool y.2)]
noncomputable def tree79  : R := (some (enc79 ((S30.mk (65) (true) (false) (14) (0) (0) (0) (0) (0) (false) (0) (0) (0) (false) (false), true)), []))
theorem run79  : funK ctx kn80 noLoops 3 79 [] [] 0 finV = tree79  := by kernel_rfl
noncomputable def p79  : (S30 × Bool) := ((S30.mk (65) (true) (false) (14) (0) (0) (0) (0) (0) (false) (0) (0) (0) (false) (false), true))
theorem told79  : Told enc79 (tree79 ) (some (p79 )) := told_leaf _
noncomputable def k79 (l : List V) : Option (Bool × V) := match l with
  | [] => some (true, enc79 (p79 ))
  | _ => none
noncomputable def kn79 : Known := kn80.add 79 k79
theorem kn79_ok : KnownOK ctx kn79 75 := Known.add_ok kn80_ok rfl (by omega) (by
  intro l r h
  unfold k79 at h
  split at h
  · simp only [Option.some.injEq, Prod.mk.injEq] at h
    obtain ⟨_, rfl⟩ := h
    exact ⟨(Told.spec kn80_ok (noLoops_ok _) (run79) (told79) rfl).mono (by omega), rfl, rfl⟩
  · cases h)
def enc26 (y : S30) : V := encS30 y
noncomputable def tree26 (x0 : Int) : R := (some (enc26 (S30.mk (64) (false) (false) (14) (0) (0) (0) (0) (x0) (false) (0) (0) (0) (false) (false)), []))
theorem run26 (x0 : Int) : funK ctx kn79 noLoops 3 26 [.sc (.int .u32 x0)] [] 0 finV = tree26 x0 := by kernel_rfl
noncomputable def p26 (x0 : Int) : S30 := (S30.mk (64) (false) (false) (14) (0) (0) (0) (0) (x0) (false) (0) (0) (0) (false) (false))
theorem told26 (x0 : Int) : Told enc26 (tree26 x0) (some (p26 x0)) := told_leaf _
noncomputable def k26 (l : List V) : Option (Bool × V) := match l with
  | [.sc (.int .u32 x0)] => some (true, enc26 (p26 x0))
  | _ => none
noncomputable def kn26 : Known := kn79.add 26 k26
theorem kn26_ok : KnownOK ctx kn26 78 := Known.add_ok kn79_ok rfl (by omega) (by
  intro l r h
  unfold k26 at h
  split at h
  · simp only [Option.some.injEq, Prod.mk.injEq] at h
    obtain ⟨_, rfl⟩ := h
    exact ⟨(Told.spec kn79_ok (noLoops_ok _) (run26 _) (told26 _) rfl).mono (by omega), rfl, rfl⟩
  · cases h)
def enc27 (y : S30) : V := encS30 y
noncomputable def tree27 (x0 : Int) : R := (some (enc27 (S30.mk (65) (false) (false) (14) (0) (0) (0) (0) (x0) (false) (0) (0) (0) (false) (false)), []))
theorem run27 (x0 : Int) : funK ctx kn26 noLoops 3 27 [.sc (.int .u32 x0)] [] 0 finV = tree27 x0 := by kernel_rfl
noncomputable def p27 (x0 : Int) : S30 := (S30.mk (65) (false) (false) (14) (0) (0) (0) (0) (x0) (false) (0) (0) (0) (false) (false))
theorem told27 (x0 : Int) : Told enc27 (tree27 x0) (some (p27 x0)) := told_leaf _
noncomputable def k27 (l : List V) : Option (Bool × V) := match l with
  | [.sc (.int .u32 x0)] => some (true, enc27 (p27 x0))
  | _ => none
noncomputable def kn27 : Known := kn26.add 27 k27
theorem kn27_ok : KnownOK ctx kn27 81 := Known.add_ok kn26_ok rfl (by omega) (by
  intro l r h
  unfold k27 at h
  split at h
  · simp only [Option.some.injEq, Prod.mk.injEq] at h
    obtain ⟨_, rfl⟩ := h
    exact ⟨(Told.spec kn26_ok (noLoops_ok _) (run27 _) (told27 _) rfl).mono (by omega), rfl, rfl⟩
  · cases h)
def enc81 (y : Bool) : V := .sc (.bool y)
noncomputable def tree81 (x0 : Int) : R := (cond (x0 == 13) (some (enc81 (true), [])) (some (enc81 (x0 == 15), [])))
theorem run81 (x0 : Int) : funK ctx kn27 noLoops 3 81 [.sc (.int .i64 x0)] [] 0 finV = tree81 x0 := by kernel_rfl
noncomputable def p81 (x0 : Int) : Bool := (cond (x0 == 13) (true) (x0 == 15))
theorem told81 (x0 : Int) : Told enc81 (tree81 x0) (some (p81 x0)) := (told_p (fun h0 => told_leaf _) (fun h0 => told_leaf _))
noncomputable def k81 (l : List V) : Option (Bool × V) := match l with
  | [.sc (.int .i64 x0)] => some (true, enc81 (p81 x0))
  | _ => none
noncomputable def kn81 : Known := kn27.add 81 k81
theorem kn81_ok : KnownOK ctx kn81 84 := Known.add_ok kn27_ok rfl (by omega) (by
  intro l r h
  unfold k81 at h
  split at h
  · simp only [Option.some.injEq, Prod.mk.injEq] at h
    obtain ⟨_, rfl⟩ := h
    exact ⟨(Told.spec kn27_ok (noLoops_ok _) (run81 _) (told81 _) rfl).mono (by omega), rfl, rfl⟩
  · cases h)
def enc78 (y : Bool) : V := .sc (.bool y)
noncomputable def tree78 (e : Int) (w : Bool) (i : Bool) (o : Int) (c : Int) (d : Int) (t : Int) (g : Int) (q : Int) (v : Bool) (u : Int) (j : Int) (s : Int) (m : Bool) (p : Bool) (x1 : Bool) : R := (fun (t0 : R) => (fun (t1 : R) => (fun (t2 : R) => (fun (t3 : R) => (cond (x1) (cond (e == 5) (cond (p81 d) (cond (d == 13) (cond (x1) t3 t0) t0) t3) (cond (p81 d) (cond (d == 13) (cond (x1) (cond (e == 3) t1 (cond (e == 10) t1 (cond (!e == 11) t0 t1))) t0) t0) t1)) (cond (p81 d) (cond (d == 13) (cond (x1) (cond (e == 10) t2 (cond (!e == 11) t0 t2)) t0) t0) t2))) (cond (!p81 c) (some (enc78 (true), [])) (cond (c == 13) (some (enc78 (d == 13), [])) t0))) (cond (!p81 c) (some (enc78 (true), [])) (cond (c == 13) t0 t0))) (cond (!p81 c) (some (enc78 (true), [])) (cond (c == 13) (cond (e == 3) (some (enc78 (d == 13), [])) t0) t0))) (some (enc78 (false), []))
theorem run78 (e : Int) (w : Bool) (i : Bool) (o : Int) (c : Int) (d : Int) (t : Int) (g : Int) (q : Int) (v : Bool) (u : Int) (j : Int) (s : Int) (m : Bool) (p : Bool) (x1 : Bool) : funK ctx kn81 noLoops 3 78 [.agg [.sc (.int .i64 e), .sc (.bool w), .sc (.bool i), .sc (.int .i64 o), .sc (.int .i64 c), .sc (.int .i64 d), .sc (.int .i64 t), .sc (.int .i64 g), .sc (.int .u32 q), .sc (.bool v), .sc (.int .i64 u), .sc (.int .i64 j), .sc (.int .i64 s), .sc (.bool m), .sc (.bool p)], .sc (.bool x1)] [] 0 finV = tree78 e w i o c d t g q v u j s m p x1 := by kernel_rfl
noncomputable def p78 (e : Int) (w : Bool) (i : Bool) (o : Int) (c : Int) (d : Int) (t : Int) (g : Int) (q : Int) (v : Bool) (u : Int) (j : Int) (s : Int) (m : Bool) (p : Bool) (x1 : Bool) : Bool := (cond (x1) (cond (e == 5) (cond (p81 d) (cond (d == 13) (cond (!p81 c) (true) (cond (c == 13) (d == 13) (false))) (false)) (cond (!p81 c) (true) (cond (c == 13) (d == 13) (false)))) (cond (p81 d) (cond (d == 13) (cond (e == 3) (cond (!p81 c) (true) (cond (c == 13) (d == 13) (false))) (cond (e == 10) (cond (!p81 c) (true) (false)) (cond (!e == 11) (false) (cond (!p81 c) (true) (false))))) (false)) (cond (!p81 c) (true) (cond (c == 13) (cond (e == 3) (d == 13) (false)) (false))))) (cond (p81 d) (false) (cond (!p81 c) (true) (false))))
theorem told78 (e : Int) (w : Bool) (i : Bool) (o : Int) (c : Int) (d : Int) (t : Int) (g : Int) (q : Int) (v : Bool) (u : Int) (j : Int) (s : Int) (m : Bool) (p : Bool) (x1 : Bool) : Told enc78 (tree78 e w i o c d t g q v u j s m p x1) (some (p78 e w i o c d t g q v u j s m p x1)) := (told_p (fun h0 => (told_p (fun h1 => (told_p (fun h2 => (told_p (fun h3 => (told_t h0 ((told_p (fun h5 => told_leaf _) (fun h5 => (told_p (fun h6 => told_leaf _) (fun h6 => told_leaf _))))))) (fun h3 => told_leaf _))) (fun h2 => (told_p (fun h3 => told_leaf _) (fun h3 => (told_p (fun h4 => told_leaf _) (fun h4 => told_leaf _))))))) (fun h1 => (told_p (fun h2 => (told_p (fun h3 => (told_t h0 ((told_p (fun h5 => (told_p (fun h6 => told_leaf _) (fun h6 => (told_p (fun h7 => (told_t h5 (told_leaf _))) (fun h7 => told_leaf _))))) (fun h5 => (told_p (fun h6 => (told_p (fun h7 => told_leaf _) (fun h7 => (told_s (fun h8 => (told_f h5 (told_leaf _))) (fun h8 => told_leaf _))))) (fun h6 => (told_p (fun h7 => told_leaf _) (fun h7 => (told_p (fun h8 => told_leaf _) (fun h8 => (told_s (fun h9 => (told_f h5 (told_leaf _))) (fun h9 => told_leaf _))))))))))))) (fun h3 => told_leaf _))) (fun h2 => (told_p (fun h3 => told_leaf _) (fun h3 => (told_p (fun h4 => (told_p (fun h5 => told_leaf _) (fun h5 => told_leaf _))) (fun h4 => told_leaf _))))))))) (fun h0 => (told_p (fun h1 => (told_s (fun h2 => (told_f h0 (told_leaf _))) (fun h2 => told_leaf _))) (fun h1 => (told_p (fun h2 => told_leaf _) (fun h2 => (told_s (fun h3 => told_leaf _) (fun h3 => told_leaf _))))))))
noncomputable def k78 (l : List V) : Option (Bool × V) := match l with
  | [.agg [.sc (.int .i64 e), .sc (.bool w), .sc (.bool i), .sc (.int .i64 o), .sc (.int .i64 c), .sc (.int .i64 d), .sc (.int .i64 t), .sc (.int .i64 g), .sc (.int .u32 q), .sc (.bool v), .sc (.int .i64 u), .sc (.int .i64 j), .sc (.int .i64 s), .sc (.bool m), .sc (.bool p)], .sc (.bool x1)] => some (true, enc78 (p78 e w i o c d t g q v u j s m p x1))
  | _ => none
noncomputable def kn78 : Known := kn81.add 78 k78
theorem kn78_ok : KnownOK ctx kn78 87 := Known.add_ok kn81_ok rfl (by omega) (by
  intro l r h
  unfold k78 at h
  split at h
  · simp only [Option.some.injEq, Prod.mk.injEq] at h
    obtain ⟨_, rfl⟩ := h
    exact ⟨(Told.spec kn81_ok (noLoops_ok _) (run78 _ _ _ _ _ _ _ _ _ _ _ _ _ _ _ _) (told78 _ _ _ _ _ _ _ _ _ _ _ _ _ _ _ _) rfl).mono (by omega), rfl, rfl⟩
  · cases h)
def enc77 (y : (S30 × Bool)) : V := .tup [encS30 y.1, .sc (.bool y.2)]
noncomputable def tree77 (x0 : Int) (x1 : Int) (x2 : Int) (x3 : Bool) : R := (fun (t0 : Int) => (fun (t8 : R) => (fun (t7 : R) => (fun (t2 : R) => (fun (t1 : R) => (fun (t3 : R) => (fun (t4 : R) => (fun (t5 : R) => (fun (t6 : R) => (cond (decide (0 ≤ x0 ∧ x0 < 16)) (cond (decide (x0.toNat < 16)) (cond ((p80 t0).f_Op == 0) (some (enc77 ((S30.mk ((p80 t0).f_Op) ((p80 t0).f_Wide) (x3) ((p80 t0).f_Cond) (x1) (x2) ((p80 t0).f_M) ((p80 t0).f_A) ((p80 t0).f_Imm) ((p80 t0).f_UseImm) ((p80 t0).f_Sh) ((p80 t0).f_Amt) ((p80 t0).f_List) ((p80 t0).f_Back) ((p80 t0).f_Down), false)), [])) (cond (x1 == 15) (cond (x3) (cond ((p80 t0).f_Op == 1) (cond (x2 == 15) (cond (x2 == 15) t5 t5) (cond (x2 == 15) t5 t5)) (cond ((p80 t0).f_Op == 2) (cond (x2 == 15) (cond (x2 == 15) t6 t6) (cond (x2 == 15) t6 t6)) (cond ((p80 t0).f_Op == 5) (cond (x2 == 15) (cond (x2 == 15) t3 t3) (cond (x2 == 15) t3 t3)) (cond ((p80 t0).f_Op == 3) (cond (x2 == 15) (cond (x2 == 15) t4 t4) (cond (x2 == 15) t4 t4)) t1)))) t1) t1)) none) none)) (some (enc77 ((S30.mk (9) ((p80 t0).f_Wide) (x3) ((p80 t0).f_Cond) (0) (x2) ((p80 t0).f_M) ((p80 t0).f_A) ((p80 t0).f_Imm) ((p80 t0).f_UseImm) ((p80 t0).f_Sh) ((p80 t0).f_Amt) ((p80 t0).f_List) ((p80 t0).f_Back) ((p80 t0).f_Down), true)), []))) (some (enc77 ((S30.mk (8) ((p80 t0).f_Wide) (x3) ((p80 t0).f_Cond) (0) (x2) ((p80 t0).f_M) ((p80 t0).f_A) ((p80 t0).f_Imm) ((p80 t0).f_UseImm) ((p80 t0).f_Sh) ((p80 t0).f_Amt) ((p80 t0).f_List) ((p80 t0).f_Back) ((p80 t0).f_Down), true)), []))) (some (enc77 ((S30.mk (10) ((p80 t0).f_Wide) (x3) ((p80 t0).f_Cond) (0) (x2) ((p80 t0).f_M) ((p80 t0).f_A) ((p80 t0).f_Imm) ((p80 t0).f_UseImm) ((p80 t0).f_Sh) ((p80 t0).f_Amt) ((p80 t0).f_List) ((p80 t0).f_Back) ((p80 t0).f_Down), true)), []))) (some (enc77 ((S30.mk (11) ((p80 t0).f_Wide) (x3) ((p80 t0).f_Cond) (0) (x2) ((p80 t0).f_M) ((p80 t0).f_A) ((p80 t0).f_Imm) ((p80 t0).f_UseImm) ((p80 t0).f_Sh) ((p80 t0).f_Amt) ((p80 t0).f_List) ((p80 t0).f_Back) ((p80 t0).f_Down), true)), []))) (cond (x2 == 15) (cond ((p80 t0).f_Op == 12) (cond (x2 == 15) t8 t8) t2) t2)) (cond (x2 == 15) (cond ((p80 t0).f_Op == 16) (some (enc77 ((S30.mk (15) ((p80 t0).f_Wide) (x3) ((p80 t0).f_Cond) (x1) (0) ((p80 t0).f_M) ((p80 t0).f_A) ((p80 t0).f_Imm) ((p80 t0).f_UseImm) ((p80 t0).f_Sh) ((p80 t0).f_Amt) ((p80 t0).f_List) ((p80 t0).f_Back) ((p80 t0).f_Down), true)), [])) t7) t7)) (some (enc77 ((S30.mk ((p80 t0).f_Op) ((p80 t0).f_Wide) (x3) ((p80 t0).f_Cond) (x1) (x2) ((p80 t0).f_M) ((p80 t0).f_A) ((p80 t0).f_Imm) ((p80 t0).f_UseImm) ((p80 t0).f_Sh) ((p80 t0).f_Amt) ((p80 t0).f_List) ((p80 t0).f_Back) ((p80 t0).f_Down), true)), []))) (some (enc77 ((S30.mk (13) ((p80 t0).f_Wide) (x3) ((p80 t0).f_Cond) (x1) (0) ((p80 t0).f_M) ((p80 t0).f_A) ((p80 t0).f_Imm) ((p80 t0).f_UseImm) ((p80 t0).f_Sh) ((p80 t0).f_Amt) ((p80 t0).f_List) ((p80 t0).f_Back) ((p80 t0).f_Down), true)), []))) (getI [1, 14, 12, 16, 2, 0, 0, 0, 5, 0, 6, 7, 0, 3, 4, 0] x0.toNat)
theorem run77 (x0 : Int) (x1 : Int) (x2 : Int) (x3 : Bool) : funK ctx kn78 noLoops 3 77 [.sc (.int .i64 x0), .sc (.int .i64 x1), .sc (.int .i64 x2), .sc (.bool x3)] [] 0 finV = tree77 x0 x1 x2 x3 := by kernel_rfl
noncomputable def o77 (x0 : Int) (x1 : Int) (x2 : Int) (x3 : Bool) : Option (S30 × Bool) := (fun (t0 : Int) => (fun (t2 : Option (S30 × Bool)) => (fun (t1 : Option (S30 × Bool)) => (cond (decide (0 ≤ x0 ∧ x0 < 16)) (cond ((p80 t0).f_Op == 0) (some ((S30.mk ((p80 t0).f_Op) ((p80 t0).f_Wide) (x3) ((p80 t0).f_Cond) (x1) (x2) ((p80 t0).f_M) ((p80 t0).f_A) ((p80 t0).f_Imm) ((p80 t0).f_UseImm) ((p80 t0).f_Sh) ((p80 t0).f_Amt) ((p80 t0).f_List) ((p80 t0).f_Back) ((p80 t0).f_Down), false))) (cond (x1 == 15) (cond (x3) (cond ((p80 t0).f_Op == 1) (some ((S30.mk (8) ((p80 t0).f_Wide) (x3) ((p80 t0).f_Cond) (0) (x2) ((p80 t0).f_M) ((p80 t0).f_A) ((p80 t0).f_Imm) ((p80 t0).f_UseImm) ((p80 t0).f_Sh) ((p80 t0).f_Amt) ((p80 t0).f_List) ((p80 t0).f_Back) ((p80 t0).f_Down), true))) (cond ((p80 t0).f_Op == 2) (some ((S30.mk (9) ((p80 t0).f_Wide) (x3) ((p80 t0).f_Cond) (0) (x2) ((p80 t0).f_M) ((p80 t0).f_A) ((p80 t0).f_Imm) ((p80 t0).f_UseImm) ((p80 t0).f_Sh) ((p80 t0).f_Amt) ((p80 t0).f_List) ((p80 t0).f_Back) ((p80 t0).f_Down), true))) (cond ((p80 t0).f_Op == 5) (some ((S30.mk (11) ((p80 t0).f_Wide) (x3) ((p80 t0).f_Cond) (0) (x2) ((p80 t0).f_M) ((p80 t0).f_A) ((p80 t0).f_Imm) ((p80 t0).f_UseImm) ((p80 t0).f_Sh) ((p80 t0).f_Amt) ((p80 t0).f_List) ((p80 t0).f_Back) ((p80 t0).f_Down), true))) (cond ((p80 t0).f_Op == 3) (some ((S30.mk (10) ((p80 t0).f_Wide) (x3) ((p80 t0).f_Cond) (0) (x2) ((p80 t0).f_M) ((p80 t0).f_A) ((p80 t0).f_Imm) ((p80 t0).f_UseImm) ((p80 t0).f_Sh) ((p80 t0).f_Amt) ((p80 t0).f_List) ((p80 t0).f_Back) ((p80 t0).f_Down), true))) t1)))) t1) t1)) none)) (cond (x2 == 15) (cond ((p80 t0).f_Op == 12) (some ((S30.mk (13) ((p80 t0).f_Wide) (x3) ((p80 t0).f_Cond) (x1) (0) ((p80 t0).f_M) ((p80 t0).f_A) ((p80 t0).f_Imm) ((p80 t0).f_UseImm) ((p80 t0).f_Sh) ((p80 t0).f_Amt) ((p80 t0).f_List) ((p80 t0).f_Back) ((p80 t0).f_Down), true))) (cond ((p80 t0).f_Op == 16) (some ((S30.mk (15) ((p80 t0).f_Wide) (x3) ((p80 t0).f_Cond) (x1) (0) ((p80 t0).f_M) ((p80 t0).f_A) ((p80 t0).f_Imm) ((p80 t0).f_UseImm) ((p80 t0).f_Sh) ((p80 t0).f_Amt) ((p80 t0).f_List) ((p80 t0).f_Back) ((p80 t0).f_Down), true))) t2)) t2)) (some ((S30.mk ((p80 t0).f_Op) ((p80 t0).f_Wide) (x3) ((p80 t0).f_Cond) (x1) (x2) ((p80 t0).f_M) ((p80 t0).f_A) ((p80 t0).f_Imm) ((p80 t0).f_UseImm) ((p80 t0).f_Sh) ((p80 t0).f_Amt) ((p80 t0).f_List) ((p80 t0).f_Back) ((p80 t0).f_Down), true)))) (getI [1, 14, 12, 16, 2, 0, 0, 0, 5, 0, 6, 7, 0, 3, 4, 0] x0.toNat)
theorem told77 (x0 : Int) (x1 : Int) (x2 : Int) (x3 : Bool) : Told enc77 (tree77 x0 x1 x2 x3) (o77 x0 x1 x2 x3) := (told_c (fun h0 => (told_t (by try simp only [decide_eq_true_eq, decide_eq_false_iff_not, beq_iff_eq, beq_eq_false_iff_ne, bne_iff_ne, bne_eq_false_iff_eq, Bool.not_eq_true', Bool.not_eq_false'] at *; omega) ((told_c (fun h2 => told_leaf _) (fun h2 => (told_c (fun h3 => (told_c (fun h4 => (told_c (fun h5 => (told_s (fun h6 => (told_t h6 (told_leaf _))) (fun h6 => (told_f h6 (told_leaf _))))) (fun h5 => (told_c (fun h6 => (told_s (fun h7 => (told_t h7 (told_leaf _))) (fun h7 => (told_f h7 (told_leaf _))))) (fun h6 => (told_c (fun h7 => (told_s (fun h8 => (told_t h8 (told_leaf _))) (fun h8 => (told_f h8 (told_leaf _))))) (fun h7 => (told_c (fun h8 => (told_s (fun h9 => (told_t h9 (told_leaf _))) (fun h9 => (told_f h9 (told_leaf _))))) (fun h8 => (told_c (fun h9 => (told_c (fun h10 => (told_t h9 (told_leaf _))) (fun h10 => (told_t h9 ((told_c (fun h12 => told_leaf _) (fun h12 => told_leaf _))))))) (fun h9 => (told_f h9 (told_leaf _))))))))))))) (fun h4 => (told_c (fun h5 => (told_c (fun h6 => (told_t h5 (told_leaf _))) (fun h6 => (told_t h5 ((told_c (fun h8 => told_leaf _) (fun h8 => told_leaf _))))))) (fun h5 => (told_f h5 (told_leaf _))))))) (fun h3 => (told_c (fun h4 => (told_c (fun h5 => (told_t h4 (told_leaf _))) (fun h5 => (told_t h4 ((told_c (fun h7 => told_leaf _) (fun h7 => told_leaf _))))))) (fun h4 => (told_f h4 (told_leaf _))))))))))) (fun h0 => told_none _))
noncomputable def g77 (x0 : Int) (x1 : Int) (x2 : Int) (x3 : Bool) : (S30 × Bool) := (o77 x0 x1 x2 x3).getD default
noncomputable def k77 (l : List V) : Option (Bool × V) := match l with
  | [.sc (.int .i64 x0), .sc (.int .i64 x1), .sc (.int .i64 x2), .sc (.bool x3)] => some ((o77 x0 x1 x2 x3).isSome, enc77 (g77 x0 x1 x2 x3))
  | _ => none
noncomputable def kn77 : Known := kn78.add 77 k77
theorem kn77_ok : KnownOK ctx kn77 90 := Known.add_ok kn78_ok rfl (by omega) (by
  intro l r h
  unfold k77 at h
  split at h
  · simp only [Option.some.injEq, Prod.mk.injEq] at h
    obtain ⟨h1, rfl⟩ := h
    obtain ⟨a, ha⟩ := Option.isSome_iff_exists.1 h1
    unfold g77
    rw [ha]
    exact ⟨(Told.spec kn78_ok (noLoops_ok _) (run77 _ _ _ _) (told77 _ _ _ _) ha).mono (by omega), rfl, rfl⟩
  · cases h)
def enc88 (y : Bool) : V := .sc (.bool y)
noncomputable def tree88 (x0 : Int) (x1 : Int) : R := (cond (decide (x1 < 0)) none (some (enc88 (bitsF .and .u32 (shrF .u32 x0 x1) 1 == 1), [])))
theorem run88 (x0 : Int) (x1 : Int) : funK ctx kn77 noLoops 3 88 [.sc (.int .u32 x0), .sc (.int .i64 x1)] [] 0 finV = tree88 x0 x1 := by kernel_rfl
noncomputable def o88 (x0 : Int) (x1 : Int) : Option Bool := (cond (decide (x1 < 0)) none (some (bitsF .and .u32 (shrF .u32 x0 x1) 1 == 1)))
theorem told88 (x0 : Int) (x1 : Int) : Told enc88 (tree88 x0 x1) (o88 x0 x1) := (told_c (fun h0 => told_none _) (fun h0 => told_leaf _))
noncomputable def g88 (x0 : Int) (x1 : Int) : Bool := (o88 x0 x1).getD default
noncomputable def k88 (l : List V) : Option (Bool × V) := match l with
  | [.sc (.int .u32 x0), .sc (.int .i64 x1)] => some ((o88 x0 x1).isSome, enc88 (g88 x0 x1))
  | _ => none
noncomputable def kn88 : Known := kn77.add 88 k88
theorem kn88_ok : KnownOK ctx kn88 93 := Known.add_ok kn77_ok rfl (by omega) (by
  intro l r h
  unfold k88 at h
  split at h
  · simp only [Option.some.injEq, Prod.mk.injEq] at h
    obtain ⟨h1, rfl⟩ := h
    obtain ⟨a, ha⟩ := Option.isSome_iff_exists.1 h1
    unfold g88
    rw [ha]
    exact ⟨(Told.spec kn77_ok (noLoops_ok _) (run88 _ _) (told88 _ _) ha).mono (by omega), rfl, rfl⟩
  · cases h)
def enc87 (y : Int) : V := .sc (.int .u32 y)
noncomputable def tree87 (x0 : Int) (x1 : Int) : R := (cond (decide ((if false = true then if 32 > if true = true then if 1 > x1 then 1 else x1 else if 1 < x1 then 1 else x1 then 32 else if true = true then if 1 > x1 then 1 else x1 else if 1 < x1 then 1 else x1 else if 32 < if true = true then if 1 > x1 then 1 else x1 else if 1 < x1 then 1 else x1 then 32 else if true = true then if 1 > x1 then 1 else x1 else if 1 < x1 then 1 else x1) < 0)) none (some (enc87 (wrapF .u32 (bitsF .and .u64 (wrapF .u64 x0) (wrapF .u64 (shlF .u64 1 (if false = true then if 32 > if true = true then if 1 > x1 then 1 else x1 else if 1 < x1 then 1 else x1 then 32 else if true = true then if 1 > x1 then 1 else x1 else if 1 < x1 then 1 else x1 else if 32 < if true = true then if 1 > x1 then 1 else x1 else if 1 < x1 then 1 else x1 then 32 else if true = true then if 1 > x1 then 1 else x1 else if 1 < x1 then 1 else x1) - 1)))), [])))
theorem run87 (x0 : Int) (x1 : Int) : funK ctx kn88 noLoops 3 87 [.sc (.int .u32 x0), .sc (.int .i64 x1)] [] 0 finV = tree87 x0 x1 := by kernel_rfl
noncomputable def o87 (x0 : Int) (x1 : Int) : Option Int := (cond (decide ((if false = true then if 32 > if true = true then if 1 > x1 then 1 else x1 else if 1 < x1 then 1 else x1 then 32 else if true = true then if 1 > x1 then 1 else x1 else if 1 < x1 then 1 else x1 else if 32 < if true = true then if 1 > x1 then 1 else x1 else if 1 < x1 then 1 else x1 then 32 else if true = true then if 1 > x1 then 1 else x1 else if 1 < x1 then 1 else x1) < 0)) none (some (wrapF .u32 (bitsF .and .u64 (wrapF .u64 x0) (wrapF .u64 (shlF .u64 1 (if false = true then if 32 > if true = true then if 1 > x1 then 1 else x1 else if 1 < x1 then 1 else x1 then 32 else if true = true then if 1 > x1 then 1 else x1 else if 1 < x1 then 1 else x1 else if 32 < if true = true then if 1 > x1 then 1 else x1 else if 1 < x1 then 1 else x1 then 32 else if true = true then if 1 > x1 then 1 else x1 else if 1 < x1 then 1 else x1) - 1))))))
theorem told87 (x0 : Int) (x1 : Int) : Told enc87 (tree87 x0 x1) (o87 x0 x1) := (told_c (fun h0 => told_none _) (fun h0 => told_leaf _))
noncomputable def g87 (x0 : Int) (x1 : Int) : Int := (o87 x0 x1).getD default
noncomputable def k87 (l : List V) : Option (Bool × V) := match l with
  | [.sc (.int .u32 x0), .sc (.int .i64 x1)] => some ((o87 x0 x1).isSome, enc87 (g87 x0 x1))
  | _ => none
noncomputable def kn87 : Known := kn88.add 87 k87
theorem kn87_ok : KnownOK ctx kn87 96 := Known.add_ok kn88_ok rfl (by omega) (by
  intro l r h
  unfold k87 at h
  split at h
  · simp only [Option.some.injEq, Prod.mk.injEq] at h
    obtain ⟨h1, rfl⟩ := h
    obtain ⟨a, ha⟩ := Option.isSome_iff_exists.1 h1
    unfold g87
    rw [ha]
    exact ⟨(Told.spec kn88_ok (noLoops_ok _) (run87 _ _) (told87 _ _) ha).mono (by omega), rfl, rfl⟩
  · cases h)
def enc82 (y : Int) : V := .sc (.int .u32 y)
noncomputable def tree82 (x0 : Int) (x1 : Int) : R := (fun (t0 : Int) => (cond ((o87 x0 (if false = true then if 32 > if true = true then if 1 > x1 then 1 else x1 else if 1 < x1 then 1 else x1 then 32 else if true = true then if 1 > x1 then 1 else x1 else if 1 < x1 then 1 else x1 else if 32 < if true = true then if 1 > x1 then 1 else x1 else if 1 < x1 then 1 else x1 then 32 else if true = true then if 1 > x1 then 1 else x1 else if 1 < x1 then 1 else x1)).isSome) (cond ((o88 (g87 x0 (if false = true then if 32 > if true = true then if 1 > x1 then 1 else x1 else if 1 < x1 then 1 else x1 then 32 else if true = true then if 1 > x1 then 1 else x1 else if 1 < x1 then 1 else x1 else if 32 < if true = true then if 1 > x1 then 1 else x1 else if 1 < x1 then 1 else x1 then 32 else if true = true then if 1 > x1 then 1 else x1 else if 1 < x1 then 1 else x1)) t0).isSome) (cond (g88 (g87 x0 (if false = true then if 32 > if true = true then if 1 > x1 then 1 else x1 else if 1 < x1 then 1 else x1 then 32 else if true = true then if 1 > x1 then 1 else x1 else if 1 < x1 then 1 else x1 else if 32 < if true = true then if 1 > x1 then 1 else x1 else if 1 < x1 then 1 else x1 then 32 else if true = true then if 1 > x1 then 1 else x1 else if 1 < x1 then 1 else x1)) t0) (cond (decide ((if false = true then if 32 > if true = true then if 1 > x1 then 1 else x1 else if 1 < x1 then 1 else x1 then 32 else if true = true then if 1 > x1 then 1 else x1 else if 1 < x1 then 1 else x1 else if 32 < if true = true then if 1 > x1 then 1 else x1 else if 1 < x1 then 1 else x1 then 32 else if true = true then if 1 > x1 then 1 else x1 else if 1 < x1 then 1 else x1) < 0)) none (some (enc82 (wrapF .u32 (bitsF .and .u64 (bitsF .or .u64 (wrapF .u64 (g87 x0 (if false = true then if 32 > if true = true then if 1 > x1 then 1 else x1 else if 1 < x1 then 1 else x1 then 32 else if true = true then if 1 > x1 then 1 else x1 else if 1 < x1 then 1 else x1 else if 32 < if true = true then if 1 > x1 then 1 else x1 else if 1 < x1 then 1 else x1 then 32 else if true = true then if 1 > x1 then 1 else x1 else if 1 < x1 then 1 else x1))) (bitsF .xor .u64 18446744073709551615 (wrapF .u64 (shlF .u64 1 (if false = true then if 32 > if true = true then if 1 > x1 then 1 else x1 else if 1 < x1 then 1 else x1 then 32 else if true = true then if 1 > x1 then 1 else x1 else if 1 < x1 then 1 else x1 else if 32 < if true = true then if 1 > x1 then 1 else x1 else if 1 < x1 then 1 else x1 then 32 else if true = true then if 1 > x1 then 1 else x1 else if 1 < x1 then 1 else x1) - 1)))) 4294967295)), []))) (some (enc82 (g87 x0 (if false = true then if 32 > if true = true then if 1 > x1 then 1 else x1 else if 1 < x1 then 1 else x1 then 32 else if true = true then if 1 > x1 then 1 else x1 else if 1 < x1 then 1 else x1 else if 32 < if true = true then if 1 > x1 then 1 else x1 else if 1 < x1 then 1 else x1 then 32 else if true = true then if 1 > x1 then 1 else x1 else if 1 < x1 then 1 else x1)), []))) none) none)) (wrapF .i64 ((if false = true then if 32 > if true = true then if 1 > x1 then 1 else x1 else if 1 < x1 then 1 else x1 then 32 else if true = true then if 1 > x1 then 1 else x1 else if 1 < x1 then 1 else x1 else if 32 < if true = true then if 1 > x1 then 1 else x1 else if 1 < x1 then 1 else x1 then 32 else if true = true then if 1 > x1 then 1 else x1 else if 1 < x1 then 1 else x1) - 1))
theorem run82 (x0 : Int) (x1 : Int) : funK ctx kn87 noLoops 3 82 [.sc (.int .u32 x0), .sc (.int .i64 x1)] [] 0 finV = tree82 x0 x1 := by kernel_rfl
noncomputable def o82 (x0 : Int) (x1 : Int) : Option Int := (fun (t0 : Int) => (cond ((o87 x0 (if false = true then if 32 > if true = true then if 1 > x1 then 1 else x1 else if 1 < x1 then 1 else x1 then 32 else if true = true then if 1 > x1 then 1 else x1 else if 1 < x1 then 1 else x1 else if 32 < if true = true then if 1 > x1 then 1 else x1 else if 1 < x1 then 1 else x1 then 32 else if true = true then if 1 > x1 then 1 else x1 else if 1 < x1 then 1 else x1)).isSome) (cond ((o88 (g87 x0 (if false = true then if 32 > if true = true then if 1 > x1 then 1 else x1 else if 1 < x1 then 1 else x1 then 32 else if true = true then if 1 > x1 then 1 else x1 else if 1 < x1 then 1 else x1 else if 32 < if true = true then if 1 > x1 then 1 else x1 else if 1 < x1 then 1 else x1 then 32 else if true = true then if 1 > x1 then 1 else x1 else if 1 < x1 then 1 else x1)) t0).isSome) (cond (g88 (g87 x0 (if false = true then if 32 > if true = true then if 1 > x1 then 1 else x1 else if 1 < x1 then 1 else x1 then 32 else if true = true then if 1 > x1 then 1 else x1 else if 1 < x1 then 1 else x1 else if 32 < if true = true then if 1 > x1 then 1 else x1 else if 1 < x1 then 1 else x1 then 32 else if true = true then if 1 > x1 then 1 else x1 else if 1 < x1 then 1 else x1)) t0) (cond (decide ((if false = true then if 32 > if true = true then if 1 > x1 then 1 else x1 else if 1 < x1 then 1 else x1 then 32 else if true = true then if 1 > x1 then 1 else x1 else if 1 < x1 then 1 else x1 else if 32 < if true = true then if 1 > x1 then 1 else x1 else if 1 < x1 then 1 else x1 then 32 else if true = true then if 1 > x1 then 1 else x1 else if 1 < x1 then 1 else x1) < 0)) none (some (wrapF .u32 (bitsF .and .u64 (bitsF .or .u64 (wrapF .u64 (g87 x0 (if false = true then if 32 > if true = true then if 1 > x1 then 1 else x1 else if 1 < x1 then 1 else x1 then 32 else if true = true then if 1 > x1 then 1 else x1 else if 1 < x1 then 1 else x1 else if 32 < if true = true then if 1 > x1 then 1 else x1 else if 1 < x1 then 1 else x1 then 32 else if true = true then if 1 > x1 then 1 else x1 else if 1 < x1 then 1 else x1))) (bitsF .xor .u64 18446744073709551615 (wrapF .u64 (shlF .u64 1 (if false = true then if 32 > if true = true then if 1 > x1 then 1 else x1 else if 1 < x1 then 1 else x1 then 32 else if true = true then if 1 > x1 then 1 else x1 else if 1 < x1 then 1 else x1 else if 32 < if true = true then if 1 > x1 then 1 else x1 else if 1 < x1 then 1 else x1 then 32 else if true = true then if 1 > x1 then 1 else x1 else if 1 < x1 then 1 else x1) - 1)))) 4294967295)))) (some (g87 x0 (if false = true then if 32 > if true = true then if 1 > x1 then 1 else x1 else if 1 < x1 then 1 else x1 then 32 else if true = true then if 1 > x1 then 1 else x1 else if 1 < x1 then 1 else x1 else if 32 < if true = true then if 1 > x1 then 1 else x1 else if 1 < x1 then 1 else x1 then 32 else if true = true then if 1 > x1 then 1 else x1 else if 1 < x1 then 1 else x1)))) none) none)) (wrapF .i64 ((if false = true then if 32 > if true = true then if 1 > x1 then 1 else x1 else if 1 < x1 then 1 else x1 then 32 else if true = true then if 1 > x1 then 1 else x1 else if 1 < x1 then 1 else x1 else if 32 < if true = true then if 1 > x1 then 1 else x1 else if 1 < x1 then 1 else x1 then 32 else if true = true then if 1 > x1 then 1 else x1 else if 1 < x1 then 1 else x1) - 1))
theorem told82 (x0 : Int) (x1 : Int) : Told enc82 (tree82 x0 x1) (o82 x0 x1) := (told_c (fun h0 => (told_c (fun h1 => (told_c (fun h2 => (told_c (fun h3 => told_none _) (fun h3 => told_leaf _))) (fun h2 => told_leaf _))) (fun h1 => told_none _))) (fun h0 => told_none _))
noncomputable def g82 (x0 : Int) (x1 : Int) : Int := (o82 x0 x1).getD default
noncomputable def k82 (l : List V) : Option (Bool × V) := match l with
  | [.sc (.int .u32 x0), .sc (.int .i64 x1)] => some ((o82 x0 x1).isSome, enc82 (g82 x0 x1))
  | _ => none
noncomputable def kn82 : Known := kn87.add 82 k82
theorem kn82_ok : KnownOK ctx kn82 99 := Known.add_ok kn87_ok rfl (by omega) (by
  intro l r h
  unfold k82 at h
  split at h
  · simp only [Option.some.injEq, Prod.mk.injEq] at h
    obtain ⟨h1, rfl⟩ := h
    obtain ⟨a, ha⟩ := Option.isSome_iff_exists.1 h1
    unfold g82
    rw [ha]
    exact ⟨(Told.spec kn87_ok (noLoops_ok _) (run82 _ _) (told82 _ _) ha).mono (by omega), rfl, rfl⟩
  · cases h)
end Go.Den
