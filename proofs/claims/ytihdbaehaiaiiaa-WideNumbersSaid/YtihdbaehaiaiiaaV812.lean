import Derived.Test.YtihdbaehaiaiiaaV7
set_option linter.unusedSimpArgs false
section
set_option linter.unusedVariables false
set_option maxRecDepth 100000
namespace Go.Den
def enc53 (y : (S30 × Bool)) : V := .tup [encS30 y.1, .sc (.bool y.2)]
noncomputable def tree53 (x0 : Int) (x1 : Int) : R := (fun (t0 : R) => (fun (t1 : Int) => (fun (t2 : Int) => (fun (t3 : Int) => (fun (t7 : Int) => (fun (t4 : Int) => (fun (t5 : Int) => (fun (t6 : Int) => (cond (bif bif bitsF .and .u16 t5 15 == 0 then bitsF .and .u16 t6 15 == 0 else false then wrapF .i64 t7 == 15 else false) (cond (p81 t1) t0 (cond (p81 t2) t0 (cond (p81 t3) t0 (some (enc53 ((S30.mk (21) (true) (false) (14) t1 t2 t3 (0) (0) (false) (0) (0) (0) (false) (false), true)), []))))) (cond (bif bitsF .and .u16 t5 15 == 0 then bitsF .and .u16 t6 15 == 0 else false) (cond (p81 t4) t0 (cond (p81 t1) t0 (cond (p81 t2) t0 (cond (p81 t3) t0 (some (enc53 ((S30.mk (22) (true) (false) (14) t1 t2 t3 t4 (0) (false) (0) (0) (0) (false) (false), true)), [])))))) (cond (bif bitsF .and .u16 t5 15 == 0 then bitsF .and .u16 t6 15 == 1 else false) (cond (p81 t4) t0 (cond (p81 t1) t0 (cond (p81 t2) t0 (cond (p81 t3) t0 (some (enc53 ((S30.mk (23) (true) (false) (14) t1 t2 t3 t4 (0) (false) (0) (0) (0) (false) (false), true)), [])))))) (cond (bif bif bitsF .and .u16 t5 15 == 9 then bitsF .and .u16 t6 15 == 15 else false then wrapF .i64 t7 == 15 else false) (cond (p81 t1) t0 (cond (p81 t2) t0 (cond (p81 t3) t0 (some (enc53 ((S30.mk (29) (true) (false) (14) t1 t2 t3 (0) (0) (false) (0) (0) (0) (false) (false), true)), []))))) (cond (bif bif bitsF .and .u16 t5 15 == 11 then bitsF .and .u16 t6 15 == 15 else false then wrapF .i64 t7 == 15 else false) (cond (p81 t1) t0 (cond (p81 t2) t0 (cond (p81 t3) t0 (some (enc53 ((S30.mk (28) (true) (false) (14) t1 t2 t3 (0) (0) (false) (0) (0) (0) (false) (false), true)), []))))) (cond (bif bitsF .and .u16 t6 15 == 0 then bif bif bif bitsF .and .u16 t5 15 == 8 then true else bitsF .and .u16 t5 15 == 10 then true else bitsF .and .u16 t5 15 == 12 then true else bitsF .and .u16 t5 15 == 14 else false) (cond (decide (0 ≤ bitsF .and .u16 (shrF .u16 x0 5) 3 ∧ bitsF .and .u16 (shrF .u16 x0 5) 3 < 4)) (cond (decide ((bitsF .and .u16 (shrF .u16 x0 5) 3).toNat < 4)) (cond (wrapF .i64 t7 == wrapF .i64 (bitsF .and .u16 (shrF .u16 x1 8) 15)) t0 (cond (p81 t1) t0 (cond (p81 t4) t0 (cond (p81 t2) t0 (cond (p81 t3) t0 (some (enc53 ((S30.mk (getI [25, 24, 27, 26] (bitsF .and .u16 (shrF .u16 x0 5) 3).toNat) (true) (false) (14) t4 t2 t3 t1 (0) (false) (0) (0) (0) (false) (false), true)), []))))))) none) none) (some (enc53 ((S30.mk (0) (true) (false) (14) t1 t2 t3 (0) (0) (false) (0) (0) (0) (false) (false), false)), []))))))))) (shrF .u16 x1 4)) (shrF .u16 x0 4)) (wrapF .i64 t7)) (shrF .u16 x1 12)) (wrapF .i64 (bitsF .and .u16 x1 15))) (wrapF .i64 (bitsF .and .u16 x0 15))) (wrapF .i64 (bitsF .and .u16 (shrF .u16 x1 8) 15))) (some (enc53 ((S30.mk (65) (true) (false) (14) (0) (0) (0) (0) (0) (false) (0) (0) (0) (false) (false), true)), []))
theorem run53 (x0 : Int) (x1 : Int) : funK ctx kn54 noLoops 3 53 [.sc (.int .u16 x0), .sc (.int .u16 x1)] [] 0 finV = tree53 x0 x1 := by kernel_rfl
noncomputable def p53 (x0 : Int) (x1 : Int) : (S30 × Bool) := (fun (t0 : Int) => (fun (t1 : Int) => (fun (t2 : Int) => (fun (t6 : Int) => (fun (t3 : Int) => (fun (t4 : Int) => (fun (t5 : Int) => (cond (bif bif bitsF .and .u16 t4 15 == 0 then bitsF .and .u16 t5 15 == 0 else false then wrapF .i64 t6 == 15 else false) (cond (p81 t0) ((S30.mk (65) (true) (false) (14) (0) (0) (0) (0) (0) (false) (0) (0) (0) (false) (false), true)) (cond (p81 t1) ((S30.mk (65) (true) (false) (14) (0) (0) (0) (0) (0) (false) (0) (0) (0) (false) (false), true)) (cond (p81 t2) ((S30.mk (65) (true) (false) (14) (0) (0) (0) (0) (0) (false) (0) (0) (0) (false) (false), true)) ((S30.mk (21) (true) (false) (14) t0 t1 t2 (0) (0) (false) (0) (0) (0) (false) (false), true))))) (cond (bif bitsF .and .u16 t4 15 == 0 then bitsF .and .u16 t5 15 == 0 else false) (cond (p81 t3) ((S30.mk (65) (true) (false) (14) (0) (0) (0) (0) (0) (false) (0) (0) (0) (false) (false), true)) (cond (p81 t0) ((S30.mk (65) (true) (false) (14) (0) (0) (0) (0) (0) (false) (0) (0) (0) (false) (false), true)) (cond (p81 t1) ((S30.mk (65) (true) (false) (14) (0) (0) (0) (0) (0) (false) (0) (0) (0) (false) (false), true)) (cond (p81 t2) ((S30.mk (65) (true) (false) (14) (0) (0) (0) (0) (0) (false) (0) (0) (0) (false) (false), true)) ((S30.mk (22) (true) (false) (14) t0 t1 t2 t3 (0) (false) (0) (0) (0) (false) (false), true)))))) (cond (bif bitsF .and .u16 t4 15 == 0 then bitsF .and .u16 t5 15 == 1 else false) (cond (p81 t3) ((S30.mk (65) (true) (false) (14) (0) (0) (0) (0) (0) (false) (0) (0) (0) (false) (false), true)) (cond (p81 t0) ((S30.mk (65) (true) (false) (14) (0) (0) (0) (0) (0) (false) (0) (0) (0) (false) (false), true)) (cond (p81 t1) ((S30.mk (65) (true) (false) (14) (0) (0) (0) (0) (0) (false) (0) (0) (0) (false) (false), true)) (cond (p81 t2) ((S30.mk (65) (true) (false) (14) (0) (0) (0) (0) (0) (false) (0) (0) (0) (false) (false), true)) ((S30.mk (23) (true) (false) (14) t0 t1 t2 t3 (0) (false) (0) (0) (0) (false) (false), true)))))) (cond (bif bif bitsF .and .u16 t4 15 == 9 then bitsF .and .u16 t5 15 == 15 else false then wrapF .i64 t6 == 15 else false) (cond (p81 t0) ((S30.mk (65) (true) (false) (14) (0) (0) (0) (0) (0) (false) (0) (0) (0) (false) (false), true)) (cond (p81 t1) ((S30.mk (65) (true) (false) (14) (0) (0) (0) (0) (0) (false) (0) (0) (0) (false) (false), true)) (cond (p81 t2) ((S30.mk (65) (true) (false) (14) (0) (0) (0) (0) (0) (false) (0) (0) (0) (false) (false), true)) ((S30.mk (29) (true) (false) (14) t0 t1 t2 (0) (0) (false) (0) (0) (0) (false) (false), true))))) (cond (bif bif bitsF .and .u16 t4 15 == 11 then bitsF .and .u16 t5 15 == 15 else false then wrapF .i64 t6 == 15 else false) (cond (p81 t0) ((S30.mk (65) (true) (false) (14) (0) (0) (0) (0) (0) (false) (0) (0) (0) (false) (false), true)) (cond (p81 t1) ((S30.mk (65) (true) (false) (14) (0) (0) (0) (0) (0) (false) (0) (0) (0) (false) (false), true)) (cond (p81 t2) ((S30.mk (65) (true) (false) (14) (0) (0) (0) (0) (0) (false) (0) (0) (0) (false) (false), true)) ((S30.mk (28) (true) (false) (14) t0 t1 t2 (0) (0) (false) (0) (0) (0) (false) (false), true))))) (cond (bif bitsF .and .u16 t5 15 == 0 then bif bif bif bitsF .and .u16 t4 15 == 8 then true else bitsF .and .u16 t4 15 == 10 then true else bitsF .and .u16 t4 15 == 12 then true else bitsF .and .u16 t4 15 == 14 else false) (cond (wrapF .i64 t6 == wrapF .i64 (bitsF .and .u16 (shrF .u16 x1 8) 15)) ((S30.mk (65) (true) (false) (14) (0) (0) (0) (0) (0) (false) (0) (0) (0) (false) (false), true)) (cond (p81 t0) ((S30.mk (65) (true) (false) (14) (0) (0) (0) (0) (0) (false) (0) (0) (0) (false) (false), true)) (cond (p81 t3) ((S30.mk (65) (true) (false) (14) (0) (0) (0) (0) (0) (false) (0) (0) (0) (false) (false), true)) (cond (p81 t1) ((S30.mk (65) (true) (false) (14) (0) (0) (0) (0) (0) (false) (0) (0) (0) (false) (false), true)) (cond (p81 t2) ((S30.mk (65) (true) (false) (14) (0) (0) (0) (0) (0) (false) (0) (0) (0) (false) (false), true)) ((S30.mk (getI [25, 24, 27, 26] (bitsF .and .u16 (shrF .u16 x0 5) 3).toNat) (true) (false) (14) t3 t1 t2 t0 (0) (false) (0) (0) (0) (false) (false), true))))))) ((S30.mk (0) (true) (false) (14) t0 t1 t2 (0) (0) (false) (0) (0) (0) (false) (false), false))))))))) (shrF .u16 x1 4)) (shrF .u16 x0 4)) (wrapF .i64 t6)) (shrF .u16 x1 12)) (wrapF .i64 (bitsF .and .u16 x1 15))) (wrapF .i64 (bitsF .and .u16 x0 15))) (wrapF .i64 (bitsF .and .u16 (shrF .u16 x1 8) 15))
theorem told53 (x0 : Int) (x1 : Int) : Told enc53 (tree53 x0 x1) (some (p53 x0 x1)) := (told_p (fun h0 => (told_p (fun h1 => told_leaf _) (fun h1 => (told_p (fun h2 => told_leaf _) (fun h2 => (told_p (fun h3 => told_leaf _) (fun h3 => told_leaf _))))))) (fun h0 => (told_p (fun h1 => (told_p (fun h2 => told_leaf _) (fun h2 => (told_p (fun h3 => told_leaf _) (fun h3 => (told_p (fun h4 => told_leaf _) (fun h4 => (told_p (fun h5 => told_leaf _) (fun h5 => told_leaf _))))))))) (fun h1 => (told_p (fun h2 => (told_p (fun h3 => told_leaf _) (fun h3 => (told_p (fun h4 => told_leaf _) (fun h4 => (told_p (fun h5 => told_leaf _) (fun h5 => (told_p (fun h6 => told_leaf _) (fun h6 => told_leaf _))))))))) (fun h2 => (told_p (fun h3 => (told_p (fun h4 => told_leaf _) (fun h4 => (told_p (fun h5 => told_leaf _) (fun h5 => (told_p (fun h6 => told_leaf _) (fun h6 => told_leaf _))))))) (fun h3 => (told_p (fun h4 => (told_p (fun h5 => told_leaf _) (fun h5 => (told_p (fun h6 => told_leaf _) (fun h6 => (told_p (fun h7 => told_leaf _) (fun h7 => told_leaf _))))))) (fun h4 => (told_p (fun h5 => (told_t (by have f0 := and_fact (.u16) (shrF .u16 x0 5) (3) (by decide) (by decide); have f1 := shr_fact (.u16) (x0) (5); try simp only [decide_eq_true_eq, decide_eq_false_iff_not, beq_iff_eq, beq_eq_false_iff_ne, bne_iff_ne, bne_eq_false_iff_eq, Bool.not_eq_true', Bool.not_eq_false'] at *; omega) ((told_t (by have f0 := and_fact (.u16) (shrF .u16 x0 5) (3) (by decide) (by decide); have f1 := shr_fact (.u16) (x0) (5); try simp only [decide_eq_true_eq, decide_eq_false_iff_not, beq_iff_eq, beq_eq_false_iff_ne, bne_iff_ne, bne_eq_false_iff_eq, Bool.not_eq_true', Bool.not_eq_false'] at *; omega) ((told_p (fun h8 => told_leaf _) (fun h8 => (told_p (fun h9 => told_leaf _) (fun h9 => (told_p (fun h10 => told_leaf _) (fun h10 => (told_p (fun h11 => told_leaf _) (fun h11 => (told_p (fun h12 => told_leaf _) (fun h12 => told_leaf _))))))))))))))) (fun h5 => told_leaf _))))))))))))
noncomputable def k53 (l : List V) : Option (Bool × V) := match l with
  | [.sc (.int .u16 x0), .sc (.int .u16 x1)] => some (true, enc53 (p53 x0 x1))
  | _ => none
noncomputable def kn53 : Known := kn54.add 53 k53
theorem kn53_ok : KnownOK ctx kn53 132 := Known.add_ok kn54_ok rfl (by omega) (by
  intro l r h
  unfold k53 at h
  split at h
  · simp only [Option.some.injEq, Prod.mk.injEq] at h
    obtain ⟨_, rfl⟩ := h
    exact ⟨(Told.spec kn54_ok (noLoops_ok _) (run53 _ _) (told53 _ _) rfl).mono (by omega), rfl, rfl⟩
  · cases h)
end Go.Den
end
section
set_option linter.unusedVariables false
set_option maxRecDepth 100000
namespace Go.Den
def enc76 (y : Int) : V := .sc (.int .i64 y)
noncomputable def tree76 (x0 : Int) : R := (fun (t1 : Int) => (fun (t0 : Int) => (fun (t2 : Int) => (fun (t3 : Int) => (some (enc76 (bitsF .and .i64 (wrapF .i64 (wrapF .u64 (wrapF .u64 (wrapF .u64 (bitsF .and .u64 t0 1085102592571150095 + shrF .u64 t2 8) + shrF .u64 t3 16) + shrF .u64 (wrapF .u64 (wrapF .u64 (bitsF .and .u64 t0 1085102592571150095 + shrF .u64 t2 8) + shrF .u64 t3 16)) 32))) 127), []))) (wrapF .u64 (bitsF .and .u64 t0 1085102592571150095 + shrF .u64 t2 8))) (bitsF .and .u64 t0 1085102592571150095)) (wrapF .u64 (shrF .u64 (wrapF .u64 (bitsF .and .u64 (shrF .u64 t1 2) 3689348814741910323 + bitsF .and .u64 t1 3689348814741910323)) 4 + wrapF .u64 (bitsF .and .u64 (shrF .u64 t1 2) 3689348814741910323 + bitsF .and .u64 t1 3689348814741910323)))) (wrapF .u64 (bitsF .and .u64 (shrF .u64 x0 1) 6148914691236517205 + bitsF .and .u64 x0 6148914691236517205))
theorem run76 (x0 : Int) : funK ctx kn53 noLoops 3 76 [.sc (.int .u64 x0)] [] 0 finV = tree76 x0 := by kernel_rfl
noncomputable def p76 (x0 : Int) : Int := (fun (t1 : Int) => (fun (t0 : Int) => (fun (t2 : Int) => (fun (t3 : Int) => (bitsF .and .i64 (wrapF .i64 (wrapF .u64 (wrapF .u64 (wrapF .u64 (bitsF .and .u64 t0 1085102592571150095 + shrF .u64 t2 8) + shrF .u64 t3 16) + shrF .u64 (wrapF .u64 (wrapF .u64 (bitsF .and .u64 t0 1085102592571150095 + shrF .u64 t2 8) + shrF .u64 t3 16)) 32))) 127)) (wrapF .u64 (bitsF .and .u64 t0 1085102592571150095 + shrF .u64 t2 8))) (bitsF .and .u64 t0 1085102592571150095)) (wrapF .u64 (shrF .u64 (wrapF .u64 (bitsF .and .u64 (shrF .u64 t1 2) 3689348814741910323 + bitsF .and .u64 t1 3689348814741910323)) 4 + wrapF .u64 (bitsF .and .u64 (shrF .u64 t1 2) 3689348814741910323 + bitsF .and .u64 t1 3689348814741910323)))) (wrapF .u64 (bitsF .and .u64 (shrF .u64 x0 1) 6148914691236517205 + bitsF .and .u64 x0 6148914691236517205))
theorem told76 (x0 : Int) : Told enc76 (tree76 x0) (some (p76 x0)) := told_leaf _
noncomputable def k76 (l : List V) : Option (Bool × V) := match l with
  | [.sc (.int .u64 x0)] => some (true, enc76 (p76 x0))
  | _ => none
noncomputable def kn76 : Known := kn53.add 76 k76
theorem kn76_ok : KnownOK ctx kn76 135 := Known.add_ok kn53_ok rfl (by omega) (by
  intro l r h
  unfold k76 at h
  split at h
  · simp only [Option.some.injEq, Prod.mk.injEq] at h
    obtain ⟨_, rfl⟩ := h
    exact ⟨(Told.spec kn53_ok (noLoops_ok _) (run76 _) (told76 _) rfl).mono (by omega), rfl, rfl⟩
  · cases h)
def enc46 (y : Int) : V := .sc (.int .i64 y)
noncomputable def tree46 (x0 : Int) : R := (some (enc46 (p76 x0), []))
theorem run46 (x0 : Int) : funK ctx kn76 noLoops 3 46 [.sc (.int .u64 x0)] [] 0 finV = tree46 x0 := by kernel_rfl
noncomputable def p46 (x0 : Int) : Int := (p76 x0)
theorem told46 (x0 : Int) : Told enc46 (tree46 x0) (some (p46 x0)) := told_leaf _
noncomputable def k46 (l : List V) : Option (Bool × V) := match l with
  | [.sc (.int .u64 x0)] => some (true, enc46 (p46 x0))
  | _ => none
noncomputable def kn46 : Known := kn76.add 46 k46
theorem kn46_ok : KnownOK ctx kn46 138 := Known.add_ok kn76_ok rfl (by omega) (by
  intro l r h
  unfold k46 at h
  split at h
  · simp only [Option.some.injEq, Prod.mk.injEq] at h
    obtain ⟨_, rfl⟩ := h
    exact ⟨(Told.spec kn76_ok (noLoops_ok _) (run46 _) (told46 _) rfl).mono (by omega), rfl, rfl⟩
  · cases h)
def enc23 (y : S30) : V := encS30 y
noncomputable def tree23 (a : Int) (c : Int) (d : Bool) : R := (fun (t1 : Int) => (fun (t0 : R) => (cond (g37 a 0 4 == 15) t0 (cond (bitsF .and .i64 (shrF .i64 t1 13) 1 == 1) t0 (cond (decide (p46 (wrapF .u64 t1) < 2)) t0 (cond (g37 a 5 1 == 1) (cond (decide (g37 a 0 4 < 0)) none (cond (g37 a 4 1 == 1) (some (enc23 ((p38 a c d (bif bitsF .and .i64 (shrF .i64 t1 (g37 a 0 4)) 1 == 1 then true else shrF .i64 t1 14 == 3) 52 false false 0 0 (g37 a 0 4) 0 0 0 false 0 0 t1 (g37 a 5 1 == 1) (g37 a 8 1 == 1))), [])) (some (enc23 ((p38 a c d (bif bitsF .and .i64 (shrF .i64 t1 (g37 a 0 4)) 1 == 1 then true else shrF .i64 t1 15 == 1) 53 false false 0 0 (g37 a 0 4) 0 0 0 false 0 0 t1 (g37 a 5 1 == 1) (g37 a 8 1 == 1))), [])))) (cond (g37 a 4 1 == 1) (some (enc23 ((p38 a c d (bif false then true else shrF .i64 t1 14 == 3) 52 false false 0 0 (g37 a 0 4) 0 0 0 false 0 0 t1 (g37 a 5 1 == 1) (g37 a 8 1 == 1))), [])) (some (enc23 ((p38 a c d (bif false then true else shrF .i64 t1 15 == 1) 53 false false 0 0 (g37 a 0 4) 0 0 0 false 0 0 t1 (g37 a 5 1 == 1) (g37 a 8 1 == 1))), [])))))))) (cond (g37 a 4 1 == 1) (some (enc23 ((p38 a c d (bif true then true else shrF .i64 t1 14 == 3) 52 false false 0 0 (g37 a 0 4) 0 0 0 false 0 0 t1 (g37 a 5 1 == 1) (g37 a 8 1 == 1))), [])) (some (enc23 ((p38 a c d (bif true then true else shrF .i64 t1 15 == 1) 53 false false 0 0 (g37 a 0 4) 0 0 0 false 0 0 t1 (g37 a 5 1 == 1) (g37 a 8 1 == 1))), [])))) (wrapF .i64 c)
theorem run23 (a : Int) (c : Int) (d : Bool) : funK ctx kn46 noLoops 3 23 [.agg [.sc (.int .u32 a), .sc (.int .u32 c), .sc (.bool d)]] [] 0 finV = tree23 a c d := by kernel_rfl
noncomputable def p23 (a : Int) (c : Int) (d : Bool) : S30 := (fun (t1 : Int) => (fun (t0 : S30) => (cond (g37 a 0 4 == 15) t0 (cond (bitsF .and .i64 (shrF .i64 t1 13) 1 == 1) t0 (cond (decide (p46 (wrapF .u64 t1) < 2)) t0 (cond (g37 a 5 1 == 1) (cond (g37 a 4 1 == 1) ((p38 a c d (bif bitsF .and .i64 (shrF .i64 t1 (g37 a 0 4)) 1 == 1 then true else shrF .i64 t1 14 == 3) 52 false false 0 0 (g37 a 0 4) 0 0 0 false 0 0 t1 (g37 a 5 1 == 1) (g37 a 8 1 == 1))) ((p38 a c d (bif bitsF .and .i64 (shrF .i64 t1 (g37 a 0 4)) 1 == 1 then true else shrF .i64 t1 15 == 1) 53 false false 0 0 (g37 a 0 4) 0 0 0 false 0 0 t1 (g37 a 5 1 == 1) (g37 a 8 1 == 1)))) (cond (g37 a 4 1 == 1) ((p38 a c d (bif false then true else shrF .i64 t1 14 == 3) 52 false false 0 0 (g37 a 0 4) 0 0 0 false 0 0 t1 (g37 a 5 1 == 1) (g37 a 8 1 == 1))) ((p38 a c d (bif false then true else shrF .i64 t1 15 == 1) 53 false false 0 0 (g37 a 0 4) 0 0 0 false 0 0 t1 (g37 a 5 1 == 1) (g37 a 8 1 == 1))))))))) (cond (g37 a 4 1 == 1) ((p38 a c d (bif true then true else shrF .i64 t1 14 == 3) 52 false false 0 0 (g37 a 0 4) 0 0 0 false 0 0 t1 (g37 a 5 1 == 1) (g37 a 8 1 == 1))) ((p38 a c d (bif true then true else shrF .i64 t1 15 == 1) 53 false false 0 0 (g37 a 0 4) 0 0 0 false 0 0 t1 (g37 a 5 1 == 1) (g37 a 8 1 == 1))))) (wrapF .i64 c)
theorem told23 (a : Int) (c : Int) (d : Bool) : Told enc23 (tree23 a c d) (some (p23 a c d)) := (told_p (fun h0 => (told_p (fun h1 => told_leaf _) (fun h1 => told_leaf _))) (fun h0 => (told_p (fun h1 => (told_p (fun h2 => told_leaf _) (fun h2 => told_leaf _))) (fun h1 => (told_p (fun h2 => (told_p (fun h3 => told_leaf _) (fun h3 => told_leaf _))) (fun h2 => (told_p (fun h3 => (told_f (by have f0 := g37_fact (a) (0) (4) 15 (by decide); try simp only [decide_eq_true_eq, decide_eq_false_iff_not, beq_iff_eq, beq_eq_false_iff_ne, bne_iff_ne, bne_eq_false_iff_eq, Bool.not_eq_true', Bool.not_eq_false'] at *; omega) ((told_p (fun h5 => told_leaf _) (fun h5 => told_leaf _))))) (fun h3 => (told_p (fun h4 => told_leaf _) (fun h4 => told_leaf _))))))))))
noncomputable def k23 (l : List V) : Option (Bool × V) := match l with
  | [.agg [.sc (.int .u32 a), .sc (.int .u32 c), .sc (.bool d)]] => some (true, enc23 (p23 a c d))
  | _ => none
noncomputable def kn23 : Known := kn46.add 23 k23
theorem kn23_ok : KnownOK ctx kn23 141 := Known.add_ok kn46_ok rfl (by omega) (by
  intro l r h
  unfold k23 at h
  split at h
  · simp only [Option.some.injEq, Prod.mk.injEq] at h
    obtain ⟨_, rfl⟩ := h
    exact ⟨(Told.spec kn46_ok (noLoops_ok _) (run23 _ _ _) (told23 _ _ _) rfl).mono (by omega), rfl, rfl⟩
  · cases h)
end Go.Den
end
section
set_option linter.unusedVariables false
set_option maxRecDepth 100000
namespace Go.Den

noncomputable def encL83 (l : List Int) : V := .sl false 1 (encI l)

theorem closedL_encI (n : Nat) : ∀ l : List Int, closedL n (encI l) = true
  | [] => rfl
  | x :: l => by
    have := closedL_encI n l
    simp only [encI, List.map_cons, closedL] at this ⊢
    rw [this]
    rfl

theorem run83 (m : Int) (b : Bool) : funK ctx kn23 lt83 3 83 [.sc (.int .i64 m), .sc (.bool b)] [] 0 finV = some (encL83 (regL m b 16 0), []) := by kernel_rfl

noncomputable def k83 (l : List V) : Option (Bool × V) := match l with
  | [.sc (.int .i64 m), .sc (.bool b)] => some (true, encL83 (regL m b 16 0))
  | _ => none
noncomputable def kn83 : Known := kn23.add 83 k83
theorem kn83_ok : KnownOK ctx kn83 144 := Known.add_ok kn23_ok rfl (by omega) (by
  intro l r h
  unfold k83 at h
  split at h
  · simp only [Option.some.injEq, Prod.mk.injEq] at h
    obtain ⟨_, rfl⟩ := h
    refine ⟨(Told.spec (enc := encL83) kn23_ok (lt83_ok.mono (by omega)) (run83 _ _) (told_leaf _) rfl).mono (by omega), rfl, ?_⟩
    simp only [encL83, closed]
    exact closedL_encI 0 _
  · cases h)

end Go.Den
end
section
set_option linter.unusedVariables false
set_option maxRecDepth 100000
namespace Go.Den
def enc55 (y : (S30 × Bool)) : V := .tup [encS30 y.1, .sc (.bool y.2)]
noncomputable def tree55 (x0 : Int) (x1 : Int) : R := (fun (t0 : Int) => (fun (t1 : R) => (fun (t3 : Int) => (fun (t2 : R) => (cond (bif bitsF .and .u16 (shrF .u16 x0 7) 3 == 0 then true else bitsF .and .u16 (shrF .u16 x0 7) 3 == 3) (some (enc55 ((S30.mk (0) (false) (false) (0) (0) (0) (0) (0) (0) (false) (0) (0) (0) (false) (false), false)), [])) (cond (decide (0 ≤ bitsF .and .u16 (shrF .u16 x0 4) 1 ∧ bitsF .and .u16 (shrF .u16 x0 4) 1 < 2)) (cond (decide ((bitsF .and .u16 (shrF .u16 x0 4) 1).toNat < 2)) (cond (wrapF .i64 t3 == 15) t1 (cond (bitsF .and .u16 (shrF .u16 x1 13) 1 == 1) t1 (cond (decide ((((encI (regL (wrapF .i64 x1) true 16 0)).length : Nat) : Int) < 2)) t1 (cond (bif (p80 t0).f_Op == 53 then shrF .u16 x1 15 == 1 else false) t1 (cond (bif (p80 t0).f_Op == 52 then shrF .u16 x1 14 == 3 else false) t1 (cond (bitsF .and .u16 (shrF .u16 x0 5) 1 == 1) (cond (decide (wrapF .i64 t3 < 0)) none (cond (bitsF .and .i64 (shrF .i64 (wrapF .i64 x1) (wrapF .i64 t3)) 1 == 1) t1 t2)) t2)))))) none) none))) (some (enc55 ((S30.mk ((p80 t0).f_Op) ((p80 t0).f_Wide) ((p80 t0).f_S) ((p80 t0).f_Cond) ((p80 t0).f_D) (wrapF .i64 t3) ((p80 t0).f_M) ((p80 t0).f_A) ((p80 t0).f_Imm) ((p80 t0).f_UseImm) ((p80 t0).f_Sh) ((p80 t0).f_Amt) (wrapF .i64 x1) (bitsF .and .u16 (shrF .u16 x0 5) 1 == 1) (bitsF .and .u16 (shrF .u16 x0 7) 3 == 2), true)), []))) (bitsF .and .u16 x0 15)) (some (enc55 ((S30.mk (65) (true) (false) (14) (0) (0) (0) (0) (0) (false) (0) (0) (0) (false) (false), true)), []))) (getI [53, 52] (bitsF .and .u16 (shrF .u16 x0 4) 1).toNat)
theorem run55 (x0 : Int) (x1 : Int) : funK ctx kn83 noLoops 3 55 [.sc (.int .u16 x0), .sc (.int .u16 x1)] [] 0 finV = tree55 x0 x1 := by kernel_rfl
noncomputable def p55 (x0 : Int) (x1 : Int) : (S30 × Bool) := (fun (t0 : Int) => (fun (t1 : Int) => (cond (bif bitsF .and .u16 (shrF .u16 x0 7) 3 == 0 then true else bitsF .and .u16 (shrF .u16 x0 7) 3 == 3) ((S30.mk (0) (false) (false) (0) (0) (0) (0) (0) (0) (false) (0) (0) (0) (false) (false), false)) (cond (wrapF .i64 (bitsF .and .u16 x0 15) == 15) ((S30.mk (65) (true) (false) (14) (0) (0) (0) (0) (0) (false) (0) (0) (0) (false) (false), true)) (cond (bitsF .and .u16 (shrF .u16 x1 13) 1 == 1) ((S30.mk (65) (true) (false) (14) (0) (0) (0) (0) (0) (false) (0) (0) (0) (false) (false), true)) (cond (decide ((((encI (regL (wrapF .i64 x1) true 16 0)).length : Nat) : Int) < 2)) ((S30.mk (65) (true) (false) (14) (0) (0) (0) (0) (0) (false) (0) (0) (0) (false) (false), true)) (cond (bif (p80 t0).f_Op == 53 then shrF .u16 x1 15 == 1 else false) ((S30.mk (65) (true) (false) (14) (0) (0) (0) (0) (0) (false) (0) (0) (0) (false) (false), true)) (cond (bif (p80 t0).f_Op == 52 then shrF .u16 x1 14 == 3 else false) ((S30.mk (65) (true) (false) (14) (0) (0) (0) (0) (0) (false) (0) (0) (0) (false) (false), true)) (cond (bitsF .and .u16 (shrF .u16 x0 5) 1 == 1) (cond (bitsF .and .i64 (shrF .i64 (wrapF .i64 x1) t1) 1 == 1) ((S30.mk (65) (true) (false) (14) (0) (0) (0) (0) (0) (false) (0) (0) (0) (false) (false), true)) ((S30.mk ((p80 t0).f_Op) ((p80 t0).f_Wide) ((p80 t0).f_S) ((p80 t0).f_Cond) ((p80 t0).f_D) t1 ((p80 t0).f_M) ((p80 t0).f_A) ((p80 t0).f_Imm) ((p80 t0).f_UseImm) ((p80 t0).f_Sh) ((p80 t0).f_Amt) (wrapF .i64 x1) (bitsF .and .u16 (shrF .u16 x0 5) 1 == 1) (bitsF .and .u16 (shrF .u16 x0 7) 3 == 2), true))) ((S30.mk ((p80 t0).f_Op) ((p80 t0).f_Wide) ((p80 t0).f_S) ((p80 t0).f_Cond) ((p80 t0).f_D) t1 ((p80 t0).f_M) ((p80 t0).f_A) ((p80 t0).f_Imm) ((p80 t0).f_UseImm) ((p80 t0).f_Sh) ((p80 t0).f_Amt) (wrapF .i64 x1) (bitsF .and .u16 (shrF .u16 x0 5) 1 == 1) (bitsF .and .u16 (shrF .u16 x0 7) 3 == 2), true)))))))))) (wrapF .i64 (bitsF .and .u16 x0 15))) (getI [53, 52] (bitsF .and .u16 (shrF .u16 x0 4) 1).toNat)
theorem told55 (x0 : Int) (x1 : Int) : Told enc55 (tree55 x0 x1) (some (p55 x0 x1)) := (told_p (fun h0 => told_leaf _) (fun h0 => (told_t (by have f0 := and_fact (.u16) (shrF .u16 x0 4) (1) (by decide) (by decide); have f1 := shr_fact (.u16) (x0) (4); try simp only [decide_eq_true_eq, decide_eq_false_iff_not, beq_iff_eq, beq_eq_false_iff_ne, bne_iff_ne, bne_eq_false_iff_eq, Bool.not_eq_true', Bool.not_eq_false'] at *; omega) ((told_t (by have f0 := and_fact (.u16) (shrF .u16 x0 4) (1) (by decide) (by decide); have f1 := shr_fact (.u16) (x0) (4); try simp only [decide_eq_true_eq, decide_eq_false_iff_not, beq_iff_eq, beq_eq_false_iff_ne, bne_iff_ne, bne_eq_false_iff_eq, Bool.not_eq_true', Bool.not_eq_false'] at *; omega) ((told_p (fun h3 => told_leaf _) (fun h3 => (told_p (fun h4 => told_leaf _) (fun h4 => (told_p (fun h5 => told_leaf _) (fun h5 => (told_p (fun h6 => told_leaf _) (fun h6 => (told_p (fun h7 => told_leaf _) (fun h7 => (told_p (fun h8 => (told_f (by have f0 := wrap_fact (.i64) (bitsF .and .u16 x0 15) (-9223372036854775808) 9223372036854775807 (by decide); have f1 := and_fact (.u16) (x0) (15) (by decide) (by decide); try simp only [decide_eq_true_eq, decide_eq_false_iff_not, beq_iff_eq, beq_eq_false_iff_ne, bne_iff_ne, bne_eq_false_iff_eq, Bool.not_eq_true', Bool.not_eq_false'] at *; omega) ((told_p (fun h10 => told_leaf _) (fun h10 => told_leaf _))))) (fun h8 => told_leaf _))))))))))))))))))
noncomputable def k55 (l : List V) : Option (Bool × V) := match l with
  | [.sc (.int .u16 x0), .sc (.int .u16 x1)] => some (true, enc55 (p55 x0 x1))
  | _ => none
noncomputable def kn55 : Known := kn83.add 55 k55
theorem kn55_ok : KnownOK ctx kn55 147 := Known.add_ok kn83_ok rfl (by omega) (by
  intro l r h
  unfold k55 at h
  split at h
  · simp only [Option.some.injEq, Prod.mk.injEq] at h
    obtain ⟨_, rfl⟩ := h
    exact ⟨(Told.spec kn83_ok (noLoops_ok _) (run55 _ _) (told55 _ _) rfl).mono (by omega), rfl, rfl⟩
  · cases h)
end Go.Den
end
