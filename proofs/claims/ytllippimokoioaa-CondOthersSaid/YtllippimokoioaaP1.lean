import Derived.Test.YtllippimokoioaaCtx1
set_option linter.unusedVariables false
set_option linter.unusedSimpArgs false
set_option maxRecDepth 100000
namespace Go.Den
-- sourdine/cond.Holds, 21
def enc16 (y : Bool) : V := .sc (.bool y)
def tree16 (x0 : Int) (x1 : Int) : R := (cond (bitsF BinOp.andNot IntKind.i64 x0 1 == 0) (some (enc16 (!(bitsF BinOp.and IntKind.i64 x1 4 != 0) == (bitsF BinOp.and IntKind.i64 x0 1 == 1)), [])) (cond (bitsF BinOp.andNot IntKind.i64 x0 1 == 2) (some (enc16 (!(bitsF BinOp.and IntKind.i64 x1 2 != 0) == (bitsF BinOp.and IntKind.i64 x0 1 == 1)), [])) (cond (bitsF BinOp.andNot IntKind.i64 x0 1 == 4) (some (enc16 (!(bitsF BinOp.and IntKind.i64 x1 8 != 0) == (bitsF BinOp.and IntKind.i64 x0 1 == 1)), [])) (cond (bitsF BinOp.andNot IntKind.i64 x0 1 == 6) (some (enc16 (!(bitsF BinOp.and IntKind.i64 x1 1 != 0) == (bitsF BinOp.and IntKind.i64 x0 1 == 1)), [])) (cond (bitsF BinOp.andNot IntKind.i64 x0 1 == 8) (cond (bitsF BinOp.and IntKind.i64 x1 2 != 0) (some (enc16 (!(!bitsF BinOp.and IntKind.i64 x1 4 != 0) == (bitsF BinOp.and IntKind.i64 x0 1 == 1)), [])) (some (enc16 (!false == (bitsF BinOp.and IntKind.i64 x0 1 == 1)), []))) (cond (bitsF BinOp.andNot IntKind.i64 x0 1 == 10) (some (enc16 (!((bitsF BinOp.and IntKind.i64 x1 8 != 0) == (bitsF BinOp.and IntKind.i64 x1 1 != 0)) == (bitsF BinOp.and IntKind.i64 x0 1 == 1)), [])) (cond (bitsF BinOp.andNot IntKind.i64 x0 1 == 12) (cond (!bitsF BinOp.and IntKind.i64 x1 4 != 0) (some (enc16 (!((bitsF BinOp.and IntKind.i64 x1 8 != 0) == (bitsF BinOp.and IntKind.i64 x1 1 != 0)) == (bitsF BinOp.and IntKind.i64 x0 1 == 1)), [])) (some (enc16 (!false == (bitsF BinOp.and IntKind.i64 x0 1 == 1)), []))) (cond (bitsF BinOp.andNot IntKind.i64 x0 1 == 14) (some (enc16 (x0 == 14), [])) (some (enc16 (false), []))))))))))
theorem run16 (x0 : Int) (x1 : Int) : funK ctx noneKnown 3 16 [.sc (.int .i64 x0), .sc (.int .i64 x1)] [] 0 finV = tree16 x0 x1 := by kernel_rfl
def p16 (x0 : Int) (x1 : Int) : Bool := (cond (bitsF BinOp.andNot IntKind.i64 x0 1 == 0) (!(bitsF BinOp.and IntKind.i64 x1 4 != 0) == (bitsF BinOp.and IntKind.i64 x0 1 == 1)) (cond (bitsF BinOp.andNot IntKind.i64 x0 1 == 2) (!(bitsF BinOp.and IntKind.i64 x1 2 != 0) == (bitsF BinOp.and IntKind.i64 x0 1 == 1)) (cond (bitsF BinOp.andNot IntKind.i64 x0 1 == 4) (!(bitsF BinOp.and IntKind.i64 x1 8 != 0) == (bitsF BinOp.and IntKind.i64 x0 1 == 1)) (cond (bitsF BinOp.andNot IntKind.i64 x0 1 == 6) (!(bitsF BinOp.and IntKind.i64 x1 1 != 0) == (bitsF BinOp.and IntKind.i64 x0 1 == 1)) (cond (bitsF BinOp.andNot IntKind.i64 x0 1 == 8) (cond (bitsF BinOp.and IntKind.i64 x1 2 != 0) (!(!bitsF BinOp.and IntKind.i64 x1 4 != 0) == (bitsF BinOp.and IntKind.i64 x0 1 == 1)) (!false == (bitsF BinOp.and IntKind.i64 x0 1 == 1))) (cond (bitsF BinOp.andNot IntKind.i64 x0 1 == 10) (!((bitsF BinOp.and IntKind.i64 x1 8 != 0) == (bitsF BinOp.and IntKind.i64 x1 1 != 0)) == (bitsF BinOp.and IntKind.i64 x0 1 == 1)) (cond (bitsF BinOp.andNot IntKind.i64 x0 1 == 12) (cond (!bitsF BinOp.and IntKind.i64 x1 4 != 0) (!((bitsF BinOp.and IntKind.i64 x1 8 != 0) == (bitsF BinOp.and IntKind.i64 x1 1 != 0)) == (bitsF BinOp.and IntKind.i64 x0 1 == 1)) (!false == (bitsF BinOp.and IntKind.i64 x0 1 == 1))) (cond (bitsF BinOp.andNot IntKind.i64 x0 1 == 14) (x0 == 14) (false)))))))))
theorem told16 (x0 : Int) (x1 : Int) : Told enc16 (tree16 x0 x1) (some (p16 x0 x1)) := (told_p (fun h0 => told_leaf _) (fun h0 => (told_p (fun h1 => told_leaf _) (fun h1 => (told_p (fun h2 => told_leaf _) (fun h2 => (told_p (fun h3 => told_leaf _) (fun h3 => (told_p (fun h4 => (told_p (fun h5 => told_leaf _) (fun h5 => told_leaf _))) (fun h4 => (told_p (fun h5 => told_leaf _) (fun h5 => (told_p (fun h6 => (told_p (fun h7 => told_leaf _) (fun h7 => told_leaf _))) (fun h6 => (told_p (fun h7 => told_leaf _) (fun h7 => told_leaf _))))))))))))))))
def k16 (l : List V) : Option (Bool × V) := match l with
  | [.sc (.int .i64 x0), .sc (.int .i64 x1)] => some (true, enc16 (p16 x0 x1))
  | _ => none
noncomputable def kn16 : Known := noneKnown.add 16 k16
theorem kn16_ok : KnownOK ctx kn16 3 := Known.add_ok (noneKnown_ok 0) rfl (by omega) (by
  intro l r h
  unfold k16 at h
  split at h
  · simp only [Option.some.injEq, Prod.mk.injEq] at h
    obtain ⟨_, rfl⟩ := h
    exact ⟨(Told.spec (noneKnown_ok 0) (run16 _ _) (told16 _ _) rfl).mono (by omega), rfl, rfl⟩
  · cases h)
-- sourdine/sourdineref1.Holds, 27
def enc17 (y : Bool) : V := .sc (.bool y)
def tree17 (x0 : Int) (x1 : Int) : R := (cond (decide (x0 < 0)) (some (enc17 (false), [])) (cond (decide (x0 > 14)) (some (enc17 (false), [])) (cond (bitsF BinOp.and IntKind.i64 x1 2 != 0) (cond (!bitsF BinOp.and IntKind.i64 x1 4 != 0) (cond (decide (0 ≤ wrapF IntKind.i64 (x0.tdiv 2) ∧ wrapF IntKind.i64 (x0.tdiv 2) < 8)) (cond (decide ((wrapF IntKind.i64 (x0.tdiv 2)).toNat < 8)) (some (enc17 (!getB [bitsF BinOp.and IntKind.i64 x1 4 != 0, bitsF BinOp.and IntKind.i64 x1 2 != 0, bitsF BinOp.and IntKind.i64 x1 8 != 0, bitsF BinOp.and IntKind.i64 x1 1 != 0, !bitsF BinOp.and IntKind.i64 x1 4 != 0, (bitsF BinOp.and IntKind.i64 x1 8 != 0) == (bitsF BinOp.and IntKind.i64 x1 1 != 0), (bitsF BinOp.and IntKind.i64 x1 8 != 0) == (bitsF BinOp.and IntKind.i64 x1 1 != 0), true] (wrapF IntKind.i64 (x0.tdiv 2)).toNat == (x0.tmod 2 == 1)), [])) none) none) (cond (decide (0 ≤ wrapF IntKind.i64 (x0.tdiv 2) ∧ wrapF IntKind.i64 (x0.tdiv 2) < 8)) (cond (decide ((wrapF IntKind.i64 (x0.tdiv 2)).toNat < 8)) (some (enc17 (!getB [bitsF BinOp.and IntKind.i64 x1 4 != 0, bitsF BinOp.and IntKind.i64 x1 2 != 0, bitsF BinOp.and IntKind.i64 x1 8 != 0, bitsF BinOp.and IntKind.i64 x1 1 != 0, !bitsF BinOp.and IntKind.i64 x1 4 != 0, (bitsF BinOp.and IntKind.i64 x1 8 != 0) == (bitsF BinOp.and IntKind.i64 x1 1 != 0), false, true] (wrapF IntKind.i64 (x0.tdiv 2)).toNat == (x0.tmod 2 == 1)), [])) none) none)) (cond (!bitsF BinOp.and IntKind.i64 x1 4 != 0) (cond (decide (0 ≤ wrapF IntKind.i64 (x0.tdiv 2) ∧ wrapF IntKind.i64 (x0.tdiv 2) < 8)) (cond (decide ((wrapF IntKind.i64 (x0.tdiv 2)).toNat < 8)) (some (enc17 (!getB [bitsF BinOp.and IntKind.i64 x1 4 != 0, bitsF BinOp.and IntKind.i64 x1 2 != 0, bitsF BinOp.and IntKind.i64 x1 8 != 0, bitsF BinOp.and IntKind.i64 x1 1 != 0, false, (bitsF BinOp.and IntKind.i64 x1 8 != 0) == (bitsF BinOp.and IntKind.i64 x1 1 != 0), (bitsF BinOp.and IntKind.i64 x1 8 != 0) == (bitsF BinOp.and IntKind.i64 x1 1 != 0), true] (wrapF IntKind.i64 (x0.tdiv 2)).toNat == (x0.tmod 2 == 1)), [])) none) none) (cond (decide (0 ≤ wrapF IntKind.i64 (x0.tdiv 2) ∧ wrapF IntKind.i64 (x0.tdiv 2) < 8)) (cond (decide ((wrapF IntKind.i64 (x0.tdiv 2)).toNat < 8)) (some (enc17 (!getB [bitsF BinOp.and IntKind.i64 x1 4 != 0, bitsF BinOp.and IntKind.i64 x1 2 != 0, bitsF BinOp.and IntKind.i64 x1 8 != 0, bitsF BinOp.and IntKind.i64 x1 1 != 0, false, (bitsF BinOp.and IntKind.i64 x1 8 != 0) == (bitsF BinOp.and IntKind.i64 x1 1 != 0), false, true] (wrapF IntKind.i64 (x0.tdiv 2)).toNat == (x0.tmod 2 == 1)), [])) none) none)))))
theorem run17 (x0 : Int) (x1 : Int) : funK ctx kn16 3 17 [.sc (.int .i64 x0), .sc (.int .i64 x1)] [] 0 finV = tree17 x0 x1 := by kernel_rfl
def p17 (x0 : Int) (x1 : Int) : Bool := (cond (decide (x0 < 0)) (false) (cond (decide (x0 > 14)) (false) (cond (bitsF BinOp.and IntKind.i64 x1 2 != 0) (cond (!bitsF BinOp.and IntKind.i64 x1 4 != 0) (!getB [bitsF BinOp.and IntKind.i64 x1 4 != 0, bitsF BinOp.and IntKind.i64 x1 2 != 0, bitsF BinOp.and IntKind.i64 x1 8 != 0, bitsF BinOp.and IntKind.i64 x1 1 != 0, !bitsF BinOp.and IntKind.i64 x1 4 != 0, (bitsF BinOp.and IntKind.i64 x1 8 != 0) == (bitsF BinOp.and IntKind.i64 x1 1 != 0), (bitsF BinOp.and IntKind.i64 x1 8 != 0) == (bitsF BinOp.and IntKind.i64 x1 1 != 0), true] (wrapF IntKind.i64 (x0.tdiv 2)).toNat == (x0.tmod 2 == 1)) (!getB [bitsF BinOp.and IntKind.i64 x1 4 != 0, bitsF BinOp.and IntKind.i64 x1 2 != 0, bitsF BinOp.and IntKind.i64 x1 8 != 0, bitsF BinOp.and IntKind.i64 x1 1 != 0, !bitsF BinOp.and IntKind.i64 x1 4 != 0, (bitsF BinOp.and IntKind.i64 x1 8 != 0) == (bitsF BinOp.and IntKind.i64 x1 1 != 0), false, true] (wrapF IntKind.i64 (x0.tdiv 2)).toNat == (x0.tmod 2 == 1))) (cond (!bitsF BinOp.and IntKind.i64 x1 4 != 0) (!getB [bitsF BinOp.and IntKind.i64 x1 4 != 0, bitsF BinOp.and IntKind.i64 x1 2 != 0, bitsF BinOp.and IntKind.i64 x1 8 != 0, bitsF BinOp.and IntKind.i64 x1 1 != 0, false, (bitsF BinOp.and IntKind.i64 x1 8 != 0) == (bitsF BinOp.and IntKind.i64 x1 1 != 0), (bitsF BinOp.and IntKind.i64 x1 8 != 0) == (bitsF BinOp.and IntKind.i64 x1 1 != 0), true] (wrapF IntKind.i64 (x0.tdiv 2)).toNat == (x0.tmod 2 == 1)) (!getB [bitsF BinOp.and IntKind.i64 x1 4 != 0, bitsF BinOp.and IntKind.i64 x1 2 != 0, bitsF BinOp.and IntKind.i64 x1 8 != 0, bitsF BinOp.and IntKind.i64 x1 1 != 0, false, (bitsF BinOp.and IntKind.i64 x1 8 != 0) == (bitsF BinOp.and IntKind.i64 x1 1 != 0), false, true] (wrapF IntKind.i64 (x0.tdiv 2)).toNat == (x0.tmod 2 == 1))))))
theorem told17 (x0 : Int) (x1 : Int) : Told enc17 (tree17 x0 x1) (some (p17 x0 x1)) := (told_p (fun h0 => told_leaf _) (fun h0 => (told_p (fun h1 => told_leaf _) (fun h1 => (told_p (fun h2 => (told_p (fun h3 => (told_t (by have f0 := wrap_fact (IntKind.i64) (x0.tdiv 2) (-9223372036854775808) 9223372036854775807 (by decide); have f1 := tdiv_fact (x0) (2) (by decide); try simp only [decide_eq_true_eq, decide_eq_false_iff_not, beq_iff_eq, beq_eq_false_iff_ne, bne_iff_ne, bne_eq_false_iff_eq, Bool.not_eq_true', Bool.not_eq_false'] at *; omega) ((told_t (by have f0 := wrap_fact (IntKind.i64) (x0.tdiv 2) (-9223372036854775808) 9223372036854775807 (by decide); have f1 := tdiv_fact (x0) (2) (by decide); try simp only [decide_eq_true_eq, decide_eq_false_iff_not, beq_iff_eq, beq_eq_false_iff_ne, bne_iff_ne, bne_eq_false_iff_eq, Bool.not_eq_true', Bool.not_eq_false'] at *; omega) (told_leaf _))))) (fun h3 => (told_t (by have f0 := wrap_fact (IntKind.i64) (x0.tdiv 2) (-9223372036854775808) 9223372036854775807 (by decide); have f1 := tdiv_fact (x0) (2) (by decide); try simp only [decide_eq_true_eq, decide_eq_false_iff_not, beq_iff_eq, beq_eq_false_iff_ne, bne_iff_ne, bne_eq_false_iff_eq, Bool.not_eq_true', Bool.not_eq_false'] at *; omega) ((told_t (by have f0 := wrap_fact (IntKind.i64) (x0.tdiv 2) (-9223372036854775808) 9223372036854775807 (by decide); have f1 := tdiv_fact (x0) (2) (by decide); try simp only [decide_eq_true_eq, decide_eq_false_iff_not, beq_iff_eq, beq_eq_false_iff_ne, bne_iff_ne, bne_eq_false_iff_eq, Bool.not_eq_true', Bool.not_eq_false'] at *; omega) (told_leaf _))))))) (fun h2 => (told_p (fun h3 => (told_t (by have f0 := wrap_fact (IntKind.i64) (x0.tdiv 2) (-9223372036854775808) 9223372036854775807 (by decide); have f1 := tdiv_fact (x0) (2) (by decide); try simp only [decide_eq_true_eq, decide_eq_false_iff_not, beq_iff_eq, beq_eq_false_iff_ne, bne_iff_ne, bne_eq_false_iff_eq, Bool.not_eq_true', Bool.not_eq_false'] at *; omega) ((told_t (by have f0 := wrap_fact (IntKind.i64) (x0.tdiv 2) (-9223372036854775808) 9223372036854775807 (by decide); have f1 := tdiv_fact (x0) (2) (by decide); try simp only [decide_eq_true_eq, decide_eq_false_iff_not, beq_iff_eq, beq_eq_false_iff_ne, bne_iff_ne, bne_eq_false_iff_eq, Bool.not_eq_true', Bool.not_eq_false'] at *; omega) (told_leaf _))))) (fun h3 => (told_t (by have f0 := wrap_fact (IntKind.i64) (x0.tdiv 2) (-9223372036854775808) 9223372036854775807 (by decide); have f1 := tdiv_fact (x0) (2) (by decide); try simp only [decide_eq_true_eq, decide_eq_false_iff_not, beq_iff_eq, beq_eq_false_iff_ne, bne_iff_ne, bne_eq_false_iff_eq, Bool.not_eq_true', Bool.not_eq_false'] at *; omega) ((told_t (by have f0 := wrap_fact (IntKind.i64) (x0.tdiv 2) (-9223372036854775808) 9223372036854775807 (by decide); have f1 := tdiv_fact (x0) (2) (by decide); try simp only [decide_eq_true_eq, decide_eq_false_iff_not, beq_iff_eq, beq_eq_false_iff_ne, bne_iff_ne, bne_eq_false_iff_eq, Bool.not_eq_true', Bool.not_eq_false'] at *; omega) (told_leaf _))))))))))))
def k17 (l : List V) : Option (Bool × V) := match l with
  | [.sc (.int .i64 x0), .sc (.int .i64 x1)] => some (true, enc17 (p17 x0 x1))
  | _ => none
noncomputable def kn17 : Known := kn16.add 17 k17
theorem kn17_ok : KnownOK ctx kn17 6 := Known.add_ok kn16_ok rfl (by omega) (by
  intro l r h
  unfold k17 at h
  split at h
  · simp only [Option.some.injEq, Prod.mk.injEq] at h
    obtain ⟨_, rfl⟩ := h
    exact ⟨(Told.spec kn16_ok (run17 _ _) (told17 _ _) rfl).mono (by omega), rfl, rfl⟩
  · cases h)
-- sourdine/cond.Name, 9
def enc18 (y : ByteArray) : V := .sc (.string y)
def tree18 (x0 : Int) : R := (cond (decide (x0 < 0)) (some (enc18 ({ data := #[63] }), [])) (cond (decide (x0 > 14)) (some (enc18 ({ data := #[63] }), [])) (cond (decide (0 ≤ x0 ∧ x0 < 15)) (cond (decide (x0.toNat < 15)) (some (enc18 (getS [{ data := #[101, 113] }, { data := #[110, 101] }, { data := #[99, 115] }, { data := #[99, 99] }, { data := #[109, 105] }, { data := #[112, 108] }, { data := #[118, 115] }, { data := #[118, 99] }, { data := #[104, 105] }, { data := #[108, 115] }, { data := #[103, 101] }, { data := #[108, 116] }, { data := #[103, 116] }, { data := #[108, 101] }, { data := #[97, 108] }] x0.toNat), [])) none) none)))
theorem run18 (x0 : Int) : funK ctx kn17 3 18 [.sc (.int .i64 x0)] [] 0 finV = tree18 x0 := by kernel_rfl
def p18 (x0 : Int) : ByteArray := (cond (decide (x0 < 0)) ({ data := #[63] }) (cond (decide (x0 > 14)) ({ data := #[63] }) (getS [{ data := #[101, 113] }, { data := #[110, 101] }, { data := #[99, 115] }, { data := #[99, 99] }, { data := #[109, 105] }, { data := #[112, 108] }, { data := #[118, 115] }, { data := #[118, 99] }, { data := #[104, 105] }, { data := #[108, 115] }, { data := #[103, 101] }, { data := #[108, 116] }, { data := #[103, 116] }, { data := #[108, 101] }, { data := #[97, 108] }] x0.toNat)))
theorem told18 (x0 : Int) : Told enc18 (tree18 x0) (some (p18 x0)) := (told_p (fun h0 => told_leaf _) (fun h0 => (told_p (fun h1 => told_leaf _) (fun h1 => (told_t (by try simp only [decide_eq_true_eq, decide_eq_false_iff_not, beq_iff_eq, beq_eq_false_iff_ne, bne_iff_ne, bne_eq_false_iff_eq, Bool.not_eq_true', Bool.not_eq_false'] at *; omega) ((told_t (by try simp only [decide_eq_true_eq, decide_eq_false_iff_not, beq_iff_eq, beq_eq_false_iff_ne, bne_iff_ne, bne_eq_false_iff_eq, Bool.not_eq_true', Bool.not_eq_false'] at *; omega) (told_leaf _))))))))
def k18 (l : List V) : Option (Bool × V) := match l with
  | [.sc (.int .i64 x0)] => some (true, enc18 (p18 x0))
  | _ => none
noncomputable def kn18 : Known := kn17.add 18 k18
theorem kn18_ok : KnownOK ctx kn18 9 := Known.add_ok kn17_ok rfl (by omega) (by
  intro l r h
  unfold k18 at h
  split at h
  · simp only [Option.some.injEq, Prod.mk.injEq] at h
    obtain ⟨_, rfl⟩ := h
    exact ⟨(Told.spec kn17_ok (run18 _) (told18 _) rfl).mono (by omega), rfl, rfl⟩
  · cases h)
-- sourdine/sourdineref1.Name, 9
def enc19 (y : ByteArray) : V := .sc (.string y)
def tree19 (x0 : Int) : R := (cond (decide (x0 < 0)) (some (enc19 ({ data := #[63] }), [])) (cond (decide (x0 > 14)) (some (enc19 ({ data := #[63] }), [])) (cond (decide (0 ≤ x0 ∧ x0 < 15)) (cond (decide (x0.toNat < 15)) (some (enc19 (getS [{ data := #[101, 113] }, { data := #[110, 101] }, { data := #[99, 115] }, { data := #[99, 99] }, { data := #[109, 105] }, { data := #[112, 108] }, { data := #[118, 115] }, { data := #[118, 99] }, { data := #[104, 105] }, { data := #[108, 115] }, { data := #[103, 101] }, { data := #[108, 116] }, { data := #[103, 116] }, { data := #[108, 101] }, { data := #[97, 108] }] x0.toNat), [])) none) none)))
theorem run19 (x0 : Int) : funK ctx kn18 3 19 [.sc (.int .i64 x0)] [] 0 finV = tree19 x0 := by kernel_rfl
def p19 (x0 : Int) : ByteArray := (cond (decide (x0 < 0)) ({ data := #[63] }) (cond (decide (x0 > 14)) ({ data := #[63] }) (getS [{ data := #[101, 113] }, { data := #[110, 101] }, { data := #[99, 115] }, { data := #[99, 99] }, { data := #[109, 105] }, { data := #[112, 108] }, { data := #[118, 115] }, { data := #[118, 99] }, { data := #[104, 105] }, { data := #[108, 115] }, { data := #[103, 101] }, { data := #[108, 116] }, { data := #[103, 116] }, { data := #[108, 101] }, { data := #[97, 108] }] x0.toNat)))
theorem told19 (x0 : Int) : Told enc19 (tree19 x0) (some (p19 x0)) := (told_p (fun h0 => told_leaf _) (fun h0 => (told_p (fun h1 => told_leaf _) (fun h1 => (told_t (by try simp only [decide_eq_true_eq, decide_eq_false_iff_not, beq_iff_eq, beq_eq_false_iff_ne, bne_iff_ne, bne_eq_false_iff_eq, Bool.not_eq_true', Bool.not_eq_false'] at *; omega) ((told_t (by try simp only [decide_eq_true_eq, decide_eq_false_iff_not, beq_iff_eq, beq_eq_false_iff_ne, bne_iff_ne, bne_eq_false_iff_eq, Bool.not_eq_true', Bool.not_eq_false'] at *; omega) (told_leaf _))))))))
def k19 (l : List V) : Option (Bool × V) := match l with
  | [.sc (.int .i64 x0)] => some (true, enc19 (p19 x0))
  | _ => none
noncomputable def kn19 : Known := kn18.add 19 k19
theorem kn19_ok : KnownOK ctx kn19 12 := Known.add_ok kn18_ok rfl (by omega) (by
  intro l r h
  unfold k19 at h
  split at h
  · simp only [Option.some.injEq, Prod.mk.injEq] at h
    obtain ⟨_, rfl⟩ := h
    exact ⟨(Told.spec kn18_ok (run19 _) (told19 _) rfl).mono (by omega), rfl, rfl⟩
  · cases h)
-- sourdine/cond.Not, 5
def enc20 (y : Int) : V := .sc (.int .i64 y)
def tree20 (x0 : Int) : R := (cond (decide (x0 < 0)) (some (enc20 (x0), [])) (cond (decide (x0 ≥ 14)) (some (enc20 (x0), [])) (some (enc20 (bitsF BinOp.xor IntKind.i64 x0 1), []))))
theorem run20 (x0 : Int) : funK ctx kn19 3 20 [.sc (.int .i64 x0)] [] 0 finV = tree20 x0 := by kernel_rfl
def p20 (x0 : Int) : Int := (cond (decide (x0 < 0)) (x0) (cond (decide (x0 ≥ 14)) (x0) (bitsF BinOp.xor IntKind.i64 x0 1)))
theorem told20 (x0 : Int) : Told enc20 (tree20 x0) (some (p20 x0)) := (told_p (fun h0 => told_leaf _) (fun h0 => (told_p (fun h1 => told_leaf _) (fun h1 => told_leaf _))))
def k20 (l : List V) : Option (Bool × V) := match l with
  | [.sc (.int .i64 x0)] => some (true, enc20 (p20 x0))
  | _ => none
noncomputable def kn20 : Known := kn19.add 20 k20
theorem kn20_ok : KnownOK ctx kn20 15 := Known.add_ok kn19_ok rfl (by omega) (by
  intro l r h
  unfold k20 at h
  split at h
  · simp only [Option.some.injEq, Prod.mk.injEq] at h
    obtain ⟨_, rfl⟩ := h
    exact ⟨(Told.spec kn19_ok (run20 _) (told20 _) rfl).mono (by omega), rfl, rfl⟩
  · cases h)
-- sourdine/sourdineref1.Not, 5
def enc21 (y : Int) : V := .sc (.int .i64 y)
def tree21 (x0 : Int) : R := (cond (decide (x0 < 0)) (some (enc21 (x0), [])) (cond (decide (x0 > 13)) (some (enc21 (x0), [])) (some (enc21 (bitsF BinOp.xor IntKind.i64 x0 1), []))))
theorem run21 (x0 : Int) : funK ctx kn20 3 21 [.sc (.int .i64 x0)] [] 0 finV = tree21 x0 := by kernel_rfl
def p21 (x0 : Int) : Int := (cond (decide (x0 < 0)) (x0) (cond (decide (x0 > 13)) (x0) (bitsF BinOp.xor IntKind.i64 x0 1)))
theorem told21 (x0 : Int) : Told enc21 (tree21 x0) (some (p21 x0)) := (told_p (fun h0 => told_leaf _) (fun h0 => (told_p (fun h1 => told_leaf _) (fun h1 => told_leaf _))))
def k21 (l : List V) : Option (Bool × V) := match l with
  | [.sc (.int .i64 x0)] => some (true, enc21 (p21 x0))
  | _ => none
noncomputable def kn21 : Known := kn20.add 21 k21
theorem kn21_ok : KnownOK ctx kn21 18 := Known.add_ok kn20_ok rfl (by omega) (by
  intro l r h
  unfold k21 at h
  split at h
  · simp only [Option.some.injEq, Prod.mk.injEq] at h
    obtain ⟨_, rfl⟩ := h
    exact ⟨(Told.spec kn20_ok (run21 _) (told21 _) rfl).mono (by omega), rfl, rfl⟩
  · cases h)
-- sourdine/cond.Of, 31
def enc24 (y : Int) : V := .sc (.int .i64 y)
def tree24 (x0 : Bool) (x1 : Bool) (x2 : Bool) (x3 : Bool) : R := (cond (x3) (cond (x2) (cond (x1) (cond (x0) (some (enc24 (15), [])) (some (enc24 (7), []))) (cond (x0) (some (enc24 (11), [])) (some (enc24 (3), [])))) (cond (x1) (cond (x0) (some (enc24 (13), [])) (some (enc24 (5), []))) (cond (x0) (some (enc24 (9), [])) (some (enc24 (1), []))))) (cond (x2) (cond (x1) (cond (x0) (some (enc24 (14), [])) (some (enc24 (6), []))) (cond (x0) (some (enc24 (10), [])) (some (enc24 (2), [])))) (cond (x1) (cond (x0) (some (enc24 (12), [])) (some (enc24 (4), []))) (cond (x0) (some (enc24 (8), [])) (some (enc24 (0), []))))))
theorem run24 (x0 : Bool) (x1 : Bool) (x2 : Bool) (x3 : Bool) : funK ctx kn21 3 24 [.sc (.bool x0), .sc (.bool x1), .sc (.bool x2), .sc (.bool x3)] [] 0 finV = tree24 x0 x1 x2 x3 := by kernel_rfl
def p24 (x0 : Bool) (x1 : Bool) (x2 : Bool) (x3 : Bool) : Int := (cond (x3) (cond (x2) (cond (x1) (cond (x0) (15) (7)) (cond (x0) (11) (3))) (cond (x1) (cond (x0) (13) (5)) (cond (x0) (9) (1)))) (cond (x2) (cond (x1) (cond (x0) (14) (6)) (cond (x0) (10) (2))) (cond (x1) (cond (x0) (12) (4)) (cond (x0) (8) (0)))))
theorem told24 (x0 : Bool) (x1 : Bool) (x2 : Bool) (x3 : Bool) : Told enc24 (tree24 x0 x1 x2 x3) (some (p24 x0 x1 x2 x3)) := (told_p (fun h0 => (told_p (fun h1 => (told_p (fun h2 => (told_p (fun h3 => told_leaf _) (fun h3 => told_leaf _))) (fun h2 => (told_p (fun h3 => told_leaf _) (fun h3 => told_leaf _))))) (fun h1 => (told_p (fun h2 => (told_p (fun h3 => told_leaf _) (fun h3 => told_leaf _))) (fun h2 => (told_p (fun h3 => told_leaf _) (fun h3 => told_leaf _))))))) (fun h0 => (told_p (fun h1 => (told_p (fun h2 => (told_p (fun h3 => told_leaf _) (fun h3 => told_leaf _))) (fun h2 => (told_p (fun h3 => told_leaf _) (fun h3 => told_leaf _))))) (fun h1 => (told_p (fun h2 => (told_p (fun h3 => told_leaf _) (fun h3 => told_leaf _))) (fun h2 => (told_p (fun h3 => told_leaf _) (fun h3 => told_leaf _))))))))
def k24 (l : List V) : Option (Bool × V) := match l with
  | [.sc (.bool x0), .sc (.bool x1), .sc (.bool x2), .sc (.bool x3)] => some (true, enc24 (p24 x0 x1 x2 x3))
  | _ => none
noncomputable def kn24 : Known := kn21.add 24 k24
theorem kn24_ok : KnownOK ctx kn24 21 := Known.add_ok kn21_ok rfl (by omega) (by
  intro l r h
  unfold k24 at h
  split at h
  · simp only [Option.some.injEq, Prod.mk.injEq] at h
    obtain ⟨_, rfl⟩ := h
    exact ⟨(Told.spec kn21_ok (run24 _ _ _ _) (told24 _ _ _ _) rfl).mono (by omega), rfl, rfl⟩
  · cases h)
-- sourdine/sourdineref1.Of, 31
def enc25 (y : Int) : V := .sc (.int .i64 y)
def tree25 (x0 : Bool) (x1 : Bool) (x2 : Bool) (x3 : Bool) : R := (cond (x0) (cond (x1) (cond (x2) (cond (x3) (some (enc25 (15), [])) (some (enc25 (14), []))) (cond (x3) (some (enc25 (13), [])) (some (enc25 (12), [])))) (cond (x2) (cond (x3) (some (enc25 (11), [])) (some (enc25 (10), []))) (cond (x3) (some (enc25 (9), [])) (some (enc25 (8), []))))) (cond (x1) (cond (x2) (cond (x3) (some (enc25 (7), [])) (some (enc25 (6), []))) (cond (x3) (some (enc25 (5), [])) (some (enc25 (4), [])))) (cond (x2) (cond (x3) (some (enc25 (3), [])) (some (enc25 (2), []))) (cond (x3) (some (enc25 (1), [])) (some (enc25 (0), []))))))
theorem run25 (x0 : Bool) (x1 : Bool) (x2 : Bool) (x3 : Bool) : funK ctx kn24 3 25 [.sc (.bool x0), .sc (.bool x1), .sc (.bool x2), .sc (.bool x3)] [] 0 finV = tree25 x0 x1 x2 x3 := by kernel_rfl
def p25 (x0 : Bool) (x1 : Bool) (x2 : Bool) (x3 : Bool) : Int := (cond (x0) (cond (x1) (cond (x2) (cond (x3) (15) (14)) (cond (x3) (13) (12))) (cond (x2) (cond (x3) (11) (10)) (cond (x3) (9) (8)))) (cond (x1) (cond (x2) (cond (x3) (7) (6)) (cond (x3) (5) (4))) (cond (x2) (cond (x3) (3) (2)) (cond (x3) (1) (0)))))
theorem told25 (x0 : Bool) (x1 : Bool) (x2 : Bool) (x3 : Bool) : Told enc25 (tree25 x0 x1 x2 x3) (some (p25 x0 x1 x2 x3)) := (told_p (fun h0 => (told_p (fun h1 => (told_p (fun h2 => (told_p (fun h3 => told_leaf _) (fun h3 => told_leaf _))) (fun h2 => (told_p (fun h3 => told_leaf _) (fun h3 => told_leaf _))))) (fun h1 => (told_p (fun h2 => (told_p (fun h3 => told_leaf _) (fun h3 => told_leaf _))) (fun h2 => (told_p (fun h3 => told_leaf _) (fun h3 => told_leaf _))))))) (fun h0 => (told_p (fun h1 => (told_p (fun h2 => (told_p (fun h3 => told_leaf _) (fun h3 => told_leaf _))) (fun h2 => (told_p (fun h3 => told_leaf _) (fun h3 => told_leaf _))))) (fun h1 => (told_p (fun h2 => (told_p (fun h3 => told_leaf _) (fun h3 => told_leaf _))) (fun h2 => (told_p (fun h3 => told_leaf _) (fun h3 => told_leaf _))))))))
def k25 (l : List V) : Option (Bool × V) := match l with
  | [.sc (.bool x0), .sc (.bool x1), .sc (.bool x2), .sc (.bool x3)] => some (true, enc25 (p25 x0 x1 x2 x3))
  | _ => none
noncomputable def kn25 : Known := kn24.add 25 k25
theorem kn25_ok : KnownOK ctx kn25 24 := Known.add_ok kn24_ok rfl (by omega) (by
  intro l r h
  unfold k25 at h
  split at h
  · simp only [Option.some.injEq, Prod.mk.injEq] at h
    obtain ⟨_, rfl⟩ := h
    exact ⟨(Told.spec kn24_ok (run25 _ _ _ _) (told25 _ _ _ _) rfl).mono (by omega), rfl, rfl⟩
  · cases h)
-- sourdine/cond.Result, 1
def enc22 (y : Int) : V := .sc (.int .i64 y)
def tree22 (x0 : Int) (x1 : Bool) (x2 : Bool) : R := (some (enc22 (p24 (shrF IntKind.u32 x0 31 == 1) (x0 == 0) x1 x2), []))
theorem run22 (x0 : Int) (x1 : Bool) (x2 : Bool) : funK ctx kn25 3 22 [.sc (.int .u32 x0), .sc (.bool x1), .sc (.bool x2)] [] 0 finV = tree22 x0 x1 x2 := by kernel_rfl
def p22 (x0 : Int) (x1 : Bool) (x2 : Bool) : Int := (p24 (shrF IntKind.u32 x0 31 == 1) (x0 == 0) x1 x2)
theorem told22 (x0 : Int) (x1 : Bool) (x2 : Bool) : Told enc22 (tree22 x0 x1 x2) (some (p22 x0 x1 x2)) := told_leaf _
def k22 (l : List V) : Option (Bool × V) := match l with
  | [.sc (.int .u32 x0), .sc (.bool x1), .sc (.bool x2)] => some (true, enc22 (p22 x0 x1 x2))
  | _ => none
noncomputable def kn22 : Known := kn25.add 22 k22
theorem kn22_ok : KnownOK ctx kn22 27 := Known.add_ok kn25_ok rfl (by omega) (by
  intro l r h
  unfold k22 at h
  split at h
  · simp only [Option.some.injEq, Prod.mk.injEq] at h
    obtain ⟨_, rfl⟩ := h
    exact ⟨(Told.spec kn25_ok (run22 _ _ _) (told22 _ _ _) rfl).mono (by omega), rfl, rfl⟩
  · cases h)
-- sourdine/sourdineref1.bit, 3
def enc42 (y : Bool) : V := .sc (.bool y)
def tree42 (x0 : Int) (x1 : Int) : R := (cond (decide (x1 < 0)) none (some (enc42 (bitsF BinOp.and IntKind.u32 (shrF IntKind.u32 x0 x1) 1 == 1), [])))
theorem run42 (x0 : Int) (x1 : Int) : funK ctx kn22 3 42 [.sc (.int .u32 x0), .sc (.int .i64 x1)] [] 0 finV = tree42 x0 x1 := by kernel_rfl
def o42 (x0 : Int) (x1 : Int) : Option Bool := (cond (decide (x1 < 0)) none (some (bitsF BinOp.and IntKind.u32 (shrF IntKind.u32 x0 x1) 1 == 1)))
theorem told42 (x0 : Int) (x1 : Int) : Told enc42 (tree42 x0 x1) (o42 x0 x1) := (told_c (fun h0 => told_none _) (fun h0 => told_leaf _))
def k42 (l : List V) : Option (Bool × V) := match l with
  | [.sc (.int .u32 x0), .sc (.int .i64 x1)] => some ((o42 x0 x1).isSome, enc42 ((o42 x0 x1).getD default))
  | _ => none
noncomputable def kn42 : Known := kn22.add 42 k42
theorem kn42_ok : KnownOK ctx kn42 30 := Known.add_ok kn22_ok rfl (by omega) (by
  intro l r h
  unfold k42 at h
  split at h
  · simp only [Option.some.injEq, Prod.mk.injEq] at h
    obtain ⟨h1, rfl⟩ := h
    obtain ⟨a, ha⟩ := Option.isSome_iff_exists.1 h1
    rw [ha]
    exact ⟨(Told.spec kn22_ok (run42 _ _) (told42 _ _) ha).mono (by omega), rfl, rfl⟩
  · cases h)
-- sourdine/sourdineref1.Result, 1
def enc23 (y : Int) : V := .sc (.int .i64 y)
def tree23 (x0 : Int) (x1 : Bool) (x2 : Bool) : R := (some (enc23 (p25 ((o42 x0 31).getD false) (x0 == 0) x1 x2), []))
theorem run23 (x0 : Int) (x1 : Bool) (x2 : Bool) : funK ctx kn42 3 23 [.sc (.int .u32 x0), .sc (.bool x1), .sc (.bool x2)] [] 0 finV = tree23 x0 x1 x2 := by kernel_rfl
def p23 (x0 : Int) (x1 : Bool) (x2 : Bool) : Int := (p25 ((o42 x0 31).getD false) (x0 == 0) x1 x2)
theorem told23 (x0 : Int) (x1 : Bool) (x2 : Bool) : Told enc23 (tree23 x0 x1 x2) (some (p23 x0 x1 x2)) := told_leaf _
def k23 (l : List V) : Option (Bool × V) := match l with
  | [.sc (.int .u32 x0), .sc (.bool x1), .sc (.bool x2)] => some (true, enc23 (p23 x0 x1 x2))
  | _ => none
noncomputable def kn23 : Known := kn42.add 23 k23
theorem kn23_ok : KnownOK ctx kn23 33 := Known.add_ok kn42_ok rfl (by omega) (by
  intro l r h
  unfold k23 at h
  split at h
  · simp only [Option.some.injEq, Prod.mk.injEq] at h
    obtain ⟨_, rfl⟩ := h
    exact ⟨(Told.spec kn42_ok (run23 _ _ _) (told23 _ _ _) rfl).mono (by omega), rfl, rfl⟩
  · cases h)
-- sourdine/sourdinelaw2.CondNumbers, 21
def enc5 (y : Bool) : V := .sc (.bool y)
def tree5 (x0 : Int) (x1 : Int) : R := (cond (!p16 0 (p22 (wrapF IntKind.u32 (x0 - x1)) (decide (x0 ≥ x1)) (shrF IntKind.u32 (bitsF BinOp.and IntKind.u32 (bitsF BinOp.xor IntKind.u32 x0 x1) (bitsF BinOp.xor IntKind.u32 x0 (wrapF IntKind.u32 (x0 - x1)))) 31 == 1)) == (x0 == x1)) (some (enc5 (false), [])) (cond (!p16 1 (p22 (wrapF IntKind.u32 (x0 - x1)) (decide (x0 ≥ x1)) (shrF IntKind.u32 (bitsF BinOp.and IntKind.u32 (bitsF BinOp.xor IntKind.u32 x0 x1) (bitsF BinOp.xor IntKind.u32 x0 (wrapF IntKind.u32 (x0 - x1)))) 31 == 1)) == (x0 != x1)) (some (enc5 (false), [])) (cond (!p16 2 (p22 (wrapF IntKind.u32 (x0 - x1)) (decide (x0 ≥ x1)) (shrF IntKind.u32 (bitsF BinOp.and IntKind.u32 (bitsF BinOp.xor IntKind.u32 x0 x1) (bitsF BinOp.xor IntKind.u32 x0 (wrapF IntKind.u32 (x0 - x1)))) 31 == 1)) == decide (x0 ≥ x1)) (some (enc5 (false), [])) (cond (!p16 3 (p22 (wrapF IntKind.u32 (x0 - x1)) (decide (x0 ≥ x1)) (shrF IntKind.u32 (bitsF BinOp.and IntKind.u32 (bitsF BinOp.xor IntKind.u32 x0 x1) (bitsF BinOp.xor IntKind.u32 x0 (wrapF IntKind.u32 (x0 - x1)))) 31 == 1)) == decide (x0 < x1)) (some (enc5 (false), [])) (cond (!p16 8 (p22 (wrapF IntKind.u32 (x0 - x1)) (decide (x0 ≥ x1)) (shrF IntKind.u32 (bitsF BinOp.and IntKind.u32 (bitsF BinOp.xor IntKind.u32 x0 x1) (bitsF BinOp.xor IntKind.u32 x0 (wrapF IntKind.u32 (x0 - x1)))) 31 == 1)) == decide (x0 > x1)) (some (enc5 (false), [])) (cond (!p16 9 (p22 (wrapF IntKind.u32 (x0 - x1)) (decide (x0 ≥ x1)) (shrF IntKind.u32 (bitsF BinOp.and IntKind.u32 (bitsF BinOp.xor IntKind.u32 x0 x1) (bitsF BinOp.xor IntKind.u32 x0 (wrapF IntKind.u32 (x0 - x1)))) 31 == 1)) == decide (x0 ≤ x1)) (some (enc5 (false), [])) (cond (!p16 10 (p22 (wrapF IntKind.u32 (x0 - x1)) (decide (x0 ≥ x1)) (shrF IntKind.u32 (bitsF BinOp.and IntKind.u32 (bitsF BinOp.xor IntKind.u32 x0 x1) (bitsF BinOp.xor IntKind.u32 x0 (wrapF IntKind.u32 (x0 - x1)))) 31 == 1)) == decide (wrapF IntKind.i32 x0 ≥ wrapF IntKind.i32 x1)) (some (enc5 (false), [])) (cond (!p16 11 (p22 (wrapF IntKind.u32 (x0 - x1)) (decide (x0 ≥ x1)) (shrF IntKind.u32 (bitsF BinOp.and IntKind.u32 (bitsF BinOp.xor IntKind.u32 x0 x1) (bitsF BinOp.xor IntKind.u32 x0 (wrapF IntKind.u32 (x0 - x1)))) 31 == 1)) == decide (wrapF IntKind.i32 x0 < wrapF IntKind.i32 x1)) (some (enc5 (false), [])) (cond (!p16 12 (p22 (wrapF IntKind.u32 (x0 - x1)) (decide (x0 ≥ x1)) (shrF IntKind.u32 (bitsF BinOp.and IntKind.u32 (bitsF BinOp.xor IntKind.u32 x0 x1) (bitsF BinOp.xor IntKind.u32 x0 (wrapF IntKind.u32 (x0 - x1)))) 31 == 1)) == decide (wrapF IntKind.i32 x0 > wrapF IntKind.i32 x1)) (some (enc5 (false), [])) (cond (!p16 13 (p22 (wrapF IntKind.u32 (x0 - x1)) (decide (x0 ≥ x1)) (shrF IntKind.u32 (bitsF BinOp.and IntKind.u32 (bitsF BinOp.xor IntKind.u32 x0 x1) (bitsF BinOp.xor IntKind.u32 x0 (wrapF IntKind.u32 (x0 - x1)))) 31 == 1)) == decide (wrapF IntKind.i32 x0 ≤ wrapF IntKind.i32 x1)) (some (enc5 (false), [])) (some (enc5 (true), []))))))))))))
theorem run5 (x0 : Int) (x1 : Int) : funK ctx kn23 3 5 [.sc (.int .u32 x0), .sc (.int .u32 x1)] [] 0 finV = tree5 x0 x1 := by kernel_rfl
def p5 (x0 : Int) (x1 : Int) : Bool := (cond (!p16 0 (p22 (wrapF IntKind.u32 (x0 - x1)) (decide (x0 ≥ x1)) (shrF IntKind.u32 (bitsF BinOp.and IntKind.u32 (bitsF BinOp.xor IntKind.u32 x0 x1) (bitsF BinOp.xor IntKind.u32 x0 (wrapF IntKind.u32 (x0 - x1)))) 31 == 1)) == (x0 == x1)) (false) (cond (!p16 1 (p22 (wrapF IntKind.u32 (x0 - x1)) (decide (x0 ≥ x1)) (shrF IntKind.u32 (bitsF BinOp.and IntKind.u32 (bitsF BinOp.xor IntKind.u32 x0 x1) (bitsF BinOp.xor IntKind.u32 x0 (wrapF IntKind.u32 (x0 - x1)))) 31 == 1)) == (x0 != x1)) (false) (cond (!p16 2 (p22 (wrapF IntKind.u32 (x0 - x1)) (decide (x0 ≥ x1)) (shrF IntKind.u32 (bitsF BinOp.and IntKind.u32 (bitsF BinOp.xor IntKind.u32 x0 x1) (bitsF BinOp.xor IntKind.u32 x0 (wrapF IntKind.u32 (x0 - x1)))) 31 == 1)) == decide (x0 ≥ x1)) (false) (cond (!p16 3 (p22 (wrapF IntKind.u32 (x0 - x1)) (decide (x0 ≥ x1)) (shrF IntKind.u32 (bitsF BinOp.and IntKind.u32 (bitsF BinOp.xor IntKind.u32 x0 x1) (bitsF BinOp.xor IntKind.u32 x0 (wrapF IntKind.u32 (x0 - x1)))) 31 == 1)) == decide (x0 < x1)) (false) (cond (!p16 8 (p22 (wrapF IntKind.u32 (x0 - x1)) (decide (x0 ≥ x1)) (shrF IntKind.u32 (bitsF BinOp.and IntKind.u32 (bitsF BinOp.xor IntKind.u32 x0 x1) (bitsF BinOp.xor IntKind.u32 x0 (wrapF IntKind.u32 (x0 - x1)))) 31 == 1)) == decide (x0 > x1)) (false) (cond (!p16 9 (p22 (wrapF IntKind.u32 (x0 - x1)) (decide (x0 ≥ x1)) (shrF IntKind.u32 (bitsF BinOp.and IntKind.u32 (bitsF BinOp.xor IntKind.u32 x0 x1) (bitsF BinOp.xor IntKind.u32 x0 (wrapF IntKind.u32 (x0 - x1)))) 31 == 1)) == decide (x0 ≤ x1)) (false) (cond (!p16 10 (p22 (wrapF IntKind.u32 (x0 - x1)) (decide (x0 ≥ x1)) (shrF IntKind.u32 (bitsF BinOp.and IntKind.u32 (bitsF BinOp.xor IntKind.u32 x0 x1) (bitsF BinOp.xor IntKind.u32 x0 (wrapF IntKind.u32 (x0 - x1)))) 31 == 1)) == decide (wrapF IntKind.i32 x0 ≥ wrapF IntKind.i32 x1)) (false) (cond (!p16 11 (p22 (wrapF IntKind.u32 (x0 - x1)) (decide (x0 ≥ x1)) (shrF IntKind.u32 (bitsF BinOp.and IntKind.u32 (bitsF BinOp.xor IntKind.u32 x0 x1) (bitsF BinOp.xor IntKind.u32 x0 (wrapF IntKind.u32 (x0 - x1)))) 31 == 1)) == decide (wrapF IntKind.i32 x0 < wrapF IntKind.i32 x1)) (false) (cond (!p16 12 (p22 (wrapF IntKind.u32 (x0 - x1)) (decide (x0 ≥ x1)) (shrF IntKind.u32 (bitsF BinOp.and IntKind.u32 (bitsF BinOp.xor IntKind.u32 x0 x1) (bitsF BinOp.xor IntKind.u32 x0 (wrapF IntKind.u32 (x0 - x1)))) 31 == 1)) == decide (wrapF IntKind.i32 x0 > wrapF IntKind.i32 x1)) (false) (cond (!p16 13 (p22 (wrapF IntKind.u32 (x0 - x1)) (decide (x0 ≥ x1)) (shrF IntKind.u32 (bitsF BinOp.and IntKind.u32 (bitsF BinOp.xor IntKind.u32 x0 x1) (bitsF BinOp.xor IntKind.u32 x0 (wrapF IntKind.u32 (x0 - x1)))) 31 == 1)) == decide (wrapF IntKind.i32 x0 ≤ wrapF IntKind.i32 x1)) (false) (true)))))))))))
theorem told5 (x0 : Int) (x1 : Int) : Told enc5 (tree5 x0 x1) (some (p5 x0 x1)) := (told_p (fun h0 => told_leaf _) (fun h0 => (told_p (fun h1 => told_leaf _) (fun h1 => (told_p (fun h2 => told_leaf _) (fun h2 => (told_p (fun h3 => told_leaf _) (fun h3 => (told_p (fun h4 => told_leaf _) (fun h4 => (told_p (fun h5 => told_leaf _) (fun h5 => (told_p (fun h6 => told_leaf _) (fun h6 => (told_p (fun h7 => told_leaf _) (fun h7 => (told_p (fun h8 => told_leaf _) (fun h8 => (told_p (fun h9 => told_leaf _) (fun h9 => told_leaf _))))))))))))))))))))
def k5 (l : List V) : Option (Bool × V) := match l with
  | [.sc (.int .u32 x0), .sc (.int .u32 x1)] => some (true, enc5 (p5 x0 x1))
  | _ => none
noncomputable def kn5 : Known := kn23.add 5 k5
theorem kn5_ok : KnownOK ctx kn5 36 := Known.add_ok kn23_ok rfl (by omega) (by
  intro l r h
  unfold k5 at h
  split at h
  · simp only [Option.some.injEq, Prod.mk.injEq] at h
    obtain ⟨_, rfl⟩ := h
    exact ⟨(Told.spec kn23_ok (run5 _ _) (told5 _ _) rfl).mono (by omega), rfl, rfl⟩
  · cases h)
-- sourdine/sourdinelaw2.CondOthers, 11
def enc4 (y : Bool) : V := .sc (.bool y)
def tree4 (x0 : Int) (x1 : Int) (x2 : Bool) (x3 : Bool) (x4 : Bool) (x5 : Bool) : R := (cond (decide (bitsF BinOp.and IntKind.i64 x0 15 > 13)) (some (enc4 (p16 14 x1), [])) (cond (!p16 (bitsF BinOp.and IntKind.i64 x0 15) (p24 x2 x3 x4 x5) == p16 (p20 (bitsF BinOp.and IntKind.i64 x0 15)) (p24 x2 x3 x4 x5)) (cond (!p16 (bitsF BinOp.and IntKind.i64 x0 15) x1 == p16 (p20 (bitsF BinOp.and IntKind.i64 x0 15)) x1) (cond (p20 (p20 (bitsF BinOp.and IntKind.i64 x0 15)) == bitsF BinOp.and IntKind.i64 x0 15) (cond (p24 x2 x3 x4 x5 == p25 x2 x3 x4 x5) (some (enc4 (p16 (bitsF BinOp.and IntKind.i64 x0 15) (p24 x2 x3 x4 x5) == p16 (bitsF BinOp.and IntKind.i64 x0 15) (bitsF BinOp.or IntKind.i64 (p24 x2 x3 x4 x5) 16)), [])) (some (enc4 (false), []))) (some (enc4 (false), []))) (some (enc4 (false), []))) (some (enc4 (false), []))))
theorem run4 (x0 : Int) (x1 : Int) (x2 : Bool) (x3 : Bool) (x4 : Bool) (x5 : Bool) : funK ctx kn5 3 4 [.sc (.int .i64 x0), .sc (.int .i64 x1), .sc (.bool x2), .sc (.bool x3), .sc (.bool x4), .sc (.bool x5)] [] 0 finV = tree4 x0 x1 x2 x3 x4 x5 := by kernel_rfl
def p4 (x0 : Int) (x1 : Int) (x2 : Bool) (x3 : Bool) (x4 : Bool) (x5 : Bool) : Bool := (cond (decide (bitsF BinOp.and IntKind.i64 x0 15 > 13)) (p16 14 x1) (cond (!p16 (bitsF BinOp.and IntKind.i64 x0 15) (p24 x2 x3 x4 x5) == p16 (p20 (bitsF BinOp.and IntKind.i64 x0 15)) (p24 x2 x3 x4 x5)) (cond (!p16 (bitsF BinOp.and IntKind.i64 x0 15) x1 == p16 (p20 (bitsF BinOp.and IntKind.i64 x0 15)) x1) (cond (p20 (p20 (bitsF BinOp.and IntKind.i64 x0 15)) == bitsF BinOp.and IntKind.i64 x0 15) (cond (p24 x2 x3 x4 x5 == p25 x2 x3 x4 x5) (p16 (bitsF BinOp.and IntKind.i64 x0 15) (p24 x2 x3 x4 x5) == p16 (bitsF BinOp.and IntKind.i64 x0 15) (bitsF BinOp.or IntKind.i64 (p24 x2 x3 x4 x5) 16)) (false)) (false)) (false)) (false)))
theorem told4 (x0 : Int) (x1 : Int) (x2 : Bool) (x3 : Bool) (x4 : Bool) (x5 : Bool) : Told enc4 (tree4 x0 x1 x2 x3 x4 x5) (some (p4 x0 x1 x2 x3 x4 x5)) := (told_p (fun h0 => told_leaf _) (fun h0 => (told_p (fun h1 => (told_p (fun h2 => (told_p (fun h3 => (told_p (fun h4 => told_leaf _) (fun h4 => told_leaf _))) (fun h3 => told_leaf _))) (fun h2 => told_leaf _))) (fun h1 => told_leaf _))))
def k4 (l : List V) : Option (Bool × V) := match l with
  | [.sc (.int .i64 x0), .sc (.int .i64 x1), .sc (.bool x2), .sc (.bool x3), .sc (.bool x4), .sc (.bool x5)] => some (true, enc4 (p4 x0 x1 x2 x3 x4 x5))
  | _ => none
noncomputable def kn4 : Known := kn5.add 4 k4
theorem kn4_ok : KnownOK ctx kn4 39 := Known.add_ok kn5_ok rfl (by omega) (by
  intro l r h
  unfold k4 at h
  split at h
  · simp only [Option.some.injEq, Prod.mk.injEq] at h
    obtain ⟨_, rfl⟩ := h
    exact ⟨(Told.spec kn5_ok (run4 _ _ _ _ _ _) (told4 _ _ _ _ _ _) rfl).mono (by omega), rfl, rfl⟩
  · cases h)
-- sourdine/sourdinelaw2.CondTells, 13
def enc3 (y : Bool) : V := .sc (.bool y)
def tree3 (x0 : Int) (x1 : Int) (x2 : Int) (x3 : Bool) (x4 : Bool) : R := (cond (p16 x0 x1 == p17 x0 x1) (cond ((p18 x0).toList == (p19 x0).toList) (cond ((p18 (bitsF BinOp.and IntKind.i64 x0 15)).toList == (p19 (bitsF BinOp.and IntKind.i64 x0 15)).toList) (cond (p20 x0 == p21 x0) (cond (p20 (bitsF BinOp.and IntKind.i64 x0 15) == p21 (bitsF BinOp.and IntKind.i64 x0 15)) (cond (p22 x2 x3 x4 == p23 x2 x3 x4) (some (enc3 (p22 (bitsF BinOp.and IntKind.u32 x2 1) x3 x4 == p23 (bitsF BinOp.and IntKind.u32 x2 1) x3 x4), [])) (some (enc3 (false), []))) (some (enc3 (false), []))) (some (enc3 (false), []))) (some (enc3 (false), []))) (some (enc3 (false), []))) (some (enc3 (false), [])))
theorem run3 (x0 : Int) (x1 : Int) (x2 : Int) (x3 : Bool) (x4 : Bool) : funK ctx kn4 3 3 [.sc (.int .i64 x0), .sc (.int .i64 x1), .sc (.int .u32 x2), .sc (.bool x3), .sc (.bool x4)] [] 0 finV = tree3 x0 x1 x2 x3 x4 := by kernel_rfl
def p3 (x0 : Int) (x1 : Int) (x2 : Int) (x3 : Bool) (x4 : Bool) : Bool := (cond (p16 x0 x1 == p17 x0 x1) (cond ((p18 x0).toList == (p19 x0).toList) (cond ((p18 (bitsF BinOp.and IntKind.i64 x0 15)).toList == (p19 (bitsF BinOp.and IntKind.i64 x0 15)).toList) (cond (p20 x0 == p21 x0) (cond (p20 (bitsF BinOp.and IntKind.i64 x0 15) == p21 (bitsF BinOp.and IntKind.i64 x0 15)) (cond (p22 x2 x3 x4 == p23 x2 x3 x4) (p22 (bitsF BinOp.and IntKind.u32 x2 1) x3 x4 == p23 (bitsF BinOp.and IntKind.u32 x2 1) x3 x4) (false)) (false)) (false)) (false)) (false)) (false))
theorem told3 (x0 : Int) (x1 : Int) (x2 : Int) (x3 : Bool) (x4 : Bool) : Told enc3 (tree3 x0 x1 x2 x3 x4) (some (p3 x0 x1 x2 x3 x4)) := (told_p (fun h0 => (told_p (fun h1 => (told_p (fun h2 => (told_p (fun h3 => (told_p (fun h4 => (told_p (fun h5 => told_leaf _) (fun h5 => told_leaf _))) (fun h4 => told_leaf _))) (fun h3 => told_leaf _))) (fun h2 => told_leaf _))) (fun h1 => told_leaf _))) (fun h0 => told_leaf _))
def k3 (l : List V) : Option (Bool × V) := match l with
  | [.sc (.int .i64 x0), .sc (.int .i64 x1), .sc (.int .u32 x2), .sc (.bool x3), .sc (.bool x4)] => some (true, enc3 (p3 x0 x1 x2 x3 x4))
  | _ => none
noncomputable def kn3 : Known := kn4.add 3 k3
theorem kn3_ok : KnownOK ctx kn3 42 := Known.add_ok kn4_ok rfl (by omega) (by
  intro l r h
  unfold k3 at h
  split at h
  · simp only [Option.some.injEq, Prod.mk.injEq] at h
    obtain ⟨_, rfl⟩ := h
    exact ⟨(Told.spec kn4_ok (run3 _ _ _ _ _) (told3 _ _ _ _ _) rfl).mono (by omega), rfl, rfl⟩
  · cases h)
end Go.Den
