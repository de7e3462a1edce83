import Derived.Test.YtihdbaehaiaiiaaY13
set_option linter.unusedSimpArgs false
set_option linter.unusedVariables false
set_option maxRecDepth 100000
namespace Go.Den
def enc6 (y : Bool) : V := .sc (.bool y)
noncomputable def tree6 (x0 : Int) (x1 : Int) (x2 : Bool) : R := (fun (t2 : Int × Int × Bool) => (fun (t1 : Int × Int × Bool) => (fun (t4 : R) => (fun (t0 : R) => (fun (t3 : Int × Int × Bool) => (cond (!t3.snd.snd == decide (x0 < 65536)) t4 (cond (t3.snd.snd) (cond (decide ((0 ≤ t3.fst ∧ t3.fst ≤ 65535) ∧ 0 ≤ t3.snd.fst ∧ t3.snd.fst ≤ 65535)) (cond ((dW t3.fst t3.snd.fst false).f_Imm != x0) t4 t0) none) t0))) (E (S30.mk 13 true false 14 (wrapF .i64 (x1.tmod 13)) 0 0 2 x0 true 0 0 0 false false))) (cond (shrF .u32 (p13 x0).fst 10 != 0) (cond (t1.snd.snd == (p13 x0).snd) (cond (!t2.snd.snd) (cond (!t1.snd.snd) (some (enc6 (true), [])) (cond (decide ((0 ≤ t1.fst ∧ t1.fst ≤ 65535) ∧ 0 ≤ t1.snd.fst ∧ t1.snd.fst ≤ 65535)) (cond ((dW t1.fst t1.snd.fst false).f_Imm == x0) (cond (decide ((0 ≤ t1.fst ∧ t1.fst ≤ 65535) ∧ 0 ≤ t1.snd.fst ∧ t1.snd.fst ≤ 65535)) (some (enc6 ((dW t1.fst t1.snd.fst false).f_S == x2), [])) none) t4) none)) t4) t4) (cond (t2.snd.snd == (p13 x0).snd) (cond (!t1.snd.snd) (cond (!t2.snd.snd) (some (enc6 (true), [])) (cond (decide ((0 ≤ t2.fst ∧ t2.fst ≤ 65535) ∧ 0 ≤ t2.snd.fst ∧ t2.snd.fst ≤ 65535)) (cond ((dW t2.fst t2.snd.fst false).f_Imm == x0) (cond (decide ((0 ≤ t2.fst ∧ t2.fst ≤ 65535) ∧ 0 ≤ t2.snd.fst ∧ t2.snd.fst ≤ 65535)) (some (enc6 ((dW t2.fst t2.snd.fst false).f_S == x2), [])) none) t4) none)) t4) t4))) (some (enc6 (false), []))) (E (S30.mk 13 true x2 14 (wrapF .i64 (x1.tmod 13)) 0 0 1 x0 true 0 0 0 false false))) (E (S30.mk 13 true x2 14 (wrapF .i64 (x1.tmod 13)) 0 0 0 x0 true 0 0 0 false false))
theorem run6 (x0 : Int) (x1 : Int) (x2 : Bool) : funK ctx knE2 lt11 3 6 [.sc (.int .u32 x0), .sc (.int .u8 x1), .sc (.bool x2)] [] 0 finV = tree6 x0 x1 x2 := by kernel_rfl
noncomputable def o6 (x0 : Int) (x1 : Int) (x2 : Bool) : Option Bool := (fun (t2 : Int × Int × Bool) => (fun (t1 : Int × Int × Bool) => (fun (t4 : Option Bool) => (fun (t0 : Option Bool) => (fun (t3 : Int × Int × Bool) => (cond (!t3.snd.snd == decide (x0 < 65536)) t4 (cond (t3.snd.snd) (cond (decide ((0 ≤ t3.fst ∧ t3.fst ≤ 65535) ∧ 0 ≤ t3.snd.fst ∧ t3.snd.fst ≤ 65535)) (cond ((dW t3.fst t3.snd.fst false).f_Imm != x0) t4 t0) none) t0))) (E (S30.mk 13 true false 14 (wrapF .i64 (x1.tmod 13)) 0 0 2 x0 true 0 0 0 false false))) (cond (shrF .u32 (p13 x0).fst 10 != 0) (cond (t1.snd.snd == (p13 x0).snd) (cond (!t2.snd.snd) (cond (!t1.snd.snd) (some (true)) (cond (decide ((0 ≤ t1.fst ∧ t1.fst ≤ 65535) ∧ 0 ≤ t1.snd.fst ∧ t1.snd.fst ≤ 65535)) (cond ((dW t1.fst t1.snd.fst false).f_Imm == x0) (some ((dW t1.fst t1.snd.fst false).f_S == x2)) t4) none)) t4) t4) (cond (t2.snd.snd == (p13 x0).snd) (cond (!t1.snd.snd) (cond (!t2.snd.snd) (some (true)) (cond (decide ((0 ≤ t2.fst ∧ t2.fst ≤ 65535) ∧ 0 ≤ t2.snd.fst ∧ t2.snd.fst ≤ 65535)) (cond ((dW t2.fst t2.snd.fst false).f_Imm == x0) (some ((dW t2.fst t2.snd.fst false).f_S == x2)) t4) none)) t4) t4))) (some (false))) (E (S30.mk 13 true x2 14 (wrapF .i64 (x1.tmod 13)) 0 0 1 x0 true 0 0 0 false false))) (E (S30.mk 13 true x2 14 (wrapF .i64 (x1.tmod 13)) 0 0 0 x0 true 0 0 0 false false))
theorem told6 (x0 : Int) (x1 : Int) (x2 : Bool) : Told enc6 (tree6 x0 x1 x2) (o6 x0 x1 x2) := (told_c (fun h0 => told_leaf _) (fun h0 => (told_c (fun h1 => (told_c (fun h2 => (told_c (fun h3 => told_leaf _) (fun h3 => (told_c (fun h4 => (told_c (fun h5 => (told_c (fun h6 => (told_c (fun h7 => told_leaf _) (fun h7 => (told_c (fun h8 => (told_c (fun h9 => (told_t h8 (told_leaf _))) (fun h9 => told_leaf _))) (fun h8 => told_none _))))) (fun h6 => told_leaf _))) (fun h5 => told_leaf _))) (fun h4 => (told_c (fun h5 => (told_c (fun h6 => (told_c (fun h7 => told_leaf _) (fun h7 => (told_c (fun h8 => (told_c (fun h9 => (told_t h8 (told_leaf _))) (fun h9 => told_leaf _))) (fun h8 => told_none _))))) (fun h6 => told_leaf _))) (fun h5 => told_leaf _))))))) (fun h2 => told_none _))) (fun h1 => (told_c (fun h2 => (told_c (fun h3 => (told_c (fun h4 => (told_c (fun h5 => told_leaf _) (fun h5 => (told_c (fun h6 => (told_c (fun h7 => (told_t h6 (told_leaf _))) (fun h7 => told_leaf _))) (fun h6 => told_none _))))) (fun h4 => told_leaf _))) (fun h3 => told_leaf _))) (fun h2 => (told_c (fun h3 => (told_c (fun h4 => (told_c (fun h5 => told_leaf _) (fun h5 => (told_c (fun h6 => (told_c (fun h7 => (told_t h6 (told_leaf _))) (fun h7 => told_leaf _))) (fun h6 => told_none _))))) (fun h4 => told_leaf _))) (fun h3 => told_leaf _))))))))
noncomputable def g6 (x0 : Int) (x1 : Int) (x2 : Bool) : Bool := (o6 x0 x1 x2).getD default
noncomputable def k6 (l : List V) : Option (Bool × V) := match l with
  | [.sc (.int .u32 x0), .sc (.int .u8 x1), .sc (.bool x2)] => some ((o6 x0 x1 x2).isSome, enc6 (g6 x0 x1 x2))
  | _ => none
noncomputable def kn6 : Known := knE2.add 6 k6
theorem kn6_ok : KnownOK ctx kn6 243 := Known.add_ok knE2_ok rfl (by omega) (by
  intro l r h
  unfold k6 at h
  split at h
  · simp only [Option.some.injEq, Prod.mk.injEq] at h
    obtain ⟨h1, rfl⟩ := h
    obtain ⟨a, ha⟩ := Option.isSome_iff_exists.1 h1
    unfold g6
    rw [ha]
    exact ⟨(Told.spec knE2_ok (lt11_ok.mono (by omega)) (run6 _ _ _) (told6 _ _ _) ha).mono (by omega), rfl, rfl⟩
  · cases h)
end Go.Den
