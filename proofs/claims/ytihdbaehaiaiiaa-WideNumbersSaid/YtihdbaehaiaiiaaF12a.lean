import Derived.Test.YtihdbaehaiaiiaaW4
import Derived.Test.YtihdbaehaiaiiaaV26
set_option linter.unusedSimpArgs false
section
set_option linter.unusedVariables false
set_option maxRecDepth 100000
namespace Go.Den

abbrev C4 := Nat × Int × Int × Int

/-- what 'data' makes of its numbers: 0 none, 1 one that may not be, 2 an op, d, n -/
noncomputable def c42 (op n d : Int) (s first bad : Bool) : C4 := (cond (first) (cond (op == 5) (cond (op == 0) (((0 : Nat), (0 : Int), (0 : Int), (0 : Int))) (cond (d == 15) (cond (s) (cond (p73 op != 0) (cond (bad) ((cond true ((1 : Nat), (0 : Int), (0 : Int), (0 : Int)) ((2 : Nat), (p73 op), 0, n))) (cond (n == 15) ((cond true ((1 : Nat), (0 : Int), (0 : Int), (0 : Int)) ((2 : Nat), (p73 op), 0, n))) ((cond false ((1 : Nat), (0 : Int), (0 : Int), (0 : Int)) ((2 : Nat), (p73 op), 0, n))))) (cond (n == 15) (cond (p74 op != 0) (cond (bad) ((cond true ((1 : Nat), (0 : Int), (0 : Int), (0 : Int)) ((2 : Nat), (p74 op), d, 0))) ((cond (oddB [d]) ((1 : Nat), (0 : Int), (0 : Int), (0 : Int)) ((2 : Nat), (p74 op), d, 0)))) (cond (n == 13) (cond (d == 13) (cond (bad) ((cond true ((1 : Nat), (0 : Int), (0 : Int), (0 : Int)) ((2 : Nat), op, d, n))) ((cond false ((1 : Nat), (0 : Int), (0 : Int), (0 : Int)) ((2 : Nat), op, d, n)))) (cond (bad) ((cond true ((1 : Nat), (0 : Int), (0 : Int), (0 : Int)) ((2 : Nat), op, d, n))) (cond (!!oddB [d]) ((cond (oddB [n, d]) ((1 : Nat), (0 : Int), (0 : Int), (0 : Int)) ((2 : Nat), op, d, n))) ((cond false ((1 : Nat), (0 : Int), (0 : Int), (0 : Int)) ((2 : Nat), op, d, n)))))) (cond (bad) ((cond true ((1 : Nat), (0 : Int), (0 : Int), (0 : Int)) ((2 : Nat), op, d, n))) ((cond (oddB [n, d]) ((1 : Nat), (0 : Int), (0 : Int), (0 : Int)) ((2 : Nat), op, d, n)))))) (cond (n == 13) (cond (d == 13) (cond (bad) ((cond true ((1 : Nat), (0 : Int), (0 : Int), (0 : Int)) ((2 : Nat), op, d, n))) ((cond false ((1 : Nat), (0 : Int), (0 : Int), (0 : Int)) ((2 : Nat), op, d, n)))) (cond (bad) ((cond true ((1 : Nat), (0 : Int), (0 : Int), (0 : Int)) ((2 : Nat), op, d, n))) (cond (!!oddB [d]) ((cond (oddB [n, d]) ((1 : Nat), (0 : Int), (0 : Int), (0 : Int)) ((2 : Nat), op, d, n))) ((cond false ((1 : Nat), (0 : Int), (0 : Int), (0 : Int)) ((2 : Nat), op, d, n)))))) (cond (bad) ((cond true ((1 : Nat), (0 : Int), (0 : Int), (0 : Int)) ((2 : Nat), op, d, n))) ((cond (oddB [n, d]) ((1 : Nat), (0 : Int), (0 : Int), (0 : Int)) ((2 : Nat), op, d, n))))))) (cond (n == 15) (cond (p74 op != 0) (cond (bad) ((cond true ((1 : Nat), (0 : Int), (0 : Int), (0 : Int)) ((2 : Nat), (p74 op), d, 0))) ((cond (oddB [d]) ((1 : Nat), (0 : Int), (0 : Int), (0 : Int)) ((2 : Nat), (p74 op), d, 0)))) (cond (n == 13) (cond (d == 13) (cond (bad) ((cond true ((1 : Nat), (0 : Int), (0 : Int), (0 : Int)) ((2 : Nat), op, d, n))) ((cond false ((1 : Nat), (0 : Int), (0 : Int), (0 : Int)) ((2 : Nat), op, d, n)))) (cond (bad) ((cond true ((1 : Nat), (0 : Int), (0 : Int), (0 : Int)) ((2 : Nat), op, d, n))) (cond (!!oddB [d]) ((cond (oddB [n, d]) ((1 : Nat), (0 : Int), (0 : Int), (0 : Int)) ((2 : Nat), op, d, n))) ((cond false ((1 : Nat), (0 : Int), (0 : Int), (0 : Int)) ((2 : Nat), op, d, n)))))) (cond (bad) ((cond true ((1 : Nat), (0 : Int), (0 : Int), (0 : Int)) ((2 : Nat), op, d, n))) ((cond (oddB [n, d]) ((1 : Nat), (0 : Int), (0 : Int), (0 : Int)) ((2 : Nat), op, d, n)))))) (cond (n == 13) (cond (d == 13) (cond (bad) ((cond true ((1 : Nat), (0 : Int), (0 : Int), (0 : Int)) ((2 : Nat), op, d, n))) ((cond false ((1 : Nat), (0 : Int), (0 : Int), (0 : Int)) ((2 : Nat), op, d, n)))) (cond (bad) ((cond true ((1 : Nat), (0 : Int), (0 : Int), (0 : Int)) ((2 : Nat), op, d, n))) (cond (!!oddB [d]) ((cond (oddB [n, d]) ((1 : Nat), (0 : Int), (0 : Int), (0 : Int)) ((2 : Nat), op, d, n))) ((cond false ((1 : Nat), (0 : Int), (0 : Int), (0 : Int)) ((2 : Nat), op, d, n)))))) (cond (bad) ((cond true ((1 : Nat), (0 : Int), (0 : Int), (0 : Int)) ((2 : Nat), op, d, n))) ((cond (oddB [n, d]) ((1 : Nat), (0 : Int), (0 : Int), (0 : Int)) ((2 : Nat), op, d, n))))))) (cond (n == 15) (cond (p74 op != 0) (cond (bad) ((cond true ((1 : Nat), (0 : Int), (0 : Int), (0 : Int)) ((2 : Nat), (p74 op), d, 0))) ((cond (oddB [d]) ((1 : Nat), (0 : Int), (0 : Int), (0 : Int)) ((2 : Nat), (p74 op), d, 0)))) (cond (n == 13) (cond (d == 13) (cond (bad) ((cond true ((1 : Nat), (0 : Int), (0 : Int), (0 : Int)) ((2 : Nat), op, d, n))) ((cond false ((1 : Nat), (0 : Int), (0 : Int), (0 : Int)) ((2 : Nat), op, d, n)))) (cond (bad) ((cond true ((1 : Nat), (0 : Int), (0 : Int), (0 : Int)) ((2 : Nat), op, d, n))) (cond (!!oddB [d]) ((cond (oddB [n, d]) ((1 : Nat), (0 : Int), (0 : Int), (0 : Int)) ((2 : Nat), op, d, n))) ((cond false ((1 : Nat), (0 : Int), (0 : Int), (0 : Int)) ((2 : Nat), op, d, n)))))) (cond (bad) ((cond true ((1 : Nat), (0 : Int), (0 : Int), (0 : Int)) ((2 : Nat), op, d, n))) ((cond (oddB [n, d]) ((1 : Nat), (0 : Int), (0 : Int), (0 : Int)) ((2 : Nat), op, d, n)))))) (cond (n == 13) (cond (d == 13) (cond (bad) ((cond true ((1 : Nat), (0 : Int), (0 : Int), (0 : Int)) ((2 : Nat), op, d, n))) ((cond false ((1 : Nat), (0 : Int), (0 : Int), (0 : Int)) ((2 : Nat), op, d, n)))) (cond (bad) ((cond true ((1 : Nat), (0 : Int), (0 : Int), (0 : Int)) ((2 : Nat), op, d, n))) (cond (!!oddB [d]) ((cond (oddB [n, d]) ((1 : Nat), (0 : Int), (0 : Int), (0 : Int)) ((2 : Nat), op, d, n))) ((cond false ((1 : Nat), (0 : Int), (0 : Int), (0 : Int)) ((2 : Nat), op, d, n)))))) (cond (bad) ((cond true ((1 : Nat), (0 : Int), (0 : Int), (0 : Int)) ((2 : Nat), op, d, n))) ((cond (oddB [n, d]) ((1 : Nat), (0 : Int), (0 : Int), (0 : Int)) ((2 : Nat), op, d, n)))))))) (cond (op == 0) (((0 : Nat), (0 : Int), (0 : Int), (0 : Int))) (cond (d == 15) (cond (s) (cond (p73 op != 0) (cond (bad) ((cond true ((1 : Nat), (0 : Int), (0 : Int), (0 : Int)) ((2 : Nat), (p73 op), 0, n))) (cond (n == 15) ((cond true ((1 : Nat), (0 : Int), (0 : Int), (0 : Int)) ((2 : Nat), (p73 op), 0, n))) (cond (n == 13) ((cond (!op == 3) ((1 : Nat), (0 : Int), (0 : Int), (0 : Int)) ((2 : Nat), (p73 op), 0, n))) ((cond false ((1 : Nat), (0 : Int), (0 : Int), (0 : Int)) ((2 : Nat), (p73 op), 0, n)))))) (cond (n == 15) (cond (p74 op != 0) (cond (bad) ((cond true ((1 : Nat), (0 : Int), (0 : Int), (0 : Int)) ((2 : Nat), (p74 op), d, 0))) ((cond (oddB [d]) ((1 : Nat), (0 : Int), (0 : Int), (0 : Int)) ((2 : Nat), (p74 op), d, 0)))) (cond (op == 3) (cond (n == 13) (cond (d == 13) (cond (bad) ((cond true ((1 : Nat), (0 : Int), (0 : Int), (0 : Int)) ((2 : Nat), op, d, n))) ((cond false ((1 : Nat), (0 : Int), (0 : Int), (0 : Int)) ((2 : Nat), op, d, n)))) (cond (bad) ((cond true ((1 : Nat), (0 : Int), (0 : Int), (0 : Int)) ((2 : Nat), op, d, n))) (cond (!!oddB [d]) ((cond (oddB [n, d]) ((1 : Nat), (0 : Int), (0 : Int), (0 : Int)) ((2 : Nat), op, d, n))) ((cond false ((1 : Nat), (0 : Int), (0 : Int), (0 : Int)) ((2 : Nat), op, d, n)))))) (cond (bad) ((cond true ((1 : Nat), (0 : Int), (0 : Int), (0 : Int)) ((2 : Nat), op, d, n))) ((cond (oddB [n, d]) ((1 : Nat), (0 : Int), (0 : Int), (0 : Int)) ((2 : Nat), op, d, n))))) (cond (bad) ((cond true ((1 : Nat), (0 : Int), (0 : Int), (0 : Int)) ((2 : Nat), op, d, n))) ((cond (oddB [n, d]) ((1 : Nat), (0 : Int), (0 : Int), (0 : Int)) ((2 : Nat), op, d, n)))))) (cond (op == 3) (cond (n == 13) (cond (d == 13) (cond (bad) ((cond true ((1 : Nat), (0 : Int), (0 : Int), (0 : Int)) ((2 : Nat), op, d, n))) ((cond false ((1 : Nat), (0 : Int), (0 : Int), (0 : Int)) ((2 : Nat), op, d, n)))) (cond (bad) ((cond true ((1 : Nat), (0 : Int), (0 : Int), (0 : Int)) ((2 : Nat), op, d, n))) (cond (!!oddB [d]) ((cond (oddB [n, d]) ((1 : Nat), (0 : Int), (0 : Int), (0 : Int)) ((2 : Nat), op, d, n))) ((cond false ((1 : Nat), (0 : Int), (0 : Int), (0 : Int)) ((2 : Nat), op, d, n)))))) (cond (bad) ((cond true ((1 : Nat), (0 : Int), (0 : Int), (0 : Int)) ((2 : Nat), op, d, n))) ((cond (oddB [n, d]) ((1 : Nat), (0 : Int), (0 : Int), (0 : Int)) ((2 : Nat), op, d, n))))) (cond (bad) ((cond true ((1 : Nat), (0 : Int), (0 : Int), (0 : Int)) ((2 : Nat), op, d, n))) ((cond (oddB [n, d]) ((1 : Nat), (0 : Int), (0 : Int), (0 : Int)) ((2 : Nat), op, d, n))))))) (cond (n == 15) (cond (p74 op != 0) (cond (bad) ((cond true ((1 : Nat), (0 : Int), (0 : Int), (0 : Int)) ((2 : Nat), (p74 op), d, 0))) ((cond (oddB [d]) ((1 : Nat), (0 : Int), (0 : Int), (0 : Int)) ((2 : Nat), (p74 op), d, 0)))) (cond (op == 3) (cond (n == 13) (cond (d == 13) (cond (bad) ((cond true ((1 : Nat), (0 : Int), (0 : Int), (0 : Int)) ((2 : Nat), op, d, n))) ((cond false ((1 : Nat), (0 : Int), (0 : Int), (0 : Int)) ((2 : Nat), op, d, n)))) (cond (bad) ((cond true ((1 : Nat), (0 : Int), (0 : Int), (0 : Int)) ((2 : Nat), op, d, n))) (cond (!!oddB [d]) ((cond (oddB [n, d]) ((1 : Nat), (0 : Int), (0 : Int), (0 : Int)) ((2 : Nat), op, d, n))) ((cond false ((1 : Nat), (0 : Int), (0 : Int), (0 : Int)) ((2 : Nat), op, d, n)))))) (cond (bad) ((cond true ((1 : Nat), (0 : Int), (0 : Int), (0 : Int)) ((2 : Nat), op, d, n))) ((cond (oddB [n, d]) ((1 : Nat), (0 : Int), (0 : Int), (0 : Int)) ((2 : Nat), op, d, n))))) (cond (bad) ((cond true ((1 : Nat), (0 : Int), (0 : Int), (0 : Int)) ((2 : Nat), op, d, n))) ((cond (oddB [n, d]) ((1 : Nat), (0 : Int), (0 : Int), (0 : Int)) ((2 : Nat), op, d, n)))))) (cond (op == 3) (cond (n == 13) (cond (d == 13) (cond (bad) ((cond true ((1 : Nat), (0 : Int), (0 : Int), (0 : Int)) ((2 : Nat), op, d, n))) ((cond false ((1 : Nat), (0 : Int), (0 : Int), (0 : Int)) ((2 : Nat), op, d, n)))) (cond (bad) ((cond true ((1 : Nat), (0 : Int), (0 : Int), (0 : Int)) ((2 : Nat), op, d, n))) (cond (!!oddB [d]) ((cond (oddB [n, d]) ((1 : Nat), (0 : Int), (0 : Int), (0 : Int)) ((2 : Nat), op, d, n))) ((cond false ((1 : Nat), (0 : Int), (0 : Int), (0 : Int)) ((2 : Nat), op, d, n)))))) (cond (bad) ((cond true ((1 : Nat), (0 : Int), (0 : Int), (0 : Int)) ((2 : Nat), op, d, n))) ((cond (oddB [n, d]) ((1 : Nat), (0 : Int), (0 : Int), (0 : Int)) ((2 : Nat), op, d, n))))) (cond (bad) ((cond true ((1 : Nat), (0 : Int), (0 : Int), (0 : Int)) ((2 : Nat), op, d, n))) ((cond (oddB [n, d]) ((1 : Nat), (0 : Int), (0 : Int), (0 : Int)) ((2 : Nat), op, d, n))))))) (cond (n == 15) (cond (p74 op != 0) (cond (bad) ((cond true ((1 : Nat), (0 : Int), (0 : Int), (0 : Int)) ((2 : Nat), (p74 op), d, 0))) ((cond (oddB [d]) ((1 : Nat), (0 : Int), (0 : Int), (0 : Int)) ((2 : Nat), (p74 op), d, 0)))) (cond (op == 3) (cond (n == 13) (cond (d == 13) (cond (bad) ((cond true ((1 : Nat), (0 : Int), (0 : Int), (0 : Int)) ((2 : Nat), op, d, n))) ((cond false ((1 : Nat), (0 : Int), (0 : Int), (0 : Int)) ((2 : Nat), op, d, n)))) (cond (bad) ((cond true ((1 : Nat), (0 : Int), (0 : Int), (0 : Int)) ((2 : Nat), op, d, n))) (cond (!!oddB [d]) ((cond (oddB [n, d]) ((1 : Nat), (0 : Int), (0 : Int), (0 : Int)) ((2 : Nat), op, d, n))) ((cond false ((1 : Nat), (0 : Int), (0 : Int), (0 : Int)) ((2 : Nat), op, d, n)))))) (cond (bad) ((cond true ((1 : Nat), (0 : Int), (0 : Int), (0 : Int)) ((2 : Nat), op, d, n))) ((cond (oddB [n, d]) ((1 : Nat), (0 : Int), (0 : Int), (0 : Int)) ((2 : Nat), op, d, n))))) (cond (bad) ((cond true ((1 : Nat), (0 : Int), (0 : Int), (0 : Int)) ((2 : Nat), op, d, n))) ((cond (oddB [n, d]) ((1 : Nat), (0 : Int), (0 : Int), (0 : Int)) ((2 : Nat), op, d, n)))))) (cond (op == 3) (cond (n == 13) (cond (d == 13) (cond (bad) ((cond true ((1 : Nat), (0 : Int), (0 : Int), (0 : Int)) ((2 : Nat), op, d, n))) ((cond false ((1 : Nat), (0 : Int), (0 : Int), (0 : Int)) ((2 : Nat), op, d, n)))) (cond (bad) ((cond true ((1 : Nat), (0 : Int), (0 : Int), (0 : Int)) ((2 : Nat), op, d, n))) (cond (!!oddB [d]) ((cond (oddB [n, d]) ((1 : Nat), (0 : Int), (0 : Int), (0 : Int)) ((2 : Nat), op, d, n))) ((cond false ((1 : Nat), (0 : Int), (0 : Int), (0 : Int)) ((2 : Nat), op, d, n)))))) (cond (bad) ((cond true ((1 : Nat), (0 : Int), (0 : Int), (0 : Int)) ((2 : Nat), op, d, n))) ((cond (oddB [n, d]) ((1 : Nat), (0 : Int), (0 : Int), (0 : Int)) ((2 : Nat), op, d, n))))) (cond (bad) ((cond true ((1 : Nat), (0 : Int), (0 : Int), (0 : Int)) ((2 : Nat), op, d, n))) ((cond (oddB [n, d]) ((1 : Nat), (0 : Int), (0 : Int), (0 : Int)) ((2 : Nat), op, d, n))))))))) (cond (op == 0) (((0 : Nat), (0 : Int), (0 : Int), (0 : Int))) (cond (d == 15) (cond (s) (cond (p73 op != 0) (cond (bad) ((cond true ((1 : Nat), (0 : Int), (0 : Int), (0 : Int)) ((2 : Nat), (p73 op), 0, n))) (cond (n == 15) ((cond true ((1 : Nat), (0 : Int), (0 : Int), (0 : Int)) ((2 : Nat), (p73 op), 0, n))) (cond (n == 13) ((cond true ((1 : Nat), (0 : Int), (0 : Int), (0 : Int)) ((2 : Nat), (p73 op), 0, n))) ((cond false ((1 : Nat), (0 : Int), (0 : Int), (0 : Int)) ((2 : Nat), (p73 op), 0, n)))))) (cond (n == 15) (cond (p74 op != 0) (cond (bad) ((cond true ((1 : Nat), (0 : Int), (0 : Int), (0 : Int)) ((2 : Nat), (p74 op), d, 0))) ((cond (oddB [d]) ((1 : Nat), (0 : Int), (0 : Int), (0 : Int)) ((2 : Nat), (p74 op), d, 0)))) (cond (bad) ((cond true ((1 : Nat), (0 : Int), (0 : Int), (0 : Int)) ((2 : Nat), op, d, n))) ((cond (oddB [n, d]) ((1 : Nat), (0 : Int), (0 : Int), (0 : Int)) ((2 : Nat), op, d, n))))) (cond (bad) ((cond true ((1 : Nat), (0 : Int), (0 : Int), (0 : Int)) ((2 : Nat), op, d, n))) ((cond (oddB [n, d]) ((1 : Nat), (0 : Int), (0 : Int), (0 : Int)) ((2 : Nat), op, d, n)))))) (cond (n == 15) (cond (p74 op != 0) (cond (bad) ((cond true ((1 : Nat), (0 : Int), (0 : Int), (0 : Int)) ((2 : Nat), (p74 op), d, 0))) ((cond (oddB [d]) ((1 : Nat), (0 : Int), (0 : Int), (0 : Int)) ((2 : Nat), (p74 op), d, 0)))) (cond (bad) ((cond true ((1 : Nat), (0 : Int), (0 : Int), (0 : Int)) ((2 : Nat), op, d, n))) ((cond (oddB [n, d]) ((1 : Nat), (0 : Int), (0 : Int), (0 : Int)) ((2 : Nat), op, d, n))))) (cond (bad) ((cond true ((1 : Nat), (0 : Int), (0 : Int), (0 : Int)) ((2 : Nat), op, d, n))) ((cond (oddB [n, d]) ((1 : Nat), (0 : Int), (0 : Int), (0 : Int)) ((2 : Nat), op, d, n)))))) (cond (n == 15) (cond (p74 op != 0) (cond (bad) ((cond true ((1 : Nat), (0 : Int), (0 : Int), (0 : Int)) ((2 : Nat), (p74 op), d, 0))) ((cond (oddB [d]) ((1 : Nat), (0 : Int), (0 : Int), (0 : Int)) ((2 : Nat), (p74 op), d, 0)))) (cond (bad) ((cond true ((1 : Nat), (0 : Int), (0 : Int), (0 : Int)) ((2 : Nat), op, d, n))) ((cond (oddB [n, d]) ((1 : Nat), (0 : Int), (0 : Int), (0 : Int)) ((2 : Nat), op, d, n))))) (cond (bad) ((cond true ((1 : Nat), (0 : Int), (0 : Int), (0 : Int)) ((2 : Nat), op, d, n))) ((cond (oddB [n, d]) ((1 : Nat), (0 : Int), (0 : Int), (0 : Int)) ((2 : Nat), op, d, n))))))))

noncomputable def mkD (h k : Int) (i : Bool) (s : Bool) (M A Imm : Int) (U : Bool) (Sh Amt : Int) (c : C4) : S30 :=
  match c.1 with
  | 0 => p24 h k i
  | 1 => p47 h k i 65
  | _ => cond (c.2.1 != 54) (S30.mk c.2.1 true s 14 c.2.2.1 c.2.2.2 M A Imm U Sh Amt 0 false false) (S30.mk c.2.1 true s 0 c.2.2.1 c.2.2.2 M A Imm U Sh Amt 0 false false)

theorem mkD_cond (h k : Int) (i : Bool) (s : Bool) (M A Imm : Int) (U : Bool) (Sh Amt : Int) (b : Bool) (x y : C4) : mkD h k i s M A Imm U Sh Amt (cond b x y) = cond b (mkD h k i s M A Imm U Sh Amt x) (mkD h k i s M A Imm U Sh Amt y) := by
  cases b <;> rfl

theorem p42_c (h k : Int) (i : Bool) (op n d : Int) (s : Bool) (M A Imm : Int) (U : Bool) (Sh Amt : Int) (first bad : Bool) :
    p42 h k i op n d s 0 false false 0 0 0 M A Imm U Sh Amt 0 false false first bad = mkD h k i s M A Imm U Sh Amt (c42 op n d s first bad) := by
  unfold p42 c42
  simp only [mkD_cond]
  rfl

def ops16 : List Int := [1, 14, 12, 16, 2, 0, 0, 0, 5, 0, 6, 7, 0, 3, 4, 0]

def eqC (a b : C4) : Bool := and1B (Nat.beq a.1 b.1) (and1B (ieq a.2.1 b.2.1) (and1B (ieq a.2.2.1 b.2.2.1) (ieq a.2.2.2 b.2.2.2)))

theorem eqC_ok {a b : C4} (h : eqC a b = true) : a = b := by
  obtain ⟨h1, h⟩ := and1B_ok h
  obtain ⟨h2, h⟩ := and1B_ok h
  obtain ⟨h3, h4⟩ := and1B_ok h
  obtain ⟨a1, a2, a3, a4⟩ := a
  obtain ⟨b1, b2, b3, b4⟩ := b
  simp only at h1 h2 h3 h4
  rw [Nat.eq_of_beq_eq_true h1, ieq_ok h2, ieq_ok h3, ieq_ok h4]

def eqS (a b : S30) : Bool :=
  and1B (ieq a.f_Op b.f_Op) (and1B (beqB a.f_Wide b.f_Wide) (and1B (beqB a.f_S b.f_S) (and1B (ieq a.f_Cond b.f_Cond) (and1B (ieq a.f_D b.f_D) (and1B (ieq a.f_N b.f_N) (and1B (ieq a.f_M b.f_M) (and1B (ieq a.f_A b.f_A) (and1B (ieq a.f_Imm b.f_Imm) (and1B (beqB a.f_UseImm b.f_UseImm) (and1B (ieq a.f_Sh b.f_Sh) (and1B (ieq a.f_Amt b.f_Amt) (and1B (ieq a.f_List b.f_List) (and1B (beqB a.f_Back b.f_Back) (beqB a.f_Down b.f_Down))))))))))))))

theorem eqS_ok {a b : S30} (h : eqS a b = true) : a = b := by
  obtain ⟨h1, h⟩ := and1B_ok h
  obtain ⟨h2, h⟩ := and1B_ok h
  obtain ⟨h3, h⟩ := and1B_ok h
  obtain ⟨h4, h⟩ := and1B_ok h
  obtain ⟨h5, h⟩ := and1B_ok h
  obtain ⟨h6, h⟩ := and1B_ok h
  obtain ⟨h7, h⟩ := and1B_ok h
  obtain ⟨h8, h⟩ := and1B_ok h
  obtain ⟨h9, h⟩ := and1B_ok h
  obtain ⟨h10, h⟩ := and1B_ok h
  obtain ⟨h11, h⟩ := and1B_ok h
  obtain ⟨h12, h⟩ := and1B_ok h
  obtain ⟨h13, h⟩ := and1B_ok h
  obtain ⟨h14, h15⟩ := and1B_ok h
  cases a
  cases b
  simp only at h1 h2 h3 h4 h5 h6 h7 h8 h9 h10 h11 h12 h13 h14 h15
  rw [ieq_ok h1, beqB_ok h2, beqB_ok h3, ieq_ok h4, ieq_ok h5, ieq_ok h6, ieq_ok h7, ieq_ok h8, ieq_ok h9, beqB_ok h10, ieq_ok h11, ieq_ok h12, ieq_ok h13, beqB_ok h14, beqB_ok h15]

/-- what the reference's form and may say of the same numbers -/
noncomputable def r77 (o n d : Int) (s first : Bool) : C4 := match o77 o d n s with
  | some (y, ok) => cond ok (cond (p78 y.f_Op y.f_Wide y.f_S y.f_Cond y.f_D y.f_N y.f_M y.f_A y.f_Imm y.f_UseImm y.f_Sh y.f_Amt y.f_List y.f_Back y.f_Down first) (2, y.f_Op, y.f_D, y.f_N) (1, 0, 0, 0)) (0, 0, 0, 0)
  | none => (3, 0, 0, 0)

noncomputable def formOK (o n d : Int) (s : Bool) : Bool := match o77 o d n s with
  | some (y, true) => and1B (eqS y (S30.mk y.f_Op true s 14 y.f_D y.f_N 0 0 0 false 0 0 0 false false)) (and1B (y.f_Op != 54) (and1B (y.f_Op != 65) (y.f_Op != 64)))
  | some (_, false) => true
  | none => false

def badC (c : C4) : C4 := match c.1 with
  | 0 => (0, 0, 0, 0)
  | _ => (1, 0, 0, 0)

noncomputable def chk2 (o n d : Int) (s first : Bool) : Bool :=
  and1B (eqC (c42 (getI ops16 o.toNat) n d s first false) (r77 o n d s first)) (eqC (c42 (getI ops16 o.toNat) n d s first true) (badC (r77 o n d s first)))

noncomputable def chkF (m : Nat) : Bool :=
  and1B (and1B (formOK (Int.ofNat (m / 256)) (Int.ofNat (m / 16 % 16)) (Int.ofNat (m % 16)) false) (formOK (Int.ofNat (m / 256)) (Int.ofNat (m / 16 % 16)) (Int.ofNat (m % 16)) true))
    (and1B (and1B (chk2 (Int.ofNat (m / 256)) (Int.ofNat (m / 16 % 16)) (Int.ofNat (m % 16)) false false) (chk2 (Int.ofNat (m / 256)) (Int.ofNat (m / 16 % 16)) (Int.ofNat (m % 16)) false true))
      (and1B (chk2 (Int.ofNat (m / 256)) (Int.ofNat (m / 16 % 16)) (Int.ofNat (m % 16)) true false) (chk2 (Int.ofNat (m / 256)) (Int.ofNat (m / 16 % 16)) (Int.ofNat (m % 16)) true true)))

end Go.Den
end
section
set_option linter.unusedVariables false
set_option maxRecDepth 100000
namespace Go.Den

theorem chkF_0 : allB chkF 1024 0 = true := by kernel_rfl
theorem chkF_1 : allB chkF 1024 1024 = true := by kernel_rfl
theorem chkF_2 : allB chkF 1024 2048 = true := by kernel_rfl
theorem chkF_3 : allB chkF 1024 3072 = true := by kernel_rfl

theorem chkF_all {n : Nat} (h : n < 4096) : chkF n = true := by
  rcases Nat.lt_or_ge n 1024 with h1 | h1
  · exact allB_ok chkF_0 n (by omega) (by omega)
  rcases Nat.lt_or_ge n 2048 with h2 | h2
  · exact allB_ok chkF_1 n (by omega) (by omega)
  rcases Nat.lt_or_ge n 3072 with h3 | h3
  · exact allB_ok chkF_2 n (by omega) (by omega)
  · exact allB_ok chkF_3 n (by omega) (by omega)

theorem chkF_at (o n d : Nat) (ho : o < 16) (hn : n < 16) (hd : d < 16) (s : Bool) : formOK (o : Int) (n : Int) (d : Int) s = true ∧ ∀ first, chk2 (o : Int) (n : Int) (d : Int) s first = true := by
  have h := chkF_all (show o * 256 + n * 16 + d < 4096 by omega)
  unfold chkF at h
  rw [show (o * 256 + n * 16 + d) / 256 = o by omega, show (o * 256 + n * 16 + d) / 16 % 16 = n by omega, show (o * 256 + n * 16 + d) % 16 = d by omega] at h
  obtain ⟨h1, h2⟩ := and1B_ok h
  obtain ⟨h3, h4⟩ := and1B_ok h1
  obtain ⟨h5, h6⟩ := and1B_ok h2
  obtain ⟨h7, h8⟩ := and1B_ok h5
  obtain ⟨h9, h10⟩ := and1B_ok h6
  cases s
  · exact ⟨h3, fun first => by cases first <;> assumption⟩
  · exact ⟨h4, fun first => by cases first <;> assumption⟩

/-- 'data' is the reference's form and may -/
theorem data_eq {o n d : Int} (ho : 0 ≤ o ∧ o < 16) (hn : 0 ≤ n ∧ n < 16) (hd : 0 ≤ d ∧ d < 16) (s first bad : Bool) :
    c42 (getI ops16 o.toNat) n d s first bad = cond bad (badC (r77 o n d s first)) (r77 o n d s first) := by
  obtain ⟨o, rfl⟩ := Int.eq_ofNat_of_zero_le ho.1
  obtain ⟨n, rfl⟩ := Int.eq_ofNat_of_zero_le hn.1
  obtain ⟨d, rfl⟩ := Int.eq_ofNat_of_zero_le hd.1
  have h := (chkF_at o n d (by omega) (by omega) (by omega) s).2 first
  obtain ⟨h1, h2⟩ := and1B_ok h
  cases bad
  · exact eqC_ok h1
  · exact eqC_ok h2

theorem form_eq {o n d : Int} (ho : 0 ≤ o ∧ o < 16) (hn : 0 ≤ n ∧ n < 16) (hd : 0 ≤ d ∧ d < 16) (s : Bool) :
    (∃ y, o77 o d n s = some (y, false)) ∨ ∃ op d' n', o77 o d n s = some (S30.mk op true s 14 d' n' 0 0 0 false 0 0 0 false false, true) ∧ (op != 54) = true ∧ (op == 65) = false ∧ (op == 64) = false := by
  obtain ⟨o, rfl⟩ := Int.eq_ofNat_of_zero_le ho.1
  obtain ⟨n, rfl⟩ := Int.eq_ofNat_of_zero_le hn.1
  obtain ⟨d, rfl⟩ := Int.eq_ofNat_of_zero_le hd.1
  have h := (chkF_at o n d (by omega) (by omega) (by omega) s).1
  unfold formOK at h
  split at h
  · rename_i y hy
    obtain ⟨h1, h2⟩ := and1B_ok h
    have e := eqS_ok h1
    obtain ⟨h3, h4⟩ := and1B_ok h2
    obtain ⟨h4, h5⟩ := and1B_ok h4
    refine .inr ⟨y.f_Op, y.f_D, y.f_N, ?_, h3, by simpa using h4, by simpa using h5⟩
    rw [hy, ← e]
  · rename_i y hy
    exact .inl ⟨y, hy⟩
  · cases h

theorem expand_some {x : Int} (h : 0 ≤ x ∧ x < 4096) : ∃ v, o41 x false = some v := by
  obtain ⟨n, rfl⟩ := Int.eq_ofNat_of_zero_le h.1
  have hc := chk36_all (show n < 4096 by omega)
  unfold chk36 at hc
  rw [show (n : Int) = Int.ofNat n from rfl]
  split at hc
  · split at hc
    · rename_i a' b' c' hb
      exact ⟨_, hb⟩
    · cases hc
  · cases hc

end Go.Den
end
