import Derived.Test.YtihdbaehaiaiiaaF79
import Derived.Test.YtihdbaehaiaiiaaV812
set_option linter.unusedSimpArgs false
set_option linter.unusedVariables false
set_option maxRecDepth 100000
namespace Go.Den

/-- fewer than two bits, counted by the program and by the reference -/
noncomputable def chkOnes (n : Nat) : Bool := beqB (decide (p46 (Int.ofNat n) < 2)) (decide ((((encI (regL (Int.ofNat n) true 16 0)).length : Nat) : Int) < 2))
end Go.Den
