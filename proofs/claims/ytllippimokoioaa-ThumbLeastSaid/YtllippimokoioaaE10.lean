import Derived.Test.YtllippimokoioaaE4
import Derived.Test.YtllippimokoioaaQ15
namespace Go.Den
theorem p8_ok (y : S39) (h : Int) (i o : Bool) : p8 y.f_Op y.f_Wide y.f_S y.f_Cond y.f_D y.f_N y.f_M y.f_A y.f_Imm y.f_UseImm y.f_Sh y.f_Amt y.f_List y.f_Back y.f_Down h i o = true := by
  unfold p8
  rw [p26_ok]
  cases o
  · exact beq_self_eq_true _
  · exact beq_self_eq_true _
end Go.Den
