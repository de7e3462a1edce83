import Derived.Test.YtllippimokoioaaE4
import Derived.Test.YtllippimokoioaaQ10
namespace Go.Den
theorem p6_ok (x y k : Int) : p6 x y k = true := by
  unfold p6
  rw [p26_ok]
  rfl
end Go.Den
