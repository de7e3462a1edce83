import Derived.Test.YtllippimokoioaaE1
namespace Go.Den
set_option maxRecDepth 100000
theorem dec2_24 : allB 1024 (fun i => dec2 (Nat.add 24576 i)) = true := by kernel_rfl
theorem dec2_25 : allB 1024 (fun i => dec2 (Nat.add 25600 i)) = true := by kernel_rfl
theorem dec2_26 : allB 1024 (fun i => dec2 (Nat.add 26624 i)) = true := by kernel_rfl
theorem dec2_27 : allB 1024 (fun i => dec2 (Nat.add 27648 i)) = true := by kernel_rfl
theorem dec2_28 : allB 1024 (fun i => dec2 (Nat.add 28672 i)) = true := by kernel_rfl
theorem dec2_29 : allB 1024 (fun i => dec2 (Nat.add 29696 i)) = true := by kernel_rfl
theorem dec2_30 : allB 1024 (fun i => dec2 (Nat.add 30720 i)) = true := by kernel_rfl
theorem dec2_31 : allB 1024 (fun i => dec2 (Nat.add 31744 i)) = true := by kernel_rfl
end Go.Den
