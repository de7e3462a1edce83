import Derived.Test.YtllippimokoioaaE1
namespace Go.Den
set_option maxRecDepth 100000
theorem dec2_32 : allB 1024 (fun i => dec2 (Nat.add 32768 i)) = true := by kernel_rfl
theorem dec2_33 : allB 1024 (fun i => dec2 (Nat.add 33792 i)) = true := by kernel_rfl
theorem dec2_34 : allB 1024 (fun i => dec2 (Nat.add 34816 i)) = true := by kernel_rfl
theorem dec2_35 : allB 1024 (fun i => dec2 (Nat.add 35840 i)) = true := by kernel_rfl
theorem dec2_36 : allB 1024 (fun i => dec2 (Nat.add 36864 i)) = true := by kernel_rfl
theorem dec2_37 : allB 1024 (fun i => dec2 (Nat.add 37888 i)) = true := by kernel_rfl
theorem dec2_38 : allB 1024 (fun i => dec2 (Nat.add 38912 i)) = true := by kernel_rfl
theorem dec2_39 : allB 1024 (fun i => dec2 (Nat.add 39936 i)) = true := by kernel_rfl
end Go.Den
