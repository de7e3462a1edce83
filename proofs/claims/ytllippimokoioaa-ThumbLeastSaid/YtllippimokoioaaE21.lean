import Derived.Test.YtllippimokoioaaE1
namespace Go.Den
set_option maxRecDepth 100000
theorem dec2_8 : allB 1024 (fun i => dec2 (Nat.add 8192 i)) = true := by kernel_rfl
theorem dec2_9 : allB 1024 (fun i => dec2 (Nat.add 9216 i)) = true := by kernel_rfl
theorem dec2_10 : allB 1024 (fun i => dec2 (Nat.add 10240 i)) = true := by kernel_rfl
theorem dec2_11 : allB 1024 (fun i => dec2 (Nat.add 11264 i)) = true := by kernel_rfl
theorem dec2_12 : allB 1024 (fun i => dec2 (Nat.add 12288 i)) = true := by kernel_rfl
theorem dec2_13 : allB 1024 (fun i => dec2 (Nat.add 13312 i)) = true := by kernel_rfl
theorem dec2_14 : allB 1024 (fun i => dec2 (Nat.add 14336 i)) = true := by kernel_rfl
theorem dec2_15 : allB 1024 (fun i => dec2 (Nat.add 15360 i)) = true := by kernel_rfl
end Go.Den
