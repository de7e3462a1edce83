import Derived.Test.YtllippimokoioaaE1
namespace Go.Den
set_option maxRecDepth 100000
theorem dec2_16 : allB 1024 (fun i => dec2 (Nat.add 16384 i)) = true := by kernel_rfl
theorem dec2_17 : allB 1024 (fun i => dec2 (Nat.add 17408 i)) = true := by kernel_rfl
theorem dec2_18 : allB 1024 (fun i => dec2 (Nat.add 18432 i)) = true := by kernel_rfl
theorem dec2_19 : allB 1024 (fun i => dec2 (Nat.add 19456 i)) = true := by kernel_rfl
theorem dec2_20 : allB 1024 (fun i => dec2 (Nat.add 20480 i)) = true := by kernel_rfl
theorem dec2_21 : allB 1024 (fun i => dec2 (Nat.add 21504 i)) = true := by kernel_rfl
theorem dec2_22 : allB 1024 (fun i => dec2 (Nat.add 22528 i)) = true := by kernel_rfl
theorem dec2_23 : allB 1024 (fun i => dec2 (Nat.add 23552 i)) = true := by kernel_rfl
end Go.Den
