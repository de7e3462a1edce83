import Derived.Test.YtllippimokoioaaE1
namespace Go.Den
set_option maxRecDepth 100000
theorem dec2_0 : allB 1024 (fun i => dec2 (Nat.add 0 i)) = true := by kernel_rfl
theorem dec2_1 : allB 1024 (fun i => dec2 (Nat.add 1024 i)) = true := by kernel_rfl
theorem dec2_2 : allB 1024 (fun i => dec2 (Nat.add 2048 i)) = true := by kernel_rfl
theorem dec2_3 : allB 1024 (fun i => dec2 (Nat.add 3072 i)) = true := by kernel_rfl
theorem dec2_4 : allB 1024 (fun i => dec2 (Nat.add 4096 i)) = true := by kernel_rfl
theorem dec2_5 : allB 1024 (fun i => dec2 (Nat.add 5120 i)) = true := by kernel_rfl
theorem dec2_6 : allB 1024 (fun i => dec2 (Nat.add 6144 i)) = true := by kernel_rfl
theorem dec2_7 : allB 1024 (fun i => dec2 (Nat.add 7168 i)) = true := by kernel_rfl
end Go.Den
