import Derived.Test.YtllippimokoioaaE1
namespace Go.Den
set_option maxRecDepth 100000
theorem dec2_48 : allB 1024 (fun i => dec2 (Nat.add 49152 i)) = true := by kernel_rfl
theorem dec2_49 : allB 1024 (fun i => dec2 (Nat.add 50176 i)) = true := by kernel_rfl
theorem dec2_50 : allB 1024 (fun i => dec2 (Nat.add 51200 i)) = true := by kernel_rfl
theorem dec2_51 : allB 1024 (fun i => dec2 (Nat.add 52224 i)) = true := by kernel_rfl
theorem dec2_52 : allB 1024 (fun i => dec2 (Nat.add 53248 i)) = true := by kernel_rfl
theorem dec2_53 : allB 1024 (fun i => dec2 (Nat.add 54272 i)) = true := by kernel_rfl
theorem dec2_54 : allB 1024 (fun i => dec2 (Nat.add 55296 i)) = true := by kernel_rfl
theorem dec2_55 : allB 1024 (fun i => dec2 (Nat.add 56320 i)) = true := by kernel_rfl
end Go.Den
