import Derived.Test.YtllippimokoioaaE1
namespace Go.Den
set_option maxRecDepth 100000
theorem dec2_56 : allB 1024 (fun i => dec2 (Nat.add 57344 i)) = true := by kernel_rfl
theorem dec2_57 : allB 1024 (fun i => dec2 (Nat.add 58368 i)) = true := by kernel_rfl
theorem dec2_58 : allB 1024 (fun i => dec2 (Nat.add 59392 i)) = true := by kernel_rfl
theorem dec2_59 : allB 1024 (fun i => dec2 (Nat.add 60416 i)) = true := by kernel_rfl
theorem dec2_60 : allB 1024 (fun i => dec2 (Nat.add 61440 i)) = true := by kernel_rfl
theorem dec2_61 : allB 1024 (fun i => dec2 (Nat.add 62464 i)) = true := by kernel_rfl
theorem dec2_62 : allB 1024 (fun i => dec2 (Nat.add 63488 i)) = true := by kernel_rfl
theorem dec2_63 : allB 1024 (fun i => dec2 (Nat.add 64512 i)) = true := by kernel_rfl
end Go.Den
