import Derived.Test.YtllippimokoioaaE1
namespace Go.Den
set_option maxRecDepth 100000
theorem dec2_40 : allB 1024 (fun i => dec2 (Nat.add 40960 i)) = true := by kernel_rfl
theorem dec2_41 : allB 1024 (fun i => dec2 (Nat.add 41984 i)) = true := by kernel_rfl
theorem dec2_42 : allB 1024 (fun i => dec2 (Nat.add 43008 i)) = true := by kernel_rfl
theorem dec2_43 : allB 1024 (fun i => dec2 (Nat.add 44032 i)) = true := by kernel_rfl
theorem dec2_44 : allB 1024 (fun i => dec2 (Nat.add 45056 i)) = true := by kernel_rfl
theorem dec2_45 : allB 1024 (fun i => dec2 (Nat.add 46080 i)) = true := by kernel_rfl
theorem dec2_46 : allB 1024 (fun i => dec2 (Nat.add 47104 i)) = true := by kernel_rfl
theorem dec2_47 : allB 1024 (fun i => dec2 (Nat.add 48128 i)) = true := by kernel_rfl
end Go.Den
