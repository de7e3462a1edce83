import Derived.Test.YtllippimokoioaaE9
set_option maxRecDepth 100000
namespace Go.Den
theorem gchk_48 : allB 1024 (fun i => gchk (Nat.add 49152 i)) = true := by kernel_rfl
theorem gchk_49 : allB 1024 (fun i => gchk (Nat.add 50176 i)) = true := by kernel_rfl
theorem gchk_50 : allB 1024 (fun i => gchk (Nat.add 51200 i)) = true := by kernel_rfl
theorem gchk_51 : allB 1024 (fun i => gchk (Nat.add 52224 i)) = true := by kernel_rfl
theorem gchk_52 : allB 1024 (fun i => gchk (Nat.add 53248 i)) = true := by kernel_rfl
theorem gchk_53 : allB 1024 (fun i => gchk (Nat.add 54272 i)) = true := by kernel_rfl
theorem gchk_54 : allB 1024 (fun i => gchk (Nat.add 55296 i)) = true := by kernel_rfl
theorem gchk_55 : allB 1024 (fun i => gchk (Nat.add 56320 i)) = true := by kernel_rfl
theorem gchk_56 : allB 1024 (fun i => gchk (Nat.add 57344 i)) = true := by kernel_rfl
theorem gchk_57 : allB 1024 (fun i => gchk (Nat.add 58368 i)) = true := by kernel_rfl
theorem gchk_58 : allB 1024 (fun i => gchk (Nat.add 59392 i)) = true := by kernel_rfl
theorem gchk_59 : allB 1024 (fun i => gchk (Nat.add 60416 i)) = true := by kernel_rfl
theorem gchk_60 : allB 1024 (fun i => gchk (Nat.add 61440 i)) = true := by kernel_rfl
theorem gchk_61 : allB 1024 (fun i => gchk (Nat.add 62464 i)) = true := by kernel_rfl
theorem gchk_62 : allB 1024 (fun i => gchk (Nat.add 63488 i)) = true := by kernel_rfl
theorem gchk_63 : allB 1024 (fun i => gchk (Nat.add 64512 i)) = true := by kernel_rfl
end Go.Den
