import Derived.Test.YtllippimokoioaaE3
set_option maxRecDepth 100000
namespace Go.Den
theorem chk_48 : allB 1024 (fun i => chk (Nat.add 49152 i)) = true := by kernel_rfl
theorem chk_49 : allB 1024 (fun i => chk (Nat.add 50176 i)) = true := by kernel_rfl
theorem chk_50 : allB 1024 (fun i => chk (Nat.add 51200 i)) = true := by kernel_rfl
theorem chk_51 : allB 1024 (fun i => chk (Nat.add 52224 i)) = true := by kernel_rfl
theorem chk_52 : allB 1024 (fun i => chk (Nat.add 53248 i)) = true := by kernel_rfl
theorem chk_53 : allB 1024 (fun i => chk (Nat.add 54272 i)) = true := by kernel_rfl
theorem chk_54 : allB 1024 (fun i => chk (Nat.add 55296 i)) = true := by kernel_rfl
theorem chk_55 : allB 1024 (fun i => chk (Nat.add 56320 i)) = true := by kernel_rfl
theorem chk_56 : allB 1024 (fun i => chk (Nat.add 57344 i)) = true := by kernel_rfl
theorem chk_57 : allB 1024 (fun i => chk (Nat.add 58368 i)) = true := by kernel_rfl
theorem chk_58 : allB 1024 (fun i => chk (Nat.add 59392 i)) = true := by kernel_rfl
theorem chk_59 : allB 1024 (fun i => chk (Nat.add 60416 i)) = true := by kernel_rfl
theorem chk_60 : allB 1024 (fun i => chk (Nat.add 61440 i)) = true := by kernel_rfl
theorem chk_61 : allB 1024 (fun i => chk (Nat.add 62464 i)) = true := by kernel_rfl
theorem chk_62 : allB 1024 (fun i => chk (Nat.add 63488 i)) = true := by kernel_rfl
theorem chk_63 : allB 1024 (fun i => chk (Nat.add 64512 i)) = true := by kernel_rfl
end Go.Den
