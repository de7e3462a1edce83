import Derived.Test.YtllippimokoioaaE3
set_option maxRecDepth 100000
namespace Go.Den
theorem chk_16 : allB 1024 (fun i => chk (Nat.add 16384 i)) = true := by kernel_rfl
theorem chk_17 : allB 1024 (fun i => chk (Nat.add 17408 i)) = true := by kernel_rfl
theorem chk_18 : allB 1024 (fun i => chk (Nat.add 18432 i)) = true := by kernel_rfl
theorem chk_19 : allB 1024 (fun i => chk (Nat.add 19456 i)) = true := by kernel_rfl
theorem chk_20 : allB 1024 (fun i => chk (Nat.add 20480 i)) = true := by kernel_rfl
theorem chk_21 : allB 1024 (fun i => chk (Nat.add 21504 i)) = true := by kernel_rfl
theorem chk_22 : allB 1024 (fun i => chk (Nat.add 22528 i)) = true := by kernel_rfl
theorem chk_23 : allB 1024 (fun i => chk (Nat.add 23552 i)) = true := by kernel_rfl
theorem chk_24 : allB 1024 (fun i => chk (Nat.add 24576 i)) = true := by kernel_rfl
theorem chk_25 : allB 1024 (fun i => chk (Nat.add 25600 i)) = true := by kernel_rfl
theorem chk_26 : allB 1024 (fun i => chk (Nat.add 26624 i)) = true := by kernel_rfl
theorem chk_27 : allB 1024 (fun i => chk (Nat.add 27648 i)) = true := by kernel_rfl
theorem chk_28 : allB 1024 (fun i => chk (Nat.add 28672 i)) = true := by kernel_rfl
theorem chk_29 : allB 1024 (fun i => chk (Nat.add 29696 i)) = true := by kernel_rfl
theorem chk_30 : allB 1024 (fun i => chk (Nat.add 30720 i)) = true := by kernel_rfl
theorem chk_31 : allB 1024 (fun i => chk (Nat.add 31744 i)) = true := by kernel_rfl
end Go.Den
