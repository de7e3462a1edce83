import Derived.Test.YtllippimokoioaaE9
set_option maxRecDepth 100000
namespace Go.Den
theorem gchk_16 : allB 1024 (fun i => gchk (Nat.add 16384 i)) = true := by kernel_rfl
theorem gchk_17 : allB 1024 (fun i => gchk (Nat.add 17408 i)) = true := by kernel_rfl
theorem gchk_18 : allB 1024 (fun i => gchk (Nat.add 18432 i)) = true := by kernel_rfl
theorem gchk_19 : allB 1024 (fun i => gchk (Nat.add 19456 i)) = true := by kernel_rfl
theorem gchk_20 : allB 1024 (fun i => gchk (Nat.add 20480 i)) = true := by kernel_rfl
theorem gchk_21 : allB 1024 (fun i => gchk (Nat.add 21504 i)) = true := by kernel_rfl
theorem gchk_22 : allB 1024 (fun i => gchk (Nat.add 22528 i)) = true := by kernel_rfl
theorem gchk_23 : allB 1024 (fun i => gchk (Nat.add 23552 i)) = true := by kernel_rfl
theorem gchk_24 : allB 1024 (fun i => gchk (Nat.add 24576 i)) = true := by kernel_rfl
theorem gchk_25 : allB 1024 (fun i => gchk (Nat.add 25600 i)) = true := by kernel_rfl
theorem gchk_26 : allB 1024 (fun i => gchk (Nat.add 26624 i)) = true := by kernel_rfl
theorem gchk_27 : allB 1024 (fun i => gchk (Nat.add 27648 i)) = true := by kernel_rfl
theorem gchk_28 : allB 1024 (fun i => gchk (Nat.add 28672 i)) = true := by kernel_rfl
theorem gchk_29 : allB 1024 (fun i => gchk (Nat.add 29696 i)) = true := by kernel_rfl
theorem gchk_30 : allB 1024 (fun i => gchk (Nat.add 30720 i)) = true := by kernel_rfl
theorem gchk_31 : allB 1024 (fun i => gchk (Nat.add 31744 i)) = true := by kernel_rfl
end Go.Den
