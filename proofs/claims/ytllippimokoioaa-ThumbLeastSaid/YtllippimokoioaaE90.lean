import Derived.Test.YtllippimokoioaaE9
set_option maxRecDepth 100000
namespace Go.Den
theorem gchk_0 : allB 1024 (fun i => gchk (Nat.add 0 i)) = true := by kernel_rfl
theorem gchk_1 : allB 1024 (fun i => gchk (Nat.add 1024 i)) = true := by kernel_rfl
theorem gchk_2 : allB 1024 (fun i => gchk (Nat.add 2048 i)) = true := by kernel_rfl
theorem gchk_3 : allB 1024 (fun i => gchk (Nat.add 3072 i)) = true := by kernel_rfl
theorem gchk_4 : allB 1024 (fun i => gchk (Nat.add 4096 i)) = true := by kernel_rfl
theorem gchk_5 : allB 1024 (fun i => gchk (Nat.add 5120 i)) = true := by kernel_rfl
theorem gchk_6 : allB 1024 (fun i => gchk (Nat.add 6144 i)) = true := by kernel_rfl
theorem gchk_7 : allB 1024 (fun i => gchk (Nat.add 7168 i)) = true := by kernel_rfl
theorem gchk_8 : allB 1024 (fun i => gchk (Nat.add 8192 i)) = true := by kernel_rfl
theorem gchk_9 : allB 1024 (fun i => gchk (Nat.add 9216 i)) = true := by kernel_rfl
theorem gchk_10 : allB 1024 (fun i => gchk (Nat.add 10240 i)) = true := by kernel_rfl
theorem gchk_11 : allB 1024 (fun i => gchk (Nat.add 11264 i)) = true := by kernel_rfl
theorem gchk_12 : allB 1024 (fun i => gchk (Nat.add 12288 i)) = true := by kernel_rfl
theorem gchk_13 : allB 1024 (fun i => gchk (Nat.add 13312 i)) = true := by kernel_rfl
theorem gchk_14 : allB 1024 (fun i => gchk (Nat.add 14336 i)) = true := by kernel_rfl
theorem gchk_15 : allB 1024 (fun i => gchk (Nat.add 15360 i)) = true := by kernel_rfl
end Go.Den
