import Derived.Test.YtllippimokoioaaE3
set_option maxRecDepth 100000
namespace Go.Den
theorem chk_0 : allB 1024 (fun i => chk (Nat.add 0 i)) = true := by kernel_rfl
theorem chk_1 : allB 1024 (fun i => chk (Nat.add 1024 i)) = true := by kernel_rfl
theorem chk_2 : allB 1024 (fun i => chk (Nat.add 2048 i)) = true := by kernel_rfl
theorem chk_3 : allB 1024 (fun i => chk (Nat.add 3072 i)) = true := by kernel_rfl
theorem chk_4 : allB 1024 (fun i => chk (Nat.add 4096 i)) = true := by kernel_rfl
theorem chk_5 : allB 1024 (fun i => chk (Nat.add 5120 i)) = true := by kernel_rfl
theorem chk_6 : allB 1024 (fun i => chk (Nat.add 6144 i)) = true := by kernel_rfl
theorem chk_7 : allB 1024 (fun i => chk (Nat.add 7168 i)) = true := by kernel_rfl
theorem chk_8 : allB 1024 (fun i => chk (Nat.add 8192 i)) = true := by kernel_rfl
theorem chk_9 : allB 1024 (fun i => chk (Nat.add 9216 i)) = true := by kernel_rfl
theorem chk_10 : allB 1024 (fun i => chk (Nat.add 10240 i)) = true := by kernel_rfl
theorem chk_11 : allB 1024 (fun i => chk (Nat.add 11264 i)) = true := by kernel_rfl
theorem chk_12 : allB 1024 (fun i => chk (Nat.add 12288 i)) = true := by kernel_rfl
theorem chk_13 : allB 1024 (fun i => chk (Nat.add 13312 i)) = true := by kernel_rfl
theorem chk_14 : allB 1024 (fun i => chk (Nat.add 14336 i)) = true := by kernel_rfl
theorem chk_15 : allB 1024 (fun i => chk (Nat.add 15360 i)) = true := by kernel_rfl
end Go.Den
