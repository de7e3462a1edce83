import Derived.Test.YtllippimokoioaaE3
set_option maxRecDepth 100000
namespace Go.Den
theorem chk_32 : allB 1024 (fun i => chk (Nat.add 32768 i)) = true := by kernel_rfl
theorem chk_33 : allB 1024 (fun i => chk (Nat.add 33792 i)) = true := by kernel_rfl
theorem chk_34 : allB 1024 (fun i => chk (Nat.add 34816 i)) = true := by kernel_rfl
theorem chk_35 : allB 1024 (fun i => chk (Nat.add 35840 i)) = true := by kernel_rfl
theorem chk_36 : allB 1024 (fun i => chk (Nat.add 36864 i)) = true := by kernel_rfl
theorem chk_37 : allB 1024 (fun i => chk (Nat.add 37888 i)) = true := by kernel_rfl
theorem chk_38 : allB 1024 (fun i => chk (Nat.add 38912 i)) = true := by kernel_rfl
theorem chk_39 : allB 1024 (fun i => chk (Nat.add 39936 i)) = true := by kernel_rfl
theorem chk_40 : allB 1024 (fun i => chk (Nat.add 40960 i)) = true := by kernel_rfl
theorem chk_41 : allB 1024 (fun i => chk (Nat.add 41984 i)) = true := by kernel_rfl
theorem chk_42 : allB 1024 (fun i => chk (Nat.add 43008 i)) = true := by kernel_rfl
theorem chk_43 : allB 1024 (fun i => chk (Nat.add 44032 i)) = true := by kernel_rfl
theorem chk_44 : allB 1024 (fun i => chk (Nat.add 45056 i)) = true := by kernel_rfl
theorem chk_45 : allB 1024 (fun i => chk (Nat.add 46080 i)) = true := by kernel_rfl
theorem chk_46 : allB 1024 (fun i => chk (Nat.add 47104 i)) = true := by kernel_rfl
theorem chk_47 : allB 1024 (fun i => chk (Nat.add 48128 i)) = true := by kernel_rfl
end Go.Den
