import Derived.Test.YtllippimokoioaaE9
set_option maxRecDepth 100000
namespace Go.Den
theorem gchk_32 : allB 1024 (fun i => gchk (Nat.add 32768 i)) = true := by kernel_rfl
theorem gchk_33 : allB 1024 (fun i => gchk (Nat.add 33792 i)) = true := by kernel_rfl
theorem gchk_34 : allB 1024 (fun i => gchk (Nat.add 34816 i)) = true := by kernel_rfl
theorem gchk_35 : allB 1024 (fun i => gchk (Nat.add 35840 i)) = true := by kernel_rfl
theorem gchk_36 : allB 1024 (fun i => gchk (Nat.add 36864 i)) = true := by kernel_rfl
theorem gchk_37 : allB 1024 (fun i => gchk (Nat.add 37888 i)) = true := by kernel_rfl
theorem gchk_38 : allB 1024 (fun i => gchk (Nat.add 38912 i)) = true := by kernel_rfl
theorem gchk_39 : allB 1024 (fun i => gchk (Nat.add 39936 i)) = true := by kernel_rfl
theorem gchk_40 : allB 1024 (fun i => gchk (Nat.add 40960 i)) = true := by kernel_rfl
theorem gchk_41 : allB 1024 (fun i => gchk (Nat.add 41984 i)) = true := by kernel_rfl
theorem gchk_42 : allB 1024 (fun i => gchk (Nat.add 43008 i)) = true := by kernel_rfl
theorem gchk_43 : allB 1024 (fun i => gchk (Nat.add 44032 i)) = true := by kernel_rfl
theorem gchk_44 : allB 1024 (fun i => gchk (Nat.add 45056 i)) = true := by kernel_rfl
theorem gchk_45 : allB 1024 (fun i => gchk (Nat.add 46080 i)) = true := by kernel_rfl
theorem gchk_46 : allB 1024 (fun i => gchk (Nat.add 47104 i)) = true := by kernel_rfl
theorem gchk_47 : allB 1024 (fun i => gchk (Nat.add 48128 i)) = true := by kernel_rfl
end Go.Den
