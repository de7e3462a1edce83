import Derived.Test.YtihdbaehaiaiiaaF13
set_option linter.unusedSimpArgs false
set_option maxRecDepth 100000
namespace Go.Den
theorem chkOnes_32 : allB chkOnes 1024 32768 = true := by kernel_rfl
theorem chkOnes_33 : allB chkOnes 1024 33792 = true := by kernel_rfl
theorem chkOnes_34 : allB chkOnes 1024 34816 = true := by kernel_rfl
theorem chkOnes_35 : allB chkOnes 1024 35840 = true := by kernel_rfl
theorem chkOnes_36 : allB chkOnes 1024 36864 = true := by kernel_rfl
theorem chkOnes_37 : allB chkOnes 1024 37888 = true := by kernel_rfl
theorem chkOnes_38 : allB chkOnes 1024 38912 = true := by kernel_rfl
theorem chkOnes_39 : allB chkOnes 1024 39936 = true := by kernel_rfl
theorem chkOnes_40 : allB chkOnes 1024 40960 = true := by kernel_rfl
theorem chkOnes_41 : allB chkOnes 1024 41984 = true := by kernel_rfl
theorem chkOnes_42 : allB chkOnes 1024 43008 = true := by kernel_rfl
theorem chkOnes_43 : allB chkOnes 1024 44032 = true := by kernel_rfl
theorem chkOnes_44 : allB chkOnes 1024 45056 = true := by kernel_rfl
theorem chkOnes_45 : allB chkOnes 1024 46080 = true := by kernel_rfl
theorem chkOnes_46 : allB chkOnes 1024 47104 = true := by kernel_rfl
theorem chkOnes_47 : allB chkOnes 1024 48128 = true := by kernel_rfl
theorem chkOnesA2 {n : Nat} (h0 : 32768 ≤ n) (h1 : n < 49152) : chkOnes n = true := by
  rcases Nat.lt_or_ge n 33792 with g0 | g0
  · exact allB_ok chkOnes_32 n (by omega) (by omega)
  rcases Nat.lt_or_ge n 34816 with g1 | g1
  · exact allB_ok chkOnes_33 n (by omega) (by omega)
  rcases Nat.lt_or_ge n 35840 with g2 | g2
  · exact allB_ok chkOnes_34 n (by omega) (by omega)
  rcases Nat.lt_or_ge n 36864 with g3 | g3
  · exact allB_ok chkOnes_35 n (by omega) (by omega)
  rcases Nat.lt_or_ge n 37888 with g4 | g4
  · exact allB_ok chkOnes_36 n (by omega) (by omega)
  rcases Nat.lt_or_ge n 38912 with g5 | g5
  · exact allB_ok chkOnes_37 n (by omega) (by omega)
  rcases Nat.lt_or_ge n 39936 with g6 | g6
  · exact allB_ok chkOnes_38 n (by omega) (by omega)
  rcases Nat.lt_or_ge n 40960 with g7 | g7
  · exact allB_ok chkOnes_39 n (by omega) (by omega)
  rcases Nat.lt_or_ge n 41984 with g8 | g8
  · exact allB_ok chkOnes_40 n (by omega) (by omega)
  rcases Nat.lt_or_ge n 43008 with g9 | g9
  · exact allB_ok chkOnes_41 n (by omega) (by omega)
  rcases Nat.lt_or_ge n 44032 with g10 | g10
  · exact allB_ok chkOnes_42 n (by omega) (by omega)
  rcases Nat.lt_or_ge n 45056 with g11 | g11
  · exact allB_ok chkOnes_43 n (by omega) (by omega)
  rcases Nat.lt_or_ge n 46080 with g12 | g12
  · exact allB_ok chkOnes_44 n (by omega) (by omega)
  rcases Nat.lt_or_ge n 47104 with g13 | g13
  · exact allB_ok chkOnes_45 n (by omega) (by omega)
  rcases Nat.lt_or_ge n 48128 with g14 | g14
  · exact allB_ok chkOnes_46 n (by omega) (by omega)
  exact allB_ok chkOnes_47 n (by omega) (by omega)
end Go.Den
