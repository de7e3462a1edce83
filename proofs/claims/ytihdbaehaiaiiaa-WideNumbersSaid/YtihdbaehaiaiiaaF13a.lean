import Derived.Test.YtihdbaehaiaiiaaF13
set_option linter.unusedSimpArgs false
set_option maxRecDepth 100000
namespace Go.Den
theorem chkOnes_0 : allB chkOnes 1024 0 = true := by kernel_rfl
theorem chkOnes_1 : allB chkOnes 1024 1024 = true := by kernel_rfl
theorem chkOnes_2 : allB chkOnes 1024 2048 = true := by kernel_rfl
theorem chkOnes_3 : allB chkOnes 1024 3072 = true := by kernel_rfl
theorem chkOnes_4 : allB chkOnes 1024 4096 = true := by kernel_rfl
theorem chkOnes_5 : allB chkOnes 1024 5120 = true := by kernel_rfl
theorem chkOnes_6 : allB chkOnes 1024 6144 = true := by kernel_rfl
theorem chkOnes_7 : allB chkOnes 1024 7168 = true := by kernel_rfl
theorem chkOnes_8 : allB chkOnes 1024 8192 = true := by kernel_rfl
theorem chkOnes_9 : allB chkOnes 1024 9216 = true := by kernel_rfl
theorem chkOnes_10 : allB chkOnes 1024 10240 = true := by kernel_rfl
theorem chkOnes_11 : allB chkOnes 1024 11264 = true := by kernel_rfl
theorem chkOnes_12 : allB chkOnes 1024 12288 = true := by kernel_rfl
theorem chkOnes_13 : allB chkOnes 1024 13312 = true := by kernel_rfl
theorem chkOnes_14 : allB chkOnes 1024 14336 = true := by kernel_rfl
theorem chkOnes_15 : allB chkOnes 1024 15360 = true := by kernel_rfl
theorem chkOnesA0 {n : Nat} (h0 : 0 ≤ n) (h1 : n < 16384) : chkOnes n = true := by
  rcases Nat.lt_or_ge n 1024 with g0 | g0
  · exact allB_ok chkOnes_0 n (by omega) (by omega)
  rcases Nat.lt_or_ge n 2048 with g1 | g1
  · exact allB_ok chkOnes_1 n (by omega) (by omega)
  rcases Nat.lt_or_ge n 3072 with g2 | g2
  · exact allB_ok chkOnes_2 n (by omega) (by omega)
  rcases Nat.lt_or_ge n 4096 with g3 | g3
  · exact allB_ok chkOnes_3 n (by omega) (by omega)
  rcases Nat.lt_or_ge n 5120 with g4 | g4
  · exact allB_ok chkOnes_4 n (by omega) (by omega)
  rcases Nat.lt_or_ge n 6144 with g5 | g5
  · exact allB_ok chkOnes_5 n (by omega) (by omega)
  rcases Nat.lt_or_ge n 7168 with g6 | g6
  · exact allB_ok chkOnes_6 n (by omega) (by omega)
  rcases Nat.lt_or_ge n 8192 with g7 | g7
  · exact allB_ok chkOnes_7 n (by omega) (by omega)
  rcases Nat.lt_or_ge n 9216 with g8 | g8
  · exact allB_ok chkOnes_8 n (by omega) (by omega)
  rcases Nat.lt_or_ge n 10240 with g9 | g9
  · exact allB_ok chkOnes_9 n (by omega) (by omega)
  rcases Nat.lt_or_ge n 11264 with g10 | g10
  · exact allB_ok chkOnes_10 n (by omega) (by omega)
  rcases Nat.lt_or_ge n 12288 with g11 | g11
  · exact allB_ok chkOnes_11 n (by omega) (by omega)
  rcases Nat.lt_or_ge n 13312 with g12 | g12
  · exact allB_ok chkOnes_12 n (by omega) (by omega)
  rcases Nat.lt_or_ge n 14336 with g13 | g13
  · exact allB_ok chkOnes_13 n (by omega) (by omega)
  rcases Nat.lt_or_ge n 15360 with g14 | g14
  · exact allB_ok chkOnes_14 n (by omega) (by omega)
  exact allB_ok chkOnes_15 n (by omega) (by omega)
end Go.Den
