import Derived.Test.YtihdbaehaiaiiaaF13
set_option linter.unusedSimpArgs false
set_option maxRecDepth 100000
namespace Go.Den
theorem chkOnes_16 : allB chkOnes 1024 16384 = true := by kernel_rfl
theorem chkOnes_17 : allB chkOnes 1024 17408 = true := by kernel_rfl
theorem chkOnes_18 : allB chkOnes 1024 18432 = true := by kernel_rfl
theorem chkOnes_19 : allB chkOnes 1024 19456 = true := by kernel_rfl
theorem chkOnes_20 : allB chkOnes 1024 20480 = true := by kernel_rfl
theorem chkOnes_21 : allB chkOnes 1024 21504 = true := by kernel_rfl
theorem chkOnes_22 : allB chkOnes 1024 22528 = true := by kernel_rfl
theorem chkOnes_23 : allB chkOnes 1024 23552 = true := by kernel_rfl
theorem chkOnes_24 : allB chkOnes 1024 24576 = true := by kernel_rfl
theorem chkOnes_25 : allB chkOnes 1024 25600 = true := by kernel_rfl
theorem chkOnes_26 : allB chkOnes 1024 26624 = true := by kernel_rfl
theorem chkOnes_27 : allB chkOnes 1024 27648 = true := by kernel_rfl
theorem chkOnes_28 : allB chkOnes 1024 28672 = true := by kernel_rfl
theorem chkOnes_29 : allB chkOnes 1024 29696 = true := by kernel_rfl
theorem chkOnes_30 : allB chkOnes 1024 30720 = true := by kernel_rfl
theorem chkOnes_31 : allB chkOnes 1024 31744 = true := by kernel_rfl
theorem chkOnesA1 {n : Nat} (h0 : 16384 ≤ n) (h1 : n < 32768) : chkOnes n = true := by
  rcases Nat.lt_or_ge n 17408 with g0 | g0
  · exact allB_ok chkOnes_16 n (by omega) (by omega)
  rcases Nat.lt_or_ge n 18432 with g1 | g1
  · exact allB_ok chkOnes_17 n (by omega) (by omega)
  rcases Nat.lt_or_ge n 19456 with g2 | g2
  · exact allB_ok chkOnes_18 n (by omega) (by omega)
  rcases Nat.lt_or_ge n 20480 with g3 | g3
  · exact allB_ok chkOnes_19 n (by omega) (by omega)
  rcases Nat.lt_or_ge n 21504 with g4 | g4
  · exact allB_ok chkOnes_20 n (by omega) (by omega)
  rcases Nat.lt_or_ge n 22528 with g5 | g5
  · exact allB_ok chkOnes_21 n (by omega) (by omega)
  rcases Nat.lt_or_ge n 23552 with g6 | g6
  · exact allB_ok chkOnes_22 n (by omega) (by omega)
  rcases Nat.lt_or_ge n 24576 with g7 | g7
  · exact allB_ok chkOnes_23 n (by omega) (by omega)
  rcases Nat.lt_or_ge n 25600 with g8 | g8
  · exact allB_ok chkOnes_24 n (by omega) (by omega)
  rcases Nat.lt_or_ge n 26624 with g9 | g9
  · exact allB_ok chkOnes_25 n (by omega) (by omega)
  rcases Nat.lt_or_ge n 27648 with g10 | g10
  · exact allB_ok chkOnes_26 n (by omega) (by omega)
  rcases Nat.lt_or_ge n 28672 with g11 | g11
  · exact allB_ok chkOnes_27 n (by omega) (by omega)
  rcases Nat.lt_or_ge n 29696 with g12 | g12
  · exact allB_ok chkOnes_28 n (by omega) (by omega)
  rcases Nat.lt_or_ge n 30720 with g13 | g13
  · exact allB_ok chkOnes_29 n (by omega) (by omega)
  rcases Nat.lt_or_ge n 31744 with g14 | g14
  · exact allB_ok chkOnes_30 n (by omega) (by omega)
  exact allB_ok chkOnes_31 n (by omega) (by omega)
end Go.Den
