import Derived.Test.YtihdbaehaiaiiaaF13
set_option linter.unusedSimpArgs false
set_option maxRecDepth 100000
namespace Go.Den
theorem chkOnes_48 : allB chkOnes 1024 49152 = true := by kernel_rfl
theorem chkOnes_49 : allB chkOnes 1024 50176 = true := by kernel_rfl
theorem chkOnes_50 : allB chkOnes 1024 51200 = true := by kernel_rfl
theorem chkOnes_51 : allB chkOnes 1024 52224 = true := by kernel_rfl
theorem chkOnes_52 : allB chkOnes 1024 53248 = true := by kernel_rfl
theorem chkOnes_53 : allB chkOnes 1024 54272 = true := by kernel_rfl
theorem chkOnes_54 : allB chkOnes 1024 55296 = true := by kernel_rfl
theorem chkOnes_55 : allB chkOnes 1024 56320 = true := by kernel_rfl
theorem chkOnes_56 : allB chkOnes 1024 57344 = true := by kernel_rfl
theorem chkOnes_57 : allB chkOnes 1024 58368 = true := by kernel_rfl
theorem chkOnes_58 : allB chkOnes 1024 59392 = true := by kernel_rfl
theorem chkOnes_59 : allB chkOnes 1024 60416 = true := by kernel_rfl
theorem chkOnes_60 : allB chkOnes 1024 61440 = true := by kernel_rfl
theorem chkOnes_61 : allB chkOnes 1024 62464 = true := by kernel_rfl
theorem chkOnes_62 : allB chkOnes 1024 63488 = true := by kernel_rfl
theorem chkOnes_63 : allB chkOnes 1024 64512 = true := by kernel_rfl
theorem chkOnesA3 {n : Nat} (h0 : 49152 ≤ n) (h1 : n < 65536) : chkOnes n = true := by
  rcases Nat.lt_or_ge n 50176 with g0 | g0
  · exact allB_ok chkOnes_48 n (by omega) (by omega)
  rcases Nat.lt_or_ge n 51200 with g1 | g1
  · exact allB_ok chkOnes_49 n (by omega) (by omega)
  rcases Nat.lt_or_ge n 52224 with g2 | g2
  · exact allB_ok chkOnes_50 n (by omega) (by omega)
  rcases Nat.lt_or_ge n 53248 with g3 | g3
  · exact allB_ok chkOnes_51 n (by omega) (by omega)
  rcases Nat.lt_or_ge n 54272 with g4 | g4
  · exact allB_ok chkOnes_52 n (by omega) (by omega)
  rcases Nat.lt_or_ge n 55296 with g5 | g5
  · exact allB_ok chkOnes_53 n (by omega) (by omega)
  rcases Nat.lt_or_ge n 56320 with g6 | g6
  · exact allB_ok chkOnes_54 n (by omega) (by omega)
  rcases Nat.lt_or_ge n 57344 with g7 | g7
  · exact allB_ok chkOnes_55 n (by omega) (by omega)
  rcases Nat.lt_or_ge n 58368 with g8 | g8
  · exact allB_ok chkOnes_56 n (by omega) (by omega)
  rcases Nat.lt_or_ge n 59392 with g9 | g9
  · exact allB_ok chkOnes_57 n (by omega) (by omega)
  rcases Nat.lt_or_ge n 60416 with g10 | g10
  · exact allB_ok chkOnes_58 n (by omega) (by omega)
  rcases Nat.lt_or_ge n 61440 with g11 | g11
  · exact allB_ok chkOnes_59 n (by omega) (by omega)
  rcases Nat.lt_or_ge n 62464 with g12 | g12
  · exact allB_ok chkOnes_60 n (by omega) (by omega)
  rcases Nat.lt_or_ge n 63488 with g13 | g13
  · exact allB_ok chkOnes_61 n (by omega) (by omega)
  rcases Nat.lt_or_ge n 64512 with g14 | g14
  · exact allB_ok chkOnes_62 n (by omega) (by omega)
  exact allB_ok chkOnes_63 n (by omega) (by omega)
end Go.Den
