import Derived.Test.YtihdbaehaiaiiaaF13a
import Derived.Test.YtihdbaehaiaiiaaF13b
import Derived.Test.YtihdbaehaiaiiaaF13c
import Derived.Test.YtihdbaehaiaiiaaF13d
set_option maxRecDepth 100000
namespace Go.Den
theorem ones_eq {k : Int} (hk : 0 ≤ k ∧ k ≤ 65535) : decide (p46 k < 2) = decide ((((encI (regL k true 16 0)).length : Nat) : Int) < 2) := by
  obtain ⟨n, rfl⟩ := Int.eq_ofNat_of_zero_le hk.1
  have h : chkOnes n = true := by
    rcases Nat.lt_or_ge n 16384 with h1 | h1
    · exact chkOnesA0 (by omega) (by omega)
    rcases Nat.lt_or_ge n 32768 with h2 | h2
    · exact chkOnesA1 (by omega) (by omega)
    rcases Nat.lt_or_ge n 49152 with h3 | h3
    · exact chkOnesA2 (by omega) (by omega)
    · exact chkOnesA3 (by omega) (by omega)
  exact beqB_ok h
end Go.Den
