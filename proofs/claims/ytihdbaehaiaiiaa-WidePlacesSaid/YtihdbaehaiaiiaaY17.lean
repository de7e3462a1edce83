import Derived.Test.YtihdbaehaiaiiaaY16
import Derived.Test.YtihdbaehaiaiiaaZ5
set_option linter.unusedSimpArgs false
set_option linter.unusedVariables false
set_option maxRecDepth 100000
namespace Go.Den

/-- a number that is shifted down, then doubled -/
theorem shift_i32 {n : Int} (hn : -2147483648 ≤ n ∧ n ≤ 2147483647) (a p : Int) (ha : shrF .i32 n a = n.fdiv p) (hp : p = 256 ∨ p = 4096) :
    ∃ m, m = n / p ∧ wrapF .u32 (shlF .i32 (shrF .i32 n a) 1) = if m < 0 then 2 * m + 4294967296 else 2 * m := by
  refine ⟨n / p, rfl, ?_⟩
  rw [ha, Int.fdiv_eq_ediv_of_nonneg _ (by omega)]
  have e1 : shlF .i32 (n / p) 1 = n / p * 2 := by
    rw [shlF_S]
    show wrapF .i32 (n / p * 2) = _
    exact (wrap_fact .i32 (n / p * 2) (-2147483648) 2147483647 (by decide)).2 (by rcases hp with rfl | rfl <;> omega) (by rcases hp with rfl | rfl <;> omega)
  rw [e1, wrapF_eq]
  unfold IntKind.wrap
  simp only [IntKind.signed, IntKind.bits, Bool.false_and, Bool.false_eq_true, if_false]
  rcases hp with rfl | rfl
  · split <;> omega
  · split <;> omega

theorem far_num {n : Int} (hn : -2147483648 ≤ n ∧ n ≤ 2147483647) : ∃ s a b x l, (0 ≤ s ∧ s ≤ 1) ∧ (0 ≤ a ∧ a ≤ 1) ∧ (0 ≤ b ∧ b ≤ 1) ∧ (0 ≤ x ∧ x ≤ 1023) ∧ (0 ≤ l ∧ l ≤ 2047) ∧
    wrapF .u32 (shlF .i32 (shrF .i32 n 8) 1) = 4278190080 * s + 8388608 * a + 4194304 * b + 4096 * x + 2 * l := by
  obtain ⟨m, hm, e⟩ := shift_i32 hn 8 256 (by rw [shrF_S]; rfl) (Or.inl rfl)
  rw [e]
  by_cases h : m < 0
  · rw [if_pos h]
    exact ⟨1, (m + 8388608) / 4194304, (m + 8388608) / 2097152 % 2, (m + 8388608) / 2048 % 1024, (m + 8388608) % 2048, by omega, by omega, by omega, by omega, by omega, by omega⟩
  · rw [if_neg h]
    exact ⟨0, m / 4194304, m / 2097152 % 2, m / 2048 % 1024, m % 2048, by omega, by omega, by omega, by omega, by omega, by omega⟩

theorem near_num {n : Int} (hn : -2147483648 ≤ n ∧ n ≤ 2147483647) : ∃ s q p x l, (0 ≤ s ∧ s ≤ 1) ∧ (0 ≤ q ∧ q ≤ 1) ∧ (0 ≤ p ∧ p ≤ 1) ∧ (0 ≤ x ∧ x ≤ 63) ∧ (0 ≤ l ∧ l ≤ 2047) ∧
    wrapF .u32 (shlF .i32 (shrF .i32 n 12) 1) = 4293918720 * s + 524288 * q + 262144 * p + 4096 * x + 2 * l := by
  obtain ⟨m, hm, e⟩ := shift_i32 hn 12 4096 (by rw [shrF_S]; rfl) (Or.inr rfl)
  rw [e]
  by_cases h : m < 0
  · rw [if_pos h]
    exact ⟨1, (m + 524288) / 262144, (m + 524288) / 131072 % 2, (m + 524288) / 2048 % 64, (m + 524288) % 2048, by omega, by omega, by omega, by omega, by omega, by omega⟩
  · rw [if_neg h]
    exact ⟨0, m / 262144, m / 131072 % 2, m / 2048 % 64, m % 2048, by omega, by omega, by omega, by omega, by omega, by omega⟩

/-- the row of a branch takes no note of an odd number -/
theorem odd_row {v : Int} (hv : 0 ≤ v ∧ v ≤ 4294967295) (he : v % 2 = 0) : bitsF .or .u32 v 1 = v + 1 ∧
    o35y (S30.mk 54 true false 14 0 0 0 0 (bitsF .or .u32 v 1) false 0 0 0 false false) = o35y (S30.mk 54 true false 14 0 0 0 0 v false 0 0 0 false false) ∧
    o35y (S30.mk 55 true false 14 0 0 0 0 (bitsF .or .u32 v 1) false 0 0 0 false false) = o35y (S30.mk 55 true false 14 0 0 0 0 v false 0 0 0 false false) := by
  have e : bitsF .or .u32 v 1 = v + 1 := or_lin .u32 v 1 (v + 1) v 0 1 0 2 1 (by decide) (by decide) (by decide) (by decide) (by omega) (by omega) (by omega) (by omega) (by omega) (by omega)
  have s1 : shrF .u32 v 1 = v / 2 := shr_lin .u32 v 1 (v / 2) 0 2 (by decide) (by decide) (by decide) (by omega) (by omega) (by omega) (by omega)
  have s2 : shrF .u32 (v + 1) 1 = v / 2 := shr_lin .u32 (v + 1) 1 (v / 2) 1 2 (by decide) (by decide) (by decide) (by omega) (by omega) (by omega) (by omega)
  refine ⟨e, ?_, ?_⟩
  · rw [e]
    unfold o35y o35
    dsimp only
    rw [s1, s2]
    kernel_rfl
  · rw [e]
    unfold o35y o35
    dsimp only
    rw [s1, s2]
    kernel_rfl

noncomputable def chkFar (c : Nat) : Bool := match o35y (S30.mk 54 true false (Int.ofNat c) 0 0 0 0 1048576 false 0 0 0 false false) with
  | some (h, k) => beqB (ieq (dW h k false).f_Imm 1048576) false
  | none => false

theorem chkFar_all : allB chkFar 14 0 = true := by kernel_rfl

theorem ieq_refl : ∀ a : Int, ieq a a = true := by
  intro a
  cases a with
  | ofNat n => exact Nat.beq_refl n
  | negSucc n => exact Nat.beq_refl n

theorem far_none {c : Int} (hc : 0 ≤ c ∧ c ≤ 13) : (E (S30.mk 54 true false c 0 0 0 0 1048576 false 0 0 0 false false)).2.2 = false := by
  obtain ⟨n, rfl⟩ := Int.eq_ofNat_of_zero_le hc.1
  have h := allB_ok chkFar_all n (by omega) (by omega)
  unfold chkFar at h
  split at h
  · rename_i h' k' e
    refine E_not (z := dW h' k' false) e rfl fun he => ?_
    have h := beqB_ok h
    rw [he, ieq_refl] at h
    cases h
  · cases h

theorem places_ok {n c : Int} {link : Bool} (hn : -2147483648 ≤ n ∧ n ≤ 2147483647) (hc : 0 ≤ c ∧ c ≤ 255) : o5 n c link = some true := by
  have rC : 0 ≤ wrapF .i64 (c.tmod 14) ∧ wrapF .i64 (c.tmod 14) ≤ 13 := by
    have t := tmod_fact c 14 (by decide) hc.1
    rw [wrapF_le t.1 (by have := t.2.1; simp only [topN, Int.ofNat_eq_natCast]; omega)]
    omega
  obtain ⟨s, a, b, x, l, rs, ra, rb, rx, rl, e8⟩ := far_num hn
  obtain ⟨s', q', p', x', l', rs', rq', rp', rx', rl', e12⟩ := near_num hn
  unfold o5
  rw [e8, e12]
  generalize wrapF .i64 (c.tmod 14) = C at *
  generalize hv : 4278190080 * s + 8388608 * a + 4194304 * b + 4096 * x + 2 * l = v at *
  have hv1 : (0 ≤ v ∧ v ≤ 4294967295) ∧ v % 2 = 0 := by omega
  obtain ⟨o1, o2, o3⟩ := odd_row hv1.1 hv1.2
  obtain ⟨h2, k2, uh2, uk2, d2, d2'⟩ := near_of rs' rq' rp' rx' rl' rC
  generalize 4293918720 * s' + 524288 * q' + 262144 * p' + 4096 * x' + 2 * l' = w at *
  have E2 := E_is uh2 uk2 d2 (by show (54 : Int) ≠ 64; decide) (by show (54 : Int) ≠ 65; decide)
  have Ef := far_none rC
  cases link
  · obtain ⟨h1, k1, uh1, uk1, d1⟩ := far_of rs ra rb rx rl 0 (by decide)
    rw [hv] at d1
    have d1 : ∀ i, dW h1 k1 i = S30.mk 54 true false 14 0 0 0 0 v false 0 0 0 false false := d1
    have E1 := E_is uh1 uk1 (d1 false) (by show (54 : Int) ≠ 64; decide) (by show (54 : Int) ≠ 65; decide)
    have r1 := (E_row (y := S30.mk 54 true false 14 0 0 0 0 v false 0 0 0 false false) (by rw [E1])).1
    rw [E1] at r1
    have En := E_not (o2.trans r1) (d1 false) (by rw [o1]; intro h; have := congrArg S30.f_Imm h; simp only at this; omega)
    simp only [E1, E2, Ef, En, d1, d2, d2', decide_eq_true (And.intro uh1 uk1), decide_eq_true (And.intro uh2 uk2), eq30_refl, cond_true, cond_false, Bool.not_false, beq_self_eq_true]
  · obtain ⟨h1, k1, uh1, uk1, d1⟩ := far_of rs ra rb rx rl 1 (by decide)
    rw [hv] at d1
    have d1 : ∀ i, dW h1 k1 i = S30.mk 55 true false 14 0 0 0 0 v false 0 0 0 false false := d1
    have E1 := E_is uh1 uk1 (d1 false) (by show (55 : Int) ≠ 64; decide) (by show (55 : Int) ≠ 65; decide)
    have r1 := (E_row (y := S30.mk 55 true false 14 0 0 0 0 v false 0 0 0 false false) (by rw [E1])).1
    rw [E1] at r1
    have En := E_not (o3.trans r1) (d1 false) (by rw [o1]; intro h; have := congrArg S30.f_Imm h; simp only at this; omega)
    simp only [E1, E2, Ef, En, d1, d2, d2', decide_eq_true (And.intro uh1 uk1), decide_eq_true (And.intro uh2 uk2), eq30_refl, cond_true, cond_false, Bool.not_false, beq_self_eq_true]

end Go.Den
