import Derived.Test.YtihdbaehaiaiiaaF9
import Derived.Test.YtihdbaehaiaiiaaV8
set_option linter.unusedVariables false
set_option linter.unusedSimpArgs false
set_option maxRecDepth 100000
namespace Go.Den

noncomputable def gLo (h k : Int) (sh : Nat) (op c : Int) : S30 := match sh with
  | 0 => S30.mk op true false c (fm k 8 15) (fm h 0 15) (fm k 0 15) 0 0 false 0 0 0 false false
  | 1 => S30.mk op true false c (fm k 8 15) (fm h 0 15) (fm k 0 15) (fm k 12 15) 0 false 0 0 0 false false
  | 2 => S30.mk op true false c (fm k 12 15) (fm h 0 15) (fm k 0 15) (fm k 8 15) 0 false 0 0 0 false false
  | 3 => S30.mk op true false c 0 0 0 0 0 false 0 0 0 false false
  | _ => S30.mk op true false c 0 0 0 0 0 false 0 0 0 false false

noncomputable def cLop (f : Int) (w : Int) (a15 : Bool) (ad : Bool) (oa : Bool) (on : Bool) (od : Bool) (om : Bool) : C3 := (cond (f == 0) (cond (w == 0) (cond (a15) ((cond ((cond (od) true (cond (on) true (om)))) ((1 : Nat), (0 : Int), (0 : Nat)) (cond (21 != 54) (2, 21, (0 : Nat)) (3, 21, (0 : Nat))))) (cond (decide (w < 2)) ((cond ((cond (od) true (cond (on) true (cond (om) true (oa))))) ((1 : Nat), (0 : Int), (0 : Nat)) (cond (getI [22, 23] w.toNat != 54) (2, (getI [22, 23] w.toNat), (1 : Nat)) (3, (getI [22, 23] w.toNat), (1 : Nat))))) (cond (decide (f ≥ 8)) (cond (f.tmod 2 == 0) (cond ((cond (od) true (cond (on) true (cond (om) true (oa))))) ((cond true ((1 : Nat), (0 : Int), (0 : Nat)) (cond (getI [25, 24, 27, 26] (wrapF IntKind.i64 (wrapF IntKind.i64 (f.tdiv 2) - 4)).toNat != 54) (2, (getI [25, 24, 27, 26] (wrapF IntKind.i64 (wrapF IntKind.i64 (f.tdiv 2) - 4)).toNat), (2 : Nat)) (3, (getI [25, 24, 27, 26] (wrapF IntKind.i64 (wrapF IntKind.i64 (f.tdiv 2) - 4)).toNat), (2 : Nat))))) ((cond (ad) ((1 : Nat), (0 : Int), (0 : Nat)) (cond (getI [25, 24, 27, 26] (wrapF IntKind.i64 (wrapF IntKind.i64 (f.tdiv 2) - 4)).toNat != 54) (2, (getI [25, 24, 27, 26] (wrapF IntKind.i64 (wrapF IntKind.i64 (f.tdiv 2) - 4)).toNat), (2 : Nat)) (3, (getI [25, 24, 27, 26] (wrapF IntKind.i64 (wrapF IntKind.i64 (f.tdiv 2) - 4)).toNat), (2 : Nat)))))) (((0 : Nat), (0 : Int), (0 : Nat)))) (((0 : Nat), (0 : Int), (0 : Nat)))))) (cond (decide (w < 2)) ((cond ((cond (od) true (cond (on) true (cond (om) true (oa))))) ((1 : Nat), (0 : Int), (0 : Nat)) (cond (getI [22, 23] w.toNat != 54) (2, (getI [22, 23] w.toNat), (1 : Nat)) (3, (getI [22, 23] w.toNat), (1 : Nat))))) (cond (f == 9) (cond (w == 15) (cond (a15) ((cond ((cond (od) true (cond (on) true (om)))) ((1 : Nat), (0 : Int), (0 : Nat)) (cond (getI [29, 28] (wrapF IntKind.i64 (wrapF IntKind.i64 (f.tdiv 2) - 4)).toNat != 54) (2, (getI [29, 28] (wrapF IntKind.i64 (wrapF IntKind.i64 (f.tdiv 2) - 4)).toNat), (0 : Nat)) (3, (getI [29, 28] (wrapF IntKind.i64 (wrapF IntKind.i64 (f.tdiv 2) - 4)).toNat), (0 : Nat))))) (((0 : Nat), (0 : Int), (0 : Nat)))) (((0 : Nat), (0 : Int), (0 : Nat)))) (cond (f == 11) (cond (w == 15) (cond (a15) ((cond ((cond (od) true (cond (on) true (om)))) ((1 : Nat), (0 : Int), (0 : Nat)) (cond (getI [29, 28] (wrapF IntKind.i64 (wrapF IntKind.i64 (f.tdiv 2) - 4)).toNat != 54) (2, (getI [29, 28] (wrapF IntKind.i64 (wrapF IntKind.i64 (f.tdiv 2) - 4)).toNat), (0 : Nat)) (3, (getI [29, 28] (wrapF IntKind.i64 (wrapF IntKind.i64 (f.tdiv 2) - 4)).toNat), (0 : Nat))))) (((0 : Nat), (0 : Int), (0 : Nat)))) (((0 : Nat), (0 : Int), (0 : Nat)))) (((0 : Nat), (0 : Int), (0 : Nat))))))) (cond (decide (f ≥ 8)) (cond (f.tmod 2 == 0) (cond (w == 0) (cond ((cond (od) true (cond (on) true (cond (om) true (oa))))) ((cond true ((1 : Nat), (0 : Int), (0 : Nat)) (cond (getI [25, 24, 27, 26] (wrapF IntKind.i64 (wrapF IntKind.i64 (f.tdiv 2) - 4)).toNat != 54) (2, (getI [25, 24, 27, 26] (wrapF IntKind.i64 (wrapF IntKind.i64 (f.tdiv 2) - 4)).toNat), (2 : Nat)) (3, (getI [25, 24, 27, 26] (wrapF IntKind.i64 (wrapF IntKind.i64 (f.tdiv 2) - 4)).toNat), (2 : Nat))))) ((cond (ad) ((1 : Nat), (0 : Int), (0 : Nat)) (cond (getI [25, 24, 27, 26] (wrapF IntKind.i64 (wrapF IntKind.i64 (f.tdiv 2) - 4)).toNat != 54) (2, (getI [25, 24, 27, 26] (wrapF IntKind.i64 (wrapF IntKind.i64 (f.tdiv 2) - 4)).toNat), (2 : Nat)) (3, (getI [25, 24, 27, 26] (wrapF IntKind.i64 (wrapF IntKind.i64 (f.tdiv 2) - 4)).toNat), (2 : Nat)))))) (cond (f == 9) (cond (w == 15) (cond (a15) ((cond ((cond (od) true (cond (on) true (om)))) ((1 : Nat), (0 : Int), (0 : Nat)) (cond (getI [29, 28] (wrapF IntKind.i64 (wrapF IntKind.i64 (f.tdiv 2) - 4)).toNat != 54) (2, (getI [29, 28] (wrapF IntKind.i64 (wrapF IntKind.i64 (f.tdiv 2) - 4)).toNat), (0 : Nat)) (3, (getI [29, 28] (wrapF IntKind.i64 (wrapF IntKind.i64 (f.tdiv 2) - 4)).toNat), (0 : Nat))))) (((0 : Nat), (0 : Int), (0 : Nat)))) (((0 : Nat), (0 : Int), (0 : Nat)))) (cond (f == 11) (cond (w == 15) (cond (a15) ((cond ((cond (od) true (cond (on) true (om)))) ((1 : Nat), (0 : Int), (0 : Nat)) (cond (getI [29, 28] (wrapF IntKind.i64 (wrapF IntKind.i64 (f.tdiv 2) - 4)).toNat != 54) (2, (getI [29, 28] (wrapF IntKind.i64 (wrapF IntKind.i64 (f.tdiv 2) - 4)).toNat), (0 : Nat)) (3, (getI [29, 28] (wrapF IntKind.i64 (wrapF IntKind.i64 (f.tdiv 2) - 4)).toNat), (0 : Nat))))) (((0 : Nat), (0 : Int), (0 : Nat)))) (((0 : Nat), (0 : Int), (0 : Nat)))) (((0 : Nat), (0 : Int), (0 : Nat)))))) (cond (f == 9) (cond (w == 15) (cond (a15) ((cond ((cond (od) true (cond (on) true (om)))) ((1 : Nat), (0 : Int), (0 : Nat)) (cond (getI [29, 28] (wrapF IntKind.i64 (wrapF IntKind.i64 (f.tdiv 2) - 4)).toNat != 54) (2, (getI [29, 28] (wrapF IntKind.i64 (wrapF IntKind.i64 (f.tdiv 2) - 4)).toNat), (0 : Nat)) (3, (getI [29, 28] (wrapF IntKind.i64 (wrapF IntKind.i64 (f.tdiv 2) - 4)).toNat), (0 : Nat))))) (((0 : Nat), (0 : Int), (0 : Nat)))) (((0 : Nat), (0 : Int), (0 : Nat)))) (cond (f == 11) (cond (w == 15) (cond (a15) ((cond ((cond (od) true (cond (on) true (om)))) ((1 : Nat), (0 : Int), (0 : Nat)) (cond (getI [29, 28] (wrapF IntKind.i64 (wrapF IntKind.i64 (f.tdiv 2) - 4)).toNat != 54) (2, (getI [29, 28] (wrapF IntKind.i64 (wrapF IntKind.i64 (f.tdiv 2) - 4)).toNat), (0 : Nat)) (3, (getI [29, 28] (wrapF IntKind.i64 (wrapF IntKind.i64 (f.tdiv 2) - 4)).toNat), (0 : Nat))))) (((0 : Nat), (0 : Int), (0 : Nat)))) (((0 : Nat), (0 : Int), (0 : Nat)))) (((0 : Nat), (0 : Int), (0 : Nat)))))) (cond (f == 9) (cond (w == 15) (cond (a15) ((cond ((cond (od) true (cond (on) true (om)))) ((1 : Nat), (0 : Int), (0 : Nat)) (cond (getI [29, 28] (wrapF IntKind.i64 (wrapF IntKind.i64 (f.tdiv 2) - 4)).toNat != 54) (2, (getI [29, 28] (wrapF IntKind.i64 (wrapF IntKind.i64 (f.tdiv 2) - 4)).toNat), (0 : Nat)) (3, (getI [29, 28] (wrapF IntKind.i64 (wrapF IntKind.i64 (f.tdiv 2) - 4)).toNat), (0 : Nat))))) (((0 : Nat), (0 : Int), (0 : Nat)))) (((0 : Nat), (0 : Int), (0 : Nat)))) (cond (f == 11) (cond (w == 15) (cond (a15) ((cond ((cond (od) true (cond (on) true (om)))) ((1 : Nat), (0 : Int), (0 : Nat)) (cond (getI [29, 28] (wrapF IntKind.i64 (wrapF IntKind.i64 (f.tdiv 2) - 4)).toNat != 54) (2, (getI [29, 28] (wrapF IntKind.i64 (wrapF IntKind.i64 (f.tdiv 2) - 4)).toNat), (0 : Nat)) (3, (getI [29, 28] (wrapF IntKind.i64 (wrapF IntKind.i64 (f.tdiv 2) - 4)).toNat), (0 : Nat))))) (((0 : Nat), (0 : Int), (0 : Nat)))) (((0 : Nat), (0 : Int), (0 : Nat)))) (((0 : Nat), (0 : Int), (0 : Nat)))))))

noncomputable def cLor (f : Int) (w : Int) (a15 : Bool) (ad : Bool) (oa : Bool) (on : Bool) (od : Bool) (om : Bool) : C3 := (cond (bif bif f == 0 then w == 0 else false then a15 else false) (cond (od) ((cond (65 == 65) ((1 : Nat), (0 : Int), (0 : Nat)) (2, (65), (3 : Nat)))) (cond (on) ((cond (65 == 65) ((1 : Nat), (0 : Int), (0 : Nat)) (2, (65), (3 : Nat)))) (cond (om) ((cond (65 == 65) ((1 : Nat), (0 : Int), (0 : Nat)) (2, (65), (3 : Nat)))) ((cond (21 == 65) ((1 : Nat), (0 : Int), (0 : Nat)) (2, (21), (0 : Nat))))))) (cond (bif f == 0 then w == 0 else false) (cond (oa) ((cond (65 == 65) ((1 : Nat), (0 : Int), (0 : Nat)) (2, (65), (3 : Nat)))) (cond (od) ((cond (65 == 65) ((1 : Nat), (0 : Int), (0 : Nat)) (2, (65), (3 : Nat)))) (cond (on) ((cond (65 == 65) ((1 : Nat), (0 : Int), (0 : Nat)) (2, (65), (3 : Nat)))) (cond (om) ((cond (65 == 65) ((1 : Nat), (0 : Int), (0 : Nat)) (2, (65), (3 : Nat)))) ((cond (22 == 65) ((1 : Nat), (0 : Int), (0 : Nat)) (2, (22), (1 : Nat)))))))) (cond (bif f == 0 then w == 1 else false) (cond (oa) ((cond (65 == 65) ((1 : Nat), (0 : Int), (0 : Nat)) (2, (65), (3 : Nat)))) (cond (od) ((cond (65 == 65) ((1 : Nat), (0 : Int), (0 : Nat)) (2, (65), (3 : Nat)))) (cond (on) ((cond (65 == 65) ((1 : Nat), (0 : Int), (0 : Nat)) (2, (65), (3 : Nat)))) (cond (om) ((cond (65 == 65) ((1 : Nat), (0 : Int), (0 : Nat)) (2, (65), (3 : Nat)))) ((cond (23 == 65) ((1 : Nat), (0 : Int), (0 : Nat)) (2, (23), (1 : Nat)))))))) (cond (bif bif f == 9 then w == 15 else false then a15 else false) (cond (od) ((cond (65 == 65) ((1 : Nat), (0 : Int), (0 : Nat)) (2, (65), (3 : Nat)))) (cond (on) ((cond (65 == 65) ((1 : Nat), (0 : Int), (0 : Nat)) (2, (65), (3 : Nat)))) (cond (om) ((cond (65 == 65) ((1 : Nat), (0 : Int), (0 : Nat)) (2, (65), (3 : Nat)))) ((cond (29 == 65) ((1 : Nat), (0 : Int), (0 : Nat)) (2, (29), (0 : Nat))))))) (cond (bif bif f == 11 then w == 15 else false then a15 else false) (cond (od) ((cond (65 == 65) ((1 : Nat), (0 : Int), (0 : Nat)) (2, (65), (3 : Nat)))) (cond (on) ((cond (65 == 65) ((1 : Nat), (0 : Int), (0 : Nat)) (2, (65), (3 : Nat)))) (cond (om) ((cond (65 == 65) ((1 : Nat), (0 : Int), (0 : Nat)) (2, (65), (3 : Nat)))) ((cond (28 == 65) ((1 : Nat), (0 : Int), (0 : Nat)) (2, (28), (0 : Nat))))))) (cond (bif w == 0 then bif bif bif f == 8 then true else f == 10 then true else f == 12 then true else f == 14 else false) (cond (ad) ((cond (65 == 65) ((1 : Nat), (0 : Int), (0 : Nat)) (2, (65), (3 : Nat)))) (cond (od) ((cond (65 == 65) ((1 : Nat), (0 : Int), (0 : Nat)) (2, (65), (3 : Nat)))) (cond (oa) ((cond (65 == 65) ((1 : Nat), (0 : Int), (0 : Nat)) (2, (65), (3 : Nat)))) (cond (on) ((cond (65 == 65) ((1 : Nat), (0 : Int), (0 : Nat)) (2, (65), (3 : Nat)))) (cond (om) ((cond (65 == 65) ((1 : Nat), (0 : Int), (0 : Nat)) (2, (65), (3 : Nat)))) ((cond (getI [25, 24, 27, 26] (f / 2 % 4).toNat == 65) ((1 : Nat), (0 : Int), (0 : Nat)) (2, (getI [25, 24, 27, 26] (f / 2 % 4).toNat), (2 : Nat))))))))) (((0 : Nat), (0 : Int), (0 : Nat)))))))))

theorem Lo_p {h k : Int} (hh : U16 h) (hk : U16 k) (i : Bool) : p22 h k i = mkC h k i (gLo h k) (cLop (fm h 4 15) (fm k 4 15) (fm k 12 15 == 15) (fm k 12 15 == fm k 8 15) (p81 (fm k 12 15)) (p81 (fm h 0 15)) (p81 (fm k 8 15)) (p81 (fm k 0 15))) := by
  unfold p22 cLop
  simp only [af16 hh, af16 hk, a016 hh, a016 hk, wf64, wf32, gf1 hh, gf1 hk, gf2 hk, gf2 hh, gf3 hk, gf3 hh, gf4 hh, gf4 hk, gf5 hh, gf5 hk, gf6 hh, gf6 hk, gf10 hh, gf11 hk, gf12 hk, gf8 hk, s16_12 hk, s16_14 hk, s16_15 hk, Int.reduceLE, odd1, odd2, odd3, odd4, mkC_cond, wrapR_cond, f5_4 hh, f7_4 hh]
  rfl

theorem Lo_r {h k : Int} (hh : U16 h) (hk : U16 k) (i : Bool) : wrapR h k i (p53 h k) = mkC h k i (gLo h k) (cLor (fm h 4 15) (fm k 4 15) (fm k 12 15 == 15) (fm k 12 15 == fm k 8 15) (p81 (fm k 12 15)) (p81 (fm h 0 15)) (p81 (fm k 8 15)) (p81 (fm k 0 15))) := by
  unfold p53 cLor
  simp only [af16 hh, af16 hk, a016 hh, a016 hk, wf64, wf32, gf1 hh, gf1 hk, gf2 hk, gf2 hh, gf3 hk, gf3 hh, gf4 hh, gf4 hk, gf5 hh, gf5 hk, gf6 hh, gf6 hk, gf10 hh, gf11 hk, gf12 hk, gf8 hk, s16_12 hk, s16_14 hk, s16_15 hk, Int.reduceLE, odd1, odd2, odd3, odd4, mkC_cond, wrapR_cond, f5_4 hh, f7_4 hh]
  rfl

noncomputable def chkLo (m : Nat) : Bool := allT fun a15 => allT fun ad => allT fun oa => allT fun on => allT fun od => allT fun om => eqC3 (cLop (Int.ofNat (m / 16 % 16)) (Int.ofNat (m / 1 % 16)) a15 ad oa on od om) (cLor (Int.ofNat (m / 16 % 16)) (Int.ofNat (m / 1 % 16)) a15 ad oa on od om)

theorem chkLo_0 : allB chkLo 32 0 = true := by kernel_rfl
theorem chkLo_1 : allB chkLo 32 32 = true := by kernel_rfl
theorem chkLo_2 : allB chkLo 32 64 = true := by kernel_rfl
theorem chkLo_3 : allB chkLo 32 96 = true := by kernel_rfl
theorem chkLo_4 : allB chkLo 32 128 = true := by kernel_rfl
theorem chkLo_5 : allB chkLo 32 160 = true := by kernel_rfl
theorem chkLo_6 : allB chkLo 32 192 = true := by kernel_rfl
theorem chkLo_7 : allB chkLo 32 224 = true := by kernel_rfl

theorem chkLo_all {n : Nat} (h : n < 256) : chkLo n = true := by
  rcases Nat.lt_or_ge n 32 with h0 | h0
  · exact allB_ok chkLo_0 n (by omega) (by omega)
  rcases Nat.lt_or_ge n 64 with h1 | h1
  · exact allB_ok chkLo_1 n (by omega) (by omega)
  rcases Nat.lt_or_ge n 96 with h2 | h2
  · exact allB_ok chkLo_2 n (by omega) (by omega)
  rcases Nat.lt_or_ge n 128 with h3 | h3
  · exact allB_ok chkLo_3 n (by omega) (by omega)
  rcases Nat.lt_or_ge n 160 with h4 | h4
  · exact allB_ok chkLo_4 n (by omega) (by omega)
  rcases Nat.lt_or_ge n 192 with h5 | h5
  · exact allB_ok chkLo_5 n (by omega) (by omega)
  rcases Nat.lt_or_ge n 224 with h6 | h6
  · exact allB_ok chkLo_6 n (by omega) (by omega)
  exact allB_ok chkLo_7 n (by omega) (by omega)

theorem Lo_c {f w : Int} (hf : 0 ≤ f ∧ f ≤ 15) (hw : 0 ≤ w ∧ w ≤ 15) (a15 : Bool) (ad : Bool) (oa : Bool) (on : Bool) (od : Bool) (om : Bool) : cLop f w a15 ad oa on od om = cLor f w a15 ad oa on od om := by
  obtain ⟨f, rfl⟩ := Int.eq_ofNat_of_zero_le hf.1
  obtain ⟨w, rfl⟩ := Int.eq_ofNat_of_zero_le hw.1
  have hc := chkLo_all (n := f * 16 + w * 1) (by omega)
  unfold chkLo at hc
  rw [show (f * 16 + w * 1) / 16 % 16 = f by omega, show (f * 16 + w * 1) / 1 % 16 = w by omega] at hc
  have hc := allT_ok hc a15
  have hc := allT_ok hc ad
  have hc := allT_ok hc oa
  have hc := allT_ok hc on
  have hc := allT_ok hc od
  have hc := allT_ok hc om
  exact eqC3_ok hc

theorem Lo_eq {h k : Int} (hh : U16 h) (hk : U16 k) (i : Bool) : p22 h k i = wrapR h k i (p53 h k) := by
  rw [Lo_p hh hk i, Lo_r hh hk i, Lo_c (fm_fact _ _ _ (by decide)) (fm_fact _ _ _ (by decide))]

end Go.Den
