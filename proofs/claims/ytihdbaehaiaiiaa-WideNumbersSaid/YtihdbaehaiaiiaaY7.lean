import Derived.Test.YtihdbaehaiaiiaaY13a
set_option linter.unusedSimpArgs false
set_option linter.unusedVariables false
set_option maxRecDepth 100000
namespace Go.Den

theorem ed0 {n : Int} (h_n : 0 ≤ n ∧ n ≤ 14) : (oI (oI 63488 n) 128 : Int) = 63616 + n := by
  rw [show oI 63488 n = 63488 + n from oL 63488 0 4 0 16 1]
  rw [show oI (63488 + n) 128 = 63616 + n from oL 63488 n 8 7 256 128]

theorem ed1 {d v : Int} (h_d : 0 ≤ d ∧ d ≤ 15) (h_v : 0 ≤ v ∧ v ≤ 4095) : (oI (sI d 12) (wI (aU v 4095)) : Int) = 4096 * d + v := by
  rw [show sI d 12 = 4096 * d from sL 4096]
  rw [show aU v 4095 = v from aLU 0 12 4096]
  rw [show wI v = v from wLI]
  rw [show oI (4096 * d) v = 4096 * d + v from oL (4096 * d) 0 12 0 4096 1]

theorem ed2 {n : Int} (h_n : 0 ≤ n ∧ n ≤ 14) : (wH (oI (oI (oI (oI (oI 63488 (sI (rI 0 3) 8)) (sI (aI (rI 0 1) 3) 5)) (sI (aI 0 1) 4)) n) 128) : Int) = 63616 + n := by
  rw [show oI (oI (oI 63488 (sI (rI 0 3) 8)) (sI (aI (rI 0 1) 3) 5)) (sI (aI 0 1) 4) = 63488 from (by decide +kernel)]
  rw [show oI 63488 n = 63488 + n from oL 63488 0 4 0 16 1]
  rw [show oI (63488 + n) 128 = 63616 + n from oL 63488 n 8 7 256 128]
  rw [show wH (63616 + n) = 63616 + n from wLH]

theorem ed3 {d v : Int} (h_d : 0 ≤ d ∧ d ≤ 15) (h_v : 0 ≤ v ∧ v ≤ 4095) : (wH (oI (sI d 12) (wI (aU v 4095))) : Int) = 4096 * d + v := by
  rw [show sI d 12 = 4096 * d from sL 4096]
  rw [show aU v 4095 = v from aLU 0 12 4096]
  rw [show wI v = v from wLI]
  rw [show oI (4096 * d) v = 4096 * d + v from oL (4096 * d) 0 12 0 4096 1]
  rw [show wH (4096 * d + v) = 4096 * d + v from wLH]

theorem ed4 {n : Int} (h_n : 0 ≤ n ∧ n ≤ 15) : (oI 63488 n : Int) = 63488 + n := by
  rw [show oI 63488 n = 63488 + n from oL 63488 0 4 0 16 1]

theorem ed5 {d m t : Int} (h_d : 0 ≤ d ∧ d ≤ 15) (h_m : 0 ≤ m ∧ m ≤ 15) (h_t : 0 ≤ t ∧ t ≤ 3) : (oI (oI (sI d 12) (sI (aI t 3) 4)) m : Int) = 4096 * d + 16 * t + m := by
  rw [show sI d 12 = 4096 * d from sL 4096]
  rw [show aI t 3 = t from aL 0 2 4]
  rw [show sI t 4 = 16 * t from sL 16]
  rw [show oI (4096 * d) (16 * t) = 4096 * d + 16 * t from oL (4096 * d) 0 6 4 64 16]
  rw [show oI (4096 * d + 16 * t) m = 4096 * d + 16 * t + m from oL (4096 * d + 16 * t) 0 4 0 16 1]

theorem ed6 {n : Int} (h_n : 0 ≤ n ∧ n ≤ 15) : (wH (oI (oI (oI (oI 63488 (sI (rI 0 3) 8)) (sI (aI (rI 0 1) 3) 5)) (sI (aI 0 1) 4)) n) : Int) = 63488 + n := by
  rw [show oI (oI (oI 63488 (sI (rI 0 3) 8)) (sI (aI (rI 0 1) 3) 5)) (sI (aI 0 1) 4) = 63488 from (by decide +kernel)]
  rw [show oI 63488 n = 63488 + n from oL 63488 0 4 0 16 1]
  rw [show wH (63488 + n) = 63488 + n from wLH]

theorem ed7 {d m t : Int} (h_d : 0 ≤ d ∧ d ≤ 15) (h_m : 0 ≤ m ∧ m ≤ 15) (h_t : 0 ≤ t ∧ t ≤ 3) : (wH (oI (oI (sI d 12) (sI (aI t 3) 4)) m) : Int) = 4096 * d + 16 * t + m := by
  rw [show sI d 12 = 4096 * d from sL 4096]
  rw [show aI t 3 = t from aL 0 2 4]
  rw [show sI t 4 = 16 * t from sL 16]
  rw [show oI (4096 * d) (16 * t) = 4096 * d + 16 * t from oL (4096 * d) 0 6 4 64 16]
  rw [show oI (4096 * d + 16 * t) m = 4096 * d + 16 * t + m from oL (4096 * d + 16 * t) 0 4 0 16 1]
  rw [show wH (4096 * d + 16 * t + m) = 4096 * d + 16 * t + m from wLH]

theorem ed8 {n : Int} (h_n : 0 ≤ n ∧ n ≤ 14) : (oI (oI 63520 n) 128 : Int) = 63648 + n := by
  rw [show oI 63520 n = 63520 + n from oL 63520 0 4 0 16 1]
  rw [show oI (63520 + n) 128 = 63648 + n from oL 63488 (32 + n) 8 7 256 128]

theorem ed9 {n : Int} (h_n : 0 ≤ n ∧ n ≤ 14) : (wH (oI (oI (oI (oI (oI 63488 (sI (rI 2 3) 8)) (sI (aI (rI 2 1) 3) 5)) (sI (aI 2 1) 4)) n) 128) : Int) = 63648 + n := by
  rw [show oI (oI (oI 63488 (sI (rI 2 3) 8)) (sI (aI (rI 2 1) 3) 5)) (sI (aI 2 1) 4) = 63520 from (by decide +kernel)]
  rw [show oI 63520 n = 63520 + n from oL 63520 0 4 0 16 1]
  rw [show oI (63520 + n) 128 = 63648 + n from oL 63488 (32 + n) 8 7 256 128]
  rw [show wH (63648 + n) = 63648 + n from wLH]

theorem ed10 {n : Int} (h_n : 0 ≤ n ∧ n ≤ 15) : (oI 63520 n : Int) = 63520 + n := by
  rw [show oI 63520 n = 63520 + n from oL 63520 0 4 0 16 1]

theorem ed11 {n : Int} (h_n : 0 ≤ n ∧ n ≤ 15) : (wH (oI (oI (oI (oI 63488 (sI (rI 2 3) 8)) (sI (aI (rI 2 1) 3) 5)) (sI (aI 2 1) 4)) n) : Int) = 63520 + n := by
  rw [show oI (oI (oI 63488 (sI (rI 2 3) 8)) (sI (aI (rI 2 1) 3) 5)) (sI (aI 2 1) 4) = 63520 from (by decide +kernel)]
  rw [show oI 63520 n = 63520 + n from oL 63520 0 4 0 16 1]
  rw [show wH (63520 + n) = 63520 + n from wLH]

theorem ed12 {n : Int} (h_n : 0 ≤ n ∧ n ≤ 14) : (oI (oI 63552 n) 128 : Int) = 63680 + n := by
  rw [show oI 63552 n = 63552 + n from oL 63552 0 4 0 16 1]
  rw [show oI (63552 + n) 128 = 63680 + n from oL 63488 (64 + n) 8 7 256 128]

theorem ed13 {n : Int} (h_n : 0 ≤ n ∧ n ≤ 14) : (wH (oI (oI (oI (oI (oI 63488 (sI (rI 4 3) 8)) (sI (aI (rI 4 1) 3) 5)) (sI (aI 4 1) 4)) n) 128) : Int) = 63680 + n := by
  rw [show oI (oI (oI 63488 (sI (rI 4 3) 8)) (sI (aI (rI 4 1) 3) 5)) (sI (aI 4 1) 4) = 63552 from (by decide +kernel)]
  rw [show oI 63552 n = 63552 + n from oL 63552 0 4 0 16 1]
  rw [show oI (63552 + n) 128 = 63680 + n from oL 63488 (64 + n) 8 7 256 128]
  rw [show wH (63680 + n) = 63680 + n from wLH]

theorem ed14 {n : Int} (h_n : 0 ≤ n ∧ n ≤ 15) : (oI 63552 n : Int) = 63552 + n := by
  rw [show oI 63552 n = 63552 + n from oL 63552 0 4 0 16 1]

theorem ed15 {n : Int} (h_n : 0 ≤ n ∧ n ≤ 15) : (wH (oI (oI (oI (oI 63488 (sI (rI 4 3) 8)) (sI (aI (rI 4 1) 3) 5)) (sI (aI 4 1) 4)) n) : Int) = 63552 + n := by
  rw [show oI (oI (oI 63488 (sI (rI 4 3) 8)) (sI (aI (rI 4 1) 3) 5)) (sI (aI 4 1) 4) = 63552 from (by decide +kernel)]
  rw [show oI 63552 n = 63552 + n from oL 63552 0 4 0 16 1]
  rw [show wH (63552 + n) = 63552 + n from wLH]

theorem ed16  : (oI (oI 63504 15) 128 : Int) = 63647 := by
  rw [show oI (oI 63504 15) 128 = 63647 from (by decide +kernel)]

theorem ed17  : (wH (oI (oI (oI (oI (oI 63488 (sI (rI 1 3) 8)) (sI (aI (rI 1 1) 3) 5)) (sI (aI 1 1) 4)) 15) 128) : Int) = 63647 := by
  rw [show wH (oI (oI (oI (oI (oI 63488 (sI (rI 1 3) 8)) (sI (aI (rI 1 1) 3) 5)) (sI (aI 1 1) 4)) 15) 128) = 63647 from (by decide +kernel)]

theorem ed18  : (oI 63504 15 : Int) = 63519 := by
  rw [show oI 63504 15 = 63519 from (by decide +kernel)]

theorem ed19 {d x v : Int} (h_d : 0 ≤ d ∧ d ≤ 15) (h_x : 1 ≤ x ∧ x ≤ 4095) (h_v : 4096 ≤ v ∧ v ≤ 4294967295) (hz : wU (0 - v) = x) : (oI (sI d 12) (wI (aU (wU (0 - v)) 4095)) : Int) = 4096 * d + x := by
  rw [show sI d 12 = 4096 * d from sL 4096]
  rw [show wU (0 - v) = x from hz]
  rw [show aU x 4095 = x from aLU 0 12 4096]
  rw [show wI x = x from wLI]
  rw [show oI (4096 * d) x = 4096 * d + x from oL (4096 * d) 0 12 0 4096 1]

theorem ed20  : (wH (oI (oI (oI (oI 63488 (sI (rI 1 3) 8)) (sI (aI (rI 1 1) 3) 5)) (sI (aI 1 1) 4)) 15) : Int) = 63519 := by
  rw [show wH (oI (oI (oI (oI 63488 (sI (rI 1 3) 8)) (sI (aI (rI 1 1) 3) 5)) (sI (aI 1 1) 4)) 15) = 63519 from (by decide +kernel)]

theorem ed21 {d x v : Int} (h_d : 0 ≤ d ∧ d ≤ 15) (h_x : 1 ≤ x ∧ x ≤ 4095) (h_v : 4096 ≤ v ∧ v ≤ 4294967295) (hz : wU (0 - v) = x) : (wH (oI (sI d 12) (wI (aU (wU (0 - v)) 4095))) : Int) = 4096 * d + x := by
  rw [show sI d 12 = 4096 * d from sL 4096]
  rw [show wU (0 - v) = x from hz]
  rw [show aU x 4095 = x from aLU 0 12 4096]
  rw [show wI x = x from wLI]
  rw [show oI (4096 * d) x = 4096 * d + x from oL (4096 * d) 0 12 0 4096 1]
  rw [show wH (4096 * d + x) = 4096 * d + x from wLH]

theorem ed22 {n : Int} (h_n : 0 ≤ n ∧ n ≤ 14) : (oI (oI 63504 n) 128 : Int) = 63632 + n := by
  rw [show oI 63504 n = 63504 + n from oL 63504 0 4 0 16 1]
  rw [show oI (63504 + n) 128 = 63632 + n from oL 63488 (16 + n) 8 7 256 128]

theorem ed23 {n : Int} (h_n : 0 ≤ n ∧ n ≤ 14) : (wH (oI (oI (oI (oI (oI 63488 (sI (rI 1 3) 8)) (sI (aI (rI 1 1) 3) 5)) (sI (aI 1 1) 4)) n) 128) : Int) = 63632 + n := by
  rw [show oI (oI (oI 63488 (sI (rI 1 3) 8)) (sI (aI (rI 1 1) 3) 5)) (sI (aI 1 1) 4) = 63504 from (by decide +kernel)]
  rw [show oI 63504 n = 63504 + n from oL 63504 0 4 0 16 1]
  rw [show oI (63504 + n) 128 = 63632 + n from oL 63488 (16 + n) 8 7 256 128]
  rw [show wH (63632 + n) = 63632 + n from wLH]

theorem ed24 {n : Int} (h_n : 0 ≤ n ∧ n ≤ 15) : (oI 63504 n : Int) = 63504 + n := by
  rw [show oI 63504 n = 63504 + n from oL 63504 0 4 0 16 1]

theorem ed25 {n : Int} (h_n : 0 ≤ n ∧ n ≤ 15) : (wH (oI (oI (oI (oI 63488 (sI (rI 1 3) 8)) (sI (aI (rI 1 1) 3) 5)) (sI (aI 1 1) 4)) n) : Int) = 63504 + n := by
  rw [show oI (oI (oI 63488 (sI (rI 1 3) 8)) (sI (aI (rI 1 1) 3) 5)) (sI (aI 1 1) 4) = 63504 from (by decide +kernel)]
  rw [show oI 63504 n = 63504 + n from oL 63504 0 4 0 16 1]
  rw [show wH (63504 + n) = 63504 + n from wLH]

theorem ed26  : (oI (oI 63536 15) 128 : Int) = 63679 := by
  rw [show oI (oI 63536 15) 128 = 63679 from (by decide +kernel)]

theorem ed27  : (wH (oI (oI (oI (oI (oI 63488 (sI (rI 3 3) 8)) (sI (aI (rI 3 1) 3) 5)) (sI (aI 3 1) 4)) 15) 128) : Int) = 63679 := by
  rw [show wH (oI (oI (oI (oI (oI 63488 (sI (rI 3 3) 8)) (sI (aI (rI 3 1) 3) 5)) (sI (aI 3 1) 4)) 15) 128) = 63679 from (by decide +kernel)]

theorem ed28  : (oI 63536 15 : Int) = 63551 := by
  rw [show oI 63536 15 = 63551 from (by decide +kernel)]

theorem ed29  : (wH (oI (oI (oI (oI 63488 (sI (rI 3 3) 8)) (sI (aI (rI 3 1) 3) 5)) (sI (aI 3 1) 4)) 15) : Int) = 63551 := by
  rw [show wH (oI (oI (oI (oI 63488 (sI (rI 3 3) 8)) (sI (aI (rI 3 1) 3) 5)) (sI (aI 3 1) 4)) 15) = 63551 from (by decide +kernel)]

theorem ed30 {n : Int} (h_n : 0 ≤ n ∧ n ≤ 14) : (oI (oI 63536 n) 128 : Int) = 63664 + n := by
  rw [show oI 63536 n = 63536 + n from oL 63536 0 4 0 16 1]
  rw [show oI (63536 + n) 128 = 63664 + n from oL 63488 (48 + n) 8 7 256 128]

theorem ed31 {n : Int} (h_n : 0 ≤ n ∧ n ≤ 14) : (wH (oI (oI (oI (oI (oI 63488 (sI (rI 3 3) 8)) (sI (aI (rI 3 1) 3) 5)) (sI (aI 3 1) 4)) n) 128) : Int) = 63664 + n := by
  rw [show oI (oI (oI 63488 (sI (rI 3 3) 8)) (sI (aI (rI 3 1) 3) 5)) (sI (aI 3 1) 4) = 63536 from (by decide +kernel)]
  rw [show oI 63536 n = 63536 + n from oL 63536 0 4 0 16 1]
  rw [show oI (63536 + n) 128 = 63664 + n from oL 63488 (48 + n) 8 7 256 128]
  rw [show wH (63664 + n) = 63664 + n from wLH]

theorem ed32 {n : Int} (h_n : 0 ≤ n ∧ n ≤ 15) : (oI 63536 n : Int) = 63536 + n := by
  rw [show oI 63536 n = 63536 + n from oL 63536 0 4 0 16 1]

theorem ed33 {n : Int} (h_n : 0 ≤ n ∧ n ≤ 15) : (wH (oI (oI (oI (oI 63488 (sI (rI 3 3) 8)) (sI (aI (rI 3 1) 3) 5)) (sI (aI 3 1) 4)) n) : Int) = 63536 + n := by
  rw [show oI (oI (oI 63488 (sI (rI 3 3) 8)) (sI (aI (rI 3 1) 3) 5)) (sI (aI 3 1) 4) = 63536 from (by decide +kernel)]
  rw [show oI 63536 n = 63536 + n from oL 63536 0 4 0 16 1]
  rw [show wH (63536 + n) = 63536 + n from wLH]

theorem ed34  : (oI (oI 63568 15) 128 : Int) = 63711 := by
  rw [show oI (oI 63568 15) 128 = 63711 from (by decide +kernel)]

theorem ed35  : (wH (oI (oI (oI (oI (oI 63488 (sI (rI 5 3) 8)) (sI (aI (rI 5 1) 3) 5)) (sI (aI 5 1) 4)) 15) 128) : Int) = 63711 := by
  rw [show wH (oI (oI (oI (oI (oI 63488 (sI (rI 5 3) 8)) (sI (aI (rI 5 1) 3) 5)) (sI (aI 5 1) 4)) 15) 128) = 63711 from (by decide +kernel)]

theorem ed36  : (oI 63568 15 : Int) = 63583 := by
  rw [show oI 63568 15 = 63583 from (by decide +kernel)]

theorem ed37  : (wH (oI (oI (oI (oI 63488 (sI (rI 5 3) 8)) (sI (aI (rI 5 1) 3) 5)) (sI (aI 5 1) 4)) 15) : Int) = 63583 := by
  rw [show wH (oI (oI (oI (oI 63488 (sI (rI 5 3) 8)) (sI (aI (rI 5 1) 3) 5)) (sI (aI 5 1) 4)) 15) = 63583 from (by decide +kernel)]

theorem ed38 {n : Int} (h_n : 0 ≤ n ∧ n ≤ 14) : (oI (oI 63568 n) 128 : Int) = 63696 + n := by
  rw [show oI 63568 n = 63568 + n from oL 63568 0 4 0 16 1]
  rw [show oI (63568 + n) 128 = 63696 + n from oL 63488 (80 + n) 8 7 256 128]

theorem ed39 {n : Int} (h_n : 0 ≤ n ∧ n ≤ 14) : (wH (oI (oI (oI (oI (oI 63488 (sI (rI 5 3) 8)) (sI (aI (rI 5 1) 3) 5)) (sI (aI 5 1) 4)) n) 128) : Int) = 63696 + n := by
  rw [show oI (oI (oI 63488 (sI (rI 5 3) 8)) (sI (aI (rI 5 1) 3) 5)) (sI (aI 5 1) 4) = 63568 from (by decide +kernel)]
  rw [show oI 63568 n = 63568 + n from oL 63568 0 4 0 16 1]
  rw [show oI (63568 + n) 128 = 63696 + n from oL 63488 (80 + n) 8 7 256 128]
  rw [show wH (63696 + n) = 63696 + n from wLH]

theorem ed40 {n : Int} (h_n : 0 ≤ n ∧ n ≤ 15) : (oI 63568 n : Int) = 63568 + n := by
  rw [show oI 63568 n = 63568 + n from oL 63568 0 4 0 16 1]

theorem ed41 {n : Int} (h_n : 0 ≤ n ∧ n ≤ 15) : (wH (oI (oI (oI (oI 63488 (sI (rI 5 3) 8)) (sI (aI (rI 5 1) 3) 5)) (sI (aI 5 1) 4)) n) : Int) = 63568 + n := by
  rw [show oI (oI (oI 63488 (sI (rI 5 3) 8)) (sI (aI (rI 5 1) 3) 5)) (sI (aI 5 1) 4) = 63568 from (by decide +kernel)]
  rw [show oI 63568 n = 63568 + n from oL 63568 0 4 0 16 1]
  rw [show wH (63568 + n) = 63568 + n from wLH]

theorem ed42  : (oI (oI 63760 15) 128 : Int) = 63903 := by
  rw [show oI (oI 63760 15) 128 = 63903 from (by decide +kernel)]

theorem ed43  : (wH (oI (oI (oI (oI (oI 63488 (sI (rI 9 3) 8)) (sI (aI (rI 9 1) 3) 5)) (sI (aI 9 1) 4)) 15) 128) : Int) = 63903 := by
  rw [show wH (oI (oI (oI (oI (oI 63488 (sI (rI 9 3) 8)) (sI (aI (rI 9 1) 3) 5)) (sI (aI 9 1) 4)) 15) 128) = 63903 from (by decide +kernel)]

theorem ed44  : (oI 63760 15 : Int) = 63775 := by
  rw [show oI 63760 15 = 63775 from (by decide +kernel)]

theorem ed45  : (wH (oI (oI (oI (oI 63488 (sI (rI 9 3) 8)) (sI (aI (rI 9 1) 3) 5)) (sI (aI 9 1) 4)) 15) : Int) = 63775 := by
  rw [show wH (oI (oI (oI (oI 63488 (sI (rI 9 3) 8)) (sI (aI (rI 9 1) 3) 5)) (sI (aI 9 1) 4)) 15) = 63775 from (by decide +kernel)]

theorem ed46 {n : Int} (h_n : 0 ≤ n ∧ n ≤ 14) : (oI (oI 63760 n) 128 : Int) = 63888 + n := by
  rw [show oI 63760 n = 63760 + n from oL 63760 0 4 0 16 1]
  rw [show oI (63760 + n) 128 = 63888 + n from oL 63744 (16 + n) 8 7 256 128]

theorem ed47 {n : Int} (h_n : 0 ≤ n ∧ n ≤ 14) : (wH (oI (oI (oI (oI (oI 63488 (sI (rI 9 3) 8)) (sI (aI (rI 9 1) 3) 5)) (sI (aI 9 1) 4)) n) 128) : Int) = 63888 + n := by
  rw [show oI (oI (oI 63488 (sI (rI 9 3) 8)) (sI (aI (rI 9 1) 3) 5)) (sI (aI 9 1) 4) = 63760 from (by decide +kernel)]
  rw [show oI 63760 n = 63760 + n from oL 63760 0 4 0 16 1]
  rw [show oI (63760 + n) 128 = 63888 + n from oL 63744 (16 + n) 8 7 256 128]
  rw [show wH (63888 + n) = 63888 + n from wLH]

theorem ed48 {n : Int} (h_n : 0 ≤ n ∧ n ≤ 15) : (oI 63760 n : Int) = 63760 + n := by
  rw [show oI 63760 n = 63760 + n from oL 63760 0 4 0 16 1]

theorem ed49 {n : Int} (h_n : 0 ≤ n ∧ n ≤ 15) : (wH (oI (oI (oI (oI 63488 (sI (rI 9 3) 8)) (sI (aI (rI 9 1) 3) 5)) (sI (aI 9 1) 4)) n) : Int) = 63760 + n := by
  rw [show oI (oI (oI 63488 (sI (rI 9 3) 8)) (sI (aI (rI 9 1) 3) 5)) (sI (aI 9 1) 4) = 63760 from (by decide +kernel)]
  rw [show oI 63760 n = 63760 + n from oL 63760 0 4 0 16 1]
  rw [show wH (63760 + n) = 63760 + n from wLH]

theorem ed50  : (oI (oI 63792 15) 128 : Int) = 63935 := by
  rw [show oI (oI 63792 15) 128 = 63935 from (by decide +kernel)]

theorem ed51  : (wH (oI (oI (oI (oI (oI 63488 (sI (rI 11 3) 8)) (sI (aI (rI 11 1) 3) 5)) (sI (aI 11 1) 4)) 15) 128) : Int) = 63935 := by
  rw [show wH (oI (oI (oI (oI (oI 63488 (sI (rI 11 3) 8)) (sI (aI (rI 11 1) 3) 5)) (sI (aI 11 1) 4)) 15) 128) = 63935 from (by decide +kernel)]

theorem ed52  : (oI 63792 15 : Int) = 63807 := by
  rw [show oI 63792 15 = 63807 from (by decide +kernel)]

theorem ed53  : (wH (oI (oI (oI (oI 63488 (sI (rI 11 3) 8)) (sI (aI (rI 11 1) 3) 5)) (sI (aI 11 1) 4)) 15) : Int) = 63807 := by
  rw [show wH (oI (oI (oI (oI 63488 (sI (rI 11 3) 8)) (sI (aI (rI 11 1) 3) 5)) (sI (aI 11 1) 4)) 15) = 63807 from (by decide +kernel)]

theorem ed54 {n : Int} (h_n : 0 ≤ n ∧ n ≤ 14) : (oI (oI 63792 n) 128 : Int) = 63920 + n := by
  rw [show oI 63792 n = 63792 + n from oL 63792 0 4 0 16 1]
  rw [show oI (63792 + n) 128 = 63920 + n from oL 63744 (48 + n) 8 7 256 128]

theorem ed55 {n : Int} (h_n : 0 ≤ n ∧ n ≤ 14) : (wH (oI (oI (oI (oI (oI 63488 (sI (rI 11 3) 8)) (sI (aI (rI 11 1) 3) 5)) (sI (aI 11 1) 4)) n) 128) : Int) = 63920 + n := by
  rw [show oI (oI (oI 63488 (sI (rI 11 3) 8)) (sI (aI (rI 11 1) 3) 5)) (sI (aI 11 1) 4) = 63792 from (by decide +kernel)]
  rw [show oI 63792 n = 63792 + n from oL 63792 0 4 0 16 1]
  rw [show oI (63792 + n) 128 = 63920 + n from oL 63744 (48 + n) 8 7 256 128]
  rw [show wH (63920 + n) = 63920 + n from wLH]

theorem ed56 {n : Int} (h_n : 0 ≤ n ∧ n ≤ 15) : (oI 63792 n : Int) = 63792 + n := by
  rw [show oI 63792 n = 63792 + n from oL 63792 0 4 0 16 1]

theorem ed57 {n : Int} (h_n : 0 ≤ n ∧ n ≤ 15) : (wH (oI (oI (oI (oI 63488 (sI (rI 11 3) 8)) (sI (aI (rI 11 1) 3) 5)) (sI (aI 11 1) 4)) n) : Int) = 63792 + n := by
  rw [show oI (oI (oI 63488 (sI (rI 11 3) 8)) (sI (aI (rI 11 1) 3) 5)) (sI (aI 11 1) 4) = 63792 from (by decide +kernel)]
  rw [show oI 63792 n = 63792 + n from oL 63792 0 4 0 16 1]
  rw [show wH (63792 + n) = 63792 + n from wLH]


theorem leaf_Ma1_50 {d n v : Int} (h_d : 0 ≤ d ∧ d ≤ 15) (h_n : 0 ≤ n ∧ n ≤ 14) (h_v : 0 ≤ v ∧ v ≤ 4095)  : o35y (S30.mk 50 true false 14 d n 0 0 v true 0 0 0 false false) = some (63616 + n, 4096 * d + v) ∧ [63616 + n, 4096 * d + v] ∈ cands (S30.mk 50 true false 14 d n 0 0 v true 0 0 0 false false) := by
  have hc : (n == 15) = false := beq_eq_false_iff_ne.2 (by omega)
  exact ⟨row_one (by unfold o35y o35; dsimp only; rw [hc]; kernel_rfl) (ed0 h_n) (ed1 h_d h_v), (mem_cands _).2.2.2.2.2.1 (mem_L33 _ 0 (by decide) (mem_at 0 (by unfold m33; dsimp only; rw [hc]; kernel_rfl) (ed2 h_n) (ed3 h_d h_v)))⟩

theorem leaf_Me2_50 {d n m t : Int} (h_d : 0 ≤ d ∧ d ≤ 15) (h_n : 0 ≤ n ∧ n ≤ 15) (h_m : 0 ≤ m ∧ m ≤ 15) (h_t : 0 ≤ t ∧ t ≤ 3)  : o35y (S30.mk 50 true false 14 d n m 0 0 false 0 t 0 false false) = some (63488 + n, 4096 * d + 16 * t + m) ∧ [63488 + n, 4096 * d + 16 * t + m] ∈ cands (S30.mk 50 true false 14 d n m 0 0 false 0 t 0 false false) := by
  exact ⟨row_one (by kernel_rfl) (ed4 h_n) (ed5 h_d h_m h_t), (mem_cands _).2.2.2.2.2.1 (mem_L33 _ 0 (by decide) (mem_at 0 (by kernel_rfl) (ed6 h_n) (ed7 h_d h_m h_t)))⟩

theorem leaf_Ma1_51 {d n v : Int} (h_d : 0 ≤ d ∧ d ≤ 15) (h_n : 0 ≤ n ∧ n ≤ 14) (h_v : 0 ≤ v ∧ v ≤ 4095)  : o35y (S30.mk 51 true false 14 d n 0 0 v true 0 0 0 false false) = some (63648 + n, 4096 * d + v) ∧ [63648 + n, 4096 * d + v] ∈ cands (S30.mk 51 true false 14 d n 0 0 v true 0 0 0 false false) := by
  have hc : (n == 15) = false := beq_eq_false_iff_ne.2 (by omega)
  exact ⟨row_one (by unfold o35y o35; dsimp only; rw [hc]; kernel_rfl) (ed8 h_n) (ed1 h_d h_v), (mem_cands _).2.2.2.2.2.1 (mem_L33 _ 2 (by decide) (mem_at 0 (by unfold m33; dsimp only; rw [hc]; kernel_rfl) (ed9 h_n) (ed3 h_d h_v)))⟩

theorem leaf_Me2_51 {d n m t : Int} (h_d : 0 ≤ d ∧ d ≤ 15) (h_n : 0 ≤ n ∧ n ≤ 15) (h_m : 0 ≤ m ∧ m ≤ 15) (h_t : 0 ≤ t ∧ t ≤ 3)  : o35y (S30.mk 51 true false 14 d n m 0 0 false 0 t 0 false false) = some (63520 + n, 4096 * d + 16 * t + m) ∧ [63520 + n, 4096 * d + 16 * t + m] ∈ cands (S30.mk 51 true false 14 d n m 0 0 false 0 t 0 false false) := by
  exact ⟨row_one (by kernel_rfl) (ed10 h_n) (ed5 h_d h_m h_t), (mem_cands _).2.2.2.2.2.1 (mem_L33 _ 2 (by decide) (mem_at 0 (by kernel_rfl) (ed11 h_n) (ed7 h_d h_m h_t)))⟩

theorem leaf_Ma1_49 {d n v : Int} (h_d : 0 ≤ d ∧ d ≤ 15) (h_n : 0 ≤ n ∧ n ≤ 14) (h_v : 0 ≤ v ∧ v ≤ 4095)  : o35y (S30.mk 49 true false 14 d n 0 0 v true 0 0 0 false false) = some (63680 + n, 4096 * d + v) ∧ [63680 + n, 4096 * d + v] ∈ cands (S30.mk 49 true false 14 d n 0 0 v true 0 0 0 false false) := by
  have hc : (n == 15) = false := beq_eq_false_iff_ne.2 (by omega)
  exact ⟨row_one (by unfold o35y o35; dsimp only; rw [hc]; kernel_rfl) (ed12 h_n) (ed1 h_d h_v), (mem_cands _).2.2.2.2.2.1 (mem_L33 _ 4 (by decide) (mem_at 0 (by unfold m33; dsimp only; rw [hc]; kernel_rfl) (ed13 h_n) (ed3 h_d h_v)))⟩

theorem leaf_Me2_49 {d n m t : Int} (h_d : 0 ≤ d ∧ d ≤ 15) (h_n : 0 ≤ n ∧ n ≤ 15) (h_m : 0 ≤ m ∧ m ≤ 15) (h_t : 0 ≤ t ∧ t ≤ 3)  : o35y (S30.mk 49 true false 14 d n m 0 0 false 0 t 0 false false) = some (63552 + n, 4096 * d + 16 * t + m) ∧ [63552 + n, 4096 * d + 16 * t + m] ∈ cands (S30.mk 49 true false 14 d n m 0 0 false 0 t 0 false false) := by
  exact ⟨row_one (by kernel_rfl) (ed14 h_n) (ed5 h_d h_m h_t), (mem_cands _).2.2.2.2.2.1 (mem_L33 _ 4 (by decide) (mem_at 0 (by kernel_rfl) (ed15 h_n) (ed7 h_d h_m h_t)))⟩

theorem leaf_Ma15u_45 {d v : Int} (h_d : 0 ≤ d ∧ d ≤ 15) (h_v : 0 ≤ v ∧ v ≤ 4095)  : o35y (S30.mk 45 true false 14 d 15 0 0 v true 0 0 0 false false) = some (63647, 4096 * d + v) ∧ [63647, 4096 * d + v] ∈ cands (S30.mk 45 true false 14 d 15 0 0 v true 0 0 0 false false) := by
  have hc : decide (v > 4095) = false := decide_eq_false (by omega)
  exact ⟨row_one (by unfold o35y o35; dsimp only; rw [hc]; kernel_rfl) (ed16) (ed1 h_d h_v), (mem_cands _).2.2.2.2.2.1 (mem_L33 _ 1 (by decide) (mem_at 0 (by kernel_rfl) (ed17) (ed3 h_d h_v)))⟩

theorem leaf_Ma15d_45 {d x v : Int} (h_d : 0 ≤ d ∧ d ≤ 15) (h_x : 1 ≤ x ∧ x ≤ 4095) (h_v : 4096 ≤ v ∧ v ≤ 4294967295) (hz : wU (0 - v) = x) : o35y (S30.mk 45 true false 14 d 15 0 0 v true 0 0 0 false false) = some (63519, 4096 * d + x) ∧ [63519, 4096 * d + x] ∈ cands (S30.mk 45 true false 14 d 15 0 0 v true 0 0 0 false false) := by
  have hc : decide (v > 4095) = true := decide_eq_true (by omega)
  exact ⟨row_one (by unfold o35y o35; dsimp only; rw [hc]; kernel_rfl) (ed18) (ed19 h_d h_x h_v hz), (mem_cands _).2.2.2.2.2.1 (mem_L33 _ 1 (by decide) (mem_at 1 (by kernel_rfl) (ed20) (ed21 h_d h_x h_v hz)))⟩

theorem leaf_Ma1_45 {d n v : Int} (h_d : 0 ≤ d ∧ d ≤ 15) (h_n : 0 ≤ n ∧ n ≤ 14) (h_v : 0 ≤ v ∧ v ≤ 4095)  : o35y (S30.mk 45 true false 14 d n 0 0 v true 0 0 0 false false) = some (63632 + n, 4096 * d + v) ∧ [63632 + n, 4096 * d + v] ∈ cands (S30.mk 45 true false 14 d n 0 0 v true 0 0 0 false false) := by
  have hc : (n == 15) = false := beq_eq_false_iff_ne.2 (by omega)
  exact ⟨row_one (by unfold o35y o35; dsimp only; rw [hc]; kernel_rfl) (ed22 h_n) (ed1 h_d h_v), (mem_cands _).2.2.2.2.2.1 (mem_L33 _ 1 (by decide) (mem_at 0 (by unfold m33; dsimp only; rw [hc]; kernel_rfl) (ed23 h_n) (ed3 h_d h_v)))⟩

theorem leaf_Me2_45 {d n m t : Int} (h_d : 0 ≤ d ∧ d ≤ 15) (h_n : 0 ≤ n ∧ n ≤ 15) (h_m : 0 ≤ m ∧ m ≤ 15) (h_t : 0 ≤ t ∧ t ≤ 3)  : o35y (S30.mk 45 true false 14 d n m 0 0 false 0 t 0 false false) = some (63504 + n, 4096 * d + 16 * t + m) ∧ [63504 + n, 4096 * d + 16 * t + m] ∈ cands (S30.mk 45 true false 14 d n m 0 0 false 0 t 0 false false) := by
  exact ⟨row_one (by kernel_rfl) (ed24 h_n) (ed5 h_d h_m h_t), (mem_cands _).2.2.2.2.2.1 (mem_L33 _ 1 (by decide) (mem_at 0 (by kernel_rfl) (ed25 h_n) (ed7 h_d h_m h_t)))⟩

theorem leaf_Ma15u_46 {d v : Int} (h_d : 0 ≤ d ∧ d ≤ 15) (h_v : 0 ≤ v ∧ v ≤ 4095)  : o35y (S30.mk 46 true false 14 d 15 0 0 v true 0 0 0 false false) = some (63679, 4096 * d + v) ∧ [63679, 4096 * d + v] ∈ cands (S30.mk 46 true false 14 d 15 0 0 v true 0 0 0 false false) := by
  have hc : decide (v > 4095) = false := decide_eq_false (by omega)
  exact ⟨row_one (by unfold o35y o35; dsimp only; rw [hc]; kernel_rfl) (ed26) (ed1 h_d h_v), (mem_cands _).2.2.2.2.2.1 (mem_L33 _ 3 (by decide) (mem_at 0 (by kernel_rfl) (ed27) (ed3 h_d h_v)))⟩

theorem leaf_Ma15d_46 {d x v : Int} (h_d : 0 ≤ d ∧ d ≤ 15) (h_x : 1 ≤ x ∧ x ≤ 4095) (h_v : 4096 ≤ v ∧ v ≤ 4294967295) (hz : wU (0 - v) = x) : o35y (S30.mk 46 true false 14 d 15 0 0 v true 0 0 0 false false) = some (63551, 4096 * d + x) ∧ [63551, 4096 * d + x] ∈ cands (S30.mk 46 true false 14 d 15 0 0 v true 0 0 0 false false) := by
  have hc : decide (v > 4095) = true := decide_eq_true (by omega)
  exact ⟨row_one (by unfold o35y o35; dsimp only; rw [hc]; kernel_rfl) (ed28) (ed19 h_d h_x h_v hz), (mem_cands _).2.2.2.2.2.1 (mem_L33 _ 3 (by decide) (mem_at 1 (by kernel_rfl) (ed29) (ed21 h_d h_x h_v hz)))⟩

theorem leaf_Ma1_46 {d n v : Int} (h_d : 0 ≤ d ∧ d ≤ 15) (h_n : 0 ≤ n ∧ n ≤ 14) (h_v : 0 ≤ v ∧ v ≤ 4095)  : o35y (S30.mk 46 true false 14 d n 0 0 v true 0 0 0 false false) = some (63664 + n, 4096 * d + v) ∧ [63664 + n, 4096 * d + v] ∈ cands (S30.mk 46 true false 14 d n 0 0 v true 0 0 0 false false) := by
  have hc : (n == 15) = false := beq_eq_false_iff_ne.2 (by omega)
  exact ⟨row_one (by unfold o35y o35; dsimp only; rw [hc]; kernel_rfl) (ed30 h_n) (ed1 h_d h_v), (mem_cands _).2.2.2.2.2.1 (mem_L33 _ 3 (by decide) (mem_at 0 (by unfold m33; dsimp only; rw [hc]; kernel_rfl) (ed31 h_n) (ed3 h_d h_v)))⟩

theorem leaf_Me2_46 {d n m t : Int} (h_d : 0 ≤ d ∧ d ≤ 15) (h_n : 0 ≤ n ∧ n ≤ 15) (h_m : 0 ≤ m ∧ m ≤ 15) (h_t : 0 ≤ t ∧ t ≤ 3)  : o35y (S30.mk 46 true false 14 d n m 0 0 false 0 t 0 false false) = some (63536 + n, 4096 * d + 16 * t + m) ∧ [63536 + n, 4096 * d + 16 * t + m] ∈ cands (S30.mk 46 true false 14 d n m 0 0 false 0 t 0 false false) := by
  exact ⟨row_one (by kernel_rfl) (ed32 h_n) (ed5 h_d h_m h_t), (mem_cands _).2.2.2.2.2.1 (mem_L33 _ 3 (by decide) (mem_at 0 (by kernel_rfl) (ed33 h_n) (ed7 h_d h_m h_t)))⟩

theorem leaf_Ma15u_44 {d v : Int} (h_d : 0 ≤ d ∧ d ≤ 15) (h_v : 0 ≤ v ∧ v ≤ 4095)  : o35y (S30.mk 44 true false 14 d 15 0 0 v true 0 0 0 false false) = some (63711, 4096 * d + v) ∧ [63711, 4096 * d + v] ∈ cands (S30.mk 44 true false 14 d 15 0 0 v true 0 0 0 false false) := by
  have hc : decide (v > 4095) = false := decide_eq_false (by omega)
  exact ⟨row_one (by unfold o35y o35; dsimp only; rw [hc]; kernel_rfl) (ed34) (ed1 h_d h_v), (mem_cands _).2.2.2.2.2.1 (mem_L33 _ 5 (by decide) (mem_at 0 (by kernel_rfl) (ed35) (ed3 h_d h_v)))⟩

theorem leaf_Ma15d_44 {d x v : Int} (h_d : 0 ≤ d ∧ d ≤ 15) (h_x : 1 ≤ x ∧ x ≤ 4095) (h_v : 4096 ≤ v ∧ v ≤ 4294967295) (hz : wU (0 - v) = x) : o35y (S30.mk 44 true false 14 d 15 0 0 v true 0 0 0 false false) = some (63583, 4096 * d + x) ∧ [63583, 4096 * d + x] ∈ cands (S30.mk 44 true false 14 d 15 0 0 v true 0 0 0 false false) := by
  have hc : decide (v > 4095) = true := decide_eq_true (by omega)
  exact ⟨row_one (by unfold o35y o35; dsimp only; rw [hc]; kernel_rfl) (ed36) (ed19 h_d h_x h_v hz), (mem_cands _).2.2.2.2.2.1 (mem_L33 _ 5 (by decide) (mem_at 1 (by kernel_rfl) (ed37) (ed21 h_d h_x h_v hz)))⟩

theorem leaf_Ma1_44 {d n v : Int} (h_d : 0 ≤ d ∧ d ≤ 15) (h_n : 0 ≤ n ∧ n ≤ 14) (h_v : 0 ≤ v ∧ v ≤ 4095)  : o35y (S30.mk 44 true false 14 d n 0 0 v true 0 0 0 false false) = some (63696 + n, 4096 * d + v) ∧ [63696 + n, 4096 * d + v] ∈ cands (S30.mk 44 true false 14 d n 0 0 v true 0 0 0 false false) := by
  have hc : (n == 15) = false := beq_eq_false_iff_ne.2 (by omega)
  exact ⟨row_one (by unfold o35y o35; dsimp only; rw [hc]; kernel_rfl) (ed38 h_n) (ed1 h_d h_v), (mem_cands _).2.2.2.2.2.1 (mem_L33 _ 5 (by decide) (mem_at 0 (by unfold m33; dsimp only; rw [hc]; kernel_rfl) (ed39 h_n) (ed3 h_d h_v)))⟩

theorem leaf_Me2_44 {d n m t : Int} (h_d : 0 ≤ d ∧ d ≤ 15) (h_n : 0 ≤ n ∧ n ≤ 15) (h_m : 0 ≤ m ∧ m ≤ 15) (h_t : 0 ≤ t ∧ t ≤ 3)  : o35y (S30.mk 44 true false 14 d n m 0 0 false 0 t 0 false false) = some (63568 + n, 4096 * d + 16 * t + m) ∧ [63568 + n, 4096 * d + 16 * t + m] ∈ cands (S30.mk 44 true false 14 d n m 0 0 false 0 t 0 false false) := by
  exact ⟨row_one (by kernel_rfl) (ed40 h_n) (ed5 h_d h_m h_t), (mem_cands _).2.2.2.2.2.1 (mem_L33 _ 5 (by decide) (mem_at 0 (by kernel_rfl) (ed41 h_n) (ed7 h_d h_m h_t)))⟩

theorem leaf_Ma15u_47 {d v : Int} (h_d : 0 ≤ d ∧ d ≤ 15) (h_v : 0 ≤ v ∧ v ≤ 4095)  : o35y (S30.mk 47 true false 14 d 15 0 0 v true 0 0 0 false false) = some (63903, 4096 * d + v) ∧ [63903, 4096 * d + v] ∈ cands (S30.mk 47 true false 14 d 15 0 0 v true 0 0 0 false false) := by
  have hc : decide (v > 4095) = false := decide_eq_false (by omega)
  exact ⟨row_one (by unfold o35y o35; dsimp only; rw [hc]; kernel_rfl) (ed42) (ed1 h_d h_v), (mem_cands _).2.2.2.2.2.1 (mem_L33 _ 9 (by decide) (mem_at 0 (by kernel_rfl) (ed43) (ed3 h_d h_v)))⟩

theorem leaf_Ma15d_47 {d x v : Int} (h_d : 0 ≤ d ∧ d ≤ 15) (h_x : 1 ≤ x ∧ x ≤ 4095) (h_v : 4096 ≤ v ∧ v ≤ 4294967295) (hz : wU (0 - v) = x) : o35y (S30.mk 47 true false 14 d 15 0 0 v true 0 0 0 false false) = some (63775, 4096 * d + x) ∧ [63775, 4096 * d + x] ∈ cands (S30.mk 47 true false 14 d 15 0 0 v true 0 0 0 false false) := by
  have hc : decide (v > 4095) = true := decide_eq_true (by omega)
  exact ⟨row_one (by unfold o35y o35; dsimp only; rw [hc]; kernel_rfl) (ed44) (ed19 h_d h_x h_v hz), (mem_cands _).2.2.2.2.2.1 (mem_L33 _ 9 (by decide) (mem_at 1 (by kernel_rfl) (ed45) (ed21 h_d h_x h_v hz)))⟩

theorem leaf_Ma1_47 {d n v : Int} (h_d : 0 ≤ d ∧ d ≤ 15) (h_n : 0 ≤ n ∧ n ≤ 14) (h_v : 0 ≤ v ∧ v ≤ 4095)  : o35y (S30.mk 47 true false 14 d n 0 0 v true 0 0 0 false false) = some (63888 + n, 4096 * d + v) ∧ [63888 + n, 4096 * d + v] ∈ cands (S30.mk 47 true false 14 d n 0 0 v true 0 0 0 false false) := by
  have hc : (n == 15) = false := beq_eq_false_iff_ne.2 (by omega)
  exact ⟨row_one (by unfold o35y o35; dsimp only; rw [hc]; kernel_rfl) (ed46 h_n) (ed1 h_d h_v), (mem_cands _).2.2.2.2.2.1 (mem_L33 _ 9 (by decide) (mem_at 0 (by unfold m33; dsimp only; rw [hc]; kernel_rfl) (ed47 h_n) (ed3 h_d h_v)))⟩

theorem leaf_Me2_47 {d n m t : Int} (h_d : 0 ≤ d ∧ d ≤ 15) (h_n : 0 ≤ n ∧ n ≤ 15) (h_m : 0 ≤ m ∧ m ≤ 15) (h_t : 0 ≤ t ∧ t ≤ 3)  : o35y (S30.mk 47 true false 14 d n m 0 0 false 0 t 0 false false) = some (63760 + n, 4096 * d + 16 * t + m) ∧ [63760 + n, 4096 * d + 16 * t + m] ∈ cands (S30.mk 47 true false 14 d n m 0 0 false 0 t 0 false false) := by
  exact ⟨row_one (by kernel_rfl) (ed48 h_n) (ed5 h_d h_m h_t), (mem_cands _).2.2.2.2.2.1 (mem_L33 _ 9 (by decide) (mem_at 0 (by kernel_rfl) (ed49 h_n) (ed7 h_d h_m h_t)))⟩

theorem leaf_Ma15u_48 {d v : Int} (h_d : 0 ≤ d ∧ d ≤ 15) (h_v : 0 ≤ v ∧ v ≤ 4095)  : o35y (S30.mk 48 true false 14 d 15 0 0 v true 0 0 0 false false) = some (63935, 4096 * d + v) ∧ [63935, 4096 * d + v] ∈ cands (S30.mk 48 true false 14 d 15 0 0 v true 0 0 0 false false) := by
  have hc : decide (v > 4095) = false := decide_eq_false (by omega)
  exact ⟨row_one (by unfold o35y o35; dsimp only; rw [hc]; kernel_rfl) (ed50) (ed1 h_d h_v), (mem_cands _).2.2.2.2.2.1 (mem_L33 _ 11 (by decide) (mem_at 0 (by kernel_rfl) (ed51) (ed3 h_d h_v)))⟩

theorem leaf_Ma15d_48 {d x v : Int} (h_d : 0 ≤ d ∧ d ≤ 15) (h_x : 1 ≤ x ∧ x ≤ 4095) (h_v : 4096 ≤ v ∧ v ≤ 4294967295) (hz : wU (0 - v) = x) : o35y (S30.mk 48 true false 14 d 15 0 0 v true 0 0 0 false false) = some (63807, 4096 * d + x) ∧ [63807, 4096 * d + x] ∈ cands (S30.mk 48 true false 14 d 15 0 0 v true 0 0 0 false false) := by
  have hc : decide (v > 4095) = true := decide_eq_true (by omega)
  exact ⟨row_one (by unfold o35y o35; dsimp only; rw [hc]; kernel_rfl) (ed52) (ed19 h_d h_x h_v hz), (mem_cands _).2.2.2.2.2.1 (mem_L33 _ 11 (by decide) (mem_at 1 (by kernel_rfl) (ed53) (ed21 h_d h_x h_v hz)))⟩

theorem leaf_Ma1_48 {d n v : Int} (h_d : 0 ≤ d ∧ d ≤ 15) (h_n : 0 ≤ n ∧ n ≤ 14) (h_v : 0 ≤ v ∧ v ≤ 4095)  : o35y (S30.mk 48 true false 14 d n 0 0 v true 0 0 0 false false) = some (63920 + n, 4096 * d + v) ∧ [63920 + n, 4096 * d + v] ∈ cands (S30.mk 48 true false 14 d n 0 0 v true 0 0 0 false false) := by
  have hc : (n == 15) = false := beq_eq_false_iff_ne.2 (by omega)
  exact ⟨row_one (by unfold o35y o35; dsimp only; rw [hc]; kernel_rfl) (ed54 h_n) (ed1 h_d h_v), (mem_cands _).2.2.2.2.2.1 (mem_L33 _ 11 (by decide) (mem_at 0 (by unfold m33; dsimp only; rw [hc]; kernel_rfl) (ed55 h_n) (ed3 h_d h_v)))⟩

theorem leaf_Me2_48 {d n m t : Int} (h_d : 0 ≤ d ∧ d ≤ 15) (h_n : 0 ≤ n ∧ n ≤ 15) (h_m : 0 ≤ m ∧ m ≤ 15) (h_t : 0 ≤ t ∧ t ≤ 3)  : o35y (S30.mk 48 true false 14 d n m 0 0 false 0 t 0 false false) = some (63792 + n, 4096 * d + 16 * t + m) ∧ [63792 + n, 4096 * d + 16 * t + m] ∈ cands (S30.mk 48 true false 14 d n m 0 0 false 0 t 0 false false) := by
  exact ⟨row_one (by kernel_rfl) (ed56 h_n) (ed5 h_d h_m h_t), (mem_cands _).2.2.2.2.2.1 (mem_L33 _ 11 (by decide) (mem_at 0 (by kernel_rfl) (ed57 h_n) (ed7 h_d h_m h_t)))⟩

end Go.Den
