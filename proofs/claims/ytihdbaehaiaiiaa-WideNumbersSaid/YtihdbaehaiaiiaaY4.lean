import Derived.Test.YtihdbaehaiaiiaaY13a
set_option linter.unusedSimpArgs false
set_option linter.unusedVariables false
set_option maxRecDepth 100000
namespace Go.Den

theorem ea0 {n s : Int} (h_n : 0 ≤ n ∧ n ≤ 15) (h_s : 0 ≤ s ∧ s ≤ 1) : (oI (oI (oI 64000 (sI (wI (17 - 17)) 5)) (sI (p68 (s == 1)) 4)) n : Int) = 64000 + 16 * s + n := by
  rw [show oI 64000 (sI (wI (17 - 17)) 5) = 64000 from (by decide +kernel)]
  rw [show p68 (s == 1) = s from p68_b (by omega)]
  rw [show sI s 4 = 16 * s from sL 16]
  rw [show oI 64000 (16 * s) = 64000 + 16 * s from oL 64000 0 5 4 32 16]
  rw [show oI (64000 + 16 * s) n = 64000 + 16 * s + n from oL (64000 + 16 * s) 0 4 0 16 1]

theorem ea1 {d m : Int} (h_d : 0 ≤ d ∧ d ≤ 15) (h_m : 0 ≤ m ∧ m ≤ 15) : (oI (oI 61440 (sI d 8)) m : Int) = 61440 + 256 * d + m := by
  rw [show sI d 8 = 256 * d from sL 256]
  rw [show oI 61440 (256 * d) = 61440 + 256 * d from oL 61440 0 12 8 4096 256]
  rw [show oI (61440 + 256 * d) m = 61440 + 256 * d + m from oL (61440 + 256 * d) 0 4 0 16 1]

theorem ea2 {n s : Int} (h_n : 0 ≤ n ∧ n ≤ 15) (h_s : 0 ≤ s ∧ s ≤ 1) : (wH (oI (oI (oI 64000 (sI 0 5)) (sI (p59 (s == 1)) 4)) n) : Int) = 64000 + 16 * s + n := by
  rw [show oI 64000 (sI 0 5) = 64000 from (by decide +kernel)]
  rw [show p59 (s == 1) = s from p59_b (by omega)]
  rw [show sI s 4 = 16 * s from sL 16]
  rw [show oI 64000 (16 * s) = 64000 + 16 * s from oL 64000 0 5 4 32 16]
  rw [show oI (64000 + 16 * s) n = 64000 + 16 * s + n from oL (64000 + 16 * s) 0 4 0 16 1]
  rw [show wH (64000 + 16 * s + n) = 64000 + 16 * s + n from wLH]

theorem ea3 {d m : Int} (h_d : 0 ≤ d ∧ d ≤ 15) (h_m : 0 ≤ m ∧ m ≤ 15) : (wH (oI (oI 61440 (sI d 8)) m) : Int) = 61440 + 256 * d + m := by
  rw [show sI d 8 = 256 * d from sL 256]
  rw [show oI 61440 (256 * d) = 61440 + 256 * d from oL 61440 0 12 8 4096 256]
  rw [show oI (61440 + 256 * d) m = 61440 + 256 * d + m from oL (61440 + 256 * d) 0 4 0 16 1]
  rw [show wH (61440 + 256 * d + m) = 61440 + 256 * d + m from wLH]

theorem ea4 {n s : Int} (h_n : 0 ≤ n ∧ n ≤ 15) (h_s : 0 ≤ s ∧ s ≤ 1) : (oI (oI (oI 64000 (sI (wI (18 - 17)) 5)) (sI (p68 (s == 1)) 4)) n : Int) = 64032 + 16 * s + n := by
  rw [show oI 64000 (sI (wI (18 - 17)) 5) = 64032 from (by decide +kernel)]
  rw [show p68 (s == 1) = s from p68_b (by omega)]
  rw [show sI s 4 = 16 * s from sL 16]
  rw [show oI 64032 (16 * s) = 64032 + 16 * s from oL 64032 0 5 4 32 16]
  rw [show oI (64032 + 16 * s) n = 64032 + 16 * s + n from oL (64032 + 16 * s) 0 4 0 16 1]

theorem ea5 {n s : Int} (h_n : 0 ≤ n ∧ n ≤ 15) (h_s : 0 ≤ s ∧ s ≤ 1) : (wH (oI (oI (oI 64000 (sI (0 + 1) 5)) (sI (p59 (s == 1)) 4)) n) : Int) = 64032 + 16 * s + n := by
  rw [show oI 64000 (sI (0 + 1) 5) = 64032 from (by decide +kernel)]
  rw [show p59 (s == 1) = s from p59_b (by omega)]
  rw [show sI s 4 = 16 * s from sL 16]
  rw [show oI 64032 (16 * s) = 64032 + 16 * s from oL 64032 0 5 4 32 16]
  rw [show oI (64032 + 16 * s) n = 64032 + 16 * s + n from oL (64032 + 16 * s) 0 4 0 16 1]
  rw [show wH (64032 + 16 * s + n) = 64032 + 16 * s + n from wLH]

theorem ea6 {n s : Int} (h_n : 0 ≤ n ∧ n ≤ 15) (h_s : 0 ≤ s ∧ s ≤ 1) : (oI (oI (oI 64000 (sI (wI (19 - 17)) 5)) (sI (p68 (s == 1)) 4)) n : Int) = 64064 + 16 * s + n := by
  rw [show oI 64000 (sI (wI (19 - 17)) 5) = 64064 from (by decide +kernel)]
  rw [show p68 (s == 1) = s from p68_b (by omega)]
  rw [show sI s 4 = 16 * s from sL 16]
  rw [show oI 64064 (16 * s) = 64064 + 16 * s from oL 64064 0 5 4 32 16]
  rw [show oI (64064 + 16 * s) n = 64064 + 16 * s + n from oL (64064 + 16 * s) 0 4 0 16 1]

theorem ea7 {n s : Int} (h_n : 0 ≤ n ∧ n ≤ 15) (h_s : 0 ≤ s ∧ s ≤ 1) : (wH (oI (oI (oI 64000 (sI (0 + 1 + 1) 5)) (sI (p59 (s == 1)) 4)) n) : Int) = 64064 + 16 * s + n := by
  rw [show oI 64000 (sI (0 + 1 + 1) 5) = 64064 from (by decide +kernel)]
  rw [show p59 (s == 1) = s from p59_b (by omega)]
  rw [show sI s 4 = 16 * s from sL 16]
  rw [show oI 64064 (16 * s) = 64064 + 16 * s from oL 64064 0 5 4 32 16]
  rw [show oI (64064 + 16 * s) n = 64064 + 16 * s + n from oL (64064 + 16 * s) 0 4 0 16 1]
  rw [show wH (64064 + 16 * s + n) = 64064 + 16 * s + n from wLH]

theorem ea8 {n s : Int} (h_n : 0 ≤ n ∧ n ≤ 15) (h_s : 0 ≤ s ∧ s ≤ 1) : (oI (oI (oI 64000 (sI (wI (20 - 17)) 5)) (sI (p68 (s == 1)) 4)) n : Int) = 64096 + 16 * s + n := by
  rw [show oI 64000 (sI (wI (20 - 17)) 5) = 64096 from (by decide +kernel)]
  rw [show p68 (s == 1) = s from p68_b (by omega)]
  rw [show sI s 4 = 16 * s from sL 16]
  rw [show oI 64096 (16 * s) = 64096 + 16 * s from oL 64096 0 5 4 32 16]
  rw [show oI (64096 + 16 * s) n = 64096 + 16 * s + n from oL (64096 + 16 * s) 0 4 0 16 1]

theorem ea9 {n s : Int} (h_n : 0 ≤ n ∧ n ≤ 15) (h_s : 0 ≤ s ∧ s ≤ 1) : (wH (oI (oI (oI 64000 (sI (0 + 1 + 1 + 1) 5)) (sI (p59 (s == 1)) 4)) n) : Int) = 64096 + 16 * s + n := by
  rw [show oI 64000 (sI (0 + 1 + 1 + 1) 5) = 64096 from (by decide +kernel)]
  rw [show p59 (s == 1) = s from p59_b (by omega)]
  rw [show sI s 4 = 16 * s from sL 16]
  rw [show oI 64096 (16 * s) = 64096 + 16 * s from oL 64096 0 5 4 32 16]
  rw [show oI (64096 + 16 * s) n = 64096 + 16 * s + n from oL (64096 + 16 * s) 0 4 0 16 1]
  rw [show wH (64096 + 16 * s + n) = 64096 + 16 * s + n from wLH]

theorem ea10 {d m : Int} (h_d : 0 ≤ d ∧ d ≤ 15) (h_m : 0 ≤ m ∧ m ≤ 15) : (oI (oI 61568 (sI d 8)) m : Int) = 61568 + 256 * d + m := by
  rw [show sI d 8 = 256 * d from sL 256]
  rw [show oI 61568 (256 * d) = 61568 + 256 * d from oL 61440 128 12 8 4096 256]
  rw [show oI (61568 + 256 * d) m = 61568 + 256 * d + m from oL (61568 + 256 * d) 0 4 0 16 1]

theorem ea11  : (wH (oI 64015 (sI 0 4)) : Int) = 64015 := by
  rw [show wH (oI 64015 (sI 0 4)) = 64015 from (by decide +kernel)]

theorem ea12 {d m : Int} (h_d : 0 ≤ d ∧ d ≤ 15) (h_m : 0 ≤ m ∧ m ≤ 15) : (wH (oI (oI 61568 (sI d 8)) m) : Int) = 61568 + 256 * d + m := by
  rw [show sI d 8 = 256 * d from sL 256]
  rw [show oI 61568 (256 * d) = 61568 + 256 * d from oL 61440 128 12 8 4096 256]
  rw [show oI (61568 + 256 * d) m = 61568 + 256 * d + m from oL (61568 + 256 * d) 0 4 0 16 1]
  rw [show wH (61568 + 256 * d + m) = 61568 + 256 * d + m from wLH]

theorem ea13  : (wH (oI 64015 (sI (0 + 1) 4)) : Int) = 64031 := by
  rw [show wH (oI 64015 (sI (0 + 1) 4)) = 64031 from (by decide +kernel)]

theorem ea14  : (wH (oI 64015 (sI (0 + 1 + 1 + 1 + 1) 4)) : Int) = 64079 := by
  rw [show wH (oI 64015 (sI (0 + 1 + 1 + 1 + 1) 4)) = 64079 from (by decide +kernel)]

theorem ea15  : (wH (oI 64015 (sI (0 + 1 + 1 + 1 + 1 + 1) 4)) : Int) = 64095 := by
  rw [show wH (oI 64015 (sI (0 + 1 + 1 + 1 + 1 + 1) 4)) = 64095 from (by decide +kernel)]

theorem ea16 {m : Int} (h_m : 0 ≤ m ∧ m ≤ 15) : (oI 64144 m : Int) = 64144 + m := by
  rw [show oI 64144 m = 64144 + m from oL 64144 0 4 0 16 1]

theorem ea17 {d m : Int} (h_d : 0 ≤ d ∧ d ≤ 15) (h_m : 0 ≤ m ∧ m ≤ 15) : (oI (oI (oI 61568 (sI d 8)) (sI (wI (0 + 1 + 1 + 1 + 1 - 4)) 4)) m : Int) = 61568 + 256 * d + m := by
  rw [show sI d 8 = 256 * d from sL 256]
  rw [show oI 61568 (256 * d) = 61568 + 256 * d from oL 61440 128 12 8 4096 256]
  rw [show sI (wI (0 + 1 + 1 + 1 + 1 - 4)) 4 = 0 from (by decide +kernel)]
  rw [show oI (61568 + 256 * d) 0 = 61568 + 256 * d from oL (61568 + 256 * d) 0 0 0 1 1]
  rw [show oI (61568 + 256 * d) m = 61568 + 256 * d + m from oL (61568 + 256 * d) 0 4 0 16 1]

theorem ea18 {m : Int} (h_m : 0 ≤ m ∧ m ≤ 15) : (wH (oI 64144 m) : Int) = 64144 + m := by
  rw [show oI 64144 m = 64144 + m from oL 64144 0 4 0 16 1]
  rw [show wH (64144 + m) = 64144 + m from wLH]

theorem ea19 {d m : Int} (h_d : 0 ≤ d ∧ d ≤ 15) (h_m : 0 ≤ m ∧ m ≤ 15) : (wH (oI (oI (oI 61568 (sI 0 4)) (sI d 8)) m) : Int) = 61568 + 256 * d + m := by
  rw [show oI 61568 (sI 0 4) = 61568 from (by decide +kernel)]
  rw [show sI d 8 = 256 * d from sL 256]
  rw [show oI 61568 (256 * d) = 61568 + 256 * d from oL 61440 128 12 8 4096 256]
  rw [show oI (61568 + 256 * d) m = 61568 + 256 * d + m from oL (61568 + 256 * d) 0 4 0 16 1]
  rw [show wH (61568 + 256 * d + m) = 61568 + 256 * d + m from wLH]

theorem ea20 {d m : Int} (h_d : 0 ≤ d ∧ d ≤ 15) (h_m : 0 ≤ m ∧ m ≤ 15) : (oI (oI (oI 61568 (sI d 8)) (sI (wI (0 + 1 + 1 + 1 + 1 + 1 - 4)) 4)) m : Int) = 61584 + 256 * d + m := by
  rw [show sI d 8 = 256 * d from sL 256]
  rw [show oI 61568 (256 * d) = 61568 + 256 * d from oL 61440 128 12 8 4096 256]
  rw [show sI (wI (0 + 1 + 1 + 1 + 1 + 1 - 4)) 4 = 16 from (by decide +kernel)]
  rw [show oI (61568 + 256 * d) 16 = 61584 + 256 * d from oL (61568 + 256 * d) 0 5 4 32 16]
  rw [show oI (61584 + 256 * d) m = 61584 + 256 * d + m from oL (61584 + 256 * d) 0 4 0 16 1]

theorem ea21 {d m : Int} (h_d : 0 ≤ d ∧ d ≤ 15) (h_m : 0 ≤ m ∧ m ≤ 15) : (wH (oI (oI (oI 61568 (sI (0 + 1) 4)) (sI d 8)) m) : Int) = 61584 + 256 * d + m := by
  rw [show oI 61568 (sI (0 + 1) 4) = 61584 from (by decide +kernel)]
  rw [show sI d 8 = 256 * d from sL 256]
  rw [show oI 61584 (256 * d) = 61584 + 256 * d from oL 61440 144 12 8 4096 256]
  rw [show oI (61584 + 256 * d) m = 61584 + 256 * d + m from oL (61584 + 256 * d) 0 4 0 16 1]
  rw [show wH (61584 + 256 * d + m) = 61584 + 256 * d + m from wLH]

theorem ea22 {d m : Int} (h_d : 0 ≤ d ∧ d ≤ 15) (h_m : 0 ≤ m ∧ m ≤ 15) : (oI (oI (oI 61568 (sI d 8)) (sI (wI (0 + 1 + 1 + 1 + 1 + 1 + 1 - 4)) 4)) m : Int) = 61600 + 256 * d + m := by
  rw [show sI d 8 = 256 * d from sL 256]
  rw [show oI 61568 (256 * d) = 61568 + 256 * d from oL 61440 128 12 8 4096 256]
  rw [show sI (wI (0 + 1 + 1 + 1 + 1 + 1 + 1 - 4)) 4 = 32 from (by decide +kernel)]
  rw [show oI (61568 + 256 * d) 32 = 61600 + 256 * d from oL (61568 + 256 * d) 0 6 5 64 32]
  rw [show oI (61600 + 256 * d) m = 61600 + 256 * d + m from oL (61600 + 256 * d) 0 4 0 16 1]

theorem ea23 {d m : Int} (h_d : 0 ≤ d ∧ d ≤ 15) (h_m : 0 ≤ m ∧ m ≤ 15) : (wH (oI (oI (oI 61568 (sI (0 + 1 + 1) 4)) (sI d 8)) m) : Int) = 61600 + 256 * d + m := by
  rw [show oI 61568 (sI (0 + 1 + 1) 4) = 61600 from (by decide +kernel)]
  rw [show sI d 8 = 256 * d from sL 256]
  rw [show oI 61600 (256 * d) = 61600 + 256 * d from oL 61440 160 12 8 4096 256]
  rw [show oI (61600 + 256 * d) m = 61600 + 256 * d + m from oL (61600 + 256 * d) 0 4 0 16 1]
  rw [show wH (61600 + 256 * d + m) = 61600 + 256 * d + m from wLH]

theorem ea24 {d m : Int} (h_d : 0 ≤ d ∧ d ≤ 15) (h_m : 0 ≤ m ∧ m ≤ 15) : (oI (oI (oI 61568 (sI d 8)) (sI (wI (0 + 1 + 1 + 1 + 1 + 1 + 1 + 1 - 4)) 4)) m : Int) = 61616 + 256 * d + m := by
  rw [show sI d 8 = 256 * d from sL 256]
  rw [show oI 61568 (256 * d) = 61568 + 256 * d from oL 61440 128 12 8 4096 256]
  rw [show sI (wI (0 + 1 + 1 + 1 + 1 + 1 + 1 + 1 - 4)) 4 = 48 from (by decide +kernel)]
  rw [show oI (61568 + 256 * d) 48 = 61616 + 256 * d from oL (61568 + 256 * d) 0 6 4 64 16]
  rw [show oI (61616 + 256 * d) m = 61616 + 256 * d + m from oL (61616 + 256 * d) 0 4 0 16 1]

theorem ea25 {d m : Int} (h_d : 0 ≤ d ∧ d ≤ 15) (h_m : 0 ≤ m ∧ m ≤ 15) : (wH (oI (oI (oI 61568 (sI (0 + 1 + 1 + 1) 4)) (sI d 8)) m) : Int) = 61616 + 256 * d + m := by
  rw [show oI 61568 (sI (0 + 1 + 1 + 1) 4) = 61616 from (by decide +kernel)]
  rw [show sI d 8 = 256 * d from sL 256]
  rw [show oI 61616 (256 * d) = 61616 + 256 * d from oL 61440 176 12 8 4096 256]
  rw [show oI (61616 + 256 * d) m = 61616 + 256 * d + m from oL (61616 + 256 * d) 0 4 0 16 1]
  rw [show wH (61616 + 256 * d + m) = 61616 + 256 * d + m from wLH]

theorem ea26 {m : Int} (h_m : 0 ≤ m ∧ m ≤ 15) : (oI 64176 m : Int) = 64176 + m := by
  rw [show oI 64176 m = 64176 + m from oL 64176 0 4 0 16 1]

theorem ea27 {m : Int} (h_m : 0 ≤ m ∧ m ≤ 15) : (wH (oI 64176 m) : Int) = 64176 + m := by
  rw [show oI 64176 m = 64176 + m from oL 64176 0 4 0 16 1]
  rw [show wH (64176 + m) = 64176 + m from wLH]

theorem ea28 {n : Int} (h_n : 0 ≤ n ∧ n ≤ 15) : (oI 64256 n : Int) = 64256 + n := by
  rw [show oI 64256 n = 64256 + n from oL 64256 0 4 0 16 1]

theorem ea29 {d m : Int} (h_d : 0 ≤ d ∧ d ≤ 15) (h_m : 0 ≤ m ∧ m ≤ 15) : (oI (oI (oI 0 m) 61440) (sI d 8) : Int) = 61440 + 256 * d + m := by
  rw [show oI 0 m = m from oL 0 0 4 0 16 1]
  rw [show oI m 61440 = 61440 + m from oL 0 m 16 12 65536 4096]
  rw [show sI d 8 = 256 * d from sL 256]
  rw [show oI (61440 + m) (256 * d) = 61440 + 256 * d + m from oL 61440 m 12 8 4096 256]

theorem ea30 {n : Int} (h_n : 0 ≤ n ∧ n ≤ 15) : (wH (oI 64256 n) : Int) = 64256 + n := by
  rw [show oI 64256 n = 64256 + n from oL 64256 0 4 0 16 1]
  rw [show wH (64256 + n) = 64256 + n from wLH]

theorem ea31 {n : Int} (h_n : 0 ≤ n ∧ n ≤ 15) : (oI 64432 n : Int) = 64432 + n := by
  rw [show oI 64432 n = 64432 + n from oL 64432 0 4 0 16 1]

theorem ea32 {d m : Int} (h_d : 0 ≤ d ∧ d ≤ 15) (h_m : 0 ≤ m ∧ m ≤ 15) : (oI (oI (oI 240 m) 61440) (sI d 8) : Int) = 61680 + 256 * d + m := by
  rw [show oI 240 m = 240 + m from oL 240 0 4 0 16 1]
  rw [show oI (240 + m) 61440 = 61680 + m from oL 0 (240 + m) 16 12 65536 4096]
  rw [show sI d 8 = 256 * d from sL 256]
  rw [show oI (61680 + m) (256 * d) = 61680 + 256 * d + m from oL 61440 (240 + m) 12 8 4096 256]

theorem ea33 {n : Int} (h_n : 0 ≤ n ∧ n ≤ 15) : (wH (oI (oI 64400 (sI 1 5)) n) : Int) = 64432 + n := by
  rw [show oI 64400 (sI 1 5) = 64432 from (by decide +kernel)]
  rw [show oI 64432 n = 64432 + n from oL 64432 0 4 0 16 1]
  rw [show wH (64432 + n) = 64432 + n from wLH]

theorem ea34 {d m : Int} (h_d : 0 ≤ d ∧ d ≤ 15) (h_m : 0 ≤ m ∧ m ≤ 15) : (wH (oI (oI 61680 (sI d 8)) m) : Int) = 61680 + 256 * d + m := by
  rw [show sI d 8 = 256 * d from sL 256]
  rw [show oI 61680 (256 * d) = 61680 + 256 * d from oL 61440 240 12 8 4096 256]
  rw [show oI (61680 + 256 * d) m = 61680 + 256 * d + m from oL (61680 + 256 * d) 0 4 0 16 1]
  rw [show wH (61680 + 256 * d + m) = 61680 + 256 * d + m from wLH]

theorem ea35 {n : Int} (h_n : 0 ≤ n ∧ n ≤ 15) : (oI 64400 n : Int) = 64400 + n := by
  rw [show oI 64400 n = 64400 + n from oL 64400 0 4 0 16 1]

theorem ea36 {n : Int} (h_n : 0 ≤ n ∧ n ≤ 15) : (wH (oI (oI 64400 (sI 0 5)) n) : Int) = 64400 + n := by
  rw [show oI 64400 (sI 0 5) = 64400 from (by decide +kernel)]
  rw [show oI 64400 n = 64400 + n from oL 64400 0 4 0 16 1]
  rw [show wH (64400 + n) = 64400 + n from wLH]

theorem ea37 {d m a : Int} (h_d : 0 ≤ d ∧ d ≤ 15) (h_m : 0 ≤ m ∧ m ≤ 15) (h_a : 0 ≤ a ∧ a ≤ 15) : (oI (oI (oI 0 m) (sI a 12)) (sI d 8) : Int) = 4096 * a + 256 * d + m := by
  rw [show oI 0 m = m from oL 0 0 4 0 16 1]
  rw [show sI a 12 = 4096 * a from sL 4096]
  rw [show oI m (4096 * a) = 4096 * a + m from oL 0 m 16 12 65536 4096]
  rw [show sI d 8 = 256 * d from sL 256]
  rw [show oI (4096 * a + m) (256 * d) = 4096 * a + 256 * d + m from oL (4096 * a) m 12 8 4096 256]

theorem ea38 {d m a : Int} (h_d : 0 ≤ d ∧ d ≤ 15) (h_m : 0 ≤ m ∧ m ≤ 15) (h_a : 0 ≤ a ∧ a ≤ 15) : (wH (oI (oI (oI (sI a 12) (sI d 8)) (sI 0 4)) m) : Int) = 4096 * a + 256 * d + m := by
  rw [show sI a 12 = 4096 * a from sL 4096]
  rw [show sI d 8 = 256 * d from sL 256]
  rw [show oI (4096 * a) (256 * d) = 4096 * a + 256 * d from oL (4096 * a) 0 12 8 4096 256]
  rw [show sI 0 4 = 0 from (by decide +kernel)]
  rw [show oI (4096 * a + 256 * d) 0 = 4096 * a + 256 * d from oL (4096 * a + 256 * d) 0 0 0 1 1]
  rw [show oI (4096 * a + 256 * d) m = 4096 * a + 256 * d + m from oL (4096 * a + 256 * d) 0 4 0 16 1]
  rw [show wH (4096 * a + 256 * d + m) = 4096 * a + 256 * d + m from wLH]

theorem ea39 {d m a : Int} (h_d : 0 ≤ d ∧ d ≤ 15) (h_m : 0 ≤ m ∧ m ≤ 15) (h_a : 0 ≤ a ∧ a ≤ 15) : (oI (oI (oI 16 m) (sI a 12)) (sI d 8) : Int) = 16 + 4096 * a + 256 * d + m := by
  rw [show oI 16 m = 16 + m from oL 16 0 4 0 16 1]
  rw [show sI a 12 = 4096 * a from sL 4096]
  rw [show oI (16 + m) (4096 * a) = 16 + 4096 * a + m from oL 0 (16 + m) 16 12 65536 4096]
  rw [show sI d 8 = 256 * d from sL 256]
  rw [show oI (16 + 4096 * a + m) (256 * d) = 16 + 4096 * a + 256 * d + m from oL (4096 * a) (16 + m) 12 8 4096 256]

theorem ea40 {d m a : Int} (h_d : 0 ≤ d ∧ d ≤ 15) (h_m : 0 ≤ m ∧ m ≤ 15) (h_a : 0 ≤ a ∧ a ≤ 15) : (wH (oI (oI (oI (sI a 12) (sI d 8)) (sI 1 4)) m) : Int) = 16 + 4096 * a + 256 * d + m := by
  rw [show sI a 12 = 4096 * a from sL 4096]
  rw [show sI d 8 = 256 * d from sL 256]
  rw [show oI (4096 * a) (256 * d) = 4096 * a + 256 * d from oL (4096 * a) 0 12 8 4096 256]
  rw [show sI 1 4 = 16 from (by decide +kernel)]
  rw [show oI (4096 * a + 256 * d) 16 = 16 + 4096 * a + 256 * d from oL (4096 * a + 256 * d) 0 5 4 32 16]
  rw [show oI (16 + 4096 * a + 256 * d) m = 16 + 4096 * a + 256 * d + m from oL (16 + 4096 * a + 256 * d) 0 4 0 16 1]
  rw [show wH (16 + 4096 * a + 256 * d + m) = 16 + 4096 * a + 256 * d + m from wLH]

theorem ea41 {n : Int} (h_n : 0 ≤ n ∧ n ≤ 15) : (oI 64384 n : Int) = 64384 + n := by
  rw [show oI 64384 n = 64384 + n from oL 64384 0 4 0 16 1]

theorem ea42 {d m a : Int} (h_d : 0 ≤ d ∧ d ≤ 15) (h_m : 0 ≤ m ∧ m ≤ 15) (h_a : 0 ≤ a ∧ a ≤ 15) : (oI (oI (oI 0 m) (sI d 12)) (sI a 8) : Int) = 4096 * d + 256 * a + m := by
  rw [show oI 0 m = m from oL 0 0 4 0 16 1]
  rw [show sI d 12 = 4096 * d from sL 4096]
  rw [show oI m (4096 * d) = 4096 * d + m from oL 0 m 16 12 65536 4096]
  rw [show sI a 8 = 256 * a from sL 256]
  rw [show oI (4096 * d + m) (256 * a) = 4096 * d + 256 * a + m from oL (4096 * d) m 12 8 4096 256]

theorem ea43 {n : Int} (h_n : 0 ≤ n ∧ n ≤ 15) : (wH (oI (oI 64384 (sI 0 5)) n) : Int) = 64384 + n := by
  rw [show oI 64384 (sI 0 5) = 64384 from (by decide +kernel)]
  rw [show oI 64384 n = 64384 + n from oL 64384 0 4 0 16 1]
  rw [show wH (64384 + n) = 64384 + n from wLH]

theorem ea44 {d m a : Int} (h_d : 0 ≤ d ∧ d ≤ 15) (h_m : 0 ≤ m ∧ m ≤ 15) (h_a : 0 ≤ a ∧ a ≤ 15) : (wH (oI (oI (sI d 12) (sI a 8)) m) : Int) = 4096 * d + 256 * a + m := by
  rw [show sI d 12 = 4096 * d from sL 4096]
  rw [show sI a 8 = 256 * a from sL 256]
  rw [show oI (4096 * d) (256 * a) = 4096 * d + 256 * a from oL (4096 * d) 0 12 8 4096 256]
  rw [show oI (4096 * d + 256 * a) m = 4096 * d + 256 * a + m from oL (4096 * d + 256 * a) 0 4 0 16 1]
  rw [show wH (4096 * d + 256 * a + m) = 4096 * d + 256 * a + m from wLH]

theorem ea45 {n : Int} (h_n : 0 ≤ n ∧ n ≤ 15) : (oI 64416 n : Int) = 64416 + n := by
  rw [show oI 64416 n = 64416 + n from oL 64416 0 4 0 16 1]

theorem ea46 {n : Int} (h_n : 0 ≤ n ∧ n ≤ 15) : (wH (oI (oI 64384 (sI (0 + 1) 5)) n) : Int) = 64416 + n := by
  rw [show oI 64384 (sI (0 + 1) 5) = 64416 from (by decide +kernel)]
  rw [show oI 64416 n = 64416 + n from oL 64416 0 4 0 16 1]
  rw [show wH (64416 + n) = 64416 + n from wLH]

theorem ea47 {n : Int} (h_n : 0 ≤ n ∧ n ≤ 15) : (oI 64448 n : Int) = 64448 + n := by
  rw [show oI 64448 n = 64448 + n from oL 64448 0 4 0 16 1]

theorem ea48 {n : Int} (h_n : 0 ≤ n ∧ n ≤ 15) : (wH (oI (oI 64384 (sI (0 + 1 + 1) 5)) n) : Int) = 64448 + n := by
  rw [show oI 64384 (sI (0 + 1 + 1) 5) = 64448 from (by decide +kernel)]
  rw [show oI 64448 n = 64448 + n from oL 64448 0 4 0 16 1]
  rw [show wH (64448 + n) = 64448 + n from wLH]

theorem ea49 {n : Int} (h_n : 0 ≤ n ∧ n ≤ 15) : (oI 64480 n : Int) = 64480 + n := by
  rw [show oI 64480 n = 64480 + n from oL 64480 0 4 0 16 1]

theorem ea50 {n : Int} (h_n : 0 ≤ n ∧ n ≤ 15) : (wH (oI (oI 64384 (sI (0 + 1 + 1 + 1) 5)) n) : Int) = 64480 + n := by
  rw [show oI 64384 (sI (0 + 1 + 1 + 1) 5) = 64480 from (by decide +kernel)]
  rw [show oI 64480 n = 64480 + n from oL 64480 0 4 0 16 1]
  rw [show wH (64480 + n) = 64480 + n from wLH]

theorem ea51 {n b : Int} (h_n : 0 ≤ n ∧ n ≤ 15) (h_b : 0 ≤ b ∧ b ≤ 1) : (oI (oI (oI (oI 59392 256) (sI (p68 (b == 1)) 5)) (sI 0 4)) n : Int) = 59648 + 32 * b + n := by
  rw [show oI 59392 256 = 59648 from (by decide +kernel)]
  rw [show p68 (b == 1) = b from p68_b (by omega)]
  rw [show sI b 5 = 32 * b from sL 32]
  rw [show oI 59648 (32 * b) = 59648 + 32 * b from oL 59648 0 6 5 64 32]
  rw [show sI 0 4 = 0 from (by decide +kernel)]
  rw [show oI (59648 + 32 * b) 0 = 59648 + 32 * b from oL (59648 + 32 * b) 0 0 0 1 1]
  rw [show oI (59648 + 32 * b) n = 59648 + 32 * b + n from oL (59648 + 32 * b) 0 4 0 16 1]

theorem ea52 {n b : Int} (h_n : 0 ≤ n ∧ n ≤ 15) (h_b : 0 ≤ b ∧ b ≤ 1) : (wH (oI (oI (oI 59648 (sI (p59 (b == 1)) 5)) (sI 0 4)) n) : Int) = 59648 + 32 * b + n := by
  rw [show p59 (b == 1) = b from p59_b (by omega)]
  rw [show sI b 5 = 32 * b from sL 32]
  rw [show oI 59648 (32 * b) = 59648 + 32 * b from oL 59648 0 6 5 64 32]
  rw [show sI 0 4 = 0 from (by decide +kernel)]
  rw [show oI (59648 + 32 * b) 0 = 59648 + 32 * b from oL (59648 + 32 * b) 0 0 0 1 1]
  rw [show oI (59648 + 32 * b) n = 59648 + 32 * b + n from oL (59648 + 32 * b) 0 4 0 16 1]
  rw [show wH (59648 + 32 * b + n) = 59648 + 32 * b + n from wLH]

theorem ea53 {l : Int} (h_l : 0 ≤ l ∧ l ≤ 65535) : (wH l : Int) = l := by
  rw [show wH l = l from wLH]

theorem ea54 {n b : Int} (h_n : 0 ≤ n ∧ n ≤ 15) (h_b : 0 ≤ b ∧ b ≤ 1) : (oI (oI (oI (oI 59392 128) (sI (p68 (b == 1)) 5)) (sI 0 4)) n : Int) = 59520 + 32 * b + n := by
  rw [show oI 59392 128 = 59520 from (by decide +kernel)]
  rw [show p68 (b == 1) = b from p68_b (by omega)]
  rw [show sI b 5 = 32 * b from sL 32]
  rw [show oI 59520 (32 * b) = 59520 + 32 * b from oL 59520 0 6 5 64 32]
  rw [show sI 0 4 = 0 from (by decide +kernel)]
  rw [show oI (59520 + 32 * b) 0 = 59520 + 32 * b from oL (59520 + 32 * b) 0 0 0 1 1]
  rw [show oI (59520 + 32 * b) n = 59520 + 32 * b + n from oL (59520 + 32 * b) 0 4 0 16 1]

theorem ea55 {n b : Int} (h_n : 0 ≤ n ∧ n ≤ 15) (h_b : 0 ≤ b ∧ b ≤ 1) : (wH (oI (oI (oI 59520 (sI (p59 (b == 1)) 5)) (sI 0 4)) n) : Int) = 59520 + 32 * b + n := by
  rw [show p59 (b == 1) = b from p59_b (by omega)]
  rw [show sI b 5 = 32 * b from sL 32]
  rw [show oI 59520 (32 * b) = 59520 + 32 * b from oL 59520 0 6 5 64 32]
  rw [show sI 0 4 = 0 from (by decide +kernel)]
  rw [show oI (59520 + 32 * b) 0 = 59520 + 32 * b from oL (59520 + 32 * b) 0 0 0 1 1]
  rw [show oI (59520 + 32 * b) n = 59520 + 32 * b + n from oL (59520 + 32 * b) 0 4 0 16 1]
  rw [show wH (59520 + 32 * b + n) = 59520 + 32 * b + n from wLH]

theorem ea56 {n b : Int} (h_n : 0 ≤ n ∧ n ≤ 15) (h_b : 0 ≤ b ∧ b ≤ 1) : (oI (oI (oI (oI 59392 256) (sI (p68 (b == 1)) 5)) (sI 1 4)) n : Int) = 59664 + 32 * b + n := by
  rw [show oI 59392 256 = 59648 from (by decide +kernel)]
  rw [show p68 (b == 1) = b from p68_b (by omega)]
  rw [show sI b 5 = 32 * b from sL 32]
  rw [show oI 59648 (32 * b) = 59648 + 32 * b from oL 59648 0 6 5 64 32]
  rw [show sI 1 4 = 16 from (by decide +kernel)]
  rw [show oI (59648 + 32 * b) 16 = 59664 + 32 * b from oL (59648 + 32 * b) 0 5 4 32 16]
  rw [show oI (59664 + 32 * b) n = 59664 + 32 * b + n from oL (59664 + 32 * b) 0 4 0 16 1]

theorem ea57 {n b : Int} (h_n : 0 ≤ n ∧ n ≤ 15) (h_b : 0 ≤ b ∧ b ≤ 1) : (wH (oI (oI (oI 59648 (sI (p59 (b == 1)) 5)) (sI 1 4)) n) : Int) = 59664 + 32 * b + n := by
  rw [show p59 (b == 1) = b from p59_b (by omega)]
  rw [show sI b 5 = 32 * b from sL 32]
  rw [show oI 59648 (32 * b) = 59648 + 32 * b from oL 59648 0 6 5 64 32]
  rw [show sI 1 4 = 16 from (by decide +kernel)]
  rw [show oI (59648 + 32 * b) 16 = 59664 + 32 * b from oL (59648 + 32 * b) 0 5 4 32 16]
  rw [show oI (59664 + 32 * b) n = 59664 + 32 * b + n from oL (59664 + 32 * b) 0 4 0 16 1]
  rw [show wH (59664 + 32 * b + n) = 59664 + 32 * b + n from wLH]

theorem ea58 {n b : Int} (h_n : 0 ≤ n ∧ n ≤ 15) (h_b : 0 ≤ b ∧ b ≤ 1) : (oI (oI (oI (oI 59392 128) (sI (p68 (b == 1)) 5)) (sI 1 4)) n : Int) = 59536 + 32 * b + n := by
  rw [show oI 59392 128 = 59520 from (by decide +kernel)]
  rw [show p68 (b == 1) = b from p68_b (by omega)]
  rw [show sI b 5 = 32 * b from sL 32]
  rw [show oI 59520 (32 * b) = 59520 + 32 * b from oL 59520 0 6 5 64 32]
  rw [show sI 1 4 = 16 from (by decide +kernel)]
  rw [show oI (59520 + 32 * b) 16 = 59536 + 32 * b from oL (59520 + 32 * b) 0 5 4 32 16]
  rw [show oI (59536 + 32 * b) n = 59536 + 32 * b + n from oL (59536 + 32 * b) 0 4 0 16 1]

theorem ea59 {n b : Int} (h_n : 0 ≤ n ∧ n ≤ 15) (h_b : 0 ≤ b ∧ b ≤ 1) : (wH (oI (oI (oI 59520 (sI (p59 (b == 1)) 5)) (sI 1 4)) n) : Int) = 59536 + 32 * b + n := by
  rw [show p59 (b == 1) = b from p59_b (by omega)]
  rw [show sI b 5 = 32 * b from sL 32]
  rw [show oI 59520 (32 * b) = 59520 + 32 * b from oL 59520 0 6 5 64 32]
  rw [show sI 1 4 = 16 from (by decide +kernel)]
  rw [show oI (59520 + 32 * b) 16 = 59536 + 32 * b from oL (59520 + 32 * b) 0 5 4 32 16]
  rw [show oI (59536 + 32 * b) n = 59536 + 32 * b + n from oL (59536 + 32 * b) 0 4 0 16 1]
  rw [show wH (59536 + 32 * b + n) = 59536 + 32 * b + n from wLH]


theorem leaf_Un0_0 {d n m s : Int} (h_d : 0 ≤ d ∧ d ≤ 15) (h_n : 0 ≤ n ∧ n ≤ 15) (h_m : 0 ≤ m ∧ m ≤ 15) (h_s : 0 ≤ s ∧ s ≤ 1)  : o35y (S30.mk 17 true (s == 1) 14 d n m 0 0 false 0 0 0 false false) = some (64000 + 16 * s + n, 61440 + 256 * d + m) ∧ [64000 + 16 * s + n, 61440 + 256 * d + m] ∈ cands (S30.mk 17 true (s == 1) 14 d n m 0 0 false 0 0 0 false false) := by
  exact ⟨row_one (by kernel_rfl) (ea0 h_n h_s) (ea1 h_d h_m), (mem_cands _).2.2.2.1 (mem_at 0 (by kernel_rfl) (ea2 h_n h_s) (ea3 h_d h_m))⟩

theorem leaf_Un0_1 {d n m s : Int} (h_d : 0 ≤ d ∧ d ≤ 15) (h_n : 0 ≤ n ∧ n ≤ 15) (h_m : 0 ≤ m ∧ m ≤ 15) (h_s : 0 ≤ s ∧ s ≤ 1)  : o35y (S30.mk 18 true (s == 1) 14 d n m 0 0 false 0 0 0 false false) = some (64032 + 16 * s + n, 61440 + 256 * d + m) ∧ [64032 + 16 * s + n, 61440 + 256 * d + m] ∈ cands (S30.mk 18 true (s == 1) 14 d n m 0 0 false 0 0 0 false false) := by
  exact ⟨row_one (by kernel_rfl) (ea4 h_n h_s) (ea1 h_d h_m), (mem_cands _).2.2.2.1 (mem_at 0 (by kernel_rfl) (ea5 h_n h_s) (ea3 h_d h_m))⟩

theorem leaf_Un0_2 {d n m s : Int} (h_d : 0 ≤ d ∧ d ≤ 15) (h_n : 0 ≤ n ∧ n ≤ 15) (h_m : 0 ≤ m ∧ m ≤ 15) (h_s : 0 ≤ s ∧ s ≤ 1)  : o35y (S30.mk 19 true (s == 1) 14 d n m 0 0 false 0 0 0 false false) = some (64064 + 16 * s + n, 61440 + 256 * d + m) ∧ [64064 + 16 * s + n, 61440 + 256 * d + m] ∈ cands (S30.mk 19 true (s == 1) 14 d n m 0 0 false 0 0 0 false false) := by
  exact ⟨row_one (by kernel_rfl) (ea6 h_n h_s) (ea1 h_d h_m), (mem_cands _).2.2.2.1 (mem_at 0 (by kernel_rfl) (ea7 h_n h_s) (ea3 h_d h_m))⟩

theorem leaf_Un0_3 {d n m s : Int} (h_d : 0 ≤ d ∧ d ≤ 15) (h_n : 0 ≤ n ∧ n ≤ 15) (h_m : 0 ≤ m ∧ m ≤ 15) (h_s : 0 ≤ s ∧ s ≤ 1)  : o35y (S30.mk 20 true (s == 1) 14 d n m 0 0 false 0 0 0 false false) = some (64096 + 16 * s + n, 61440 + 256 * d + m) ∧ [64096 + 16 * s + n, 61440 + 256 * d + m] ∈ cands (S30.mk 20 true (s == 1) 14 d n m 0 0 false 0 0 0 false false) := by
  exact ⟨row_one (by kernel_rfl) (ea8 h_n h_s) (ea1 h_d h_m), (mem_cands _).2.2.2.1 (mem_at 0 (by kernel_rfl) (ea9 h_n h_s) (ea3 h_d h_m))⟩

theorem leaf_Un1_40 {d m : Int} (h_d : 0 ≤ d ∧ d ≤ 15) (h_m : 0 ≤ m ∧ m ≤ 15)  : o35y (S30.mk 40 true false 14 d 0 m 0 0 false 0 0 0 false false) = some (64015, 61568 + 256 * d + m) ∧ [64015, 61568 + 256 * d + m] ∈ cands (S30.mk 40 true false 14 d 0 m 0 0 false 0 0 0 false false) := by
  exact ⟨row_one (by kernel_rfl) rfl (ea10 h_d h_m), (mem_cands _).2.2.2.1 (mem_at 0 (by kernel_rfl) (ea11) (ea12 h_d h_m))⟩

theorem leaf_Un1_42 {d m : Int} (h_d : 0 ≤ d ∧ d ≤ 15) (h_m : 0 ≤ m ∧ m ≤ 15)  : o35y (S30.mk 42 true false 14 d 0 m 0 0 false 0 0 0 false false) = some (64031, 61568 + 256 * d + m) ∧ [64031, 61568 + 256 * d + m] ∈ cands (S30.mk 42 true false 14 d 0 m 0 0 false 0 0 0 false false) := by
  exact ⟨row_one (by kernel_rfl) rfl (ea10 h_d h_m), (mem_cands _).2.2.2.1 (mem_at 0 (by kernel_rfl) (ea13) (ea12 h_d h_m))⟩

theorem leaf_Un1_39 {d m : Int} (h_d : 0 ≤ d ∧ d ≤ 15) (h_m : 0 ≤ m ∧ m ≤ 15)  : o35y (S30.mk 39 true false 14 d 0 m 0 0 false 0 0 0 false false) = some (64079, 61568 + 256 * d + m) ∧ [64079, 61568 + 256 * d + m] ∈ cands (S30.mk 39 true false 14 d 0 m 0 0 false 0 0 0 false false) := by
  exact ⟨row_one (by kernel_rfl) rfl (ea10 h_d h_m), (mem_cands _).2.2.2.1 (mem_at 0 (by kernel_rfl) (ea14) (ea12 h_d h_m))⟩

theorem leaf_Un1_41 {d m : Int} (h_d : 0 ≤ d ∧ d ≤ 15) (h_m : 0 ≤ m ∧ m ≤ 15)  : o35y (S30.mk 41 true false 14 d 0 m 0 0 false 0 0 0 false false) = some (64095, 61568 + 256 * d + m) ∧ [64095, 61568 + 256 * d + m] ∈ cands (S30.mk 41 true false 14 d 0 m 0 0 false 0 0 0 false false) := by
  exact ⟨row_one (by kernel_rfl) rfl (ea10 h_d h_m), (mem_cands _).2.2.2.1 (mem_at 0 (by kernel_rfl) (ea15) (ea12 h_d h_m))⟩

theorem leaf_Un1_36 {d m : Int} (h_d : 0 ≤ d ∧ d ≤ 15) (h_m : 0 ≤ m ∧ m ≤ 15)  : o35y (S30.mk 36 true false 14 d 0 m 0 0 false 0 0 0 false false) = some (64144 + m, 61568 + 256 * d + m) ∧ [64144 + m, 61568 + 256 * d + m] ∈ cands (S30.mk 36 true false 14 d 0 m 0 0 false 0 0 0 false false) := by
  exact ⟨row_one (by kernel_rfl) (ea16 h_m) (ea17 h_d h_m), (mem_cands _).2.2.2.1 (mem_at 0 (by kernel_rfl) (ea18 h_m) (ea19 h_d h_m))⟩

theorem leaf_Un1_37 {d m : Int} (h_d : 0 ≤ d ∧ d ≤ 15) (h_m : 0 ≤ m ∧ m ≤ 15)  : o35y (S30.mk 37 true false 14 d 0 m 0 0 false 0 0 0 false false) = some (64144 + m, 61584 + 256 * d + m) ∧ [64144 + m, 61584 + 256 * d + m] ∈ cands (S30.mk 37 true false 14 d 0 m 0 0 false 0 0 0 false false) := by
  exact ⟨row_one (by kernel_rfl) (ea16 h_m) (ea20 h_d h_m), (mem_cands _).2.2.2.1 (mem_at 0 (by kernel_rfl) (ea18 h_m) (ea21 h_d h_m))⟩

theorem leaf_Un1_35 {d m : Int} (h_d : 0 ≤ d ∧ d ≤ 15) (h_m : 0 ≤ m ∧ m ≤ 15)  : o35y (S30.mk 35 true false 14 d 0 m 0 0 false 0 0 0 false false) = some (64144 + m, 61600 + 256 * d + m) ∧ [64144 + m, 61600 + 256 * d + m] ∈ cands (S30.mk 35 true false 14 d 0 m 0 0 false 0 0 0 false false) := by
  exact ⟨row_one (by kernel_rfl) (ea16 h_m) (ea22 h_d h_m), (mem_cands _).2.2.2.1 (mem_at 0 (by kernel_rfl) (ea18 h_m) (ea23 h_d h_m))⟩

theorem leaf_Un1_38 {d m : Int} (h_d : 0 ≤ d ∧ d ≤ 15) (h_m : 0 ≤ m ∧ m ≤ 15)  : o35y (S30.mk 38 true false 14 d 0 m 0 0 false 0 0 0 false false) = some (64144 + m, 61616 + 256 * d + m) ∧ [64144 + m, 61616 + 256 * d + m] ∈ cands (S30.mk 38 true false 14 d 0 m 0 0 false 0 0 0 false false) := by
  exact ⟨row_one (by kernel_rfl) (ea16 h_m) (ea24 h_d h_m), (mem_cands _).2.2.2.1 (mem_at 0 (by kernel_rfl) (ea18 h_m) (ea25 h_d h_m))⟩

theorem leaf_Un1_34 {d m : Int} (h_d : 0 ≤ d ∧ d ≤ 15) (h_m : 0 ≤ m ∧ m ≤ 15)  : o35y (S30.mk 34 true false 14 d 0 m 0 0 false 0 0 0 false false) = some (64176 + m, 61568 + 256 * d + m) ∧ [64176 + m, 61568 + 256 * d + m] ∈ cands (S30.mk 34 true false 14 d 0 m 0 0 false 0 0 0 false false) := by
  exact ⟨row_one (by kernel_rfl) (ea26 h_m) (ea10 h_d h_m), (mem_cands _).2.2.2.1 (mem_at 0 (by kernel_rfl) (ea27 h_m) (ea12 h_d h_m))⟩

theorem leaf_Lo0_21 {d n m : Int} (h_d : 0 ≤ d ∧ d ≤ 15) (h_n : 0 ≤ n ∧ n ≤ 15) (h_m : 0 ≤ m ∧ m ≤ 15)  : o35y (S30.mk 21 true false 14 d n m 0 0 false 0 0 0 false false) = some (64256 + n, 61440 + 256 * d + m) ∧ [64256 + n, 61440 + 256 * d + m] ∈ cands (S30.mk 21 true false 14 d n m 0 0 false 0 0 0 false false) := by
  exact ⟨row_one (by kernel_rfl) (ea28 h_n) (ea29 h_d h_m), (mem_cands _).2.2.2.2.1 (mem_at 0 (by kernel_rfl) (ea30 h_n) (ea3 h_d h_m))⟩

theorem leaf_Lo0_28 {d n m : Int} (h_d : 0 ≤ d ∧ d ≤ 15) (h_n : 0 ≤ n ∧ n ≤ 15) (h_m : 0 ≤ m ∧ m ≤ 15)  : o35y (S30.mk 28 true false 14 d n m 0 0 false 0 0 0 false false) = some (64432 + n, 61680 + 256 * d + m) ∧ [64432 + n, 61680 + 256 * d + m] ∈ cands (S30.mk 28 true false 14 d n m 0 0 false 0 0 0 false false) := by
  exact ⟨row_one (by kernel_rfl) (ea31 h_n) (ea32 h_d h_m), (mem_cands _).2.2.2.2.1 (mem_at 0 (by kernel_rfl) (ea33 h_n) (ea34 h_d h_m))⟩

theorem leaf_Lo0_29 {d n m : Int} (h_d : 0 ≤ d ∧ d ≤ 15) (h_n : 0 ≤ n ∧ n ≤ 15) (h_m : 0 ≤ m ∧ m ≤ 15)  : o35y (S30.mk 29 true false 14 d n m 0 0 false 0 0 0 false false) = some (64400 + n, 61680 + 256 * d + m) ∧ [64400 + n, 61680 + 256 * d + m] ∈ cands (S30.mk 29 true false 14 d n m 0 0 false 0 0 0 false false) := by
  exact ⟨row_one (by kernel_rfl) (ea35 h_n) (ea32 h_d h_m), (mem_cands _).2.2.2.2.1 (mem_at 0 (by kernel_rfl) (ea36 h_n) (ea34 h_d h_m))⟩

theorem leaf_Lo1_22 {d n m a : Int} (h_d : 0 ≤ d ∧ d ≤ 15) (h_n : 0 ≤ n ∧ n ≤ 15) (h_m : 0 ≤ m ∧ m ≤ 15) (h_a : 0 ≤ a ∧ a ≤ 15)  : o35y (S30.mk 22 true false 14 d n m a 0 false 0 0 0 false false) = some (64256 + n, 4096 * a + 256 * d + m) ∧ [64256 + n, 4096 * a + 256 * d + m] ∈ cands (S30.mk 22 true false 14 d n m a 0 false 0 0 0 false false) := by
  exact ⟨row_one (by kernel_rfl) (ea28 h_n) (ea37 h_d h_m h_a), (mem_cands _).2.2.2.2.1 (mem_at 0 (by kernel_rfl) (ea30 h_n) (ea38 h_d h_m h_a))⟩

theorem leaf_Lo1_23 {d n m a : Int} (h_d : 0 ≤ d ∧ d ≤ 15) (h_n : 0 ≤ n ∧ n ≤ 15) (h_m : 0 ≤ m ∧ m ≤ 15) (h_a : 0 ≤ a ∧ a ≤ 15)  : o35y (S30.mk 23 true false 14 d n m a 0 false 0 0 0 false false) = some (64256 + n, 16 + 4096 * a + 256 * d + m) ∧ [64256 + n, 16 + 4096 * a + 256 * d + m] ∈ cands (S30.mk 23 true false 14 d n m a 0 false 0 0 0 false false) := by
  exact ⟨row_one (by kernel_rfl) (ea28 h_n) (ea39 h_d h_m h_a), (mem_cands _).2.2.2.2.1 (mem_at 0 (by kernel_rfl) (ea30 h_n) (ea40 h_d h_m h_a))⟩

theorem leaf_Lo1_25 {d n m a : Int} (h_d : 0 ≤ d ∧ d ≤ 15) (h_n : 0 ≤ n ∧ n ≤ 15) (h_m : 0 ≤ m ∧ m ≤ 15) (h_a : 0 ≤ a ∧ a ≤ 15)  : o35y (S30.mk 25 true false 14 d n m a 0 false 0 0 0 false false) = some (64384 + n, 4096 * d + 256 * a + m) ∧ [64384 + n, 4096 * d + 256 * a + m] ∈ cands (S30.mk 25 true false 14 d n m a 0 false 0 0 0 false false) := by
  exact ⟨row_one (by kernel_rfl) (ea41 h_n) (ea42 h_d h_m h_a), (mem_cands _).2.2.2.2.1 (mem_at 0 (by kernel_rfl) (ea43 h_n) (ea44 h_d h_m h_a))⟩

theorem leaf_Lo1_24 {d n m a : Int} (h_d : 0 ≤ d ∧ d ≤ 15) (h_n : 0 ≤ n ∧ n ≤ 15) (h_m : 0 ≤ m ∧ m ≤ 15) (h_a : 0 ≤ a ∧ a ≤ 15)  : o35y (S30.mk 24 true false 14 d n m a 0 false 0 0 0 false false) = some (64416 + n, 4096 * d + 256 * a + m) ∧ [64416 + n, 4096 * d + 256 * a + m] ∈ cands (S30.mk 24 true false 14 d n m a 0 false 0 0 0 false false) := by
  exact ⟨row_one (by kernel_rfl) (ea45 h_n) (ea42 h_d h_m h_a), (mem_cands _).2.2.2.2.1 (mem_at 0 (by kernel_rfl) (ea46 h_n) (ea44 h_d h_m h_a))⟩

theorem leaf_Lo1_27 {d n m a : Int} (h_d : 0 ≤ d ∧ d ≤ 15) (h_n : 0 ≤ n ∧ n ≤ 15) (h_m : 0 ≤ m ∧ m ≤ 15) (h_a : 0 ≤ a ∧ a ≤ 15)  : o35y (S30.mk 27 true false 14 d n m a 0 false 0 0 0 false false) = some (64448 + n, 4096 * d + 256 * a + m) ∧ [64448 + n, 4096 * d + 256 * a + m] ∈ cands (S30.mk 27 true false 14 d n m a 0 false 0 0 0 false false) := by
  exact ⟨row_one (by kernel_rfl) (ea47 h_n) (ea42 h_d h_m h_a), (mem_cands _).2.2.2.2.1 (mem_at 0 (by kernel_rfl) (ea48 h_n) (ea44 h_d h_m h_a))⟩

theorem leaf_Lo1_26 {d n m a : Int} (h_d : 0 ≤ d ∧ d ≤ 15) (h_n : 0 ≤ n ∧ n ≤ 15) (h_m : 0 ≤ m ∧ m ≤ 15) (h_a : 0 ≤ a ∧ a ≤ 15)  : o35y (S30.mk 26 true false 14 d n m a 0 false 0 0 0 false false) = some (64480 + n, 4096 * d + 256 * a + m) ∧ [64480 + n, 4096 * d + 256 * a + m] ∈ cands (S30.mk 26 true false 14 d n m a 0 false 0 0 0 false false) := by
  exact ⟨row_one (by kernel_rfl) (ea49 h_n) (ea42 h_d h_m h_a), (mem_cands _).2.2.2.2.1 (mem_at 0 (by kernel_rfl) (ea50 h_n) (ea44 h_d h_m h_a))⟩

theorem leaf_Ma_53_true {n l b : Int} (h_n : 0 ≤ n ∧ n ≤ 15) (h_l : 0 ≤ l ∧ l ≤ 65535) (h_b : 0 ≤ b ∧ b ≤ 1)  : o35y (S30.mk 53 true false 14 0 n 0 0 0 false 0 0 l (b == 1) true) = some (59648 + 32 * b + n, l) ∧ [59648 + 32 * b + n, l] ∈ cands (S30.mk 53 true false 14 0 n 0 0 0 false 0 0 l (b == 1) true) := by
  exact ⟨row_one (by kernel_rfl) (ea51 h_n h_b) rfl, (mem_cands _).2.2.2.2.2.2 (mem_at 0 (by kernel_rfl) (ea52 h_n h_b) (ea53 h_l))⟩

theorem leaf_Ma_53_false {n l b : Int} (h_n : 0 ≤ n ∧ n ≤ 15) (h_l : 0 ≤ l ∧ l ≤ 65535) (h_b : 0 ≤ b ∧ b ≤ 1)  : o35y (S30.mk 53 true false 14 0 n 0 0 0 false 0 0 l (b == 1) false) = some (59520 + 32 * b + n, l) ∧ [59520 + 32 * b + n, l] ∈ cands (S30.mk 53 true false 14 0 n 0 0 0 false 0 0 l (b == 1) false) := by
  exact ⟨row_one (by kernel_rfl) (ea54 h_n h_b) rfl, (mem_cands _).2.2.2.2.2.2 (mem_at 0 (by kernel_rfl) (ea55 h_n h_b) (ea53 h_l))⟩

theorem leaf_Ma_52_true {n l b : Int} (h_n : 0 ≤ n ∧ n ≤ 15) (h_l : 0 ≤ l ∧ l ≤ 65535) (h_b : 0 ≤ b ∧ b ≤ 1)  : o35y (S30.mk 52 true false 14 0 n 0 0 0 false 0 0 l (b == 1) true) = some (59664 + 32 * b + n, l) ∧ [59664 + 32 * b + n, l] ∈ cands (S30.mk 52 true false 14 0 n 0 0 0 false 0 0 l (b == 1) true) := by
  exact ⟨row_one (by kernel_rfl) (ea56 h_n h_b) rfl, (mem_cands _).2.2.2.2.2.2 (mem_at 0 (by kernel_rfl) (ea57 h_n h_b) (ea53 h_l))⟩

theorem leaf_Ma_52_false {n l b : Int} (h_n : 0 ≤ n ∧ n ≤ 15) (h_l : 0 ≤ l ∧ l ≤ 65535) (h_b : 0 ≤ b ∧ b ≤ 1)  : o35y (S30.mk 52 true false 14 0 n 0 0 0 false 0 0 l (b == 1) false) = some (59536 + 32 * b + n, l) ∧ [59536 + 32 * b + n, l] ∈ cands (S30.mk 52 true false 14 0 n 0 0 0 false 0 0 l (b == 1) false) := by
  exact ⟨row_one (by kernel_rfl) (ea58 h_n h_b) rfl, (mem_cands _).2.2.2.2.2.2 (mem_at 0 (by kernel_rfl) (ea59 h_n h_b) (ea53 h_l))⟩

end Go.Den
