import Derived.Test.YtihdbaehaiaiiaaY13a
set_option linter.unusedSimpArgs false
set_option linter.unusedVariables false
set_option maxRecDepth 100000
namespace Go.Den

noncomputable def p84' (op d n : Int) : Int × Int × Int := p84 op true false 14 d n 0 0 0 false 0 0 0 false false
noncomputable def p57' (op d n : Int) : Int × Int × Int := p57 op true false 14 d n 0 0 0 false 0 0 0 false false

theorem ee0 {o n s i p e : Int} (h_o : 0 ≤ o ∧ o ≤ 15) (h_n : 0 ≤ n ∧ n ≤ 15) (h_s : 0 ≤ s ∧ s ≤ 1) (h_i : 0 ≤ i ∧ i ≤ 1) (h_p : 0 ≤ p ∧ p ≤ 7) (h_e : 0 ≤ e ∧ e ≤ 255) : (oI (oI (oI (oI 61440 (sI (aI (rI (wI (2048 * i + 256 * p + e)) 11) 1) 10)) (sI o 5)) (sI (p68 (s == 1)) 4)) n : Int) = 61440 + 1024 * i + 32 * o + 16 * s + n := by
  rw [show wI (2048 * i + 256 * p + e) = 2048 * i + 256 * p + e from wLI]
  rw [show rI (2048 * i + 256 * p + e) 11 = i from rL (256 * p + e) 2048]
  rw [show aI i 1 = i from aL 0 1 2]
  rw [show sI i 10 = 1024 * i from sL 1024]
  rw [show oI 61440 (1024 * i) = 61440 + 1024 * i from oL 61440 0 11 10 2048 1024]
  rw [show sI o 5 = 32 * o from sL 32]
  rw [show oI (61440 + 1024 * i) (32 * o) = 61440 + 1024 * i + 32 * o from oL (61440 + 1024 * i) 0 9 5 512 32]
  rw [show p68 (s == 1) = s from p68_b (by omega)]
  rw [show sI s 4 = 16 * s from sL 16]
  rw [show oI (61440 + 1024 * i + 32 * o) (16 * s) = 61440 + 1024 * i + 32 * o + 16 * s from oL (61440 + 1024 * i + 32 * o) 0 5 4 32 16]
  rw [show oI (61440 + 1024 * i + 32 * o + 16 * s) n = 61440 + 1024 * i + 32 * o + 16 * s + n from oL (61440 + 1024 * i + 32 * o + 16 * s) 0 4 0 16 1]

theorem ee1 {d i p e : Int} (h_d : 0 ≤ d ∧ d ≤ 15) (h_i : 0 ≤ i ∧ i ≤ 1) (h_p : 0 ≤ p ∧ p ≤ 7) (h_e : 0 ≤ e ∧ e ≤ 255) : (oI (oI (sI (aI (rI (wI (2048 * i + 256 * p + e)) 8) 7) 12) (sI d 8)) (aI (wI (2048 * i + 256 * p + e)) 255) : Int) = 4096 * p + 256 * d + e := by
  rw [show wI (2048 * i + 256 * p + e) = 2048 * i + 256 * p + e from wLI]
  rw [show rI (2048 * i + 256 * p + e) 8 = 8 * i + p from rL e 256]
  rw [show aI (8 * i + p) 7 = p from aL (8 * i) 3 8]
  rw [show sI p 12 = 4096 * p from sL 4096]
  rw [show sI d 8 = 256 * d from sL 256]
  rw [show oI (4096 * p) (256 * d) = 4096 * p + 256 * d from oL (4096 * p) 0 12 8 4096 256]
  try rw [show wI (2048 * i + 256 * p + e) = 2048 * i + 256 * p + e from wLI]
  rw [show aI (2048 * i + 256 * p + e) 255 = e from aL (2048 * i + 256 * p) 8 256]
  rw [show oI (4096 * p + 256 * d) e = 4096 * p + 256 * d + e from oL (4096 * p + 256 * d) 0 8 0 256 1]

theorem ee2 {o n s i p e : Int} (h_o : 0 ≤ o ∧ o ≤ 15) (h_n : 0 ≤ n ∧ n ≤ 15) (h_s : 0 ≤ s ∧ s ≤ 1) (h_i : 0 ≤ i ∧ i ≤ 1) (h_p : 0 ≤ p ∧ p ≤ 7) (h_e : 0 ≤ e ∧ e ≤ 255) : (wH (oI (oI 61440 (sI (aI (rI (wI (2048 * i + 256 * p + e)) 11) 1) 10)) (oI (oI (sI o 5) (sI (p59 (s == 1)) 4)) n)) : Int) = 61440 + 1024 * i + 32 * o + 16 * s + n := by
  rw [show wI (2048 * i + 256 * p + e) = 2048 * i + 256 * p + e from wLI]
  rw [show rI (2048 * i + 256 * p + e) 11 = i from rL (256 * p + e) 2048]
  rw [show aI i 1 = i from aL 0 1 2]
  rw [show sI i 10 = 1024 * i from sL 1024]
  rw [show oI 61440 (1024 * i) = 61440 + 1024 * i from oL 61440 0 11 10 2048 1024]
  rw [show sI o 5 = 32 * o from sL 32]
  rw [show p59 (s == 1) = s from p59_b (by omega)]
  rw [show sI s 4 = 16 * s from sL 16]
  rw [show oI (32 * o) (16 * s) = 32 * o + 16 * s from oL (32 * o) 0 5 4 32 16]
  rw [show oI (32 * o + 16 * s) n = 32 * o + 16 * s + n from oL (32 * o + 16 * s) 0 4 0 16 1]
  rw [show oI (61440 + 1024 * i) (32 * o + 16 * s + n) = 61440 + 1024 * i + 32 * o + 16 * s + n from oL (61440 + 1024 * i) 0 9 0 512 1]
  rw [show wH (61440 + 1024 * i + 32 * o + 16 * s + n) = 61440 + 1024 * i + 32 * o + 16 * s + n from wLH]

theorem ee3 {d i p e : Int} (h_d : 0 ≤ d ∧ d ≤ 15) (h_i : 0 ≤ i ∧ i ≤ 1) (h_p : 0 ≤ p ∧ p ≤ 7) (h_e : 0 ≤ e ∧ e ≤ 255) : (wH (oI (oI (sI (aI (rI (wI (2048 * i + 256 * p + e)) 8) 7) 12) (aI (wI (2048 * i + 256 * p + e)) 255)) (sI d 8)) : Int) = 4096 * p + 256 * d + e := by
  rw [show wI (2048 * i + 256 * p + e) = 2048 * i + 256 * p + e from wLI]
  rw [show rI (2048 * i + 256 * p + e) 8 = 8 * i + p from rL e 256]
  rw [show aI (8 * i + p) 7 = p from aL (8 * i) 3 8]
  rw [show sI p 12 = 4096 * p from sL 4096]
  try rw [show wI (2048 * i + 256 * p + e) = 2048 * i + 256 * p + e from wLI]
  rw [show aI (2048 * i + 256 * p + e) 255 = e from aL (2048 * i + 256 * p) 8 256]
  rw [show oI (4096 * p) e = 4096 * p + e from oL (4096 * p) 0 8 0 256 1]
  rw [show sI d 8 = 256 * d from sL 256]
  rw [show oI (4096 * p + e) (256 * d) = 4096 * p + 256 * d + e from oL (4096 * p) e 12 8 4096 256]
  rw [show wH (4096 * p + 256 * d + e) = 4096 * p + 256 * d + e from wLH]

theorem ee4 {o n s : Int} (h_o : 0 ≤ o ∧ o ≤ 15) (h_n : 0 ≤ n ∧ n ≤ 15) (h_s : 0 ≤ s ∧ s ≤ 1) : (oI (oI (oI 59904 (sI o 5)) (sI (p68 (s == 1)) 4)) n : Int) = 59904 + 32 * o + 16 * s + n := by
  rw [show sI o 5 = 32 * o from sL 32]
  rw [show oI 59904 (32 * o) = 59904 + 32 * o from oL 59904 0 9 5 512 32]
  rw [show p68 (s == 1) = s from p68_b (by omega)]
  rw [show sI s 4 = 16 * s from sL 16]
  rw [show oI (59904 + 32 * o) (16 * s) = 59904 + 32 * o + 16 * s from oL (59904 + 32 * o) 0 5 4 32 16]
  rw [show oI (59904 + 32 * o + 16 * s) n = 59904 + 32 * o + 16 * s + n from oL (59904 + 32 * o + 16 * s) 0 4 0 16 1]

theorem ee5 {d m : Int} (h_d : 0 ≤ d ∧ d ≤ 15) (h_m : 0 ≤ m ∧ m ≤ 15) : (oI (oI (oI (oI (sI (rI (aI 0 31) 2) 12) (sI d 8)) (sI (aI (aI 0 31) 3) 6)) (sI 0 4)) m : Int) = 256 * d + m := by
  rw [show sI (rI (aI 0 31) 2) 12 = 0 from (by decide +kernel)]
  rw [show sI d 8 = 256 * d from sL 256]
  rw [show oI 0 (256 * d) = 256 * d from oL 0 0 12 8 4096 256]
  rw [show sI (aI (aI 0 31) 3) 6 = 0 from (by decide +kernel)]
  rw [show oI (256 * d) 0 = 256 * d from oL (256 * d) 0 0 0 1 1]
  rw [show sI 0 4 = 0 from (by decide +kernel)]
  try rw [show oI (256 * d) 0 = 256 * d from oL (256 * d) 0 0 0 1 1]
  rw [show oI (256 * d) m = 256 * d + m from oL (256 * d) 0 4 0 16 1]

theorem ee6 {o n s : Int} (h_o : 0 ≤ o ∧ o ≤ 15) (h_n : 0 ≤ n ∧ n ≤ 15) (h_s : 0 ≤ s ∧ s ≤ 1) : (wH (oI 59904 (oI (oI (sI o 5) (sI (p59 (s == 1)) 4)) n)) : Int) = 59904 + 32 * o + 16 * s + n := by
  rw [show sI o 5 = 32 * o from sL 32]
  rw [show p59 (s == 1) = s from p59_b (by omega)]
  rw [show sI s 4 = 16 * s from sL 16]
  rw [show oI (32 * o) (16 * s) = 32 * o + 16 * s from oL (32 * o) 0 5 4 32 16]
  rw [show oI (32 * o + 16 * s) n = 32 * o + 16 * s + n from oL (32 * o + 16 * s) 0 4 0 16 1]
  rw [show oI 59904 (32 * o + 16 * s + n) = 59904 + 32 * o + 16 * s + n from oL 59904 0 9 0 512 1]
  rw [show wH (59904 + 32 * o + 16 * s + n) = 59904 + 32 * o + 16 * s + n from wLH]

theorem ee7 {d m : Int} (h_d : 0 ≤ d ∧ d ≤ 15) (h_m : 0 ≤ m ∧ m ≤ 15) : (wH (oI (oI (oI (oI (sI (rI (aI 0 31) 2) 12) (sI d 8)) (sI (aI (aI 0 31) 3) 6)) (sI 0 4)) m) : Int) = 256 * d + m := by
  rw [show sI (rI (aI 0 31) 2) 12 = 0 from (by decide +kernel)]
  rw [show sI d 8 = 256 * d from sL 256]
  rw [show oI 0 (256 * d) = 256 * d from oL 0 0 12 8 4096 256]
  rw [show sI (aI (aI 0 31) 3) 6 = 0 from (by decide +kernel)]
  rw [show oI (256 * d) 0 = 256 * d from oL (256 * d) 0 0 0 1 1]
  rw [show sI 0 4 = 0 from (by decide +kernel)]
  try rw [show oI (256 * d) 0 = 256 * d from oL (256 * d) 0 0 0 1 1]
  rw [show oI (256 * d) m = 256 * d + m from oL (256 * d) 0 4 0 16 1]
  rw [show wH (256 * d + m) = 256 * d + m from wLH]

theorem ee8 {d m p g : Int} (h_d : 0 ≤ d ∧ d ≤ 15) (h_m : 0 ≤ m ∧ m ≤ 15) (h_p : 0 ≤ p ∧ p ≤ 7) (h_g : 0 ≤ g ∧ g ≤ 3) : (oI (oI (oI (oI (sI (rI (aI (4 * p + g) 31) 2) 12) (sI d 8)) (sI (aI (aI (4 * p + g) 31) 3) 6)) (sI 0 4)) m : Int) = 4096 * p + 256 * d + 64 * g + m := by
  rw [show aI (4 * p + g) 31 = 4 * p + g from aL 0 5 32]
  rw [show rI (4 * p + g) 2 = p from rL g 4]
  rw [show sI p 12 = 4096 * p from sL 4096]
  rw [show sI d 8 = 256 * d from sL 256]
  rw [show oI (4096 * p) (256 * d) = 4096 * p + 256 * d from oL (4096 * p) 0 12 8 4096 256]
  try rw [show aI (4 * p + g) 31 = 4 * p + g from aL 0 5 32]
  rw [show aI (4 * p + g) 3 = g from aL (4 * p) 2 4]
  rw [show sI g 6 = 64 * g from sL 64]
  rw [show oI (4096 * p + 256 * d) (64 * g) = 4096 * p + 256 * d + 64 * g from oL (4096 * p + 256 * d) 0 8 6 256 64]
  rw [show sI 0 4 = 0 from (by decide +kernel)]
  rw [show oI (4096 * p + 256 * d + 64 * g) 0 = 4096 * p + 256 * d + 64 * g from oL (4096 * p + 256 * d + 64 * g) 0 0 0 1 1]
  rw [show oI (4096 * p + 256 * d + 64 * g) m = 4096 * p + 256 * d + 64 * g + m from oL (4096 * p + 256 * d + 64 * g) 0 4 0 16 1]

theorem ee9 {d m p g : Int} (h_d : 0 ≤ d ∧ d ≤ 15) (h_m : 0 ≤ m ∧ m ≤ 15) (h_p : 0 ≤ p ∧ p ≤ 7) (h_g : 0 ≤ g ∧ g ≤ 3) : (wH (oI (oI (oI (oI (sI (rI (aI (4 * p + g) 31) 2) 12) (sI d 8)) (sI (aI (aI (4 * p + g) 31) 3) 6)) (sI 0 4)) m) : Int) = 4096 * p + 256 * d + 64 * g + m := by
  rw [show aI (4 * p + g) 31 = 4 * p + g from aL 0 5 32]
  rw [show rI (4 * p + g) 2 = p from rL g 4]
  rw [show sI p 12 = 4096 * p from sL 4096]
  rw [show sI d 8 = 256 * d from sL 256]
  rw [show oI (4096 * p) (256 * d) = 4096 * p + 256 * d from oL (4096 * p) 0 12 8 4096 256]
  try rw [show aI (4 * p + g) 31 = 4 * p + g from aL 0 5 32]
  rw [show aI (4 * p + g) 3 = g from aL (4 * p) 2 4]
  rw [show sI g 6 = 64 * g from sL 64]
  rw [show oI (4096 * p + 256 * d) (64 * g) = 4096 * p + 256 * d + 64 * g from oL (4096 * p + 256 * d) 0 8 6 256 64]
  rw [show sI 0 4 = 0 from (by decide +kernel)]
  rw [show oI (4096 * p + 256 * d + 64 * g) 0 = 4096 * p + 256 * d + 64 * g from oL (4096 * p + 256 * d + 64 * g) 0 0 0 1 1]
  rw [show oI (4096 * p + 256 * d + 64 * g) m = 4096 * p + 256 * d + 64 * g + m from oL (4096 * p + 256 * d + 64 * g) 0 4 0 16 1]
  rw [show wH (4096 * p + 256 * d + 64 * g + m) = 4096 * p + 256 * d + 64 * g + m from wLH]

theorem ee10 {d m p g : Int} (h_d : 0 ≤ d ∧ d ≤ 15) (h_m : 0 ≤ m ∧ m ≤ 15) (h_p : 0 ≤ p ∧ p ≤ 7) (h_g : 0 ≤ g ∧ g ≤ 3) : (oI (oI (oI (oI (sI (rI (aI (4 * p + g) 31) 2) 12) (sI d 8)) (sI (aI (aI (4 * p + g) 31) 3) 6)) (sI 1 4)) m : Int) = 16 + 4096 * p + 256 * d + 64 * g + m := by
  rw [show aI (4 * p + g) 31 = 4 * p + g from aL 0 5 32]
  rw [show rI (4 * p + g) 2 = p from rL g 4]
  rw [show sI p 12 = 4096 * p from sL 4096]
  rw [show sI d 8 = 256 * d from sL 256]
  rw [show oI (4096 * p) (256 * d) = 4096 * p + 256 * d from oL (4096 * p) 0 12 8 4096 256]
  try rw [show aI (4 * p + g) 31 = 4 * p + g from aL 0 5 32]
  rw [show aI (4 * p + g) 3 = g from aL (4 * p) 2 4]
  rw [show sI g 6 = 64 * g from sL 64]
  rw [show oI (4096 * p + 256 * d) (64 * g) = 4096 * p + 256 * d + 64 * g from oL (4096 * p + 256 * d) 0 8 6 256 64]
  rw [show sI 1 4 = 16 from (by decide +kernel)]
  rw [show oI (4096 * p + 256 * d + 64 * g) 16 = 16 + 4096 * p + 256 * d + 64 * g from oL (4096 * p + 256 * d + 64 * g) 0 5 4 32 16]
  rw [show oI (16 + 4096 * p + 256 * d + 64 * g) m = 16 + 4096 * p + 256 * d + 64 * g + m from oL (16 + 4096 * p + 256 * d + 64 * g) 0 4 0 16 1]

theorem ee11 {d m p g : Int} (h_d : 0 ≤ d ∧ d ≤ 15) (h_m : 0 ≤ m ∧ m ≤ 15) (h_p : 0 ≤ p ∧ p ≤ 7) (h_g : 0 ≤ g ∧ g ≤ 3) : (wH (oI (oI (oI (oI (sI (rI (aI (4 * p + g) 31) 2) 12) (sI d 8)) (sI (aI (aI (4 * p + g) 31) 3) 6)) (sI 1 4)) m) : Int) = 16 + 4096 * p + 256 * d + 64 * g + m := by
  rw [show aI (4 * p + g) 31 = 4 * p + g from aL 0 5 32]
  rw [show rI (4 * p + g) 2 = p from rL g 4]
  rw [show sI p 12 = 4096 * p from sL 4096]
  rw [show sI d 8 = 256 * d from sL 256]
  rw [show oI (4096 * p) (256 * d) = 4096 * p + 256 * d from oL (4096 * p) 0 12 8 4096 256]
  try rw [show aI (4 * p + g) 31 = 4 * p + g from aL 0 5 32]
  rw [show aI (4 * p + g) 3 = g from aL (4 * p) 2 4]
  rw [show sI g 6 = 64 * g from sL 64]
  rw [show oI (4096 * p + 256 * d) (64 * g) = 4096 * p + 256 * d + 64 * g from oL (4096 * p + 256 * d) 0 8 6 256 64]
  rw [show sI 1 4 = 16 from (by decide +kernel)]
  rw [show oI (4096 * p + 256 * d + 64 * g) 16 = 16 + 4096 * p + 256 * d + 64 * g from oL (4096 * p + 256 * d + 64 * g) 0 5 4 32 16]
  rw [show oI (16 + 4096 * p + 256 * d + 64 * g) m = 16 + 4096 * p + 256 * d + 64 * g + m from oL (16 + 4096 * p + 256 * d + 64 * g) 0 4 0 16 1]
  rw [show wH (16 + 4096 * p + 256 * d + 64 * g + m) = 16 + 4096 * p + 256 * d + 64 * g + m from wLH]

theorem ee12 {d m p g : Int} (h_d : 0 ≤ d ∧ d ≤ 15) (h_m : 0 ≤ m ∧ m ≤ 15) (h_p : 0 ≤ p ∧ p ≤ 7) (h_g : 0 ≤ g ∧ g ≤ 3) : (oI (oI (oI (oI (sI (rI (aI (4 * p + g) 31) 2) 12) (sI d 8)) (sI (aI (aI (4 * p + g) 31) 3) 6)) (sI 2 4)) m : Int) = 32 + 4096 * p + 256 * d + 64 * g + m := by
  rw [show aI (4 * p + g) 31 = 4 * p + g from aL 0 5 32]
  rw [show rI (4 * p + g) 2 = p from rL g 4]
  rw [show sI p 12 = 4096 * p from sL 4096]
  rw [show sI d 8 = 256 * d from sL 256]
  rw [show oI (4096 * p) (256 * d) = 4096 * p + 256 * d from oL (4096 * p) 0 12 8 4096 256]
  try rw [show aI (4 * p + g) 31 = 4 * p + g from aL 0 5 32]
  rw [show aI (4 * p + g) 3 = g from aL (4 * p) 2 4]
  rw [show sI g 6 = 64 * g from sL 64]
  rw [show oI (4096 * p + 256 * d) (64 * g) = 4096 * p + 256 * d + 64 * g from oL (4096 * p + 256 * d) 0 8 6 256 64]
  rw [show sI 2 4 = 32 from (by decide +kernel)]
  rw [show oI (4096 * p + 256 * d + 64 * g) 32 = 32 + 4096 * p + 256 * d + 64 * g from oL (4096 * p + 256 * d + 64 * g) 0 6 5 64 32]
  rw [show oI (32 + 4096 * p + 256 * d + 64 * g) m = 32 + 4096 * p + 256 * d + 64 * g + m from oL (32 + 4096 * p + 256 * d + 64 * g) 0 4 0 16 1]

theorem ee13 {d m p g : Int} (h_d : 0 ≤ d ∧ d ≤ 15) (h_m : 0 ≤ m ∧ m ≤ 15) (h_p : 0 ≤ p ∧ p ≤ 7) (h_g : 0 ≤ g ∧ g ≤ 3) : (wH (oI (oI (oI (oI (sI (rI (aI (4 * p + g) 31) 2) 12) (sI d 8)) (sI (aI (aI (4 * p + g) 31) 3) 6)) (sI 2 4)) m) : Int) = 32 + 4096 * p + 256 * d + 64 * g + m := by
  rw [show aI (4 * p + g) 31 = 4 * p + g from aL 0 5 32]
  rw [show rI (4 * p + g) 2 = p from rL g 4]
  rw [show sI p 12 = 4096 * p from sL 4096]
  rw [show sI d 8 = 256 * d from sL 256]
  rw [show oI (4096 * p) (256 * d) = 4096 * p + 256 * d from oL (4096 * p) 0 12 8 4096 256]
  try rw [show aI (4 * p + g) 31 = 4 * p + g from aL 0 5 32]
  rw [show aI (4 * p + g) 3 = g from aL (4 * p) 2 4]
  rw [show sI g 6 = 64 * g from sL 64]
  rw [show oI (4096 * p + 256 * d) (64 * g) = 4096 * p + 256 * d + 64 * g from oL (4096 * p + 256 * d) 0 8 6 256 64]
  rw [show sI 2 4 = 32 from (by decide +kernel)]
  rw [show oI (4096 * p + 256 * d + 64 * g) 32 = 32 + 4096 * p + 256 * d + 64 * g from oL (4096 * p + 256 * d + 64 * g) 0 6 5 64 32]
  rw [show oI (32 + 4096 * p + 256 * d + 64 * g) m = 32 + 4096 * p + 256 * d + 64 * g + m from oL (32 + 4096 * p + 256 * d + 64 * g) 0 4 0 16 1]
  rw [show wH (32 + 4096 * p + 256 * d + 64 * g + m) = 32 + 4096 * p + 256 * d + 64 * g + m from wLH]

theorem ee14 {d m p g : Int} (h_d : 0 ≤ d ∧ d ≤ 15) (h_m : 0 ≤ m ∧ m ≤ 15) (h_p : 0 ≤ p ∧ p ≤ 7) (h_g : 0 ≤ g ∧ g ≤ 3) : (oI (oI (oI (oI (sI (rI (aI (4 * p + g) 31) 2) 12) (sI d 8)) (sI (aI (aI (4 * p + g) 31) 3) 6)) (sI 3 4)) m : Int) = 48 + 4096 * p + 256 * d + 64 * g + m := by
  rw [show aI (4 * p + g) 31 = 4 * p + g from aL 0 5 32]
  rw [show rI (4 * p + g) 2 = p from rL g 4]
  rw [show sI p 12 = 4096 * p from sL 4096]
  rw [show sI d 8 = 256 * d from sL 256]
  rw [show oI (4096 * p) (256 * d) = 4096 * p + 256 * d from oL (4096 * p) 0 12 8 4096 256]
  try rw [show aI (4 * p + g) 31 = 4 * p + g from aL 0 5 32]
  rw [show aI (4 * p + g) 3 = g from aL (4 * p) 2 4]
  rw [show sI g 6 = 64 * g from sL 64]
  rw [show oI (4096 * p + 256 * d) (64 * g) = 4096 * p + 256 * d + 64 * g from oL (4096 * p + 256 * d) 0 8 6 256 64]
  rw [show sI 3 4 = 48 from (by decide +kernel)]
  rw [show oI (4096 * p + 256 * d + 64 * g) 48 = 48 + 4096 * p + 256 * d + 64 * g from oL (4096 * p + 256 * d + 64 * g) 0 6 4 64 16]
  rw [show oI (48 + 4096 * p + 256 * d + 64 * g) m = 48 + 4096 * p + 256 * d + 64 * g + m from oL (48 + 4096 * p + 256 * d + 64 * g) 0 4 0 16 1]

theorem ee15 {d m p g : Int} (h_d : 0 ≤ d ∧ d ≤ 15) (h_m : 0 ≤ m ∧ m ≤ 15) (h_p : 0 ≤ p ∧ p ≤ 7) (h_g : 0 ≤ g ∧ g ≤ 3) : (wH (oI (oI (oI (oI (sI (rI (aI (4 * p + g) 31) 2) 12) (sI d 8)) (sI (aI (aI (4 * p + g) 31) 3) 6)) (sI 3 4)) m) : Int) = 48 + 4096 * p + 256 * d + 64 * g + m := by
  rw [show aI (4 * p + g) 31 = 4 * p + g from aL 0 5 32]
  rw [show rI (4 * p + g) 2 = p from rL g 4]
  rw [show sI p 12 = 4096 * p from sL 4096]
  rw [show sI d 8 = 256 * d from sL 256]
  rw [show oI (4096 * p) (256 * d) = 4096 * p + 256 * d from oL (4096 * p) 0 12 8 4096 256]
  try rw [show aI (4 * p + g) 31 = 4 * p + g from aL 0 5 32]
  rw [show aI (4 * p + g) 3 = g from aL (4 * p) 2 4]
  rw [show sI g 6 = 64 * g from sL 64]
  rw [show oI (4096 * p + 256 * d) (64 * g) = 4096 * p + 256 * d + 64 * g from oL (4096 * p + 256 * d) 0 8 6 256 64]
  rw [show sI 3 4 = 48 from (by decide +kernel)]
  rw [show oI (4096 * p + 256 * d + 64 * g) 48 = 48 + 4096 * p + 256 * d + 64 * g from oL (4096 * p + 256 * d + 64 * g) 0 6 4 64 16]
  rw [show oI (48 + 4096 * p + 256 * d + 64 * g) m = 48 + 4096 * p + 256 * d + 64 * g + m from oL (48 + 4096 * p + 256 * d + 64 * g) 0 4 0 16 1]
  rw [show wH (48 + 4096 * p + 256 * d + 64 * g + m) = 48 + 4096 * p + 256 * d + 64 * g + m from wLH]

theorem ee16 {d m : Int} (h_d : 0 ≤ d ∧ d ≤ 15) (h_m : 0 ≤ m ∧ m ≤ 15) : (oI (oI (oI (oI (sI (rI (aI 32 31) 2) 12) (sI d 8)) (sI (aI (aI 32 31) 3) 6)) (sI 1 4)) m : Int) = 16 + 256 * d + m := by
  rw [show aI 32 31 = 0 from aL 32 5 32]
  rw [show rI 0 2 = 0 from rL 0 4]
  rw [show sI 0 12 = 0 from sL 4096]
  rw [show sI d 8 = 256 * d from sL 256]
  rw [show oI 0 (256 * d) = 256 * d from oL 0 0 12 8 4096 256]
  try rw [show aI 32 31 = 0 from aL 32 5 32]
  rw [show aI 0 3 = 0 from aL 0 2 4]
  rw [show sI 0 6 = 0 from sL 64]
  rw [show oI (256 * d) 0 = 256 * d from oL (256 * d) 0 0 0 1 1]
  rw [show sI 1 4 = 16 from (by decide +kernel)]
  rw [show oI (256 * d) 16 = 16 + 256 * d from oL (256 * d) 0 5 4 32 16]
  rw [show oI (16 + 256 * d) m = 16 + 256 * d + m from oL (16 + 256 * d) 0 4 0 16 1]

theorem ee17 {d m : Int} (h_d : 0 ≤ d ∧ d ≤ 15) (h_m : 0 ≤ m ∧ m ≤ 15) : (wH (oI (oI (oI (oI (sI (rI (aI 32 31) 2) 12) (sI d 8)) (sI (aI (aI 32 31) 3) 6)) (sI 1 4)) m) : Int) = 16 + 256 * d + m := by
  rw [show aI 32 31 = 0 from aL 32 5 32]
  rw [show rI 0 2 = 0 from rL 0 4]
  rw [show sI 0 12 = 0 from sL 4096]
  rw [show sI d 8 = 256 * d from sL 256]
  rw [show oI 0 (256 * d) = 256 * d from oL 0 0 12 8 4096 256]
  try rw [show aI 32 31 = 0 from aL 32 5 32]
  rw [show aI 0 3 = 0 from aL 0 2 4]
  rw [show sI 0 6 = 0 from sL 64]
  rw [show oI (256 * d) 0 = 256 * d from oL (256 * d) 0 0 0 1 1]
  rw [show sI 1 4 = 16 from (by decide +kernel)]
  rw [show oI (256 * d) 16 = 16 + 256 * d from oL (256 * d) 0 5 4 32 16]
  rw [show oI (16 + 256 * d) m = 16 + 256 * d + m from oL (16 + 256 * d) 0 4 0 16 1]
  rw [show wH (16 + 256 * d + m) = 16 + 256 * d + m from wLH]

theorem ee18 {d m : Int} (h_d : 0 ≤ d ∧ d ≤ 15) (h_m : 0 ≤ m ∧ m ≤ 15) : (oI (oI (oI (oI (sI (rI (aI 32 31) 2) 12) (sI d 8)) (sI (aI (aI 32 31) 3) 6)) (sI 2 4)) m : Int) = 32 + 256 * d + m := by
  rw [show aI 32 31 = 0 from aL 32 5 32]
  rw [show rI 0 2 = 0 from rL 0 4]
  rw [show sI 0 12 = 0 from sL 4096]
  rw [show sI d 8 = 256 * d from sL 256]
  rw [show oI 0 (256 * d) = 256 * d from oL 0 0 12 8 4096 256]
  try rw [show aI 32 31 = 0 from aL 32 5 32]
  rw [show aI 0 3 = 0 from aL 0 2 4]
  rw [show sI 0 6 = 0 from sL 64]
  rw [show oI (256 * d) 0 = 256 * d from oL (256 * d) 0 0 0 1 1]
  rw [show sI 2 4 = 32 from (by decide +kernel)]
  rw [show oI (256 * d) 32 = 32 + 256 * d from oL (256 * d) 0 6 5 64 32]
  rw [show oI (32 + 256 * d) m = 32 + 256 * d + m from oL (32 + 256 * d) 0 4 0 16 1]

theorem ee19 {d m : Int} (h_d : 0 ≤ d ∧ d ≤ 15) (h_m : 0 ≤ m ∧ m ≤ 15) : (wH (oI (oI (oI (oI (sI (rI (aI 32 31) 2) 12) (sI d 8)) (sI (aI (aI 32 31) 3) 6)) (sI 2 4)) m) : Int) = 32 + 256 * d + m := by
  rw [show aI 32 31 = 0 from aL 32 5 32]
  rw [show rI 0 2 = 0 from rL 0 4]
  rw [show sI 0 12 = 0 from sL 4096]
  rw [show sI d 8 = 256 * d from sL 256]
  rw [show oI 0 (256 * d) = 256 * d from oL 0 0 12 8 4096 256]
  try rw [show aI 32 31 = 0 from aL 32 5 32]
  rw [show aI 0 3 = 0 from aL 0 2 4]
  rw [show sI 0 6 = 0 from sL 64]
  rw [show oI (256 * d) 0 = 256 * d from oL (256 * d) 0 0 0 1 1]
  rw [show sI 2 4 = 32 from (by decide +kernel)]
  rw [show oI (256 * d) 32 = 32 + 256 * d from oL (256 * d) 0 6 5 64 32]
  rw [show oI (32 + 256 * d) m = 32 + 256 * d + m from oL (32 + 256 * d) 0 4 0 16 1]
  rw [show wH (32 + 256 * d + m) = 32 + 256 * d + m from wLH]

theorem ee20 {d m : Int} (h_d : 0 ≤ d ∧ d ≤ 15) (h_m : 0 ≤ m ∧ m ≤ 15) : (oI (oI (oI (oI 0 (sI d 8)) 0) 48) m : Int) = 48 + 256 * d + m := by
  rw [show sI d 8 = 256 * d from sL 256]
  rw [show oI 0 (256 * d) = 256 * d from oL 0 0 12 8 4096 256]
  rw [show oI (256 * d) 0 = 256 * d from oL (256 * d) 0 0 0 1 1]
  rw [show oI (256 * d) 48 = 48 + 256 * d from oL (256 * d) 0 6 4 64 16]
  rw [show oI (48 + 256 * d) m = 48 + 256 * d + m from oL (48 + 256 * d) 0 4 0 16 1]

theorem ee21 {d m : Int} (h_d : 0 ≤ d ∧ d ≤ 15) (h_m : 0 ≤ m ∧ m ≤ 15) : (wH (oI (oI (oI (oI 0 (sI d 8)) 0) 48) m) : Int) = 48 + 256 * d + m := by
  rw [show sI d 8 = 256 * d from sL 256]
  rw [show oI 0 (256 * d) = 256 * d from oL 0 0 12 8 4096 256]
  rw [show oI (256 * d) 0 = 256 * d from oL (256 * d) 0 0 0 1 1]
  rw [show oI (256 * d) 48 = 48 + 256 * d from oL (256 * d) 0 6 4 64 16]
  rw [show oI (48 + 256 * d) m = 48 + 256 * d + m from oL (48 + 256 * d) 0 4 0 16 1]
  rw [show wH (48 + 256 * d + m) = 48 + 256 * d + m from wLH]


theorem leaf_Mo0 {op d' n' u v o n d s i p e : Int} (h_o : 0 ≤ o ∧ o ≤ 15) (h_n : 0 ≤ n ∧ n ≤ 15) (h_d : 0 ≤ d ∧ d ≤ 15) (h_s : 0 ≤ s ∧ s ≤ 1) (h_i : 0 ≤ i ∧ i ≤ 1) (h_p : 0 ≤ p ∧ p ≤ 7) (h_e : 0 ≤ e ∧ e ≤ 255) (hc : p64 op = 1) (h85 : p85 op = false) (h84 : p84' op d' n' = (o, d, n)) (h57 : p57' op d' n' = (u, n, d)) (hpl : placeI [1, 14, 12, 16, 2, 0, 0, 0, 5, 0, 6, 7, 0, 3, 4, 0] u 0 = o) (hB : cmpB v = true) (hN : cmpN v = 2048 * i + 256 * p + e) : o35y (S30.mk op true (s == 1) 14 (d') (n') 0 0 v true 0 0 0 false false) = some (61440 + 1024 * i + 32 * o + 16 * s + n, 4096 * p + 256 * d + e) ∧ [61440 + 1024 * i + 32 * o + 16 * s + n, 4096 * p + 256 * d + e] ∈ cands (S30.mk op true (s == 1) 14 (d') (n') 0 0 v true 0 0 0 false false) := by
  have j65 : o65 op true (s == 1) 14 (d') (n') 0 0 v true 0 0 0 false false = some (oI (oI (oI (oI 61440 (sI (aI (rI (wI (2048 * i + 256 * p + e)) 11) 1) 10)) (sI o 5)) (sI (p68 (s == 1)) 4)) n, oI (oI (sI (aI (rI (wI (2048 * i + 256 * p + e)) 8) 7) 12) (sI d 8)) (aI (wI (2048 * i + 256 * p + e)) 255)) := by unfold o65; rw [show p84 op true (s == 1) 14 (d') (n') 0 0 v true 0 0 0 false false = p84' op d' n' from rfl, h84]; unfold p13; rw [hB, hN]; kernel_rfl
  exact ⟨row_one (by unfold o35y o35; dsimp only; unfold g65; rw [hc, j65]; rfl) (ee0 h_o h_n h_s h_i h_p h_e) (ee1 h_d h_i h_p h_e), (mem_cands _).1 (mem_at 0 (by unfold L28 p28; dsimp only; rw [show p57 op true (s == 1) 14 (d') (n') 0 0 v true 0 0 0 false false = p57' op d' n' from rfl, h57]; dsimp only; rw [hpl, decide_eq_false (show ¬ o < 0 by omega)]; unfold p61; rw [hB, hN]; kernel_rfl) (ee2 h_o h_n h_s h_i h_p h_e) (ee3 h_d h_i h_p h_e))⟩

theorem leaf_Mo1 {op d' n' u v o n d s i p e : Int} (h_o : 0 ≤ o ∧ o ≤ 15) (h_n : 0 ≤ n ∧ n ≤ 15) (h_d : 0 ≤ d ∧ d ≤ 15) (h_s : 0 ≤ s ∧ s ≤ 1) (h_i : 0 ≤ i ∧ i ≤ 1) (h_p : 0 ≤ p ∧ p ≤ 7) (h_e : 0 ≤ e ∧ e ≤ 255) (hc : p64 op = 1) (h85 : p85 op = false) (h84 : p84' op d' n' = (o, d, n)) (h57 : p57' op d' n' = (u, n, d)) (hpl : placeI [1, 14, 12, 16, 2, 0, 0, 0, 5, 0, 6, 7, 0, 3, 4, 0] u 0 = o) (hB : cmpB v = true) (hN : cmpN v = 2048 * i + 256 * p + e) : o35y (S30.mk op true (s == 1) 14 (d') (n') 0 1 v true 0 0 0 false false) = some (61440 + 1024 * i + 32 * o + 16 * s + n, 4096 * p + 256 * d + e) ∧ [61440 + 1024 * i + 32 * o + 16 * s + n, 4096 * p + 256 * d + e] ∈ cands (S30.mk op true (s == 1) 14 (d') (n') 0 1 v true 0 0 0 false false) := by
  have j65 : o65 op true (s == 1) 14 (d') (n') 0 1 v true 0 0 0 false false = some (oI (oI (oI (oI 61440 (sI (aI (rI (wI (2048 * i + 256 * p + e)) 11) 1) 10)) (sI o 5)) (sI (p68 (s == 1)) 4)) n, oI (oI (sI (aI (rI (wI (2048 * i + 256 * p + e)) 8) 7) 12) (sI d 8)) (aI (wI (2048 * i + 256 * p + e)) 255)) := by unfold o65; rw [show p84 op true (s == 1) 14 (d') (n') 0 1 v true 0 0 0 false false = p84' op d' n' from rfl, h84]; unfold p13; rw [hB, hN]; kernel_rfl
  exact ⟨row_one (by unfold o35y o35; dsimp only; unfold g65; rw [hc, j65]; rfl) (ee0 h_o h_n h_s h_i h_p h_e) (ee1 h_d h_i h_p h_e), (mem_cands _).1 (mem_at 0 (by unfold L28 p28; dsimp only; rw [show p57 op true (s == 1) 14 (d') (n') 0 1 v true 0 0 0 false false = p57' op d' n' from rfl, h57]; dsimp only; rw [hpl, decide_eq_false (show ¬ o < 0 by omega)]; unfold p61; rw [hB, hN]; kernel_rfl) (ee2 h_o h_n h_s h_i h_p h_e) (ee3 h_d h_i h_p h_e))⟩

theorem leaf_Sh0 {op d' n' u v o n d s m : Int} (h_o : 0 ≤ o ∧ o ≤ 15) (h_n : 0 ≤ n ∧ n ≤ 15) (h_d : 0 ≤ d ∧ d ≤ 15) (h_s : 0 ≤ s ∧ s ≤ 1) (h_m : 0 ≤ m ∧ m ≤ 15) (hc : p64 op = 1) (h85 : p85 op = false) (h84 : p84' op d' n' = (o, d, n)) (h57 : p57' op d' n' = (u, n, d)) (hpl : placeI [1, 14, 12, 16, 2, 0, 0, 0, 5, 0, 6, 7, 0, 3, 4, 0] u 0 = o) : o35y (S30.mk op true (s == 1) 14 (d') (n') m 0 0 false 0 0 0 false false) = some (59904 + 32 * o + 16 * s + n, 256 * d + m) ∧ [59904 + 32 * o + 16 * s + n, 256 * d + m] ∈ cands (S30.mk op true (s == 1) 14 (d') (n') m 0 0 false 0 0 0 false false) := by
  have j65 : o65 op true (s == 1) 14 (d') (n') m 0 0 false 0 0 0 false false = some (oI (oI (oI 59904 (sI o 5)) (sI (p68 (s == 1)) 4)) n, oI (oI (oI (oI (sI (rI (aI 0 31) 2) 12) (sI d 8)) (sI (aI (aI 0 31) 3) 6)) (sI 0 4)) m) := by unfold o65; rw [show p84 op true (s == 1) 14 (d') (n') m 0 0 false 0 0 0 false false = p84' op d' n' from rfl, h84]; rw [h85]; kernel_rfl
  exact ⟨row_one (by unfold o35y o35; dsimp only; unfold g65; rw [hc, j65]; rfl) (ee4 h_o h_n h_s) (ee5 h_d h_m), (mem_cands _).1 (mem_at 0 (by unfold L28 p28; dsimp only; rw [show p57 op true (s == 1) 14 (d') (n') m 0 0 false 0 0 0 false false = p57' op d' n' from rfl, h57]; dsimp only; rw [hpl, decide_eq_false (show ¬ o < 0 by omega)]; kernel_rfl) (ee6 h_o h_n h_s) (ee7 h_d h_m))⟩

theorem leaf_Sh1 {op d' n' u v o n d s m p g : Int} (h_o : 0 ≤ o ∧ o ≤ 15) (h_n : 0 ≤ n ∧ n ≤ 15) (h_d : 0 ≤ d ∧ d ≤ 15) (h_s : 0 ≤ s ∧ s ≤ 1) (h_m : 0 ≤ m ∧ m ≤ 15) (h_p : 0 ≤ p ∧ p ≤ 7) (h_g : 0 ≤ g ∧ g ≤ 3) (hc : p64 op = 1) (h85 : p85 op = false) (h84 : p84' op d' n' = (o, d, n)) (h57 : p57' op d' n' = (u, n, d)) (hpl : placeI [1, 14, 12, 16, 2, 0, 0, 0, 5, 0, 6, 7, 0, 3, 4, 0] u 0 = o) : o35y (S30.mk op true (s == 1) 14 (d') (n') m 0 0 false 1 (4 * p + g) 0 false false) = some (59904 + 32 * o + 16 * s + n, 4096 * p + 256 * d + 64 * g + m) ∧ [59904 + 32 * o + 16 * s + n, 4096 * p + 256 * d + 64 * g + m] ∈ cands (S30.mk op true (s == 1) 14 (d') (n') m 0 0 false 1 (4 * p + g) 0 false false) := by
  have j65 : o65 op true (s == 1) 14 (d') (n') m 0 0 false 1 (4 * p + g) 0 false false = some (oI (oI (oI 59904 (sI o 5)) (sI (p68 (s == 1)) 4)) n, oI (oI (oI (oI (sI (rI (aI (4 * p + g) 31) 2) 12) (sI d 8)) (sI (aI (aI (4 * p + g) 31) 3) 6)) (sI 0 4)) m) := by unfold o65; rw [show p84 op true (s == 1) 14 (d') (n') m 0 0 false 1 (4 * p + g) 0 false false = p84' op d' n' from rfl, h84]; rw [h85]; kernel_rfl
  exact ⟨row_one (by unfold o35y o35; dsimp only; unfold g65; rw [hc, j65]; rfl) (ee4 h_o h_n h_s) (ee8 h_d h_m h_p h_g), (mem_cands _).1 (mem_at 0 (by unfold L28 p28; dsimp only; rw [show p57 op true (s == 1) 14 (d') (n') m 0 0 false 1 (4 * p + g) 0 false false = p57' op d' n' from rfl, h57]; dsimp only; rw [hpl, decide_eq_false (show ¬ o < 0 by omega)]; kernel_rfl) (ee6 h_o h_n h_s) (ee9 h_d h_m h_p h_g))⟩

theorem leaf_Sh2 {op d' n' u v o n d s m p g : Int} (h_o : 0 ≤ o ∧ o ≤ 15) (h_n : 0 ≤ n ∧ n ≤ 15) (h_d : 0 ≤ d ∧ d ≤ 15) (h_s : 0 ≤ s ∧ s ≤ 1) (h_m : 0 ≤ m ∧ m ≤ 15) (h_p : 0 ≤ p ∧ p ≤ 7) (h_g : 0 ≤ g ∧ g ≤ 3) (hc : p64 op = 1) (h85 : p85 op = false) (h84 : p84' op d' n' = (o, d, n)) (h57 : p57' op d' n' = (u, n, d)) (hpl : placeI [1, 14, 12, 16, 2, 0, 0, 0, 5, 0, 6, 7, 0, 3, 4, 0] u 0 = o) : o35y (S30.mk op true (s == 1) 14 (d') (n') m 0 0 false 2 (4 * p + g) 0 false false) = some (59904 + 32 * o + 16 * s + n, 16 + 4096 * p + 256 * d + 64 * g + m) ∧ [59904 + 32 * o + 16 * s + n, 16 + 4096 * p + 256 * d + 64 * g + m] ∈ cands (S30.mk op true (s == 1) 14 (d') (n') m 0 0 false 2 (4 * p + g) 0 false false) := by
  have j65 : o65 op true (s == 1) 14 (d') (n') m 0 0 false 2 (4 * p + g) 0 false false = some (oI (oI (oI 59904 (sI o 5)) (sI (p68 (s == 1)) 4)) n, oI (oI (oI (oI (sI (rI (aI (4 * p + g) 31) 2) 12) (sI d 8)) (sI (aI (aI (4 * p + g) 31) 3) 6)) (sI 1 4)) m) := by unfold o65; rw [show p84 op true (s == 1) 14 (d') (n') m 0 0 false 2 (4 * p + g) 0 false false = p84' op d' n' from rfl, h84]; rw [h85]; kernel_rfl
  exact ⟨row_one (by unfold o35y o35; dsimp only; unfold g65; rw [hc, j65]; rfl) (ee4 h_o h_n h_s) (ee10 h_d h_m h_p h_g), (mem_cands _).1 (mem_at 0 (by unfold L28 p28; dsimp only; rw [show p57 op true (s == 1) 14 (d') (n') m 0 0 false 2 (4 * p + g) 0 false false = p57' op d' n' from rfl, h57]; dsimp only; rw [hpl, decide_eq_false (show ¬ o < 0 by omega)]; kernel_rfl) (ee6 h_o h_n h_s) (ee11 h_d h_m h_p h_g))⟩

theorem leaf_Sh3 {op d' n' u v o n d s m p g : Int} (h_o : 0 ≤ o ∧ o ≤ 15) (h_n : 0 ≤ n ∧ n ≤ 15) (h_d : 0 ≤ d ∧ d ≤ 15) (h_s : 0 ≤ s ∧ s ≤ 1) (h_m : 0 ≤ m ∧ m ≤ 15) (h_p : 0 ≤ p ∧ p ≤ 7) (h_g : 0 ≤ g ∧ g ≤ 3) (hc : p64 op = 1) (h85 : p85 op = false) (h84 : p84' op d' n' = (o, d, n)) (h57 : p57' op d' n' = (u, n, d)) (hpl : placeI [1, 14, 12, 16, 2, 0, 0, 0, 5, 0, 6, 7, 0, 3, 4, 0] u 0 = o) : o35y (S30.mk op true (s == 1) 14 (d') (n') m 0 0 false 3 (4 * p + g) 0 false false) = some (59904 + 32 * o + 16 * s + n, 32 + 4096 * p + 256 * d + 64 * g + m) ∧ [59904 + 32 * o + 16 * s + n, 32 + 4096 * p + 256 * d + 64 * g + m] ∈ cands (S30.mk op true (s == 1) 14 (d') (n') m 0 0 false 3 (4 * p + g) 0 false false) := by
  have j65 : o65 op true (s == 1) 14 (d') (n') m 0 0 false 3 (4 * p + g) 0 false false = some (oI (oI (oI 59904 (sI o 5)) (sI (p68 (s == 1)) 4)) n, oI (oI (oI (oI (sI (rI (aI (4 * p + g) 31) 2) 12) (sI d 8)) (sI (aI (aI (4 * p + g) 31) 3) 6)) (sI 2 4)) m) := by unfold o65; rw [show p84 op true (s == 1) 14 (d') (n') m 0 0 false 3 (4 * p + g) 0 false false = p84' op d' n' from rfl, h84]; rw [h85]; kernel_rfl
  exact ⟨row_one (by unfold o35y o35; dsimp only; unfold g65; rw [hc, j65]; rfl) (ee4 h_o h_n h_s) (ee12 h_d h_m h_p h_g), (mem_cands _).1 (mem_at 0 (by unfold L28 p28; dsimp only; rw [show p57 op true (s == 1) 14 (d') (n') m 0 0 false 3 (4 * p + g) 0 false false = p57' op d' n' from rfl, h57]; dsimp only; rw [hpl, decide_eq_false (show ¬ o < 0 by omega)]; kernel_rfl) (ee6 h_o h_n h_s) (ee13 h_d h_m h_p h_g))⟩

theorem leaf_Sh4 {op d' n' u v o n d s m p g : Int} (h_o : 0 ≤ o ∧ o ≤ 15) (h_n : 0 ≤ n ∧ n ≤ 15) (h_d : 0 ≤ d ∧ d ≤ 15) (h_s : 0 ≤ s ∧ s ≤ 1) (h_m : 0 ≤ m ∧ m ≤ 15) (h_p : 0 ≤ p ∧ p ≤ 7) (h_g : 0 ≤ g ∧ g ≤ 3) (hc : p64 op = 1) (h85 : p85 op = false) (h84 : p84' op d' n' = (o, d, n)) (h57 : p57' op d' n' = (u, n, d)) (hpl : placeI [1, 14, 12, 16, 2, 0, 0, 0, 5, 0, 6, 7, 0, 3, 4, 0] u 0 = o) : o35y (S30.mk op true (s == 1) 14 (d') (n') m 0 0 false 4 (4 * p + g) 0 false false) = some (59904 + 32 * o + 16 * s + n, 48 + 4096 * p + 256 * d + 64 * g + m) ∧ [59904 + 32 * o + 16 * s + n, 48 + 4096 * p + 256 * d + 64 * g + m] ∈ cands (S30.mk op true (s == 1) 14 (d') (n') m 0 0 false 4 (4 * p + g) 0 false false) := by
  have j65 : o65 op true (s == 1) 14 (d') (n') m 0 0 false 4 (4 * p + g) 0 false false = some (oI (oI (oI 59904 (sI o 5)) (sI (p68 (s == 1)) 4)) n, oI (oI (oI (oI (sI (rI (aI (4 * p + g) 31) 2) 12) (sI d 8)) (sI (aI (aI (4 * p + g) 31) 3) 6)) (sI 3 4)) m) := by unfold o65; rw [show p84 op true (s == 1) 14 (d') (n') m 0 0 false 4 (4 * p + g) 0 false false = p84' op d' n' from rfl, h84]; rw [h85]; kernel_rfl
  exact ⟨row_one (by unfold o35y o35; dsimp only; unfold g65; rw [hc, j65]; rfl) (ee4 h_o h_n h_s) (ee14 h_d h_m h_p h_g), (mem_cands _).1 (mem_at 0 (by unfold L28 p28; dsimp only; rw [show p57 op true (s == 1) 14 (d') (n') m 0 0 false 4 (4 * p + g) 0 false false = p57' op d' n' from rfl, h57]; dsimp only; rw [hpl, decide_eq_false (show ¬ o < 0 by omega)]; kernel_rfl) (ee6 h_o h_n h_s) (ee15 h_d h_m h_p h_g))⟩

theorem leaf_Sh2z {op d' n' u v o n d s m : Int} (h_o : 0 ≤ o ∧ o ≤ 15) (h_n : 0 ≤ n ∧ n ≤ 15) (h_d : 0 ≤ d ∧ d ≤ 15) (h_s : 0 ≤ s ∧ s ≤ 1) (h_m : 0 ≤ m ∧ m ≤ 15) (hc : p64 op = 1) (h85 : p85 op = false) (h84 : p84' op d' n' = (o, d, n)) (h57 : p57' op d' n' = (u, n, d)) (hpl : placeI [1, 14, 12, 16, 2, 0, 0, 0, 5, 0, 6, 7, 0, 3, 4, 0] u 0 = o) : o35y (S30.mk op true (s == 1) 14 (d') (n') m 0 0 false 2 (32) 0 false false) = some (59904 + 32 * o + 16 * s + n, 16 + 256 * d + m) ∧ [59904 + 32 * o + 16 * s + n, 16 + 256 * d + m] ∈ cands (S30.mk op true (s == 1) 14 (d') (n') m 0 0 false 2 (32) 0 false false) := by
  have j65 : o65 op true (s == 1) 14 (d') (n') m 0 0 false 2 (32) 0 false false = some (oI (oI (oI 59904 (sI o 5)) (sI (p68 (s == 1)) 4)) n, oI (oI (oI (oI (sI (rI (aI 32 31) 2) 12) (sI d 8)) (sI (aI (aI 32 31) 3) 6)) (sI 1 4)) m) := by unfold o65; rw [show p84 op true (s == 1) 14 (d') (n') m 0 0 false 2 (32) 0 false false = p84' op d' n' from rfl, h84]; rw [h85]; kernel_rfl
  exact ⟨row_one (by unfold o35y o35; dsimp only; unfold g65; rw [hc, j65]; rfl) (ee4 h_o h_n h_s) (ee16 h_d h_m), (mem_cands _).1 (mem_at 0 (by unfold L28 p28; dsimp only; rw [show p57 op true (s == 1) 14 (d') (n') m 0 0 false 2 (32) 0 false false = p57' op d' n' from rfl, h57]; dsimp only; rw [hpl, decide_eq_false (show ¬ o < 0 by omega)]; kernel_rfl) (ee6 h_o h_n h_s) (ee17 h_d h_m))⟩

theorem leaf_Sh3z {op d' n' u v o n d s m : Int} (h_o : 0 ≤ o ∧ o ≤ 15) (h_n : 0 ≤ n ∧ n ≤ 15) (h_d : 0 ≤ d ∧ d ≤ 15) (h_s : 0 ≤ s ∧ s ≤ 1) (h_m : 0 ≤ m ∧ m ≤ 15) (hc : p64 op = 1) (h85 : p85 op = false) (h84 : p84' op d' n' = (o, d, n)) (h57 : p57' op d' n' = (u, n, d)) (hpl : placeI [1, 14, 12, 16, 2, 0, 0, 0, 5, 0, 6, 7, 0, 3, 4, 0] u 0 = o) : o35y (S30.mk op true (s == 1) 14 (d') (n') m 0 0 false 3 (32) 0 false false) = some (59904 + 32 * o + 16 * s + n, 32 + 256 * d + m) ∧ [59904 + 32 * o + 16 * s + n, 32 + 256 * d + m] ∈ cands (S30.mk op true (s == 1) 14 (d') (n') m 0 0 false 3 (32) 0 false false) := by
  have j65 : o65 op true (s == 1) 14 (d') (n') m 0 0 false 3 (32) 0 false false = some (oI (oI (oI 59904 (sI o 5)) (sI (p68 (s == 1)) 4)) n, oI (oI (oI (oI (sI (rI (aI 32 31) 2) 12) (sI d 8)) (sI (aI (aI 32 31) 3) 6)) (sI 2 4)) m) := by unfold o65; rw [show p84 op true (s == 1) 14 (d') (n') m 0 0 false 3 (32) 0 false false = p84' op d' n' from rfl, h84]; rw [h85]; kernel_rfl
  exact ⟨row_one (by unfold o35y o35; dsimp only; unfold g65; rw [hc, j65]; rfl) (ee4 h_o h_n h_s) (ee18 h_d h_m), (mem_cands _).1 (mem_at 0 (by unfold L28 p28; dsimp only; rw [show p57 op true (s == 1) 14 (d') (n') m 0 0 false 3 (32) 0 false false = p57' op d' n' from rfl, h57]; dsimp only; rw [hpl, decide_eq_false (show ¬ o < 0 by omega)]; kernel_rfl) (ee6 h_o h_n h_s) (ee19 h_d h_m))⟩

theorem leaf_Sh5 {op d' n' u v o n d s m : Int} (h_o : 0 ≤ o ∧ o ≤ 15) (h_n : 0 ≤ n ∧ n ≤ 15) (h_d : 0 ≤ d ∧ d ≤ 15) (h_s : 0 ≤ s ∧ s ≤ 1) (h_m : 0 ≤ m ∧ m ≤ 15) (hc : p64 op = 1) (h85 : p85 op = false) (h84 : p84' op d' n' = (o, d, n)) (h57 : p57' op d' n' = (u, n, d)) (hpl : placeI [1, 14, 12, 16, 2, 0, 0, 0, 5, 0, 6, 7, 0, 3, 4, 0] u 0 = o) : o35y (S30.mk op true (s == 1) 14 (d') (n') m 0 0 false 5 1 0 false false) = some (59904 + 32 * o + 16 * s + n, 48 + 256 * d + m) ∧ [59904 + 32 * o + 16 * s + n, 48 + 256 * d + m] ∈ cands (S30.mk op true (s == 1) 14 (d') (n') m 0 0 false 5 1 0 false false) := by
  have j65 : o65 op true (s == 1) 14 (d') (n') m 0 0 false 5 1 0 false false = some (oI (oI (oI 59904 (sI o 5)) (sI (p68 (s == 1)) 4)) n, oI (oI (oI (oI 0 (sI d 8)) 0) 48) m) := by unfold o65; rw [show p84 op true (s == 1) 14 (d') (n') m 0 0 false 5 1 0 false false = p84' op d' n' from rfl, h84]; rw [h85]; kernel_rfl
  exact ⟨row_one (by unfold o35y o35; dsimp only; unfold g65; rw [hc, j65]; rfl) (ee4 h_o h_n h_s) (ee20 h_d h_m), (mem_cands _).1 (mem_at 0 (by unfold L28 p28; dsimp only; rw [show p57 op true (s == 1) 14 (d') (n') m 0 0 false 5 1 0 false false = p57' op d' n' from rfl, h57]; dsimp only; rw [hpl, decide_eq_false (show ¬ o < 0 by omega)]; kernel_rfl) (ee6 h_o h_n h_s) (ee21 h_d h_m))⟩

end Go.Den
