import Derived.Test.YtihdbaehaiaiiaaY13a
set_option linter.unusedSimpArgs false
set_option linter.unusedVariables false
set_option maxRecDepth 100000
namespace Go.Den

theorem eb0 {n i p e : Int} (h_n : 0 ≤ n ∧ n ≤ 15) (h_i : 0 ≤ i ∧ i ≤ 1) (h_p : 0 ≤ p ∧ p ≤ 7) (h_e : 0 ≤ e ∧ e ≤ 255) : (oI (oI 61952 (sI (aI (rI (wI (2048 * i + 256 * p + e)) 11) 1) 10)) n : Int) = 61952 + 1024 * i + n := by
  rw [show wI (2048 * i + 256 * p + e) = 2048 * i + 256 * p + e from wLI]
  rw [show rI (2048 * i + 256 * p + e) 11 = i from rL (256 * p + e) 2048]
  rw [show aI i 1 = i from aL 0 1 2]
  rw [show sI i 10 = 1024 * i from sL 1024]
  rw [show oI 61952 (1024 * i) = 61952 + 1024 * i from oL 61440 512 11 10 2048 1024]
  rw [show oI (61952 + 1024 * i) n = 61952 + 1024 * i + n from oL (61952 + 1024 * i) 0 4 0 16 1]

theorem eb1 {d i p e : Int} (h_d : 0 ≤ d ∧ d ≤ 15) (h_i : 0 ≤ i ∧ i ≤ 1) (h_p : 0 ≤ p ∧ p ≤ 7) (h_e : 0 ≤ e ∧ e ≤ 255) : (oI (oI (sI (aI (rI (wI (2048 * i + 256 * p + e)) 8) 7) 12) (sI d 8)) (aI (wI (2048 * i + 256 * p + e)) 255) : Int) = 4096 * p + 256 * d + e := by
  rw [show wI (2048 * i + 256 * p + e) = 2048 * i + 256 * p + e from wLI]
  rw [show rI (2048 * i + 256 * p + e) 8 = 8 * i + p from rL e 256]
  rw [show aI (8 * i + p) 7 = p from aL (8 * i) 3 8]
  rw [show sI p 12 = 4096 * p from sL 4096]
  rw [show sI d 8 = 256 * d from sL 256]
  rw [show oI (4096 * p) (256 * d) = 4096 * p + 256 * d from oL (4096 * p) 0 12 8 4096 256]
  try rw [show wI (2048 * i + 256 * p + e) = 2048 * i + 256 * p + e from wLI]
  rw [show aI (2048 * i + 256 * p + e) 255 = e from aL (2048 * i + 256 * p) 8 256]
  rw [show oI (4096 * p + 256 * d) e = 4096 * p + 256 * d + e from oL (4096 * p + 256 * d) 0 8 0 256 1]

theorem eb2 {n i p e : Int} (h_n : 0 ≤ n ∧ n ≤ 15) (h_i : 0 ≤ i ∧ i ≤ 1) (h_p : 0 ≤ p ∧ p ≤ 7) (h_e : 0 ≤ e ∧ e ≤ 255) : (wH (oI (oI 61952 (sI (aI (rI (wI (aU (2048 * i + 256 * p + e) 4095)) 11) 1) 10)) n) : Int) = 61952 + 1024 * i + n := by
  rw [show aU (2048 * i + 256 * p + e) 4095 = 2048 * i + 256 * p + e from aLU 0 12 4096]
  rw [show wI (2048 * i + 256 * p + e) = 2048 * i + 256 * p + e from wLI]
  rw [show rI (2048 * i + 256 * p + e) 11 = i from rL (256 * p + e) 2048]
  rw [show aI i 1 = i from aL 0 1 2]
  rw [show sI i 10 = 1024 * i from sL 1024]
  rw [show oI 61952 (1024 * i) = 61952 + 1024 * i from oL 61440 512 11 10 2048 1024]
  rw [show oI (61952 + 1024 * i) n = 61952 + 1024 * i + n from oL (61952 + 1024 * i) 0 4 0 16 1]
  rw [show wH (61952 + 1024 * i + n) = 61952 + 1024 * i + n from wLH]

theorem eb3 {d i p e : Int} (h_d : 0 ≤ d ∧ d ≤ 15) (h_i : 0 ≤ i ∧ i ≤ 1) (h_p : 0 ≤ p ∧ p ≤ 7) (h_e : 0 ≤ e ∧ e ≤ 255) : (wH (oI (oI (sI (aI (rI (wI (aU (2048 * i + 256 * p + e) 4095)) 8) 7) 12) (aI (wI (aU (2048 * i + 256 * p + e) 4095)) 255)) (sI d 8)) : Int) = 4096 * p + 256 * d + e := by
  rw [show aU (2048 * i + 256 * p + e) 4095 = 2048 * i + 256 * p + e from aLU 0 12 4096]
  rw [show wI (2048 * i + 256 * p + e) = 2048 * i + 256 * p + e from wLI]
  rw [show rI (2048 * i + 256 * p + e) 8 = 8 * i + p from rL e 256]
  rw [show aI (8 * i + p) 7 = p from aL (8 * i) 3 8]
  rw [show sI p 12 = 4096 * p from sL 4096]
  try rw [show aU (2048 * i + 256 * p + e) 4095 = 2048 * i + 256 * p + e from aLU 0 12 4096]
  try rw [show wI (2048 * i + 256 * p + e) = 2048 * i + 256 * p + e from wLI]
  rw [show aI (2048 * i + 256 * p + e) 255 = e from aL (2048 * i + 256 * p) 8 256]
  rw [show oI (4096 * p) e = 4096 * p + e from oL (4096 * p) 0 8 0 256 1]
  rw [show sI d 8 = 256 * d from sL 256]
  rw [show oI (4096 * p + e) (256 * d) = 4096 * p + 256 * d + e from oL (4096 * p) e 12 8 4096 256]
  rw [show wH (4096 * p + 256 * d + e) = 4096 * p + 256 * d + e from wLH]

theorem eb4 {n i p e : Int} (h_n : 0 ≤ n ∧ n ≤ 15) (h_i : 0 ≤ i ∧ i ≤ 1) (h_p : 0 ≤ p ∧ p ≤ 7) (h_e : 0 ≤ e ∧ e ≤ 255) : (oI (oI 62112 (sI (aI (rI (wI (2048 * i + 256 * p + e)) 11) 1) 10)) n : Int) = 62112 + 1024 * i + n := by
  rw [show wI (2048 * i + 256 * p + e) = 2048 * i + 256 * p + e from wLI]
  rw [show rI (2048 * i + 256 * p + e) 11 = i from rL (256 * p + e) 2048]
  rw [show aI i 1 = i from aL 0 1 2]
  rw [show sI i 10 = 1024 * i from sL 1024]
  rw [show oI 62112 (1024 * i) = 62112 + 1024 * i from oL 61440 672 11 10 2048 1024]
  rw [show oI (62112 + 1024 * i) n = 62112 + 1024 * i + n from oL (62112 + 1024 * i) 0 4 0 16 1]

theorem eb5 {n i p e : Int} (h_n : 0 ≤ n ∧ n ≤ 15) (h_i : 0 ≤ i ∧ i ≤ 1) (h_p : 0 ≤ p ∧ p ≤ 7) (h_e : 0 ≤ e ∧ e ≤ 255) : (wH (oI (oI 62112 (sI (aI (rI (wI (aU (2048 * i + 256 * p + e) 4095)) 11) 1) 10)) n) : Int) = 62112 + 1024 * i + n := by
  rw [show aU (2048 * i + 256 * p + e) 4095 = 2048 * i + 256 * p + e from aLU 0 12 4096]
  rw [show wI (2048 * i + 256 * p + e) = 2048 * i + 256 * p + e from wLI]
  rw [show rI (2048 * i + 256 * p + e) 11 = i from rL (256 * p + e) 2048]
  rw [show aI i 1 = i from aL 0 1 2]
  rw [show sI i 10 = 1024 * i from sL 1024]
  rw [show oI 62112 (1024 * i) = 62112 + 1024 * i from oL 61440 672 11 10 2048 1024]
  rw [show oI (62112 + 1024 * i) n = 62112 + 1024 * i + n from oL (62112 + 1024 * i) 0 4 0 16 1]
  rw [show wH (62112 + 1024 * i + n) = 62112 + 1024 * i + n from wLH]

theorem eb6 {n i p e : Int} (h_n : 0 ≤ n ∧ n ≤ 15) (h_i : 0 ≤ i ∧ i ≤ 1) (h_p : 0 ≤ p ∧ p ≤ 7) (h_e : 0 ≤ e ∧ e ≤ 255) : (oI (oI (oI 62016 (aI (rI (wI (4096 * n + 2048 * i + 256 * p + e)) 12) 15)) (sI (aI (rI (wI (4096 * n + 2048 * i + 256 * p + e)) 11) 1) 10)) 0 : Int) = 62016 + 1024 * i + n := by
  rw [show wI (4096 * n + 2048 * i + 256 * p + e) = 4096 * n + 2048 * i + 256 * p + e from wLI]
  rw [show rI (4096 * n + 2048 * i + 256 * p + e) 12 = n from rL (2048 * i + 256 * p + e) 4096]
  rw [show aI n 15 = n from aL 0 4 16]
  rw [show oI 62016 n = 62016 + n from oL 62016 0 4 0 16 1]
  try rw [show wI (4096 * n + 2048 * i + 256 * p + e) = 4096 * n + 2048 * i + 256 * p + e from wLI]
  rw [show rI (4096 * n + 2048 * i + 256 * p + e) 11 = 2 * n + i from rL (256 * p + e) 2048]
  rw [show aI (2 * n + i) 1 = i from aL (2 * n) 1 2]
  rw [show sI i 10 = 1024 * i from sL 1024]
  rw [show oI (62016 + n) (1024 * i) = 62016 + 1024 * i + n from oL 61440 (576 + n) 11 10 2048 1024]
  rw [show oI (62016 + 1024 * i + n) 0 = 62016 + 1024 * i + n from oL (62016 + 1024 * i + n) 0 0 0 1 1]

theorem eb7 {d n i p e : Int} (h_d : 0 ≤ d ∧ d ≤ 15) (h_n : 0 ≤ n ∧ n ≤ 15) (h_i : 0 ≤ i ∧ i ≤ 1) (h_p : 0 ≤ p ∧ p ≤ 7) (h_e : 0 ≤ e ∧ e ≤ 255) : (oI (oI (sI (aI (rI (wI (4096 * n + 2048 * i + 256 * p + e)) 8) 7) 12) (sI d 8)) (aI (wI (4096 * n + 2048 * i + 256 * p + e)) 255) : Int) = 4096 * p + 256 * d + e := by
  rw [show wI (4096 * n + 2048 * i + 256 * p + e) = 4096 * n + 2048 * i + 256 * p + e from wLI]
  rw [show rI (4096 * n + 2048 * i + 256 * p + e) 8 = 16 * n + 8 * i + p from rL e 256]
  rw [show aI (16 * n + 8 * i + p) 7 = p from aL (16 * n + 8 * i) 3 8]
  rw [show sI p 12 = 4096 * p from sL 4096]
  rw [show sI d 8 = 256 * d from sL 256]
  rw [show oI (4096 * p) (256 * d) = 4096 * p + 256 * d from oL (4096 * p) 0 12 8 4096 256]
  try rw [show wI (4096 * n + 2048 * i + 256 * p + e) = 4096 * n + 2048 * i + 256 * p + e from wLI]
  rw [show aI (4096 * n + 2048 * i + 256 * p + e) 255 = e from aL (4096 * n + 2048 * i + 256 * p) 8 256]
  rw [show oI (4096 * p + 256 * d) e = 4096 * p + 256 * d + e from oL (4096 * p + 256 * d) 0 8 0 256 1]

theorem eb8 {n i p e : Int} (h_n : 0 ≤ n ∧ n ≤ 15) (h_i : 0 ≤ i ∧ i ≤ 1) (h_p : 0 ≤ p ∧ p ≤ 7) (h_e : 0 ≤ e ∧ e ≤ 255) : (wH (oI (oI 62016 (sI (aI (rI (wI (aU (4096 * n + 2048 * i + 256 * p + e) 4095)) 11) 1) 10)) (wI (aU (rU (4096 * n + 2048 * i + 256 * p + e) 12) 15))) : Int) = 62016 + 1024 * i + n := by
  rw [show aU (4096 * n + 2048 * i + 256 * p + e) 4095 = 2048 * i + 256 * p + e from aLU (4096 * n) 12 4096]
  rw [show wI (2048 * i + 256 * p + e) = 2048 * i + 256 * p + e from wLI]
  rw [show rI (2048 * i + 256 * p + e) 11 = i from rL (256 * p + e) 2048]
  rw [show aI i 1 = i from aL 0 1 2]
  rw [show sI i 10 = 1024 * i from sL 1024]
  rw [show oI 62016 (1024 * i) = 62016 + 1024 * i from oL 61440 576 11 10 2048 1024]
  rw [show rU (4096 * n + 2048 * i + 256 * p + e) 12 = n from rLU (2048 * i + 256 * p + e) 4096]
  rw [show aU n 15 = n from aLU 0 4 16]
  rw [show wI n = n from wLI]
  rw [show oI (62016 + 1024 * i) n = 62016 + 1024 * i + n from oL (62016 + 1024 * i) 0 4 0 16 1]
  rw [show wH (62016 + 1024 * i + n) = 62016 + 1024 * i + n from wLH]

theorem eb9 {d n i p e : Int} (h_d : 0 ≤ d ∧ d ≤ 15) (h_n : 0 ≤ n ∧ n ≤ 15) (h_i : 0 ≤ i ∧ i ≤ 1) (h_p : 0 ≤ p ∧ p ≤ 7) (h_e : 0 ≤ e ∧ e ≤ 255) : (wH (oI (oI (sI (aI (rI (wI (aU (4096 * n + 2048 * i + 256 * p + e) 4095)) 8) 7) 12) (aI (wI (aU (4096 * n + 2048 * i + 256 * p + e) 4095)) 255)) (sI d 8)) : Int) = 4096 * p + 256 * d + e := by
  rw [show aU (4096 * n + 2048 * i + 256 * p + e) 4095 = 2048 * i + 256 * p + e from aLU (4096 * n) 12 4096]
  rw [show wI (2048 * i + 256 * p + e) = 2048 * i + 256 * p + e from wLI]
  rw [show rI (2048 * i + 256 * p + e) 8 = 8 * i + p from rL e 256]
  rw [show aI (8 * i + p) 7 = p from aL (8 * i) 3 8]
  rw [show sI p 12 = 4096 * p from sL 4096]
  try rw [show aU (4096 * n + 2048 * i + 256 * p + e) 4095 = 2048 * i + 256 * p + e from aLU (4096 * n) 12 4096]
  try rw [show wI (2048 * i + 256 * p + e) = 2048 * i + 256 * p + e from wLI]
  rw [show aI (2048 * i + 256 * p + e) 255 = e from aL (2048 * i + 256 * p) 8 256]
  rw [show oI (4096 * p) e = 4096 * p + e from oL (4096 * p) 0 8 0 256 1]
  rw [show sI d 8 = 256 * d from sL 256]
  rw [show oI (4096 * p + e) (256 * d) = 4096 * p + 256 * d + e from oL (4096 * p) e 12 8 4096 256]
  rw [show wH (4096 * p + 256 * d + e) = 4096 * p + 256 * d + e from wLH]

theorem eb10 {n i p e : Int} (h_n : 0 ≤ n ∧ n ≤ 15) (h_i : 0 ≤ i ∧ i ≤ 1) (h_p : 0 ≤ p ∧ p ≤ 7) (h_e : 0 ≤ e ∧ e ≤ 255) : (oI (oI 62144 (aI (rI (wI (4096 * n + 2048 * i + 256 * p + e)) 12) 15)) (sI (aI (rI (wI (4096 * n + 2048 * i + 256 * p + e)) 11) 1) 10) : Int) = 62144 + 1024 * i + n := by
  rw [show wI (4096 * n + 2048 * i + 256 * p + e) = 4096 * n + 2048 * i + 256 * p + e from wLI]
  rw [show rI (4096 * n + 2048 * i + 256 * p + e) 12 = n from rL (2048 * i + 256 * p + e) 4096]
  rw [show aI n 15 = n from aL 0 4 16]
  rw [show oI 62144 n = 62144 + n from oL 62144 0 4 0 16 1]
  try rw [show wI (4096 * n + 2048 * i + 256 * p + e) = 4096 * n + 2048 * i + 256 * p + e from wLI]
  rw [show rI (4096 * n + 2048 * i + 256 * p + e) 11 = 2 * n + i from rL (256 * p + e) 2048]
  rw [show aI (2 * n + i) 1 = i from aL (2 * n) 1 2]
  rw [show sI i 10 = 1024 * i from sL 1024]
  rw [show oI (62144 + n) (1024 * i) = 62144 + 1024 * i + n from oL 61440 (704 + n) 11 10 2048 1024]

theorem eb11 {n i p e : Int} (h_n : 0 ≤ n ∧ n ≤ 15) (h_i : 0 ≤ i ∧ i ≤ 1) (h_p : 0 ≤ p ∧ p ≤ 7) (h_e : 0 ≤ e ∧ e ≤ 255) : (wH (oI (oI 62144 (sI (aI (rI (wI (aU (4096 * n + 2048 * i + 256 * p + e) 4095)) 11) 1) 10)) (wI (aU (rU (4096 * n + 2048 * i + 256 * p + e) 12) 15))) : Int) = 62144 + 1024 * i + n := by
  rw [show aU (4096 * n + 2048 * i + 256 * p + e) 4095 = 2048 * i + 256 * p + e from aLU (4096 * n) 12 4096]
  rw [show wI (2048 * i + 256 * p + e) = 2048 * i + 256 * p + e from wLI]
  rw [show rI (2048 * i + 256 * p + e) 11 = i from rL (256 * p + e) 2048]
  rw [show aI i 1 = i from aL 0 1 2]
  rw [show sI i 10 = 1024 * i from sL 1024]
  rw [show oI 62144 (1024 * i) = 62144 + 1024 * i from oL 61440 704 11 10 2048 1024]
  rw [show rU (4096 * n + 2048 * i + 256 * p + e) 12 = n from rLU (2048 * i + 256 * p + e) 4096]
  rw [show aU n 15 = n from aLU 0 4 16]
  rw [show wI n = n from wLI]
  rw [show oI (62144 + 1024 * i) n = 62144 + 1024 * i + n from oL (62144 + 1024 * i) 0 4 0 16 1]
  rw [show wH (62144 + 1024 * i + n) = 62144 + 1024 * i + n from wLH]

theorem eb12 {n : Int} (h_n : 0 ≤ n ∧ n ≤ 15) : (oI 62272 n : Int) = 62272 + n := by
  rw [show oI 62272 n = 62272 + n from oL 62272 0 4 0 16 1]

theorem eb13 {d p g w : Int} (h_d : 0 ≤ d ∧ d ≤ 15) (h_p : 0 ≤ p ∧ p ≤ 7) (h_g : 0 ≤ g ∧ g ≤ 3) (h_w : 0 ≤ w ∧ w ≤ 31) : (oI (oI (oI (sI (rI (aI (wI (32 + 32 * w + 4 * p + g)) 31) 2) 12) (sI d 8)) (sI (aI (aI (wI (32 + 32 * w + 4 * p + g)) 31) 3) 6)) (aI (wI (rI (wI (32 + 32 * w + 4 * p + g)) 5 - 1)) 31) : Int) = 4096 * p + 256 * d + 64 * g + w := by
  rw [show wI (32 + 32 * w + 4 * p + g) = 32 + 32 * w + 4 * p + g from wLI]
  rw [show aI (32 + 32 * w + 4 * p + g) 31 = 4 * p + g from aL (32 + 32 * w) 5 32]
  rw [show rI (4 * p + g) 2 = p from rL g 4]
  rw [show sI p 12 = 4096 * p from sL 4096]
  rw [show sI d 8 = 256 * d from sL 256]
  rw [show oI (4096 * p) (256 * d) = 4096 * p + 256 * d from oL (4096 * p) 0 12 8 4096 256]
  try rw [show wI (32 + 32 * w + 4 * p + g) = 32 + 32 * w + 4 * p + g from wLI]
  try rw [show aI (32 + 32 * w + 4 * p + g) 31 = 4 * p + g from aL (32 + 32 * w) 5 32]
  rw [show aI (4 * p + g) 3 = g from aL (4 * p) 2 4]
  rw [show sI g 6 = 64 * g from sL 64]
  rw [show oI (4096 * p + 256 * d) (64 * g) = 4096 * p + 256 * d + 64 * g from oL (4096 * p + 256 * d) 0 8 6 256 64]
  try rw [show wI (32 + 32 * w + 4 * p + g) = 32 + 32 * w + 4 * p + g from wLI]
  rw [show rI (32 + 32 * w + 4 * p + g) 5 = 1 + w from rL (4 * p + g) 32]
  rw [show 1 + w - 1 = w from (by omega)]
  rw [show wI w = w from wLI]
  rw [show aI w 31 = w from aL 0 5 32]
  rw [show oI (4096 * p + 256 * d + 64 * g) w = 4096 * p + 256 * d + 64 * g + w from oL (4096 * p + 256 * d + 64 * g) 0 5 0 32 1]

theorem eb14 {n : Int} (h_n : 0 ≤ n ∧ n ≤ 15) : (wH (oI 62272 n) : Int) = 62272 + n := by
  rw [show oI 62272 n = 62272 + n from oL 62272 0 4 0 16 1]
  rw [show wH (62272 + n) = 62272 + n from wLH]

theorem eb15 {d p g w : Int} (h_d : 0 ≤ d ∧ d ≤ 15) (h_p : 0 ≤ p ∧ p ≤ 7) (h_g : 0 ≤ g ∧ g ≤ 3) (h_w : 0 ≤ w ∧ w ≤ 31) : (wH (oI (oI (oI (sI (rI (wI ((32 + 32 * w + 4 * p + g).tmod 32)) 2) 12) (sI (aI (wI ((32 + 32 * w + 4 * p + g).tmod 32)) 3) 6)) (sI d 8)) (aI (wI (wI (wU ((32 + 32 * w + 4 * p + g).tdiv 32)) - 1)) 31)) : Int) = 4096 * p + 256 * d + 64 * g + w := by
  rw [show (32 + 32 * w + 4 * p + g).tmod 32 = 4 * p + g from tmod_lin _ _ (4 * p + g) (1 + w) (by omega) (by omega) (by omega) (by omega)]
  rw [show wI (4 * p + g) = 4 * p + g from wLI]
  rw [show rI (4 * p + g) 2 = p from rL g 4]
  rw [show sI p 12 = 4096 * p from sL 4096]
  try rw [show (32 + 32 * w + 4 * p + g).tmod 32 = 4 * p + g from tmod_lin _ _ (4 * p + g) (1 + w) (by omega) (by omega) (by omega) (by omega)]
  try rw [show wI (4 * p + g) = 4 * p + g from wLI]
  rw [show aI (4 * p + g) 3 = g from aL (4 * p) 2 4]
  rw [show sI g 6 = 64 * g from sL 64]
  rw [show oI (4096 * p) (64 * g) = 4096 * p + 64 * g from oL (4096 * p) 0 8 6 256 64]
  rw [show sI d 8 = 256 * d from sL 256]
  rw [show oI (4096 * p + 64 * g) (256 * d) = 4096 * p + 256 * d + 64 * g from oL (4096 * p) (64 * g) 12 8 4096 256]
  rw [show (32 + 32 * w + 4 * p + g).tdiv 32 = 1 + w from tdiv_lin _ _ (4 * p + g) (1 + w) (by omega) (by omega) (by omega) (by omega)]
  rw [show wU (1 + w) = 1 + w from wLU]
  rw [show wI (1 + w) = 1 + w from wLI]
  rw [show 1 + w - 1 = w from (by omega)]
  rw [show wI w = w from wLI]
  rw [show aI w 31 = w from aL 0 5 32]
  rw [show oI (4096 * p + 256 * d + 64 * g) w = 4096 * p + 256 * d + 64 * g + w from oL (4096 * p + 256 * d + 64 * g) 0 5 0 32 1]
  rw [show wH (4096 * p + 256 * d + 64 * g + w) = 4096 * p + 256 * d + 64 * g + w from wLH]

theorem eb16 {n : Int} (h_n : 0 ≤ n ∧ n ≤ 15) : (oI 62400 n : Int) = 62400 + n := by
  rw [show oI 62400 n = 62400 + n from oL 62400 0 4 0 16 1]

theorem eb17 {n : Int} (h_n : 0 ≤ n ∧ n ≤ 15) : (wH (oI 62400 n) : Int) = 62400 + n := by
  rw [show oI 62400 n = 62400 + n from oL 62400 0 4 0 16 1]
  rw [show wH (62400 + n) = 62400 + n from wLH]

theorem eb18 {n : Int} (h_n : 0 ≤ n ∧ n ≤ 15) : (oI 62304 n : Int) = 62304 + n := by
  rw [show oI 62304 n = 62304 + n from oL 62304 0 4 0 16 1]

theorem eb19 {d p g w u : Int} (h_d : 0 ≤ d ∧ d ≤ 15) (h_p : 0 ≤ p ∧ p ≤ 7) (h_g : 0 ≤ g ∧ g ≤ 3) (h_w : 0 ≤ w ∧ w ≤ 31) (h_u : 1 ≤ u ∧ u ≤ 32) (hw : u + 4 * p + g = w + 1) : (oI (oI (oI (sI (rI (aI (wI (32 * u + 4 * p + g)) 31) 2) 12) (sI d 8)) (sI (aI (aI (wI (32 * u + 4 * p + g)) 31) 3) 6)) (aI (wI (wI (aI (wI (32 * u + 4 * p + g)) 31 + (rI (wI (32 * u + 4 * p + g)) 5)) - 1)) 31) : Int) = 4096 * p + 256 * d + 64 * g + w := by
  rw [show wI (32 * u + 4 * p + g) = 32 * u + 4 * p + g from wLI]
  rw [show aI (32 * u + 4 * p + g) 31 = 4 * p + g from aL (32 * u) 5 32]
  rw [show rI (4 * p + g) 2 = p from rL g 4]
  rw [show sI p 12 = 4096 * p from sL 4096]
  rw [show sI d 8 = 256 * d from sL 256]
  rw [show oI (4096 * p) (256 * d) = 4096 * p + 256 * d from oL (4096 * p) 0 12 8 4096 256]
  try rw [show wI (32 * u + 4 * p + g) = 32 * u + 4 * p + g from wLI]
  try rw [show aI (32 * u + 4 * p + g) 31 = 4 * p + g from aL (32 * u) 5 32]
  rw [show aI (4 * p + g) 3 = g from aL (4 * p) 2 4]
  rw [show sI g 6 = 64 * g from sL 64]
  rw [show oI (4096 * p + 256 * d) (64 * g) = 4096 * p + 256 * d + 64 * g from oL (4096 * p + 256 * d) 0 8 6 256 64]
  try rw [show wI (32 * u + 4 * p + g) = 32 * u + 4 * p + g from wLI]
  try rw [show aI (32 * u + 4 * p + g) 31 = 4 * p + g from aL (32 * u) 5 32]
  try rw [show wI (32 * u + 4 * p + g) = 32 * u + 4 * p + g from wLI]
  rw [show rI (32 * u + 4 * p + g) 5 = u from rL (4 * p + g) 32]
  rw [show wI (4 * p + g + u) = 4 * p + g + u from wLI]
  rw [show 4 * p + g + u - 1 = w from (by omega)]
  rw [show wI w = w from wLI]
  rw [show aI w 31 = w from aL 0 5 32]
  rw [show oI (4096 * p + 256 * d + 64 * g) w = 4096 * p + 256 * d + 64 * g + w from oL (4096 * p + 256 * d + 64 * g) 0 5 0 32 1]

theorem eb20 {n : Int} (h_n : 0 ≤ n ∧ n ≤ 15) : (wH (oI 62304 n) : Int) = 62304 + n := by
  rw [show oI 62304 n = 62304 + n from oL 62304 0 4 0 16 1]
  rw [show wH (62304 + n) = 62304 + n from wLH]

theorem eb21 {d p g w u : Int} (h_d : 0 ≤ d ∧ d ≤ 15) (h_p : 0 ≤ p ∧ p ≤ 7) (h_g : 0 ≤ g ∧ g ≤ 3) (h_w : 0 ≤ w ∧ w ≤ 31) (h_u : 1 ≤ u ∧ u ≤ 32) (hw : u + 4 * p + g = w + 1) : (wH (oI (oI (oI (sI (rI (wI ((32 * u + 4 * p + g).tmod 32)) 2) 12) (sI (aI (wI ((32 * u + 4 * p + g).tmod 32)) 3) 6)) (sI d 8)) (aI (wI (wI (wI ((32 * u + 4 * p + g).tmod 32) + (wI (wU ((32 * u + 4 * p + g).tdiv 32)))) - 1)) 31)) : Int) = 4096 * p + 256 * d + 64 * g + w := by
  rw [show (32 * u + 4 * p + g).tmod 32 = 4 * p + g from tmod_lin _ _ (4 * p + g) u (by omega) (by omega) (by omega) (by omega)]
  rw [show wI (4 * p + g) = 4 * p + g from wLI]
  rw [show rI (4 * p + g) 2 = p from rL g 4]
  rw [show sI p 12 = 4096 * p from sL 4096]
  try rw [show (32 * u + 4 * p + g).tmod 32 = 4 * p + g from tmod_lin _ _ (4 * p + g) u (by omega) (by omega) (by omega) (by omega)]
  try rw [show wI (4 * p + g) = 4 * p + g from wLI]
  rw [show aI (4 * p + g) 3 = g from aL (4 * p) 2 4]
  rw [show sI g 6 = 64 * g from sL 64]
  rw [show oI (4096 * p) (64 * g) = 4096 * p + 64 * g from oL (4096 * p) 0 8 6 256 64]
  rw [show sI d 8 = 256 * d from sL 256]
  rw [show oI (4096 * p + 64 * g) (256 * d) = 4096 * p + 256 * d + 64 * g from oL (4096 * p) (64 * g) 12 8 4096 256]
  try rw [show (32 * u + 4 * p + g).tmod 32 = 4 * p + g from tmod_lin _ _ (4 * p + g) u (by omega) (by omega) (by omega) (by omega)]
  try rw [show wI (4 * p + g) = 4 * p + g from wLI]
  rw [show (32 * u + 4 * p + g).tdiv 32 = u from tdiv_lin _ _ (4 * p + g) u (by omega) (by omega) (by omega) (by omega)]
  rw [show wU u = u from wLU]
  rw [show wI u = u from wLI]
  rw [show wI (4 * p + g + u) = 4 * p + g + u from wLI]
  rw [show 4 * p + g + u - 1 = w from (by omega)]
  rw [show wI w = w from wLI]
  rw [show aI w 31 = w from aL 0 5 32]
  rw [show oI (4096 * p + 256 * d + 64 * g) w = 4096 * p + 256 * d + 64 * g + w from oL (4096 * p + 256 * d + 64 * g) 0 5 0 32 1]
  rw [show wH (4096 * p + 256 * d + 64 * g + w) = 4096 * p + 256 * d + 64 * g + w from wLH]


theorem leaf_Nu_5 {d n i p e : Int} (h_d : 0 ≤ d ∧ d ≤ 15) (h_n : 0 ≤ n ∧ n ≤ 15) (h_i : 0 ≤ i ∧ i ≤ 1) (h_p : 0 ≤ p ∧ p ≤ 7) (h_e : 0 ≤ e ∧ e ≤ 255)  : o35y (S30.mk 5 true false 14 d n 0 2 (2048 * i + 256 * p + e) true 0 0 0 false false) = some (61952 + 1024 * i + n, 4096 * p + 256 * d + e) ∧ [61952 + 1024 * i + n, 4096 * p + 256 * d + e] ∈ cands (S30.mk 5 true false 14 d n 0 2 (2048 * i + 256 * p + e) true 0 0 0 false false) := by
  exact ⟨row_one (by kernel_rfl) (eb0 h_n h_i h_p h_e) (eb1 h_d h_i h_p h_e), (mem_cands _).2.1 (mem_at 0 (by kernel_rfl) (eb2 h_n h_i h_p h_e) (eb3 h_d h_i h_p h_e))⟩

theorem leaf_Nu_3 {d n i p e : Int} (h_d : 0 ≤ d ∧ d ≤ 15) (h_n : 0 ≤ n ∧ n ≤ 15) (h_i : 0 ≤ i ∧ i ≤ 1) (h_p : 0 ≤ p ∧ p ≤ 7) (h_e : 0 ≤ e ∧ e ≤ 255)  : o35y (S30.mk 3 true false 14 d n 0 2 (2048 * i + 256 * p + e) true 0 0 0 false false) = some (62112 + 1024 * i + n, 4096 * p + 256 * d + e) ∧ [62112 + 1024 * i + n, 4096 * p + 256 * d + e] ∈ cands (S30.mk 3 true false 14 d n 0 2 (2048 * i + 256 * p + e) true 0 0 0 false false) := by
  exact ⟨row_one (by kernel_rfl) (eb4 h_n h_i h_p h_e) (eb1 h_d h_i h_p h_e), (mem_cands _).2.1 (mem_at 0 (by kernel_rfl) (eb5 h_n h_i h_p h_e) (eb3 h_d h_i h_p h_e))⟩

theorem leaf_Nu_13 {d n i p e : Int} (h_d : 0 ≤ d ∧ d ≤ 15) (h_n : 0 ≤ n ∧ n ≤ 15) (h_i : 0 ≤ i ∧ i ≤ 1) (h_p : 0 ≤ p ∧ p ≤ 7) (h_e : 0 ≤ e ∧ e ≤ 255)  : o35y (S30.mk 13 true false 14 d 0 0 2 (4096 * n + 2048 * i + 256 * p + e) true 0 0 0 false false) = some (62016 + 1024 * i + n, 4096 * p + 256 * d + e) ∧ [62016 + 1024 * i + n, 4096 * p + 256 * d + e] ∈ cands (S30.mk 13 true false 14 d 0 0 2 (4096 * n + 2048 * i + 256 * p + e) true 0 0 0 false false) := by
  exact ⟨row_one (by kernel_rfl) (eb6 h_n h_i h_p h_e) (eb7 h_d h_n h_i h_p h_e), (mem_cands _).2.1 (mem_at 0 (by kernel_rfl) (eb8 h_n h_i h_p h_e) (eb9 h_d h_n h_i h_p h_e))⟩

theorem leaf_Nu_30 {d n i p e : Int} (h_d : 0 ≤ d ∧ d ≤ 15) (h_n : 0 ≤ n ∧ n ≤ 15) (h_i : 0 ≤ i ∧ i ≤ 1) (h_p : 0 ≤ p ∧ p ≤ 7) (h_e : 0 ≤ e ∧ e ≤ 255)  : o35y (S30.mk 30 true false 14 d 0 0 0 (4096 * n + 2048 * i + 256 * p + e) false 0 0 0 false false) = some (62144 + 1024 * i + n, 4096 * p + 256 * d + e) ∧ [62144 + 1024 * i + n, 4096 * p + 256 * d + e] ∈ cands (S30.mk 30 true false 14 d 0 0 0 (4096 * n + 2048 * i + 256 * p + e) false 0 0 0 false false) := by
  exact ⟨row_one (by kernel_rfl) (eb10 h_n h_i h_p h_e) (eb7 h_d h_n h_i h_p h_e), (mem_cands _).2.1 (mem_at 0 (by kernel_rfl) (eb11 h_n h_i h_p h_e) (eb9 h_d h_n h_i h_p h_e))⟩

theorem leaf_Nu_32 {d n p g w : Int} (h_d : 0 ≤ d ∧ d ≤ 15) (h_n : 0 ≤ n ∧ n ≤ 15) (h_p : 0 ≤ p ∧ p ≤ 7) (h_g : 0 ≤ g ∧ g ≤ 3) (h_w : 0 ≤ w ∧ w ≤ 31)  : o35y (S30.mk 32 true false 14 d n 0 0 (32 + 32 * w + 4 * p + g) false 0 0 0 false false) = some (62272 + n, 4096 * p + 256 * d + 64 * g + w) ∧ [62272 + n, 4096 * p + 256 * d + 64 * g + w] ∈ cands (S30.mk 32 true false 14 d n 0 0 (32 + 32 * w + 4 * p + g) false 0 0 0 false false) := by
  exact ⟨row_one (by kernel_rfl) (eb12 h_n) (eb13 h_d h_p h_g h_w), (mem_cands _).2.1 (mem_at 0 (by kernel_rfl) (eb14 h_n) (eb15 h_d h_p h_g h_w))⟩

theorem leaf_Nu_31 {d n p g w : Int} (h_d : 0 ≤ d ∧ d ≤ 15) (h_n : 0 ≤ n ∧ n ≤ 15) (h_p : 0 ≤ p ∧ p ≤ 7) (h_g : 0 ≤ g ∧ g ≤ 3) (h_w : 0 ≤ w ∧ w ≤ 31)  : o35y (S30.mk 31 true false 14 d n 0 0 (32 + 32 * w + 4 * p + g) false 0 0 0 false false) = some (62400 + n, 4096 * p + 256 * d + 64 * g + w) ∧ [62400 + n, 4096 * p + 256 * d + 64 * g + w] ∈ cands (S30.mk 31 true false 14 d n 0 0 (32 + 32 * w + 4 * p + g) false 0 0 0 false false) := by
  exact ⟨row_one (by kernel_rfl) (eb16 h_n) (eb13 h_d h_p h_g h_w), (mem_cands _).2.1 (mem_at 0 (by kernel_rfl) (eb17 h_n) (eb15 h_d h_p h_g h_w))⟩

theorem leaf_Nu_33 {d n p g w u : Int} (h_d : 0 ≤ d ∧ d ≤ 15) (h_n : 0 ≤ n ∧ n ≤ 15) (h_p : 0 ≤ p ∧ p ≤ 7) (h_g : 0 ≤ g ∧ g ≤ 3) (h_w : 0 ≤ w ∧ w ≤ 31) (h_u : 1 ≤ u ∧ u ≤ 32) (hw : u + 4 * p + g = w + 1) : o35y (S30.mk 33 true false 14 d n 0 0 (32 * u + 4 * p + g) false 0 0 0 false false) = some (62304 + n, 4096 * p + 256 * d + 64 * g + w) ∧ [62304 + n, 4096 * p + 256 * d + 64 * g + w] ∈ cands (S30.mk 33 true false 14 d n 0 0 (32 * u + 4 * p + g) false 0 0 0 false false) := by
  exact ⟨row_one (by kernel_rfl) (eb18 h_n) (eb19 h_d h_p h_g h_w h_u hw), (mem_cands _).2.1 (mem_at 0 (by kernel_rfl) (eb20 h_n) (eb21 h_d h_p h_g h_w h_u hw))⟩

end Go.Den
