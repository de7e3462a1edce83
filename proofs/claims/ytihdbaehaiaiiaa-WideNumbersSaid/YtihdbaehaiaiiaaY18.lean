import Derived.Test.YtihdbaehaiaiiaaZ6
import Derived.Test.YtihdbaehaiaiiaaY16
set_option linter.unusedSimpArgs false
set_option linter.unusedVariables false
set_option maxRecDepth 100000
namespace Go.Den

theorem ef0 {g n i p e : Int} (h_g : 0 ≤ g ∧ g ≤ 65535) (h_n : 0 ≤ n ∧ n ≤ 15) (h_i : 0 ≤ i ∧ i ≤ 1) (h_p : 0 ≤ p ∧ p ≤ 7) (h_e : 0 ≤ e ∧ e ≤ 255) : (oI (oI (oI 62016 (aI (rI (wI (65536 * g + 4096 * n + 2048 * i + 256 * p + e)) 12) 15)) (sI (aI (rI (wI (65536 * g + 4096 * n + 2048 * i + 256 * p + e)) 11) 1) 10)) 0 : Int) = 62016 + 1024 * i + n := by
  rw [show wI (65536 * g + 4096 * n + 2048 * i + 256 * p + e) = 65536 * g + 4096 * n + 2048 * i + 256 * p + e from wLI]
  rw [show rI (65536 * g + 4096 * n + 2048 * i + 256 * p + e) 12 = 16 * g + n from rL (2048 * i + 256 * p + e) 4096]
  rw [show aI (16 * g + n) 15 = n from aL (16 * g) 4 16]
  rw [show oI 62016 n = 62016 + n from oL 62016 0 4 0 16 1]
  try rw [show wI (65536 * g + 4096 * n + 2048 * i + 256 * p + e) = 65536 * g + 4096 * n + 2048 * i + 256 * p + e from wLI]
  rw [show rI (65536 * g + 4096 * n + 2048 * i + 256 * p + e) 11 = 32 * g + 2 * n + i from rL (256 * p + e) 2048]
  rw [show aI (32 * g + 2 * n + i) 1 = i from aL (32 * g + 2 * n) 1 2]
  rw [show sI i 10 = 1024 * i from sL 1024]
  rw [show oI (62016 + n) (1024 * i) = 62016 + 1024 * i + n from oL 61440 (576 + n) 11 10 2048 1024]
  rw [show oI (62016 + 1024 * i + n) 0 = 62016 + 1024 * i + n from oL (62016 + 1024 * i + n) 0 0 0 1 1]

theorem ef1 {d g n i p e : Int} (h_d : 0 ≤ d ∧ d ≤ 15) (h_g : 0 ≤ g ∧ g ≤ 65535) (h_n : 0 ≤ n ∧ n ≤ 15) (h_i : 0 ≤ i ∧ i ≤ 1) (h_p : 0 ≤ p ∧ p ≤ 7) (h_e : 0 ≤ e ∧ e ≤ 255) : (oI (oI (sI (aI (rI (wI (65536 * g + 4096 * n + 2048 * i + 256 * p + e)) 8) 7) 12) (sI d 8)) (aI (wI (65536 * g + 4096 * n + 2048 * i + 256 * p + e)) 255) : Int) = 4096 * p + 256 * d + e := by
  rw [show wI (65536 * g + 4096 * n + 2048 * i + 256 * p + e) = 65536 * g + 4096 * n + 2048 * i + 256 * p + e from wLI]
  rw [show rI (65536 * g + 4096 * n + 2048 * i + 256 * p + e) 8 = 256 * g + 16 * n + 8 * i + p from rL e 256]
  rw [show aI (256 * g + 16 * n + 8 * i + p) 7 = p from aL (256 * g + 16 * n + 8 * i) 3 8]
  rw [show sI p 12 = 4096 * p from sL 4096]
  rw [show sI d 8 = 256 * d from sL 256]
  rw [show oI (4096 * p) (256 * d) = 4096 * p + 256 * d from oL (4096 * p) 0 12 8 4096 256]
  try rw [show wI (65536 * g + 4096 * n + 2048 * i + 256 * p + e) = 65536 * g + 4096 * n + 2048 * i + 256 * p + e from wLI]
  rw [show aI (65536 * g + 4096 * n + 2048 * i + 256 * p + e) 255 = e from aL (65536 * g + 4096 * n + 2048 * i + 256 * p) 8 256]
  rw [show oI (4096 * p + 256 * d) e = 4096 * p + 256 * d + e from oL (4096 * p + 256 * d) 0 8 0 256 1]

theorem ef2 {g n i p e : Int} (h_g : 0 ≤ g ∧ g ≤ 65535) (h_n : 0 ≤ n ∧ n ≤ 15) (h_i : 0 ≤ i ∧ i ≤ 1) (h_p : 0 ≤ p ∧ p ≤ 7) (h_e : 0 ≤ e ∧ e ≤ 255) : (wH (oI (oI 62016 (sI (aI (rI (wI (aU (65536 * g + 4096 * n + 2048 * i + 256 * p + e) 4095)) 11) 1) 10)) (wI (aU (rU (65536 * g + 4096 * n + 2048 * i + 256 * p + e) 12) 15))) : Int) = 62016 + 1024 * i + n := by
  rw [show aU (65536 * g + 4096 * n + 2048 * i + 256 * p + e) 4095 = 2048 * i + 256 * p + e from aLU (65536 * g + 4096 * n) 12 4096]
  rw [show wI (2048 * i + 256 * p + e) = 2048 * i + 256 * p + e from wLI]
  rw [show rI (2048 * i + 256 * p + e) 11 = i from rL (256 * p + e) 2048]
  rw [show aI i 1 = i from aL 0 1 2]
  rw [show sI i 10 = 1024 * i from sL 1024]
  rw [show oI 62016 (1024 * i) = 62016 + 1024 * i from oL 61440 576 11 10 2048 1024]
  rw [show rU (65536 * g + 4096 * n + 2048 * i + 256 * p + e) 12 = 16 * g + n from rLU (2048 * i + 256 * p + e) 4096]
  rw [show aU (16 * g + n) 15 = n from aLU (16 * g) 4 16]
  rw [show wI n = n from wLI]
  rw [show oI (62016 + 1024 * i) n = 62016 + 1024 * i + n from oL (62016 + 1024 * i) 0 4 0 16 1]
  rw [show wH (62016 + 1024 * i + n) = 62016 + 1024 * i + n from wLH]

theorem ef3 {d g n i p e : Int} (h_d : 0 ≤ d ∧ d ≤ 15) (h_g : 0 ≤ g ∧ g ≤ 65535) (h_n : 0 ≤ n ∧ n ≤ 15) (h_i : 0 ≤ i ∧ i ≤ 1) (h_p : 0 ≤ p ∧ p ≤ 7) (h_e : 0 ≤ e ∧ e ≤ 255) : (wH (oI (oI (sI (aI (rI (wI (aU (65536 * g + 4096 * n + 2048 * i + 256 * p + e) 4095)) 8) 7) 12) (aI (wI (aU (65536 * g + 4096 * n + 2048 * i + 256 * p + e) 4095)) 255)) (sI d 8)) : Int) = 4096 * p + 256 * d + e := by
  rw [show aU (65536 * g + 4096 * n + 2048 * i + 256 * p + e) 4095 = 2048 * i + 256 * p + e from aLU (65536 * g + 4096 * n) 12 4096]
  rw [show wI (2048 * i + 256 * p + e) = 2048 * i + 256 * p + e from wLI]
  rw [show rI (2048 * i + 256 * p + e) 8 = 8 * i + p from rL e 256]
  rw [show aI (8 * i + p) 7 = p from aL (8 * i) 3 8]
  rw [show sI p 12 = 4096 * p from sL 4096]
  try rw [show aU (65536 * g + 4096 * n + 2048 * i + 256 * p + e) 4095 = 2048 * i + 256 * p + e from aLU (65536 * g + 4096 * n) 12 4096]
  try rw [show wI (2048 * i + 256 * p + e) = 2048 * i + 256 * p + e from wLI]
  rw [show aI (2048 * i + 256 * p + e) 255 = e from aL (2048 * i + 256 * p) 8 256]
  rw [show oI (4096 * p) e = 4096 * p + e from oL (4096 * p) 0 8 0 256 1]
  rw [show sI d 8 = 256 * d from sL 256]
  rw [show oI (4096 * p + e) (256 * d) = 4096 * p + 256 * d + e from oL (4096 * p) e 12 8 4096 256]
  rw [show wH (4096 * p + 256 * d + e) = 4096 * p + 256 * d + e from wLH]


theorem leaf_Nu_13g {d g n i p e : Int} (h_d : 0 ≤ d ∧ d ≤ 15) (h_g : 0 ≤ g ∧ g ≤ 65535) (h_n : 0 ≤ n ∧ n ≤ 15) (h_i : 0 ≤ i ∧ i ≤ 1) (h_p : 0 ≤ p ∧ p ≤ 7) (h_e : 0 ≤ e ∧ e ≤ 255)  : o35y (S30.mk 13 true false 14 d 0 0 2 (65536 * g + 4096 * n + 2048 * i + 256 * p + e) true 0 0 0 false false) = some (62016 + 1024 * i + n, 4096 * p + 256 * d + e) ∧ [62016 + 1024 * i + n, 4096 * p + 256 * d + e] ∈ cands (S30.mk 13 true false 14 d 0 0 2 (65536 * g + 4096 * n + 2048 * i + 256 * p + e) true 0 0 0 false false) := by
  exact ⟨row_one (by kernel_rfl) (ef0 h_g h_n h_i h_p h_e) (ef1 h_d h_g h_n h_i h_p h_e), (mem_cands _).2.1 (mem_at 0 (by kernel_rfl) (ef2 h_g h_n h_i h_p h_e) (ef3 h_d h_g h_n h_i h_p h_e))⟩


/-- a plain number: two halves for each -/
theorem mov_of {r n i p e : Int} (rr : 0 ≤ r ∧ r ≤ 12) (rn : 0 ≤ n ∧ n ≤ 15) (ri : 0 ≤ i ∧ i ≤ 1) (rp : 0 ≤ p ∧ p ≤ 7) (re : 0 ≤ e ∧ e ≤ 255) :
    U16 (62016 + 1024 * i + n) ∧ U16 (4096 * p + 256 * r + e) ∧ dW (62016 + 1024 * i + n) (4096 * p + 256 * r + e) false = S30.mk 13 true false 14 r 0 0 2 (4096 * n + 2048 * i + 256 * p + e) true 0 0 0 false false := by
  have hh : U16 (62016 + 1024 * i + n) := ⟨by omega, by omega⟩
  have hk : U16 (4096 * p + 256 * r + e) := ⟨by omega, by omega⟩
  refine ⟨hh, hk, ?_⟩
  have s1 := hNu hh
  have s2 := kMo hk
  generalize hH : 62016 + 1024 * i + n = H at *
  generalize hK : 4096 * p + 256 * r + e = K at *
  have b1 := fm_fact H 11 31 (by decide)
  have b2 := fm_fact H 10 1 (by decide)
  have b3 := fm_fact H 9 1 (by decide)
  have b4 := fm_fact H 4 31 (by decide)
  have b5 := fm_fact H 0 15 (by decide)
  have d1 := fm_fact K 15 1 (by decide)
  have d2 := fm_fact K 12 7 (by decide)
  have d3 := fm_fact K 8 15 (by decide)
  have d4 := fm_fact K 0 255 (by decide)
  have f1 : fm H 11 31 = 30 := by omega
  have f2 : fm H 10 1 = i := by omega
  have f3 : fm H 9 1 = 1 := by omega
  have f4 : fm H 4 31 = 4 := by omega
  have f5 : fm H 0 15 = n := by omega
  have g1 : fm K 15 1 = 0 := by omega
  have g2 : fm K 12 7 = p := by omega
  have g3 : fm K 8 15 = r := by omega
  have g4 : fm K 0 255 = e := by omega
  have rm := n12_rng ri rp re
  have e1 : p40 H K false = n12 i p e := by
    unfold p40
    rw [gf1 hh 10 (by decide), gf3 hk 12 (by decide), gf8 hk 0 (by decide), f2, g2, g4]
    exact n12_p ri rp re
  have en : n16 n (n12 i p e) = 4096 * n + 2048 * i + 256 * p + e := by
    unfold n16 n12
    omega
  have ho : oddB [r] = false := by
    rw [odd1]
    unfold p81
    rw [beqF (show r ≠ 13 by omega), beqF (show r ≠ 15 by omega)]
    rfl
  rw [(dW_c23 hh hk false f1 g1).2 f3]
  unfold p18
  simp only [gf4 hh, gf4 hk, gf5 hh, Int.reduceLE, e1, f4, f5, g3, n16_p rn rm, en, ho]
  rfl

/-- what is no plain number -/
theorem mov_not {r v : Int} (rr : 0 ≤ r ∧ r ≤ 12) (hv : 65536 ≤ v ∧ v ≤ 4294967295) : (E (S30.mk 13 true false 14 r 0 0 2 v true 0 0 0 false false)).2.2 = false := by
  have h1 := (leaf_Nu_13g (d := r) (g := v / 65536) (n := v / 4096 % 16) (i := v / 2048 % 2) (p := v / 256 % 8) (e := v % 256) (by omega) (by omega) (by omega) (by omega) (by omega) (by omega)).1
  rw [show 65536 * (v / 65536) + 4096 * (v / 4096 % 16) + 2048 * (v / 2048 % 2) + 256 * (v / 256 % 8) + v % 256 = v by omega] at h1
  obtain ⟨_, _, h2⟩ := mov_of (r := r) (n := v / 4096 % 16) (i := v / 2048 % 2) (p := v / 256 % 8) (e := v % 256) rr (by omega) (by omega) (by omega) (by omega)
  refine E_not h1 (z := S30.mk 13 true false 14 r 0 0 2 (4096 * (v / 4096 % 16) + 2048 * (v / 2048 % 2) + 256 * (v / 256 % 8) + v % 256) true 0 0 0 false false) ?_ ?_
  · rw [← h2]
  · intro h
    have := congrArg S30.f_Imm h
    simp only at this
    omega

noncomputable def chkM (m : Nat) : Bool := allT fun s => eqC (c42 12 15 (Int.ofNat m) s true false) (2, 13, Int.ofNat m, 0)
theorem chkM_all : allB chkM 13 0 = true := by kernel_rfl

/-- a modified number: two halves for each -/
theorem mod_of {r n : Int} {s : Int} (rr : 0 ≤ r ∧ r ≤ 12) (rs : 0 ≤ s ∧ s ≤ 1) {i p e : Int} (ri : 0 ≤ i ∧ i ≤ 1) (rp : 0 ≤ p ∧ p ≤ 7) (re : 0 ≤ e ∧ e ≤ 255) (hn : n = 2048 * i + 256 * p + e) (hok : (g41 n false).snd.snd = true) :
    U16 (61440 + 1024 * i + 64 + 16 * s + 15) ∧ U16 (4096 * p + 256 * r + e) ∧ dW (61440 + 1024 * i + 64 + 16 * s + 15) (4096 * p + 256 * r + e) false = S30.mk 13 true (s == 1) 14 r 0 0 (cond (shrF .u32 n 10 != 0) 1 0) (g41 n false).fst true 0 0 0 false false := by
  have hh : U16 (61440 + 1024 * i + 64 + 16 * s + 15) := ⟨by omega, by omega⟩
  have hk : U16 (4096 * p + 256 * r + e) := ⟨by omega, by omega⟩
  refine ⟨hh, hk, ?_⟩
  have s1 := hMo hh
  have s2 := kMo hk
  generalize hH : 61440 + 1024 * i + 64 + 16 * s + 15 = H at *
  generalize hK : 4096 * p + 256 * r + e = K at *
  have b1 := fm_fact H 11 31 (by decide)
  have b2 := fm_fact H 10 1 (by decide)
  have b3 := fm_fact H 9 1 (by decide)
  have b4 := fm_fact H 5 15 (by decide)
  have b5 := fm_fact H 4 1 (by decide)
  have b6 := fm_fact H 0 15 (by decide)
  have d1 := fm_fact K 15 1 (by decide)
  have d2 := fm_fact K 12 7 (by decide)
  have d3 := fm_fact K 8 15 (by decide)
  have d4 := fm_fact K 0 255 (by decide)
  have f1 : fm H 11 31 = 30 := by omega
  have f2 : fm H 10 1 = i := by omega
  have f3 : fm H 9 1 = 0 := by omega
  have f4 : fm H 5 15 = 2 := by omega
  have f5 : fm H 4 1 = s := by omega
  have f6 : fm H 0 15 = 15 := by omega
  have g1 : fm K 15 1 = 0 := by omega
  have g2 : fm K 12 7 = p := by omega
  have g3 : fm K 8 15 = r := by omega
  have g4 : fm K 0 255 = e := by omega
  have rm := n12_rng ri rp re
  have en : n12 i p e = n := by
    unfold n12
    omega
  have e1 : p40 H K false = n12 i p e := by
    unfold p40
    rw [gf1 hh 10 (by decide), gf3 hk 12 (by decide), gf8 hk 0 (by decide), f2, g2, g4]
    exact n12_p ri rp re
  have e2 := n12_w ri rp re
  rw [en] at rm e1 e2
  rw [(dW_c23 hh hk false f1 g1).1 f3]
  unfold g17 o17
  simp only [gf1 hh, gf1 hk, gf4 hh, gf4 hk, Int.reduceLE, e1, e2, p42_c, f4, f5, f6, g3]
  obtain ⟨v, hv⟩ := expand_some rm
  have hg : g41 n false = v := by unfold g41; rw [hv]; rfl
  rw [hg] at hok
  rw [hv, hg, hok]
  have hm : c42 12 15 r (s == 1) true false = (2, 13, r, 0) := by
    obtain ⟨m, rfl⟩ := Int.eq_ofNat_of_zero_le rr.1
    have hc := allB_ok chkM_all m (by omega) (by omega)
    unfold chkM at hc
    exact eqC_ok (allT_ok hc (s == 1))
  have h2 : ∀ A, mkD H K false (s == 1) 0 A v.fst true 0 0 (c42 (getI [1, 14, 12, 16, 2, 0, 0, 0, 5, 0, 6, 7, 0, 3, 4, 0] (2 : Int).toNat) 15 r (s == 1) true (!true)) = S30.mk 13 true (s == 1) 14 r 0 0 A v.fst true 0 0 0 false false := fun A => by
    show mkD H K false (s == 1) 0 A v.fst true 0 0 (c42 12 15 r (s == 1) true false) = _
    rw [hm]
    rfl
  simp only [Option.isSome_some, cond_true, h2]
  cases (shrF .u32 n 10 != 0) <;> rfl

/-- the row of a modified number -/
theorem mod_row {r v s i p e : Int} (rr : 0 ≤ r ∧ r ≤ 12) (rs : 0 ≤ s ∧ s ≤ 1) (ri : 0 ≤ i ∧ i ≤ 1) (rp : 0 ≤ p ∧ p ≤ 7) (re : 0 ≤ e ∧ e ≤ 255) (hB : cmpB v = true) (hN : cmpN v = 2048 * i + 256 * p + e) :
    o35y (S30.mk 13 true (s == 1) 14 r 0 0 0 v true 0 0 0 false false) = some (61440 + 1024 * i + 64 + 16 * s + 15, 4096 * p + 256 * r + e) ∧
    o35y (S30.mk 13 true (s == 1) 14 r 0 0 1 v true 0 0 0 false false) = some (61440 + 1024 * i + 64 + 16 * s + 15, 4096 * p + 256 * r + e) := by
  have a := (leaf_Mo0 (op := 13) (d' := r) (n' := 0) (u := 12) (v := v) (o := 2) (n := 15) (d := r) (s := s) (i := i) (p := p) (e := e) (by omega) (by omega) (by omega) rs ri rp re (by decide +kernel) (by decide +kernel) rfl rfl (by decide +kernel) hB hN).1
  have b := (leaf_Mo1 (op := 13) (d' := r) (n' := 0) (u := 12) (v := v) (o := 2) (n := 15) (d := r) (s := s) (i := i) (p := p) (e := e) (by omega) (by omega) (by omega) rs ri rp re (by decide +kernel) (by decide +kernel) rfl rfl (by decide +kernel) hB hN).1
  refine ⟨a.trans (congrArg some (Prod.ext ?_ ?_)), b.trans (congrArg some (Prod.ext ?_ ?_))⟩ <;> dsimp only <;> omega

/-- the row of what is no modified number -/
theorem none_row {r v s : Int} (rr : 0 ≤ r ∧ r ≤ 12) (rs : 0 ≤ s ∧ s ≤ 1) (hB : cmpB v = false) :
    o35y (S30.mk 13 true (s == 1) 14 r 0 0 0 v true 0 0 0 false false) = some (61440 + 64 + 16 * s + 15, 256 * r) ∧
    o35y (S30.mk 13 true (s == 1) 14 r 0 0 1 v true 0 0 0 false false) = some (61440 + 64 + 16 * s + 15, 256 * r) := by
  have hp : p13 v = (0, false) := by
    unfold p13
    rw [hB]
    rfl
  have x : oI (oI (oI (oI 61440 (sI (aI (rI (wI 0) 11) 1) 10)) (sI 2 5)) (sI (p68 (s == 1)) 4)) 15 = 61440 + 64 + 16 * s + 15 := by
    rw [p68_b rs]
    obtain rfl | rfl : s = 0 ∨ s = 1 := by omega
    all_goals decide +kernel
  have z : oI (oI (sI (aI (rI (wI 0) 8) 7) 12) (sI r 8)) (aI (wI 0) 255) = 256 * r := by
    rw [show sI (aI (rI (wI 0) 8) 7) 12 = 0 from by decide +kernel, show aI (wI 0) 255 = 0 from by decide +kernel]
    rw [show sI r 8 = 256 * r from sL 256]
    rw [show oI 0 (256 * r) = 256 * r from oL 0 0 12 8 4096 256]
    exact oL (256 * r) 0 0 0 1 1
  constructor
  · have j65 : o65 13 true (s == 1) 14 r 0 0 0 v true 0 0 0 false false = some (oI (oI (oI (oI 61440 (sI (aI (rI (wI 0) 11) 1) 10)) (sI 2 5)) (sI (p68 (s == 1)) 4)) 15, oI (oI (sI (aI (rI (wI 0) 8) 7) 12) (sI r 8)) (aI (wI 0) 255)) := by
      unfold o65
      rw [hp]
      kernel_rfl
    refine Eq.trans (b := some (oI (oI (oI (oI 61440 (sI (aI (rI (wI 0) 11) 1) 10)) (sI 2 5)) (sI (p68 (s == 1)) 4)) 15, oI (oI (sI (aI (rI (wI 0) 8) 7) 12) (sI r 8)) (aI (wI 0) 255))) ?_ (pair_some x z)
    unfold o35y o35
    dsimp only
    unfold g65
    rw [show p64 13 = 1 from by decide +kernel, j65]
    rfl
  · have j65 : o65 13 true (s == 1) 14 r 0 0 1 v true 0 0 0 false false = some (oI (oI (oI (oI 61440 (sI (aI (rI (wI 0) 11) 1) 10)) (sI 2 5)) (sI (p68 (s == 1)) 4)) 15, oI (oI (sI (aI (rI (wI 0) 8) 7) 12) (sI r 8)) (aI (wI 0) 255)) := by
      unfold o65
      rw [hp]
      kernel_rfl
    refine Eq.trans (b := some (oI (oI (oI (oI 61440 (sI (aI (rI (wI 0) 11) 1) 10)) (sI 2 5)) (sI (p68 (s == 1)) 4)) 15, oI (oI (sI (aI (rI (wI 0) 8) 7) 12) (sI r 8)) (aI (wI 0) 255))) ?_ (pair_some x z)
    unfold o35y o35
    dsimp only
    unfold g65
    rw [show p64 13 = 1 from by decide +kernel, j65]
    rfl

theorem cmp_zero : cmpB 0 = true := (cmp_is (v := 0) (n := 0) ⟨by decide, by decide +kernel, by decide +kernel⟩ (fun m hm => absurd hm (Nat.not_lt_zero m))).1

/-- whether a modified number can be said, and how -/
theorem mod_enc {r v s : Int} (rr : 0 ≤ r ∧ r ≤ 12) (rs : 0 ≤ s ∧ s ≤ 1) :
    (cmpB v = false ∧ (E (S30.mk 13 true (s == 1) 14 r 0 0 0 v true 0 0 0 false false)).2.2 = false ∧ (E (S30.mk 13 true (s == 1) 14 r 0 0 1 v true 0 0 0 false false)).2.2 = false) ∨
    (cmpB v = true ∧ ∃ h k, U16 h ∧ U16 k ∧ ((shrF .u32 (cmpN v) 10 != 0) = true ∧ (E (S30.mk 13 true (s == 1) 14 r 0 0 0 v true 0 0 0 false false)).2.2 = false ∧ E (S30.mk 13 true (s == 1) 14 r 0 0 1 v true 0 0 0 false false) = (h, k, true) ∧ dW h k false = S30.mk 13 true (s == 1) 14 r 0 0 1 v true 0 0 0 false false
      ∨ (shrF .u32 (cmpN v) 10 != 0) = false ∧ (E (S30.mk 13 true (s == 1) 14 r 0 0 1 v true 0 0 0 false false)).2.2 = false ∧ E (S30.mk 13 true (s == 1) 14 r 0 0 0 v true 0 0 0 false false) = (h, k, true) ∧ dW h k false = S30.mk 13 true (s == 1) 14 r 0 0 0 v true 0 0 0 false false)) := by
  cases hB : cmpB v with
  | false =>
    refine Or.inl ⟨rfl, ?_⟩
    obtain ⟨r0, r1⟩ := none_row (v := v) rr rs hB
    obtain ⟨u1, u2, hd⟩ := mod_of (n := 0) (i := 0) (p := 0) (e := 0) rr rs (by decide) (by decide) (by decide) (by decide) (by decide +kernel)
    have hz : (g41 0 false).fst = 0 := by decide +kernel
    have hd : dW (61440 + 64 + 16 * s + 15) (256 * r) false = S30.mk 13 true (s == 1) 14 r 0 0 (cond (shrF .u32 0 10 != 0) 1 0) (g41 0 false).fst true 0 0 0 false false := by
      rw [← hd]
      congr 1 <;> omega
    rw [hz] at hd
    have key : ∀ A : Int, o35y (S30.mk 13 true (s == 1) 14 r 0 0 A v true 0 0 0 false false) = some (61440 + 64 + 16 * s + 15, 256 * r) → (E (S30.mk 13 true (s == 1) 14 r 0 0 A v true 0 0 0 false false)).2.2 = false := fun A hA =>
      E_not hA hd (fun he => by
        have := congrArg S30.f_Imm he
        simp only at this
        rw [← this, cmp_zero] at hB
        cases hB)
    exact ⟨key 0 r0, key 1 r1⟩
  | true =>
    refine Or.inr ⟨rfl, ?_⟩
    obtain ⟨n, hn, hP, _⟩ := cmp_spec hB
    obtain ⟨hP1, hP2, hP3⟩ := hP
    have hsum : (n : Int) = 2048 * ((n : Int) / 2048) + 256 * ((n : Int) / 256 % 8) + (n : Int) % 256 := by omega
    obtain ⟨r0, r1⟩ := mod_row (v := v) (i := (n : Int) / 2048) (p := (n : Int) / 256 % 8) (e := (n : Int) % 256) rr rs (by omega) (by omega) (by omega) hB (hn.trans hsum)
    obtain ⟨u1, u2, hd⟩ := mod_of (n := (n : Int)) (i := (n : Int) / 2048) (p := (n : Int) / 256 % 8) (e := (n : Int) % 256) rr rs (by omega) (by omega) (by omega) hsum hP2
    rw [hP3] at hd
    refine ⟨_, _, u1, u2, ?_⟩
    rw [hn]
    cases hc : (shrF .u32 (n : Int) 10 != 0) with
    | true =>
      rw [hc] at hd
      have hd : dW _ _ false = S30.mk 13 true (s == 1) 14 r 0 0 1 v true 0 0 0 false false := hd
      exact Or.inl ⟨rfl, E_not r0 hd (fun he => by have := congrArg S30.f_A he; simp only at this; omega), E_is u1 u2 hd (by show (13 : Int) ≠ 64; decide) (by show (13 : Int) ≠ 65; decide), hd⟩
    | false =>
      rw [hc] at hd
      have hd : dW _ _ false = S30.mk 13 true (s == 1) 14 r 0 0 0 v true 0 0 0 false false := hd
      exact Or.inr ⟨rfl, E_not r1 hd (fun he => by have := congrArg S30.f_A he; simp only at this; omega), E_is u1 u2 hd (by show (13 : Int) ≠ 64; decide) (by show (13 : Int) ≠ 65; decide), hd⟩

theorem numbers_ok {v c : Int} {s : Bool} (hv : 0 ≤ v ∧ v ≤ 4294967295) (hc : 0 ≤ c ∧ c ≤ 255) : o6 v c s = some true := by
  have rC : 0 ≤ wrapF .i64 (c.tmod 13) ∧ wrapF .i64 (c.tmod 13) ≤ 12 := by
    have t := tmod_fact c 13 (by decide) hc.1
    rw [wrapF_le t.1 (by have := t.2.1; simp only [topN, Int.ofNat_eq_natCast]; omega)]
    omega
  obtain ⟨sv, rs, hs⟩ : ∃ sv : Int, (0 ≤ sv ∧ sv ≤ 1) ∧ s = (sv == 1) := by
    cases s
    · exact ⟨0, by decide, by decide⟩
    · exact ⟨1, by decide, by decide⟩
  unfold o6
  generalize wrapF .i64 (c.tmod 13) = r at *
  subst hs
  have hM := mod_enc (v := v) rC rs
  have hp : p13 v = cond (cmpB v) (cmpN v, true) (0, false) := rfl
  have sh0 : (shrF .u32 0 10 != 0) = false := by decide +kernel
  -- a plain number, or none
  have hP : (decide (v < 65536) = false ∧ (E (S30.mk 13 true false 14 r 0 0 2 v true 0 0 0 false false)).2.2 = false) ∨ (decide (v < 65536) = true ∧ ∃ h k, U16 h ∧ U16 k ∧ E (S30.mk 13 true false 14 r 0 0 2 v true 0 0 0 false false) = (h, k, true) ∧ (dW h k false).f_Imm = v) := by
    by_cases h : v < 65536
    · refine Or.inr ⟨decide_eq_true h, ?_⟩
      obtain ⟨u1, u2, hd⟩ := mov_of (r := r) (n := v / 4096) (i := v / 2048 % 2) (p := v / 256 % 8) (e := v % 256) rC (by omega) (by omega) (by omega) (by omega)
      have t1 : v / 2048 / 2 = v / 4096 := by omega
      have t2 : v / 256 / 8 = v / 2048 := by omega
      have t3 : 4096 * (v / 4096) + 2048 * (v / 2048 % 2) + 256 * (v / 256 % 8) + v % 256 = v := by
        clear hM hp sh0 hd u1 u2
        omega
      rw [t3] at hd
      exact ⟨_, _, u1, u2, E_is u1 u2 hd (by show (13 : Int) ≠ 64; decide) (by show (13 : Int) ≠ 65; decide), by rw [hd]⟩
    · exact Or.inl ⟨decide_eq_false h, mov_not rC ⟨by omega, hv.2⟩⟩
  rw [hp]
  rcases hM with ⟨m1, m2, m3⟩ | ⟨m1, h, k, u1, u2, ⟨m2, m3, m4, m5⟩ | ⟨m2, m3, m4, m5⟩⟩
  · rcases hP with ⟨q1, q2⟩ | ⟨q1, a, b, w1, w2, q2, q3⟩
    · simp only [m1, m2, m3, q1, q2, sh0, cond_true, cond_false, bne_self_eq_false, beq_self_eq_true, Bool.not_true, Bool.not_false]
    · simp only [m1, m2, m3, q1, q2, q3, sh0, decide_eq_true (And.intro w1 w2), cond_true, cond_false, bne_self_eq_false, beq_self_eq_true, Bool.not_true, Bool.not_false]
  · rcases hP with ⟨q1, q2⟩ | ⟨q1, a, b, w1, w2, q2, q3⟩
    · simp only [m1, m2, m3, m4, m5, q1, q2, decide_eq_true (And.intro u1 u2), cond_true, cond_false, bne_self_eq_false, beq_self_eq_true, Bool.not_true, Bool.not_false]
    · simp only [m1, m2, m3, m4, m5, q1, q2, q3, decide_eq_true (And.intro u1 u2), decide_eq_true (And.intro w1 w2), cond_true, cond_false, bne_self_eq_false, beq_self_eq_true, Bool.not_true, Bool.not_false]
  · rcases hP with ⟨q1, q2⟩ | ⟨q1, a, b, w1, w2, q2, q3⟩
    · simp only [m1, m2, m3, m4, m5, q1, q2, decide_eq_true (And.intro u1 u2), cond_true, cond_false, bne_self_eq_false, beq_self_eq_true, Bool.not_true, Bool.not_false]
    · simp only [m1, m2, m3, m4, m5, q1, q2, q3, decide_eq_true (And.intro u1 u2), decide_eq_true (And.intro w1 w2), cond_true, cond_false, bne_self_eq_false, beq_self_eq_true, Bool.not_true, Bool.not_false]

end Go.Den
