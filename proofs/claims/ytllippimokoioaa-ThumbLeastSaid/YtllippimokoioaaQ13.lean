import Derived.Test.YtllippimokoioaaQ12
import Derived.Test.YtllippimokoioaaE90
import Derived.Test.YtllippimokoioaaE91
import Derived.Test.YtllippimokoioaaE92
import Derived.Test.YtllippimokoioaaE93
set_option linter.unusedVariables false
set_option linter.unusedSimpArgs false
set_option maxRecDepth 100000
namespace Go.Den

theorem gchk_all {h : Nat} (hh : h < 65536) : gchk h = true := by
  by_cases h0 : h < 1024
  · exact chunk2 0 gchk_0 (by omega) (by omega)
  by_cases h1 : h < 2048
  · exact chunk2 1024 gchk_1 (by omega) (by omega)
  by_cases h2 : h < 3072
  · exact chunk2 2048 gchk_2 (by omega) (by omega)
  by_cases h3 : h < 4096
  · exact chunk2 3072 gchk_3 (by omega) (by omega)
  by_cases h4 : h < 5120
  · exact chunk2 4096 gchk_4 (by omega) (by omega)
  by_cases h5 : h < 6144
  · exact chunk2 5120 gchk_5 (by omega) (by omega)
  by_cases h6 : h < 7168
  · exact chunk2 6144 gchk_6 (by omega) (by omega)
  by_cases h7 : h < 8192
  · exact chunk2 7168 gchk_7 (by omega) (by omega)
  by_cases h8 : h < 9216
  · exact chunk2 8192 gchk_8 (by omega) (by omega)
  by_cases h9 : h < 10240
  · exact chunk2 9216 gchk_9 (by omega) (by omega)
  by_cases h10 : h < 11264
  · exact chunk2 10240 gchk_10 (by omega) (by omega)
  by_cases h11 : h < 12288
  · exact chunk2 11264 gchk_11 (by omega) (by omega)
  by_cases h12 : h < 13312
  · exact chunk2 12288 gchk_12 (by omega) (by omega)
  by_cases h13 : h < 14336
  · exact chunk2 13312 gchk_13 (by omega) (by omega)
  by_cases h14 : h < 15360
  · exact chunk2 14336 gchk_14 (by omega) (by omega)
  by_cases h15 : h < 16384
  · exact chunk2 15360 gchk_15 (by omega) (by omega)
  by_cases h16 : h < 17408
  · exact chunk2 16384 gchk_16 (by omega) (by omega)
  by_cases h17 : h < 18432
  · exact chunk2 17408 gchk_17 (by omega) (by omega)
  by_cases h18 : h < 19456
  · exact chunk2 18432 gchk_18 (by omega) (by omega)
  by_cases h19 : h < 20480
  · exact chunk2 19456 gchk_19 (by omega) (by omega)
  by_cases h20 : h < 21504
  · exact chunk2 20480 gchk_20 (by omega) (by omega)
  by_cases h21 : h < 22528
  · exact chunk2 21504 gchk_21 (by omega) (by omega)
  by_cases h22 : h < 23552
  · exact chunk2 22528 gchk_22 (by omega) (by omega)
  by_cases h23 : h < 24576
  · exact chunk2 23552 gchk_23 (by omega) (by omega)
  by_cases h24 : h < 25600
  · exact chunk2 24576 gchk_24 (by omega) (by omega)
  by_cases h25 : h < 26624
  · exact chunk2 25600 gchk_25 (by omega) (by omega)
  by_cases h26 : h < 27648
  · exact chunk2 26624 gchk_26 (by omega) (by omega)
  by_cases h27 : h < 28672
  · exact chunk2 27648 gchk_27 (by omega) (by omega)
  by_cases h28 : h < 29696
  · exact chunk2 28672 gchk_28 (by omega) (by omega)
  by_cases h29 : h < 30720
  · exact chunk2 29696 gchk_29 (by omega) (by omega)
  by_cases h30 : h < 31744
  · exact chunk2 30720 gchk_30 (by omega) (by omega)
  by_cases h31 : h < 32768
  · exact chunk2 31744 gchk_31 (by omega) (by omega)
  by_cases h32 : h < 33792
  · exact chunk2 32768 gchk_32 (by omega) (by omega)
  by_cases h33 : h < 34816
  · exact chunk2 33792 gchk_33 (by omega) (by omega)
  by_cases h34 : h < 35840
  · exact chunk2 34816 gchk_34 (by omega) (by omega)
  by_cases h35 : h < 36864
  · exact chunk2 35840 gchk_35 (by omega) (by omega)
  by_cases h36 : h < 37888
  · exact chunk2 36864 gchk_36 (by omega) (by omega)
  by_cases h37 : h < 38912
  · exact chunk2 37888 gchk_37 (by omega) (by omega)
  by_cases h38 : h < 39936
  · exact chunk2 38912 gchk_38 (by omega) (by omega)
  by_cases h39 : h < 40960
  · exact chunk2 39936 gchk_39 (by omega) (by omega)
  by_cases h40 : h < 41984
  · exact chunk2 40960 gchk_40 (by omega) (by omega)
  by_cases h41 : h < 43008
  · exact chunk2 41984 gchk_41 (by omega) (by omega)
  by_cases h42 : h < 44032
  · exact chunk2 43008 gchk_42 (by omega) (by omega)
  by_cases h43 : h < 45056
  · exact chunk2 44032 gchk_43 (by omega) (by omega)
  by_cases h44 : h < 46080
  · exact chunk2 45056 gchk_44 (by omega) (by omega)
  by_cases h45 : h < 47104
  · exact chunk2 46080 gchk_45 (by omega) (by omega)
  by_cases h46 : h < 48128
  · exact chunk2 47104 gchk_46 (by omega) (by omega)
  by_cases h47 : h < 49152
  · exact chunk2 48128 gchk_47 (by omega) (by omega)
  by_cases h48 : h < 50176
  · exact chunk2 49152 gchk_48 (by omega) (by omega)
  by_cases h49 : h < 51200
  · exact chunk2 50176 gchk_49 (by omega) (by omega)
  by_cases h50 : h < 52224
  · exact chunk2 51200 gchk_50 (by omega) (by omega)
  by_cases h51 : h < 53248
  · exact chunk2 52224 gchk_51 (by omega) (by omega)
  by_cases h52 : h < 54272
  · exact chunk2 53248 gchk_52 (by omega) (by omega)
  by_cases h53 : h < 55296
  · exact chunk2 54272 gchk_53 (by omega) (by omega)
  by_cases h54 : h < 56320
  · exact chunk2 55296 gchk_54 (by omega) (by omega)
  by_cases h55 : h < 57344
  · exact chunk2 56320 gchk_55 (by omega) (by omega)
  by_cases h56 : h < 58368
  · exact chunk2 57344 gchk_56 (by omega) (by omega)
  by_cases h57 : h < 59392
  · exact chunk2 58368 gchk_57 (by omega) (by omega)
  by_cases h58 : h < 60416
  · exact chunk2 59392 gchk_58 (by omega) (by omega)
  by_cases h59 : h < 61440
  · exact chunk2 60416 gchk_59 (by omega) (by omega)
  by_cases h60 : h < 62464
  · exact chunk2 61440 gchk_60 (by omega) (by omega)
  by_cases h61 : h < 63488
  · exact chunk2 62464 gchk_61 (by omega) (by omega)
  by_cases h62 : h < 64512
  · exact chunk2 63488 gchk_62 (by omega) (by omega)
  by_cases h63 : h < 65536
  · exact chunk2 64512 gchk_63 (by omega) (by omega)
  omega

/-- a search through groups -/
noncomputable def srch (y : S39) (b : Bool) : List Int → Int × Bool
  | [] => (0, false)
  | g :: l => cond (foundG y b g) (wordG y b g, true) (srch y b l)

theorem srch_cond (y : S39) (b c : Bool) (l1 l2 : List Int) : srch y b (cond c l1 l2) = cond c (srch y b l1) (srch y b l2) := by cases c <;> rfl

def grpL (op : Int) : List Int := (cond (op == 17) [0, 8] (cond (op == 18) [1, 8] (cond (op == 19) [2, 8] (cond (op == 13) [0, 4, 8] (cond (op == 5) [3, 6, 8, 21, 22] (cond (op == 3) [3, 7, 22] (cond (op == 10) [5, 8] (cond (op == 49) [10, 12, 14, 16, 18] (cond (op == 50) [10, 12, 14, 16, 18] (cond (op == 51) [10, 12, 14, 16, 18] (cond (op == 44) [9, 10, 11, 13, 15, 17, 19] (cond (op == 45) [9, 10, 11, 13, 15, 17, 19] (cond (op == 46) [9, 10, 11, 13, 15, 17, 19] (cond (op == 47) [9, 10, 11, 13, 15, 17, 19] (cond (op == 48) [9, 10, 11, 13, 15, 17, 19] (cond (op == 43) [20] (cond (op == 53) [22, 23, 24, 25] (cond (op == 52) [22, 23, 24, 25] (cond (op == 58) [22, 23, 24, 25] (cond (op == 59) [22, 23, 24, 25] (cond (op == 39) [22, 23, 24, 25] (cond (op == 40) [22, 23, 24, 25] (cond (op == 41) [22, 23, 24, 25] (cond (op == 42) [22, 23, 24, 25] (cond (op == 36) [22, 23, 24, 25] (cond (op == 37) [22, 23, 24, 25] (cond (op == 38) [22, 23, 24, 25] (cond (op == 63) [22, 23, 24, 25] (cond (op == 61) [22, 23, 24, 25] (cond (op == 60) [22, 23, 24, 25] (cond (op == 54) [26, 27, 28] (cond (op == 62) [26, 27, 28] [8]))))))))))))))))))))))))))))))))

theorem p33_srch (y : S39) (b : Bool) : p33 y.f_Op y.f_Wide y.f_S y.f_Cond y.f_D y.f_N y.f_M y.f_A y.f_Imm y.f_UseImm y.f_Sh y.f_Amt y.f_List y.f_Back y.f_Down b = cond y.f_Wide (0, false) (cond (y.f_Op == 64) (0, false) (cond (y.f_Op == 65) (0, false) (srch y b (grpL y.f_Op)))) := by
  unfold p33 grpL
  simp only [srch_cond, srch]

theorem srch_enc (y : S39) (b : Bool) : ∀ (l : List Int), l.Pairwise (· < ·) → (∀ g ∈ l, 0 ≤ g) → (∀ w, Word y b w → ((w / 2048 : Nat) : Int) ∈ l) → srch y b l = (cond (found y b) (word y b) 0, found y b)
  | [], _, _, hm => by
    have hf : found y b = false := Bool.eq_false_iff.2 fun hf => by
      obtain ⟨w, hw⟩ := found_iff.1 hf
      have := hm w hw
      simp at this
    rw [hf]
    rfl
  | g :: l, hs, hp, hm => by
    rw [List.pairwise_cons] at hs
    have hg : 0 ≤ g := hp g List.mem_cons_self
    show cond (foundG y b g) (wordG y b g, true) (srch y b l) = _
    cases hf : foundG y b g with
    | true =>
      obtain ⟨w, h1, h2, h3⟩ := wordG_spec hf
      have hw2 := h2.2
      obtain ⟨f1, f2⟩ := word_is h2.1 (fun v hv hV => by
        rcases List.mem_cons.1 (hm v hV) with he | he
        · have := h3 v ⟨hV, by omega⟩
          omega
        · have := hs.1 _ he
          omega)
      rw [f1, f2, h1]
      rfl
    | false =>
      simp only [cond_false]
      refine srch_enc y b l hs.2 (fun x hx => hp x (List.mem_cons_of_mem _ hx)) (fun w hw => ?_)
      rcases List.mem_cons.1 (hm w hw) with he | he
      · exact absurd ((foundG_iff (g := g)).2 ⟨w, hw, by omega⟩) (by rw [hf]; simp)
      · exact he

theorem grp_tab : ∀ n < 64, grpL ((n : Nat) : Int) = (getG grpT n).map Int.ofNat ∧ (grpL ((n : Nat) : Int)).Pairwise (· < ·) ∧ ∀ g ∈ grpL ((n : Nat) : Int), 0 ≤ g := by decide +kernel

theorem op_rng : ∀ n : Nat, getG grpT n ≠ [] → n < 66 := by
  intro n hn
  by_cases h : n < 66
  · exact h
  · exfalso
    apply hn
    have : ∀ (l : List (List Nat)) (m : Nat), l.length ≤ m → getG l m = [] := by
      intro l
      induction l with
      | nil => intro m _; rfl
      | cons a l ih =>
        intro m hm
        cases m with
        | zero => simp at hm
        | succ m => exact ih m (by simpa using hm)
    exact this grpT n (by show 66 ≤ n; omega)

theorem word_grp {w : Nat} (hw : w < 65536) (b : Bool) (h64 : ((p30 (w : Int) b).f_Op == 64) = false) (h65 : ((p30 (w : Int) b).f_Op == 65) = false) :
    ∃ n : Nat, n < 64 ∧ (p30 (w : Int) b).f_Op = (n : Int) ∧ w / 2048 ∈ getG grpT n := by
  have h := gchk_all hw
  unfold gchk at h
  obtain ⟨h1, h2⟩ := and1B_ok h
  have hm : w / 2048 ∈ getG grpT (opN (p30 (w : Int) b).f_Op) := by
    cases b
    · exact memN_ok h1
    · exact memN_ok h2
  have hlt := op_rng _ (List.ne_nil_of_mem hm)
  have ho := opN_ok hlt
  rw [beq_eq_false_iff_ne] at h64 h65
  refine ⟨_, ?_, ho, hm⟩
  omega

theorem p33_enc (y : S39) (b : Bool) : p33 y.f_Op y.f_Wide y.f_S y.f_Cond y.f_D y.f_N y.f_M y.f_A y.f_Imm y.f_UseImm y.f_Sh y.f_Amt y.f_List y.f_Back y.f_Down b = (encW y b, encB y b) := by
  rw [p33_srch]
  unfold encW encB
  cases hw : y.f_Wide with
  | true => rfl
  | false =>
    simp only [cond_false]
    cases h64 : (y.f_Op == 64) with
    | true => rfl
    | false =>
      simp only [cond_false]
      cases h65 : (y.f_Op == 65) with
      | true => rfl
      | false =>
        simp only [cond_false]
        by_cases hf : ∃ w, Word y b w
        · obtain ⟨w0, hw0⟩ := hf
          have e0 : p30 (w0 : Int) b = y := hw0.2
          obtain ⟨n, hn, ho, _⟩ := word_grp hw0.1 b (by rw [e0]; exact h64) (by rw [e0]; exact h65)
          rw [e0] at ho
          obtain ⟨t1, t2, t3⟩ := grp_tab n hn
          rw [ho]
          refine srch_enc y b _ t2 t3 (fun w hW => ?_)
          have e : p30 (w : Int) b = y := hW.2
          obtain ⟨m, hm, hom, hmem⟩ := word_grp hW.1 b (by rw [e]; exact h64) (by rw [e]; exact h65)
          rw [e, ho] at hom
          have : n = m := Int.ofNat.inj hom
          subst this
          rw [t1]
          exact List.mem_map.2 ⟨_, hmem, rfl⟩
        · have hf0 : found y b = false := Bool.eq_false_iff.2 fun h => hf (found_iff.1 h)
          rw [hf0]
          have : ∀ l : List Int, srch y b l = (0, false) := by
            intro l
            induction l with
            | nil => rfl
            | cons g l ih =>
              have : foundG y b g = false := Bool.eq_false_iff.2 fun h => by
                obtain ⟨w, h1⟩ := foundG_iff.1 h
                exact hf ⟨w, h1.1⟩
              show cond (foundG y b g) _ _ = _
              rw [this]
              exact ih
          rw [this]
          rfl

end Go.Den
