import Derived.Test.YtllippimokoioaaE30
import Derived.Test.YtllippimokoioaaE31
import Derived.Test.YtllippimokoioaaE32
import Derived.Test.YtllippimokoioaaE33
import Derived.Test.YtllippimokoioaaQ7
set_option linter.unusedVariables false
set_option linter.unusedSimpArgs false
set_option maxRecDepth 100000
namespace Go.Den

theorem chunk {f : Nat → Bool} {h : Nat} (k : Nat) (hk : allB 1024 (fun i => f (Nat.add k i)) = true) (h0 : k ≤ h) (h1 : h < k + 1024) : f h = true := by
  have := allB_ok hk (h - k) (by omega)
  rwa [show Nat.add k (h - k) = h by show k + (h - k) = h; omega] at this

theorem chk_all {h : Nat} (hh : h < 65536) : chk h = true := by
  by_cases h0 : h < 1024
  · exact chunk 0 chk_0 (by omega) (by omega)
  by_cases h1 : h < 2048
  · exact chunk 1024 chk_1 (by omega) (by omega)
  by_cases h2 : h < 3072
  · exact chunk 2048 chk_2 (by omega) (by omega)
  by_cases h3 : h < 4096
  · exact chunk 3072 chk_3 (by omega) (by omega)
  by_cases h4 : h < 5120
  · exact chunk 4096 chk_4 (by omega) (by omega)
  by_cases h5 : h < 6144
  · exact chunk 5120 chk_5 (by omega) (by omega)
  by_cases h6 : h < 7168
  · exact chunk 6144 chk_6 (by omega) (by omega)
  by_cases h7 : h < 8192
  · exact chunk 7168 chk_7 (by omega) (by omega)
  by_cases h8 : h < 9216
  · exact chunk 8192 chk_8 (by omega) (by omega)
  by_cases h9 : h < 10240
  · exact chunk 9216 chk_9 (by omega) (by omega)
  by_cases h10 : h < 11264
  · exact chunk 10240 chk_10 (by omega) (by omega)
  by_cases h11 : h < 12288
  · exact chunk 11264 chk_11 (by omega) (by omega)
  by_cases h12 : h < 13312
  · exact chunk 12288 chk_12 (by omega) (by omega)
  by_cases h13 : h < 14336
  · exact chunk 13312 chk_13 (by omega) (by omega)
  by_cases h14 : h < 15360
  · exact chunk 14336 chk_14 (by omega) (by omega)
  by_cases h15 : h < 16384
  · exact chunk 15360 chk_15 (by omega) (by omega)
  by_cases h16 : h < 17408
  · exact chunk 16384 chk_16 (by omega) (by omega)
  by_cases h17 : h < 18432
  · exact chunk 17408 chk_17 (by omega) (by omega)
  by_cases h18 : h < 19456
  · exact chunk 18432 chk_18 (by omega) (by omega)
  by_cases h19 : h < 20480
  · exact chunk 19456 chk_19 (by omega) (by omega)
  by_cases h20 : h < 21504
  · exact chunk 20480 chk_20 (by omega) (by omega)
  by_cases h21 : h < 22528
  · exact chunk 21504 chk_21 (by omega) (by omega)
  by_cases h22 : h < 23552
  · exact chunk 22528 chk_22 (by omega) (by omega)
  by_cases h23 : h < 24576
  · exact chunk 23552 chk_23 (by omega) (by omega)
  by_cases h24 : h < 25600
  · exact chunk 24576 chk_24 (by omega) (by omega)
  by_cases h25 : h < 26624
  · exact chunk 25600 chk_25 (by omega) (by omega)
  by_cases h26 : h < 27648
  · exact chunk 26624 chk_26 (by omega) (by omega)
  by_cases h27 : h < 28672
  · exact chunk 27648 chk_27 (by omega) (by omega)
  by_cases h28 : h < 29696
  · exact chunk 28672 chk_28 (by omega) (by omega)
  by_cases h29 : h < 30720
  · exact chunk 29696 chk_29 (by omega) (by omega)
  by_cases h30 : h < 31744
  · exact chunk 30720 chk_30 (by omega) (by omega)
  by_cases h31 : h < 32768
  · exact chunk 31744 chk_31 (by omega) (by omega)
  by_cases h32 : h < 33792
  · exact chunk 32768 chk_32 (by omega) (by omega)
  by_cases h33 : h < 34816
  · exact chunk 33792 chk_33 (by omega) (by omega)
  by_cases h34 : h < 35840
  · exact chunk 34816 chk_34 (by omega) (by omega)
  by_cases h35 : h < 36864
  · exact chunk 35840 chk_35 (by omega) (by omega)
  by_cases h36 : h < 37888
  · exact chunk 36864 chk_36 (by omega) (by omega)
  by_cases h37 : h < 38912
  · exact chunk 37888 chk_37 (by omega) (by omega)
  by_cases h38 : h < 39936
  · exact chunk 38912 chk_38 (by omega) (by omega)
  by_cases h39 : h < 40960
  · exact chunk 39936 chk_39 (by omega) (by omega)
  by_cases h40 : h < 41984
  · exact chunk 40960 chk_40 (by omega) (by omega)
  by_cases h41 : h < 43008
  · exact chunk 41984 chk_41 (by omega) (by omega)
  by_cases h42 : h < 44032
  · exact chunk 43008 chk_42 (by omega) (by omega)
  by_cases h43 : h < 45056
  · exact chunk 44032 chk_43 (by omega) (by omega)
  by_cases h44 : h < 46080
  · exact chunk 45056 chk_44 (by omega) (by omega)
  by_cases h45 : h < 47104
  · exact chunk 46080 chk_45 (by omega) (by omega)
  by_cases h46 : h < 48128
  · exact chunk 47104 chk_46 (by omega) (by omega)
  by_cases h47 : h < 49152
  · exact chunk 48128 chk_47 (by omega) (by omega)
  by_cases h48 : h < 50176
  · exact chunk 49152 chk_48 (by omega) (by omega)
  by_cases h49 : h < 51200
  · exact chunk 50176 chk_49 (by omega) (by omega)
  by_cases h50 : h < 52224
  · exact chunk 51200 chk_50 (by omega) (by omega)
  by_cases h51 : h < 53248
  · exact chunk 52224 chk_51 (by omega) (by omega)
  by_cases h52 : h < 54272
  · exact chunk 53248 chk_52 (by omega) (by omega)
  by_cases h53 : h < 55296
  · exact chunk 54272 chk_53 (by omega) (by omega)
  by_cases h54 : h < 56320
  · exact chunk 55296 chk_54 (by omega) (by omega)
  by_cases h55 : h < 57344
  · exact chunk 56320 chk_55 (by omega) (by omega)
  by_cases h56 : h < 58368
  · exact chunk 57344 chk_56 (by omega) (by omega)
  by_cases h57 : h < 59392
  · exact chunk 58368 chk_57 (by omega) (by omega)
  by_cases h58 : h < 60416
  · exact chunk 59392 chk_58 (by omega) (by omega)
  by_cases h59 : h < 61440
  · exact chunk 60416 chk_59 (by omega) (by omega)
  by_cases h60 : h < 62464
  · exact chunk 61440 chk_60 (by omega) (by omega)
  by_cases h61 : h < 63488
  · exact chunk 62464 chk_61 (by omega) (by omega)
  by_cases h62 : h < 64512
  · exact chunk 63488 chk_62 (by omega) (by omega)
  by_cases h63 : h < 65536
  · exact chunk 64512 chk_63 (by omega) (by omega)
  omega


theorem chk_parts {h : Nat} (hh : h < 65536) : flags9 (p30 (h : Int) false) (p30 (h : Int) true) = true ∧ ((p30 (h : Int) false).f_Op = 0 → False) ∧ (h < 8197 → p30 (h : Int) false = y1 → False) ∧
    (p30 (h : Int) false).f_Wide = false ∧ (p30 (h : Int) true).f_Wide = false ∧ chkB h (p30 (h : Int) false) = true ∧ chkP h (p30 (h : Int) false) = true := by
  have h0 := chk_all hh
  unfold chk at h0
  obtain ⟨h1, h0⟩ := and1B_ok h0
  obtain ⟨h2, h0⟩ := and1B_ok h0
  obtain ⟨h3, h0⟩ := and1B_ok h0
  obtain ⟨h4, h0⟩ := and1B_ok h0
  obtain ⟨h5, h0⟩ := and1B_ok h0
  obtain ⟨h6, h7⟩ := and1B_ok h0
  have bn : ∀ {b : Bool}, bnot b = true → b = false := by decide
  refine ⟨h1, fun e => ?_, fun hl e => ?_, bn h4, bn h5, h6, h7⟩
  · have h2 := bn h2
    rw [show p30 (Int.ofNat h) false = p30 (h : Int) false from rfl, e] at h2
    cases h2
  · rw [Nat.ble_eq_true_of_le (show h + 1 ≤ 8197 by omega) |> (fun e => (e : Nat.blt h 8197 = true))] at h3
    have h3 := bn h3
    rw [show p30 (Int.ofNat h) false = p30 (h : Int) false from rfl, e] at h3
    exact absurd h3 (by decide +kernel)

theorem p26_ok : p26 = true := by
  have hw : Word y1 false 8197 := ⟨by omega, eqS_ok (by kernel_rfl)⟩
  obtain ⟨f1, w1⟩ := word_is hw (fun v hv hW => (chk_parts hW.1).2.2.1 hv hW.2)
  have f0 : found ⟨0, false, false, 0, 0, 0, 0, 0, 0, false, 0, 0, 0, false, false⟩ false = false := Bool.eq_false_iff.2 fun hf => by
    obtain ⟨w, hw⟩ := found_iff.1 hf
    exact (chk_parts hw.1).2.1 (by rw [show (w : Int) = Int.ofNat w from rfl, hw.2])
  have e1 : p32 13 false true 14 0 0 0 0 5 true 0 0 0 false false false = (8197, true) := by
    unfold p32
    rw [show (⟨13, false, true, 14, 0, 0, 0, 0, 5, true, 0, 0, 0, false, false⟩ : S39) = y1 from rfl, f1, w1]
    rfl
  have e0 : p32 0 false false 0 0 0 0 0 0 false 0 0 0 false false false = (0, false) := by
    unfold p32
    rw [f0]
    rfl
  unfold p26
  rw [e1, e0]
  rfl

theorem p9_ok {x : Int} (h : 0 ≤ x ∧ x ≤ 65535) : p9 x = true := by
  obtain ⟨n, rfl⟩ := Int.eq_ofNat_of_zero_le h.1
  have e : p9 (n : Int) = cond (!p26) false (flags9 (p30 (n : Int) false) (p30 (n : Int) true)) := rfl
  rw [e, p26_ok, (chk_parts (show n < 65536 by omega)).1]
  rfl

end Go.Den
