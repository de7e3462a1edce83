import Derived.Test.YtllippimokoioaaQ7
import Derived.Test.YtllippimokoioaaE20
import Derived.Test.YtllippimokoioaaE21
import Derived.Test.YtllippimokoioaaE22
import Derived.Test.YtllippimokoioaaE23
import Derived.Test.YtllippimokoioaaE24
import Derived.Test.YtllippimokoioaaE25
import Derived.Test.YtllippimokoioaaE26
import Derived.Test.YtllippimokoioaaE27
set_option linter.unusedVariables false
set_option linter.unusedSimpArgs false
set_option maxRecDepth 100000
namespace Go.Den

theorem chunk2 {f : Nat → Bool} {h : Nat} (k : Nat) (hk : allB 1024 (fun i => f (Nat.add k i)) = true) (h0 : k ≤ h) (h1 : h < k + 1024) : f h = true := by
  have := allB_ok hk (h - k) (by omega)
  rwa [show Nat.add k (h - k) = h by show k + (h - k) = h; omega] at this

theorem dec2_all {h : Nat} (hh : h < 65536) : dec2 h = true := by
  by_cases h0 : h < 1024
  · exact chunk2 0 dec2_0 (by omega) (by omega)
  by_cases h1 : h < 2048
  · exact chunk2 1024 dec2_1 (by omega) (by omega)
  by_cases h2 : h < 3072
  · exact chunk2 2048 dec2_2 (by omega) (by omega)
  by_cases h3 : h < 4096
  · exact chunk2 3072 dec2_3 (by omega) (by omega)
  by_cases h4 : h < 5120
  · exact chunk2 4096 dec2_4 (by omega) (by omega)
  by_cases h5 : h < 6144
  · exact chunk2 5120 dec2_5 (by omega) (by omega)
  by_cases h6 : h < 7168
  · exact chunk2 6144 dec2_6 (by omega) (by omega)
  by_cases h7 : h < 8192
  · exact chunk2 7168 dec2_7 (by omega) (by omega)
  by_cases h8 : h < 9216
  · exact chunk2 8192 dec2_8 (by omega) (by omega)
  by_cases h9 : h < 10240
  · exact chunk2 9216 dec2_9 (by omega) (by omega)
  by_cases h10 : h < 11264
  · exact chunk2 10240 dec2_10 (by omega) (by omega)
  by_cases h11 : h < 12288
  · exact chunk2 11264 dec2_11 (by omega) (by omega)
  by_cases h12 : h < 13312
  · exact chunk2 12288 dec2_12 (by omega) (by omega)
  by_cases h13 : h < 14336
  · exact chunk2 13312 dec2_13 (by omega) (by omega)
  by_cases h14 : h < 15360
  · exact chunk2 14336 dec2_14 (by omega) (by omega)
  by_cases h15 : h < 16384
  · exact chunk2 15360 dec2_15 (by omega) (by omega)
  by_cases h16 : h < 17408
  · exact chunk2 16384 dec2_16 (by omega) (by omega)
  by_cases h17 : h < 18432
  · exact chunk2 17408 dec2_17 (by omega) (by omega)
  by_cases h18 : h < 19456
  · exact chunk2 18432 dec2_18 (by omega) (by omega)
  by_cases h19 : h < 20480
  · exact chunk2 19456 dec2_19 (by omega) (by omega)
  by_cases h20 : h < 21504
  · exact chunk2 20480 dec2_20 (by omega) (by omega)
  by_cases h21 : h < 22528
  · exact chunk2 21504 dec2_21 (by omega) (by omega)
  by_cases h22 : h < 23552
  · exact chunk2 22528 dec2_22 (by omega) (by omega)
  by_cases h23 : h < 24576
  · exact chunk2 23552 dec2_23 (by omega) (by omega)
  by_cases h24 : h < 25600
  · exact chunk2 24576 dec2_24 (by omega) (by omega)
  by_cases h25 : h < 26624
  · exact chunk2 25600 dec2_25 (by omega) (by omega)
  by_cases h26 : h < 27648
  · exact chunk2 26624 dec2_26 (by omega) (by omega)
  by_cases h27 : h < 28672
  · exact chunk2 27648 dec2_27 (by omega) (by omega)
  by_cases h28 : h < 29696
  · exact chunk2 28672 dec2_28 (by omega) (by omega)
  by_cases h29 : h < 30720
  · exact chunk2 29696 dec2_29 (by omega) (by omega)
  by_cases h30 : h < 31744
  · exact chunk2 30720 dec2_30 (by omega) (by omega)
  by_cases h31 : h < 32768
  · exact chunk2 31744 dec2_31 (by omega) (by omega)
  by_cases h32 : h < 33792
  · exact chunk2 32768 dec2_32 (by omega) (by omega)
  by_cases h33 : h < 34816
  · exact chunk2 33792 dec2_33 (by omega) (by omega)
  by_cases h34 : h < 35840
  · exact chunk2 34816 dec2_34 (by omega) (by omega)
  by_cases h35 : h < 36864
  · exact chunk2 35840 dec2_35 (by omega) (by omega)
  by_cases h36 : h < 37888
  · exact chunk2 36864 dec2_36 (by omega) (by omega)
  by_cases h37 : h < 38912
  · exact chunk2 37888 dec2_37 (by omega) (by omega)
  by_cases h38 : h < 39936
  · exact chunk2 38912 dec2_38 (by omega) (by omega)
  by_cases h39 : h < 40960
  · exact chunk2 39936 dec2_39 (by omega) (by omega)
  by_cases h40 : h < 41984
  · exact chunk2 40960 dec2_40 (by omega) (by omega)
  by_cases h41 : h < 43008
  · exact chunk2 41984 dec2_41 (by omega) (by omega)
  by_cases h42 : h < 44032
  · exact chunk2 43008 dec2_42 (by omega) (by omega)
  by_cases h43 : h < 45056
  · exact chunk2 44032 dec2_43 (by omega) (by omega)
  by_cases h44 : h < 46080
  · exact chunk2 45056 dec2_44 (by omega) (by omega)
  by_cases h45 : h < 47104
  · exact chunk2 46080 dec2_45 (by omega) (by omega)
  by_cases h46 : h < 48128
  · exact chunk2 47104 dec2_46 (by omega) (by omega)
  by_cases h47 : h < 49152
  · exact chunk2 48128 dec2_47 (by omega) (by omega)
  by_cases h48 : h < 50176
  · exact chunk2 49152 dec2_48 (by omega) (by omega)
  by_cases h49 : h < 51200
  · exact chunk2 50176 dec2_49 (by omega) (by omega)
  by_cases h50 : h < 52224
  · exact chunk2 51200 dec2_50 (by omega) (by omega)
  by_cases h51 : h < 53248
  · exact chunk2 52224 dec2_51 (by omega) (by omega)
  by_cases h52 : h < 54272
  · exact chunk2 53248 dec2_52 (by omega) (by omega)
  by_cases h53 : h < 55296
  · exact chunk2 54272 dec2_53 (by omega) (by omega)
  by_cases h54 : h < 56320
  · exact chunk2 55296 dec2_54 (by omega) (by omega)
  by_cases h55 : h < 57344
  · exact chunk2 56320 dec2_55 (by omega) (by omega)
  by_cases h56 : h < 58368
  · exact chunk2 57344 dec2_56 (by omega) (by omega)
  by_cases h57 : h < 59392
  · exact chunk2 58368 dec2_57 (by omega) (by omega)
  by_cases h58 : h < 60416
  · exact chunk2 59392 dec2_58 (by omega) (by omega)
  by_cases h59 : h < 61440
  · exact chunk2 60416 dec2_59 (by omega) (by omega)
  by_cases h60 : h < 62464
  · exact chunk2 61440 dec2_60 (by omega) (by omega)
  by_cases h61 : h < 63488
  · exact chunk2 62464 dec2_61 (by omega) (by omega)
  by_cases h62 : h < 64512
  · exact chunk2 63488 dec2_62 (by omega) (by omega)
  by_cases h63 : h < 65536
  · exact chunk2 64512 dec2_63 (by omega) (by omega)
  omega

/-- **The reference tells what the program tells, of each half.** -/
theorem ref31 {x : Int} (hx : 0 ≤ x ∧ x ≤ 65535) (b : Bool) : o31 x b = some (p30 x b) := by
  obtain ⟨h, rfl⟩ := Int.eq_ofNat_of_zero_le hx.1
  have h0 := dec2_all (show h < 65536 by omega)
  unfold dec2 at h0
  obtain ⟨h1, h2⟩ := and1B_ok h0
  cases b
  · exact eqO_ok h1
  · exact eqO_ok h2

noncomputable def k29n (l : List V) : Option (Bool × V) := match l with
  | [.sc (.int .u16 x0)] => some (true, .sc (.bool (p28 x0)))
  | _ => none

noncomputable def kn29n : Known := kn10.add 29 k29n

theorem kn29n_ok : KnownOK ctx kn29n 120 := Known.add_ok kn10_ok rfl (by omega) (by
  intro l r h
  unfold k29n at h
  split at h
  · simp only [Option.some.injEq, Prod.mk.injEq] at h
    obtain ⟨_, rfl⟩ := h
    exact ⟨(Told.spec kn60_ok (noLoops_ok _) (run29 _) (told29 _) rfl).mono (by omega), rfl, rfl⟩
  · cases h)

noncomputable def k31n (l : List V) : Option (Bool × V) := match l with
  | [.sc (.int .u16 x0), .sc (.bool x1)] => some (decide (0 ≤ x0 ∧ x0 ≤ 65535), encS39 (p30 x0 x1))
  | _ => none

noncomputable def kn31n : Known := kn29n.add 31 k31n

theorem kn31n_ok : KnownOK ctx kn31n 120 := Known.add_ok kn29n_ok rfl (by omega) (by
  intro l r h
  unfold k31n at h
  split at h
  · simp only [Option.some.injEq, Prod.mk.injEq] at h
    obtain ⟨h1, rfl⟩ := h
    exact ⟨(Told.spec kn29_ok (noLoops_ok _) (run31 _ _) (told31 _ _) (ref31 (of_decide_eq_true h1) _)).mono (by omega), rfl, rfl⟩
  · cases h)

theorem eq39_refl (a : S39) : eq39 a a = true := (eq39_iff a a).2 rfl

/-- what Encode tells of an instruction -/
noncomputable def encB (y : S39) (b : Bool) : Bool := cond y.f_Wide false (cond (y.f_Op == 64) false (cond (y.f_Op == 65) false (found y b)))
noncomputable def encW (y : S39) (b : Bool) : Int := cond (encB y b) (word y b) 0

theorem encW_fact (y : S39) (b : Bool) : 0 ≤ encW y b ∧ encW y b ≤ 65535 := by
  unfold encW
  cases h : encB y b with
  | false => simp
  | true =>
    have hf : found y b = true := by
      unfold encB at h
      revert h
      cases y.f_Wide <;> cases (y.f_Op == 64) <;> cases (y.f_Op == 65) <;> simp
    obtain ⟨w, h1, h2, _⟩ := word_spec hf
    have := h2.1
    simp only [cond_true]
    rw [h1]
    simp only [Int.ofNat_eq_natCast]
    omega

noncomputable def k32n (l : List V) : Option (Bool × V) := match l with
  | [.agg [.sc (.int .i64 x0_Op), .sc (.bool x0_Wide), .sc (.bool x0_S), .sc (.int .i64 x0_Cond), .sc (.int .i64 x0_D), .sc (.int .i64 x0_N), .sc (.int .i64 x0_M), .sc (.int .i64 x0_A), .sc (.int .u32 x0_Imm), .sc (.bool x0_UseImm), .sc (.int .i64 x0_Sh), .sc (.int .i64 x0_Amt), .sc (.int .i64 x0_List), .sc (.bool x0_Back), .sc (.bool x0_Down)], .sc (.bool x1)] =>
    some (true, .tup [.sc (.int .u16 (encW ⟨x0_Op, x0_Wide, x0_S, x0_Cond, x0_D, x0_N, x0_M, x0_A, x0_Imm, x0_UseImm, x0_Sh, x0_Amt, x0_List, x0_Back, x0_Down⟩ x1)), .sc (.bool (encB ⟨x0_Op, x0_Wide, x0_S, x0_Cond, x0_D, x0_N, x0_M, x0_A, x0_Imm, x0_UseImm, x0_Sh, x0_Amt, x0_List, x0_Back, x0_Down⟩ x1))])
  | _ => none

theorem p32_enc (y : S39) (b : Bool) : p32 y.f_Op y.f_Wide y.f_S y.f_Cond y.f_D y.f_N y.f_M y.f_A y.f_Imm y.f_UseImm y.f_Sh y.f_Amt y.f_List y.f_Back y.f_Down b = (encW y b, encB y b) := by
  have e : ∀ (w o1 o2 g : Bool) (n : Int), cond w ((0 : Int), false) (cond o1 (0, false) (cond o2 (0, false) (cond g (n, true) (0, false)))) = (cond (cond w false (cond o1 false (cond o2 false g))) n 0, cond w false (cond o1 false (cond o2 false g))) := by
    intro w o1 o2 g n
    cases w <;> cases o1 <;> cases o2 <;> cases g <;> rfl
  exact e _ _ _ _ _

noncomputable def kn32n : Known := kn31n.add 32 k32n

theorem kn32n_ok : KnownOK ctx kn32n 120 := Known.add_ok kn31n_ok rfl (by omega) (by
  intro l r h
  unfold k32n at h
  split at h
  · rename_i a1 a2 a3 a4 a5 a6 a7 a8 a9 a10 a11 a12 a13 a14 a15 b
    simp only [Option.some.injEq, Prod.mk.injEq] at h
    obtain ⟨_, rfl⟩ := h
    have e := p32_enc ⟨a1, a2, a3, a4, a5, a6, a7, a8, a9, a10, a11, a12, a13, a14, a15⟩ b
    have h := Told.spec knA_ok lt32_ok (run32 a1 a2 a3 a4 a5 a6 a7 a8 a9 a10 a11 a12 a13 a14 a15 b) (told32 a1 a2 a3 a4 a5 a6 a7 a8 a9 a10 a11 a12 a13 a14 a15 b) rfl
    rw [e] at h
    exact ⟨h.mono (by omega), rfl, rfl⟩
  · cases h)

theorem cond_rng {b : Bool} {x y lo hi : Int} (h1 : lo ≤ x ∧ x ≤ hi) (h2 : lo ≤ y ∧ y ≤ hi) : lo ≤ cond b x y ∧ cond b x y ≤ hi := by
  cases b
  · exact h2
  · exact h1

theorem p27_fact (k x : Int) : 0 ≤ x → x ≤ 65535 → 0 ≤ p27 k x ∧ p27 k x ≤ 65535 := by
  intro h0 h1
  unfold p27
  dsimp only
  repeat (first | exact bits_rng _ _ _ _ 0 65535 (by decide) | exact ⟨h0, h1⟩ | apply cond_rng)

end Go.Den
