/- WideWrites: each instruction has one pair of words, and what has none has none, for every input. -/
import Derived.Test.YtihdbaehaiaiiaaRows
import Derived.Test.YtihdbaehaiaiiaaYW
import Derived.WalkKit
import Derived.ProofKit
import Derived.OpenShut
import Derived.ShutString
import Derived.ChangeOld
import Derived.Below
import Derived.SizedLaws
set_option linter.unusedSimpArgs false
namespace Go.Proofs.Ytihdbaehaiaiiaa.wideWrites
open Go.ChangeShapes Go.WideShapes Go.ChangeAt Go.RowKit
open Go.ChangeMaps (open_string shut_string)
set_option linter.unusedVariables false
theorem walk (a0 : Int) (a1 : Int) (a2 : Int) (a3 : Int) (a4 : Int) (a5_0 : Int) (a5_1 : Bool) (a5_2 : Bool) (a5_3 : Int) (a5_4 : Int) (a5_5 : Int) (a5_6 : Int) (a5_7 : Int) (a5_8 : Int) (a5_9 : Bool) (a5_10 : Int) (a5_11 : Int) (a5_12 : Int) (a5_13 : Bool) (a5_14 : Bool) (w : World) (w0 : (Lit.int .u16 a0).wf = true) (w1 : (Lit.int .u16 a1).wf = true) (w2 : (Lit.int .u8 a2).wf = true) (w3 : (Lit.int .u16 a3).wf = true) (w4 : (Lit.int .u16 a4).wf = true) (w5_0 : (Lit.int .i64 a5_0).wf = true) (w5_3 : (Lit.int .i64 a5_3).wf = true) (w5_4 : (Lit.int .i64 a5_4).wf = true) (w5_5 : (Lit.int .i64 a5_5).wf = true) (w5_6 : (Lit.int .i64 a5_6).wf = true) (w5_7 : (Lit.int .i64 a5_7).wf = true) (w5_8 : (Lit.int .u32 a5_8).wf = true) (w5_10 : (Lit.int .i64 a5_10).wf = true) (w5_11 : (Lit.int .i64 a5_11).wf = true) (w5_12 : (Lit.int .i64 a5_12).wf = true) :
    Calls Try.prog 4 #[.int .u16 a0, .int .u16 a1, .int .u8 a2, .int .u16 a3, .int .u16 a4, .agg #[.int .i64 a5_0, .bool a5_1, .bool a5_2, .int .i64 a5_3, .int .i64 a5_4, .int .i64 a5_5, .int .i64 a5_6, .int .i64 a5_7, .int .u32 a5_8, .bool a5_9, .int .i64 a5_10, .int .i64 a5_11, .int .i64 a5_12, .bool a5_13, .bool a5_14]] w fun e w' => e = .returned (.bool true) ∧ Below w.heap.size w w' := by
  have h := Go.Den.Told.spec Go.Den.knW_ok (Go.Den.lt4_ok.mono (by omega)) (Go.Den.run4 a0 a1 a2 a3 a4 a5_0 a5_1 a5_2 a5_3 a5_4 a5_5 a5_6 a5_7 a5_8 a5_9 a5_10 a5_11 a5_12 a5_13 a5_14) (Go.Den.told4 a0 a1 a2 a3 a4 a5_0 a5_1 a5_2 a5_3 a5_4 a5_5 a5_6 a5_7 a5_8 a5_9 a5_10 a5_11 a5_12 a5_13 a5_14 ⟨Go.Den.wf_rng w0, Go.Den.wf_rng w1, Go.Den.wf_rng w2, Go.Den.wf_rng w3, Go.Den.wf_rng w4, Go.Den.wf_rng w5_0, Go.Den.wf_rng w5_3, Go.Den.wf_rng w5_4, Go.Den.wf_rng w5_5, Go.Den.wf_rng w5_6, Go.Den.wf_rng w5_7, Go.Den.wf_rng w5_8, Go.Den.wf_rng w5_10, Go.Den.wf_rng w5_11, Go.Den.wf_rng w5_12⟩) rfl
  rw [((by unfold Go.Den.p4; simp only [beq_self_eq_true, cond_true]) : Go.Den.p4 a0 a1 a2 a3 a4 a5_0 a5_1 a5_2 a5_3 a5_4 a5_5 a5_6 a5_7 a5_8 a5_9 a5_10 a5_11 a5_12 a5_13 a5_14 = true)] at h
  exact Go.Den.law_ok Go.Den.ctx_ok Go.Den.codes_ok (v := .bool true) h rfl (fun i x u hx hu => by
    match i with
    | 0 => cases hx; cases hu; exact ⟨Go.Den.srep_sc rfl, rfl⟩
    | 1 => cases hx; cases hu; exact ⟨Go.Den.srep_sc rfl, rfl⟩
    | 2 => cases hx; cases hu; exact ⟨Go.Den.srep_sc rfl, rfl⟩
    | 3 => cases hx; cases hu; exact ⟨Go.Den.srep_sc rfl, rfl⟩
    | 4 => cases hx; cases hu; exact ⟨Go.Den.srep_sc rfl, rfl⟩
    | 5 => cases hx; cases hu; exact ⟨Go.Den.srep_aggB (vs := [.int .i64 a5_0, .bool a5_1, .bool a5_2, .int .i64 a5_3, .int .i64 a5_4, .int .i64 a5_5, .int .i64 a5_6, .int .i64 a5_7, .int .u32 a5_8, .bool a5_9, .int .i64 a5_10, .int .i64 a5_11, .int .i64 a5_12, .bool a5_13, .bool a5_14]) rfl, rfl⟩
    | n + 6 => cases hx)
theorem own : ownKnob Try.prog.godebug = none := by kernel_rfl
set_option maxRecDepth 100000 in
theorem lifted (os : Os) (started : os.Started) (H : Type) (enc : TypeId × Value → H) :
    ReturnsInHanded {} Try.checked os 4 .any (Rows.wideWritesSpec.pre6 enc Try.prog Try.f4 Rows.wideWritesRow.domain false) (Rows.wideWritesSpec.post enc Try.prog Try.f4 false true false false) := by
  refine returnsInHanded_of_change_sized (C := Try.checked) own started (by kernel_rfl) Try.func4
    (ChangeSpec.witness6 (enc := enc) (C := Try.checked) false ⟨#[], #[.int .u16 0, .int .u16 0, .int .u8 0, .int .u16 0, .int .u16 0, .agg #[.int .i64 0, .bool false, .bool false, .int .i64 0, .int .i64 0, .int .i64 0, .int .i64 0, .int .i64 0, .int .u32 0, .bool false, .int .i64 0, .int .i64 0, .int .i64 0, .bool false, .bool false]], []⟩ 8 (by kernel_rfl) (by kernel_rfl) (by kernel_rfl) (by kernel_rfl)) ?_
  intro W base args ds gs before hval0 hW hcnd hsz0 _
  have hsz : (DataW.weightsEach Try.prog (Try.f4.params.toList ++ Rows.wideWritesSpec.plain.varTypes Try.prog) (ds ++ gs)).all (· ≤ reachBytes) = true := hsz0
  have hval : ∀ (j : Nat) t v, Try.f4.params[j]? = some t → args[j]? = some v → Value.okWide Try.prog W .any base t v := hval0
  have hW' := hW
  obtain ⟨p, q, hA0, hV, rfl, hfz, hnd⟩ := hW
  have hA : DataW.TrodAll enc Try.prog W 0 (fun _ => true) true Try.f4.params.toList args.toList ds p := hA0
  rw [Try.params4] at hA hval hsz
  obtain ⟨v0, vs0, d0, ds0, p0, q0, hargs, rfl, rfl, h0, r0⟩ := trodAll_cons hA
  obtain ⟨v1, vs1, d1, ds1, p1, q1, rfl, rfl, rfl, h1, r1⟩ := trodAll_cons r0
  obtain ⟨v2, vs2, d2, ds2, p2, q2, rfl, rfl, rfl, h2, r2⟩ := trodAll_cons r1
  obtain ⟨v3, vs3, d3, ds3, p3, q3, rfl, rfl, rfl, h3, r3⟩ := trodAll_cons r2
  obtain ⟨v4, vs4, d4, ds4, p4, q4, rfl, rfl, rfl, h4, r4⟩ := trodAll_cons r3
  obtain ⟨v5, vs5, d5, ds5, p5, q5, rfl, rfl, rfl, h5, r5⟩ := trodAll_cons r4
  obtain ⟨rfl, rfl, rfl⟩ := trodAll_nil r5
  obtain rfl : args = #[v0, v1, v2, v3, v4, v5] := by cases args; simp_all
  obtain ⟨rfl, rfl⟩ := trodVars_none hV
  obtain ⟨a0, rfl, rfl, rfl, w0⟩ := open_int Try.underlying22 (hval 0 22 v0 rfl rfl) h0
  obtain ⟨a1, rfl, rfl, rfl, w1⟩ := open_int Try.underlying22 (hval 1 22 v1 rfl rfl) h1
  obtain ⟨a2, rfl, rfl, rfl, w2⟩ := open_int Try.underlying5 (hval 2 5 v2 rfl rfl) h2
  obtain ⟨a3, rfl, rfl, rfl, w3⟩ := open_int Try.underlying22 (hval 3 22 v3 rfl rfl) h3
  obtain ⟨a4, rfl, rfl, rfl, w4⟩ := open_int Try.underlying22 (hval 4 22 v4 rfl rfl) h4
  obtain ⟨us5, es5, rfl, rfl, rfl, fit5⟩ := Go.Den.open_flat (ks := [.int .i64, .bool, .bool, .int .i64, .int .i64, .int .i64, .int .i64, .int .i64, .int .u32, .bool, .int .i64, .int .i64, .int .i64, .bool, .bool]) Try.underlying30 (by kernel_rfl) (by kernel_rfl) (hval 5 30 v5 rfl rfl) h5
  have fc5 := fit5
  obtain ⟨a5_0, _, _, rfl, rfl, w5_0, ga5_0⟩ := fit5
  obtain ⟨a5_1, _, _, rfl, rfl, ga5_1⟩ := ga5_0
  obtain ⟨a5_2, _, _, rfl, rfl, ga5_2⟩ := ga5_1
  obtain ⟨a5_3, _, _, rfl, rfl, w5_3, ga5_3⟩ := ga5_2
  obtain ⟨a5_4, _, _, rfl, rfl, w5_4, ga5_4⟩ := ga5_3
  obtain ⟨a5_5, _, _, rfl, rfl, w5_5, ga5_5⟩ := ga5_4
  obtain ⟨a5_6, _, _, rfl, rfl, w5_6, ga5_6⟩ := ga5_5
  obtain ⟨a5_7, _, _, rfl, rfl, w5_7, ga5_7⟩ := ga5_6
  obtain ⟨a5_8, _, _, rfl, rfl, w5_8, ga5_8⟩ := ga5_7
  obtain ⟨a5_9, _, _, rfl, rfl, ga5_9⟩ := ga5_8
  obtain ⟨a5_10, _, _, rfl, rfl, w5_10, ga5_10⟩ := ga5_9
  obtain ⟨a5_11, _, _, rfl, rfl, w5_11, ga5_11⟩ := ga5_10
  obtain ⟨a5_12, _, _, rfl, rfl, w5_12, ga5_12⟩ := ga5_11
  obtain ⟨a5_13, _, _, rfl, rfl, ga5_13⟩ := ga5_12
  obtain ⟨a5_14, _, _, rfl, rfl, ga5_14⟩ := ga5_13
  obtain ⟨rfl, rfl⟩ := ga5_14
  clear hA0 hval0 hsz0 hsz
  refine (walk a0 a1 a2 a3 a4 a5_0 a5_1 a5_2 a5_3 a5_4 a5_5 a5_6 a5_7 a5_8 a5_9 a5_10 a5_11 a5_12 a5_13 a5_14 W w0 w1 w2 w3 w4 w5_0 w5_3 w5_4 w5_5 w5_6 w5_7 w5_8 w5_10 w5_11 w5_12).mono fun e W' ⟨he, bel⟩ => ?_
  subst he
  exact ⟨_, rfl, _, _, _, [], _, [], hW', trodAll_mk1 (shut_bool Try.underlying4 _), (trodAll_cons_mk (shut_int Try.underlying22 w0) (trodAll_cons_mk (shut_int Try.underlying22 w1) (trodAll_cons_mk (shut_int Try.underlying5 w2) (trodAll_cons_mk (shut_int Try.underlying22 w3) (trodAll_cons_mk (shut_int Try.underlying22 w4) (trodAll_cons_mk (Go.Den.shut_flat Try.underlying30 (by kernel_rfl) (by kernel_rfl) fc5) trodAll_mk0)))))), rfl, bel.frame _, fun h => by cases h⟩
theorem over : Rows.wideWritesRow.holds Try.pinned (OpenSpec.ofChange Rows.wideWritesSpec) :=
  OpenClaim.holds_of_wide 4 Try.f4 rfl rfl rfl rfl rfl rfl rfl ⟨rfl, rfl, rfl, rfl, rfl⟩ rfl rfl rfl rfl rfl (by kernel_rfl) Try.func4 (by kernel_rfl)
    (of_decide_eq_true (by kernel_rfl)) (by unfold Func.isWrapper; first | (rw [if_pos (by decide +kernel)]; kernel_rfl) | (rw [if_neg (by decide +kernel)]; exact ⟨rfl, rfl⟩))
    (fun os started H enc _ => lifted os started H enc)
theorem proved : Rows.WideWritesSaid := over
#print axioms proved
end Go.Proofs.Ytihdbaehaiaiiaa.wideWrites
namespace Go.Proofs.Ytihdbaehaiaiiaa
/-- The row, under a short name, for the claim. -/
theorem wideWrites_holds : Rows.WideWritesSaid := wideWrites.proved
end Go.Proofs.Ytihdbaehaiaiiaa
