/- ThumbLeast: of several halves the least is written, for every input. -/
import Derived.Test.YtllippimokoioaaRows
import Derived.Test.YtllippimokoioaaE10
import Derived.Test.YtllippimokoioaaDen31
import Derived.WalkKit
import Derived.ProofKit
import Derived.OpenShut
import Derived.ShutString
import Derived.ChangeOld
import Derived.Below
import Derived.SizedLaws
namespace Go.Proofs.Ytllippimokoioaa.thumbLeast
open Go.ChangeShapes Go.WideShapes Go.ChangeAt Go.RowKit
open Go.ChangeMaps (open_string shut_string)
set_option linter.unusedVariables false
theorem walk (a0_0 : Int) (a0_1 : Bool) (a0_2 : Bool) (a0_3 : Int) (a0_4 : Int) (a0_5 : Int) (a0_6 : Int) (a0_7 : Int) (a0_8 : Int) (a0_9 : Bool) (a0_10 : Int) (a0_11 : Int) (a0_12 : Int) (a0_13 : Bool) (a0_14 : Bool) (a1 : Int) (a2 : Bool) (a3 : Bool) (w : World) (w0_0 : (Lit.int .i64 a0_0).wf = true) (w0_3 : (Lit.int .i64 a0_3).wf = true) (w0_4 : (Lit.int .i64 a0_4).wf = true) (w0_5 : (Lit.int .i64 a0_5).wf = true) (w0_6 : (Lit.int .i64 a0_6).wf = true) (w0_7 : (Lit.int .i64 a0_7).wf = true) (w0_8 : (Lit.int .u32 a0_8).wf = true) (w0_10 : (Lit.int .i64 a0_10).wf = true) (w0_11 : (Lit.int .i64 a0_11).wf = true) (w0_12 : (Lit.int .i64 a0_12).wf = true) (w1 : (Lit.int .u16 a1).wf = true) :
    Calls Try.prog 8 #[.agg #[.int .i64 a0_0, .bool a0_1, .bool a0_2, .int .i64 a0_3, .int .i64 a0_4, .int .i64 a0_5, .int .i64 a0_6, .int .i64 a0_7, .int .u32 a0_8, .bool a0_9, .int .i64 a0_10, .int .i64 a0_11, .int .i64 a0_12, .bool a0_13, .bool a0_14], .int .u16 a1, .bool a2, .bool a3] w fun e w' => e = .returned (.bool true) ∧ Below w.heap.size w w' := by
  have h := Go.Den.Told.spec Go.Den.knC_ok (Go.Den.lt33_ok.mono (by omega)) (Go.Den.run8 a0_0 a0_1 a0_2 a0_3 a0_4 a0_5 a0_6 a0_7 a0_8 a0_9 a0_10 a0_11 a0_12 a0_13 a0_14 a1 a2 a3) (Go.Den.told8 a0_0 a0_1 a0_2 a0_3 a0_4 a0_5 a0_6 a0_7 a0_8 a0_9 a0_10 a0_11 a0_12 a0_13 a0_14 a1 a2 a3 ⟨Go.Den.wf_rng w0_0, Go.Den.wf_rng w0_3, Go.Den.wf_rng w0_4, Go.Den.wf_rng w0_5, Go.Den.wf_rng w0_6, Go.Den.wf_rng w0_7, Go.Den.wf_rng w0_8, Go.Den.wf_rng w0_10, Go.Den.wf_rng w0_11, Go.Den.wf_rng w0_12, Go.Den.wf_rng w1⟩) rfl
  rw [(Go.Den.p8_ok ⟨a0_0, a0_1, a0_2, a0_3, a0_4, a0_5, a0_6, a0_7, a0_8, a0_9, a0_10, a0_11, a0_12, a0_13, a0_14⟩ a1 a2 a3 : Go.Den.p8 a0_0 a0_1 a0_2 a0_3 a0_4 a0_5 a0_6 a0_7 a0_8 a0_9 a0_10 a0_11 a0_12 a0_13 a0_14 a1 a2 a3 = true)] at h
  exact Go.Den.law_ok Go.Den.ctx_ok Go.Den.codes_ok (v := .bool true) h rfl (fun i x u hx hu => by
    match i with
    | 0 => cases hx; cases hu; exact ⟨Go.Den.srep_aggB (vs := [.int .i64 a0_0, .bool a0_1, .bool a0_2, .int .i64 a0_3, .int .i64 a0_4, .int .i64 a0_5, .int .i64 a0_6, .int .i64 a0_7, .int .u32 a0_8, .bool a0_9, .int .i64 a0_10, .int .i64 a0_11, .int .i64 a0_12, .bool a0_13, .bool a0_14]) rfl, rfl⟩
    | 1 => cases hx; cases hu; exact ⟨Go.Den.srep_sc rfl, rfl⟩
    | 2 => cases hx; cases hu; exact ⟨Go.Den.srep_sc rfl, rfl⟩
    | 3 => cases hx; cases hu; exact ⟨Go.Den.srep_sc rfl, rfl⟩
    | n + 4 => cases hx)
theorem own : ownKnob Try.prog.godebug = none := by kernel_rfl
set_option maxRecDepth 100000 in
theorem lifted (os : Os) (started : os.Started) (H : Type) (enc : TypeId × Value → H) :
    ReturnsInHanded {} Try.checked os 8 .any (Rows.thumbLeastSpec.pre6 enc Try.prog Try.f8 Rows.thumbLeastRow.domain false) (Rows.thumbLeastSpec.post enc Try.prog Try.f8 false true false false) := by
  refine returnsInHanded_of_change_sized (C := Try.checked) own started (by kernel_rfl) Try.func8
    (ChangeSpec.witness6 (enc := enc) (C := Try.checked) false ⟨#[], #[.agg #[.int .i64 0, .bool false, .bool false, .int .i64 0, .int .i64 0, .int .i64 0, .int .i64 0, .int .i64 0, .int .u32 0, .bool false, .int .i64 0, .int .i64 0, .int .i64 0, .bool false, .bool false], .int .u16 0, .bool false, .bool false], []⟩ 8 (by kernel_rfl) (by kernel_rfl) (by kernel_rfl) (by kernel_rfl)) ?_
  intro W base args ds gs before hval0 hW hcnd hsz0 _
  have hsz : (DataW.weightsEach Try.prog (Try.f8.params.toList ++ Rows.thumbLeastSpec.plain.varTypes Try.prog) (ds ++ gs)).all (· ≤ reachBytes) = true := hsz0
  have hval : ∀ (j : Nat) t v, Try.f8.params[j]? = some t → args[j]? = some v → Value.okWide Try.prog W .any base t v := hval0
  have hW' := hW
  obtain ⟨p, q, hA0, hV, rfl, hfz, hnd⟩ := hW
  have hA : DataW.TrodAll enc Try.prog W 0 (fun _ => true) true Try.f8.params.toList args.toList ds p := hA0
  rw [Try.params8] at hA hval hsz
  obtain ⟨v0, vs0, d0, ds0, p0, q0, hargs, rfl, rfl, h0, r0⟩ := trodAll_cons hA
  obtain ⟨v1, vs1, d1, ds1, p1, q1, rfl, rfl, rfl, h1, r1⟩ := trodAll_cons r0
  obtain ⟨v2, vs2, d2, ds2, p2, q2, rfl, rfl, rfl, h2, r2⟩ := trodAll_cons r1
  obtain ⟨v3, vs3, d3, ds3, p3, q3, rfl, rfl, rfl, h3, r3⟩ := trodAll_cons r2
  obtain ⟨rfl, rfl, rfl⟩ := trodAll_nil r3
  obtain rfl : args = #[v0, v1, v2, v3] := by cases args; simp_all
  obtain ⟨rfl, rfl⟩ := trodVars_none hV
  obtain ⟨us0, es0, rfl, rfl, rfl, fit0⟩ := Go.Den.open_flat (ks := [.int .i64, .bool, .bool, .int .i64, .int .i64, .int .i64, .int .i64, .int .i64, .int .u32, .bool, .int .i64, .int .i64, .int .i64, .bool, .bool]) Try.underlying39 (by kernel_rfl) (by kernel_rfl) (hval 0 39 v0 rfl rfl) h0
  have fc0 := fit0
  obtain ⟨a0_0, _, _, rfl, rfl, w0_0, ga0_0⟩ := fit0
  obtain ⟨a0_1, _, _, rfl, rfl, ga0_1⟩ := ga0_0
  obtain ⟨a0_2, _, _, rfl, rfl, ga0_2⟩ := ga0_1
  obtain ⟨a0_3, _, _, rfl, rfl, w0_3, ga0_3⟩ := ga0_2
  obtain ⟨a0_4, _, _, rfl, rfl, w0_4, ga0_4⟩ := ga0_3
  obtain ⟨a0_5, _, _, rfl, rfl, w0_5, ga0_5⟩ := ga0_4
  obtain ⟨a0_6, _, _, rfl, rfl, w0_6, ga0_6⟩ := ga0_5
  obtain ⟨a0_7, _, _, rfl, rfl, w0_7, ga0_7⟩ := ga0_6
  obtain ⟨a0_8, _, _, rfl, rfl, w0_8, ga0_8⟩ := ga0_7
  obtain ⟨a0_9, _, _, rfl, rfl, ga0_9⟩ := ga0_8
  obtain ⟨a0_10, _, _, rfl, rfl, w0_10, ga0_10⟩ := ga0_9
  obtain ⟨a0_11, _, _, rfl, rfl, w0_11, ga0_11⟩ := ga0_10
  obtain ⟨a0_12, _, _, rfl, rfl, w0_12, ga0_12⟩ := ga0_11
  obtain ⟨a0_13, _, _, rfl, rfl, ga0_13⟩ := ga0_12
  obtain ⟨a0_14, _, _, rfl, rfl, ga0_14⟩ := ga0_13
  obtain ⟨rfl, rfl⟩ := ga0_14
  obtain ⟨a1, rfl, rfl, rfl, w1⟩ := open_int Try.underlying34 (hval 1 34 v1 rfl rfl) h1
  obtain ⟨a2, rfl, rfl, rfl⟩ := open_bool Try.underlying4 (hval 2 4 v2 rfl rfl) h2
  obtain ⟨a3, rfl, rfl, rfl⟩ := open_bool Try.underlying4 (hval 3 4 v3 rfl rfl) h3
  clear hA0 hval0 hsz0 hsz
  refine (walk a0_0 a0_1 a0_2 a0_3 a0_4 a0_5 a0_6 a0_7 a0_8 a0_9 a0_10 a0_11 a0_12 a0_13 a0_14 a1 a2 a3 W w0_0 w0_3 w0_4 w0_5 w0_6 w0_7 w0_8 w0_10 w0_11 w0_12 w1).mono fun e W' ⟨he, bel⟩ => ?_
  subst he
  exact ⟨_, rfl, _, _, _, [], _, [], hW', trodAll_mk1 (shut_bool Try.underlying4 _), (trodAll_cons_mk (Go.Den.shut_flat Try.underlying39 (by kernel_rfl) (by kernel_rfl) fc0) (trodAll_cons_mk (shut_int Try.underlying34 w1) (trodAll_cons_mk (shut_bool Try.underlying4 _) (trodAll_cons_mk (shut_bool Try.underlying4 _) trodAll_mk0)))), rfl, bel.frame _, fun h => by cases h⟩
theorem over : Rows.thumbLeastRow.holds Try.pinned (OpenSpec.ofChange Rows.thumbLeastSpec) :=
  OpenClaim.holds_of_wide 8 Try.f8 rfl rfl rfl rfl rfl rfl rfl ⟨rfl, rfl, rfl, rfl, rfl⟩ rfl rfl rfl rfl rfl (by kernel_rfl) Try.func8 (by kernel_rfl)
    (of_decide_eq_true (by kernel_rfl)) (by unfold Func.isWrapper; first | (rw [if_pos (by decide +kernel)]; kernel_rfl) | (rw [if_neg (by decide +kernel)]; exact ⟨rfl, rfl⟩))
    (fun os started H enc _ => lifted os started H enc)
theorem proved : Rows.ThumbLeastSaid := over
#print axioms proved
end Go.Proofs.Ytllippimokoioaa.thumbLeast
namespace Go.Proofs.Ytllippimokoioaa
/-- The row, under a short name, for the claim. -/
theorem thumbLeast_holds : Rows.ThumbLeastSaid := thumbLeast.proved
end Go.Proofs.Ytllippimokoioaa
