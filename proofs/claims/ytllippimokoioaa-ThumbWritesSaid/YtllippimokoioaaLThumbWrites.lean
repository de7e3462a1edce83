/- ThumbWrites: what was read is written, and which halves cannot be, for every input. -/
import Derived.Test.YtllippimokoioaaRows
import Derived.Test.YtllippimokoioaaE7
import Derived.Test.YtllippimokoioaaDen31
import Derived.WalkKit
import Derived.ProofKit
import Derived.OpenShut
import Derived.ShutString
import Derived.ChangeOld
import Derived.Below
import Derived.SizedLaws
namespace Go.Proofs.Ytllippimokoioaa.thumbWrites
open Go.ChangeShapes Go.WideShapes Go.ChangeAt Go.RowKit
open Go.ChangeMaps (open_string shut_string)
set_option linter.unusedVariables false
theorem walk (a0 : Int) (a1_0 : Int) (a1_1 : Bool) (a1_2 : Bool) (a1_3 : Int) (a1_4 : Int) (a1_5 : Int) (a1_6 : Int) (a1_7 : Int) (a1_8 : Int) (a1_9 : Bool) (a1_10 : Int) (a1_11 : Int) (a1_12 : Int) (a1_13 : Bool) (a1_14 : Bool) (a2 : Int) (a3 : Bool) (w : World) (w0 : (Lit.int .u16 a0).wf = true) (w1_0 : (Lit.int .i64 a1_0).wf = true) (w1_3 : (Lit.int .i64 a1_3).wf = true) (w1_4 : (Lit.int .i64 a1_4).wf = true) (w1_5 : (Lit.int .i64 a1_5).wf = true) (w1_6 : (Lit.int .i64 a1_6).wf = true) (w1_7 : (Lit.int .i64 a1_7).wf = true) (w1_8 : (Lit.int .u32 a1_8).wf = true) (w1_10 : (Lit.int .i64 a1_10).wf = true) (w1_11 : (Lit.int .i64 a1_11).wf = true) (w1_12 : (Lit.int .i64 a1_12).wf = true) (w2 : (Lit.int .u8 a2).wf = true) :
    Calls Try.prog 7 #[.int .u16 a0, .agg #[.int .i64 a1_0, .bool a1_1, .bool a1_2, .int .i64 a1_3, .int .i64 a1_4, .int .i64 a1_5, .int .i64 a1_6, .int .i64 a1_7, .int .u32 a1_8, .bool a1_9, .int .i64 a1_10, .int .i64 a1_11, .int .i64 a1_12, .bool a1_13, .bool a1_14], .int .u8 a2, .bool a3] w fun e w' => e = .returned (.bool true) ∧ Below w.heap.size w w' := by
  have h := Go.Den.Told.spec Go.Den.kn32n_ok (Go.Den.lt32_ok.mono (by omega)) (Go.Den.run7 a0 a1_0 a1_1 a1_2 a1_3 a1_4 a1_5 a1_6 a1_7 a1_8 a1_9 a1_10 a1_11 a1_12 a1_13 a1_14 a2 a3) (Go.Den.told7 a0 a1_0 a1_1 a1_2 a1_3 a1_4 a1_5 a1_6 a1_7 a1_8 a1_9 a1_10 a1_11 a1_12 a1_13 a1_14 a2 a3 ⟨Go.Den.wf_rng w0, Go.Den.wf_rng w1_0, Go.Den.wf_rng w1_3, Go.Den.wf_rng w1_4, Go.Den.wf_rng w1_5, Go.Den.wf_rng w1_6, Go.Den.wf_rng w1_7, Go.Den.wf_rng w1_8, Go.Den.wf_rng w1_10, Go.Den.wf_rng w1_11, Go.Den.wf_rng w1_12, Go.Den.wf_rng w2⟩) rfl
  rw [(Go.Den.p7_ok (Go.Den.wf_rng w0) a2 ⟨a1_0, a1_1, a1_2, a1_3, a1_4, a1_5, a1_6, a1_7, a1_8, a1_9, a1_10, a1_11, a1_12, a1_13, a1_14⟩ a3 : Go.Den.p7 a0 a1_0 a1_1 a1_2 a1_3 a1_4 a1_5 a1_6 a1_7 a1_8 a1_9 a1_10 a1_11 a1_12 a1_13 a1_14 a2 a3 = true)] at h
  exact Go.Den.law_ok Go.Den.ctx_ok Go.Den.codes_ok (v := .bool true) h rfl (fun i x u hx hu => by
    match i with
    | 0 => cases hx; cases hu; exact ⟨Go.Den.srep_sc rfl, rfl⟩
    | 1 => cases hx; cases hu; exact ⟨Go.Den.srep_aggB (vs := [.int .i64 a1_0, .bool a1_1, .bool a1_2, .int .i64 a1_3, .int .i64 a1_4, .int .i64 a1_5, .int .i64 a1_6, .int .i64 a1_7, .int .u32 a1_8, .bool a1_9, .int .i64 a1_10, .int .i64 a1_11, .int .i64 a1_12, .bool a1_13, .bool a1_14]) rfl, rfl⟩
    | 2 => cases hx; cases hu; exact ⟨Go.Den.srep_sc rfl, rfl⟩
    | 3 => cases hx; cases hu; exact ⟨Go.Den.srep_sc rfl, rfl⟩
    | n + 4 => cases hx)
theorem own : ownKnob Try.prog.godebug = none := by kernel_rfl
set_option maxRecDepth 100000 in
theorem lifted (os : Os) (started : os.Started) (H : Type) (enc : TypeId × Value → H) :
    ReturnsInHanded {} Try.checked os 7 .any (Rows.thumbWritesSpec.pre6 enc Try.prog Try.f7 Rows.thumbWritesRow.domain false) (Rows.thumbWritesSpec.post enc Try.prog Try.f7 false true false false) := by
  refine returnsInHanded_of_change_sized (C := Try.checked) own started (by kernel_rfl) Try.func7
    (ChangeSpec.witness6 (enc := enc) (C := Try.checked) false ⟨#[], #[.int .u16 0, .agg #[.int .i64 0, .bool false, .bool false, .int .i64 0, .int .i64 0, .int .i64 0, .int .i64 0, .int .i64 0, .int .u32 0, .bool false, .int .i64 0, .int .i64 0, .int .i64 0, .bool false, .bool false], .int .u8 0, .bool false], []⟩ 8 (by kernel_rfl) (by kernel_rfl) (by kernel_rfl) (by kernel_rfl)) ?_
  intro W base args ds gs before hval0 hW hcnd hsz0 _
  have hsz : (DataW.weightsEach Try.prog (Try.f7.params.toList ++ Rows.thumbWritesSpec.plain.varTypes Try.prog) (ds ++ gs)).all (· ≤ reachBytes) = true := hsz0
  have hval : ∀ (j : Nat) t v, Try.f7.params[j]? = some t → args[j]? = some v → Value.okWide Try.prog W .any base t v := hval0
  have hW' := hW
  obtain ⟨p, q, hA0, hV, rfl, hfz, hnd⟩ := hW
  have hA : DataW.TrodAll enc Try.prog W 0 (fun _ => true) true Try.f7.params.toList args.toList ds p := hA0
  rw [Try.params7] at hA hval hsz
  obtain ⟨v0, vs0, d0, ds0, p0, q0, hargs, rfl, rfl, h0, r0⟩ := trodAll_cons hA
  obtain ⟨v1, vs1, d1, ds1, p1, q1, rfl, rfl, rfl, h1, r1⟩ := trodAll_cons r0
  obtain ⟨v2, vs2, d2, ds2, p2, q2, rfl, rfl, rfl, h2, r2⟩ := trodAll_cons r1
  obtain ⟨v3, vs3, d3, ds3, p3, q3, rfl, rfl, rfl, h3, r3⟩ := trodAll_cons r2
  obtain ⟨rfl, rfl, rfl⟩ := trodAll_nil r3
  obtain rfl : args = #[v0, v1, v2, v3] := by cases args; simp_all
  obtain ⟨rfl, rfl⟩ := trodVars_none hV
  obtain ⟨a0, rfl, rfl, rfl, w0⟩ := open_int Try.underlying34 (hval 0 34 v0 rfl rfl) h0
  obtain ⟨us1, es1, rfl, rfl, rfl, fit1⟩ := Go.Den.open_flat (ks := [.int .i64, .bool, .bool, .int .i64, .int .i64, .int .i64, .int .i64, .int .i64, .int .u32, .bool, .int .i64, .int .i64, .int .i64, .bool, .bool]) Try.underlying39 (by kernel_rfl) (by kernel_rfl) (hval 1 39 v1 rfl rfl) h1
  have fc1 := fit1
  obtain ⟨a1_0, _, _, rfl, rfl, w1_0, ga1_0⟩ := fit1
  obtain ⟨a1_1, _, _, rfl, rfl, ga1_1⟩ := ga1_0
  obtain ⟨a1_2, _, _, rfl, rfl, ga1_2⟩ := ga1_1
  obtain ⟨a1_3, _, _, rfl, rfl, w1_3, ga1_3⟩ := ga1_2
  obtain ⟨a1_4, _, _, rfl, rfl, w1_4, ga1_4⟩ := ga1_3
  obtain ⟨a1_5, _, _, rfl, rfl, w1_5, ga1_5⟩ := ga1_4
  obtain ⟨a1_6, _, _, rfl, rfl, w1_6, ga1_6⟩ := ga1_5
  obtain ⟨a1_7, _, _, rfl, rfl, w1_7, ga1_7⟩ := ga1_6
  obtain ⟨a1_8, _, _, rfl, rfl, w1_8, ga1_8⟩ := ga1_7
  obtain ⟨a1_9, _, _, rfl, rfl, ga1_9⟩ := ga1_8
  obtain ⟨a1_10, _, _, rfl, rfl, w1_10, ga1_10⟩ := ga1_9
  obtain ⟨a1_11, _, _, rfl, rfl, w1_11, ga1_11⟩ := ga1_10
  obtain ⟨a1_12, _, _, rfl, rfl, w1_12, ga1_12⟩ := ga1_11
  obtain ⟨a1_13, _, _, rfl, rfl, ga1_13⟩ := ga1_12
  obtain ⟨a1_14, _, _, rfl, rfl, ga1_14⟩ := ga1_13
  obtain ⟨rfl, rfl⟩ := ga1_14
  obtain ⟨a2, rfl, rfl, rfl, w2⟩ := open_int Try.underlying5 (hval 2 5 v2 rfl rfl) h2
  obtain ⟨a3, rfl, rfl, rfl⟩ := open_bool Try.underlying4 (hval 3 4 v3 rfl rfl) h3
  clear hA0 hval0 hsz0 hsz
  refine (walk a0 a1_0 a1_1 a1_2 a1_3 a1_4 a1_5 a1_6 a1_7 a1_8 a1_9 a1_10 a1_11 a1_12 a1_13 a1_14 a2 a3 W w0 w1_0 w1_3 w1_4 w1_5 w1_6 w1_7 w1_8 w1_10 w1_11 w1_12 w2).mono fun e W' ⟨he, bel⟩ => ?_
  subst he
  exact ⟨_, rfl, _, _, _, [], _, [], hW', trodAll_mk1 (shut_bool Try.underlying4 _), (trodAll_cons_mk (shut_int Try.underlying34 w0) (trodAll_cons_mk (Go.Den.shut_flat Try.underlying39 (by kernel_rfl) (by kernel_rfl) fc1) (trodAll_cons_mk (shut_int Try.underlying5 w2) (trodAll_cons_mk (shut_bool Try.underlying4 _) trodAll_mk0)))), rfl, bel.frame _, fun h => by cases h⟩
theorem over : Rows.thumbWritesRow.holds Try.pinned (OpenSpec.ofChange Rows.thumbWritesSpec) :=
  OpenClaim.holds_of_wide 7 Try.f7 rfl rfl rfl rfl rfl rfl rfl ⟨rfl, rfl, rfl, rfl, rfl⟩ rfl rfl rfl rfl rfl (by kernel_rfl) Try.func7 (by kernel_rfl)
    (of_decide_eq_true (by kernel_rfl)) (by unfold Func.isWrapper; first | (rw [if_pos (by decide +kernel)]; kernel_rfl) | (rw [if_neg (by decide +kernel)]; exact ⟨rfl, rfl⟩))
    (fun os started H enc _ => lifted os started H enc)
theorem proved : Rows.ThumbWritesSaid := over
#print axioms proved
end Go.Proofs.Ytllippimokoioaa.thumbWrites
namespace Go.Proofs.Ytllippimokoioaa
/-- The row, under a short name, for the claim. -/
theorem thumbWrites_holds : Rows.ThumbWritesSaid := thumbWrites.proved
end Go.Proofs.Ytllippimokoioaa
