import Derived.Test.YtllippimokoioaaQ13
set_option linter.unusedVariables false
set_option maxRecDepth 100000
namespace Go.Den

noncomputable def k33n (l : List V) : Option (Bool × V) := match l with
  | [.agg [.sc (.int .i64 x0_Op), .sc (.bool x0_Wide), .sc (.bool x0_S), .sc (.int .i64 x0_Cond), .sc (.int .i64 x0_D), .sc (.int .i64 x0_N), .sc (.int .i64 x0_M), .sc (.int .i64 x0_A), .sc (.int .u32 x0_Imm), .sc (.bool x0_UseImm), .sc (.int .i64 x0_Sh), .sc (.int .i64 x0_Amt), .sc (.int .i64 x0_List), .sc (.bool x0_Back), .sc (.bool x0_Down)], .sc (.bool x1)] =>
    some (true, .tup [.sc (.int .u16 (encW ⟨x0_Op, x0_Wide, x0_S, x0_Cond, x0_D, x0_N, x0_M, x0_A, x0_Imm, x0_UseImm, x0_Sh, x0_Amt, x0_List, x0_Back, x0_Down⟩ x1)), .sc (.bool (encB ⟨x0_Op, x0_Wide, x0_S, x0_Cond, x0_D, x0_N, x0_M, x0_A, x0_Imm, x0_UseImm, x0_Sh, x0_Amt, x0_List, x0_Back, x0_Down⟩ x1))])
  | _ => none

noncomputable def knC : Known := kn33.add 33 k33n

theorem knC_ok : KnownOK ctx knC 126 := Known.add_ok kn33_ok rfl (by omega) (by
  intro l r h
  unfold k33n at h
  split at h
  · rename_i a1 a2 a3 a4 a5 a6 a7 a8 a9 a10 a11 a12 a13 a14 a15 b
    simp only [Option.some.injEq, Prod.mk.injEq] at h
    obtain ⟨_, rfl⟩ := h
    have e := p33_enc ⟨a1, a2, a3, a4, a5, a6, a7, a8, a9, a10, a11, a12, a13, a14, a15⟩ b
    have h := Told.spec knB_ok lt33_ok (run33 a1 a2 a3 a4 a5 a6 a7 a8 a9 a10 a11 a12 a13 a14 a15 b) (told33 a1 a2 a3 a4 a5 a6 a7 a8 a9 a10 a11 a12 a13 a14 a15 b) rfl
    rw [e] at h
    exact ⟨h.mono (by omega), rfl, rfl⟩
  · cases h)

end Go.Den
