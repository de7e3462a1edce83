import Derived.Test.YtllippimokoioaaE1
set_option linter.unusedVariables false
set_option maxRecDepth 100000
namespace Go.Den

def flags9 (a b : S39) : Bool := (cond (a.f_Op == 64) (cond (a.f_Op != 64) (true) (b.f_Op == 64)) (cond (b.f_Op == 65) (cond (a.f_Op != 64) (true) (b.f_Op == 64)) (cond (a.f_Op == 65) (cond (a.f_Op != 64) (true) (b.f_Op == 64)) (cond (a.f_Op == 8) (cond (!true == b.f_S) (false) (cond (a.f_S) (cond (a.f_Op == b.f_Op && (a.f_Wide == b.f_Wide && (true == b.f_S && (a.f_Cond == b.f_Cond && (a.f_D == b.f_D && (a.f_N == b.f_N && (a.f_M == b.f_M && (a.f_A == b.f_A && (a.f_Imm == b.f_Imm && (a.f_UseImm == b.f_UseImm && (a.f_Sh == b.f_Sh && (a.f_Amt == b.f_Amt && (a.f_List == b.f_List && (a.f_Back == b.f_Back && (a.f_Down == b.f_Down && true))))))))))))))) (cond (!a.f_Wide) (cond (a.f_Cond == 14) (true) (a.f_Op == 54)) (false)) (false)) (cond (a.f_Op == b.f_Op && (a.f_Wide == b.f_Wide && (false == b.f_S && (a.f_Cond == b.f_Cond && (a.f_D == b.f_D && (a.f_N == b.f_N && (a.f_M == b.f_M && (a.f_A == b.f_A && (a.f_Imm == b.f_Imm && (a.f_UseImm == b.f_UseImm && (a.f_Sh == b.f_Sh && (a.f_Amt == b.f_Amt && (a.f_List == b.f_List && (a.f_Back == b.f_Back && (a.f_Down == b.f_Down && true))))))))))))))) (cond (!a.f_Wide) (cond (a.f_Cond == 14) (true) (a.f_Op == 54)) (false)) (false)))) (cond (a.f_Op == 10) (cond (!true == b.f_S) (false) (cond (a.f_S) (cond (a.f_Op == b.f_Op && (a.f_Wide == b.f_Wide && (true == b.f_S && (a.f_Cond == b.f_Cond && (a.f_D == b.f_D && (a.f_N == b.f_N && (a.f_M == b.f_M && (a.f_A == b.f_A && (a.f_Imm == b.f_Imm && (a.f_UseImm == b.f_UseImm && (a.f_Sh == b.f_Sh && (a.f_Amt == b.f_Amt && (a.f_List == b.f_List && (a.f_Back == b.f_Back && (a.f_Down == b.f_Down && true))))))))))))))) (cond (!a.f_Wide) (cond (a.f_Cond == 14) (true) (a.f_Op == 54)) (false)) (false)) (cond (a.f_Op == b.f_Op && (a.f_Wide == b.f_Wide && (false == b.f_S && (a.f_Cond == b.f_Cond && (a.f_D == b.f_D && (a.f_N == b.f_N && (a.f_M == b.f_M && (a.f_A == b.f_A && (a.f_Imm == b.f_Imm && (a.f_UseImm == b.f_UseImm && (a.f_Sh == b.f_Sh && (a.f_Amt == b.f_Amt && (a.f_List == b.f_List && (a.f_Back == b.f_Back && (a.f_Down == b.f_Down && true))))))))))))))) (cond (!a.f_Wide) (cond (a.f_Cond == 14) (true) (a.f_Op == 54)) (false)) (false)))) (cond (!(a.f_Op == 11) == b.f_S) (cond (a.f_Op == 11) (false) (cond (b.f_S) (false) (cond (a.f_S) (cond (a.f_Op == b.f_Op && (a.f_Wide == b.f_Wide && ((a.f_Op == 11) == b.f_S && (a.f_Cond == b.f_Cond && (a.f_D == b.f_D && (a.f_N == b.f_N && (a.f_M == b.f_M && (a.f_A == b.f_A && (a.f_Imm == b.f_Imm && (a.f_UseImm == b.f_UseImm && (a.f_Sh == b.f_Sh && (a.f_Amt == b.f_Amt && (a.f_List == b.f_List && (a.f_Back == b.f_Back && (a.f_Down == b.f_Down && true))))))))))))))) (cond (!a.f_Wide) (cond (a.f_Cond == 14) (true) (a.f_Op == 54)) (false)) (false)) (cond (a.f_Op == b.f_Op && (a.f_Wide == b.f_Wide && (false == b.f_S && (a.f_Cond == b.f_Cond && (a.f_D == b.f_D && (a.f_N == b.f_N && (a.f_M == b.f_M && (a.f_A == b.f_A && (a.f_Imm == b.f_Imm && (a.f_UseImm == b.f_UseImm && (a.f_Sh == b.f_Sh && (a.f_Amt == b.f_Amt && (a.f_List == b.f_List && (a.f_Back == b.f_Back && (a.f_Down == b.f_Down && true))))))))))))))) (cond (!a.f_Wide) (cond (a.f_Cond == 14) (true) (a.f_Op == 54)) (false)) (false))))) (cond (a.f_S) (cond (a.f_Op == b.f_Op && (a.f_Wide == b.f_Wide && ((a.f_Op == 11) == b.f_S && (a.f_Cond == b.f_Cond && (a.f_D == b.f_D && (a.f_N == b.f_N && (a.f_M == b.f_M && (a.f_A == b.f_A && (a.f_Imm == b.f_Imm && (a.f_UseImm == b.f_UseImm && (a.f_Sh == b.f_Sh && (a.f_Amt == b.f_Amt && (a.f_List == b.f_List && (a.f_Back == b.f_Back && (a.f_Down == b.f_Down && true))))))))))))))) (cond (!a.f_Wide) (cond (a.f_Cond == 14) (true) (a.f_Op == 54)) (false)) (false)) (cond (a.f_Op == b.f_Op && (a.f_Wide == b.f_Wide && (false == b.f_S && (a.f_Cond == b.f_Cond && (a.f_D == b.f_D && (a.f_N == b.f_N && (a.f_M == b.f_M && (a.f_A == b.f_A && (a.f_Imm == b.f_Imm && (a.f_UseImm == b.f_UseImm && (a.f_Sh == b.f_Sh && (a.f_Amt == b.f_Amt && (a.f_List == b.f_List && (a.f_Back == b.f_Back && (a.f_Down == b.f_Down && true))))))))))))))) (cond (!a.f_Wide) (cond (a.f_Cond == 14) (true) (a.f_Op == 54)) (false)) (false)))))))))

/-- Mov 5 -/
def y1 : S39 := ⟨13, false, true, 14, 0, 0, 0, 0, 5, true, 0, 0, 0, false, false⟩

def immB (e m : Nat) : Int := cond (Nat.blt e m) (Int.ofNat (Nat.mul 2 e)) (Int.ofNat (Nat.sub (Nat.add 4294967296 (Nat.mul 2 e)) (Nat.mul 4 m)))

def brB (c : Int) (e m : Nat) : S39 := ⟨54, false, false, c, 0, 0, 0, 0, immB e m, false, 0, 0, 0, false, false⟩

def bnot : Bool → Bool
  | true => false
  | false => true

/-- what is so of a branch -/
def chkB (h : Nat) (a : S39) : Bool := cond (ieq a.f_Op 54) (cond (ieq a.f_Cond 14) (Nat.beq (Nat.div h 2048) 28) (and1B (Nat.beq (Nat.div h 4096) 13) (ieq a.f_Cond (Int.ofNat (Nat.mod (Nat.div h 256) 16))))) true

def chkP (h : Nat) (a : S39) : Bool := cond (and1B (Nat.ble 53248 h) (Nat.blt h 56832)) (eqS a (brB (Int.ofNat (Nat.mod (Nat.div h 256) 16)) (Nat.mod h 256) 128))
  (cond (and1B (Nat.ble 57344 h) (Nat.blt h 59392)) (eqS a (brB 14 (Nat.mod h 2048) 1024)) true)

noncomputable def chk (h : Nat) : Bool :=
  and1B (flags9 (p30 (Int.ofNat h) false) (p30 (Int.ofNat h) true)) (and1B (bnot (ieq (p30 (Int.ofNat h) false).f_Op 0)) (and1B (cond (Nat.blt h 8197) (bnot (eqS (p30 (Int.ofNat h) false) y1)) true)
    (and1B (bnot (p30 (Int.ofNat h) false).f_Wide) (and1B (bnot (p30 (Int.ofNat h) true).f_Wide) (and1B (chkB h (p30 (Int.ofNat h) false)) (chkP h (p30 (Int.ofNat h) false)))))))

end Go.Den
