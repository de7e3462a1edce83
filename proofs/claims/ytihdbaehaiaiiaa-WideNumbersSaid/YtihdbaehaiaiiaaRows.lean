/-
  No cell of these rows narrows 'for every input' (looked for: loops, veiled, ifaces, maps, wideKeys, modest, calm, conditions, laid).
  DERIVED. THE GIVEN ROWS OF THIS SEAT. 4 by the template 'for every input the law returns true; each argument reads behind the call as it read before'; 0 by the template 'total and deterministic' (their statements: YtihdbaehaiaiiaaTotals.lean).
  GIVEN WITH THE SEED: the statements are not yours to turn. If you find one false, say at which input.
  Laid BY PROGRAM, IN A SANDBOX (cutbox-rows.mjs): the forced cells as the released guide's own fill.sh prints them over the translation 4f51da6af98dee7d… (all of the seat's roots in one cut). By AI agents, Wed Nov 11 2026. No macro, syntax, notation, axiom, sorry.
-/
import Derived.Test.YtihdbaehaiaiiaaChecked
import GoSem.Claim
import GoSem.ClaimJoined
import GoSem.ClaimMapViews
import Derived.JoinedTies
import Derived.KernelRfl
namespace Go.Proofs.Ytihdbaehaiaiiaa
/- THE CELL 'sum', in the pinned program and in every row, IS THE sha256 OF THE DUMP (.gsa) THAT YtihdbaehaiaiiaaProg.lean LOADS. Nothing in Lean hashes anything: it is a label: what it is worth is what the hold of that sum in a sandbox is worth. -/
noncomputable def Try.pinned : Pinned := { name := "ytihdbaehaiaiiaa", sum := "4f51da6af98dee7dab8e8b1ef65f6d947f49c5ad426bbb527c11ce666ee3e8bd", checked := Try.checked }
namespace Rows
def none {H : Type} : Left H := { results := [], args := [] }

/-- 'sourdinelaw9.WideTells': WHATEVER THE INPUT: true; the input reads as it did. -/
def wideTellsSpec : ChangeSpec := { name := "wideTells", fn := fun _ => fun
  | [d1, d2, d3, d4, d5, d6] => { results := [.lit (.bool true)], args := [d1, d2, d3, d4, d5, d6] }
  | _ => none }
def wideTellsRow : OpenClaim := { program := "ytihdbaehaiaiiaa", sum := "4f51da6af98dee7dab8e8b1ef65f6d947f49c5ad426bbb527c11ce666ee3e8bd", func := "sourdine/sourdinelaw9.WideTells", spec := "wideTells", unfollowed := true, recurses := true, apart := false }
def WideTellsSaid : Prop := wideTellsRow.holds Try.pinned (OpenSpec.ofChange wideTellsSpec)

/-- ITS FALSE NEIGHBOUR: 'it returns false'. Refute it at one input. -/
def wideTellsWrong : ChangeSpec := { name := "wideTells", fn := fun _ => fun
  | [d1, d2, d3, d4, d5, d6] => { results := [.lit (.bool false)], args := [d1, d2, d3, d4, d5, d6] }
  | _ => none }
def WideTellsWrongFalsely : Prop := wideTellsRow.holds Try.pinned (OpenSpec.ofChange wideTellsWrong)

/-- 'sourdinelaw9.WideWrites': WHATEVER THE INPUT: true; the input reads as it did. -/
def wideWritesSpec : ChangeSpec := { name := "wideWrites", fn := fun _ => fun
  | [d1, d2, d3, d4, d5, d6] => { results := [.lit (.bool true)], args := [d1, d2, d3, d4, d5, d6] }
  | _ => none }
def wideWritesRow : OpenClaim := { program := "ytihdbaehaiaiiaa", sum := "4f51da6af98dee7dab8e8b1ef65f6d947f49c5ad426bbb527c11ce666ee3e8bd", func := "sourdine/sourdinelaw9.WideWrites", spec := "wideWrites", unfollowed := true, recurses := true, apart := false }
def WideWritesSaid : Prop := wideWritesRow.holds Try.pinned (OpenSpec.ofChange wideWritesSpec)

/-- ITS FALSE NEIGHBOUR: 'it returns false'. Refute it at one input. -/
def wideWritesWrong : ChangeSpec := { name := "wideWrites", fn := fun _ => fun
  | [d1, d2, d3, d4, d5, d6] => { results := [.lit (.bool false)], args := [d1, d2, d3, d4, d5, d6] }
  | _ => none }
def WideWritesWrongFalsely : Prop := wideWritesRow.holds Try.pinned (OpenSpec.ofChange wideWritesWrong)

/-- 'sourdinelaw9.WidePlaces': WHATEVER THE INPUT: true; the input reads as it did. -/
def widePlacesSpec : ChangeSpec := { name := "widePlaces", fn := fun _ => fun
  | [d1, d2, d3] => { results := [.lit (.bool true)], args := [d1, d2, d3] }
  | _ => none }
def widePlacesRow : OpenClaim := { program := "ytihdbaehaiaiiaa", sum := "4f51da6af98dee7dab8e8b1ef65f6d947f49c5ad426bbb527c11ce666ee3e8bd", func := "sourdine/sourdinelaw9.WidePlaces", spec := "widePlaces", unfollowed := true, recurses := true, apart := false }
def WidePlacesSaid : Prop := widePlacesRow.holds Try.pinned (OpenSpec.ofChange widePlacesSpec)

/-- ITS FALSE NEIGHBOUR: 'it returns false'. Refute it at one input. -/
def widePlacesWrong : ChangeSpec := { name := "widePlaces", fn := fun _ => fun
  | [d1, d2, d3] => { results := [.lit (.bool false)], args := [d1, d2, d3] }
  | _ => none }
def WidePlacesWrongFalsely : Prop := widePlacesRow.holds Try.pinned (OpenSpec.ofChange widePlacesWrong)

/-- 'sourdinelaw9.WideNumbers': WHATEVER THE INPUT: true; the input reads as it did. -/
def wideNumbersSpec : ChangeSpec := { name := "wideNumbers", fn := fun _ => fun
  | [d1, d2, d3] => { results := [.lit (.bool true)], args := [d1, d2, d3] }
  | _ => none }
def wideNumbersRow : OpenClaim := { program := "ytihdbaehaiaiiaa", sum := "4f51da6af98dee7dab8e8b1ef65f6d947f49c5ad426bbb527c11ce666ee3e8bd", func := "sourdine/sourdinelaw9.WideNumbers", spec := "wideNumbers", unfollowed := true, recurses := true, apart := false }
def WideNumbersSaid : Prop := wideNumbersRow.holds Try.pinned (OpenSpec.ofChange wideNumbersSpec)

/-- ITS FALSE NEIGHBOUR: 'it returns false'. Refute it at one input. -/
def wideNumbersWrong : ChangeSpec := { name := "wideNumbers", fn := fun _ => fun
  | [d1, d2, d3] => { results := [.lit (.bool false)], args := [d1, d2, d3] }
  | _ => none }
def WideNumbersWrongFalsely : Prop := wideNumbersRow.holds Try.pinned (OpenSpec.ofChange wideNumbersWrong)

/- THE SECOND FORM. 'bulk': how many values and letters a reading holds, each counted each time it is reached (what is shared counts as often as it is met; a slice's spare places count too). A statement '..UptoSaid' is the law's where the arguments, and the package variables that the reading takes, are together of bulk at most 1048576: NARROWER than '..Said'. Prove '..Said' where nothing that the law and all that it calls make is longer than what came in: it says more and counts as full. Else prove '..UptoSaid'. A law counts once. -/
mutual
def uptoBulk {H : Type} : DataW H → Nat
  | .lit (.string bytes) => bytes.length + 1
  | .lit _ => 1
  | .nil => 1
  | .ptr d => uptoBulk d + 1
  | .slice elems spare => uptoBulkAll elems + uptoBulkAll spare + 1
  | .agg parts => uptoBulkAll parts + 1
  | .iface _ d => uptoBulk d + 1
  | .map entries => uptoBulkEntries entries + 1
  | .held _ => 1
def uptoBulkAll {H : Type} : List (DataW H) → Nat
  | [] => 0
  | d :: r => uptoBulk d + uptoBulkAll r
def uptoBulkEntries {H : Type} : List (Lit × DataW H) → Nat
  | [] => 0
  | x :: r => uptoBulkEntry x + uptoBulkEntries r
def uptoBulkEntry {H : Type} : Lit × DataW H → Nat
  | (.string bytes, d) => bytes.length + uptoBulk d + 1
  | (_, d) => uptoBulk d + 1
 end
def uptoSmall : (H : Type) → List (DataW H) → Bool := fun _ ds => decide (uptoBulkAll ds ≤ 1048576)
def OpenSpec.upto (s : _root_.Go.ChangeSpec) : _root_.Go.OpenSpec := { _root_.Go.OpenSpec.ofChange s with cond := some uptoSmall }

/-- 'sourdinelaw9.WideTells', WHERE WHAT IT READS IS OF BULK AT MOST 1048576: true; the input reads as it did. -/
def wideTellsUptoRow : OpenClaim := { program := "ytihdbaehaiaiiaa", sum := "4f51da6af98dee7dab8e8b1ef65f6d947f49c5ad426bbb527c11ce666ee3e8bd", func := "sourdine/sourdinelaw9.WideTells", spec := "wideTells", unfollowed := true, recurses := true, apart := false, narrowed := true }
def WideTellsUptoSaid : Prop := wideTellsUptoRow.holds Try.pinned (OpenSpec.upto wideTellsSpec)

/-- 'sourdinelaw9.WideWrites', WHERE WHAT IT READS IS OF BULK AT MOST 1048576: true; the input reads as it did. -/
def wideWritesUptoRow : OpenClaim := { program := "ytihdbaehaiaiiaa", sum := "4f51da6af98dee7dab8e8b1ef65f6d947f49c5ad426bbb527c11ce666ee3e8bd", func := "sourdine/sourdinelaw9.WideWrites", spec := "wideWrites", unfollowed := true, recurses := true, apart := false, narrowed := true }
def WideWritesUptoSaid : Prop := wideWritesUptoRow.holds Try.pinned (OpenSpec.upto wideWritesSpec)

/-- 'sourdinelaw9.WidePlaces', WHERE WHAT IT READS IS OF BULK AT MOST 1048576: true; the input reads as it did. -/
def widePlacesUptoRow : OpenClaim := { program := "ytihdbaehaiaiiaa", sum := "4f51da6af98dee7dab8e8b1ef65f6d947f49c5ad426bbb527c11ce666ee3e8bd", func := "sourdine/sourdinelaw9.WidePlaces", spec := "widePlaces", unfollowed := true, recurses := true, apart := false, narrowed := true }
def WidePlacesUptoSaid : Prop := widePlacesUptoRow.holds Try.pinned (OpenSpec.upto widePlacesSpec)

/-- 'sourdinelaw9.WideNumbers', WHERE WHAT IT READS IS OF BULK AT MOST 1048576: true; the input reads as it did. -/
def wideNumbersUptoRow : OpenClaim := { program := "ytihdbaehaiaiiaa", sum := "4f51da6af98dee7dab8e8b1ef65f6d947f49c5ad426bbb527c11ce666ee3e8bd", func := "sourdine/sourdinelaw9.WideNumbers", spec := "wideNumbers", unfollowed := true, recurses := true, apart := false, narrowed := true }
def WideNumbersUptoSaid : Prop := wideNumbersUptoRow.holds Try.pinned (OpenSpec.upto wideNumbersSpec)

end Rows
end Go.Proofs.Ytihdbaehaiaiiaa
