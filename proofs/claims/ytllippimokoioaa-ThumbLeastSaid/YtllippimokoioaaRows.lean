/-
  No cell of these rows narrows 'for every input' (looked for: loops, veiled, ifaces, maps, wideKeys, modest, calm, conditions, laid).
  DERIVED. THE GIVEN ROWS OF THIS SEAT. 12 by the template 'for every input the law returns true; each argument reads behind the call as it read before'; 0 by the template 'total and deterministic' (their statements: YtllippimokoioaaTotals.lean).
  GIVEN WITH THE SEED: the statements are not yours to turn. If you find one false, say at which input.
  Laid BY PROGRAM, IN A SANDBOX (cutbox-rows.mjs): the forced cells as the released guide's own fill.sh prints them over the translation e83befca146e57d6… (all of the seat's roots in one cut). By AI agents, Wed Nov 11 2026. No macro, syntax, notation, axiom, sorry.
-/
import Derived.Test.YtllippimokoioaaChecked
import GoSem.Claim
import GoSem.ClaimJoined
import GoSem.ClaimMapViews
import Derived.JoinedTies
import Derived.KernelRfl
namespace Go.Proofs.Ytllippimokoioaa
/- THE CELL 'sum', in the pinned program and in every row, IS THE sha256 OF THE DUMP (.gsa) THAT YtllippimokoioaaProg.lean LOADS. Nothing in Lean hashes anything: it is a label: what it is worth is what the hold of that sum in a sandbox is worth. -/
noncomputable def Try.pinned : Pinned := { name := "ytllippimokoioaa", sum := "e83befca146e57d6440c95295a2aa95b33aa40c9eb5287a0956e639d2d93770d", checked := Try.checked }
namespace Rows
def none {H : Type} : Left H := { results := [], args := [] }

/-- 'sourdinelaw2.CondTells': WHATEVER THE INPUT: true; the input reads as it did. -/
def condTellsSpec : ChangeSpec := { name := "condTells", fn := fun _ => fun
  | [d1, d2, d3, d4, d5] => { results := [.lit (.bool true)], args := [d1, d2, d3, d4, d5] }
  | _ => none }
def condTellsRow : OpenClaim := { program := "ytllippimokoioaa", sum := "e83befca146e57d6440c95295a2aa95b33aa40c9eb5287a0956e639d2d93770d", func := "sourdine/sourdinelaw2.CondTells", spec := "condTells", apart := false }
def CondTellsSaid : Prop := condTellsRow.holds Try.pinned (OpenSpec.ofChange condTellsSpec)

/-- ITS FALSE NEIGHBOUR: 'it returns false'. Refute it at one input. -/
def condTellsWrong : ChangeSpec := { name := "condTells", fn := fun _ => fun
  | [d1, d2, d3, d4, d5] => { results := [.lit (.bool false)], args := [d1, d2, d3, d4, d5] }
  | _ => none }
def CondTellsWrongFalsely : Prop := condTellsRow.holds Try.pinned (OpenSpec.ofChange condTellsWrong)

/-- 'sourdinelaw2.CondOthers': WHATEVER THE INPUT: true; the input reads as it did. -/
def condOthersSpec : ChangeSpec := { name := "condOthers", fn := fun _ => fun
  | [d1, d2, d3, d4, d5, d6] => { results := [.lit (.bool true)], args := [d1, d2, d3, d4, d5, d6] }
  | _ => none }
def condOthersRow : OpenClaim := { program := "ytllippimokoioaa", sum := "e83befca146e57d6440c95295a2aa95b33aa40c9eb5287a0956e639d2d93770d", func := "sourdine/sourdinelaw2.CondOthers", spec := "condOthers", apart := false }
def CondOthersSaid : Prop := condOthersRow.holds Try.pinned (OpenSpec.ofChange condOthersSpec)

/-- ITS FALSE NEIGHBOUR: 'it returns false'. Refute it at one input. -/
def condOthersWrong : ChangeSpec := { name := "condOthers", fn := fun _ => fun
  | [d1, d2, d3, d4, d5, d6] => { results := [.lit (.bool false)], args := [d1, d2, d3, d4, d5, d6] }
  | _ => none }
def CondOthersWrongFalsely : Prop := condOthersRow.holds Try.pinned (OpenSpec.ofChange condOthersWrong)

/-- 'sourdinelaw2.CondNumbers': WHATEVER THE INPUT: true; the input reads as it did. -/
def condNumbersSpec : ChangeSpec := { name := "condNumbers", fn := fun _ => fun
  | [d1, d2] => { results := [.lit (.bool true)], args := [d1, d2] }
  | _ => none }
def condNumbersRow : OpenClaim := { program := "ytllippimokoioaa", sum := "e83befca146e57d6440c95295a2aa95b33aa40c9eb5287a0956e639d2d93770d", func := "sourdine/sourdinelaw2.CondNumbers", spec := "condNumbers", apart := false }
def CondNumbersSaid : Prop := condNumbersRow.holds Try.pinned (OpenSpec.ofChange condNumbersSpec)

/-- ITS FALSE NEIGHBOUR: 'it returns false'. Refute it at one input. -/
def condNumbersWrong : ChangeSpec := { name := "condNumbers", fn := fun _ => fun
  | [d1, d2] => { results := [.lit (.bool false)], args := [d1, d2] }
  | _ => none }
def CondNumbersWrongFalsely : Prop := condNumbersRow.holds Try.pinned (OpenSpec.ofChange condNumbersWrong)

/-- 'sourdinelaw8.ThumbTells': WHATEVER THE INPUT: true; the input reads as it did. -/
def thumbTellsSpec : ChangeSpec := { name := "thumbTells", fn := fun _ => fun
  | [d1, d2, d3] => { results := [.lit (.bool true)], args := [d1, d2, d3] }
  | _ => none }
def thumbTellsRow : OpenClaim := { program := "ytllippimokoioaa", sum := "e83befca146e57d6440c95295a2aa95b33aa40c9eb5287a0956e639d2d93770d", func := "sourdine/sourdinelaw8.ThumbTells", spec := "thumbTells", apart := false }
def ThumbTellsSaid : Prop := thumbTellsRow.holds Try.pinned (OpenSpec.ofChange thumbTellsSpec)

/-- ITS FALSE NEIGHBOUR: 'it returns false'. Refute it at one input. -/
def thumbTellsWrong : ChangeSpec := { name := "thumbTells", fn := fun _ => fun
  | [d1, d2, d3] => { results := [.lit (.bool false)], args := [d1, d2, d3] }
  | _ => none }
def ThumbTellsWrongFalsely : Prop := thumbTellsRow.holds Try.pinned (OpenSpec.ofChange thumbTellsWrong)

/-- 'sourdinelaw8.ThumbWrites': WHATEVER THE INPUT: true; the input reads as it did. -/
def thumbWritesSpec : ChangeSpec := { name := "thumbWrites", fn := fun _ => fun
  | [d1, d2, d3, d4] => { results := [.lit (.bool true)], args := [d1, d2, d3, d4] }
  | _ => none }
def thumbWritesRow : OpenClaim := { program := "ytllippimokoioaa", sum := "e83befca146e57d6440c95295a2aa95b33aa40c9eb5287a0956e639d2d93770d", func := "sourdine/sourdinelaw8.ThumbWrites", spec := "thumbWrites", apart := false }
def ThumbWritesSaid : Prop := thumbWritesRow.holds Try.pinned (OpenSpec.ofChange thumbWritesSpec)

/-- ITS FALSE NEIGHBOUR: 'it returns false'. Refute it at one input. -/
def thumbWritesWrong : ChangeSpec := { name := "thumbWrites", fn := fun _ => fun
  | [d1, d2, d3, d4] => { results := [.lit (.bool false)], args := [d1, d2, d3, d4] }
  | _ => none }
def ThumbWritesWrongFalsely : Prop := thumbWritesRow.holds Try.pinned (OpenSpec.ofChange thumbWritesWrong)

/-- 'sourdinelaw8.ThumbLeast': WHATEVER THE INPUT: true; the input reads as it did. -/
def thumbLeastSpec : ChangeSpec := { name := "thumbLeast", fn := fun _ => fun
  | [d1, d2, d3, d4] => { results := [.lit (.bool true)], args := [d1, d2, d3, d4] }
  | _ => none }
def thumbLeastRow : OpenClaim := { program := "ytllippimokoioaa", sum := "e83befca146e57d6440c95295a2aa95b33aa40c9eb5287a0956e639d2d93770d", func := "sourdine/sourdinelaw8.ThumbLeast", spec := "thumbLeast", apart := false }
def ThumbLeastSaid : Prop := thumbLeastRow.holds Try.pinned (OpenSpec.ofChange thumbLeastSpec)

/-- ITS FALSE NEIGHBOUR: 'it returns false'. Refute it at one input. -/
def thumbLeastWrong : ChangeSpec := { name := "thumbLeast", fn := fun _ => fun
  | [d1, d2, d3, d4] => { results := [.lit (.bool false)], args := [d1, d2, d3, d4] }
  | _ => none }
def ThumbLeastWrongFalsely : Prop := thumbLeastRow.holds Try.pinned (OpenSpec.ofChange thumbLeastWrong)

/-- 'sourdinelaw8.ThumbFlags': WHATEVER THE INPUT: true; the input reads as it did. -/
def thumbFlagsSpec : ChangeSpec := { name := "thumbFlags", fn := fun _ => fun
  | [d] => { results := [.lit (.bool true)], args := [d] }
  | _ => none }
def thumbFlagsRow : OpenClaim := { program := "ytllippimokoioaa", sum := "e83befca146e57d6440c95295a2aa95b33aa40c9eb5287a0956e639d2d93770d", func := "sourdine/sourdinelaw8.ThumbFlags", spec := "thumbFlags", apart := false }
def ThumbFlagsSaid : Prop := thumbFlagsRow.holds Try.pinned (OpenSpec.ofChange thumbFlagsSpec)

/-- ITS FALSE NEIGHBOUR: 'it returns false'. Refute it at one input. -/
def thumbFlagsWrong : ChangeSpec := { name := "thumbFlags", fn := fun _ => fun
  | [d] => { results := [.lit (.bool false)], args := [d] }
  | _ => none }
def ThumbFlagsWrongFalsely : Prop := thumbFlagsRow.holds Try.pinned (OpenSpec.ofChange thumbFlagsWrong)

/-- 'sourdinelaw8.ThumbPlaces': WHATEVER THE INPUT: true; the input reads as it did. -/
def thumbPlacesSpec : ChangeSpec := { name := "thumbPlaces", fn := fun _ => fun
  | [d1, d2] => { results := [.lit (.bool true)], args := [d1, d2] }
  | _ => none }
def thumbPlacesRow : OpenClaim := { program := "ytllippimokoioaa", sum := "e83befca146e57d6440c95295a2aa95b33aa40c9eb5287a0956e639d2d93770d", func := "sourdine/sourdinelaw8.ThumbPlaces", spec := "thumbPlaces", apart := false }
def ThumbPlacesSaid : Prop := thumbPlacesRow.holds Try.pinned (OpenSpec.ofChange thumbPlacesSpec)

/-- ITS FALSE NEIGHBOUR: 'it returns false'. Refute it at one input. -/
def thumbPlacesWrong : ChangeSpec := { name := "thumbPlaces", fn := fun _ => fun
  | [d1, d2] => { results := [.lit (.bool false)], args := [d1, d2] }
  | _ => none }
def ThumbPlacesWrongFalsely : Prop := thumbPlacesRow.holds Try.pinned (OpenSpec.ofChange thumbPlacesWrong)

/-- 'sourdinelaw21.AllocTells': WHATEVER THE INPUT: true; the input reads as it did. -/
def allocTellsSpec : ChangeSpec := { name := "allocTells", fn := fun _ => fun
  | [d1, d2, d3, d4] => { results := [.lit (.bool true)], args := [d1, d2, d3, d4] }
  | _ => none }
def allocTellsRow : OpenClaim := { program := "ytllippimokoioaa", sum := "e83befca146e57d6440c95295a2aa95b33aa40c9eb5287a0956e639d2d93770d", func := "sourdine/sourdinelaw21.AllocTells", spec := "allocTells", unfollowed := true, recurses := true, apart := false }
def AllocTellsSaid : Prop := allocTellsRow.holds Try.pinned (OpenSpec.ofChange allocTellsSpec)

/-- ITS FALSE NEIGHBOUR: 'it returns false'. Refute it at one input. -/
def allocTellsWrong : ChangeSpec := { name := "allocTells", fn := fun _ => fun
  | [d1, d2, d3, d4] => { results := [.lit (.bool false)], args := [d1, d2, d3, d4] }
  | _ => none }
def AllocTellsWrongFalsely : Prop := allocTellsRow.holds Try.pinned (OpenSpec.ofChange allocTellsWrong)

/-- 'sourdinelaw21.AllocApart': WHATEVER THE INPUT: true; the input reads as it did. -/
def allocApartSpec : ChangeSpec := { name := "allocApart", fn := fun _ => fun
  | [d1, d2] => { results := [.lit (.bool true)], args := [d1, d2] }
  | _ => none }
def allocApartRow : OpenClaim := { program := "ytllippimokoioaa", sum := "e83befca146e57d6440c95295a2aa95b33aa40c9eb5287a0956e639d2d93770d", func := "sourdine/sourdinelaw21.AllocApart", spec := "allocApart", unfollowed := true, recurses := true, apart := false }
def AllocApartSaid : Prop := allocApartRow.holds Try.pinned (OpenSpec.ofChange allocApartSpec)

/-- ITS FALSE NEIGHBOUR: 'it returns false'. Refute it at one input. -/
def allocApartWrong : ChangeSpec := { name := "allocApart", fn := fun _ => fun
  | [d1, d2] => { results := [.lit (.bool false)], args := [d1, d2] }
  | _ => none }
def AllocApartWrongFalsely : Prop := allocApartRow.holds Try.pinned (OpenSpec.ofChange allocApartWrong)

/-- 'sourdinelaw21.AllocMore': WHATEVER THE INPUT: true; the input reads as it did. -/
def allocMoreSpec : ChangeSpec := { name := "allocMore", fn := fun _ => fun
  | [d1, d2] => { results := [.lit (.bool true)], args := [d1, d2] }
  | _ => none }
def allocMoreRow : OpenClaim := { program := "ytllippimokoioaa", sum := "e83befca146e57d6440c95295a2aa95b33aa40c9eb5287a0956e639d2d93770d", func := "sourdine/sourdinelaw21.AllocMore", spec := "allocMore", unfollowed := true, recurses := true, apart := false }
def AllocMoreSaid : Prop := allocMoreRow.holds Try.pinned (OpenSpec.ofChange allocMoreSpec)

/-- ITS FALSE NEIGHBOUR: 'it returns false'. Refute it at one input. -/
def allocMoreWrong : ChangeSpec := { name := "allocMore", fn := fun _ => fun
  | [d1, d2] => { results := [.lit (.bool false)], args := [d1, d2] }
  | _ => none }
def AllocMoreWrongFalsely : Prop := allocMoreRow.holds Try.pinned (OpenSpec.ofChange allocMoreWrong)

/-- 'sourdinelaw21.AllocFew': WHATEVER THE INPUT: true; the input reads as it did. -/
def allocFewSpec : ChangeSpec := { name := "allocFew", fn := fun _ => fun
  | [d1, d2] => { results := [.lit (.bool true)], args := [d1, d2] }
  | _ => none }
def allocFewRow : OpenClaim := { program := "ytllippimokoioaa", sum := "e83befca146e57d6440c95295a2aa95b33aa40c9eb5287a0956e639d2d93770d", func := "sourdine/sourdinelaw21.AllocFew", spec := "allocFew", unfollowed := true, recurses := true, apart := false }
def AllocFewSaid : Prop := allocFewRow.holds Try.pinned (OpenSpec.ofChange allocFewSpec)

/-- ITS FALSE NEIGHBOUR: 'it returns false'. Refute it at one input. -/
def allocFewWrong : ChangeSpec := { name := "allocFew", fn := fun _ => fun
  | [d1, d2] => { results := [.lit (.bool false)], args := [d1, d2] }
  | _ => none }
def AllocFewWrongFalsely : Prop := allocFewRow.holds Try.pinned (OpenSpec.ofChange allocFewWrong)

/- THE SECOND FORM. 'bulk': how many values and letters a reading holds, each counted each time it is reached (what is shared counts as often as it is met; a slice's spare places count too). A statement '..UptoSaid' is the law's where the arguments, and the package variables that the reading takes, are together of bulk at most 1048576: NARROWER than '..Said'. Prove '..Said' where nothing that the law and all that it calls make is longer than what came in: it says more and counts as full. Else prove '..UptoSaid'. A law counts once. -/
mutual
def uptoBulk {H : Type} : DataW H → Nat
  | .lit (.string bytes) => bytes.length + 1
  | .lit _ => 1
  | .nil => 1
  | .ptr d => uptoBulk d + 1
  | .slice elems spare => uptoBulkAll elems + uptoBulkAll spare + 1
  | .agg parts => uptoBulkAll parts + 1
  | .iface _ d => uptoBulk d + 1
  | .map entries => uptoBulkEntries entries + 1
  | .held _ => 1
def uptoBulkAll {H : Type} : List (DataW H) → Nat
  | [] => 0
  | d :: r => uptoBulk d + uptoBulkAll r
def uptoBulkEntries {H : Type} : List (Lit × DataW H) → Nat
  | [] => 0
  | x :: r => uptoBulkEntry x + uptoBulkEntries r
def uptoBulkEntry {H : Type} : Lit × DataW H → Nat
  | (.string bytes, d) => bytes.length + uptoBulk d + 1
  | (_, d) => uptoBulk d + 1
 end
def uptoSmall : (H : Type) → List (DataW H) → Bool := fun _ ds => decide (uptoBulkAll ds ≤ 1048576)
def OpenSpec.upto (s : _root_.Go.ChangeSpec) : _root_.Go.OpenSpec := { _root_.Go.OpenSpec.ofChange s with cond := some uptoSmall }

/-- 'sourdinelaw2.CondTells', WHERE WHAT IT READS IS OF BULK AT MOST 1048576: true; the input reads as it did. -/
def condTellsUptoRow : OpenClaim := { program := "ytllippimokoioaa", sum := "e83befca146e57d6440c95295a2aa95b33aa40c9eb5287a0956e639d2d93770d", func := "sourdine/sourdinelaw2.CondTells", spec := "condTells", apart := false, narrowed := true }
def CondTellsUptoSaid : Prop := condTellsUptoRow.holds Try.pinned (OpenSpec.upto condTellsSpec)

/-- 'sourdinelaw2.CondOthers', WHERE WHAT IT READS IS OF BULK AT MOST 1048576: true; the input reads as it did. -/
def condOthersUptoRow : OpenClaim := { program := "ytllippimokoioaa", sum := "e83befca146e57d6440c95295a2aa95b33aa40c9eb5287a0956e639d2d93770d", func := "sourdine/sourdinelaw2.CondOthers", spec := "condOthers", apart := false, narrowed := true }
def CondOthersUptoSaid : Prop := condOthersUptoRow.holds Try.pinned (OpenSpec.upto condOthersSpec)

/-- 'sourdinelaw2.CondNumbers', WHERE WHAT IT READS IS OF BULK AT MOST 1048576: true; the input reads as it did. -/
def condNumbersUptoRow : OpenClaim := { program := "ytllippimokoioaa", sum := "e83befca146e57d6440c95295a2aa95b33aa40c9eb5287a0956e639d2d93770d", func := "sourdine/sourdinelaw2.CondNumbers", spec := "condNumbers", apart := false, narrowed := true }
def CondNumbersUptoSaid : Prop := condNumbersUptoRow.holds Try.pinned (OpenSpec.upto condNumbersSpec)

/-- 'sourdinelaw8.ThumbTells', WHERE WHAT IT READS IS OF BULK AT MOST 1048576: true; the input reads as it did. -/
def thumbTellsUptoRow : OpenClaim := { program := "ytllippimokoioaa", sum := "e83befca146e57d6440c95295a2aa95b33aa40c9eb5287a0956e639d2d93770d", func := "sourdine/sourdinelaw8.ThumbTells", spec := "thumbTells", apart := false, narrowed := true }
def ThumbTellsUptoSaid : Prop := thumbTellsUptoRow.holds Try.pinned (OpenSpec.upto thumbTellsSpec)

/-- 'sourdinelaw8.ThumbWrites', WHERE WHAT IT READS IS OF BULK AT MOST 1048576: true; the input reads as it did. -/
def thumbWritesUptoRow : OpenClaim := { program := "ytllippimokoioaa", sum := "e83befca146e57d6440c95295a2aa95b33aa40c9eb5287a0956e639d2d93770d", func := "sourdine/sourdinelaw8.ThumbWrites", spec := "thumbWrites", apart := false, narrowed := true }
def ThumbWritesUptoSaid : Prop := thumbWritesUptoRow.holds Try.pinned (OpenSpec.upto thumbWritesSpec)

/-- 'sourdinelaw8.ThumbLeast', WHERE WHAT IT READS IS OF BULK AT MOST 1048576: true; the input reads as it did. -/
def thumbLeastUptoRow : OpenClaim := { program := "ytllippimokoioaa", sum := "e83befca146e57d6440c95295a2aa95b33aa40c9eb5287a0956e639d2d93770d", func := "sourdine/sourdinelaw8.ThumbLeast", spec := "thumbLeast", apart := false, narrowed := true }
def ThumbLeastUptoSaid : Prop := thumbLeastUptoRow.holds Try.pinned (OpenSpec.upto thumbLeastSpec)

/-- 'sourdinelaw8.ThumbFlags', WHERE WHAT IT READS IS OF BULK AT MOST 1048576: true; the input reads as it did. -/
def thumbFlagsUptoRow : OpenClaim := { program := "ytllippimokoioaa", sum := "e83befca146e57d6440c95295a2aa95b33aa40c9eb5287a0956e639d2d93770d", func := "sourdine/sourdinelaw8.ThumbFlags", spec := "thumbFlags", apart := false, narrowed := true }
def ThumbFlagsUptoSaid : Prop := thumbFlagsUptoRow.holds Try.pinned (OpenSpec.upto thumbFlagsSpec)

/-- 'sourdinelaw8.ThumbPlaces', WHERE WHAT IT READS IS OF BULK AT MOST 1048576: true; the input reads as it did. -/
def thumbPlacesUptoRow : OpenClaim := { program := "ytllippimokoioaa", sum := "e83befca146e57d6440c95295a2aa95b33aa40c9eb5287a0956e639d2d93770d", func := "sourdine/sourdinelaw8.ThumbPlaces", spec := "thumbPlaces", apart := false, narrowed := true }
def ThumbPlacesUptoSaid : Prop := thumbPlacesUptoRow.holds Try.pinned (OpenSpec.upto thumbPlacesSpec)

/-- 'sourdinelaw21.AllocTells', WHERE WHAT IT READS IS OF BULK AT MOST 1048576: true; the input reads as it did. -/
def allocTellsUptoRow : OpenClaim := { program := "ytllippimokoioaa", sum := "e83befca146e57d6440c95295a2aa95b33aa40c9eb5287a0956e639d2d93770d", func := "sourdine/sourdinelaw21.AllocTells", spec := "allocTells", unfollowed := true, recurses := true, apart := false, narrowed := true }
def AllocTellsUptoSaid : Prop := allocTellsUptoRow.holds Try.pinned (OpenSpec.upto allocTellsSpec)

/-- 'sourdinelaw21.AllocApart', WHERE WHAT IT READS IS OF BULK AT MOST 1048576: true; the input reads as it did. -/
def allocApartUptoRow : OpenClaim := { program := "ytllippimokoioaa", sum := "e83befca146e57d6440c95295a2aa95b33aa40c9eb5287a0956e639d2d93770d", func := "sourdine/sourdinelaw21.AllocApart", spec := "allocApart", unfollowed := true, recurses := true, apart := false, narrowed := true }
def AllocApartUptoSaid : Prop := allocApartUptoRow.holds Try.pinned (OpenSpec.upto allocApartSpec)

/-- 'sourdinelaw21.AllocMore', WHERE WHAT IT READS IS OF BULK AT MOST 1048576: true; the input reads as it did. -/
def allocMoreUptoRow : OpenClaim := { program := "ytllippimokoioaa", sum := "e83befca146e57d6440c95295a2aa95b33aa40c9eb5287a0956e639d2d93770d", func := "sourdine/sourdinelaw21.AllocMore", spec := "allocMore", unfollowed := true, recurses := true, apart := false, narrowed := true }
def AllocMoreUptoSaid : Prop := allocMoreUptoRow.holds Try.pinned (OpenSpec.upto allocMoreSpec)

/-- 'sourdinelaw21.AllocFew', WHERE WHAT IT READS IS OF BULK AT MOST 1048576: true; the input reads as it did. -/
def allocFewUptoRow : OpenClaim := { program := "ytllippimokoioaa", sum := "e83befca146e57d6440c95295a2aa95b33aa40c9eb5287a0956e639d2d93770d", func := "sourdine/sourdinelaw21.AllocFew", spec := "allocFew", unfollowed := true, recurses := true, apart := false, narrowed := true }
def AllocFewUptoSaid : Prop := allocFewUptoRow.holds Try.pinned (OpenSpec.upto allocFewSpec)

end Rows
end Go.Proofs.Ytllippimokoioaa
