/-
  No cell of these rows narrows 'for every input' (looked for: loops, veiled, ifaces, maps, wideKeys, modest, calm, conditions, laid).
  DERIVED. THE GIVEN ROWS OF THIS SEAT. 6 by the template 'for every input the law returns true; each argument reads behind the call as it read before'; 0 by the template 'total and deterministic' (their statements: YtgnidbokllmhhaaTotals.lean).
  GIVEN WITH THE SEED: the statements are not yours to turn. If you find one false, say at which input.
  Laid BY PROGRAM, IN A SANDBOX (cutbox-rows.mjs): the forced cells as the released guide's own fill.sh prints them over the translation 8959af8dc7507161… (all of the seat's roots in one cut). By AI agents, Wed Nov 11 2026. No macro, syntax, notation, axiom, sorry.
-/
import Derived.Test.YtgnidbokllmhhaaChecked
import GoSem.Claim
import GoSem.ClaimJoined
import GoSem.ClaimMapViews
import Derived.JoinedTies
import Derived.KernelRfl
namespace Go.Proofs.Ytgnidbokllmhhaa
/- THE CELL 'sum', in the pinned program and in every row, IS THE sha256 OF THE DUMP (.gsa) THAT YtgnidbokllmhhaaProg.lean LOADS. Nothing in Lean hashes anything: it is a label: what it is worth is what the hold of that sum in a sandbox is worth. -/
noncomputable def Try.pinned : Pinned := { name := "ytgnidbokllmhhaa", sum := "8959af8dc75071619e7d4653087d2ea1b1579fc1db9e5dba3b4b3cbbd79200b8", checked := Try.checked }
namespace Rows
def none {H : Type} : Left H := { results := [], args := [] }

/-- 'platformfwlaw11.FieldMoves': WHATEVER THE INPUT: true; the input reads as it did. -/
def fieldMovesSpec : ChangeSpec := { name := "fieldMoves", fn := fun _ => fun
  | [d1, d2, d3, d4] => { results := [.lit (.bool true)], args := [d1, d2, d3, d4] }
  | _ => none }
def fieldMovesRow : OpenClaim := { program := "ytgnidbokllmhhaa", sum := "8959af8dc75071619e7d4653087d2ea1b1579fc1db9e5dba3b4b3cbbd79200b8", func := "platformfw/platformfwlaw11.FieldMoves", spec := "fieldMoves", apart := false }
def FieldMovesSaid : Prop := fieldMovesRow.holds Try.pinned (OpenSpec.ofChange fieldMovesSpec)

/-- ITS FALSE NEIGHBOUR: 'it returns false'. Refute it at one input. -/
def fieldMovesWrong : ChangeSpec := { name := "fieldMoves", fn := fun _ => fun
  | [d1, d2, d3, d4] => { results := [.lit (.bool false)], args := [d1, d2, d3, d4] }
  | _ => none }
def FieldMovesWrongFalsely : Prop := fieldMovesRow.holds Try.pinned (OpenSpec.ofChange fieldMovesWrong)

/-- 'platformfwlaw11.FieldRoundTrip': WHATEVER THE INPUT: true; the input reads as it did. -/
def fieldRoundTripSpec : ChangeSpec := { name := "fieldRoundTrip", fn := fun _ => fun
  | [d1, d2, d3] => { results := [.lit (.bool true)], args := [d1, d2, d3] }
  | _ => none }
def fieldRoundTripRow : OpenClaim := { program := "ytgnidbokllmhhaa", sum := "8959af8dc75071619e7d4653087d2ea1b1579fc1db9e5dba3b4b3cbbd79200b8", func := "platformfw/platformfwlaw11.FieldRoundTrip", spec := "fieldRoundTrip", apart := false }
def FieldRoundTripSaid : Prop := fieldRoundTripRow.holds Try.pinned (OpenSpec.ofChange fieldRoundTripSpec)

/-- ITS FALSE NEIGHBOUR: 'it returns false'. Refute it at one input. -/
def fieldRoundTripWrong : ChangeSpec := { name := "fieldRoundTrip", fn := fun _ => fun
  | [d1, d2, d3] => { results := [.lit (.bool false)], args := [d1, d2, d3] }
  | _ => none }
def FieldRoundTripWrongFalsely : Prop := fieldRoundTripRow.holds Try.pinned (OpenSpec.ofChange fieldRoundTripWrong)

/-- 'platformfwlaw11.FieldNeighbors': WHATEVER THE INPUT: true; the input reads as it did. -/
def fieldNeighborsSpec : ChangeSpec := { name := "fieldNeighbors", fn := fun _ => fun
  | [d1, d2, d3, d4, d5] => { results := [.lit (.bool true)], args := [d1, d2, d3, d4, d5] }
  | _ => none }
def fieldNeighborsRow : OpenClaim := { program := "ytgnidbokllmhhaa", sum := "8959af8dc75071619e7d4653087d2ea1b1579fc1db9e5dba3b4b3cbbd79200b8", func := "platformfw/platformfwlaw11.FieldNeighbors", spec := "fieldNeighbors", apart := false }
def FieldNeighborsSaid : Prop := fieldNeighborsRow.holds Try.pinned (OpenSpec.ofChange fieldNeighborsSpec)

/-- ITS FALSE NEIGHBOUR: 'it returns false'. Refute it at one input. -/
def fieldNeighborsWrong : ChangeSpec := { name := "fieldNeighbors", fn := fun _ => fun
  | [d1, d2, d3, d4, d5] => { results := [.lit (.bool false)], args := [d1, d2, d3, d4, d5] }
  | _ => none }
def FieldNeighborsWrongFalsely : Prop := fieldNeighborsRow.holds Try.pinned (OpenSpec.ofChange fieldNeighborsWrong)

/-- 'platformfwlaw11.FieldUnitsCover': WHATEVER THE INPUT: true; the input reads as it did. -/
def fieldUnitsCoverSpec : ChangeSpec := { name := "fieldUnitsCover", fn := fun _ => fun
  | [d] => { results := [.lit (.bool true)], args := [d] }
  | _ => none }
def fieldUnitsCoverRow : OpenClaim := { program := "ytgnidbokllmhhaa", sum := "8959af8dc75071619e7d4653087d2ea1b1579fc1db9e5dba3b4b3cbbd79200b8", func := "platformfw/platformfwlaw11.FieldUnitsCover", spec := "fieldUnitsCover", apart := false }
def FieldUnitsCoverSaid : Prop := fieldUnitsCoverRow.holds Try.pinned (OpenSpec.ofChange fieldUnitsCoverSpec)

/-- ITS FALSE NEIGHBOUR: 'it returns false'. Refute it at one input. -/
def fieldUnitsCoverWrong : ChangeSpec := { name := "fieldUnitsCover", fn := fun _ => fun
  | [d] => { results := [.lit (.bool false)], args := [d] }
  | _ => none }
def FieldUnitsCoverWrongFalsely : Prop := fieldUnitsCoverRow.holds Try.pinned (OpenSpec.ofChange fieldUnitsCoverWrong)

/-- 'platformfwlaw11.FieldPlans': WHATEVER THE INPUT: true; the input reads as it did. -/
def fieldPlansSpec : ChangeSpec := { name := "fieldPlans", fn := fun _ => fun
  | [d] => { results := [.lit (.bool true)], args := [d] }
  | _ => none }
def fieldPlansRow : OpenClaim := { program := "ytgnidbokllmhhaa", sum := "8959af8dc75071619e7d4653087d2ea1b1579fc1db9e5dba3b4b3cbbd79200b8", func := "platformfw/platformfwlaw11.FieldPlans", spec := "fieldPlans", apart := false }
def FieldPlansSaid : Prop := fieldPlansRow.holds Try.pinned (OpenSpec.ofChange fieldPlansSpec)

/-- ITS FALSE NEIGHBOUR: 'it returns false'. Refute it at one input. -/
def fieldPlansWrong : ChangeSpec := { name := "fieldPlans", fn := fun _ => fun
  | [d] => { results := [.lit (.bool false)], args := [d] }
  | _ => none }
def FieldPlansWrongFalsely : Prop := fieldPlansRow.holds Try.pinned (OpenSpec.ofChange fieldPlansWrong)

/-- 'platformfwlaw11.FieldConverts': WHATEVER THE INPUT: true; the input reads as it did. -/
def fieldConvertsSpec : ChangeSpec := { name := "fieldConverts", fn := fun _ => fun
  | [d1, d2, d3] => { results := [.lit (.bool true)], args := [d1, d2, d3] }
  | _ => none }
def fieldConvertsRow : OpenClaim := { program := "ytgnidbokllmhhaa", sum := "8959af8dc75071619e7d4653087d2ea1b1579fc1db9e5dba3b4b3cbbd79200b8", func := "platformfw/platformfwlaw11.FieldConverts", spec := "fieldConverts", apart := false }
def FieldConvertsSaid : Prop := fieldConvertsRow.holds Try.pinned (OpenSpec.ofChange fieldConvertsSpec)

/-- ITS FALSE NEIGHBOUR: 'it returns false'. Refute it at one input. -/
def fieldConvertsWrong : ChangeSpec := { name := "fieldConverts", fn := fun _ => fun
  | [d1, d2, d3] => { results := [.lit (.bool false)], args := [d1, d2, d3] }
  | _ => none }
def FieldConvertsWrongFalsely : Prop := fieldConvertsRow.holds Try.pinned (OpenSpec.ofChange fieldConvertsWrong)

/- THE SECOND FORM. 'bulk': how many values and letters a reading holds, each counted each time it is reached (what is shared counts as often as it is met; a slice's spare places count too). A statement '..UptoSaid' is the law's where the arguments, and the package variables that the reading takes, are together of bulk at most 1048576: NARROWER than '..Said'. Prove '..Said' where nothing that the law and all that it calls make is longer than what came in: it says more and counts as full. Else prove '..UptoSaid'. A law counts once. -/
mutual
def uptoBulk {H : Type} : DataW H → Nat
  | .lit (.string bytes) => bytes.length + 1
  | .lit _ => 1
  | .nil => 1
  | .ptr d => uptoBulk d + 1
  | .slice elems spare => uptoBulkAll elems + uptoBulkAll spare + 1
  | .agg parts => uptoBulkAll parts + 1
  | .iface _ d => uptoBulk d + 1
  | .map entries => uptoBulkEntries entries + 1
  | .held _ => 1
def uptoBulkAll {H : Type} : List (DataW H) → Nat
  | [] => 0
  | d :: r => uptoBulk d + uptoBulkAll r
def uptoBulkEntries {H : Type} : List (Lit × DataW H) → Nat
  | [] => 0
  | x :: r => uptoBulkEntry x + uptoBulkEntries r
def uptoBulkEntry {H : Type} : Lit × DataW H → Nat
  | (.string bytes, d) => bytes.length + uptoBulk d + 1
  | (_, d) => uptoBulk d + 1
 end
def uptoSmall : (H : Type) → List (DataW H) → Bool := fun _ ds => decide (uptoBulkAll ds ≤ 1048576)
def OpenSpec.upto (s : _root_.Go.ChangeSpec) : _root_.Go.OpenSpec := { _root_.Go.OpenSpec.ofChange s with cond := some uptoSmall }

/-- 'platformfwlaw11.FieldMoves', WHERE WHAT IT READS IS OF BULK AT MOST 1048576: true; the input reads as it did. -/
def fieldMovesUptoRow : OpenClaim := { program := "ytgnidbokllmhhaa", sum := "8959af8dc75071619e7d4653087d2ea1b1579fc1db9e5dba3b4b3cbbd79200b8", func := "platformfw/platformfwlaw11.FieldMoves", spec := "fieldMoves", apart := false, narrowed := true }
def FieldMovesUptoSaid : Prop := fieldMovesUptoRow.holds Try.pinned (OpenSpec.upto fieldMovesSpec)

/-- 'platformfwlaw11.FieldRoundTrip', WHERE WHAT IT READS IS OF BULK AT MOST 1048576: true; the input reads as it did. -/
def fieldRoundTripUptoRow : OpenClaim := { program := "ytgnidbokllmhhaa", sum := "8959af8dc75071619e7d4653087d2ea1b1579fc1db9e5dba3b4b3cbbd79200b8", func := "platformfw/platformfwlaw11.FieldRoundTrip", spec := "fieldRoundTrip", apart := false, narrowed := true }
def FieldRoundTripUptoSaid : Prop := fieldRoundTripUptoRow.holds Try.pinned (OpenSpec.upto fieldRoundTripSpec)

/-- 'platformfwlaw11.FieldNeighbors', WHERE WHAT IT READS IS OF BULK AT MOST 1048576: true; the input reads as it did. -/
def fieldNeighborsUptoRow : OpenClaim := { program := "ytgnidbokllmhhaa", sum := "8959af8dc75071619e7d4653087d2ea1b1579fc1db9e5dba3b4b3cbbd79200b8", func := "platformfw/platformfwlaw11.FieldNeighbors", spec := "fieldNeighbors", apart := false, narrowed := true }
def FieldNeighborsUptoSaid : Prop := fieldNeighborsUptoRow.holds Try.pinned (OpenSpec.upto fieldNeighborsSpec)

/-- 'platformfwlaw11.FieldUnitsCover', WHERE WHAT IT READS IS OF BULK AT MOST 1048576: true; the input reads as it did. -/
def fieldUnitsCoverUptoRow : OpenClaim := { program := "ytgnidbokllmhhaa", sum := "8959af8dc75071619e7d4653087d2ea1b1579fc1db9e5dba3b4b3cbbd79200b8", func := "platformfw/platformfwlaw11.FieldUnitsCover", spec := "fieldUnitsCover", apart := false, narrowed := true }
def FieldUnitsCoverUptoSaid : Prop := fieldUnitsCoverUptoRow.holds Try.pinned (OpenSpec.upto fieldUnitsCoverSpec)

/-- 'platformfwlaw11.FieldPlans', WHERE WHAT IT READS IS OF BULK AT MOST 1048576: true; the input reads as it did. -/
def fieldPlansUptoRow : OpenClaim := { program := "ytgnidbokllmhhaa", sum := "8959af8dc75071619e7d4653087d2ea1b1579fc1db9e5dba3b4b3cbbd79200b8", func := "platformfw/platformfwlaw11.FieldPlans", spec := "fieldPlans", apart := false, narrowed := true }
def FieldPlansUptoSaid : Prop := fieldPlansUptoRow.holds Try.pinned (OpenSpec.upto fieldPlansSpec)

/-- 'platformfwlaw11.FieldConverts', WHERE WHAT IT READS IS OF BULK AT MOST 1048576: true; the input reads as it did. -/
def fieldConvertsUptoRow : OpenClaim := { program := "ytgnidbokllmhhaa", sum := "8959af8dc75071619e7d4653087d2ea1b1579fc1db9e5dba3b4b3cbbd79200b8", func := "platformfw/platformfwlaw11.FieldConverts", spec := "fieldConverts", apart := false, narrowed := true }
def FieldConvertsUptoSaid : Prop := fieldConvertsUptoRow.holds Try.pinned (OpenSpec.upto fieldConvertsSpec)

end Rows
end Go.Proofs.Ytgnidbokllmhhaa
