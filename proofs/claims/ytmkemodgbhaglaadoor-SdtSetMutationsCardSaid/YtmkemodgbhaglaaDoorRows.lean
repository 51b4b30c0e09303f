/-
  NARROWER THAN 'FOR EVERY INPUT', by the rows' own cells (each row's printed sentence says how): SdtEncodes: laid · SdtRoundTrip: laid · SdtDetectsChanges: laid · SdtDecodes: laid · SdtSetMutations: laid · SdtSets: laid.
  DERIVED. THE GIVEN ROWS OF THIS SEAT. 6 by the template 'for every input the law returns true; each argument reads behind the call as it read before'; 0 by the template 'total and deterministic' (their statements: YtmkemodgbhaglaaDoorTotals.lean).
  GIVEN WITH THE SEED: the statements are not yours to turn. If you find one false, say at which input.
  Laid BY PROGRAM, IN A SANDBOX (cutbox-rows.mjs): the forced cells as the released guide's own fill.sh prints them over the translation a893e6919d7759d9… (all of the seat's roots in one cut). By AI agents, Wed Nov 11 2026. No macro, syntax, notation, axiom, sorry.
-/
import Derived.Test.YtmkemodgbhaglaaDoorChecked
import GoSem.PinnedTables
import GoSem.Claim
import GoSem.ClaimJoined
import GoSem.ClaimMapViews
import Derived.JoinedTies
import Derived.KernelRfl
namespace Go.Proofs.YtmkemodgbhaglaaDoor
/- THE CELL 'sum', in the pinned program and in every row, IS THE sha256 OF THE DUMP (.gsa) THAT YtmkemodgbhaglaaDoorProg.lean LOADS. Nothing in Lean hashes anything: it is a label: what it is worth is what the hold of that sum in a sandbox is worth. -/
noncomputable def Tryd.pinned : Pinned := { name := "ytmkemodgbhaglaadoor", sum := "a893e6919d7759d94bbe71825b264664c9abfbdae28ae7a99af5b9d2a7ab27b9", checked := Tryd.checked }
namespace Rows
def none {H : Type} : Left H := { results := [], args := [] }

/- WHAT THE LISTED PACKAGE-LEVEL VARIABLES READ AS WHEN THE CALL BEGINS. Each datum BY PROGRAM (the guide's laid-datum.mjs) off the statement by which the dump's own 'gosem.cut.vars' lays the variable. In a bare row this is a premise. The card (YtmkemodgbhaglaaDoorCards.lean) ties it to the program's text. -/
def laid_unicode_utf8_acceptRanges {H : Type} : DataW H := .agg [.agg [.lit (.int .u8 128), .lit (.int .u8 191)], .agg [.lit (.int .u8 160), .lit (.int .u8 191)], .agg [.lit (.int .u8 128), .lit (.int .u8 159)], .agg [.lit (.int .u8 144), .lit (.int .u8 191)], .agg [.lit (.int .u8 128), .lit (.int .u8 143)], .agg [.lit (.int .u8 0), .lit (.int .u8 0)], .agg [.lit (.int .u8 0), .lit (.int .u8 0)], .agg [.lit (.int .u8 0), .lit (.int .u8 0)], .agg [.lit (.int .u8 0), .lit (.int .u8 0)], .agg [.lit (.int .u8 0), .lit (.int .u8 0)], .agg [.lit (.int .u8 0), .lit (.int .u8 0)], .agg [.lit (.int .u8 0), .lit (.int .u8 0)], .agg [.lit (.int .u8 0), .lit (.int .u8 0)], .agg [.lit (.int .u8 0), .lit (.int .u8 0)], .agg [.lit (.int .u8 0), .lit (.int .u8 0)], .agg [.lit (.int .u8 0), .lit (.int .u8 0)]]
/-- One of Go's own tables, pinned by name: the form's constant. -/
def laid_unicode_utf8_first : DataW Unit := Go.Pinned.utf8First

/-- 'platformfwlaw07.SdtEncodes': WHATEVER THE INPUT: true; the input reads as it did. -/
def sdtEncodesSpec : ChangeSpec := { name := "sdtEncodes", fn := fun _ => fun
  | [d] => { results := [.lit (.bool true)], args := [d] }
  | _ => none }
def sdtEncodesRow : OpenClaim := { program := "ytmkemodgbhaglaadoor", sum := "a893e6919d7759d94bbe71825b264664c9abfbdae28ae7a99af5b9d2a7ab27b9", func := "platformfw/platformfwlaw07.SdtEncodes", spec := "sdtEncodes", inPlace := ["internal/bytealg.IndexByteString", "internal/bytealg.IndexString"], named := ["unicode/utf8.first", "unicode/utf8.acceptRanges", "internal/bytealg.MaxLen"], apart := false, laid := [("unicode/utf8.acceptRanges", laid_unicode_utf8_acceptRanges), ("unicode/utf8.first", laid_unicode_utf8_first)] }
def SdtEncodesSaid : Prop := sdtEncodesRow.holds Tryd.pinned (OpenSpec.ofChange sdtEncodesSpec)

/-- ITS FALSE NEIGHBOUR: 'it returns false'. Refute it at one input. -/
def sdtEncodesWrong : ChangeSpec := { name := "sdtEncodes", fn := fun _ => fun
  | [d] => { results := [.lit (.bool false)], args := [d] }
  | _ => none }
def SdtEncodesWrongFalsely : Prop := sdtEncodesRow.holds Tryd.pinned (OpenSpec.ofChange sdtEncodesWrong)

/-- 'platformfwlaw07.SdtRoundTrip': WHATEVER THE INPUT: true; the input reads as it did. -/
def sdtRoundTripSpec : ChangeSpec := { name := "sdtRoundTrip", fn := fun _ => fun
  | [d1, d2] => { results := [.lit (.bool true)], args := [d1, d2] }
  | _ => none }
def sdtRoundTripRow : OpenClaim := { program := "ytmkemodgbhaglaadoor", sum := "a893e6919d7759d94bbe71825b264664c9abfbdae28ae7a99af5b9d2a7ab27b9", func := "platformfw/platformfwlaw07.SdtRoundTrip", spec := "sdtRoundTrip", inPlace := ["internal/bytealg.IndexByteString", "internal/bytealg.IndexString"], named := ["unicode/utf8.first", "unicode/utf8.acceptRanges", "internal/bytealg.MaxLen"], apart := false, laid := [("unicode/utf8.acceptRanges", laid_unicode_utf8_acceptRanges), ("unicode/utf8.first", laid_unicode_utf8_first)] }
def SdtRoundTripSaid : Prop := sdtRoundTripRow.holds Tryd.pinned (OpenSpec.ofChange sdtRoundTripSpec)

/-- ITS FALSE NEIGHBOUR: 'it returns false'. Refute it at one input. -/
def sdtRoundTripWrong : ChangeSpec := { name := "sdtRoundTrip", fn := fun _ => fun
  | [d1, d2] => { results := [.lit (.bool false)], args := [d1, d2] }
  | _ => none }
def SdtRoundTripWrongFalsely : Prop := sdtRoundTripRow.holds Tryd.pinned (OpenSpec.ofChange sdtRoundTripWrong)

/-- 'platformfwlaw07.SdtDetectsChanges': WHATEVER THE INPUT: true; the input reads as it did. -/
def sdtDetectsChangesSpec : ChangeSpec := { name := "sdtDetectsChanges", fn := fun _ => fun
  | [d1, d2, d3] => { results := [.lit (.bool true)], args := [d1, d2, d3] }
  | _ => none }
def sdtDetectsChangesRow : OpenClaim := { program := "ytmkemodgbhaglaadoor", sum := "a893e6919d7759d94bbe71825b264664c9abfbdae28ae7a99af5b9d2a7ab27b9", func := "platformfw/platformfwlaw07.SdtDetectsChanges", spec := "sdtDetectsChanges", inPlace := ["internal/bytealg.IndexByteString", "internal/bytealg.IndexString"], named := ["unicode/utf8.first", "unicode/utf8.acceptRanges", "internal/bytealg.MaxLen"], apart := false, laid := [("unicode/utf8.acceptRanges", laid_unicode_utf8_acceptRanges), ("unicode/utf8.first", laid_unicode_utf8_first)] }
def SdtDetectsChangesSaid : Prop := sdtDetectsChangesRow.holds Tryd.pinned (OpenSpec.ofChange sdtDetectsChangesSpec)

/-- ITS FALSE NEIGHBOUR: 'it returns false'. Refute it at one input. -/
def sdtDetectsChangesWrong : ChangeSpec := { name := "sdtDetectsChanges", fn := fun _ => fun
  | [d1, d2, d3] => { results := [.lit (.bool false)], args := [d1, d2, d3] }
  | _ => none }
def SdtDetectsChangesWrongFalsely : Prop := sdtDetectsChangesRow.holds Tryd.pinned (OpenSpec.ofChange sdtDetectsChangesWrong)

/-- 'platformfwlaw07.SdtDecodes': WHATEVER THE INPUT: true; the input reads as it did. -/
def sdtDecodesSpec : ChangeSpec := { name := "sdtDecodes", fn := fun _ => fun
  | [d1, d2, d3, d4] => { results := [.lit (.bool true)], args := [d1, d2, d3, d4] }
  | _ => none }
def sdtDecodesRow : OpenClaim := { program := "ytmkemodgbhaglaadoor", sum := "a893e6919d7759d94bbe71825b264664c9abfbdae28ae7a99af5b9d2a7ab27b9", func := "platformfw/platformfwlaw07.SdtDecodes", spec := "sdtDecodes", inPlace := ["internal/bytealg.IndexByteString", "internal/bytealg.IndexString"], named := ["unicode/utf8.first", "unicode/utf8.acceptRanges", "internal/bytealg.MaxLen"], apart := false, laid := [("unicode/utf8.acceptRanges", laid_unicode_utf8_acceptRanges), ("unicode/utf8.first", laid_unicode_utf8_first)] }
def SdtDecodesSaid : Prop := sdtDecodesRow.holds Tryd.pinned (OpenSpec.ofChange sdtDecodesSpec)

/-- ITS FALSE NEIGHBOUR: 'it returns false'. Refute it at one input. -/
def sdtDecodesWrong : ChangeSpec := { name := "sdtDecodes", fn := fun _ => fun
  | [d1, d2, d3, d4] => { results := [.lit (.bool false)], args := [d1, d2, d3, d4] }
  | _ => none }
def SdtDecodesWrongFalsely : Prop := sdtDecodesRow.holds Tryd.pinned (OpenSpec.ofChange sdtDecodesWrong)

/-- 'platformfwlaw07.SdtSetMutations': WHATEVER THE INPUT: true; the input reads as it did. -/
def sdtSetMutationsSpec : ChangeSpec := { name := "sdtSetMutations", fn := fun _ => fun
  | [d1, d2, d3, d4, d5] => { results := [.lit (.bool true)], args := [d1, d2, d3, d4, d5] }
  | _ => none }
def sdtSetMutationsRow : OpenClaim := { program := "ytmkemodgbhaglaadoor", sum := "a893e6919d7759d94bbe71825b264664c9abfbdae28ae7a99af5b9d2a7ab27b9", func := "platformfw/platformfwlaw07.SdtSetMutations", spec := "sdtSetMutations", inPlace := ["internal/bytealg.IndexByteString", "internal/bytealg.IndexString"], named := ["unicode/utf8.first", "unicode/utf8.acceptRanges", "internal/bytealg.MaxLen"], apart := false, laid := [("unicode/utf8.acceptRanges", laid_unicode_utf8_acceptRanges), ("unicode/utf8.first", laid_unicode_utf8_first)] }
def SdtSetMutationsSaid : Prop := sdtSetMutationsRow.holds Tryd.pinned (OpenSpec.ofChange sdtSetMutationsSpec)

/-- ITS FALSE NEIGHBOUR: 'it returns false'. Refute it at one input. -/
def sdtSetMutationsWrong : ChangeSpec := { name := "sdtSetMutations", fn := fun _ => fun
  | [d1, d2, d3, d4, d5] => { results := [.lit (.bool false)], args := [d1, d2, d3, d4, d5] }
  | _ => none }
def SdtSetMutationsWrongFalsely : Prop := sdtSetMutationsRow.holds Tryd.pinned (OpenSpec.ofChange sdtSetMutationsWrong)

/-- 'platformfwlaw07.SdtSets': WHATEVER THE INPUT: true; the input reads as it did. -/
def sdtSetsSpec : ChangeSpec := { name := "sdtSets", fn := fun _ => fun
  | [d] => { results := [.lit (.bool true)], args := [d] }
  | _ => none }
def sdtSetsRow : OpenClaim := { program := "ytmkemodgbhaglaadoor", sum := "a893e6919d7759d94bbe71825b264664c9abfbdae28ae7a99af5b9d2a7ab27b9", func := "platformfw/platformfwlaw07.SdtSets", spec := "sdtSets", inPlace := ["internal/bytealg.IndexByteString", "internal/bytealg.IndexString"], named := ["unicode/utf8.first", "unicode/utf8.acceptRanges", "internal/bytealg.MaxLen"], apart := false, laid := [("unicode/utf8.acceptRanges", laid_unicode_utf8_acceptRanges), ("unicode/utf8.first", laid_unicode_utf8_first)] }
def SdtSetsSaid : Prop := sdtSetsRow.holds Tryd.pinned (OpenSpec.ofChange sdtSetsSpec)

/-- ITS FALSE NEIGHBOUR: 'it returns false'. Refute it at one input. -/
def sdtSetsWrong : ChangeSpec := { name := "sdtSets", fn := fun _ => fun
  | [d] => { results := [.lit (.bool false)], args := [d] }
  | _ => none }
def SdtSetsWrongFalsely : Prop := sdtSetsRow.holds Tryd.pinned (OpenSpec.ofChange sdtSetsWrong)

/- THE SECOND FORM. 'bulk': how many values and letters a reading holds, each counted each time it is reached (what is shared counts as often as it is met; a slice's spare places count too). A statement '..UptoSaid' is the law's where the arguments, and the package variables that the reading takes, are together of bulk at most 1048576: NARROWER than '..Said'. Prove '..Said' where nothing that the law and all that it calls make is longer than what came in: it says more and counts as full. Else prove '..UptoSaid'. A law counts once. -/
mutual
def uptoBulk {H : Type} : DataW H → Nat
  | .lit (.string bytes) => bytes.length + 1
  | .lit _ => 1
  | .nil => 1
  | .ptr d => uptoBulk d + 1
  | .slice elems spare => uptoBulkAll elems + uptoBulkAll spare + 1
  | .agg parts => uptoBulkAll parts + 1
  | .iface _ d => uptoBulk d + 1
  | .map entries => uptoBulkEntries entries + 1
  | .held _ => 1
def uptoBulkAll {H : Type} : List (DataW H) → Nat
  | [] => 0
  | d :: r => uptoBulk d + uptoBulkAll r
def uptoBulkEntries {H : Type} : List (Lit × DataW H) → Nat
  | [] => 0
  | x :: r => uptoBulkEntry x + uptoBulkEntries r
def uptoBulkEntry {H : Type} : Lit × DataW H → Nat
  | (.string bytes, d) => bytes.length + uptoBulk d + 1
  | (_, d) => uptoBulk d + 1
 end
def uptoSmall : (H : Type) → List (DataW H) → Bool := fun _ ds => decide (uptoBulkAll ds ≤ 1048576)
def OpenSpec.upto (s : _root_.Go.ChangeSpec) : _root_.Go.OpenSpec := { _root_.Go.OpenSpec.ofChange s with cond := some uptoSmall }

/-- 'platformfwlaw07.SdtEncodes', WHERE WHAT IT READS IS OF BULK AT MOST 1048576: true; the input reads as it did. -/
def sdtEncodesUptoRow : OpenClaim := { program := "ytmkemodgbhaglaadoor", sum := "a893e6919d7759d94bbe71825b264664c9abfbdae28ae7a99af5b9d2a7ab27b9", func := "platformfw/platformfwlaw07.SdtEncodes", spec := "sdtEncodes", inPlace := ["internal/bytealg.IndexByteString", "internal/bytealg.IndexString"], named := ["unicode/utf8.first", "unicode/utf8.acceptRanges", "internal/bytealg.MaxLen"], apart := false, laid := [("unicode/utf8.acceptRanges", laid_unicode_utf8_acceptRanges), ("unicode/utf8.first", laid_unicode_utf8_first)], narrowed := true }
def SdtEncodesUptoSaid : Prop := sdtEncodesUptoRow.holds Tryd.pinned (OpenSpec.upto sdtEncodesSpec)

/-- 'platformfwlaw07.SdtRoundTrip', WHERE WHAT IT READS IS OF BULK AT MOST 1048576: true; the input reads as it did. -/
def sdtRoundTripUptoRow : OpenClaim := { program := "ytmkemodgbhaglaadoor", sum := "a893e6919d7759d94bbe71825b264664c9abfbdae28ae7a99af5b9d2a7ab27b9", func := "platformfw/platformfwlaw07.SdtRoundTrip", spec := "sdtRoundTrip", inPlace := ["internal/bytealg.IndexByteString", "internal/bytealg.IndexString"], named := ["unicode/utf8.first", "unicode/utf8.acceptRanges", "internal/bytealg.MaxLen"], apart := false, laid := [("unicode/utf8.acceptRanges", laid_unicode_utf8_acceptRanges), ("unicode/utf8.first", laid_unicode_utf8_first)], narrowed := true }
def SdtRoundTripUptoSaid : Prop := sdtRoundTripUptoRow.holds Tryd.pinned (OpenSpec.upto sdtRoundTripSpec)

/-- 'platformfwlaw07.SdtDetectsChanges', WHERE WHAT IT READS IS OF BULK AT MOST 1048576: true; the input reads as it did. -/
def sdtDetectsChangesUptoRow : OpenClaim := { program := "ytmkemodgbhaglaadoor", sum := "a893e6919d7759d94bbe71825b264664c9abfbdae28ae7a99af5b9d2a7ab27b9", func := "platformfw/platformfwlaw07.SdtDetectsChanges", spec := "sdtDetectsChanges", inPlace := ["internal/bytealg.IndexByteString", "internal/bytealg.IndexString"], named := ["unicode/utf8.first", "unicode/utf8.acceptRanges", "internal/bytealg.MaxLen"], apart := false, laid := [("unicode/utf8.acceptRanges", laid_unicode_utf8_acceptRanges), ("unicode/utf8.first", laid_unicode_utf8_first)], narrowed := true }
def SdtDetectsChangesUptoSaid : Prop := sdtDetectsChangesUptoRow.holds Tryd.pinned (OpenSpec.upto sdtDetectsChangesSpec)

/-- 'platformfwlaw07.SdtDecodes', WHERE WHAT IT READS IS OF BULK AT MOST 1048576: true; the input reads as it did. -/
def sdtDecodesUptoRow : OpenClaim := { program := "ytmkemodgbhaglaadoor", sum := "a893e6919d7759d94bbe71825b264664c9abfbdae28ae7a99af5b9d2a7ab27b9", func := "platformfw/platformfwlaw07.SdtDecodes", spec := "sdtDecodes", inPlace := ["internal/bytealg.IndexByteString", "internal/bytealg.IndexString"], named := ["unicode/utf8.first", "unicode/utf8.acceptRanges", "internal/bytealg.MaxLen"], apart := false, laid := [("unicode/utf8.acceptRanges", laid_unicode_utf8_acceptRanges), ("unicode/utf8.first", laid_unicode_utf8_first)], narrowed := true }
def SdtDecodesUptoSaid : Prop := sdtDecodesUptoRow.holds Tryd.pinned (OpenSpec.upto sdtDecodesSpec)

/-- 'platformfwlaw07.SdtSetMutations', WHERE WHAT IT READS IS OF BULK AT MOST 1048576: true; the input reads as it did. -/
def sdtSetMutationsUptoRow : OpenClaim := { program := "ytmkemodgbhaglaadoor", sum := "a893e6919d7759d94bbe71825b264664c9abfbdae28ae7a99af5b9d2a7ab27b9", func := "platformfw/platformfwlaw07.SdtSetMutations", spec := "sdtSetMutations", inPlace := ["internal/bytealg.IndexByteString", "internal/bytealg.IndexString"], named := ["unicode/utf8.first", "unicode/utf8.acceptRanges", "internal/bytealg.MaxLen"], apart := false, laid := [("unicode/utf8.acceptRanges", laid_unicode_utf8_acceptRanges), ("unicode/utf8.first", laid_unicode_utf8_first)], narrowed := true }
def SdtSetMutationsUptoSaid : Prop := sdtSetMutationsUptoRow.holds Tryd.pinned (OpenSpec.upto sdtSetMutationsSpec)

/-- 'platformfwlaw07.SdtSets', WHERE WHAT IT READS IS OF BULK AT MOST 1048576: true; the input reads as it did. -/
def sdtSetsUptoRow : OpenClaim := { program := "ytmkemodgbhaglaadoor", sum := "a893e6919d7759d94bbe71825b264664c9abfbdae28ae7a99af5b9d2a7ab27b9", func := "platformfw/platformfwlaw07.SdtSets", spec := "sdtSets", inPlace := ["internal/bytealg.IndexByteString", "internal/bytealg.IndexString"], named := ["unicode/utf8.first", "unicode/utf8.acceptRanges", "internal/bytealg.MaxLen"], apart := false, laid := [("unicode/utf8.acceptRanges", laid_unicode_utf8_acceptRanges), ("unicode/utf8.first", laid_unicode_utf8_first)], narrowed := true }
def SdtSetsUptoSaid : Prop := sdtSetsUptoRow.holds Tryd.pinned (OpenSpec.upto sdtSetsSpec)

end Rows
end Go.Proofs.YtmkemodgbhaglaaDoor
