/-
  NARROWER THAN 'FOR EVERY INPUT', by the rows' own cells (each row's printed sentence says how): LowerMatchesModel: laid · LowerCodeIsConsistent: laid · LowerEffects: laid · LowerDoesNotAlias: laid.
  DERIVED. THE GIVEN ROWS OF THIS SEAT. 4 by the template 'for every input the law returns true; each argument reads behind the call as it read before'; 0 by the template 'total and deterministic' (their statements: YtbokilgdefkmiaaGreatDoorTotals.lean).
  GIVEN WITH THE SEED: the statements are not yours to turn. If you find one false, say at which input.
  Laid BY PROGRAM, IN A SANDBOX (cutbox-rows.mjs): the forced cells as the released guide's own fill.sh prints them over the translation 265f35b1dc2e3242… (all of the seat's roots in one cut). By AI agents, Wed Nov 11 2026. No macro, syntax, notation, axiom, sorry.
-/
import Derived.Test.YtbokilgdefkmiaaGreatDoorChecked
import GoSem.PinnedTables
import GoSem.Claim
import GoSem.ClaimJoined
import GoSem.ClaimMapViews
import Derived.JoinedTies
import Derived.KernelRfl
namespace Go.Proofs.YtbokilgdefkmiaaGreatDoor
/- THE CELL 'sum', in the pinned program and in every row, IS THE sha256 OF THE DUMP (.gsa) THAT YtbokilgdefkmiaaGreatDoorProg.lean LOADS. Nothing in Lean hashes anything: it is a label: what it is worth is what the hold of that sum in a sandbox is worth. -/
noncomputable def Tryz.pinned : Pinned := { name := "ytbokilgdefkmiaagreatdoor", sum := "265f35b1dc2e3242f218230dccada376adcde11c27a6517191f792c49672dc1e", checked := Tryz.checked }
namespace Rows
def none {H : Type} : Left H := { results := [], args := [] }

/- WHAT THE LISTED PACKAGE-LEVEL VARIABLES READ AS WHEN THE CALL BEGINS. Each datum BY PROGRAM (the guide's laid-datum.mjs) off the statement by which the dump's own 'gosem.cut.vars' lays the variable. In a bare row this is a premise. The card (YtbokilgdefkmiaaGreatDoorCards.lean) ties it to the program's text. -/
def laid_unicode_utf8_acceptRanges {H : Type} : DataW H := .agg [.agg [.lit (.int .u8 128), .lit (.int .u8 191)], .agg [.lit (.int .u8 160), .lit (.int .u8 191)], .agg [.lit (.int .u8 128), .lit (.int .u8 159)], .agg [.lit (.int .u8 144), .lit (.int .u8 191)], .agg [.lit (.int .u8 128), .lit (.int .u8 143)], .agg [.lit (.int .u8 0), .lit (.int .u8 0)], .agg [.lit (.int .u8 0), .lit (.int .u8 0)], .agg [.lit (.int .u8 0), .lit (.int .u8 0)], .agg [.lit (.int .u8 0), .lit (.int .u8 0)], .agg [.lit (.int .u8 0), .lit (.int .u8 0)], .agg [.lit (.int .u8 0), .lit (.int .u8 0)], .agg [.lit (.int .u8 0), .lit (.int .u8 0)], .agg [.lit (.int .u8 0), .lit (.int .u8 0)], .agg [.lit (.int .u8 0), .lit (.int .u8 0)], .agg [.lit (.int .u8 0), .lit (.int .u8 0)], .agg [.lit (.int .u8 0), .lit (.int .u8 0)]]
def laid_platformfw_syntax_declarationForms {H : Type} : DataW H := .agg [.agg [.lit (.string [83, 99, 111, 112, 101]), .lit (.string [110, 68])], .agg [.lit (.string [68, 101, 118, 105, 99, 101]), .lit (.string [115, 68])], .agg [.lit (.string [80, 111, 119, 101, 114, 82, 101, 115, 111, 117, 114, 99, 101]), .lit (.string [115, 105, 105, 68])], .agg [.lit (.string [78, 97, 109, 101]), .lit (.string [115, 100])], .agg [.lit (.string [77, 101, 116, 104, 111, 100]), .lit (.string [115, 105, 105, 105, 83])], .agg [.lit (.string [79, 112, 101, 114, 97, 116, 105, 111, 110, 82, 101, 103, 105, 111, 110]), .lit (.string [115, 105, 105, 105])], .agg [.lit (.string [70, 105, 101, 108, 100]), .lit (.string [110, 105, 105, 70])], .agg [.lit (.string [73, 110, 100, 101, 120, 70, 105, 101, 108, 100]), .lit (.string [110, 110, 105, 105, 70])], .agg [.lit (.string [85, 110, 105, 116]), .lit (.string [115, 105])], .agg [.lit (.string [83, 107, 105, 112]), .lit (.string [105])], .agg [.lit (.string [77, 117, 116, 101, 120]), .lit (.string [115, 105])], .agg [.lit (.string [69, 118, 101, 110, 116]), .lit (.string [115])]]
def laid_platformfw_syntax_statementForms {H : Type} : DataW H := .agg [.agg [.lit (.string [83, 116, 111, 114, 101]), .lit (.string [101, 116])], .agg [.lit (.string [73, 102]), .lit (.string [101, 83])], .agg [.lit (.string [87, 104, 105, 108, 101]), .lit (.string [101, 83])], .agg [.lit (.string [82, 101, 116, 117, 114, 110]), .lit (.string [])], .agg [.lit (.string [66, 114, 101, 97, 107]), .lit (.string [])], .agg [.lit (.string [67, 111, 110, 116, 105, 110, 117, 101]), .lit (.string [])], .agg [.lit (.string [82, 101, 108, 101, 97, 115, 101]), .lit (.string [110])], .agg [.lit (.string [83, 105, 103, 110, 97, 108]), .lit (.string [110])], .agg [.lit (.string [82, 101, 115, 101, 116]), .lit (.string [110])], .agg [.lit (.string [83, 108, 101, 101, 112]), .lit (.string [101])], .agg [.lit (.string [78, 111, 116, 105, 102, 121]), .lit (.string [110, 101])], .agg [.lit (.string [65, 99, 113, 117, 105, 114, 101]), .lit (.string [110, 105])], .agg [.lit (.string [87, 97, 105, 116]), .lit (.string [110, 101])]]
def laid_platformfw_syntax_expressionForms {H : Type} : DataW H := .agg [.agg [.lit (.string [65, 100, 100]), .lit (.string [101, 101])], .agg [.lit (.string [83, 117, 98, 116, 114, 97, 99, 116]), .lit (.string [101, 101])], .agg [.lit (.string [77, 117, 108, 116, 105, 112, 108, 121]), .lit (.string [101, 101])], .agg [.lit (.string [68, 105, 118, 105, 100, 101]), .lit (.string [101, 101])], .agg [.lit (.string [77, 111, 100]), .lit (.string [101, 101])], .agg [.lit (.string [65, 110, 100]), .lit (.string [101, 101])], .agg [.lit (.string [79, 114]), .lit (.string [101, 101])], .agg [.lit (.string [88, 111, 114]), .lit (.string [101, 101])], .agg [.lit (.string [83, 104, 105, 102, 116, 76, 101, 102, 116]), .lit (.string [101, 101])], .agg [.lit (.string [83, 104, 105, 102, 116, 82, 105, 103, 104, 116]), .lit (.string [101, 101])], .agg [.lit (.string [76, 65, 110, 100]), .lit (.string [101, 101])], .agg [.lit (.string [76, 79, 114]), .lit (.string [101, 101])], .agg [.lit (.string [76, 69, 113, 117, 97, 108]), .lit (.string [101, 101])], .agg [.lit (.string [76, 76, 101, 115, 115]), .lit (.string [101, 101])], .agg [.lit (.string [76, 71, 114, 101, 97, 116, 101, 114]), .lit (.string [101, 101])], .agg [.lit (.string [67, 111, 110, 99, 97, 116, 101, 110, 97, 116, 101]), .lit (.string [101, 101])], .agg [.lit (.string [73, 110, 100, 101, 120]), .lit (.string [101, 101])], .agg [.lit (.string [78, 111, 116]), .lit (.string [101])], .agg [.lit (.string [76, 78, 111, 116]), .lit (.string [101])], .agg [.lit (.string [83, 105, 122, 101, 79, 102]), .lit (.string [101])], .agg [.lit (.string [84, 111, 73, 110, 116, 101, 103, 101, 114]), .lit (.string [101])], .agg [.lit (.string [84, 111, 66, 117, 102, 102, 101, 114]), .lit (.string [101])], .agg [.lit (.string [84, 111, 72, 101, 120, 83, 116, 114, 105, 110, 103]), .lit (.string [101])], .agg [.lit (.string [84, 111, 68, 101, 99, 105, 109, 97, 108, 83, 116, 114, 105, 110, 103]), .lit (.string [101])], .agg [.lit (.string [68, 101, 114, 101, 102, 79, 102]), .lit (.string [101])], .agg [.lit (.string [82, 101, 102, 79, 102]), .lit (.string [116])], .agg [.lit (.string [67, 111, 110, 100, 82, 101, 102, 79, 102]), .lit (.string [110])], .agg [.lit (.string [79, 98, 106, 101, 99, 116, 84, 121, 112, 101]), .lit (.string [116])], .agg [.lit (.string [77, 105, 100]), .lit (.string [101, 101, 101])]]
/-- One of Go's own tables, pinned by name: the form's constant. -/
def laid_unicode_utf8_first : DataW Unit := Go.Pinned.utf8First

/-- 'platformfwlaw14.LowerMatchesModel': WHATEVER THE INPUT: true; the input reads as it did. -/
def lowerMatchesModelSpec : ChangeSpec := { name := "lowerMatchesModel", fn := fun _ => fun
  | [d1, d2, d3, d4] => { results := [.lit (.bool true)], args := [d1, d2, d3, d4] }
  | _ => none }
def lowerMatchesModelRow : OpenClaim := { program := "ytbokilgdefkmiaagreatdoor", sum := "265f35b1dc2e3242f218230dccada376adcde11c27a6517191f792c49672dc1e", func := "platformfw/platformfwlaw14.LowerMatchesModel", spec := "lowerMatchesModel", inPlace := ["internal/bytealg.CountString", "internal/bytealg.IndexByteString", "internal/bytealg.IndexString", "internal/abi.NoEscape", "internal/bytealg.MakeNoZero"], unfollowed := true, recurses := true, named := ["internal/bytealg.MaxLen", "unicode/utf8.first", "unicode/utf8.acceptRanges", "platformfw/syntax.declarationForms", "platformfw/syntax.statementForms", "platformfw/syntax.expressionForms"], apart := false, laid := [("unicode/utf8.acceptRanges", laid_unicode_utf8_acceptRanges), ("platformfw/syntax.declarationForms", laid_platformfw_syntax_declarationForms), ("platformfw/syntax.statementForms", laid_platformfw_syntax_statementForms), ("platformfw/syntax.expressionForms", laid_platformfw_syntax_expressionForms), ("unicode/utf8.first", laid_unicode_utf8_first)] }
def LowerMatchesModelSaid : Prop := lowerMatchesModelRow.holds Tryz.pinned (OpenSpec.ofChange lowerMatchesModelSpec)

/-- ITS FALSE NEIGHBOUR: 'it returns false'. Refute it at one input. -/
def lowerMatchesModelWrong : ChangeSpec := { name := "lowerMatchesModel", fn := fun _ => fun
  | [d1, d2, d3, d4] => { results := [.lit (.bool false)], args := [d1, d2, d3, d4] }
  | _ => none }
def LowerMatchesModelWrongFalsely : Prop := lowerMatchesModelRow.holds Tryz.pinned (OpenSpec.ofChange lowerMatchesModelWrong)

/-- 'platformfwlaw14.LowerCodeIsConsistent': WHATEVER THE INPUT: true; the input reads as it did. -/
def lowerCodeIsConsistentSpec : ChangeSpec := { name := "lowerCodeIsConsistent", fn := fun _ => fun
  | [d] => { results := [.lit (.bool true)], args := [d] }
  | _ => none }
def lowerCodeIsConsistentRow : OpenClaim := { program := "ytbokilgdefkmiaagreatdoor", sum := "265f35b1dc2e3242f218230dccada376adcde11c27a6517191f792c49672dc1e", func := "platformfw/platformfwlaw14.LowerCodeIsConsistent", spec := "lowerCodeIsConsistent", inPlace := ["internal/bytealg.CountString", "internal/bytealg.IndexByteString", "internal/bytealg.IndexString", "internal/abi.NoEscape", "internal/bytealg.MakeNoZero"], unfollowed := true, recurses := true, named := ["internal/bytealg.MaxLen", "unicode/utf8.first", "unicode/utf8.acceptRanges", "platformfw/syntax.declarationForms", "platformfw/syntax.statementForms", "platformfw/syntax.expressionForms"], apart := false, laid := [("unicode/utf8.acceptRanges", laid_unicode_utf8_acceptRanges), ("platformfw/syntax.declarationForms", laid_platformfw_syntax_declarationForms), ("platformfw/syntax.statementForms", laid_platformfw_syntax_statementForms), ("platformfw/syntax.expressionForms", laid_platformfw_syntax_expressionForms), ("unicode/utf8.first", laid_unicode_utf8_first)] }
def LowerCodeIsConsistentSaid : Prop := lowerCodeIsConsistentRow.holds Tryz.pinned (OpenSpec.ofChange lowerCodeIsConsistentSpec)

/-- ITS FALSE NEIGHBOUR: 'it returns false'. Refute it at one input. -/
def lowerCodeIsConsistentWrong : ChangeSpec := { name := "lowerCodeIsConsistent", fn := fun _ => fun
  | [d] => { results := [.lit (.bool false)], args := [d] }
  | _ => none }
def LowerCodeIsConsistentWrongFalsely : Prop := lowerCodeIsConsistentRow.holds Tryz.pinned (OpenSpec.ofChange lowerCodeIsConsistentWrong)

/-- 'platformfwlaw14.LowerEffects': WHATEVER THE INPUT: true; the input reads as it did. -/
def lowerEffectsSpec : ChangeSpec := { name := "lowerEffects", fn := fun _ => fun
  | [d] => { results := [.lit (.bool true)], args := [d] }
  | _ => none }
def lowerEffectsRow : OpenClaim := { program := "ytbokilgdefkmiaagreatdoor", sum := "265f35b1dc2e3242f218230dccada376adcde11c27a6517191f792c49672dc1e", func := "platformfw/platformfwlaw14.LowerEffects", spec := "lowerEffects", inPlace := ["internal/bytealg.CountString", "internal/bytealg.IndexByteString", "internal/bytealg.IndexString", "internal/abi.NoEscape", "internal/bytealg.MakeNoZero"], unfollowed := true, recurses := true, named := ["internal/bytealg.MaxLen", "unicode/utf8.first", "unicode/utf8.acceptRanges", "platformfw/syntax.declarationForms", "platformfw/syntax.statementForms", "platformfw/syntax.expressionForms"], apart := false, laid := [("unicode/utf8.acceptRanges", laid_unicode_utf8_acceptRanges), ("platformfw/syntax.declarationForms", laid_platformfw_syntax_declarationForms), ("platformfw/syntax.statementForms", laid_platformfw_syntax_statementForms), ("platformfw/syntax.expressionForms", laid_platformfw_syntax_expressionForms), ("unicode/utf8.first", laid_unicode_utf8_first)] }
def LowerEffectsSaid : Prop := lowerEffectsRow.holds Tryz.pinned (OpenSpec.ofChange lowerEffectsSpec)

/-- ITS FALSE NEIGHBOUR: 'it returns false'. Refute it at one input. -/
def lowerEffectsWrong : ChangeSpec := { name := "lowerEffects", fn := fun _ => fun
  | [d] => { results := [.lit (.bool false)], args := [d] }
  | _ => none }
def LowerEffectsWrongFalsely : Prop := lowerEffectsRow.holds Tryz.pinned (OpenSpec.ofChange lowerEffectsWrong)

/-- 'platformfwlaw14.LowerDoesNotAlias': WHATEVER THE INPUT: true; the input reads as it did. -/
def lowerDoesNotAliasSpec : ChangeSpec := { name := "lowerDoesNotAlias", fn := fun _ => fun
  | [d] => { results := [.lit (.bool true)], args := [d] }
  | _ => none }
def lowerDoesNotAliasRow : OpenClaim := { program := "ytbokilgdefkmiaagreatdoor", sum := "265f35b1dc2e3242f218230dccada376adcde11c27a6517191f792c49672dc1e", func := "platformfw/platformfwlaw14.LowerDoesNotAlias", spec := "lowerDoesNotAlias", inPlace := ["internal/bytealg.CountString", "internal/bytealg.IndexByteString", "internal/bytealg.IndexString", "internal/abi.NoEscape", "internal/bytealg.MakeNoZero"], unfollowed := true, recurses := true, named := ["internal/bytealg.MaxLen", "unicode/utf8.first", "unicode/utf8.acceptRanges", "platformfw/syntax.declarationForms", "platformfw/syntax.statementForms", "platformfw/syntax.expressionForms"], apart := false, laid := [("unicode/utf8.acceptRanges", laid_unicode_utf8_acceptRanges), ("platformfw/syntax.declarationForms", laid_platformfw_syntax_declarationForms), ("platformfw/syntax.statementForms", laid_platformfw_syntax_statementForms), ("platformfw/syntax.expressionForms", laid_platformfw_syntax_expressionForms), ("unicode/utf8.first", laid_unicode_utf8_first)] }
def LowerDoesNotAliasSaid : Prop := lowerDoesNotAliasRow.holds Tryz.pinned (OpenSpec.ofChange lowerDoesNotAliasSpec)

/-- ITS FALSE NEIGHBOUR: 'it returns false'. Refute it at one input. -/
def lowerDoesNotAliasWrong : ChangeSpec := { name := "lowerDoesNotAlias", fn := fun _ => fun
  | [d] => { results := [.lit (.bool false)], args := [d] }
  | _ => none }
def LowerDoesNotAliasWrongFalsely : Prop := lowerDoesNotAliasRow.holds Tryz.pinned (OpenSpec.ofChange lowerDoesNotAliasWrong)

/- THE SECOND FORM. 'bulk': how many values and letters a reading holds, each counted each time it is reached (what is shared counts as often as it is met; a slice's spare places count too). A statement '..UptoSaid' is the law's where the arguments, and the package variables that the reading takes, are together of bulk at most 1048576: NARROWER than '..Said'. Prove '..Said' where nothing that the law and all that it calls make is longer than what came in: it says more and counts as full. Else prove '..UptoSaid'. A law counts once. -/
mutual
def uptoBulk {H : Type} : DataW H → Nat
  | .lit (.string bytes) => bytes.length + 1
  | .lit _ => 1
  | .nil => 1
  | .ptr d => uptoBulk d + 1
  | .slice elems spare => uptoBulkAll elems + uptoBulkAll spare + 1
  | .agg parts => uptoBulkAll parts + 1
  | .iface _ d => uptoBulk d + 1
  | .map entries => uptoBulkEntries entries + 1
  | .held _ => 1
def uptoBulkAll {H : Type} : List (DataW H) → Nat
  | [] => 0
  | d :: r => uptoBulk d + uptoBulkAll r
def uptoBulkEntries {H : Type} : List (Lit × DataW H) → Nat
  | [] => 0
  | x :: r => uptoBulkEntry x + uptoBulkEntries r
def uptoBulkEntry {H : Type} : Lit × DataW H → Nat
  | (.string bytes, d) => bytes.length + uptoBulk d + 1
  | (_, d) => uptoBulk d + 1
 end
def uptoSmall : (H : Type) → List (DataW H) → Bool := fun _ ds => decide (uptoBulkAll ds ≤ 1048576)
def OpenSpec.upto (s : _root_.Go.ChangeSpec) : _root_.Go.OpenSpec := { _root_.Go.OpenSpec.ofChange s with cond := some uptoSmall }

/-- 'platformfwlaw14.LowerMatchesModel', WHERE WHAT IT READS IS OF BULK AT MOST 1048576: true; the input reads as it did. -/
def lowerMatchesModelUptoRow : OpenClaim := { program := "ytbokilgdefkmiaagreatdoor", sum := "265f35b1dc2e3242f218230dccada376adcde11c27a6517191f792c49672dc1e", func := "platformfw/platformfwlaw14.LowerMatchesModel", spec := "lowerMatchesModel", inPlace := ["internal/bytealg.CountString", "internal/bytealg.IndexByteString", "internal/bytealg.IndexString", "internal/abi.NoEscape", "internal/bytealg.MakeNoZero"], unfollowed := true, recurses := true, named := ["internal/bytealg.MaxLen", "unicode/utf8.first", "unicode/utf8.acceptRanges", "platformfw/syntax.declarationForms", "platformfw/syntax.statementForms", "platformfw/syntax.expressionForms"], apart := false, laid := [("unicode/utf8.acceptRanges", laid_unicode_utf8_acceptRanges), ("platformfw/syntax.declarationForms", laid_platformfw_syntax_declarationForms), ("platformfw/syntax.statementForms", laid_platformfw_syntax_statementForms), ("platformfw/syntax.expressionForms", laid_platformfw_syntax_expressionForms), ("unicode/utf8.first", laid_unicode_utf8_first)], narrowed := true }
def LowerMatchesModelUptoSaid : Prop := lowerMatchesModelUptoRow.holds Tryz.pinned (OpenSpec.upto lowerMatchesModelSpec)

/-- 'platformfwlaw14.LowerCodeIsConsistent', WHERE WHAT IT READS IS OF BULK AT MOST 1048576: true; the input reads as it did. -/
def lowerCodeIsConsistentUptoRow : OpenClaim := { program := "ytbokilgdefkmiaagreatdoor", sum := "265f35b1dc2e3242f218230dccada376adcde11c27a6517191f792c49672dc1e", func := "platformfw/platformfwlaw14.LowerCodeIsConsistent", spec := "lowerCodeIsConsistent", inPlace := ["internal/bytealg.CountString", "internal/bytealg.IndexByteString", "internal/bytealg.IndexString", "internal/abi.NoEscape", "internal/bytealg.MakeNoZero"], unfollowed := true, recurses := true, named := ["internal/bytealg.MaxLen", "unicode/utf8.first", "unicode/utf8.acceptRanges", "platformfw/syntax.declarationForms", "platformfw/syntax.statementForms", "platformfw/syntax.expressionForms"], apart := false, laid := [("unicode/utf8.acceptRanges", laid_unicode_utf8_acceptRanges), ("platformfw/syntax.declarationForms", laid_platformfw_syntax_declarationForms), ("platformfw/syntax.statementForms", laid_platformfw_syntax_statementForms), ("platformfw/syntax.expressionForms", laid_platformfw_syntax_expressionForms), ("unicode/utf8.first", laid_unicode_utf8_first)], narrowed := true }
def LowerCodeIsConsistentUptoSaid : Prop := lowerCodeIsConsistentUptoRow.holds Tryz.pinned (OpenSpec.upto lowerCodeIsConsistentSpec)

/-- 'platformfwlaw14.LowerEffects', WHERE WHAT IT READS IS OF BULK AT MOST 1048576: true; the input reads as it did. -/
def lowerEffectsUptoRow : OpenClaim := { program := "ytbokilgdefkmiaagreatdoor", sum := "265f35b1dc2e3242f218230dccada376adcde11c27a6517191f792c49672dc1e", func := "platformfw/platformfwlaw14.LowerEffects", spec := "lowerEffects", inPlace := ["internal/bytealg.CountString", "internal/bytealg.IndexByteString", "internal/bytealg.IndexString", "internal/abi.NoEscape", "internal/bytealg.MakeNoZero"], unfollowed := true, recurses := true, named := ["internal/bytealg.MaxLen", "unicode/utf8.first", "unicode/utf8.acceptRanges", "platformfw/syntax.declarationForms", "platformfw/syntax.statementForms", "platformfw/syntax.expressionForms"], apart := false, laid := [("unicode/utf8.acceptRanges", laid_unicode_utf8_acceptRanges), ("platformfw/syntax.declarationForms", laid_platformfw_syntax_declarationForms), ("platformfw/syntax.statementForms", laid_platformfw_syntax_statementForms), ("platformfw/syntax.expressionForms", laid_platformfw_syntax_expressionForms), ("unicode/utf8.first", laid_unicode_utf8_first)], narrowed := true }
def LowerEffectsUptoSaid : Prop := lowerEffectsUptoRow.holds Tryz.pinned (OpenSpec.upto lowerEffectsSpec)

/-- 'platformfwlaw14.LowerDoesNotAlias', WHERE WHAT IT READS IS OF BULK AT MOST 1048576: true; the input reads as it did. -/
def lowerDoesNotAliasUptoRow : OpenClaim := { program := "ytbokilgdefkmiaagreatdoor", sum := "265f35b1dc2e3242f218230dccada376adcde11c27a6517191f792c49672dc1e", func := "platformfw/platformfwlaw14.LowerDoesNotAlias", spec := "lowerDoesNotAlias", inPlace := ["internal/bytealg.CountString", "internal/bytealg.IndexByteString", "internal/bytealg.IndexString", "internal/abi.NoEscape", "internal/bytealg.MakeNoZero"], unfollowed := true, recurses := true, named := ["internal/bytealg.MaxLen", "unicode/utf8.first", "unicode/utf8.acceptRanges", "platformfw/syntax.declarationForms", "platformfw/syntax.statementForms", "platformfw/syntax.expressionForms"], apart := false, laid := [("unicode/utf8.acceptRanges", laid_unicode_utf8_acceptRanges), ("platformfw/syntax.declarationForms", laid_platformfw_syntax_declarationForms), ("platformfw/syntax.statementForms", laid_platformfw_syntax_statementForms), ("platformfw/syntax.expressionForms", laid_platformfw_syntax_expressionForms), ("unicode/utf8.first", laid_unicode_utf8_first)], narrowed := true }
def LowerDoesNotAliasUptoSaid : Prop := lowerDoesNotAliasUptoRow.holds Tryz.pinned (OpenSpec.upto lowerDoesNotAliasSpec)

end Rows
end Go.Proofs.YtbokilgdefkmiaaGreatDoor
