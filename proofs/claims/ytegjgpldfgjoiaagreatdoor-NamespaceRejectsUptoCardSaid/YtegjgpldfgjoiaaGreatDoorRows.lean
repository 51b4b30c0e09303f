/-
  NARROWER THAN 'FOR EVERY INPUT', by the rows' own cells (each row's printed sentence says how): NamespaceLooksUp: laid · NamespaceDeclarations: laid · NamespacePathsUnique: laid · NamespaceDoesNotAlias: laid · NamespaceRejects: laid · NamespaceUnloadRestores: laid · NamespaceMatchesModel: laid.
  DERIVED. THE GIVEN ROWS OF THIS SEAT. 7 by the template 'for every input the law returns true; each argument reads behind the call as it read before'; 0 by the template 'total and deterministic' (their statements: YtegjgpldfgjoiaaGreatDoorTotals.lean).
  GIVEN WITH THE SEED: the statements are not yours to turn. If you find one false, say at which input.
  Laid BY PROGRAM, IN A SANDBOX (cutbox-rows.mjs): the forced cells as the released guide's own fill.sh prints them over the translation 93d8952ce5e715f6… (all of the seat's roots in one cut). By AI agents, Wed Nov 11 2026. No macro, syntax, notation, axiom, sorry.
-/
import Derived.Test.YtegjgpldfgjoiaaGreatDoorChecked
import GoSem.PinnedTables
import GoSem.Claim
import GoSem.ClaimJoined
import GoSem.ClaimMapViews
import Derived.JoinedTies
import Derived.KernelRfl
namespace Go.Proofs.YtegjgpldfgjoiaaGreatDoor
/- THE CELL 'sum', in the pinned program and in every row, IS THE sha256 OF THE DUMP (.gsa) THAT YtegjgpldfgjoiaaGreatDoorProg.lean LOADS. Nothing in Lean hashes anything: it is a label: what it is worth is what the hold of that sum in a sandbox is worth. -/
noncomputable def Tryz.pinned : Pinned := { name := "ytegjgpldfgjoiaagreatdoor", sum := "93d8952ce5e715f61878fe2bea400c0679466f8d94734ce63d8d93a4ddc597c0", checked := Tryz.checked }
namespace Rows
def none {H : Type} : Left H := { results := [], args := [] }

/- WHAT THE LISTED PACKAGE-LEVEL VARIABLES READ AS WHEN THE CALL BEGINS. Each datum BY PROGRAM (the guide's laid-datum.mjs) off the statement by which the dump's own 'gosem.cut.vars' lays the variable. In a bare row this is a premise. The card (YtegjgpldfgjoiaaGreatDoorCards.lean) ties it to the program's text. -/
def laid_unicode_utf8_acceptRanges {H : Type} : DataW H := .agg [.agg [.lit (.int .u8 128), .lit (.int .u8 191)], .agg [.lit (.int .u8 160), .lit (.int .u8 191)], .agg [.lit (.int .u8 128), .lit (.int .u8 159)], .agg [.lit (.int .u8 144), .lit (.int .u8 191)], .agg [.lit (.int .u8 128), .lit (.int .u8 143)], .agg [.lit (.int .u8 0), .lit (.int .u8 0)], .agg [.lit (.int .u8 0), .lit (.int .u8 0)], .agg [.lit (.int .u8 0), .lit (.int .u8 0)], .agg [.lit (.int .u8 0), .lit (.int .u8 0)], .agg [.lit (.int .u8 0), .lit (.int .u8 0)], .agg [.lit (.int .u8 0), .lit (.int .u8 0)], .agg [.lit (.int .u8 0), .lit (.int .u8 0)], .agg [.lit (.int .u8 0), .lit (.int .u8 0)], .agg [.lit (.int .u8 0), .lit (.int .u8 0)], .agg [.lit (.int .u8 0), .lit (.int .u8 0)], .agg [.lit (.int .u8 0), .lit (.int .u8 0)]]
def laid_platformfw_syntax_declarationForms {H : Type} : DataW H := .agg [.agg [.lit (.string [83, 99, 111, 112, 101]), .lit (.string [110, 68])], .agg [.lit (.string [68, 101, 118, 105, 99, 101]), .lit (.string [115, 68])], .agg [.lit (.string [80, 111, 119, 101, 114, 82, 101, 115, 111, 117, 114, 99, 101]), .lit (.string [115, 105, 105, 68])], .agg [.lit (.string [78, 97, 109, 101]), .lit (.string [115, 100])], .agg [.lit (.string [77, 101, 116, 104, 111, 100]), .lit (.string [115, 105, 105, 105, 83])], .agg [.lit (.string [79, 112, 101, 114, 97, 116, 105, 111, 110, 82, 101, 103, 105, 111, 110]), .lit (.string [115, 105, 105, 105])], .agg [.lit (.string [70, 105, 101, 108, 100]), .lit (.string [110, 105, 105, 70])], .agg [.lit (.string [73, 110, 100, 101, 120, 70, 105, 101, 108, 100]), .lit (.string [110, 110, 105, 105, 70])], .agg [.lit (.string [85, 110, 105, 116]), .lit (.string [115, 105])], .agg [.lit (.string [83, 107, 105, 112]), .lit (.string [105])], .agg [.lit (.string [77, 117, 116, 101, 120]), .lit (.string [115, 105])], .agg [.lit (.string [69, 118, 101, 110, 116]), .lit (.string [115])]]
def laid_platformfw_syntax_statementForms {H : Type} : DataW H := .agg [.agg [.lit (.string [83, 116, 111, 114, 101]), .lit (.string [101, 116])], .agg [.lit (.string [73, 102]), .lit (.string [101, 83])], .agg [.lit (.string [87, 104, 105, 108, 101]), .lit (.string [101, 83])], .agg [.lit (.string [82, 101, 116, 117, 114, 110]), .lit (.string [])], .agg [.lit (.string [66, 114, 101, 97, 107]), .lit (.string [])], .agg [.lit (.string [67, 111, 110, 116, 105, 110, 117, 101]), .lit (.string [])], .agg [.lit (.string [82, 101, 108, 101, 97, 115, 101]), .lit (.string [110])], .agg [.lit (.string [83, 105, 103, 110, 97, 108]), .lit (.string [110])], .agg [.lit (.string [82, 101, 115, 101, 116]), .lit (.string [110])], .agg [.lit (.string [83, 108, 101, 101, 112]), .lit (.string [101])], .agg [.lit (.string [78, 111, 116, 105, 102, 121]), .lit (.string [110, 101])], .agg [.lit (.string [65, 99, 113, 117, 105, 114, 101]), .lit (.string [110, 105])], .agg [.lit (.string [87, 97, 105, 116]), .lit (.string [110, 101])]]
def laid_platformfw_syntax_expressionForms {H : Type} : DataW H := .agg [.agg [.lit (.string [65, 100, 100]), .lit (.string [101, 101])], .agg [.lit (.string [83, 117, 98, 116, 114, 97, 99, 116]), .lit (.string [101, 101])], .agg [.lit (.string [77, 117, 108, 116, 105, 112, 108, 121]), .lit (.string [101, 101])], .agg [.lit (.string [68, 105, 118, 105, 100, 101]), .lit (.string [101, 101])], .agg [.lit (.string [77, 111, 100]), .lit (.string [101, 101])], .agg [.lit (.string [65, 110, 100]), .lit (.string [101, 101])], .agg [.lit (.string [79, 114]), .lit (.string [101, 101])], .agg [.lit (.string [88, 111, 114]), .lit (.string [101, 101])], .agg [.lit (.string [83, 104, 105, 102, 116, 76, 101, 102, 116]), .lit (.string [101, 101])], .agg [.lit (.string [83, 104, 105, 102, 116, 82, 105, 103, 104, 116]), .lit (.string [101, 101])], .agg [.lit (.string [76, 65, 110, 100]), .lit (.string [101, 101])], .agg [.lit (.string [76, 79, 114]), .lit (.string [101, 101])], .agg [.lit (.string [76, 69, 113, 117, 97, 108]), .lit (.string [101, 101])], .agg [.lit (.string [76, 76, 101, 115, 115]), .lit (.string [101, 101])], .agg [.lit (.string [76, 71, 114, 101, 97, 116, 101, 114]), .lit (.string [101, 101])], .agg [.lit (.string [67, 111, 110, 99, 97, 116, 101, 110, 97, 116, 101]), .lit (.string [101, 101])], .agg [.lit (.string [73, 110, 100, 101, 120]), .lit (.string [101, 101])], .agg [.lit (.string [78, 111, 116]), .lit (.string [101])], .agg [.lit (.string [76, 78, 111, 116]), .lit (.string [101])], .agg [.lit (.string [83, 105, 122, 101, 79, 102]), .lit (.string [101])], .agg [.lit (.string [84, 111, 73, 110, 116, 101, 103, 101, 114]), .lit (.string [101])], .agg [.lit (.string [84, 111, 66, 117, 102, 102, 101, 114]), .lit (.string [101])], .agg [.lit (.string [84, 111, 72, 101, 120, 83, 116, 114, 105, 110, 103]), .lit (.string [101])], .agg [.lit (.string [84, 111, 68, 101, 99, 105, 109, 97, 108, 83, 116, 114, 105, 110, 103]), .lit (.string [101])], .agg [.lit (.string [68, 101, 114, 101, 102, 79, 102]), .lit (.string [101])], .agg [.lit (.string [82, 101, 102, 79, 102]), .lit (.string [116])], .agg [.lit (.string [67, 111, 110, 100, 82, 101, 102, 79, 102]), .lit (.string [110])], .agg [.lit (.string [79, 98, 106, 101, 99, 116, 84, 121, 112, 101]), .lit (.string [116])], .agg [.lit (.string [77, 105, 100]), .lit (.string [101, 101, 101])]]
/-- One of Go's own tables, pinned by name: the form's constant. -/
def laid_unicode_utf8_first : DataW Unit := Go.Pinned.utf8First

/-- 'platformfwlaw12.NamespaceLooksUp': WHATEVER THE INPUT: true; the input reads as it did. -/
def namespaceLooksUpSpec : ChangeSpec := { name := "namespaceLooksUp", fn := fun _ => fun
  | [d1, d2, d3, d4, d5] => { results := [.lit (.bool true)], args := [d1, d2, d3, d4, d5] }
  | _ => none }
def namespaceLooksUpRow : OpenClaim := { program := "ytegjgpldfgjoiaagreatdoor", sum := "93d8952ce5e715f61878fe2bea400c0679466f8d94734ce63d8d93a4ddc597c0", func := "platformfw/platformfwlaw12.NamespaceLooksUp", spec := "namespaceLooksUp", inPlace := ["internal/bytealg.CountString", "internal/bytealg.IndexByteString", "internal/bytealg.IndexString", "internal/abi.NoEscape", "internal/bytealg.MakeNoZero", "maps.clone"], unfollowed := true, recurses := true, named := ["internal/bytealg.MaxLen", "unicode/utf8.first", "unicode/utf8.acceptRanges", "platformfw/syntax.declarationForms", "platformfw/syntax.statementForms", "platformfw/syntax.expressionForms"], apart := false, laid := [("unicode/utf8.acceptRanges", laid_unicode_utf8_acceptRanges), ("platformfw/syntax.declarationForms", laid_platformfw_syntax_declarationForms), ("platformfw/syntax.statementForms", laid_platformfw_syntax_statementForms), ("platformfw/syntax.expressionForms", laid_platformfw_syntax_expressionForms), ("unicode/utf8.first", laid_unicode_utf8_first)] }
def NamespaceLooksUpSaid : Prop := namespaceLooksUpRow.holds Tryz.pinned (OpenSpec.ofChange namespaceLooksUpSpec)

/-- ITS FALSE NEIGHBOUR: 'it returns false'. Refute it at one input. -/
def namespaceLooksUpWrong : ChangeSpec := { name := "namespaceLooksUp", fn := fun _ => fun
  | [d1, d2, d3, d4, d5] => { results := [.lit (.bool false)], args := [d1, d2, d3, d4, d5] }
  | _ => none }
def NamespaceLooksUpWrongFalsely : Prop := namespaceLooksUpRow.holds Tryz.pinned (OpenSpec.ofChange namespaceLooksUpWrong)

/-- 'platformfwlaw12.NamespaceDeclarations': WHATEVER THE INPUT: true; the input reads as it did. -/
def namespaceDeclarationsSpec : ChangeSpec := { name := "namespaceDeclarations", fn := fun _ => fun
  | [d] => { results := [.lit (.bool true)], args := [d] }
  | _ => none }
def namespaceDeclarationsRow : OpenClaim := { program := "ytegjgpldfgjoiaagreatdoor", sum := "93d8952ce5e715f61878fe2bea400c0679466f8d94734ce63d8d93a4ddc597c0", func := "platformfw/platformfwlaw12.NamespaceDeclarations", spec := "namespaceDeclarations", inPlace := ["internal/bytealg.CountString", "internal/bytealg.IndexByteString", "internal/bytealg.IndexString", "internal/abi.NoEscape", "internal/bytealg.MakeNoZero", "maps.clone"], unfollowed := true, recurses := true, named := ["internal/bytealg.MaxLen", "unicode/utf8.first", "unicode/utf8.acceptRanges", "platformfw/syntax.declarationForms", "platformfw/syntax.statementForms", "platformfw/syntax.expressionForms"], apart := false, laid := [("unicode/utf8.acceptRanges", laid_unicode_utf8_acceptRanges), ("platformfw/syntax.declarationForms", laid_platformfw_syntax_declarationForms), ("platformfw/syntax.statementForms", laid_platformfw_syntax_statementForms), ("platformfw/syntax.expressionForms", laid_platformfw_syntax_expressionForms), ("unicode/utf8.first", laid_unicode_utf8_first)] }
def NamespaceDeclarationsSaid : Prop := namespaceDeclarationsRow.holds Tryz.pinned (OpenSpec.ofChange namespaceDeclarationsSpec)

/-- ITS FALSE NEIGHBOUR: 'it returns false'. Refute it at one input. -/
def namespaceDeclarationsWrong : ChangeSpec := { name := "namespaceDeclarations", fn := fun _ => fun
  | [d] => { results := [.lit (.bool false)], args := [d] }
  | _ => none }
def NamespaceDeclarationsWrongFalsely : Prop := namespaceDeclarationsRow.holds Tryz.pinned (OpenSpec.ofChange namespaceDeclarationsWrong)

/-- 'platformfwlaw12.NamespacePathsUnique': WHATEVER THE INPUT: true; the input reads as it did. -/
def namespacePathsUniqueSpec : ChangeSpec := { name := "namespacePathsUnique", fn := fun _ => fun
  | [d1, d2] => { results := [.lit (.bool true)], args := [d1, d2] }
  | _ => none }
def namespacePathsUniqueRow : OpenClaim := { program := "ytegjgpldfgjoiaagreatdoor", sum := "93d8952ce5e715f61878fe2bea400c0679466f8d94734ce63d8d93a4ddc597c0", func := "platformfw/platformfwlaw12.NamespacePathsUnique", spec := "namespacePathsUnique", inPlace := ["internal/bytealg.CountString", "internal/bytealg.IndexByteString", "internal/bytealg.IndexString", "internal/abi.NoEscape", "internal/bytealg.MakeNoZero", "maps.clone"], unfollowed := true, recurses := true, named := ["internal/bytealg.MaxLen", "unicode/utf8.first", "unicode/utf8.acceptRanges", "platformfw/syntax.declarationForms", "platformfw/syntax.statementForms", "platformfw/syntax.expressionForms"], apart := false, laid := [("unicode/utf8.acceptRanges", laid_unicode_utf8_acceptRanges), ("platformfw/syntax.declarationForms", laid_platformfw_syntax_declarationForms), ("platformfw/syntax.statementForms", laid_platformfw_syntax_statementForms), ("platformfw/syntax.expressionForms", laid_platformfw_syntax_expressionForms), ("unicode/utf8.first", laid_unicode_utf8_first)] }
def NamespacePathsUniqueSaid : Prop := namespacePathsUniqueRow.holds Tryz.pinned (OpenSpec.ofChange namespacePathsUniqueSpec)

/-- ITS FALSE NEIGHBOUR: 'it returns false'. Refute it at one input. -/
def namespacePathsUniqueWrong : ChangeSpec := { name := "namespacePathsUnique", fn := fun _ => fun
  | [d1, d2] => { results := [.lit (.bool false)], args := [d1, d2] }
  | _ => none }
def NamespacePathsUniqueWrongFalsely : Prop := namespacePathsUniqueRow.holds Tryz.pinned (OpenSpec.ofChange namespacePathsUniqueWrong)

/-- 'platformfwlaw12.NamespaceDoesNotAlias': WHATEVER THE INPUT: true; the input reads as it did. -/
def namespaceDoesNotAliasSpec : ChangeSpec := { name := "namespaceDoesNotAlias", fn := fun _ => fun
  | [d] => { results := [.lit (.bool true)], args := [d] }
  | _ => none }
def namespaceDoesNotAliasRow : OpenClaim := { program := "ytegjgpldfgjoiaagreatdoor", sum := "93d8952ce5e715f61878fe2bea400c0679466f8d94734ce63d8d93a4ddc597c0", func := "platformfw/platformfwlaw12.NamespaceDoesNotAlias", spec := "namespaceDoesNotAlias", inPlace := ["internal/bytealg.CountString", "internal/bytealg.IndexByteString", "internal/bytealg.IndexString", "internal/abi.NoEscape", "internal/bytealg.MakeNoZero", "maps.clone"], unfollowed := true, recurses := true, named := ["internal/bytealg.MaxLen", "unicode/utf8.first", "unicode/utf8.acceptRanges", "platformfw/syntax.declarationForms", "platformfw/syntax.statementForms", "platformfw/syntax.expressionForms"], apart := false, laid := [("unicode/utf8.acceptRanges", laid_unicode_utf8_acceptRanges), ("platformfw/syntax.declarationForms", laid_platformfw_syntax_declarationForms), ("platformfw/syntax.statementForms", laid_platformfw_syntax_statementForms), ("platformfw/syntax.expressionForms", laid_platformfw_syntax_expressionForms), ("unicode/utf8.first", laid_unicode_utf8_first)] }
def NamespaceDoesNotAliasSaid : Prop := namespaceDoesNotAliasRow.holds Tryz.pinned (OpenSpec.ofChange namespaceDoesNotAliasSpec)

/-- ITS FALSE NEIGHBOUR: 'it returns false'. Refute it at one input. -/
def namespaceDoesNotAliasWrong : ChangeSpec := { name := "namespaceDoesNotAlias", fn := fun _ => fun
  | [d] => { results := [.lit (.bool false)], args := [d] }
  | _ => none }
def NamespaceDoesNotAliasWrongFalsely : Prop := namespaceDoesNotAliasRow.holds Tryz.pinned (OpenSpec.ofChange namespaceDoesNotAliasWrong)

/-- 'platformfwlaw12.NamespaceRejects': WHATEVER THE INPUT: true; the input reads as it did. -/
def namespaceRejectsSpec : ChangeSpec := { name := "namespaceRejects", fn := fun _ => fun
  | [d1, d2, d3, d4, d5] => { results := [.lit (.bool true)], args := [d1, d2, d3, d4, d5] }
  | _ => none }
def namespaceRejectsRow : OpenClaim := { program := "ytegjgpldfgjoiaagreatdoor", sum := "93d8952ce5e715f61878fe2bea400c0679466f8d94734ce63d8d93a4ddc597c0", func := "platformfw/platformfwlaw12.NamespaceRejects", spec := "namespaceRejects", inPlace := ["internal/bytealg.CountString", "internal/bytealg.IndexByteString", "internal/bytealg.IndexString", "internal/abi.NoEscape", "internal/bytealg.MakeNoZero", "maps.clone"], unfollowed := true, recurses := true, named := ["internal/bytealg.MaxLen", "unicode/utf8.first", "unicode/utf8.acceptRanges", "platformfw/syntax.declarationForms", "platformfw/syntax.statementForms", "platformfw/syntax.expressionForms"], apart := false, laid := [("unicode/utf8.acceptRanges", laid_unicode_utf8_acceptRanges), ("platformfw/syntax.declarationForms", laid_platformfw_syntax_declarationForms), ("platformfw/syntax.statementForms", laid_platformfw_syntax_statementForms), ("platformfw/syntax.expressionForms", laid_platformfw_syntax_expressionForms), ("unicode/utf8.first", laid_unicode_utf8_first)] }
def NamespaceRejectsSaid : Prop := namespaceRejectsRow.holds Tryz.pinned (OpenSpec.ofChange namespaceRejectsSpec)

/-- ITS FALSE NEIGHBOUR: 'it returns false'. Refute it at one input. -/
def namespaceRejectsWrong : ChangeSpec := { name := "namespaceRejects", fn := fun _ => fun
  | [d1, d2, d3, d4, d5] => { results := [.lit (.bool false)], args := [d1, d2, d3, d4, d5] }
  | _ => none }
def NamespaceRejectsWrongFalsely : Prop := namespaceRejectsRow.holds Tryz.pinned (OpenSpec.ofChange namespaceRejectsWrong)

/-- 'platformfwlaw12.NamespaceUnloadRestores': WHATEVER THE INPUT: true; the input reads as it did. -/
def namespaceUnloadRestoresSpec : ChangeSpec := { name := "namespaceUnloadRestores", fn := fun _ => fun
  | [d1, d2] => { results := [.lit (.bool true)], args := [d1, d2] }
  | _ => none }
def namespaceUnloadRestoresRow : OpenClaim := { program := "ytegjgpldfgjoiaagreatdoor", sum := "93d8952ce5e715f61878fe2bea400c0679466f8d94734ce63d8d93a4ddc597c0", func := "platformfw/platformfwlaw12.NamespaceUnloadRestores", spec := "namespaceUnloadRestores", inPlace := ["internal/bytealg.CountString", "internal/bytealg.IndexByteString", "internal/bytealg.IndexString", "internal/abi.NoEscape", "internal/bytealg.MakeNoZero", "maps.clone"], unfollowed := true, recurses := true, named := ["internal/bytealg.MaxLen", "unicode/utf8.first", "unicode/utf8.acceptRanges", "platformfw/syntax.declarationForms", "platformfw/syntax.statementForms", "platformfw/syntax.expressionForms"], apart := false, laid := [("unicode/utf8.acceptRanges", laid_unicode_utf8_acceptRanges), ("platformfw/syntax.declarationForms", laid_platformfw_syntax_declarationForms), ("platformfw/syntax.statementForms", laid_platformfw_syntax_statementForms), ("platformfw/syntax.expressionForms", laid_platformfw_syntax_expressionForms), ("unicode/utf8.first", laid_unicode_utf8_first)] }
def NamespaceUnloadRestoresSaid : Prop := namespaceUnloadRestoresRow.holds Tryz.pinned (OpenSpec.ofChange namespaceUnloadRestoresSpec)

/-- ITS FALSE NEIGHBOUR: 'it returns false'. Refute it at one input. -/
def namespaceUnloadRestoresWrong : ChangeSpec := { name := "namespaceUnloadRestores", fn := fun _ => fun
  | [d1, d2] => { results := [.lit (.bool false)], args := [d1, d2] }
  | _ => none }
def NamespaceUnloadRestoresWrongFalsely : Prop := namespaceUnloadRestoresRow.holds Tryz.pinned (OpenSpec.ofChange namespaceUnloadRestoresWrong)

/-- 'platformfwlaw12.NamespaceMatchesModel': WHATEVER THE INPUT: true; the input reads as it did. -/
def namespaceMatchesModelSpec : ChangeSpec := { name := "namespaceMatchesModel", fn := fun _ => fun
  | [d] => { results := [.lit (.bool true)], args := [d] }
  | _ => none }
def namespaceMatchesModelRow : OpenClaim := { program := "ytegjgpldfgjoiaagreatdoor", sum := "93d8952ce5e715f61878fe2bea400c0679466f8d94734ce63d8d93a4ddc597c0", func := "platformfw/platformfwlaw12.NamespaceMatchesModel", spec := "namespaceMatchesModel", inPlace := ["internal/bytealg.CountString", "internal/bytealg.IndexByteString", "internal/bytealg.IndexString", "internal/abi.NoEscape", "internal/bytealg.MakeNoZero", "maps.clone"], unfollowed := true, recurses := true, named := ["internal/bytealg.MaxLen", "unicode/utf8.first", "unicode/utf8.acceptRanges", "platformfw/syntax.declarationForms", "platformfw/syntax.statementForms", "platformfw/syntax.expressionForms"], apart := false, laid := [("unicode/utf8.acceptRanges", laid_unicode_utf8_acceptRanges), ("platformfw/syntax.declarationForms", laid_platformfw_syntax_declarationForms), ("platformfw/syntax.statementForms", laid_platformfw_syntax_statementForms), ("platformfw/syntax.expressionForms", laid_platformfw_syntax_expressionForms), ("unicode/utf8.first", laid_unicode_utf8_first)] }
def NamespaceMatchesModelSaid : Prop := namespaceMatchesModelRow.holds Tryz.pinned (OpenSpec.ofChange namespaceMatchesModelSpec)

/-- ITS FALSE NEIGHBOUR: 'it returns false'. Refute it at one input. -/
def namespaceMatchesModelWrong : ChangeSpec := { name := "namespaceMatchesModel", fn := fun _ => fun
  | [d] => { results := [.lit (.bool false)], args := [d] }
  | _ => none }
def NamespaceMatchesModelWrongFalsely : Prop := namespaceMatchesModelRow.holds Tryz.pinned (OpenSpec.ofChange namespaceMatchesModelWrong)

/- THE SECOND FORM. 'bulk': how many values and letters a reading holds, each counted each time it is reached (what is shared counts as often as it is met; a slice's spare places count too). A statement '..UptoSaid' is the law's where the arguments, and the package variables that the reading takes, are together of bulk at most 1048576: NARROWER than '..Said'. Prove '..Said' where nothing that the law and all that it calls make is longer than what came in: it says more and counts as full. Else prove '..UptoSaid'. A law counts once. -/
mutual
def uptoBulk {H : Type} : DataW H → Nat
  | .lit (.string bytes) => bytes.length + 1
  | .lit _ => 1
  | .nil => 1
  | .ptr d => uptoBulk d + 1
  | .slice elems spare => uptoBulkAll elems + uptoBulkAll spare + 1
  | .agg parts => uptoBulkAll parts + 1
  | .iface _ d => uptoBulk d + 1
  | .map entries => uptoBulkEntries entries + 1
  | .held _ => 1
def uptoBulkAll {H : Type} : List (DataW H) → Nat
  | [] => 0
  | d :: r => uptoBulk d + uptoBulkAll r
def uptoBulkEntries {H : Type} : List (Lit × DataW H) → Nat
  | [] => 0
  | x :: r => uptoBulkEntry x + uptoBulkEntries r
def uptoBulkEntry {H : Type} : Lit × DataW H → Nat
  | (.string bytes, d) => bytes.length + uptoBulk d + 1
  | (_, d) => uptoBulk d + 1
 end
def uptoSmall : (H : Type) → List (DataW H) → Bool := fun _ ds => decide (uptoBulkAll ds ≤ 1048576)
def OpenSpec.upto (s : _root_.Go.ChangeSpec) : _root_.Go.OpenSpec := { _root_.Go.OpenSpec.ofChange s with cond := some uptoSmall }

/-- 'platformfwlaw12.NamespaceLooksUp', WHERE WHAT IT READS IS OF BULK AT MOST 1048576: true; the input reads as it did. -/
def namespaceLooksUpUptoRow : OpenClaim := { program := "ytegjgpldfgjoiaagreatdoor", sum := "93d8952ce5e715f61878fe2bea400c0679466f8d94734ce63d8d93a4ddc597c0", func := "platformfw/platformfwlaw12.NamespaceLooksUp", spec := "namespaceLooksUp", inPlace := ["internal/bytealg.CountString", "internal/bytealg.IndexByteString", "internal/bytealg.IndexString", "internal/abi.NoEscape", "internal/bytealg.MakeNoZero", "maps.clone"], unfollowed := true, recurses := true, named := ["internal/bytealg.MaxLen", "unicode/utf8.first", "unicode/utf8.acceptRanges", "platformfw/syntax.declarationForms", "platformfw/syntax.statementForms", "platformfw/syntax.expressionForms"], apart := false, laid := [("unicode/utf8.acceptRanges", laid_unicode_utf8_acceptRanges), ("platformfw/syntax.declarationForms", laid_platformfw_syntax_declarationForms), ("platformfw/syntax.statementForms", laid_platformfw_syntax_statementForms), ("platformfw/syntax.expressionForms", laid_platformfw_syntax_expressionForms), ("unicode/utf8.first", laid_unicode_utf8_first)], narrowed := true }
def NamespaceLooksUpUptoSaid : Prop := namespaceLooksUpUptoRow.holds Tryz.pinned (OpenSpec.upto namespaceLooksUpSpec)

/-- 'platformfwlaw12.NamespaceDeclarations', WHERE WHAT IT READS IS OF BULK AT MOST 1048576: true; the input reads as it did. -/
def namespaceDeclarationsUptoRow : OpenClaim := { program := "ytegjgpldfgjoiaagreatdoor", sum := "93d8952ce5e715f61878fe2bea400c0679466f8d94734ce63d8d93a4ddc597c0", func := "platformfw/platformfwlaw12.NamespaceDeclarations", spec := "namespaceDeclarations", inPlace := ["internal/bytealg.CountString", "internal/bytealg.IndexByteString", "internal/bytealg.IndexString", "internal/abi.NoEscape", "internal/bytealg.MakeNoZero", "maps.clone"], unfollowed := true, recurses := true, named := ["internal/bytealg.MaxLen", "unicode/utf8.first", "unicode/utf8.acceptRanges", "platformfw/syntax.declarationForms", "platformfw/syntax.statementForms", "platformfw/syntax.expressionForms"], apart := false, laid := [("unicode/utf8.acceptRanges", laid_unicode_utf8_acceptRanges), ("platformfw/syntax.declarationForms", laid_platformfw_syntax_declarationForms), ("platformfw/syntax.statementForms", laid_platformfw_syntax_statementForms), ("platformfw/syntax.expressionForms", laid_platformfw_syntax_expressionForms), ("unicode/utf8.first", laid_unicode_utf8_first)], narrowed := true }
def NamespaceDeclarationsUptoSaid : Prop := namespaceDeclarationsUptoRow.holds Tryz.pinned (OpenSpec.upto namespaceDeclarationsSpec)

/-- 'platformfwlaw12.NamespacePathsUnique', WHERE WHAT IT READS IS OF BULK AT MOST 1048576: true; the input reads as it did. -/
def namespacePathsUniqueUptoRow : OpenClaim := { program := "ytegjgpldfgjoiaagreatdoor", sum := "93d8952ce5e715f61878fe2bea400c0679466f8d94734ce63d8d93a4ddc597c0", func := "platformfw/platformfwlaw12.NamespacePathsUnique", spec := "namespacePathsUnique", inPlace := ["internal/bytealg.CountString", "internal/bytealg.IndexByteString", "internal/bytealg.IndexString", "internal/abi.NoEscape", "internal/bytealg.MakeNoZero", "maps.clone"], unfollowed := true, recurses := true, named := ["internal/bytealg.MaxLen", "unicode/utf8.first", "unicode/utf8.acceptRanges", "platformfw/syntax.declarationForms", "platformfw/syntax.statementForms", "platformfw/syntax.expressionForms"], apart := false, laid := [("unicode/utf8.acceptRanges", laid_unicode_utf8_acceptRanges), ("platformfw/syntax.declarationForms", laid_platformfw_syntax_declarationForms), ("platformfw/syntax.statementForms", laid_platformfw_syntax_statementForms), ("platformfw/syntax.expressionForms", laid_platformfw_syntax_expressionForms), ("unicode/utf8.first", laid_unicode_utf8_first)], narrowed := true }
def NamespacePathsUniqueUptoSaid : Prop := namespacePathsUniqueUptoRow.holds Tryz.pinned (OpenSpec.upto namespacePathsUniqueSpec)

/-- 'platformfwlaw12.NamespaceDoesNotAlias', WHERE WHAT IT READS IS OF BULK AT MOST 1048576: true; the input reads as it did. -/
def namespaceDoesNotAliasUptoRow : OpenClaim := { program := "ytegjgpldfgjoiaagreatdoor", sum := "93d8952ce5e715f61878fe2bea400c0679466f8d94734ce63d8d93a4ddc597c0", func := "platformfw/platformfwlaw12.NamespaceDoesNotAlias", spec := "namespaceDoesNotAlias", inPlace := ["internal/bytealg.CountString", "internal/bytealg.IndexByteString", "internal/bytealg.IndexString", "internal/abi.NoEscape", "internal/bytealg.MakeNoZero", "maps.clone"], unfollowed := true, recurses := true, named := ["internal/bytealg.MaxLen", "unicode/utf8.first", "unicode/utf8.acceptRanges", "platformfw/syntax.declarationForms", "platformfw/syntax.statementForms", "platformfw/syntax.expressionForms"], apart := false, laid := [("unicode/utf8.acceptRanges", laid_unicode_utf8_acceptRanges), ("platformfw/syntax.declarationForms", laid_platformfw_syntax_declarationForms), ("platformfw/syntax.statementForms", laid_platformfw_syntax_statementForms), ("platformfw/syntax.expressionForms", laid_platformfw_syntax_expressionForms), ("unicode/utf8.first", laid_unicode_utf8_first)], narrowed := true }
def NamespaceDoesNotAliasUptoSaid : Prop := namespaceDoesNotAliasUptoRow.holds Tryz.pinned (OpenSpec.upto namespaceDoesNotAliasSpec)

/-- 'platformfwlaw12.NamespaceRejects', WHERE WHAT IT READS IS OF BULK AT MOST 1048576: true; the input reads as it did. -/
def namespaceRejectsUptoRow : OpenClaim := { program := "ytegjgpldfgjoiaagreatdoor", sum := "93d8952ce5e715f61878fe2bea400c0679466f8d94734ce63d8d93a4ddc597c0", func := "platformfw/platformfwlaw12.NamespaceRejects", spec := "namespaceRejects", inPlace := ["internal/bytealg.CountString", "internal/bytealg.IndexByteString", "internal/bytealg.IndexString", "internal/abi.NoEscape", "internal/bytealg.MakeNoZero", "maps.clone"], unfollowed := true, recurses := true, named := ["internal/bytealg.MaxLen", "unicode/utf8.first", "unicode/utf8.acceptRanges", "platformfw/syntax.declarationForms", "platformfw/syntax.statementForms", "platformfw/syntax.expressionForms"], apart := false, laid := [("unicode/utf8.acceptRanges", laid_unicode_utf8_acceptRanges), ("platformfw/syntax.declarationForms", laid_platformfw_syntax_declarationForms), ("platformfw/syntax.statementForms", laid_platformfw_syntax_statementForms), ("platformfw/syntax.expressionForms", laid_platformfw_syntax_expressionForms), ("unicode/utf8.first", laid_unicode_utf8_first)], narrowed := true }
def NamespaceRejectsUptoSaid : Prop := namespaceRejectsUptoRow.holds Tryz.pinned (OpenSpec.upto namespaceRejectsSpec)

/-- 'platformfwlaw12.NamespaceUnloadRestores', WHERE WHAT IT READS IS OF BULK AT MOST 1048576: true; the input reads as it did. -/
def namespaceUnloadRestoresUptoRow : OpenClaim := { program := "ytegjgpldfgjoiaagreatdoor", sum := "93d8952ce5e715f61878fe2bea400c0679466f8d94734ce63d8d93a4ddc597c0", func := "platformfw/platformfwlaw12.NamespaceUnloadRestores", spec := "namespaceUnloadRestores", inPlace := ["internal/bytealg.CountString", "internal/bytealg.IndexByteString", "internal/bytealg.IndexString", "internal/abi.NoEscape", "internal/bytealg.MakeNoZero", "maps.clone"], unfollowed := true, recurses := true, named := ["internal/bytealg.MaxLen", "unicode/utf8.first", "unicode/utf8.acceptRanges", "platformfw/syntax.declarationForms", "platformfw/syntax.statementForms", "platformfw/syntax.expressionForms"], apart := false, laid := [("unicode/utf8.acceptRanges", laid_unicode_utf8_acceptRanges), ("platformfw/syntax.declarationForms", laid_platformfw_syntax_declarationForms), ("platformfw/syntax.statementForms", laid_platformfw_syntax_statementForms), ("platformfw/syntax.expressionForms", laid_platformfw_syntax_expressionForms), ("unicode/utf8.first", laid_unicode_utf8_first)], narrowed := true }
def NamespaceUnloadRestoresUptoSaid : Prop := namespaceUnloadRestoresUptoRow.holds Tryz.pinned (OpenSpec.upto namespaceUnloadRestoresSpec)

/-- 'platformfwlaw12.NamespaceMatchesModel', WHERE WHAT IT READS IS OF BULK AT MOST 1048576: true; the input reads as it did. -/
def namespaceMatchesModelUptoRow : OpenClaim := { program := "ytegjgpldfgjoiaagreatdoor", sum := "93d8952ce5e715f61878fe2bea400c0679466f8d94734ce63d8d93a4ddc597c0", func := "platformfw/platformfwlaw12.NamespaceMatchesModel", spec := "namespaceMatchesModel", inPlace := ["internal/bytealg.CountString", "internal/bytealg.IndexByteString", "internal/bytealg.IndexString", "internal/abi.NoEscape", "internal/bytealg.MakeNoZero", "maps.clone"], unfollowed := true, recurses := true, named := ["internal/bytealg.MaxLen", "unicode/utf8.first", "unicode/utf8.acceptRanges", "platformfw/syntax.declarationForms", "platformfw/syntax.statementForms", "platformfw/syntax.expressionForms"], apart := false, laid := [("unicode/utf8.acceptRanges", laid_unicode_utf8_acceptRanges), ("platformfw/syntax.declarationForms", laid_platformfw_syntax_declarationForms), ("platformfw/syntax.statementForms", laid_platformfw_syntax_statementForms), ("platformfw/syntax.expressionForms", laid_platformfw_syntax_expressionForms), ("unicode/utf8.first", laid_unicode_utf8_first)], narrowed := true }
def NamespaceMatchesModelUptoSaid : Prop := namespaceMatchesModelUptoRow.holds Tryz.pinned (OpenSpec.upto namespaceMatchesModelSpec)

end Rows
end Go.Proofs.YtegjgpldfgjoiaaGreatDoor
