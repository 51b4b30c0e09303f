/-
  DERIVED. GIVEN WITH THE SEED: THE CARDS: each row of YtegjgpldfgjoiaaGreatDoorRows.lean that lists a variable, with what it lists TIED to the program's text (the seventh form; the later family's looks); each row that meets fmt, with fmt's text TOLD by the authors' own Lean function (tested against real Go, not proved from fmt's source: count such statements apart). THE CARD IS WHAT COUNTS. Prove the row's statement (the work); the ties are given (YtegjgpldfgjoiaaGreatDoorTie.lean); close each card by the builder's one call (the guide's Derived/Test/ToyasCard.lean, 'card_holds'). Laid BY PROGRAM, IN A SANDBOX (cutbox-door.mjs). By AI agents, Wed Nov 11 2026. No macro, syntax, notation, axiom, sorry.
-/
import Derived.Test.YtegjgpldfgjoiaaGreatDoorRows
import GoSem.ClaimSeven
namespace Go.Proofs.YtegjgpldfgjoiaaGreatDoor
namespace Rows

/-- THE TIED CARD OF 'platformfwlaw12.NamespaceLooksUp'. -/
def namespaceLooksUpCard : Claim7 := { stood := { row := namespaceLooksUpRow, standIns := [], harness := (true, "09cf7a60c04cc8033c44848ffdc974449db9c73d1b3c3f3137c27124a35616aa"), looks := true }, kinds := [], alts := [], laidByText := true, laidKinds := [.data, .data, .data, .data, .pinned], laidTests := true, laidLooks := .later }
def NamespaceLooksUpCardSaid : Prop := Claim7.holds Tryz.pinned (.plain (OpenSpec.ofChange namespaceLooksUpSpec)) namespaceLooksUpCard

/-- THE TIED CARD OF 'platformfwlaw12.NamespaceDeclarations'. -/
def namespaceDeclarationsCard : Claim7 := { stood := { row := namespaceDeclarationsRow, standIns := [], harness := (true, "09cf7a60c04cc8033c44848ffdc974449db9c73d1b3c3f3137c27124a35616aa"), looks := true }, kinds := [], alts := [], laidByText := true, laidKinds := [.data, .data, .data, .data, .pinned], laidTests := true, laidLooks := .later }
def NamespaceDeclarationsCardSaid : Prop := Claim7.holds Tryz.pinned (.plain (OpenSpec.ofChange namespaceDeclarationsSpec)) namespaceDeclarationsCard

/-- THE TIED CARD OF 'platformfwlaw12.NamespacePathsUnique'. -/
def namespacePathsUniqueCard : Claim7 := { stood := { row := namespacePathsUniqueRow, standIns := [], harness := (true, "09cf7a60c04cc8033c44848ffdc974449db9c73d1b3c3f3137c27124a35616aa"), looks := true }, kinds := [], alts := [], laidByText := true, laidKinds := [.data, .data, .data, .data, .pinned], laidTests := true, laidLooks := .later }
def NamespacePathsUniqueCardSaid : Prop := Claim7.holds Tryz.pinned (.plain (OpenSpec.ofChange namespacePathsUniqueSpec)) namespacePathsUniqueCard

/-- THE TIED CARD OF 'platformfwlaw12.NamespaceDoesNotAlias'. -/
def namespaceDoesNotAliasCard : Claim7 := { stood := { row := namespaceDoesNotAliasRow, standIns := [], harness := (true, "09cf7a60c04cc8033c44848ffdc974449db9c73d1b3c3f3137c27124a35616aa"), looks := true }, kinds := [], alts := [], laidByText := true, laidKinds := [.data, .data, .data, .data, .pinned], laidTests := true, laidLooks := .later }
def NamespaceDoesNotAliasCardSaid : Prop := Claim7.holds Tryz.pinned (.plain (OpenSpec.ofChange namespaceDoesNotAliasSpec)) namespaceDoesNotAliasCard

/-- THE TIED CARD OF 'platformfwlaw12.NamespaceRejects'. -/
def namespaceRejectsCard : Claim7 := { stood := { row := namespaceRejectsRow, standIns := [], harness := (true, "09cf7a60c04cc8033c44848ffdc974449db9c73d1b3c3f3137c27124a35616aa"), looks := true }, kinds := [], alts := [], laidByText := true, laidKinds := [.data, .data, .data, .data, .pinned], laidTests := true, laidLooks := .later }
def NamespaceRejectsCardSaid : Prop := Claim7.holds Tryz.pinned (.plain (OpenSpec.ofChange namespaceRejectsSpec)) namespaceRejectsCard

/-- THE TIED CARD OF 'platformfwlaw12.NamespaceUnloadRestores'. -/
def namespaceUnloadRestoresCard : Claim7 := { stood := { row := namespaceUnloadRestoresRow, standIns := [], harness := (true, "09cf7a60c04cc8033c44848ffdc974449db9c73d1b3c3f3137c27124a35616aa"), looks := true }, kinds := [], alts := [], laidByText := true, laidKinds := [.data, .data, .data, .data, .pinned], laidTests := true, laidLooks := .later }
def NamespaceUnloadRestoresCardSaid : Prop := Claim7.holds Tryz.pinned (.plain (OpenSpec.ofChange namespaceUnloadRestoresSpec)) namespaceUnloadRestoresCard

/-- THE TIED CARD OF 'platformfwlaw12.NamespaceMatchesModel'. -/
def namespaceMatchesModelCard : Claim7 := { stood := { row := namespaceMatchesModelRow, standIns := [], harness := (true, "09cf7a60c04cc8033c44848ffdc974449db9c73d1b3c3f3137c27124a35616aa"), looks := true }, kinds := [], alts := [], laidByText := true, laidKinds := [.data, .data, .data, .data, .pinned], laidTests := true, laidLooks := .later }
def NamespaceMatchesModelCardSaid : Prop := Claim7.holds Tryz.pinned (.plain (OpenSpec.ofChange namespaceMatchesModelSpec)) namespaceMatchesModelCard

/-- THE SECOND FORM's CARD OF 'platformfwlaw12.NamespaceLooksUp'. -/
def namespaceLooksUpUptoCard : Claim7 := { stood := { row := namespaceLooksUpUptoRow, standIns := [], harness := (true, "09cf7a60c04cc8033c44848ffdc974449db9c73d1b3c3f3137c27124a35616aa"), looks := true }, kinds := [], alts := [], laidByText := true, laidKinds := [.data, .data, .data, .data, .pinned], laidTests := true, laidLooks := .later }
def NamespaceLooksUpUptoCardSaid : Prop := Claim7.holds Tryz.pinned (.plain (OpenSpec.upto namespaceLooksUpSpec)) namespaceLooksUpUptoCard

/-- THE SECOND FORM's CARD OF 'platformfwlaw12.NamespaceDeclarations'. -/
def namespaceDeclarationsUptoCard : Claim7 := { stood := { row := namespaceDeclarationsUptoRow, standIns := [], harness := (true, "09cf7a60c04cc8033c44848ffdc974449db9c73d1b3c3f3137c27124a35616aa"), looks := true }, kinds := [], alts := [], laidByText := true, laidKinds := [.data, .data, .data, .data, .pinned], laidTests := true, laidLooks := .later }
def NamespaceDeclarationsUptoCardSaid : Prop := Claim7.holds Tryz.pinned (.plain (OpenSpec.upto namespaceDeclarationsSpec)) namespaceDeclarationsUptoCard

/-- THE SECOND FORM's CARD OF 'platformfwlaw12.NamespacePathsUnique'. -/
def namespacePathsUniqueUptoCard : Claim7 := { stood := { row := namespacePathsUniqueUptoRow, standIns := [], harness := (true, "09cf7a60c04cc8033c44848ffdc974449db9c73d1b3c3f3137c27124a35616aa"), looks := true }, kinds := [], alts := [], laidByText := true, laidKinds := [.data, .data, .data, .data, .pinned], laidTests := true, laidLooks := .later }
def NamespacePathsUniqueUptoCardSaid : Prop := Claim7.holds Tryz.pinned (.plain (OpenSpec.upto namespacePathsUniqueSpec)) namespacePathsUniqueUptoCard

/-- THE SECOND FORM's CARD OF 'platformfwlaw12.NamespaceDoesNotAlias'. -/
def namespaceDoesNotAliasUptoCard : Claim7 := { stood := { row := namespaceDoesNotAliasUptoRow, standIns := [], harness := (true, "09cf7a60c04cc8033c44848ffdc974449db9c73d1b3c3f3137c27124a35616aa"), looks := true }, kinds := [], alts := [], laidByText := true, laidKinds := [.data, .data, .data, .data, .pinned], laidTests := true, laidLooks := .later }
def NamespaceDoesNotAliasUptoCardSaid : Prop := Claim7.holds Tryz.pinned (.plain (OpenSpec.upto namespaceDoesNotAliasSpec)) namespaceDoesNotAliasUptoCard

/-- THE SECOND FORM's CARD OF 'platformfwlaw12.NamespaceRejects'. -/
def namespaceRejectsUptoCard : Claim7 := { stood := { row := namespaceRejectsUptoRow, standIns := [], harness := (true, "09cf7a60c04cc8033c44848ffdc974449db9c73d1b3c3f3137c27124a35616aa"), looks := true }, kinds := [], alts := [], laidByText := true, laidKinds := [.data, .data, .data, .data, .pinned], laidTests := true, laidLooks := .later }
def NamespaceRejectsUptoCardSaid : Prop := Claim7.holds Tryz.pinned (.plain (OpenSpec.upto namespaceRejectsSpec)) namespaceRejectsUptoCard

/-- THE SECOND FORM's CARD OF 'platformfwlaw12.NamespaceUnloadRestores'. -/
def namespaceUnloadRestoresUptoCard : Claim7 := { stood := { row := namespaceUnloadRestoresUptoRow, standIns := [], harness := (true, "09cf7a60c04cc8033c44848ffdc974449db9c73d1b3c3f3137c27124a35616aa"), looks := true }, kinds := [], alts := [], laidByText := true, laidKinds := [.data, .data, .data, .data, .pinned], laidTests := true, laidLooks := .later }
def NamespaceUnloadRestoresUptoCardSaid : Prop := Claim7.holds Tryz.pinned (.plain (OpenSpec.upto namespaceUnloadRestoresSpec)) namespaceUnloadRestoresUptoCard

/-- THE SECOND FORM's CARD OF 'platformfwlaw12.NamespaceMatchesModel'. -/
def namespaceMatchesModelUptoCard : Claim7 := { stood := { row := namespaceMatchesModelUptoRow, standIns := [], harness := (true, "09cf7a60c04cc8033c44848ffdc974449db9c73d1b3c3f3137c27124a35616aa"), looks := true }, kinds := [], alts := [], laidByText := true, laidKinds := [.data, .data, .data, .data, .pinned], laidTests := true, laidLooks := .later }
def NamespaceMatchesModelUptoCardSaid : Prop := Claim7.holds Tryz.pinned (.plain (OpenSpec.upto namespaceMatchesModelSpec)) namespaceMatchesModelUptoCard
end Rows
end Go.Proofs.YtegjgpldfgjoiaaGreatDoor
