/-
  DERIVED. GIVEN WITH THE SEED: THE CARDS: each row of YtphdhedhhlfepaaGreatDoorRows.lean that lists a variable, with what it lists TIED to the program's text (the seventh form; the later family's looks); each row that meets fmt, with fmt's text TOLD by the authors' own Lean function (tested against real Go, not proved from fmt's source: count such statements apart). THE CARD IS WHAT COUNTS. Prove the row's statement (the work); the ties are given (YtphdhedhhlfepaaGreatDoorTie.lean); close each card by the builder's one call (the guide's Derived/Test/ToyasCard.lean, 'card_holds'). Laid BY PROGRAM, IN A SANDBOX (cutbox-door.mjs). By AI agents, Wed Nov 11 2026. No macro, syntax, notation, axiom, sorry.
-/
import Derived.Test.YtphdhedhhlfepaaGreatDoorRows
import GoSem.ClaimSeven
namespace Go.Proofs.YtphdhedhhlfepaaGreatDoor
namespace Rows

/-- THE TIED CARD OF 'platformfwlaw04.CheckMatchesModel'. -/
def checkMatchesModelCard : Claim7 := { stood := { row := checkMatchesModelRow, standIns := [], harness := (true, "931de598fe2e205be77cc9a90b75c6635dcd58d5ec3234a35903386ce8d98ca7"), looks := false }, kinds := [], alts := [], laidByText := true, laidKinds := [.data, .data, .data, .data, .pinned], laidTests := true, laidLooks := .later }
def CheckMatchesModelCardSaid : Prop := Claim7.holds Tryz.pinned (.plain (OpenSpec.ofChange checkMatchesModelSpec)) checkMatchesModelCard

/-- THE TIED CARD OF 'platformfwlaw04.CheckNumbers'. -/
def checkNumbersCard : Claim7 := { stood := { row := checkNumbersRow, standIns := [], harness := (true, "931de598fe2e205be77cc9a90b75c6635dcd58d5ec3234a35903386ce8d98ca7"), looks := false }, kinds := [], alts := [], laidByText := true, laidKinds := [.data, .data, .data, .data, .pinned], laidTests := true, laidLooks := .later }
def CheckNumbersCardSaid : Prop := Claim7.holds Tryz.pinned (.plain (OpenSpec.ofChange checkNumbersSpec)) checkNumbersCard

/-- THE TIED CARD OF 'platformfwlaw04.CheckNames'. -/
def checkNamesCard : Claim7 := { stood := { row := checkNamesRow, standIns := [], harness := (true, "931de598fe2e205be77cc9a90b75c6635dcd58d5ec3234a35903386ce8d98ca7"), looks := false }, kinds := [], alts := [], laidByText := true, laidKinds := [.data, .data, .data, .data, .pinned], laidTests := true, laidLooks := .later }
def CheckNamesCardSaid : Prop := Claim7.holds Tryz.pinned (.plain (OpenSpec.ofChange checkNamesSpec)) checkNamesCard

/-- THE TIED CARD OF 'platformfwlaw04.CheckUniquePaths'. -/
def checkUniquePathsCard : Claim7 := { stood := { row := checkUniquePathsRow, standIns := [], harness := (true, "931de598fe2e205be77cc9a90b75c6635dcd58d5ec3234a35903386ce8d98ca7"), looks := false }, kinds := [], alts := [], laidByText := true, laidKinds := [.data, .data, .data, .data, .pinned], laidTests := true, laidLooks := .later }
def CheckUniquePathsCardSaid : Prop := Claim7.holds Tryz.pinned (.plain (OpenSpec.ofChange checkUniquePathsSpec)) checkUniquePathsCard

/-- THE TIED CARD OF 'platformfwlaw04.CheckScopes'. -/
def checkScopesCard : Claim7 := { stood := { row := checkScopesRow, standIns := [], harness := (true, "931de598fe2e205be77cc9a90b75c6635dcd58d5ec3234a35903386ce8d98ca7"), looks := false }, kinds := [], alts := [], laidByText := true, laidKinds := [.data, .data, .data, .data, .pinned], laidTests := true, laidLooks := .later }
def CheckScopesCardSaid : Prop := Claim7.holds Tryz.pinned (.plain (OpenSpec.ofChange checkScopesSpec)) checkScopesCard

/-- THE TIED CARD OF 'platformfwlaw04.CheckOrder'. -/
def checkOrderCard : Claim7 := { stood := { row := checkOrderRow, standIns := [], harness := (true, "931de598fe2e205be77cc9a90b75c6635dcd58d5ec3234a35903386ce8d98ca7"), looks := false }, kinds := [], alts := [], laidByText := true, laidKinds := [.data, .data, .data, .data, .pinned], laidTests := true, laidLooks := .later }
def CheckOrderCardSaid : Prop := Claim7.holds Tryz.pinned (.plain (OpenSpec.ofChange checkOrderSpec)) checkOrderCard

/-- THE SECOND FORM's CARD OF 'platformfwlaw04.CheckMatchesModel'. -/
def checkMatchesModelUptoCard : Claim7 := { stood := { row := checkMatchesModelUptoRow, standIns := [], harness := (true, "931de598fe2e205be77cc9a90b75c6635dcd58d5ec3234a35903386ce8d98ca7"), looks := false }, kinds := [], alts := [], laidByText := true, laidKinds := [.data, .data, .data, .data, .pinned], laidTests := true, laidLooks := .later }
def CheckMatchesModelUptoCardSaid : Prop := Claim7.holds Tryz.pinned (.plain (OpenSpec.upto checkMatchesModelSpec)) checkMatchesModelUptoCard

/-- THE SECOND FORM's CARD OF 'platformfwlaw04.CheckNumbers'. -/
def checkNumbersUptoCard : Claim7 := { stood := { row := checkNumbersUptoRow, standIns := [], harness := (true, "931de598fe2e205be77cc9a90b75c6635dcd58d5ec3234a35903386ce8d98ca7"), looks := false }, kinds := [], alts := [], laidByText := true, laidKinds := [.data, .data, .data, .data, .pinned], laidTests := true, laidLooks := .later }
def CheckNumbersUptoCardSaid : Prop := Claim7.holds Tryz.pinned (.plain (OpenSpec.upto checkNumbersSpec)) checkNumbersUptoCard

/-- THE SECOND FORM's CARD OF 'platformfwlaw04.CheckNames'. -/
def checkNamesUptoCard : Claim7 := { stood := { row := checkNamesUptoRow, standIns := [], harness := (true, "931de598fe2e205be77cc9a90b75c6635dcd58d5ec3234a35903386ce8d98ca7"), looks := false }, kinds := [], alts := [], laidByText := true, laidKinds := [.data, .data, .data, .data, .pinned], laidTests := true, laidLooks := .later }
def CheckNamesUptoCardSaid : Prop := Claim7.holds Tryz.pinned (.plain (OpenSpec.upto checkNamesSpec)) checkNamesUptoCard

/-- THE SECOND FORM's CARD OF 'platformfwlaw04.CheckUniquePaths'. -/
def checkUniquePathsUptoCard : Claim7 := { stood := { row := checkUniquePathsUptoRow, standIns := [], harness := (true, "931de598fe2e205be77cc9a90b75c6635dcd58d5ec3234a35903386ce8d98ca7"), looks := false }, kinds := [], alts := [], laidByText := true, laidKinds := [.data, .data, .data, .data, .pinned], laidTests := true, laidLooks := .later }
def CheckUniquePathsUptoCardSaid : Prop := Claim7.holds Tryz.pinned (.plain (OpenSpec.upto checkUniquePathsSpec)) checkUniquePathsUptoCard

/-- THE SECOND FORM's CARD OF 'platformfwlaw04.CheckScopes'. -/
def checkScopesUptoCard : Claim7 := { stood := { row := checkScopesUptoRow, standIns := [], harness := (true, "931de598fe2e205be77cc9a90b75c6635dcd58d5ec3234a35903386ce8d98ca7"), looks := false }, kinds := [], alts := [], laidByText := true, laidKinds := [.data, .data, .data, .data, .pinned], laidTests := true, laidLooks := .later }
def CheckScopesUptoCardSaid : Prop := Claim7.holds Tryz.pinned (.plain (OpenSpec.upto checkScopesSpec)) checkScopesUptoCard

/-- THE SECOND FORM's CARD OF 'platformfwlaw04.CheckOrder'. -/
def checkOrderUptoCard : Claim7 := { stood := { row := checkOrderUptoRow, standIns := [], harness := (true, "931de598fe2e205be77cc9a90b75c6635dcd58d5ec3234a35903386ce8d98ca7"), looks := false }, kinds := [], alts := [], laidByText := true, laidKinds := [.data, .data, .data, .data, .pinned], laidTests := true, laidLooks := .later }
def CheckOrderUptoCardSaid : Prop := Claim7.holds Tryz.pinned (.plain (OpenSpec.upto checkOrderSpec)) checkOrderUptoCard
end Rows
end Go.Proofs.YtphdhedhhlfepaaGreatDoor
