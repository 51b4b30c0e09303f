/-
  DERIVED. GIVEN WITH THE SEED: THE CARDS: each row of YtbokilgdefkmiaaGreatDoorRows.lean that lists a variable, with what it lists TIED to the program's text (the seventh form; the later family's looks); each row that meets fmt, with fmt's text TOLD by the authors' own Lean function (tested against real Go, not proved from fmt's source: count such statements apart). THE CARD IS WHAT COUNTS. Prove the row's statement (the work); the ties are given (YtbokilgdefkmiaaGreatDoorTie.lean); close each card by the builder's one call (the guide's Derived/Test/ToyasCard.lean, 'card_holds'). Laid BY PROGRAM, IN A SANDBOX (cutbox-door.mjs). By AI agents, Wed Nov 11 2026. No macro, syntax, notation, axiom, sorry.
-/
import Derived.Test.YtbokilgdefkmiaaGreatDoorRows
import GoSem.ClaimSeven
namespace Go.Proofs.YtbokilgdefkmiaaGreatDoor
namespace Rows

/-- THE TIED CARD OF 'platformfwlaw14.LowerMatchesModel'. -/
def lowerMatchesModelCard : Claim7 := { stood := { row := lowerMatchesModelRow, standIns := [], harness := (true, "243892b285f9acb236f7bca336c9d9198fbb9dd687300925fa391b11f427df69"), looks := false }, kinds := [], alts := [], laidByText := true, laidKinds := [.data, .data, .data, .data, .pinned], laidTests := true, laidLooks := .later }
def LowerMatchesModelCardSaid : Prop := Claim7.holds Tryz.pinned (.plain (OpenSpec.ofChange lowerMatchesModelSpec)) lowerMatchesModelCard

/-- THE TIED CARD OF 'platformfwlaw14.LowerCodeIsConsistent'. -/
def lowerCodeIsConsistentCard : Claim7 := { stood := { row := lowerCodeIsConsistentRow, standIns := [], harness := (true, "243892b285f9acb236f7bca336c9d9198fbb9dd687300925fa391b11f427df69"), looks := false }, kinds := [], alts := [], laidByText := true, laidKinds := [.data, .data, .data, .data, .pinned], laidTests := true, laidLooks := .later }
def LowerCodeIsConsistentCardSaid : Prop := Claim7.holds Tryz.pinned (.plain (OpenSpec.ofChange lowerCodeIsConsistentSpec)) lowerCodeIsConsistentCard

/-- THE TIED CARD OF 'platformfwlaw14.LowerEffects'. -/
def lowerEffectsCard : Claim7 := { stood := { row := lowerEffectsRow, standIns := [], harness := (true, "243892b285f9acb236f7bca336c9d9198fbb9dd687300925fa391b11f427df69"), looks := false }, kinds := [], alts := [], laidByText := true, laidKinds := [.data, .data, .data, .data, .pinned], laidTests := true, laidLooks := .later }
def LowerEffectsCardSaid : Prop := Claim7.holds Tryz.pinned (.plain (OpenSpec.ofChange lowerEffectsSpec)) lowerEffectsCard

/-- THE TIED CARD OF 'platformfwlaw14.LowerDoesNotAlias'. -/
def lowerDoesNotAliasCard : Claim7 := { stood := { row := lowerDoesNotAliasRow, standIns := [], harness := (true, "243892b285f9acb236f7bca336c9d9198fbb9dd687300925fa391b11f427df69"), looks := false }, kinds := [], alts := [], laidByText := true, laidKinds := [.data, .data, .data, .data, .pinned], laidTests := true, laidLooks := .later }
def LowerDoesNotAliasCardSaid : Prop := Claim7.holds Tryz.pinned (.plain (OpenSpec.ofChange lowerDoesNotAliasSpec)) lowerDoesNotAliasCard

/-- THE SECOND FORM's CARD OF 'platformfwlaw14.LowerMatchesModel'. -/
def lowerMatchesModelUptoCard : Claim7 := { stood := { row := lowerMatchesModelUptoRow, standIns := [], harness := (true, "243892b285f9acb236f7bca336c9d9198fbb9dd687300925fa391b11f427df69"), looks := false }, kinds := [], alts := [], laidByText := true, laidKinds := [.data, .data, .data, .data, .pinned], laidTests := true, laidLooks := .later }
def LowerMatchesModelUptoCardSaid : Prop := Claim7.holds Tryz.pinned (.plain (OpenSpec.upto lowerMatchesModelSpec)) lowerMatchesModelUptoCard

/-- THE SECOND FORM's CARD OF 'platformfwlaw14.LowerCodeIsConsistent'. -/
def lowerCodeIsConsistentUptoCard : Claim7 := { stood := { row := lowerCodeIsConsistentUptoRow, standIns := [], harness := (true, "243892b285f9acb236f7bca336c9d9198fbb9dd687300925fa391b11f427df69"), looks := false }, kinds := [], alts := [], laidByText := true, laidKinds := [.data, .data, .data, .data, .pinned], laidTests := true, laidLooks := .later }
def LowerCodeIsConsistentUptoCardSaid : Prop := Claim7.holds Tryz.pinned (.plain (OpenSpec.upto lowerCodeIsConsistentSpec)) lowerCodeIsConsistentUptoCard

/-- THE SECOND FORM's CARD OF 'platformfwlaw14.LowerEffects'. -/
def lowerEffectsUptoCard : Claim7 := { stood := { row := lowerEffectsUptoRow, standIns := [], harness := (true, "243892b285f9acb236f7bca336c9d9198fbb9dd687300925fa391b11f427df69"), looks := false }, kinds := [], alts := [], laidByText := true, laidKinds := [.data, .data, .data, .data, .pinned], laidTests := true, laidLooks := .later }
def LowerEffectsUptoCardSaid : Prop := Claim7.holds Tryz.pinned (.plain (OpenSpec.upto lowerEffectsSpec)) lowerEffectsUptoCard

/-- THE SECOND FORM's CARD OF 'platformfwlaw14.LowerDoesNotAlias'. -/
def lowerDoesNotAliasUptoCard : Claim7 := { stood := { row := lowerDoesNotAliasUptoRow, standIns := [], harness := (true, "243892b285f9acb236f7bca336c9d9198fbb9dd687300925fa391b11f427df69"), looks := false }, kinds := [], alts := [], laidByText := true, laidKinds := [.data, .data, .data, .data, .pinned], laidTests := true, laidLooks := .later }
def LowerDoesNotAliasUptoCardSaid : Prop := Claim7.holds Tryz.pinned (.plain (OpenSpec.upto lowerDoesNotAliasSpec)) lowerDoesNotAliasUptoCard
end Rows
end Go.Proofs.YtbokilgdefkmiaaGreatDoor
