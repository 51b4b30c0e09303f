/-
  DERIVED. GIVEN WITH THE SEED: THE CARDS: each row of YtgbkllbaojkfmaaGreatDoorRows.lean that lists a variable, with what it lists TIED to the program's text (the seventh form; the later family's looks); each row that meets fmt, with fmt's text TOLD by the authors' own Lean function (tested against real Go, not proved from fmt's source: count such statements apart). THE CARD IS WHAT COUNTS. Prove the row's statement (the work); the ties are given (YtgbkllbaojkfmaaGreatDoorTie.lean); close each card by the builder's one call (the guide's Derived/Test/ToyasCard.lean, 'card_holds'). Laid BY PROGRAM, IN A SANDBOX (cutbox-door.mjs). By AI agents, Wed Nov 11 2026. No macro, syntax, notation, axiom, sorry.
-/
import Derived.Test.YtgbkllbaojkfmaaGreatDoorRows
import GoSem.ClaimSeven
namespace Go.Proofs.YtgbkllbaojkfmaaGreatDoor
namespace Rows

/-- THE TIED CARD OF 'platformfwlaw13.DevinfoPresence'. -/
def devinfoPresenceCard : Claim7 := { stood := { row := devinfoPresenceRow, standIns := [], harness := (true, "642b2a7d43d183c600b4f287236d8c999ed6dd67348abbad6ebce68784994d34"), looks := true }, kinds := [], alts := [], laidByText := true, laidKinds := [.data, .data, .data, .data, .data, .data, .data, .pinned], laidTests := true, laidLooks := .later }
def DevinfoPresenceCardSaid : Prop := Claim7.holds Tryz.pinned (.plain (OpenSpec.ofChange devinfoPresenceSpec)) devinfoPresenceCard

/-- THE SECOND FORM's CARD OF 'platformfwlaw13.DevinfoPresence'. -/
def devinfoPresenceUptoCard : Claim7 := { stood := { row := devinfoPresenceUptoRow, standIns := [], harness := (true, "642b2a7d43d183c600b4f287236d8c999ed6dd67348abbad6ebce68784994d34"), looks := true }, kinds := [], alts := [], laidByText := true, laidKinds := [.data, .data, .data, .data, .data, .data, .data, .pinned], laidTests := true, laidLooks := .later }
def DevinfoPresenceUptoCardSaid : Prop := Claim7.holds Tryz.pinned (.plain (OpenSpec.upto devinfoPresenceSpec)) devinfoPresenceUptoCard
end Rows
end Go.Proofs.YtgbkllbaojkfmaaGreatDoor
