/-
  DERIVED. GIVEN WITH THE SEED: THE CARDS: each row of YtceahkcepefcaaaGreatDoorRows.lean that lists a variable, with what it lists TIED to the program's text (the seventh form; the later family's looks); each row that meets fmt, with fmt's text TOLD by the authors' own Lean function (tested against real Go, not proved from fmt's source: count such statements apart). THE CARD IS WHAT COUNTS. Prove the row's statement (the work); the ties are given (YtceahkcepefcaaaGreatDoorTie.lean); close each card by the builder's one call (the guide's Derived/Test/ToyasCard.lean, 'card_holds'). Laid BY PROGRAM, IN A SANDBOX (cutbox-door.mjs). By AI agents, Wed Nov 11 2026. No macro, syntax, notation, axiom, sorry.
-/
import Derived.Test.YtceahkcepefcaaaGreatDoorRows
import GoSem.ClaimSeven
namespace Go.Proofs.YtceahkcepefcaaaGreatDoor
namespace Rows

/-- THE TIED CARD OF 'hachuretop.WholeErrors'. -/
def wholeErrorsCard : Claim7 := { stood := { row := wholeErrorsRow, standIns := [], harness := (true, "01eb2991904798ce6eba21b8520fb34cc6c2af9b4b7aaa3b22371c71e7e0d0ec"), looks := true }, kinds := [], alts := [], laidByText := true, laidKinds := [.data, .data, .data, .data, .sentinel, .sentinel, .data, .data, .pinned], laidTests := true, laidLooks := .later }
def WholeErrorsCardSaid : Prop := Claim7.holds Tryz.pinned (.plain (OpenSpec.ofChange wholeErrorsSpec)) wholeErrorsCard

/-- THE SECOND FORM's CARD OF 'hachuretop.WholeErrors'. -/
def wholeErrorsUptoCard : Claim7 := { stood := { row := wholeErrorsUptoRow, standIns := [], harness := (true, "01eb2991904798ce6eba21b8520fb34cc6c2af9b4b7aaa3b22371c71e7e0d0ec"), looks := true }, kinds := [], alts := [], laidByText := true, laidKinds := [.data, .data, .data, .data, .sentinel, .sentinel, .data, .data, .pinned], laidTests := true, laidLooks := .later }
def WholeErrorsUptoCardSaid : Prop := Claim7.holds Tryz.pinned (.plain (OpenSpec.upto wholeErrorsSpec)) wholeErrorsUptoCard
end Rows
end Go.Proofs.YtceahkcepefcaaaGreatDoor
