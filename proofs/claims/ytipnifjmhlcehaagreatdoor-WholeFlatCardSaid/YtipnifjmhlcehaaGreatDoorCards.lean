/-
  DERIVED. GIVEN WITH THE SEED: THE CARDS: each row of YtipnifjmhlcehaaGreatDoorRows.lean that lists a variable, with what it lists TIED to the program's text (the seventh form; the later family's looks); each row that meets fmt, with fmt's text TOLD by the authors' own Lean function (tested against real Go, not proved from fmt's source: count such statements apart). THE CARD IS WHAT COUNTS. Prove the row's statement (the work); the ties are given (YtipnifjmhlcehaaGreatDoorTie.lean); close each card by the builder's one call (the guide's Derived/Test/ToyasCard.lean, 'card_holds'). Laid BY PROGRAM, IN A SANDBOX (cutbox-door.mjs). By AI agents, Wed Nov 11 2026. No macro, syntax, notation, axiom, sorry.
-/
import Derived.Test.YtipnifjmhlcehaaGreatDoorRows
import GoSem.ClaimSeven
namespace Go.Proofs.YtipnifjmhlcehaaGreatDoor
namespace Rows

/-- THE TIED CARD OF 'hachuretop.WholeFlat'. -/
def wholeFlatCard : Claim7 := { stood := { row := wholeFlatRow, standIns := [], harness := (true, "ce068aacc208824d86e357564751646567720b08957459e4fe656e6c537d7c79"), looks := true }, kinds := [], alts := [], laidByText := true, laidKinds := [.data, .data, .data, .data, .sentinel, .sentinel, .data, .data, .pinned], laidTests := true, laidLooks := .later }
def WholeFlatCardSaid : Prop := Claim7.holds Tryz.pinned (.plain (OpenSpec.ofChange wholeFlatSpec)) wholeFlatCard

/-- THE SECOND FORM's CARD OF 'hachuretop.WholeFlat'. -/
def wholeFlatUptoCard : Claim7 := { stood := { row := wholeFlatUptoRow, standIns := [], harness := (true, "ce068aacc208824d86e357564751646567720b08957459e4fe656e6c537d7c79"), looks := true }, kinds := [], alts := [], laidByText := true, laidKinds := [.data, .data, .data, .data, .sentinel, .sentinel, .data, .data, .pinned], laidTests := true, laidLooks := .later }
def WholeFlatUptoCardSaid : Prop := Claim7.holds Tryz.pinned (.plain (OpenSpec.upto wholeFlatSpec)) wholeFlatUptoCard
end Rows
end Go.Proofs.YtipnifjmhlcehaaGreatDoor
