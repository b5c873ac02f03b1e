/-
  DERIVED. GIVEN WITH THE SEED: THE CARDS: each row of YtjfeklflkikapaaGreatDoorRows.lean that lists a variable, with what it lists TIED to the program's text (the seventh form; the later family's looks); each row that meets fmt, with fmt's text TOLD by the authors' own Lean function (tested against real Go, not proved from fmt's source: count such statements apart). THE CARD IS WHAT COUNTS. Prove the row's statement (the work); the ties are given (YtjfeklflkikapaaGreatDoorTie.lean); close each card by the builder's one call (the guide's Derived/Test/ToyasCard.lean, 'card_holds'). Laid BY PROGRAM, IN A SANDBOX (cutbox-door.mjs). By AI agents, Wed Nov 11 2026. No macro, syntax, notation, axiom, sorry.
-/
import Derived.Test.YtjfeklflkikapaaGreatDoorRows
import GoSem.ClaimSeven
namespace Go.Proofs.YtjfeklflkikapaaGreatDoor
namespace Rows

/-- THE TIED CARD OF 'hachuretop.WholeLevels'. -/
def wholeLevelsCard : Claim7 := { stood := { row := wholeLevelsRow, standIns := [], harness := (true, "798f7eeaaf36a52b91fef3331b2cba14cfd54ca6568a6e89e3e2c4f23aa43a3c"), looks := true }, kinds := [], alts := [], laidByText := true, laidKinds := [.data, .data, .data, .data, .sentinel, .sentinel, .data, .data, .pinned], laidTests := true, laidLooks := .later }
def WholeLevelsCardSaid : Prop := Claim7.holds Tryz.pinned (.plain (OpenSpec.ofChange wholeLevelsSpec)) wholeLevelsCard

/-- THE SECOND FORM's CARD OF 'hachuretop.WholeLevels'. -/
def wholeLevelsUptoCard : Claim7 := { stood := { row := wholeLevelsUptoRow, standIns := [], harness := (true, "798f7eeaaf36a52b91fef3331b2cba14cfd54ca6568a6e89e3e2c4f23aa43a3c"), looks := true }, kinds := [], alts := [], laidByText := true, laidKinds := [.data, .data, .data, .data, .sentinel, .sentinel, .data, .data, .pinned], laidTests := true, laidLooks := .later }
def WholeLevelsUptoCardSaid : Prop := Claim7.holds Tryz.pinned (.plain (OpenSpec.upto wholeLevelsSpec)) wholeLevelsUptoCard
end Rows
end Go.Proofs.YtjfeklflkikapaaGreatDoor
