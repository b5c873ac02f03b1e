/-
  DERIVED. GIVEN WITH THE SEED: THE CARDS: each row of YtcalhocphkbbgaaGreatDoorRows.lean that lists a variable, with what it lists TIED to the program's text (the seventh form; the later family's looks); each row that meets fmt, with fmt's text TOLD by the authors' own Lean function (tested against real Go, not proved from fmt's source: count such statements apart). THE CARD IS WHAT COUNTS. Prove the row's statement (the work); the ties are given (YtcalhocphkbbgaaGreatDoorTie.lean); close each card by the builder's one call (the guide's Derived/Test/ToyasCard.lean, 'card_holds'). Laid BY PROGRAM, IN A SANDBOX (cutbox-door.mjs). By AI agents, Wed Nov 11 2026. No macro, syntax, notation, axiom, sorry.
-/
import Derived.Test.YtcalhocphkbbgaaGreatDoorRows
import GoSem.ClaimSeven
namespace Go.Proofs.YtcalhocphkbbgaaGreatDoor
namespace Rows

/-- THE TIED CARD OF 'hachuretop.WholeWater'. -/
def wholeWaterCard : Claim7 := { stood := { row := wholeWaterRow, standIns := [], harness := (true, "23c8aadf38d2ce53119f97e8cd23a96dbf71bf64cc628f507a74f9edaf0d77cb"), looks := true }, kinds := [], alts := [], laidByText := true, laidKinds := [.data, .data, .data, .data, .sentinel, .sentinel, .data, .data, .pinned], laidTests := true, laidLooks := .later }
def WholeWaterCardSaid : Prop := Claim7.holds Tryz.pinned (.plain (OpenSpec.ofChange wholeWaterSpec)) wholeWaterCard

/-- THE TIED CARD OF 'hachuretop.WholeCharts'. -/
def wholeChartsCard : Claim7 := { stood := { row := wholeChartsRow, standIns := [], harness := (true, "23c8aadf38d2ce53119f97e8cd23a96dbf71bf64cc628f507a74f9edaf0d77cb"), looks := true }, kinds := [], alts := [], laidByText := true, laidKinds := [.data, .data, .data, .data, .sentinel, .sentinel, .data, .data, .pinned], laidTests := true, laidLooks := .later }
def WholeChartsCardSaid : Prop := Claim7.holds Tryz.pinned (.plain (OpenSpec.ofChange wholeChartsSpec)) wholeChartsCard

/-- THE SECOND FORM's CARD OF 'hachuretop.WholeWater'. -/
def wholeWaterUptoCard : Claim7 := { stood := { row := wholeWaterUptoRow, standIns := [], harness := (true, "23c8aadf38d2ce53119f97e8cd23a96dbf71bf64cc628f507a74f9edaf0d77cb"), looks := true }, kinds := [], alts := [], laidByText := true, laidKinds := [.data, .data, .data, .data, .sentinel, .sentinel, .data, .data, .pinned], laidTests := true, laidLooks := .later }
def WholeWaterUptoCardSaid : Prop := Claim7.holds Tryz.pinned (.plain (OpenSpec.upto wholeWaterSpec)) wholeWaterUptoCard

/-- THE SECOND FORM's CARD OF 'hachuretop.WholeCharts'. -/
def wholeChartsUptoCard : Claim7 := { stood := { row := wholeChartsUptoRow, standIns := [], harness := (true, "23c8aadf38d2ce53119f97e8cd23a96dbf71bf64cc628f507a74f9edaf0d77cb"), looks := true }, kinds := [], alts := [], laidByText := true, laidKinds := [.data, .data, .data, .data, .sentinel, .sentinel, .data, .data, .pinned], laidTests := true, laidLooks := .later }
def WholeChartsUptoCardSaid : Prop := Claim7.holds Tryz.pinned (.plain (OpenSpec.upto wholeChartsSpec)) wholeChartsUptoCard
end Rows
end Go.Proofs.YtcalhocphkbbgaaGreatDoor
