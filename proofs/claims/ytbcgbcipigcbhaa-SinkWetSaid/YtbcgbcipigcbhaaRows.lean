/-
  No cell of these rows narrows 'for every input' (looked for: loops, veiled, ifaces, maps, wideKeys, modest, calm, conditions, laid).
  DERIVED. THE GIVEN ROWS OF THIS SEAT. 11 by the template 'for every input the law returns true; each argument reads behind the call as it read before'; 0 by the template 'total and deterministic' (their statements: YtbcgbcipigcbhaaTotals.lean).
  GIVEN WITH THE SEED: the statements are not yours to turn. If you find one false, say at which input.
  Laid BY PROGRAM, IN A SANDBOX (cutbox-rows.mjs): the forced cells as the released guide's own fill.sh prints them over the translation 7357046badf16b49… (all of the seat's roots in one cut). By AI agents, Wed Nov 11 2026. No macro, syntax, notation, axiom, sorry.
-/
import Derived.Test.YtbcgbcipigcbhaaChecked
import GoSem.Claim
import GoSem.ClaimJoined
import GoSem.ClaimMapViews
import Derived.JoinedTies
import Derived.KernelRfl
namespace Go.Proofs.Ytbcgbcipigcbhaa
/- THE CELL 'sum', in the pinned program and in every row, IS THE sha256 OF THE DUMP (.gsa) THAT YtbcgbcipigcbhaaProg.lean LOADS. Nothing in Lean hashes anything: it is a label: what it is worth is what the hold of that sum in a sandbox is worth. -/
noncomputable def Try.pinned : Pinned := { name := "ytbcgbcipigcbhaa", sum := "7357046badf16b49a01ce7c409471768570c87fff71635831a5bcd2e10d1b34c", checked := Try.checked }
namespace Rows
def none {H : Type} : Left H := { results := [], args := [] }

/-- 'hachurelaw45.FillLakes': WHATEVER THE INPUT: true; the input reads as it did. -/
def fillLakesSpec : ChangeSpec := { name := "fillLakes", fn := fun _ => fun
  | [d1, d2, d3] => { results := [.lit (.bool true)], args := [d1, d2, d3] }
  | _ => none }
def fillLakesRow : OpenClaim := { program := "ytbcgbcipigcbhaa", sum := "7357046badf16b49a01ce7c409471768570c87fff71635831a5bcd2e10d1b34c", func := "hachure/hachurelaw45.FillLakes", spec := "fillLakes", unfollowed := true, recurses := true, apart := false }
def FillLakesSaid : Prop := fillLakesRow.holds Try.pinned (OpenSpec.ofChange fillLakesSpec)

/-- ITS FALSE NEIGHBOUR: 'it returns false'. Refute it at one input. -/
def fillLakesWrong : ChangeSpec := { name := "fillLakes", fn := fun _ => fun
  | [d1, d2, d3] => { results := [.lit (.bool false)], args := [d1, d2, d3] }
  | _ => none }
def FillLakesWrongFalsely : Prop := fillLakesRow.holds Try.pinned (OpenSpec.ofChange fillLakesWrong)

/-- 'hachurelaw29.RegionsJoined': WHATEVER THE INPUT: true; the input reads as it did. -/
def regionsJoinedSpec : ChangeSpec := { name := "regionsJoined", fn := fun _ => fun
  | [d1, d2, d3, d4, d5] => { results := [.lit (.bool true)], args := [d1, d2, d3, d4, d5] }
  | _ => none }
def regionsJoinedRow : OpenClaim := { program := "ytbcgbcipigcbhaa", sum := "7357046badf16b49a01ce7c409471768570c87fff71635831a5bcd2e10d1b34c", func := "hachure/hachurelaw29.RegionsJoined", spec := "regionsJoined", unfollowed := true, recurses := true, apart := false }
def RegionsJoinedSaid : Prop := regionsJoinedRow.holds Try.pinned (OpenSpec.ofChange regionsJoinedSpec)

/-- ITS FALSE NEIGHBOUR: 'it returns false'. Refute it at one input. -/
def regionsJoinedWrong : ChangeSpec := { name := "regionsJoined", fn := fun _ => fun
  | [d1, d2, d3, d4, d5] => { results := [.lit (.bool false)], args := [d1, d2, d3, d4, d5] }
  | _ => none }
def RegionsJoinedWrongFalsely : Prop := regionsJoinedRow.holds Try.pinned (OpenSpec.ofChange regionsJoinedWrong)

/-- 'hachurelaw31.SinkBasins': WHATEVER THE INPUT: true; the input reads as it did. -/
def sinkBasinsSpec : ChangeSpec := { name := "sinkBasins", fn := fun _ => fun
  | [d1, d2, d3] => { results := [.lit (.bool true)], args := [d1, d2, d3] }
  | _ => none }
def sinkBasinsRow : OpenClaim := { program := "ytbcgbcipigcbhaa", sum := "7357046badf16b49a01ce7c409471768570c87fff71635831a5bcd2e10d1b34c", func := "hachure/hachurelaw31.SinkBasins", spec := "sinkBasins", unfollowed := true, recurses := true, apart := false }
def SinkBasinsSaid : Prop := sinkBasinsRow.holds Try.pinned (OpenSpec.ofChange sinkBasinsSpec)

/-- ITS FALSE NEIGHBOUR: 'it returns false'. Refute it at one input. -/
def sinkBasinsWrong : ChangeSpec := { name := "sinkBasins", fn := fun _ => fun
  | [d1, d2, d3] => { results := [.lit (.bool false)], args := [d1, d2, d3] }
  | _ => none }
def SinkBasinsWrongFalsely : Prop := sinkBasinsRow.holds Try.pinned (OpenSpec.ofChange sinkBasinsWrong)

/-- 'hachurelaw31.SinkWays': WHATEVER THE INPUT: true; the input reads as it did. -/
def sinkWaysSpec : ChangeSpec := { name := "sinkWays", fn := fun _ => fun
  | [d1, d2, d3, d4] => { results := [.lit (.bool true)], args := [d1, d2, d3, d4] }
  | _ => none }
def sinkWaysRow : OpenClaim := { program := "ytbcgbcipigcbhaa", sum := "7357046badf16b49a01ce7c409471768570c87fff71635831a5bcd2e10d1b34c", func := "hachure/hachurelaw31.SinkWays", spec := "sinkWays", unfollowed := true, recurses := true, apart := false }
def SinkWaysSaid : Prop := sinkWaysRow.holds Try.pinned (OpenSpec.ofChange sinkWaysSpec)

/-- ITS FALSE NEIGHBOUR: 'it returns false'. Refute it at one input. -/
def sinkWaysWrong : ChangeSpec := { name := "sinkWays", fn := fun _ => fun
  | [d1, d2, d3, d4] => { results := [.lit (.bool false)], args := [d1, d2, d3, d4] }
  | _ => none }
def SinkWaysWrongFalsely : Prop := sinkWaysRow.holds Try.pinned (OpenSpec.ofChange sinkWaysWrong)

/-- 'hachurelaw31.SinkWet': WHATEVER THE INPUT: true; the input reads as it did. -/
def sinkWetSpec : ChangeSpec := { name := "sinkWet", fn := fun _ => fun
  | [d1, d2, d3, d4] => { results := [.lit (.bool true)], args := [d1, d2, d3, d4] }
  | _ => none }
def sinkWetRow : OpenClaim := { program := "ytbcgbcipigcbhaa", sum := "7357046badf16b49a01ce7c409471768570c87fff71635831a5bcd2e10d1b34c", func := "hachure/hachurelaw31.SinkWet", spec := "sinkWet", unfollowed := true, recurses := true, apart := false }
def SinkWetSaid : Prop := sinkWetRow.holds Try.pinned (OpenSpec.ofChange sinkWetSpec)

/-- ITS FALSE NEIGHBOUR: 'it returns false'. Refute it at one input. -/
def sinkWetWrong : ChangeSpec := { name := "sinkWet", fn := fun _ => fun
  | [d1, d2, d3, d4] => { results := [.lit (.bool false)], args := [d1, d2, d3, d4] }
  | _ => none }
def SinkWetWrongFalsely : Prop := sinkWetRow.holds Try.pinned (OpenSpec.ofChange sinkWetWrong)

/-- 'hachurelaw31.SinkNil': WHATEVER THE INPUT: true; the input reads as it did. -/
def sinkNilSpec : ChangeSpec := { name := "sinkNil", fn := fun _ => fun
  | [d] => { results := [.lit (.bool true)], args := [d] }
  | _ => none }
def sinkNilRow : OpenClaim := { program := "ytbcgbcipigcbhaa", sum := "7357046badf16b49a01ce7c409471768570c87fff71635831a5bcd2e10d1b34c", func := "hachure/hachurelaw31.SinkNil", spec := "sinkNil", unfollowed := true, recurses := true, apart := false }
def SinkNilSaid : Prop := sinkNilRow.holds Try.pinned (OpenSpec.ofChange sinkNilSpec)

/-- ITS FALSE NEIGHBOUR: 'it returns false'. Refute it at one input. -/
def sinkNilWrong : ChangeSpec := { name := "sinkNil", fn := fun _ => fun
  | [d] => { results := [.lit (.bool false)], args := [d] }
  | _ => none }
def SinkNilWrongFalsely : Prop := sinkNilRow.holds Try.pinned (OpenSpec.ofChange sinkNilWrong)

/-- 'hachurelaw44.SmoothOpens': WHATEVER THE INPUT: true; the input reads as it did. -/
def smoothOpensSpec : ChangeSpec := { name := "smoothOpens", fn := fun _ => fun
  | [d1, d2, d3, d4] => { results := [.lit (.bool true)], args := [d1, d2, d3, d4] }
  | _ => none }
def smoothOpensRow : OpenClaim := { program := "ytbcgbcipigcbhaa", sum := "7357046badf16b49a01ce7c409471768570c87fff71635831a5bcd2e10d1b34c", func := "hachure/hachurelaw44.SmoothOpens", spec := "smoothOpens", unfollowed := true, recurses := true, apart := false }
def SmoothOpensSaid : Prop := smoothOpensRow.holds Try.pinned (OpenSpec.ofChange smoothOpensSpec)

/-- ITS FALSE NEIGHBOUR: 'it returns false'. Refute it at one input. -/
def smoothOpensWrong : ChangeSpec := { name := "smoothOpens", fn := fun _ => fun
  | [d1, d2, d3, d4] => { results := [.lit (.bool false)], args := [d1, d2, d3, d4] }
  | _ => none }
def SmoothOpensWrongFalsely : Prop := smoothOpensRow.holds Try.pinned (OpenSpec.ofChange smoothOpensWrong)

/-- 'hachurelaw44.SmoothNil': WHATEVER THE INPUT: true; the input reads as it did. -/
def smoothNilSpec : ChangeSpec := { name := "smoothNil", fn := fun _ => fun
  | [d] => { results := [.lit (.bool true)], args := [d] }
  | _ => none }
def smoothNilRow : OpenClaim := { program := "ytbcgbcipigcbhaa", sum := "7357046badf16b49a01ce7c409471768570c87fff71635831a5bcd2e10d1b34c", func := "hachure/hachurelaw44.SmoothNil", spec := "smoothNil", unfollowed := true, recurses := true, apart := false }
def SmoothNilSaid : Prop := smoothNilRow.holds Try.pinned (OpenSpec.ofChange smoothNilSpec)

/-- ITS FALSE NEIGHBOUR: 'it returns false'. Refute it at one input. -/
def smoothNilWrong : ChangeSpec := { name := "smoothNil", fn := fun _ => fun
  | [d] => { results := [.lit (.bool false)], args := [d] }
  | _ => none }
def SmoothNilWrongFalsely : Prop := smoothNilRow.holds Try.pinned (OpenSpec.ofChange smoothNilWrong)

/-- 'hachurelaw44.SmoothMeans': WHATEVER THE INPUT: true; the input reads as it did. -/
def smoothMeansSpec : ChangeSpec := { name := "smoothMeans", fn := fun _ => fun
  | [d1, d2, d3, d4] => { results := [.lit (.bool true)], args := [d1, d2, d3, d4] }
  | _ => none }
def smoothMeansRow : OpenClaim := { program := "ytbcgbcipigcbhaa", sum := "7357046badf16b49a01ce7c409471768570c87fff71635831a5bcd2e10d1b34c", func := "hachure/hachurelaw44.SmoothMeans", spec := "smoothMeans", unfollowed := true, recurses := true, apart := false }
def SmoothMeansSaid : Prop := smoothMeansRow.holds Try.pinned (OpenSpec.ofChange smoothMeansSpec)

/-- ITS FALSE NEIGHBOUR: 'it returns false'. Refute it at one input. -/
def smoothMeansWrong : ChangeSpec := { name := "smoothMeans", fn := fun _ => fun
  | [d1, d2, d3, d4] => { results := [.lit (.bool false)], args := [d1, d2, d3, d4] }
  | _ => none }
def SmoothMeansWrongFalsely : Prop := smoothMeansRow.holds Try.pinned (OpenSpec.ofChange smoothMeansWrong)

/-- 'hachurelaw46.PeaksBest': WHATEVER THE INPUT: true; the input reads as it did. -/
def peaksBestSpec : ChangeSpec := { name := "peaksBest", fn := fun _ => fun
  | [d1, d2, d3, d4] => { results := [.lit (.bool true)], args := [d1, d2, d3, d4] }
  | _ => none }
def peaksBestRow : OpenClaim := { program := "ytbcgbcipigcbhaa", sum := "7357046badf16b49a01ce7c409471768570c87fff71635831a5bcd2e10d1b34c", func := "hachure/hachurelaw46.PeaksBest", spec := "peaksBest", unfollowed := true, recurses := true, apart := false }
def PeaksBestSaid : Prop := peaksBestRow.holds Try.pinned (OpenSpec.ofChange peaksBestSpec)

/-- ITS FALSE NEIGHBOUR: 'it returns false'. Refute it at one input. -/
def peaksBestWrong : ChangeSpec := { name := "peaksBest", fn := fun _ => fun
  | [d1, d2, d3, d4] => { results := [.lit (.bool false)], args := [d1, d2, d3, d4] }
  | _ => none }
def PeaksBestWrongFalsely : Prop := peaksBestRow.holds Try.pinned (OpenSpec.ofChange peaksBestWrong)

/-- 'hachurelaw46.PeaksNil': WHATEVER THE INPUT: true; the input reads as it did. -/
def peaksNilSpec : ChangeSpec := { name := "peaksNil", fn := fun _ => fun
  | [d1, d2] => { results := [.lit (.bool true)], args := [d1, d2] }
  | _ => none }
def peaksNilRow : OpenClaim := { program := "ytbcgbcipigcbhaa", sum := "7357046badf16b49a01ce7c409471768570c87fff71635831a5bcd2e10d1b34c", func := "hachure/hachurelaw46.PeaksNil", spec := "peaksNil", unfollowed := true, recurses := true, apart := false }
def PeaksNilSaid : Prop := peaksNilRow.holds Try.pinned (OpenSpec.ofChange peaksNilSpec)

/-- ITS FALSE NEIGHBOUR: 'it returns false'. Refute it at one input. -/
def peaksNilWrong : ChangeSpec := { name := "peaksNil", fn := fun _ => fun
  | [d1, d2] => { results := [.lit (.bool false)], args := [d1, d2] }
  | _ => none }
def PeaksNilWrongFalsely : Prop := peaksNilRow.holds Try.pinned (OpenSpec.ofChange peaksNilWrong)

/- THE SECOND FORM. 'bulk': how many values and letters a reading holds, each counted each time it is reached (what is shared counts as often as it is met; a slice's spare places count too). A statement '..UptoSaid' is the law's where the arguments, and the package variables that the reading takes, are together of bulk at most 1048576: NARROWER than '..Said'. Prove '..Said' where nothing that the law and all that it calls make is longer than what came in: it says more and counts as full. Else prove '..UptoSaid'. A law counts once. -/
mutual
def uptoBulk {H : Type} : DataW H → Nat
  | .lit (.string bytes) => bytes.length + 1
  | .lit _ => 1
  | .nil => 1
  | .ptr d => uptoBulk d + 1
  | .slice elems spare => uptoBulkAll elems + uptoBulkAll spare + 1
  | .agg parts => uptoBulkAll parts + 1
  | .iface _ d => uptoBulk d + 1
  | .map entries => uptoBulkEntries entries + 1
  | .held _ => 1
def uptoBulkAll {H : Type} : List (DataW H) → Nat
  | [] => 0
  | d :: r => uptoBulk d + uptoBulkAll r
def uptoBulkEntries {H : Type} : List (Lit × DataW H) → Nat
  | [] => 0
  | x :: r => uptoBulkEntry x + uptoBulkEntries r
def uptoBulkEntry {H : Type} : Lit × DataW H → Nat
  | (.string bytes, d) => bytes.length + uptoBulk d + 1
  | (_, d) => uptoBulk d + 1
 end
def uptoSmall : (H : Type) → List (DataW H) → Bool := fun _ ds => decide (uptoBulkAll ds ≤ 1048576)
def OpenSpec.upto (s : _root_.Go.ChangeSpec) : _root_.Go.OpenSpec := { _root_.Go.OpenSpec.ofChange s with cond := some uptoSmall }

/-- 'hachurelaw45.FillLakes', WHERE WHAT IT READS IS OF BULK AT MOST 1048576: true; the input reads as it did. -/
def fillLakesUptoRow : OpenClaim := { program := "ytbcgbcipigcbhaa", sum := "7357046badf16b49a01ce7c409471768570c87fff71635831a5bcd2e10d1b34c", func := "hachure/hachurelaw45.FillLakes", spec := "fillLakes", unfollowed := true, recurses := true, apart := false, narrowed := true }
def FillLakesUptoSaid : Prop := fillLakesUptoRow.holds Try.pinned (OpenSpec.upto fillLakesSpec)

/-- 'hachurelaw29.RegionsJoined', WHERE WHAT IT READS IS OF BULK AT MOST 1048576: true; the input reads as it did. -/
def regionsJoinedUptoRow : OpenClaim := { program := "ytbcgbcipigcbhaa", sum := "7357046badf16b49a01ce7c409471768570c87fff71635831a5bcd2e10d1b34c", func := "hachure/hachurelaw29.RegionsJoined", spec := "regionsJoined", unfollowed := true, recurses := true, apart := false, narrowed := true }
def RegionsJoinedUptoSaid : Prop := regionsJoinedUptoRow.holds Try.pinned (OpenSpec.upto regionsJoinedSpec)

/-- 'hachurelaw31.SinkBasins', WHERE WHAT IT READS IS OF BULK AT MOST 1048576: true; the input reads as it did. -/
def sinkBasinsUptoRow : OpenClaim := { program := "ytbcgbcipigcbhaa", sum := "7357046badf16b49a01ce7c409471768570c87fff71635831a5bcd2e10d1b34c", func := "hachure/hachurelaw31.SinkBasins", spec := "sinkBasins", unfollowed := true, recurses := true, apart := false, narrowed := true }
def SinkBasinsUptoSaid : Prop := sinkBasinsUptoRow.holds Try.pinned (OpenSpec.upto sinkBasinsSpec)

/-- 'hachurelaw31.SinkWays', WHERE WHAT IT READS IS OF BULK AT MOST 1048576: true; the input reads as it did. -/
def sinkWaysUptoRow : OpenClaim := { program := "ytbcgbcipigcbhaa", sum := "7357046badf16b49a01ce7c409471768570c87fff71635831a5bcd2e10d1b34c", func := "hachure/hachurelaw31.SinkWays", spec := "sinkWays", unfollowed := true, recurses := true, apart := false, narrowed := true }
def SinkWaysUptoSaid : Prop := sinkWaysUptoRow.holds Try.pinned (OpenSpec.upto sinkWaysSpec)

/-- 'hachurelaw31.SinkWet', WHERE WHAT IT READS IS OF BULK AT MOST 1048576: true; the input reads as it did. -/
def sinkWetUptoRow : OpenClaim := { program := "ytbcgbcipigcbhaa", sum := "7357046badf16b49a01ce7c409471768570c87fff71635831a5bcd2e10d1b34c", func := "hachure/hachurelaw31.SinkWet", spec := "sinkWet", unfollowed := true, recurses := true, apart := false, narrowed := true }
def SinkWetUptoSaid : Prop := sinkWetUptoRow.holds Try.pinned (OpenSpec.upto sinkWetSpec)

/-- 'hachurelaw31.SinkNil', WHERE WHAT IT READS IS OF BULK AT MOST 1048576: true; the input reads as it did. -/
def sinkNilUptoRow : OpenClaim := { program := "ytbcgbcipigcbhaa", sum := "7357046badf16b49a01ce7c409471768570c87fff71635831a5bcd2e10d1b34c", func := "hachure/hachurelaw31.SinkNil", spec := "sinkNil", unfollowed := true, recurses := true, apart := false, narrowed := true }
def SinkNilUptoSaid : Prop := sinkNilUptoRow.holds Try.pinned (OpenSpec.upto sinkNilSpec)

/-- 'hachurelaw44.SmoothOpens', WHERE WHAT IT READS IS OF BULK AT MOST 1048576: true; the input reads as it did. -/
def smoothOpensUptoRow : OpenClaim := { program := "ytbcgbcipigcbhaa", sum := "7357046badf16b49a01ce7c409471768570c87fff71635831a5bcd2e10d1b34c", func := "hachure/hachurelaw44.SmoothOpens", spec := "smoothOpens", unfollowed := true, recurses := true, apart := false, narrowed := true }
def SmoothOpensUptoSaid : Prop := smoothOpensUptoRow.holds Try.pinned (OpenSpec.upto smoothOpensSpec)

/-- 'hachurelaw44.SmoothNil', WHERE WHAT IT READS IS OF BULK AT MOST 1048576: true; the input reads as it did. -/
def smoothNilUptoRow : OpenClaim := { program := "ytbcgbcipigcbhaa", sum := "7357046badf16b49a01ce7c409471768570c87fff71635831a5bcd2e10d1b34c", func := "hachure/hachurelaw44.SmoothNil", spec := "smoothNil", unfollowed := true, recurses := true, apart := false, narrowed := true }
def SmoothNilUptoSaid : Prop := smoothNilUptoRow.holds Try.pinned (OpenSpec.upto smoothNilSpec)

/-- 'hachurelaw44.SmoothMeans', WHERE WHAT IT READS IS OF BULK AT MOST 1048576: true; the input reads as it did. -/
def smoothMeansUptoRow : OpenClaim := { program := "ytbcgbcipigcbhaa", sum := "7357046badf16b49a01ce7c409471768570c87fff71635831a5bcd2e10d1b34c", func := "hachure/hachurelaw44.SmoothMeans", spec := "smoothMeans", unfollowed := true, recurses := true, apart := false, narrowed := true }
def SmoothMeansUptoSaid : Prop := smoothMeansUptoRow.holds Try.pinned (OpenSpec.upto smoothMeansSpec)

/-- 'hachurelaw46.PeaksBest', WHERE WHAT IT READS IS OF BULK AT MOST 1048576: true; the input reads as it did. -/
def peaksBestUptoRow : OpenClaim := { program := "ytbcgbcipigcbhaa", sum := "7357046badf16b49a01ce7c409471768570c87fff71635831a5bcd2e10d1b34c", func := "hachure/hachurelaw46.PeaksBest", spec := "peaksBest", unfollowed := true, recurses := true, apart := false, narrowed := true }
def PeaksBestUptoSaid : Prop := peaksBestUptoRow.holds Try.pinned (OpenSpec.upto peaksBestSpec)

/-- 'hachurelaw46.PeaksNil', WHERE WHAT IT READS IS OF BULK AT MOST 1048576: true; the input reads as it did. -/
def peaksNilUptoRow : OpenClaim := { program := "ytbcgbcipigcbhaa", sum := "7357046badf16b49a01ce7c409471768570c87fff71635831a5bcd2e10d1b34c", func := "hachure/hachurelaw46.PeaksNil", spec := "peaksNil", unfollowed := true, recurses := true, apart := false, narrowed := true }
def PeaksNilUptoSaid : Prop := peaksNilUptoRow.holds Try.pinned (OpenSpec.upto peaksNilSpec)

end Rows
end Go.Proofs.Ytbcgbcipigcbhaa
