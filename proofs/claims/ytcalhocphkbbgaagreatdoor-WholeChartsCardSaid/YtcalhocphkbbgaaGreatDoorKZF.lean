/- A part of the proof that hachuretop.WholeCharts and hachuretop.WholeWater returns true at every input; no condition. -/
import Derived.Test.YtcalhocphkbbgaaGreatDoorKZE
set_option maxRecDepth 100000
set_option maxHeartbeats 16000000
set_option linter.unusedVariables false
set_option linter.unusedSimpArgs false
namespace Go.Proofs.YtcalhocphkbbgaaGreatDoor
open Go.Proofs.Tryz Go.RowKit
namespace wholeCharts
open Go.ChangeShapes Go.WideShapes Go.ChangeAt Go.RowKit Go.Joins
theorem Yw:Rows.wholeChartsRow.wfByText (OpenSpec.ofChange Rows.wholeChartsSpec)=true:=by kernel_rfl
theorem WX : Tryz.pinned.checked.prog.mainIs = some (true, "23c8aadf38d2ce53119f97e8cd23a96dbf71bf64cc628f507a74f9edaf0d77cb".toList) := by kernel_rfl
theorem VB:true=Tryz.pinned.checked.prog.looks []:=by kernel_rfl
end wholeCharts
end Go.Proofs.YtcalhocphkbbgaaGreatDoor
