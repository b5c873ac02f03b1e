/- A part of the proof that hachuretop.WholeErrors returns true at every input; no condition. -/
import Derived.Test.YtceahkcepefcaaaGreatDoorKZD
set_option maxRecDepth 100000
set_option maxHeartbeats 16000000
set_option linter.unusedVariables false
set_option linter.unusedSimpArgs false
namespace Go.Proofs.YtceahkcepefcaaaGreatDoor
open Go.Proofs.Tryz Go.RowKit
namespace wholeErrors
open Go.ChangeShapes Go.WideShapes Go.ChangeAt Go.RowKit Go.Joins
theorem Yw:Rows.wholeErrorsRow.wfByText (OpenSpec.ofChange Rows.wholeErrorsSpec)=true:=by kernel_rfl
theorem WX : Tryz.pinned.checked.prog.mainIs = some (true, "01eb2991904798ce6eba21b8520fb34cc6c2af9b4b7aaa3b22371c71e7e0d0ec".toList) := by kernel_rfl
theorem VB:true=Tryz.pinned.checked.prog.looks []:=by kernel_rfl
end wholeErrors
end Go.Proofs.YtceahkcepefcaaaGreatDoor
