/- A part of the proof that hachuretop.WholeCharts and hachuretop.WholeWater returns true at every input; no condition. -/
import Derived.Test.YtcalhocphkbbgaaGreatDoorKZH
set_option maxRecDepth 100000
set_option maxHeartbeats 16000000
set_option linter.unusedVariables false
set_option linter.unusedSimpArgs false
namespace Go.Proofs.YtcalhocphkbbgaaGreatDoor
open Go.Proofs.Tryz Go.RowKit
variable{H:Type}
namespace wholeWater
open Go.ChangeShapes Go.WideShapes Go.ChangeAt Go.RowKit Go.Joins
theorem Yu:(Rows.wholeWaterRow.wf (OpenSpec.ofChange Rows.wholeWaterSpec) && laidOutB prog && mapsRowed prog)=true:=by kernel_rfl
theorem Vz:(Rows.wholeWaterRow.inPlace == Program.inPlace prog 3)=true:=by kernel_rfl
theorem XP:(Rows.wholeWaterRow.unfollowed == Program.unfollowed prog 3)=true:=by kernel_rfl
theorem XQ:(Rows.wholeWaterRow.recurses == Program.recurses prog 3)=true:=by kernel_rfl
theorem VA:(Rows.wholeWaterRow.named == Program.varsNamed prog 3)=true:=by kernel_rfl
theorem WW:joinedFacts prog 3 Tryz.f3 Rows.wholeWaterSpec Rows.wholeWaterRow=true:=by
 unfold joinedFacts
 rw [Yu,Vz,XP,XQ,VA]
 kernel_rfl
theorem Yv:Rows.wholeWaterRow.holds Tryz.pinned (OpenSpec.ofChange Rows.wholeWaterSpec) :=
 OpenClaim.holds_of_wide 3 Tryz.f3 rfl rfl rfl rfl rfl rfl rfl ⟨rfl,rfl,rfl,rfl,rfl⟩ rfl rfl rfl rfl rfl (by kernel_rfl) func3 WW
  (qp (by kernel_rfl)) (by unfold Func.isWrapper; first | (rw [a7 (by decide +kernel)]; kernel_rfl) | (rw [a8 (by decide +kernel)]; exact ⟨rfl,rfl⟩))
  (fun os started H enc _=>WV os started H enc)
end wholeWater
end Go.Proofs.YtcalhocphkbbgaaGreatDoor
