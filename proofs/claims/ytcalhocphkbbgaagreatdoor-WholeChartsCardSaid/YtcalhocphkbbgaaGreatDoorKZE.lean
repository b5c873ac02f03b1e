/- A part of the proof that hachuretop.WholeCharts and hachuretop.WholeWater returns true at every input; no condition. -/
import Derived.Test.YtcalhocphkbbgaaGreatDoorKZD
set_option maxRecDepth 100000
set_option maxHeartbeats 16000000
set_option linter.unusedVariables false
set_option linter.unusedSimpArgs false
namespace Go.Proofs.YtcalhocphkbbgaaGreatDoor
open Go.Proofs.Tryz Go.RowKit
variable{H:Type}
namespace wholeCharts
open Go.ChangeShapes Go.WideShapes Go.ChangeAt Go.RowKit Go.Joins
theorem Yu:(Rows.wholeChartsRow.wf (OpenSpec.ofChange Rows.wholeChartsSpec) && laidOutB prog && mapsRowed prog)=true:=by kernel_rfl
theorem Vz:(Rows.wholeChartsRow.inPlace == Program.inPlace prog 4)=true:=by kernel_rfl
theorem XP:(Rows.wholeChartsRow.unfollowed == Program.unfollowed prog 4)=true:=by kernel_rfl
theorem XQ:(Rows.wholeChartsRow.recurses == Program.recurses prog 4)=true:=by kernel_rfl
theorem VA:(Rows.wholeChartsRow.named == Program.varsNamed prog 4)=true:=by kernel_rfl
theorem WW:joinedFacts prog 4 Tryz.f4 Rows.wholeChartsSpec Rows.wholeChartsRow=true:=by
 unfold joinedFacts
 rw [Yu,Vz,XP,XQ,VA]
 kernel_rfl
theorem Yv:Rows.wholeChartsRow.holds Tryz.pinned (OpenSpec.ofChange Rows.wholeChartsSpec) :=
 OpenClaim.holds_of_wide 4 Tryz.f4 rfl rfl rfl rfl rfl rfl rfl ⟨rfl,rfl,rfl,rfl,rfl⟩ rfl rfl rfl rfl rfl (by kernel_rfl) func4 WW
  (qp (by kernel_rfl)) (by unfold Func.isWrapper; first | (rw [a7 (by decide +kernel)]; kernel_rfl) | (rw [a8 (by decide +kernel)]; exact ⟨rfl,rfl⟩))
  (fun os started H enc _=>WV os started H enc)
end wholeCharts
end Go.Proofs.YtcalhocphkbbgaaGreatDoor
