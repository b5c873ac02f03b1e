/- A part of the proof that hachuretop.WholeErrors returns true at every input; no condition. -/
import Derived.Test.YtceahkcepefcaaaGreatDoorKZC
set_option maxRecDepth 100000
set_option maxHeartbeats 16000000
set_option linter.unusedVariables false
set_option linter.unusedSimpArgs false
namespace Go.Proofs.YtceahkcepefcaaaGreatDoor
open Go.Proofs.Tryz Go.RowKit
variable{H:Type}
namespace wholeErrors
open Go.ChangeShapes Go.WideShapes Go.ChangeAt Go.RowKit Go.Joins
theorem Yu:(Rows.wholeErrorsRow.wf (OpenSpec.ofChange Rows.wholeErrorsSpec) && laidOutB prog && mapsRowed prog)=true:=by kernel_rfl
theorem Vz:(Rows.wholeErrorsRow.inPlace == Program.inPlace prog 3)=true:=by kernel_rfl
theorem XP:(Rows.wholeErrorsRow.unfollowed == Program.unfollowed prog 3)=true:=by kernel_rfl
theorem XQ:(Rows.wholeErrorsRow.recurses == Program.recurses prog 3)=true:=by kernel_rfl
theorem VA:(Rows.wholeErrorsRow.named == Program.varsNamed prog 3)=true:=by kernel_rfl
theorem WW:joinedFacts prog 3 Tryz.f3 Rows.wholeErrorsSpec Rows.wholeErrorsRow=true:=by
 unfold joinedFacts
 rw [Yu,Vz,XP,XQ,VA]
 kernel_rfl
theorem Yv:Rows.wholeErrorsRow.holds Tryz.pinned (OpenSpec.ofChange Rows.wholeErrorsSpec) :=
 OpenClaim.holds_of_wide 3 Tryz.f3 rfl rfl rfl rfl rfl rfl rfl ⟨rfl,rfl,rfl,rfl,rfl⟩ rfl rfl rfl rfl rfl (by kernel_rfl) func3 WW
  (of_decide_eq_true (by kernel_rfl)) (by unfold Func.isWrapper; first | (rw [a7 (by decide +kernel)]; kernel_rfl) | (rw [a8 (by decide +kernel)]; exact ⟨rfl,rfl⟩))
  (fun os started H enc _=>WV os started H enc)
end wholeErrors
end Go.Proofs.YtceahkcepefcaaaGreatDoor
