/- hachuretop.WholeLevels: a part of the proof that the law returns true at every input; no condition of its own. -/
import Derived.Test.YtjfeklflkikapaaGreatDoorKZL
set_option maxRecDepth 100000
set_option maxHeartbeats 16000000
set_option linter.unusedVariables false
set_option linter.unusedSimpArgs false
namespace Go.Proofs.YtjfeklflkikapaaGreatDoor
open Go.Proofs.Tryz Go.RowKit
variable{H:Type}
namespace wholeLevels
open Go.ChangeShapes Go.WideShapes Go.ChangeAt Go.RowKit Go.Joins
theorem Yu:(Rows.wholeLevelsRow.wf (OpenSpec.ofChange Rows.wholeLevelsSpec) && laidOutB prog && mapsRowed prog)=true:=by kernel_rfl
theorem Vz:(Rows.wholeLevelsRow.inPlace == Program.inPlace prog 3)=true:=by kernel_rfl
theorem XP:(Rows.wholeLevelsRow.unfollowed == Program.unfollowed prog 3)=true:=by kernel_rfl
theorem XQ:(Rows.wholeLevelsRow.recurses == Program.recurses prog 3)=true:=by kernel_rfl
theorem VA:(Rows.wholeLevelsRow.named == Program.varsNamed prog 3)=true:=by kernel_rfl
theorem WW:joinedFacts prog 3 Tryz.f3 Rows.wholeLevelsSpec Rows.wholeLevelsRow=true:=by
 unfold joinedFacts
 rw [Yu,Vz,XP,XQ,VA]
 kernel_rfl
theorem Yv:Rows.wholeLevelsRow.holds Tryz.pinned (OpenSpec.ofChange Rows.wholeLevelsSpec) :=
 OpenClaim.holds_of_wide 3 Tryz.f3 rfl rfl rfl rfl rfl rfl rfl ⟨rfl,rfl,rfl,rfl,rfl⟩ rfl rfl rfl rfl rfl (by kernel_rfl) func3 WW
  (of_decide_eq_true (by kernel_rfl)) (by unfold Func.isWrapper; first | (rw [a7 (by decide +kernel)]; kernel_rfl) | (rw [a8 (by decide +kernel)]; exact ⟨rfl,rfl⟩))
  (fun os started H enc _=>WV os started H enc)
end wholeLevels
end Go.Proofs.YtjfeklflkikapaaGreatDoor
