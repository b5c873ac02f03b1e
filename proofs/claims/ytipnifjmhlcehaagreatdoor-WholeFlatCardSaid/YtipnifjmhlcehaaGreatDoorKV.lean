/- hachuretop.WholeFlat: a part of the proof that the law returns true at every input (WholeRow); no condition of its own. -/
import Derived.Test.YtipnifjmhlcehaaGreatDoorKU
import Derived.Test.YtipnifjmhlcehaaGreatDoorKC
import Derived.Test.YtipnifjmhlcehaaGreatDoorKD
set_option linter.unusedVariables false
set_option linter.unusedSimpArgs false
set_option maxRecDepth 100000
set_option maxHeartbeats 16000000
namespace Go.Proofs.YtipnifjmhlcehaaGreatDoor
namespace wholeFlat
open Go.ChangeShapes Go.WideShapes Go.ChangeAt Go.RowKit Go.Joins
theorem jlF:(Rows.wholeFlatRow.wf (OpenSpec.ofChange Rows.wholeFlatSpec) && laidOutB Tryz.prog && mapsRowed Tryz.prog)=true:=by kernel_rfl
theorem jjr:(Rows.wholeFlatRow.inPlace == Program.inPlace Tryz.prog 3)=true:=by kernel_rfl
theorem jle:(Rows.wholeFlatRow.unfollowed == Program.unfollowed Tryz.prog 3)=true:=by kernel_rfl
theorem jlf:(Rows.wholeFlatRow.recurses == Program.recurses Tryz.prog 3)=true:=by kernel_rfl
theorem jjs:(Rows.wholeFlatRow.named == Program.varsNamed Tryz.prog 3)=true:=by kernel_rfl
theorem jkK:joinedFacts Tryz.prog 3 Tryz.f3 Rows.wholeFlatSpec Rows.wholeFlatRow=true:=by
 unfold joinedFacts
 rw [jlF,jjr,jle,jlf,jjs]
 kernel_rfl
theorem jlB:Rows.wholeFlatRow.holds Tryz.pinned (OpenSpec.ofChange Rows.wholeFlatSpec) :=
 OpenClaim.holds_of_wide 3 Tryz.f3 rfl rfl rfl rfl rfl rfl rfl ⟨rfl,rfl,rfl,rfl,rfl⟩ rfl rfl rfl rfl rfl (by kernel_rfl) Tryz.func3 jkK
  (of_decide_eq_true (by kernel_rfl)) (by unfold Func.isWrapper; first | (rw [if_pos (by decide +kernel)]; kernel_rfl) | (rw [if_neg (by decide +kernel)]; exact ⟨rfl,rfl⟩))
  (fun os started H enc _=>jkv os started H enc)
end wholeFlat
end Go.Proofs.YtipnifjmhlcehaaGreatDoor
