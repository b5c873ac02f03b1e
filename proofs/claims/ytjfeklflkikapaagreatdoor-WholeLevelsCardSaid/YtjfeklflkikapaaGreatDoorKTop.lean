/- hachuretop.WholeLevels returns true at every input and each argument reads afterwards as it read before: the tied card; the package variables that its road reads start as the program's text lays them. -/
import Derived.Test.YtjfeklflkikapaaGreatDoorKZM
set_option maxRecDepth 100000
set_option maxHeartbeats 16000000
set_option linter.unusedVariables false
set_option linter.unusedSimpArgs false
namespace Go.Proofs.YtjfeklflkikapaaGreatDoor
open Go.Proofs.Tryz Go.RowKit
variable{fn:Func}{f:FuncId}{h:HA}{j:Nat}{t:TypeId}
namespace wholeLevels
open Go.ChangeShapes Go.WideShapes Go.ChangeAt Go.RowKit Go.Joins
theorem Yw:Rows.wholeLevelsRow.wfByText (OpenSpec.ofChange Rows.wholeLevelsSpec)=true:=by kernel_rfl
theorem WX : Tryz.pinned.checked.prog.mainIs = some (true, "798f7eeaaf36a52b91fef3331b2cba14cfd54ca6568a6e89e3e2c4f23aa43a3c".toList) := by kernel_rfl
theorem VB:true=Tryz.pinned.checked.prog.looks []:=by kernel_rfl
theorem WY:false=Rows.wholeLevelsRow.goesBy Tryz.pinned.checked.prog:=by kernel_rfl
theorem WZ : Tryz.pinned.checked.prog.funcNamed "hachure/hachuretop.WholeLevels" = some 3 := by kernel_rfl
theorem XR:Tryz.pinned.checked.prog.wantsStandIn 22=false:=by kernel_rfl
theorem XS:Tryz.pinned.checked.prog.wantsStandIn 2=false:=by kernel_rfl
theorem W2:∀ (j:Nat) t,Tryz.f3.params[j]?=some t->t=22\/t=2:=fun j t ht=>by
 rw [Tryz.params3] at ht
 rcases j with _ | _ | j <;> simp at ht <;> simp [<-ht]
theorem proved:Rows.WholeLevelsCardSaid :=
 Claim7.holds_tied_plain_at .later [] [.data, .data, .data, .data, .sentinel, .sentinel, .data, .data, .pinned] true (true, "798f7eeaaf36a52b91fef3331b2cba14cfd54ca6568a6e89e3e2c4f23aa43a3c") true
  Yv (fun _ h=>by cases h) Yw (fun _ h=>by cases h) wholeLevels_row_tie rfl ⟨rfl,rfl⟩ WX rfl
  (fun f fn hf hfn=>by
   obtain rfl:3=f:=Option.some.inj (WZ.symm.trans hf)
   obtain rfl:Tryz.f3=fn:=Option.some.inj (func3.symm.trans hfn)
   exact ⟨VB,fun j t ht=>by
    rcases W2 j t ht with rfl | rfl
    ·exact XR
    ·exact XS⟩)
  WY
end wholeLevels
end Go.Proofs.YtjfeklflkikapaaGreatDoor
