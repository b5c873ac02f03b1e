/- hachuretop.WholeCharts returns true at every input and each argument reads afterwards as it read before: the tied card; the package variables that its road reads start as the program's text lays them. -/
import Derived.Test.YtcalhocphkbbgaaGreatDoorKZF
set_option maxRecDepth 100000
set_option maxHeartbeats 16000000
set_option linter.unusedVariables false
set_option linter.unusedSimpArgs false
namespace Go.Proofs.YtcalhocphkbbgaaGreatDoor
open Go.Proofs.Tryz Go.RowKit
variable{fn:Func}{f:FuncId}{h:HA}{j:Nat}{t:TypeId}
namespace wholeCharts
open Go.ChangeShapes Go.WideShapes Go.ChangeAt Go.RowKit Go.Joins
theorem WY:false=Rows.wholeChartsRow.goesBy Tryz.pinned.checked.prog:=by kernel_rfl
theorem WZ : Tryz.pinned.checked.prog.funcNamed "hachure/hachuretop.WholeCharts" = some 4 := by kernel_rfl
theorem XR:Tryz.pinned.checked.prog.wantsStandIn 22=false:=by kernel_rfl
theorem abF:Tryz.pinned.checked.prog.wantsStandIn 43=false:=by kernel_rfl
theorem abx:Tryz.pinned.checked.prog.wantsStandIn 44=false:=by kernel_rfl
theorem W2:∀ (j:Nat) t,Tryz.f4.params[j]?=some t->t=22\/t=43\/t=44:=fun j t ht=>by
 rw [Tryz.params4] at ht
 rcases j with _ | _ | _ | j <;> simp at ht <;> simp [<-ht]
theorem proved:Rows.WholeChartsCardSaid :=
 Claim7.holds_tied_plain_at .later [] [.data, .data, .data, .data, .sentinel, .sentinel, .data, .data, .pinned] true (true, "23c8aadf38d2ce53119f97e8cd23a96dbf71bf64cc628f507a74f9edaf0d77cb") true
  Yv (fun _ h=>by cases h) Yw (fun _ h=>by cases h) wholeCharts_row_tie rfl ⟨rfl,rfl⟩ WX rfl
  (fun f fn hf hfn=>by
   obtain rfl:4=f:=Option.some.inj (WZ.symm.trans hf)
   obtain rfl:Tryz.f4=fn:=Option.some.inj (func4.symm.trans hfn)
   exact ⟨VB,fun j t ht=>by
    rcases W2 j t ht with rfl | rfl | rfl
    ·exact XR
    ·exact abF
    ·exact abx⟩)
  WY
end wholeCharts
end Go.Proofs.YtcalhocphkbbgaaGreatDoor
