/- hachuretop.WholeFlat returns true at every input and each argument reads afterwards as it read before: the tied card; the package variables that its road reads start as the program's text lays them. -/
import Derived.Test.YtipnifjmhlcehaaGreatDoorKV
import Derived.Test.YtipnifjmhlcehaaGreatDoorKC
import Derived.Test.YtipnifjmhlcehaaGreatDoorKD
set_option linter.unusedVariables false
set_option linter.unusedSimpArgs false
set_option maxRecDepth 100000
set_option maxHeartbeats 16000000
namespace Go.Proofs.YtipnifjmhlcehaaGreatDoor
namespace wholeFlat
open Go.ChangeShapes Go.WideShapes Go.ChangeAt Go.RowKit Go.Joins
theorem jlJ:Rows.wholeFlatRow.wfByText (OpenSpec.ofChange Rows.wholeFlatSpec)=true:=by kernel_rfl
theorem jkM : Tryz.pinned.checked.prog.mainIs = some (true, "ce068aacc208824d86e357564751646567720b08957459e4fe656e6c537d7c79".toList) := by kernel_rfl
theorem jjz:true=Tryz.pinned.checked.prog.looks []:=by kernel_rfl
theorem jkN:false=Rows.wholeFlatRow.goesBy Tryz.pinned.checked.prog:=by kernel_rfl
theorem c_name : Tryz.pinned.checked.prog.funcNamed "hachure/hachuretop.WholeFlat" = some 3 := by kernel_rfl
theorem jlg:Tryz.pinned.checked.prog.wantsStandIn 2=false:=by kernel_rfl
theorem jkO:Tryz.pinned.checked.prog.wantsStandIn 23=false:=by kernel_rfl
theorem jkL:∀ (j:Nat) t,Tryz.f3.params[j]?=some t->t=2\/t=23:=fun j t ht=>by
 rw [Tryz.params3] at ht
 rcases j with _ | _ | _ | _ | _ | j <;> simp at ht <;> simp [<-ht]
theorem proved:Rows.WholeFlatCardSaid :=
 Claim7.holds_tied_plain_at .later [] [.data, .data, .data, .data, .sentinel, .sentinel, .data, .data, .pinned] true (true, "ce068aacc208824d86e357564751646567720b08957459e4fe656e6c537d7c79") true
  jlB (fun _ h=>by cases h) jlJ (fun _ h=>by cases h) wholeFlat_row_tie rfl ⟨rfl,rfl⟩ jkM rfl
  (fun f fn hf hfn=>by
   obtain rfl:3=f:=Option.some.inj (c_name.symm.trans hf)
   obtain rfl:Tryz.f3=fn:=Option.some.inj (Tryz.func3.symm.trans hfn)
   exact ⟨jjz,fun j t ht=>by
    rcases jkL j t ht with rfl | rfl
    ·exact jlg
    ·exact jkO⟩)
  jkN
end wholeFlat
end Go.Proofs.YtipnifjmhlcehaaGreatDoor
