/- A part of the proof that hachuretop.WholeCharts and hachuretop.WholeWater returns true at every input; no condition. -/
import Derived.Test.YtcalhocphkbbgaaGreatDoorTie
import Derived.Test.YtcalhocphkbbgaaGreatDoorCards
import Derived.Shelf.Vars
import Derived.LaidMore
import Derived.Lib.LaidTab
import Derived.SevenTiedAt
import Derived.Test.YtcalhocphkbbgaaGreatDoorKZG
import Derived.Test.YtcalhocphkbbgaaGreatDoorKZC
set_option maxRecDepth 100000
set_option maxHeartbeats 16000000
set_option linter.unusedVariables false
set_option linter.unusedSimpArgs false
namespace Go.Proofs.YtcalhocphkbbgaaGreatDoor
open Go.Proofs.Tryz Go.RowKit
variable{held:Bool}{fn:Func}{f:FuncId}{h:HA}{a ax ay:Int}{args:List Operand}{xs:List Value}{c i j k m n p q:Nat}{sp:Nat->Bool}{X:Nat->Prop}{e:Nat->Value}{o:m5}{x:Operand}{g0 p0:Option Addr}{P:Program}{s:lT}{H:Type}{t:TypeId}{u v1:Value}{W W' w w':World}{C:World->Prop}
namespace wholeWater
open Go.ChangeShapes Go.WideShapes Go.ChangeAt Go.RowKit Go.Joins
theorem own:ownKnob prog.godebug=none:=by kernel_rfl
theorem XO:∀ t ∈ Tryz.f3.params.toList,n8 prog t:=O6 (by kernel_rfl)
theorem BT {H:Type} {enc:TypeId × Value->H} {a:Assume} {C:Checked} {os:Os} {f:FuncId} {fn:Func} {s:ChangeSpec} {conds:List PathCond} {apart fresh handsOn again:Bool} {X:World->Array Value->Prop}
  (hX:∀ (w w':World) (args:Array Value),w.heap=w'.heap->X w args->X w' args)
  (own:ownKnob C.prog.godebug=none) (started:os.Started) (noInit:C.prog.inits.idxOf? f=none) (hfn:C.prog.funcs[f]?=some fn)
  (witness:∃ (w:World) (tape:Tape) (i:Input),w.os=os/\(w.forCall tape i).Shaped C.prog/\i.vars=[]/\Input.okWide C.prog (w.forCall tape i) .any w.heap.size f i /\
   ((s.pre enc C.prog fn conds apart (w.forCall tape i).memory i.args/\X (w.forCall tape i).memory i.args)/\sizedMet enc C.prog fn (OpenSpec.ofChange s) apart (w.forCall tape i).memory i.args)/\a.holds C.prog (lone (Frame.enter C.prog f i.args .normal) [] (w.forCall tape i)))
  (D5:∀ (W:World) (base:Nat) (args:Array Value) (ds gs:List (DataW H)) (before:List MemPlace),
   (∀ (j:Nat) t v,fn.params[j]?=some t->args[j]?=some v->Value.okWide C.prog W .any base t v) ->
   DataW.Whole enc C.prog fn.params.toList s.vars apart W args.toList ds gs before->X W args->W.ShapedOpen C.prog ->
   Calls C.prog f args W fun e W'=>∃ v,e=.returned v/\s.post enc C.prog fn apart fresh handsOn again W args v W') :
  ReturnsInHanded a C os f .any (fun w args=>(s.pre enc C.prog fn conds apart w args/\X w args)/\sizedMet enc C.prog fn (OpenSpec.ofChange s) apart w args) (s.post enc C.prog fn apart fresh handsOn again):=by
 refine tB own started noInit witness ?_
 intro w tape i _ hsh _ hok hpre hholds
 obtain ⟨_,_,_,fn',hfn',_,_,_,_,hval⟩:=hok
 have e:fn'=fn:=Option.some.inj (hfn'.symm.trans hfn)
 subst e
 obtain ⟨⟨⟨ds,gs,before,hw,hc⟩,hx⟩,hz⟩:=hpre
 have hw':=DataW.Whole.of_heap (w':=w.forCall tape i) (by rfl) hw
 refine (D5 (w.forCall tape i) w.heap.size i.args ds gs before hval hw' (hX _ _ _ (by rfl) hx) hsh).mono fun e W' ⟨v,he,hp⟩=>?_
 subst he
 exact vr hp
theorem Hc {H:Type} {enc:TypeId × Value->H} {P:Program} {w:World} {base:Nat} {sp:Nat->Bool} {held:Bool} {fuel:Nat} {t e:TypeId} {n:Nat} {cs:List Value} {zs:List ByteArray} {p:List MemPlace}
  (ht:P.underlying t=some (.array n e)) (he:P.underlying e=some .string) (hce:P.cellsOf e=1)
  (h:DataW.trod enc P w base sp held fuel t cs=some (.agg (zs.map fun z=>.lit (.string z.data.toList)),p)) (i:Nat) (z:ByteArray) (hz:zs[i]?=some z):cs[i]?=some (.string z):=by
 obtain ⟨xs,m,rfl,hx,hlen,hn,hel⟩:=DataW.trod_array ht h
 have hxs:xs.map (·.1)=zs.map fun z=>(DataW.lit (.string z.data.toList):DataW H):=by
  have:=congrArg Prod.fst hx
  simpa using this.symm
 have hzl:i < n:=by
  have h1:=(dq.1 hz).1
  have h2:=congrArg List.length hxs
  simp at h2
  omega
 have h0:=hel i hzl
 rw [hce,cG] at h0
 obtain ⟨x,hx0⟩:∃ x,xs[i]?=some x:=⟨_,fw (by omega)⟩
 rw [hx0] at h0
 obtain ⟨s,e1,e2,_⟩:=DataW.trod_string he h0
 have h1:cs[i]?=some (.string s):=by
  have:=congrArg (·[0]?) e1
  simpa [fJ,jD] using this
 have h2:(xs.map (·.1))[i]?=some (DataW.lit (.string s.data.toList):DataW H):=by rw [da,hx0,e2]; rfl
 rw [hxs,da,hz] at h2
 simp only [ku,Option.some.injEq,DataW.lit.injEq,Lit.string.injEq] at h2
 have h3:z=s:=uc (iB.1 h2)
 rw [h1,h3]
theorem Vy {W:World} (h:laidMetH prog Rows.wholeWaterRow.laid W) (hsh:W.ShapedOpen prog):GL W/\jX W:=by
 rw [MakeChecks.laidMetH_plain _ _ _ (by kernel_rfl)] at h
 obtain ⟨ps,hl,_,_⟩:=h
 obtain ⟨_,_,_,_,_,_,_,_,_,_,hl,_⟩:=hl
 obtain ⟨_,_,_,_,_,_,_,_,_,_,hl,_⟩:=hl
 obtain ⟨_,_,_,_,_,_,_,_,_,_,hl,_⟩:=hl
 obtain ⟨_,_,_,_,_,_,_,_,_,_,hl,_⟩:=hl
 obtain ⟨_,_,_,_,_,_,_,_,_,_,hl,_⟩:=hl
 obtain ⟨_,_,_,_,_,_,_,_,_,_,hl,_⟩:=hl
 obtain ⟨g0,t0,cs0,f0,p0,q0,hg0,ht0,hv0,hd0,hl,_⟩:=hl
 obtain ⟨g1,t1,cs1,f1,p1,q1,hg1,ht1,hv1,hd1,hl,_⟩:=hl
 obtain rfl := Option.some.inj ((show prog.globalNamed "hachure/crc.halves" = some 1 by kernel_rfl).symm.trans hg0)
 obtain rfl := Option.some.inj ((show prog.globalNamed "hachure/script.verbs" = some 0 by kernel_rfl).symm.trans hg1)
 obtain rfl:=Option.some.inj ((show (prog.globals[1]?).map (·.type)=some 439 by kernel_rfl).symm.trans ht0)
 obtain rfl:=Option.some.inj ((show (prog.globals[0]?).map (·.type)=some 432 by kernel_rfl).symm.trans ht1)
 refine ⟨⟨?_,fun i s hs=>?_⟩,?_⟩
 ·exact cell_of_shapedOpen_int (t:=3) (zero:=#[ii 0]) hsh (by decide +kernel) (by kernel_rfl) (by kernel_rfl) (by kernel_rfl) (by kernel_rfl) dB
 ·have h1:=Hc (zs:=yH) qM fk (by kernel_rfl) hd1 i s hs
  have:=rI hg1 hv1 i
  rw [this,<-h1]
  simp
 ·have h1:=Lib.cells_of_tab (k:=.u32) (zs:=[0,274646895,549293790,820201905,1098587580,1361435347,1640403810,1905808397,2197175160,2460548119,2722870694,2987750089,3280807620,3553878443,3811616794,4084100981]) ue ml (by kernel_rfl) (by kernel_rfl) hd0
  have hc:=fun i=>rI hg0 hv0 i
  refine ⟨[0,274646895,549293790,820201905,1098587580,1361435347,1640403810,1905808397,2197175160,2460548119,2722870694,2987750089,3280807620,3553878443,3811616794,4084100981],rfl,.inr ⟨_,0,rfl,?_,fun j u hj=>?_⟩⟩
  ·have h0:=hc 0
   have h2:cs0[0]?=some (.int .u32 0):=by have:=congrArg (·[0]?) h1; simpa using this
   rw [h2] at h0
   exact q7 _ _ h0
  ·rw [eH,hc j,<-hj]
   have:=congrArg (·[j]?) h1
   simpa using this
theorem D5 (H:Type) (enc:TypeId × Value->H) (W:World) (base:Nat) (args:Array Value) (ds gs:List (DataW H)) (before:List MemPlace)
  (hval:∀ (j:Nat) t v,Tryz.f3.params[j]?=some t->args[j]?=some v->Value.okWide prog W .any base t v)
  (hW:DataW.Whole enc prog Tryz.f3.params.toList Rows.wholeWaterSpec.vars false W args.toList ds gs before) (hGL:GL W) (hHA:jX W) :
  Calls prog 3 args W fun e W'=>∃ v,e=.returned v/\Rows.wholeWaterSpec.post enc prog Tryz.f3 false true false false W args v W':=by
 have hW':=hW
 obtain ⟨p,q,hA0,hV,rfl,hfz,hnd⟩:=hW
 have hA:DataW.TrodAll enc prog W 0 (fun _=>true) true Tryz.f3.params.toList args.toList ds p:=hA0
 rw [Tryz.params3] at hA hval
 obtain ⟨v0,vs0,d0,ds0,p0,q0,hargs0,rfl,rfl,h0,r0⟩:=trodAll_cons hA
 obtain ⟨v1,vs1,d1,ds1,p1,q1,hargs1,rfl,rfl,h1,r1⟩:=trodAll_cons r0
 obtain ⟨rfl,rfl,rfl⟩:=trodAll_nil r1
 obtain rfl:args=#[v0,v1]:=by rw [<-iB,hargs0,hargs1]
 obtain ⟨rfl,rfl⟩:=trodVars_none hV
 obtain ⟨A_os,c_os,os,rfl,os_raw,os_rd⟩:=args.YD (hval 0 _ v0 rfl rfl) h0
 obtain ⟨ax,ay,rfl,a_bx,a_by⟩:=args.abK (hval 1 _ v1 rfl rfl) h1
 refine (SZ (W:=W) (c:=c_os) os ax ay hGL hHA os_raw os_rd).2.mono ?_
 rintro e W' ⟨v',rfl,rfl,hg⟩
 exact ⟨_,rfl,Mm XO hW' rfl hg rfl rfl (fun _ _ _=>(trodAll_cons_mk (shut_bool tt _) trodAll_mk0)) (ok_one (by kernel_rfl) rfl (okWide_bool_mk tt _))⟩
noncomputable def start (os:Os):World :=
 { World.doorLaid prog 82 os with heap:=(World.doorLaid prog 82 os).heap.modify 6 fun
  | .cells _ t z=>.cells (Pinned.utf8FirstZ.map fun (n:Nat)=>Value.int .u8 (n:Int)).toArray t z
  | o=>o }
theorem O7 (os:Os) (args:Array Value):laidMetH prog Rows.wholeWaterRow.laid ((start os).forCall (fun _ _=>0) ⟨#[],args,[]⟩).memory :=
 laidMetH_of_parts3 (fuel:=8) (laidMet_of_run' 8 (by kernel_rfl) (by kernel_rfl)) (by kernel_rfl) (by kernel_rfl)
theorem WV (os:Os) (started:os.Started) (H:Type) (enc:TypeId × Value->H) :
  ReturnsInHanded {} Tryz.checked os 3 .any (fun w args=>(Rows.wholeWaterSpec.pre enc prog Tryz.f3 [] false w args/\laidMetH prog Rows.wholeWaterRow.laid w)/\sizedMet enc prog Tryz.f3 (OpenSpec.ofChange Rows.wholeWaterSpec) false w args)
   (Rows.wholeWaterSpec.post enc prog Tryz.f3 false true false false):=by
 refine BT (C:=Tryz.checked) (X:=fun w _=>laidMetH prog Rows.wholeWaterRow.laid w) (fun _ _ _ hh h=>h.of_heap hh) own started (by kernel_rfl) func3
  (ChangeSpec.witness_shaped (enc:=enc) (C:=Tryz.checked) (os:=os) (X:=fun w _=>laidMetH prog Rows.wholeWaterRow.laid w) false (start os) #[.slice none 0 0,.agg #[ii 0,ii 0]] 8 rfl (World.shaped_of_RefB (by kernel_rfl) (by kernel_rfl)) (by kernel_rfl) (by kernel_rfl) (by kernel_rfl) (O7 os _)) ?_
 intro W base args ds gs before hval hW hL hsh
 obtain ⟨h1,h2⟩:=Vy hL hsh
 exact D5 H enc W base args ds gs before hval hW h1 h2
end wholeWater
end Go.Proofs.YtcalhocphkbbgaaGreatDoor
