/- hachuretop.WholeFlat: a part of the proof that the law returns true at every input (WholeFlat); no condition of its own. -/
import Derived.Test.YtipnifjmhlcehaaGreatDoorTie
import Derived.Test.YtipnifjmhlcehaaGreatDoorCards
import Derived.Shelf.Vars
import Derived.LaidMore
import Derived.Lib.LaidTab
import Derived.SevenTiedAt
import Derived.Test.YtipnifjmhlcehaaGreatDoorKS
import Derived.Test.YtipnifjmhlcehaaGreatDoorKT
import Derived.Test.YtipnifjmhlcehaaGreatDoorKC
import Derived.Test.YtipnifjmhlcehaaGreatDoorKD
set_option linter.unusedVariables false
set_option linter.unusedSimpArgs false
set_option maxRecDepth 100000
set_option maxHeartbeats 16000000
namespace Go.Proofs.YtipnifjmhlcehaaGreatDoor
namespace wholeFlat
open Go.ChangeShapes Go.WideShapes Go.ChangeAt Go.RowKit Go.Joins
theorem own:ownKnob Tryz.prog.godebug=none:=by kernel_rfl
theorem jk2:∀ t ∈ Tryz.f3.params.toList,Plain Tryz.prog t:=jfe (by kernel_rfl)
theorem b7 {H:Type} {enc:TypeId × Value->H} {a:Assume} {C:Checked} {os:Os} {f:FuncId} {fn:Func} {s:ChangeSpec} {conds:List PathCond} {apart fresh handsOn again:Bool} {X:World->Array Value->Prop}
  (hX:∀ (w w':World) (args:Array Value),w.heap=w'.heap->X w args->X w' args)
  (own:ownKnob C.prog.godebug=none) (started:os.Started) (noInit:C.prog.inits.idxOf? f=none) (hfn:C.prog.funcs[f]?=some fn)
  (witness:∃ (w:World) (tape:Tape) (i:Input),w.os=os/\(w.forCall tape i).Shaped C.prog/\i.vars=[]/\Input.okWide C.prog (w.forCall tape i) .any w.heap.size f i /\
   ((s.pre enc C.prog fn conds apart (w.forCall tape i).memory i.args/\X (w.forCall tape i).memory i.args)/\sizedMet enc C.prog fn (OpenSpec.ofChange s) apart (w.forCall tape i).memory i.args)/\a.holds C.prog (lone (Frame.enter C.prog f i.args .normal) [] (w.forCall tape i)))
  (mW:∀ (W:World) (base:Nat) (args:Array Value) (ds gs:List (DataW H)) (before:List MemPlace),
   (∀ (j:Nat) t v,fn.params[j]?=some t->args[j]?=some v->Value.okWide C.prog W .any base t v) ->
   DataW.Whole enc C.prog fn.params.toList s.vars apart W args.toList ds gs before->X W args->W.ShapedOpen C.prog ->
   Calls C.prog f args W fun e W'=>∃ v,e=.returned v/\s.post enc C.prog fn apart fresh handsOn again W args v W') :
  ReturnsInHanded a C os f .any (fun w args=>(s.pre enc C.prog fn conds apart w args/\X w args)/\sizedMet enc C.prog fn (OpenSpec.ofChange s) apart w args) (s.post enc C.prog fn apart fresh handsOn again):=by
 refine returnsInHanded_of_calls own started noInit witness ?_
 intro w tape i _ hsh _ hok hpre hholds
 obtain ⟨_,_,_,fn',hfn',_,_,_,_,hval⟩:=hok
 have e:fn'=fn:=Option.some.inj (hfn'.symm.trans hfn)
 subst e
 obtain ⟨⟨⟨ds,gs,before,hw,hc⟩,hx⟩,hz⟩:=hpre
 have hw':=DataW.Whole.of_heap (w':=w.forCall tape i) (by rfl) hw
 refine (mW (w.forCall tape i) w.heap.size i.args ds gs before hval hw' (hX _ _ _ (by rfl) hx) hsh).mono fun e W' ⟨v,he,hp⟩=>?_
 subst he
 exact ChangeSpec.post_blind hp
theorem lL {H:Type} {enc:TypeId × Value->H} {P:Program} {w:World} {base:Nat} {sp:Nat->Bool} {held:Bool} {fuel:Nat} {t e:TypeId} {n:Nat} {cs:List Value} {zs:List ByteArray} {p:List MemPlace}
  (ht:P.underlying t=some (.array n e)) (he:P.underlying e=some .string) (hce:P.cellsOf e=1)
  (h:DataW.trod enc P w base sp held fuel t cs=some (.agg (zs.map fun z=>.lit (.string z.data.toList)),p)) (i:Nat) (z:ByteArray) (hz:zs[i]?=some z):cs[i]?=some (.string z):=by
 obtain ⟨xs,m,rfl,hx,hlen,hn,hel⟩:=DataW.trod_array ht h
 have hxs:xs.map (·.1)=zs.map fun z=>(DataW.lit (.string z.data.toList):DataW H):=by
  have:=congrArg Prod.fst hx
  simpa using this.symm
 have hzl:i < n:=by
  have h1:=(List.getElem?_eq_some_iff.1 hz).1
  have h2:=congrArg List.length hxs
  simp at h2
  omega
 have h0:=hel i hzl
 rw [hce,Nat.mul_one] at h0
 obtain ⟨x,hx0⟩:∃ x,xs[i]?=some x:=⟨_,List.getElem?_eq_getElem (by omega)⟩
 rw [hx0] at h0
 obtain ⟨s,e1,e2,_⟩:=DataW.trod_string he h0
 have h1:cs[i]?=some (.string s):=by
  have:=congrArg (·[0]?) e1
  simpa [List.getElem?_take,List.getElem?_drop] using this
 have h2:(xs.map (·.1))[i]?=some (DataW.lit (.string s.data.toList):DataW H):=by rw [List.getElem?_map,hx0,e2]; rfl
 rw [hxs,List.getElem?_map,hz] at h2
 simp only [Option.map_some,Option.some.injEq,DataW.lit.injEq,Lit.string.injEq] at h2
 have h3:z=s:=ByteArray.ext (Array.toList_inj.1 h2)
 rw [h1,h3]
theorem ji1 {W:World} (h:laidMetH Tryz.prog Rows.wholeFlatRow.laid W) (hsh:W.ShapedOpen Tryz.prog):GL W/\HalvesAt W:=by
 rw [MakeChecks.laidMetH_plain _ _ _ (by kernel_rfl)] at h
 obtain ⟨ps,hl,_,_⟩:=h
 obtain ⟨_,_,_,_,_,_,_,_,_,_,hl,_⟩:=hl
 obtain ⟨_,_,_,_,_,_,_,_,_,_,hl,_⟩:=hl
 obtain ⟨_,_,_,_,_,_,_,_,_,_,hl,_⟩:=hl
 obtain ⟨_,_,_,_,_,_,_,_,_,_,hl,_⟩:=hl
 obtain ⟨_,_,_,_,_,_,_,_,_,_,hl,_⟩:=hl
 obtain ⟨_,_,_,_,_,_,_,_,_,_,hl,_⟩:=hl
 obtain ⟨g0,t0,cs0,f0,p0,q0,hg0,ht0,hv0,hd0,hl,_⟩:=hl
 obtain ⟨g1,t1,cs1,f1,p1,q1,hg1,ht1,hv1,hd1,hl,_⟩:=hl
 obtain rfl := Option.some.inj ((show Tryz.prog.globalNamed "hachure/crc.halves" = some 1 by kernel_rfl).symm.trans hg0)
 obtain rfl := Option.some.inj ((show Tryz.prog.globalNamed "hachure/script.verbs" = some 0 by kernel_rfl).symm.trans hg1)
 obtain rfl:=Option.some.inj ((show (Tryz.prog.globals[1]?).map (·.type)=some 411 by kernel_rfl).symm.trans ht0)
 obtain rfl:=Option.some.inj ((show (Tryz.prog.globals[0]?).map (·.type)=some 404 by kernel_rfl).symm.trans ht1)
 refine ⟨⟨?_,fun i s hs=>?_⟩,?_⟩
 ·exact cell_of_shapedOpen_int (t:=3) (zero:=#[.int .i64 0]) hsh (by decide +kernel) (by kernel_rfl) (by kernel_rfl) (by kernel_rfl) (by kernel_rfl) q3
 ·have h1:=lL (zs:=verbL) Tryz.underlying404 q9 (by kernel_rfl) hd1 i s hs
  have:=World.var?_cell hg1 hv1 i
  rw [this,<-h1]
  simp
 ·have h1:=Lib.cells_of_tab (k:=.u32) (zs:=[0,274646895,549293790,820201905,1098587580,1361435347,1640403810,1905808397,2197175160,2460548119,2722870694,2987750089,3280807620,3553878443,3811616794,4084100981]) Tryz.underlying411 nK (by kernel_rfl) (by kernel_rfl) hd0
  have hc:=fun i=>World.var?_cell hg0 hv0 i
  refine ⟨[0,274646895,549293790,820201905,1098587580,1361435347,1640403810,1905808397,2197175160,2460548119,2722870694,2987750089,3280807620,3553878443,3811616794,4084100981],rfl,.inr ⟨_,0,rfl,?_,fun j u hj=>?_⟩⟩
  ·have h0:=hc 0
   have h2:cs0[0]?=some (.int .u32 0):=by have:=congrArg (·[0]?) h1; simpa using this
   rw [h2] at h0
   exact World.block_lt_of_cell? _ _ h0
  ·rw [Nat.zero_add,hc j,<-hj]
   have:=congrArg (·[j]?) h1
   simpa using this
theorem mW (H:Type) (enc:TypeId × Value->H) (W:World) (base:Nat) (args:Array Value) (ds gs:List (DataW H)) (before:List MemPlace)
  (hval:∀ (j:Nat) t v,Tryz.f3.params[j]?=some t->args[j]?=some v->Value.okWide Tryz.prog W .any base t v)
  (hW:DataW.Whole enc Tryz.prog Tryz.f3.params.toList Rows.wholeFlatSpec.vars false W args.toList ds gs before) (hGL:GL W) (hHA:HalvesAt W) :
  Calls Tryz.prog 3 args W fun e W'=>∃ v,e=.returned v/\Rows.wholeFlatSpec.post enc Tryz.prog Tryz.f3 false true false false W args v W':=by
 have hW':=hW
 obtain ⟨p,q,hA0,hV,rfl,hfz,hnd⟩:=hW
 have hA:DataW.TrodAll enc Tryz.prog W 0 (fun _=>true) true Tryz.f3.params.toList args.toList ds p:=hA0
 rw [Tryz.params3] at hA hval
 obtain ⟨v0,vs0,d0,ds0,p0,q0,hargs0,rfl,rfl,h0,r0⟩:=trodAll_cons hA
 obtain ⟨v1,vs1,d1,ds1,p1,q1,hargs1,rfl,rfl,h1,r1⟩:=trodAll_cons r0
 obtain ⟨v2,vs2,d2,ds2,p2,q2,hargs2,rfl,rfl,h2,r2⟩:=trodAll_cons r1
 obtain ⟨v3,vs3,d3,ds3,p3,q3,hargs3,rfl,rfl,h3,r3⟩:=trodAll_cons r2
 obtain ⟨v4,vs4,d4,ds4,p4,q4,hargs4,rfl,rfl,h4,r4⟩:=trodAll_cons r3
 obtain ⟨rfl,rfl,rfl⟩:=trodAll_nil r4
 obtain rfl:args=#[v0,v1,v2,v3,v4]:=by rw [<-Array.toList_inj,hargs0,hargs1,hargs2,hargs3,hargs4]
 obtain ⟨rfl,rfl⟩:=trodVars_none hV
 obtain ⟨w,rfl,w_lo,w_hi⟩:=args.jlC q2 (hval 0 _ v0 rfl rfl) h0
 obtain ⟨h,rfl,h_lo,h_hi⟩:=args.jlC q2 (hval 1 _ v1 rfl rfl) h1
 obtain ⟨v,rfl,v_lo,v_hi⟩:=args.jlC q2 (hval 2 _ v2 rfl rfl) h2
 obtain ⟨ax,ay,rfl,a_b⟩:=args.jlp (hval 3 _ v3 rfl rfl) h3
 obtain ⟨bx,by_,rfl,b_b⟩:=args.jlp (hval 4 _ v4 rfl rfl) h4
 refine ((jbB (W:=W) hGL hHA)).2.mono ?_
 rintro e W' ⟨v',rfl,rfl,hg⟩
 exact ⟨_,rfl,jdb jk2 hW' rfl hg rfl rfl (fun _ _ _=>(trodAll_cons_mk (shut_bool q4 _) trodAll_mk0)) (ok_one (by kernel_rfl) rfl (okWide_bool_mk q4 _))⟩
noncomputable def start (os:Os):World :=
 { World.doorLaid Tryz.prog 82 os with heap:=(World.doorLaid Tryz.prog 82 os).heap.modify 6 fun
  | .cells _ t z=>.cells (Pinned.utf8FirstZ.map fun (n:Nat)=>Value.int .u8 (n:Int)).toArray t z
  | o=>o }
theorem jeJ (os:Os) (args:Array Value):laidMetH Tryz.prog Rows.wholeFlatRow.laid ((start os).forCall (fun _ _=>0) ⟨#[],args,[]⟩).memory :=
 laidMetH_of_parts3 (fuel:=8) (laidMet_of_run' 8 (by kernel_rfl) (by kernel_rfl)) (by kernel_rfl) (by kernel_rfl)
theorem jkv (os:Os) (started:os.Started) (H:Type) (enc:TypeId × Value->H) :
  ReturnsInHanded {} Tryz.checked os 3 .any (fun w args=>(Rows.wholeFlatSpec.pre enc Tryz.prog Tryz.f3 [] false w args/\laidMetH Tryz.prog Rows.wholeFlatRow.laid w)/\sizedMet enc Tryz.prog Tryz.f3 (OpenSpec.ofChange Rows.wholeFlatSpec) false w args)
   (Rows.wholeFlatSpec.post enc Tryz.prog Tryz.f3 false true false false):=by
 refine b7 (C:=Tryz.checked) (X:=fun w _=>laidMetH Tryz.prog Rows.wholeFlatRow.laid w) (fun _ _ _ hh h=>h.of_heap hh) own started (by kernel_rfl) Tryz.func3
  (ChangeSpec.witness_shaped (enc:=enc) (C:=Tryz.checked) (os:=os) (X:=fun w _=>laidMetH Tryz.prog Rows.wholeFlatRow.laid w) false (start os) #[.int .i64 0,.int .i64 0,.int .i64 0,.agg #[.int .i64 0,.int .i64 0],.agg #[.int .i64 0,.int .i64 0]] 8 rfl (World.shaped_of_RefB (by kernel_rfl) (by kernel_rfl)) (by kernel_rfl) (by kernel_rfl) (by kernel_rfl) (jeJ os _)) ?_
 intro W base args ds gs before hval hW hL hsh
 obtain ⟨h1,h2⟩:=ji1 hL hsh
 exact mW H enc W base args ds gs before hval hW h1 h2
end wholeFlat
end Go.Proofs.YtipnifjmhlcehaaGreatDoor
