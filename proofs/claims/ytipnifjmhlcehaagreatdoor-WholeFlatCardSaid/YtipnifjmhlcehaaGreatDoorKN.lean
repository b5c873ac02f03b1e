/- hachuretop.WholeFlat: a part of the proof that the law returns true at every input (Defer, WordE, WordF, FlatL, EncL, Byte, ByteB); no condition of its own. -/
import Derived.RecoverIn
import Derived.Test.YtipnifjmhlcehaaGreatDoorKM
import Derived.Test.YtipnifjmhlcehaaGreatDoorKC
import Derived.Test.YtipnifjmhlcehaaGreatDoorKD
import Derived.Test.YtipnifjmhlcehaaGreatDoorKJ
import Derived.Test.YtipnifjmhlcehaaGreatDoorKG
import Derived.Test.YtipnifjmhlcehaaGreatDoorKL
import Derived.Lib.AppendZeros
set_option linter.unusedVariables false
set_option linter.unusedSimpArgs false
set_option maxRecDepth 100000
set_option maxHeartbeats 16000000
namespace Go.Proofs.YtipnifjmhlcehaaGreatDoor
section
open Go.RowKit
section
variable {P : Program} {N : Nat} {e : Nat → Value} {a : Act} {w : World} {ro : Option Nat}
theorem pN {id:Nat} {o1 o2:Oper} {v:Value} {dd:Deferred} {Q':Exit->Act->World->Prop} (hr:Rep N [] e a) (hd1:vE N o1.dst=true) (hd2:vE N o2.dst=true) (hw1:wE #[o1,o2] e o1=true) (hw2:wE #[o1,o2] (yU e o1.dst v) o2=true)
  (h1:(execOp (ev e) o1).run P w=.ok (.value v) w) (h2:(execOp (ev (yU e o1.dst v)) o2).run P w=.ok (.defer dd) w)
  (hn:∀ a',Rep N [dd] (yU (yU e o1.dst v) o2.dst undef) a'->Q' .normal a' w):(Code.region id #[o1,o2] false).wpIn (wF none) 0 P Q' a w:=by
 refine wpIn_region_lit (l:=[o1,o2]) ?_
 unfold wpListIn
 rw [hr.wanted,if_pos hw1]
 unfold Oper.wpIn
 refine ⟨fun _ _=>trivial,?_⟩
 rw [hr.eval,show (wF none).round=none from rfl,Oper.semAt_none,h1]
 have hr1:=hr.put hd1 v
 show wpListIn _ _ _ _ _ _ _ _
 unfold wpListIn
 rw [hr1.wanted,if_pos hw2]
 unfold Oper.wpIn
 refine ⟨fun _ _=>trivial,?_⟩
 rw [hr1.eval,show (wF none).round=none from rfl,Oper.semAt_none,h2]
 have hr2:Rep N [dd] (yU e o1.dst v) { a.put o1.dst v with defers:=dd::(a.put o1.dst v).defers }:=⟨by rw [hr1.defers],hr1.size,hr1.get⟩
 exact hn _ (hr2.put hd2 undef)
def LF (P:Program) (N:Nat) (fn:Func) (R:Value->World->Prop) (dd:Deferred):Exit->(Nat->Value)->World->Prop
 | .normal,e,w | .ret,e,w=>∀ a,Rep N [dd] e a->Leaves P fn a.tmps (fun en w'=>∃ v,en=.returned v/\R v w') [dd] .returning w
 | _,_,_=>False
theorem jf8 {f:FuncId} {fn:Func} {r0 rest:Code} {id:Nat} {o1 o2:Oper} {args:List Value} {R:Value->World->Prop} (hf:P.funcs[f]?=some fn) (hb:fn.body=some (.seq r0 (.seq (.region id #[o1,o2] false) rest))) (hN:fn.ntmps=N) (hcl:uP P f=true)
  (hk:(q8 N r0 && q8 N rest && Nat.ble args.length N && vE N o1.dst && vE N o2.dst)=true)
  (h:CW P N r0 (fun x e w=>match x with
   | .normal=>∃ v dd,wE #[o1,o2] e o1=true/\wE #[o1,o2] (yU e o1.dst v) o2=true/\(execOp (ev e) o1).run P w=.ok (.value v) w/\(execOp (ev (yU e o1.dst v)) o2).run P w=.ok (.defer dd) w/\CW P N rest (LF P N fn R dd) (yU (yU e o1.dst v) o2.dst undef) w
   | _=>False) (xN args) w):Fn P f args w R:=by
 simp only [Bool.and_eq_true] at hk
 obtain ⟨⟨⟨⟨hk0,hkr⟩,hle⟩,hd1⟩,hd2⟩:=hk
 have hle:args.length<=N:=Nat.le_of_ble_eq_true hle
 refine ⟨hcl,calls_of_wp_defers hf hb ((wpIn_wide (n:=0)).1 ?_)⟩
 refine wpIn_seq (wpIn_mono (h hk0 [] _ ⟨rfl,by simp [hN]; omega,fun k=>?_⟩ none) ?_)
 ·simp only [xN,List.getD_eq_getElem?_getD,Array.getD_eq_getD_getElem?,Array.getElem?_append,List.size_toArray,List.getElem?_toArray,hN]
  split
  ·rfl
  ·rename_i hge
   rw [List.getElem?_eq_none (by omega)]
   simp only [Array.getElem?_replicate]
   split <;> rfl
 ·rintro x a' w' ⟨e',hr',hq⟩
  cases x <;> first | exact hq.elim | skip
  obtain ⟨v,dd,hw1,hw2,h1,h2,hc⟩:=hq
  refine wpIn_seq (pN hr' hd1 hd2 hw1 hw2 h1 h2 fun a2 hr2=>?_)
  refine wpIn_mono (hc hkr [dd] a2 hr2 none) ?_
  rintro x a3 w3 ⟨e3,hr3,hq⟩
  cases x <;> first | exact hq.elim | skip
  all_goals
   have:=hq a3 hr3
   show Leaves _ _ _ _ _ _ _
   rw [hr3.defers]
   exact this
theorem jhX {f f2:FuncId} {fn:Func} {rest:Code} {id:Nat} {o1 o2:Oper} {args:List Value} {a2:Array Value} {R:Value->World->Prop} (hf:P.funcs[f]?=some fn) (hb:fn.body=some (.seq (.region id #[o1,o2] false) rest)) (hN:fn.ntmps=N)
  (hk:(q8 N rest && Nat.ble args.length N && vE N o1.dst && vE N o2.dst)=true) (hw1:wE #[o1,o2] (xN args) o1=true) (hw2:wE #[o1,o2] (yU (xN args) o1.dst .nilIface) o2=true)
  (h1:(execOp (ev (xN args)) o1).run P w=.ok .recover w) (h2:(execOp (ev (yU (xN args) o1.dst .nilIface)) o2).run P w=.ok (.enter f2 a2) w)
  (hc:Calls P f2 a2 w fun en w'=>∃ v,en=.returned v/\CW P N rest (QF P fn.results R) (yU (yU (xN args) o1.dst .nilIface) o2.dst v) w'):CallsD P f args.toArray .returning w fun en u w'=>u=.returning/\∃ v,en=.returned v/\R v w':=by
 simp only [Bool.and_eq_true] at hk
 obtain ⟨⟨⟨hkr,hle⟩,hd1⟩,hd2⟩:=hk
 have hle:args.length<=N:=Nat.le_of_ble_eq_true hle
 refine callsD_of_wpS hf hb fun c₀ cs hm=>wpS_seq (wpS_region ?_)
 have hr:Rep N [] (xN args) { tmps:=args.toArray ++ Array.replicate (fn.ntmps - args.toArray.size) undef,defers:=[] }:=⟨rfl,by simp [hN]; omega,fun k=>by
  simp only [xN,List.getD_eq_getElem?_getD,Array.getD_eq_getD_getElem?,Array.getElem?_append,List.size_toArray,List.getElem?_toArray,hN]
  split
  ·rfl
  ·rename_i hge
   rw [List.getElem?_eq_none (by omega)]
   simp only [Array.getElem?_replicate]
   split <;> rfl⟩
 generalize ({ tmps:=args.toArray ++ Array.replicate (fn.ntmps - args.toArray.size) undef,defers:=[] }:Act)=a0 at *
 show wpOpsS P #[o1,o2] _ [0,1] a0 (c₀::cs) w
 have e1:(#[o1,o2]:Array Oper)[0]?=some o1:=rfl
 have e2:(#[o1,o2]:Array Oper)[1]?=some o2:=rfl
 have hrec:recoverD (c₀::cs)=none:=by simp [recoverD,hm]
 have hr1:=hr.put hd1 .nilIface
 unfold wpOpsS
 simp only [e1]
 rw [hr.wanted,if_pos hw1,hr.eval,h1]
 simp only [hrec]
 unfold wpOpsS
 simp only [e2]
 rw [hr1.wanted,if_pos hw2,hr1.eval,h2]
 refine Calls.mono hc ?_
 rintro en w' ⟨v,rfl,hcw⟩
 refine wpS_of_wp ((wpIn_wide (n:=0)).1 (wpIn_mono (hcw hkr [] _ (hr1.put hd2 v) none) ?_))
 rintro x a' w3 ⟨e',hr',hq⟩
 cases x <;> first | exact hq.elim | skip
 all_goals
  obtain ⟨u,hu,hR⟩:=hq
  exact ⟨hr'.defers,.returning,by rw [<-hm],u,hu fn _ rfl hr'.get,rfl,u,rfl,hR⟩
theorem jlm {fn:Func} {R R2:Value->World->Prop} {fv:Go.Fn} {cap dargs:Array Value} {f:FuncId} {args:Array Value} (hi:(invoke (.fn fv cap) dargs).run P w=.ok (.enter f args) w)
  (hc:CallsD P f args .returning w fun en u w'=>u=.returning/\∃ v,en=.returned v/\R2 v w') (hR:∀ v w',R2 v w'->Res P R fn.results e w'):LF P N fn R ⟨.fn fv cap,dargs⟩ .ret e w:=by
 intro a hr
 refine ⟨by simp,fv,cap,f,args,rfl,hi,?_⟩
 intro c cs hm
 obtain ⟨en,u,w',fr,⟨rfl,v,rfl,h2⟩,hs⟩:=hc c cs hm
 refine ⟨.returned v,.returning,w',fr,?_,hs⟩
 obtain ⟨x,hx,hRx⟩:=hR v w' h2
 exact ⟨x,hx fn a.tmps rfl hr.get,x,rfl,hRx⟩
end
end
section
open Go.RowKit
theorem jkZ {P:Program} {e:Nat->Value} {w:World} {a u:Tmp} {t tb t2 tb2:TypeId} {b o n b2 o2:Nat} {dd dd2:TypeDesc} {cs l l2:List Value} {v2:Value} {R:Value->World->Prop} (hu:P.underlying t=some dd) (hd:fL dd=true) (hz:(sizeOf t).run P w=.ok n w) (hx:e a=.pointer (some ⟨b,o,none⟩)) (hB:Blk w b tb l)
  (hl:fzl ((l.drop o).take n)=some cs) (hn:cs.length=n) (hu2:P.underlying t2=some dd2) (hd2:fL dd2=false) (hx2:e u=.pointer (some ⟨b2,o2,none⟩)) (hB2:Blk w b2 tb2 l2) (hl2:l2[o2]?=some v2) (hR:R (.tuple #[.agg cs.toArray,v2]) w):Res P R #[.cell a t,.cell u t2] e w :=
 ⟨_,fun fn tmps hr hg=>by
  have h1 := k7 (o := default) (jT (P := P) (d := none) (ty := 0) (ps := "") (af := #[]) (e := fun _ => .pointer (some ⟨b, o, none⟩)) (x := .tmp 0) hu hd hz rfl hB hl hn)
  have h2 := k7 (o := default) (jB (P := P) (d := none) (ty := 0) (ps := "") (af := #[]) (e := fun _ => .pointer (some ⟨b2, o2, none⟩)) (x := .tmp 0) hu2 hd2 rfl hB2 hl2)
  have g1:=hg a
  have g2:=hg u
  rw [hx,Array.getD_eq_getD_getElem?] at g1
  rw [hx2,Array.getD_eq_getD_getElem?] at g2
  simp [results,hr,g1,g2,asAddr,h1,h2],hR⟩
section
variable {W w : World}
def opK (k:Int):OpS:=⟨k,0,0,0,0,0,0,0,0,0,0,.nil,.nil,.nil⟩
theorem ja4 {α:Type} {s vb:ByteArray} {k:Nat} {rest:List ByteArray} {oF:α->OpS} {Q:α->List HA} (hG:GL W) (hs:s.size<=1000) (hsp:Lib.splitB ⟨#[32]⟩ 0 (Lib.countB s ⟨#[32]⟩) s=vb::rest) (hne:(!(vb.toList == (⟨#[]⟩:ByteArray).toList))=true) (hk:1<=k/\k < 28)
  (hun:(verbL.map fun s=>s.toList == vb.toList)=(List.range 28).map (fun i=>decide (i=k))) (hkF:∀ x,(oF x).k=k)
  (hp:∀ (w:World) (lb b o c ob:Nat) (T:List HA),rest.length<=c->St No W w (.blk lb 337 [.slice (some ⟨b,o,none⟩) rest.length c,.bool true]::.wd b o rest::.blk ob 34 (opK k).cs::T) ->
   Fn Tryz.prog (251) [pt lb,pt ob] w (fun v w'=>∃ o' c' x,v=.tuple #[]/\St No W w' (.blk lb 337 [.slice (some ⟨b,o',none⟩) 0 c',.bool true]::.wd b o' []::.blk ob 34 (oF x).cs::(Q x ++ T)))) :
  Fn Tryz.prog 210 [.string s] W (fun v w'=>∃ x,v=(oF x).v/\St No W w' (Q x)):=by
 have hvbl:∀ i (hi:i < 28),∃ s',verbL[i]?=some s'/\(s'.toList == vb.toList)=decide (i=k):=fun i hi=>by
  have h1:(verbL.map fun s=>s.toList == vb.toList)[i]?=some (decide (i=k)):=by rw [hun,List.getElem?_map,List.getElem?_range hi]; rfl
  rw [List.getElem?_map] at h1
  cases h2:verbL[i]? with
  | none=>rw [h2] at h1; cases h1
  | some s'=>rw [h2] at h1; exact ⟨s',rfl,by simpa using h1⟩
 have S:=St.start W
 refine zn Tryz.func210 Tryz.results210 Tryz.ntmps210 ?_
 refine zs ?_
 refine jF (jL nH rfl) S ?_
 intro b_res w2_ g2_ S
 refine z ?_
 refine jC rfl (jbL (l:=vb::rest) s ⟨#[32]⟩ S hG (by omega) (by decide) hsp) ?_
 rintro _ w3_ ⟨sp,rfl,S⟩
 refine jE (jN (pl:=[(0,1),(1,1)]) Tryz.underlying337 Tryz.zeroValue337 (fun w=>by kernel_rfl) rfl rfl) ?_
 refine jF (jO rfl) S ?_
 intro b_ln w5_ g5_ S
 refine z ?_; refine z ?_
 refine jC rfl (jbf (s:=vb) (ws:=rest) (Nat.le_refl _) S) ?_
 rintro _ w6_ ⟨o2,c2,rfl,hc2,S⟩
 refine z ?_
 refine zs ?_
 refine jF (jL nH rfl) S ?_
 intro b_op w8_ g8_ S
 refine zs ?_
 refine j3 (nZ (cs:=verbL.map Value.string) Tryz.underlying404 rfl (Tryz.sizeOf404 _) rfl rfl (fun j v hj=>?_)) ?_
 ·rw [List.getElem?_map] at hj; obtain ⟨s',h1,rfl⟩:=Option.map_eq_some_iff.1 hj; rw [Nat.zero_add]; exact (hG.gr S.out).vb j s' h1
 refine z ?_
 refine zc ?_
 refine jS ?_
 refine zc ?_
 refine j9 (fun m e w'=>∃ i:Nat,i+m=28/\SL e [(2,pt b_res),(3,pt b_ln),(4,.string vb),(5,pt b_op),(14,.agg (verbL.map Value.string).toArray),(15,ii i)] /\
   St No W w' (.blk b_op 34 (opK (if k < i then (k:Int) else 0)).cs::.blk b_ln 337 [.slice (some ⟨sp,o2,none⟩) rest.length c2,.bool true]::.wd sp o2 rest::.blk b_res 34 (opK 0).cs::[])) 28
  ⟨0,rfl,⟨rfl,rfl,rfl,rfl,rfl,rfl,trivial⟩,by rw [if_neg (by omega)]; exact S⟩ ?_
 clear S
 rintro m e w2 ⟨i,hi,hsl,S⟩
 rw [hsl.fold]
 by_cases hlt:i < 28
 ·obtain ⟨s',hs',heq⟩:=hvbl i hlt
  have hix:(verbL.map Value.string)[(i:Int).toNat * 1]?=some (.string s'):=by rw [Nat.mul_one,Int.toNat_natCast,List.getElem?_map,hs']; rfl
  by_cases hik:i=k
  ·rw [decide_eq_true hik] at heq
   refine zt ?_; refine z ?_
   refine jE (jal Tryz.underlying404 q9 qz9 rfl rfl rfl (by omega) (by omega) hix) ?_
   iterate 4 refine z ?_
   refine jE (sR rfl rfl heq) ?_
   refine z ?_; refine z ?_
   refine jQ rfl ?_
   refine jE (jkn rfl rfl hne) ?_
   refine jE (jA rfl) ?_
   first | refine jR ?_ | (refine jG ?_; show CW _ _ _ _ _ _) | refine jG ?_
   repeat refine jJ ?_
   refine yS rfl ?_
   repeat refine jJ ?_
   refine jI ?_
   refine jE (jA rfl) ?_
   refine jE (jD q34 rfl qz3 rfl rfl) ?_
   refine j8 (i:=0) S rfl (qz3 _) rfl rfl rfl rfl rfl rfl ?_
   intro w9 S
   refine zr ?_; refine z ?_
   refine ze ?_
   subst hik
   exact ⟨m - 1,by omega,i+1,by omega,⟨rfl,rfl,rfl,rfl,rfl,rfl,trivial⟩,by rw [if_pos (by omega)]; exact S⟩
  ·rw [decide_eq_false hik] at heq
   refine zt ?_; refine z ?_
   refine jE (jal Tryz.underlying404 q9 qz9 rfl rfl rfl (by omega) (by omega) hix) ?_
   iterate 4 refine z ?_
   refine jE (sR rfl rfl heq) ?_
   (iterate 4 refine z ?_); refine zr ?_; refine z ?_
   refine ze ?_
   have e1:(if k < i then (k:Int) else 0)=if k < i+1 then (k:Int) else 0:=by
    by_cases h:k < i
    ·rw [if_pos h,if_pos (by omega)]
    ·rw [if_neg h,if_neg (by omega)]
   rw [e1] at S
   exact ⟨m - 1,by omega,i+1,by omega,⟨rfl,rfl,rfl,rfl,rfl,rfl,trivial⟩,S⟩
 ·obtain rfl:i=28:=by omega
  rw [if_pos hk.2] at S
  have S2:=S.pick 4 [1,2,0,3] rfl rfl rfl
  refine zf ?_
  refine zc ?_
  refine jM rfl ?_
  refine zc ?_
  refine jY ?_
  repeat first | refine jP ?_ | refine jU ?_
  show CW _ _ _ _ _ _
  refine z ?_
  refine jC rfl (hp _ _ _ _ _ _ _ hc2 S2) ?_
  rintro _ w9_ ⟨o3,c3,x,rfl,S⟩
  have hkx:=hkF x
  refine ze ?_
  have S:=St.mid (A:=[_,_,_]) (B:=Q x) (C:=[_]) S
  have S:=St.mid (A:=Q x) (B:=[_,_,_,_]) (C:=[]) S
  rw [List.append_nil] at S
  repeat refine jJ ?_
  refine jI ?_
  refine jE (jD q34 rfl qz3 rfl rfl) ?_
  refine j3 (jB q3 rfl rfl (S.blk (i:=2) rfl) rfl) ?_
  refine jE (yP (b:=false) rfl (beq_eq_false_iff_ne.2 (by omega))) ?_
  refine jE (jA rfl) ?_
  first | refine jK rfl ?_ | (refine jQ rfl ?_; refine jE (jA rfl) ?_)
  first | refine jK rfl ?_ | (refine jQ rfl ?_; refine jE (jA rfl) ?_)
  first | refine jK rfl ?_ | (refine jQ rfl ?_; refine jE (jD Tryz.underlying337 rfl Tryz.sizeOf39 rfl rfl) ?_)
  first | refine jK rfl ?_ | (refine jQ rfl ?_; refine j3 (jB q39 rfl rfl (S.blk (i:=0) rfl) rfl) ?_)
  first | refine jK rfl ?_ | (refine jQ rfl ?_; refine jE (gZ q39 rfl) ?_)
  first | refine jK rfl ?_ | (refine jQ rfl ?_; refine jE (yP (b:=false) rfl (decide_eq_false (by omega))) ?_)
  refine jE (jA rfl) ?_
  first | refine jR ?_ | (refine jG ?_; show CW _ _ _ _ _ _) | refine jG ?_
  repeat refine jJ ?_
  refine jM rfl ?_
  repeat refine jJ ?_
  refine j5 ?_
  try show CW _ _ _ _ _ _
  repeat refine jJ ?_
  refine jI ?_
  refine j3 (jT q34 rfl (rS _) rfl (S.blk (i:=2) rfl) rfl rfl) ?_
  refine jH (i:=3) S rfl (rS _) rfl rfl rfl rfl rfl rfl ?_
  intro w10_ S
  refine zq ?_
  exact v8 q34 rfl (rS _) rfl (S.blk (i:=3) rfl) rfl rfl ⟨x,rfl,S.drop 4⟩
theorem caught_E {a:Option Addr}:Fn Tryz.prog 209 [.nilIface,.pointer a] W (yK (.tuple #[]) W):=by
 have S:=St.start W
 refine zn Tryz.func209 Tryz.results209 Tryz.ntmps209 ?_
 refine z ?_
 refine jE (jkm Tryz.underlying20 rfl) ?_
 refine zq ?_
 exact jk0 ⟨rfl,S.out⟩
theorem Fn.out {P:Program} {f:FuncId} {args:List Value} {R:Value->World->Prop} (h:Fn P f args w R):Calls P f args.toArray w fun en w'=>∃ v,en=.returned v/\R v w':=h.2
theorem jhb {L:List HA} {c r:Nat} {l:List Value} (S:St No W w (.blk c 36 [ii 0]::.blk r 34 l::L)) :
  CallsD Tryz.prog (208) #[pt c,pt r] .returning w fun en u w'=>u=.returning/\∃ v,en=.returned v/\St No W w' (.blk c 36 [ii 0]::.blk r 34 l::L):=by
 refine jhX (args:=[pt c,pt r]) (R:=fun _ w'=>St No W w' (.blk c 36 [ii 0]::.blk r 34 l::L)) (f2:=209) (a2:=#[.nilIface,pt c]) (Tryz.func208) rfl (Tryz.ntmps208) (by kernel_rfl) rfl rfl ?_ ?_ ?_
 ·simp [execOp,resolve,invoke,builtin]
 ·have hr:=y5 (P:=Tryz.prog) (f:=209) (args:=#[.nilIface,pt c]) (w:=w) (by kernel_rfl)
  simp [execOp,resolve,Deferred.ofValue,invoke,ev,yU,upd,xN,hr]
 ·refine (caught_E.out).mono ?_
  rintro en w' ⟨v,rfl,rfl,g⟩
  refine ⟨_,rfl,?_⟩
  have S:=S.gr g
  refine z ?_
  refine jE (yP (b:=false) rfl rfl) ?_
  refine jG ?_
  show CW _ _ _ _ _ _
  refine jM rfl ?_
  refine j5 ?_
  exact zN S
theorem jjJ {α:Type} {s:ByteArray} {oF:α->OpS} {Q:α->List HA} (hG:GL W) (hp:∀ W,GL W->Fn Tryz.prog 210 [.string s] W (fun v w'=>∃ x,v=(oF x).v/\St No W w' (Q x))) :
  Fn Tryz.prog 126 [.string s] W (fun v w'=>∃ x,v=.tuple #[(oF x).v,ii 0]/\St No W w' (Q x)):=by
 have S:=St.start W
 refine jf8 (Tryz.func126) rfl (Tryz.ntmps126) (by kernel_rfl) (by kernel_rfl) ?_
 refine zs ?_
 refine jF (jL nH rfl) S ?_
 intro b_r w1 g1 S
 refine jF (jL Tryz.zeroValue36 rfl) S ?_
 intro b_c w2 g2 S
 refine jG ?_
 refine ⟨.func (.func 208) #[] #[pt b_c,pt b_r],⟨.fn (.func 208) #[pt b_c,pt b_r],#[]⟩,rfl,rfl,jA rfl w2,?_,?_⟩
 ·simp [execOp,resolve,Deferred.ofValue,ev,yU,upd,xN]
 refine z ?_
 refine jC rfl (hp _ (hG.gr S.out)) ?_
 rintro _ w3 ⟨x,rfl,S2⟩
 have S:=S.app S2
 have S:=St.mid (A:=Q x) (B:=[_,_]) (C:=[]) S
 rw [List.append_nil] at S
 refine jH (i:=1) (cs:=(oF x).cs) S rfl (rS _) rfl rfl rfl rfl rfl rfl ?_
 intro w4 S
 refine j8 (i:=0) S rfl (Tryz.sizeOf36 _) rfl rfl rfl rfl rfl rfl ?_
 intro w5 S
 refine jG ?_
 show CW _ _ _ _ _ _
 refine kO ?_
 have hr:=y5 (P:=Tryz.prog) (f:=208) (by kernel_rfl) #[pt b_c,pt b_r] w5
 refine jlm (R2:=fun _ w'=>St No W w' (.blk b_c 36 [ii 0]::.blk b_r 34 (oF x).cs::Q x)) (f:=208) (args:=#[pt b_c,pt b_r]) ?_ (jhb S) ?_
 ·simp [invoke,hr]
 ·intro v w6 S
  exact jkZ q34 rfl (rS _) rfl (S.blk (i:=1) rfl) rfl rfl Tryz.underlying36 rfl rfl (S.blk (i:=0) rfl) rfl ⟨x,rfl,S.drop 2⟩
end
end
section
open Go.RowKit
theorem pB:(Tryz.prog.info? 9).map (fun i=>(i.zero,i.size,i.bytes))=some (some (.string ByteArray.empty),1,16):=by kernel_rfl
section
variable {F : Nat → Prop} {W w : World} {T : List HA}
theorem jii {lb n c_ws:Nat} {A_ws:Option Addr} {xs:List Value} {s:ByteArray} (hn:n<=100) (S:St F W w (.blk lb 337 [.slice A_ws n c_ws,.bool false]::.row 9 1 A_ws n c_ws xs::T)) :
  Fn Tryz.prog (202) [pt lb,.string s] w (fun v w'=>∃ A' c',v=.string s/\St F W w' (.blk lb 337 [.slice A' (n+1) c',.bool false]::.row 9 1 A' (n+1) c' (xs ++ [.string s])::T)):=by
 refine zn Tryz.func202 Tryz.results202 Tryz.ntmps202 ?_
 iterate 12 refine z ?_
 refine yF q39 qz9 qv9 rfl rfl rfl rfl rfl rfl S ?_
 intro A_x w2_ g2_ S sa_x
 refine qA (i:=2) S rfl (fun h=>rfl) q39 pB rfl rfl rfl rfl (by simp) (by omega) (S.rd (i:=0) rfl) rfl (by omega) ?_
 intro A_ws3 c_ws3 w3_ S sa_ws
 refine z ?_; refine z ?_
 refine j8 (i:=1) S rfl (Tryz.sizeOf39 _) rfl rfl rfl rfl rfl rfl ?_
 intro w4_ S
 refine z ?_; refine z ?_
 refine zq ?_
 exact yD rfl ⟨_,_,rfl,S.drop 1⟩
theorem jdv {lb rb t p n v c_ws:Nat} {ol:List Value} {A_p A_ws:Option Addr} {xs:List Value} {s:ByteArray} (sa_p:yH A_p) (hn:n<=99) (hd:Dg s v) (hol:ol[p]?=some (ii v))
  (S:St F W w (.row 339 1 A_p 1 1 (jcv rb [p])::.blk lb 337 [.slice A_ws n c_ws,.bool false]::.row 9 1 A_ws n c_ws xs::.blk rb t ol::T)) :
  Fn Tryz.prog (200) [pt lb,.slice A_p 1 1] w (fun v' w'=>∃ A' c',v'=.tuple #[]/\St F W w' (.blk lb 337 [.slice A' (n+1) c',.bool false]::.row 9 1 A' (n+1) c' (xs ++ [.string s])::.blk rb t ol::T)):=by
 have hset:ol.set p (ii v)=ol:=by
  obtain ⟨h1,h2⟩:=List.getElem?_eq_some_iff.1 hol
  rw [<-h2]; exact List.set_getElem_self h1
 refine zn Tryz.func200 Tryz.results200 Tryz.ntmps200 ?_
 iterate 3 refine z ?_
 refine zc ?_
 refine jS ?_
 refine zc ?_
 refine j9 (fun m e w'=>∃ (k n':Nat) (A':Option Addr) (c':Nat) (xs':List Value),k+m=1/\(k=0->n'=n/\xs'=xs)/\(k=1->n'=n+1/\xs'=xs ++ [.string s]) /\
   SL e [(0,pt lb),(6,.slice A_p 1 1),(7,ii 1),(8,ii k)]/\St F W w' (.row 339 1 A_p 1 1 (jcv rb [p])::.blk lb 337 [.slice A' n' c',.bool false]::.row 9 1 A' n' c' xs'::.blk rb t ol::T)) 1
  ⟨0,n,A_ws,c_ws,xs,rfl,fun _=>⟨rfl,rfl⟩,fun h=>by omega,⟨rfl,rfl,rfl,rfl,trivial⟩,S⟩ ?_
 clear S
 rintro m e w2 ⟨k,n',A',c',xs',hk,h0,h1,hsl,S⟩
 rw [hsl.fold]
 by_cases hlt:k < 1
 ·obtain rfl:k=0:=by omega
  obtain ⟨rfl,rfl⟩:=h0 rfl
  refine zt ?_; refine zx ?_
  refine j3 (j7 Tryz.underlying339 rfl rfl (S.rd (i:=0) rfl) (v:=.pointer (some ⟨rb,p,none⟩)) rfl) ?_
  iterate 5 refine z ?_
  refine j3 (jB q2 rfl rfl (S.blk (i:=3) rfl) hol) ?_
  refine jC rfl (jcm hd) ?_
  rintro _ w1_ ⟨rfl,g1_⟩
  have S:=S.gr g1_
  refine jC rfl (jii (by omega) (S.pick 4 [1,2,0,3] rfl rfl rfl)) ?_
  rintro _ w2_ ⟨A2,c2,rfl,S⟩
  have S:=S.pick 4 [2,0,1,3] rfl rfl rfl
  refine jC rfl (sH hd) ?_
  rintro _ w3_ ⟨rfl,g3_⟩
  have S:=S.gr g3_
  refine z ?_
  refine j8 (i:=3) S rfl (qz2 _) rfl rfl rfl rfl hol rfl ?_
  intro w9 S
  refine zr ?_; refine z ?_
  refine ze ?_
  rw [hset] at S
  exact ⟨0,by omega,1,n'+1,A2,c2,_,rfl,fun h=>by omega,fun _=>⟨rfl,rfl⟩,⟨rfl,rfl,rfl,rfl,trivial⟩,S⟩
 ·obtain rfl:k=1:=by omega
  obtain ⟨rfl,rfl⟩:=h1 rfl
  refine zf ?_
  refine zc ?_
  refine jM rfl ?_
  refine zc ?_
  refine jY ?_
  repeat first | refine jP ?_ | refine jU ?_
  exact zN ⟨_,_,rfl,S.drop 1⟩
theorem jec {P:Program} {e:Nat->Value} {d:Option Tmp} {ty:TypeId} {ps:String} {af:Array Edge} {s x:Operand} {t el k bytes n c c2:Nat} {A:Option Addr} {z:Value} (hu:P.underlying t=some (.slice el)) (hI:(P.info? el).map (fun i=>(i.zero,i.size,i.bytes))=some (some z,k,bytes))
  (hs:ev e s=.slice A n c) (hn:n<=c) (hx:ev e x=.slice none 0 c2):OpR P e ⟨d,.call ⟨.builtin .append,#[s,x],#[t,t]⟩,ty,ps,af,none⟩ w (.slice A n c):=by
 obtain ⟨inf,hinf,hz0,hz1,hz2⟩:=info_parts hI
 have h0:=Src.ofNil (P:=P) (w:=w) (size:=inf.size) hu c2
 cases A <;> simp [OpR,execOp,resolve,invoke,builtin,hs,hx,Builtin.append_,run_underlying hu,sizeOf,typeInfo,hinf,h0.len,hn,h0.cells,storeCells]
theorem jaE {k:Nat} (hk:k=1\/k=4):Fn Tryz.prog 125 [ii k,RpS.v { code:=0 }] W (fun v w'=>∃ A c,v=.slice A 1 c/\1<=c/\St No W w' [.row 9 1 A 1 c [.string ⟨#[111,107]⟩]]):=by
 have S:=St.start W
 refine zn Tryz.func125 Tryz.results125 Tryz.ntmps125 ?_
 refine zs ?_
 refine jF (jO rfl) S ?_
 intro b_rp w2_ g2_ S
 iterate 3 refine z ?_
 refine jE (yP (b:=false) rfl rfl) ?_
 refine zs ?_
 refine yF q39 qz9 qv9 rfl rfl rfl rfl rfl rfl S ?_
 intro A_ws w4_ g4_ S sa_ws
 refine jE (jN (pl:=[(0,1),(1,1)]) Tryz.underlying337 Tryz.zeroValue337 (fun w=>by kernel_rfl) rfl rfl) ?_
 refine jF (jO rfl) S ?_
 intro b_ln w6_ g6_ S
 (iterate 3 refine z ?_); refine zf ?_; refine z ?_; refine zf ?_; refine z ?_; refine zf ?_; refine z ?_; refine zf ?_; refine z ?_; refine zf ?_; refine z ?_; refine zf ?_; refine z ?_; refine zf ?_; refine z ?_; refine zf ?_; refine z ?_; refine zf ?_; refine z ?_; refine zf ?_; refine z ?_; refine zf ?_; refine z ?_; refine zf ?_; refine z ?_; refine zf ?_; refine z ?_; refine zf ?_; refine z ?_; refine zf ?_; refine z ?_; refine zf ?_; refine z ?_; refine zf ?_; refine z ?_
 refine zc ?_
 refine jM rfl ?_
 refine zc ?_
 refine j5 ?_
 try show CW _ _ _ _ _ _
 refine zc ?_
 refine jY ?_
 repeat first | refine jP ?_ | refine jU ?_
 show CW _ _ _ _ _ _
 iterate 3 refine z ?_
 obtain ⟨wb,wo,rfl⟩:=sa_ws
 refine z ?_
 refine jC rfl (jht (x:=⟨#[111,107]⟩) ((S.rd (i:=1) rfl).cell rfl (j:=0) rfl)) ?_
 rintro _ w7_ ⟨rfl,g7_⟩
 have S:=S.gr g7_
 refine yF q39 qz9 qv9 rfl rfl rfl rfl rfl rfl S ?_
 intro A_out w9_ g9_ S sa_out
 refine z ?_
 refine j3 (jec q39 pB rfl (Nat.le_refl _) rfl) ?_
 refine z ?_
 refine zq ?_
 exact yD rfl ⟨_,_,rfl,Nat.le_refl _,S.sub (.cons_cons _ (.cons _ (.cons _ (.cons _ .slnil))))⟩
theorem jf2:Fn Tryz.prog 125 [ii 7,RpS.v { code:=0,n:=12 }] W (fun v w'=>∃ A c,v=.slice A 1 c/\1<=c/\St No W w' [.row 9 1 A 1 c [.string ⟨#[111,107,32,49,50]⟩]]):=by
 have S:=St.start W
 refine zn Tryz.func125 Tryz.results125 Tryz.ntmps125 ?_
 refine zs ?_
 refine jF (jO rfl) S ?_
 intro b_rp w2_ g2_ S
 iterate 3 refine z ?_
 refine jE (yP (b:=false) rfl rfl) ?_
 refine zs ?_
 refine yF q39 qz9 qv9 rfl rfl rfl rfl rfl rfl S ?_
 intro A_ws w4_ g4_ S sa_ws
 refine jE (jN (pl:=[(0,1),(1,1)]) Tryz.underlying337 Tryz.zeroValue337 (fun w=>by kernel_rfl) rfl rfl) ?_
 refine jF (jO rfl) S ?_
 intro b_ln w6_ g6_ S
 (iterate 3 refine z ?_); refine zf ?_; refine z ?_; refine zt ?_; refine z ?_
 refine zc ?_
 refine yS rfl ?_
 refine zc ?_
 refine j5 ?_
 try show CW _ _ _ _ _ _
 refine zc ?_
 refine yS rfl ?_
 refine zc ?_
 refine jY ?_
 repeat first | refine jP ?_ | refine jU ?_
 show CW _ _ _ _ _ _
 refine z ?_; refine z ?_
 refine yF Tryz.underlying395 Tryz.sizeOf339 Tryz.zeroValue339 rfl rfl rfl rfl rfl rfl S ?_
 intro A_q w8_ g8_ S sa_q
 refine jC rfl (jdv (T:=[]) (n:=1) sa_q (by decide) jlH rfl (S.pick 4 [0,1,2,3] rfl rfl rfl)) ?_
 rintro _ w9_ ⟨A2,c2,rfl,S⟩
 refine zc ?_
 refine jY ?_
 repeat first | refine jP ?_ | refine jU ?_
 show CW _ _ _ _ _ _
 obtain ⟨wb,wo,rfl⟩:=(S.row (i:=1) rfl).someA (by decide)
 have hcells:∀ (j:Nat) x,([⟨#[111,107]⟩,⟨#[49,50]⟩]:List ByteArray)[j]?=some x->[Value.string ⟨#[111,107]⟩,.string ⟨#[49,50]⟩][j]?=some (.string x):=fun j x hj=>by
  rw [show [Value.string ⟨#[111,107]⟩,.string ⟨#[49,50]⟩]=([⟨#[111,107]⟩,⟨#[49,50]⟩]:List ByteArray).map Value.string from rfl,List.getElem?_map,hj]; rfl
 iterate 4 refine z ?_
 refine jC rfl (jjc (xs:=[⟨#[111,107]⟩,⟨#[49,50]⟩]) (r:=⟨#[111,107,32,49,50]⟩) (fun j x hj=>(S.rd (i:=1) rfl).cell rfl (hcells j x hj)) ((S.row (i:=1) rfl).lt rfl) (by decide) (S.row (i:=1) rfl).cap (by decide +kernel) (by decide)) ?_
 rintro _ w10_ ⟨rfl,g10_⟩
 have S:=S.gr g10_
 refine yF q39 qz9 qv9 rfl rfl rfl rfl rfl rfl S ?_
 intro A_out w12_ g12_ S sa_out
 refine z ?_
 refine j3 (jec q39 pB rfl (Nat.le_refl _) rfl) ?_
 refine z ?_
 refine zq ?_
 exact yD rfl ⟨_,_,rfl,Nat.le_refl _,S.sub (.cons_cons _ (.cons _ (.cons _ (.cons _ .slnil))))⟩
end
end
section
def qS (gw gh:Nat) (v:Int):List Int:=yA gw gh fun _=>v
section
variable {gw gh : Nat} {v t : Int}
theorem kI {i:Nat} (h:i < gw * gh):(qS gw gh v).getD i 0=v:=by
 unfold qS yA
 rw [List.getD_eq_getElem?_getD,List.getElem?_map,List.getElem?_range h]
 rfl
theorem z7:(qS gw gh v).length=gw * gh:=zE gw gh _
theorem wH {x y:Nat} (hx:x < gw) (hy:y < gh):y * gw+x < gw * gh:=by
 have:=Nat.mul_le_mul_right gw (show y+1<=gh by omega)
 rw [Nat.succ_mul,Nat.mul_comm gh] at this
 omega
theorem jg2 (hw:1<=gw) (hh:1<=gh) {k x y:Nat} (hx:x < hfN gw k) (hy:y < hfN gh k):(pm gw gh (qS gw gh v) k x y).lo=v/\(pm gw gh (qS gw gh v) k x y).hi=v:=by
 obtain ⟨⟨a,b,ha,hb,_,_,h1⟩,⟨c,d,hc,hd,_,_,h2⟩⟩:=jaX (V:=qS gw gh v) hw hh k x y hx hy
 rw [h1,h2,kI (wH ha hb),kI (wH hc hd)]
 exact ⟨rfl,rfl⟩
def bR (gw b i:Nat):Int:=(((i % gw:Nat):Int) - (b % gw:Nat)).natAbs+(((i / gw:Nat):Int) - (b / gw:Nat)).natAbs
theorem bO {i:Nat} (hgw:0 < gw) (h:0 < (i+1) % gw):(i+1) % gw=i % gw+1/\(i+1) / gw=i / gw:=by
 have h1:=n7 (i:=i) hgw
 have e1:=Nat.div_add_mod i gw
 have e2:=Nat.div_add_mod (i+1) gw
 split at h1
 ·omega
 ·refine ⟨h1,Nat.eq_of_mul_eq_mul_left hgw ?_⟩
  omega
theorem f9 {i j:Nat} (hi:i < gw * gh) (hj:j < gw * gh):st (qS gw gh v) i j=1:=by
 unfold st
 rw [kI hi,kI hj]
 omega
theorem jiB {i j:Nat} (hgw:0 < gw) (h:Side gw i j):(i % gw=j % gw+1/\i / gw=j / gw)\/(j % gw=i % gw+1/\i / gw=j / gw)\/(i % gw=j % gw/\i / gw=j / gw+1)\/(i % gw=j % gw/\j / gw=i / gw+1):=by
 rcases h with ⟨rfl,h⟩ | ⟨rfl,h⟩ | rfl | rfl
 ·exact .inl (bO hgw h)
 ·have:=bO hgw h
  exact .inr (.inl ⟨this.1,this.2.symm⟩)
 ·exact .inr (.inr (.inl ⟨Nat.add_mod_right _ _,Nat.add_div_right _ hgw⟩))
 ·exact .inr (.inr (.inr ⟨(Nat.add_mod_right _ _).symm,Nat.add_div_right _ hgw⟩))
theorem jdf (hgw:0 < gw) {b:Nat} (hb:b < gw * gh):IsDist gw (qS gw gh v) b (bR gw b) where
 zero:=by unfold bR; omega
 nn i _:=by unfold bR; omega
 le i j hi hj s:=by
  rw [z7] at hi hj
  rw [f9 hi hj]
  unfold bR
  have:=jiB hgw s
  omega
 pred j hj hne:=by
  rw [z7] at hj ⊢
  have hm:=Nat.mod_lt j hgw
  have hmb:=Nat.mod_lt b hgw
  have hdb:b / gw < gh:=Nat.div_lt_of_lt_mul hb
  have hdj:j / gw < gh:=Nat.div_lt_of_lt_mul hj
  have ej:=Nat.div_add_mod j gw
  have eb:=Nat.div_add_mod b gw
  rcases Nat.lt_trichotomy (j % gw) (b % gw) with h | h | h
  ·have hn:=jbe (gh:=gh) hgw hj (by omega)
   have h1:=n7 (i:=j) hgw
   rw [if_neg (by omega)] at h1
   have h2:=bO (i:=j) hgw (by omega)
   refine ⟨j+1,hn,.inl ⟨rfl,by omega⟩,?_⟩
   rw [f9 hn hj]
   unfold bR
   omega
  ·rcases Nat.lt_trichotomy (j / gw) (b / gw) with h' | h' | h'
   ·have hn:j+gw < gw * gh:=by
     have h2:gw * (j / gw+1+1)<=gw * gh:=Nat.mul_le_mul_left _ (by omega)
     rw [Nat.mul_add,Nat.mul_add,Nat.mul_one] at h2
     omega
    refine ⟨j+gw,hn,.inr (.inr (.inl rfl)),?_⟩
    rw [f9 hn hj]
    have h1:(j+gw) % gw=j % gw:=Nat.add_mod_right _ _
    have h2:(j+gw) / gw=j / gw+1:=Nat.add_div_right _ hgw
    unfold bR
    omega
   ·exfalso
    rw [h,h'] at ej
    omega
   ·have hge:gw<=j:=by
     have h2:gw * 1<=gw * (j / gw):=Nat.mul_le_mul_left _ (Nat.lt_of_le_of_lt (Nat.zero_le _) h')
     omega
    obtain ⟨i,rfl⟩:∃ i,j=i+gw:=⟨j - gw,by omega⟩
    have h1:(i+gw) % gw=i % gw:=Nat.add_mod_right _ _
    have h2:(i+gw) / gw=i / gw+1:=Nat.add_div_right _ hgw
    refine ⟨i,by omega,.inr (.inr (.inr rfl)),?_⟩
    rw [f9 (by omega) hj]
    unfold bR
    omega
  ·obtain ⟨i,rfl⟩:∃ i,j=i+1:=⟨j - 1,by have:j ≠ 0:=by { intro e; subst e; simp at h }; omega⟩
   have h2:=bO (i:=i) hgw (by omega)
   refine ⟨i,by omega,.inr (.inl ⟨rfl,by omega⟩),?_⟩
   rw [f9 (by omega) hj]
   unfold bR
   omega
theorem jcd (hgw:0 < gw) {a b:Nat} (ha:a < gw * gh) (hb:b < gw * gh) {d:Nat->Int} (hd:IsDist gw (qS gw gh v) b d):d a=bR gw b a:=hd.uniq (jdf hgw hb) (by rw [z7]; exact ha)
theorem jce {r:Nat->Nat} (hgw:0 < gw) (h:jaG gw (qS gw gh v) t r) (ht:t<=v):∀ i,i < gw * gh->r i=0:=by
 intro i
 induction i using Nat.strongRecOn with
 | _ i ih =>
  intro hi
  have hl:i < (qS gw gh v).length:=by rw [z7]; exact hi
  rcases Nat.eq_zero_or_pos (i % gw) with h0 | h0
  ·by_cases hge:gw<=i
   ·rw [h.up i hl (by rw [kI hi]; exact ht) hge (by rw [kI (by omega)]; exact ht)]
    exact ih _ (by omega) (by omega)
   ·rw [Nat.mod_eq_of_lt (by omega)] at h0
    subst h0
    have:=h.le 0 hl
    omega
  ·have:i ≠ 0:=by intro e; subst e; simp at h0
   rw [h.left i hl (by rw [kI hi]; exact ht) h0 (by rw [kI (by omega)]; exact ht)]
   exact ih _ (by omega) (by omega)
theorem jcF {p:Nat->Bool} {n:Nat} (hn:0 < n) (h:∀ i,i < n->(p i=true ↔ i=0)):(List.range n).filter p=[0]:=by
 obtain ⟨m,rfl⟩:∃ m,n=m+1:=⟨n - 1,by omega⟩
 rw [List.range_succ_eq_map,List.filter_cons,if_pos ((h 0 (by omega)).2 rfl),List.filter_eq_nil_iff.2]
 intro a ha hp
 obtain ⟨b,hb,rfl⟩:=List.mem_map.1 ha
 have:=(h (b+1) (by have:=List.mem_range.1 hb; omega)).1 hp
 omega
theorem jat (gw:Nat):∀ (l:List Nat) (b:RV),(l.foldl (fun b i=>vD b (kB gw i)) b).x0<=b.x0/\(l.foldl (fun b i=>vD b (kB gw i)) b).y0<=b.y0/\b.x1<=(l.foldl (fun b i=>vD b (kB gw i)) b).x1/\b.y1<=(l.foldl (fun b i=>vD b (kB gw i)) b).y1 /\
  (∀ i ∈ l,((i % gw:Nat):Int)<=(l.foldl (fun b i=>vD b (kB gw i)) b).x1/\((i / gw:Nat):Int)<=(l.foldl (fun b i=>vD b (kB gw i)) b).y1)
 | [],b=>⟨Int.le_refl _,Int.le_refl _,Int.le_refl _,Int.le_refl _,fun i hi=>by cases hi⟩
 | i::l,b=>by
  have ih:=jat gw l (vD b (kB gw i))
  obtain ⟨h1,h2,h3,h4,h5⟩:=ih
  simp only [List.foldl_cons]
  generalize l.foldl (fun b i=>vD b (kB gw i)) (vD b (kB gw i))=R at *
  simp only [vD,kB] at h1 h2 h3 h4
  refine ⟨by omega,by omega,by omega,by omega,fun j hj=>?_⟩
  rcases List.mem_cons.1 hj with rfl | hj
  ·constructor <;> omega
  ·exact h5 j hj
theorem jek (gw:Nat) {X Y:Int}:∀ (l:List Nat) (b:RV),0<=b.x0->0<=b.y0->b.x1<=X->b.y1<=Y->(∀ i ∈ l,((i % gw:Nat):Int)<=X/\((i / gw:Nat):Int)<=Y) ->
  0<=(l.foldl (fun b i=>vD b (kB gw i)) b).x0/\0<=(l.foldl (fun b i=>vD b (kB gw i)) b).y0/\(l.foldl (fun b i=>vD b (kB gw i)) b).x1<=X/\(l.foldl (fun b i=>vD b (kB gw i)) b).y1<=Y
 | [],b,h1,h2,h3,h4,_=>⟨h1,h2,h3,h4⟩
 | i::l,b,h1,h2,h3,h4,h5=>by
  have hi:=h5 i (by simp)
  have p1:=Int.natCast_nonneg (i % gw)
  have p2:=Int.natCast_nonneg (i / gw)
  refine jek gw l (vD b (kB gw i)) ?_ ?_ ?_ ?_ (fun j hj=>h5 j (List.mem_cons_of_mem _ hj))
  all_goals
   simp only [vD,kB]
   generalize ((i / gw:Nat):Int)=Y at *
   generalize ((i % gw:Nat):Int)=X at *
   omega
theorem jfd {r:Nat->Nat} (hw:1<=gw) (hh:1<=gh) (h:jaG gw (qS gw gh v) t r) (ht:t<=v) :
  k9 (qS gw gh v) t r (gw * gh)=1/\qK gw (qS gw gh v) t r (gw * gh)=[⟨1,((gw * gh:Nat):Int),0,0,⟨0,0,(gw:Int) - 1,(gh:Int) - 1⟩⟩]:=by
 have h0:=jce (by omega) h ht
 have hn:1<=gw * gh:=Nat.mul_le_mul hw hh
 have hroot:zL (qS gw gh v) t r (gw * gh)=[0]:=jcF hn fun i hi=>by
  unfold uR
  rw [kI hi,h0 i hi]
  simp [ht]
  omega
 have hz:zL (qS gw gh v) t r 0=[]:=rfl
 have hmem:uX (qS gw gh v) t r 0 (gw * gh)=List.range (gw * gh):=List.filter_eq_self.2 fun i hi=>by
  unfold mA
  have hi:=List.mem_range.1 hi
  rw [kI hi,h0 i hi]
  simp [ht]
 refine ⟨by unfold k9; rw [hroot]; rfl,?_⟩
 unfold qK
 rw [hroot,List.map_singleton]
 unfold qT
 rw [hmem,List.length_range]
 have hlast:gw * gh - 1 < gw * gh:=by omega
 have e1:gw * gh - 1=(gh - 1) * gw+(gw - 1):=by
  have:gw * gh=(gh - 1) * gw+gw:=by rw [<-Nat.succ_mul,show (gh - 1).succ=gh by omega,Nat.mul_comm]
  omega
 have hm1:(gw * gh - 1) % gw=gw - 1:=by rw [e1,Nat.mul_comm,Nat.mul_add_mod,Nat.mod_eq_of_lt (by omega)]
 have hd1:(gw * gh - 1) / gw=gh - 1:=by rw [e1,Nat.mul_comm,Nat.mul_add_div (by omega),Nat.div_eq_of_lt (by omega),Nat.add_zero]
 have a1:=jat gw (List.range (gw * gh)) (kB gw 0)
 have a2:=jek gw (X:=(gw:Int) - 1) (Y:=(gh:Int) - 1) (List.range (gw * gh)) (kB gw 0) (by simp [kB]) (by simp [kB]) (by simp [kB]; omega) (by simp [kB]; omega) (fun i hi=>by
  have hi:=List.mem_range.1 hi
  have:=Nat.mod_lt i (show gw > 0 by omega)
  have hdj:i / gw < gh:=Nat.div_lt_of_lt_mul hi
  omega)
 generalize (List.range (gw * gh)).foldl (fun b i=>vD b (kB gw i)) (kB gw 0)=R at *
 obtain ⟨b1,b2,b3,b4,b5⟩:=a1
 obtain ⟨c1,c2,c3,c4⟩:=a2
 have b6:=b5 _ (List.mem_range.2 hlast)
 rw [hm1,hd1] at b6
 simp only [kB,Nat.zero_mod,Nat.zero_div] at b1 b2
 obtain ⟨x0,y0,x1,y1⟩:=R
 dsimp only at *
 have e2:x0=0:=by omega
 have e3:y0=0:=by omega
 have e4:x1=(gw:Int) - 1:=by omega
 have e5:y1=(gh:Int) - 1:=by omega
 subst e2; subst e3; subst e4; subst e5
 simp [k9,hz]
theorem jdd {r:Nat->Nat} (ht:v < t):k9 (qS gw gh v) t r (gw * gh)=0/\qK gw (qS gw gh v) t r (gw * gh)=[]:=by
 have hroot:zL (qS gw gh v) t r (gw * gh)=[]:=List.filter_eq_nil_iff.2 fun i hi=>by
  unfold uR
  rw [kI (List.mem_range.1 hi)]
  have:¬ t<=v:=by omega
  simp [this]
 unfold qK k9
 rw [hroot]
 exact ⟨rfl,rfl⟩
theorem jde (hgw:0 < gw) {i:Nat} (hi:i < gw * gh):vY gw (qS gw gh v) i=i:=by
 rcases dJ (gh:=gh) hgw z7 hi with h | ⟨h1,h2⟩
 ·exact h
 ·rw [kI h1,kI hi] at h2
  omega
theorem jdc (hgw:0 < gw) {i:Nat} (hi:i < gw * gh):Stop (vY gw (qS gw gh v)) i 0:=⟨fun j hj=>by omega,jde hgw hi⟩
end
end
section
def gP (u:Nat):Nat:=if u < 128 then 1 else 1+gP (u / 128)
termination_by u
decreasing_by omega
theorem wG {u:Nat} (h:u < 128):gP u=1:=by rw [gP,if_pos h]
theorem dY {u:Nat} (h:128<=u):gP u=1+gP (u / 128):=by rw [gP,if_neg (by omega)]
theorem zT:∀ (k u:Nat),u < 128 ^ (k+1)->gP u<=k+1
 | 0,u,h=>by rw [wG (by omega)]; omega
 | k+1,u,h=>by
  by_cases h1:u < 128
  ·rw [wG h1]; omega
  ·rw [dY (by omega)]
   have:=zT k (u / 128) (Nat.div_lt_of_lt_mul (by rw [Nat.pow_succ,Nat.mul_comm] at h; exact h))
   omega
theorem mE (u:Nat):1<=gP u:=by
 by_cases h1:u < 128
 ·rw [wG h1]; omega
 ·rw [dY (by omega)]; omega
def zV (n:Int):Nat:=if 0<=n then (2 * n).toNat else (-2 * n - 1).toNat
def noB (z:Nat):Nat:=if z=0 then 0 else 1+gP (z - 1)
def tN:Nat->List Int->Nat
 | z,[]=>noB z
 | z,x::r=>if x=0 then tN (z+1) r else noB z+gP (zV x)+tN 0 r
theorem pX:∀ (m z:Nat),tN z (List.replicate m 0)=noB (z+m)
 | 0,z=>rfl
 | m+1,z=>by
  rw [List.replicate_succ,tN,if_pos rfl,pX m (z+1)]
  congr 1
  omega
theorem jj0 {z:Nat} {l:List Int} (h:∀ x r,l=x::r->x ≠ 0):tN z l=noB z+tN 0 l:=by
 cases l with
 | nil=>simp [tN,noB]
 | cons x r =>
  have:=h x r rfl
  rw [tN,if_neg this,tN,if_neg this]
  simp [noB]
  omega
theorem jis {l:List Int} {i:Nat} (h:i < l.length) (h0:l.getD i 0=0) (z:Nat):tN z (l.drop i)=tN (z+1) (l.drop (i+1)):=by
 rw [List.drop_eq_getElem_cons h]
 have:l[i]=0:=by rw [List.getD_eq_getElem?_getD,List.getElem?_eq_getElem h] at h0; exact h0
 rw [tN,if_pos this]
theorem jit {l:List Int} {i:Nat} (h:i < l.length) (h0:l.getD i 0 ≠ 0):tN 0 (l.drop i)=gP (zV (l.getD i 0))+tN 0 (l.drop (i+1)):=by
 rw [List.drop_eq_getElem_cons h]
 have e:l.getD i 0=l[i]:=by rw [List.getD_eq_getElem?_getD,List.getElem?_eq_getElem h]; rfl
 rw [e] at h0 ⊢
 rw [tN,if_neg h0]
 simp [noB]
theorem jbI {B:Nat}:∀ (l:List Int) (z:Nat),(∀ x ∈ l,gP (zV x)<=B)->2<=B->z+l.length<=16384->tN z l<=(if z=0 then 0 else 3)+3 * B * l.length
 | [],z,_,_,hz=>by
  unfold tN noB
  split
  ·simp
  ·have:=zT 1 (z - 1) (by simp at hz; omega)
   simp; omega
 | x::r,z,h,hB,hz=>by
  simp only [List.length_cons] at hz
  have e:3 * B * (x::r).length=3 * B * r.length+3 * B:=by rw [List.length_cons,Nat.mul_succ]
  rw [e]
  unfold tN
  split
  ·have ih:=jbI r (z+1) (fun y hy=>h y (List.mem_cons_of_mem _ hy)) hB (by omega)
   rw [if_neg (by omega)] at ih
   generalize 3 * B * r.length=q at *
   split <;> omega
  ·have ih:=jbI r 0 (fun y hy=>h y (List.mem_cons_of_mem _ hy)) hB (by omega)
   have hx:=h x (by simp)
   rw [if_pos rfl] at ih
   have hn:noB z<=if z=0 then 0 else 3:=by
    unfold noB
    split
    ·omega
    ·have:=zT 1 (z - 1) (by omega); omega
   generalize 3 * B * r.length=q at *
   generalize noB z=p at *
   split at hn <;> simp_all <;> omega
def gN (kind:Nat) (c:Nat->Int) (w i:Nat):Int :=
 if kind=0 then 0 else if kind=1\/i < w\/i % w=0 then (if i=0 then 0 else if i % w=0 then c (i - w) else c (i - 1))
 else min (max (c (i - 1)+c (i - w) - c (i - w - 1)) (min (c (i - 1)) (c (i - w)))) (max (c (i - 1)) (c (i - w)))
def kT (kind:Nat) (V:List Int) (w:Nat):List Int:=(List.range V.length).map fun i=>V.getD i 0 - gN kind (fun j=>V.getD j 0) w i
theorem z1 (kind:Nat) (V:List Int) (w:Nat):(kT kind V w).length=V.length:=by simp [kT]
theorem jhG {kind w i:Nat} {V:List Int} (hw:1<=w) (hi:i < V.length) (hV:∀ x ∈ V,-2147483648<=x/\x<=2147483647):-2147483648<=gN kind (fun j=>V.getD j 0) w i/\gN kind (fun j=>V.getD j 0) w i<=2147483647:=by
 have h:∀ j,j<=i->-2147483648<=V.getD j 0/\V.getD j 0<=2147483647:=fun j hj=>by
  refine hV _ ?_
  rw [List.getD_eq_getElem?_getD,List.getElem?_eq_getElem (by omega)]
  exact List.getElem_mem _
 have h1:=h (i - 1) (by omega)
 have h2:=h (i - w) (by omega)
 unfold gN
 split
 ·omega
 ·split
  ·split
   ·omega
   ·split
    ·exact h2
    ·exact h1
  ·dsimp only
   generalize V.getD (i - w - 1) 0=z
   omega
theorem jc2 {kind w:Nat} {V:List Int} (hw:1<=w) (hV:∀ x ∈ V,-2147483648<=x/\x<=2147483647):∀ x ∈ kT kind V w,-4294967295<=x/\x<=4294967295:=by
 intro x hx
 obtain ⟨i,hi,rfl⟩:=List.mem_map.1 hx
 have hi:=List.mem_range.1 hi
 have h1:=jhG (kind:=kind) hw hi hV
 have h2:-2147483648<=V.getD i 0/\V.getD i 0<=2147483647:=by
  refine hV _ ?_
  rw [List.getD_eq_getElem?_getD,List.getElem?_eq_getElem hi]
  exact List.getElem_mem _
 omega
theorem jhK {x:Int} (h:-4294967295<=x/\x<=4294967295):zV x < 8589934592:=by
 unfold zV
 split <;> omega
theorem jhu {x:Int} (h:-4294967295<=x/\x<=4294967295):gP (zV x)<=5:=zT 4 _ (by have:=jhK h; omega)
theorem jiu {v:Int} {n w:Nat} (hw:1<=w) (hv:-2147483648<=v/\v<=2147483647) (hn:1<=n/\n<=256):tN 0 (kT 1 (List.replicate n v) w)<=8:=by
 obtain ⟨m,rfl⟩:∃ m,n=m+1:=⟨n - 1,by omega⟩
 have hg:∀ j,j < m+1->(List.replicate (m+1) v).getD j 0=v:=fun j hj=>by
  rw [List.getD_eq_getElem?_getD,List.getElem?_replicate,if_pos hj]; rfl
 have e:kT 1 (List.replicate (m+1) v) w=v::List.replicate m 0:=by
  unfold kT
  rw [List.length_replicate,List.range_succ_eq_map,List.map_cons,List.map_map]
  congr 1
  ·rw [hg 0 (by omega)]
   simp [gN]
  ·apply List.ext_getElem?
   intro i
   rw [List.getElem?_replicate]
   by_cases hi:i < m
   ·rw [List.getElem?_map,List.getElem?_range hi,if_pos hi]
    simp only [Option.map_some,Function.comp]
    congr 1
    have h3:gN 1 (fun j=>(List.replicate (m+1) v).getD j 0) w (i+1)=v:=by
     unfold gN
     rw [if_neg (by omega),if_pos (.inl rfl),if_neg (by omega)]
     split
     ·exact hg _ (by omega)
     ·exact hg _ (by omega)
    rw [show (i.succ)=i+1 from rfl,h3,hg _ (by omega)]
    omega
   ·rw [if_neg hi,List.getElem?_eq_none (by simp; omega)]
 rw [e,tN]
 have hno:∀ z,z<=256->noB z<=3:=fun z hz=>by
  unfold noB
  split
  ·omega
  ·have:=zT 1 (z - 1) (by omega); omega
 split
 ·rw [pX]
  have:=hno (0+1+m) (by omega)
  omega
 ·rw [pX]
  have:=hno (0+m) (by omega)
  have h1:=jhu (x:=v) (by omega)
  have h0:noB 0=0:=rfl
  omega
def b8 (V:List Int) (w:Nat):Nat :=
 let f:=fun k=>tN 0 (kT k V w)
 let b1:=if f 1 < f 0 then 1 else 0
 if f 2 < f b1 then 2 else b1
theorem jh2 (V:List Int) (w:Nat):b8 V w<=2/\tN 0 (kT (b8 V w) V w)<=tN 0 (kT 1 V w):=by
 unfold b8
 dsimp only
 split <;> split <;> constructor <;> omega
end
section
open Go.RowKit
section
variable {P : Program} {e : Nat → Value} {d : Option Tmp} {ty : TypeId} {ps : String} {af : Array Edge}
def jkx:BinOp->Bool
 | .and | .or | .xor=>true
 | _=>false
theorem xT {op:BinOp} {t t':TypeId} {x y:Operand} {k:IntKind} {a b:Int} (hop:jkx op=true) (hx:ev e x=.int k a) (hy:ev e y=.int k b):OpV P e ⟨d,.binOp op t x y t',ty,ps,af,none⟩ (.int k (bits op k a b)):=by
 intro w
 cases op <;> first | (cases hop; done) | simp [OpR,execOp,hx,hy,eqGuard,binOp,intBits_and,intBits_or,intBits_xor]
theorem jhf {t:TypeId} {x:Operand} {k:IntKind} {a:Int} (hk:k.signed=false) (hx:ev e x=.int k a):OpV P e ⟨d,.unOp .xor t x,ty,ps,af,none⟩ (.int k (bits .xor k k.max a)):=by
 intro w
 simp [OpR,execOp,hx,Op.unary,hk,intBits_xor]
theorem jgb {k:IntKind} (hk:k.signed=false) (n:Int):0<=k.wrap n/\k.wrap n < 2 ^ k.bits:=by
 have h:k.wrap n=n % (2 ^ k.bits:Int):=by simp [IntKind.wrap,hk]
 have hp:(0:Int) < 2 ^ k.bits:=Int.pow_pos (by omega)
 rw [h]
 exact ⟨Int.emod_nonneg _ (by omega),Int.emod_lt_of_pos _ hp⟩
theorem jh0 {k:IntKind} (hk:k.signed=false) (op:BinOp) (a b:Int):0<=bits op k a b/\bits op k a b < 2 ^ k.bits:=jgb hk _
theorem m4 (a:Int):0<=bits .and .u32 a 15/\bits .and .u32 a 15 < 16:=by
 have h:(BitVec.ofInt IntKind.u32.bits a &&& BitVec.ofInt IntKind.u32.bits 15).toNat<=15:=by
  rw [BitVec.toNat_and]
  exact Nat.and_le_right
 have e:bits .and .u32 a 15=IntKind.u32.wrap (((BitVec.ofInt IntKind.u32.bits a &&& BitVec.ofInt IntKind.u32.bits 15).toNat:Nat):Int):=rfl
 rw [e,IntKind.wrap_u32]
 omega
theorem jfX {a:Int} (h0:0<=a) (h1:a < 18446744073709551616):bits .xor .u64 a 0=a:=by
 unfold bits
 have h:(BitVec.ofInt IntKind.u64.bits a ^^^ BitVec.ofInt IntKind.u64.bits 0).toNat=a.toNat:=by
  have e1:BitVec.ofInt IntKind.u64.bits 0=0#64:=rfl
  rw [e1]
  show (BitVec.ofInt 64 a ^^^ 0#64).toNat=_
  rw [BitVec.xor_zero,BitVec.toNat_ofInt]
  omega
 show IntKind.u64.wrap (((BitVec.ofInt IntKind.u64.bits a ^^^ BitVec.ofInt IntKind.u64.bits 0).toNat:Nat):Int)=a
 rw [h,IntKind.wrap_u64]
 omega
theorem jfW {a:Int} (h0:0<=a) (h1:a < 18446744073709551616):bits .xor .u64 a 18446744073709551615=18446744073709551615 - a:=by
 unfold bits
 have h:(BitVec.ofInt IntKind.u64.bits a ^^^ BitVec.ofInt IntKind.u64.bits 18446744073709551615).toNat=18446744073709551615 - a.toNat:=by
  have e1:BitVec.ofInt 64 18446744073709551615=BitVec.allOnes 64:=by decide
  show (BitVec.ofInt 64 a ^^^ BitVec.ofInt 64 18446744073709551615).toNat=_
  rw [e1]
  show (BitVec.ofInt 64 a ^^^ BitVec.allOnes 64).toNat=_
  rw [BitVec.xor_allOnes,BitVec.toNat_not,BitVec.toNat_ofInt]
  omega
 show IntKind.u64.wrap (((BitVec.ofInt IntKind.u64.bits a ^^^ BitVec.ofInt IntKind.u64.bits 18446744073709551615).toNat:Nat):Int)=_
 rw [h,IntKind.wrap_u64]
 omega
theorem dV {t t':TypeId} {x y:Operand} {a k:Nat} {kx kd:IntKind} (hx:ev e x=.int kx a) (hy:ev e y=.int kd k) (hk:k<=kx.bits):OpV P e ⟨d,.binOp .shr t x y t',ty,ps,af,none⟩ (.int kx ((a / 2 ^ k:Nat):Int)):=by
 intro w
 have h1:min (k:Int).toNat kx.bits=k:=by rw [Int.toNat_natCast]; omega
 have h2:¬ (k:Int) < 0:=by omega
 have h3:(a:Int).fdiv (2 ^ k)=((a / 2 ^ k:Nat):Int):=by
  rw [Int.fdiv_eq_ediv_of_nonneg _ (Int.le_of_lt (Int.pow_pos (by omega)))]
  push_cast
  rfl
 have h4:(binOp .shr t (.int kx a) (.int kd k)).run P w=.ok (.int kx ((a / 2 ^ k:Nat):Int)) w:=by
  simp only [Int.toNat_natCast] at h1
  simp [binOp,Op.shift,h1,h2,h3]
 simp [OpR,execOp,hx,hy,eqGuard,h4]
theorem jcl {t t':TypeId} {x y:Operand} {a:Int} {kd:IntKind} (hx:ev e x=ii a) (hy:ev e y=.int kd 63) (h:-9223372036854775808<=a/\a < 9223372036854775808):OpV P e ⟨d,.binOp .shr t x y t',ty,ps,af,none⟩ (ii (if 0<=a then 0 else -1)):=by
 intro w
 have h3:a.fdiv 9223372036854775808=if 0<=a then 0 else -1:=by
  rw [Int.fdiv_eq_ediv_of_nonneg _ (by omega)]
  split <;> omega
 have h4:(binOp .shr t (ii a) (.int kd 63)).run P w=.ok (ii (if 0<=a then 0 else -1)) w:=by
  simp [binOp,Op.shift,IntKind.bits,h3]
 simp [OpR,execOp,hx,hy,eqGuard,h4]
theorem jhk {t el:TypeId} {x:Operand} {A:Option Addr} {n c:Nat} (hu:P.underlying t=some (.slice el)) (hx:ev e x=.slice A n c):OpV P e ⟨d,.call ⟨.builtin .cap,#[x],#[t]⟩,ty,ps,af,none⟩ (ii c):=by
 intro w
 simp [OpR,execOp,resolve,invoke,builtin,Builtin.cap_,hx,run_underlying hu,goInt]
end
def u8s (l:List Int):List Value:=l.map fun n=>.int .u8 n
theorem gU (l:List Int):(u8s l).length=l.length:=by simp [u8s]
theorem jaH (l:List Int):((u8s l).all fun v=>v.oneCell')=true:=List.all_eq_true.2 fun v hv=>by
 simp only [u8s,List.mem_map] at hv
 obtain ⟨i,_,rfl⟩:=hv
 rfl
theorem jdU (l m:List Int):u8s l ++ u8s m=u8s (l ++ m):=by simp [u8s]
theorem gE (l:List Int) (n:Int):u8s l ++ [.int .u8 n]=u8s (l ++ [n]):=by simp [u8s]
def jbx (mk:Value->Value) (n:Nat) (W:World):Value->World->Prop:=fun v w=>∃ l:List Int,l.length=n/\qR mk 5 1 n (u8s l) W v w
section
variable {W : World} {A : Option Addr} {n c : Nat} {l : List Int}
theorem xG:(Tryz.prog.info? 5).map (fun i=>(i.zero,i.size,i.bytes))=some (some (.int .u8 0),1,1):=by kernel_rfl
theorem mX (h0:0 < l.length) (hm:l.length<=1099511627776) (hA:Rd W A (u8s l)):Fn Tryz.prog 168 [.slice A l.length c] W (qR id 5 1 l.length (u8s l) W):=by
 have hn:=gU l
 have sa_A:yH A:=hA.someA (by omega)
 obtain ⟨ab,ao,rfl⟩:=sa_A
 have h1:=jaH l
 have S:=St.start W
 refine zn Tryz.func168 Tryz.results168 Tryz.ntmps168 ?_
 refine z ?_; refine z ?_
 refine jE (bM (B:=false) q31 rfl rfl) ?_
 refine zs ?_
 refine x9 q31 qz5 S ?_
 intro A_e w2_ g2_ S sa_e
 refine z ?_
 refine qA (i:=0) S rfl (fun h=>rfl) q31 xG rfl rfl rfl rfl (by rw [hn,Nat.mul_one]) (by omega) (hA.gr S.out) h1 (by omega) ?_
 intro A_o c_o w3_ S sa_e
 refine z ?_
 refine zq ?_
 rw [List.nil_append] at S
 rw [Nat.zero_add] at S ⊢
 exact yD rfl (S.retNew (i:=0) rfl)
theorem jcJ:Fn Tryz.prog 168 [.slice none 0 0] W (yK (.slice none 0 0) W):=by
 have S:=St.start W
 refine zn Tryz.func168 Tryz.results168 Tryz.ntmps168 ?_
 refine z ?_; refine z ?_
 refine jE (bM (B:=true) q31 rfl rfl) ?_
 refine z ?_
 refine zq ?_
 exact yD rfl ⟨rfl,S.out⟩
theorem jbv (h:n<=c):Fn Tryz.prog 271 [.slice A n c] W (yK (.slice A n n) W):=by
 have S:=St.start W
 refine zn Tryz.func271 Tryz.results271 Tryz.ntmps271 ?_
 iterate 6 refine z ?_
 refine jE (jaj q31 qz5 rfl rfl rfl (Nat.le_refl _) h) ?_
 refine z ?_
 refine zq ?_
 exact yD rfl ⟨rfl,S.out⟩
end
theorem jaQ {P:Program} {e:Nat->Value} {w:World} {ops:Array Oper} {rest:List Oper} {Q:(Nat->Value)->World->Prop} {F:Nat->Prop} {W:World} {L:List HA} {d:Option Tmp} {ty:TypeId} {ps:String} {af:Array Edge} {s x:Operand} {t el k bytes n m c2:Nat} {A B:Option Addr} {z:Value} {xs ys:List Value} (S:St F W w L) (hu:P.underlying t=some (.slice el)) (hI:(P.info? el).map (fun i=>(i.zero,i.size,i.bytes))=some (some z,k,bytes)) (hz:Nat.beq z.cells.size k=true)
  (hs:ev e s=.slice A n n) (hx:ev e x=.slice B m c2) (hxs:xs.length=n * k) (hR:Rd w A xs) (hn0:A=none->n=0) (hys:ys.length=m * k) (hm0:0 < m) (hk0:0 < k) (hRB:Rd w B ys) (h1:(ys.all fun v=>v.oneCell')=true) (hb:(n+m) * (bytes+1)<=140737488355328)
  (hr:∀ A' c' w',Gr w w'->St F W w' (.row el k A' (n+m) c' (xs ++ ys)::L)->yH A'->RW P ops Q rest (yU e d (.slice A' (n+m) c')) w') :
  RW P ops Q (⟨d,.call ⟨.builtin .append,#[s,x],#[t,t]⟩,ty,ps,af,none⟩::rest) e w:=by
 obtain ⟨g,c',w',hrun,hrow,hgr,hge⟩:=n3 (d:=d) (ty:=ty) (ps:=ps) (af:=af) (e:=e) hu hI hz hs hx hxs hR hn0 hys hm0 hk0 hRB h1 hb
 refine rQ hrun (hr _ _ w' hgr (S.pushRow hrow (fun b hq=>?_) hgr) (uB _ _))
 injection hq with hq
 have hq:g=b:=hq
 omega
section
variable {W : World} {A : Option Addr} {n c : Nat} {l : List Int}
theorem sU {u:Nat}:IntKind.u8.wrap (u:Int)=((u % 256:Nat):Int):=by rw [IntKind.wrap_u8]; omega
theorem jcr (u:Nat) (hu:u < 18446744073709551616) (hl:l.length<=1099511627776) (hA:(A=none/\c=0/\l=[])\/(0 < l.length/\Rd W A (u8s l))) :
  Fn Tryz.prog 269 [.slice A l.length c,.int .u64 u] W (jbx id (l.length+gP u) W):=by
 have hleb:=zT 9 u (by omega)
 have S:=St.start W
 refine zn Tryz.func269 Tryz.results269 Tryz.ntmps269 ?_
 refine z ?_
 refine zc ?_
 refine qL (M:=fun e w=>∃ (A:Option Addr) (L:List HA),SL e [(0,.slice A l.length l.length),(1,.int .u64 u)]/\(A=none->l.length=0)/\Rd w A (u8s l)/\St No W w L) ?_ ?_
 ·rcases hA with ⟨rfl,rfl,rfl⟩ | ⟨h0,hR⟩
  ·skip
   refine z ?_
   refine jC rfl (jcJ) ?_
   rintro _ w1_ ⟨rfl,g1_⟩
   have S:=S.gr g1_
   refine jC rfl (jbv (W:=w1_) (A:=none) (n:=0) (c:=0) (Nat.le_refl _)) ?_
   rintro _ w2_ ⟨rfl,g2_⟩
   have S:=S.gr g2_
   refine z ?_
   refine ze ?_
   exact ⟨none,_,⟨rfl,rfl,trivial⟩,fun _=>rfl,.inl rfl,S⟩
  ·skip
   refine z ?_
   refine jC rfl (mX (c:=c) h0 hl (hR.gr S.out)) ?_
   rintro _ w3_ ⟨A_b,c_b,rfl,hR_b,hf_b,g3_⟩
   have S:=S.pushRow hR_b hf_b g3_
   refine jC rfl (jbv (W:=w3_) (A:=A_b) (n:=l.length) (c:=c_b) (S.row (i:=0) rfl).cap) ?_
   rintro _ w4_ ⟨rfl,g4_⟩
   have S:=S.gr g4_
   refine z ?_
   refine ze ?_
   have hne:A_b=none->l.length=0:=fun h=>by
    have:=(S.row (i:=0) rfl).someA (by omega)
    rw [h] at this
    obtain ⟨_,_,h⟩:=this
    cases h
   exact ⟨A_b,_,⟨rfl,rfl,trivial⟩,hne,S.rd (i:=0) rfl,S⟩
 ·rintro e1 w1 ⟨A1,L1,hsl,hA0,hR1,S⟩
  rw [hsl.fold]
  show CW _ _ _ _ _ _
  refine zc ?_
  refine jS ?_
  refine zc ?_
  refine j9 (fun m e w=>∃ x:Nat,m=x/\((x=u/\SL e [(0,.slice A1 l.length l.length),(1,.int .u64 x)]/\Rd w A1 (u8s l)/\St No W w L1) \/
    ∃ (l':List Int) (A2:Option Addr) (c2:Nat),l'.length+gP x=l.length+gP u/\SL e [(0,.slice A2 l'.length c2),(1,.int .u64 x)]/\St No W w (.row 5 1 A2 l'.length c2 (u8s l')::L1))) u
   ⟨u,rfl,.inl ⟨rfl,⟨rfl,rfl,trivial⟩,hR1,S⟩⟩ ?_
  clear S
  rintro m e w ⟨x,rfl,⟨rfl,hsl,hR,S⟩ | ⟨l',A2,c2,hlen,hsl,S⟩⟩
  ·rw [hsl.fold]
   by_cases hx:128<=m
   ·have e3:=dY hx
    refine z ?_
    refine jE (xF rfl rfl (B:=true) (by simp; omega)) ?_
    refine z ?_; refine z ?_
    refine jE (yR (ks:=.u64) (n:=m) (kd:=.u8) fP q5 rfl sU) ?_
    refine jE (xT (op:=.or) rfl rfl rfl) ?_
    refine yF q31 qz5 qv5 rfl rfl rfl rfl rfl rfl S ?_
    intro A_one w6_ g6_ S sa_one
    refine jaQ S q31 xG rfl rfl rfl (by rw [gU,Nat.mul_one]) (hR.gr (by assumption)) hA0 rfl (by omega) (by omega) (S.rd (i:=0) rfl) rfl (by omega) ?_
    intro A2 c2 w2 g2 S sa2
    refine z ?_; refine z ?_
    refine jE (dV (kx:=.u64) (a:=m) (k:=7) rfl rfl (by decide)) ?_
    refine z ?_
    refine ze ?_
    rw [gE] at S
    exact ⟨m / 128,by omega,_,rfl,.inr ⟨l ++ [bits .or .u8 ((m % 256:Nat):Int) 128],A2,c2,by rw [List.length_append,List.length_singleton]; omega,⟨se (by simp) rfl,rfl,trivial⟩,by simpa using S.sub (.cons_cons _ (.cons _ (List.Sublist.refl _)))⟩⟩
   ·have e3:=wG (u:=m) (by omega)
    refine z ?_
    refine jE (xF rfl rfl (B:=false) (by simp; omega)) ?_
    refine zc ?_
    refine jM rfl ?_
    refine zc ?_
    refine jY ?_
    repeat first | refine jP ?_ | refine jU ?_
    show CW _ _ _ _ _ _
    refine z ?_; refine z ?_
    refine jE (yR (ks:=.u64) (n:=m) (kd:=.u8) fP q5 rfl sU) ?_
    refine yF q31 qz5 qv5 rfl rfl rfl rfl rfl rfl S ?_
    intro A_one w8_ g8_ S sa_one
    refine jaQ S q31 xG rfl rfl rfl (by rw [gU,Nat.mul_one]) (hR.gr (by assumption)) hA0 rfl (by omega) (by omega) (S.rd (i:=0) rfl) rfl (by omega) ?_
    intro A2 c2 w2 g2 S sa2
    refine z ?_
    refine zq ?_
    rw [gE] at S
    rw [e3]
    exact yD rfl ⟨_,by simp,S.retNew (i:=0) rfl⟩
  ·have hlx:=mE m
   rw [hsl.fold]
   by_cases hx:128<=m
   ·have e3:=dY hx
    refine z ?_
    refine jE (xF rfl rfl (B:=true) (by simp; omega)) ?_
    refine z ?_; refine z ?_
    refine jE (yR (ks:=.u64) (n:=m) (kd:=.u8) fP q5 rfl sU) ?_
    refine jE (xT (op:=.or) rfl rfl rfl) ?_
    refine yF q31 qz5 qv5 rfl rfl rfl rfl rfl rfl S ?_
    intro A_one w10_ g10_ S sa_one
    refine qA (i:=1) S rfl (fun h=>rfl) q31 xG rfl rfl rfl rfl (by simp) (by omega) (S.rd (i:=0) rfl) rfl (by omega) ?_
    intro A_b2 c_b2 w11_ S sa_b
    refine z ?_; refine z ?_
    refine jE (dV (kx:=.u64) (a:=m) (k:=7) rfl rfl (by decide)) ?_
    refine z ?_
    refine ze ?_
    rw [gE] at S
    exact ⟨m / 128,by omega,_,rfl,.inr ⟨l' ++ [bits .or .u8 ((m % 256:Nat):Int) 128],A_b2,c_b2,by rw [List.length_append,List.length_singleton]; omega,⟨se (by simp) rfl,rfl,trivial⟩,by simpa using S.drop 1⟩⟩
   ·have e3:=wG (u:=m) (by omega)
    refine z ?_
    refine jE (xF rfl rfl (B:=false) (by simp; omega)) ?_
    refine zc ?_
    refine jM rfl ?_
    refine zc ?_
    refine jY ?_
    repeat first | refine jP ?_ | refine jU ?_
    show CW _ _ _ _ _ _
    refine z ?_; refine z ?_
    refine jE (yR (ks:=.u64) (n:=m) (kd:=.u8) fP q5 rfl sU) ?_
    refine yF q31 qz5 qv5 rfl rfl rfl rfl rfl rfl S ?_
    intro A_one w13_ g13_ S sa_one
    refine qA (i:=1) S rfl (fun h=>rfl) q31 xG rfl rfl rfl rfl (by simp) (by omega) (S.rd (i:=0) rfl) rfl (by omega) ?_
    intro A_b2 c_b2 w14_ S sa_b
    refine z ?_
    refine zq ?_
    rw [gE] at S
    rw [e3] at hlen
    rw [<-hlen]
    exact yD rfl ⟨_,by simp,S.retNew (i:=1) rfl⟩
end
end
section
open Go.RowKit
theorem jiX {P:Program} {e:Nat->Value} {d:Option Tmp} {ty:TypeId} {ps:String} {af:Array Edge} {t t':TypeId} {x y:Operand} {a b:Int} {B:Bool} (hx:ev e x=.int .u64 a) (hy:ev e y=.int .u64 b) (hB:(a != b)=B):OpV P e ⟨d,.binOp .neq t x y t',ty,ps,af,none⟩ (.bool B):=by
 intro w
 subst hB
 simp [OpR,execOp,hx,hy,eqGuard,binOp,Op.intCmp]
section
variable {W : World} {A : Option Addr} {n c : Nat} {l : List Int}
theorem jfp (x:Int) (h:-4294967296<=x/\x<=4294967296):Fn Tryz.prog 270 [ii x] W (yK (.int .u64 (zV x)) W):=by
 have S:=St.start W
 refine zn Tryz.func270 Tryz.results270 Tryz.ntmps270 ?_
 by_cases hx:0<=x
 ·have e1:((zV x:Nat):Int)=2 * x:=by unfold zV; rw [if_pos hx]; omega
  refine z ?_; refine z ?_
  refine jE (yR (ks:=.i64) (n:=x) (kd:=.u64) (m:=x) q2 fP rfl (by rw [IntKind.wrap_u64]; omega)) ?_
  refine jE (jba (c:=2 * x) rfl rfl (by decide) (by show IntKind.u64.wrap (x * 2)=_; rw [IntKind.wrap_u64]; omega)) ?_
  refine z ?_
  refine jE (jcl rfl rfl (by omega)) ?_
  refine jE (yR (ks:=.i64) (n:=if 0<=x then 0 else -1) (kd:=.u64) (m:=0) q2 fP rfl (by rw [if_pos hx]; decide)) ?_
  refine jE (xT (op:=.xor) rfl rfl rfl) ?_
  rw [jfX (by omega) (by omega)]
  refine z ?_
  refine zq ?_
  exact yD rfl ⟨by rw [e1],S.out⟩
 ·have e1:((zV x:Nat):Int)=-2 * x - 1:=by unfold zV; rw [if_neg hx]; omega
  refine z ?_; refine z ?_
  refine jE (yR (ks:=.i64) (n:=x) (kd:=.u64) (m:=18446744073709551616+x) q2 fP rfl (by rw [IntKind.wrap_u64]; omega)) ?_
  refine jE (jba (c:=18446744073709551616+2 * x) rfl rfl (by decide) (by show IntKind.u64.wrap ((18446744073709551616+x) * 2)=_; rw [IntKind.wrap_u64]; omega)) ?_
  refine z ?_
  refine jE (jcl rfl rfl (by omega)) ?_
  refine jE (yR (ks:=.i64) (n:=if 0<=x then 0 else -1) (kd:=.u64) (m:=18446744073709551615) q2 fP rfl (by rw [if_neg hx]; decide)) ?_
  refine jE (xT (op:=.xor) rfl rfl rfl) ?_
  rw [jfW (by omega) (by omega)]
  refine z ?_
  refine zq ?_
  exact yD rfl ⟨by rw [e1]; congr 1; omega,S.out⟩
theorem jjW (k u:Nat) (hk:1<=k/\k < 8) (hu:u < 2 ^ (8 * k)) (hl:0 < l.length/\l.length<=1099511627776) (hA:Rd W A (u8s l)) :
  Fn Tryz.prog 258 [.slice A l.length c,ii k,.int .u64 u] W (jbx (fun s=>.tuple #[s,ii 0]) (l.length+k) W):=by
 have e8:(8:Int) * k=((8 * k:Nat):Int):=by omega
 have hz:((u / 2 ^ (8 * k):Nat):Int)=0:=by rw [Nat.div_eq_of_lt hu]; rfl
 have S:=St.start W
 refine zn Tryz.func258 Tryz.results258 Tryz.ntmps258 ?_
 (iterate 3 refine z ?_); refine zf ?_; refine z ?_; refine z ?_; refine zf ?_; (iterate 3 refine z ?_); refine zt ?_; iterate 3 refine z ?_
 refine jQ rfl ?_
 refine zr ?_
 rw [e8]
 refine jQ rfl ?_
 refine jE (dV (kx:=.u64) (a:=u) (k:=8 * k) rfl rfl (by show 8 * k<=64; omega)) ?_
 refine jQ rfl ?_
 refine jE (jiX (B:=false) rfl rfl (by rw [hz]; rfl)) ?_
 iterate 3 refine z ?_
 refine jC rfl (mX (c:=c) hl.1 hl.2 (hA.gr S.out)) ?_
 rintro _ w1_ ⟨A_b,c_b,rfl,hR_b,hf_b,g1_⟩
 have S:=S.pushRow hR_b hf_b g1_
 refine jC rfl (jbv (W:=w1_) (A:=A_b) (n:=l.length) (c:=c_b) (S.row (i:=0) rfl).cap) ?_
 rintro _ w2_ ⟨rfl,g2_⟩
 have S:=S.gr g2_
 iterate 3 refine z ?_
 refine zc ?_
 refine jS ?_
 refine zc ?_
 have hA0:A_b=none->l.length=0:=fun h=>by
  have:=(S.row (i:=0) rfl).someA hl.1
  rw [h] at this
  obtain ⟨_,_,h⟩:=this
  cases h
 have hR1:=S.rd (i:=0) rfl
 refine j9 (fun m e w=>∃ i:Nat,i+m=k/\((i=0/\SL e [(0,.slice A_b l.length l.length),(2,.int .u64 u),(29,ii k),(30,ii i)]/\Rd w A_b (u8s l)/\St No W w [.row 5 1 A_b l.length c_b (u8s l)]) \/
   ∃ (l':List Int) (A2:Option Addr) (c2:Nat),l'.length=l.length+i/\SL e [(0,.slice A2 l'.length c2),(2,.int .u64 u),(29,ii k),(30,ii i)]/\St No W w [.row 5 1 A2 l'.length c2 (u8s l')])) k
  ⟨0,by omega,.inl ⟨rfl,⟨rfl,rfl,rfl,rfl,trivial⟩,hR1,S⟩⟩ ?_
 clear S hR1
 rintro m e w ⟨i,hi,⟨rfl,hsl,hR,S⟩ | ⟨l',A2,c2,hlen,hsl,S⟩⟩
 ·rw [hsl.fold]
  have e0:(8:Int) * ((0:Nat):Int)=((8 * 0:Nat):Int):=rfl
  refine zt ?_; (iterate 5 refine z ?_); refine zr ?_
  rw [e0]
  refine jE (dV (kx:=.u64) (a:=u) (k:=8 * 0) rfl rfl (by decide)) ?_
  refine jE (yR (ks:=.u64) (kd:=.u8) fP q5 rfl sU) ?_
  refine yF q31 qz5 qv5 rfl rfl rfl rfl rfl rfl S ?_
  intro A_one w4_ g4_ S sa_one
  refine jaQ S q31 xG rfl rfl rfl (by rw [gU,Nat.mul_one]) (hR.gr (by assumption)) hA0 rfl (by omega) (by omega) (S.rd (i:=0) rfl) rfl (by omega) ?_
  intro A2 c2 w2 g2 S sa2
  refine z ?_; refine zr ?_; refine z ?_
  refine ze ?_
  rw [gE] at S
  exact ⟨k - 1,by omega,1,by omega,.inr ⟨l ++ [((u / 2 ^ (8 * 0) % 256:Nat):Int)],A2,c2,by simp,⟨se (by simp) rfl,rfl,rfl,rfl,trivial⟩,by simpa using S.sub (.cons_cons _ (.cons _ (.cons _ .slnil)))⟩⟩
 ·rw [hsl.fold]
  by_cases hik:i < k
  ·have e0:(8:Int) * (i:Int)=((8 * i:Nat):Int):=by omega
   refine zt ?_; (iterate 5 refine z ?_); refine zr ?_
   rw [e0]
   refine jE (dV (kx:=.u64) (a:=u) (k:=8 * i) rfl rfl (by show 8 * i<=64; omega)) ?_
   refine jE (yR (ks:=.u64) (kd:=.u8) fP q5 rfl sU) ?_
   refine yF q31 qz5 qv5 rfl rfl rfl rfl rfl rfl S ?_
   intro A_one w6_ g6_ S sa_one
   refine qA (i:=1) S rfl (fun h=>rfl) q31 xG rfl rfl rfl rfl (by simp) (by omega) (S.rd (i:=0) rfl) rfl (by omega) ?_
   intro A_b2 c_b2 w7_ S sa_b
   refine z ?_; refine zr ?_; refine z ?_
   refine ze ?_
   rw [gE] at S
   exact ⟨m - 1,by omega,i+1,by omega,.inr ⟨l' ++ [((u / 2 ^ (8 * i) % 256:Nat):Int)],A_b2,c_b2,by simp; omega,⟨se (by simp) rfl,rfl,rfl,rfl,trivial⟩,by simpa using S.drop 1⟩⟩
  ·obtain rfl:i=k:=by omega
   refine zf ?_
   refine zc ?_
   refine jM rfl ?_
   refine zc ?_
   refine jY ?_
   repeat first | refine jP ?_ | refine jU ?_
   show CW _ _ _ _ _ _
   iterate 3 refine z ?_
   refine zq ?_
   rw [<-hlen]
   exact kY rfl rfl ⟨_,rfl,S.retNew (i:=0) (mk:=fun s=>.tuple #[s,ii 0]) rfl⟩
theorem jkp (k u:Nat) (hk:1<=k/\k < 8) (hu:u < 2 ^ (8 * k)) (hl:0 < l.length/\l.length<=1099511627776) (hA:Rd W A (u8s l)) :
  Fn Tryz.prog 239 [.slice A l.length c,ii k,ii u] W (jbx id (l.length+k) W):=by
 have h64:u < 2 ^ 64:=Nat.lt_of_lt_of_le hu (Nat.pow_le_pow_right (by omega) (by omega))
 have hc:IntKind.u64.wrap (u:Int)=u:=sE _ (by omega)
 have S:=St.start W
 refine zn Tryz.func239 Tryz.results239 Tryz.ntmps239 ?_
 iterate 4 refine z ?_
 refine jE (yR (ks:=.i64) (n:=u) (kd:=.u64) (m:=u) q2 fP rfl hc) ?_
 refine jC rfl (jjW (c:=c) k u hk hu hl (hA.gr S.out)) ?_
 rintro _ w1_ ⟨l2,hl2,A2,c2,rfl,hR2,hf2,g1_⟩
 have S:=S.pushRow hR2 hf2 g1_
 iterate 6 refine z ?_
 refine zq ?_
 exact yD rfl ⟨l2,hl2,S.retNew (i:=0) rfl⟩
theorem jfA (w:World) (n:Nat) (hn:0 < n/\n<=1099511627776):∃ g cp w',(Builtin.append_ #[31,3] 31 #[.slice none 0 0,ii n]).run Tryz.prog w=.ok (.slice (some ⟨g,0,none⟩) n cp) w'/\Row w' 5 1 (some ⟨g,0,none⟩) 0 cp []/\Gr w w'/\w.heap.size<=g/\n<=cp:=by
 obtain ⟨inf,hinf,hz0,hz1,hz2⟩:=info_parts xG
 have hrun:=Lib.run_append_nil_zeros (P:=Tryz.prog) w 31 3 31 5 inf _ .i64 .i64 q31 q3 hinf hz0 n (by omega) (by rw [hz1]; decide) (by omega) (by rw [hz2]; omega)
 have hge:=grownCap_ge w n 0 5
 have hcm:grownCap w n 0 5<=maxLen:=grownCap_le_maxLen w n 0 5 (by unfold maxLen; omega)
 refine ⟨_,_,_,hrun,Row.mk_ (l:=(Builtin.zeroCells (Value.int .u8 0).cells n ++ Builtin.zeroCells (Value.int .u8 0).cells (grownCap w n 0 5 - n)).toList) ?_ (Nat.zero_le _) ?_ ?_ hcm,(Gr.drew w).trans (Gr.alloc _ _),Nat.le_refl _,hge⟩
 ·unfold Blk
  rw [Array.toArray_toList]
  exact heap_alloc_new w.drew _
 ·rw [Array.length_toList,Array.size_append,size_zeroCells,size_zeroCells]
  show n * 1+(grownCap w n 0 5 - n) * 1=grownCap w n 0 5 * 1
  omega
 ·rw [Nat.zero_mul,List.take_zero]
theorem jji (n:Nat) (hn:0 < n/\n<=1099511627776):Fn Tryz.prog 240 [.slice none 0 0,ii n] W (fun v w'=>∃ A c,v=.slice A 0 c/\Row w' 5 1 A 0 c []/\xS W A/\Gr W w'):=by
 have e0:(n:Int) - (((0:Nat):Int) - ((0:Nat):Int))=n:=by omega
 have S:=St.start W
 refine zn Tryz.func240 Tryz.results240 Tryz.ntmps240 ?_
 refine z ?_; refine z ?_; refine zf ?_; refine z ?_; refine z ?_
 refine jE (jhk q31 rfl) ?_
 refine z ?_; refine z ?_; iterate 2 refine zr ?_
 rw [e0]
 refine z ?_; refine z ?_; refine zt ?_; refine z ?_; refine z ?_
 refine jE (jhk q31 rfl) ?_
 refine jE (wC q31 qz5 rfl rfl (by omega) (by omega)) ?_
 refine z ?_
 obtain ⟨g5,cp5,w5,h5,hR5,hg5,hf5,hc5⟩:=jfA _ n hn
 refine rQ (v:=.slice (some ⟨g5,0,none⟩) n cp5) (w':=w5) (by simp [execOp,resolve,invoke,builtin,ev,cN,xN,yU]; rw [h5]; rfl) ?_
 have S:=S.gr hg5
 refine z ?_; refine z ?_
 refine jE (wC q31 qz5 rfl rfl (by omega) (by omega)) ?_
 iterate 3 refine z ?_
 refine zq ?_
 refine yD rfl ⟨_,_,rfl,hR5,fun b hq=>?_,S.out⟩
 injection hq with hq
 have hq:g5=b:=hq
 have hf5:W.heap.size<=g5:=hf5
 omega
structure BR where
 A:Option Addr
 c:Nat
 l:List Int
def BR.v (q:BR):Value:=.slice q.A q.l.length q.c
def rU (ls:List BR):List Value:=ls.map BR.v
theorem jhZ (ls:List BR):(rU ls).length=ls.length:=by simp [rU]
theorem jcP {ls:List BR} {i:Nat} {q:BR} (h:ls[i]?=some q):(rU ls)[i]?=some (.slice q.A q.l.length q.c):=by
 unfold rU
 rw [List.getElem?_map,h]
 rfl
def uA (ls:List BR):List Int:=ls.flatMap BR.l
theorem jaF {ls:List BR} {i:Nat} {q:BR} (h:ls[i]?=some q):uA (ls.take (i+1))=uA (ls.take i) ++ q.l:=by
 unfold uA
 rw [List.take_add_one,h]
 simp
theorem s8 {B:Option Addr} {cB:Nat} {ls:List BR} (hB:Rd W B (rU ls)) (hq:∀ q ∈ ls,0 < q.l.length/\Rd W q.A (u8s q.l)) (h0:0 < ls.length) (hn:ls.length<=1048576) (hm:(uA ls).length<=1099511627776) :
  Fn Tryz.prog 191 [.slice B ls.length cB] W (qR id 5 1 (uA ls).length (u8s (uA ls)) W):=by
 have sa_B:yH B:=hB.someA (by rw [jhZ]; omega)
 have hle:∀ i,(uA (ls.take i)).length<=(uA ls).length:=fun i=>by
  have:uA ls=uA (ls.take i) ++ uA (ls.drop i):=by unfold uA; rw [<-List.flatMap_append,List.take_append_drop]
  rw [this,List.length_append]; omega
 have S:=St.start W
 refine zn Tryz.func191 Tryz.results191 Tryz.ntmps191 ?_
 iterate 5 refine z ?_
 refine zc ?_
 refine jS ?_
 refine zc ?_
 refine j9 (fun m e w=>∃ i:Nat,i+m=ls.length/\SL e [(0,.slice B ls.length cB),(3,ii (uA (ls.take i)).length),(9,.slice B ls.length cB),(10,ii ls.length),(11,ii i)]/\St No W w []) ls.length
  ⟨0,by omega,⟨rfl,rfl,rfl,rfl,rfl,trivial⟩,S⟩ ?_
 clear S
 rintro m e w ⟨i,hi,hsl,S⟩
 rw [hsl.fold]
 by_cases hlt:i < ls.length
 ·obtain ⟨q,hqi⟩:∃ q,ls[i]?=some q:=⟨_,List.getElem?_eq_getElem hlt⟩
  have hg:=jcP hqi
  have hs:=jaF hqi
  have hle':=hle (i+1)
  rw [hs,List.length_append] at hle'
  have hg':(rU ls)[(i:Int).toNat * 1]?=some (.slice q.A q.l.length q.c):=by rw [Int.toNat_natCast,Nat.mul_one]; exact hg
  refine zt ?_; refine zx ?_
  refine j3 (j7 q31 rfl rfl (hB.gr S.out) hg') ?_
  (iterate 4 refine z ?_); refine zr ?_; refine z ?_; refine z ?_; refine zf ?_; refine zr ?_; refine z ?_
  refine ze ?_
  exact ⟨m - 1,by omega,i+1,by omega,⟨rfl,ie (by rw [hs,List.length_append]; omega),rfl,rfl,rfl,trivial⟩,S⟩
 ·obtain rfl:i=ls.length:=by omega
  rw [List.take_length]
  have hp:0 < (uA ls).length:=by
   obtain ⟨q,r,rfl⟩:∃ q r,ls=q::r:=by
    cases ls with
    | nil=>simp at h0
    | cons q r=>exact ⟨q,r,rfl⟩
   have:=(hq q (by simp)).1
   unfold uA
   rw [List.flatMap_cons,List.length_append]
   omega
  refine zf ?_
  refine zc ?_
  refine jM rfl ?_
  refine zc ?_
  refine jY ?_
  repeat first | refine jP ?_ | refine jU ?_
  show CW _ _ _ _ _ _
  refine z ?_
  refine jC rfl (jji (W:=w) (uA ls).length ⟨hp,hm⟩) ?_
  rintro _ w1_ ⟨A_o,c_o,rfl,hR_o,hf_o,g1_⟩
  have S:=S.pushRow hR_o hf_o g1_
  iterate 4 refine z ?_
  refine zc ?_
  refine jS ?_
  refine zc ?_
  refine j9 (fun m e w=>∃ (i:Nat) (A_o:Option Addr) (c_o:Nat),i+m=ls.length/\SL e [(6,.slice A_o (uA (ls.take i)).length c_o),(25,.slice B ls.length cB),(26,ii ls.length),(27,ii i)]/\St No W w [.row 5 1 A_o (uA (ls.take i)).length c_o (u8s (uA (ls.take i)))]) ls.length
   ⟨0,A_o,c_o,by omega,⟨rfl,rfl,rfl,rfl,trivial⟩,S⟩ ?_
  clear S
  rintro m e w ⟨i,A_o,c_o,hi,hsl,S⟩
  rw [hsl.fold]
  by_cases hlt:i < ls.length
  ·obtain ⟨q,hqi⟩:∃ q,ls[i]?=some q:=⟨_,List.getElem?_eq_getElem hlt⟩
   have hg:=jcP hqi
   have hs:=jaF hqi
   have hle':=hle (i+1)
   rw [hs,List.length_append] at hle'
   have hg':(rU ls)[(i:Int).toNat * 1]?=some (.slice q.A q.l.length q.c):=by rw [Int.toNat_natCast,Nat.mul_one]; exact hg
   obtain ⟨hq1,hq2⟩:=hq q (List.mem_of_getElem? hqi)
   have hq3:=jaH q.l
   refine zt ?_; refine zx ?_
   refine j3 (j7 q31 rfl rfl (hB.gr S.out) hg') ?_
   iterate 3 refine z ?_
   refine qA (i:=0) S rfl (fun h=>rfl) q31 xG rfl rfl rfl rfl (by rw [gU,Nat.mul_one]) (by omega) (hq2.gr S.out) hq3 (by omega) ?_
   intro A_o2 c_o2 w2_ S sa_o
   refine z ?_; refine zr ?_; refine z ?_
   refine ze ?_
   rw [jdU,<-hs] at S
   have hs2:(uA (ls.take i)).length+q.l.length=(uA (ls.take (i+1))).length:=by rw [hs,List.length_append]
   rw [hs2] at S
   exact ⟨m - 1,by omega,i+1,A_o2,c_o2,by omega,⟨se hs2 rfl,rfl,rfl,rfl,trivial⟩,S⟩
  ·obtain rfl:i=ls.length:=by omega
   rw [List.take_length]
   rw [List.take_length] at S
   refine zf ?_
   refine zc ?_
   refine jM rfl ?_
   refine zc ?_
   refine jY ?_
   repeat first | refine jP ?_ | refine jU ?_
   show CW _ _ _ _ _ _
   refine z ?_; refine z ?_
   refine zq ?_
   exact yD rfl (S.retNew (i:=0) rfl)
end
end
end Go.Proofs.YtipnifjmhlcehaaGreatDoor
