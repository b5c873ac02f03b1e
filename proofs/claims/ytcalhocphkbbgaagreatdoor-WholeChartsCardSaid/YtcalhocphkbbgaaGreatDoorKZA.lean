/- A part of the proof that hachuretop.WholeCharts and hachuretop.WholeWater returns true at every input; no condition. -/
import Derived.RecoverIn
import Derived.Test.YtcalhocphkbbgaaGreatDoorKW
set_option maxRecDepth 100000
set_option maxHeartbeats 16000000
set_option linter.unusedVariables false
set_option linter.unusedSimpArgs false
namespace Go.Proofs.YtcalhocphkbbgaaGreatDoor
open Go.Proofs.Tryz Go.RowKit
variable{Q:(Nat->Value)->World->Prop}{af:Array Edge}{Q':Exit->Act->World->Prop}{fn:Func}{f:FuncId}{h:HA}{a a':Int}{σ:List (Nat × Value)}{ws:List ByteArray}{M T tl:List HA}{hd:List Nat}{args:List Operand}{l l2 ol vs xs:List Value}{Qs:List Value->(Nat->Value)->Prop}{N b bytes c c2 cb el g gh gw i j k m n n' ob p q rb sb size t2 tb x0 x1 y0 y1:Nat}{sp:Nat->Bool}{c':Nat->Int}{o':Nat->Nat}{F:Nat->Prop}{e:Nat->Value}{o:m5}{o1 o2:Oper}{hi x:Operand}{A A2 B l0 pp:Option Addr}{d:Option Tmp}{P:Program}{r:Rc}{s s':lT}{α β:Type}{dd:TypeDesc}{t ty:TypeId}{u v2:Value}{R2:Value->Prop}{R:Value->World->Prop}{W w w' wq:World}{C:World->Prop}
def yH:List ByteArray:=[⟨#[]⟩,⟨#[99,114,101,97,116,101]⟩,⟨#[115,101,116]⟩,⟨#[102,105,108,108]⟩,⟨#[112,97,115,116,101]⟩,⟨#[97,100,100]⟩,⟨#[103,101,116]⟩,⟨#[115,117,109]⟩,⟨#[109,105,110]⟩,⟨#[109,97,120]⟩,⟨#[111,118,101,114]⟩,⟨#[114,97,110,107]⟩,⟨#[115,105,103,104,116]⟩,⟨#[118,105,101,119]⟩,⟨#[114,101,103,105,111,110,115]⟩,⟨#[115,105,110,107]⟩,⟨#[114,111,117,116,101]⟩,⟨#[108,101,118,101,108]⟩,⟨#[102,114,101,101,122,101]⟩,⟨#[116,104,97,119]⟩,⟨#[111,108,100,115,117,109]⟩,⟨#[111,108,100,109,105,110]⟩,⟨#[111,108,100,109,97,120]⟩,⟨#[115,97,118,101]⟩,⟨#[108,111,97,100]⟩,⟨#[117,110,100,111]⟩,⟨#[114,101,100,111]⟩,⟨#[100,114,97,119]⟩]
structure GL(w:World):Prop where
 mx:∃m,w.cell? ⟨3,0,none⟩=some (ii m)
 vb:∀(i:Nat)s,yH[i]?=some s->w.cell? ⟨0,i,none⟩=some (.string s)
theorem Mg(g:Gr w w'){a:Addr}{v:Value}(h:w.cell? a=some v):w'.cell? a=some v:=(g.cell (q7 _ _ h)).trans h
theorem GL.gr(h:GL w)(g:Gr w w'):GL w':=⟨h.mx.imp λ_ h=>Mg g h,λi s hi=>Mg g (h.vb i s hi)⟩
def CB(F:Nat->Prop)(W:World)(L:List HA)(el k n:Nat)(l:List Value)(σ:List Value)(w:World):Prop:=match σ with
 |[]=>St F W w L
 |v::_=>∃A,dO A/\v=.slice A n n/\St F W w (.row el k A n n l::L)
theorem EH{ps:String}{L:List HA}{el:TypeId}{y:List (Nat×Operand)}{z:Value}{l0:List Value}(hq:CB F W L el k n l [] w)(hu:P.underlying t=some (.slice el))(hs:∀w,(sizeOf el).run P w=.ok k w)(hz:∀w,(zeroValue el).run P w=.ok z w)(hk:z.cells.toList.length=k)(D:Nat.beq (n*k) 0=false)(Z:Nat.ble (n*k) 16777216=true)(h1:yS (λi=>some (i*k,k)) ((List.replicate n z.cells.toList).flatten) (yQ e y)=some l0)(h2:lj l0=some l)(hl:Nat.beq l.length (n*k)=true) :
  gI P e ⟨d,.buildSlice t n y.toArray,ty,ps,af,none⟩ w (λv w'=>CB F W L el k n l [v] w'):=by
 have S:St F W w L:=hq;have I:n*k≠0:=by intro h;rw[h]at D;cases D
 have U:0<k:=fT λh=>by rw[h]at I;simp at I
 have aa:n<=n*k:=eS _ U;refine AY (mu hu hs hz hk D Z h1 h2) ⟨_,pS _ _,rfl,?_⟩;have V:St F W (w.alloc (.cells l.toArray el)) (.blk w.heap.size el l::L):=S.push (Gr.alloc w _) (eL.new _ _ _) (λg hg=>by rw[hg];exact fK _)
 have J:gH (w.alloc (.cells l.toArray el)) el k (some ⟨w.heap.size,0,none⟩) n n l :=
  gH.of_blk (V.blk (i:=0) rfl) (eU hl) (by have:=eC Z;unfold maxLen;omega)
 exact V.set (i:=0) rfl rfl (Fr.refl No _) (λ_ h=>h.elim) J (λb O=>.inl (by injection O with O;exact O.symm))
theorem Mh{lb o t r0:Nat}{zs:List (ByteArray×Nat)}(Z:zs.length=4)(V:(zs.map Prod.fst++ws).length<=c)(hd:∀z∈zs,Dg z.1 z.2)(J:∀q∈[r0,r0+1,r0+2,r0+3],uG ol q)(S:St F W w (.blk lb 371 [.slice (some ⟨b,o,none⟩) (zs.map Prod.fst++ws).length c,.bool true]::.wd b o (zs.map Prod.fst++ws)::.blk ob t ol::T)) :
  Fn prog (244) [pt lb,.pointer (some ⟨ob,r0,none⟩)] w (λv w'=>∃o' c',v=.tuple #[]/\ws.length<=c'/\St F W w' (.blk lb 371 [.slice (some ⟨b,o',none⟩) ws.length c',.bool true]::.wd b o' ws::.blk ob t (C7 ol [r0,r0+1,r0+2,r0+3] (zs.map Prod.snd))::T)):=by
 refine zI func244 ?_;refine zH (C:=(CB F W (.blk lb 371 [.slice (some ⟨b,o,none⟩) (zs.map Prod.fst++ws).length c,.bool true]::.wd b o (zs.map Prod.fst++ws)::.blk ob t ol::T) 373 1 4 (EG ob [r0,r0+1,r0+2,r0+3]))) [13] [0,1,2,3,4,5,6,7,8,9,10,11,12,13] [14] (S.gr (Gr.drew _)) ?_;refine de rfl rfl (λwq J=>EH J ug Ml I4 rfl rfl rfl rfl rfl rfl) ?_;rintro aa ab ⟨O,L,rfl,_⟩;refine zY ?_;rintro wz ⟨U,y,D,S⟩;injection D with D;subst D

 refine eY rfl (G4 (qs:=[r0,r0+1,r0+2,r0+3]) y (by decide) rfl Z V hd J S) ?_;rintro _ ac ⟨o2,c2,rfl,I,S⟩;refine ze ?_;exact na ⟨_,_,rfl,I,S⟩
theorem SN:Fn prog 289 [.slice A 0 c] w (dp (.string ⟨#[45]⟩) w):=by
 have S:=St.start w;refine zI func289 ?_;exact zZ
theorem IE{L:List HA}(s y:ByteArray){l:List ByteArray}(S:St No W w L)(D:GL W)(V:s.size<4294967281)(h1:1<=y.size)(O:Lib.splitB y 0 (Lib.countB s y) s=l) :
  Fn prog 290 [.string s,.string y] w (λv w'=>∃g,v=.slice (some ⟨g,0,none⟩) l.length l.length/\St No W w' (.wd g 0 l::L)):=by
 obtain⟨m,U⟩:=(D.gr S.out).mx;refine(TS s y V U h1 O).mono ?_;rintro v w' ⟨rfl,rfl⟩;refine⟨_,rfl,S.push (Gr.alloc w _) (h:=.wd w.heap.size 0 l) ⟨by simp,λj x J=>?_⟩ (λg I=>by rw[I];exact fK _)⟩;have z:eL (w.alloc (.cells (l.map Value.string).toArray 9)) w.heap.size 9 (l.map Value.string):=eL.new _ _ _;exact z.cellv (by rw[eH,da,J];rfl)
theorem Vo{lb o t:Nat}{zs:List (ByteArray×Nat)}{x:ByteArray}(hG:GL W)(ah:Lib.splitB ⟨#[44]⟩ 0 (Lib.countB x ⟨#[44]⟩) x=zs.map Prod.fst)(hx:(x.toList==(⟨#[45]⟩:ByteArray).toList)=false)(an:x.size<=1000)(hz:zs.length<=100)(hd:∀z∈zs,Dg z.1 z.2)(hc:ws.length+1<=c)(V:ol[p]?=some (.slice none 0 0))(S:St No W w (.blk lb 371 [.slice (some ⟨b,o,none⟩) (ws.length+1) c,.bool true]::.wd b o (x::ws)::.blk ob t ol::T)) :
  Fn prog (246) [pt lb,.pointer (some ⟨ob,p,none⟩)] w (λv w'=>∃o' c' A cA,v=.tuple #[]/\ws.length<=c'/\St No W w' (.blk lb 371 [.slice (some ⟨b,o',none⟩) ws.length c',.bool true]::.wd b o' ws::.blk ob t (ol.set p (.slice A zs.length cA))::.row 2 1 A zs.length cA (cY (zs.map λz=>(z.2:Int)))::T)):=by
 have ae:=(dq.1 V).1;refine zI func246 ?_;refine zg ?_;refine dH (cV fZ rfl rfl (S.blk (i:=2) rfl) V) ?_;refine zC (SN) ?_;intro ao am S;refine zK (G3 hc S) ?_;rintro _ ap ⟨o2,c2,rfl,aa,S⟩;refine zg ?_;refine iy (i:=2) S rfl (jN _) rfl rfl rfl rfl V rfl ?_;intro w9 S;refine z ?_;refine dU (yu rfl rfl hx) ?_;refine zK (IE (l:=zs.map Prod.fst) x ⟨#[44]⟩ S hG om (by decide) ah) ?_;rintro _ aq ⟨sp,rfl,S⟩;refine zg ?_;rw[eP];generalize Z:zs.map (λz=>(z.2:Int))=vs;have S:=S.pushNil 2 1
 refine dl (λm e w'=>∃(k:Nat)(y:Option Addr)(D:Nat),k+m=zs.length/\SL e [(1,.pointer (some ⟨ob,p,none⟩)),(18,.slice (some ⟨sp,0,none⟩) zs.length zs.length),(19,ii zs.length),(20,ii k)] /\
   St No W w' (.row 2 1 y k D (cY (vs.take k))::.wd sp 0 (zs.map Prod.fst)::.blk lb 371 [.slice (some ⟨b,o2,none⟩) ws.length c2,.bool true]::.wd b o2 ws::.blk ob t (ol.set p (.slice y k D))::T)) zs.length
  ⟨0,none,0,om,sl,S⟩ ?_
 clear S;rintro m e w2 ⟨k,y,D,hk,ag,S⟩;rw[ag.fold];have U:(ol.set p (.slice y k D))[p]?=some (.slice y k D):=lv ae;by_cases ad:k<zs.length
 ·obtain⟨⟨s,n⟩,J⟩:∃z,zs[k]?=some z:=⟨_,fw ad⟩;have ac:Dg s n:=hd (s,n) (dD J);have hs:(zs.map Prod.fst)[k]?=some s:=by rw[da,J];rfl
  have ab:w2.cell? ⟨sp,0+(k:Int).toNat * 1,none⟩=some (.string s):=by rw[cG];exact(S.ok (i:=1) rfl).2 k s hs
  have ai:cY (vs.take k)++[ii n]=cY (vs.take (k+1)):=by
   have:vs[k]?=some (n:Int):=by rw[<-Z,da,J];rfl
   rw[kK,this];simp[cY]
  refine zg ?_;refine dU (vo gT rH rfl rfl om om) ?_;refine dH (xE fk rfl rfl ab) ?_;refine zH (C:=(λσ wq=>CS No W (.row 2 1 y k D (cY (vs.take k))::.wd sp 0 (zs.map Prod.fst)::.blk lb 371 [.slice (some ⟨b,o2,none⟩) ws.length c2,.bool true]::.wd b o2 ws::.blk ob t (ol.set p (.slice y k D))::T) 0 2 1 k (cY (vs.take k)) [ii n] wq σ)) [6,7] [0,1,2,3,4,5,6,7] [8,9] (S.gr (Gr.drew _)) ?_;refine qo rfl (λτ wq I=>cV fZ rfl rfl (I.ok (j:=4) (by decide) rfl) U) ?_;refine zR ?_;refine jH rfl rfl (λτ wq I=>(BI ac).mono (λ_ _⟨V,hg⟩=>⟨V,I.gr hg⟩)) ?_;refine de rfl rfl (λwq I=>rO I fZ cR pJ rfl rfl rfl rfl rfl rfl) ?_;rintro v6 w6 ⟨A6,rfl,_⟩;refine de rfl rfl (λwq I=>u6 I rfl (λh=>⟨_,rfl⟩) fZ jR rfl rfl rfl rfl rfl rfl om) ?_;rintro v7 w7 ⟨A7,c7,L7,rfl,_,_⟩;refine zY ?_;rintro w8 ⟨ak,al,aj,L,O,S⟩;cases L
  obtain rfl:=Option.some.inj O;refine zg ?_;refine iy (i:=4) S rfl (jN _) rfl rfl rfl rfl U rfl ?_;intro wz S;refine zg ?_;rw[ai,List.set_set]at S;exact⟨m-1,om,k+1,A7,c7,om,sl,S⟩
 ·obtain rfl:k=zs.length:=om;refine zg ?_;have e:vs.take zs.length=vs:=fN (by rw[<-Z];simp);rw[e]at S;exact na ⟨_,_,_,_,rfl,aa,(S.pick 5 [1,2,3,4,0] rfl rfl rfl).drop 1⟩
theorem G5{Q:Exit->(Nat->Value)->World->Prop}(h:Q .normal e w):J2 k Q .normal e w:=h
theorem SQ{lb o t:Nat}{zs:List (ByteArray×Nat)}(Z:ol[0]?=some (ii 1))(hz:zs.length=2)(V:(zs.map Prod.fst++ws).length<=c)(hd:∀z∈zs,Dg z.1 z.2)(J:∀q∈[9,10],uG ol q)(S:St No W w (.blk lb 371 [.slice (some ⟨b,o,none⟩) (zs.map Prod.fst++ws).length c,.bool true]::.wd b o (zs.map Prod.fst++ws)::.blk ob t ol::T)) :
  Fn prog (292) [pt lb,pt ob] w (λv w'=>∃o' c',v=.tuple #[]/\ws.length<=c'/\St No W w' (.blk lb 371 [.slice (some ⟨b,o',none⟩) ws.length c',.bool true]::.wd b o' ws::.blk ob t (C7 ol [9,10] (zs.map Prod.snd))::T)):=by
 refine zI func292 ?_;refine zg ?_;refine dH (cV dB rfl rfl (S.blk (i:=2) rfl) Z) ?_;refine zH (C:=(CB No W (.blk lb 371 [.slice (some ⟨b,o,none⟩) (zs.map Prod.fst++ws).length c,.bool true]::.wd b o (zs.map Prod.fst++ws)::.blk ob t ol::T) 373 1 2 (EG ob [9,10]))) [7] [0,1,2,3,4,5,6,7] [8] (S.gr (Gr.drew _)) ?_;refine de rfl rfl (λwq J=>EH J ug Ml I4 rfl rfl rfl rfl rfl rfl) ?_;rintro aa ab ⟨O,L,rfl,_⟩;refine zY ?_;rintro wz ⟨U,y,D,S⟩;injection D with D;subst D;refine zK (G4 (qs:=[9,10]) y (by decide) rfl hz V hd J S) ?_;rintro _ ac ⟨o2,c2,rfl,I,S⟩;refine ze ?_;exact G5<|na ⟨_,_,rfl,I,S⟩
theorem SR{lb o t:Nat}{zs:List (ByteArray×Nat)}(I:ol[0]?=some (ii 7))(L:zs.length=4)(D:(zs.map Prod.fst++ws).length<=c)(hd:∀z∈zs,Dg z.1 z.2)(J:∀q∈[1,2,3,4],uG ol q)(S:St No W w (.blk lb 371 [.slice (some ⟨b,o,none⟩) (zs.map Prod.fst++ws).length c,.bool true]::.wd b o (zs.map Prod.fst++ws)::.blk ob t ol::T)) :
  Fn prog (292) [pt lb,pt ob] w (λv w'=>∃o' c',v=.tuple #[]/\ws.length<=c'/\St No W w' (.blk lb 371 [.slice (some ⟨b,o',none⟩) ws.length c',.bool true]::.wd b o' ws::.blk ob t (C7 ol [1,2,3,4] (zs.map Prod.snd))::T)):=by
 refine zI func292 ?_;refine zg ?_;refine dH (cV dB rfl rfl (S.blk (i:=2) rfl) I) ?_;refine zK (Mh (r0:=1) L D hd J S) ?_;rintro _ O ⟨o2,c2,rfl,y,S⟩;refine ze ?_;exact G5<|na ⟨_,_,rfl,y,S⟩
theorem SS{lb o t:Nat}{zs zl:List (ByteArray×Nat)}{x:ByteArray}(Z:GL W)(J:Lib.splitB ⟨#[44]⟩ 0 (Lib.countB x ⟨#[44]⟩) x=zl.map Prod.fst)(hx:(x.toList==(⟨#[45]⟩:ByteArray).toList)=false)(L:x.size<=1000)(O:zl.length<=100)(I:∀z∈zl,Dg z.1 z.2)(hv:(C7 ol [1,2,3,4] (zs.map Prod.snd))[11]?=some (.slice none 0 0))(hk:ol[0]?=some (ii 4))(hz:zs.length=4)(hc:(zs.map Prod.fst++x::ws).length<=c)(hd:∀z∈zs,Dg z.1 z.2)(hq:∀q∈[1,2,3,4],uG ol q)(S:St No W w (.blk lb 371 [.slice (some ⟨b,o,none⟩) (zs.map Prod.fst++x::ws).length c,.bool true]::.wd b o (zs.map Prod.fst++x::ws)::.blk ob t ol::T)) :
  Fn prog (292) [pt lb,pt ob] w (λv w'=>∃o' c' A U,v=.tuple #[]/\ws.length<=c'/\St No W w' (.blk lb 371 [.slice (some ⟨b,o',none⟩) ws.length c',.bool true]::.wd b o' ws::.blk ob t ((C7 ol [1,2,3,4] (zs.map Prod.snd)).set 11 (.slice A zl.length U))::.row 2 1 A zl.length U (cY (zl.map λz=>(z.2:Int)))::T)):=by
 refine zI func292 ?_;refine zg ?_;refine dH (cV dB rfl rfl (S.blk (i:=2) rfl) hk) ?_;refine zK (Mh (r0:=1) hz hc hd hq S) ?_;rintro _ aa ⟨o2,c2,rfl,y,S⟩;refine zK (Vo (p:=11) Z J hx L O I y hv S) ?_;rintro _ ab ⟨o3,c3,A3,V,rfl,D,S⟩;refine ze ?_;exact G5<|na ⟨_,_,_,_,rfl,D,S⟩
section
variable{a:Act}
theorem EV{id:Nat}{v:Value}{dd:Deferred}(I:oo N [] e a)(z:qI N o1.dst=true)(D:qI N o2.dst=true)(L:wE #[o1,o2] e o1=true)(O:wE #[o1,o2] (fI e o1.dst v) o2=true)(h1:(execOp (ev e) o1).run P w=.ok (.value v) w)(h2:(execOp (ev (fI e o1.dst v)) o2).run P w=.ok (.defer dd) w)(S:∀a',oo N [dd] (fI (fI e o1.dst v) o2.dst undef) a'->Q' .normal a' w):(Code.region id #[o1,o2] false).wpIn (wF none) 0 P Q' a w:=by
 refine wpIn_region_lit (l:=[o1,o2]) ?_;unfold wpListIn;rw[I.wanted,a7 L];unfold Oper.wpIn;refine⟨λ_ _=>trivial,?_⟩;rw[I.eval,show(wF none).round=none from rfl,Oper.semAt_none,h1];have y:=I.put z v;show wpListIn _ _ _ _ _ _ _ _;unfold wpListIn;rw[y.wanted,a7 O];unfold Oper.wpIn;refine⟨λ_ _=>trivial,?_⟩;rw[y.eval,show(wF none).round=none from rfl,Oper.semAt_none,h2];have J:oo N [dd] (fI e o1.dst v) { a.put o1.dst v with defers:=dd::(a.put o1.dst v).defers }:=⟨by rw[y.defers],y.size,y.get⟩;exact S _ (J.put D undef)
def LF(P:Program)(N:Nat)(fn:Func)(R:Value->World->Prop)(dd:Deferred):Exit->(Nat->Value)->World->Prop
 |.normal,e,w|.ret,e,w=>∀a,oo N [dd] e a->Leaves P fn a.tmps (λen w'=>∃v,en=.returned v/\R v w') [dd] .returning w
 |_,_,_=>False
theorem OV{r0 rest:Code}{id:Nat}{args:List Value}(hf:P.funcs[f]?=some fn)(hb:fn.body=some (.seq r0 (.seq (.region id #[o1,o2] false) rest)))(hN:fn.ntmps=N)(I:o7 P f=true)(hk:(kS N r0&&kS N rest&&Nat.ble args.length N&&qI N o1.dst&&qI N o2.dst)=true)(h:CW P N r0 (λx e w=>match x with
   |.normal=>∃v dd,wE #[o1,o2] e o1=true/\wE #[o1,o2] (fI e o1.dst v) o2=true/\(execOp (ev e) o1).run P w=.ok (.value v) w/\(execOp (ev (fI e o1.dst v)) o2).run P w=.ok (.defer dd) w/\CW P N rest (LF P N fn R dd) (fI (fI e o1.dst v) o2.dst undef) w
   |_=>False) (qJ args) w):Fn P f args w R:=by
 simp only[cM]at hk;obtain⟨⟨⟨⟨O,S⟩,y⟩,J⟩,L⟩:=hk;have y:args.length<=N:=eC y;refine⟨I,calls_of_wp_defers hf hb ((wpIn_wide (n:=0)).1 ?_)⟩;refine we (ll (h O [] _ ⟨rfl,by simp[hN];omega,λk=>?_⟩ none) ?_)
 ·simp only[qJ,cO,dN,n5,nS,nZ,hN];split
  ·rfl
  ·rename_i ab;rw[dZ om];simp only[mR];split<;>rfl
 ·rintro x a' w' ⟨e',U,z⟩;cases x<;>first|exact z.elim|skip
  obtain⟨v,dd,Z,aa,h1,h2,hc⟩:=z;refine we (EV U J L Z aa h1 h2 λa2 V=>?_);refine ll (hc S [dd] a2 V none) ?_;rintro x a3 w3 ⟨e3,D,z⟩;cases x<;>first|exact z.elim|skip
  all_goals
   have:=z a3 D;show Leaves _ _ _ _ _ _ _;rw[D.defers];exact this
theorem SU{f2:FuncId}{rest:Code}{id:Nat}{args:List Value}{a2:Array Value}(hf:P.funcs[f]?=some fn)(hb:fn.body=some (.seq (.region id #[o1,o2] false) rest))(hN:fn.ntmps=N)(hk:(kS N rest&&Nat.ble args.length N&&qI N o1.dst&&qI N o2.dst)=true)(Z:wE #[o1,o2] (qJ args) o1=true)(aa:wE #[o1,o2] (fI (qJ args) o1.dst .nilIface) o2=true)(h1:(execOp (ev (qJ args)) o1).run P w=.ok .recover w)(h2:(execOp (ev (fI (qJ args) o1.dst .nilIface)) o2).run P w=.ok (.enter f2 a2) w)(hc:Calls P f2 a2 w λJ w'=>∃v,J=.returned v/\CW P N rest (QF P fn.results R) (fI (fI (qJ args) o1.dst .nilIface) o2.dst v) w'):CallsD P f args.toArray .returning w λJ u w'=>u=.returning/\∃v,J=.returned v/\R v w':=by
 simp only[cM]at hk;obtain⟨⟨⟨U,z⟩,O⟩,S⟩:=hk;have z:args.length<=N:=eC z;refine callsD_of_wpS hf hb λc₀ cs hm=>wpS_seq (wpS_region ?_)
 have V:oo N [] (qJ args) { tmps:=args.toArray++Array.replicate (fn.ntmps-args.toArray.size) undef,defers:=[] }:=⟨rfl,by simp[hN];omega,λk=>by
  simp only[qJ,cO,dN,n5,nS,nZ,hN];split
  ·rfl
  ·rename_i ab;rw[dZ om];simp only[mR];split<;>rfl⟩
 generalize ({ tmps:=args.toArray++Array.replicate (fn.ntmps-args.toArray.size) undef,defers:=[] }:Act)=a0 at *;show wpOpsS P #[o1,o2] _ [0,1] a0 (c₀::cs) w;have e1:(#[o1,o2]:Array Oper)[0]?=some o1:=rfl;have e2:(#[o1,o2]:Array Oper)[1]?=some o2:=rfl;have I:recoverD (c₀::cs)=none:=by simp[recoverD,hm]
 have y:=V.put O .nilIface;unfold wpOpsS;simp only[e1];rw[V.wanted,a7 Z,V.eval,h1];simp only[I];unfold wpOpsS;simp only[e2];rw[y.wanted,a7 aa,y.eval,h2];refine Calls.mono hc ?_;rintro J w' ⟨v,rfl,L⟩;refine wpS_of_wp ((wpIn_wide (n:=0)).1 (ll (L U [] _ (y.put S v) none) ?_));rintro x a' w3 ⟨e',D,hq⟩;cases x<;>first|exact hq.elim|skip
 all_goals
  obtain⟨u,hu,hR⟩:=hq;exact⟨D.defers,.returning,by rw[<-hm],u,hu fn _ rfl D.get,rfl,u,rfl,hR⟩
theorem XB{R2:Value->World->Prop}{z:Go.Fn}{cap y:Array Value}{args:Array Value}(hi:(invoke (.fn z cap) y).run P w=.ok (.enter f args) w)(O:CallsD P f args .returning w λI u w'=>u=.returning/\∃v,I=.returned v/\R2 v w')(L:∀v w',R2 v w'->P4 P R fn.results e w'):LF P N fn R ⟨.fn z cap,y⟩ .ret e w:=by
 intro a U;refine⟨by simp,z,cap,f,args,rfl,hi,?_⟩;intro c cs S;obtain⟨I,u,w',J,⟨rfl,v,rfl,h2⟩,V⟩:=O c cs S;refine⟨.returned v,.returning,w',J,?_,V⟩;obtain⟨x,Z,D⟩:=L v w' h2;exact⟨x,Z fn a.tmps rfl U.get,x,rfl,D⟩
end
theorem XD{a u:Tmp}{tb t2 tb2:TypeId}{o b2 o2:Nat}{dd2:TypeDesc}{cs:List Value}(hu:P.underlying t=some dd)(hd:sM dd=true)(hz:(sizeOf t).run P w=.ok n w)(hx:e a=.pointer (some ⟨b,o,none⟩))(hB:eL w b tb l)(hl:lj ((l.drop o).take n)=some cs)(hn:cs.length=n)(hu2:P.underlying t2=some dd2)(hd2:sM dd2=false)(hx2:e u=.pointer (some ⟨b2,o2,none⟩))(hB2:eL w b2 tb2 l2)(hl2:l2[o2]?=some v2)(hR:R (.tuple #[.agg cs.toArray,v2]) w):P4 P R #[.cell a t,.cell u t2] e w :=
 ⟨_,λfn tmps hr hg=>by
  have h1:=ly (o:=default) (fx (P:=P) (d:=none) (ty:=0) (ps := "") (af:=#[]) (e:=λ_=>.pointer (some ⟨b,o,none⟩)) (x:=.tmp 0) hu hd hz rfl hB hl hn);have h2:=ly (o:=default) (cV (P:=P) (d:=none) (ty:=0) (ps := "") (af:=#[]) (e:=λ_=>.pointer (some ⟨b2,o2,none⟩)) (x:=.tmp 0) hu2 hd2 rfl hB2 hl2);have g1:=hg a;have g2:=hg u;rw[hx,dN]at g1;rw[hx2,dN]at g2;simp[results,hr,g1,g2,asAddr,h1,h2],hR⟩
def XE(k:Int):m5:=⟨k,0,0,0,0,0,0,0,0,0,0,.nil,.nil,.nil⟩
theorem G6{α:Type}{s vb:ByteArray}{rest:List ByteArray}{oF:α->m5}{Q:α->List HA}(hG:GL W)(hs:s.size<=1000)(ae:Lib.splitB ⟨#[32]⟩ 0 (Lib.countB s ⟨#[32]⟩) s=vb::rest)(ab:(!(vb.toList==(⟨#[]⟩:ByteArray).toList))=true)(hk:1<=k/\k<28)(ag:(yH.map λs=>s.toList==vb.toList)=(List.range 28).map (λi=>decide (i=k)))(Z:∀x,(oF x).k=k)(hp:∀(w:World)(lb b o c ob:Nat)(T:List HA),rest.length<=c->St No W w (.blk lb 371 [.slice (some ⟨b,o,none⟩) rest.length c,.bool true]::.wd b o rest::.blk ob 46 (XE k).cs::T) ->
   Fn prog (292) [pt lb,pt ob] w (λv w'=>∃o' c' x,v=.tuple #[]/\St No W w' (.blk lb 371 [.slice (some ⟨b,o',none⟩) 0 c',.bool true]::.wd b o' []::.blk ob 46 (oF x).cs::(Q x++T)))) :
  Fn prog 250 [.string s] W (λv w'=>∃x,v=(oF x).v/\St No W w' (Q x)):=by
 have U:∀i(hi:i<28),∃s',yH[i]?=some s'/\(s'.toList==vb.toList)=decide (i=k):=λi hi=>by
  have h1:(yH.map λs=>s.toList==vb.toList)[i]?=some (decide (i=k)):=by rw[ag,da,eu hi];rfl
  rw[da]at h1;cases h2:yH[i]? with
  |none=>rw[h2]at h1;cases h1
  |some s'=>rw[h2]at h1;exact⟨s',rfl,by simpa using h1⟩
 have S:=St.start W;refine zI func250 ?_;refine zN ?_;intro y am ai S;refine zK (IE (l:=vb::rest) s ⟨#[32]⟩ S hG om (by decide) ae) ?_;rintro _ an ⟨sp,rfl,S⟩;refine zN ?_;intro I ao aj S;refine zK (G3 (s:=vb) (ws:=rest) (fK _) S) ?_;rintro _ ap ⟨o2,c2,rfl,V,S⟩;refine zN ?_;intro J aq ak S;refine zg ?_;refine dH (Dd (cs:=yH.map Value.string) qM rfl (sizeOf432 _) rfl rfl (λj v hj=>?_)) ?_
 ·rw[da]at hj;obtain⟨s',h1,rfl⟩:=fl.1 hj;rw[eH];exact(hG.gr S.out).vb j s' h1
 refine zg ?_
 refine dl (λm e w'=>∃i:Nat,i+m=28/\SL e [(2,pt y),(3,pt I),(4,.string vb),(5,pt J),(14,.agg (yH.map Value.string).toArray),(15,ii i)] /\
   St No W w' (.blk J 46 (XE (if k<i then(k:Int)else 0)).cs::.blk I 371 [.slice (some ⟨sp,o2,none⟩) rest.length c2,.bool true]::.wd sp o2 rest::.blk y 46 (XE 0).cs::[])) 28
  ⟨0,rfl,sl,by rw[a8 om];exact S⟩ ?_
 clear S;rintro m e w2 ⟨i,hi,ad,S⟩;rw[ad.fold];by_cases aa:i<28
 ·obtain⟨s',ac,D⟩:=U i aa;have O:(yH.map Value.string)[(i:Int).toNat * 1]?=some (.string s'):=by rw[cG,b7,da,ac];rfl
  by_cases L:i=k
  ·rw[fD L]at D;refine zg ?_;refine dU (Ff qM fk rH rfl rfl rfl om om O) ?_;iterate 4 refine z ?_
   refine dU (yu rfl rfl D) ?_;refine z ?_;refine z ?_;refine dr rfl ?_;refine dU (Jp rfl rfl ab) ?_;refine dU (jx rfl) ?_;first|refine eF ?_|(refine di ?_;show CW _ _ _ _ _ _)|refine di ?_
   repeat refine dm ?_
   refine jr rfl ?_;repeat refine dm ?_
   refine dz ?_;refine dU (jx rfl) ?_;refine dU (du eE rfl fa rfl rfl) ?_;refine iy (i:=0) S rfl (fa _) rfl rfl rfl rfl rfl rfl ?_;intro w9 S;first|refine eF ?_|(refine di ?_;show CW _ _ _ _ _ _)|refine di ?_
   repeat refine dm ?_
   refine dz ?_;refine dU (fh rfl om) ?_;refine dU (jx rfl) ?_;first|refine eF ?_|(refine di ?_;show CW _ _ _ _ _ _)|refine di ?_
   subst L;exact⟨m-1,om,i+1,om,sl,by rw[a7 om];exact S⟩
  ·rw[iO L]at D;refine zg ?_;refine dU (Ff qM fk rH rfl rfl rfl om om O) ?_;iterate 4 refine z ?_
   refine dU (yu rfl rfl D) ?_;refine zg ?_
   have e1:(if k<i then(k:Int)else 0)=if k<i+1 then(k:Int)else 0:=by
    by_cases h:k<i
    ·rw[a7 h,a7 om]
    ·rw[a8 h,a8 om]
   rw[e1]at S;exact⟨m-1,om,i+1,om,sl,S⟩
 ·obtain rfl:i=28:=om;rw[a7 hk.2]at S;have S2:=S.pick 4 [1,2,0,3] rfl rfl rfl;refine zK (hp _ _ _ _ _ _ _ V S2) ?_;rintro _ ar ⟨o3,c3,x,rfl,S⟩;have al:=Z x;refine ze ?_;have S:=St.mid (A:=[_,_,_]) (B:=Q x) (C:=[_]) S;have S:=St.mid (A:=Q x) (B:=[_,_,_,_]) (C:=[]) S;rw[fG]at S;repeat refine dm ?_
  refine dz ?_;refine dU (du eE rfl fa rfl rfl) ?_;refine dH (cV dB rfl rfl (S.blk (i:=2) rfl) rfl) ?_;refine dU (ff (b:=false) rfl (et.2 om)) ?_;refine dU (jx rfl) ?_;first|refine eD rfl ?_|(refine dr rfl ?_;refine dU (jx rfl) ?_)
  first|refine eD rfl ?_|(refine dr rfl ?_;refine dU (jx rfl) ?_)
  first|refine eD rfl ?_|(refine dr rfl ?_;refine dU (du qN rfl YX rfl rfl) ?_)
  first|refine eD rfl ?_|(refine dr rfl ?_;refine dH (cV gT rfl rfl (S.blk (i:=0) rfl) rfl) ?_)
  first|refine eD rfl ?_|(refine dr rfl ?_;refine dU (p6 gT rfl) ?_)
  first|refine eD rfl ?_|(refine dr rfl ?_;refine dU (ff (b:=false) rfl (iO om)) ?_)
  refine dU (jx rfl) ?_;first|refine eF ?_|(refine di ?_;show CW _ _ _ _ _ _)|refine di ?_
  repeat refine dm ?_
  refine eX rfl ?_;repeat refine dm ?_
  refine gO ?_;try show CW _ _ _ _ _ _
  repeat refine dm ?_
  refine dz ?_;refine dH (fx eE rfl (q4 _) rfl (S.blk (i:=2) rfl) rfl rfl) ?_;refine Z1 3 S ?_;intro ah S;first|refine eF ?_|(refine di ?_;show CW _ _ _ _ _ _)|refine di ?_
  repeat refine dm ?_
  refine mJ ?_;repeat first|refine mL ?_|refine oq ?_
  exact rA S ⟨x,rfl,S.drop 4⟩
theorem SV{a:Option Addr}:Fn prog 249 [.nilIface,.pointer a] W (dp (.tuple #[]) W):=by
 have S:=St.start W;refine zI func249 ?_;refine zg ?_;refine dU (V4 underlying20 rfl) ?_;refine zg ?_;exact W3 ⟨rfl,S.out⟩
theorem Fn.out{args:List Value}(h:Fn P f args w R):Calls P f args.toArray w λy w'=>∃v,y=.returned v/\R v w':=h.2
theorem SW{L:List HA}{r:Nat}(S:St No W w (.blk c 34 [ii 0]::.blk r 46 l::L)) :
  CallsD prog (248) #[pt c,pt r] .returning w λy u w'=>u=.returning/\∃v,y=.returned v/\St No W w' (.blk c 34 [ii 0]::.blk r 46 l::L):=by
 refine SU (args:=[pt c,pt r]) (R:=λ_ w'=>St No W w' (.blk c 34 [ii 0]::.blk r 46 l::L)) (f2:=249) (a2:=#[.nilIface,pt c]) (func248) rfl (ntmps248) (by kernel_rfl) rfl rfl ?_ ?_ ?_
 ·simp[execOp,resolve,invoke,builtin]
 ·have D:=iX (P:=prog) (f:=249) (args:=#[.nilIface,pt c]) (w:=w) (by kernel_rfl);simp[execOp,resolve,Deferred.ofValue,invoke,ev,fI,yP,qJ,D]
 ·refine(SV.out).mono ?_;rintro y w' ⟨v,rfl,rfl,g⟩;refine⟨_,rfl,?_⟩;have S:=S.gr g;refine z ?_;refine dU (ff (b:=false) rfl rfl) ?_;refine di ?_;show CW _ _ _ _ _ _;refine eX rfl ?_;refine gO ?_;exact na S
theorem Vp{α:Type}{s:ByteArray}{oF:α->m5}{Q:α->List HA}(I:GL W)(J:∀W,GL W->Fn prog 250 [.string s] W (λv w'=>∃x,v=(oF x).v/\St No W w' (Q x))) :
  Fn prog 158 [.string s] W (λv w'=>∃x,v=.tuple #[(oF x).v,ii 0]/\St No W w' (Q x)):=by
 have S:=St.start W;refine OV (func158) rfl (ntmps158) (by kernel_rfl) (by kernel_rfl) ?_;refine zN ?_;intro z w1 V S;refine zN ?_;intro y O Z S;refine di ?_;refine⟨.func (.func 248) #[] #[pt y,pt z],⟨.fn (.func 248) #[pt y,pt z],#[]⟩,rfl,rfl,jx rfl O,?_,?_⟩
 ·simp[execOp,resolve,Deferred.ofValue,ev,fI,yP,qJ]
 refine zK (J _ (I.gr S.out)) ?_;rintro _ w3 ⟨x,rfl,D⟩;have S:=S.app D;have S:=St.mid (A:=Q x) (B:=[_,_]) (C:=[]) S;rw[fG]at S;refine d8 (i:=1) (cs:=(oF x).cs) S rfl (q4 _) rfl rfl rfl rfl rfl rfl ?_;intro w4 S;refine iy (i:=0) S rfl (sizeOf34 _) rfl rfl rfl rfl rfl rfl ?_;intro U S;refine di ?_;show CW _ _ _ _ _ _;refine mJ ?_;have L:=iX (P:=prog) (f:=248) (by kernel_rfl) #[pt y,pt z] U;refine XB (R2:=λ_ w'=>St No W w' (.blk y 34 [ii 0]::.blk z 46 (oF x).cs::Q x)) (f:=248) (args:=#[pt y,pt z]) ?_ (SW S) ?_
 ·simp[invoke,L]
 ·intro v w6 S;exact XD eE rfl (q4 _) rfl (S.blk (i:=1) rfl) rfl rfl underlying34 rfl rfl (S.blk (i:=0) rfl) rfl ⟨x,rfl,S.drop 2⟩
theorem Vq{lb z:Nat}{y:Option Addr}{s:ByteArray}(hn:n<=100)(S:St F W w (.blk lb 371 [.slice y n z,.bool false]::.row 9 1 y n z xs::T)) :
  Fn prog (242) [pt lb,.string s] w (λv w'=>∃L c',v=.string s/\St F W w' (.blk lb 371 [.slice L (n+1) c',.bool false]::.row 9 1 L (n+1) c' (xs++[.string s])::T)):=by
 refine zI func242 ?_;refine zg ?_;refine yb S ?_;intro U Z V S O;refine ZP 2 0 S ?_;intro D I aa S J;refine zS ?_;intro ab S;exact ir rfl ⟨_,_,rfl,S.drop 1⟩
theorem Mj{lb t v D:Nat}{y z:Option Addr}{s:ByteArray}(V:dO y)(hn:n<=99)(hd:Dg s v)(J:ol[p]?=some (ii v))(S:St F W w (.row 373 1 y 1 1 (EG rb [p])::.blk lb 371 [.slice z n D,.bool false]::.row 9 1 z n D xs::.blk rb t ol::T)) :
  Fn prog (240) [pt lb,.slice y 1 1] w (λv' w'=>∃L c',v'=.tuple #[]/\St F W w' (.blk lb 371 [.slice L (n+1) c',.bool false]::.row 9 1 L (n+1) c' (xs++[.string s])::.blk rb t ol::T)):=by
 have O:ol.set p (ii v)=ol:=by
  obtain⟨h1,h2⟩:=dq.1 J;rw[<-h2];exact List.set_getElem_self h1
 refine zI func240 ?_;refine zg ?_
 refine dl (λm e w'=>∃(k n':Nat)(L:Option Addr)(c':Nat)(I:List Value),k+m=1/\(k=0->n'=n/\I=xs)/\(k=1->n'=n+1/\I=xs++[.string s]) /\
   SL e [(0,pt lb),(6,.slice y 1 1),(7,ii 1),(8,ii k)]/\St F W w' (.row 373 1 y 1 1 (EG rb [p])::.blk lb 371 [.slice L n' c',.bool false]::.row 9 1 L n' c' I::.blk rb t ol::T)) 1
  ⟨0,n,z,D,xs,rfl,λ_=>⟨rfl,rfl⟩,λh=>by omega,sl,S⟩ ?_
 clear S;rintro m e w2 ⟨k,n',L,c',I,hk,h0,h1,U,S⟩;rw[U.fold];by_cases ab:k<1
 ·obtain rfl:k=0:=om;obtain⟨rfl,rfl⟩:=h0 rfl;refine zg ?_;refine dH (eI Bo rfl rfl (S.rd (i:=0) rfl) (v:=.pointer (some ⟨rb,p,none⟩)) rfl) ?_;refine zg ?_;refine dH (cV iY rfl rfl (S.blk (i:=3) rfl) J) ?_;refine zC (H6 hd) ?_;intro ac Z S;refine zK (Vq om (S.pick 4 [1,2,0,3] rfl rfl rfl)) ?_;rintro _ ad ⟨A2,c2,rfl,S⟩;have S:=S.pick 4 [2,0,1,3] rfl rfl rfl;refine zC (BI hd) ?_;intro ae aa S;refine zg ?_;refine iy (i:=3) S rfl (cR _) rfl rfl rfl rfl J rfl ?_;intro w9 S;refine zg ?_;rw[O]at S;exact⟨0,om,1,n'+1,A2,c2,_,rfl,λh=>by omega,λ_=>⟨rfl,rfl⟩,sl,S⟩
 ·obtain rfl:k=1:=om;obtain⟨rfl,rfl⟩:=h1 rfl;refine zg ?_;exact na ⟨_,_,rfl,S.drop 1⟩
theorem Mk{ps:String}{s:Operand}{t:Nat}{z:Value}(I:P.underlying t=some (.slice el))(J:(P.info? el).map (λi=>(i.zero,i.size,i.bytes))=some (some z,k,bytes))(O:ev e s=.slice A n c)(L:n<=c)(S:ev e x=.slice none 0 c2):gd P e ⟨d,.call ⟨.builtin .append,#[s,x],#[t,t]⟩,ty,ps,af,none⟩ w (.slice A n c):=by
 obtain⟨y,v,U,V,Z⟩:=nG J;have D:=Src.ofNil (P:=P) (w:=w) (size:=y.size) I c2;cases A<;>simp[gd,execOp,resolve,invoke,builtin,O,S,Builtin.append_,dS I,sizeOf,typeInfo,v,D.len,L,D.cells,storeCells]
theorem G7(hk:k=1\/k=4):Fn prog 157 [ii k,gZ.v { code:=0 }] W (λv w'=>∃A c,v=.slice A 1 c/\1<=c/\St No W w' [.row 9 1 A 1 c [.string ⟨#[111,107]⟩]]):=by
 have S:=St.start W;refine zI func157 ?_;refine zN ?_;intro O ac U S;iterate 3 refine z ?_
 refine dU (ff (b:=false) rfl rfl) ?_;refine zg ?_;refine yb S ?_;intro J ad V S y;refine zN ?_;intro L ae Z S;refine zg ?_;obtain⟨wb,wo,rfl⟩:=y;refine zC (Rf (x:=⟨#[111,107]⟩) ((S.rd (i:=1) rfl).cell rfl (j:=0) rfl)) ?_;intro ag aa S;refine yb S ?_;intro I ah ab S D;refine zg ?_;refine dH (Mk gT xT rfl (fK _) rfl) ?_;refine zX ?_;exact⟨_,_,rfl,fK _,S.sub (.cons_cons _ (.cons _ (.cons _ (.cons _ .slnil))))⟩
theorem OW:Fn prog 157 [ii 7,gZ.v { code:=0,n:=12 }] W (λv w'=>∃A c,v=.slice A 1 c/\1<=c/\St No W w' [.row 9 1 A 1 c [.string ⟨#[111,107,32,49,50]⟩]]):=by
 have S:=St.start W;refine zI func157 ?_;refine zN ?_;intro aa ak ag S;iterate 3 refine z ?_
 refine dU (ff (b:=false) rfl rfl) ?_;refine zg ?_;refine yb S ?_;intro V al ah S U;refine zN ?_;intro Z am ai S;refine zg ?_;refine yb S ?_;intro ae an aj S I;refine zK (Mj (T:=[]) (n:=1) I (by decide) Yi rfl (S.pick 4 [0,1,2,3] rfl rfl rfl)) ?_;rintro _ ao ⟨A2,c2,rfl,S⟩;refine zc ?_;refine pD ?_;repeat first|refine nC ?_|refine pE ?_
 show CW _ _ _ _ _ _;obtain⟨wb,wo,rfl⟩:=(S.row (i:=1) rfl).someA (by decide)
 have y:∀(j:Nat)x,([⟨#[111,107]⟩,⟨#[49,50]⟩]:List ByteArray)[j]?=some x->[Value.string ⟨#[111,107]⟩,.string ⟨#[49,50]⟩][j]?=some (.string x):=λj x O=>by
  rw[show [Value.string ⟨#[111,107]⟩,.string ⟨#[49,50]⟩]=([⟨#[111,107]⟩,⟨#[49,50]⟩]:List ByteArray).map Value.string from rfl,da,O];rfl
 repeat refine dm ?_
 refine dz ?_;iterate 2 refine dU (jx rfl) ?_
 refine dU (du qN rfl YX rfl rfl) ?_;refine dH (cV gT rfl rfl (S.blk (i:=0) rfl) rfl) ?_;refine eY rfl (TT (xs:=[⟨#[111,107]⟩,⟨#[49,50]⟩]) (r:=⟨#[111,107,32,49,50]⟩) (λj x O=>(S.rd (i:=1) rfl).cell rfl (y j x O)) ((S.row (i:=1) rfl).lt rfl) (by decide) (S.row (i:=1) rfl).cap (by decide+kernel) (by decide)) ?_;rintro _ ac ⟨rfl,D⟩;have S:=S.gr D;refine yb S ?_;intro L ad ab S J;refine zg ?_;refine dH (Mk gT xT rfl (fK _) rfl) ?_;refine zX ?_;exact⟨_,_,rfl,fK _,S.sub (.cons_cons _ (.cons _ (.cons _ (.cons _ .slnil))))⟩
theorem XF{a b:HA}{Q:List HA}:(a::(Q++(b::(M++T)))).Perm ((Q++M)++(a::b::T)):=by
 refine List.Perm.trans ?_ ef.symm;refine pZ a ?_;rw[cL];exact(ef.symm).append_left Q
theorem XG(I:GL W):Fn prog 250 [.string ⟨#[99,114,101,97,116,101,32,50,32,49]⟩] W (λv w'=>∃x:Unit,v=m5.v ⟨1,0,0,0,0,0,0,0,0,2,1,.nil,.nil,.nil⟩/\St No W w' []) :=
 G6 (k:=1) (vb:=⟨#[99,114,101,97,116,101]⟩) (rest:=[⟨#[50]⟩,⟨#[49]⟩]) (oF:=λ_:Unit=>⟨1,0,0,0,0,0,0,0,0,2,1,.nil,.nil,.nil⟩) (Q:=λ_=>[]) I (by decide) (by decide+kernel) (by decide+kernel) (by decide) (by decide+kernel) (λ_=>rfl)
  (λw lb b o c ob T J S=>(SQ (zs:=[(⟨#[50]⟩,2),(⟨#[49]⟩,1)]) (ws:=[]) rfl rfl J (by
   intro z D;simp only[dy,gM,lr]at D;rcases D with rfl|rfl<;>first|exact Nl|exact V7|exact V8|exact V9|exact Wa) (by
   intro q y;simp only[dy,gM,lr]at y;rcases y with rfl|rfl<;>exact⟨_,0,Nl,rfl⟩) S).mono λv w'⟨o',c',hv,_,S⟩=>⟨o',c',(),hv,S⟩)
theorem XH(D:GL W):Fn prog 250 [.string ⟨#[112,97,115,116,101,32,48,32,48,32,49,32,48,32,53,44,55]⟩] W (λv w'=>∃x:Option Addr×Nat,v=m5.v ⟨4,0,0,1,0,0,0,0,0,0,0,⟨x.1,2,x.2⟩,.nil,.nil⟩/\St No W w' [.row 2 1 x.1 2 x.2 (cY [5,7])]) :=
 G6 (k:=4) (vb:=⟨#[112,97,115,116,101]⟩) (rest:=[⟨#[48]⟩,⟨#[48]⟩,⟨#[49]⟩,⟨#[48]⟩,⟨#[53,44,55]⟩]) (oF:=λx:Option Addr×Nat=>⟨4,0,0,1,0,0,0,0,0,0,0,⟨x.1,2,x.2⟩,.nil,.nil⟩) (Q:=λx=>[.row 2 1 x.1 2 x.2 (cY [5,7])]) D (by decide) (by decide+kernel) (by decide+kernel) (by decide) (by decide+kernel) (λ_=>rfl)
  (λw lb b o c ob T J S=>(SS (zs:=[(⟨#[48]⟩,0),(⟨#[48]⟩,0),(⟨#[49]⟩,1),(⟨#[48]⟩,0)]) (zl:=[(⟨#[53]⟩,5),(⟨#[55]⟩,7)]) (x:=⟨#[53,44,55]⟩) (ws:=[]) D (by decide+kernel) (by decide+kernel) (by decide) (by decide) (by
   intro z y;simp only[dy,gM,lr]at y;rcases y with rfl|rfl<;>first|exact Nl|exact V7|exact V8|exact V9|exact Wa) rfl rfl rfl J (by
   intro z y;simp only[dy,gM,lr]at y;rcases y with rfl|rfl|rfl|rfl<;>first|exact Nl|exact V7|exact V8|exact V9|exact Wa) (by
   intro q I;simp only[dy,gM,lr]at I;rcases I with rfl|rfl|rfl|rfl<;>exact⟨_,0,Nl,rfl⟩) S).mono λv w'⟨o',c',A,cA,hv,_,S⟩=>⟨o',c',(A,cA),hv,S⟩)
theorem XI(I:GL W):Fn prog 250 [.string ⟨#[115,117,109,32,48,32,48,32,49,32,48]⟩] W (λv w'=>∃x:Unit,v=m5.v ⟨7,0,0,1,0,0,0,0,0,0,0,.nil,.nil,.nil⟩/\St No W w' []) :=
 G6 (k:=7) (vb:=⟨#[115,117,109]⟩) (rest:=[⟨#[48]⟩,⟨#[48]⟩,⟨#[49]⟩,⟨#[48]⟩]) (oF:=λ_:Unit=>⟨7,0,0,1,0,0,0,0,0,0,0,.nil,.nil,.nil⟩) (Q:=λ_=>[]) I (by decide) (by decide+kernel) (by decide+kernel) (by decide) (by decide+kernel) (λ_=>rfl)
  (λw lb b o c ob T J S=>(SR (zs:=[(⟨#[48]⟩,0),(⟨#[48]⟩,0),(⟨#[49]⟩,1),(⟨#[48]⟩,0)]) (ws:=[]) rfl rfl J (by
   intro z D;simp only[dy,gM,lr]at D;rcases D with rfl|rfl|rfl|rfl<;>first|exact Nl|exact V7|exact V8|exact V9|exact Wa) (by
   intro q y;simp only[dy,gM,lr]at y;rcases y with rfl|rfl|rfl|rfl<;>exact⟨_,0,Nl,rfl⟩) S).mono λv w'⟨o',c',hv,_,S⟩=>⟨o',c',(),hv,S⟩)
theorem OX{α β:Type}{s an:ByteArray}{oF:α->m5}{Q:α->List HA}{r:gZ}{M':β->List HA}(hG:GL W)(O:∀W,GL W->Fn prog 250 [.string s] W (λv w'=>∃x,v=(oF x).v/\St No W w' (Q x)))(V:∀x w L,St No W w ((Q x++M)++L)->Fn prog 9 [pt sb,(oF x).v] w (λv w'=>∃y,v=r.v/\St No W w' (M' y++L)))(J:∀x W,Fn prog 157 [ii (oF x).k,r.v] W (λv w'=>∃A c,v=.slice A 1 c/\1<=c/\St No W w' [.row 9 1 A 1 c [.string an]]))(S:St No W w (.blk cb 170 [pt sb]::(M++T))) :
  Fn prog (81) [pt cb,.string s] w (λv w'=>∃A c y,v=.slice A 1 c/\St No W w' (.row 9 1 A 1 c [.string an]::.blk cb 170 [pt sb]::(M' y++T))):=by
 refine zI func81 ?_;refine zK (Vp (hG.gr S.out) O) ?_;rintro _ ac ⟨x,rfl,U⟩;have S:=S.app U;refine zN ?_;intro I ad aa S;refine d8 (i:=0) (cs:=(oF x).cs) S rfl (q4 _) rfl rfl rfl rfl rfl rfl ?_;intro w9 S;refine z ?_;refine z ?_;refine zf ?_;refine zc ?_;refine eX rfl ?_;refine zc ?_;refine gO ?_;try show CW _ _ _ _ _ _
 refine zc ?_;refine IP (C:=(uB No W (.blk I 46 (oF x).cs::.blk cb 170 [pt sb]::T) (λσ Qs=>match σ with|[]=>Qs=Q x++M|v::_=>∃y,v=r.v/\Qs=M' y))) [7] [0,1,2,3,4,5,6,7] [8,9] (by kernel_rfl) (by kernel_rfl) ⟨_,rfl,(S.perm_ (XF (T:=T))).gr (Gr.drew _)⟩ ?_;simp only[kz,iS,dK,dR];refine ot rfl (du eE rfl fa rfl rfl) ?_;refine qo rfl (λτ wq D=>cV dB rfl rfl ((uB.st D).blk (i:=0) rfl) rfl) ?_;refine ot rfl (jx rfl) ?_;refine ot rfl (jx rfl) ?_;refine ot rfl (du Fj rfl sizeOf27 rfl rfl) ?_;refine qo rfl (λτ wq D=>cV dk rfl rfl ((uB.st D).blk (i:=1) rfl) rfl) ?_;refine qo rfl (λτ wq D=>fx (cs:=(oF x).cs) eE rfl (q4 _) rfl ((uB.st D).blk (i:=0) rfl) rfl rfl) ?_;refine de rfl rfl (λwq D=>vh D rfl (λQs hQ S=>?_)) ?_
 ·cases hQ;exact(V x wq _ S).mono λv w'⟨y,hv,S'⟩=>⟨_,⟨y,hv,rfl⟩,S'⟩
 rintro v7 w7 ⟨_,⟨y7,rfl,_⟩,_⟩;refine zY ?_;rintro wz hz;obtain⟨_,⟨y,_,rfl⟩,S⟩:=hz;refine zK (J x _) ?_;rintro _ ae ⟨Z,c9,rfl,ab,U⟩;have S:=S.app U;refine zX ?_
 exact⟨Z,c9,y,rfl,by
  have S:=St.mid (A:=.row 9 1 Z 1 c9 [.string an]::M' y) (B:=[_,_]) (C:=T) S;exact(S.drop 1).pick 2 [1,0] rfl rfl rfl⟩
theorem WR{z:Nat}{y:Option Addr}{ln an:List ByteArray}{SP:Nat->List HA->Prop}(Z:dO y)(hG:GL W)(hn:n<=100)(h1:ln.length=n)(h2:an.length=n)(J:∀k s a M w T,ln[k]?=some s->an[k]?=some a->SP k M->St No W w (.blk cb 170 [pt sb]::(M++T)) ->
   Fn prog (81) [pt cb,.string s] w (λv w'=>∃A c M',v=.slice A 1 c/\SP (k+1) M'/\St No W w' (.row 9 1 A 1 c [.string a]::.blk cb 170 [pt sb]::(M'++T))))(h0:SP 0 M)(S:St No W w (.row 9 1 y n z (ln.map .string)::.blk cb 170 [pt sb]::M)) :
  Fn prog (38) [pt cb,.slice y n z] w (λv w'=>∃A c,v=.slice A n c/\St No W w' [.row 9 1 A n c (an.map .string)]):=by
 refine zI func38 ?_;refine zg ?_;have S:=S.pushNil 9 1
 refine dl (λm e w'=>∃(k:Nat)(D:Option Addr)(I:Nat)(M:List HA),k+m=n/\SP k M/\SL e [(0,pt cb),(5,.slice D k I),(8,.slice y n z),(9,ii n),(10,ii k)] /\
   St No W w' (.row 9 1 D k I ((an.take k).map .string)::.row 9 1 y n z (ln.map .string)::.blk cb 170 [pt sb]::M)) n
  ⟨0,none,0,M,om,h0,sl,S⟩ ?_
 clear S h0;rintro m e w2 ⟨k,D,I,M,hk,hP,U,S⟩;rw[U.fold];by_cases ag:k<n
 ·obtain⟨s,hs⟩:∃s,ln[k]?=some s:=⟨_,fw om⟩;obtain⟨a,ha⟩:∃a,an[k]?=some a:=⟨_,fw om⟩;have O:(ln.map Value.string)[(k:Int).toNat * 1]?=some (.string s):=by rw[cG,b7,da,hs];rfl
  have V:(an.take k).map Value.string++[.string a]=(an.take (k+1)).map Value.string:=by rw[kK,ha];simp
  refine zt ?_;refine zx ?_;refine dH (eI fk rfl rfl (S.rd (i:=1) rfl) O) ?_;refine zg ?_;have S:=St.mid (A:=[_,_]) (B:=_::M) (C:=[]) (by rw[fG];exact S);refine zK (J k s a M _ _ hs ha hP S) ?_;rintro _ ah ⟨ad,ae,M',rfl,L,S⟩;have S:=St.mid (A:=_::_::M') (B:=[_,_]) (C:=[]) S;have S:=S.pick 4 [2,0,1,3] rfl rfl rfl;refine ZP 1 0 S ?_;intro aa ab ai S ac;refine zg ?_;rw[V]at S;exact⟨m-1,om,k+1,_,_,M',om,L,sl,by simpa using S.drop 1⟩
 ·obtain rfl:k=n:=om;refine zg ?_;rw[fN om]at S;exact ir rfl ⟨_,_,rfl,S.sub (.cons_cons _ (rC _))⟩
theorem Vu:Fn prog 37 [] W (λv w'=>∃cb sb pp,v=pt cb/\St No W w' [.blk cb 170 [pt sb],.blk sb 73 [.pointer none,.pointer none,.pointer none,ii 0,pt pp],.blk pp 115 [.slice none 0 0,ii 0]]):=by
 have S:=St.start W;refine zI func37 ?_;refine zK (Gk) ?_;rintro _ I ⟨sb,pp,rfl,z⟩;have S:=S.app z;refine zN ?_;intro y J D S;refine zX ?_;exact⟨_,_,_,rfl,S⟩
def XJ(sb:Nat):Nat->List HA->Prop
 |0,M=>∃pp,M=[.blk sb 73 [.pointer none,.pointer none,.pointer none,.int .i64 0,.pointer (some ⟨pp,0,none⟩)],.blk pp 115 [.slice none 0 0,.int .i64 0]]
 |1,M=>∃(s:lT)(Q:List HA),(s.ok/\s.sb=sb/\s.gw=2/\s.gh=1/\s.ov=none/\s.l=[]/\s.stamp=0)/\M=s.L++Q
 |2,M=>∃(s:lT)(Q:List HA),(s.ok/\s.sb=sb/\s.gw=2/\s.gh=1/\s.ov=none/\s.V=[5,7])/\M=s.L++Q
 |_,_=>True
def Ys:List ByteArray:=[⟨#[99,114,101,97,116,101,32,50,32,49]⟩,⟨#[112,97,115,116,101,32,48,32,48,32,49,32,48,32,53,44,55]⟩,⟨#[115,117,109,32,48,32,48,32,49,32,48]⟩]
def Yt:List ByteArray:=[⟨#[111,107]⟩,⟨#[111,107]⟩,⟨#[111,107,32,49,50]⟩]
theorem Vv{s a:ByteArray}(U:GL W)(z:Ys[k]?=some s)(I:Yt[k]?=some a)(hP:XJ sb k M)(S:St No W w (.blk cb 170 [pt sb]::(M++T))) :
  Fn prog (81) [pt cb,.string s] w (λv w'=>∃A c M',v=.slice A 1 c/\XJ sb (k+1) M'/\St No W w' (.row 9 1 A 1 c [.string a]::.blk cb 170 [pt sb]::(M'++T))):=by
 match k,z,I,hP with
 |0,z,I,⟨pp,hM⟩ =>
  cases z
  cases I
  subst hM;refine(OX (α:=Unit) (β:={ s:lT//s.ok/\s.sb=sb/\s.gw=2/\s.gh=1/\s.ov=none/\s.l=[]/\s.stamp=0 }) (M':=λy=>y.1.L++[.blk pp 115 [.slice none 0 0,ii 0]]) (r:={ code:=0 }) U (λW h=>XG h) (λx w L S=>?_) (λx W=>G7 (k:=1) (.inl rfl)) S).mono λv w'⟨A,c,y,hv,S⟩=>⟨A,c,_,hv,⟨y.1,_,y.2,rfl⟩,S⟩;exact(Eq (gw:=2) (gh:=1) rfl (by decide) (by decide) rfl rfl S).mono λv w'⟨s',hv,⟨h1,h2,h3,h4,h5,_,h6,_,h7⟩,S'⟩=>⟨⟨s',h1,h2,h3,h4,h5,h6,h7⟩,hv,S'.csa⟩
 |1,z,I,⟨s1,Q1,⟨h1,h2,h3,h4,h5,h6,h7⟩,hM⟩ =>
  cases z
  cases I
  subst hM;refine(OX (α:=Option Addr×Nat) (β:={ y:(Option Addr×Nat)×lT//y.2.ok/\y.2.sb=sb/\y.2.gw=2/\y.2.gh=1/\y.2.ov=none/\y.2.V=[5,7] }) (M':=λy=>y.1.2.L++(.row 2 1 y.1.1.1 2 y.1.1.2 (cY [5,7])::Q1)) (r:={ code:=0 }) U (λW h=>XH h) (λx w L S=>?_) (λx W=>G7 (k:=4) (.inr rfl)) S).mono λv w'⟨A,c,y,hv,S⟩=>⟨A,c,_,hv,⟨y.1.2,_,y.2,rfl⟩,S⟩;have O:=(St.mid (A:=[_]) (B:=s1.L) (C:=Q1++L) (by rw[<-cL s1.L];exact S)).csa;refine(Ay (s:=s1) (o:=⟨4,0,0,1,0,0,0,0,0,0,0,⟨x.1,2,x.2⟩,.nil,.nil⟩) (M:=[.row 2 1 x.1 2 x.2 (cY [5,7])]) (x0:=0) (y0:=0) (x1:=1) (y1:=0) (V:=[5,7]) h2 (wO (k:=4) (by decide) (by decide)) h1 om (by rw[h6];decide) om om (by simp) (by simp[iL]) (ST rfl ⟨rfl,rfl,rfl,rfl⟩ (gW om om om om) rfl (λw _ hk=>gH.rd (show gH w 2 1 x.1 2 x.2 (cY [5,7])from hk (.row 2 1 x.1 2 x.2 (cY [5,7])) (by simp)))) O).mono λv w'⟨D,hv,⟨hok2,hp2⟩,S'⟩=>⟨⟨(x,D),hok2,hp2.sb.trans h2,hp2.gw.trans h3,hp2.gh.trans h4,hp2.ov.trans h5,?_⟩,hv,?_⟩
  ·rw[hp2.V,h3,h4];rfl
  ·have Z:=S'.asc;show St No W w' ((D.L++_::Q1)++L);rw[cL];exact Z
 |2,z,I,⟨D,Q2,⟨h1,h2,h3,h4,h5,h6⟩,hM⟩ =>
  cases z
  cases I
  subst hM;have J:uv D.V D.gw 0 0 1 0=12:=by rw[h6,h3];rfl
  refine(OX (α:=Unit) (β:=Unit) (M':=λy=>D.L++Q2) (r:={ code:=0,n:=12 }) U (λW h=>XI h) (λx w L S=>?_) (λx W=>OW) S).mono λv w'⟨A,c,y,hv,S⟩=>⟨A,c,_,hv,trivial,S⟩;have O:St No W w ((D.L++[])++(Q2++L)):=by rw[fG,<-cL];exact S
  refine(tj (s:=D) (M:=[]) h2 true (rV (by decide) (by decide)) (PG (x0:=0) (y0:=0) (x1:=1) (y1:=0) h1 om om (λw tl S=>.inl h5) ⟨rfl,rfl,rfl,rfl,rfl⟩) O).mono λv w'⟨_,hv,S'⟩=>⟨(),by rw[hv];show gZ.v _=_;rw[J],?_⟩;rw[fG,<-cL]at S';exact S'
 |k+3,z,_,_=>cases z
theorem OY(I:GL W):Fn Tryz.prog 28 [] W (dp (.bool true) W):=by
  have S:=St.start W;refine Dc Tryz.func28 rfl Tryz.results28 Tryz.ntmps28 (by kernel_rfl) (by kernel_rfl) ?_;repeat refine dm ?_
  refine dz ?_;refine dU (jx rfl) ?_;first|refine eF ?_|(refine di ?_;show CW _ _ _ _ _ _)|refine di ?_
  repeat refine dm ?_
  refine dz ?_;refine eY rfl (Vu) ?_;rintro _ aa ⟨cb,sb,pp,rfl,L⟩;have S:=S.app L;refine yb S ?_;intro D ab U S z;refine eY rfl (WR (SP:=XJ sb) (ln:=Ys) (an:=Yt) z I (by decide) rfl rfl (λk s a M w T hs Z V S=>Vv I hs Z V S) ⟨pp,rfl⟩ S) ?_;rintro _ ac ⟨J,O,rfl,S⟩;refine dU (jx rfl) ?_;first|refine eF ?_|(refine di ?_;show CW _ _ _ _ _ _)|refine di ?_
  have y:=(S.row (i:=0) rfl).someA (by decide);repeat refine dm ?_
  refine dz ?_;refine dU (jx rfl) ?_;refine dU (p6 lD rfl) ?_;refine dU (ff (b:=true) rfl (fX.2 om)) ?_;refine dU (jx rfl) ?_;first|refine eD rfl ?_|(refine dr rfl ?_;refine dU (jx rfl) ?_)
  first|refine eD rfl ?_|(refine dr rfl ?_;refine dU (sj lD ld rfl rfl y om om) ?_)
  first|refine eD rfl ?_|(refine dr rfl ?_;refine dH (eI jC rfl rfl (S.rd (i:=0) rfl) (v:=.string ⟨#[111,107]⟩) rfl) ?_)
  refine dr rfl ?_;refine dU (yu (B:=true) rfl rfl (by simp)) ?_;iterate 2 refine dU (jx rfl) ?_
  first|refine eD rfl ?_|(refine dr rfl ?_;refine dU (jx rfl) ?_)
  first|refine eD rfl ?_|(refine dr rfl ?_;refine dU (sj lD ld rfl rfl y om om) ?_)
  first|refine eD rfl ?_|(refine dr rfl ?_;refine dH (eI jC rfl rfl (S.rd (i:=0) rfl) (v:=.string ⟨#[111,107]⟩) rfl) ?_)
  refine dr rfl ?_;refine dU (yu (B:=true) rfl rfl (by simp)) ?_;iterate 2 refine dU (jx rfl) ?_
  first|refine eD rfl ?_|(refine dr rfl ?_;refine dU (jx rfl) ?_)
  first|refine eD rfl ?_|(refine dr rfl ?_;refine dU (sj lD ld rfl rfl y om om) ?_)
  first|refine eD rfl ?_|(refine dr rfl ?_;refine dH (eI jC rfl rfl (S.rd (i:=0) rfl) (v:=.string ⟨#[111,107,32,49,50]⟩) rfl) ?_)
  refine dr rfl ?_;refine dU (yu (B:=true) rfl rfl (by simp)) ?_;iterate 2 refine dU (jx rfl) ?_
  first|refine eF ?_|(refine di ?_;show CW _ _ _ _ _ _)|refine di ?_
  repeat refine dm ?_
  refine mJ ?_;repeat first|refine mL ?_|refine oq ?_
  exact ir rfl ⟨rfl,S.out⟩
theorem OZ(y:GL W):Fn prog 18 [] W (dp (.bool true) W):=by
 have S:=St.start W;refine zI func18 ?_;refine zC (OY (y.gr S.out)) ?_;intro z v S;exact zZ
theorem O0:Fn prog 17 [] W (dp (.bool true) W):=by
 have S:=St.start W;refine zI func17 ?_;refine zC (OU) ?_;intro y v S;exact zZ
theorem SX(D:GL W):Fn prog 5 [] W (dp (.bool true) W):=by
 have S:=St.start W;refine zI func5 ?_;refine zC (O0) ?_;intro I y S;refine z ?_;refine dr rfl ?_;refine eY rfl (OZ (D.gr S.out)) ?_;rintro _ J ⟨rfl,v⟩;have S:=S.gr v;exact zZ
end Go.Proofs.YtcalhocphkbbgaaGreatDoor
