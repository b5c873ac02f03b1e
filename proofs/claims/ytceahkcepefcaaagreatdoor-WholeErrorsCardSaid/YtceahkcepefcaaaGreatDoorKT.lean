/- A part of the proof that hachuretop.WholeErrors returns true at every input; no condition. -/
import Derived.Test.YtceahkcepefcaaaGreatDoorKR
import Derived.Test.YtceahkcepefcaaaGreatDoorKP
import Derived.Test.YtceahkcepefcaaaGreatDoorKS
set_option maxRecDepth 100000
set_option maxHeartbeats 16000000
set_option linter.unusedVariables false
set_option linter.unusedSimpArgs false
namespace Go.Proofs.YtceahkcepefcaaaGreatDoor
open Go.Proofs.Tryz Go.RowKit
variable{Q:(Nat->Value)->World->Prop}{af:Array Edge}{ops:Array Oper}{rs:Array ResultVar}{f:FuncId}{h h':HA}{Y a e0:Int}{kc kn:IntKind}{es:List (Int × Int)}{σ:List (Nat × Value)}{M T:List HA}{V' V2:List Int}{hd ks:List Nat}{l l2 xs ys:List Value}{N b bytes c c1 c2 cB el g gh gw i i2 j k k1 k2 kind m n p p2 q tb x0 x1 y0 y1:Nat}{c' c0 cc:Nat->Int}{bs:Nat->Nat}{R':Nat->Nat->Bool}{Rs Rs2:Nat->Option Nat}{F X:Nat->Prop}{e:Nat->Value}{op:Op}{o:m5}{hi x:Operand}{A A1 A2 B B2 gp:Option Addr}{d:Option Tmp}{P:Program}{r:Rc}{s:lT}{t t' ty:TypeId}{u v1 v2 v3:Value}{R2:Value->Prop}{R:Value->World->Prop}{W W' w w' wq:World}{C:World->Prop}
theorem Rx{ps:String}{s:Operand}{t:Nat}{z:Value}(J:P.underlying t=some (.slice el))(y:(P.info? el).map (λi=>(i.zero,i.size,i.bytes))=some (some z,k,bytes))(I:ev e s=.slice A n c)(D:n<=c)(L:ev e x=.slice B 0 c2):gd P e ⟨d,.call ⟨.builtin .append,#[s,x],#[t,t]⟩,ty,ps,af,none⟩ w (.slice A n c):=by
 obtain⟨V,v,O,S,U⟩:=nG y;cases A<;>cases B<;>simp[gd,execOp,resolve,invoke,builtin,I,L,Builtin.append_,dS J,sizeOf,typeInfo,v,Builtin.lenOf,Builtin.firstCells,loadCells,loadCellsFrom,D,storeCells]
section
variable{l m:List Int}
theorem NZ(z:m.length=N)(v:Rd W A (f9 l))(y:Rd W B (f9 m)):Fn prog 202 [.slice A l.length c,.slice B N cB] W (dp (.bool (Ua l m)) W):=by
 subst z;exact Ie v y
theorem N0(D:dO A):Fn prog 205 [.slice A 0 c] W (jc id 5 1 0 (f9 []) W):=by
 obtain⟨J,L,rfl⟩:=D;have S:=St.start W;refine zI func205 ?_;refine zg ?_;refine cq (xF (B:=false) q8 rfl rfl) ?_;refine zg ?_;refine mv q8 gJ S ?_;intro y I z S v;refine zg ?_;refine dH (Rx q8 nN rfl (cN _) rfl) ?_;refine zX ?_;exact(S.retNew (i:=0) rfl)
theorem N1(v:dO A)(z:l.length<=1099511627776)(y:Rd W A (f9 l)):Fn prog 205 [.slice A l.length c] W (jc id 5 1 l.length (f9 l) W):=by
 rcases iZ l.length with h|h
 ·obtain rfl:=gj h;exact N0 v
 ·exact AF h z y
def Ui(l:List Int)(W:World)(v:Value)(w':World):Prop:=∃(B:Option Addr)(nB cB:Nat)(e:Int)(Q:List HA),v=.tuple #[.slice B nB cB,ii e]/\St No W w' Q/\(e=0->nB=(l.take (l.length-4)).length/\Q=[.row 5 1 B nB cB (f9 (l.take (l.length-4)))])
theorem Uj(hT:jX W)(hc:l.length<=c)(hm:l.length<=1073741824)(v:Rd W A (f9 l)):Fn prog 134 [.slice A l.length c] W (Ui l W):=by
 rcases cr (l.length<4)with h4|h4
 ·skip;have S:=St.start W;refine zI func134 ?_;refine zX ?_;exact⟨_,_,_,14,[],rfl,S,λh=>absurd h (by decide)⟩
 ·have V:dO A:=v.someA (by rw[m4];omega);have y:Rd W A (f9 (l.take (l.length-4))):=by rw[<-tK];exact v.tk _
  have ah:(l.take (l.length-4)).length=l.length-4:=by rw[d7];omega
  have ag:=v.off8 (m:=l.length-4) om hc;have ai:l.length-(l.length-4)=(l.drop (l.length-4)).length:=by rw[i8]
  have e4:((l.length:Nat):Int)-4=((l.length-4:Nat):Int):=om;have I:=λw v=>N1 (W:=w) (A:=A) (c:=c) (l:=l.take (l.length-4)) V om v;have U:=λw hT v=>H8 (W:=w) (A:=A) (c:=c) (l:=l.take (l.length-4)) hT om v;have J:=λw B cB m h4 v hB=>NZ (N:=4) (W:=w) (A:=uA A ((l.length-4)*1) (c-(l.length-4))) (B:=B) (c:=c-(l.length-4)) (cB:=cB) (l:=l.drop (l.length-4)) (m:=m) h4 v hB;unfold Ui;rw[ah]at I U ⊢;generalize l.take (l.length-4)=l1 at *;generalize hd:l.drop (l.length-4)=l2 at *;generalize ae:uA A ((l.length-4)*1) (c-(l.length-4))=A2 at *;generalize ap:l.length-4=N at *;have S:=St.start W;refine zI func134 ?_;refine zD [0,1,2,3,4,5,6,7,8,9,10,11] [] ?_;rw[e4];refine eO (jb (n:=(N:Int)) q8 gJ rfl rfl om om) ?_;rw[b7];refine zQ ?_;rw[e4];refine eO (Jq q8 gJ rfl rfl om hc) ?_;rw[ae,ai];refine zE ?_;intro aq an S;refine zK (U _ (hT.gr S.out) (y.gr S.out)) ?_;rintro _ ar ⟨sm,ak,rfl,ab⟩;have S:=S.gr ab;refine zK (Gd sm ak) ?_;rintro _ au ⟨lt,aj,Z,aa,rfl,D,O,ac⟩;have S:=S.pushRow D O ac;refine zC (J _ Z aa lt aj (ag.gr S.out) (S.rd (i:=0) rfl)) ?_;intro av ao S;refine zg ?_;cases hq:Ua l2 lt
  ·rw[hq]at *;refine zX ?_;exact⟨_,_,_,10,_,rfl,S,λh=>absurd h (by decide)⟩
  ·skip;refine zK (I _ (y.gr S.out)) ?_;rintro _ aw ⟨al,am,rfl,z,L,ad⟩;have S:=S.pushRow z L ad;refine zX ?_;exact⟨_,_,_,0,_,rfl,S.sub (.cons_cons _ (.cons _ .slnil)),λ_=>⟨rfl,rfl⟩⟩
theorem Ap:∀{es:List (Int×Int)},(∀x∈es,(1:Int)<=x.2)->0<=(es.map Prod.snd).sum
 |[],_=>by simp
 |x::r,h=>by
  have h1:=h x (by simp)
  have h2:=Ap (es:=r) λy v=>h y (cW _ v);rw[iJ,tQ];omega
theorem Lp(h:ES a es):∀x∈es,(1:Int)<=x.2:=λx v=>by
 obtain⟨i,hi,rfl⟩:=gK.1 v;exact(h i _ (ct hi)).2.1
theorem PT(h:ES a es){x:Int×Int}(z:es[k]?=some x):a<=x.1/\x.1+x.2<=a+(es.map Prod.snd).sum:=by
 obtain⟨h1,h2,J⟩:=h k x z
 have L:(es.map Prod.snd).sum=((es.take k).map Prod.snd).sum+(x.2+((es.drop (k+1)).map Prod.snd).sum):=by
  have e:es=es.take k++x::es.drop (k+1):=by
   obtain⟨I,rfl⟩:=dq.1 z;rw[<-dX I,lV]
  have D:=congrArg (λl=>(l.map Prod.snd).sum) e;simpa using D
 have O:=Ap (es:=es.take k) λy v=>Lp h y (jj v);have p2:=Ap (es:=es.drop (k+1)) λy v=>Lp h y (List.mem_of_mem_drop v);omega
theorem Ry(h:ES a es){x:Int×Int}(I:es.length=k+1)(y:es[k]?=some x):x.1+x.2=a+(es.map Prod.snd).sum:=by
 obtain⟨h1,h2,D⟩:=h k x y
 have e:es=es.take k++[x]:=by
  obtain⟨v,rfl⟩:=dq.1 y;have:=lV k es;rw[dX v,nw om]at this;exact this.symm
 have z:=congrArg (λl=>(l.map Prod.snd).sum) e;simp only[fq,List.sum_append,iJ,List.map_nil,tQ,List.sum_nil]at z;omega
theorem Lr(h:ES a es):(es.map Prod.snd).sum<=es.length*1048576:=by
 have v:∀{es:List (Int×Int)},(∀x∈es,x.2<=(1048576:Int))->(es.map Prod.snd).sum<=es.length*1048576:=by
  intro es;induction es with
  |nil=>intro _;simp
  |cons x r ih =>
   intro h;have h1:=h x (by simp);have h2:=ih λy D=>h y (cW _ D);rw[iJ,tQ,fc];push_cast;omega
 exact v λx z=>by
  obtain⟨i,hi,rfl⟩:=gK.1 z;exact(h i _ (ct hi)).2.2
def Gw(mk:Value->Int->Value)(W:World)(v:Value)(w':World):Prop:=∃(gp:Option Addr)(e:Int)(Q:List HA),v=mk (.pointer gp) e/\St No W w' Q /\
 (e=10\/e=0/\∃(p gw gh cap:Nat)(cc:Nat->Int)(A:Option Addr)(bs:Nat->Nat)(Rs:Nat->Option Nat),gp=some ⟨p,0,none⟩/\vB (dw gw gh cc)/\Q=[.grid p gw gh cc A cap bs Rs])
theorem Uk(hT:jX W)(hc:l.length<=c)(hm:l.length<=1073741824)(hA:Rd W A (f9 l)):Fn prog 65 [.slice A l.length c] W (λv w'=>∃(kA:Option Addr)(kn kc:Nat),Gw (λg e=>.tuple #[g,.slice kA kn kc,ii e]) W v w'):=by
 have Z:∀{w:World}{L:List HA},St No W w L->(∃(kA:Option Addr)(kn kc:Nat),Gw (λg e=>.tuple #[g,.slice kA kn kc,ii e]) W (.tuple #[.pointer none,.slice none 0 0,ii 10]) w):=λS=>⟨none,0,0,none,10,_,rfl,S,.inl rfl⟩;have S:=St.start W;refine zI func65 ?_;refine zK (Uj hT hc hm (hA.gr S.out)) ?_;rintro _ bV ⟨B,nB,cB,e1,Q1,rfl,S2,aS⟩;have S:=S.app S2;iterate 5 refine z ?_
 refine ze ?_;rcases cr (e1=0)with aj|aj
 ·obtain⟨aY,rfl⟩:=aS aj;subst aj;have bN:(l.take (l.length-4)).length<=1073741824:=by rw[d7];omega
  generalize l.take (l.length-4)=l1 at *;subst aY;refine zK (Wm (S.row (i:=0) rfl).cap om (S.rd (i:=0) rfl)) ?_;rintro _ bW ⟨X,Y,B2,bS,ap,e2,Q2,rfl,S2,aT⟩;have S:=S.app S2;iterate 9 refine z ?_
  refine ze ?_;rcases cr (e2=0)with ak|ak
  ·obtain⟨gw,gh,es,rfl,rfl,hw,hh,rfl,aA,J,rfl⟩:=aT ak;subst ak;have bO:1*1<=cU gw*cU gh:=cE (kQ hw.1) (kQ hh.1);have bP:cU gw*cU gh<=64*64:=cE (jS hw.2) (jS hh.2);have ah:cU gh*cU gw=cU gw*cU gh:=cD _ _;obtain⟨N,hN⟩:∃N,cU gw*cU gh=N+1:=⟨cU gw*cU gh-1,om⟩;have aQ:N<es.length:=om;obtain⟨⟨x,n⟩,hx⟩:∃y,es[N]?=some y:=⟨es[N],ct aQ⟩;have an:=Ry J om hx;have be:=mS hx;have eN:((cU gw*cU gh:Nat):Int)-1=(N:Nat):=om;have aI:((eT es).drop ((N:Int).toNat * 2)).take 2=[ii x,ii n]:=by rw[b7];exact be
   have bn:dO B2:=(S.row (i:=0) rfl).someA om;have bg:=J N _ hx;dsimp only at an bg;have aF:=Lr J;have av:=λk y=>PT (k:=k) (x:=y) J;generalize (es.map Prod.snd).sum=bU at *;have bR:0<=x:=by have:=(av N _ hx).1;dsimp only at this;omega
   rcases cr (x+n=(l1.length:Nat))with bf|bf
   ·skip;refine yA ?_;rw[eN];refine ZU (S.rd (i:=0) rfl) aI ?_;refine zN ?_;intro aa bX bL S;refine Z1 0 S ?_;intro bY S;iterate 4 refine z ?_
    refine cq (fh rfl (by rw[aA]at aF;omega)) ?_;refine zK (IZ gw gh 0 hw hh (by decide) _) ?_;rintro _ bZ ⟨p,U,cap,bs,Rs,rfl,au,aB,aL⟩;have S:=S.pushGrid au aB aL;refine zK (xN (S.grid (i:=0) rfl)) ?_;rintro _ ca ⟨I,ab,rfl,ag,am,aM⟩;have S:=S.pushRow ag am aM;refine zg ?_;have S:=S.pushNil 3 1;rw[ah]at S ⊢;have az:=(S.row (i:=5) rfl).cap
    refine dl (λm e w=>∃(k:Nat)(cc:Nat->Int)(Rs:Nat->Option Nat)(ad:Option Addr)(ae:Nat)(ks:List Value),k+m=cU gw*cU gh/\vB (dw gw gh cc) /\
      SL e [(0,.slice B l1.length cB),(8,.slice B2 (cU gw*cU gh) ap),(10,pt p),(12,.slice ad k ae),(58,.slice I (cU gw*cU gh) ab),(59,ii (cU gw*cU gh:Nat)),(60,ii k)] /\
      St No W w [.row 3 1 ad k ae ks,.row 24 4 I (cU gw*cU gh) ab (FZ gw gh),.grid p gw gh cc U cap bs Rs,.blk aa 102 [ii x,ii n],.row 102 2 B2 (cU gw*cU gh) ap (eT es),.row 5 1 B l1.length cB (f9 l1)]) (cU gw*cU gh)
     ⟨0,_,Rs,none,0,[],om,u9 (λv hv=>by unfold dw at hv;obtain⟨_,_,rfl⟩:=fC.1 hv;rfl),sl,S⟩ ?_
    clear S;rintro m e w ⟨k,cc,Rs,ad,ae,ks,hk,aH,bb,S⟩;rw[bb.fold];rcases cr (k<cU gw*cU gh)with aE|aE
    ·have aD:k<cU gh*cU gw:=om;have O:=F0 (gh:=gh) hw.1 aD;have aw:=Jj (gh:=gh) hw.1 aD;have bl:=mA (dt k (kQ hw.1));have bm:=mA (show k/cU gw<cU gh from cS aE);have aC:=λw=>Lf (W:=w) (uI gw k) (vL gw k) (z8 gw k) (Aa gw gh k) ⟨O.1.1,om⟩ ⟨O.2.1,om⟩;rw[O.1.2.2,O.2.2.2]at aC
     have aZ:=λW B cp(V:List Int)Rs(hV:V.length=fQ gw (k%cU gw)*fQ gh (k/cU gw))hm hG hR ha hl=>show Fn prog 139 [_,_,.slice B (fQ gw (k%cU gw)*fQ gh (k/cU gw)) cp] W _ from by
      have h:=Dz (W:=W) (B:=B) (V:=V) (p:=p) (gw:=gw) (gh:=gh) (c:=cc) (A:=U) (cap:=cap) (bs:=bs) (Rs:=Rs) (x0:=uI gw k) (x1:=z8 gw k) (y0:=vL gw k) (y1:=Aa gw gh k) cp ⟨O.1.1,O.1.2.1⟩ ⟨O.2.1,O.2.2.1⟩ (by rw[O.1.2.2,O.2.2.2,hV,cD]) hm hG hR ha hl;rw[hV]at h;exact h
     have ba:=λ(V:List Int)(h:vB V)=>yw (gh:=gh) (x0:=uI gw k) (y0:=vL gw k) (x1:=z8 gw k) (y1:=Aa gw gh k) h aH;generalize fQ gw (k%cU gw)=tw at *;generalize fQ gh (k/cU gw)=th at *;have aX:k<es.length:=om;obtain⟨⟨xi,ni⟩,hy⟩:∃y,es[k]?=some y:=⟨es[k],ct aX⟩;have bj:=av k _ hy;have bk:=J k _ hy;have bi:=mS hy;have bh:((eT es).drop ((k:Int).toNat * 2)).take 2=[ii xi,ii ni]:=by rw[b7];exact bi
     dsimp only at bj bk;obtain⟨D,rfl⟩:=cJ (show 0<=xi by omega);obtain⟨qi,rfl⟩:=cJ (show 0<=ni by omega);have ar:(D:Int)+(qi:Nat)=((D+qi:Nat):Int):=om;have bQ:D+qi<=l1.length:=om;have aV:∀w,Rd w B (f9 l1)->Rd w (uA B (D*1) (cB-D)) (f9 ((l1.drop D).take qi)):=λw h=>by rw[<-tK];exact(h.off8 om az).tk qi
     have ai:((l1.drop D).take qi).length=qi:=by rw[d7,i8];omega
     have aG:=λw' hR=>NT (W:=w') (A:=uA B (D*1) (cB-D)) (c:=cB-D) (w:=tw) (h:=th) (l:=(l1.drop D).take qi) bl bm (by rw[ai];omega) (by rw[ai];omega) hR;rw[ai]at aG;have aJ:dO B2:=(S.row (i:=4) rfl).someA om;have bp:dO I:=(S.row (i:=1) rfl).someA om;generalize aN:uA B (D*1) (cB-D)=A3 at *
     have bc:=λw' hR=>(aG w' hR).mono (R':=PN (tw*th) vM w') λv w' hr=>by
      rcases hr with⟨e,he,hv,g⟩|⟨R,B,cB,nx,hR,hV,hv,S⟩
      ·exact⟨_,_,_,_,_,[],hv,(St.start _).gr g,λh=>absurd h he⟩
      ·exact⟨_,_,_,_,_,_,hv,S,λ_=>⟨rfl,R,hR,hV,rfl⟩⟩
     refine zg ?_;refine ZU (S.rd (i:=1) rfl) aw ?_;refine zN ?_;intro br ce bM S;refine zS ?_;intro bB S;refine ZU (S.rd (i:=5) rfl) bh ?_;refine zN ?_;intro bt bC bu S;refine zS ?_;intro bD S;refine zC (aC _) ?_;intro bE bv S;iterate 12 refine z ?_
     refine cq (fh rfl (by rw[ar];omega)) ?_;rw[ar];refine cq (Gb q8 gJ rfl rfl rfl om om) ?_;rw[aN,iw];refine zK (bc _ (aV _ (S.rd (i:=7) rfl))) ?_;rintro _ bF ⟨B5,bT,aK,kd,e5,Q5,rfl,S2,aU⟩;have S:=S.app S2;iterate 7 refine z ?_
     refine ze ?_;rcases cr (e5=0)with al|al
     ·obtain⟨rfl,V,hV,aW,rfl⟩:=aU al;subst al
      have ac:∀v∈V,iL v=true:=λv hv=>by
       have:=aW v hv;unfold iL;simpa using this
      refine zK (aZ _ B5 aK V Rs hV ac (S.grid (i:=5) rfl) (S.rd (i:=0) rfl) (λg h2 h3=>S.sep.ap (i:=0) (j:=5) rfl rfl rfl g h2 h3) (λg h=>(S.row (i:=0) rfl).lt h)) ?_;rintro _ bG ⟨rfl,Rs2,aP,aO,aR⟩;have S:=S.set (i:=5) (h':=.grid p gw gh (im gw V (uI gw k) (vL gw k) (z8 gw k) (Aa gw gh k) cc) U cap bs Rs2) rfl rfl aO (λg h=>.inl h) aP aR;refine zg ?_;refine yb S ?_;intro bq bH bw S bo;refine ZP 4 0 S ?_;intro ao aq bI S bA;refine zg ?_;exact⟨m-1,om,k+1,_,Rs2,ao,aq,_,om,ba V (u9 ac),sl,S.drop 4⟩
     ·skip;repeat refine dm ?_
      refine dz ?_;refine cq (cH rfl) ?_;refine cq (ff (b:=true) rfl (f5.2 om)) ?_;first|refine eF ?_|(refine di ?_;show CW _ _ _ _ _ _)|refine di ?_
      repeat refine dm ?_
      refine jr rfl ?_;repeat refine dm ?_
      refine dz ?_;iterate 3 refine cq (cH rfl) ?_
      first|refine eF ?_|(refine di ?_;show CW _ _ _ _ _ _)|refine di ?_
      repeat refine dm ?_
      refine mJ ?_;repeat first|refine mL ?_|refine oq ?_
      exact tE rfl rfl rfl (Z S)
    ·obtain rfl:k=cU gw*cU gh:=om;refine zX ?_;exact⟨_,_,_,_,0,_,rfl,S.sub (.cons _ (.cons _ (.cons_cons _ (.cons _ (.cons _ (.cons _ .slnil)))))),.inr ⟨rfl,p,gw,gh,cap,cc,U,bs,Rs,rfl,aH,rfl⟩⟩
   ·skip;refine zg ?_;rw[eN];refine zg ?_;refine ZU (S.rd (i:=0) rfl) aI ?_;refine zN ?_;intro aa bJ bz S;refine Z1 0 S ?_;intro bK S;iterate 4 refine z ?_
    refine cq (fh rfl (by rw[aA]at aF;omega)) ?_;refine zX ?_;exact(Z S)
  ·skip;repeat refine dm ?_
   refine dz ?_;refine cq (cH rfl) ?_;refine cq (ff (b:=true) rfl (f5.2 om)) ?_;first|refine eF ?_|(refine di ?_;show CW _ _ _ _ _ _)|refine di ?_
   repeat refine dm ?_
   refine jr rfl ?_;repeat refine dm ?_
   refine dz ?_;iterate 3 refine cq (cH rfl) ?_
   first|refine eF ?_|(refine di ?_;show CW _ _ _ _ _ _)|refine di ?_
   repeat refine dm ?_
   refine mJ ?_;repeat first|refine mL ?_|refine oq ?_
   exact tE rfl rfl rfl (Z S)
 ·skip;repeat refine dm ?_
  refine dz ?_;refine cq (cH rfl) ?_;refine cq (ff (b:=true) rfl (f5.2 om)) ?_;first|refine eF ?_|(refine di ?_;show CW _ _ _ _ _ _)|refine di ?_
  repeat refine dm ?_
  refine jr rfl ?_;repeat refine dm ?_
  refine dz ?_;iterate 3 refine cq (cH rfl) ?_
  first|refine eF ?_|(refine di ?_;show CW _ _ _ _ _ _)|refine di ?_
  repeat refine dm ?_
  refine mJ ?_;repeat first|refine mL ?_|refine oq ?_
  exact tE rfl rfl rfl (Z S)
end
section
variable{ps:String}{y:Operand}{k:IntKind}{b c:Int}
theorem wQ(I:ev e x=.int k a)(J:ev e y=.int k b)(v:0<=a)(L:0<b):iE P e ⟨d,.binOp .rem t x y t',ty,ps,af,none⟩ (.int k (a%b)):=by
 intro w;have z:b≠0:=om;have D:a.tmod b=a%b:=mc v;simp[gd,execOp,I,J,eqGuard,binOp,Op.intDiv,z,D]
theorem wR(J:ev e x=.int k a)(L:ev e y=.int k b)(v:0<=a)(O:0<b)(I:k.wrap (a/b)=c):iE P e ⟨d,.binOp .quo t x y t',ty,ps,af,none⟩ (.int k c):=by
 intro w;have z:b≠0:=om;have D:a.tdiv b=a/b:=py v;subst I;simp[gd,execOp,J,L,eqGuard,binOp,Op.intDiv,z,D]
theorem wS(z:ev e x=.int k a)(D:ev e y=.int k b)(v:k.wrap (a*b)=c):iE P e ⟨d,.binOp .mul t x y t',ty,ps,af,none⟩ (.int k c):=by
 intro w;subst v;simp[gd,execOp,z,D,eqGuard,binOp,Op.intArith]
end
theorem CK(n:Int)(h:0<=n/\n<4294967296):IntKind.u32.wrap n=n:=by rw[j3];omega
def Ul(s:Int):Int:=if s%2=1 then bits .xor .u32 (s/2) 2197175160 else s/2
def Lt(s:Int):Nat->Int
 |0=>s
 |j+1=>Ul (Lt s j)
def Lu(l:List Int)(s:Int):Nat->Int
 |0=>s
 |i+1=>Lt (bits .xor .u32 (Lu l s i) (IntKind.u32.wrap (l.getD i 0))) 8
def DO(s:Int):Prop:=0<=s/\s<4294967296
theorem Um(op:BinOp)(a b:Int):DO (bits op .u32 a b):=DB (k:=.u32) rfl op a b
theorem Un{s:Int}(h:DO s):DO (Ul s):=by
 unfold Ul;split
 ·exact Um _ _ _
 ·unfold DO at*;omega
theorem Gx{s:Int}(h:DO s):∀j,DO (Lt s j)
 |0=>h
 |j+1=>Un (Gx h j)
theorem Uo{l:List Int}{s:Int}(h:DO s):∀i,DO (Lu l s i)
 |0=>h
 |i+1=>Gx (Um _ _ _) 8
def Lv(l:List Int):Int:=bits .xor .u32 (Lu l (bits .xor .u32 0 4294967295) l.length) 4294967295
theorem AL{l:List Int}(h:i<l.length):(f9 l)[(i:Int).toNat * 1]?=some (.int .u8 (l.getD i 0)):=by
 rw[Cx h,cO,ct h];rfl
theorem uB.gr{L:List HA}{T:List Value->List HA->Prop}{σ:List Value}(g:Gr w w')(h:uB F W L T σ w):uB F W L T σ w':=by
 obtain⟨Q,v,S⟩:=h;exact⟨Q,v,S.gr g⟩
section
variable{l:List Int}
theorem Up(hm:l.length<=1099511627776)(hA:Rd W A (f9 l)):Fn prog 156 [.int .u32 0,.slice A l.length c] W (dp (.int .u32 (Lv l)) W):=by
 unfold Lv;obtain⟨I,z⟩:∃s,s=bits .xor .u32 0 4294967295:=⟨_,rfl⟩;have ab:DO I:=z▸Um .xor 0 4294967295;rw[<-z];have ad:=λi=>Uo (l:=l) ab i;have S:=St.start W;refine zI func156 ?_;refine zg ?_;refine cq (gR (op:=.xor) rfl rfl rfl) ?_;rw[<-z];refine zg ?_
 refine dl (λm e w=>∃i:Nat,i+m=l.length/\SL e [(0,.int .u32 (Lu l I i)),(1,.slice A l.length c),(5,ii i)]/\St No W w []) l.length
  ⟨0,om,sl,S⟩ ?_
 clear S;rintro m e w ⟨i,hi,D,S⟩;rw[D.fold];rcases cr (i<l.length)with L|L
 ·have ac:dO A:=hA.someA (by rw[m4];omega);have hg:=AL L;have hx:=Um .xor (Lu l I i) (IntKind.u32.wrap (l.getD i 0));have v:Lu l I (i+1)=Lt (bits .xor .u32 (Lu l I i) (IntKind.u32.wrap (l.getD i 0))) 8:=rfl;generalize l.getD i 0=b at *;generalize Lu l I i=s1 at *;obtain⟨U,J⟩:∃s,s=bits .xor .u32 s1 (IntKind.u32.wrap b):=⟨_,rfl⟩;rw[<-J]at hx v;have V:=λj=>Gx hx j;refine zT (hA.gr S.out) hg ?_;refine Y9 (n:=b) rfl rfl ?_;refine cq (gR (op:=.xor) rfl rfl rfl) ?_;rw[<-J];refine zg ?_
  refine dl (λO e w=>∃j:Nat,j+O=8/\SL e [(0,.int .u32 (Lt U j)),(1,.slice A l.length c),(5,ii i),(6,ii j)]/\St No W w []) 8
   ⟨0,om,sl,S⟩ ?_
  clear S;rintro O e w ⟨j,hj,D,S⟩;rw[D.fold];rcases cr (j<8)with aa|aa
  ·have Z:=V j;have y:Lt U (j+1)=Ul (Lt U j):=rfl;unfold Ul at y;generalize Lt U j=s3 at *;unfold DO at Z;rcases cr (s3%2=1)with h1|h1
   ·rw[a7 h1]at y;refine zg ?_;refine cq (wQ rfl rfl om om) ?_;refine zg ?_;refine cq (wR rfl rfl om om (CK _ om)) ?_;refine zg ?_;refine cq (vN (B:=true) rfl rfl (fX.2 h1)) ?_;refine zg ?_;refine cq (gR (op:=.xor) rfl rfl rfl) ?_;refine zg ?_;exact⟨O-1,om,j+1,om,⟨ie y.symm,rfl,rfl,ie om,trivial⟩,S⟩
   ·rw[a8 h1]at y;refine zg ?_;refine cq (wQ rfl rfl om om) ?_;refine zg ?_;refine cq (wR rfl rfl om om (CK _ om)) ?_;refine zg ?_;refine cq (vN (B:=false) rfl rfl (et.2 h1)) ?_;refine zg ?_;exact⟨O-1,om,j+1,om,⟨ie y.symm,rfl,rfl,ie om,trivial⟩,S⟩
  ·obtain rfl:j=8:=om;refine zg ?_;exact⟨m-1,om,i+1,om,⟨ie v.symm,rfl,ie om,trivial⟩,S⟩
 ·obtain rfl:i=l.length:=om;refine zg ?_;refine cq (gR (op:=.xor) rfl rfl rfl) ?_;exact zZ
theorem Wp(z:l.length<=1099511627776)(y:Rd W A (f9 l)):Fn prog 80 [.slice A l.length c] W (dp (.int .u32 (Lv l)) W):=by
 have S:=St.start W;refine zI func80 ?_;refine zC (Up z (y.gr S.out)) ?_;intro D v S;exact zZ
theorem Rz(l:List Int):DO (Lv l):=Um _ _ _
def JG(s:Int):List Int:=[IntKind.u8.wrap (s%256),IntKind.u8.wrap (s/256%256),IntKind.u8.wrap (s/65536%256),IntKind.u8.wrap (s/16777216)]
theorem Uq(s:Int)(D:DO s):Fn prog 79 [.int .u32 s] W (jc id 5 1 4 (f9 (JG s)) W):=by
 unfold DO at D;have S:=St.start W;refine zI func79 ?_;refine zg ?_;refine cq (wQ rfl rfl om om) ?_;refine Y9 rfl rfl ?_;refine zg ?_;refine cq (wR rfl rfl om om (CK _ om)) ?_;refine cq (wQ rfl rfl om om) ?_;refine Y9 rfl rfl ?_;refine zg ?_;refine cq (wR rfl rfl om om (CK _ om)) ?_;refine cq (wQ rfl rfl om om) ?_;refine Y9 rfl rfl ?_;refine zg ?_;refine cq (wR rfl rfl om om (CK _ om)) ?_;refine Y9 rfl rfl ?_;refine yb S ?_;intro y I z S v;refine zX ?_;exact(S.retNew (i:=0) rfl)
def Xq(A:Option Addr)(l:List Int)(c:Nat)(W:World)(v:Value)(w':World):Prop:=∃(B:Option Addr)(nB cB:Nat)(e:Int),v=.tuple #[.slice B nB cB,ii e]/\Gr W w'/\(e=0->4<=l.length/\B=A/\nB=l.length-4/\cB=c)
theorem Ur(hc:l.length<=c)(hm:l.length<=1099511627776)(U:Rd W A (f9 l)):Fn prog 36 [.slice A l.length c] W (Xq A l c W):=by
 rcases cr (l.length<4)with h4|h4
 ·skip;have S:=St.start W;refine zI func36 ?_;refine zX ?_;exact⟨_,_,_,14,rfl,S.out,λh=>absurd h (by decide)⟩
 ·have e4:((l.length:Nat):Int)-4=((l.length-4:Nat):Int):=om;have I:Rd W A (f9 (l.take (l.length-4))):=by rw[<-tK];exact U.tk _
  have ab:(l.take (l.length-4)).length=l.length-4:=by rw[d7];omega
  have J:=U.off8 (m:=l.length-4) om hc;have L:l.length-(l.length-4)=(l.drop (l.length-4)).length:=by rw[i8]
  have y:=λw U=>Wp (W:=w) (A:=A) (c:=c) (l:=l.take (l.length-4)) om U;have D:=λw=>Uq (W:=w) _ (Rz (l.take (l.length-4)));rw[ab]at y;obtain⟨l1,Z⟩:∃x,x=l.take (l.length-4):=⟨_,rfl⟩;obtain⟨l2,aa⟩:∃x,x=l.drop (l.length-4):=⟨_,rfl⟩;rw[<-Z]at y D I;rw[<-aa]at J L;generalize V:uA A ((l.length-4)*1) (c-(l.length-4))=A2 at *;generalize hN:l.length-4=N at *;obtain⟨s,hs⟩:∃s,s=Lv l1:=⟨_,rfl⟩;rw[<-hs]at y D;obtain⟨tb,ac⟩:∃tb,(!((Bt (JG s)).toList==(Bt l2).toList))=tb:=⟨_,rfl⟩;have S:=St.start W;refine zI func36 ?_;refine zg ?_;rw[e4];refine zH (C:=(uB No W [] (λσ Q=>match σ with|[]=>Q=[]|[v]=>∃(B:Option Addr)(cB:Nat),v=.slice B 4 cB/\Q=[.row 5 1 B 4 cB (f9 (JG s))]|v::_=>v=.string (Bt (JG s))/\Q=[]))) [4,5] [0,1,2,3,6,7,8,9,4,5] [10] (uB.start rfl (S.gr (Gr.drew _))) ?_;refine ot rfl (jb (n:=(N:Int)) q8 gJ rfl rfl om om) ?_;rw[b7];refine jH rfl rfl (λτ wq z=>(y wq (I.gr (uB.st z).out)).mono (λ_ _⟨O,hg⟩=>⟨O,uB.gr hg z⟩)) ?_;refine zR ?_;refine ot rfl (Jq q8 gJ rfl rfl om hc) ?_;rw[V,L];refine qo rfl (λτ wq z=>BZ q8 dv fk rfl (J.gr (uB.st z).out)) ?_;refine de rfl rfl (λwq z=>vh z rfl (λQ hQ S=>?_)) ?_
  ·cases hQ;exact(D _).mono λv w'⟨A',c',O,hR,hf,g⟩=>⟨_,⟨A',c',O,rfl⟩,S.pushRow hR hf g⟩
  rintro v3 w3 ⟨_,⟨A3,c3,rfl,_⟩,_⟩;refine de rfl rfl (λwq z=>?_) ?_
  ·obtain⟨Q,⟨A',c',O,rfl⟩,S⟩:=z;cases O;exact gu rfl (dH (BZ q8 dv fk rfl (S.rd (i:=0) rfl)) ⟨[],⟨rfl,rfl⟩,S.drop 1⟩)
  rintro v5 w5 ⟨Q5,⟨rfl,_⟩,_⟩;refine zY ?_;rintro wz hz;obtain⟨_,⟨_,rfl⟩,S⟩:=hz;refine cq (Jp rfl rfl ac) ?_;refine ze ?_;cases tb
  ·skip;refine zg ?_;refine cq (jb (n:=(N:Int)) q8 gJ rfl rfl om om) ?_;rw[b7];refine zX ?_;exact⟨_,_,_,0,rfl,S.out,λ_=>⟨om,rfl,om,rfl⟩⟩
  ·skip;refine zX ?_;exact⟨_,_,_,10,rfl,S.out,λh=>absurd h (by decide)⟩
end
section
variable{ps:String}{y:Operand}{k:IntKind}{b c:Int}
theorem Lw(z:ev e x=.int k a)(D:ev e y=.int k b)(v:b≠0):iE P e ⟨d,.binOp .rem t x y t',ty,ps,af,none⟩ (.int k (a.tmod b)):=by
 intro w;simp[gd,execOp,z,D,eqGuard,binOp,Op.intDiv,v]
theorem Ly{B:Bool}(z:ev e x=.int k a)(D:ev e y=.int k b)(v:decide (a<=b)=B):iE P e ⟨d,.binOp .leq t x y t',ty,ps,af,none⟩ (.bool B):=by
 intro w;subst v;simp[gd,execOp,z,D,eqGuard,binOp,Op.intCmp]
theorem Us(z:ev e x=.int k a)(D:ev e y=.int k b)(v:k.wrap (a-b)=c):iE P e ⟨d,.binOp .sub t x y t',ty,ps,af,none⟩ (.int k c):=by
 intro w;subst v;simp[gd,execOp,z,D,eqGuard,binOp,Op.intArith]
end
theorem Ut(n:Int):0<=IntKind.u64.wrap n/\IntKind.u64.wrap n<18446744073709551616:=by rw[gQ];omega
section
variable{l:List Int}
theorem RA(jF n:Nat)(L:jF<=1099511627776)(Z:1<=n/\n<=8)(V:l.length<=1099511627776)(D:Rd W A (f9 l)) :
  Fn prog 157 [.slice A l.length c,ii jF,ii n] W (λv w'=>∃u x e:Int,v=.tuple #[.int .u64 u,ii x,ii e]/\Gr W w'):=by
 rcases cr (l.length<jF)with h1|h1
 ·skip;have S:=St.start W;refine zI func157 ?_;refine zX ?_;exact⟨_,_,_,rfl,S.out⟩
 ·rcases cr (l.length<jF+n)with h2|h2
  ·skip;have S:=St.start W;refine zI func157 ?_;refine zX ?_;exact⟨_,_,_,rfl,S.out⟩
  ·skip;have S:=St.start W;refine zI func157 ?_;refine zg ?_
   refine dl (λm e w=>∃u:Int,m<=n/\SL e [(0,.slice A l.length c),(1,ii jF),(2,ii n),(9,.int .u64 u),(10,ii ((m:Nat)-1:Int))]/\St No W w []) n
    ⟨0,cN _,sl,S⟩ ?_
   clear S;rintro m e w ⟨u,U,z,S⟩;rw[z.fold];rcases cr (0<m)with y|y
   ·have I:dO A:=D.someA (by rw[m4];omega);have J:(jF:Int)+((m:Nat)-1:Int)=((jF+(m-1):Nat):Int):=om;have O:=AL (l:=l) (i:=jF+(m-1)) om;refine zg ?_;refine cq (wS rfl rfl rfl) ?_;refine zg ?_;rw[J];refine zT (D.gr S.out) O ?_;refine Y9 rfl rfl ?_;refine cq (nO rfl rfl rfl) ?_;refine zg ?_;exact⟨m-1,om,_,om,sl,S⟩
   ·skip;refine zX ?_;exact⟨_,_,_,rfl,S.out⟩
theorem N2(jF n:Nat)(z:jF<=1099511627776)(J:1<=n/\n<=8)(I:l.length<=1099511627776)(D:Rd W A (f9 l)) :
  Fn prog 81 [.slice A l.length c,ii jF,ii n] W (λv w'=>∃x:Int,(-9223372036854775808<=x/\x<=9223372036854775807)/\v=ii x/\Gr W w'):=by
 have S:=St.start W;refine zI func81 ?_;refine zK (RA (c:=c) jF n z J I (D.gr S.out)) ?_;rintro _ L ⟨u,x,e,rfl,y⟩;have S:=S.gr y;refine zg ?_;refine Y9 (n:=u) rfl rfl ?_;refine zX ?_;exact⟨_,NL u,rfl,S.out⟩
theorem JH(u:Int)(y:0<=u):Fn prog 160 [.int .u64 u] W (λv w'=>∃x:Int,v=ii x/\Gr W w'):=by
 rcases cr (u%2=0)with h|h
 ·skip;have S:=St.start W;refine zI func160 ?_;refine zg ?_;refine cq (wQ rfl rfl y om) ?_;refine cq (vN (B:=true) rfl rfl (fX.2 h)) ?_;refine zg ?_;refine cq (wR rfl rfl y om rfl) ?_;refine Y9 rfl rfl ?_;refine zX ?_;exact⟨_,rfl,S.out⟩
 ·skip;have S:=St.start W;refine zI func160 ?_;refine zg ?_;refine cq (wQ rfl rfl y om) ?_;refine cq (vN (B:=false) rfl rfl (et.2 h)) ?_;refine zg ?_;refine cq (wR rfl rfl y om rfl) ?_;refine Y9 rfl rfl ?_;refine zg ?_;refine cq (Us rfl rfl rfl) ?_;refine zX ?_;exact⟨_,rfl,S.out⟩
theorem In(n:Nat)(hn:n<=l.length)(hm:l.length<=1099511627776)(I:Rd W A (f9 l)) :
  Fn prog 159 [.slice A l.length c,ii n] W (λv w'=>∃u nx e:Int,v=.tuple #[.int .u64 u,ii nx,ii e]/\(0<=u/\u<18446744073709551616)/\(e=0->∃k:Nat,nx=k/\n<k/\k<=l.length)/\Gr W w'):=by
 have S:=St.start W;refine zI func159 ?_;refine zg ?_
 refine dl (λm e w=>∃(k:Nat)(u wo:Int),k+m=10/\(0<=u/\u<18446744073709551616)/\SL e [(0,.slice A l.length c),(1,ii n),(7,.int .u64 u),(8,.int .u64 wo),(9,ii k)]/\St No W w []) 10
  ⟨0,0,1,om,om,sl,S⟩ ?_
 clear S;rintro m e w ⟨k,u,wo,hk,hu,aa,S⟩;rw[aa.fold];have L:(l.length:Int)-n=((l.length-n:Nat):Int):=om;rcases cr (k<10)with Z|Z
 ·rcases cr (l.length-n<=k)with h1|h1
  ·skip;refine yX ?_;exact⟨0,0,14,rfl,om,(λh=>absurd h (by decide)),S.out⟩
  ·have ac:dO A:=I.someA (by rw[m4];omega);have O:(n:Int)+k=((n+k:Nat):Int):=om;have J:=AL (l:=l) (i:=n+k) om;generalize l.getD (n+k) 0=b at J;rcases cr ((k=9/\1<b)\/(¬(k=9/\1<b)/\0<k/\b=0))with ab|ad
   ·rcases cr (k=9)with h2|h2
    all_goals
     rcases cr (1<b)with U|U
    all_goals
     rcases cr (k=0)with D|D
    all_goals
     rcases cr (b=0)with V|V
    all_goals
     first
      |(exfalso;omega)
      |skip
    all_goals
     refine zg ?_;rw[L];refine zg ?_;rw[O];refine zT (I.gr S.out) J ?_;refine zX ?_;exact⟨0,0,13,rfl,om,(λh=>absurd h (by decide)),S.out⟩
   ·have er:(n:Int)+(k:Int)+1=((n+k+1:Nat):Int):=om;rcases cr (b<128)with y|y
    ·rcases cr (k=9)with h2|h2
     all_goals
      rcases cr (1<b)with U|U
     all_goals
      rcases cr (k=0)with D|D
     all_goals
      rcases cr (b=0)with V|V
     all_goals
      first
       |(exfalso;omega)
       |skip
     all_goals
      refine zg ?_;rw[L];refine zg ?_;rw[O];refine zT (I.gr S.out) J ?_;refine zg ?_;refine cq (Lw rfl rfl (by decide)) ?_;refine Y9 rfl rfl ?_;refine zg ?_;refine cq (wS rfl rfl rfl) ?_;refine cq (nO rfl rfl rfl) ?_;refine zg ?_;refine cq (wS rfl rfl rfl) ?_;refine z ?_;refine z ?_;refine cq (uz (B:=true) rfl rfl (cF om)) ?_;refine zX ?_;exact⟨_,_,0,rfl,Ut _,(λ_=>⟨n+k+1,er,om,om⟩),S.out⟩
    ·rcases cr (k=9)with h2|h2
     all_goals
      rcases cr (k=0)with D|D
     all_goals
      first
       |(exfalso;omega)
       |skip
     all_goals
      refine zg ?_;rw[L];refine zg ?_;rw[O];refine zT (I.gr S.out) J ?_;refine zg ?_;refine cq (Lw rfl rfl (by decide)) ?_;refine Y9 rfl rfl ?_;refine zg ?_;refine cq (wS rfl rfl rfl) ?_;refine cq (nO rfl rfl rfl) ?_;refine zg ?_;refine cq (wS rfl rfl rfl) ?_;refine z ?_;refine z ?_;refine cq (uz (B:=false) rfl rfl (cC om)) ?_;refine zg ?_;exact⟨m-1,om,k+1,_,_,om,Ut _,sl,S⟩
 ·skip;refine zX ?_;exact⟨0,0,13,rfl,om,(λh=>absurd h (by decide)),S.out⟩
theorem RB(U n:Nat)(aj:U<=l.length)(hn:n<=1048576)(hm:l.length<=1099511627776)(hA:Rd W A (f9 l)) :
  Fn prog 87 [.slice A l.length c,ii U,ii n] W (PN n (λ_=>True) W):=by
 have D:∀{w:World}{L:List HA}{e x:Int},e≠0->St No W w L->PN n (λ_=>True) W (.tuple #[.slice none 0 0,ii x,ii e]) w:=λhe S=>⟨_,_,_,_,_,_,rfl,S,λh=>absurd h he⟩;have S:=St.start W;refine zI func87 ?_;refine zg ?_;refine mv dk cR S ?_;intro ar aB au S O;refine zg ?_
 refine dl (λm e w=>∃(k jF:Nat)(R:List Int)(B:Option Addr)(cB:Nat)(bh:Bool),k+m=n/\jF<=l.length/\R.length=k/\SL e [(0,.slice A l.length c),(1,ii jF),(2,ii n),(9,.slice B k cB),(10,.bool bh)]/\St No W w [.row 2 1 B k cB (cY R)]) n
  ⟨0,U,[],_,_,false,om,aj,rfl,sl,S⟩ ?_
 clear S;rintro m e w ⟨k,jF,R,B,cB,bh,hk,ac,hR,Z,S⟩;rw[Z.fold];rcases cr (k<n)with al|al
 ·skip;refine zK (In (c:=c) jF ac hm (hA.gr S.out)) ?_;rintro _ aC ⟨u,nx,e1,rfl,hu,am,ag⟩;have S:=S.gr ag;iterate 7 refine cq (cH rfl) ?_
  first|refine eF ?_|(refine di ?_;show CW _ _ _ _ _ _)|refine di ?_
  rcases cr (e1≠0)with he|he
  ·skip;refine yA ?_;exact tE rfl rfl rfl (D he S)
  ·obtain⟨k1,rfl,aw,J⟩:=am (fH.1 he);rcases cr (0<u)with I|I
   ·skip;repeat refine dm ?_
    refine dz ?_;refine cq (cH rfl) ?_;refine cq (ff (b:=false) rfl (eo.2 om)) ?_;first|refine eF ?_|(refine di ?_;show CW _ _ _ _ _ _)|refine di ?_
    repeat refine dm ?_
    refine eX rfl ?_;repeat refine dm ?_
    refine gO ?_;try show CW _ _ _ _ _ _
    repeat refine dm ?_
    refine dz ?_;refine cq (cH rfl) ?_;refine cq (qA (B:=true) rfl rfl (cF I)) ?_;refine zK (JH u hu.1) ?_;rintro _ aD ⟨x,rfl,ah⟩;have S:=S.gr ah;refine yb S ?_;intro ab aE av S aa;refine fM (i:=1) S rfl (λh=>rfl) dk jR rfl rfl rfl rfl (by simp) om (S.rd (i:=0) rfl) rfl om ?_;intro v y aF S O;refine zg ?_;have S:=S.drop 1;rw[show cY R++[ii x]=cY (R++[x])by simp[cY]]at S;exact⟨m-1,om,k+1,k1,R++[x],v,y,false,om,J,by simp[hR],sl,S⟩
   ·cases bh
    ·skip;refine yA ?_;refine cq (qA (B:=false) rfl rfl (cC I)) ?_;refine zK (In (c:=c) k1 J hm (hA.gr S.out)) ?_;rintro _ aG ⟨u2,aA,e2,rfl,an,ae,ai⟩;have S:=S.gr ai;iterate 7 refine cq (cH rfl) ?_
     first|refine eF ?_|(refine di ?_;show CW _ _ _ _ _ _)|refine di ?_
     rcases cr (e2≠0)with V|V
     ·skip;refine yA ?_;exact tE rfl rfl rfl (D V S)
     ·obtain⟨k2,rfl,az,ad⟩:=ae (fH.1 V);obtain⟨q,rfl⟩:=cJ an.1;have e5:(n:Int)-k-1=((n-k-1:Nat):Int):=om;rcases cr (n-k-1<q)with hq|hq
      ·skip;repeat refine dm ?_
       refine dz ?_;refine cq (cH rfl) ?_;refine cq (ff (b:=false) rfl (eo.2 om)) ?_;first|refine eF ?_|(refine di ?_;show CW _ _ _ _ _ _)|refine di ?_
       repeat refine dm ?_
       refine eX rfl ?_;repeat refine dm ?_
       refine gO ?_;try show CW _ _ _ _ _ _
       repeat refine dm ?_
       refine dz ?_;iterate 3 refine cq (cH rfl) ?_
       refine cq (p6 dk rfl) ?_;refine cq (fh rfl om) ?_;refine cq (fh rfl om) ?_;rw[e5];refine cq (dY (ks:=.i64) (n:=((n-k-1:Nat):Int)) (m:=((n-k-1:Nat):Int)) (kd:=.u64) dB dU rfl (re _ om)) ?_;refine cq (qA (B:=true) rfl rfl (cF om)) ?_;refine zX ?_;exact(D (by decide) S)
      ·skip;refine yA ?_;rw[e5];refine cq (dY (ks:=.i64) (n:=((n-k-1:Nat):Int)) (m:=((n-k-1:Nat):Int)) (kd:=.u64) dB dU rfl (re _ om)) ?_;refine cq (qA (B:=false) rfl rfl (cC om)) ?_;refine zg ?_
       refine dl (λm2 e w=>∃(i:Nat)(R:List Int)(B:Option Addr)(cB:Nat),i+m2=q+1/\R.length=k+i/\SL e [(0,.slice A l.length c),(2,ii n),(9,.slice B (k+i) cB),(14,.int .u64 q),(15,ii k2),(17,.int .u64 i)]/\St No W w [.row 2 1 B (k+i) cB (cY R)]) (q+1)
        ⟨0,R,B,cB,om,om,sl,S⟩ ?_
       clear S;rintro m2 e w ⟨i,R,B,cB,hi,hR,Z,S⟩;rw[Z.fold];rcases cr (i<=q)with ak|ak
       ·skip;refine zg ?_;refine cq (Ly (B:=true) rfl rfl (cF om)) ?_;refine zg ?_;refine yb S ?_;intro ab ap ao S aa;refine fM (i:=1) S rfl (λh=>rfl) dk jR rfl rfl rfl rfl (by simp) om (S.rd (i:=0) rfl) rfl om ?_;intro v y aq S O;refine zg ?_;refine cq (nO rfl rfl (re _ om)) ?_;refine zg ?_;have S:=S.drop 1;rw[show cY R++[ii 0]=cY (R++[0])by simp[cY]]at S;exact⟨m2-1,om,i+1,R++[0],v,y,om,by simp[hR];omega,sl,S⟩
       ·obtain rfl:i=q+1:=om;refine zg ?_;refine cq (Ly (B:=false) rfl rfl (cC om)) ?_;refine zg ?_;exact⟨n-(k+(q+1)),om,k+(q+1),k2,R,B,cB,true,om,ad,hR,sl,S⟩
    ·skip;refine z ?_;refine zf ?_;refine z ?_;refine cq (qA (B:=false) rfl rfl (cC I)) ?_;refine zX ?_;exact(D (by decide) S)
 ·obtain rfl:k=n:=om;refine zX ?_;exact⟨_,_,_,_,0,_,rfl,S,λ_=>⟨rfl,R,hR,trivial,rfl⟩⟩
end
section
variable{w:Nat}{l V:List Int}
theorem Wq(x y:Nat)(I:y*w+x<V.length)(U:V.length<=1048576)(L:Rd W A (cY V)):Fn prog 248 [.slice A V.length c,ii w,ii x,ii y] W (dp (ii (V.getD (y*w+x) 0)) W):=by
 have D:dO A:=L.someA (by rw[gn];omega);have J:(y:Int)*w=((y*w:Nat):Int):=by push_cast;rfl
 have O:((y*w:Nat):Int)+x=((y*w+x:Nat):Int):=by push_cast;rfl
 have v:(cY V)[((y*w+x:Nat):Int).toNat * 1]?=some (ii (V.getD (y*w+x) 0)):=by rw[cG,b7];exact gc (kr I)
 generalize y*w=q at *;have S:=St.start W;refine zI func248 ?_;iterate 4 refine z ?_
 refine cq (fh rfl (by rw[J];omega)) ?_;rw[J];refine z ?_;refine zr ?_;rw[O];refine cq (sj dk cR rfl rfl D om om) ?_;refine dH (eI cw rfl rfl (L.gr S.out) v) ?_;exact zZ
def Wr(W:World)(v:Value)(w':World):Prop:=∃g:Int,(-2147483648<=g/\g<=2147483647)/\v=ii g/\Gr W w'
theorem RC(kind i:Nat)(hk:kind<=2)(hw:1<=w)(hi:i=V.length)(hm:V.length<=1048576)(ar:w<=16)(hV:vM V)(v:Rd W A (cY V)) :
  Fn prog 162 [ii kind,.slice A V.length c,ii w,ii i] W (Wr W):=by
 have em:(i:Int)%w=((i%w:Nat):Int):=by push_cast;rfl
 have ed:(i:Int)/w=((i/w:Nat):Int):=by push_cast;rfl
 have ao:i=i/w*w+i%w:=by rw[cD];exact(dP i w).symm
 have au:i%w<w:=dt _ hw;have ag:=λW v(x y:Nat)hlt=>Wq (W:=W) (A:=A) (c:=c) (w:=w) (V:=V) x y hlt hm v;have hv:=λq=>hV.at q;have av:i/w<=1048576:=dE (sR i w) om;generalize i%w=x at *;generalize i/w=y at *;have aj:∀q,y=q+1->y*w=q*w+w:=λq h=>by rw[h,cX]
 rcases cr (kind=0\/(x=0/\y=0))with h0|h0
 ·rcases cr (kind=0)with h1|h1
  all_goals
   have S:=St.start W;refine zI func162 ?_;refine zD [0,1,2,3,4,5,6,7] [] ?_;rw[em];refine zQ ?_;rw[ed];refine zE ?_;intro L J S;exact ir rfl ⟨0,om,rfl,S.out⟩
 ·rcases x with _|p
  ·obtain⟨q,rfl⟩:∃q,y=q+1:=⟨y-1,om⟩;have hq:=aj q rfl;have D:((q+1:Nat):Int)-1=(q:Nat):=om;have hr:=hv (q*w+0);have ha:=λW v=>ag W v 0 q om;generalize V.getD (q*w+0) 0=z at *;have S:=St.start W;refine zI func162 ?_;refine zD [0,1,2,3,4,5,6,7] [] ?_;rw[em];refine zQ ?_;rw[ed];refine zE ?_;intro L J S;rw[D];refine zC (ha _ (v.gr S.out)) ?_;intro Z O S;refine zX ?_;exact⟨z,hr,rfl,S.out⟩
  ·have I:((p+1:Nat):Int)-1=(p:Nat):=om;have an:=hv (y*w+p);have U:=λW v=>ag W v p y om;generalize V.getD (y*w+p) 0=zl at *;rcases cr (kind=1\/y=0)with h2|h2
   ·rcases cr (kind=1)with h3|h3
    all_goals
     have S:=St.start W;refine zI func162 ?_;refine zD [0,1,2,3,4,5,6,7] [] ?_;rw[em];refine zQ ?_;rw[ed];refine zE ?_;intro L J S;rw[I];refine zC (U _ (v.gr S.out)) ?_;intro Z O S;refine zX ?_;exact⟨zl,an,rfl,S.out⟩
   ·obtain⟨q,rfl⟩:∃q,y=q+1:=⟨y-1,om⟩;have hq:=aj q rfl;have D:((q+1:Nat):Int)-1=(q:Nat):=om;have ap:=hv (q*w+(p+1));have aq:=hv (q*w+p);have aa:=λW v=>ag W v (p+1) q om;have ab:=λW v=>ag W v p q om;generalize V.getD (q*w+(p+1)) 0=za at *;generalize V.getD (q*w+p) 0=zb at *;rcases cr (zl+za-zb<zl/\zl+za-zb<za)with ak|ak
    ·rcases cr (zl<za)with ac|ac
     ·skip;have S:=St.start W;refine zI func162 ?_;refine zD [0,1,2,3,4,5,6,7] [] ?_;rw[em];refine zQ ?_;rw[ed];refine zE ?_;intro L J S;rw[I];refine zC (U _ (v.gr S.out)) ?_;intro Z O S;refine zg ?_;rw[D];refine zC (aa _ (v.gr S.out)) ?_;intro ah ad S;refine zg ?_;rw[I];refine zg ?_;rw[D];refine zC (ab _ (v.gr S.out)) ?_;intro ai ae S;refine zX ?_;exact⟨zl,om,rfl,S.out⟩
     ·skip;have S:=St.start W;refine zI func162 ?_;refine zD [0,1,2,3,4,5,6,7] [] ?_;rw[em];refine zQ ?_;rw[ed];refine zE ?_;intro L J S;rw[I];refine zC (U _ (v.gr S.out)) ?_;intro Z O S;refine zg ?_;rw[D];refine zC (aa _ (v.gr S.out)) ?_;intro ah ad S;refine zg ?_;rw[I];refine zg ?_;rw[D];refine zC (ab _ (v.gr S.out)) ?_;intro ai ae S;refine zX ?_;exact⟨za,om,rfl,S.out⟩
    ·rcases cr (zl<zl+za-zb/\za<zl+za-zb)with al|al
     ·rcases cr (za<zl)with ac|ac
      ·skip;have S:=St.start W;refine zI func162 ?_;refine zD [0,1,2,3,4,5,6,7] [] ?_;rw[em];refine zQ ?_;rw[ed];refine zE ?_;intro L J S;rw[I];refine zC (U _ (v.gr S.out)) ?_;intro Z O S;refine zg ?_;rw[D];refine zC (aa _ (v.gr S.out)) ?_;intro ah ad S;refine zg ?_;rw[I];refine zg ?_;rw[D];refine zC (ab _ (v.gr S.out)) ?_;intro ai ae S;refine zX ?_;exact⟨zl,om,rfl,S.out⟩
      ·skip;have S:=St.start W;refine zI func162 ?_;refine zD [0,1,2,3,4,5,6,7] [] ?_;rw[em];refine zQ ?_;rw[ed];refine zE ?_;intro L J S;rw[I];refine zC (U _ (v.gr S.out)) ?_;intro Z O S;refine zg ?_;rw[D];refine zC (aa _ (v.gr S.out)) ?_;intro ah ad S;refine zg ?_;rw[I];refine zg ?_;rw[D];refine zC (ab _ (v.gr S.out)) ?_;intro ai ae S;refine zX ?_;exact⟨za,om,rfl,S.out⟩
     ·rcases cr (zl+za-zb<zl)with ac|ac
      all_goals
       rcases cr (zl<zl+za-zb)with am|am
      all_goals
       first
        |(exfalso;omega)
        |skip
      all_goals
       have S:=St.start W;refine zI func162 ?_;refine zD [0,1,2,3,4,5,6,7] [] ?_;rw[em];refine zQ ?_;rw[ed];refine zE ?_;intro L J S;rw[I];refine zC (U _ (v.gr S.out)) ?_;intro Z O S;refine zg ?_;rw[D];refine zC (aa _ (v.gr S.out)) ?_;intro ah ad S;refine zg ?_;rw[I];refine zg ?_;rw[D];refine zC (ab _ (v.gr S.out)) ?_;intro ai ae S;refine zX ?_;exact⟨zl+za-zb,om,rfl,S.out⟩
theorem Lz(kind:Int)(n:Nat)(D:1<=w)(y:n%w=0):Fn prog 161 [ii kind,ii w,ii n] W (dp (.bool (decide (kind=0\/kind=1\/kind=2))) W):=by
 have v:(n:Int)%w=0:=by rw[show(n:Int)%w=((n%w:Nat):Int)by push_cast;rfl,y];rfl
 rcases cr (kind=0\/kind=1\/kind=2)with h|h
 ·rw[cF h];rcases h with rfl|rfl|rfl
  all_goals
   have S:=St.start W;refine zI func161 ?_;refine z ?_;refine z ?_;first|refine cq (ff (b:=true) rfl (fX.2 om)) ?_|refine cq (ff (b:=false) rfl (et.2 om)) ?_|refine cq (cH rfl) ?_
   refine z ?_;refine z ?_;first|refine eD rfl ?_|(refine dr rfl ?_;(first|refine cq (ff (b:=true) rfl (fX.2 om)) ?_|refine cq (ff (b:=false) rfl (et.2 om)) ?_|refine cq (cH rfl) ?_))
   iterate 3 refine z ?_
   first|refine eD rfl ?_|(refine dr rfl ?_;(first|refine cq (ff (b:=true) rfl (fX.2 om)) ?_|refine cq (ff (b:=false) rfl (et.2 om)) ?_|refine cq (cH rfl) ?_))
   (iterate 3 refine z ?_);refine zt ?_;(iterate 3 refine z ?_);refine zt ?_;iterate 4 refine z ?_
   refine dr rfl ?_;refine zg ?_;rw[v];exact zZ
 ·rw[cC h];have S:=St.start W;refine zI func161 ?_;exact zZ
theorem LA(kind:Int)(hw:1<=w/\w<=16)(hn:V.length%w=0)(hm:V.length<=1048576)(I:Rd W A (cY V)) :
  Fn prog 88 [ii kind,.slice A V.length c,ii w] W (λv w'=>∃(B:Option Addr)(nB cB:Nat)(e:Int)(Q:List HA),v=.tuple #[.slice B nB cB,ii e]/\St No W w' Q/\(e=0->∃R:List Int,R.length=nB/\R.length<=1048576/\Q=[.row 2 1 B nB cB (cY R)])):=by
 have D:=λW=>Lz (W:=W) kind V.length hw.1 hn;have Z:∀{i:Nat},i<V.length->(cY V)[(i:Int).toNat * 1]?=some (ii (V.getD i 0)):=λh=>by rw[cG,b7];exact gc (kr h)
 generalize hN:V.length=N at *;rcases cr (kind=0\/kind=1\/kind=2)with hk|hk
 ·rw[cF hk]at D;obtain⟨kd,rfl⟩:=cJ (show 0<=kind by omega);have S:=St.start W;refine zI func88 ?_;refine zC (D W) ?_;intro ai ad S;refine zg ?_;refine mv dk cR S ?_;intro ak ao al S ac;refine zg ?_
  refine dl (λm e w'=>∃(i:Nat)(R:List Int)(B:Option Addr)(cB:Nat),i+m=N/\R.length=i/\vM R/\SL e [(0,ii kd),(1,.slice A N c),(2,ii w),(8,.slice B i cB),(9,ii i)]/\St No W w' [.row 2 1 B i cB (cY R)]) N
   ⟨0,[],_,_,om,rfl,(λx hx=>by cases hx),sl,S⟩ ?_
  clear S;rintro m e w2 ⟨i,R,B,cB,hi,y,hR,ag,S⟩;rw[ag.fold];rcases cr (i<N)with ab|ab
  ·have J:dO A:=I.someA (by rw[gn];omega);have U:=Z ab;have aa:=λW' I=>RC (W:=W') (A:=B) (c:=cB) (w:=w) (V:=R) kd i om hw.1 y.symm om hw.2 hR I;rw[y]at aa;generalize V.getD i 0=r at *;refine zK (aa w2 (S.rd (i:=0) rfl)) ?_;rintro _ ap ⟨g,an,rfl,ae⟩;have S:=S.gr ae;refine z ?_;refine ze ?_;rcases cr (r>2147483647-g)with h1|h1
   ·skip;repeat refine dm ?_
    refine dz ?_;iterate 2 refine cq (cH rfl) ?_
    refine cq (sj dk cR rfl rfl J om om) ?_;refine dH (eI cw rfl rfl (I.gr S.out) U) ?_;refine zX ?_;exact⟨_,_,_,7,_,rfl,S,λh=>absurd h (by decide)⟩
   ·rcases cr (r < -2147483648-g)with h2|h2
    ·skip;repeat refine dm ?_
     refine dz ?_;iterate 2 refine cq (cH rfl) ?_
     refine cq (sj dk cR rfl rfl J om om) ?_;refine dH (eI cw rfl rfl (I.gr S.out) U) ?_;refine zX ?_;exact⟨_,_,_,7,_,rfl,S,λh=>absurd h (by decide)⟩
    ·skip;refine zT (I.gr S.out) U ?_;refine z ?_;refine zr ?_;refine zf ?_;(iterate 3 refine z ?_);refine zx ?_;first|refine eD rfl ?_|(refine dr rfl ?_;refine dH (eI cw rfl rfl (I.gr S.out) U) ?_)
     refine z ?_;refine zr ?_;refine zf ?_;(iterate 5 refine z ?_);refine zx ?_;refine dH (eI cw rfl rfl (I.gr S.out) U) ?_;refine zg ?_;refine yb S ?_;intro aj aq am S ah;refine ZP 1 0 S ?_;intro L O ar S ac;refine zg ?_;have S:=S.drop 1;rw[show cY R++[ii (g+r)]=cY (R++[g+r])by simp[cY]]at S
     exact⟨m-1,om,i+1,R++[g+r],L,O,om,by simp[y],(λx hx=>by
      rcases ez.1 hx with h|h
      ·exact hR x h
      ·rw[dM.1 h];omega),sl,S⟩
  ·skip;refine zX ?_;exact⟨_,_,_,0,_,rfl,S,λ_=>⟨R,y,om,rfl⟩⟩
 ·rw[cC hk]at D;have S:=St.start W;refine zI func88 ?_;refine zC (D W) ?_;intro ai ad S;refine zX ?_;exact⟨_,_,_,11,_,rfl,S,λh=>absurd h (by decide)⟩
theorem LB(x y:Int):Fn prog 86 [ii x,ii y] W (dp (.bool (decide ((0<x/\x<17)/\0<y/\y<17))) W):=by
 rcases cr ((0<x/\x<17)/\0<y/\y<17)with h|h
 ·rw[cF h];have S:=St.start W;refine zI func86 ?_;exact zZ
 ·rw[cC h];rcases cr (0<x)with h1|h1
  ·rcases cr (x<17)with h2|h2
   ·rcases cr (0<y)with v|v
    ·skip;have S:=St.start W;refine zI func86 ?_;exact zZ
    ·skip;have S:=St.start W;refine zI func86 ?_;exact zZ
   ·skip;have S:=St.start W;refine zI func86 ?_;exact zZ
  ·skip;have S:=St.start W;refine zI func86 ?_;exact zZ
def Uu(W:World)(v:Value)(w':World):Prop:=∃(B:Option Addr)(nB cB:Nat)(x e:Int)(Q:List HA),v=.tuple #[.slice B nB cB,ii x,ii e]/\St No W w' Q/\(e=0->∃R:List Int,R.length=nB/\R.length<=1048576/\Q=[.row 2 1 B nB cB (cY R)])
theorem RD(x y:Int)(hm:l.length<=1099511627776)(I:Rd W A (f9 l)) :
  Fn prog 41 [.slice A l.length c,ii x,ii y] W (Uu W):=by
 have v:∀{w:World}{L:List HA}{e z:Int},e≠0->St No W w L->Uu W (.tuple #[.slice none 0 0,ii z,ii e]) w:=λhe S=>⟨_,_,_,_,_,_,rfl,S,λh=>absurd h he⟩;have D:=λW=>LB (W:=W) x y;rcases cr ((0<x/\x<17)/\0<y/\y<17)with h|h
 ·rw[cF h]at D;obtain⟨w,rfl⟩:=cJ (show 0<=x by omega);obtain⟨h',rfl⟩:=cJ (show 0<=y by omega);have aq:w*h'<=16*16:=cE om om;have ah:w*h'%w=0:=kJ w h';have aa:(w:Int)*h'=((w*h':Nat):Int):=by push_cast;rfl
  have aj:=λW h0 I=>RB (W:=W) (A:=A) (c:=c) (l:=l) 1 (w*h') h0 om hm I;have ag:=λW B cB(R:List Int)kind hR I=>LA (W:=W) (A:=B) (c:=cB) (w:=w) (V:=R) kind om hR I;generalize w*h'=N at *;have S:=St.start W;refine zI func41 ?_;rcases cr (l.length=0)with h0|h0
  ·skip;refine zC (D W) ?_;intro ak ab S;refine zX ?_;exact(v (by decide) S)
  ·have Z:(f9 l)[(0:Int).toNat * 1]?=some (.int .u8 (l.getD 0 0)):=AL (i:=0) om;generalize l.getD 0 0=b at Z;have al:dO A:=I.someA (by rw[m4];omega);rcases cr (2<b)with hb|hb
   ·skip;refine zC (D W) ?_;intro au an S;refine zT (I.gr S.out) Z ?_;refine cq (qA (B:=true) rfl rfl (cF om)) ?_;refine zX ?_;exact(v (by decide) S)
   ·skip;refine zC (D W) ?_;intro av ao S;refine zT (I.gr S.out) Z ?_;refine cq (qA (B:=false) rfl rfl (cC om)) ?_;iterate 3 refine z ?_
    refine cq (fh rfl (by rw[aa];omega)) ?_;rw[aa];refine zK (aj _ om (I.gr S.out)) ?_;rintro _ aw ⟨B,nB,cB,nx,e1,Q,rfl,S2,hQ⟩;have S:=S.app S2;iterate 7 refine z ?_
    refine ze ?_;rcases cr (e1=0)with J|J
    ·obtain⟨rfl,R,hR,-,rfl⟩:=hQ J;subst J;have U:=λW I=>ag W B cB R (IntKind.i64.wrap b) (by rw[hR];exact ah) om I;rw[hR]at U;rcases cr (nx<(l.length:Nat))with ai|ai
     ·skip;refine zX ?_;exact(v (by decide) S)
     ·skip;refine zT (I.gr S.out) Z ?_;refine Y9 (n:=b) rfl rfl ?_;refine zK (U _ (S.rd (i:=0) rfl)) ?_;rintro _ az ⟨B2,ar,am,e2,Q2,rfl,S2,ac⟩;have S:=S.app S2;iterate 5 refine z ?_
      refine ze ?_;rcases cr (e2=0)with O|O
      ·obtain⟨R2,ad,ae,rfl⟩:=ac O;subst O;refine zD [0,1,2,3,4,5,6,7] [] ?_;refine zO (λwq hq=>(I.gr (S.gr hq).out)) Z ?_;refine eO (dY (ks:=.u8) (n:=b) (kd:=.i64) dv dB rfl rfl) ?_;refine zE ?_;intro aA ap S;exact tE rfl rfl rfl ⟨_,_,_,_,0,_,rfl,S.sub (.cons_cons _ (.cons _ .slnil)),λ_=>⟨R2,ad,ae,rfl⟩⟩
      ·skip;repeat refine dm ?_
       refine dz ?_;refine cq (cH rfl) ?_;refine cq (ff (b:=true) rfl (f5.2 om)) ?_;first|refine eF ?_|(refine di ?_;show CW _ _ _ _ _ _)|refine di ?_
       repeat refine dm ?_
       refine jr rfl ?_;repeat refine dm ?_
       refine dz ?_;iterate 4 refine cq (cH rfl) ?_
       first|refine eF ?_|(refine di ?_;show CW _ _ _ _ _ _)|refine di ?_
       repeat refine dm ?_
       refine mJ ?_;repeat first|refine mL ?_|refine oq ?_
       exact tE rfl rfl rfl (v O S)
    ·skip;repeat refine dm ?_
     refine dz ?_;refine cq (cH rfl) ?_;refine cq (ff (b:=true) rfl (f5.2 om)) ?_;first|refine eF ?_|(refine di ?_;show CW _ _ _ _ _ _)|refine di ?_
     repeat refine dm ?_
     refine jr rfl ?_;repeat refine dm ?_
     refine dz ?_;iterate 4 refine cq (cH rfl) ?_
     first|refine eF ?_|(refine di ?_;show CW _ _ _ _ _ _)|refine di ?_
     repeat refine dm ?_
     refine mJ ?_;repeat first|refine mL ?_|refine oq ?_
     exact tE rfl rfl rfl (v J S)
 ·rw[cC h]at D;have S:=St.start W;refine zI func41 ?_;refine zC (D W) ?_;intro ak ab S;refine zX ?_;exact(v (by decide) S)
end
theorem CL(x0 y0 x1 y1:Nat)(D:x0<=x1/\x1<1024)(I:y0<=y1/\y1<1024)(W:World):Fn prog 163 [.agg #[ii x0,ii y0,ii x1,ii y1]] W (dp (.bool true) W):=by
 have S:=St.start W;refine zI func163 ?_;refine zN ?_;intro v z y S;exact zZ
theorem Ws(J L U Z V h1:Nat)(hw:V<1024)(hh:h1<1024)(hx:J<=U/\U<1024)(hy:L<=Z/\Z<1024)(W:World) :
  Fn prog 158 [.agg #[ii 0,ii 0,ii V,ii h1],.agg #[ii J,ii L,ii U,ii Z]] W
  (λv w'=>∃p q r s:Int,(J<=V/\L<=h1->p=J/\q=L/\r=(min V U:Nat)/\s=(min h1 Z:Nat))/\v=.tuple #[.agg #[ii p,ii q,ii r,ii s],.bool (decide (J<=V/\L<=h1))]/\Gr W w'):=by
 have ac:=λw=>CL 0 0 V h1 om om w;have ad:=λw=>CL J L U Z om om w;refine yI func158 ?_;refine EO ac ?_;intro D I y ae S;iterate 3 refine z ?_
 refine dr rfl ?_;refine eY rfl (ad ae) ?_;rintro _ ao ⟨rfl,ab⟩;have S:=S.gr ab;refine yA ?_;refine gP (M:=λe w=>SL e [(2,pt D),(3,pt I),(4,pt y),(5,.bool false)]/\St No W w [.blk y 24 [ii 0,ii 0,ii 0,ii 0],.blk I 24 [ii J,ii L,ii U,ii Z],.blk D 24 [ii J,ii 0,ii V,ii h1]]) ?_ ?_
 ·skip;refine zB ?_ ?_
  ·intro c0;refine zS ?_;intro ap S;exact⟨sl,S⟩
  ·intro c0;have e0:(J:Int)=0:=om;refine zg ?_;rw[e0]at S ⊢;exact⟨sl,S⟩
 ·rintro e0 ak ⟨O,S⟩;rw[O.fold];iterate 5 refine z ?_
  refine zc ?_;refine gP (M:=λe w=>SL e [(2,pt D),(3,pt I),(4,pt y),(5,.bool false)]/\St No W w [.blk y 24 [ii 0,ii 0,ii 0,ii 0],.blk I 24 [ii J,ii L,ii U,ii Z],.blk D 24 [ii J,ii L,ii V,ii h1]]) ?_ ?_
  ·skip;refine zB ?_ ?_
   ·intro c1;refine yA ?_;intro _ S;exact⟨sl,S⟩
   ·intro c1;have e0:(L:Int)=0:=om;refine zg ?_;rw[e0]at S ⊢;exact⟨sl,S⟩
  ·rintro e1 al ⟨O,S⟩;rw[O.fold];iterate 5 refine z ?_
   refine zc ?_;refine gP (M:=λe w=>SL e [(2,pt D),(3,pt I),(4,pt y),(5,.bool false)]/\St No W w [.blk y 24 [ii 0,ii 0,ii 0,ii 0],.blk I 24 [ii J,ii L,ii U,ii Z],.blk D 24 [ii J,ii L,ii (min V U:Nat),ii h1]]) ?_ ?_
   ·skip;refine zB ?_ ?_
    ·intro c2;have e0:min V U=U:=om;refine yA ?_;rw[e0];intro _ S;exact⟨sl,S⟩
    ·intro c2;have e0:min V U=V:=om;refine zg ?_;rw[e0];exact⟨sl,S⟩
   ·rintro e2 am ⟨O,S⟩;rw[O.fold];iterate 5 refine z ?_
    refine zc ?_;refine gP (M:=λe w=>SL e [(2,pt D),(3,pt I),(4,pt y),(5,.bool false)]/\St No W w [.blk y 24 [ii 0,ii 0,ii 0,ii 0],.blk I 24 [ii J,ii L,ii U,ii Z],.blk D 24 [ii J,ii L,ii (min V U:Nat),ii (min h1 Z:Nat)]]) ?_ ?_
    ·skip;refine zB ?_ ?_
     ·intro c3;have e0:min h1 Z=Z:=om;refine zS ?_;intro ag S;rw[e0];exact⟨sl,S⟩
     ·intro c3;have e0:min h1 Z=h1:=om;refine zg ?_;rw[e0];exact⟨sl,S⟩
    ·rintro e3 an ⟨O,S⟩;rw[O.fold];by_cases h0:J<=V
     ·by_cases aa:L<=h1
      ·rw[cF ⟨h0,aa⟩];refine zS ?_;intro ah S;exact pG S ⟨_,_,_,_,(λ_=>⟨rfl,rfl,rfl,rfl⟩),rfl,S.out⟩
      ·rw[cC (λh=>aa h.2)];refine zS ?_;intro ai S;exact pG S ⟨_,_,_,_,(λh=>absurd h.2 aa),rfl,S.out⟩
     ·rw[cC (λh=>h0 h.1)];refine zS ?_;intro aj S;exact pG S ⟨_,_,_,_,(λh=>absurd h.1 h0),rfl,S.out⟩
def DP(rs:List Rc):List Value:=rs.flatMap λr=>[ii r.x0,ii r.y0,ii r.x1,ii r.y1]
theorem Wt{rs:List Rc}(h:rs[k]?=some r):((DP rs).drop ((k:Int).toNat * 4)).take 4=[ii r.x0,ii r.y0,ii r.x1,ii r.y1]:=by
 rw[b7];exact lG (f:=λr:Rc=>[ii r.x0,ii r.y0,ii r.x1,ii r.y1]) (λ_=>rfl) h
theorem RE(rs:List Rc)(r:Rc):DP rs++[ii r.x0,ii r.y0,ii r.x1,ii r.y1]=DP (rs++[r]):=by simp[DP]
theorem PU(V h1 I z:Nat)(hw:V<1024)(hh:h1<1024)(ea:I=V/16+1)(eh:z=h1/16+1)(W:World) :
  Fn prog 84 [.agg #[ii 0,ii 0,ii V,ii h1]] W (λv w'=>∃(A:Option Addr)(c:Nat)(rs:List Rc),rs.length=z*I/\(∀r∈rs,r.ok (V+1) (h1+1))/\v=.slice A (z*I) c/\St No W w' [.row 24 4 A (z*I) c (DP rs)]):=by
 have hN:z*I<=64*64:=cE (by omega) (by omega);have S:=St.start W;refine zI func84 ?_;refine zN ?_;intro Z aH aA S;refine zg ?_;refine mv Zy yr S ?_;intro D aI aB S aa;refine zg ?_
 refine dl (λm e w=>∃(y n:Nat)(D:Option Addr)(L:Nat)(rs:List Rc),y+m=64/\n=min y z*I/\rs.length=n/\(∀r∈rs,r.ok (V+1) (h1+1))/\SL e [(1,pt Z),(3,.slice D n L),(4,ii y)]/\St No W w [.row 24 4 D n L (DP rs),.blk Z 24 [ii 0,ii 0,ii V,ii h1]]) 64
  ⟨0,0,_,_,[],rfl,by simp,rfl,(λr h=>by cases h),sl,S⟩ ?_
 clear S aa;rintro m e w ⟨y,n,D,L,rs,hy,hn,J,O,ac,S⟩;rw[ac.fold];by_cases aD:y<64
 ·have hq:min y z*I<=z*I:=cI I (rt y z)
  have an:min (y+1) z*I=min y z*I+(if y<z then I else 0):=by
   by_cases h:y<z
   ·rw[a7 h,show min (y+1) z=min y z+1 by omega,cX]
   ·rw[a8 h,show min (y+1) z=min y z by omega];rfl
  generalize aF:min y z*I=q at *;refine zg ?_
  refine dl (λm2 e w=>∃(x n:Nat)(D:Option Addr)(L:Nat)(rs:List Rc),x+m2=64/\n=q+(if y<z then min x I else 0)/\rs.length=n/\(∀r∈rs,r.ok (V+1) (h1+1))/\SL e [(1,pt Z),(3,.slice D n L),(4,ii y),(5,ii x)]/\St No W w [.row 24 4 D n L (DP rs),.blk Z 24 [ii 0,ii 0,ii V,ii h1]]) 64
   ⟨0,n,_,_,rs,rfl,by rw[hn];simp,J,O,sl,S⟩ ?_
  clear S J O;rintro m2 e w ⟨x,n,D,L,rs,hx,hn,J,O,ac,S⟩;rw[ac.fold];by_cases aG:x<64
  ·have U:=λw=>Ws (16*x) (16*y) (16*x+15) (16*y+15) V h1 hw hh ⟨by omega,by omega⟩ ⟨by omega,by omega⟩ w;have ed:decide (16*x<=V/\16*y<=h1)=decide (x<I/\y<z):=decide_eq_decide.2 (by omega);rw[ed]at U;push_cast at U;have aE:n<=5000:=by split at hn<;>omega
   by_cases ab:x<I/\y<z
   ·rw[cF ab]at U;refine zK (U w) ?_;rintro _ aJ ⟨p1,p2,p3,p4,hp,rfl,al⟩;have S:=S.gr al;refine zN ?_;intro aj aK aC S;refine zS ?_;intro aL S;refine yb S ?_;intro ag aq ao S ae;refine ZP 2 0 S ?_;intro ai ak ar S aa;refine zg ?_;have am:=hp ⟨by omega,by omega⟩;obtain⟨rfl,rfl,rfl,rfl⟩:=am;have S:=S.sub (.cons _ (.cons _ (cQ _)));have er:=RE rs ⟨16*x,16*y,min V (16*x+15),min h1 (16*y+15)⟩;push_cast at er S;rw[er]at S
    exact⟨m2-1,by omega,x+1,_,_,_,rs++[⟨16*x,16*y,min V (16*x+15),min h1 (16*y+15)⟩],by omega,by rw[a7 ab.2]at hn ⊢;omega,by simp[J],(λr hr=>by
     rcases ez.1 hr with h|h
     ·exact O r h
     ·rw[dM.1 h];exact⟨⟨by dsimp only;omega,by dsimp only;omega⟩,by dsimp only;omega,by dsimp only;omega⟩),sl,S⟩
   ·rw[cC ab]at U;refine zK (U w) ?_;rintro _ au ⟨p1,p2,p3,p4,hp,rfl,ad⟩;have S:=S.gr ad;refine zN ?_;intro aj av ap S;refine zS ?_;intro az S;exact⟨m2-1,by omega,x+1,n,_,_,rs,by omega,by by_cases h:y<z<;>simp only[h,rq,pW]at hn ⊢<;>omega,J,O,sl,S.drop 1⟩
  ·obtain rfl:x=64:=by omega
   refine zg ?_;exact⟨m-1,by omega,y+1,n,_,_,rs,by omega,by rw[hn,an];by_cases h:y<z<;>simp only[h,rq,pW]<;>omega,J,O,sl,S⟩
 ·obtain rfl:y=64:=by omega
  have he:n=z*I:=by rw[hn,show min 64 z=z by omega]
  refine zg ?_;rw[he]at J S ⊢;exact ir rfl ⟨_,_,rs,J,O,rfl,S.sub (.cons_cons _ (.cons _ .slnil))⟩
theorem Wu(w h:Nat)(L:1<=w/\w<=1024)(J:1<=h/\h<=1024)(W:World):Fn prog 82 [ii w,ii h] W (dp (.tuple #[ii (cU h*cU w:Nat),ii 0]) W):=by
 have z:(w:Int)-1=((w-1:Nat):Int):=om;have D:(h:Int)-1=((h-1:Nat):Int):=om;have v:=λW=>PU (w-1) (h-1) (cU w) (cU h) om om (by unfold cU;omega) (by unfold cU;omega) W;rw[<-z,<-D]at v;have S:=St.start W;refine zI func82 ?_;refine zK (v W) ?_;rintro _ I ⟨A1,c1,rs,_,_,rfl,y⟩;have S:=S.app y;exact zZ
section
variable{V:List Int}
theorem Xr(r:Rc)(J:1<=gw/\gw<=1024)(I:1<=gh/\gh<=1024)(z:r.ok gw gh):Fn prog 14 [.agg #[ii r.x0,ii r.y0,ii r.x1,ii r.y1],ii gw,ii gh] W (dp (ii 0) W):=by
 obtain⟨x0,y0,x1,y1⟩:=r;obtain⟨L,O⟩:=z;dsimp only at *;have S:=St.start W;refine zI func14 ?_;refine zN ?_;intro v D y S;exact zZ
theorem Xs(r:Rc)(hw:1<=gw/\gw<=1024)(Z:1<=gh/\gh<=1024)(O:r.ok gw gh):Fn prog 89 [.agg #[ii r.x0,ii r.y0,ii r.x1,ii r.y1]] W (dp (ii ((r.y1+1-r.y0)*(r.x1+1-r.x0):Nat)) W):=by
 obtain⟨x0,y0,x1,y1⟩:=r;obtain⟨hx,hy⟩:=O;dsimp only at *;have L:=λw=>CL x0 y0 x1 y1 om om w;have z:(x1:Int)+1-x0=((x1+1-x0:Nat):Int):=om;have D:(y1:Int)+1-y0=((y1+1-y0:Nat):Int):=om;have v:((x1+1-x0:Nat):Int)*((y1+1-y0:Nat):Int)=(((y1+1-y0)*(x1+1-x0):Nat):Int):=by rw[cD];exact(kv _ _).symm
 have hm:(y1+1-y0)*(x1+1-x0)<=1024*1024:=cE om om;generalize x1+1-x0=wd at *;generalize y1+1-y0=ht at *;have S:=St.start W;refine zI func89 ?_;refine zN ?_;intro y U I S;refine zC (L _) ?_;intro V J S;refine zg ?_;rw[z];refine zg ?_;rw[D];refine cq (fh rfl (by rw[v];omega)) ?_;rw[v];exact zZ
theorem Uv(hw:1<=gw/\gw<=1024)(hh:1<=gh/\gh<=1024):Fn prog 83 [ii gw,ii gh,ii 0,ii 1024] W (λv w'=>∃(A:Option Addr)(c:Nat)(V:List Int),V.length=gw*gh/\v=.tuple #[.agg #[ii gw,ii gh,.slice A (gw*gh) c],ii 0]/\St No W w' [.row 2 1 A (gw*gh) c (cY V)]):=by
 have hm:gw*gh<=1024*1024:=cE hw.2 hh.2;have D:(gw:Int)*gh=((gw*gh:Nat):Int):=by push_cast;rfl
 generalize hN:gw*gh=N at *;have S:=St.start W;refine zI func83 ?_;refine zN ?_;intro y aj ae S;refine zC (Pf 0 _) ?_;intro ak ag S;refine zN ?_;intro J al ah S;refine zS ?_;intro am S;have S:=S.pushNil 2 1
 refine dl (λk e w=>∃(i:Nat)(A:Option Addr)(c:Nat)(V:List Int),i+k=N/\V.length=i/\SL e [(0,ii gw),(1,ii gh),(2,ii 0),(8,pt y),(10,pt J),(11,ii i)] /\
   St No W w [.row 2 1 A i c (cY V),.blk J 38 [ii gw,ii gh,.slice A i c],.blk y 38 [ii 0,ii 0,.slice none 0 0]]) N
  ⟨0,none,0,[],om,rfl,sl,S⟩ ?_
 clear S;rintro k e w ⟨i,A,c,V,hi,hV,U,S⟩;rw[U.fold];rcases cr (i<N)with O|O
 ·skip;iterate 3 refine z ?_
  refine cq (fh rfl (by rw[D];omega)) ?_;rw[D];refine zg ?_;refine yb S ?_;intro aa an ai S Z;refine ZP 1 0 S ?_;intro I L ao S ab;refine zS ?_;intro ac S;have S:=S.drop 1;rw[show cY V++[ii 0]=cY (V++[0])by simp[cY]]at S;exact⟨k-1,om,i+1,I,L,V++[0],om,by simp[hV],sl,S⟩
 ·obtain rfl:i=N:=om;iterate 3 refine z ?_
  refine cq (fh rfl (by rw[D];omega)) ?_;rw[D];refine zS ?_;intro ad S;exact pG S ⟨A,c,V,hV,rfl,S.sub (.cons_cons _ (.cons _ (.cons _ .slnil)))⟩
theorem Uw(O:1<=gw/\gw<=1024)(J:1<=gh/\gh<=1024):Fn prog 38 [ii gw,ii gh,ii 0] W (λv w'=>∃(A:Option Addr)(c:Nat)(V:List Int),V.length=gw*gh/\v=.tuple #[.agg #[ii gw,ii gh,.slice A (gw*gh) c],ii 0]/\St No W w' [.row 2 1 A (gw*gh) c (cY V)]):=by
 have L:=λw=>Uv (W:=w) O J;generalize gw*gh=N at *;have S:=St.start W;refine zI func38 ?_;refine zN ?_;intro y U D S;refine zK (L _) ?_;rintro _ Z ⟨A,c,V,I,rfl,z⟩;have S:=S.app z;refine zS ?_;intro aa S;exact pG S ⟨A,c,V,I,rfl,S.sub (.cons_cons _ (.cons _ .slnil))⟩
theorem Wv(n:Nat)(Z:1<=gw/\gw<=1024)(V:1<=gh/\gh<=1024):Fn prog 85 [.agg #[ii gw,ii gh,.slice A n c]] W (dp (.agg #[ii 0,ii 0,ii (gw-1:Nat),ii (gh-1:Nat)]) W):=by
 have z:(gw:Int)-1=((gw-1:Nat):Int):=om;have D:(gh:Int)-1=((gh-1:Nat):Int):=om;have S:=St.start W;refine zI func85 ?_;refine zN ?_;intro v L I S;refine zN ?_;intro y O J S;refine zg ?_;rw[z];refine zg ?_;rw[D];refine zS ?_;intro U S;exact rA S ⟨rfl,S.out⟩
theorem RH(n:Nat)(U:1<=gw/\gw<=1024)(O:1<=gh/\gh<=1024):Fn prog 39 [.agg #[ii gw,ii gh,.slice A n c]] W (λv w'=>∃(B:Option Addr)(cB:Nat)(rs:List Rc),rs.length=cU gh*cU gw/\(∀r∈rs,r.ok gw gh)/\v=.slice B (cU gh*cU gw) cB/\St No W w' [.row 24 4 B (cU gh*cU gw) cB (DP rs)]):=by
 have z:=λw=>Wv (W:=w) (A:=A) (c:=c) n U O;have y:=λw=>PU (gw-1) (gh-1) (cU gw) (cU gh) om om (by unfold cU;omega) (by unfold cU;omega) w;rw[(om:gw-1+1=gw),(om:gh-1+1=gh)]at y;generalize cU gh*cU gw=N at *;have S:=St.start W;refine zI func39 ?_;refine zN ?_;intro I V J S;refine zC (z _) ?_;intro Z L S;refine zK (y _) ?_;rintro _ aa ⟨B,cB,rs,h1,h2,rfl,D⟩;have S:=S.app D;refine zX ?_;exact⟨B,cB,rs,h1,h2,rfl,S.sub (.cons_cons _ (.cons _ .slnil))⟩
theorem LC{L:List HA}{t ty:Nat}{z:Value}{f:HA->List HA}(S:St F W w L)(hi:gi L i=some (.row el k A n c xs))(hf:∀h,j7 L i h=some (f h))(hu:P.underlying t=some (.slice el))(hI:(P.info? el).map (λi=>(i.zero,i.size,i.bytes))=some (some z,k,bytes))(hz:Nat.beq z.cells.size k=true)(hk:Nat.blt 0 k=true)(hm:ys.length=m*k)(ab:0<m)(hR:Rd w B ys)(h1:(ys.all λv=>v.oneCell')=true)(hb:(n+m)*(bytes+1)<=140737488355328) :
  ∃y c' w',(Builtin.append_ #[t,t] ty #[.slice A n c,.slice B m c2]).run P w=.ok (.slice y (n+m) c') w'/\St F W w' (f (.row el k y (n+m) c' (xs++ys))):=by
 obtain⟨ah,J,ad,ae,ag⟩:=nG hI;have O:0<k:=eC hk;have ac:=eU hz;have aa:(n+m)*bytes<=140737488355328:=dE (eZ _ om) hb;have ai:n+m<=140737488355328:=dE (eS _ om) hb;have I:=S.row hi;have V:0<ys.length:=by rw[hm];exact j5 ab O
 obtain⟨b,o,rfl⟩:=hR.someA V
 obtain⟨v',w',Z,ho,hg,_,U⟩:=uK (P:=P) w 0 t ty el ah z k bytes hu J ad ae ag ac O (.slice A n c) n xs I ⟨b,o,none⟩ m c2 ys hm
  (λj u hu=>by rw[js];exact hR.cell rfl hu) (λu hu=>dh.1 h1 u hu) (by unfold maxLen;omega) aa om
 obtain⟨y,c',rfl⟩:=wa.form ho;have D:gH w' el k y (n+m) c' (xs++ys):=ho;refine⟨y,c',w',Z,S.set hi (hf _) (Fr.of_grown (F:=λg=>jv A g) hg (λg e=>?_)) (λg e=>.inl e) D (λg e=>?_)⟩
 ·cases A with
  |none=>cases e
  |some a=>exact e
 ·have e':(Value.slice y (n+m) c').ownBlock=some g:=by
   cases y with
   |none=>cases e
   |some a=>exact e
  rw[e']at U;rcases U with h|h
  ·left;cases A with
   |none=>cases h
   |some a=>exact h.symm
  ·injection h with h;right;omega
def PM(W:World)(L:List HA)(gw gh n:Nat)(V:List Int)(σ:List (Nat×Value))(w:World):Prop :=
 ∃Q1 Q2,(match σ.lookup 7 with|some v=>∃A c,v=.slice A n c/\Q1=[.row 2 1 A n c (cY V)]|none=>(match σ.lookup 4 with|some v=>∃A c,v=.slice A 0 c/\Q1=[.row 2 1 A 0 c []]|none=>Q1=[])) /\
  (match σ.lookup 9 with|none=>Q2=[]|some u=>∃b,u=.pointer (some ⟨b,0,none⟩)/\Q2=[.blk b 38 [.int .i64 0,.int .i64 0,.slice none 0 0]])/\St No W w (Q2++(Q1++L))
section
variable{L:List HA}{ps:String}
theorem PM.start(S:St No W w L):PM W L gw gh n V [] w:=⟨[],[],rfl,rfl,S⟩
theorem PM.st(h:PM W L gw gh n V σ w):St No W w L:=by
 obtain⟨v,y,_,_,S⟩:=h;have:=S.drop (y++v).length;rwa[<-cL,jE]at this
theorem PM.no4(h:PM W L gw gh n V σ w)(y:σ.lookup 4=none)(z:σ.lookup 7=none):∃v,(match σ.lookup 9 with|none=>v=[]|some u=>∃b,u=.pointer (some ⟨b,0,none⟩)/\v=[.blk b 38 [.int .i64 0,.int .i64 0,.slice none 0 0]])/\St No W w (v++L):=by
 obtain⟨D,v,h1,h2,S⟩:=h;rw[z]at h1;simp only[y]at h1;subst h1;exact⟨v,h2,S⟩
theorem LD{k:TypeId}(h:PM W L gw gh n V σ w)(I:σ.lookup 4=none)(y:σ.lookup 7=none)(U:P.underlying t=some (.slice 2))(O:∀w,(sizeOf 2).run P w=.ok k w)(J:k=1) :
  gI P e ⟨d,.buildSlice t 0 #[],ty,ps,af,none⟩ w (λv w'=>PM W L gw gh n V ((4,v)::σ) w'):=by
 subst J;obtain⟨z,h2,S⟩:=h.no4 I y;refine gu rfl (mv U O S λA w' g D _=>⟨[.row 2 1 A 0 0 []],z,?_,?_,D.perm_ ef.symm⟩)
 ·simp only[cZ,show(7==4)=false from rfl,y,show(4==4)=true from rfl];exact⟨A,0,rfl,rfl⟩
 ·simp only[cZ,show(9==4)=false from rfl];exact h2
theorem DQ{s:Operand}{t cc:Nat}{J:Option Addr}{z:Value}(h:PM W L gw gh n V σ w)(h4:σ.lookup 4=some (.slice J 0 cc))(h7:σ.lookup 7=none)(hu:P.underlying t=some (.slice 2))(hI:(P.info? 2).map (λi=>(i.zero,i.size,i.bytes))=some (some z,1,bytes))(hz:Nat.beq z.cells.size 1=true)(hs:ev e s=.slice J 0 cc)(hx:ev e x=.slice B n c2)(hV:V.length=n)(h0:0<n)(hb:n*(bytes+1)<=140737488355328)(hR:Rd w B (cY V)) :
  gI P e ⟨d,.call ⟨.builtin .append,#[s,x],#[t,t]⟩,ty,ps,af,none⟩ w (λv w'=>PM W L gw gh n V ((7,v)::σ) w'):=by
 obtain⟨Q1,O,h1,h2,S⟩:=h;rw[h7]at h1;simp only[h4]at h1;obtain⟨A,c,D,rfl⟩:=h1;cases D
 have Z:St No W w (.row 2 1 J 0 cc []::(O++L)):=S.perm_ ef;obtain⟨I,c',w',y,U⟩:=LC (P:=P) (ty:=ty) (f:=λh=>h::(O++L)) (i:=0) Z rfl (λh=>rfl) hu hI hz rfl (by rw[gn,hV,cG]) h0 hR (dh.2 λv D=>by unfold cY at D;obtain⟨_,_,rfl⟩:=fC.1 D;rfl) (by rw[eH];exact hb) (c2:=c2);rw[eH]at y U;refine AY (v:=.slice I n c') (w':=w') ?_ ⟨[.row 2 1 I n c' (cY V)],O,?_,?_,U.perm_ ef.symm⟩
 ·simp[execOp,resolve,invoke,builtin,hs,hx,y]
 ·simp only[cZ,show(7==7)=true from rfl];exact⟨I,c',rfl,rfl⟩
 ·simp only[cZ,show(9==7)=false from rfl];exact h2
theorem Gy{z:Value}(h:PM W L gw gh n V σ w)(I:σ.lookup 9=none)(O:∀w,(zeroValue 38).run P w=.ok z w)(J:z.cells.toList=[ii 0,ii 0,.slice none 0 0]) :
  gI P e ⟨d,.alloc 38,ty,ps,af,none⟩ w (λv w'=>PM W L gw gh n V ((9,v)::σ) w'):=by
 obtain⟨y,U,h1,h2,S⟩:=h;rw[I]at h2;subst h2;refine gu rfl (kq (jV O J) S λb w' g D=>⟨y,[.blk b 38 [ii 0,ii 0,.slice none 0 0]],?_,?_,D⟩)
 ·simp only[cZ,show(7==9)=false from rfl,show(4==9)=false from rfl];exact h1
 ·simp only[cZ,show(9==9)=true from rfl];exact⟨b,rfl,rfl⟩
theorem PM.val4{v:Value}(h:PM W L gw gh n V ((4,v)::σ) w)(y:σ.lookup 7=none):∃A c,v=.slice A 0 c:=by
 obtain⟨D,I,h1,_,_⟩:=h;simp only[cZ,show(7==4)=false from rfl,y,show(4==4)=true from rfl]at h1;obtain⟨A,c,z,_⟩:=h1;exact⟨A,c,z⟩
theorem PM.val7{v:Value}(h:PM W L gw gh n V ((7,v)::σ) w):∃A c,v=.slice A n c:=by
 obtain⟨z,D,h1,_,_⟩:=h;simp only[cZ,show(7==7)=true from rfl]at h1;obtain⟨A,c,y,_⟩:=h1;exact⟨A,c,y⟩
theorem PM.val9{v:Value}(h:PM W L gw gh n V ((9,v)::σ) w):∃b,v=pt b:=by
 obtain⟨z,D,_,h2,_⟩:=h;simp only[cZ,show(9==9)=true from rfl]at h2;obtain⟨b,y,_⟩:=h2;exact⟨b,y⟩
theorem PM.fin(h:PM W L gw gh n V σ w)(z:σ.lookup 7=some (.slice A n c))(D:σ.lookup 9=some (pt b)):St No W w (.blk b 38 [ii 0,ii 0,.slice none 0 0]::.row 2 1 A n c (cY V)::L):=by
 obtain⟨I,J,h1,h2,S⟩:=h;rw[z]at h1;rw[D]at h2;obtain⟨_,_,v,rfl⟩:=h1;obtain⟨_,y,rfl⟩:=h2;cases v
 cases y
 exact S
end
theorem RJ{L:List Int}(cB:Nat)(hw:1<=gw/\gw<=1024)(hh:1<=gh/\gh<=1024)(hr:r.ok gw gh)(hV:V.length=gw*gh)(hL:L.length<=1048576)(hA:Rd W A (cY V))(hB:Rd W B (cY L)) :
  Fn prog 42 [.agg #[ii gw,ii gh,.slice A (gw*gh) c],.agg #[ii r.x0,ii r.y0,ii r.x1,ii r.y1],.slice B L.length cB] W (λv w'=>∃(A':Option Addr)(c':Nat)(V':List Int)(e:Int)(Q:List HA),V'.length=gw*gh/\v=.tuple #[.agg #[ii gw,ii gh,.slice A' (gw*gh) c'],ii e]/\St No W w' Q/\(Q=[]/\A'=A/\c'=c/\V'=V\/Q=[.row 2 1 A' (gw*gh) c' (cY V')])):=by
 have hwi:=λw=>Xr (W:=w) r hw hh hr;have har:=λw=>Xs (W:=w) r hw hh hr;have hm:gw*gh<=1024*1024:=cE hw.2 hh.2;have h1m:1<=gw*gh:=cE hw.1 hh.1
 have hcell:∀x y,x<gw->y<gh->y*gw+x<gw*gh:=λx y hx hy=>by
  have:=cI gw (show y+1<=gh by omega);rw[iI,kR,cD gh gw]at this;omega
 obtain⟨x0,y0,x1,y1⟩:=r;obtain⟨⟨hx,hx1⟩,hy,hy1⟩:=hr;dsimp only at *;have har2:(y1+1-y0)*(x1+1-x0)<=1024*1024:=cE om om;have hrow:∀y,y<=y1->(y+1-y0)*(x1+1-x0)<=(y1+1-y0)*(x1+1-x0):=λy h=>cI _ om;generalize hN:gw*gh=N at *;generalize hLn:L.length=n at *;refine yI func42 ?_;refine zN ?_;intro b_m w2_ g2_ S;refine zN ?_;intro b_r w4_ g4_ S;refine zN ?_;intro b_res w6_ g6_ S;refine zC (hwi _) ?_;intro w7_ g7_ S;refine zg ?_;rcases cr ((n:Int)≠((y1+1-y0)*(x1+1-x0):Nat))with hne|hne
 ·skip;refine zC (har _) ?_;refine yA ?_;intro _ S;exact pG S ⟨A,c,V,6,_,hV,rfl,S.drop 3,.inl ⟨rfl,rfl,rfl,rfl⟩⟩
 ·replace hne:(n:Int)=((y1+1-y0)*(x1+1-x0):Nat):=fH.1 hne;have hnn:n=(y1+1-y0)*(x1+1-x0):=om;refine EO har ?_;intro _ S;refine zf ?_;refine z ?_;refine zc ?_;refine gP (M:=λe w=>SL e [(2,.slice B n cB),(3,pt b_m),(4,pt b_r),(6,pt b_res)]/\St No W w [.blk b_res 38 [ii 0,ii 0,.slice none 0 0],.blk b_r 24 [ii x0,ii y0,ii x1,ii y1],.blk b_m 38 [ii gw,ii gh,.slice A N c]]) ?_ ?_
  ·skip;refine zg ?_
   refine dl (λk e w=>∃i:Nat,i+k=n/\SL e [(2,.slice B n cB),(3,pt b_m),(4,pt b_r),(6,pt b_res),(9,ii i)]/\St No W w [.blk b_res 38 [ii 0,ii 0,.slice none 0 0],.blk b_r 24 [ii x0,ii y0,ii x1,ii y1],.blk b_m 38 [ii gw,ii gh,.slice A N c]]) n
    ⟨0,om,sl,S⟩ ?_
   clear S;rintro k e w2 ⟨i,hi,hsl,S⟩;rw[hsl.fold];rcases cr (i<n)with hlt|hlt
   ·have sa_B:dO B:=hB.someA (by rw[gn];omega);have hget:(cY L)[(i:Int).toNat * 1]?=some (ii (L.getD i 0)):=by rw[cG,b7];exact gc (kr om)
    generalize L.getD i 0=v at *;have hmay:=λw=>Pf v w;rcases hb:iL v with _|_
    ·rw[hb]at hmay;refine zT (hB.gr S.out) hget ?_;refine zC (hmay w2) ?_;refine yA ?_;intro _ S;exact pG S ⟨A,c,V,7,_,hV,rfl,S.drop 3,.inl ⟨rfl,rfl,rfl,rfl⟩⟩
    ·rw[hb]at hmay;refine zT (hB.gr S.out) hget ?_;refine zC (hmay w2) ?_;intro w13_ g13_ S;refine zg ?_;exact⟨k-1,om,i+1,om,sl,S⟩
   ·skip;refine zg ?_;exact⟨sl,S⟩
  ·rintro e w2 ⟨hsl,S⟩;rw[hsl.fold];refine zc ?_;refine gP (M:=λe w=>∃(A2:Option Addr)(c2 b_o:Nat),SL e [(2,.slice B n cB),(3,pt b_m),(4,pt b_r),(6,pt b_res),(10,pt b_o)]/\(λV2=>St No W w [.blk b_o 38 [ii gw,ii gh,.slice A2 N c2],.row 2 1 A2 N c2 (cY V2),.blk b_res 38 [ii 0,ii 0,.slice none 0 0],.blk b_r 24 [ii x0,ii y0,ii x1,ii y1],.blk b_m 38 [ii gw,ii gh,.slice A N c]]) V) ?_ ?_
   ·skip;refine zc ?_;refine nI (C:=(PM W [.blk b_res 38 [ii 0,ii 0,.slice none 0 0],.blk b_r 24 [ii x0,ii y0,ii x1,ii y1],.blk b_m 38 [ii gw,ii gh,.slice A N c]] gw gh N V)) [4,7,9] (.one 0 (.one 1 (.one 2 (.one 3 (.one 5 (.one 6 (.two 4 (.two 7 (.one 8 (.one 9 .nil)) 9 (.one 7 (.one 8 .nil))) 9 (.one 4 (.one 7 (.one 8 .nil)))))))))) [10] (by kernel_rfl) (by kernel_rfl) (PM.start (S.gr (Gr.drew _))) ?_;simp only[qK,iS,dK,dR];refine jK ?_;refine oX rfl (du gT rfl cR rfl rfl) ?_;refine mo ?_;refine jK ?_;refine xh rfl (λτ wq hq=>cV cw rfl rfl ((PM.st hq).blk (i:=2) rfl) rfl) ?_;refine zU (λτ wq hq=>((PM.st hq).blk (i:=2) rfl)) ?_;refine zU (λτ wq hq=>((PM.st hq).blk (i:=2) rfl)) ?_;refine zW ?_;refine nf ?_ ?_
    ·refine dC rfl rfl (λwq hq=>LD hq rfl rfl dk cR rfl) ?_;rintro v4 w4 h4;obtain⟨A4,c4,rfl⟩:=h4.val4 rfl;refine zW ?_;refine nf ?_ ?_
     ·refine dC rfl rfl (λwq hq=>DQ hq rfl rfl dk jR rfl rfl rfl hV om om (hA.gr (PM.st hq).out)) ?_;rintro v7 w7 h7;obtain⟨A7,c7,rfl⟩:=h7.val7;refine zW ?_;refine dC rfl rfl (λwq hq=>Gy hq rfl ZQ rfl) ?_;rintro v9 w9 h9;obtain⟨b9,rfl⟩:=h9.val9;refine zW ?_;refine jm ?_;rintro wz hz;have S:=hz.fin rfl rfl;refine d8 (i:=0) S rfl (YX _) rfl rfl rfl rfl rfl rfl (λw' S=>?_);refine ze ?_;exact⟨_,_,_,sl,S⟩
     ·refine dC rfl rfl (λwq hq=>Gy hq rfl ZQ rfl) ?_;rintro v9 w9 h9;obtain⟨b9,rfl⟩:=h9.val9;refine zW ?_;refine dC rfl rfl (λwq hq=>DQ hq rfl rfl dk jR rfl rfl rfl hV om om (hA.gr (PM.st hq).out)) ?_;rintro v7 w7 h7;obtain⟨A7,c7,rfl⟩:=h7.val7;refine zW ?_;refine jm ?_;rintro wz hz;have S:=hz.fin rfl rfl;refine d8 (i:=0) S rfl (YX _) rfl rfl rfl rfl rfl rfl (λw' S=>?_);refine ze ?_;exact⟨_,_,_,sl,S⟩
    ·refine dC rfl rfl (λwq hq=>Gy hq rfl ZQ rfl) ?_;rintro v9 w9 h9;obtain⟨b9,rfl⟩:=h9.val9;refine zW ?_;refine dC rfl rfl (λwq hq=>LD hq rfl rfl dk cR rfl) ?_;rintro v4 w4 h4;obtain⟨A4,c4,rfl⟩:=h4.val4 rfl;refine zW ?_;refine dC rfl rfl (λwq hq=>DQ hq rfl rfl dk jR rfl rfl rfl hV om om (hA.gr (PM.st hq).out)) ?_;rintro v7 w7 h7;obtain⟨A7,c7,rfl⟩:=h7.val7;refine zW ?_;refine jm ?_;rintro wz hz;have S:=hz.fin rfl rfl;refine d8 (i:=0) S rfl (YX _) rfl rfl rfl rfl rfl rfl (λw' S=>?_);refine ze ?_;exact⟨_,_,_,sl,S⟩
   ·rintro e w3 ⟨A2,c2,b_o,hsl,S⟩;rw[hsl.fold];have ex1:(x1:Int)+1=((x1+1:Nat):Int):=rfl;refine zg ?_
    refine dl (λk e w=>∃(y i:Nat)(V2:List Int),y0<=y/\y+k=y1+1/\i=(y-y0)*(x1+1-x0)/\V2.length=N/\SL e [(2,.slice B n cB),(3,pt b_m),(4,pt b_r),(6,pt b_res),(10,pt b_o),(11,ii i),(12,ii y)]/\St No W w [.blk b_o 38 [ii gw,ii gh,.slice A2 N c2],.row 2 1 A2 N c2 (cY V2),.blk b_res 38 [ii 0,ii 0,.slice none 0 0],.blk b_r 24 [ii x0,ii y0,ii x1,ii y1],.blk b_m 38 [ii gw,ii gh,.slice A N c]]) (y1+1-y0)
     ⟨y0,0,V,cN _,om,by simp,hV,sl,S⟩ ?_
    clear S;rintro k e w4 ⟨y,i,V2,hy0,hyk,hi,hV2,hsl,S⟩;rw[hsl.fold];rcases cr (y<=y1)with hlt|hlt
    ·have hq1:(y+1-y0)*(x1+1-x0)=(y-y0)*(x1+1-x0)+(x1+1-x0):=by rw[(om:y+1-y0=y-y0+1),iI,kR]
     have hq2:=hrow y hlt;have hc:=λx h=>hcell x y h om;have eyg:(y:Int)*gw=((y*gw:Nat):Int):=by push_cast;rfl
     generalize hq:(y-y0)*(x1+1-x0)=q at *;generalize hyg:y*gw=yg at *;refine zg ?_
     refine dl (λk2 e w=>∃(x i:Nat)(V2:List Int),x0<=x/\x+k2=x1+1/\i=q+(x-x0)/\V2.length=N/\SL e [(2,.slice B n cB),(3,pt b_m),(4,pt b_r),(6,pt b_res),(10,pt b_o),(11,ii i),(12,ii y),(13,ii x)]/\St No W w [.blk b_o 38 [ii gw,ii gh,.slice A2 N c2],.row 2 1 A2 N c2 (cY V2),.blk b_res 38 [ii 0,ii 0,.slice none 0 0],.blk b_r 24 [ii x0,ii y0,ii x1,ii y1],.blk b_m 38 [ii gw,ii gh,.slice A N c]]) (x1+1-x0)
      ⟨x0,i,V2,cN _,om,om,hV2,sl,S⟩ ?_
     clear S hi hV2;rintro k2 e w5 ⟨x,i2,V3,hx0,hxk,hi2,hV3,hsl,S⟩;rw[hsl.fold];rcases cr (x<=x1)with hxl|hxl
     ·have sa_B:dO B:=hB.someA (by rw[gn];omega);have hcx:=hc x om;have sa_v:dO A2:=(S.row (i:=1) rfl).rd.someA (by rw[gn];omega);have hget:(cY L)[(i2:Int).toNat * 1]?=some (ii (L.getD i2 0)):=by rw[cG,b7];exact gc (kr om)
      have eq2:((yg:Nat):Int)+x=((yg+x:Nat):Int):=by push_cast;rfl
      have hset:(cY V3).set (((yg+x:Nat):Int).toNat * 1) (ii (L.getD i2 0))=cY (V3.set (yg+x) (L.getD i2 0)):=by rw[cG,b7];simp[cY,uO]
      generalize L.getD i2 0=u at *;refine yA ?_;refine pF (C:=λwq=>Gr w5 wq) [0,1,2,3,4,5,6,7,8,9,10,11] [12,13] (by kernel_rfl) (by kernel_rfl) (Gr.drew _) ?_;simp only[iS,dK,dR];refine eO (du gT rfl iO rfl rfl) ?_;refine fo (λwq hq=>cV dk rfl rfl ((S.gr hq).blk (i:=0) rfl) rfl) ?_;refine eO (cH rfl) ?_;refine eO (du gT rfl cR rfl rfl) ?_;refine fo (λwq hq=>cV cw rfl rfl ((S.gr hq).blk (i:=4) rfl) rfl) ?_;refine eO (fh rfl (by rw[eyg];omega)) ?_;rw[eyg];refine zQ ?_;rw[eq2];refine zO (λwq hq=>(hB.gr (S.gr hq).out)) hget ?_;refine zE ?_;intro w17_ g17_ S;refine jk (i:=1) S rfl (cR _) rfl rfl rfl rfl (by rw[gn];omega) rfl ?_;intro w18_ S;refine zg ?_;rw[hset]at S;exact⟨k2-1,om,x+1,i2+1,V3.set (yg+x) u,om,om,om,by simp[hV3],sl,S⟩
     ·obtain rfl:x=x1+1:=om;refine zg ?_;exact⟨k-1,om,y+1,i2,V3,om,om,om,hV3,sl,S⟩
    ·skip;refine yA ?_;intro _ S;exact pG S ⟨A2,c2,V2,0,_,hV2,rfl,S.sub (.cons _ (.cons_cons _ (rC _))),.inr rfl⟩
end
theorem Ww{rest:List Oper}{ps:String}{y:Operand}{a b:ByteArray}(v:ev e x=.string a)(z:ev e y=.string b)(h:∀B:Bool,RW P ops Q rest (fI e d (.bool B)) w):RW P ops Q (⟨d,.binOp .neq t x y t',ty,ps,af,none⟩::rest) e w:=cq (Jp v z rfl) (h _)
section
variable{l:List Int}
theorem RK(n m:Int)(v:¬((1<=n/\n<=1024)/\1<=m/\m<=1024)):Fn prog 82 [ii n,ii m] W (dp (.tuple #[ii 0,ii 3]) W):=by
 have S:=St.start W;rcases cr (n<1)with h1|h1
 ·skip;refine zI func82 ?_;exact zZ
 ·rcases cr (n>1024)with h2|h2
  ·skip;refine zI func82 ?_;exact zZ
  ·rcases cr (m<1)with y|y
   ·skip;refine zI func82 ?_;exact zZ
   ·skip;refine zI func82 ?_;exact zZ
theorem RL (hc:l.length<=c) (hm:l.length<=1099511627776) (hA:Rd W A (f9 l)):Fn prog 37 [.slice A l.length c] W (AI W):=by
 have hge:=fun w hA (jF n:Nat) h1 h2=>N2 (W:=w) (A:=A) (c:=c) (l:=l) jF n h1 h2 hm hA
 rcases cr (l.length < 13) with h13 | h13
 ·skip
  have S:=St.start W
  refine zI func37 ?_
  refine zX ?_
  exact (.no (by decide) S.out)
 ·have hR5:Rd W A (f9 (l.take 5)):=by rw [<-tK]; exact hA.tk _
  have hl5:(l.take 5).length=5:=by rw [d7]; omega
  generalize l.take 5=l5 at *
  have S:=St.start W
  refine zI func37 ?_
  refine zg ?_
  refine cq (jb (n:=(5:Int)) q8 gJ rfl rfl om om) ?_
  refine dH (BZ (bs:=l5) q8 dv fk (by rw [hl5]; rfl) (hR5.gr S.out)) ?_
  refine Ww rfl rfl fun tb=>?_
  refine ze ?_
  rcases tb with _ | _
  ·skip
   refine zK (hge W (hA.gr S.out) 5 2 (by decide) (by decide)) ?_
   rintro _ w1_ ⟨x1,hx1,rfl,g1_⟩
   have S:=S.gr g1_
   obtain ⟨X,hX⟩:∃ X,IntKind.i64.wrap (x1+1)=X:=⟨_,rfl⟩
   refine cq (nO rfl rfl hX) ?_
   refine zK (hge _ (hA.gr S.out) 7 2 (by decide) (by decide)) ?_
   rintro _ w2_ ⟨x2,hx2,rfl,g2_⟩
   have S:=S.gr g2_
   obtain ⟨Y,hY⟩:∃ Y,IntKind.i64.wrap (x2+1)=Y:=⟨_,rfl⟩
   refine cq (nO rfl rfl hY) ?_
   refine zg ?_
   rcases cr ((1<=X/\X<=1024)/\1<=Y/\Y<=1024) with hg | hg
   ·obtain ⟨gw,rfl⟩:=cJ (show 0<=X by omega)
    obtain ⟨gh,rfl⟩:=cJ (show 0<=Y by omega)
    have hgw:1<=gw/\gw<=1024:=om
    have hgh:1<=gh/\gh<=1024:=om
    have hti:=fun W=>Wu gw gh hgw hgh W
    have hmm:cU gh * cU gw<=64 * 64:=cE (jS hgh.2) (jS hgw.2)
    have hfin:∀ {w:World} {B:Option Addr} {cB:Nat} {es:List (Int × Int)},es.length=cU gh * cU gw->ES (13+cU gh * cU gw * 8:Nat) es->St No W w [.row 102 2 B (cU gh * cU gw) cB (eT es)]->AI W (.tuple #[ii gw,ii gh,.slice B (cU gh * cU gw) cB,ii 0]) w:=fun h1 h2 h3=>by rw [cD (cU gh)] at *; exact ⟨_,_,_,_,_,_,_,rfl,h3,fun _=>⟨gw,gh,_,rfl,rfl,hgw,hgh,rfl,h1,h2,rfl⟩⟩
    generalize cU gh * cU gw=N at *
    have e8:(8:Int) * (N:Nat)=((8 * N:Nat):Int):=om
    have e13:(13:Int)+((8 * N:Nat):Int)=((13+N * 8:Nat):Int):=om
    refine EO hti ?_
    intro _ S
    refine zK (hge _ (hA.gr S.out) 9 4 (by decide) (by decide)) ?_
    rintro _ w4_ ⟨x3,hx3,rfl,g4_⟩
    have S:=S.gr g4_
    refine z ?_
    obtain ⟨b3,hb3⟩:∃ b,(x3 != ((N:Nat):Int))=b:=⟨_,rfl⟩
    refine cq (ff (b:=b3) rfl hb3) ?_
    refine ze ?_
    rcases b3 with _ | _
    ·skip
     refine zc ?_
     refine eX rfl ?_
     refine zc ?_
     refine gO ?_
     try show CW _ _ _ _ _ _
     rcases cr (l.length < 13+N * 8) with hsh | hsh
     ·skip
      refine yA ?_
      exact CF rfl rfl rfl rfl (.no (by decide) S.out)
     ·skip
      repeat refine dm ?_
      refine dz ?_
      refine cq (cH rfl) ?_
      refine cq (p6 q8 rfl) ?_
      refine cq (cH rfl) ?_
      refine cq (fh rfl om) ?_
      rw [e8]
      refine cq (fh rfl om) ?_
      rw [e13]
      refine cq (ff (b:=false) rfl (cC om)) ?_
      first | refine eF ?_ | (refine di ?_; show CW _ _ _ _ _ _) | refine di ?_
      repeat refine dm ?_
      refine eX rfl ?_
      repeat refine dm ?_
      refine gO ?_
      try show CW _ _ _ _ _ _
      repeat refine dm ?_
      refine dz ?_
      refine cq (cH rfl) ?_
      refine cq (fh rfl om) ?_
      rw [e8]
      refine zg ?_
      rw [e13]
      refine zg ?_
      refine mv iY ZT S ?_
      intro A_o w6_ g6_ S sa_o
      refine zg ?_
      refine dl (fun m e w=>∃ (i:Nat) (q:Int) (es:List (Int × Int)) (B:Option Addr) (cB:Nat),i+m=N/\es.length=i/\q=(13+N * 8:Nat)+(es.map Prod.snd).sum/\((13+N * 8:Nat)<=q/\q<=(13+N * 8:Nat)+(i:Int) * 1048576)/\ES (13+N * 8:Nat) es /\
        SL e [(0,.slice A l.length c),(6,ii gw),(7,ii gh),(8,ii N),(10,ii q),(11,.slice B i cB),(12,ii i)] /\
        St No W w [.row 102 2 B i cB (eT es)]) N
       ⟨0,_,[],_,_,om,rfl,by simp,om,Ld _,⟨rfl,rfl,rfl,rfl,rfl,rfl,rfl,trivial⟩,S⟩ ?_
      clear S
      rintro m e w ⟨i,q,es,B,cB,hi,hes,hq,hqr,hch,hsl,S⟩
      rw [hsl.fold]
      rcases cr (i < N) with hlt | hlt
      ·have e8i:(8:Int) * (i:Nat)=((8 * i:Nat):Int):=om
       have e13i:(13:Int)+((8 * i:Nat):Int)=((13+8 * i:Nat):Int):=om
       have e17i:(17:Int)+((8 * i:Nat):Int)=((17+8 * i:Nat):Int):=om
       refine zg ?_
       rw [e8i]
       refine zg ?_
       rw [e13i]
       refine zK (hge w (hA.gr S.out) (13+8 * i) 4 om (by decide)) ?_
       rintro _ w7_ ⟨v1,hv1,rfl,g7_⟩
       have S:=S.gr g7_
       refine zg ?_
       rw [e8i]
       refine zg ?_
       rw [e17i]
       refine zK (hge _ (hA.gr S.out) (17+8 * i) 4 om (by decide)) ?_
       rintro _ w8_ ⟨v2,hv2,rfl,g8_⟩
       have S:=S.gr g8_
       refine zN ?_
       intro b_x w10_ g10_ S
       refine Z1 0 S ?_
       intro w11_ S
       refine ze ?_
       rcases cr (v1=q/\1<=v2/\v2<=1048576) with hok | hok
       ·obtain ⟨rfl,h1,h2⟩:=hok
        repeat refine dm ?_
        refine dz ?_
        refine cq (du uf rfl cR rfl rfl) ?_
        refine dH (cV cw rfl rfl (S.blk (i:=0) rfl) rfl) ?_
        refine cq (cH rfl) ?_
        refine cq (ff (b:=false) rfl (eo.2 om)) ?_
        refine cq (cH rfl) ?_
        first | refine eD rfl ?_ | (refine dr rfl ?_; refine cq (du uf rfl cR rfl rfl) ?_)
        first | refine eD rfl ?_ | (refine dr rfl ?_; refine dH (cV cw rfl rfl (S.blk (i:=0) rfl) rfl) ?_)
        first | refine eD rfl ?_ | (refine dr rfl ?_; refine cq (ff (b:=false) rfl (cC om)) ?_)
        iterate 2 refine cq (cH rfl) ?_
        first | refine eD rfl ?_ | (refine dr rfl ?_; refine cq (du uf rfl cR rfl rfl) ?_)
        first | refine eD rfl ?_ | (refine dr rfl ?_; refine dH (cV cw rfl rfl (S.blk (i:=0) rfl) rfl) ?_)
        first | refine eD rfl ?_ | (refine dr rfl ?_; refine cq (ff (b:=false) rfl (cC om)) ?_)
        refine cq (cH rfl) ?_
        first | refine eF ?_ | (refine di ?_; show CW _ _ _ _ _ _) | refine di ?_
        repeat refine dm ?_
        refine eX rfl ?_
        repeat refine dm ?_
        refine gO ?_
        try show CW _ _ _ _ _ _
        repeat refine dm ?_
        refine dz ?_
        refine cq (cH rfl) ?_
        refine dH (fx uf rfl (ZT _) rfl (S.blk (i:=0) rfl) rfl rfl) ?_
        refine yb S ?_
        intro A_on w13_ g13_ S sa_on
        refine ZP 2 0 S ?_
        intro A_o2 c_o2 w14_ S sa_o
        refine zg ?_
        have S:=S.drop 2
        rw [wr] at S
        have hsum:((es ++ [(v1,v2)]).map Prod.snd).sum=(es.map Prod.snd).sum+v2:=by simp
        exact ⟨m - 1,om,i+1,v1+v2,es ++ [(v1,v2)],A_o2,c_o2,om,by simp [hes],by rw [hsum]; omega,om,If hch hq ⟨h1,h2⟩,⟨rfl,rfl,rfl,rfl,rfl,rfl,ie om,trivial⟩,S⟩
       ·rcases cr (v1=q) with h1 | h1
        ·rcases cr (v2 < 1) with h2 | h2
         ·skip
          (iterate 3 refine z ?_); refine zf ?_; (iterate 3 refine z ?_); refine zt ?_; iterate 4 refine z ?_
          first | refine eD rfl ?_ | (refine dr rfl ?_; (first | refine cq (ff (b:=true) rfl (cF om)) ?_ | refine cq (ff (b:=false) rfl (cC om)) ?_ | refine cq (cH rfl) ?_))
          iterate 5 refine z ?_
          refine zq ?_
          exact CF rfl rfl rfl rfl (.no (by decide) S.out)
         ·skip
          (iterate 3 refine z ?_); refine zf ?_; (iterate 3 refine z ?_); refine zf ?_; (iterate 4 refine z ?_); refine zt ?_; iterate 5 refine z ?_
          refine zq ?_
          exact CF rfl rfl rfl rfl (.no (by decide) S.out)
        ·skip
         (iterate 3 refine z ?_); refine zt ?_; iterate 3 refine z ?_
         first | refine eD rfl ?_ | (refine dr rfl ?_; (first | refine cq (ff (b:=true) rfl (cF om)) ?_ | refine cq (ff (b:=false) rfl (cC om)) ?_ | refine cq (cH rfl) ?_))
         iterate 4 refine z ?_
         first | refine eD rfl ?_ | (refine dr rfl ?_; (first | refine cq (ff (b:=true) rfl (cF om)) ?_ | refine cq (ff (b:=false) rfl (cC om)) ?_ | refine cq (cH rfl) ?_))
         iterate 5 refine z ?_
         refine zq ?_
         exact CF rfl rfl rfl rfl (.no (by decide) S.out)
      ·obtain rfl:i=N:=om
       refine zX ?_
       exact (hfin hes hch S)
    ·skip
     refine zX ?_
     exact (.no (by decide) S.out)
   ·skip
    refine zC (RK (W:=_) X Y hg) ?_
    intro w15_ g15_ S
    refine zX ?_
    exact (.no (by decide) S.out)
  ·skip
   refine zX ?_
   exact (.no (by decide) S.out)
end
end Go.Proofs.YtceahkcepefcaaaGreatDoor
