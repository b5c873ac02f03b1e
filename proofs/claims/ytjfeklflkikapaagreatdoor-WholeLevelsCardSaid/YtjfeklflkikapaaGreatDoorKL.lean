/- hachuretop.WholeLevels: a part of the proof that the law returns true at every input; no condition of its own. -/
import Derived.Test.YtjfeklflkikapaaGreatDoorKJ
set_option maxRecDepth 100000
set_option maxHeartbeats 16000000
set_option linter.unusedVariables false
set_option linter.unusedSimpArgs false
namespace Go.Proofs.YtjfeklflkikapaaGreatDoor
open Go.Proofs.Tryz Go.RowKit
variable{f:FuncId}{h:HA}{Y a a' e0:Int}{σ:List (Nat × Value)}{K:List (Nat × Value)->Act->Prop}{l xs τ:List Value}{c c1 dn el el' g gh gw i j k k' m n n' p rb sz tb:Nat}{cc:Nat->Int}{bs ns:Nat->Nat}{As:Nat->Option Addr}{Rs:Nat->Option Nat}{F:Nat->Prop}{e:Nat->Value}{hi x:Operand}{A A1:Option Addr}{d:Option Tmp}{t:TypeId}{W w w' wq:World}{C:World->Prop}
theorem MT(l:List RG)(r:RG):mY (l++[r])=mY l++r.cells:=by simp[mY]
theorem HM{l:List RG}{r:RG}(h:k<l.length):(mY l).take (k*2)++r.cells++(mY l).drop (k*2+2)=mY (l.set k r):=by
 have:=ye (f:=RG.cells) (m:=2) (λ_=>rfl) (l:=l) (k:=k) (a:=l[k]) (a':=r) (d:=0) (cs:=r.cells) (ct h) (by show 0+2<=2;omega) (by simp[RG.cells]);exact this
def HA.gfam(el sz k:Nat)(As:Nat->Option Addr)(ns cs:Nat->Nat)(xs:Nat->List Value):HA :=
 ⟨λg=>∃t,t<k/\jv (As t) g,λw=>∀t,t<k->gH w el sz (As t) (ns t) (cs t) (xs t),λ_ _ h _ hR t ht=>(hR t ht).keep (λg hg=>h g ⟨t,ht,hg⟩),λ_ hR _⟨t,ht,hg⟩=>(hR t ht).lt hg⟩
section
variable{L:List HA}{cs:Nat->Nat}{xs:Nat->List Value}
theorem St.gfam0(S:St F W w L)(As:Nat->Option Addr)(ns cs:Nat->Nat)(xs:Nat->List Value):St F W w (.gfam el sz 0 As ns cs xs::L) :=
 S.push (Gr.refl w) (h:=.gfam el sz 0 As ns cs xs) (λt v=>by omega) (λg⟨t,v,_⟩=>by omega)
theorem St.grow_(S:St F W w L)(hi:gi L i=some (.gfam el sz k As ns cs xs)){t:Nat}(v:t<k):gH w el sz (As t) (ns t) (cs t) (xs t):=S.ok hi t v
theorem St.gfamPush(S:St F W w (.row el sz A n c l::.gfam el sz k As ns cs xs::L))(D:xs k=l)(I:ns k=n):St F W w (.gfam el sz (k+1) (nX As k A) ns (nX cs k c) xs::L):=by
 have h1:=S.sep.1;have h2:=S.sep.2.2.1;have y:=S.sep.2.2.2;refine⟨S.fr,⟨λt z=>?_,λg⟨t,z,e⟩=>?_⟩,λg⟨t,z,e⟩h hh=>?_,y.2⟩
 ·by_cases e:t=k
  ·subst e;rw[iU,iU,D,I];exact h1.1
  ·rw[gY om,gY om];exact h2.1 t om
 ·by_cases v:t=k
  ·subst v;rw[iU]at e;exact h1.2 g e
  ·rw[gY om]at e;exact h2.2 g ⟨t,om,e⟩
 ·by_cases v:t=k
  ·subst v;rw[iU]at e;exact S.sep.2.1 g e h (cW _ hh)
  ·rw[gY om]at e;exact y.1 g ⟨t,om,e⟩ h hh
end
theorem CS.gfamRd{L:List HA}{t:Nat}{cs:Nat->Nat}{xs:Nat->List Value}{y z:List Value}(I:CS F W L i el' k' n' y z wq τ)(v:j≠i)(D:gi L j=some (.gfam el sz k As ns cs xs))(J:t<k):Rd wq (As t) (xs t):=by
 have h:=I.ok v D;exact gH.rd (h t J)
def EQ(k:Nat)(ac:Nat->Nat)(As:Nat->Option Addr)(ns cs:Nat->Nat):List Value:=(List.range k).flatMap λj=>[ii (ac j:Nat),.slice (As j) (ns j) (cs j)]
theorem Pi{ac:Nat->Nat}{cs:Nat->Nat}(h:j<k):((EQ k ac As ns cs).drop (j*2)).take 2=[ii (ac j:Nat),.slice (As j) (ns j) (cs j)] :=
 lG (f:=λj=>[ii (ac j:Nat),.slice (As j) (ns j) (cs j)]) (λ_=>rfl) (eu h)
theorem HN{ac:Nat->Nat}{cs:Nat->Nat}:EQ k ac As ns cs++[ii (ac k:Nat),.slice A (ns k) c]=EQ (k+1) ac (nX As k A) ns (nX cs k c):=by
 unfold EQ;rw[eG,kZ,lx,iU,iU];congr 1;rw[iA,iA];congr 1;exact eQ λt v=>by rw[gY (dJ.1 v),gY (dJ.1 v)]
def vd(w:World)(tb gw gh:Nat)(V:List Int):Prop:=∃Ao co As cs,eL w tb 340 [ii gw,ii gh,.slice Ao (Nat.log2 (min gw gh)+1) co] /\
 gH w 343 2 Ao (Nat.log2 (min gw gh)+1) co (EQ (Nat.log2 (min gw gh)+1) (f7 gw) As (λk=>f7 gw k*f7 gh k) cs) /\
 ∀k,k<Nat.log2 (min gw gh)+1->gH w 151 2 (As k) (f7 gw k*f7 gh k) (cs k) (mY (tf V gw gh k))
def VP(tb:Nat)(Ao:Option Addr)(co:Nat)(As:Nat->Option Addr)(cs:Nat->Nat)(gw gh:Nat)(V:List Int):List HA :=
 [.row 343 2 Ao (Nat.log2 (min gw gh)+1) co (EQ (Nat.log2 (min gw gh)+1) (f7 gw) As (λk=>f7 gw k*f7 gh k) cs),
 .gfam 151 2 (Nat.log2 (min gw gh)+1) As (λk=>f7 gw k*f7 gh k) cs (λk=>mY (tf V gw gh k)),.blk tb 340 [ii gw,ii gh,.slice Ao (Nat.log2 (min gw gh)+1) co]]
theorem vd.gr{V:List Int}(h:vd w tb gw gh V)(g:Gr w w'):vd w' tb gw gh V:=by
 obtain⟨v,z,As,cs,h1,h2,D⟩:=h;exact⟨v,z,As,cs,h1.gr g,h2.gr g,λy I=>(D y I).gr g⟩
def Ej(V:List Int)(gw k n:Nat):List RG:=(List.range n).map λi=>wm V gw k (i%f7 gw k) (i/f7 gw k)
theorem MU(V:List Int){x:Nat}(y:Nat)(v:x<f7 gw k):Ej V gw k (y*f7 gw k+x)++[wm V gw k x y]=Ej V gw k (y*f7 gw k+x+1):=by
 have h1:=jo (Y:=y) v;unfold Ej;rw[eG,fq,i7,h1.1,h1.2]
section
variable{cap:Nat}
theorem HO(hG:eJ W p gw gh cc A cap bs Rs):Fn prog 140 [pt p] W
  (λv w'=>∃tb Ao co As cs,v=.tuple #[pt tb,ii 0]/\St No W w' (VP tb Ao co As cs gw gh (dw gw gh cc))):=by
 have hw:=hG.sw;have hh:=hG.sh;have hm:1<=gw*gh/\gw*gh<=1024*1024:=⟨cE hw.1 hh.1,cE hw.2 hh.2⟩;have e1:((gw:Int)-1)=((gw-1:Nat):Int):=om;have e2:((gh:Int)-1)=((gh-1:Nat):Int):=om;have hV:=qf gw gh cc
 have aN:∀w,Gr W w->Fn prog 39 [pt p,.agg #[ii 0,ii 0,ii (gw-1),ii (gh-1)]] w (jc (λv=>.tuple #[v,ii 0]) 2 1 (gw*gh) (cY (dw gw gh cc)) w):=λw g=>by
  have:=iz (W:=w) 0 0 (gw-1) (gh-1) om om (hG.gr g);rw[<-e1,<-e2,(om:gw-1+1-0=gw),(om:gh-1+1-0=gh),wJ,cD gh gw]at this;exact this
 generalize dw gw gh cc=V at *;have am:min (gw:Int) gh=((min gw gh:Nat):Int):=om;obtain⟨mn,aY⟩:∃mn,mn=min gw gh:=⟨_,rfl⟩;have an:1<=mn/\mn<=1024/\mn<=gw/\mn<=gh:=om;have hK:2^Nat.log2 mn<=mn:=rx om
 have aE:Nat.log2 mn<=10:=by
  by_cases h:Nat.log2 mn<=10
  ·exact h
  ·have:=fP (show 0<2 by omega) (show 11<=Nat.log2 mn by omega);omega
 unfold VP;rw[<-aY]at am ⊢;obtain⟨K,eK⟩:∃K,K=Nat.log2 mn:=⟨_,rfl⟩;rw[<-eK]at hK aE ⊢;have S:=St.start W;refine zI func140 ?_;refine zC (mC p gw gh _ W (hG.top.gr S.out)) ?_;intro bJ bw S;refine yA ?_;intro L _ S;refine zC (uo p gw gh hw.2 hh.2 _ _ (hG.top.gr S.out)) ?_;intro bK bz S;refine zK (aN _ S.out) ?_;rintro _ bL ⟨ag,aj,rfl,au,av,aU⟩;have S:=S.pushRow au av aU;refine zg ?_;refine Di jy x8 rfl rfl rfl (n:=gw*gh) (c:=gw*gh) om om om om S ?_;intro U bM bA S ae;refine yA ?_;intro ai _ S
 refine dl (λm e w=>∃(k:Nat)(l:List RG),k+m=gw*gh/\l.length=gw*gh/\(∀i,i<k->l[i]?=some (wm V gw 0 (i%gw) (i/gw)))/\SL e [(4,ii gw),(5,ii gh),(6,pt L),(9,pt ai),(42,.slice ag (gw*gh) aj),(43,ii (gw*gh:Nat)),(44,ii k)] /\
  St No W w [.blk ai 343 [ii gw,.slice U (gw*gh) (gw*gh)],.row 151 2 U (gw*gh) (gw*gh) (mY l),.row 2 1 ag (gw*gh) aj (cY V),.blk L 340 [ii gw,ii gh,.slice none 0 0]]) (gw*gh)
  ⟨0,List.replicate (gw*gh) ⟨0,0⟩,om,by simp,λi hi=>by omega,sl,by
   have e0:(List.replicate (gw*gh) [ii 0,ii 0]).flatten=mY (List.replicate (gw*gh) ⟨0,0⟩):=by
    unfold mY;rw[iA,List.map_replicate];rfl
   rw[<-e0];exact S⟩ ?_
 clear S;rintro m e w ⟨k,l,hk,hl,aH,ad,S⟩;rw[ad.fold];have al:0<gw*gh->dO ag:=λh=>(S.row (i:=2) rfl).someA h;have al:=al om;have ae:0<gw*gh->dO U:=λh=>(S.row (i:=1) rfl).someA h;have ae:=ae om;by_cases aW:k<gw*gh
 ·have aV:(cY V)[(k:Int).toNat * 1]?=some (ii (V.getD k 0)):=by rw[cG,b7];exact gc (kr om)
  refine zt ?_;refine z ?_;refine zx ?_;refine dH (eI cw rfl rfl (S.rd (i:=2) rfl) aV) ?_;refine zg ?_;refine tF (i:=1) S rfl (fD _) rfl rfl rfl rfl (by rw[Do];omega) rfl rfl ?_;intro bl S;refine zg ?_;refine⟨m-1,om,k+1,l.set k ⟨V.getD k 0,V.getD k 0⟩,om,by simp[hl],λi hi=>?_,sl,?_⟩
  ·by_cases e:i=k
   ·subst e;rw[lv om];unfold wm;rw[show i/gw*gw+i%gw=i by rw[cD];exact dP i gw]
   ·rw[List.getElem?_set_ne (λh=>e h.symm)];exact aH i om
  ·rw[<-HM om];exact S
 ·obtain rfl:k=gw*gh:=om;have Z:f7 gw 0=gw/\f7 gh 0=gh:=by unfold f7;simp
  have aG:l=tf V gw gh 0:=by
   apply gG;intro i;by_cases hi:i<gw*gh
   ·rw[aH i hi];unfold tf;rw[Z.1,Z.2,da,eu hi];rfl
   ·rw[dZ om,dZ (by rw[Dq,Z.1,Z.2];omega)]
  subst aG;have S:=S.pushNil 343 2;refine zH (C:=(λσ wq=>CS No W [.row 343 2 none 0 0 [],.blk ai 343 [ii gw,.slice U (gw*gh) (gw*gh)],.row 151 2 U (gw*gh) (gw*gh) (mY (tf V gw gh 0)),.row 2 1 ag (gw*gh) aj (cY V),.blk L 340 [ii gw,ii gh,.slice none 0 0]] 0 343 2 0 [] [ii gw,.slice U (gw*gh) (gw*gh)] wq σ)) [6,7] [0,1,2,3,4,5,6,7] [8,9,10] (S.gr (Gr.drew _)) ?_;refine zV (λτ wq D=>(D.ok (j:=4) (by decide) rfl)) ?_;refine zV (λτ wq D=>(D.ok (j:=1) (by decide) rfl)) ?_;refine de rfl rfl (λwq D=>rO D kD ne sq rfl rfl rfl rfl rfl rfl) ?_;rintro v6 w6 ⟨A6,rfl,_⟩;refine de rfl rfl (λwq D=>u6 D rfl (λh=>⟨_,rfl⟩) kD Fk rfl rfl rfl rfl rfl rfl om) ?_;rintro v7 w7 ⟨A7,c7,L7,rfl,_,_⟩;refine zY ?_;rintro w8 ⟨bu,bv,bg,aC,aF,S⟩;cases aC
  obtain rfl:=Option.some.inj aF;refine zS ?_;intro bm S;rw[am];refine zC (Ph mn an.1 an.2.1) ?_;intro bn bh S;rw[<-eK];refine zg ?_;have Z:f7 gw 0*f7 gh 0=gw*gh:=by unfold f7;simp
  have eg:f7 gw 0=gw:=by unfold f7;simp
  have S:=S.sub (.cons_cons _ (.cons _ (.cons_cons _ (.cons _ (.cons_cons _ (.slnil))))));have S:=(S.gfam0 (el:=151) (sz:=2) (λ_=>none) (λk=>f7 gw k*f7 gh k) (λ_=>0) (λk=>mY (tf V gw gh k))).perm_ (xo _ _ _ _);have S:=(S.gfamPush rfl Z).swap;have ep:=HN (k:=0) (ac:=f7 gw) (As:=λ_=>none) (ns:=λk=>f7 gw k*f7 gh k) (cs:=λ_=>0) (A:=U) (c:=gw*gh);rw[Z,eg]at ep
  refine dl (λm e w=>∃(k:Nat)(J:Option Addr)(O:Nat)(As:Nat->Option Addr)(cs:Nat->Nat),k+m=K/\SL e [(4,ii gw),(5,ii gh),(6,pt L),(70,ii K),(71,ii k)] /\
   St No W w [.row 343 2 J (k+1) O (EQ (k+1) (f7 gw) As (λk=>f7 gw k*f7 gh k) cs),.gfam 151 2 (k+1) As (λk=>f7 gw k*f7 gh k) cs (λk=>mY (tf V gw gh k)),.blk L 340 [ii gw,ii gh,.slice J (k+1) O]]) K
   ⟨0,A7,c7,_,_,om,sl,by rw[<-ep];exact S⟩ ?_
  clear S;rintro m e w ⟨k,J,O,As,cs,hk,ad,S⟩;rw[ad.fold];by_cases aW:k<K
  ·obtain⟨I,ab⟩:∃I,I=2^k:=⟨_,rfl⟩
   have bk:2*I<=mn:=by
    have:=fP (show 0<2 by omega) (show k+1<=K by omega);rw[gb,<-ab]at this;omega
   have bF:1<=I:=by rw[ab];exact mT k
   obtain⟨ac,ak⟩:∃ac,ac=f7 gw (k+1):=⟨_,rfl⟩;obtain⟨dn,aD⟩:∃dn,dn=f7 gh (k+1):=⟨_,rfl⟩;obtain⟨aw,ah⟩:∃aw,aw=f7 gw k:=⟨_,rfl⟩
   have bB:ac+2*I=gw+1:=by
    rw[ak];unfold f7;rw[gb,<-ab];omega
   have bE:dn+2*I=gh+1:=by
    rw[aD];unfold f7;rw[gb,<-ab];omega
   have bD:aw+I=gw+1:=by
    rw[ah];unfold f7;rw[<-ab];omega
   have bC:f7 gh k+I=gh+1:=by
    unfold f7;rw[<-ab];omega
   have bH:ac*dn<=1024*1024:=cE om om;have aS:(gw:Int)-2*(I:Int)+1=((ac:Nat):Int):=om;have aT:(gh:Int)-2*(I:Int)+1=((dn:Nat):Int):=om;have aB:(ac:Int)*(dn:Int)=((ac*dn:Nat):Int):=by push_cast;rfl
   have bb:IntKind.i64.wrap (1*2^(min (k:Int).toNat IntKind.i64.bits))=(I:Int):=by
    have e:(1:Int)*2^(min (k:Int).toNat IntKind.i64.bits)=((I:Nat):Int):=by
     rw[jG,ab,show min (k:Int).toNat IntKind.i64.bits=k by unfold IntKind.bits;dsimp only;omega];push_cast;rfl
    rw[e];exact gC _ om
   refine zg ?_;refine cq (vz (c:=(I:Int)) rfl rfl om bb) ?_;(iterate 3 refine z ?_);iterate 3 refine zr ?_
   rw[aS];iterate 2 refine cq (cH rfl) ?_
   refine cq (fh rfl om) ?_;refine cq (fh rfl om) ?_;refine cq (fh rfl om) ?_;rw[aT];iterate 2 refine cq (cH rfl) ?_
   first|refine eF ?_|(refine di ?_;show CW _ _ _ _ _ _)|refine di ?_
   repeat refine dm ?_
   refine dz ?_;iterate 3 refine cq (cH rfl) ?_
   refine cq (fh rfl (by rw[aB];omega)) ?_;rw[aB];refine Di jy x8 rfl rfl rfl (n:=0) (c:=ac*dn) om om om om S ?_;intro aA bo bi S bf;refine zN ?_;intro aa bp bj S;refine zS ?_;intro bq S;have S:=S.sub (.cons_cons _ (.cons_cons _ (.cons_cons _ (.cons_cons _ (.cons_cons _ (.slnil))))))
   refine dl (λm e w=>∃(y:Nat)(A1:Option Addr)(c1:Nat),y+m=dn/\SL e [(4,ii gw),(5,ii gh),(6,pt L),(12,ii k),(13,ii I),(14,ii ac),(15,ii dn),(16,pt aa),(70,ii K),(71,ii k),(92,ii dn),(93,ii y)]/\St No W w [.blk aa 343 [ii ac,.slice A1 (y*ac) c1],.row 151 2 A1 (y*ac) c1 (mY (Ej V gw (k+1) (y*ac))),.row 343 2 J (k+1) O (EQ (k+1) (f7 gw) As (λk=>f7 gw k*f7 gh k) cs),.gfam 151 2 (k+1) As (λk=>f7 gw k*f7 gh k) cs (λk=>mY (tf V gw gh k)),.blk L 340 [ii gw,ii gh,.slice J (k+1) O]]) dn
    ⟨0,aA,ac*dn,om,sl,by rw[iD];exact S⟩ ?_
   clear S;rintro m1 e w ⟨y,A1,c1,hy,ad,S⟩;rw[ad.fold];by_cases bI:y<dn
   ·skip;refine zg ?_
    refine dl (λm e w=>∃(x:Nat)(A1:Option Addr)(c1:Nat),x+m=ac/\SL e [(4,ii gw),(5,ii gh),(6,pt L),(12,ii k),(13,ii I),(14,ii ac),(15,ii dn),(16,pt aa),(70,ii K),(71,ii k),(92,ii dn),(17,ii y),(93,ii y),(96,ii ac),(97,ii x)]/\St No W w [.blk aa 343 [ii ac,.slice A1 (y*ac+x) c1],.row 151 2 A1 (y*ac+x) c1 (mY (Ej V gw (k+1) (y*ac+x))),.row 343 2 J (k+1) O (EQ (k+1) (f7 gw) As (λk=>f7 gw k*f7 gh k) cs),.gfam 151 2 (k+1) As (λk=>f7 gw k*f7 gh k) cs (λk=>mY (tf V gw gh k)),.blk L 340 [ii gw,ii gh,.slice J (k+1) O]]) ac
     ⟨0,A1,c1,om,sl,S⟩ ?_
    clear S;rintro m2 e w ⟨x,A1,c1,hx,ad,S⟩;rw[ad.fold];by_cases be:x<ac
    ·have aZ:=zj V (gw:=gw) (gh:=gh) (k:=k) (x:=x) (y:=y) (by rw[<-ah];omega) om;have aK:=zj V (gw:=gw) (gh:=gh) (k:=k) (x:=x+I) (y:=y) (by rw[<-ah];omega) om;have ba:=zj V (gw:=gw) (gh:=gh) (k:=k) (x:=x) (y:=y+I) (by rw[<-ah];omega) om;have aL:=zj V (gw:=gw) (gh:=gh) (k:=k) (x:=x+I) (y:=y+I) (by rw[<-ah];omega) om;have aI:=Dq V gw gh k;have aM:=Pi (k:=k+1) (j:=k) (ac:=f7 gw) (As:=As) (ns:=λk=>f7 gw k*f7 gh k) (cs:=cs) om;have aJ:=MU V (gw:=gw) (k:=k+1) y (x:=x) (by rw[<-ak];exact be);rw[<-ak]at aJ;rw[<-mI]at aK aL
     have bG:y*ac+x+1<=1024*1024:=by
      have:=cI ac (show y+1<=dn by omega);rw[cX,cD dn]at this;omega
     have bc:mE (mE (wm V gw k x y) (wm V gw k (x+I) y)) (mE (wm V gw k x (y+I)) (wm V gw k (x+I) (y+I)))=wm V gw (k+1) x y:=by rw[ab];rfl
     have ey:(y:Int)+(I:Int)=((y+I:Nat):Int):=by push_cast;rfl
     generalize wm V gw k x y=ra at *;generalize wm V gw k (x+I) y=rb at *;generalize wm V gw k x (y+I)=rc at *;generalize wm V gw k (x+I) (y+I)=az at *;generalize wm V gw (k+1) x y=rn at *;subst ah;refine zH (C:=(λσ wq=>CS No W [.blk aa 343 [ii ac,.slice A1 (y*ac+x) c1],.row 151 2 A1 (y*ac+x) c1 (mY (Ej V gw (k+1) (y*ac+x))),.row 343 2 J (k+1) O (EQ (k+1) (f7 gw) As (λk=>f7 gw k*f7 gh k) cs),.gfam 151 2 (k+1) As (λk=>f7 gw k*f7 gh k) cs (λk=>mY (tf V gw gh k)),.blk L 340 [ii gw,ii gh,.slice J (k+1) O]] 1 151 2 (y*ac+x) (mY (Ej V gw (k+1) (y*ac+x))) (mE (mE ra rb) (mE rc az)).cells wq σ)) [17,18] [0,1,2,3,4,5,6,7,8,9,10,11,12,13,14,15,16,17,18] [19,20] (S.gr (Gr.drew _)) ?_;refine zV (λτ wq D=>(D.ok (j:=0) (by decide) rfl)) ?_;refine zR ?_;refine jH rfl rfl (λτ wq D=>(HG L (k+1) O k (f7 gw k) (f7 gw k*f7 gh k) (cs k) x y I 0 J (As k) _ _ _ (tf V gw gh k) ra rb wq (D.ok (j:=4) (by decide) rfl) (gH.rd (D.ok (j:=2) (by decide) rfl)) om aM (D.gfamRd (j:=3) (by decide) rfl om) aI om om om om om aZ aK).mono (λ_ _⟨hv,hg⟩=>⟨hv,D.gr hg⟩)) ?_;refine zR ?_;rw[ey];refine zR ?_;refine jH rfl rfl (λτ wq D=>(HG L (k+1) O k (f7 gw k) (f7 gw k*f7 gh k) (cs k) x (y+I) I 0 J (As k) _ _ _ (tf V gw gh k) rc az wq (D.ok (j:=4) (by decide) rfl) (gH.rd (D.ok (j:=2) (by decide) rfl)) om aM (D.gfamRd (j:=3) (by decide) rfl om) aI om om om om om ba aL).mono (λ_ _⟨hv,hg⟩=>⟨hv,D.gr hg⟩)) ?_;refine jH rfl rfl (λτ wq D=>(Fx (mE ra rb) (mE rc az) wq).mono (λ_ _⟨hv,hg⟩=>⟨hv,D.gr hg⟩)) ?_;refine de rfl rfl (λwq D=>rO D jy fD mf rfl rfl rfl rfl rfl rfl) ?_;rintro v6 w6 ⟨A6,rfl,_⟩;refine de rfl rfl (λwq D=>u6 D rfl (λh=>⟨_,rfl⟩) jy x8 rfl rfl rfl rfl rfl rfl om) ?_;rintro v7 w7 ⟨ao,ap,aP,rfl,_,_⟩;refine zY ?_;rintro w8 ⟨aO,aR,aQ,aq,ar,S⟩;cases aq
     obtain rfl:=Option.some.inj ar;refine zS ?_;intro br S;refine⟨m2-1,om,x+1,ao,ap,om,sl,?_⟩;rw[<-mI,<-aJ,MT,<-bc];exact S
    ·have ex:x=ac:=om;rw[ex]at S;refine zg ?_;exact⟨m1-1,om,y+1,A1,c1,om,sl,by rw[cX];exact S⟩
   ·have ey:y=dn:=om;have en:y*ac=f7 gw (k+1)*f7 gh (k+1):=by rw[ey,ak,aD,cD]
    have aX:Ej V gw (k+1) (y*ac)=tf V gw gh (k+1):=by rw[en];rfl
    rw[aX,en]at S;refine zH (C:=(λσ wq=>CS No W [.blk aa 343 [ii ac,.slice A1 (f7 gw (k+1)*f7 gh (k+1)) c1],.row 151 2 A1 (f7 gw (k+1)*f7 gh (k+1)) c1 (mY (tf V gw gh (k+1))),.row 343 2 J (k+1) O (EQ (k+1) (f7 gw) As (λk=>f7 gw k*f7 gh k) cs),.gfam 151 2 (k+1) As (λk=>f7 gw k*f7 gh k) cs (λk=>mY (tf V gw gh k)),.blk L 340 [ii gw,ii gh,.slice J (k+1) O]] 2 343 2 (k+1) (EQ (k+1) (f7 gw) As (λk=>f7 gw k*f7 gh k) cs) [ii ac,.slice A1 (f7 gw (k+1)*f7 gh (k+1)) c1] wq σ)) [6,7] [0,1,2,3,4,5,6,7] [8,9,10] (S.gr (Gr.drew _)) ?_;refine zV (λτ wq D=>(D.ok (j:=4) (by decide) rfl)) ?_;refine zV (λτ wq D=>(D.ok (j:=0) (by decide) rfl)) ?_;refine de rfl rfl (λwq D=>rO D kD ne sq rfl rfl rfl rfl rfl rfl) ?_;rintro v6 w6 ⟨A6,rfl,_⟩;refine de rfl rfl (λwq D=>u6 D rfl (λh=>⟨_,rfl⟩) kD Fk rfl rfl rfl rfl rfl rfl om) ?_;rintro v7 w7 ⟨ao,ap,aP,rfl,_,_⟩;refine zY ?_;rintro w8 ⟨aO,aR,aQ,aq,ar,S⟩;cases aq
    obtain rfl:=Option.some.inj ar;refine zS ?_;intro bt S;have S:=S.sub (.cons _ (.cons_cons _ (.cons_cons _ (.cons_cons _ (.cons_cons _ (.slnil))))));have ep:=HN (k:=k+1) (ac:=f7 gw) (As:=As) (ns:=λk=>f7 gw k*f7 gh k) (cs:=cs) (A:=A1) (c:=c1);rw[ak]at S
    exact⟨m-1,om,k+1,ao,ap,nX As (k+1) A1,nX cs (k+1) c1,om,sl,by
     rw[<-ep];exact((S.perm_ ((tz _ _ _).cons _)).gfamPush rfl rfl).swap⟩
  ·have ek:k=K:=om;rw[ek]at S;refine zX ?_;exact⟨L,J,O,As,cs,rfl,S⟩
end
end Go.Proofs.YtjfeklflkikapaaGreatDoor
