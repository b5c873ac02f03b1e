/- A part of the proof that hachuretop.WholeCharts and hachuretop.WholeWater returns true at every input; no condition. -/
import Derived.Test.YtcalhocphkbbgaaGreatDoorKI
import Derived.Test.YtcalhocphkbbgaaGreatDoorKG
set_option maxRecDepth 100000
set_option maxHeartbeats 16000000
set_option linter.unusedVariables false
set_option linter.unusedSimpArgs false
namespace Go.Proofs.YtcalhocphkbbgaaGreatDoor
open Go.Proofs.Tryz Go.RowKit
variable{Q:(Nat->Value)->World->Prop}{af:Array Edge}{ops:Array Oper}{f:FuncId}{h h':HA}{X0 X1 Y0 Y1 a e0:Int}{L' M tl:List HA}{hd:List Nat}{l xs ys:List Value}{b c cd cu cx cy el g gh gw i j k lc lh lw m n p p2 pb q sz uh uw x0 x1 y0 y1:Nat}{cc:Nat->Int}{bs ns:Nat->Nat}{As:Nat->Option Addr}{Rs:Nat->Option Nat}{F X:Nat->Prop}{qd qu:Nat->RG}{e:Nat->Value}{hi x:Operand}{A Ad Au g0 lA:Option Addr}{d:Option Tmp}{P:Program}{G:Prop}{α:Type}{t t' ty:TypeId}{u:Value}{W w w' wq:World}{C:World->Prop}
def mq(n:Nat)(q:Nat->RG):List Value:=(List.range n).flatMap λi=>(q i).cells
theorem Cp(n:Nat)(q:Nat->RG):(mq n q).length=n*2:=by
 have:=lF (f:=λi=>(q i).cells) (m:=2) (λ_=>rfl) (List.range n);rw[gk]at this;exact this
theorem Jb{q:Nat->RG}(h:i<n):((mq n q).drop ((i:Int).toNat * 2)).take 2=(q i).cells:=by
 rw[b7];exact lG (f:=λi=>(q i).cells) (λ_=>rfl) (eu h)
theorem BC{q q':Nat->RG}(h:∀i,i<n->q i=q' i):mq n q=mq n q':=by
 unfold mq;rw[iA,iA];congr 1;exact eQ λi hi=>by rw[h i (dJ.1 hi)]
def HP(q:Nat->RG)(k:Nat)(r:RG):Nat->RG:=λi=>if i=k then r else q i
theorem HQ(n:Nat)(q:Nat->RG):mq n q=mY ((List.range n).map q):=by
 unfold mq mY;rw[List.flatMap_map]
theorem KD{q:Nat->RG}{r:RG}(h:k<n):(mq n q).take ((k:Int).toNat * 2)++r.cells++(mq n q).drop ((k:Int).toNat * 2+2)=mq n (HP q k r):=by
 rw[b7,HQ,HQ,HM (by simpa using h)];congr 1;apply gG;intro i;rw[gl];by_cases hi:i<n
 ·simp only[da,eu hi,ku,eP,gk];unfold HP;by_cases e:k=i
  ·subst e;rw[a7 rfl,a7 hi,a7 rfl]
  ·rw[a8 e,a8 (λv=>e v.symm)]
 ·rw[a8 (show ¬k=i from λe=>hi (e▸h))];simp only[da];rw[dZ (by simp;omega)];rfl
theorem QG(n:Nat):(List.replicate n [ii 0,ii 0]).flatten=mq n (λ_=>⟨0,0⟩):=by
 unfold mq;rw[iA,pd,gk];rfl
def HA.pfam(el sz k:Nat)(As:Nat->Option Addr)(ns cs:Nat->Nat)(xs:Nat->List Value):HA :=
 ⟨λg=>∃t,t<k/\jv (As t) g,λw=>(∀t,t<k->gH w el sz (As t) (ns t) (cs t) (xs t))/\∀t t' g,t<k->t'<k->jv (As t) g->jv (As t') g->t=t',
 λ_ _ h _ hR=>⟨λt ht=>(hR.1 t ht).keep (λg hg=>h g ⟨t,ht,hg⟩),hR.2⟩,λ_ hR _⟨t,ht,hg⟩=>(hR.1 t ht).lt hg⟩
section
variable{L:List HA}{cs:Nat->Nat}{xs:Nat->List Value}
theorem St.pfam0(S:St F W w L)(As:Nat->Option Addr)(ns cs:Nat->Nat)(xs:Nat->List Value):St F W w (.pfam el sz 0 As ns cs xs::L) :=
 S.push (Gr.refl w) (h:=.pfam el sz 0 As ns cs xs) ⟨λt v=>by omega,λt t' g v=>by omega⟩ (λg⟨t,v,_⟩=>by omega)
theorem St.prow(S:St F W w L)(hi:gi L i=some (.pfam el sz k As ns cs xs)){t:Nat}(v:t<k):gH w el sz (As t) (ns t) (cs t) (xs t):=(S.ok hi).1 t v
theorem St.pap(S:St F W w L)(hi:gi L i=some (.pfam el sz k As ns cs xs)){t t':Nat}(z:t<k)(y:t'<k)(v:t≠t'):∀g,jv (As t) g->¬jv (As t') g:=λg h1 h2=>v ((S.ok hi).2 t t' g z y h1 h2)
theorem St.pfamPush(S:St F W w (.row el sz A n c l::.pfam el sz k As ns cs xs::L))(V:xs k=l)(Z:ns k=n):St F W w (.pfam el sz (k+1) (nX As k A) ns (nX cs k c) xs::L):=by
 have h1:=S.sep.1;have O:=S.sep.2.1;have h2:=S.sep.2.2.1;have U:=S.sep.2.2.2;refine⟨S.fr,⟨⟨λt D=>?_,λt t' g D aa y v=>?_⟩,λg⟨t,D,e⟩=>?_⟩,λg⟨t,D,e⟩h hh=>?_,U.2⟩
 ·by_cases e:t=k
  ·subst e;rw[iU,iU,V,Z];exact h1.1
  ·rw[gY om,gY om];exact h2.1.1 t om
 ·have z:∀t,t<k->jv A g->jv (As t) g->False:=λt D a b=>O g a (.pfam el sz k As ns cs xs) (eB) ⟨t,D,b⟩;by_cases e:t=k
  ·by_cases I:t'=k
   ·rw[e,I]
   ·subst e;rw[iU]at y;rw[gY om]at v;exact(z t' om y v).elim
  ·rw[gY om]at y;by_cases I:t'=k
   ·subst I;rw[iU]at v;exact(z t om v y).elim
   ·rw[gY om]at v;exact h2.1.2 t t' g om om y v
 ·by_cases J:t=k
  ·subst J;rw[iU]at e;exact h1.2 g e
  ·rw[gY om]at e;exact h2.2 g ⟨t,om,e⟩
 ·by_cases J:t=k
  ·subst J;rw[iU]at e;exact O g e h (cW _ hh)
  ·rw[gY om]at e;exact U.1 g ⟨t,om,e⟩ h hh
def vJ{α:Type}(xs:Nat->α)(t:Nat)(l:α):Nat->α:=λi=>if i=t then l else xs i
theorem St.pfamSet(S:St F W w L)(hi:gi L i=some (.pfam el sz k As ns cs xs)){t:Nat}(D:t<k)(z:Fr (jv (As t)) w w')(I:gH w' el sz (As t) (ns t) (cs t) l)(J:j7 L i (.pfam el sz k As ns cs (vJ xs t l))=some L'):St F W w' L':=by
 refine S.set hi J z (λg y=>.inl ⟨t,D,y⟩) ⟨λt' v=>?_,(S.ok hi).2⟩ (λg y=>.inl y);by_cases e:t'=t
 ·subst e;unfold vJ;rw[a7 rfl];exact I
 ·unfold vJ;rw[a8 e];exact((S.ok hi).1 t' v).keep λg y=>z.block g (((S.ok hi).1 t' v).lt y) (λh=>e ((S.ok hi).2 t' t g v D y h))
end
def ut(k gw gh:Nat)(As:Nat->Option Addr)(cs:Nat->Nat):List Value:=(List.range k).flatMap λj=>[ii (dG gw j:Nat),ii (dG gh j:Nat),.slice (As j) (dG gw j*dG gh j) (cs j)]
theorem E3{cs:Nat->Nat}(h:j<k):((ut k gw gh As cs).drop ((j:Int).toNat * 3)).take 3=[ii (dG gw j:Nat),ii (dG gh j:Nat),.slice (As j) (dG gw j*dG gh j) (cs j)]:=by
 rw[b7];exact lG (f:=λj=>[ii (dG gw j:Nat),ii (dG gh j:Nat),.slice (As j) (dG gw j*dG gh j) (cs j)]) (λ_=>rfl) (eu h)
theorem Cq(k gw gh:Nat)(As:Nat->Option Addr)(cs:Nat->Nat):(ut k gw gh As cs).length=k*3:=by
 have:=lF (f:=λj=>[ii (dG gw j:Nat),ii (dG gh j:Nat),.slice (As j) (dG gw j*dG gh j) (cs j)]) (m:=3) (λ_=>rfl) (List.range k);rw[gk]at this;exact this
theorem QI{cs:Nat->Nat}:ut k gw gh As cs++[ii (dG gw k:Nat),ii (dG gh k:Nat),.slice A (dG gw k*dG gh k) c]=ut (k+1) gw gh (nX As k A) (nX cs k c):=by
 unfold ut;rw[eG,kZ,lx,iU,iU];congr 1;rw[iA,iA];congr 1;exact eQ λt v=>by rw[gY (dJ.1 v),gY (dJ.1 v)]
def zz(gw gh:Nat)(V:List Int)(k i:Nat):RG:=pm gw gh V k (i%dG gw k) (i/dG gw k)
def wX(gw gh:Nat)(V:List Int)(k:Nat):List Value:=mq (dG gw k*dG gh k) (zz gw gh V k)
def mG(gw gh k:Nat):Nat:=dG gw k*dG gh k
def iM(w:World)(pb gw gh:Nat)(V:List Int):Prop:=∃lA lc As cs,eL w pb 312 [.slice lA (fW gw gh) lc]/\Rd w lA (ut (fW gw gh) gw gh As cs)/\∀k,k<fW gw gh->Rd w (As k) (wX gw gh V k)
theorem iM.gr{V:List Int}(h:iM w pb gw gh V)(g:Gr w w'):iM w' pb gw gh V:=by
 obtain⟨lA,lc,As,cs,h1,h2,v⟩:=h;exact⟨lA,lc,As,cs,h1.gr g,h2.gr g,λk y=>(v k y).gr g⟩
theorem VQ{x y:Nat}(v:x<dG gw k)(z:y<dG gh k):y*dG gw k+x<dG gw k*dG gh k:=by
 have:=eZ (dG gw k) (show y+1<=dG gh k by omega);rw[lL,cG,cD (dG gw k) y]at this;omega
theorem KE(k:Nat)(y:1<=gw/\gw<=1024)(v:1<=gh/\gh<=1024):dG gw k*dG gh k<=1024*1024:=fy (dE (oZ k y.1) y.2) (dE (oZ k v.1) v.2)
theorem Pj{x y:Nat}{V:List Int}(v:x<dG gw k):zz gw gh V k (y*dG gw k+x)=pm gw gh V k x y:=by
 unfold zz;rw[cD,fp,dT v,fF om,ee v,eW]
section
variable{V:List Int}
theorem QJ(a b:RG):Fn prog 409 [.agg a.cells.toArray,.agg b.cells.toArray] W (dp (.agg (mE a b).cells.toArray) W):=by
 unfold RG.cells;have S:=St.start W;refine zI func409 ?_;refine zN ?_;intro y L D S;refine zN ?_;intro z O I S;refine zN ?_;intro v U J S;refine zS ?_;intro V S;exact rA S ⟨rfl,S.out⟩
theorem zA(v:iM W pb gw gh V):Fn prog 108 [pt pb] W (dp (ii (fW gw gh)) W):=by
 obtain⟨lA,lc,As,cs,h1,h2,y⟩:=v;have S:=St.start W;refine zI func108 ?_;iterate 6 refine z ?_
 refine dH (cV kV rfl rfl (h1.gr S.out) rfl) ?_;exact zZ
theorem tJ(I:1<=gw/\gw<=1024)(D:1<=gh/\gh<=1024)(O:iM W pb gw gh V):Fn prog 177 [pt pb] W (dp (.tuple #[ii gw,ii gh]) W):=by
 obtain⟨lA,lc,As,cs,h1,h2,Z⟩:=O;have hl:=lI I.2 D.2;have z:dO lA:=h2.someA (by rw[Cq];omega);have y:=E3 (gw:=gw) (gh:=gh) (As:=As) (cs:=cs) (show 0<fW gw gh by omega);rw[iR I.1,iR D.1]at y
 have g0:(ut (fW gw gh) gw gh As cs)[(0:Int).toNat * 3+0]?=some (ii gw):=by
  have:=congrArg (·[0]?) y;simp only[fJ,jD]at this;simpa using this
 have J:(ut (fW gw gh) gw gh As cs)[(0:Int).toNat * 3+1]?=some (ii gh):=by
  have:=congrArg (·[1]?) y;simp only[fJ,jD]at this;simpa using this
 have S:=St.start W;refine zI func177 ?_;refine zD [0,1,2,3,4,5,6,7,8,9,10,11,12,13,14,15] [] ?_;refine zM (λwq v=>(h1.gr (S.gr v).out)) ?_;refine zO (λwq v=>(h2.gr (S.gr v).out)) g0 ?_;refine zM (λwq v=>(h1.gr (S.gr v).out)) ?_;refine zO (λwq v=>(h2.gr (S.gr v).out)) J ?_;refine zE ?_;intro U L S;exact nd rfl rfl ⟨rfl,S.out⟩
theorem Cr(k x y:Nat)(L:1<=gw/\gw<=1024)(I:1<=gh/\gh<=1024)(hk:k<fW gw gh)(hx:x<dG gw k)(hy:y<dG gh k)(hP:iM W pb gw gh V) :
  Fn prog 182 [pt pb,ii k,.agg #[ii x,ii y]] W (dp (.tuple #[.agg (pm gw gh V k x y).cells.toArray,ii 0]) W):=by
 obtain⟨lA,lc,As,cs,h1,h2,h3⟩:=hP;have hl:=lI L.2 I.2;have ah:=KE k L I;have J:=VQ hx hy;have ai:=oZ k L.1;have aj:=oZ k I.1;have v:=h3 k hk;have U:dO lA:=h2.someA (by rw[Cq];omega);have O:dO (As k):=v.someA (by unfold wX;rw[Cp];omega);have h0:=E3 (gw:=gw) (gh:=gh) (As:=As) (cs:=cs) hk;have Z:(y:Int)*(dG gw k:Nat)=((y*dG gw k:Nat):Int):=by push_cast;rfl
 have e2:((y*dG gw k:Nat):Int)+(x:Nat)=((y*dG gw k+x:Nat):Int):=rfl;have D:=Jb (q:=zz gw gh V k) J;rw[Pj hx]at D;have hb:y*dG gw k<=1024*1024:=om;have S:=St.start W;refine zI func182 ?_;refine zN ?_;intro aa ak ad S;refine zN ?_;intro ac al ae S;(iterate 5 refine z ?_);refine zf ?_;iterate 5 refine z ?_
 first|refine eD rfl ?_|(refine dr rfl ?_;refine dH (cV kV rfl rfl (h1.gr S.out) rfl) ?_)
 refine z ?_;refine zf ?_;iterate 5 refine z ?_
 refine dH (cV kV rfl rfl (h1.gr S.out) rfl) ?_;refine zg ?_;refine ZU (h2.gr S.out) h0 ?_;refine zN ?_;intro ab am ag S;refine Z1 0 S ?_;intro an S;refine z ?_;refine z ?_;refine zf ?_;(iterate 5 refine z ?_);refine zf ?_;(iterate 4 refine z ?_);refine zf ?_;(iterate 6 refine z ?_);refine zf ?_;iterate 7 refine z ?_
 refine dU (fh rfl (by rw[Z];omega)) ?_;rw[Z];refine z ?_;refine z ?_;refine dU (fh rfl (by rw[e2];omega)) ?_;rw[e2];refine zg ?_;refine ZU (v.gr S.out) D ?_;refine zS ?_;intro ao S;exact pG S ⟨rfl,S.out⟩
end
def yl(uw uh lw:Nat)(qu qd:Nat->RG)(x0 y0 x1 y x i:Nat):RG :=
 if (x0<=i%lw/\i%lw<=x1)/\((y0<=i/lw/\i/lw<y)\/(i/lw=y/\i%lw<x))then wn (λu d=>qu (d*uw+u)) uw uh (i%lw) (i/lw) 4 else qd i
theorem MV(uw uh lw:Nat)(qu qd:Nat->RG)(x0 y0 x1:Nat):yl uw uh lw qu qd x0 y0 x1 y0 x0=qd:=funext λi=>by
 unfold yl;rw[a8 (by generalize i/lw=q at*;generalize i%lw=r at*;omega)]
theorem QK{y x:Nat}(I:x0<=x/\x<=x1)(D:x1<lw):HP (yl uw uh lw qu qd x0 y0 x1 y x) (y*lw+x) (wn (λu d=>qu (d*uw+u)) uw uh x y 4)=yl uw uh lw qu qd x0 y0 x1 y (x+1):=funext λi=>by
 have v:(y*lw+x)%lw=x:=by rw[cD,fp,dT om]
 have hd:(y*lw+x)/lw=y:=by rw[cD,fF om,ee om,eW]
 unfold HP;by_cases e:i=y*lw+x
 ·rw[a7 e,e];unfold yl;rw[v,hd,a7 om]
 ·rw[a8 e];unfold yl;have z:¬(i/lw=y/\i%lw=x):=λ⟨h1,h2⟩=>e (by have:=dP i lw;rw[h1,h2,cD]at this;exact this.symm);generalize i/lw=q at *;generalize i%lw=r at *;by_cases h:(x0<=r/\r<=x1)/\((y0<=q/\q<y)\/(q=y/\r<x))
  ·rw[a7 h,a7 om]
  ·rw[a8 h,a8 om]
theorem TE{y:Nat}(v:y0<=y)(i:Nat):yl uw uh lw qu qd x0 y0 x1 y (x1+1) i=yl uw uh lw qu qd x0 y0 x1 (y+1) x0 i:=by
 unfold yl;generalize i/lw=q at *;generalize i%lw=r at *;by_cases h:(x0<=r/\r<=x1)/\((y0<=q/\q<y)\/(q=y/\r<x1+1))
 ·rw[a7 h,a7 om]
 ·rw[a8 h,a8 om]
theorem QL(hu:1<=uw/\uw<=1024/\1<=uh/\uh<=1024)(aF:lw=(uw-1)/2+1)(aD:lh=(uh-1)/2+1)(hx:x0<=x1/\x1<lw)(hy:y0<=y1/\y1<lh)(hU:Rd W Au (mq (uw*uh) qu))(ad:∀g,jv Au g->¬jv Ad g)(hD:gH W 158 2 Ad (lw*lh) cd (mq (lw*lh) qd)) :
  Fn prog 408 [.agg #[ii lw,ii lh,.slice Ad (lw*lh) cd],.agg #[ii uw,ii uh,.slice Au (uw*uh) cu],.agg #[ii x0,ii y0,ii x1,ii y1]] W
   (λv w'=>v=.tuple #[]/\gH w' 158 2 Ad (lw*lh) cd (mq (lw*lh) (yl uw uh lw qu qd x0 y0 x1 (y1+1) x0))/\Fr (jv Ad) W w'):=by
 have aG:uw*uh<=1024*1024:=fy hu.2.1 hu.2.2.2;have aE:lw*lh<=1024*1024:=fy om om;have V:∀a,Au=some a->¬jv Ad a.block:=λa e=>ad a.block (by rw[e];rfl)
 have L:∀{u d:Nat},u<uw->d<uh->d*uw+u<uw*uh:=λ{u d}h1 h2=>by
  have:=eZ uw (show d+1<=uh by omega);rw[lL,cG,cD uw d]at this;omega
 have Z:∀{u d:Nat},u<lw->d<lh->d*lw+u<lw*lh:=λ{u d}h1 h2=>by
  have:=eZ lw (show d+1<=lh by omega);rw[lL,cG,cD lw d]at this;omega
 have ap:dO Au:=hU.someA (by rw[Cp];have:=L (u:=0) (d:=0) om om;omega);have ao:dO Ad:=hD.someA (by have:=Z (u:=0) (d:=0) om om;omega);have S:=St.start1 W (HA.row 158 2 Ad (lw*lh) cd (mq (lw*lh) qd)) hD;refine zI func408 ?_;refine yA ?_;intro D J I _ S
 refine dl (λm e w=>∃y:Nat,y+m=y1+1/\y0<=y/\SL e [(3,pt D),(4,pt J),(5,pt I),(6,ii y)] /\
  St (jv Ad) W w [.blk I 43 [ii x0,ii y0,ii x1,ii y1],.blk J 389 [ii uw,ii uh,.slice Au (uw*uh) cu],.blk D 389 [ii lw,ii lh,.slice Ad (lw*lh) cd],.row 158 2 Ad (lw*lh) cd (mq (lw*lh) (yl uw uh lw qu qd x0 y0 x1 y x0))]) (y1+1-y0)
  ⟨y0,om,om,sl,by rw[MV];exact S⟩ ?_
 clear S;rintro m e w ⟨y,aI,am,U,S⟩;rw[U.fold];by_cases aJ:y<=y1
 ·skip;refine zg ?_
  refine dl (λm2 e w=>∃x:Nat,x+m2=x1+1/\x0<=x/\SL e [(3,pt D),(4,pt J),(5,pt I),(6,ii y),(7,ii x)] /\
   St (jv Ad) W w [.blk I 43 [ii x0,ii y0,ii x1,ii y1],.blk J 389 [ii uw,ii uh,.slice Au (uw*uh) cu],.blk D 389 [ii lw,ii lh,.slice Ad (lw*lh) cd],.row 158 2 Ad (lw*lh) cd (mq (lw*lh) (yl uw uh lw qu qd x0 y0 x1 y x))]) (x1+1-x0)
   ⟨x0,om,om,sl,S⟩ ?_
  clear S;rintro m2 e w ⟨x,aH,ak,U,S⟩;rw[U.fold];by_cases al:x<=x1
  ·have ae:=L (u:=2*x) (d:=2*y) om om;have ab:=Jb (q:=qu) ae;have e1:(2:Int)*y=((2*y:Nat):Int):=by push_cast;rfl
   have e2:(2:Int)*x=((2*x:Nat):Int):=by push_cast;rfl
   have e3:((2*y:Nat):Int)*uw=((2*y*uw:Nat):Int):=by push_cast;rfl
   have e4:((2*y*uw:Nat):Int)+(2*x:Nat)=((2*y*uw+2*x:Nat):Int):=rfl;(iterate 3 refine z ?_);refine zt ?_;(iterate 3 refine z ?_);refine zr ?_;rw[e1];refine dU (du jJ rfl cR rfl rfl) ?_;refine dH (cV iY rfl rfl (S.blk (i:=1) rfl) rfl) ?_;refine dU (fh rfl (by rw[e3];omega)) ?_;rw[e3];refine z ?_;refine zr ?_;rw[e2];refine dU (fh rfl (by rw[e4];omega)) ?_;rw[e4];refine zg ?_;refine ZU ((hU.fr S.fr V)) ab ?_;refine zN ?_;intro aa aK av S;refine zS ?_;intro aL S
   refine dl (λm3 e w=>∃i:Nat,i+m3=4/\SL e [(3,pt D),(4,pt J),(5,pt I),(6,ii y),(7,ii x),(8,pt aa),(40,ii i)] /\
    St (jv Ad) W w [.blk aa 158 (wn (λu d=>qu (d*uw+u)) uw uh x y i).cells,.blk I 43 [ii x0,ii y0,ii x1,ii y1],.blk J 389 [ii uw,ii uh,.slice Au (uw*uh) cu],.blk D 389 [ii lw,ii lh,.slice Ad (lw*lh) cd],.row 158 2 Ad (lw*lh) cd (mq (lw*lh) (yl uw uh lw qu qd x0 y0 x1 y x))]) 4
    ⟨0,om,sl,S⟩ ?_
   clear S;rintro m3 e w ⟨i,aC,U,S⟩;rw[U.fold];by_cases aB:i<4
   ·have f1:(i:Int)%2=((i%2:Nat):Int):=by push_cast;rfl
    have f2:(i:Int)/2=((i/2:Nat):Int):=by push_cast;rfl
    have f3:((2*x:Nat):Int)+(i%2:Nat)=((2*x+i%2:Nat):Int):=rfl;have f4:((2*y:Nat):Int)+(i/2:Nat)=((2*y+i/2:Nat):Int):=rfl;have O:wn (λu d=>qu (d*uw+u)) uw uh x y (i+1)=if 2*x+i%2<uw/\2*y+i/2<uh then mE (wn (λu d=>qu (d*uw+u)) uw uh x y i) (qu ((2*y+i/2)*uw+(2*x+i%2)))else wn (λu d=>qu (d*uw+u)) uw uh x y i:=rfl;generalize hM:wn (λu d=>qu (d*uw+u)) uw uh x y i=M at *;generalize az:2*x+i%2=u1 at *;generalize aw:2*y+i/2=d1 at *;by_cases hc:u1<uw/\d1<uh
    ·rw[a7 hc]at O;have ag:=L hc.1 hc.2;have ac:=Jb (q:=qu) ag;have e5:(d1:Int)*uw=((d1*uw:Nat):Int):=by push_cast;rfl
     have e6:((d1*uw:Nat):Int)+u1=((d1*uw+u1:Nat):Int):=rfl;refine zt ?_;(iterate 3 refine z ?_);refine zr ?_;rw[e2];refine dU (jx rfl) ?_;refine dU (xd rfl rfl om om) ?_;rw[f1];refine dU (fh rfl om) ?_;rw[f3];refine dU (jx rfl) ?_;refine dU (fh rfl om) ?_;rw[e1];refine dU (jx rfl) ?_;refine dU (EW rfl rfl om om) ?_;rw[f2];refine dU (fh rfl om) ?_;rw[f4];iterate 2 refine dU (jx rfl) ?_
     first|refine eF ?_|(refine di ?_;show CW _ _ _ _ _ _)|refine di ?_
     repeat refine dm ?_
     refine dz ?_;refine dU (jx rfl) ?_;refine dU (du jJ rfl cR rfl rfl) ?_;refine dH (cV iY rfl rfl (S.blk (i:=2) rfl) rfl) ?_;refine dU (ff (b:=true) rfl (fD om)) ?_;refine dU (jx rfl) ?_;first|refine eD rfl ?_|(refine dr rfl ?_;refine dU (jx rfl) ?_)
     first|refine eD rfl ?_|(refine dr rfl ?_;refine dU (du jJ rfl cR rfl rfl) ?_)
     first|refine eD rfl ?_|(refine dr rfl ?_;refine dH (cV iY rfl rfl (S.blk (i:=2) rfl) rfl) ?_)
     first|refine eD rfl ?_|(refine dr rfl ?_;refine dU (ff (b:=true) rfl (fD om)) ?_)
     refine dU (jx rfl) ?_;first|refine eF ?_|(refine di ?_;show CW _ _ _ _ _ _)|refine di ?_
     repeat refine dm ?_
     refine jr rfl ?_;repeat refine dm ?_
     refine pF (C:=λwq=>Gr w wq) [0,1,2,3,4,5,6,7,8,9,10] [11,12] (by kernel_rfl) (by kernel_rfl) (Gr.drew _) ?_;simp only[iS,dK,dR];refine fo (λwq hq=>fx gU rfl (iH _) rfl ((S.gr hq).blk (i:=0) rfl) rfl rfl) ?_;refine eO (du jJ rfl t6 rfl rfl) ?_;refine fo (λwq hq=>cV kg rfl rfl ((S.gr hq).blk (i:=2) rfl) rfl) ?_;refine eO (jx rfl) ?_;refine eO (du jJ rfl cR rfl rfl) ?_;refine fo (λwq hq=>cV iY rfl rfl ((S.gr hq).blk (i:=2) rfl) rfl) ?_;refine eO (fh rfl (by rw[e5];omega)) ?_;rw[e5];refine eO (jx rfl) ?_;refine eO (fh rfl (by rw[e6];omega)) ?_;rw[e6];refine zQ ?_;refine fo (λwq hq=>fb gU rfl (iH _) rfl ((hU.fr (S.gr hq).fr V)) ac rfl rfl) ?_;refine zE ?_;intro aq an S;refine zC (QJ M (qu (d1*uw+u1))) ?_;refine zS ?_;intro ar S;exact⟨m3-1,om,i+1,om,sl,by rw[O];exact S⟩
    ·rw[a8 hc]at O;by_cases aA:u1<uw
     ·skip;refine zg ?_;rw[e2];refine zg ?_;rw[f1];refine zg ?_;rw[f3];refine zg ?_;rw[e1];refine zg ?_;rw[f2];refine zg ?_;rw[f4];refine zg ?_;exact⟨m3-1,om,i+1,om,sl,by rw[O];exact S⟩
     ·skip;refine zg ?_;rw[e2];refine zg ?_;rw[f1];refine zg ?_;rw[f3];refine zg ?_;rw[e1];refine zg ?_;rw[f2];refine zg ?_;rw[f4];refine zg ?_;exact⟨m3-1,om,i+1,om,sl,by rw[O];exact S⟩
   ·obtain rfl:i=4:=om;have ah:=Z (u:=x) (d:=y) om om;have e5:(y:Int)*lw=((y*lw:Nat):Int):=by push_cast;rfl
    have e6:((y*lw:Nat):Int)+x=((y*lw+x:Nat):Int):=rfl;have aj:=QK (uw:=uw) (uh:=uh) (qu:=qu) (qd:=qd) (y0:=y0) (y:=y) ⟨ak,al⟩ hx.2;generalize hM:wn (λu d=>qu (d*uw+u)) uw uh x y 4=M at *;refine zf ?_;refine zc ?_;refine eX rfl ?_;refine zc ?_;refine pD ?_;repeat first|refine nC ?_|refine pE ?_
    show CW _ _ _ _ _ _;iterate 5 refine z ?_
    refine dU (fh rfl (by rw[e5];omega)) ?_;rw[e5];refine z ?_;refine dU (fh rfl (by rw[e6];omega)) ?_;rw[e6];refine zg ?_;refine tF (i:=4) S rfl (iH _) rfl rfl rfl rfl (by rw[Cp];omega) rfl rfl ?_;intro au S;refine zg ?_;have ai:(mq (lw*lh) (yl uw uh lw qu qd x0 y0 x1 y x)).take (((y*lw+x:Nat):Int).toNat * 2)++M.cells++(mq (lw*lh) (yl uw uh lw qu qd x0 y0 x1 y x)).drop (((y*lw+x:Nat):Int).toNat * 2+2)=mq (lw*lh) (yl uw uh lw qu qd x0 y0 x1 y (x+1)):=by rw[KD ah,aj]
    have S:=S.drop 1;exact⟨m2-1,om,x+1,om,om,sl,by rw[<-ai];exact S⟩
  ·obtain rfl:x=x1+1:=om;rw[BC (q':=yl uw uh lw qu qd x0 y0 x1 (y+1) x0) (λi _=>TE am i)]at S;refine zg ?_;exact⟨m-1,om,y+1,om,om,sl,S⟩
 ·obtain rfl:y=y1+1:=om;refine zg ?_;exact na ⟨rfl,S.row (i:=3) rfl,S.fr⟩
section
variable{rest:List Oper}{ps:String}{L:List HA}
theorem KK{t':Nat}{y:Operand}{s:Nat}{z:Nat->Nat}{xs:Nat->List Value}{cs:List Value}(S:St F W w L)(hi:gi L i=some (.pfam el sz k As ns z xs))(ht:t'<k)(hz:(sizeOf t).run P w=.ok s w)(hx:ev e x=.pointer (at_ (As t') j))(hy:ev e y=.agg cs.toArray)(D:cs.length=s)(I:(cs.all λv=>v.oneCell')=true)(hj:j+s<=(xs t').length)(hs:j7 L i (.pfam el sz k As ns z (vJ xs t' ((xs t').take j++cs++(xs t').drop (j+s))))=some L')(h0:Nat.blt 0 s=true)(hr:∀w',St F W w' L'->RW P ops Q rest (fI e d undef) w'):RW P ops Q (⟨d,.store t x y,ty,ps,af,none⟩::rest) e w:=by
 have ag:0<s:=eC h0;have hR:=S.prow hi ht;rcases hR.form with⟨_,_,_,J⟩|⟨g,l,O,hB,J,hl,Z,hm⟩
 ·rw[J]at hj;simp at hj;omega
 ·have ac:=hR.len;have ae:ns t'*sz<=l.length:=by rw[hl];exact cI _ J
  obtain⟨w',aa,V,ad,U⟩:=xt (P:=P) (o:=j) cs 0 w l hB (λu hu=>dh.1 I u hu) om;have h6:(Value.agg cs.toArray).cells=cs.toArray:=rfl;have ab:ev e x=.pointer (some ⟨g,j,none⟩):=by rw[hx,O,yW,eH]
  refine O9 (w':=w') ?_ (hr w' ?_)
  ·simp[execOp,ab,hy,Instr.storeAt,Instr.sureAddr,storeVar,hz,h6,D,aa]
  ·refine S.pfamSet hi ht (by rw[O];exact Fr.of_grown (F:=jv (some ⟨g,0,none⟩)) V (λb e=>by injection e with e;rw[<-e];rfl)) ?_ hs;rw[O];refine gH.mk_ U J ?_ ?_ hm
   ·simp;omega
   ·rw[eW,D,cL,jB,nt,ms om,jB,<-Z];have e1:(cs.take (ns t'*sz-(l.take j).length))=cs:=fN (by simp;omega);have e2:ns t'*sz-(l.take j).length-cs.length=ns t'*sz-(j+s):=by simp;omega
    rw[e1,e2,nt,io om,List.drop_take,<-cL]
end
theorem yp{w h:Nat}{c:Nat->Int}(y:0<w)(hi:i<h*w):(fi gw c x0 y0 w h)[i]?=some (c ((y0+i/w)*gw+(x0+i%w))):=by
 have hd:i/w<h:=cS (by rw[cD];exact hi);have v:=dt i y;have h1:=qF (f:=λj=>vV gw c x0 (y0+j) w) (m:=w) (λ_=>HB _ _ _ _ _) (List.range h) (i/w) (i/w) (i%w) 1 (eu hd) om;rw[show i/w*w+i%w=i by rw[cD];exact dP i w]at h1;have h2:=congrArg (·[0]?) h1;simp only[fJ,jD,eW]at h2;rw[a7 om,a7 om]at h2;unfold fi;rw[h2];simp[vV,v]
theorem St.pfamCongr{a b:HA}{cs:Nat->Nat}{xs ys:Nat->List Value}(S:St F W w (a::b::.pfam el sz k As ns cs xs::tl))(h:∀i,i<k->xs i=ys i):St F W w (a::b::.pfam el sz k As ns cs ys::tl) :=
 S.set (i:=2) (h':=.pfam el sz k As ns cs ys) rfl rfl (Fr.refl (λ_=>False) w) (λ_ h=>h.elim) ⟨λt v=>by have:=S.prow (i:=2) rfl v;rwa[h t v]at this,(S.ok (i:=2) rfl).2⟩ (λ_ h=>.inl h)
theorem St.pfamTo{L:List HA}{cs:Nat->Nat}{xs ys:Nat->List Value}(S:St F W w L)(hi:gi L i=some (.pfam el sz k As ns cs xs))(h:∀i,i<k->xs i=ys i)(y:j7 L i (.pfam el sz k As ns cs ys)=some L'):St F W w L' :=
 S.set (h':=.pfam el sz k As ns cs ys) hi y (Fr.refl (λ_=>False) w) (λ_ h=>h.elim) ⟨λt v=>by have:=S.prow hi v;rwa[h t v]at this,(S.ok hi).2⟩ (λ_ h=>.inl h)
def z6(gw:Nat)(cc:Nat->Int)(qd:Nat->RG)(x0 y0 x1 y1 k i:Nat):RG :=
 if (x0<=i%gw/\i%gw<=x1)/\(y0<=i/gw/\i/gw<=y1)/\(i/gw-y0)*(x1+1-x0)+(i%gw-x0)<k then⟨cc i,cc i⟩else qd i
theorem M6(gw:Nat)(cc:Nat->Int)(qd:Nat->RG)(x0 y0 x1 y1:Nat):z6 gw cc qd x0 y0 x1 y1 0=qd:=funext λi=>by unfold z6;rw[a8 om]
theorem QU(hx:x0<=x1/\x1<gw)(hk:k<(y1+1-y0)*(x1+1-x0)) :
  HP (z6 gw cc qd x0 y0 x1 y1 k) ((y0+k/(x1+1-x0))*gw+(x0+k%(x1+1-x0))) ⟨cc ((y0+k/(x1+1-x0))*gw+(x0+k%(x1+1-x0))),cc ((y0+k/(x1+1-x0))*gw+(x0+k%(x1+1-x0)))⟩=z6 gw cc qd x0 y0 x1 y1 (k+1):=funext λi=>by
 have y:=dt k (show x1+1-x0>0 by omega);have aa:k/(x1+1-x0)<y1+1-y0:=cS (by rw[cD];exact hk);have D:=dP k (x1+1-x0);rw[cD]at D;generalize z:x1+1-x0=v at *;generalize hr:k%v=r at *;generalize hq:k/v=q at *;have hm:((y0+q)*gw+(x0+r))%gw=x0+r:=by rw[cD,fp,dT om]
 have hd:((y0+q)*gw+(x0+r))/gw=y0+q:=by rw[cD,fF om,ee om,eW]
 unfold HP;by_cases e:i=(y0+q)*gw+(x0+r)
 ·rw[a7 e,e];unfold z6;rw[hm,hd,z,a7 ⟨om,om,by rw[(om:y0+q-y0=q),(om:x0+r-x0=r)];omega⟩]
 ·rw[a8 e];unfold z6;rw[z];have I:¬(i/gw=y0+q/\i%gw=x0+r):=λ⟨h1,h2⟩=>e (by have:=dP i gw;rw[h1,h2,cD]at this;exact this.symm);generalize i/gw=a at *;generalize i%gw=b at *;by_cases h:(x0<=b/\b<=x1)/\(y0<=a/\a<=y1)/\(a-y0)*v+(b-x0)<k
  ·rw[a7 h,a7 ⟨h.1,h.2.1,om⟩]
  ·rw[a8 h,a8 (λh2=>h ⟨h2.1,h2.2.1,?_⟩)];have h3:=h2.2.2;rcases eV ((a-y0)*v+(b-x0)) k with J|J
   ·exact J
   ·exfalso;have L:(a-y0)*v+(b-x0)=q*v+r:=om;have O:b-x0<v:=om;have S:((a-y0)*v+(b-x0))%v=b-x0:=by rw[cD,fp,dT O]
    have U:(q*v+r)%v=r:=by rw[cD,fp,dT y]
    have V:((a-y0)*v+(b-x0))/v=a-y0:=by rw[cD,fF om,ee O,eW]
    have Z:(q*v+r)/v=q:=by rw[cD,fF om,ee y,eW]
    rw[L,U]at S;rw[L,Z]at V;exact I ⟨om,om⟩
theorem FV(h:x0<=x1/\x1<n):x0/2^k<=x1/2^k/\x1/2^k<dG n k:=⟨ji h.1,sy k h.2⟩
section
variable{cap:Nat}{cs:Nat->Nat}{q:Nat->Nat->RG}
theorem z7(hx:x0<=x1/\x1<gw)(hy:y0<=y1/\y1<gh)(hG:eJ w p gw gh cc A cap bs Rs)(hq:∀k,k<fW gw gh->∀i,i<dG gw k*dG gh k->¬((x0/2^k<=i%dG gw k/\i%dG gw k<=x1/2^k)/\y0/2^k<=i/dG gw k/\i/dG gw k<=y1/2^k)->q k i=zz gw gh (dw gw gh cc) k i)(S:St F W w (.blk pb 312 [.slice lA (fW gw gh) lc]::.row 389 3 lA (fW gw gh) lc (ut (fW gw gh) gw gh As cs)::.pfam 158 2 (fW gw gh) As (mG gw gh) cs (λk=>mq (mG gw gh k) (q k))::tl)) :
  Fn prog 403 [pt pb,pt p,.agg #[ii x0,ii y0,ii x1,ii y1]] w (λv w'=>v=ii 0 /\
   St F W w' (.blk pb 312 [.slice lA (fW gw gh) lc]::.row 389 3 lA (fW gw gh) lc (ut (fW gw gh) gw gh As cs)::.pfam 158 2 (fW gw gh) As (mG gw gh) cs (wX gw gh (dw gw gh cc))::tl)):=by
 have U:=hG.sw;have hh:=hG.sh;have hm:gw*gh<=1024*1024:=fy U.2 hh.2;have hl:=lI U.2 hh.2;have aF:=hG.top;have aM:=λw'(g:Gr w w')=>iz (W:=w') x0 y0 x1 y1 hx hy (hG.gr g);have h1:=S.blk (i:=0) rfl;have h2:=S.rd (i:=1) rfl;have ak:=λ{j:Nat}(h:j<fW gw gh)=>E3 (gw:=gw) (gh:=gh) (As:=As) (cs:=cs) h;have az:=ak (show 0<fW gw gh by omega);rw[iR U.1,iR hh.1]at az;have aQ:dO lA:=h2.someA (by rw[Cq];omega);have aU:dO (As 0):=(S.prow (i:=2) rfl (t:=0) om).someA (by unfold mG;rw[iR U.1,iR hh.1];exact j5 om om);have bh:(y1+1-y0)*(x1+1-x0)<=1024*1024:=fy om om;have bn:=lE gw cc x0 y0 (x1+1-x0) (y1+1-y0)
 have aC:∀i,i<(y1+1-y0)*(x1+1-x0)->(cY (fi gw cc x0 y0 (x1+1-x0) (y1+1-y0)))[(i:Int).toNat * 1]?=some (ii (cc ((y0+i/(x1+1-x0))*gw+(x0+i%(x1+1-x0))))):=λi hi=>by
  rw[cG,b7];exact gc (yp om hi)
 have S1:=S;clear S;have G:=Gr.refl w;have S:=St.start w;refine zI func403 ?_;refine zN ?_;intro L bt bb S;refine zL (h1.gr S.out) ?_;refine zg ?_;refine ZU (h2.gr S.out) az ?_;refine zN ?_;intro an bu bc S;refine zS ?_;intro bv S;refine zC (mC p gw gh _ _ (aF.gr S.out)) ?_;intro bw be S;refine zK (aM _ S.out) ?_;rintro _ bz ⟨J,Z,rfl,ab,ai,aD⟩;have S:=S.pushRow ab ai aD;refine zg ?_;have S:=S1.app S;generalize bg:fi gw cc x0 y0 (x1+1-x0) (y1+1-y0)=Vs at *;generalize am:x1+1-x0=D at *;generalize V:(y1+1-y0)*D=nn at *
 have y:(λk=>mq (mG gw gh k) (q k))=vJ (λk=>mq (mG gw gh k) (q k)) 0 (mq (gw*gh) (z6 gw cc (q 0) x0 y0 x1 y1 0)):=funext λk=>by
  unfold vJ;by_cases e:k=0
  ·subst e;rw[a7 rfl,M6];show mq (dG gw 0*dG gh 0) _=_;rw[iR U.1,iR hh.1]
  ·rw[a8 e]
 rw[y]at S
 refine dl (λm e w2=>∃k:Nat,k+m=nn/\SL e [(0,pt pb),(5,pt L),(7,pt an),(53,.slice J nn Z),(54,ii nn),(55,ii k)] /\
  St F W w2 (.row 2 1 J nn Z (cY Vs)::.blk an 389 [ii gw,ii gh,.slice (As 0) (gw*gh) (cs 0)]::.blk L 43 [ii x0,ii y0,ii x1,ii y1] ::
   .blk pb 312 [.slice lA (fW gw gh) lc]::.row 389 3 lA (fW gw gh) lc (ut (fW gw gh) gw gh As cs)::.pfam 158 2 (fW gw gh) As (mG gw gh) cs (vJ (λk=>mq (mG gw gh k) (q k)) 0 (mq (gw*gh) (z6 gw cc (q 0) x0 y0 x1 y1 k)))::tl)) nn
  ⟨0,om,sl,S⟩ ?_
 clear S y;rintro m e w2 ⟨k,hk,al,S⟩;rw[al.fold];by_cases aj:k<nn
 ·have aR:dO J:=(S.row (i:=0) rfl).someA om;have bl:=dt k (show D>0 by omega);have bk:k/D<y1+1-y0:=cS (by rw[cD,V];exact aj);have e0:(x1:Int)-x0+1=(D:Nat):=om;have e1:(x0:Int)+(k:Int)%(D:Nat)=((x0+k%D:Nat):Int):=by push_cast;rfl
  have e2:(y0:Int)+(k:Int)/(D:Nat)=((y0+k/D:Nat):Int):=by push_cast;rfl
  have aa:=λw'=>Bw x0 y0 x1 y1 k om om (by rw[e0,(om:(y1:Int)-y0+1=((y1+1-y0:Nat):Int)),iW,show(((y1+1-y0:Nat):Int)*D)=(((y1+1-y0)*D:Nat):Int)by push_cast;rfl,V];omega) w';rw[e0,e1,e2]at aa;have aB:=QU (cc:=cc) (qd:=q 0) (y0:=y0) (y1:=y1) (k:=k) hx (by rw[am,V];exact aj);rw[am]at aB;have aN:=aC k aj;have bp:x0+k%D<gw:=om;have bq:y0+k/D<gh:=om;generalize x0+k%D=cx at *;generalize y0+k/D=cy at *
  have aw:cy*gw+cx<gw*gh:=by
   have:=eZ gw (show cy+1<=gh by omega);rw[lL,cG,cD gw cy]at this;omega
  have e5:(cy:Int)*gw=((cy*gw:Nat):Int):=by push_cast;rfl
  have e6:((cy*gw:Nat):Int)+cx=((cy*gw+cx:Nat):Int):=rfl
  have aA:((cy*gw+cx:Nat):Int).toNat * 2+2<=(vJ (λk=>mq (mG gw gh k) (q k)) 0 (mq (gw*gh) (z6 gw cc (q 0) x0 y0 x1 y1 k)) 0).length:=by
   show _<=(mq (gw*gh) (z6 gw cc (q 0) x0 y0 x1 y1 k)).length;rw[Cp];omega
  have aL:∀X:Nat->List Value,X=vJ (λk=>mq (mG gw gh k) (q k)) 0 (mq (gw*gh) (z6 gw cc (q 0) x0 y0 x1 y1 k))->vJ X 0 ((X 0).take (((cy*gw+cx:Nat):Int).toNat * 2)++[ii (cc (cy*gw+cx)),ii (cc (cy*gw+cx))]++(X 0).drop (((cy*gw+cx:Nat):Int).toNat * 2+2)) =
    vJ (λk=>mq (mG gw gh k) (q k)) 0 (mq (gw*gh) (z6 gw cc (q 0) x0 y0 x1 y1 (k+1))):=λX hX=>by
   subst hX;show vJ _ 0 ((mq (gw*gh) (z6 gw cc (q 0) x0 y0 x1 y1 k)).take (((cy*gw+cx:Nat):Int).toNat * 2)++(RG.mk (cc (cy*gw+cx)) (cc (cy*gw+cx))).cells++(mq (gw*gh) (z6 gw cc (q 0) x0 y0 x1 y1 k)).drop (((cy*gw+cx:Nat):Int).toNat * 2+2))=_;rw[KD aw,aB];funext j;unfold vJ;split<;>rfl
  refine zt ?_;refine z ?_;refine zx ?_;refine dH (eI iY rfl rfl (S.rd (i:=0) rfl) aN) ?_;refine zC (aa w2) ?_;intro bA bf S;refine zN ?_;intro ba aV aS S;refine Z1 0 S ?_;intro aW S;iterate 7 refine z ?_
  refine dU (fh rfl (by rw[e5];omega)) ?_;rw[e5];refine z ?_;refine z ?_;refine dU (fh rfl (by rw[e6];omega)) ?_;rw[e6];refine zg ?_;refine KK (t':=0) (i:=6) S rfl om (iH _) rfl rfl rfl rfl aA rfl rfl ?_;intro br S;refine zg ?_;have S:=S.pfamTo (i:=6) rfl (λt _=>congrFun (aL _ rfl) t) rfl;exact⟨m-1,om,k+1,om,sl,S.drop 1⟩
 ·obtain rfl:k=nn:=om
  have ah:∀i,i<gw*gh->z6 gw cc (q 0) x0 y0 x1 y1 k i=zz gw gh (dw gw gh cc) 0 i:=λi hi=>by
   have aK:zz gw gh (dw gw gh cc) 0 i=⟨cc i,cc i⟩:=by
    unfold zz;rw[iR U.1];show RG.mk ((dw gw gh cc).getD (i/gw*gw+i%gw) 0) ((dw gw gh cc).getD (i/gw*gw+i%gw) 0)=_;rw[cD (i/gw),dP,show(dw gw gh cc).getD i 0=cc i by unfold dw;simp[hi]]
   by_cases I:(x0<=i%gw/\i%gw<=x1)/\y0<=i/gw/\i/gw<=y1
   ·have ha:i/gw-y0+1<=y1+1-y0:=by have:=I.2;omega
    have h5:=cI D ha;rw[V,iI,kR]at h5;have h6:(i/gw-y0)*D+(i%gw-x0)<k:=fg (Nat.add_lt_add_left (show i%gw-x0<D by have:=I.1;omega) _) h5;unfold z6;rw[am,a7 ⟨I.1,I.2,h6⟩,aK]
   ·have:=hq 0 om i (by rw[iR U.1,iR hh.1];exact hi) (by rw[iR U.1,kX,ig,ig,ig,ig];exact I);unfold z6;rw[a8 (λh=>I ⟨h.1,h.2.1⟩),this]
  rw[BC ah]at S;have S:=S.drop 2;refine zg ?_
  have y:vJ (λk=>mq (mG gw gh k) (q k)) 0 (mq (gw*gh) (zz gw gh (dw gw gh cc) 0))=λj=>if j<1 then wX gw gh (dw gw gh cc) j else mq (mG gw gh j) (q j):=funext λj=>by
   unfold vJ;by_cases e:j=0
   ·subst e;rw[a7 rfl,a7 om];show _=mq (dG gw 0*dG gh 0) _;rw[iR U.1,iR hh.1]
   ·rw[a8 e,a8 om]
  rw[y]at S
  refine dl (λm e w3=>∃j:Nat,j+m=fW gw gh/\1<=j/\SL e [(0,pt pb),(5,pt L),(16,ii j)] /\
   St F W w3 (.blk L 43 [ii (x0/2^(j-1):Nat),ii (y0/2^(j-1):Nat),ii (x1/2^(j-1):Nat),ii (y1/2^(j-1):Nat)] ::
    .blk pb 312 [.slice lA (fW gw gh) lc]::.row 389 3 lA (fW gw gh) lc (ut (fW gw gh) gw gh As cs)::.pfam 158 2 (fW gw gh) As (mG gw gh) cs (λi=>if i<j then wX gw gh (dw gw gh cc) i else mq (mG gw gh i) (q i))::tl)) (fW gw gh-1)
   ⟨1,om,om,sl,by rw[show 1-1=0 from rfl,kX,ig,ig,ig,ig];exact S⟩ ?_
  clear S y aC;rintro m3 e w3 ⟨j,hj,bj,al,S⟩;rw[al.fold];by_cases O:j<fW gw gh
  ·obtain⟨i,rfl⟩:∃i,j=i+1:=⟨j-1,om⟩;rw[eA]at S;have aG:=FV (k:=i+1) hx;have aH:=FV (k:=i+1) hy
   have hd:∀a:Nat,((a/2^i:Nat):Int)/2=((a/2^(i+1):Nat):Int):=λa=>by
    rw[gb,<-gv];push_cast;rfl
   have n0:∀a:Nat,(0:Int)<=((a/2^i:Nat):Int)/\((a/2^i:Nat):Int)<=a:=λa=>⟨m6 _,md.2 (sR a _)⟩;have b0:=n0 x0;have b1:=n0 y0;have b2:=n0 x1;have b3:=n0 y1;have ei:((i+1:Nat):Int)-1=(i:Nat):=om;have aJ:=ak (show i+1<fW gw gh from O);have aI:=ak (show i<fW gw gh by omega);have bo:=oZ i U.1;have bi:=oZ i hh.1;have p1:=tg gw i;have p2:=tg gh i;generalize ac:x0/2^(i+1)=X0 at *;generalize ae:y0/2^(i+1)=Y0 at *;generalize ad:x1/2^(i+1)=X1 at *;generalize ag:y1/2^(i+1)=Y1 at *;have ap:=hd x0;have aq:=hd y0;have ar:=hd x1;have au:=hd y1;rw[ac]at ap;rw[ae]at aq;rw[ad]at ar;rw[ag]at au
   have hR:=λw'(S:St F W w' (.blk L 43 [ii X0,ii Y0,ii X1,ii Y1]::.blk pb 312 [.slice lA (fW gw gh) lc]::.row 389 3 lA (fW gw gh) lc (ut (fW gw gh) gw gh As cs)::.pfam 158 2 (fW gw gh) As (mG gw gh) cs (λj=>if j<i+1 then wX gw gh (dw gw gh cc) j else mq (mG gw gh j) (q j))::tl)) =>
    QL (W:=w') (Au:=As i) (Ad:=As (i+1)) (uw:=dG gw i) (uh:=dG gh i) (lw:=dG gw (i+1)) (lh:=dG gh (i+1)) (cu:=cs i) (cd:=cs (i+1)) (qu:=zz gw gh (dw gw gh cc) i) (qd:=q (i+1)) ⟨p1,om,p2,om⟩ (Dr gw i) (Dr gh i) aG aH
     (by have:=(S.prow (i:=3) rfl (t:=i) om).rd;rw[a7 om]at this;exact this) (S.pap (i:=3) rfl om O om) (by have:=S.prow (i:=3) rfl (t:=i+1) O;rw[a8 om]at this;exact this)
   have av:mq (mG gw gh (i+1)) (yl (dG gw i) (dG gh i) (dG gw (i+1)) (zz gw gh (dw gw gh cc) i) (q (i+1)) X0 Y0 X1 (Y1+1) X0)=wX gw gh (dw gw gh cc) (i+1):=BC λa ha=>by
    have bm:=tg gw (i+1);have aO:=dt a (show dG gw (i+1)>0 by omega);have aP:a/dG gw (i+1)<dG gh (i+1):=cS ha;unfold yl;by_cases I:(X0<=a%dG gw (i+1)/\a%dG gw (i+1)<=X1)/\Y0<=a/dG gw (i+1)/\a/dG gw (i+1)<=Y1
    ·rw[a7 ⟨I.1,.inl ⟨I.2.1,Nat.lt_succ_of_le I.2.2⟩⟩];exact By (qz aO) (qz aP) (λu d _ _ h3 _=>Pj h3) 4 (fK _)
    ·rw[a8 (λh=>I ⟨h.1,?_⟩)]
     ·exact hq (i+1) O a ha (by rw[ac,ae,ad,ag];exact I)
     ·rcases h.2 with h|h
      ·exact⟨h.1,nR h.2⟩
      ·exact absurd h.2 om
   refine zg ?_;rw[ap];refine zg ?_;rw[aq];refine zg ?_;rw[ar];refine zg ?_;rw[au];refine zS ?_;intro aX S;refine zD [0,1,2,3,4,5,6,7,8,9,10,11,12,13,14,15] [16] ?_;refine fo (λwq hq=>fb jJ rfl (tZ _) rfl ((S.gr hq).rd (i:=2) rfl) aJ rfl rfl) ?_;refine zQ ?_;rw[ei];refine zQ ?_;refine fo (λwq hq=>fb jJ rfl (tZ _) rfl ((S.gr hq).rd (i:=2) rfl) aI rfl rfl) ?_;refine zE ?_;intro aY aT S;refine zK (hR _ S) ?_;rintro _ aZ ⟨rfl,ao,aE⟩;have S:=S.pfamSet (i:=3) rfl O aE ao rfl;rw[show dG gw (i+1)*dG gh (i+1)=mG gw gh (i+1)from rfl,av]at S;refine zg ?_
   have y:vJ (λj=>if j<i+1 then wX gw gh (dw gw gh cc) j else mq (mG gw gh j) (q j)) (i+1) (wX gw gh (dw gw gh cc) (i+1))=λj=>if j<i+1+1 then wX gw gh (dw gw gh cc) j else mq (mG gw gh j) (q j):=funext λj=>by
    unfold vJ;by_cases e:j=i+1
    ·subst e;rw[a7 rfl,a7 om]
    ·rw[a8 e];show(if j<i+1 then _ else _)=_;by_cases h:j<i+1
     ·rw[a7 h,a7 om]
     ·rw[a8 h,a8 om]
   rw[y]at S;exact⟨m3-1,om,i+1+1,om,om,sl,by rw[eA,ac,ae,ad,ag];exact S⟩
  ·obtain rfl:j=fW gw gh:=om;refine zg ?_;have S:=S.drop 1;have y:∀i,i<fW gw gh->(λi=>if i<fW gw gh then wX gw gh (dw gw gh cc) i else mq (mG gw gh i) (q i)) i=wX gw gh (dw gw gh cc) i:=λi hi=>a7 hi;exact ir rfl ⟨rfl,S.pfamCongr y⟩
end
end Go.Proofs.YtcalhocphkbbgaaGreatDoor
