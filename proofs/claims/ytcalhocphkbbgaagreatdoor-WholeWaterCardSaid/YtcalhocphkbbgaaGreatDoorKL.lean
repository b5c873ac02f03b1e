/- A part of the proof that hachuretop.WholeCharts and hachuretop.WholeWater returns true at every input; no condition. -/
import Derived.Test.YtcalhocphkbbgaaGreatDoorKJ
import Derived.Test.YtcalhocphkbbgaaGreatDoorKK
import Derived.Deep.AppendSrc
set_option maxRecDepth 100000
set_option maxHeartbeats 16000000
set_option linter.unusedVariables false
set_option linter.unusedSimpArgs false
namespace Go.Proofs.YtcalhocphkbbgaaGreatDoor
open Go.Proofs.Tryz Go.RowKit
variable{af:Array Edge}{f:FuncId}{h h':HA}{X0 X1 Y0 Y1 a e0:Int}{kh:IntKind}{σ:List (Nat × Value)}{L':List HA}{V1 V2:List Int}{hd:List Nat}{l l' l2 xs ys τ:List Value}{N b bytes c c1 c2 cap2 cx cy el g gh gw i j k k1 k2 m n n' p p2 q x0 x1 y0 y1:Nat}{c' cc:Nat->Int}{bs bs2:Nat->Nat}{Rs Rs2:Nat->Option Nat}{F:Nat->Prop}{e:Nat->Value}{o2:Oper}{hi x:Operand}{A A1 A2 B B1 B2:Option Addr}{d:Option Tmp}{P:Program}{G:Prop}{r':RG}{t ty:TypeId}{u:Value}{W w w' wq:World}{C:World->Prop}
def Ji(gw:Nat)(V:List Int)(x0 y0 x1 y1 k:Nat)(c:Nat->Int)(i:Nat):Int :=
 if (x0<=i%gw/\i%gw<=x1)/\(y0<=i/gw/\i/gw<=y1)/\(i/gw-y0)*(x1+1-x0)+(i%gw-x0)<k then V.getD ((i/gw-y0)*(x1+1-x0)+(i%gw-x0)) 0 else c i
def im(gw:Nat)(V:List Int)(x0 y0 x1 y1:Nat)(c:Nat->Int)(i:Nat):Int :=
 if (x0<=i%gw/\i%gw<=x1)/\(y0<=i/gw/\i/gw<=y1)then V.getD ((i/gw-y0)*(x1+1-x0)+(i%gw-x0)) 0 else c i
theorem QV(gw:Nat)(V:List Int)(x0 y0 x1 y1:Nat)(c:Nat->Int)(i:Nat):Ji gw V x0 y0 x1 y1 0 c i=c i:=by unfold Ji;rw[a8 om]
theorem TJ{V:List Int}{c:Nat->Int}(z:x0<=x1)(i:Nat):Ji gw V x0 y0 x1 y1 ((y1+1-y0)*(x1+1-x0)) c i=im gw V x0 y0 x1 y1 c i:=by
 unfold Ji im;by_cases h:(x0<=i%gw/\i%gw<=x1)/\(y0<=i/gw/\i/gw<=y1)
 ·have y:i/gw-y0+1<=y1+1-y0:=by have:=h.2;omega
  have v:=cI (x1+1-x0) y;rw[iI,kR]at v;rw[a7 h,a7 ⟨h.1,h.2,fg (Nat.add_lt_add_left (show i%gw-x0<x1+1-x0 by have:=h.1;omega) _) v⟩]
 ·rw[a8 h,a8 (λh2=>h ⟨h2.1,h2.2.1⟩)]
theorem QW{V:List Int}{c:Nat->Int}(hx:x0<=x1/\x1<gw)(hn:1<=n)(aa:k%(x1+1-x0)+n<=x1+1-x0)(hk:y0+k/(x1+1-x0)<=y1)(hI:∀j,j<n->V.getD (k+j) 0=V.getD k 0)(i:Nat) :
  ik gw (x0+k%(x1+1-x0):Nat) (y0+k/(x1+1-x0):Nat) (x0+k%(x1+1-x0)+n-1:Nat) (y0+k/(x1+1-x0):Nat) (V.getD k 0) (Ji gw V x0 y0 x1 y1 k c) i=Ji gw V x0 y0 x1 y1 (k+n) c i:=by
 have S:=dP k (x1+1-x0);have ac:=dt i (show gw>0 by omega);rw[cD]at S;unfold ik Ji;generalize ad:x1+1-x0=v at *;generalize k%v=r at *;generalize k/v=q at *
 have z:su gw ((x0+r:Nat):Int) ((y0+q:Nat):Int) ((x0+r+n-1:Nat):Int) ((y0+q:Nat):Int) i↔(x0+r<=i%gw/\i%gw<=x0+r+n-1)/\i/gw=y0+q:=by
  unfold su;generalize i%gw=b;generalize i/gw=a;omega
 have D:∀{q' r':Nat},r'<v->(q'*v+r')/v=q'/\(q'*v+r')%v=r':=λ{q' r'}h=>⟨by rw[cD,fF om,ee h,eW],by rw[cD,fp,dT h]⟩;by_cases y:su gw ((x0+r:Nat):Int) ((y0+q:Nat):Int) ((x0+r+n-1:Nat):Int) ((y0+q:Nat):Int) i
 ·rw[a7 y];obtain⟨⟨h1,h2⟩,L⟩:=z.1 y;clear z y;generalize i%gw=b at *;generalize i/gw=a at *;rw[(om:a-y0=q),a7 ⟨⟨om,om⟩,⟨om,om⟩,om⟩];have:=hI (b-x0-r) om;rw[<-this];congr 1;omega
 ·rw[a8 y];have Z:¬((x0+r<=i%gw/\i%gw<=x0+r+n-1)/\i/gw=y0+q):=λh=>y (z.2 h);clear z y;generalize i%gw=b at *;generalize i/gw=a at *;by_cases I:(x0<=b/\b<=x1)/\(y0<=a/\a<=y1)
  ·have O:b-x0<v:=om;obtain⟨l1,l2⟩:=D (q':=a-y0) O;generalize ab:(a-y0)*v+(b-x0)=J at *
   have U:¬(q*v+r<=J/\J<q*v+r+n):=λ⟨h1,h2⟩=>by
    have:=D (q':=q) (r':=r+(J-(q*v+r))) om;rw[(om:q*v+(r+(J-(q*v+r)))=J)]at this;exact Z ⟨⟨om,om⟩,om⟩
   by_cases L:J<k
   ·rw[a7 ⟨I.1,I.2,L⟩,a7 ⟨I.1,I.2,om⟩]
   ·rw[a8 (λh=>L h.2.2),a8 (λh=>U ⟨om,by have:=h.2.2;omega⟩)]
  ·rw[a8 (λh=>I ⟨h.1,h.2.1⟩),a8 (λh=>I ⟨h.1,h.2.1⟩)]
section
variable{cap:Nat}{c:Nat->Int}{V:List Int}
theorem VU(cp:Nat)(hx:x0<=x1/\x1<gw)(hy:y0<=y1/\y1<gh)(hV:V.length=(y1+1-y0)*(x1+1-x0))(ao:∀v∈V,iL v=true)(hG:eJ W p gw gh c A cap bs Rs)(hB:Rd W B (cY V))(aq:∀g,jv B g->¬lH (cU gw*cU gh) p A bs Rs g)(aT:∀g,jv B g->g<W.heap.size) :
  Fn prog 219 [pt p,.agg #[ii x0,ii y0,ii x1,ii y1],.slice B V.length cp] W
   (λr w'=>r=.tuple #[]/\yc W p gw gh A cap bs Rs (im gw V x0 y0 x1 y1 c) w'):=by
 have hw:=hG.sw;have hh:=hG.sh;have aV:(y1+1-y0)*(x1+1-x0)<=1024*1024:=fy om om;have aj:1<=(y1+1-y0)*(x1+1-x0):=fy (show 1<=y1+1-y0 by omega) (show 1<=x1+1-x0 by omega);have ac:=λi=>TJ (gw:=gw) (V:=V) (y0:=y0) (y1:=y1) (c:=c) hx.1 i;have al:=λ(k n:Nat)=>QW (gw:=gw) (k:=k) (n:=n) (x0:=x0) (y0:=y0) (x1:=x1) (y1:=y1) (V:=V) (c:=c) hx;rw[<-hV]at ac;generalize aW:x1+1-x0=y at *;have aE:dO B:=hB.someA (by rw[gn];omega);have z:∀{w:World},Fr (lH (cU gw*cU gh) p A bs Rs) W w->Rd w B (cY V):=λ{w}hF=>hB.fr hF (λa ha=>aq _ (by rw[ha];rfl));have S:=St.start1 W (.grid p gw gh c A cap bs Rs) hG;refine zI func219 ?_;refine yA ?_;intro D _ S
 refine dl (λm e w=>∃(k:Nat)(Rs':Nat->Option Nat),k+m=V.length/\SL e [(0,pt p),(2,.slice B V.length cp),(4,pt D),(6,ii k)] /\
  St (lH (cU gw*cU gh) p A bs Rs) W w [.blk D 43 [ii x0,ii y0,ii x1,ii y1],.grid p gw gh (Ji gw V x0 y0 x1 y1 k c) A cap bs Rs']) V.length
  ⟨0,Rs,om,sl,S.as_ (i:=1) rfl rfl (λh=>h.congr (λi _=>(QV _ _ _ _ _ _ _ i).symm)) (λg h=>h)⟩ ?_
 rintro m e w ⟨k,an,hk,ak,S⟩;rw[ak.fold];refine zB ?_ ?_
 ·intro hc;have ar:k<V.length:=om;have aS:k%y<y:=dt _ om;have au:k/y<y1+1-y0:=cS (by rw[cD,<-hV];exact ar);have aR:k/y*y+k%y=k:=by rw[cD];exact dP _ _
  have aD:k/y*y+y<=V.length:=by
   have:(k/y+1)*y<=(y1+1-y0)*y:=cI _ au;rw[cX]at this;omega
  have e0:(x1:Int)-x0+1=(y:Nat):=om;have e1:(x0:Int)+(k:Int)%(y:Nat)=((x0+k%y:Nat):Int):=by push_cast;rfl
  have e2:(y0:Int)+(k:Int)/(y:Nat)=((y0+k/y:Nat):Int):=by push_cast;rfl
  have ae:=λw'=>Bw x0 y0 x1 y1 k om om (by rw[e0,(om:(y1:Int)-y0+1=((y1+1-y0:Nat):Int)),iW,show(((y1+1-y0:Nat):Int)*y)=(((y1+1-y0)*y:Nat):Int)by push_cast;rfl,<-hV];omega) w';rw[e0,e1,e2]at ae;have ap:=al k;have aQ:x0+k%y=x0+k%y:=rfl;generalize aB:k%y=J at *;generalize aC:k/y=ry at *;refine zC (ae w) ?_;intro aY aJ S;refine yA ?_;intro ab _ S
  refine dl (λm e w=>∃n:Nat,1<=n/\n+m=y-J/\SL e [(0,pt p),(2,.slice B V.length cp),(4,pt D),(6,ii k),(7,pt ab),(9,ii n)]/\(∀j,j<n->V.getD (k+j) 0=V.getD k 0) /\
   St (lH (cU gw*cU gh) p A bs Rs) W w [.blk ab 24 [ii (x0+J:Nat),ii (y0+ry:Nat)],.blk D 43 [ii x0,ii y0,ii x1,ii y1],.grid p gw gh (Ji gw V x0 y0 x1 y1 k c) A cap bs an]) (y-J-1)
   ⟨1,om,om,sl,λj hj=>by rw[(om:j=0),eW],S⟩ ?_
  rintro m' e w ⟨n,aj,aU,ak,hI,S⟩;rw[ak.fold];have aN:=z S.fr
  have O:∀i,i<V.length->(cY V)[i]?=some (ii (V.getD i 0)):=λi hi=>by
   refine gc ?_;rw[cO,fw hi];rfl
  have aw:=O k om;have I:(cY V)[(k:Int).toNat * 1]?=some (ii (V.getD k 0)):=by rw[cG,b7];exact aw
  have aa:iL (V.getD k 0)=true:=by
   rw[cO,fw om];exact ao _ (fY _)
  have aa:=(u0 _).1 aa;by_cases ad:x0+J+n<=x1/\V.getD (k+n) 0=V.getD k 0
  ·have am:=O (k+n) om;have Z:(cY V)[((k:Int)+n).toNat * 1]?=some (ii (V.getD (k+n) 0)):=by rw[cG,(om:((k:Int)+n).toNat=k+n)];exact am
   obtain⟨aX,av⟩:=ad;refine zD [0,1,2,3,4,5,6,7,8,9,10,11,12,13,14,15,16,17,18,19] [] ?_;try (refine fO rfl ?_;refine fo (λwq U=>eI iY rfl rfl (z (S.gr U).fr) Z) ?_)
   refine zQ ?_;try (refine fO rfl ?_;refine fo (λwq U=>eI iY rfl rfl (z (S.gr U).fr) I) ?_)
   refine zE ?_;intro aZ aK S;refine⟨m'-1,om,n+1,om,om,sl,λj hj=>?_,S⟩;by_cases e:j=n
   ·subst e;exact av
   ·exact hI j om
  ·have L:¬(x0+J+n<=x1)\/(x0+J+n<=x1/\V.getD (k+n) 0≠V.getD k 0):=by
    by_cases h:x0+J+n<=x1
    ·exact .inr ⟨h,λe=>ad ⟨h,e⟩⟩
    ·exact .inl h
   have e3:((x0+J:Nat):Int)+n-1=((x0+J+n-1:Nat):Int):=om;rcases L with L|⟨aO,aP⟩
   ·skip;refine zF [0,1,2,3,4,5,6,7,8,9,10,11,12,13,14,15,16,17,18,19] [] ?_;intro ba aL S;refine zD [0,1,2,3,4,5,6,7,8,9,10,11,12,13,14,15,16] [17] ?_;rw[e3];refine zO (λwq U=>(z (S.gr U).fr)) I ?_;refine zE ?_;intro bb aM S;refine zK (Cc (x0+J) (y0+ry) (x0+J+n-1) (y0+ry) (V.getD k 0) ⟨om,om⟩ ⟨fK _,om⟩ aa (S.grid (i:=2) rfl)) ?_;rintro _ aF ⟨_,Rs2,ah,ag,ai⟩;have S:=S.set (i:=2) (h':=.grid p gw gh _ A cap bs Rs2) rfl rfl ag (λg h=>.inl h) ah ai;refine zg ?_;have S:=S.sub (.cons _ (.cons_cons _ (.cons_cons _ .slnil)));exact⟨m-n,om,k+n,Rs2,om,sl,S.as_ (i:=1) rfl rfl (λh=>h.congr (λi _=>ap n aj om om hI i)) (λg h=>h)⟩
   ·have am:=O (k+n) om;have Z:(cY V)[((k:Int)+n).toNat * 1]?=some (ii (V.getD (k+n) 0)):=by rw[cG,(om:((k:Int)+n).toNat=k+n)];exact am
    refine zD [0,1,2,3,4,5,6,7,8,9,10,11,12,13,14,15,16,17,18,19] [] ?_;try (refine fO rfl ?_;refine fo (λwq U=>eI iY rfl rfl (z (S.gr U).fr) Z) ?_)
    refine zQ ?_;try (refine fO rfl ?_;refine fo (λwq U=>eI iY rfl rfl (z (S.gr U).fr) I) ?_)
    refine zE ?_;intro aG az S;refine zD [0,1,2,3,4,5,6,7,8,9,10,11,12,13,14,15,16] [17] ?_;rw[e3];refine zO (λwq U=>(z (S.gr U).fr)) I ?_;refine zE ?_;intro aH aA S;refine zK (Cc (x0+J) (y0+ry) (x0+J+n-1) (y0+ry) (V.getD k 0) ⟨om,om⟩ ⟨fK _,om⟩ aa (S.grid (i:=2) rfl)) ?_;rintro _ aI ⟨_,Rs2,ah,ag,ai⟩;have S:=S.set (i:=2) (h':=.grid p gw gh _ A cap bs Rs2) rfl rfl ag (λg h=>.inl h) ah ai;refine zg ?_;have S:=S.sub (.cons _ (.cons_cons _ (.cons_cons _ .slnil)));exact⟨m-n,om,k+n,Rs2,om,sl,S.as_ (i:=1) rfl rfl (λh=>h.congr (λi _=>ap n aj om om hI i)) (λg h=>h)⟩
 ·intro hc;refine zg ?_;obtain rfl:k=V.length:=om;exact na ⟨rfl,an,(S.grid (i:=1) rfl).congr (λi hi=>ac i),S.fr,λg hg=>(S.sep.get (i:=1) rfl).2 g hg⟩
theorem Dz(U:Nat)(hx:x0<=x1/\x1<gw)(hy:y0<=y1/\y1<gh)(hV:V.length=(y1+1-y0)*(x1+1-x0))(y:∀v∈V,iL v=true)(hG:eJ W p gw gh c A cap bs Rs)(hB:Rd W B (cY V))(L:∀g,jv B g->¬lH (cU gw*cU gh) p A bs Rs g)(ae:∀g,jv B g->g<W.heap.size) :
  Fn prog 142 [pt p,.agg #[ii x0,ii y0,ii x1,ii y1],.slice B V.length U] W
   (λr w'=>r=ii 0/\yc W p gw gh A cap bs Rs (im gw V x0 y0 x1 y1 c) w'):=by
 have hw:=hG.sw;have hh:=hG.sh;have an:(y1+1-y0)*(x1+1-x0)<=1024*1024:=fy om om
 have ag:((x1:Int)-x0+1)*((y1:Int)-y0+1)=((V.length:Nat):Int):=by
  rw[hV,(om:(x1:Int)-x0+1=((x1+1-x0:Nat):Int)),(om:(y1:Int)-y0+1=((y1+1-y0:Nat):Int)),iW];push_cast;rfl
 have J:∀{w:World},Fr (lH (cU gw*cU gh) p A bs Rs) W w->Rd w B (cY V):=λ{w}hF=>hB.fr hF (λa ha=>L _ (by rw[ha];rfl));have O:V.any (λv=>!iL v)=false:=nU.2 λv hv=>by rw[y v hv];decide
 have S:=St.start1 W (.grid p gw gh c A cap bs Rs) hG;refine zI func142 ?_;refine zN ?_;intro aj ao al S;refine zK (iz (W:=_) x0 y0 x1 y1 hx hy (S.grid (i:=1) rfl)) ?_;rintro _ ah ⟨ai,ak,rfl,D,I,Z⟩;have S:=S.pushRow D I Z;(iterate 6 refine z ?_);refine zf ?_;iterate 3 refine z ?_
 refine eY rfl (qc _ _ _ _ om ah) ?_;rintro _ ap ⟨rfl,aa⟩;have S:=S.gr aa;rw[ag];refine zC (rf B V.length U _ [] V rfl om (λv=>!iL v) _ (J S.fr) (λx hx w' g=>Dn x w')) ?_;intro aq am S;rw[O];refine zK (VU U hx hy hV y (S.grid (i:=2) rfl) (J S.fr) L (λg hg=>fg (ae g hg) S.le)) ?_;rintro _ ar ⟨rfl,Rs2,ac,ab,ad⟩;have S:=S.set (i:=2) (h':=.grid p gw gh _ A cap bs Rs2) rfl rfl ab (λg h=>.inl h) ac ad;refine zX ?_;exact⟨rfl,Rs2,S.grid (i:=2) rfl,S.fr,λg hg=>(S.sep.get (i:=2) rfl).2 g hg⟩
end
@[reducible] def HR:=Option (Nat×Nat×Nat×Nat)
def TM:HR->List Value
 |none=>[ii 1,ii 0,ii 0,ii 0]
 |some (a,b,c,d)=>[ii a,ii b,ii c,ii d]
def QZ(r:HR)(x y:Nat):HR:=match r with
 |none=>some (x,y,x,y)
 |some (a,b,c,d)=>some (min a x,min b y,max c x,max d y)
def HY(gw gh:Nat):HR->Prop
 |none=>True
 |some (a,b,c,d)=>(a<=c/\c<gw)/\b<=d/\d<gh
def FY(r:HR)(x y:Nat):Prop:=match r with
 |none=>False
 |some (a,b,c,d)=>(a<=x/\x<=c)/\b<=y/\y<=d
theorem VV{r:HR}{x y:Nat}(h:HY gw gh r)(v:x<gw)(z:y<gh):HY gw gh (QZ r x y):=by
 match r,h with
 |none,_=>exact⟨⟨fK _,v⟩,fK _,z⟩
 |some (a,b,c,d),⟨⟨h1,h2⟩,h3,h4⟩=>exact⟨⟨om,om⟩,om,om⟩
theorem Q3(r:HR)(x y:Nat):FY (QZ r x y) x y:=by
 match r with
 |none=>exact⟨⟨fK _,fK _⟩,fK _,fK _⟩
 |some (a,b,c,d)=>exact⟨⟨rt _ _,Nat.le_max_right _ _⟩,rt _ _,Nat.le_max_right _ _⟩
theorem VW{r:HR}{x y:Nat}(v z:Nat)(h:FY r x y):FY (QZ r v z) x y:=by
 match r,h with
 |some (a,b,c,d),⟨⟨h1,h2⟩,h3,h4⟩=>exact⟨⟨om,om⟩,om,om⟩
theorem TN(r:HR)(x y:Nat)(hr:HY 1024 1024 r)(hx:x<1024)(hy:y<1024):Fn prog 122 [.agg (TM r).toArray,.agg #[ii x,ii y,ii x,ii y]] W (dp (.agg (TM (QZ r x y)).toArray) W):=by
 have hb:nb x y x y=true:=(lO _ _ _ _).2 om;match r,hr with
 |none,_ =>
  have L:nb 1 0 0 0=false:=by decide
  show Fn prog 122 [.agg #[ii 1,ii 0,ii 0,ii 0],.agg #[ii x,ii y,ii x,ii y]] W (dp (.agg #[ii x,ii y,ii x,ii y]) W);have S:=St.start W;refine zI func122 ?_;refine zN ?_;intro D ad V S;refine zN ?_;intro I ae Z S;refine zN ?_;intro v ag aa S;refine zC (mz _ _ _ _ _) ?_;intro U ab S;rw[L];iterate 3 refine z ?_
  refine dr rfl ?_;refine eY rfl (mz _ _ _ _ U) ?_;rintro _ ah ⟨rfl,J⟩;have S:=S.gr J;rw[hb];refine zC (mz _ _ _ _ _) ?_;intro ai ac S;rw[L];refine zS ?_;intro O S;exact rA S ⟨rfl,S.out⟩
 |some (a,b,c,d),⟨⟨h1,h2⟩,h3,h4⟩ =>
  have L:nb a b c d=true:=(lO _ _ _ _).2 om;have e1:min (a:Int) x=((min a x:Nat):Int):=om;have e2:min (b:Int) y=((min b y:Nat):Int):=om;have e3:max (c:Int) x=((max c x:Nat):Int):=om;have e4:max (d:Int) y=((max d y:Nat):Int):=om;show Fn prog 122 [.agg #[ii a,ii b,ii c,ii d],.agg #[ii x,ii y,ii x,ii y]] W (dp (.agg #[ii (min a x:Nat),ii (min b y:Nat),ii (max c x:Nat),ii (max d y:Nat)]) W);have S:=St.start W;refine zI func122 ?_;refine zN ?_;intro D ad V S;refine zN ?_;intro I ae Z S;refine zN ?_;intro v ag aa S;refine zC (mz _ _ _ _ _) ?_;intro U ab S;rw[L];refine zC (mz _ _ _ _ _) ?_;intro ah J S;rw[L];refine zC (mz _ _ _ _ _) ?_;intro ai ac S;rw[hb];refine zg ?_;rw[e1];refine zg ?_;rw[e2];refine zg ?_;rw[e3];refine zg ?_;rw[e4];refine zS ?_;intro O S;exact rA S ⟨rfl,S.out⟩
def FZ(gw gh:Nat):List Value:=mX 0 0 ((gw:Int)-1) ((gh:Int)-1) (cU gh)
def uI(gw k:Nat):Nat:=16*(k%cU gw)
def vL(gw k:Nat):Nat:=16*(k/cU gw)
def z8(gw k:Nat):Nat:=uI gw k+fQ gw (k%cU gw)-1
def Aa(gw gh k:Nat):Nat:=vL gw k+fQ gh (k/cU gw)-1
theorem F0(z:1<=gw)(y:k<cU gh*cU gw):(uI gw k<=z8 gw k/\z8 gw k<gw/\z8 gw k+1-uI gw k=fQ gw (k%cU gw))/\vL gw k<=Aa gw gh k/\Aa gw gh k<gh/\Aa gw gh k+1-vL gw k=fQ gh (k/cU gw):=by
 have hi:k%cU gw<cU gw:=dt _ (kQ z);have v:k/cU gw<cU gh:=cS (by rw[cD];exact y);unfold z8 Aa uI vL;generalize k%cU gw=a at *;generalize k/cU gw=b at *;unfold cU at hi v;unfold fQ;omega
theorem Jj(y:1<=gw)(L:k<cU gh*cU gw):((FZ gw gh).drop ((k:Int).toNat * 4)).take 4=[ii (uI gw k),ii (vL gw k),ii (z8 gw k),ii (Aa gw gh k)]:=by
 have hi:k%cU gw<cU gw:=dt _ (kQ y);have z:k/cU gw<cU gh:=cS (by rw[cD];exact L);have v:=y9 0 0 ((gw:Int)-1) ((gh:Int)-1) (cU gh) (k%cU gw) (k/cU gw) (by rw[ng y];exact hi) z;rw[ng y,show k/cU gw*cU gw+k%cU gw=k by rw[cD];exact dP _ _]at v;rw[b7];unfold FZ;rw[v];unfold x6 z8 Aa uI vL;generalize k%cU gw=a at *;generalize k/cU gw=b at *;have D:max (0-0%16+16*(a:Int)) 0=((16*a:Nat):Int):=om;have a2:max (0-0%16+16*(b:Int)) 0=((16*b:Nat):Int):=om;have I:min (0-0%16+16*(a:Int)+16-1) ((gw:Int)-1)=((16*a+fQ gw a-1:Nat):Int):=by unfold cU at hi;unfold fQ;omega
 have J:min (0-0%16+16*(b:Int)+16-1) ((gh:Int)-1)=((16*b+fQ gh b-1:Nat):Int):=by unfold cU at z;unfold fQ;omega
 rw[D,a2,I,J]
def BG(gw k i x y:Nat):Prop:=y/16*cU gw+x/16<k\/(y/16*cU gw+x/16=k/\(y-vL gw k)*fQ gw (k%cU gw)+(x-uI gw k)<i)
theorem Nc(V:1<=gw)(hk:k<cU gh*cU gw){x y:Nat}(Z:x<gw)(hy:y<gh)(h:BG gw k (i+1) x y):BG gw k i x y\/(x=uI gw k+i%fQ gw (k%cU gw)/\y=vL gw k+i/fQ gw (k%cU gw)):=by
 rcases h with h|⟨h1,h2⟩
 ·exact .inl (.inl h)
 ·by_cases U:(y-vL gw k)*fQ gw (k%cU gw)+(x-uI gw k)<i
  ·exact .inl (.inr ⟨h1,U⟩)
  ·right;have J:(y-vL gw k)*fQ gw (k%cU gw)+(x-uI gw k)=i:=om;have D:=kQ V;have z:=jf Z;have I:k%cU gw=x/16:=by rw[<-h1,cD,fp,dT z]
   have L:k/cU gw=y/16:=by rw[<-h1,cD,fF D,ee z,eW]
   have v:x-uI gw k<fQ gw (k%cU gw):=by unfold uI;rw[I];unfold fQ;omega
   have O:i%fQ gw (k%cU gw)=x-uI gw k:=by rw[<-J,cD,fp,dT v]
   have S:i/fQ gw (k%cU gw)=y-vL gw k:=by rw[<-J,cD,fF om,ee v,eW]
   rw[O,S];unfold uI vL;rw[I,L];omega
theorem Nf(O:1<=gw)(U:k<cU gh*cU gw){x y:Nat}(S:x<gw)(V:y<gh)(h:BG gw (k+1) 0 x y):BG gw k (fQ gh (k/cU gw)*fQ gw (k%cU gw)) x y:=by
 rcases h with h|⟨_,h2⟩
 ·by_cases e:y/16*cU gw+x/16=k
  ·have z:=kQ O;have v:=jf S;have D:k%cU gw=x/16:=by rw[<-e,cD,fp,dT v]
   have I:k/cU gw=y/16:=by rw[<-e,cD,fF z,ee v,eW]
   refine .inr ⟨e,?_⟩;have h1:x-uI gw k<fQ gw (k%cU gw):=by unfold uI;rw[D];unfold fQ;omega
   have J:y-vL gw k+1<=fQ gh (k/cU gw):=by unfold vL;rw[I];unfold fQ;omega
   have L:=cI (fQ gw (k%cU gw)) J;rw[iI,kR]at L;omega
  ·exact .inl om
 ·omega
theorem Q4{x y:Nat}(z:x<gw)(D:y<gh):BG gw (cU gh*cU gw) 0 x y:=by
 have h1:=jf z;have h2:=jf D;have v:=cI (cU gw) (show y/16+1<=cU gh by omega);rw[iI,kR]at v;exact .inl om
theorem HZ(r:HR):∃a b c d:Int,TM r=[ii a,ii b,ii c,ii d]:=by
 match r with
 |none=>exact⟨_,_,_,_,rfl⟩
 |some (a,b,c,d)=>exact⟨_,_,_,_,rfl⟩
section
variable{cap:Nat}{c2:Nat->Int}
theorem xN(I:eJ W p gw gh cc A cap bs Rs):Fn prog 139 [pt p] W (jc id 43 4 (cU gh*cU gw) (FZ gw gh) W):=by
 have O:=I.sw;have L:=I.sh;have J:=I.top;have z:=λw=>Dl 0 0 ((gw:Int)-1) ((gh:Int)-1) om w;rw[ng O.1,ng L.1]at z;have S:=St.start W;refine zI func139 ?_;refine zC (uo p gw gh O.2 L.2 _ W (J.gr S.out)) ?_;intro aa Z S;refine zK (z _) ?_;rintro _ ab ⟨U,V,rfl,v,y,D⟩;have S:=S.pushRow v y D;refine zX ?_;exact(S.retNew (i:=0) rfl)
def Xg(gw gh:Nat)(c c2:Nat->Int)(r:HR):Prop:=r≠none->∃x y,x<gw/\y<gh/\c (y*gw+x)≠c2 (y*gw+x)
def Jk(gw gh:Nat)(c c2:Nat->Int)(W:World)(v:Value)(w':World):Prop:=∃r:HR,HY gw gh r/\Xg gw gh c c2 r/\(∀x y,x<gw->y<gh->c (y*gw+x)≠c2 (y*gw+x)->FY r x y)/\match r with
 |none=>v=.tuple #[.agg #[ii 0,ii 0,ii 0,ii 0,.slice none 0 0,.slice none 0 0],ii 0]/\Gr W w'
 |some (x0,y0,x1,y1)=>∃B1 k1 B2 k2,v=.tuple #[.agg #[ii x0,ii y0,ii x1,ii y1,.slice B1 ((y1+1-y0)*(x1+1-x0)) k1,.slice B2 ((y1+1-y0)*(x1+1-x0)) k2],ii 0] /\
  St No W w' [.row 2 1 B2 ((y1+1-y0)*(x1+1-x0)) k2 (cY (fi gw c2 x0 y0 (x1+1-x0) (y1+1-y0))),.row 2 1 B1 ((y1+1-y0)*(x1+1-x0)) k1 (cY (fi gw c x0 y0 (x1+1-x0) (y1+1-y0)))]
theorem KR(hG:eJ W p gw gh cc A cap bs Rs)(aq:eJ W p2 gw gh c2 A2 cap2 bs2 Rs2):Fn prog 393 [pt p,pt p2] W (Jk gw gh cc c2 W):=by
 have hw:=hG.sw;have hh:=hG.sh;have hN:cU gh*cU gw<=64*64:=fy (jS hh.2) (jS hw.2);have aS:=hG.top;have aK:=aq.top;have aW:=λw(g:Gr W w)=>xN (hG.gr g);generalize aE:cU gh*cU gw=N at *;refine yI func393 ?_;refine yA ?_;intro ai _ S;refine zC (uo p gw gh hw.2 hh.2 _ _ (aS.gr S.out)) ?_;intro bP bH S;refine zC (uo p2 gw gh hw.2 hh.2 _ _ (aK.gr S.out)) ?_;intro bQ bI S;refine dU (Nb (r:=false) rfl rfl (by rw[fD ⟨rfl,rfl,rfl,rfl⟩];rfl)) ?_;refine zN ?_;intro aj bR bJ S;refine zS ?_;intro bS S;refine zK (aW _ S.out) ?_;rintro _ bT ⟨L,ad,rfl,ar,au,aR⟩;have S:=S.pushRow ar au aR;refine zg ?_
 refine dl (λm e w=>∃(k:Nat)(r:HR),k+m=N/\HY gw gh r/\Xg gw gh cc c2 r/\(∀x y,x<gw->y<gh->BG gw k 0 x y->cc (y*gw+x)≠c2 (y*gw+x)->FY r x y)/\SL e [(0,pt p),(1,pt p2),(4,pt ai),(6,pt aj),(32,.slice L N ad),(33,ii N),(34,ii k)] /\
  St No W w [.row 43 4 L N ad (FZ gw gh),.blk aj 43 (TM r),.blk ai 253 [ii 0,ii 0,ii 0,ii 0,.slice none 0 0,.slice none 0 0]]) N
  ⟨0,none,om,trivial,λh=>absurd rfl h,λx y _ _ h=>(by rcases h with h|⟨_,h⟩<;>omega),sl,S⟩ ?_
 clear S;rintro m e w ⟨k,r,hk,I,ac,D,aw,S⟩;rw[aw.fold];by_cases aT:k<N
 ·have aY:dO L:=(S.row (i:=0) rfl).someA om;have ah:k<cU gh*cU gw:=by rw[aE];exact aT
  have aX:=Jj (gh:=gh) hw.1 ah;obtain⟨⟨aN,aO,bb⟩,aP,aQ,bc⟩:=F0 (gw:=gw) (gh:=gh) (k:=k) hw.1 ah;have aU:=λi x y hx hy h=>Nc (gw:=gw) (gh:=gh) (k:=k) (i:=i) (x:=x) (y:=y) hw.1 ah hx hy h;have aV:=λx y hx hy h=>Nf (gw:=gw) (gh:=gh) (k:=k) (x:=x) (y:=y) hw.1 ah hx hy h;have al:=λw(g:Gr W w)=>iz (W:=w) (uI gw k) (vL gw k) (z8 gw k) (Aa gw gh k) ⟨aN,aO⟩ ⟨aP,aQ⟩ (hG.gr g);have am:=λw(g:Gr W w)=>iz (W:=w) (uI gw k) (vL gw k) (z8 gw k) (Aa gw gh k) ⟨aN,aO⟩ ⟨aP,aQ⟩ (aq.gr g);rw[bb,bc]at al am;generalize bO:fQ gw (k%cU gw)=v at *;generalize bM:fQ gh (k/cU gw)=J at *;generalize uI gw k=X0 at *;generalize vL gw k=Y0 at *;generalize z8 gw k=X1 at *;generalize Aa gw gh k=Y1 at *;have bN:J*v<=1024*1024:=fy om om
  have aJ:∀(c:Nat->Int)i,i<J*v->(cY (fi gw c X0 Y0 v J))[(i:Int).toNat * 1]?=some (ii (c ((Y0+i/v)*gw+(X0+i%v)))):=λc i hi=>by
   rw[cG,b7];exact gc (yp om hi)
  refine zg ?_;refine ZU (S.rd (i:=0) rfl) aX ?_;refine yA ?_;intro az _ S;refine zK (al _ S.out) ?_;rintro _ bm ⟨O,ae,rfl,V,aa,aA⟩;have S:=S.pushRow V aa aA;refine zK (am _ S.out) ?_;rintro _ bn ⟨U,ag,rfl,Z,ab,aB⟩;have S:=S.pushRow Z ab aB;refine zg ?_
  refine dl (λm2 e w=>∃(i:Nat)(r:HR),i+m2=J*v/\HY gw gh r/\Xg gw gh cc c2 r/\(∀x y,x<gw->y<gh->BG gw k i x y->cc (y*gw+x)≠c2 (y*gw+x)->FY r x y)/\SL e [(0,pt p),(1,pt p2),(4,pt ai),(6,pt aj),(32,.slice L N ad),(33,ii N),(34,ii k),(8,pt az),(9,.slice O (J*v) ae),(11,.slice U (J*v) ag),(51,ii (J*v:Nat)),(52,ii i)] /\
   St No W w [.row 2 1 U (J*v) ag (cY (fi gw c2 X0 Y0 v J)),.row 2 1 O (J*v) ae (cY (fi gw cc X0 Y0 v J)),.blk az 43 [ii X0,ii Y0,ii X1,ii Y1],.row 43 4 L N ad (FZ gw gh),.blk aj 43 (TM r),.blk ai 253 [ii 0,ii 0,ii 0,ii 0,.slice none 0 0,.slice none 0 0]]) (J*v)
   ⟨0,r,om,I,ac,D,sl,S⟩ ?_
  clear S;rintro m2 e w ⟨i,r,hi,I,ac,D,aw,S⟩;rw[aw.fold];by_cases av:i<J*v
  ·have aZ:dO O:=(S.row (i:=1) rfl).someA om;have ba:dO U:=(S.row (i:=0) rfl).someA om;have gx:=aJ cc i av;have gy:=aJ c2 i av;have bL:=dt i (show v>0 by omega);have bK:i/v<J:=cS (by rw[cD];exact av);have e0:(X1:Int)-X0+1=(v:Nat):=om;have e1:(X0:Int)+(i:Int)%(v:Nat)=((X0+i%v:Nat):Int):=by push_cast;rfl
   have e2:(Y0:Int)+(i:Int)/(v:Nat)=((Y0+i/v:Nat):Int):=by push_cast;rfl
   have ao:=λw'=>Bw X0 Y0 X1 Y1 i om om (by rw[e0,(om:(Y1:Int)-Y0+1=((J:Nat):Int)),iW,show((J:Int)*v)=((J*v:Nat):Int)by push_cast;rfl];omega) w';rw[e0,e1,e2]at ao;have aF:X0+i%v<gw:=om;have aG:Y0+i/v<gh:=om;have ap:=aU i;generalize X0+i%v=cx at *;generalize Y0+i/v=cy at *;by_cases hd:cc (cy*gw+cx)=c2 (cy*gw+cx)
   ·skip;refine yA ?_;refine pF (C:=λwq=>Gr w wq) [0,1,2,3,4,5,6,7,8] [] (by kernel_rfl) (by kernel_rfl) (Gr.drew _) ?_;simp only[iS,dK,dR];refine y ?_;refine y ?_;refine yx ?_;refine fo (λwq hq=>eI iY rfl rfl ((S.gr hq).rd (i:=1) rfl) gx) ?_;refine y ?_;refine y ?_;refine yx ?_;refine fo (λwq hq=>eI iY rfl rfl ((S.gr hq).rd (i:=0) rfl) gy) ?_;refine zE ?_;intro bo bf S;refine⟨m2-1,om,i+1,r,om,I,ac,λx y hx hy h ak=>?_,sl,S⟩;rcases ap x y hx hy h with h|⟨e1,e2⟩
    ·exact D x y hx hy h ak
    ·exact absurd (by rw[e1,e2];exact hd) ak
   ·have aM:=VV I aF aG;have aL:=λw=>TN (W:=w) r cx cy (match r,I with|none,_=>trivial|some (a,b,c,d),⟨⟨h1,h2⟩,h3,h4⟩=>⟨⟨h1,om⟩,h3,om⟩) om om;obtain⟨r1,r2,r3,r4,aH⟩:=HZ r;obtain⟨u1,u2,u3,u4,aI⟩:=HZ (QZ r cx cy);simp only[aH,aI]at aL;rw[aH]at S;refine zt ?_;refine z ?_;refine z ?_;refine zc ?_;refine pF (C:=λwq=>Gr w wq) [0,1,2,3,4,5,6,7,8] [] (by kernel_rfl) (by kernel_rfl) (Gr.drew _) ?_;simp only[iS,dK,dR];refine y ?_;refine y ?_;refine yx ?_;refine fo (λwq hq=>eI iY rfl rfl ((S.gr hq).rd (i:=1) rfl) gx) ?_;refine y ?_;refine y ?_;refine yx ?_;refine fo (λwq hq=>eI iY rfl rfl ((S.gr hq).rd (i:=0) rfl) gy) ?_;refine zE ?_;intro bp bg S;refine zC (ao _) ?_;intro bq bh S;refine zN ?_;intro bG br bi S;refine zS ?_;intro bt S;refine zC (aL _) ?_;refine zS ?_;intro bu S;rw[<-aI]at S;refine⟨m2-1,om,i+1,QZ r cx cy,om,aM,λ_=>⟨cx,cy,aF,aG,hd⟩,λx y hx hy h ak=>?_,sl,S.drop 1⟩;rcases ap x y hx hy h with h|⟨e1,e2⟩
    ·exact VW cx cy (D x y hx hy h ak)
    ·rw[e1,e2];exact Q3 r cx cy
  ·obtain rfl:i=J*v:=om;have S:=S.drop 3;refine zg ?_;exact⟨m-1,om,k+1,r,om,I,ac,λx y hx hy h=>D x y hx hy (aV x y hx hy h),sl,S⟩
 ·obtain rfl:k=N:=om;have an:∀x y,x<gw->y<gh->cc (y*gw+x)≠c2 (y*gw+x)->FY r x y:=λx y hx hy=>D x y hx hy (by rw[<-aE];exact Q4 hx hy);have S:=S.drop 1;match r,I,ac with
  |none,_,_ =>
   have ha:nb 1 0 0 0=false:=by decide
   have S:St No W w [.blk aj 43 [ii 1,ii 0,ii 0,ii 0],.blk ai 253 [ii 0,ii 0,ii 0,ii 0,.slice none 0 0,.slice none 0 0]]:=S;refine zC (mz _ _ _ _ w) ?_;intro bv bj S;rw[ha];refine zS ?_;intro bw S;refine pG S ⟨none,trivial,λh=>absurd rfl h,an,rfl,S.out⟩
  |some (x0,y0,x1,y1),hok,ac =>
   obtain⟨⟨h1,h2⟩,h3,h4⟩:=hok;have ha:nb x0 y0 x1 y1=true:=(lO _ _ _ _).2 om;have S:St No W w [.blk aj 43 [ii x0,ii y0,ii x1,ii y1],.blk ai 253 [ii 0,ii 0,ii 0,ii 0,.slice none 0 0,.slice none 0 0]]:=S;have al:=λw(g:Gr W w)=>iz (W:=w) x0 y0 x1 y1 ⟨h1,h2⟩ ⟨h3,h4⟩ (hG.gr g);have am:=λw(g:Gr W w)=>iz (W:=w) x0 y0 x1 y1 ⟨h1,h2⟩ ⟨h3,h4⟩ (aq.gr g);refine zC (mz _ _ _ _ w) ?_;intro bz bk S;rw[ha];refine zN ?_;intro be bA bl S;refine zS ?_;intro bB S;refine zK (al _ S.out) ?_;rintro _ bC ⟨O,ae,rfl,V,aa,aC⟩;have S:=S.pushRow V aa aC;refine zS ?_;intro bD S;refine zK (am _ S.out) ?_;rintro _ bE ⟨U,ag,rfl,Z,ab,aD⟩;have S:=S.pushRow Z ab aD;refine zS ?_;intro bF S;refine pG S ⟨some (x0,y0,x1,y1),⟨⟨h1,h2⟩,h3,h4⟩,ac,an,O,ae,U,ag,rfl,S.sub (.cons_cons _ (.cons_cons _ (.cons _ (.cons _ (.cons _ .slnil)))))⟩
end
section
variable{V:List Int}
theorem F1(h0:0<V.length)(hm:V.length<=1048576)(D:Rd W A (cY V)):Fn prog 220 [.slice A V.length c] W (jc id 2 1 V.length (cY V) W):=by
 have Z:=gn V;have y:dO A:=D.someA om;obtain⟨ab,ao,rfl⟩:=y
 have h1:((cY V).all λv=>v.oneCell')=true:=dh.2 λv I=>by
  simp only[cY,fC]at I;obtain⟨i,_,rfl⟩:=I;rfl
 have S:=St.start W;refine zI func220 ?_;refine zg ?_;refine dU (xF (B:=false) fZ rfl rfl) ?_;refine zg ?_;refine mv fZ cR S ?_;intro J aa U S z;refine zg ?_;refine fM (i:=0) S rfl (λh=>rfl) fZ jR rfl rfl rfl rfl (by rw[Z,cG]) om (D.gr S.out) h1 om ?_;intro L O ac S z;refine zg ?_;rw[jL]at S;rw[eH]at S ⊢;exact ir rfl (S.retNew (i:=0) rfl)
theorem Q7(v:Int):Fn prog 406 ([]++[ii v]++[]) W (dp (.bool (!iL v)) W):=by
 by_cases h:v < -2147483648
 ·skip;have S:=St.start W;refine zI func406 ?_;refine zX ?_;exact⟨be (by rw[iq];simp[iL];omega),S.out⟩
 ·skip;have S:=St.start W;refine zI func406 ?_;refine zX ?_;exact⟨be (by rw[iq];simp[iL];omega),S.out⟩
theorem F2(hx:x0<=x1/\x1<1024)(hy:y0<=y1/\y1<1024)(hV:V.length=(y1+1-y0)*(x1+1-x0))(D:∀v∈V,iL v=true)(hA:Rd W A (cY V)) :
  Fn prog 400 [.agg #[ii x0,ii y0,ii x1,ii y1],.slice A V.length c] W (dp (.bool true) W):=by
 have ab:(y1+1-y0)*(x1+1-x0)<=1024*1024:=fy om om
 have L:((x1:Int)-x0+1)*((y1:Int)-y0+1)=((V.length:Nat):Int):=by
  rw[hV,(om:(x1:Int)-x0+1=((x1+1-x0:Nat):Int)),(om:(y1:Int)-y0+1=((y1+1-y0:Nat):Int)),iW];push_cast;rfl
 have y:V.any (λv=>!iL v)=false:=nU.2 λv hv=>by rw[D v hv];decide
 have S:=St.start W;refine zI func400 ?_;refine zN ?_;intro Z O aa S;iterate 4 refine z ?_
 refine eY rfl (qc _ _ _ _ om O) ?_;rintro _ U ⟨rfl,I⟩;have S:=S.gr I;rw[L];refine zt ?_;refine z ?_;refine z ?_;refine dr rfl ?_;refine eY rfl (rf A V.length c _ [] V rfl om (λv=>!iL v) U (hA.gr S.out) (λx hx w' g=>Q7 x)) ?_;rintro _ ac ⟨rfl,J⟩;have S:=S.gr J;rw[y];exact zZ
structure uM(w:World)(x0 y0 x1 y1 n k1 k2:Nat)(B1 B2:Option Addr)(V1 V2:List Int):Prop where
 hx:x0<=x1/\x1<1024
 hy:y0<=y1/\y1<1024
 hn:n=(y1+1-y0)*(x1+1-x0)
 l1:V1.length=n
 l2:V2.length=n
 m1:∀v∈V1,iL v=true
 m2:∀v∈V2,iL v=true
 r1:Rd w B1 (cY V1)
 r2:Rd w B2 (cY V2)
def vg(x0 y0 x1 y1 n k1 k2:Nat)(B1 B2:Option Addr):Value:=.agg #[ii x0,ii y0,ii x1,ii y1,.slice B1 n k1,.slice B2 n k2]
def tD:Value:=.agg #[ii 0,ii 0,ii 0,ii 0,.slice none 0 0,.slice none 0 0]
theorem uM.gr(h:uM w x0 y0 x1 y1 n k1 k2 B1 B2 V1 V2)(g:Gr w w'):uM w' x0 y0 x1 y1 n k1 k2 B1 B2 V1 V2:=⟨h.hx,h.hy,h.hn,h.l1,h.l2,h.m1,h.m2,h.r1.gr g,h.r2.gr g⟩
theorem uM.pos(h:uM w x0 y0 x1 y1 n k1 k2 B1 B2 V1 V2):1<=n/\n<=1024*1024:=by
 have:=h.hx;have:=h.hy;rw[h.hn];exact⟨fy (show 1<=y1+1-y0 by omega) (show 1<=x1+1-x0 by omega),fy om om⟩
theorem H0(I:uM W x0 y0 x1 y1 n k1 k2 B1 B2 V1 V2):Fn prog 399 [vg x0 y0 x1 y1 n k1 k2 B1 B2] W (dp (.bool false) W):=by
 have J:=I.pos;unfold vg;by_cases D:(x0:Int)=0/\(y0:Int)=0/\(x1:Int)=0/\(y1:Int)=0
 ·skip;have S:=St.start W;refine zI func399 ?_;refine zN ?_;intro v z y S;refine zg ?_;refine dU (yq (r:=true) rfl rfl (fD D)) ?_;exact zZ
 ·skip;have S:=St.start W;refine zI func399 ?_;refine zN ?_;intro v z y S;refine zg ?_;refine dU (yq (r:=false) rfl rfl (iO D)) ?_;exact zZ
theorem Jl:Fn prog 399 [tD] W (dp (.bool true) W):=by
 unfold tD;have S:=St.start W;refine zI func399 ?_;refine zN ?_;intro v z y S;refine zg ?_;refine dU (yq (r:=true) rfl rfl (fD ⟨rfl,rfl,rfl,rfl⟩)) ?_;exact zZ
theorem H1(v:uM W x0 y0 x1 y1 n k1 k2 B1 B2 V1 V2):Fn prog 394 [vg x0 y0 x1 y1 n k1 k2 B1 B2] W (dp (.bool true) W):=by
 have ha:nb x0 y0 x1 y1=true:=(lO _ _ _ _).2 (by have:=v.hx;have:=v.hy;omega);have he:=λw(g:Gr W w)=>H0 (v.gr g);have y:=λw(g:Gr W w)=>F2 (W:=w) (c:=k1) v.hx v.hy (v.l1.trans v.hn) v.m1 (v.r1.gr g);have D:=λw(g:Gr W w)=>F2 (W:=w) (c:=k2) v.hx v.hy (v.l2.trans v.hn) v.m2 (v.r2.gr g);rw[v.l1]at y;rw[v.l2]at D;unfold vg at *;have S:=St.start W;refine zI func394 ?_;refine zN ?_;intro Z ac aa S;refine zC (he _ S.out) ?_;intro O ab S;iterate 3 refine z ?_
 refine dr rfl ?_;refine eY rfl (mz _ _ _ _ O) ?_;rintro _ U ⟨rfl,I⟩;have S:=S.gr I;rw[ha];iterate 5 refine z ?_
 refine dr rfl ?_;refine eY rfl (y U S.out) ?_;rintro _ V ⟨rfl,J⟩;have S:=S.gr J;iterate 6 refine z ?_
 refine dr rfl ?_;refine eY rfl (D V S.out) ?_;rintro _ ad ⟨rfl,L⟩;have S:=S.gr L;exact zZ
theorem Jm:Fn prog 394 [tD] W (dp (.bool true) W):=by
 have D:=λw=>Jl (W:=w);unfold tD at *;have S:=St.start W;refine zI func394 ?_;refine zN ?_;intro v I y S;refine zC (D _) ?_;intro J z S;exact zZ
end
def Jn(F:Nat->Prop)(W:World)(L:List HA)(T1 T2:Value->HA->Prop)(wq:World):List Value->Prop
 |[]=>St F W wq L
 |[v]=>∃h,T1 v h/\St F W wq (h::L)
 |[u,v]=>∃h g,T1 v h/\T2 u g/\St F W wq (g::h::L)
 |_=>False
theorem Jn.st{L:List HA}{T1 T2:Value->HA->Prop}:∀{τ:List Value},Jn F W L T1 T2 wq τ->St F W wq L
 |[],h=>h
 |[v],⟨_,_,S⟩=>S.drop 1
 |[u,v],⟨_,_,_,_,S⟩=>S.drop 2
def W5(V:List Int):Value->HA->Prop:=λv h=>∃A c,v=.slice A V.length c/\h=.row 2 1 A V.length c (cY V)
section
variable{V:List Int}
theorem F3(z:uM W x0 y0 x1 y1 n k1 k2 B1 B2 V1 V2):Fn prog 143 [vg x0 y0 x1 y1 n k1 k2 B1 B2] W (λv w'=>∃A1 c1 A2 c2,v=vg x0 y0 x1 y1 n c1 c2 A1 A2/\St No W w' [.row 2 1 A2 n c2 (cY V1),.row 2 1 A1 n c1 (cY V2)]):=by
 have hn:=z.pos;have D:=λw(g:Gr W w)=>F1 (W:=w) (c:=k1) (by rw[z.l1];omega) (by rw[z.l1];omega) (z.r1.gr g);have I:=λw(g:Gr W w)=>F1 (W:=w) (c:=k2) (by rw[z.l2];omega) (by rw[z.l2];omega) (z.r2.gr g);have J:=z.l1;have l2:=z.l2;rw[J]at D;rw[l2]at I;unfold vg;have S:=St.start W;refine zI func143 ?_;refine zN ?_;intro O ac aa S;refine zN ?_;intro L ad ab S;refine zH (C:=(λσ wq=>Jn No W [.blk L 253 [ii 0,ii 0,ii 0,ii 0,.slice none 0 0,.slice none 0 0],.blk O 253 [ii x0,ii y0,ii x1,ii y1,.slice B1 n k1,.slice B2 n k2]] (W5 V2) (W5 V1) wq σ)) [4,7] [0,1,2,3,5,6,4,7,8] [9] (S.gr (Gr.drew _)) ?_;refine zV (λτ wq y=>((Jn.st y).blk (i:=1) rfl)) ?_;refine zV (λτ wq y=>((Jn.st y).blk (i:=1) rfl)) ?_;refine zV (λτ wq y=>((Jn.st y).blk (i:=1) rfl)) ?_;refine de rfl rfl (λwq y=>l4 rfl ((I wq (St.out (Jn.st y))).mono (λv w'⟨A1,c1,hv,hR,hF,g⟩=>⟨_,⟨A1,c1,l2.symm▸hv,rfl⟩,(Jn.st y).pushRow (l2.symm▸hR) hF g⟩))) ?_;rintro v4 w4 ⟨h4,⟨U,Z,rfl,_⟩,_⟩;refine de rfl rfl (λwq y=>l4 rfl ((D wq (St.out (Jn.st y))).mono (λv w'⟨A1,c1,hv,hR,hF,g⟩=>(λ⟨h,t,S⟩=>⟨h,_,t,⟨A1,c1,J.symm▸hv,rfl⟩,S.pushRow (J.symm▸hR) hF g⟩) y))) ?_;rintro v5 w5 ⟨h5,g5,⟨A5,c5,e5,_⟩,⟨V,c6,rfl,_⟩,_⟩;refine zY ?_;rintro w8 ⟨h8,g8,⟨A1,c1,e8,rfl⟩,⟨A2,c2,f8,rfl⟩,S⟩;cases e8
 cases f8
 refine zS ?_;intro w9 S;rw[J,l2]at S;rw[J,l2];exact rA S ⟨U,Z,V,c6,rfl,S.sub (.cons_cons _ (.cons_cons _ (.cons _ (.cons _ .slnil))))⟩
def E5(gw gh:Nat)(cc c2:Nat->Int)(W:World)(v:Value)(w':World):Prop:=∃(a b d e:Int)(A1:Option Addr)(n k1:Nat)(A2:Option Addr)(k2:Nat)(L':List HA),v=.tuple #[.agg #[ii a,ii b,ii d,ii e,.slice A1 n k1,.slice A2 n k2],ii 0]/\St No W w' L' /\
 (((∀x y,x<gw->y<gh->cc (y*gw+x)=c2 (y*gw+x))/\L'=[]/\a=0/\b=0/\d=0/\e=0/\A1=none/\n=0/\k1=0/\A2=none/\k2=0) \/
  ∃x0 y0 x1 y1:Nat,(x0<=x1/\x1<gw)/\(y0<=y1/\y1<gh)/\(∃x y,x<gw/\y<gh/\cc (y*gw+x)≠c2 (y*gw+x))/\(∀x y,x<gw->y<gh->cc (y*gw+x)≠c2 (y*gw+x)->(x0<=x/\x<=x1)/\y0<=y/\y<=y1)/\a=x0/\b=y0/\d=x1/\e=y1/\n=(y1+1-y0)*(x1+1-x0) /\
   L'=[.row 2 1 A2 n k2 (cY (fi gw c2 x0 y0 (x1+1-x0) (y1+1-y0))),.row 2 1 A1 n k1 (cY (fi gw cc x0 y0 (x1+1-x0) (y1+1-y0)))])
theorem Jk.two{c2:Nat->Int}{v:Value}(h:Jk gw gh cc c2 W v w'):E5 gw gh cc c2 W v w':=by
 obtain⟨r,I,D,z,J⟩:=h;match r,I,D,z,J with
 |none,_,_,z,⟨hv,g⟩ =>
  refine⟨0,0,0,0,none,0,0,none,0,[],hv,(St.start W).gr g,.inl ⟨λx y L O=>?_,rfl,rfl,rfl,rfl,rfl,rfl,rfl,rfl,rfl,rfl⟩⟩;rcases Int.decEq (cc (y*gw+x)) (c2 (y*gw+x))with h|h
  ·exact(z x y L O h).elim
  ·exact h
 |some (x0,y0,x1,y1),⟨⟨h1,h2⟩,h3,h4⟩,D,z,⟨C1,k1,C2,k2,hv,S⟩=>exact⟨_,_,_,_,C1,_,k1,C2,k2,_,hv,S,.inr ⟨x0,y0,x1,y1,⟨h1,h2⟩,⟨h3,h4⟩,D (λh=>by cases h),z,rfl,rfl,rfl,rfl,rfl,rfl⟩⟩
variable{cap:Nat}
theorem Pq(cp:Nat)(hx:x0<=x1/\x1<gw)(hy:y0<=y1/\y1<gh)(hV:V.length=(y1+1-y0)*(x1+1-x0))(L:∀v∈V,iL v=true)(hG:eJ W p gw gh cc A cap bs Rs)(hB:Rd W B (cY V)) :
  Fn prog 390 [pt p,.agg #[ii x0,ii y0,ii x1,ii y1],.slice B V.length cp] W (E5 gw gh cc (im gw V x0 y0 x1 y1 cc) W):=by
 have al:1<=(y1+1-y0)*(x1+1-x0):=fy (show 1<=y1+1-y0 by omega) (show 1<=x1+1-x0 by omega);have J:∀g,jv B g->g<W.heap.size:=λg D=>hB.lt (by rw[gn];omega) D;have ad:=λw(g:Gr W w)=>FX (hG.gr g);have S:=St.start W;refine zI func390 ?_;refine zN ?_;intro ai am aj S;refine zN ?_;intro ah an ak S;refine zK (ad _ S.out) ?_;rintro _ ao ⟨q,A2,cap2,bs2,Rs2,rfl,aa,y,U⟩;have I:=S.le;have S:=S.pushGrid aa y U;refine zK (Dz cp hx hy hV L (S.grid (i:=0) rfl) (hB.gr S.out) (λg D h=>Nat.lt_irrefl g (fg (J g D) (dE I (y g h)))) (λg D=>fg (J g D) S.le)) ?_;rintro _ ap ⟨rfl,O,ab,Z,ac⟩;have S:=S.set (i:=0) (h':=.grid q gw gh (im gw V x0 y0 x1 y1 cc) A2 cap2 bs2 O) rfl rfl Z (λg h=>.inl h) ab ac;refine zK ((KR (hG.gr S.out) (S.grid (i:=0) rfl)).mono (λ_ _ h=>h.two)) ?_;rintro _ aq ⟨a,b,d,e',C1,n',ae,C2,ag,L',rfl,S2,z⟩;have S:=(S.app S2).perm_ ft;refine zS ?_;intro ar S;refine pG S ⟨a,b,d,e',C1,n',ae,C2,ag,L',rfl,S.drop 3,z⟩
end
theorem yc.pre{cap:Nat}{c:Nat->Int}(g:Gr W w)(h:yc w p gw gh A cap bs Rs c w'):yc W p gw gh A cap bs Rs c w':=by
 obtain⟨v,z,y,D⟩:=h;exact⟨v,z,(Fr.of_gr g).trans y (λ_ h=>.inl h),λx I=>(D x I).imp id (λh=>dE g.size h)⟩
section
variable{d:Nat}{V xs ys:List Int}
theorem F4(hx:xs.length=n)(hy:ys.length=n)(hn:n<=1048576)(L:Rd W A (cY xs))(O:Rd W B (cY ys)):Fn prog 401 [.slice A n c,.slice B n d] W (dp (.bool (decide (xs=ys))) W):=by
 have I:∀i,i<n->(cY xs)[(i:Int).toNat * 1]?=some (ii (xs.getD i 0)):=λi hi=>by rw[cG,b7];exact gc (kr om)
 have J:∀i,i<n->(cY ys)[(i:Int).toNat * 1]?=some (ii (ys.getD i 0)):=λi hi=>by rw[cG,b7];exact gc (kr om)
 have S:=St.start W;refine zI func401 ?_;refine zg ?_;refine dl (λm e w=>∃i:Nat,i+m=n/\(∀j,j<i->xs.getD j 0=ys.getD j 0)/\SL e [(0,.slice A n c),(1,.slice B n d),(12,ii n),(13,ii i)]/\St No W w []) n ⟨0,om,λj hj=>by omega,sl,S⟩ ?_;clear S;rintro m e w ⟨i,hi,D,U,S⟩;rw[U.fold];by_cases v:i<n
 ·have V:dO A:=L.someA (by rw[gn];omega);have Z:dO B:=O.someA (by rw[gn];omega);by_cases hd:xs.getD i 0=ys.getD i 0
  ·skip;refine zD [0,1,2,3,4,5,6,7,8] [] ?_;refine zO (λwq y=>(L.gr (S.gr y).out)) (I i v) ?_;refine zO (λwq y=>(O.gr (S.gr y).out)) (J i v) ?_;refine zE ?_;intro ac aa S
   exact⟨m-1,om,i+1,om,λj hj=>by
    by_cases e:j=i
    ·subst e;exact hd
    ·exact D j om,sl,S⟩
  ·skip;refine zD [0,1,2,3,4,5,6,7,8] [] ?_;refine zO (λwq y=>(L.gr (S.gr y).out)) (I i v) ?_;refine zO (λwq y=>(O.gr (S.gr y).out)) (J i v) ?_;refine zE ?_;intro ad ab S;exact ir rfl ⟨be (by rw[iO (λe=>hd (by rw[e]))]),S.out⟩
 ·obtain rfl:i=n:=om
  have z:xs=ys:=by
   apply List.ext_getElem om;intro j h1 h2;have:=D j om;rw[cO,cO,fw h1,fw h2]at this;exact this
  refine zX ?_;exact⟨be (by rw[fD z]),S.out⟩
variable{cap:Nat}
theorem Q8(ag:x1<gw)(ah:y1<gh)(hG:eJ W p gw gh cc A cap bs Rs)(y:uM W x0 y0 x1 y1 n k1 k2 B1 B2 V1 V2)(al:∀g,jv B2 g->¬lH (cU gw*cU gh) p A bs Rs g) :
  Fn prog 397 [pt p,vg x0 y0 x1 y1 n k1 k2 B1 B2] W (λv w'=>(fi gw cc x0 y0 (x1+1-x0) (y1+1-y0)=V1/\v=ii 0/\yc W p gw gh A cap bs Rs (im gw V2 x0 y0 x1 y1 cc) w') \/
   (fi gw cc x0 y0 (x1+1-x0) (y1+1-y0)≠V1/\v=ii 15/\Gr W w')):=by
 have hn:=y.pos;have ae:=λw(g:Gr W w)=>H1 (y.gr g);have Z:=λw(g:Gr W w)=>H0 (y.gr g);have J:=λw(g:Gr W w)=>iz (W:=w) x0 y0 x1 y1 ⟨y.hx.1,ag⟩ ⟨y.hy.1,ah⟩ (hG.gr g);have L:=lE gw cc x0 y0 (x1+1-x0) (y1+1-y0);have am:∀g,jv B2 g->g<W.heap.size:=λg hg=>y.r2.lt (by rw[gn,y.l2];omega) hg;have ab:=y.hn;rw[<-ab]at J L;have ac:=λw(g:Gr W w)=>Dz (W:=w) k2 ⟨y.hx.1,ag⟩ ⟨y.hy.1,ah⟩ (y.l2.trans ab) y.m2 (hG.gr g) (y.r2.gr g) al (λx hx=>fg (am x hx) g.size);rw[y.l2]at ac;have aa:=y.l1;have ad:=y.r1;generalize aD:fi gw cc x0 y0 (x1+1-x0) (y1+1-y0)=Vs at *;unfold vg at *;have G:=Gr.refl W;have S:=St.start W;refine zI func397 ?_;by_cases I:Vs=V1
 ·skip;refine zN ?_;intro ai aE aw S;refine zC (ae _ (G.trans S.out)) ?_;intro aF az S;refine zC (Z _ (G.trans S.out)) ?_;intro aG aA S;refine zK (J _ (G.trans S.out)) ?_;rintro _ aH ⟨O,U,rfl,z,D,aj⟩;have S:=S.pushRow z D aj;refine zC (F4 L aa om (S.rd (i:=0) rfl) (ad.gr S.out)) ?_;intro aI aB S;rw[fD I];refine zK (ac _ (G.trans S.out)) ?_;rintro _ aJ ⟨rfl,ak⟩;refine zX ?_;exact(.inl ⟨I,rfl,ak.pre S.out⟩)
 ·skip;refine zN ?_;intro ai aK aC S;refine zC (ae _ (G.trans S.out)) ?_;intro aq an S;refine zC (Z _ (G.trans S.out)) ?_;intro ar ao S;refine zK (J _ (G.trans S.out)) ?_;rintro _ au ⟨O,U,rfl,z,D,V⟩;have S:=S.pushRow z D V;refine zC (F4 L aa om (S.rd (i:=0) rfl) (ad.gr S.out)) ?_;intro av ap S;rw[iO I];refine zX ?_;exact(.inr ⟨I,rfl,S.out⟩)
end
section
variable{ps:String}
theorem F5{el:TypeId}{v:Operand}{len cap:Nat}{L:IntKind}(D:P.underlying t=some (.slice el))(J:∀w,(sizeOf el).run P w=.ok k w)(I:ev e x=.slice A len cap)(y:ev e hi=.int kh n)(z:ev e v=.int L m)(h1:n<=m)(h2:m<=cap):iE P e ⟨d,.slice t x none (some hi) (some v),ty,ps,af,none⟩ (.slice A n m):=by
 intro w;have O:Option.map (λx=>x.add 0) A=A:=by cases A<;>simp[Addr.add]
 simp[gd,execOp,I,y,z,Instr.sliceAt,Instr.slice,dS D,Instr.sliceBounds,j0,h1,h2,J,dE h1 h2];try (intro S;cases A<;>simp[Addr.add])
theorem Ek{s:Operand}{t:Nat}{z:Value}(hu:P.underlying t=some (.slice el))(hI:(P.info? el).map (λi=>(i.zero,i.size,i.bytes))=some (some z,k,bytes))(hz:Nat.beq z.cells.size k=true)(hs:ev e s=.slice A n n)(hx:ev e x=.slice B m c2)(D:xs.length=n*k)(hR:Rd w A xs)(ai:A=none→n=0)(I:ys.length=m*k)(ah:0<m)(U:0<k)(L:Rd w B ys)(h1:(ys.all λv=>v.oneCell')=true)(hb:(n+m)*(bytes+1)≤140737488355328) :
    ∃g c' w',(execOp (ev e) ⟨d,.call ⟨.builtin .append,#[s,x],#[t,t]⟩,ty,ps,af,none⟩).run P w=.ok (.value (.slice (some ⟨g,0,none⟩) (n+m) c')) w'∧gH w' el k (some ⟨g,0,none⟩) (n+m) c' (xs++ys)∧Gr w w'∧w.heap.size≤g:=by
  obtain⟨y,S,al,ab,am⟩:=nG hI;obtain⟨b2,o2,rfl⟩:=L.someA (by rw[I];exact j5 ah U)
  have ad:∀(j:Nat)u,ys[j]?=some u→w.cell? ((⟨b2,o2,none⟩:Addr).add j)=some u:=λj u J=>by
    rcases L with h|⟨b,o,e1,_,hc⟩
    · rw[h]at J;cases J
    · cases e1;rw[js];exact hc j u J
  have aa:Src P y.size t (.slice (some ⟨b2,o2,none⟩) m c2) m ys w:=Src.ofSlice w hu ⟨b2,o2,none⟩ m c2 ys (by rw[ab];exact I) ad (λu hu=>dh.1 h1 u hu);have O:n<n+m:=by omega
  have ac:(n+m)*y.bytes≤140737488355328:=by rw[am];exact dE (eZ _ om) hb
  have an:n+m≤140737488355328:=dE (eS _ om) hb
  have V:(Builtin.firstCells y.size n (.slice A n n)).run P w.drew=.ok xs.toArray w.drew:=by
    cases A with
    |none =>
      have:=ai rfl;subst this;have aj:xs=[]:=by simpa using D
      subst aj;rfl
    |some a =>
      rcases hR with h|⟨b,o,e1,_,hc⟩
      · subst h
        have:n=0:=by
          rcases iZ n with h|h
          · exact h
          · have:=j5 h U;simp at D;omega
        subst this
        exact pL w.drew y.size 0 a 0 0 [] (by simp) (λj u J=>by cases J)
      · cases e1
        exact pL w.drew y.size n ⟨b,o,none⟩ n n xs (by rw[ab,D]) (λj u J=>by rw[js];exact hc j u J)
  have Z:=run_append_grow_src (P:=P) w t t ty el y z hu S al A n n xs V (.slice (some ⟨b2,o2,none⟩) m c2) m ys aa O om (growslice_fits O ac);have ag:=grownCap_ge w (n+m) n el;have ae:grownCap w (n+m) n el≤maxLen:=p9 w (n+m) n el (by unfold maxLen;omega);refine⟨w.heap.size,grownCap w (n+m) n el,w.drew.alloc (.cells ((xs++ys).toArray++Builtin.zeroCells z.cells (grownCap w (n+m) n el-(n+m))) el),?_,?_,?_,fK _⟩
  · simp[execOp,resolve,invoke,builtin,hs,hx,Z]
  · have ak:=eU hz
    refine gH.mk_ (l:=((xs++ys).toArray++Builtin.zeroCells z.cells (grownCap w (n+m) n el-(n+m))).toList) ?_ ag ?_ ?_ ae
    · unfold eL
      rw[o6]
      exact nH w.drew _
    · rw[pC,qH,nF,ak]
      simp only[nS,cP,D,I]
      rw[←iI,←iI]
      congr 1
      omega
    · rw[Array.toList_append,List.take_left' (by simp only[cP,D,I];rw[←iI])]
  · exact(Gr.drew w).trans (Gr.alloc _ _)
end
structure lS where
 x0:Nat
 y0:Nat
 x1:Nat
 y1:Nat
 B1:Option Addr
 k1:Nat
 B2:Option Addr
 k2:Nat
 V1:List Int
 V2:List Int
def lS.cells(x:lS):List Value:=[ii x.x0,ii x.y0,ii x.x1,ii x.y1,.slice x.B1 x.V1.length x.k1,.slice x.B2 x.V2.length x.k2]
structure DA(gw gh:Nat)(x:lS):Prop where
 hx:x.x0<=x.x1/\x.x1<gw
 hy:x.y0<=x.y1/\x.y1<gh
 l1:x.V1.length=(x.y1+1-x.y0)*(x.x1+1-x.x0)
 l2:x.V2.length=(x.y1+1-x.y0)*(x.x1+1-x.x0)
 m1:∀v∈x.V1,iL v=true
 m2:∀v∈x.V2,iL v=true
def lS.ok(w:World)(x:lS):Prop:=gH w 2 1 x.B1 x.V1.length x.k1 (cY x.V1)/\gH w 2 1 x.B2 x.V2.length x.k2 (cY x.V2)
def HA.pts(l:List lS):HA:=⟨λg=>∃x∈l,jv x.B1 g\/jv x.B2 g,λw=>∀x∈l,x.ok w,λ_ _ h _ hR x hx=>⟨(hR x hx).1.keep (λg hg=>h g ⟨x,hx,.inl hg⟩),(hR x hx).2.keep (λg hg=>h g ⟨x,hx,.inr hg⟩)⟩,λ_ hR _⟨x,hx,hg⟩=>hg.elim (λh=>(hR x hx).1.lt h) (λh=>(hR x hx).2.lt h)⟩
section
variable{L:List HA}{l:List lS}{x:lS}
theorem St.pts0(S:St F W w L):St F W w (.pts []::L):=S.push (Gr.refl w) (h:=.pts []) (λx v=>by cases v) (λg⟨x,v,_⟩=>by cases v)
theorem St.pts1(S:St F W w (.row 2 1 x.B2 x.V2.length x.k2 (cY x.V2)::.row 2 1 x.B1 x.V1.length x.k1 (cY x.V1)::L)):St F W w (.pts [x]::L) :=
 S.two (h:=.pts [x]) (λh1 h2 y v=>by rw[dM.1 v];exact⟨h2,h1⟩) (λg⟨y,v,hg⟩=>by rw[dM.1 v]at hg;exact hg.symm)
theorem St.ptsApp{l':List lS}(S:St F W w (.pts l'::.pts l::L)):St F W w (.pts (l++l')::L) :=
 S.two (h:=.pts (l++l')) (λh1 h2 y v=>(ez.1 v).elim (h2 y) (h1 y)) (λg⟨y,v,hg⟩=>(ez.1 v).elim (λh=>.inr ⟨y,h,hg⟩) (λh=>.inl ⟨y,h,hg⟩))
theorem DA.ptok(v:DA gw gh x)(J:gw<=1024)(I:gh<=1024)(y:n=x.V1.length)(z:k1=x.k1)(D:k2=x.k2)(h:x.ok w):uM w x.x0 x.y0 x.x1 x.y1 n k1 k2 x.B1 x.B2 x.V1 x.V2 :=
 ⟨⟨v.hx.1,by have:=v.hx;omega⟩,⟨v.hy.1,by have:=v.hy;omega⟩,y.trans v.l1,y.symm,by rw[y,v.l1,v.l2],v.m1,v.m2,h.1.rd,h.2.rd⟩
theorem TO(l:List lS):(l.flatMap lS.cells).length=l.length*6:=lF (f:=lS.cells) (λ_=>rfl) l
theorem H2:∀(l:List lS)(d:Nat),(l.flatMap lS.cells).take (d*6)=(l.take d).flatMap lS.cells
 |[],d=>by simp
 |y::r,0=>by simp
 |y::r,d+1=>by
  rw[fe,po,fe,<-H2 r d,cX,ka (d*6) 6]
  rw[jB]
  have v:(lS.cells y).length=6:=rfl
  rw[v,fN om,(om:6+d*6-6=d*6)]
end
theorem Pr(y:uM W x0 y0 x1 y1 n k1 k2 B1 B2 V1 V2):Fn prog 144 [vg x0 y0 x1 y1 n k1 k2 B1 B2] W (λv w'=>∃A1 c1 A2 c2,v=vg x0 y0 x1 y1 n c1 c2 A1 A2/\St No W w' [.row 2 1 A2 n c2 (cY V2),.row 2 1 A1 n c1 (cY V1)]):=by
 have hb:=λw(g:Gr W w)=>F3 (y.gr g);have z:=λw A1 c1 A2 c2(h2:Rd w A1 (cY V2))(h1:Rd w A2 (cY V1))=>F3 (W:=w) (x0:=x0) (y0:=y0) (x1:=x1) (y1:=y1) (n:=n) (k1:=c1) (k2:=c2) (B1:=A1) (B2:=A2) (V1:=V2) (V2:=V1) ⟨y.hx,y.hy,y.hn,y.l2,y.l1,y.m2,y.m1,h2,h1⟩;unfold vg at *;have S:=St.start W;refine zI func144 ?_;refine zN ?_;intro U ac aa S;refine zN ?_;intro O ad ab S;refine zK (hb _ S.out) ?_;rintro _ ae ⟨A1,c1,A2,c2,rfl,J⟩;have S:=S.app J;refine zK (z _ A1 c1 A2 c2 (S.rd (i:=1) rfl) (S.rd (i:=0) rfl)) ?_;rintro _ ag ⟨D,V,I,Z,rfl,L⟩;have S:=S.app L;refine zS ?_;intro ah S;exact rA S ⟨D,V,I,Z,rfl,S.sub (.cons_cons _ (.cons_cons _ (.cons _ (.cons _ (.cons _ (.cons _ .slnil))))))⟩
theorem TP(h:n<=c):Fn prog 395 [.slice A n c] W (dp (.slice A n n) W):=by
 have S:=St.start W;refine zI func395 ?_;refine zg ?_;refine dU (F5 oz nV rfl rfl rfl (fK _) h) ?_;exact zZ
theorem yt:Fn prog 30 [] W (λv w'=>∃b,v=pt b/\St No W w' [.blk b 115 [.slice none 0 0,ii 0]]):=by
 have S:=St.start W;refine zI func30 ?_;refine zN ?_;intro y D z S;refine zX ?_;exact⟨y,rfl,S⟩
end Go.Proofs.YtcalhocphkbbgaaGreatDoor
