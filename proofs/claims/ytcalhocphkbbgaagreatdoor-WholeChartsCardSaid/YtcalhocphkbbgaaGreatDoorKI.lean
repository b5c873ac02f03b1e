/- A part of the proof that hachuretop.WholeCharts and hachuretop.WholeWater returns true at every input; no condition. -/
import Derived.Test.YtcalhocphkbbgaaGreatDoorKH
import Derived.Test.YtcalhocphkbbgaaGreatDoorKF
set_option maxRecDepth 100000
set_option maxHeartbeats 16000000
set_option linter.unusedVariables false
set_option linter.unusedSimpArgs false
namespace Go.Proofs.YtcalhocphkbbgaaGreatDoor
open Go.Proofs.Tryz Go.RowKit
variable{af:Array Edge}{f:FuncId}{h h':HA}{Y a a' d' e0:Int}{σ:List (Nat × Value)}{K:List (Nat × Value)->Act->Prop}{V':List Int}{hd:List Nat}{l xs τ:List Value}{b c c1 cx cy dn el el' g gh gw i j k k' kind m n n' p q rb sz tb:Nat}{cc:Nat->Int}{bs ns o':Nat->Nat}{As:Nat->Option Addr}{Rs:Nat->Option Nat}{F:Nat->Prop}{e:Nat->Value}{hi x:Operand}{A A1 B l0:Option Addr}{d:Option Tmp}{P:Program}{dd:TypeDesc}{t t' ty:TypeId}{u v1 v2 v3:Value}{W w w' wq:World}{C:World->Prop}
def dG(n k:Nat):Nat:=(n-1)/2^k+1
theorem iR(h:1<=n):dG n 0=n:=by simp[dG];omega
theorem Dr(n k:Nat):dG n (k+1)=(dG n k-1)/2+1:=by
 unfold dG;rw[eA,gb,gv]
theorem tg(n k:Nat):1<=dG n k:=Nat.le_add_left 1 _
theorem oZ(k:Nat)(h:1<=n):dG n k<=n:=by
 have:=sR (n-1) (2^k);unfold dG;generalize (n-1)/2^k=q at *;omega
theorem sy(k:Nat)(h:c<n):c/2^k<dG n k:=by
 have:=ji (c:=2^k) (show c<=n-1 by omega);unfold dG;omega
theorem qz{x:Nat}(h:x<dG n (k+1)):2*x<dG n k:=by
 rw[Dr]at h;have:=tg n k;omega
def wn(f:Nat->Nat->RG)(w h x y:Nat):Nat->RG
 |0=>f (2*x) (2*y)
 |i+1=>if 2*x+i%2<w/\2*y+i/2<h then mE (wn f w h x y i) (f (2*x+i%2) (2*y+i/2))else wn f w h x y i
theorem By{f g:Nat->Nat->RG}{w h x y:Nat}(hx:2*x<w)(hy:2*y<h)(he:∀u d,u/2=x->d/2=y->u<w->d<h->f u d=g u d):∀i,i<=4->wn f w h x y i=wn g w h x y i
 |0,_=>he _ _ om om hx hy
 |i+1,hi=>by
  unfold wn
  rw[By hx hy he i om]
  split
  ·rename_i hc
   rw[he _ _ om om hc.1 hc.2]
  ·rfl
theorem Kt{f:Nat->Nat->RG}{w h x y:Nat}:∀n i,i<n->2*x+i%2<w->2*y+i/2<h->(wn f w h x y n).lo<=(f (2*x+i%2) (2*y+i/2)).lo/\(f (2*x+i%2) (2*y+i/2)).hi<=(wn f w h x y n).hi
 |n+1,i,hi,h1,h2=>by
  unfold wn
  by_cases e:i=n
  ·subst e
   rw[a7 ⟨h1,h2⟩]
   unfold mE
   exact⟨Int.min_le_right _ _,Int.le_max_right _ _⟩
  ·have ih:=Kt (f:=f) n i om h1 h2
   split
   ·unfold mE;exact⟨uP (Int.min_le_left _ _) ih.1,uP ih.2 (Int.le_max_left _ _)⟩
   ·exact ih
theorem HH{f:Nat->Nat->RG}{w h x y:Nat}(O:2*x<w)(S:2*y<h):∀n,n<=4->(∃u d,u/2=x/\d/2=y/\u<w/\d<h/\(wn f w h x y n).lo=(f u d).lo)/\∃u d,u/2=x/\d/2=y/\u<w/\d<h/\(wn f w h x y n).hi=(f u d).hi
 |0,_=>⟨⟨2*x,2*y,om,om,O,S,rfl⟩,⟨2*x,2*y,om,om,O,S,rfl⟩⟩
 |n+1,hn=>by
  obtain⟨⟨u,d,h1,h2,U,V,Z⟩,⟨u',d',v,z,D,I,J⟩⟩:=HH (f:=f) O S n om
  unfold wn;split
  ·rename_i L;unfold mE;constructor
   ·rcases me (wn f w h x y n).lo (f (2*x+n%2) (2*y+n/2)).lo with h|h
    ·exact⟨u,d,h1,h2,U,V,by show min _ _=_;rw[Int.min_eq_left h,Z]⟩
    ·exact⟨2*x+n%2,2*y+n/2,om,om,L.1,L.2,by show min _ _=_;rw[Int.min_eq_right h]⟩
   ·rcases me (f (2*x+n%2) (2*y+n/2)).hi (wn f w h x y n).hi with h|h
    ·exact⟨u',d',v,z,D,I,by show max _ _=_;rw[Int.max_eq_left h,J]⟩
    ·exact⟨2*x+n%2,2*y+n/2,om,om,L.1,L.2,by show max _ _=_;rw[Int.max_eq_right h]⟩
  ·exact⟨⟨u,d,h1,h2,U,V,Z⟩,⟨u',d',v,z,D,I,J⟩⟩
def pm(gw gh:Nat)(V:List Int):Nat->Nat->Nat->RG
 |0,x,y=>⟨V.getD (y*gw+x) 0,V.getD (y*gw+x) 0⟩
 |k+1,x,y=>wn (pm gw gh V k) (dG gw k) (dG gh k) x y 4
section
variable{V:List Int}
theorem I5(v:cx<gw)(z:cy<gh):∀k,(pm gw gh V k (cx/2^k) (cy/2^k)).lo<=V.getD (cy*gw+cx) 0/\V.getD (cy*gw+cx) 0<=(pm gw gh V k (cx/2^k) (cy/2^k)).hi
 |0=>by simp[pm]
 |k+1=>by
  have ih:=I5 v z k
  have h1:=sy k v;have h2:=sy k z;have D:cx/2^(k+1)=cx/2^k/2:=by rw[gb,gv]
  have I:cy/2^(k+1)=cy/2^k/2:=by rw[gb,gv]
  rw[D,I];generalize cx/2^k=a at *;generalize cy/2^k=b at *;show(wn (pm gw gh V k) (dG gw k) (dG gh k) (a/2) (b/2) 4).lo<=_/\_<=(wn (pm gw gh V k) (dG gw k) (dG gh k) (a/2) (b/2) 4).hi;have J:2*(a/2)+(a%2+2*(b%2))%2=a:=om;have L:2*(b/2)+(a%2+2*(b%2))/2=b:=om;have:=Kt (f:=pm gw gh V k) (w:=dG gw k) (h:=dG gh k) (x:=a/2) (y:=b/2) 4 (a%2+2*(b%2)) om om om;rw[J,L]at this;omega
theorem Ci(hw:1<=gw)(hh:1<=gh):∀(k x y:Nat),x<dG gw k->y<dG gh k->(∃cx cy,cx<gw/\cy<gh/\cx/2^k=x/\cy/2^k=y/\(pm gw gh V k x y).lo=V.getD (cy*gw+cx) 0)/\∃cx cy,cx<gw/\cy<gh/\cx/2^k=x/\cy/2^k=y/\(pm gw gh V k x y).hi=V.getD (cy*gw+cx) 0
 |0,x,y,hx,hy=>by
  rw[iR hw]at hx
  rw[iR hh]at hy
  exact⟨⟨x,y,hx,hy,by simp,by simp,rfl⟩,⟨x,y,hx,hy,by simp,by simp,rfl⟩⟩
 |k+1,x,y,hx,hy=>by
  obtain⟨⟨u,d,h1,h2,h3,h4,h5⟩,⟨u',d',U,Z,aa,ab,ac⟩⟩:=HH (f:=pm gw gh V k) (qz hx) (qz hy) 4 (fK _)
  obtain⟨⟨cx,cy,a1,a2,a3,a4,a5⟩,_⟩:=Ci hw hh k u d h3 h4;obtain⟨_,⟨O,S,z,D,I,J,L⟩⟩:=Ci hw hh k u' d' aa ab;have v:∀c,c/2^(k+1)=c/2^k/2:=λc=>by rw[gb,gv]
  exact⟨⟨cx,cy,a1,a2,by rw[v,a3,h1],by rw[v,a4,h2],h5.trans a5⟩,⟨O,S,z,D,by rw[v,I,U],by rw[v,J,Z],ac.trans L⟩⟩
theorem Ku:∀(k x y:Nat),x<dG gw k->y<dG gh k->(∀cx cy,cx<gw->cy<gh->cx/2^k=x->cy/2^k=y->V.getD (cy*gw+cx) 0=V'.getD (cy*gw+cx) 0)->1<=gw->1<=gh->pm gw gh V k x y=pm gw gh V' k x y
 |0,x,y,hx,hy,h,hw,hh=>by
  rw[iR hw]at hx
  rw[iR hh]at hy
  have:=h x y hx hy (by simp) (by simp)
  unfold pm;rw[this]
 |k+1,x,y,hx,hy,h,hw,hh=>By (qz hx) (qz hy) (λu d h1 h2 I J=>Ku k u d I J (λcx cy v a2 z D=>h cx cy v a2 (by rw[gb,<-gv,z,h1]) (by rw[gb,<-gv,D,h2])) hw hh) 4 (fK _)
end
section
variable{ps:String}
theorem Ck{el:TypeId}{len:Nat}{v:List (Nat×Operand)}{z:Value}{l0:List Value}(O:P.underlying t=some (.array len el))(L:∀w,(sizeOf el).run P w=.ok k w)(S:∀w,(zeroValue t).run P w=.ok z w)(h1:yS (λi=>some (i*k,k)) z.cells.toList (yQ e v)=some l0)(h2:lj l0=some l):iE P e ⟨d,.build t v.toArray,ty,ps,af,none⟩ (.agg l.toArray):=by
 intro w;have D:=mK h2;subst D;have y:=v8 h1;have I:(z.cells.toList).toArray=z.cells:=by simp
 rw[I]at y;have J:(v.map λp=>(p.1,ev e p.2))=yQ e v:=EY e v;simp[gd,execOp,Instr.build,S,dS O,L,J,y]
theorem rR{el:TypeId}{i:Operand}{len:Nat}{kd:IntKind}{n:Int}{cs:List Value}(z:P.underlying t=some (.array len el))(hd:P.underlying el=some dd)(J:∀w,(sizeOf el).run P w=.ok k w)(y:sM dd=true)(I:ev e x=.agg cs.toArray)(hi:ev e i=.int kd n)(v:0<=n)(h1:n<len)(D:(cs.drop (n.toNat * k)).take k=l):iE P e ⟨d,.index t x i,ty,ps,af,none⟩ (.agg l.toArray):=by
 intro w;simp[gd,execOp,I,hi,Instr.index,asIntOf,dS z,J,v,h1,part,si hd,y];exact D
end
def FC(gw n i:Nat):Nat->Bool
 |0=>decide (gw<=i)
 |1=>decide (0<i%gw)
 |2=>decide (i%gw+1<gw)
 |_=>decide (i+gw<n)
def Hm(gw i:Nat):Nat->Int
 |0=>(i:Int)-gw
 |1=>(i:Int)-1
 |2=>(i:Int)+1
 |_=>(i:Int)+gw
def Ky(gw n i:Nat):Nat->List Nat
 |0=>if gw<=i then [i-gw]else []
 |1=>if 0<i%gw then [i-1]else []
 |2=>if i%gw+1<gw then [i+1]else []
 |_=>if i+gw<n then [i+gw]else []
def Cl(gw n i:Nat):Nat->List Nat
 |0=>[]
 |k+1=>Cl gw n i k++Ky gw n i k
theorem MP(gw n i:Nat):Cl gw n i 4=qg gw n i:=by
 simp only[Cl,Ky,qg,jL]
theorem QA(v:0<gw)(hi:i<gw*gh)(k:Nat)(y:k<4) :
  (FC gw (gw*gh) i k=true/\∃a,Hm gw i k=(a:Nat)/\a<gw*gh/\Ky gw (gw*gh) i k=[a])\/(FC gw (gw*gh) i k=false/\Ky gw (gw*gh) i k=[]):=by
 have z:=Kv (gh:=gh) v hi
 have D:0<i%gw->1<=i:=λh=>by
  rcases iZ i with h1|h1
  ·subst h1;simp at h
  ·exact h1
 match k,y with
 |0,_ =>
  by_cases h:gw<=i
  ·exact .inl ⟨fD h,i-gw,by simp only[Hm];omega,om,a7 h⟩
  ·exact .inr ⟨iO h,a8 h⟩
 |1,_ =>
  by_cases h:0<i%gw
  ·exact .inl ⟨fD h,i-1,by have:=D h;simp only[Hm];omega,om,a7 h⟩
  ·exact .inr ⟨iO h,a8 h⟩
 |2,_ =>
  by_cases h:i%gw+1<gw
  ·exact .inl ⟨fD h,i+1,by simp only[Hm];omega,z h,a7 h⟩
  ·exact .inr ⟨iO h,a8 h⟩
 |3,_ =>
  by_cases h:i+gw<gw*gh
  ·exact .inl ⟨fD h,i+gw,by simp only[Hm];omega,h,a7 h⟩
  ·exact .inr ⟨iO h,a8 h⟩
def Tz(gw n i:Nat):List Value:=[.bool (FC gw n i 0),ii (Hm gw i 0),.bool (FC gw n i 1),ii (Hm gw i 1),.bool (FC gw n i 2),ii (Hm gw i 2),.bool (FC gw n i 3),ii (Hm gw i 3)]
theorem MQ(k:Nat)(v:k<4):((Tz gw n i).drop ((k:Int).toNat * 2)).take 2=[.bool (FC gw n i k),ii (Hm gw i k)]:=by
 match k,v with
 |0,_=>rfl
 |1,_=>rfl
 |2,_=>rfl
 |3,_=>rfl
def yh(V:List Int)(i:Nat)(l:List Nat):Nat:=l.foldl (λb n=>if V.getD n 0<V.getD b 0 then n else b) i
theorem TA(V:List Int)(i:Nat)(l r:List Nat):yh V i (l++r)=yh V (yh V i l) r:=nT
theorem FD(V:List Int):∀(l:List Nat)(i:Nat),yh V i l=i\/(yh V i l∈l/\V.getD (yh V i l) 0<V.getD i 0)
 |[],i=>.inl rfl
 |n::l,i=>by
  show yh V (if V.getD n 0<V.getD i 0 then n else i) l=i\/_
  have ih:=FD V l
  have e:yh V i (n::l)=yh V (if V.getD n 0<V.getD i 0 then n else i) l:=rfl;rw[e];by_cases h:V.getD n 0<V.getD i 0
  ·rw[a7 h];rcases ih n with h1|⟨h1,h2⟩
   ·rw[h1];exact .inr ⟨eB,h⟩
   ·exact .inr ⟨cW _ h1,om⟩
  ·rw[a8 h];rcases ih i with h1|⟨h1,h2⟩
   ·exact .inl h1
   ·exact .inr ⟨cW _ h1,h2⟩
def kW(gw:Nat)(V:List Int)(i:Nat):Nat:=yh V i (qg gw V.length i)
theorem Cm{V:List Int}(v:0<gw)(y:V.length=gw*gh)(hi:i<gw*gh):kW gw V i=i\/(kW gw V i<gw*gh/\V.getD (kW gw V i) 0<V.getD i 0):=by
 rcases FD V (qg gw V.length i) i with h|⟨h1,h2⟩
 ·exact .inl h
 ·rw[y]at h1;refine .inr ⟨?_,h2⟩;have:=((tC v hi).1 h1).1;unfold kW;rw[y];exact this
theorem HI{V:List Int}(v:0<gw)(y:V.length=gw*gh)(hi:i<gw*gh):kW gw V i<gw*gh:=by
 rcases Cm v y hi with h|h
 ·rw[h];exact hi
 ·exact h.1
def xx(f:Nat->Nat):Nat->Nat->Nat
 |0,i=>i
 |k+1,i=>f (xx f k i)
theorem zn(f:Nat->Nat):∀k i,xx f (k+1) i=xx f k (f i)
 |0,i=>rfl
 |k+1,i=>congrArg f (zn f k i)
structure FE(n:Nat)(v:Nat->Int)(f:Nat->Nat):Prop where
 lt:∀i,i<n->f i<n
 fall:∀i,i<n->f i=i\/v (f i)<v i
def FF(f:Nat->Nat)(c k:Nat):Prop:=(∀j,j<k->xx f (j+1) c≠xx f j c)/\xx f (k+1) c=xx f k c
section
variable{v:Nat->Int}{f:Nat->Nat}
theorem FF.uniq(h:FF f c k)(h':FF f c k'):k=k':=by
 rcases qG k k' with e|e|e
 ·exact absurd h.2 (h'.1 k e)
 ·exact e
 ·exact absurd h'.2 (h.1 k' e)
theorem FE.itr_lt(h:FE n v f)(hc:c<n):∀k,xx f k c<n
 |0=>hc
 |k+1=>h.lt _ (h.itr_lt hc k)
theorem FE.stops(h:FE n v f):∀(r c:Nat),c<n->zk n v c<=r->∃k,FF f c k/\k<=r
 |r,c,hc,hr=>by
  rcases h.fall c hc with e|e
  ·exact⟨0,⟨λj D=>by omega,e⟩,ib _⟩
  ·have h1:=zm (n:=n) (d:=v) (i:=f c) (j:=c) (h.lt c hc) e
   cases r with
   |zero=>omega
   |succ r =>
    obtain⟨k,y,I⟩:=h.stops r (f c) (h.lt c hc) om;refine⟨k+1,⟨λj D=>?_,?_⟩,om⟩
    ·cases j with
     |zero=>show f c≠c;intro z;rw[z]at e;omega
     |succ j=>rw[zn f (j+1) c,zn f j c];exact y.1 j om
    ·rw[zn f (k+1) c,zn f k c];exact y.2
theorem FE.stop(h:FE n v f)(y:c<n):∃k,FF f c k/\k<n:=by
 obtain⟨k,h1,h2⟩:=h.stops _ c y (fK _);have:=AD (n:=n) (d:=v) y;exact⟨k,h1,om⟩
def zp(f:Nat->Nat)(c k:Nat):List Nat:=(List.range (k+1)).map λj=>xx f j c
theorem abs:(zp f c k).length=k+1:=by simp[zp]
theorem MR:zp f c (k+1)=zp f c k++[xx f (k+1) c]:=by
 unfold zp;rw[eG,fq];rfl
theorem QB(h:j<k+1):(zp f c k)[j]?=some (xx f j c):=by simp[zp,h]
theorem MS:(zp f c k)[k]?=some (xx f k c):=QB (Nat.lt_succ_self k)
end
theorem FG{V:List Int}(v:0<gw)(y:V.length=gw*gh):FE (gw*gh) (λi=>V.getD i 0) (kW gw V) :=
 ⟨λi hi=>HI v y hi,λi hi=>(Cm v y hi).imp id (λh=>h.2)⟩
def ur(u:Nat):Nat:=if u<128 then 1 else 1+ur (u/128)
 termination_by u
 decreasing_by omega
theorem vI{u:Nat}(h:u<128):ur u=1:=by rw[ur,a7 h]
theorem yj{u:Nat}(h:128<=u):ur u=1+ur (u/128):=by rw[ur,a8 om]
theorem us:∀(k u:Nat),u<128^(k+1)->ur u<=k+1
 |0,u,h=>by rw[vI om];omega
 |k+1,u,h=>by
  by_cases h1:u<128
  ·rw[vI h1];omega
  ·rw[yj om]
   have:=us k (u/128) (cS (by rw[gb,cD]at h;exact h))
   omega
theorem Dt(u:Nat):1<=ur u:=by
 by_cases h1:u<128
 ·rw[vI h1];omega
 ·rw[yj om];omega
def sW(n:Int):Nat:=if 0<=n then(2*n).toNat else(-2*n-1).toNat
def Du(z:Nat):Nat:=if z=0 then 0 else 1+ur (z-1)
def tN:Nat->List Int->Nat
 |z,[]=>Du z
 |z,x::r=>if x=0 then tN (z+1) r else Du z+ur (sW x)+tN 0 r
theorem VO{z:Nat}{l:List Int}(h:∀x r,l=x::r->x≠0):tN z l=Du z+tN 0 l:=by
 cases l with
 |nil=>simp[tN,Du]
 |cons x r =>
  have:=h x r rfl;rw[tN,a8 this,tN,a8 this];simp[Du];omega
theorem TB{l:List Int}(h:i<l.length)(v:l.getD i 0=0)(z:Nat):tN z (l.drop i)=tN (z+1) (l.drop (i+1)):=by
 rw[dX h];have:l[i]=0:=by rw[cO,fw h]at v;exact v
 rw[tN,a7 this]
theorem TC{l:List Int}(h:i<l.length)(v:l.getD i 0≠0):tN 0 (l.drop i)=ur (sW (l.getD i 0))+tN 0 (l.drop (i+1)):=by
 rw[dX h];have e:l.getD i 0=l[i]:=by rw[cO,fw h];rfl
 rw[e]at v ⊢;rw[tN,a8 v];simp[Du]
theorem Dv{B:Nat}:∀(l:List Int)(z:Nat),(∀x∈l,ur (sW x)<=B)->2<=B->z+l.length<=16384->tN z l<=(if z=0 then 0 else 3)+3*B*l.length
 |[],z,_,_,hz=>by
  unfold tN Du
  split
  ·simp
  ·have:=us 1 (z-1) (by simp at hz;omega)
   simp;omega
 |x::r,z,h,hB,hz=>by
  simp only[fc]at hz;have e:3*B*(x::r).length=3*B*r.length+3*B:=by rw[fc,nk]
  rw[e];unfold tN;split
  ·have ih:=Dv r (z+1) (λy v=>h y (cW _ v)) hB om;rw[a8 om]at ih;generalize 3*B*r.length=q at *;split<;>omega
  ·have ih:=Dv r 0 (λy v=>h y (cW _ v)) hB om;have I:=h x (by simp);rw[a7 rfl]at ih
   have D:Du z<=if z=0 then 0 else 3:=by
    unfold Du;split
    ·omega
    ·have:=us 1 (z-1) om;omega
   generalize 3*B*r.length=q at *;generalize Du z=p at *;split at D<;>simp_all<;>omega
def gN(kind:Nat)(c:Nat->Int)(w i:Nat):Int :=
 if kind=0 then 0 else if kind=1\/i<w\/i%w=0 then(if i=0 then 0 else if i%w=0 then c (i-w)else c (i-1))
 else min (max (c (i-1)+c (i-w)-c (i-w-1)) (min (c (i-1)) (c (i-w)))) (max (c (i-1)) (c (i-w)))
def mp(kind:Nat)(V:List Int)(w:Nat):List Int:=(List.range V.length).map λi=>V.getD i 0-gN kind (λj=>V.getD j 0) w i
theorem pU(kind:Nat)(V:List Int)(w:Nat):(mp kind V w).length=V.length:=by simp[mp]
theorem I8{w:Nat}{V:List Int}(D:1<=w)(hi:i<V.length)(v:∀x∈V,-2147483648<=x/\x<=2147483647):-2147483648<=gN kind (λj=>V.getD j 0) w i/\gN kind (λj=>V.getD j 0) w i<=2147483647:=by
 have h:∀j,j<=i->-2147483648<=V.getD j 0/\V.getD j 0<=2147483647:=λj y=>by
  refine v _ ?_;rw[cO,fw om];exact fY _
 have h1:=h (i-1) om;have h2:=h (i-w) om;unfold gN;split
 ·omega
 ·split
  ·split
   ·omega
   ·split
    ·exact h2
    ·exact h1
  ·dsimp only;generalize V.getD (i-w-1) 0=z;omega
theorem Kz{w:Nat}{V:List Int}(y:1<=w)(v:∀x∈V,-2147483648<=x/\x<=2147483647):∀x∈mp kind V w,-4294967295<=x/\x<=4294967295:=by
 intro x z;obtain⟨i,hi,rfl⟩:=fC.1 z;have hi:=dJ.1 hi;have h1:=I8 (kind:=kind) y hi v
 have h2:-2147483648<=V.getD i 0/\V.getD i 0<=2147483647:=by
  refine v _ ?_;rw[cO,fw hi];exact fY _
 omega
def zu(V:List Int)(w:Nat):Nat :=
 let f:=λk=>tN 0 (mp k V w)
 let b1:=if f 1<f 0 then 1 else 0
 if f 2<f b1 then 2 else b1
theorem QC(V:List Int)(w:Nat):zu V w<=2/\tN 0 (mp (zu V w) V w)<=tN 0 (mp 1 V w):=by
 unfold zu;dsimp only;split<;>split<;>constructor<;>omega
section
variable{ps:String}
theorem FH{y:Operand}{a:Nat}{kd:IntKind}(v:ev e x=ii a)(z:ev e y=.int kd k)(D:k<=64):iE P e ⟨d,.binOp .shr t x y t',ty,ps,af,none⟩ (ii ((a/2^k:Nat):Int)):=by
 intro w
 have h:(binOp .shr t (ii a) (.int kd k)).run P w=.ok (ii ((a/2^k:Nat):Int)) w:=by
  have h1:min (k:Int).toNat 64=k:=by rw[b7];omega
  have h2:¬(k:Int)<0:=om
  have:(a:Int).fdiv (2^k)=((a/2^k:Nat):Int):=by
   rw[jp _ (Int.le_of_lt (Int.pow_pos om))];push_cast;rfl
  simp only[b7]at h1;simp[binOp,Op.shift,IntKind.bits,this,h1,h2]
 simp[gd,execOp,v,z,eqGuard,h]
theorem Cn{y:Operand}{a:Nat}{kd:IntKind}(z:ev e x=ii a)(D:ev e y=.int kd k)(I:k<=64)(v:a*2^k<9223372036854775808):iE P e ⟨d,.binOp .shl t x y t',ty,ps,af,none⟩ (ii ((a*2^k:Nat):Int)):=by
 refine vz z D om ?_;have h1:min (k:Int).toNat IntKind.i64.bits=k:=by rw[b7];show min k 64=k;omega
 rw[h1,show(a:Int)*2^k=((a*2^k:Nat):Int)by push_cast;rfl];exact gC _ om
end
def fW(gw gh:Nat):Nat:=td (max gw gh-1)+1
theorem FJ:∀n:Nat,n<1024->td n<=10:=by decide+kernel
theorem lI(y:gw<=1024)(v:gh<=1024):1<=fW gw gh/\fW gw gh<=11:=by
 unfold fW;by_cases h:max gw gh-1<1024
 ·have:=FJ _ h;omega
 ·omega
theorem QD(v:k<=10):2^k<=1024:=fP om v
theorem TD:∀n:Nat,n<1024->n<2^td n:=by decide+kernel
theorem KA(y:n<=m)(v:m<=1024)(h1:1<=n):dG n (td (m-1))=1:=by
 have:=TD (m-1) om;unfold dG;rw[ee om]
theorem Bz(V:1<=gw/\gw<=1024)(U:1<=gh/\gh<=1024):Fn prog 196 [ii gw,ii gh] W (dp (.tuple #[ii (fW gw gh),ii 0]) W):=by
 have y:dF 0 0 0 0 gw gh=0:=gW om om om om;have O:=FJ (max gw gh-1) om;have D:max (gw:Int) gh-1=((max gw gh-1:Nat):Int):=om;have S:=St.start W;refine zI func196 ?_;refine z ?_;refine z ?_;refine zs ?_;refine dU (kL (pl:=[(0,1),(1,1),(2,1),(3,1)]) dL gE (λw=>by kernel_rfl) rfl rfl) ?_;refine z ?_;refine z ?_;refine eY rfl (jW _ _ _ _ _ _ om om W) ?_;rintro _ J ⟨rfl,v⟩;have S:=S.gr v;rw[y];refine zg ?_;rw[D];refine Y9 (n:=((max gw gh-1:Nat):Int)) (m:=((max gw gh-1:Nat):Int)) rfl (re _ om) ?_;refine zC (Ks (W:=_) (max gw gh-1) om) ?_;intro L I S;refine zX ?_;exact⟨by unfold fW;rfl,S.out⟩
theorem KB(n k:Nat)(D:1<=n/\n<=1024)(I:k<=10):Fn prog 197 [ii n,ii k] W (dp (ii (dG n k)) W):=by
 have y:(n:Int)-1=((n-1:Nat):Int):=om;have z:=oZ k D.1;have v:(((n-1)/2^k:Nat):Int)+1=(dG n k:Nat):=rfl;have S:=St.start W;refine zI func197 ?_;refine zg ?_;rw[y];refine zg ?_;refine dU (FH rfl rfl om) ?_;refine dU (fh rfl (by rw[v];omega)) ?_;rw[v];exact zZ
theorem xL(k:Nat)(y:1<=gw/\gw<=1024)(v:1<=gh/\gh<=1024)(U:k<fW gw gh):Fn prog 130 [ii gw,ii gh,ii k] W (dp (.tuple #[ii (dG gw k),ii (dG gh k),ii 0]) W):=by
 have V:=lI y.2 v.2;have S:=St.start W;refine zI func130 ?_;refine zC (Bz y v) ?_;intro J z S;refine zC (KB gw k y om) ?_;intro L D S;refine zC (KB gh k v om) ?_;intro O I S;exact zZ
theorem Dw(k x y:Nat)(L:1<=gw/\gw<=1024)(I:1<=gh/\gh<=1024)(J:k<fW gw gh)(V:x<dG gw k)(Z:y<dG gh k):Fn prog 201 [ii gw,ii gh,ii k,.agg #[ii x,ii y]] W (dp (ii 0) W):=by
 have S:=St.start W;refine zI func201 ?_;refine zN ?_;intro v O z S;refine zC (xL k L I J) ?_;intro U D S;exact zZ
theorem Co(k x y:Nat)(I:1<=gw/\gw<=1024)(D:1<=gh/\gh<=1024)(hk:k<fW gw gh)(hx:x<dG gw k)(hy:y<dG gh k):Fn prog 132 [ii gw,ii gh,ii k,.agg #[ii x,ii y]] W
  (dp (.tuple #[.agg #[ii (x*2^k:Nat),ii (y*2^k:Nat),ii ((min ((x+1)*2^k) gw-1:Nat):Int),ii ((min ((y+1)*2^k) gh-1:Nat):Int)],ii 0]) W):=by
 have hl:=lI I.2 D.2;have z:=QD (k:=k) om;have v:0<2^k:=ic om;have ad:=oZ k I.1;have ae:=oZ k D.1;have b1:x*2^k<=1024*1024:=fy om z;have b2:y*2^k<=1024*1024:=fy om z;have b3:(x+1)*2^k<=1024*1024:=fy om z;have b4:(y+1)*2^k<=1024*1024:=fy om z;have c3:1<=(x+1)*2^k:=fy (show 1<=x+1 by omega) v;have c4:1<=(y+1)*2^k:=fy (show 1<=y+1 by omega) v;have V:(x:Int)+1=((x+1:Nat):Int):=rfl;have Z:(y:Int)+1=((y+1:Nat):Int):=rfl;have J:min (((x+1)*2^k:Nat):Int) gw-1=((min ((x+1)*2^k) gw-1:Nat):Int):=om;have L:min (((y+1)*2^k:Nat):Int) gh-1=((min ((y+1)*2^k) gh-1:Nat):Int):=om;have S:=St.start W;refine zI func132 ?_;refine zN ?_;intro O ag aa S;refine zN ?_;intro U ah ab S;refine zC (Dw k x y I D hk hx hy) ?_;intro ai ac S;refine zD [0,1,2,3,4,5,6,7,8,9,10,11,12,13,14,15,16,17,18,19,20,21,22,23] [24,25,26] ?_;refine eO (Cn rfl rfl om om) ?_;refine zQ ?_;refine eO (Cn rfl rfl om om) ?_;refine zQ ?_;rw[V];refine zQ ?_;refine eO (Cn rfl rfl om om) ?_;iterate 2 refine eO (jx rfl) ?_
 refine eO (fh rfl (by rw[J];omega)) ?_;rw[J];refine zQ ?_;rw[Z];refine zQ ?_;refine eO (Cn rfl rfl om om) ?_;iterate 2 refine eO (jx rfl) ?_
 refine eO (fh rfl (by rw[L];omega)) ?_;rw[L];refine zE ?_;refine zS ?_;intro aj S;exact pG S ⟨rfl,S.out⟩
theorem HJ(k x y:Nat)(z:1<=gw/\gw<=1024)(v:1<=gh/\gh<=1024)(V:k<fW gw gh)(Z:x<gw)(hy:y<gh):Fn prog 257 [ii gw,ii gh,ii k,.agg #[ii x,ii y]] W
  (dp (.tuple #[.agg #[ii (x/2^k:Nat),ii (y/2^k:Nat)],ii 0]) W):=by
 have hl:=lI z.2 v.2;have S:=St.start W;refine zI func257 ?_;refine zN ?_;intro D aa J S;refine zN ?_;intro I ab L S;refine zC (xL k z v V) ?_;intro ac O S;refine zC (Dw 0 x y z v om (by rw[iR z.1];exact Z) (by rw[iR v.1];exact hy)) ?_;intro ad U S;refine zD [0,1,2,3,4,5,6,7] [8,9,10] ?_;refine eO (FH rfl rfl om) ?_;refine zQ ?_;refine eO (FH rfl rfl om) ?_;refine zE ?_;refine zS ?_;intro ae S;exact pG S ⟨rfl,S.out⟩
theorem MT(l:List RG)(r:RG):mY (l++[r])=mY l++r.cells:=by simp[mY]
theorem HM{l:List RG}{r:RG}(h:k<l.length):(mY l).take (k*2)++r.cells++(mY l).drop (k*2+2)=mY (l.set k r):=by
 have:=ye (f:=RG.cells) (m:=2) (λ_=>rfl) (l:=l) (k:=k) (a:=l[k]) (a':=r) (d:=0) (cs:=r.cells) (fw h) (by show 0+2<=2;omega) (by simp[RG.cells]);exact this
def HA.gfam(el sz k:Nat)(As:Nat->Option Addr)(ns cs:Nat->Nat)(xs:Nat->List Value):HA :=
 ⟨λg=>∃t,t<k/\jv (As t) g,λw=>∀t,t<k->gH w el sz (As t) (ns t) (cs t) (xs t),λ_ _ h _ hR t ht=>(hR t ht).keep (λg hg=>h g ⟨t,ht,hg⟩),λ_ hR _⟨t,ht,hg⟩=>(hR t ht).lt hg⟩
section
variable{L:List HA}{cs:Nat->Nat}{xs:Nat->List Value}
theorem St.gfam0(S:St F W w L)(As:Nat->Option Addr)(ns cs:Nat->Nat)(xs:Nat->List Value):St F W w (.gfam el sz 0 As ns cs xs::L) :=
 S.push (Gr.refl w) (h:=.gfam el sz 0 As ns cs xs) (λt v=>by omega) (λg⟨t,v,_⟩=>by omega)
theorem St.grow_(S:St F W w L)(hi:gi L i=some (.gfam el sz k As ns cs xs)){t:Nat}(v:t<k):gH w el sz (As t) (ns t) (cs t) (xs t):=S.ok hi t v
theorem St.gfamPush(S:St F W w (.row el sz A n c l::.gfam el sz k As ns cs xs::L))(D:xs k=l)(I:ns k=n):St F W w (.gfam el sz (k+1) (nX As k A) ns (nX cs k c) xs::L):=by
 have h1:=S.sep.1;have h2:=S.sep.2.2.1;have y:=S.sep.2.2.2;refine⟨S.fr,⟨λt z=>?_,λg⟨t,z,e⟩=>?_⟩,λg⟨t,z,e⟩h hh=>?_,y.2⟩
 ·by_cases e:t=k
  ·subst e;rw[iU,iU,D,I];exact h1.1
  ·rw[gY om,gY om];exact h2.1 t om
 ·by_cases v:t=k
  ·subst v;rw[iU]at e;exact h1.2 g e
  ·rw[gY om]at e;exact h2.2 g ⟨t,om,e⟩
 ·by_cases v:t=k
  ·subst v;rw[iU]at e;exact S.sep.2.1 g e h (cW _ hh)
  ·rw[gY om]at e;exact y.1 g ⟨t,om,e⟩ h hh
end
theorem CS.gfamRd{L:List HA}{t:Nat}{cs:Nat->Nat}{xs:Nat->List Value}{y z:List Value}(I:CS F W L i el' k' n' y z wq τ)(v:j≠i)(D:gi L j=some (.gfam el sz k As ns cs xs))(J:t<k):Rd wq (As t) (xs t):=by
 have h:=I.ok v D;exact gH.rd (h t J)
def EQ(k:Nat)(ac:Nat->Nat)(As:Nat->Option Addr)(ns cs:Nat->Nat):List Value:=(List.range k).flatMap λj=>[ii (ac j:Nat),.slice (As j) (ns j) (cs j)]
theorem Pi{ac:Nat->Nat}{cs:Nat->Nat}(h:j<k):((EQ k ac As ns cs).drop (j*2)).take 2=[ii (ac j:Nat),.slice (As j) (ns j) (cs j)] :=
 lG (f:=λj=>[ii (ac j:Nat),.slice (As j) (ns j) (cs j)]) (λ_=>rfl) (eu h)
theorem HN{ac:Nat->Nat}{cs:Nat->Nat}:EQ k ac As ns cs++[ii (ac k:Nat),.slice A (ns k) c]=EQ (k+1) ac (nX As k A) ns (nX cs k c):=by
 unfold EQ;rw[eG,kZ,lx,iU,iU];congr 1;rw[iA,iA];congr 1;exact eQ λt v=>by rw[gY (dJ.1 v),gY (dJ.1 v)]
def vd(w:World)(tb gw gh:Nat)(V:List Int):Prop:=∃Ao co As cs,eL w tb 347 [ii gw,ii gh,.slice Ao (Nat.log2 (min gw gh)+1) co] /\
 gH w 350 2 Ao (Nat.log2 (min gw gh)+1) co (EQ (Nat.log2 (min gw gh)+1) (f7 gw) As (λk=>f7 gw k*f7 gh k) cs) /\
 ∀k,k<Nat.log2 (min gw gh)+1->gH w 158 2 (As k) (f7 gw k*f7 gh k) (cs k) (mY (tf V gw gh k))
def VP(tb:Nat)(Ao:Option Addr)(co:Nat)(As:Nat->Option Addr)(cs:Nat->Nat)(gw gh:Nat)(V:List Int):List HA :=
 [.row 350 2 Ao (Nat.log2 (min gw gh)+1) co (EQ (Nat.log2 (min gw gh)+1) (f7 gw) As (λk=>f7 gw k*f7 gh k) cs),
 .gfam 158 2 (Nat.log2 (min gw gh)+1) As (λk=>f7 gw k*f7 gh k) cs (λk=>mY (tf V gw gh k)),.blk tb 347 [ii gw,ii gh,.slice Ao (Nat.log2 (min gw gh)+1) co]]
theorem vd.gr{V:List Int}(h:vd w tb gw gh V)(g:Gr w w'):vd w' tb gw gh V:=by
 obtain⟨v,z,As,cs,h1,h2,D⟩:=h;exact⟨v,z,As,cs,h1.gr g,h2.gr g,λy I=>(D y I).gr g⟩
def Ej(V:List Int)(gw k n:Nat):List RG:=(List.range n).map λi=>wm V gw k (i%f7 gw k) (i/f7 gw k)
theorem MU(V:List Int){x:Nat}(y:Nat)(v:x<f7 gw k):Ej V gw k (y*f7 gw k+x)++[wm V gw k x y]=Ej V gw k (y*f7 gw k+x+1):=by
 have h1:=jo (Y:=y) v;unfold Ej;rw[eG,fq,i7,h1.1,h1.2]
section
variable{cap:Nat}
theorem HO(hG:eJ W p gw gh cc A cap bs Rs):Fn prog 146 [pt p] W
  (λv w'=>∃tb Ao co As cs,v=.tuple #[pt tb,ii 0]/\St No W w' (VP tb Ao co As cs gw gh (dw gw gh cc))):=by
 have hw:=hG.sw;have hh:=hG.sh;have hm:1<=gw*gh/\gw*gh<=1024*1024:=⟨fy hw.1 hh.1,fy hw.2 hh.2⟩;have e1:((gw:Int)-1)=((gw-1:Nat):Int):=om;have e2:((gh:Int)-1)=((gh-1:Nat):Int):=om;have hV:=qf gw gh cc
 have aN:∀w,Gr W w->Fn prog 47 [pt p,.agg #[ii 0,ii 0,ii (gw-1),ii (gh-1)]] w (jc (λv=>.tuple #[v,ii 0]) 2 1 (gw*gh) (cY (dw gw gh cc)) w):=λw g=>by
  have:=iz (W:=w) 0 0 (gw-1) (gh-1) om om (hG.gr g);rw[<-e1,<-e2,(om:gw-1+1-0=gw),(om:gh-1+1-0=gh),wJ,cD gh gw]at this;exact this
 generalize dw gw gh cc=V at *;have am:min (gw:Int) gh=((min gw gh:Nat):Int):=om;obtain⟨mn,aY⟩:∃mn,mn=min gw gh:=⟨_,rfl⟩;have an:1<=mn/\mn<=1024/\mn<=gw/\mn<=gh:=om;have hK:2^Nat.log2 mn<=mn:=rx om
 have aE:Nat.log2 mn<=10:=by
  by_cases h:Nat.log2 mn<=10
  ·exact h
  ·have:=fP (show 0<2 by omega) (show 11<=Nat.log2 mn by omega);omega
 unfold VP;rw[<-aY]at am ⊢;obtain⟨K,eK⟩:∃K,K=Nat.log2 mn:=⟨_,rfl⟩;rw[<-eK]at hK aE ⊢;have S:=St.start W;refine zI func146 ?_;refine zC (mC p gw gh _ W (hG.top.gr S.out)) ?_;intro bJ bw S;refine yA ?_;intro L _ S;refine zC (uo p gw gh hw.2 hh.2 _ _ (hG.top.gr S.out)) ?_;intro bK bz S;refine zK (aN _ S.out) ?_;rintro _ bL ⟨ag,aj,rfl,au,av,aU⟩;have S:=S.pushRow au av aU;refine zg ?_;refine Di kg Ns rfl rfl rfl (n:=gw*gh) (c:=gw*gh) om om om om S ?_;intro U bM bA S ae;refine yA ?_;intro ai _ S
 refine dl (λm e w=>∃(k:Nat)(l:List RG),k+m=gw*gh/\l.length=gw*gh/\(∀i,i<k->l[i]?=some (wm V gw 0 (i%gw) (i/gw)))/\SL e [(4,ii gw),(5,ii gh),(6,pt L),(9,pt ai),(42,.slice ag (gw*gh) aj),(43,ii (gw*gh:Nat)),(44,ii k)] /\
  St No W w [.blk ai 350 [ii gw,.slice U (gw*gh) (gw*gh)],.row 158 2 U (gw*gh) (gw*gh) (mY l),.row 2 1 ag (gw*gh) aj (cY V),.blk L 347 [ii gw,ii gh,.slice none 0 0]]) (gw*gh)
  ⟨0,List.replicate (gw*gh) ⟨0,0⟩,om,by simp,λi hi=>by omega,sl,by
   have e0:(List.replicate (gw*gh) [ii 0,ii 0]).flatten=mY (List.replicate (gw*gh) ⟨0,0⟩):=by
    unfold mY;rw[iA,List.map_replicate];rfl
   rw[<-e0];exact S⟩ ?_
 clear S;rintro m e w ⟨k,l,hk,hl,aH,ad,S⟩;rw[ad.fold];have al:0<gw*gh->dO ag:=λh=>(S.row (i:=2) rfl).someA h;have al:=al om;have ae:0<gw*gh->dO U:=λh=>(S.row (i:=1) rfl).someA h;have ae:=ae om;by_cases aW:k<gw*gh
 ·have aV:(cY V)[(k:Int).toNat * 1]?=some (ii (V.getD k 0)):=by rw[cG,b7];exact gc (kr om)
  refine zt ?_;refine z ?_;refine zx ?_;refine dH (eI iY rfl rfl (S.rd (i:=2) rfl) aV) ?_;refine zg ?_;refine tF (i:=1) S rfl (iH _) rfl rfl rfl rfl (by rw[Do];omega) rfl rfl ?_;intro bl S;refine zg ?_;refine⟨m-1,om,k+1,l.set k ⟨V.getD k 0,V.getD k 0⟩,om,by simp[hl],λi hi=>?_,sl,?_⟩
  ·by_cases e:i=k
   ·subst e;rw[lv om];unfold wm;rw[show i/gw*gw+i%gw=i by rw[cD];exact dP i gw]
   ·rw[List.getElem?_set_ne (λh=>e h.symm)];exact aH i om
  ·rw[<-HM om];exact S
 ·obtain rfl:k=gw*gh:=om;have Z:f7 gw 0=gw/\f7 gh 0=gh:=by unfold f7;simp
  have aG:l=tf V gw gh 0:=by
   apply gG;intro i;by_cases hi:i<gw*gh
   ·rw[aH i hi];unfold tf;rw[Z.1,Z.2,da,eu hi];rfl
   ·rw[dZ om,dZ (by rw[Dq,Z.1,Z.2];omega)]
  subst aG;have S:=S.pushNil 350 2;refine zH (C:=(λσ wq=>CS No W [.row 350 2 none 0 0 [],.blk ai 350 [ii gw,.slice U (gw*gh) (gw*gh)],.row 158 2 U (gw*gh) (gw*gh) (mY (tf V gw gh 0)),.row 2 1 ag (gw*gh) aj (cY V),.blk L 347 [ii gw,ii gh,.slice none 0 0]] 0 350 2 0 [] [ii gw,.slice U (gw*gh) (gw*gh)] wq σ)) [6,7] [0,1,2,3,4,5,6,7] [8,9,10] (S.gr (Gr.drew _)) ?_;refine zV (λτ wq D=>(D.ok (j:=4) (by decide) rfl)) ?_;refine zV (λτ wq D=>(D.ok (j:=1) (by decide) rfl)) ?_;refine de rfl rfl (λwq D=>rO D lz yJ uY rfl rfl rfl rfl rfl rfl) ?_;rintro v6 w6 ⟨A6,rfl,_⟩;refine de rfl rfl (λwq D=>u6 D rfl (λh=>⟨_,rfl⟩) lz O3 rfl rfl rfl rfl rfl rfl om) ?_;rintro v7 w7 ⟨A7,c7,L7,rfl,_,_⟩;refine zY ?_;rintro w8 ⟨bu,bv,bg,aC,aF,S⟩;cases aC
  obtain rfl:=Option.some.inj aF;refine zS ?_;intro bm S;rw[am];refine zC (Ph mn an.1 an.2.1) ?_;intro bn bh S;rw[<-eK];refine zg ?_;have Z:f7 gw 0*f7 gh 0=gw*gh:=by unfold f7;simp
  have eg:f7 gw 0=gw:=by unfold f7;simp
  have S:=S.sub (.cons_cons _ (.cons _ (.cons_cons _ (.cons _ (.cons_cons _ (.slnil))))));have S:=(S.gfam0 (el:=158) (sz:=2) (λ_=>none) (λk=>f7 gw k*f7 gh k) (λ_=>0) (λk=>mY (tf V gw gh k))).perm_ (xo _ _ _ _);have S:=(S.gfamPush rfl Z).swap;have ep:=HN (k:=0) (ac:=f7 gw) (As:=λ_=>none) (ns:=λk=>f7 gw k*f7 gh k) (cs:=λ_=>0) (A:=U) (c:=gw*gh);rw[Z,eg]at ep
  refine dl (λm e w=>∃(k:Nat)(J:Option Addr)(O:Nat)(As:Nat->Option Addr)(cs:Nat->Nat),k+m=K/\SL e [(4,ii gw),(5,ii gh),(6,pt L),(70,ii K),(71,ii k)] /\
   St No W w [.row 350 2 J (k+1) O (EQ (k+1) (f7 gw) As (λk=>f7 gw k*f7 gh k) cs),.gfam 158 2 (k+1) As (λk=>f7 gw k*f7 gh k) cs (λk=>mY (tf V gw gh k)),.blk L 347 [ii gw,ii gh,.slice J (k+1) O]]) K
   ⟨0,A7,c7,_,_,om,sl,by rw[<-ep];exact S⟩ ?_
  clear S;rintro m e w ⟨k,J,O,As,cs,hk,ad,S⟩;rw[ad.fold];by_cases aW:k<K
  ·obtain⟨I,ab⟩:∃I,I=2^k:=⟨_,rfl⟩
   have bk:2*I<=mn:=by
    have:=fP (show 0<2 by omega) (show k+1<=K by omega);rw[gb,<-ab]at this;omega
   have bF:1<=I:=by rw[ab];exact mT k
   obtain⟨ac,ak⟩:∃ac,ac=f7 gw (k+1):=⟨_,rfl⟩;obtain⟨dn,aD⟩:∃dn,dn=f7 gh (k+1):=⟨_,rfl⟩;obtain⟨aw,ah⟩:∃aw,aw=f7 gw k:=⟨_,rfl⟩
   have bB:ac+2*I=gw+1:=by
    rw[ak];unfold f7;rw[gb,<-ab];omega
   have bE:dn+2*I=gh+1:=by
    rw[aD];unfold f7;rw[gb,<-ab];omega
   have bD:aw+I=gw+1:=by
    rw[ah];unfold f7;rw[<-ab];omega
   have bC:f7 gh k+I=gh+1:=by
    unfold f7;rw[<-ab];omega
   have bH:ac*dn<=1024*1024:=fy om om;have aS:(gw:Int)-2*(I:Int)+1=((ac:Nat):Int):=om;have aT:(gh:Int)-2*(I:Int)+1=((dn:Nat):Int):=om;have aB:(ac:Int)*(dn:Int)=((ac*dn:Nat):Int):=by push_cast;rfl
   have bb:IntKind.i64.wrap (1*2^(min (k:Int).toNat IntKind.i64.bits))=(I:Int):=by
    have e:(1:Int)*2^(min (k:Int).toNat IntKind.i64.bits)=((I:Nat):Int):=by
     rw[jG,ab,show min (k:Int).toNat IntKind.i64.bits=k by unfold IntKind.bits;dsimp only;omega];push_cast;rfl
    rw[e];exact gC _ om
   refine zg ?_;refine dU (vz (c:=(I:Int)) rfl rfl om bb) ?_;(iterate 3 refine z ?_);iterate 3 refine zr ?_
   rw[aS];iterate 2 refine dU (jx rfl) ?_
   refine dU (fh rfl om) ?_;refine dU (fh rfl om) ?_;refine dU (fh rfl om) ?_;rw[aT];iterate 2 refine dU (jx rfl) ?_
   first|refine eF ?_|(refine di ?_;show CW _ _ _ _ _ _)|refine di ?_
   repeat refine dm ?_
   refine dz ?_;iterate 3 refine dU (jx rfl) ?_
   refine dU (fh rfl (by rw[aB];omega)) ?_;rw[aB];refine Di kg Ns rfl rfl rfl (n:=0) (c:=ac*dn) om om om om S ?_;intro aA bo bi S bf;refine zN ?_;intro aa bp bj S;refine zS ?_;intro bq S;have S:=S.sub (.cons_cons _ (.cons_cons _ (.cons_cons _ (.cons_cons _ (.cons_cons _ (.slnil))))))
   refine dl (λm e w=>∃(y:Nat)(A1:Option Addr)(c1:Nat),y+m=dn/\SL e [(4,ii gw),(5,ii gh),(6,pt L),(12,ii k),(13,ii I),(14,ii ac),(15,ii dn),(16,pt aa),(70,ii K),(71,ii k),(92,ii dn),(93,ii y)]/\St No W w [.blk aa 350 [ii ac,.slice A1 (y*ac) c1],.row 158 2 A1 (y*ac) c1 (mY (Ej V gw (k+1) (y*ac))),.row 350 2 J (k+1) O (EQ (k+1) (f7 gw) As (λk=>f7 gw k*f7 gh k) cs),.gfam 158 2 (k+1) As (λk=>f7 gw k*f7 gh k) cs (λk=>mY (tf V gw gh k)),.blk L 347 [ii gw,ii gh,.slice J (k+1) O]]) dn
    ⟨0,aA,ac*dn,om,sl,by rw[iD];exact S⟩ ?_
   clear S;rintro m1 e w ⟨y,A1,c1,hy,ad,S⟩;rw[ad.fold];by_cases bI:y<dn
   ·skip;refine zg ?_
    refine dl (λm e w=>∃(x:Nat)(A1:Option Addr)(c1:Nat),x+m=ac/\SL e [(4,ii gw),(5,ii gh),(6,pt L),(12,ii k),(13,ii I),(14,ii ac),(15,ii dn),(16,pt aa),(70,ii K),(71,ii k),(92,ii dn),(17,ii y),(93,ii y),(96,ii ac),(97,ii x)]/\St No W w [.blk aa 350 [ii ac,.slice A1 (y*ac+x) c1],.row 158 2 A1 (y*ac+x) c1 (mY (Ej V gw (k+1) (y*ac+x))),.row 350 2 J (k+1) O (EQ (k+1) (f7 gw) As (λk=>f7 gw k*f7 gh k) cs),.gfam 158 2 (k+1) As (λk=>f7 gw k*f7 gh k) cs (λk=>mY (tf V gw gh k)),.blk L 347 [ii gw,ii gh,.slice J (k+1) O]]) ac
     ⟨0,A1,c1,om,sl,S⟩ ?_
    clear S;rintro m2 e w ⟨x,A1,c1,hx,ad,S⟩;rw[ad.fold];by_cases be:x<ac
    ·have aZ:=zj V (gw:=gw) (gh:=gh) (k:=k) (x:=x) (y:=y) (by rw[<-ah];omega) om;have aK:=zj V (gw:=gw) (gh:=gh) (k:=k) (x:=x+I) (y:=y) (by rw[<-ah];omega) om;have ba:=zj V (gw:=gw) (gh:=gh) (k:=k) (x:=x) (y:=y+I) (by rw[<-ah];omega) om;have aL:=zj V (gw:=gw) (gh:=gh) (k:=k) (x:=x+I) (y:=y+I) (by rw[<-ah];omega) om;have aI:=Dq V gw gh k;have aM:=Pi (k:=k+1) (j:=k) (ac:=f7 gw) (As:=As) (ns:=λk=>f7 gw k*f7 gh k) (cs:=cs) om;have aJ:=MU V (gw:=gw) (k:=k+1) y (x:=x) (by rw[<-ak];exact be);rw[<-ak]at aJ;rw[<-mI]at aK aL
     have bG:y*ac+x+1<=1024*1024:=by
      have:=cI ac (show y+1<=dn by omega);rw[cX,cD dn]at this;omega
     have bc:mE (mE (wm V gw k x y) (wm V gw k (x+I) y)) (mE (wm V gw k x (y+I)) (wm V gw k (x+I) (y+I)))=wm V gw (k+1) x y:=by rw[ab];rfl
     have ey:(y:Int)+(I:Int)=((y+I:Nat):Int):=by push_cast;rfl
     generalize wm V gw k x y=ra at *;generalize wm V gw k (x+I) y=rb at *;generalize wm V gw k x (y+I)=rc at *;generalize wm V gw k (x+I) (y+I)=az at *;generalize wm V gw (k+1) x y=rn at *;subst ah;refine zH (C:=(λσ wq=>CS No W [.blk aa 350 [ii ac,.slice A1 (y*ac+x) c1],.row 158 2 A1 (y*ac+x) c1 (mY (Ej V gw (k+1) (y*ac+x))),.row 350 2 J (k+1) O (EQ (k+1) (f7 gw) As (λk=>f7 gw k*f7 gh k) cs),.gfam 158 2 (k+1) As (λk=>f7 gw k*f7 gh k) cs (λk=>mY (tf V gw gh k)),.blk L 347 [ii gw,ii gh,.slice J (k+1) O]] 1 158 2 (y*ac+x) (mY (Ej V gw (k+1) (y*ac+x))) (mE (mE ra rb) (mE rc az)).cells wq σ)) [17,18] [0,1,2,3,4,5,6,7,8,9,10,11,12,13,14,15,16,17,18] [19,20] (S.gr (Gr.drew _)) ?_;refine zV (λτ wq D=>(D.ok (j:=0) (by decide) rfl)) ?_;refine zR ?_;refine jH rfl rfl (λτ wq D=>(HG L (k+1) O k (f7 gw k) (f7 gw k*f7 gh k) (cs k) x y I 0 J (As k) _ _ _ (tf V gw gh k) ra rb wq (D.ok (j:=4) (by decide) rfl) (gH.rd (D.ok (j:=2) (by decide) rfl)) om aM (D.gfamRd (j:=3) (by decide) rfl om) aI om om om om om aZ aK).mono (λ_ _⟨hv,hg⟩=>⟨hv,D.gr hg⟩)) ?_;refine zR ?_;rw[ey];refine zR ?_;refine jH rfl rfl (λτ wq D=>(HG L (k+1) O k (f7 gw k) (f7 gw k*f7 gh k) (cs k) x (y+I) I 0 J (As k) _ _ _ (tf V gw gh k) rc az wq (D.ok (j:=4) (by decide) rfl) (gH.rd (D.ok (j:=2) (by decide) rfl)) om aM (D.gfamRd (j:=3) (by decide) rfl om) aI om om om om om ba aL).mono (λ_ _⟨hv,hg⟩=>⟨hv,D.gr hg⟩)) ?_;refine jH rfl rfl (λτ wq D=>(Fx (mE ra rb) (mE rc az) wq).mono (λ_ _⟨hv,hg⟩=>⟨hv,D.gr hg⟩)) ?_;refine de rfl rfl (λwq D=>rO D kg iH ne rfl rfl rfl rfl rfl rfl) ?_;rintro v6 w6 ⟨A6,rfl,_⟩;refine de rfl rfl (λwq D=>u6 D rfl (λh=>⟨_,rfl⟩) kg Ns rfl rfl rfl rfl rfl rfl om) ?_;rintro v7 w7 ⟨ao,ap,aP,rfl,_,_⟩;refine zY ?_;rintro w8 ⟨aO,aR,aQ,aq,ar,S⟩;cases aq
     obtain rfl:=Option.some.inj ar;refine zS ?_;intro br S;refine⟨m2-1,om,x+1,ao,ap,om,sl,?_⟩;rw[<-mI,<-aJ,MT,<-bc];exact S
    ·have ex:x=ac:=om;rw[ex]at S;refine zg ?_;exact⟨m1-1,om,y+1,A1,c1,om,sl,by rw[cX];exact S⟩
   ·have ey:y=dn:=om;have en:y*ac=f7 gw (k+1)*f7 gh (k+1):=by rw[ey,ak,aD,cD]
    have aX:Ej V gw (k+1) (y*ac)=tf V gw gh (k+1):=by rw[en];rfl
    rw[aX,en]at S;refine zH (C:=(λσ wq=>CS No W [.blk aa 350 [ii ac,.slice A1 (f7 gw (k+1)*f7 gh (k+1)) c1],.row 158 2 A1 (f7 gw (k+1)*f7 gh (k+1)) c1 (mY (tf V gw gh (k+1))),.row 350 2 J (k+1) O (EQ (k+1) (f7 gw) As (λk=>f7 gw k*f7 gh k) cs),.gfam 158 2 (k+1) As (λk=>f7 gw k*f7 gh k) cs (λk=>mY (tf V gw gh k)),.blk L 347 [ii gw,ii gh,.slice J (k+1) O]] 2 350 2 (k+1) (EQ (k+1) (f7 gw) As (λk=>f7 gw k*f7 gh k) cs) [ii ac,.slice A1 (f7 gw (k+1)*f7 gh (k+1)) c1] wq σ)) [6,7] [0,1,2,3,4,5,6,7] [8,9,10] (S.gr (Gr.drew _)) ?_;refine zV (λτ wq D=>(D.ok (j:=4) (by decide) rfl)) ?_;refine zV (λτ wq D=>(D.ok (j:=0) (by decide) rfl)) ?_;refine de rfl rfl (λwq D=>rO D lz yJ uY rfl rfl rfl rfl rfl rfl) ?_;rintro v6 w6 ⟨A6,rfl,_⟩;refine de rfl rfl (λwq D=>u6 D rfl (λh=>⟨_,rfl⟩) lz O3 rfl rfl rfl rfl rfl rfl om) ?_;rintro v7 w7 ⟨ao,ap,aP,rfl,_,_⟩;refine zY ?_;rintro w8 ⟨aO,aR,aQ,aq,ar,S⟩;cases aq
    obtain rfl:=Option.some.inj ar;refine zS ?_;intro bt S;have S:=S.sub (.cons _ (.cons_cons _ (.cons_cons _ (.cons_cons _ (.cons_cons _ (.slnil))))));have ep:=HN (k:=k+1) (ac:=f7 gw) (As:=As) (ns:=λk=>f7 gw k*f7 gh k) (cs:=cs) (A:=A1) (c:=c1);rw[ak]at S
    exact⟨m-1,om,k+1,ao,ap,nX As (k+1) A1,nX cs (k+1) c1,om,sl,by
     rw[<-ep];exact((S.perm_ ((tz _ _ _).cons _)).gfamPush rfl rfl).swap⟩
  ·have ek:k=K:=om;rw[ek]at S;refine zX ?_;exact⟨L,J,O,As,cs,rfl,S⟩
end
def vM(V:List Int):Prop:=∀x∈V,-2147483648<=x/\x<=2147483647
theorem vM.at{V:List Int}(h:vM V)(i:Nat):-2147483648<=V.getD i 0/\V.getD i 0<=2147483647:=by
 rw[cO];rcases eV i V.length with hi|hi
 ·rw[fw hi];exact h _ (fY hi)
 ·rw[dZ hi];exact⟨by decide,by decide⟩
section
variable{w:Nat}{V:List Int}
theorem yz(kind w n:Nat)(D:kind<=2)(I:1<=w)(y:n%w=0):Fn prog 213 [ii kind,ii w,ii n] W (dp (.bool true) W):=by
 have v:(n:Int)%w=0:=by rw[show(n:Int)%w=((n%w:Nat):Int)by push_cast;rfl,y];rfl
 have S:=St.start W;refine zI func213 ?_;refine z ?_;refine z ?_;refine zt ?_;refine z ?_;refine z ?_;refine zt ?_;(iterate 3 refine z ?_);refine zt ?_;(iterate 3 refine z ?_);refine zt ?_;iterate 4 refine z ?_
 refine dr rfl ?_;refine zg ?_;rw[v];exact zZ
theorem Uc(x:Int)(v:-2147483648<=x/\x<=2147483647):Fn prog 269 [ii x] W (dp (.bool true) W):=by
 have S:=St.start W;refine zI func269 ?_;exact zZ
theorem Rn(i:Nat)(hw:1<=w)(hi:i<V.length)(hl:V.length<=1048576)(J:Rd W A (cY V)) :
  Fn prog 295 [.slice A V.length c,ii w,ii i] W (dp (ii (if i=0 then 0 else if i%w=0 then V.getD (i-w) 0 else V.getD (i-1) 0)) W):=by
 have y:dO A:=J.someA (by rw[gn];omega);have I:(i:Int)%w=((i%w:Nat):Int):=by push_cast;rfl
 have v:∀j,j<V.length->(cY V)[(j:Int).toNat * 1]?=some (ii (V.getD j 0)):=λj U=>by rw[cG,b7];exact gc (kr U)
 have S:=St.start W;refine zI func295 ?_;by_cases L:i=0
 ·subst L;exact zZ
 ·rw[a8 L];by_cases h1:i%w=0
  ·rw[a7 h1];rw[h1]at I
   have Z:w<=i:=by
    rcases eV i w with h|h
    ·rw[dT h]at h1;omega
    ·exact h
   have D:(i:Int)-w=((i-w:Nat):Int):=om;refine z ?_;refine z ?_;refine zf ?_;iterate 3 refine z ?_
   refine dU (xd rfl rfl om om) ?_;rw[I];refine dU (ff (b:=true) rfl (fX.2 om)) ?_;refine dU (jx rfl) ?_;first|refine eF ?_|(refine di ?_;show CW _ _ _ _ _ _)|refine di ?_
   repeat refine dm ?_
   refine jr rfl ?_;repeat refine dm ?_
   refine dz ?_;iterate 3 refine dU (jx rfl) ?_
   refine dU (fh rfl om) ?_;rw[D];refine dU (sj fZ cR rfl rfl y om om) ?_;refine dH (eI iY rfl rfl (J.gr S.out) (v (i-w) om)) ?_;exact zZ
  ·rw[a8 h1];have D:(i:Int)-1=((i-1:Nat):Int):=om;have O:(0:Int)<((i%w:Nat):Int):=om;generalize i%w=q at *;refine z ?_;refine z ?_;refine zf ?_;iterate 3 refine z ?_
   refine dU (xd rfl rfl om om) ?_;rw[I];refine dU (ff (b:=false) rfl (et.2 om)) ?_;refine dU (jx rfl) ?_;first|refine eF ?_|(refine di ?_;show CW _ _ _ _ _ _)|refine di ?_
   repeat refine dm ?_
   refine eX rfl ?_;repeat refine dm ?_
   refine gO ?_;try show CW _ _ _ _ _ _
   repeat refine dm ?_
   refine dz ?_;iterate 2 refine dU (jx rfl) ?_
   refine dU (fh rfl om) ?_;rw[D];refine dU (sj fZ cR rfl rfl y om om) ?_;refine dH (eI iY rfl rfl (J.gr S.out) (v (i-1) om)) ?_;exact zZ
theorem Gq(kind i:Nat)(hk:kind<=2)(hw:1<=w)(hi:i<V.length)(hl:V.length<=1048576)(L:vM V)(z:Rd W A (cY V)) :
  Fn prog 268 [ii kind,.slice A V.length c,ii w,ii i] W (dp (ii (gN kind (λj=>V.getD j 0) w i)) W):=by
 have Z:dO A:=z.someA (by rw[gn];omega);have J:(i:Int)%w=((i%w:Nat):Int):=by push_cast;rfl
 have y:∀j,j<V.length->(cY V)[(j:Int).toNat * 1]?=some (ii (V.getD j 0)):=λj hj=>by rw[cG,b7];exact gc (kr hj)
 have v:=λW z=>Rn (W:=W) (A:=A) (c:=c) (w:=w) (V:=V) i hw hi hl z;unfold gN;have S:=St.start W;refine zI func268 ?_;by_cases U:kind=0
 ·subst U;refine zX ?_;exact⟨by rw[a7 rfl],S.out⟩
 ·rw[a8 U];by_cases h1:kind=1
  ·subst h1;rw[a7 (.inl rfl)];refine zC (v _ (z.gr S.out)) ?_;intro ah aa S;exact zZ
  ·by_cases h2:i<w
   ·rw[a7 (.inr (.inl h2))];refine zC (v _ (z.gr S.out)) ?_;intro ai ab S;exact zZ
   ·by_cases D:i%w=0
    ·rw[a7 (.inr (.inr D))];rw[D]at J;refine zg ?_;rw[J];refine zC (v _ (z.gr S.out)) ?_;intro aj ac S;exact zZ
    ·rw[a8 (by rintro (h|h|h);exact h1 h;exact h2 h;exact D h)];have ae:i≠0:=λh=>by subst h;simp at D
     have h4:(0:Int)<((i%w:Nat):Int):=om;have e1:(i:Int)-1=((i-1:Nat):Int):=om;have O:(i:Int)-w=((i-w:Nat):Int):=om;have ag:i-w≠0:=λh=>D (by rw[(om:i=w),Nat.mod_self]);have e3:((i-w:Nat):Int)-1=((i-w-1:Nat):Int):=om;have b1:=L.at (i-1);have b2:=L.at (i-w);have b3:=L.at (i-w-1);have g1:=y (i-1) om;have g2:=y (i-w) om;have g3:=y (i-w-1) om;dsimp only;generalize V.getD (i-1) 0=v1 at *;generalize V.getD (i-w) 0=v2 at *;generalize V.getD (i-w-1) 0=v3 at *;clear v D;generalize i%w=q at *;refine zg ?_;rw[J];refine zD [0,1,2,3,4,5,6,7,8,9,10,11,12,13,14,15,16,17,18,19,20] [] ?_;rw[e1];refine zO (λwq I=>(z.gr (S.gr I).out)) g1 ?_;refine zQ ?_;rw[O];refine zO (λwq I=>(z.gr (S.gr I).out)) g2 ?_;refine zQ ?_;rw[O];refine zQ ?_;rw[e3];refine zO (λwq I=>(z.gr (S.gr I).out)) g3 ?_;refine zE ?_;intro ak ad S;exact ir rfl ⟨rfl,S.out⟩
theorem BL(kind:Nat)(hk:kind<=2)(hw:1<=w)(hn:V.length%w=0)(hl:V.length<=1048576)(O:vM V)(z:Rd W A (cY V)) :
  Fn prog 273 [ii kind,.slice A V.length c,ii w] W (jc (λs=>.tuple #[s,ii 0]) 2 1 V.length (cY (mp kind V w)) W):=by
 have I:∀j,j<V.length->(cY V)[(j:Int).toNat * 1]?=some (ii (V.getD j 0)):=λj L=>by rw[cG,b7];exact gc (kr L)
 have U:=λi(hi:i<V.length)=>I8 (kind:=kind) (w:=w) (i:=i) (V:=V) hw hi O;have v:=λW z i hi=>Gq (W:=W) (A:=A) (c:=c) (w:=w) (V:=V) kind i hk hw hi hl O z;obtain⟨r,hr⟩:∃r:Nat->Int,r=λi=>V.getD i 0-gN kind (λj=>V.getD j 0) w i:=⟨_,rfl⟩;have aa:∀i,r i=V.getD i 0-gN kind (λj=>V.getD j 0) w i:=λi=>by rw[hr]
 have ab:cY (mp kind V w)=fj V.length r:=by
  unfold mp cY fj;rw[rZ,hr];rfl
 rw[ab];have S:=St.start W;refine zI func273 ?_;refine zC (yz kind w V.length hk hw hn) ?_;intro ak ag S;refine zg ?_;refine nD fZ jR rfl rfl rfl (n:=V.length) (c:=V.length) om om om om S ?_;intro y al ah S J;refine zg ?_;rw[yk]at S
 refine dl (λm e w'=>∃i:Nat,i+m=V.length/\SL e [(0,ii kind),(1,.slice A V.length c),(2,ii w),(8,.slice y V.length V.length),(20,.slice A V.length c),(21,ii V.length),(22,ii i)] /\
   St No W w' [.row 2 1 y V.length V.length (fj V.length λj=>if j<i then r j else 0)]) V.length
  ⟨0,om,sl,by simpa using S⟩ ?_
 clear S;rintro m e w2 ⟨i,hi,ad,S⟩;rw[ad.fold];by_cases D:i<V.length
 ·have ae:dO A:=z.someA (by rw[gn];omega);have J:dO y:=(S.row (i:=0) rfl).someA om;have b1:=O.at i;have b2:=U i D;have Z:=λW z=>v W z i D;have ac:=aa i;have g1:=I i D;generalize gN kind (λj=>V.getD j 0) w i=gg at *;generalize V.getD i 0=v1 at *;refine zT (z.gr S.out) g1 ?_;refine zC (Uc v1 b1) ?_;intro am ai S;refine zC (Z _ (z.gr S.out)) ?_;intro an aj S;refine zg ?_;refine jk (i:=0) S rfl (cR _) rfl rfl rfl rfl (by rw[pV];omega) rfl ?_;intro ao S;refine zg ?_
  rw[<-ac,rS,nj (o':=λj=>if j<i+1 then r j else 0) (λj L=>by
   unfold jU;by_cases e:j=i
   ·subst e;rw[a7 rfl,a7 om]
   ·rw[a8 e];show(if j<i then r j else 0)=_;by_cases h:j<i
    ·rw[a7 h,a7 om]
    ·rw[a8 h,a8 om])]at S
  exact⟨m-1,om,i+1,om,sl,S⟩
 ·obtain rfl:i=V.length:=om;rw[nj (o':=r) (λj L=>a7 L)]at S;refine zX ?_;exact(S.retNew (i:=0) (mk:=λs=>.tuple #[s,ii 0]) rfl)
end
end Go.Proofs.YtcalhocphkbbgaaGreatDoor
