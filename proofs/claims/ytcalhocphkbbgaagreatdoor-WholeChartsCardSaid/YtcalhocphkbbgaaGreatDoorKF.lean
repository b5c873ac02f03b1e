/- A part of the proof that hachuretop.WholeCharts and hachuretop.WholeWater returns true at every input; no condition. -/
import Derived.Test.YtcalhocphkbbgaaGreatDoorKE
set_option maxRecDepth 100000
set_option maxHeartbeats 16000000
set_option linter.unusedVariables false
set_option linter.unusedSimpArgs false
namespace Go.Proofs.YtcalhocphkbbgaaGreatDoor
open Go.Proofs.Tryz Go.RowKit
variable{Q:(Nat->Value)->World->Prop}{fell:Bool}{Q':Exit->Act->World->Prop}{f:FuncId}{h h':HA}{a d' e0:Int}{M:List HA}{hd todo:List Nat}{l xs:List Value}{b c cur el g gh gw i i1 i2 j k m n p p2 q tb:Nat}{cc:Nat->Int}{bs o':Nat->Nat}{E E':Nat->Nat->Prop}{As:Nat->Option Addr}{Rs:Nat->Option Nat}{F X:Nat->Prop}{e:Nat->Value}{hi x:Operand}{A:Option Addr}{d:Option Tmp}{P:Program}{α:Type}{t:TypeId}{rv:Value}{W w w' w0:World}
def st(V:List Int)(i j:Nat):Int:=1+max (V.getD i 0-V.getD j 0) (-(V.getD i 0-V.getD j 0))
theorem sA(V:List Int)(i j:Nat):1<=st V i j:=by unfold st;omega
theorem Tx(V:List Int)(i j:Nat):st V i j=st V j i:=by unfold st;omega
structure lZ(gw:Nat)(V:List Int)(a:Nat)(d:Nat->Int):Prop where
 zero:d a=0
 nn:∀i,i<V.length->0<=d i
 le:∀i j,i<V.length->j<V.length->qx gw i j->d j<=d i+st V i j
 pred:∀j,j<V.length->j≠a->∃i,i<V.length/\qx gw i j/\d j=d i+st V i j
theorem lZ.le_of{a:Nat}{V:List Int}{d d':Nat->Int}(h:lZ gw V a d)(D:d' a<=0)(y:∀i j,i<V.length->j<V.length->qx gw i j->d' i<=d i->d' j<=d' i+st V i j):∀j,j<V.length->d' j<=d j:=by
 have z:∀(n:Nat)(j:Nat),j<V.length->d j<n->d' j<=d j:=by
  intro n;induction n with
  |zero=>intro j v I;have:=h.nn j v;omega
  |succ n ih =>
   intro j v I;by_cases e:j=a
   ·subst e;rw[h.zero];exact D
   ·obtain⟨i,hi,s,J⟩:=h.pred j v e;have:=sA V i j;have h1:=ih i hi om;have:=y i j hi v s h1;omega
 exact λj v=>z ((d j).toNat+1) j v (by have:=h.nn j v;omega)
theorem lZ.uniq{a:Nat}{V:List Int}{d d':Nat->Int}(h:lZ gw V a d)(h':lZ gw V a d')(v:j<V.length):d j=d' j:=by
 have h1:=h.le_of (d':=d') (by rw[h'.zero];exact ij _) (λi j hi v s _=>h'.le i j hi v s) j v;have h2:=h'.le_of (d':=d) (by rw[h.zero];exact ij _) (λi j hi v s _=>h.le i j hi v s) j v;omega
theorem Qz(v:0<gw):(i+1)%gw=if i%gw+1=gw then 0 else i%gw+1:=by
 have h:=dt i v;have e:=dP i gw;by_cases h1:i%gw+1=gw
 ·rw[a7 h1,show i+1=gw*(i/gw+1)by rw[lL,cG];omega,kJ]
 ·rw[a8 h1,(om:i+1=gw*(i/gw)+(i%gw+1)),fp,dT om]
def qg(gw n i:Nat):List Nat :=
 (if gw<=i then [i-gw]else [])++(if 0<i%gw then [i-1]else [])++(if i%gw+1<gw then [i+1]else [])++(if i+gw<n then [i+gw]else [])
theorem Fz(gw n i:Nat):(qg gw n i).length<=4:=by
 unfold qg;simp only[cP];split<;>split<;>split<;>split<;>simp
theorem Kv(v:0<gw)(hi:i<gw*gh)(h:i%gw+1<gw):i+1<gw*gh:=by
 have hd:i/gw<gh:=cS hi;have e:=dP i gw;have h2:gw*(i/gw+1)<=gw*gh:=eZ _ hd;rw[lL,cG]at h2;omega
theorem tC(v:0<gw)(hi:i<gw*gh):j∈qg gw (gw*gh) i↔j<gw*gh/\qx gw i j:=by
 have z:=Qz (i:=i) v;have D:=dt i v;have I:=Kv (gh:=gh) v hi;unfold qg qx;simp only[ez];constructor
 ·rintro (((h|h)|h)|h)
  ·split at h
   ·simp only[dM]at h;subst h;omega
   ·cases h
  ·split at h
   ·rename_i y;simp only[dM]at h;subst h;have:1<=i:=fT λh=>by subst h;simp at y
    omega
   ·cases h
  ·split at h
   ·simp only[dM]at h;subst h;refine⟨I (by assumption),.inr (.inl ⟨rfl,?_⟩)⟩;rw[z,a8 om];omega
   ·cases h
  ·split at h
   ·simp only[dM]at h;subst h;omega
   ·cases h
 ·rintro⟨J,⟨e,y⟩|⟨e,y⟩|e|e⟩
  ·refine .inl (.inl (.inr ?_));rw[a7 y];simp;omega
  ·refine .inl (.inr ?_);subst e;rw[z]at y;by_cases h1:i%gw+1=gw
   ·rw[a7 h1]at y;omega
   ·rw[a7 om];simp
  ·refine .inl (.inl (.inl ?_));rw[a7 om];simp;omega
  ·refine .inr ?_;rw[a7 om];simp;omega
theorem MN{P:Nat->Prop}(I:0<gw)(y:∀i j,i<gw*gh->j<gw*gh->qx gw i j->P i->P j){a:Nat}(D:a<gw*gh)(h:P a):∀i,i<gw*gh->P i:=by
 have v:∀i,i<gw*gh->(P i↔P 0):=by
  intro i;induction i using Nat.strongRecOn with
  |_ i ih =>
   intro hi;by_cases z:0<i%gw
   ·have h1:1<=i:=fT λh=>by subst h;simp at z
    have s:qx gw i (i-1):=.inl ⟨om,z⟩;exact⟨λp=>(ih (i-1) om om).1 (y _ _ hi om s p),λp=>y _ _ om hi s.symm ((ih (i-1) om om).2 p)⟩
   ·by_cases h1:gw<=i
    ·have s:qx gw i (i-gw):=.inr (.inr (.inl om));exact⟨λp=>(ih (i-gw) om om).1 (y _ _ hi om s p),λp=>y _ _ om hi s.symm ((ih (i-gw) om om).2 p)⟩
    ·have:i=0:=by rw[dT om]at z;omega
     rw[this]
 exact λi hi=>(v i hi).2 ((v a D).1 h)
def rQ(n:Nat)(o:Nat->Int):Nat:=((List.range n).filter λi=>decide (0<=o i)).length
def jU(o:Nat->Int)(k:Nat)(c:Int):Nat->Int:=λi=>if i=k then c else o i
theorem Ty(n:Nat)(o:Nat->Int):rQ n o<=n:=by
 have:=nY (λi=>decide (0<=o i)) (List.range n);simpa [rQ]using this
theorem AC{o:Nat->Int}{c:Int}(v:0<=c)(y:o k<0):∀n,rQ n (jU o k c)=rQ n o+(if k<n then 1 else 0)
 |0=>by simp[rQ]
 |n+1=>by
  have ih:=AC v y n
  unfold rQ at *;rw[eG,ix,ix,cP,cP,ih];by_cases e:n=k
  ·subst e;have h1:(jU o n c) n=c:=by simp[jU]
   simp[h1,v];omega
  ·have h1:(jU o k c) n=o n:=by simp[jU,e]
   simp only[List.filter_cons,List.filter_nil,h1];split<;>split<;>split<;>simp<;>omega
def u7:Int:=4294967297
structure DJ(gw gh:Nat)(V:List Int)(a:Nat)(o:Nat->Int)(Q:List (Int×Nat))(X:Nat->Nat->Prop):Prop where
 ent:∀x∈Q,x.2<gw*gh/\0<=x.1/\((x.2=a/\x.1=0)\/∃p,p<gw*gh/\0<=o p/\qx gw p x.2/\x.1=o p+st V p x.2)
 zero:0<=o a->o a=0
 pred:∀j,j<gw*gh->j≠a->0<=o j->∃i,i<gw*gh/\qx gw i j/\0<=o i/\o j=o i+st V i j
 le:∀i j,i<gw*gh->j<gw*gh->qx gw i j->0<=o i->0<=o j->o j<=o i+st V i j
 front:∀p j,p<gw*gh->j<gw*gh->qx gw p j->0<=o p->o j<0->¬X p j->(o p+st V p j,j)∈Q
 start:o a<0->((0:Int),a)∈Q
 low:∀p,p<gw*gh->0<=o p->∀x∈Q,o p<=x.1
 bnd:∀x∈Q,x.1<=rQ (gw*gh) o*u7
 obnd:∀p,p<gw*gh->o p<=rQ (gw*gh) o*u7
section
variable{a:Nat}{V:List Int}{o:Nat->Int}{Q Q':List (Int × Nat)}{X:Nat->Nat->Prop}
theorem DJ.init(y:a<gw*gh):DJ gw gh V a (λ_=>-1) [(0,a)] (λ_ _=>False) where
 ent:=λx v=>by simp at v;subst v;exact⟨y,ij _,.inl ⟨rfl,rfl⟩⟩
 zero:=λh=>by omega
 pred:=λj _ _ h=>by omega
 le:=λi j _ _ _ h=>by omega
 front:=λp j _ _ _ h=>by omega
 start:=λ_=>by simp
 low:=λp _ h=>by omega
 bnd:=λx v=>by simp at v;subst v;unfold u7;show(0:Int)<=_;omega
 obnd:=λp _=>by unfold u7;show(-1:Int)<=_;omega
theorem DJ.perm(h:DJ gw gh V a o Q X)(v:∀x,x∈Q'↔x∈Q):DJ gw gh V a o Q' X :=
 ⟨λx y=>h.ent x ((v x).1 y),h.zero,h.pred,h.le,λp j a b c d e f=>(v _).2 (h.front p j a b c d e f),λe=>(v _).2 (h.start e),λp a b x y=>h.low p a b x ((v x).1 y),λx y=>h.bnd x ((v x).1 y),h.obnd⟩
theorem DJ.skip{x:Int×Nat}(h:DJ gw gh V a o (x::Q) X)(I:0<=o x.2):DJ gw gh V a o Q X:=by
 have v:∀c j,o j<0->(c,j)∈x::Q->(c,j)∈Q:=λc j J D=>by
  rcases dy.1 D with e|e
  ·subst e;dsimp only at I;omega
  ·exact e
 exact⟨λy z=>h.ent y (cW _ z),h.zero,h.pred,h.le,λp j a b c d e f=>v _ _ e (h.front p j a b c d e f),λe=>v _ _ e (h.start e),λp a b y z=>h.low p a b y (cW _ z),
  λy z=>h.bnd y (cW _ z),h.obnd⟩
structure Hl(gw gh:Nat)(V:List Int)(a:Nat)(o:Nat->Int)(Q:List (Int×Nat))(cur:Nat)(todo:List Nat):Prop where
 dj:DJ gw gh V a o Q (λp j=>p=cur/\j∈todo)
 cur_lt:cur<gw*gh
 cur0:0<=o cur
 top:∀p,p<gw*gh->0<=o p->o p<=o cur
 room:o cur+u7<=rQ (gw*gh) o*u7
 todo_ok:∀j∈todo,j<gw*gh/\qx gw cur j
theorem DJ.take{x:Int×Nat}(ad:0<gw)(h:DJ gw gh V a o (x::Q) (λ_ _=>False))(hx:o x.2<0)(U:∀y∈Q,x.1<=y.1):Hl gw gh V a (jU o x.2 x.1) Q x.2 (qg gw (gw*gh) x.2):=by
 obtain⟨aa,h0,ac⟩:=h.ent x eB;have J:∀p,0<=o p->jU o x.2 x.1 p=o p:=λp hp=>by unfold jU;rw[a8 (by rintro rfl;omega)]
 have z:jU o x.2 x.1 x.2=x.1:=by unfold jU;rw[a7 rfl]
 have v:∀p,p≠x.2->jU o x.2 x.1 p=o p:=λp hp=>by unfold jU;rw[a8 hp]
 have S:rQ (gw*gh) (jU o x.2 x.1)=rQ (gw*gh) o+1:=by rw[AC h0 hx,a7 aa]
 have ai:=h.bnd x eB
 have ag:∀c j,j≠x.2->(c,j)∈x::Q->(c,j)∈Q:=λc j O hm=>by
  rcases dy.1 hm with e|e
  ·subst e;exact absurd rfl O
  ·exact e
 refine⟨⟨λy hy=>?_,λha=>?_,λj O ae D=>?_,λi j hi O s ab D=>?_,λp j hp O s I D hX=>?_,λha=>?_,λp hp I y hy=>?_,λy hy=>?_,λp hp=>?_⟩,aa,by rw[z];exact h0,λp hp I=>?_,?_,λj O=>(tC ad aa).1 O⟩
 ·obtain⟨g1,g2,g3⟩:=h.ent y (cW _ hy);refine⟨g1,g2,g3.imp id λ⟨p,p1,p2,p3,p4⟩=>⟨p,p1,?_,p3,?_⟩⟩
  ·rw[J p p2];exact p2
  ·rw[J p p2];exact p4
 ·by_cases e:a=x.2
  ·rw[e,z];have:=h.start (by rw[e];exact hx);rcases dy.1 this with e2|e2
   ·rw[<-e2]
   ·have:=U _ e2;dsimp only at this;omega
  ·rw[v a e]at ha ⊢;exact h.zero ha
 ·by_cases e:j=x.2
  ·subst e;rcases ac with⟨e2,_⟩|⟨p,p1,p2,p3,p4⟩
   ·exact absurd e2 ae
   ·exact⟨p,p1,p3,by rw[J p p2];exact p2,by rw[z,J p p2];exact p4⟩
  ·rw[v j e]at D ⊢;obtain⟨i,i1,i2,i3,i4⟩:=h.pred j O ae D;exact⟨i,i1,i2,by rw[J i i3];exact i3,by rw[J i i3];exact i4⟩
 ·have ah:=sA V i j;by_cases ei:i=x.2
  ·by_cases Z:j=x.2
   ·subst ei;subst Z;omega
   ·rw[v j Z]at D ⊢;have:=h.low j O D x eB;rw[ei,z,<-ei];omega
  ·rw[v i ei]at ab ⊢;by_cases Z:j=x.2
   ·have:=h.front i j hi O s ab (by rw[Z];exact hx) (λf=>f);rw[Z,z,<-Z];rcases dy.1 this with e|e
    ·rw[<-e];exact ij _
    ·exact U _ e
   ·rw[v j Z]at D ⊢;exact h.le i j hi O s ab D
 ·have Z:j≠x.2:=by rintro rfl;rw[z]at D;omega
  rw[v j Z]at D;by_cases L:p=x.2
  ·exact absurd ⟨L,(tC ad aa).2 ⟨O,L▸s⟩⟩ hX
  ·rw[v p L]at I ⊢;exact ag _ _ Z (h.front p j hp O s I D (λf=>f))
 ·have e:a≠x.2:=by rintro e;rw[e,z]at ha;omega
  rw[v a e]at ha;exact ag _ _ e (h.start ha)
 ·by_cases L:p=x.2
  ·rw[L,z];exact U y hy
  ·rw[v p L]at I ⊢;exact h.low p hp I y (cW _ hy)
 ·have:=h.bnd y (cW _ hy);rw[S];unfold u7 at*;push_cast;omega
 ·rw[S];by_cases L:p=x.2
  ·rw[L,z];unfold u7 at*;push_cast;omega
  ·rw[v p L];have:=h.obnd p hp;unfold u7 at*;push_cast;omega
 ·rw[z];by_cases L:p=x.2
  ·rw[L,z];exact ij _
  ·rw[v p L]at I ⊢;exact h.low p hp I x eB
 ·rw[z,S];unfold u7 at*;push_cast;omega
theorem Hl.known(h:Hl gw gh V a o Q cur (j::todo))(L:0<=o j):Hl gw gh V a o Q cur todo:=by
 refine⟨⟨h.dj.ent,h.dj.zero,h.dj.pred,h.dj.le,λp k J v s D y I=>h.dj.front p k J v s D y ?_,h.dj.start,h.dj.low,h.dj.bnd,h.dj.obnd⟩,h.cur_lt,h.cur0,h.top,h.room,λk v=>h.todo_ok k (cW _ v)⟩;rintro⟨e,z⟩;rcases dy.1 z with rfl|z
 ·omega
 ·exact I ⟨e,z⟩
theorem Hl.push(h:Hl gw gh V a o Q cur (j::todo))(Z:st V cur j<=u7)(D:∀x,x∈Q'↔x=(o cur+st V cur j,j)\/x∈Q):Hl gw gh V a o Q' cur todo:=by
 have U:=h.todo_ok j eB;have aa:=sA V cur j;have h0:=h.cur0;have O:=h.room;refine⟨⟨λx v=>?_,h.dj.zero,h.dj.pred,h.dj.le,λp k y I s z J hX=>(D _).2 ?_,λha=>(D _).2 (.inr (h.dj.start ha)),λp y z x v=>?_,λx v=>?_,h.dj.obnd⟩,h.cur_lt,h.cur0,h.top,h.room,λk I=>h.todo_ok k (cW _ I)⟩
 ·rcases (D x).1 v with rfl|v
  ·exact⟨U.1,by show 0<=o cur+st V cur j;omega,.inr ⟨cur,h.cur_lt,h.cur0,U.2,rfl⟩⟩
  ·exact h.dj.ent x v
 ·by_cases e:p=cur/\k=j
  ·obtain⟨rfl,rfl⟩:=e;exact .inl rfl
  ·refine .inr (h.dj.front p k y I s z J ?_);rintro⟨S,L⟩;rcases dy.1 L with e2|L
   ·exact e ⟨S,e2⟩
   ·exact hX ⟨S,L⟩
 ·rcases (D x).1 v with rfl|v
  ·have:=h.top p y z;show o p<=o cur+st V cur j;omega
  ·exact h.dj.low p y z x v
 ·rcases (D x).1 v with rfl|v
  ·show o cur+st V cur j<=_;omega
  ·exact h.dj.bnd x v
theorem Hl.done(h:Hl gw gh V a o Q cur []):DJ gw gh V a o Q (λ_ _=>False) :=
 ⟨h.dj.ent,h.dj.zero,h.dj.pred,h.dj.le,λp k I z s y v _=>h.dj.front p k I z s y v (by rintro⟨_,D⟩;cases D),h.dj.start,h.dj.low,h.dj.bnd,h.dj.obnd⟩
theorem DJ.finish(I:0<gw)(y:V.length=gw*gh)(O:a<gw*gh)(h:DJ gw gh V a o [] (λ_ _=>False)):lZ gw V a o:=by
 have D:0<=o a:=by
  rcases Int.lt_or_le (o a) 0 with e|e
  ·exact absurd (h.start e) (by simp)
  ·exact e
 have v:∀i,i<gw*gh->0<=o i:=MN I (P:=λi=>0<=o i) (λi j hi z s J=>by
  rcases Int.lt_or_le (o j) 0 with e|e
  ·exact absurd (h.front i j hi z s J e (λf=>f)) (by simp)
  ·exact e) O D
 refine⟨h.zero D,λi hi=>v i (y▸hi),λi j hi z s=>h.le i j (y▸hi) (y▸z) s (v i (y▸hi)) (v j (y▸z)),λj z L=>?_⟩;obtain⟨i,i1,i2,_,S⟩:=h.pred j (y▸z) L (v j (y▸z));exact⟨i,y▸i1,i2,S⟩
end
theorem Kw{p q:Nat->Bool}(h:∀i,p i=true->q i=true):∀n,((List.range n).filter p).length<=((List.range n).filter q).length
 |0=>by simp
 |n+1=>by
  have ih:=Kw h n
  rw[eG,ix,ix,cP,cP];by_cases v:p n=true
  ·simp[v,h n v];omega
  ·simp[v];omega
theorem FB{p q:Nat->Bool}(h:∀i,p i=true->q i=true)(z:q k=true)(y:p k=false):∀n,k<n->((List.range n).filter p).length<((List.range n).filter q).length
 |0,hk=>by omega
 |n+1,hk=>by
  rw[eG,ix,ix,cP,cP]
  by_cases e:k=n
  ·subst e
   have:=Kw h k
   simp[y,z];omega
  ·have ih:=FB h z y n om
   by_cases v:p n=true
   ·simp[v,h n v];omega
   ·simp[v];omega
def zk(n:Nat)(d:Nat->Int)(j:Nat):Nat:=((List.range n).filter λi=>decide (d i<d j)).length
theorem zm{d:Nat->Int}(hi:i<n)(h:d i<d j):zk n d i<zk n d j :=
 FB (λk v=>by simp only[cT]at*;omega) (k:=i) (by simpa using h) (by simp) n hi
theorem AD{d:Nat->Int}(v:j<n):zk n d j<n:=by
 have:=FB (p:=λi=>decide (d i<d j)) (q:=λ_=>true) (λ_ _=>rfl) (k:=j) rfl (by simp) n v;rw[List.filter_eq_self.2 (λ_ _=>rfl),gk]at this;exact this
theorem MO{o:Nat->Int}{c:Int}(v:0<=c)(y:0<=o k)(n:Nat):rQ n (jU o k c)=rQ n o:=by
 unfold rQ;congr 1;refine List.filter_congr λi _=>?_;unfold jU;split
 ·rename_i e;subst e;simp[v,y]
 ·rfl
structure BF(gw gh:Nat)(V:List Int)(a:Nat)(d:Nat->Int)(r:Nat)(fell:Bool)(E:Nat->Nat->Prop)(o:Nat->Int):Prop where
 zero:o a=0
 ge:∀j,j<gw*gh->0<=o j->d j<=o j
 bnd:∀j,j<gw*gh->o j<=rQ (gw*gh) o*u7
 rk:∀j,j<gw*gh->zk (gw*gh) d j<=r->o j=d j
 rel:∀p j,p<gw*gh->j<gw*gh->qx gw p j->E p j->zk (gw*gh) d p<=r->0<=o j/\o j<=d p+st V p j
 quiet:fell=false->∀p j,p<gw*gh->j<gw*gh->qx gw p j->E p j->0<=o p->0<=o j/\o j<=o p+st V p j
section
variable{a r:Nat}{V:List Int}{d o:Nat->Int}
theorem BF.start(D:V.length=gw*gh)(hd:lZ gw V a d)(J:a<gw*gh):BF gw gh V a d 0 false (λ_ _=>False) (jU (λ_=>-1) a 0):=by
 have e:∀j,j≠a->jU (λ_=>(-1:Int)) a 0 j=-1:=λj y=>by unfold jU;rw[a8 y]
 have z:jU (λ_=>(-1:Int)) a 0 a=0:=by unfold jU;rw[a7 rfl]
 refine⟨z,λj y I=>?_,λj y=>?_,λj y O=>?_,λ_ _ _ _ _ h=>h.elim,λ_ _ _ _ _ _ h=>h.elim⟩
 ·by_cases v:j=a
  ·subst v;rw[z,hd.zero];exact ij _
  ·rw[e j v]at I;omega
 ·have:(jU (λ_=>(-1:Int)) a 0) j<=0:=by unfold jU;split<;>first|omega|(show(-1:Int)<=0;omega)
  have h2:(0:Int)<=(rQ (gw*gh) (jU (λ_=>-1) a 0):Nat)*u7:=by unfold u7;omega
  omega
 ·by_cases v:j=a
  ·subst v;rw[z,hd.zero]
  ·obtain⟨i,hi,_,L⟩:=hd.pred j (D▸y) v;have:=sA V i j;have:=zm (n:=gw*gh) (d:=d) (i:=i) (j:=j) (D▸hi) om;omega
theorem BF.weaken(h:BF gw gh V a d r fell E o)(v:∀p j,p<gw*gh->j<gw*gh->qx gw p j->E' p j->E p j):BF gw gh V a d r fell E' o :=
 ⟨h.zero,h.ge,h.bnd,h.rk,λp j a b s e=>h.rel p j a b s (v p j a b s e),λf p j a b s e=>h.quiet f p j a b s (v p j a b s e)⟩
def Kx(i:Nat)(todo:List Nat)(p j:Nat):Prop:=p<i\/(p=i/\j∉todo)
theorem BF.enter(v:0<gw)(hi:i<gw*gh)(h:BF gw gh V a d r fell (λp _=>p<i) o):BF gw gh V a d r fell (Kx i (qg gw (gw*gh) i)) o :=
 h.weaken λp j z y s e=>by
  rcases e with e|⟨rfl,e⟩
  ·exact e
  ·exact absurd ((tC v hi).2 ⟨y,s⟩) e
theorem BF.fall(L:V.length=gw*gh)(hd:lZ gw V a d)(hi:i<gw*gh)(S:j<gw*gh)(s:qx gw i j)(hs:st V i j<=u7)(h:BF gw gh V a d r fell (Kx i (j::todo)) o)(O:0<=o i)(aa:o j<0\/o i+st V i j<o j):BF gw gh V a d r true (Kx i todo) (jU o j (o i+st V i j)):=by
 have ab:=sA V i j;have z:jU o j (o i+st V i j) j=o i+st V i j:=by unfold jU;rw[a7 rfl]
 have v:∀k,k≠j->jU o j (o i+st V i j) k=o k:=λk D=>by unfold jU;rw[a8 D]
 have U:j≠a:=by rintro rfl;have:=h.zero;omega
 have I:(o i+st V i j<=rQ (gw*gh) (jU o j (o i+st V i j))*u7)/\rQ (gw*gh) o<=rQ (gw*gh) (jU o j (o i+st V i j)):=by
  have hb:=h.bnd i hi;by_cases e:o j<0
  ·rw[AC om e,a7 S];unfold u7 at*;push_cast;omega
  ·rw[MO om om];have:=h.bnd j S;omega
 have hE:∀p k,Kx i todo p k->Kx i (j::todo) p k\/(p=i/\k=j):=λp k e=>by
  rcases e with e|⟨e,hm⟩
  ·exact .inl (.inl e)
  ·by_cases y:k=j
   ·exact .inr ⟨e,y⟩
   ·exact .inl (.inr ⟨e,by simp[y,hm]⟩)
 refine⟨by rw[v a (λe=>U e.symm)];exact h.zero,λk D h0=>?_,λk D=>?_,λk D J=>?_,λp k Z D s' e J=>?_,λf=>by cases f⟩
 ·by_cases y:k=j
  ·subst y;rw[z];have:=hd.le i k (L▸hi) (L▸S) s;have:=h.ge i hi O;omega
  ·rw[v k y]at h0 ⊢;exact h.ge k D h0
 ·by_cases y:k=j
  ·subst y;rw[z];exact I.1
  ·rw[v k y];have:=h.bnd k D;have:=I.2;unfold u7 at*;omega
 ·by_cases y:k=j
  ·subst y;have h1:=h.rk k D J;have h2:=hd.nn k (L▸D);have h3:=hd.le i k (L▸hi) (L▸D) s;have h4:=h.ge i hi O;omega
  ·rw[v k y];exact h.rk k D J
 ·by_cases y:k=j
  ·subst y;rw[z];refine⟨om,?_⟩;rcases hE p k e with e|⟨rfl,_⟩
   ·have:=h.rel p k Z D s' e J;omega
   ·have:=h.rk p Z J;omega
  ·rw[v k y];rcases hE p k e with e|⟨_,e⟩
   ·exact h.rel p k Z D s' e J
   ·exact absurd e y
theorem BF.next(v:V.length=gw*gh)(hd:lZ gw V a d)(h:BF gw gh V a d r fell (λp _=>p<gw*gh) o):BF gw gh V a d (r+1) false (λ_ _=>False) o:=by
 refine⟨h.zero,h.ge,h.bnd,λj y I=>?_,λ_ _ _ _ _ e=>e.elim,λ_ _ _ _ _ _ e=>e.elim⟩;by_cases e:j=a
 ·subst e;rw[h.zero,hd.zero]
 ·obtain⟨i,hi,s,D⟩:=hd.pred j (v▸y) e;have:=sA V i j;have z:=zm (n:=gw*gh) (d:=d) (i:=i) (j:=j) (v▸hi) om;have h1:=h.rel i j (v▸hi) y s (v▸hi) om;have h2:=h.ge j y h1.1;omega
end
def qh(gw:Nat)(V:List Int)(d:Nat->Int)(i:Nat):Nat:=((qg gw V.length i).find? λj=>d j+st V i j==d i).getD i
def vC(gw:Nat)(V:List Int)(d:Nat->Int)(b:Nat):Nat->Nat->List Nat
 |0,i=>[i]
 |k+1,i=>if i=b then [i]else i::vC gw V d b k (qh gw V d i)
section
variable{V:List Int}{d:Nat->Int}
theorem Ds(z:0<gw)(L:V.length=gw*gh)(hd:lZ gw V b d)(hi:i<gw*gh)(h:i≠b) :
  ∃pre v,qg gw V.length i=pre++qh gw V d i::v/\(∀j∈pre,d j+st V i j≠d i)/\d (qh gw V d i)+st V i (qh gw V d i)=d i/\qh gw V d i<gw*gh/\qx gw i (qh gw V d i):=by
 obtain⟨j,O,s,U⟩:=hd.pred i (L▸hi) h;have I:j∈qg gw V.length i:=by rw[L];exact(tC z hi).2 ⟨L▸O,s.symm⟩
 have y:((qg gw V.length i).find? λj=>d j+st V i j==d i).isSome=true:=by
  rw[List.find?_isSome];exact⟨j,I,by rw[Tx,<-U];simp⟩
 obtain⟨k,S⟩:=qm.1 y;have Z:qh gw V d i=k:=by unfold qh;rw[S];rfl
 obtain⟨hp,pre,v,e,J⟩:=List.find?_eq_some_iff_append.1 S;have D:k∈qg gw V.length i:=List.mem_of_find?_eq_some S;rw[L]at D;have h2:=(tC z hi).1 D;rw[Z];refine⟨pre,v,e,λj O=>?_,by simpa using hp,h2.1,h2.2⟩;have:=J j O;simpa using this
theorem Cj(v:0<gw)(y:V.length=gw*gh)(hd:lZ gw V b d):∀(k:Nat)(i:Nat),i<gw*gh->d i<=k->vC gw V d b (k+1) i=vC gw V d b k i
 |0,i,hi,h=>by
  have:i=b:=by
   by_cases e:i=b
   ·exact e
   ·obtain⟨j,I,s,D⟩:=hd.pred i (y▸hi) e;have:=sA V j i;have:=hd.nn j I;omega
  simp[vC,this]
 |k+1,i,hi,h=>by
  by_cases e:i=b
  ·simp[vC,e]
  ·obtain⟨_,_,_,_,D,z,_⟩:=Ds v y hd hi e;have:=sA V i (qh gw V d i);have ih:=Cj v y hd k (qh gw V d i) z om;rw[vC,a8 e,ih];rw[vC,a8 e]
def ri(gw:Nat)(V:List Int)(d:Nat->Int)(b i:Nat):List Nat:=vC gw V d b (d i).toNat i
theorem I6(hd:lZ gw V b d):ri gw V d b b=[b]:=by unfold ri;rw[hd.zero];rfl
theorem Ei(hgw:0<gw)(hV:V.length=gw*gh)(hd:lZ gw V b d)(hi:i<gw*gh):∀m:Nat,vC gw V d b ((d i).toNat+m) i=ri gw V d b i
 |0=>rfl
 |m+1=>by rw[<-mI,Cj hgw hV hd _ i hi om,Ei hgw hV hd hi m]
theorem I7(v:0<gw)(z:V.length=gw*gh)(hd:lZ gw V b d)(hi:i<gw*gh)(h:i≠b):ri gw V d b i=i::ri gw V d b (qh gw V d i):=by
 obtain⟨_,_,_,_,L,y,_⟩:=Ds v z hd hi h;have I:=sA V i (qh gw V d i);have J:=hd.nn (qh gw V d i) (z▸y);have D:(d i).toNat=(d (qh gw V d i)).toNat+((d i).toNat-1-(d (qh gw V d i)).toNat)+1:=om;rw[ri,D,vC,a8 h,Ei v z hd y]
end
instance (gw i j:Nat):Decidable (qx gw i j):=by unfold qx;infer_instance
def lR(l:List Nat):List Value:=l.map λ(j:Nat)=>ii (j:Int)
theorem BA{l:List Nat}(h:l[i]?=some j):(lR l)[(i:Int).toNat * 1]?=some (ii (j:Int)):=by
 rw[cG,b7,lR,da,h];rfl
def fj(n:Nat)(o:Nat->Int):List Value:=(List.range n).map λi=>ii (o i)
theorem pV(n:Nat)(o:Nat->Int):(fj n o).length=n:=by simp[fj]
theorem jg{o:Nat->Int}(h:i<n):(fj n o)[(i:Int).toNat * 1]?=some (ii (o i)):=by
 rw[cG,b7,fj,da,eu h];rfl
theorem I9(n:Nat)(o:Nat->Int):fj n o=cY ((List.range n).map o):=by simp[fj,cY]
theorem nj{o o':Nat->Int}(h:∀i,i<n->o i=o' i):fj n o=fj n o':=by
 unfold fj;refine eQ λi hi=>?_;rw[h i (dJ.1 hi)]
theorem rS{o:Nat->Int}{v:Int}:(fj n o).set ((k:Int).toNat * 1) (ii v)=fj n (jU o k v):=by
 rw[cG,b7];apply gG;intro i;rw[gl];unfold fj jU;by_cases e:k=i
 ·subst e;rw[a7 rfl];simp only[eP,gk];split
  ·rename_i h;rw[da,eu h];simp
  ·rename_i h;rw[dZ (by simp;omega)]
 ·rw[a8 e,da,da];by_cases h:i<n
  ·rw[eu h,ku,ku,a8 (λh=>e h.symm)]
  ·rw[dZ (by simp;omega)];rfl
theorem yk(n:Nat):List.replicate n (ii 0)=fj n (λ_=>0):=by
 unfold fj;rw[pd,gk]
section
variable{V:List Int}
theorem Xd(i:Nat)(n:Nat)(L:1<=gw)(hi:i<=1048576):Fn prog 129 [.agg #[ii gw,.slice A n c],ii i] W (dp (.agg #[ii (i%gw:Nat),ii (i/gw:Nat)]) W):=by
 have z:(i:Int)%gw=((i%gw:Nat):Int):=by push_cast;rfl
 have D:(i:Int)/gw=((i/gw:Nat):Int):=by push_cast;rfl
 have S:=St.start W;refine zI func129 ?_;refine zN ?_;intro v O I S;refine zN ?_;intro y U J S;refine zD [0,1,2,3,4,5,6,7] [8,9] ?_;rw[z];refine zQ ?_;rw[D];refine zE ?_;refine zS ?_;intro V S;exact rA S ⟨rfl,S.out⟩
def vB(V:List Int):Prop:=∀i,-2147483648<=V.getD i 0/\V.getD i 0<=2147483647
theorem E2(v:vB V)(i j:Nat):st V i j<=u7:=by have:=v i;have:=v j;unfold st u7;omega
theorem lZ.bound{a:Nat}{d:Nat->Int}(h:lZ gw V a d)(z:vB V):∀j,j<V.length->d j<=zk V.length d j*u7:=by
 have y:∀(k:Nat)(j:Nat),j<V.length->zk V.length d j<k->d j<=zk V.length d j*u7:=by
  intro k;induction k with
  |zero=>intro j _ h;omega
  |succ k ih =>
   intro j v L;by_cases e:j=a
   ·subst e;rw[h.zero];unfold u7;omega
   ·obtain⟨i,hi,_,J⟩:=h.pred j v e;have h1:=sA V i j;have h2:=E2 z i j;have D:=zm (n:=V.length) (d:=d) (i:=i) (j:=j) hi om;have I:=ih i hi om;unfold u7 at *;omega
 exact λj v=>y (zk V.length d j+1) j v om
theorem KC(a b:Nat)(Z:a<V.length)(hb:b<V.length)(D:vB V)(v:Rd W A (cY V)):Fn prog 128 [.agg #[ii gw,.slice A V.length c],ii a,ii b] W (dp (ii (st V a b)) W):=by
 have I:dO A:=v.someA (by rw[gn];omega);have J:(cY V)[(a:Int).toNat * 1]?=some (ii (V.getD a 0)):=by rw[cG,b7];exact gc (kr Z)
 have L:(cY V)[(b:Int).toNat * 1]?=some (ii (V.getD b 0)):=by rw[cG,b7];exact gc (kr hb)
 have b1:=D a;have b2:=D b;have S:=St.start W;refine zI func128 ?_;refine zN ?_;intro z aa O S;refine zD [0,1,2,3,4,5,6,7,8,9,10,11] [] ?_;refine zO (λwq y=>(v.gr (S.gr y).out)) J ?_;refine zO (λwq y=>(v.gr (S.gr y).out)) L ?_;refine zE ?_;intro ab U S;exact ir rfl ⟨ie (by unfold st;omega),S.out⟩
theorem FK(i n:Nat)(au:1<=gw/\gw<=1048576)(hi:i<n)(hn:n<=1048576):Fn prog 127 [.agg #[ii gw,.slice A n c],ii i] W (jc id 3 1 (qg gw n i).length (lR (qg gw n i)) W):=by
 have em:(i:Int)%gw=((i%gw:Nat):Int):=by push_cast;rfl
 have aA:=dt i au.1;have aB:0<i%gw->1<=i:=λh=>fT λh1=>by subst h1;simp at h
 unfold qg;generalize i%gw=m at *;have S:=St.start W;refine zI func127 ?_;refine zN ?_;intro v aQ aI S;refine zg ?_;refine nD iF rN rfl rfl rfl (n:=0) (c:=4) om om om om S ?_;intro L aR aJ S y;iterate 5 refine z ?_
 refine zc ?_;refine gP (M:=λe w=>∃(acc:List Nat)(A_o:Option Addr)(c_o:Nat),acc=([]:List Nat)++(if gw<=i then [i-gw]else [])/\SL e [(1,ii i),(2,pt v),(5,.slice A_o acc.length c_o)]/\St No W w [.row 3 1 A_o acc.length c_o (lR acc),.blk v 236 [ii gw,.slice A n c]]) ?_ ?_
 ·skip;refine zB ?_ ?_
  ·intro ao;refine zg ?_;rw[(om:(i:Int)-gw=((i-gw:Nat):Int))];refine yb S ?_;intro U aS aK S O;refine ZP 1 0 S ?_;intro am an aT S y;refine zg ?_;have S:=S.drop 1;have e1:lR ([]:List Nat)++[ii ((i-gw:Nat):Int)]=lR (([]:List Nat)++[i-gw]):=by simp[lR]
   refine⟨([]:List Nat)++[i-gw],_,_,by rw[a7 (show gw<=i by omega)],⟨rfl,rfl,se (by simp) rfl,trivial⟩,?_⟩;rw[<-e1,cP];exact S
  ·intro ao;refine zg ?_;exact⟨([]:List Nat),_,_,by rw[a8 (show ¬(gw<=i)by omega),fG],sl,S⟩
 ·rintro e0 w0 ⟨D,L,V,Z,aa,S⟩;rw[aa.fold];have aM:D.length<=1:=by rw[Z];split<;>simp<;>omega
  iterate 3 refine z ?_
  refine dU (xd rfl rfl om om) ?_;rw[em];refine dU (jx rfl) ?_;first|refine eF ?_|(refine di ?_;show CW _ _ _ _ _ _)|refine di ?_
  repeat refine dm ?_
  refine gP (M:=λe w=>∃(acc:List Nat)(A_o:Option Addr)(c_o:Nat),acc=D++(if 0<m then [i-1]else [])/\SL e [(1,ii i),(2,pt v),(5,.slice A_o acc.length c_o)]/\St No W w [.row 3 1 A_o acc.length c_o (lR acc),.blk v 236 [ii gw,.slice A n c]]) ?_ ?_
  ·skip;refine zB ?_ ?_
   ·intro ap;refine zg ?_;rw[(om:(i:Int)-1=((i-1:Nat):Int))];refine yb S ?_;intro U aU aL S O;refine ZP 1 0 S ?_;intro ae aj aC S y;refine zg ?_;have S:=S.drop 1;have e1:lR D++[ii ((i-1:Nat):Int)]=lR (D++[i-1]):=by simp[lR]
    refine⟨D++[i-1],_,_,by rw[a7 (show 0<m by omega)],⟨rfl,rfl,se (by simp) rfl,trivial⟩,?_⟩;rw[<-e1,cP];exact S
   ·intro ap;refine zg ?_;exact⟨D,_,_,by rw[a8 (show ¬(0<m)by omega),fG],sl,S⟩
  ·rintro e1 w1 ⟨I,L,V,ab,aa,S⟩;rw[aa.fold];have aN:I.length<=2:=by rw[ab];split<;>simp<;>omega
   refine zD [0,1,2,3,4,5,6,7] [] ?_;rw[em];refine zE ?_;intro aD av S;refine gP (M:=λe w=>∃(acc:List Nat)(A_o:Option Addr)(c_o:Nat),acc=I++(if m+1<gw then [i+1]else [])/\SL e [(1,ii i),(2,pt v),(5,.slice A_o acc.length c_o)]/\St No W w [.row 3 1 A_o acc.length c_o (lR acc),.blk v 236 [ii gw,.slice A n c]]) ?_ ?_
   ·skip;refine zB ?_ ?_
    ·intro aq;refine zg ?_;rw[(om:(i:Int)+1=((i+1:Nat):Int))];refine yb S ?_;intro U aE aw S O;refine ZP 1 0 S ?_;intro ag ak aF S y;refine zg ?_;have S:=S.drop 1;have e1:lR I++[ii ((i+1:Nat):Int)]=lR (I++[i+1]):=by simp[lR]
     refine⟨I++[i+1],_,_,by rw[a7 (show m+1<gw by omega)],⟨rfl,rfl,se (by simp) rfl,trivial⟩,?_⟩;rw[<-e1,cP];exact S
    ·intro aq;refine zg ?_;exact⟨I,_,_,by rw[a8 (show ¬(m+1<gw)by omega),fG],sl,S⟩
   ·rintro e2 w2 ⟨J,L,V,ac,aa,S⟩;rw[aa.fold];have aO:J.length<=3:=by rw[ac];split<;>simp<;>omega
    (iterate 3 refine z ?_);refine zr ?_;iterate 4 refine z ?_
    refine zc ?_;refine gP (M:=λe w=>∃(acc:List Nat)(A_o:Option Addr)(c_o:Nat),acc=J++(if i+gw<n then [i+gw]else [])/\SL e [(1,ii i),(2,pt v),(5,.slice A_o acc.length c_o)]/\St No W w [.row 3 1 A_o acc.length c_o (lR acc),.blk v 236 [ii gw,.slice A n c]]) ?_ ?_
    ·skip;refine zB ?_ ?_
     ·intro ar;refine zg ?_;rw[(om:(i:Int)+gw=((i+gw:Nat):Int))];refine yb S ?_;intro U aG az S O;refine ZP 1 0 S ?_;intro ah al aH S y;refine zg ?_;have S:=S.drop 1;have e1:lR J++[ii ((i+gw:Nat):Int)]=lR (J++[i+gw]):=by simp[lR]
      refine⟨J++[i+gw],_,_,by rw[a7 (show i+gw<n by omega)],⟨rfl,rfl,se (by simp) rfl,trivial⟩,?_⟩;rw[<-e1,cP];exact S
     ·intro ar;refine zg ?_;exact⟨J,_,_,by rw[a8 (show ¬(i+gw<n)by omega),fG],sl,S⟩
    ·rintro e3 w3 ⟨ai,L,V,ad,aa,S⟩;rw[aa.fold];have aP:ai.length<=4:=by rw[ad];split<;>simp<;>omega
     refine zg ?_;rw[jL]at Z;rw[<-Z,<-ab,<-ac,<-ad];exact ir rfl (S.retNew (i:=0) (mk:=id) rfl)
end
theorem u9{V:List Int}(h:∀v∈V,iL v=true):vB V:=by
 intro i;rw[cO];cases e:V[i]? with
 |none=>simp
 |some v =>
  have:=h v (dD e);unfold iL at this;simpa using this
theorem FL(h:∀i,i<gw*gh->-2147483648<=cc i/\cc i<=2147483647):vB (dw gw gh cc):=by
 intro i;unfold dw;rw[cO];by_cases hi:i<gw*gh
 ·rw[da,eu hi];exact h i hi
 ·rw[dZ (by simp;omega)];simp
def Hn(k:Nat)(As:Nat->Option Addr)(n:Nat)(cs:Nat->Nat):List Value:=(List.range k).map λy=>.slice (As y) n (cs y)
theorem FM{cs:Nat->Nat}{y:Nat}(h:y<k):(Hn k As n cs)[((y:Nat):Int).toNat * 1]?=some (.slice (As y) n (cs y)):=by simp[Hn,h]
def nX{α:Type}(f:Nat->α)(k:Nat)(x:α):Nat->α:=λt=>if t=k then x else f t
theorem iU{α:Type}{f:Nat->α}{x:α}:nX f k x k=x:=a7 rfl
theorem gY{α:Type}{f:Nat->α}{t:Nat}{x:α}(h:t<k):nX f k x t=f t:=a8 om
theorem HK{cs:Nat->Nat}:Hn k As n cs++[.slice A n c]=Hn (k+1) (nX As k A) n (nX cs k c):=by
 unfold Hn;rw[eG,fq,i7,iU,iU];congr 1;exact eQ λt v=>by rw[gY (dJ.1 v),gY (dJ.1 v)]
def HA.rfam(el k:Nat)(As:Nat->Option Addr)(cs:Nat->Nat)(n:Nat)(xs:Nat->List Value):HA :=
 ⟨λg=>∃t,t<k/\jv (As t) g,λw=>∀t,t<k->gH w el 1 (As t) n (cs t) (xs t),λ_ _ h _ hR t ht=>(hR t ht).keep (λg hg=>h g ⟨t,ht,hg⟩),λ_ hR _⟨t,ht,hg⟩=>(hR t ht).lt hg⟩
section
variable{L:List HA}{cs:Nat->Nat}{xs:Nat->List Value}
theorem St.rfam0(S:St F W w L)(As:Nat->Option Addr)(cs:Nat->Nat)(xs:Nat->List Value):St F W w (.rfam el 0 As cs n xs::L) :=
 S.push (Gr.refl w) (h:=.rfam el 0 As cs n xs) (λt v=>by omega) (λg⟨t,v,_⟩=>by omega)
theorem St.rrow(S:St F W w L)(hi:gi L i=some (.rfam el k As cs n xs)){t:Nat}(v:t<k):gH w el 1 (As t) n (cs t) (xs t):=S.ok hi t v
theorem St.rrd(S:St F W w L)(hi:gi L i=some (.rfam el k As cs n xs)){t:Nat}(v:t<k):Rd w (As t) (xs t):=(S.rrow hi v).rd
theorem St.rfamPush(S:St F W w (.row el 1 A n c l::.rfam el k As cs n xs::L))(D:xs k=l):St F W w (.rfam el (k+1) (nX As k A) (nX cs k c) n xs::L):=by
 have h1:=S.sep.1;have h2:=S.sep.2.2.1;have y:=S.sep.2.2.2;refine⟨S.fr,⟨λt z=>?_,λg⟨t,z,e⟩=>?_⟩,λg⟨t,z,e⟩h hh=>?_,y.2⟩
 ·by_cases e:t=k
  ·subst e;rw[iU,iU,D];exact h1.1
  ·rw[gY om,gY om];exact h2.1 t om
 ·by_cases v:t=k
  ·subst v;rw[iU]at e;exact h1.2 g e
  ·rw[gY om]at e;exact h2.2 g ⟨t,om,e⟩
 ·by_cases v:t=k
  ·subst v;rw[iU]at e;exact S.sep.2.1 g e h (cW _ hh)
  ·rw[gY om]at e;exact y.1 g ⟨t,om,e⟩ h hh
end
theorem xo(a b c:α)(L:List α):(a::b::c::L).Perm (c::a::b::L):=(ft (l₁:=[a,b]) (l₂:=[c])).append_right L
def tI(V:List Int)(o:Nat):Nat->Int
 |0=>0
 |x+1=>tI V o x+V.getD (o+x) 0
def lf(V:List Int)(gw:Nat):Nat->Nat->Int
 |0,_=>0
 |y+1,x=>tI V (y*gw) x+lf V gw y x
theorem HL(V:List Int)(gw:Nat):∀y,lf V gw y 0=0
 |0=>rfl
 |y+1=>by show tI V (y*gw) 0+lf V gw y 0=0;rw[HL V gw y];rfl
theorem Dx{V:List Int}(v:vB V)(o:Nat):∀x:Nat,-(2147483648*(x:Int))<=tI V o x/\tI V o x<=2147483648*(x:Int)
 |0=>by simp[tI]
 |x+1=>by
  have:=Dx v o x
  have:=v (o+x);show _<=tI V o x+V.getD (o+x) 0/\tI V o x+V.getD (o+x) 0<=_;omega
theorem va{V:List Int}(v:vB V)(gw:Nat){x:Nat}(z:x<=1024):∀y:Nat,-(2199023255552*(y:Int))<=lf V gw y x/\lf V gw y x<=2199023255552*(y:Int)
 |0=>by simp[lf]
 |y+1=>by
  have:=va v gw z y
  have:=Dx v (y*gw) x;show _<=tI V (y*gw) x+lf V gw y x/\tI V (y*gw) x+lf V gw y x<=_;omega
def rj(w:World)(tb gw gh:Nat)(V:List Int):Prop:=∃Ao co As cs,eL w tb 344 [ii gw,ii gh,.slice Ao (gh+1) co]/\gH w 29 1 Ao (gh+1) co (Hn (gh+1) As (gw+1) cs) /\
 ∀y,y<gh+1->gH w 2 1 (As y) (gw+1) (cs y) (fj (gw+1) (lf V gw y))
theorem rj.gr{V:List Int}(h:rj w tb gw gh V)(g:Gr w w'):rj w' tb gw gh V:=by
 obtain⟨v,z,As,cs,h1,h2,D⟩:=h;exact⟨v,z,As,cs,h1.gr g,h2.gr g,λy I=>(D y I).gr g⟩
def BB(tb gw gh:Nat)(V:List Int)(Ao:Option Addr)(co:Nat)(As:Nat->Option Addr)(cs:Nat->Nat):List HA :=
 [.rfam 2 (gh+1) As cs (gw+1) (λy=>fj (gw+1) (lf V gw y)),.blk tb 344 [ii gw,ii gh,.slice Ao (gh+1) co],.row 29 1 Ao (gh+1) co (Hn (gh+1) As (gw+1) cs)]
theorem St.areaAt{L:List HA}{y:Nat}{V:List Int}{v:Option Addr}{cs:Nat->Nat}(S:St F W w (BB tb gw gh V v y As cs++L)):rj w tb gw gh V :=
 ⟨_,_,_,_,S.blk (i:=1) rfl,S.row (i:=2) rfl,λ_ z=>S.rrow (i:=0) rfl z⟩
theorem Ja{o:Nat->Int}{v:Int}(h:v=o n):fj n o++[ii v]=fj (n+1) o:=by
 subst h;unfold fj;rw[eG,fq];rfl
section
variable{cap:Nat}
theorem FN(hB:vB (dw gw gh cc))(hG:eJ W p gw gh cc A cap bs Rs):Fn prog 145 [pt p] W
  (λv w'=>∃tb Ao co As cs,v=.tuple #[pt tb,ii 0]/\St No W w' (BB tb gw gh (dw gw gh cc) Ao co As cs)):=by
 have hw:=hG.sw;have hh:=hG.sh;have hV:=qf gw gh cc
 have au:∀(y:Nat)(w:World),y<gh->Gr W w->Fn prog 47 [pt p,.agg #[ii 0,ii y,ii (gw-1:Nat),ii y]] w (jc (λv=>.tuple #[v,ii 0]) 2 1 gw (fj gw λx=>(dw gw gh cc).getD (y*gw+x) 0) w):=λy w hy g=>by
  have h1:=iz (W:=w) 0 y (gw-1) y om om (hG.gr g)
  have e2:cY (fi gw cc 0 y (gw-1+1-0) (y+1-y))=fj gw λx=>(dw gw gh cc).getD (y*gw+x) 0:=by
   have aF:(y+1)*gw<=gh*gw:=cI _ hy;rw[cX,cD gh]at aF;rw[(om:gw-1+1-0=gw),(om:y+1-y=1),I9];congr 1;simp only[fi,vV,List.range_one,lx];refine eQ λx hx=>?_;have hx:=dJ.1 hx;unfold dw;rw[cO,da,eu om];simp
  rw[e2,show(y+1-y)*(gw-1+1-0)=gw by rw[(om:y+1-y=1)];omega]at h1;exact h1
 generalize dw gw gh cc=V at *;have e1:((gw:Int)-1)=((gw-1:Nat):Int):=om;have e2:((gw:Int)+1)=((gw+1:Nat):Int):=by push_cast;rfl
 have S:=St.start W;refine zI func145 ?_;refine zC (mC p gw gh _ W (hG.top.gr S.out)) ?_;intro bc aT S;refine zg ?_;rw[e2];refine nD fZ jR rfl rfl rfl (n:=gw+1) (c:=gw+1) om om om om S ?_;intro L be aU S aG;refine yb S ?_;intro D bf aV S U;refine zN ?_;intro O bg aW S;refine zg ?_
 have aq:List.replicate (gw+1) (ii 0)=fj (gw+1) (lf V gw 0):=by
  unfold fj lf;rw[pd,gk]
 rw[aq]at S;have S:=((S.perm_ (xo _ _ _ _)).rfam0 (el:=2) (n:=gw+1) (λ_=>none) (λ_=>0) (λy=>fj (gw+1) (lf V gw y))).swap.rfamPush rfl
 have h0:[Value.slice L (gw+1) (gw+1)]=Hn (0+1) (nX (λ_=>none) 0 L) (gw+1) (nX (λ_=>0) 0 (gw+1)):=by
  have:=HK (k:=0) (As:=λ_=>none) (n:=gw+1) (cs:=λ_=>0) (A:=L) (c:=gw+1);exact this
 rw[h0]at S;generalize nX (λ_=>none) 0 L=av at *;generalize nX (λ_=>0) 0 (gw+1)=aw at *
 refine dl (λm e w=>∃(y:Nat)(As:Nat->Option Addr)(cs:Nat->Nat)(D:Option Addr)(I:Nat),y+m=gh/\SL e [(0,pt p),(4,ii gw),(6,pt O),(29,ii gh),(30,ii y)] /\
  St No W w [.rfam 2 (y+1) As cs (gw+1) (λy=>fj (gw+1) (lf V gw y)),.blk O 344 [ii gw,ii gh,.slice D (y+1) I],.row 29 1 D (y+1) I (Hn (y+1) As (gw+1) cs)]) gh
  ⟨0,av,aw,D,1,om,sl,S⟩ ?_
 clear S aq h0;rintro m e w ⟨y,As,cs,D,I,bb,aE,S⟩;rw[aE.fold];by_cases hy:y<gh
 ·have aj:y<y+1:=Nat.lt_succ_self y;have U:dO D:=(S.row (i:=2) rfl).someA om;have aH:dO (As y):=(S.rrow (i:=0) rfl aj).someA om;have aB:=FM (As:=As) (n:=gw+1) (cs:=cs) aj
  have ao:[ii 0]=fj 1 (lf V gw (y+1)):=by
   have:lf V gw (y+1) 0=0:=HL V gw (y+1);unfold fj;simp[this]
  refine zg ?_;rw[e1];refine zK (au y w hy S.out) ?_;rintro _ bh ⟨ad,al,rfl,am,an,az⟩;have S:=S.pushRow am an az;refine zg ?_;rw[e2];refine nD fZ jR rfl rfl rfl (n:=1) (c:=gw+1) om om om om S ?_;intro J aM aI S ak;refine zg ?_;have ap:List.replicate 1 (ii 0)=fj 1 (lf V gw (y+1)):=ao;rw[ap]at S;have aL:dO ad:=(S.row (i:=1) rfl).someA om
  refine dl (λm2 e w=>∃(x:Nat)(J:Option Addr)(Z:Nat),x+m2=gw/\SL e [(0,pt p),(4,ii gw),(6,pt O),(7,ii y),(10,.slice J (x+1) Z),(11,ii (tI V (y*gw) x)),(29,ii gh),(30,ii y),(46,.slice ad gw al),(47,ii gw),(48,ii x)] /\
   St No W w [.row 2 1 J (x+1) Z (fj (x+1) (lf V gw (y+1))),.row 2 1 ad gw al (fj gw λx=>V.getD (y*gw+x) 0),.rfam 2 (y+1) As cs (gw+1) (λy=>fj (gw+1) (lf V gw y)),.blk O 344 [ii gw,ii gh,.slice D (y+1) I],.row 29 1 D (y+1) I (Hn (y+1) As (gw+1) cs)]) gw
   ⟨0,J,gw+1,om,sl,S⟩ ?_
  clear S ao ap;rintro m2 aS w2 ⟨x,J,Z,ba,ar,S⟩;rw[ar.fold];by_cases hx:x<gw
  ·have aA:=jg (o:=λx=>V.getD (y*gw+x) 0) hx;have aC:=jg (o:=lf V gw y) (show x+1<gw+1 by omega);have ex:(x:Int)+1=((x+1:Nat):Int):=by push_cast;rfl
   have aX:=Dx hB (y*gw) x;have aY:=va hB gw (x:=x+1) om y;have aZ:=hB (y*gw+x);have ai:tI V (y*gw) x+V.getD (y*gw+x) 0+lf V gw y (x+1)=lf V gw (y+1) (x+1):=rfl;have aD:tI V (y*gw) x+V.getD (y*gw+x) 0=tI V (y*gw) (x+1):=rfl;generalize lf V gw y (x+1)=pv at *;generalize tI V (y*gw) x=rv at *;generalize V.getD (y*gw+x) 0=vv at *;refine zt ?_;refine z ?_;refine zx ?_;refine dH (eI iY rfl rfl (S.rd (i:=1) rfl) aA) ?_;(iterate 4 refine z ?_);refine zr ?_;(iterate 8 refine z ?_);refine zx ?_;refine dH (eI fZ rfl rfl (S.rd (i:=4) rfl) aB) ?_;refine z ?_;refine zr ?_;rw[ex];refine zx ?_;refine dH (eI iY rfl rfl ((S.rrd (i:=2) rfl aj)) aC) ?_;refine zr ?_;refine yb S ?_;intro ae aN aJ S ac;refine ZP 1 0 S ?_;intro ag ah aO S ak;refine dU (jx rfl) ?_;first|refine eF ?_|(refine di ?_;show CW _ _ _ _ _ _)|refine di ?_
   repeat refine dm ?_
   refine dz ?_;refine dU (fh rfl om) ?_;refine dU (jx rfl) ?_;first|refine eF ?_|(refine di ?_;show CW _ _ _ _ _ _)|refine di ?_
   have S:=S.drop 1;rw[Ja ai]at S;exact⟨m2-1,om,x+1,ag,ah,om,⟨rfl,rfl,rfl,rfl,rfl,ie aD,rfl,rfl,rfl,rfl,ie om,trivial⟩,S⟩
  ·obtain rfl:x=gw:=om;refine zg ?_;refine yb S ?_;intro ae aP aK S ac;refine ZP 5 0 S ?_;intro aa ab aQ S U;refine zS ?_;intro aR S;have S:=S.sub (.cons _ (.cons_cons _ (.cons _ (.cons_cons _ (.cons_cons _ (.cons_cons _ (.slnil)))))));have S:=S.rfamPush rfl;rw[HK]at S;exact⟨m-1,om,y+1,_,_,aa,ab,om,sl,S⟩
 ·obtain rfl:y=gh:=om;refine zX ?_;exact⟨_,_,_,_,_,rfl,S⟩
end
end Go.Proofs.YtcalhocphkbbgaaGreatDoor
