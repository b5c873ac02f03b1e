/- A part of the proof that hachuretop.WholeCharts and hachuretop.WholeWater returns true at every input; no condition. -/
import Derived.Test.YtcalhocphkbbgaaGreatDoorKG
set_option maxRecDepth 100000
set_option maxHeartbeats 16000000
set_option linter.unusedVariables false
set_option linter.unusedSimpArgs false
namespace Go.Proofs.YtcalhocphkbbgaaGreatDoor
open Go.Proofs.Tryz Go.RowKit
variable{f:FuncId}{h h':HA}{a ax ay bx:Int}{σ:List (Nat × Value)}{M T:List HA}{hd:List Nat}{l xs τ:List Value}{N b b' c cy g gh gw i j k m n p sh sw x0 x1 y0 y1:Nat}{cc:Nat->Int}{bs:Nat->Nat}{R':Nat->Nat->Bool}{Rs:Nat->Option Nat}{F:Nat->Prop}{e:Nat->Value}{hi x:Operand}{A B:Option Addr}{t:TypeId}{u:Value}{R:Value->World->Prop}{W w w' wq:World}{C:World->Prop}
structure KM(w:World)(gw:Nat)(gh:Nat)(c:Nat->Int)(k:Nat)(bs:Nat->Nat)(Rs:Nat->Option Nat):Prop where
 slab:∀t,t<k->kE w (bs t) (Rs t) (fQ gw (t%cU gw)) (fQ gh (t/cU gw)) (u5 gw c t)
 inj:∀t u,t<k->u<k->bs t=bs u->t=u
 injR:∀t u g,t<k->u<k->Rs t=some g->Rs u=some g->t=u
def HA.slbs(gw gh:Nat)(c:Nat->Int)(k:Nat)(bs:Nat->Nat)(Rs:Nat->Option Nat):HA :=
 ⟨λg=>∃t,t<k/\(g=bs t\/Rs t=some g),λw=>KM w gw gh c k bs Rs,λ_ _ h _ hS=>⟨λt ht=>(hS.slab t ht).keep (λg hg=>h g ⟨t,ht,hg⟩),hS.inj,hS.injR⟩,λ_ hS g⟨t,ht,hg⟩=>(hS.slab t ht).lt hg⟩
def HA.slb(b:Nat)(R:Option Nat)(sw sh:Nat)(c:Nat->Int):HA :=
 ⟨λg=>g=b\/R=some g,λw=>kE w b R sw sh c,λ_ _ h _ hS=>hS.keep (λg hg=>h g hg),λ_ hS g hg=>hS.lt hg⟩
section
variable{L:List HA}{c:Nat->Int}{R:Option Nat}
theorem St.slbs0(S:St F W w L)(gw gh:Nat)(c:Nat->Int)(bs:Nat->Nat)(Rs:Nat->Option Nat):St F W w (.slbs gw gh c 0 bs Rs::L) :=
 S.push (Gr.refl w) (h:=.slbs gw gh c 0 bs Rs) ⟨λt v=>by omega,λt u v=>by omega,λt u g v=>by omega⟩ (λg⟨t,v,_⟩=>by omega)
theorem St.slbsPush(S:St F W w (.slb b R (fQ gw (k%cU gw)) (fQ gh (k/cU gw)) (u5 gw c k)::.slbs gw gh c k bs Rs::L)):St F W w (.slbs gw gh c (k+1) (nX bs k b) (nX Rs k R)::L):=by
 have h1:=S.sep.1;have U:=S.sep.2.1;have h2:=S.sep.2.2.1;have V:=S.sep.2.2.2;have z:∀g,(g=b\/R=some g)->∀t,t<k->¬(g=bs t\/Rs t=some g):=λg v t I h=>U g v (.slbs gw gh c k bs Rs) eB ⟨t,I,h⟩;refine⟨S.fr,⟨⟨λt I=>?_,λt u I Z e=>?_,λt u g I Z D y=>?_⟩,λg⟨t,I,v⟩=>?_⟩,λg⟨t,I,v⟩h hh=>?_,V.2⟩
 ·by_cases e:t=k
  ·subst e;rw[iU,iU];exact h1.1
  ·rw[gY om,gY om];exact h2.1.slab t om
 ·by_cases D:t=k
  ·by_cases y:u=k
   ·rw[D,y]
   ·subst D;rw[iU,gY om]at e;exact(z b (.inl rfl) u om (.inl e)).elim
  ·rw[gY om]at e;by_cases y:u=k
   ·subst y;rw[iU]at e;exact(z b (.inl rfl) t om (.inl e.symm)).elim
   ·rw[gY om]at e;exact h2.1.inj t u om om e
 ·by_cases O:t=k
  ·by_cases J:u=k
   ·rw[O,J]
   ·subst O;rw[iU]at D;rw[gY om]at y;exact(z g (.inr D) u om (.inr y)).elim
  ·rw[gY om]at D;by_cases J:u=k
   ·subst J;rw[iU]at y;exact(z g (.inr y) t om (.inr D)).elim
   ·rw[gY om]at y;exact h2.1.injR t u g om om D y
 ·by_cases e:t=k
  ·subst e;rw[iU,iU]at v;exact h1.2 g v
  ·rw[gY om,gY om]at v;exact h2.2 g ⟨t,om,v⟩
 ·by_cases e:t=k
  ·subst e;rw[iU,iU]at v;exact U g v h (cW _ hh)
  ·rw[gY om,gY om]at v;exact V.1 g ⟨t,om,v⟩ h hh
end
theorem KN(n:Nat)(c:Nat->Int):((km n c).all λv=>v.oneCell')=true:=dh.2 λv y=>by
 simp only[km,fC]at y;obtain⟨i,_,rfl⟩:=y;rfl
theorem St.two{L:List HA}{a b:HA}(S:St F W w (a::b::L))(ok:a.ok w->b.ok w->h.ok w)(own:∀g,h.own g->a.own g\/b.own g):St F W w (h::L):=by
 have h1:=S.sep.1;have D:=S.sep.2.1;have h2:=S.sep.2.2.1;have y:=S.sep.2.2.2;exact⟨S.fr,⟨ok h1.1 h2.1,λg v=>(own g v).elim (h1.2 g) (h2.2 g)⟩,λg v x z=>(own g v).elim (λe=>D g e x (cW _ z)) (λe=>y.1 g e x z),y.2⟩
theorem Ho(xs:List Value)(U:xs.length=n)(h0:0<n)(hm:n<=1048576)(h1:(xs.all λv=>v.oneCell')=true)(D:Rd W A xs):Fn prog 80 [.slice A n c] W (jc id 21 1 n xs W):=by
 have y:dO A:=D.someA om;obtain⟨ab,ao,rfl⟩:=y;have S:=St.start W;refine zI func80 ?_;refine zg ?_;refine dU (xF (B:=false) gB rfl rfl) ?_;refine zg ?_;refine mv gB je S ?_;intro I V O S z;refine zg ?_;refine fM (i:=0) S rfl (λh=>rfl) gB Qf rfl rfl rfl rfl (by rw[U,cG]) om (D.gr S.out) h1 om ?_;intro J L Z S z;refine zg ?_;rw[jL]at S;rw[eH]at S ⊢;exact ir rfl (S.retNew (i:=0) rfl)
theorem Hp(xs:List Value)(U:xs.length=n)(h0:0<n)(hm:n<=1048576)(h1:(xs.all λv=>v.oneCell')=true)(D:Rd W A xs):Fn prog 35 [.slice A n c] W (jc id 92 1 n xs W):=by
 have y:dO A:=D.someA om;obtain⟨ab,ao,rfl⟩:=y;have S:=St.start W;refine zI func35 ?_;refine zg ?_;refine dU (xF (B:=false) mf rfl rfl) ?_;refine zg ?_;refine mv mf G9 S ?_;intro I V O S z;refine zg ?_;refine fM (i:=0) S rfl (λh=>rfl) mf abr rfl rfl rfl rfl (by rw[U,cG]) om (D.gr S.out) h1 om ?_;intro J L Z S z;refine zg ?_;rw[jL]at S;rw[eH]at S ⊢;exact ir rfl (S.retNew (i:=0) rfl)
section
variable{R:Option Nat}{c:Nat->Int}
theorem TK(hs:1<=sw*sh/\sw*sh<=256)(hS:kE W b R sw sh c):Fn prog 36 [pt b] W (λv w'=>∃b' R',v=.pointer (some ⟨b',0,none⟩)/\St No W w' [.slb b' R' sw sh c]):=by
 obtain⟨hb,hm⟩:=hS;cases R with
 |none =>
  obtain⟨x,I,hx,hc⟩:=hm;have S:=St.start W;refine zI func36 ?_;iterate 5 refine z ?_
  refine dH (fx mN rfl (M2 _) rfl (I.gr S.out) rfl rfl) ?_;refine zN ?_;intro y ab V S;refine Z1 0 S ?_;intro ac S;iterate 3 refine z ?_
  refine dH (cV k5 rfl rfl (I.gr S.out) rfl) ?_;refine dU (xg gB rfl rfl rfl JV) ?_;refine zg ?_;refine ir rfl ⟨y,none,rfl,S.as_ (i:=0) (h':=.slb y none sw sh c) rfl rfl (λh=>⟨hb,x,h,hx,hc⟩) (λg hg=>hg.elim id (λe=>by cases e))⟩
 |some g =>
  obtain⟨cap,I,hR⟩:=hm;have S:=St.start W;refine zI func36 ?_;iterate 5 refine z ?_
  refine dH (fx mN rfl (M2 _) rfl (I.gr S.out) rfl rfl) ?_;refine zN ?_;intro y ab V S;refine Z1 0 S ?_;intro ac S;iterate 3 refine z ?_
  refine dH (cV k5 rfl rfl (I.gr S.out) rfl) ?_;refine dU (x4 gB rfl rfl) ?_;refine zK (Ho (km (sw*sh) c) (rM _ _) hs.1 om (KN _ _) (hR.rd.gr S.out)) ?_;rintro _ ad ⟨O,U,rfl,J,L,Z⟩;have S:=S.pushRow J L Z;refine dU (jn gB rfl rfl) ?_;refine zS ?_;intro ae S
  obtain⟨D,aa⟩:∃D,O=some ⟨D,0,none⟩:=by
   rcases (S.row (i:=0) rfl).form with⟨_,h0,_⟩|⟨D,l,h,_⟩
   ·omega
   ·exact⟨D,h⟩
  subst aa;exact ir rfl ⟨y,some D,rfl,S.two (h:=.slb y (some D) sw sh c) (λh1 h2=>⟨hb,U,h2,h1⟩) (λg hg=>hg.elim .inr (λe=>.inl (by rw[Option.some.inj e];rfl)))⟩
end
section
variable{cap:Nat}
def vf(n k:Nat)(bs bs':Nat->Nat):List Value:=(List.range n).map λt=>.pointer (some ⟨if t<k then bs' t else bs t,0,none⟩)
theorem M7(n k:Nat)(bs v:Nat->Nat):(vf n k bs v).length=n:=by simp[vf]
theorem KO(n:Nat)(bs v:Nat->Nat):vU n bs=vf n 0 bs v:=by simp[vf,vU]
theorem M8(n:Nat)(bs v:Nat->Nat):vf n n bs v=vU n v:=by
 unfold vf vU;exact eQ λt y=>by rw[a7 (dJ.1 y)]
theorem M9{t:Nat}{v:Nat->Nat}(h:t<n)(y:k<=t):(vf n k bs v)[(t:Int).toNat * 1]?=some (.pointer (some ⟨bs t,0,none⟩)):=by
 rw[cG,b7];simp[vf,h];omega
theorem Na{v:Nat->Nat}:(vf n k bs v).set ((k:Int).toNat * 1) (pt b)=vf n (k+1) bs (nX v k b):=by
 rw[cG,b7];apply gG;intro i;rw[gl];unfold vf;by_cases e:k=i
 ·subst e;rw[a7 rfl];simp only[eP,gk,da];split
  ·rename_i h;rw[eu h];simp[nX]
  ·rename_i h;rw[dZ (by simp;omega)];rfl
 ·rw[a8 e];simp only[da];by_cases h:i<n
  ·rw[eu h];simp only[ku,Option.some.injEq,Value.pointer.injEq,Addr.mk.injEq,and_true];by_cases h2:i<k
   ·rw[a7 h2,a7 om,gY h2]
   ·rw[a8 h2,a8 om]
  ·rw[dZ (by simp;omega)];rfl
theorem QX(n:Nat)(bs:Nat->Nat):((vU n bs).all λv=>v.oneCell')=true:=dh.2 λv y=>by
 simp only[vU,fC]at y;obtain⟨i,_,rfl⟩:=y;rfl
def QY(F:Nat->Prop)(W:World)(L:List HA)(T:Value->HA->Prop)(wq:World):List Value->Prop
 |[]=>St F W wq L
 |v::_=>∃h,T v h/\St F W wq (h::L)
theorem QY.st{L:List HA}{T:Value->HA->Prop}:∀{τ:List Value},QY F W L T wq τ->St F W wq L
 |[],h=>h
 |v::_,⟨_,_,S⟩=>S.drop 1
theorem FX(hG:eJ W p gw gh cc A cap bs Rs):Fn prog 23 [pt p] W (qw id gw gh cc W):=by
 have hw:=hG.sw;have hh:=hG.sh;have hN:cU gw*cU gh<=64*64:=fy (jS hw.2) (jS hh.2);have ad:0<cU gw*cU gh:=j5 (kQ hw.1) (kQ hh.1);have hT:=hG.top;have hR:=hG.row;generalize D:cU gw*cU gh=N at *;have S:=St.start W;refine zI func23 ?_;iterate 5 refine z ?_
 refine dH (fx np rfl (sizeOf90 _) rfl (hT.gr S.out) rfl rfl) ?_;refine zN ?_;intro U an ak S;refine Z1 0 S ?_;intro ao S;iterate 3 refine z ?_
 refine dH (cV mf rfl rfl (hT.gr S.out) rfl) ?_;refine zK (Hp (vU N bs) (Ql _ _) ad om (QX _ _) (hR.rd.gr S.out)) ?_;rintro _ ap ⟨I,L,rfl,aa,ab,ac⟩;have S:=S.pushRow aa ab ac;refine zS ?_;intro aq S;rw[KO N bs (λ_=>0)]at S;have S:=S.slbs0 gw gh cc (λ_=>0) (λ_=>none)
 refine dl (λm e w=>∃(k:Nat)(y:Nat->Nat)(J:Nat->Option Nat),k+m=N/\SL e [(3,pt U),(18,.slice I N L),(19,ii N),(20,ii k)] /\
  St No W w [.slbs gw gh cc k y J,.row 92 1 I N L (vf N k bs y),.blk U 90 [ii gw,ii gh,ii (cU gw),.slice I N L]]) N
  ⟨0,λ_=>0,λ_=>none,om,sl,S⟩ ?_
 clear S;rintro m e w ⟨k,y,J,hk,ai,S⟩;rw[ai.fold];by_cases Z:k<N
 ·have aj:dO I:=(S.row (i:=1) rfl).someA om;have O:=hG.slab k (by rw[D];exact Z);have al:=mA (n:=gw) (k:=k%cU gw) (dt _ (kQ hw.1));have am:=mA (n:=gh) (k:=k/cU gw) (cS (by rw[D];exact Z));have ah:=λw(g:Gr W w)=>TK ⟨fy (show 1<=_ by omega) (show 1<=_ by omega),fy (show _<=16 by omega) (show _<=16 by omega)⟩ (O.gr g);refine zt ?_;refine z ?_;refine zx ?_;refine dH (eI JX rfl rfl (S.rd (i:=1) rfl) (M9 Z (fK k))) ?_;refine zH (C:=(λσ wq=>QY No W [.slbs gw gh cc k y J,.row 92 1 I N L (vf N k bs y),.blk U 90 [ii gw,ii gh,ii (cU gw),.slice I N L]] (λv h=>∃b' R',v=.pointer (some ⟨b',0,none⟩)/\h=.slb b' R' (fQ gw (k%cU gw)) (fQ gh (k/cU gw)) (u5 gw cc k)) wq σ)) [4] [0,1,2,3,4,5] [6] (S.gr (Gr.drew _)) ?_;refine zV (λτ wq hq=>((QY.st hq).blk (i:=2) rfl)) ?_;refine zR ?_;refine de rfl rfl (λwq hq=>l4 rfl ((ah wq (St.out (QY.st hq))).mono (λv w'⟨b',R',hv,S2⟩=>⟨_,⟨b',R',hv,rfl⟩,St.app (QY.st hq) S2⟩))) ?_;rintro v4 w4 ⟨h4,⟨b4,R4,rfl,_⟩,_⟩;refine zY ?_;rintro w8 ⟨h8,⟨b',R',e8,rfl⟩,S⟩;cases e8
  refine jk (i:=2) S rfl (G9 _) rfl rfl rfl rfl (by rw[M7];omega) rfl ?_;intro w9 S;refine zg ?_;rw[Na]at S;exact⟨m-1,om,k+1,nX y k b4,nX J k R',om,sl,S.slbsPush⟩
 ·obtain rfl:k=N:=om;refine zg ?_;rw[M8]at S;have O:KM w gw gh cc k y J:=S.ok (i:=0) rfl;have ag:=S.blk (i:=2) rfl;have ae:=S.row (i:=1) rfl;refine ir rfl ⟨U,I,L,y,J,rfl,⟨hw,hh,by rw[D];exact ag,by rw[D];exact ae,by rw[D];exact O.slab,by rw[D];exact O.inj,by rw[D];exact O.injR⟩,λg V=>?_,S.out⟩;rw[D]at V;rcases V with V|V|⟨t,ht,V⟩
  ·exact((S.sep.get (i:=2) rfl).2 g V).elim (λh=>h.elim) id
  ·exact((S.sep.get (i:=1) rfl).2 g V).elim (λh=>h.elim) id
  ·exact((S.sep.get (i:=0) rfl).2 g ⟨t,ht,V⟩).elim (λh=>h.elim) id
end
def sO(n:Int):Int:=if n<0 then -n else n
def Cy(n:Int):Int:=if n<0 then -1 else 1
structure TX where
 n:Int
 m:Int
 ux:Int
 uy:Int
 vx:Int
 vy:Int
def jh(ax ay bx cy:Int):TX :=
 if sO (bx-ax)<sO (cy-ay)then⟨sO (cy-ay),sO (bx-ax),0,Cy (cy-ay),Cy (bx-ax),0⟩else⟨sO (bx-ax),sO (cy-ay),Cy (bx-ax),0,0,Cy (cy-ay)⟩
theorem xP(n:Int):(Cy n=1/\sO n=n/\0<=n)\/(Cy n=-1/\sO n=-n/\n<0):=by
 unfold Cy sO;by_cases h:n<0
 ·rw[a7 h,a7 h];exact .inr ⟨rfl,rfl,h⟩
 ·rw[a8 h,a8 h];exact .inl ⟨rfl,rfl,om⟩
theorem Js{cy:Int}(I:mD gw gh (ax,ay)=true)(J:mD gw gh (bx,cy)=true){r:TX}(z:jh ax ay bx cy=r):∃N M:Nat,r.n=N/\r.m=M/\M<=N/\(N<gw\/N<gh)/\(-1<=r.ux/\r.ux<=1/\-1<=r.uy/\r.uy<=1/\-1<=r.vx/\r.vx<=1/\-1<=r.vy/\r.vy<=1) /\
  ∀i j:Nat,i<=N->j<=M->mD gw gh (ax+i*r.ux+j*r.vx,ay+i*r.uy+j*r.vy)=true:=by
 rw[jT]at I J;dsimp only at I J;have h1:=xP (bx-ax);have h2:=xP (cy-ay);unfold jh at z;split at z
 ·subst z;refine⟨(sO (cy-ay)).toNat,(sO (bx-ax)).toNat,by dsimp only;omega,by dsimp only;omega,om,om,by dsimp only;omega,λi j hi D=>?_⟩;rw[jT];dsimp only;rcases h1 with⟨v,h1,_⟩|⟨v,h1,_⟩<;>rcases h2 with⟨y,h2,_⟩|⟨y,h2,_⟩<;>rw[v,y]<;>rw[h1]at D<;>rw[h2]at hi<;>omega
 ·subst z;refine⟨(sO (bx-ax)).toNat,(sO (cy-ay)).toNat,by dsimp only;omega,by dsimp only;omega,om,om,by dsimp only;omega,λi j hi D=>?_⟩;rw[jT];dsimp only;rcases h1 with⟨v,h1,_⟩|⟨v,h1,_⟩<;>rcases h2 with⟨y,h2,_⟩|⟨y,h2,_⟩<;>rw[v,y]<;>rw[h1]at hi<;>rw[h2]at D<;>omega
theorem wr(l:List (Int×Int))(x y:Int):eT l++[ii x,ii y]=eT (l++[(x,y)]):=by simp[eT]
theorem Cz(n:Int)(h:-2000<=n/\n<=2000):Fn prog 294 [ii n] W (dp (.tuple #[ii (Cy n),ii (sO n)]) W):=by
 have y:=xP n;have S:=St.start W;refine zI func294 ?_;by_cases v:n<0
 ·skip;refine zX ?_;exact⟨by rw[(om:Cy n=-1),(om:sO n=0-n)],S.out⟩
 ·skip;refine zX ?_;exact⟨by rw[(om:Cy n=1),(om:sO n=n)],S.out⟩
theorem PC(x y:Int)(I:0<=x/\x<1024)(J:0<=y/\y<1024):Fn prog 293 [.agg #[ii x,ii y]] W (dp (.bool true) W):=by
 have S:=St.start W;refine zI func293 ?_;refine zN ?_;intro v D z S;exact zZ
theorem KW(ax ay bx cy:Int)(hx:0<=ax/\ax<1024)(hy:0<=ay/\ay<1024)(hu:0<=bx/\bx<1024)(hv:0<=cy/\cy<1024) :
  Fn prog 255 [.agg #[ii ax,ii ay],.agg #[ii bx,ii cy]] W (dp (.agg #[ii (jh ax ay bx cy).n,ii (jh ax ay bx cy).m,ii (jh ax ay bx cy).ux,ii (jh ax ay bx cy).uy,ii (jh ax ay bx cy).vx,ii (jh ax ay bx cy).vy]) W):=by
 have S:=St.start W;refine zI func255 ?_;by_cases h:sO (bx-ax)<sO (cy-ay)
 ·have e:jh ax ay bx cy=⟨sO (cy-ay),sO (bx-ax),0,Cy (cy-ay),Cy (bx-ax),0⟩:=a7 h;refine zN ?_;intro v ag ab S;refine zN ?_;intro y ah ac S;refine zN ?_;intro z ai ad S;refine zC (Cz (bx-ax) om) ?_;intro aj ae S;refine zC (Cz (cy-ay) om) ?_;refine zS ?_;intro ak S;exact Tb kT rfl (sizeOf392 _) rfl (S.blk (i:=0) rfl) rfl rfl ⟨by rw[e],S.out⟩
 ·have e:jh ax ay bx cy=⟨sO (bx-ax),sO (cy-ay),Cy (bx-ax),0,0,Cy (cy-ay)⟩:=a8 h;refine zN ?_;intro v O D S;refine zN ?_;intro y U I S;refine zN ?_;intro z V J S;refine zC (Cz (bx-ax) om) ?_;intro Z L S;refine zC (Cz (cy-ay) om) ?_;refine zS ?_;intro aa S;exact Tb kT rfl (sizeOf392 _) rfl (S.blk (i:=0) rfl) rfl rfl ⟨by rw[e],S.out⟩
theorem Rh(ax ay bx cy:Int)(I:0<=ax/\ax<1024)(J:0<=ay/\ay<1024)(y:0<=bx/\bx<1024)(D:0<=cy/\cy<1024) :
  Fn prog 254 [.agg #[ii ax,ii ay],.agg #[ii bx,ii cy]] W (dp (.tuple #[ii (jh ax ay bx cy).n,ii 0]) W):=by
 have S:=St.start W;refine zI func254 ?_;refine zN ?_;intro L ab U S;refine zN ?_;intro O ac V S;refine zC (PC ax ay I J) ?_;intro ad Z S;iterate 3 refine z ?_
 refine dr rfl ?_;refine eY rfl (PC bx cy y D) ?_;rintro _ ae ⟨rfl,v⟩;have S:=S.gr v;refine zC (KW ax ay bx cy I J y D) ?_;intro ag aa S;refine dU (P6 kT rfl iY rfl rfl rfl) ?_;exact zZ
theorem Ge(x y v z:Int)(hx:-5000<=x/\x<=5000)(hy:-5000<=y/\y<=5000)(hs:-1<=v/\v<=1)(ht:-1<=z/\z<=1) :
  Fn prog 256 [.agg #[ii x,ii y],.agg #[ii v,ii z],ii 1] W (dp (.agg #[ii (x+v),ii (y+z)]) W):=by
 have S:=St.start W;refine zI func256 ?_;refine zN ?_;intro D V L S;refine zN ?_;intro I Z O S;refine zN ?_;intro J aa U S;refine zS ?_;intro ab S;exact Tb xa rfl (jy _) rfl (S.blk (i:=0) rfl) rfl rfl ⟨by rw[jG,jG],S.out⟩
theorem Gf(n:Int)(h:-1099511627776<=n/\n<=1099511627776):Fn prog 187 [ii n] W (dp (.bool true) W):=by
 have S:=St.start W;refine zI func187 ?_;exact zZ
def Be(x0 y0 x1 y1 x y:Int):Bool:=decide (x0<=x)&&(decide (x<=x1)&&(decide (y0<=y)&&decide (y<=y1)))
theorem Wb(x0 y0 x1 y1 x y:Int)(I:nb x0 y0 x1 y1=true) :
  Fn prog 258 [.agg #[ii x0,ii y0,ii x1,ii y1],.agg #[ii x,ii y]] W (dp (.bool (Be x0 y0 x1 y1 x y)) W):=by
 unfold Be;have v:=λw=>mz x0 y0 x1 y1 w;rw[I]at v;refine yI func258 ?_;by_cases h1:x0<=x
 ·by_cases h2:x<=x1
  ·by_cases z:y0<=y
   ·by_cases D:y<=y1
    ·skip;refine EO v ?_;intro _ _ _ S;refine zX ?_;exact⟨be (by simp[h1,h2,z,D]),S.out⟩
    ·skip;refine EO v ?_;intro _ _ _ S;refine zX ?_;exact⟨be (by simp[h1,h2,z,D]),S.out⟩
   ·skip;refine EO v ?_;intro _ _ _ S;refine zX ?_;exact⟨be (by simp[h1,h2,z]),S.out⟩
  ·skip;refine EO v ?_;intro _ _ _ S;refine zX ?_;exact⟨be (by simp[h1,h2]),S.out⟩
 ·skip;refine EO v ?_;intro _ _ _ S;refine zX ?_;exact⟨be (by simp[h1]),S.out⟩
def xU(N M i:Nat):Nat:=(2*(M*i)+N)/(2*N)
def rm(ax ay:Int)(r:TX)(i:Nat):Int×Int:=(ax+i*r.ux+xU r.n.toNat r.m.toNat i*r.vx,ay+i*r.uy+xU r.n.toNat r.m.toNat i*r.vy)
def vX(ax ay bx cy:Int):List (Int×Int):=(List.range ((jh ax ay bx cy).n.toNat+1)).map (rm ax ay (jh ax ay bx cy))
theorem UK{M rest:Nat}(h:rest+2*(N*j)=N+2*(M*i))(v:rest<2*N):xU N M i=j:=by
 unfold xU;rw[show 2*(M*i)+N=rest+2*N*j by rw[oc];omega,Nat.add_mul_div_left _ _ om,ee v,eH]
theorem Om(N M:Nat):xU N M 0=0:=by
 unfold xU;rcases iZ N with rfl|h
 ·simp
 ·exact ee om
theorem On(ax ay bx cy:Int)(hg:gw<=1024/\gh<=1024)(ha:mD gw gh (ax,ay)=true)(hb:mD gw gh (bx,cy)=true) :
  Fn prog 184 [.agg #[ii ax,ii ay],.agg #[ii bx,ii cy]] W (jc (λs=>.tuple #[s,ii 0]) 24 2 ((jh ax ay bx cy).n.toNat+1) (eT (vX ax ay bx cy)) W):=by
 have au:=jT.1 ha;have av:=jT.1 hb;dsimp only at au av;have ab:=λw=>Rh (W:=w) ax ay bx cy om om om om;have an:=λw=>KW (W:=w) ax ay bx cy om om om om;unfold vX;obtain⟨r,hr⟩:∃r,jh ax ay bx cy=r:=⟨_,rfl⟩;obtain⟨N,M,eN,eM,aX,hN,hd,am⟩:=Js ha hb hr;rw[hr]at ab an ⊢;have ae:∀i:Nat,rm ax ay r i=(ax+i*r.ux+xU N M i*r.vx,ay+i*r.uy+xU N M i*r.vy):=λi=>by unfold rm;rw[eN,eM,b7,b7]
 obtain⟨f,hf⟩:∃f,rm ax ay r=f:=⟨_,rfl⟩;rw[hf]at ae ⊢;obtain⟨n,m,L,O,V,Z⟩:=r;dsimp only at *;subst eN eM;rw[b7];have aA:f 0=(ax,ay):=by rw[ae,Om];simp
 have S:=St.start W;refine zI func184 ?_;refine zN ?_;intro ah bc aS S;refine zN ?_;intro ap be aT S;refine zC (ab _) ?_;intro bf aU S;refine zC (an _) ?_;intro bg aV S;refine zN ?_;intro aa bh aW S;refine Z1 0 S ?_;intro bi S;refine z ?_;refine yb S ?_;intro v aI aE S D;refine dU (jx rfl) ?_;first|refine eF ?_|(refine di ?_;show CW _ _ _ _ _ _)|refine di ?_
 repeat refine dm ?_
 refine dz ?_;iterate 2 refine dU (jx rfl) ?_
 first|refine eF ?_|(refine di ?_;show CW _ _ _ _ _ _)|refine di ?_
 repeat refine dm ?_
 refine dz ?_;iterate 2 refine dU (jx rfl) ?_
 first|refine eF ?_|(refine di ?_;show CW _ _ _ _ _ _)|refine di ?_
 repeat refine dm ?_
 refine k0 ?_;repeat refine dm ?_
 refine dl (λm e w=>∃(i j rest:Nat)(v:Option Addr)(y:Nat),i+m=N/\j<=M/\rest+2*(N*j)=N+2*(M*i)/\(rest<2*N\/N=0) /\
   SL e [(2,pt ah),(6,ii N),(8,pt aa),(9,.slice v (i+1) y),(10,ii rest),(26,ii N),(27,ii i)] /\
   St No W w [.row 24 2 v (i+1) y (eT ((List.range (i+1)).map f)),.blk aa 392 [ii N,ii M,ii L,ii O,ii V,ii Z],.blk ap 24 [ii bx,ii cy],.blk ah 24 [ii (ax+i*L+j*V),ii (ay+i*O+j*Z)]]) N
  ⟨0,0,N,v,1,om,om,om,om,sl,by simpa [eT,aA]using S⟩ ?_
 clear S;rintro m e w ⟨i,j,rest,v,y,hi,hj,ag,ba,aD,S⟩;rw[aD.fold];by_cases al:i<N
 ·have aC:M*(i+1)<=M*N:=eZ _ al;rw[nk]at aC;have aw:=jT.1 (am i j om hj);have az:=jT.1 (am (i+1) j al hj);dsimp only at aw az;have aZ:M*(i+1)=M*i+M:=nk M i;have aY:N*(j+1)=N*j+N:=nk N j
  have bb:rest<=4096*1024:=by
   have h1:M*i<=1024*1024:=fy om om;omega
  have ex:ax+(i:Int)*L+j*V+L=ax+((i+1:Nat):Int)*L+j*V:=by rw[Int.natCast_add,j6];omega
  have ey:ay+(i:Int)*O+j*Z+O=ay+((i+1:Nat):Int)*O+j*Z:=by rw[Int.natCast_add,j6];omega
  have ac:∀(j' r':Nat),r'+2*(N*j')=N+2*(M*(i+1))->r'<2*N->eT ((List.range (i+1)).map f)++[ii (ax+((i+1:Nat):Int)*L+j'*V),ii (ay+((i+1:Nat):Int)*O+j'*Z)]=eT ((List.range (i+1+1)).map f):=λj' r' h1 h2=>by
   rw[wr,eG (n:=i+1),fq,i7,ae (i+1),UK h1 h2]
  by_cases aH:2*N<=rest+2*M
  ·have aB:j+1<=M:=by
    rcases eV j M with h|h
    ·exact h
    ·exfalso;have e:j=M:=om;subst e;rw[cD N j]at ag;omega
   have aq:ax+((i+1:Nat):Int)*L+j*V+V=ax+((i+1:Nat):Int)*L+((j+1:Nat):Int)*V:=by rw[show((j+1:Nat):Int)=(j:Int)+1 from rfl,j6 (j:Int)];omega
   have ar:ay+((i+1:Nat):Int)*O+j*Z+Z=ay+((i+1:Nat):Int)*O+((j+1:Nat):Int)*Z:=by rw[show((j+1:Nat):Int)=(j:Int)+1 from rfl,j6 (j:Int)];omega
   have er:(rest:Int)+2*(M:Int)-2*(N:Int)=((rest+2*M-2*N:Nat):Int):=om;refine zt ?_;iterate 3 refine z ?_
   refine eY rfl (Ge (W:=w) _ _ L O om om om om) ?_;rintro _ aJ ⟨rfl,ai⟩;have S:=S.gr ai;rw[ex,ey];refine Z1 3 S ?_;intro ao S;(iterate 3 refine z ?_);(iterate 2 refine zr ?_);(iterate 3 refine z ?_);refine zr ?_;refine zt ?_;refine z ?_;refine z ?_;iterate 2 refine zr ?_
   rw[er];refine dU (jx rfl) ?_;first|refine eF ?_|(refine di ?_;show CW _ _ _ _ _ _)|refine di ?_
   repeat refine dm ?_
   refine dz ?_;refine dH (fx xa rfl (jy _) rfl (S.blk (i:=3) rfl) rfl rfl) ?_;refine dU (du kT rfl jy rfl rfl) ?_;refine dH (fx xa rfl (jy _) rfl (S.blk (i:=1) rfl) rfl rfl) ?_;refine eY rfl (Ge (W:=ao) _ _ V Z om om om om) ?_;rintro _ aK ⟨rfl,aj⟩;have S:=S.gr aj;rw[aq,ar];refine zS ?_;intro aL S;refine yb S ?_;intro ad aM aF S U;refine ZP 1 0 S ?_;intro I J aN S D;refine zg ?_;have S:=S.drop 1;rw[ac (j+1) (rest+2*M-2*N) om om]at S;exact⟨m-1,om,i+1,j+1,rest+2*M-2*N,I,J,om,aB,om,om,sl,S⟩
  ·have er:(rest:Int)+2*(M:Int)=((rest+2*M:Nat):Int):=om;refine zt ?_;iterate 3 refine z ?_
   refine eY rfl (Ge (W:=w) _ _ L O om om om om) ?_;rintro _ aO ⟨rfl,ak⟩;have S:=S.gr ak;rw[ex,ey];refine zS ?_;intro aP S;rw[er];refine zg ?_;refine yb S ?_;intro ad aQ aG S U;refine ZP 1 0 S ?_;intro I J aR S D;refine zg ?_;have S:=S.drop 1;rw[ac j (rest+2*M) om om]at S;exact⟨m-1,om,i+1,j,rest+2*M,I,J,om,hj,om,om,sl,S⟩
 ·obtain rfl:i=N:=om;refine zX ?_;exact(S.retNew (i:=0) (mk:=λs=>.tuple #[s,ii 0]) rfl)
theorem UL(z a b i n:Int)(hz:-17179869184<=z/\z<=17179869184)(U:-17179869184<=a/\a<=17179869184)(V:-17179869184<=b/\b<=17179869184)(Z:1<=n/\n<=1024)(hi:0<=i/\i<=n):Fn prog 115 [ii z,ii a,ii b,ii i,ii n] W (dp (.tuple #[.bool (decide ((z-a)*n>(b-a)*i)),ii 0]) W):=by
 have h1:-35184372088832<=(z-a)*n/\(z-a)*n<=35184372088832:=by
  have h2:=fu (show z-a<=34359738368 by omega) (show 0<=n by omega);have I:=fu (show -34359738368<=z-a by omega) (show 0<=n by omega);omega
 have h2:-35184372088832<=(b-a)*i/\(b-a)*i<=35184372088832:=by
  have h2:=fu (show b-a<=34359738368 by omega) (show 0<=i by omega);have I:=fu (show -34359738368<=b-a by omega) (show 0<=i by omega);omega
 have S:=St.start W;refine zI func115 ?_;refine zC (Gf z om) ?_;intro J D S;iterate 2 refine dU (jx rfl) ?_
 first|refine eD rfl ?_|(refine dr rfl ?_;refine dU (jx rfl) ?_)
 refine dr rfl ?_;refine eY rfl (Gf a om) ?_;rintro _ L ⟨rfl,v⟩;have S:=S.gr v;first|refine eD rfl ?_|(refine dr rfl ?_;refine dU (jx rfl) ?_)
 iterate 2 refine dU (jx rfl) ?_
 first|refine eD rfl ?_|(refine dr rfl ?_;refine dU (jx rfl) ?_)
 refine dr rfl ?_;refine eY rfl (Gf b om) ?_;rintro _ O ⟨rfl,y⟩;have S:=S.gr y;exact zZ
end Go.Proofs.YtcalhocphkbbgaaGreatDoor
