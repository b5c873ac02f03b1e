/- A part of the proof that hachuretop.WholeCharts and hachuretop.WholeWater returns true at every input; no condition. -/
import Derived.Test.YtcalhocphkbbgaaGreatDoorKP
import Derived.Test.YtcalhocphkbbgaaGreatDoorKN
import Derived.Test.YtcalhocphkbbgaaGreatDoorKR
set_option maxRecDepth 100000
set_option maxHeartbeats 16000000
set_option linter.unusedVariables false
set_option linter.unusedSimpArgs false
namespace Go.Proofs.YtcalhocphkbbgaaGreatDoor
open Go.Proofs.Tryz Go.RowKit
variable{Q:(Nat->Value)->World->Prop}{want:Array (String × TypeId)}{af:Array Edge}{tys:Array TypeId}{bd:Code}{fd:Field}{f:FuncId}{h h':HA}{a ax ay bx:Int}{σ:List (Nat × Value)}{L' L0 M T tl:List HA}{hd:List Nat}{args:List Operand}{l l' l2 vs:List Value}{b by_ c c1 c2 cb cx cy el g gh gw i j k k1 k2 kb lc m n n' p q sb tb x0 x1 y0 y1:Nat}{sp:Nat->Bool}{cc:Nat->Int}{bs o':Nat->Nat}{R':Nat->Nat->Bool}{Rs:Nat->Option Nat}{F X:Nat->Prop}{e:Nat->Value}{o:m5}{hi x:Operand}{A A1 A2 B B1 B2:Option Addr}{d:Option Tmp}{P:Program}{G:Prop}{r:Rc}{s:lT}{name:String}{α:Type}{dd:TypeDesc}{t ty:TypeId}{rv u:Value}{W W0 w w' wq:World}{C:World->Prop}
def GH(a b c d:Int):Bool:=decide (b<d)||(decide (b=d)&&decide (a<c))
def JM(gw:Nat)(V:List Int)(r:Rc)(want:RG->Bool)(bx by_:Nat)(B:Bool):Prop :=
 (B=true->r.has bx by_/\want ⟨V.getD (by_*gw+bx) 0,V.getD (by_*gw+bx) 0⟩=true)/\∀x y,r.has x y->want ⟨V.getD (y*gw+x) 0,V.getD (y*gw+x) 0⟩=true->B=true/\(by_<y\/(by_=y/\bx<=x))
structure FI(gw gh:Nat)(V:List Int)(r:Rc)(want:RG->Bool)(l:List Nd)(bx by_:Nat)(B:Bool):Prop where
 st:∀n∈l,n.ok gw gh/\(n.span gw gh).both r=true
 good:B=true->r.has bx by_/\want ⟨V.getD (by_*gw+bx) 0,V.getD (by_*gw+bx) 0⟩=true
 cov:∀x y,r.has x y->want ⟨V.getD (y*gw+x) 0,V.getD (y*gw+x) 0⟩=true->(B=true/\(by_<y\/(by_=y/\bx<=x)))\/∃n∈l,(n.span gw gh).has x y
def W9(want:RG->Bool):Prop:=∀v z,v.lo<=z->z<=v.hi->want ⟨z,z⟩=true->want v=true
section
variable{V:List Int}{want:RG->Bool}{l l':List Nd}{bx:Nat}{B:Bool}{n:Nd}
theorem FI.skip(h:FI gw gh V r want (l++[n]) bx by_ B)(O:∀x y,r.has x y->(n.span gw gh).has x y->want ⟨V.getD (y*gw+x) 0,V.getD (y*gw+x) 0⟩=true->B=true/\(by_<y\/(by_=y/\bx<=x))):FI gw gh V r want l bx by_ B:=by
 refine⟨λm z=>h.st m (f6 _ z),h.good,λx y I J=>?_⟩;rcases h.cov x y I J with L|⟨m,z,D⟩
 ·exact .inl L
 ·rcases ez.1 z with v|v
  ·exact .inr ⟨m,v,D⟩
  ·obtain rfl:=dM.1 v;exact .inl (O x y I D J)
theorem FI.skip1(h:FI gw gh V r want (l++[n]) bx by_ B)(I:r.ok gw gh)(D:W9 want)(v:want (n.rg gw gh V)=false):FI gw gh V r want l bx by_ B:=h.skip λx y z J L=>by
 have:=I.cell z;have:=Nd.rg_all (V:=V) this.1 this.2 J;rw[D _ _ this.1 this.2 L]at v;cases v
theorem Rc.meet_le{a b:Rc}{x y:Nat}(h1:a.has x y)(h2:b.has x y):(a.meet b).x0<=x/\(a.meet b).y0<=y:=by
 unfold Rc.has at *;unfold Rc.meet;dsimp only;omega
theorem FI.skip2(h:FI gw gh V r want (l++[n]) bx by_ B)(z:B=true)(v:GH ((n.span gw gh).meet r).x0 ((n.span gw gh).meet r).y0 bx by_=false):FI gw gh V r want l bx by_ B:=h.skip λx y D I J=>⟨z,by
 have:=Rc.meet_le I D;generalize (n.span gw gh).meet r=m at *;unfold GH at v;rw[Bool.or_eq_false_iff,il,d9,d9,d9]at v;omega⟩
theorem FI.kids(h:FI gw gh V r want (l++[n]) bx by_ B)(z:n.k≠0)(O:r.ok gw gh)(Z:1<=gw)(U:1<=gh)(h1:∀n'∈l',n'∈l\/(Gv gw gh n n'/\(n'.span gw gh).both r=true))(h2:∀n'∈l,n'∈l')(S:∀n',Gv gw gh n n'->(n'.span gw gh).both r=true->n'∈l'):FI gw gh V r want l' bx by_ B:=by
 obtain⟨k,x,y⟩:=n;obtain⟨k,rfl⟩:∃j,k=j+1:=⟨k-1,by dsimp only at z;omega⟩;refine⟨λm L=>?_,h.good,λcx cy J hx=>?_⟩
 ·rcases h1 m L with v|⟨v,D⟩
  ·exact h.st m (f6 _ v)
  ·exact⟨v.2.2.2,D⟩
 ·rcases h.cov cx cy J hx with v|⟨m,L,v⟩
  ·exact .inl v
  ·rcases ez.1 L with D|D
   ·exact .inr ⟨m,h2 m D,v⟩
   ·obtain rfl:=dM.1 D;have I:=O.cell J;have z:=PQ (h.st _ (by simp)).1 I.1 I.2 v;exact .inr ⟨_,S _ z.1 ((Rc.both_iff (Nd.span_ok Z U z.1.2.2.2) O).2 ⟨cx,cy,z.2,J⟩),z.2⟩
theorem Nd.span_zero{x y:Nat}(h:Nd.ok ⟨0,x,y⟩ gw gh):Nd.span gw gh ⟨0,x,y⟩=⟨x,y,x,y⟩:=by
 obtain⟨_,h1,h2⟩:=h;dsimp only at h1 h2;unfold dG at h1 h2;rw[kX,ig]at h1 h2;show Rc.mk (x*2^0) (y*2^0) (min ((x+1)*2^0) gw-1) (min ((y+1)*2^0) gh-1)=_;rw[kX,cG,cG,cG,cG,(om:min (x+1) gw-1=x),(om:min (y+1) gh-1=y)]
theorem FI.hit(h:FI gw gh V r want (l++[n]) bx by_ B)(hr:r.ok gw gh)(Z:n.k=0)(hw:want (n.rg gw gh V)=true)(v:B=false\/GH ((n.span gw gh).meet r).x0 ((n.span gw gh).meet r).y0 bx by_=true):FI gw gh V r want l ((n.span gw gh).meet r).x0 ((n.span gw gh).meet r).y0 true:=by
 have O:=h.st n (by simp);obtain⟨k,x,y⟩:=n;dsimp only at Z;subst Z;have S:=Nd.span_zero O.1;have z:=O.2;rw[S]at z v ⊢
 have D:(Rc.mk x y x y).meet r=⟨x,y,min x r.x1,min y r.y1⟩/\r.has x y:=by
  unfold Rc.both at z;rw[cT]at z;unfold Rc.meet Rc.has;dsimp only at z ⊢;exact⟨by rw[(om:max x r.x0=x),(om:max y r.y0=y)],om⟩
 rw[D.1]at v ⊢;dsimp only at v hw ⊢;refine⟨λm L=>h.st m (f6 _ L),λ_=>⟨D.2,hw⟩,λcx cy hc hx=>?_⟩;rcases h.cov cx cy hc hx with⟨U,I⟩|⟨m,L,I⟩
 ·refine .inl ⟨rfl,?_⟩;rcases v with v|v
  ·rw[v]at U;cases U
  ·unfold GH at v;simp only[ky,cM,cT]at v;omega
 ·rcases ez.1 L with J|J
  ·exact .inr ⟨m,J,I⟩
  ·obtain rfl:=dM.1 J;rw[Nd.span_zero O.1]at I;obtain⟨⟨a,b⟩,c,d⟩:=I;dsimp only at a b c d;exact .inl ⟨rfl,om⟩
theorem FI.done(h:FI gw gh V r want [] bx by_ B):JM gw V r want bx by_ B:=⟨h.good,λx y v D=>(h.cov x y v D).elim id λ⟨_,z,_⟩=>by cases z⟩
end
section
variable{yb t:Nat}{V:List Int}{lc:List Value}{want:RG->Bool}
theorem Oh(a b c d:Int):Fn prog 180 [.agg #[ii a,ii b],.agg #[ii c,ii d]] W (dp (.bool (GH a b c d)) W):=by
 unfold GH;have S:=St.start W;rcases Int.lt_trichotomy b d with h|h|h
 ·rw[fD h,Bool.true_or];refine zI func180 ?_;refine zN ?_;intro v I z S;refine zN ?_;intro y J D S;exact zZ
 ·subst h;rw[iO (Int.lt_irrefl b),tS,fD rfl,tR];by_cases h2:a<c
  all_goals
   refine zI func180 ?_;refine zN ?_;intro v I z S;refine zN ?_;intro y J D S;refine zX ?_;exact⟨by simp[h2],S.out⟩
 ·rw[iO (show ¬b<d by omega),tS,iO (show ¬b=d by omega),nz];refine zI func180 ?_;refine zN ?_;intro v I z S;refine zN ?_;intro y J D S;exact zZ
theorem FI.start(D:1<=gw/\gw<=1024)(v:1<=gh/\gh<=1024)(z:r.ok gw gh):FI gw gh V r want [Bg gw gh] 0 0 false :=
 ⟨(RI.start (V:=V) D v z).st,λh=>(by cases h),λx y I _=>.inr ⟨_,dM.2 rfl,by have:=z.cell I;exact AK D v this.1 this.2⟩⟩
theorem Ir(hw:1<=gw/\gw<=1024)(hh:1<=gh/\gh<=1024)(hr:r.ok gw gh)(al:∀(v:RG)w,eL w cb t lc->Fn prog f [.agg #[ii v.lo,ii v.hi],pt cb] w (dp (.bool (want v)) w))(aN:W9 want)(hP:iM W yb gw gh V)(hH:SH W gw gh sb yb r (.blk cb t lc::T) [Bg gw gh] w):Fn prog 103 [pt sb,.func (.func f) #[] #[pt cb]] w
   (λu w'=>∃(bx by_:Nat)(B:Bool),u=.tuple #[.agg #[ii bx,ii by_],.bool B]/\JM gw V r want bx by_ B/\St No W w' (.blk cb t lc::T)):=by
 have bv:=lI hw.2 hh.2;have aF:=fP (n:=5) om (show fW gw gh-1<=10 by omega);have ak:=FI.start (V:=V) (want:=want) hw hh hr;obtain⟨y,D,S⟩:=hH;refine zI func103 ?_;refine yA ?_;intro J I _ S;refine zK (AJ (l:=[Bg gw gh]) hw hh (λn hn=>(ak.st n hn).1) (by show 1<=1000000000;omega) hP ⟨y,D,S.pick 5 [2,3,0,1,4] rfl rfl rfl⟩) ?_;rintro _ bB ⟨a,v,B,l',rfl,O,y,D,S⟩;have S:=S.pick 5 [2,3,0,1,4] rfl rfl rfl;refine zN ?_;intro am bC bu S;refine zN ?_;intro ap aZ aS S;refine zS ?_;intro ba S;have S:=S.pick 7 [4,5,1,0,2,3,6] rfl rfl rfl
 refine dl (λm e w=>∃(l l':List Nd)(a:Nat->Int)(v:RG)(bx by_:Nat)(B fd:Bool)(b8 b9:Nat),Xo gw gh V l a v B l'/\FI gw gh V r want l bx by_ fd/\(rW l<=m/\m<=9765625) /\
  SL e [(0,pt sb),(1,.func (.func f) #[] #[pt cb]),(4,pt J),(6,pt I),(7,.bool fd),(8,pt b8),(9,pt b9),(10,.bool B)] /\
  SH W gw gh sb yb r (.blk b8 296 (Wn a)::.blk b9 158 [ii v.lo,ii v.hi]::.blk I 24 [ii bx,ii by_]::.blk J 24 [ii 0,ii 0]::.blk cb t lc::T) l' w) (5^(fW gw gh-1))
  ⟨_,l',a,v,0,0,B,false,am,ap,O,ak,⟨by rw[xR];exact fK _,aF⟩,sl,y,D,S⟩ ?_
 clear S O ak;rintro m e w ⟨l,l',a,v,bx,by_,B,fd,b8,b9,O,hI,hm,aj,y,D,S⟩;rw[aj.fold];rcases O with⟨rfl,rfl,rfl⟩|⟨rfl,n,rfl,ha,rfl⟩
 ·skip;refine yA ?_;intro _ S;exact pG S ⟨bx,by_,fd,rfl,hI.done,S.drop 6⟩
 ·have hn:=hI.st n (by simp);have hs:=Nd.span_ok hw.1 hh.1 hn.1;have aE:=λw=>E6 (W:=w) (n.span gw gh) r (hs.far hw.2 hh.2) (hr.far hw.2 hh.2);have aO:(n.span gw gh).mt r=[ii ((n.span gw gh).meet r).x0,ii ((n.span gw gh).meet r).y0,ii ((n.span gw gh).meet r).x1,ii ((n.span gw gh).meet r).y1]:=by unfold Rc.mt;rw[a7 hn.2];rfl
  have U:n.cells gw gh=[ii n.k,ii n.x,ii n.y,ii (n.span gw gh).x0,ii (n.span gw gh).y0,ii (n.span gw gh).x1,ii (n.span gw gh).y1]:=rfl;have aP:=DL l' [n];rw[xR]at aP;have aW:=wC l';have bz:=ic (a:=5) (n:=n.k) om;have aa:=λw h=>al (n.rg gw gh V) w h;have ad:=λw=>Oh (W:=w) ((n.span gw gh).meet r).x0 ((n.span gw gh).meet r).y0 bx by_;obtain⟨B2,ag⟩:∃B2,GH ((n.span gw gh).meet r).x0 ((n.span gw gh).meet r).y0 bx by_=B2:=⟨_,rfl⟩;obtain⟨B1,ae⟩:∃B1,want (n.rg gw gh V)=B1:=⟨_,rfl⟩;rw[aO]at aE;rw[ha,U]at S;rw[ae]at aa;rw[ag]at ad;have Z:(B1=false\/(fd=true/\B2=false))->FI gw gh V r want l' bx by_ fd:=λh=>h.elim (λe=>hI.skip1 hr aN (ae.trans e)) (λe=>hI.skip2 e.1 (ag.trans e.2));have aB:n.k=0->B1=true->(fd=false\/B2=true)->FI gw gh V r want l' ((n.span gw gh).meet r).x0 ((n.span gw gh).meet r).y0 true:=λhk e h=>hI.hit hr hk (ae.trans e) (h.imp id (ag.trans ·));have aD:=λhk T w hH=>Ru (W:=W) (w:=w) (sb:=sb) (T:=T) n hk hw hh hn.1 hr (show rW l'<=100000000 by omega) hP hH;have ai:=λhk l2 h1 h2 h3=>hI.kids (l':=l2) hk hr hw.1 hh.1 h1 h2 h3;generalize bw:(n.span gw gh).meet r=mm at *;generalize bA:n.span gw gh=sp at *;refine z ?_;refine zc ?_;refine jr rfl ?_;refine zc ?_;refine gO ?_;try show CW _ _ _ _ _ _
  refine zc ?_;refine k0 ?_;refine zc ?_;refine IP (C:=(CA _ _ _ 43 [ii 0,ii 0,ii 0,ii 0] [ii mm.x0,ii mm.y0,ii mm.x1,ii mm.y1])) [10,11] [0,1,2,3,4,5,6,7,8,9,10,11] [12] (by kernel_rfl) (by kernel_rfl) (CA.start (S.gr (Gr.drew _))) ?_;simp only[kz,iS,dK,dR];refine ot rfl (du kj rfl fS rfl rfl) ?_;refine qo rfl (λτ wq hq=>fx dL rfl (fS _) rfl (hq.st.blk (i:=2) rfl) rfl rfl) ?_;refine ot rfl (jx rfl) ?_;refine ot rfl (jx rfl) ?_;refine ot rfl (du jO rfl fS rfl rfl) ?_;refine qo rfl (λτ wq hq=>fx dL rfl (fS _) rfl (hq.st.blk (i:=0) rfl) rfl rfl) ?_;refine jH rfl rfl (λτ wq hq=>(aE wq).mono (λ_ _⟨hv,hg⟩=>⟨hv,hq.gr hg⟩)) ?_;refine ot rfl (jx rfl) ?_;refine ot rfl (jx rfl) ?_;refine ot rfl (jx rfl) ?_;refine de rfl rfl (λwq hq=>kG hq gE rfl) ?_;rintro aX bp ⟨bt,rfl,_⟩;refine de rfl rfl (λwq hq=>kH hq (fS _) rfl rfl rfl rfl rfl) ?_;rintro aY bq _;refine IO ?_;rintro br aH;obtain⟨aR,aq,S⟩:=aH.fin;cases aq
  refine dU (jx rfl) ?_;first|refine eF ?_|(refine di ?_;show CW _ _ _ _ _ _)|refine di ?_
  repeat refine dm ?_
  refine dz ?_;refine dU (du dL rfl cR rfl rfl) ?_;refine dH (cV iY rfl rfl (S.blk (i:=0) rfl) rfl) ?_;refine dU (du dL rfl cR rfl rfl) ?_;refine dH (cV iY rfl rfl (S.blk (i:=0) rfl) rfl) ?_;refine dU (kL (pl:=[(0,1),(1,1)]) xa Ac (λw=>by kernel_rfl) rfl rfl) ?_;refine kq (jV Ac rfl) S ?_;intro aQ bb aT S;refine Z1 0 S ?_;intro L S;first|refine eF ?_|(refine di ?_;show CW _ _ _ _ _ _)|refine di ?_
  repeat refine dm ?_
  refine T6 (M:=λe w=>∃(l2:List Nd)(ab ac:Nat)(f2:Bool),FI gw gh V r want l2 ab ac f2/\rW l2<m/\SL e [(0,pt sb),(1,.func (.func f) #[] #[pt cb]),(4,pt J),(6,pt I),(7,.bool f2),(8,pt b8),(9,pt b9)]/\SH W gw gh sb yb r (.blk b8 296 (n.cells gw gh)::.blk b9 158 [ii (n.rg gw gh V).lo,ii (n.rg gw gh V).hi]::.blk I 24 [ii ab,ii ac]::.blk J 24 [ii 0,ii 0]::.blk cb t lc::T) l2 w) ?_ ?_
  ·cases B1
   ·skip;refine z ?_;refine z ?_;refine ju rfl rfl (aa L (S.blk (i:=8) rfl)) ?_;rintro _ bc ⟨rfl,ar⟩;have S:=S.gr ar;refine zg ?_;rw[<-U]at S;exact⟨l',bx,by_,fd,Z (.inl rfl),om,sl,y,D,S.drop 2⟩
   ·by_cases aG:fd=true/\B2=false
    ·obtain⟨rfl,rfl⟩:=aG;refine z ?_;refine z ?_;refine ju rfl rfl (aa L (S.blk (i:=8) rfl)) ?_;rintro _ aI ⟨rfl,au⟩;have S:=S.gr au;iterate 6 refine z ?_
     refine dr rfl ?_;refine eY rfl (ad aI) ?_;rintro _ be ⟨rfl,av⟩;have S:=S.gr av;refine zg ?_;rw[<-U]at S;exact⟨l',bx,by_,true,Z (.inr ⟨rfl,rfl⟩),om,sl,y,D,S.drop 2⟩
    ·have ah:fd=false\/(fd=true/\B2=true):=by
      cases fd<;>cases B2<;>simp at aG ⊢
     by_cases hk:n.k=0
     ·have aJ:=aB hk rfl (ah.imp id And.right);rcases ah with rfl|⟨rfl,rfl⟩
      all_goals
       refine z ?_;refine z ?_;refine ju rfl rfl (aa L (S.blk (i:=8) rfl)) ?_;rintro _ bf ⟨rfl,aw⟩;have S:=S.gr aw;iterate 6 refine z ?_
       first|refine eD rfl ?_|(refine dr rfl ?_;refine eY rfl (ad _) ?_;rintro _ w9 ⟨rfl,g9⟩;have S:=S.gr g9)
       (iterate 6 refine z ?_);refine zf ?_;refine z ?_;refine z ?_;refine Z1 6 S ?_;intro bg S;refine z ?_;refine ze ?_;rw[<-U]at S;exact⟨l',mm.x0,mm.y0,true,aJ,om,sl,y,D,S.drop 2⟩
     ·have aK:=aD hk;have aC:=ai hk;rw[<-U]at S;rcases ah with rfl|⟨rfl,rfl⟩
      all_goals
       refine z ?_;refine z ?_;refine ju rfl rfl (aa L (S.blk (i:=8) rfl)) ?_;rintro _ bh ⟨rfl,az⟩;have S:=S.gr az;iterate 6 refine z ?_
       first|refine eD rfl ?_|(refine dr rfl ?_;refine eY rfl (ad _) ?_;rintro _ w9 ⟨rfl,g9⟩;have S:=S.gr g9)
       (iterate 6 refine z ?_);refine zt ?_;iterate 3 refine z ?_
       refine eY rfl (aK _ _ ⟨y,D,S.drop 2⟩) ?_;rintro _ bi ⟨rfl,l2,⟨y,D,S⟩,k1,k2,k3,k4⟩;refine ze ?_;exact⟨l2,bx,by_,_,aC l2 k1 k2 k3,om,sl,y,D,S⟩
  ·rintro e w ⟨l2,ab,ac,f2,aA,aM,aj,y,D,S⟩;refine zg ?_;rw[aj.fold];have aL:=wC l2;repeat refine dm ?_
   refine dz ?_;refine dH (fx kj rfl (lN _) rfl (S.blk (i:=2) rfl) rfl rfl) ?_;refine dH (fx gU rfl (iH _) rfl (S.blk (i:=3) rfl) rfl rfl) ?_;first|refine eF ?_|(refine di ?_;show CW _ _ _ _ _ _)|refine di ?_
   repeat refine dm ?_
   refine dz ?_;refine kq (jV sk rfl) S ?_;intro an bj aU S;refine zS ?_;intro bk S;refine zN ?_;intro ao bl aV S;refine zS ?_;intro bm S;refine zK (AJ (l:=l2) hw hh (λn hn=>(aA.st n hn).1) om hP ⟨y,D,S.pick 4 [2,3,1,0] rfl rfl rfl⟩) ?_;rintro _ bn ⟨a,v,B,l3,rfl,O,y,D,S⟩;have S:=S.pick 4 [3,2,0,1] rfl rfl rfl;refine zS ?_;intro bo S;have S:=(S.pick 9 [4,5,2,3,1,0,6,7,8] rfl rfl rfl).drop 2;exact⟨rW l2,aM,l2,l3,a,v,ab,ac,B,f2,an,ao,O,aA,⟨fK _,om⟩,sl,y,D,S⟩
def CY(gw:Nat)(V:List Int)(r:Rc)(z:Int)(x y:Nat):Prop:=(r.has x y/\V.getD (y*gw+x) 0=z)/\∀x' y',r.has x' y'->z<=V.getD (y'*gw+x') 0/\(V.getD (y'*gw+x') 0=z->y<y'\/(y=y'/\x<=x'))
def E9(gw:Nat)(V:List Int)(r:Rc)(z:Int)(x y:Nat):Prop:=(r.has x y/\V.getD (y*gw+x) 0=z)/\∀x' y',r.has x' y'->V.getD (y'*gw+x') 0<=z/\(V.getD (y'*gw+x') 0=z->y<y'\/(y=y'/\x<=x'))
theorem Oi(u v a b:Int)(D:eL W cb 158 [ii a,ii b]):Fn prog 104 [.agg #[ii u,ii v],pt cb] W (dp (.bool (decide (u<=a))) W):=by
 have S:=St.start W;refine zI func104 ?_;refine zN ?_;intro y I z S;refine zL (D.gr S.out) ?_;exact zZ
theorem Oj(u v a:Int)(D:eL W cb 2 [ii a]):Fn prog 181 [.agg #[ii u,ii v],pt cb] W (dp (.bool (decide (v>=a))) W):=by
 have S:=St.start W;refine zI func181 ?_;refine zN ?_;intro y I z S;refine zL (D.gr S.out) ?_;exact zZ
theorem LP(x0 y0 x1 y1:Int)(hw:1<=gw/\gw<=1024)(hh:1<=gh/\gh<=1024)(y:dF x0 y0 x1 y1 gw gh≠0)(Z:iM W yb gw gh V) :
  Fn prog 52 [pt yb,.agg #[ii x0,ii y0,ii x1,ii y1]] W (dp (.tuple #[ii 0,.agg #[ii 0,ii 0],ii (dF x0 y0 x1 y1 gw gh)]) W):=by
 have v:=λw=>An (W:=w) (V:=V) (yb:=yb) x0 y0 x1 y1 hw hh y;generalize dF x0 y0 x1 y1 gw gh=e at *;have S:=St.start W;refine zI func52 ?_;refine zN ?_;intro D aa J S;refine zN ?_;intro z ab L S;refine zC (v _ (Z.gr S.out)) ?_;intro ac O S;refine zN ?_;intro I ad U S;refine zS ?_;intro ae S;exact tm xa rfl (jy _) rfl (S.blk (i:=1) rfl) rfl rfl rfl rfl ⟨rfl,S.out⟩
theorem Sh(hB:vB V)(hw:1<=gw/\gw<=1024)(hh:1<=gh/\gh<=1024)(hr:r.ok gw gh)(Z:iM W yb gw gh V) :
  Fn prog 52 [pt yb,.agg r.cells.toArray] W (λu w'=>∃(z:Int)(x y:Nat),u=.tuple #[ii z,.agg #[ii x,ii y],ii 0]/\CY gw V r z x y/\Gr W w'):=by
 have aa:=λw(g:Gr W w)=>DM hw hh hr (Z.gr g);have ac:=λw(g:Gr W w)=>DN hB hw hh hr (Z.gr g);unfold Rc.cells at *;have S:=St.start W;refine zI func52 ?_;refine zN ?_;intro al aq an S;refine zN ?_;intro ak ar ao S;refine zK (ac _ S.out) ?_;rintro _ au ⟨D,rfl,hR,g9⟩;have S:=S.gr g9;refine zN ?_;intro am av ap S;refine zS ?_;intro aw S;refine zK (aa _ S.out) ?_;rintro _ az ⟨sb,rfl,J,L,S2⟩;have S:=S.app S2;refine zK (Ir (want:=λv=>decide (v.lo<=D.lo)) hw hh hr (λv w h=>Oi v.lo v.hi D.lo D.hi h) (λv z h1 h2 h3=>by rw[cT]at h3 ⊢;exact uP h1 h3) Z ⟨J,L,S⟩) ?_;rintro _ ae ⟨x,y,B,rfl,U,S⟩;refine zN ?_;intro aj ag ad S;refine zS ?_;intro ah S;refine zF [0,1,2,3] [4,5] ?_;refine zS ?_;intro ai S;obtain⟨h1,⟨u1,u2,hu,hv⟩,_⟩:=hR;have O:=U.2 u1 u2 hu (by rw[cT];exact r9 hv);have I:=U.1 O.1;rw[cT]at I;have ab:=h1 _ _ I.1;have hz:V.getD (y*gw+x) 0=D.lo:=Int.le_antisymm I.2 ab.1;exact tm xa rfl (jy _) rfl (S.blk (i:=2) rfl) rfl rfl rfl rfl ⟨D.lo,x,y,rfl,⟨⟨I.1,hz⟩,λx' y' hc=>⟨(h1 x' y' hc).1,λe=>(U.2 x' y' hc (by rw[cT];exact r9 e)).2⟩⟩,S.out⟩
theorem Ok(z:Int)(hw:1<=gw/\gw<=1024)(Z:1<=gh/\gh<=1024)(hr:r.ok gw gh)(U:iM W yb gw gh V) :
  Fn prog 105 [pt yb,.agg r.cells.toArray,ii z] W (λu w'=>∃(x y:Nat)(B:Bool),u=.tuple #[.agg #[ii x,ii y],.bool B,ii 0]/\JM gw V r (λv=>decide (v.hi>=z)) x y B/\Gr W w'):=by
 have J:=λw(g:Gr W w)=>DM hw Z hr (U.gr g);unfold Rc.cells at *;have S:=St.start W;refine zI func105 ?_;refine zN ?_;intro ae ak ah S;refine zN ?_;intro ag al ai S;refine zN ?_;intro ad am aj S;refine zK (J _ S.out) ?_;rintro _ an ⟨sb,rfl,D,I,S2⟩;have S:=S.app S2;refine zK (Ir (want:=λv=>decide (v.hi>=z)) hw Z hr (λv w h=>Oj v.lo v.hi z h) (λv z' h1 h2 O=>by rw[cT]at O ⊢;dsimp only at O ⊢;omega) U ⟨D,I,S.pick 5 [0,1,3,2,4] rfl rfl rfl⟩) ?_;rintro _ ao ⟨x,y,B,rfl,hF,S⟩;refine zN ?_;intro ac aa L S;refine zS ?_;intro ab S;exact qj xa rfl (jy _) rfl (S.blk (i:=2) rfl) rfl rfl rfl rfl ⟨x,y,B,rfl,hF,S.out⟩
theorem Ol(x0 y0 x1 y1:Int)(hw:1<=gw/\gw<=1024)(hh:1<=gh/\gh<=1024)(y:dF x0 y0 x1 y1 gw gh≠0)(Z:iM W yb gw gh V) :
  Fn prog 53 [pt yb,.agg #[ii x0,ii y0,ii x1,ii y1]] W (dp (.tuple #[ii 0,.agg #[ii 0,ii 0],ii (dF x0 y0 x1 y1 gw gh)]) W):=by
 have v:=λw=>An (W:=w) (V:=V) (yb:=yb) x0 y0 x1 y1 hw hh y;generalize dF x0 y0 x1 y1 gw gh=e at *;have S:=St.start W;refine zI func53 ?_;refine zN ?_;intro D aa J S;refine zN ?_;intro z ab L S;refine zC (v _ (Z.gr S.out)) ?_;intro ac O S;refine zN ?_;intro I ad U S;refine zS ?_;intro ae S;exact tm xa rfl (jy _) rfl (S.blk (i:=1) rfl) rfl rfl rfl rfl ⟨rfl,S.out⟩
theorem UJ(hB:vB V)(hw:1<=gw/\gw<=1024)(hh:1<=gh/\gh<=1024)(hr:r.ok gw gh)(hP:iM W yb gw gh V) :
  Fn prog 53 [pt yb,.agg r.cells.toArray] W (λu w'=>∃(z:Int)(x y:Nat),u=.tuple #[ii z,.agg #[ii x,ii y],ii 0]/\E9 gw V r z x y/\Gr W w'):=by
 have O:=λw z(g:Gr W w)=>Ok (W:=w) z hw hh hr (hP.gr g);have Z:=λw(g:Gr W w)=>DN hB hw hh hr (hP.gr g);unfold Rc.cells at *;have S:=St.start W;refine zI func53 ?_;refine zN ?_;intro ah am aj S;refine zN ?_;intro ag an ak S;refine zK (Z _ S.out) ?_;rintro _ ao ⟨v,rfl,hR,g9⟩;have S:=S.gr g9;refine zN ?_;intro ai ap al S;refine zS ?_;intro aq S;refine zK (O _ v.hi S.out) ?_;rintro _ ar ⟨x,y,B,rfl,L,I⟩;have S:=S.gr I;refine zN ?_;intro ae ab aa S;refine zS ?_;intro ac S;refine zF [0,1,2,3] [4,5] ?_;refine zS ?_;intro ad S;obtain⟨h1,_,⟨u1,u2,hu,hv⟩⟩:=hR;have J:=L.2 u1 u2 hu (by rw[cT];exact r9 hv.symm);have D:=L.1 J.1;rw[cT]at D;have U:=h1 _ _ D.1;have hz:V.getD (y*gw+x) 0=v.hi:=Int.le_antisymm U.2 D.2;exact tm xa rfl (jy _) rfl (S.blk (i:=2) rfl) rfl rfl rfl rfl ⟨v.hi,x,y,rfl,⟨⟨D.1,hz⟩,λx' y' hc=>⟨(h1 x' y' hc).2,λe=>(L.2 x' y' hc (by rw[cT];exact r9 e.symm)).2⟩⟩,S.out⟩
end
theorem JS(tys:Array TypeId)(t:TypeId)(a:Addr)(v y:String):(Builtin.ssaWrapNilChk_ tys t #[.pointer (some a),strVal v,strVal y]).run P w=.ok (.pointer (some a)) w:=rfl
theorem Ax{el:TypeId}{a:Addr}(v:(P.info? t).map (λi=>(i.methods.find? (λm=>m.name==name)).map (λm=>(m.path,m.func)))=some (some (#[],some (f,false))))(z:P.underlying t=some (.pointer el))(y:(loadVar el a).run P w=.ok rv w):(method (n+1) t (.pointer (some a)) name).run P w=.ok (f,rv) w:=by
 obtain⟨i,hi,h1⟩:=fl.1 v;obtain⟨m,v,h2⟩:=fl.1 h1;injection h2 with h3 h4;rw[method];simp[typeInfo,hi,v,h3,h4,follow,receiverAt,dS z,Place.get,JS,asAddr,y]
theorem EA{el:TypeId}(v:(P.info? t).map (λi=>(i.methods.find? (λm=>m.name==name)).map (λm=>(m.path,m.func)))=some (some (#[],some (f,true))))(y:P.underlying t=some (.pointer el)) :
  (method (n+1) t u name).run P w=.ok (f,u) w:=by
 obtain⟨i,hi,h1⟩:=fl.1 v;obtain⟨m,v,h2⟩:=fl.1 h1;injection h2 with h3 h4;rw[method];simp[typeInfo,hi,v,h3,h4,follow,receiverAt,dS y,Place.get]
theorem D1{tb:TypeId}{o:Nat}{v:Value}(hu:P.underlying t=some dd)(hd:sM dd=false)(hB:eL w b tb l)(hv:l[o]?=some v):(loadVar t ⟨b,o,none⟩).run P w=.ok v w :=
 ly (o:=default) (cV (P:=P) (d:=none) (ty:=0) (ps := "") (af:=#[]) (e:=λ_=>.pointer (some ⟨b,o,none⟩)) (x:=.tmp 0) hu hd rfl hB hv)
def wT(x:mH):List Value:=[ii x.1,ii x.2]
def nQ(l:List mH):List Value:=l.flatMap wT
theorem GV(l:List mH):(nQ l).length=l.length*2:=lF (f:=wT) (λ_=>rfl) l
theorem D2{l:List mH}(h:i<l.length):((nQ l).drop (i*2)).take 2=wT (fA l i):=lG (f:=wT) (λ_=>rfl) (yG h)
theorem EB{l:List mH}(h:i<l.length):(nQ l)[i*2+0]?=some (ii (fA l i).1):=qe (f:=wT) (λ_=>rfl) (yG h) om
theorem OI(l:List mH)(x:mH):nQ l++wT x=nQ (l++[x]):=by simp[nQ]
theorem EC:∀(l:List mH)(m:Nat),(nQ l).take (m*2)=nQ (l.take m)
 |l,0=>by simp[nQ]
 |[],m+1=>by simp[nQ]
 |a::l,m+1=>by
  have ih:=EC l m
  unfold nQ at *;rw[po,fe,fe,<-ih,cX,jB,show(wT a).length=2 from rfl,fN (by show 2<=_;omega),eA]
theorem BP:∀{l:List mH}{i:Nat}(x:mH),i<l.length->(nQ l).take (i*2)++wT x++(nQ l).drop (i*2+2)=nQ (l.set i x)
 |[],i,x,h=>by simp at h
 |a::l,0,x,_=>rfl
 |a::l,i+1,x,h=>by
  have ih:=BP (l:=l) (i:=i) x (by simpa using h)
  unfold nQ at *
  rw[List.set_cons_succ,fe,fe,<-ih,cX,jB,List.drop_append,show(wT a).length=2 from rfl,fN (by show 2<=_;omega),nv (by show 2<=_;omega),eA,
   show i*2+2+2-2=i*2+2 by omega]
  simp
namespace queue
open Go.RowKit Go.Proofs.YtcalhocphkbbgaaGreatDoor
section
variable{L:List HA}
def QH(F:Nat->Prop)(W0:World)(L:List HA)(q:Nat)(l:List mH)(w:World):Prop :=
 l.length<=1099511627777/\∃A c,St F W0 w (.blk q 326 [.slice A l.length c]::.row 324 2 A l.length c (nQ l)::L)
theorem QH.mk{l:List mH}(y:l.length=n)(v:n<=1099511627777)(S:St F W0 w (.blk q 326 [.slice A n c]::.row 324 2 A n c (nQ l)::L)):QH F W0 L q  l w:=by
 subst y;exact⟨v,A,c,S⟩
theorem YB(A:Option Addr)(n c:Nat)(w:World):Fn prog 193 [.slice A n c] w (dp (ii n) w):=by
 have S:=St.start w;refine zI func193 ?_;exact zZ
theorem WL{l:List mH}(hH:QH F W0 L q  l w):Av prog 322 (pt q) "Len" [] w (λv w'=>v=ii l.length∧QH F W0 L q  l w'):=by
 obtain⟨hl,A,c,S⟩:=hH;refine⟨193,_,Ax (by kernel_rfl) Y7 (D1 kU rfl (S.blk (i:=0) rfl) rfl),?_⟩;refine zI func193 ?_;refine zX ?_;exact⟨rfl,hl,A,c,S⟩
theorem U6{l:List mH}(hH:QH F W0 L q  l w)(hi:i<l.length)(hj:j<l.length) :
  Av prog 322 (pt q) "Less" [ii i,ii j] w (λv w'=>v=.bool (decide ((fA l i).1<(fA l j).1))∧QH F W0 L q  l w'):=by
 obtain⟨hl,A_R,c,S⟩:=hH;have sa_R:dO A_R:=(S.row (i:=1) rfl).someA om;have ci:=EB hi;have cj:=EB hj;refine⟨424,_,Ax (by kernel_rfl) Y7 (D1 kU rfl (S.blk (i:=0) rfl) rfl),?_⟩;refine zI func424 ?_;refine zD [0,1,2,3,4,5,6,7,8,9,10,11] [] ?_;refine zO (λwq hq=>((S.gr hq).rd (i:=1) rfl)) ci ?_;refine zO (λwq hq=>((S.gr hq).rd (i:=1) rfl)) cj ?_;refine zE ?_;intro w1_ g1_ S;exact ir rfl ⟨rfl,hl,A_R,c,S⟩
theorem U7{l:List mH}(hH:QH F W0 L q  l w)(hi:i<l.length)(hj:j<l.length) :
  Av prog 322 (pt q) "Swap" [ii i,ii j] w (λv w'=>v=.tuple #[]∧QH F W0 L q  (uE l i j) w'):=by
 obtain⟨hl,A_R,c,S⟩:=hH;have sa_R:dO A_R:=(S.row (i:=1) rfl).someA om;have ci:=D2 hi;have cj:=D2 hj;have hlen:=GV l;have e1:((i:Nat):Int).toNat * 2=i*2:=om;have e2:((j:Nat):Int).toNat * 2=j*2:=om;have hp1:=BP (l:=l) (i:=i) (fA l j) hi;have hlen1:=GV (l.set i (fA l j));have hp2:=BP (l:=l.set i (fA l j)) (i:=j) (fA l i) (by simpa using hj);rw[pe]at hlen1;refine⟨427,_,Ax (by kernel_rfl) Y7 (D1 kU rfl (S.blk (i:=0) rfl) rfl),?_⟩;refine zI func427 ?_;refine zc ?_;refine nI (C:=(xu F W0 (.blk q 326 [.slice A_R l.length c]::.row 324 2 A_R l.length c (nQ l)::L) (.blk q 326 [.slice A_R l.length c]::.row 324 2 A_R l.length c (nQ (l.set i (fA l j)))::L) 7 11 13 (.agg (wT (fA l j)).toArray) (.agg (wT (fA l i)).toArray))) [7,11,13] (.one 0 (.one 1 (.one 2 (.one 3 (.one 4 (.one 5 (.one 6 (.one 8 (.one 9 (.one 10 (.two 7 (.one 11 (.one 12 (.one 13 .nil))) 11 (.one 7 (.one 12 (.one 13 .nil)))))))))))))) [14,15] (by kernel_rfl) (by kernel_rfl) (xu.start (S.gr (Gr.drew _))) ?_;simp only[qK,iS,dK,dR];refine zW ?_;refine nf ?_ ?_
 ·refine dC rfl rfl (λwq hq=>Pd (fb jd rfl (jQ _) rfl ((hq.st0 rfl).rd (i:=1) rfl) (by rw[e2];exact cj) rfl rfl) (hq.push rfl rfl ⟨λ_=>rfl,λh=>by cases h⟩)) ?_;rintro v7 w7 h7;obtain rfl:=h7.first;refine zW ?_;refine dC rfl rfl (λwq hq=>Pd (fb jd rfl (jQ _) rfl ((hq.st0 rfl).rd (i:=1) rfl) (by rw[e1];exact ci) rfl rfl) (hq.push rfl rfl ⟨λh=>(by cases h),λ_=>rfl⟩)) ?_;rintro v11 w11 h11;obtain rfl:=h11.second;refine zW ?_;refine dC rfl rfl (λwq hq=>Ef (i:=1) (hq.st0 rfl) rfl (jQ _) rfl rfl rfl rfl (by rw[e1];omega) (by rw[e1];exact congrArg some (by rw[show i*2+2=i*2+2 from rfl,hp1])) rfl (λw' S'=>hq.made ⟨λh=>(by cases h),λh=>(by cases h)⟩ S')) ?_;rintro v13 w13 _;refine zW ?_;refine jm ?_;rintro wz hz;have S:=hz.st1 rfl;refine zg ?_;refine tF (i:=1) S rfl (jQ _) rfl rfl rfl rfl (by rw[e2];omega) rfl rfl ?_;intro wz S;refine ze ?_;refine na ⟨rfl,QH.mk (lK l i j) hl (c:=c) (A:=A_R) ?_⟩;rw[e2]at S;have hp2':=hp2;unfold wT at hp2';unfold uE;rw[<-hp2];exact S
 ·refine dC rfl rfl (λwq hq=>Pd (fb jd rfl (jQ _) rfl ((hq.st0 rfl).rd (i:=1) rfl) (by rw[e1];exact ci) rfl rfl) (hq.push rfl rfl ⟨λh=>(by cases h),λ_=>rfl⟩)) ?_;rintro v11 w11 h11;obtain rfl:=h11.second;refine zW ?_;refine dC rfl rfl (λwq hq=>Pd (fb jd rfl (jQ _) rfl ((hq.st0 rfl).rd (i:=1) rfl) (by rw[e2];exact cj) rfl rfl) (hq.push rfl rfl ⟨λ_=>rfl,λh=>by cases h⟩)) ?_;rintro v7 w7 h7;obtain rfl:=h7.first;refine zW ?_;refine dC rfl rfl (λwq hq=>Ef (i:=1) (hq.st0 rfl) rfl (jQ _) rfl rfl rfl rfl (by rw[e1];omega) (by rw[e1];exact congrArg some (by rw[show i*2+2=i*2+2 from rfl,hp1])) rfl (λw' S'=>hq.made ⟨λh=>(by cases h),λh=>(by cases h)⟩ S')) ?_;rintro v13 w13 _;refine zW ?_;refine jm ?_;rintro wz hz;have S:=hz.st1 rfl;refine zg ?_;refine tF (i:=1) S rfl (jQ _) rfl rfl rfl rfl (by rw[e2];omega) rfl rfl ?_;intro wz S;refine ze ?_;refine na ⟨rfl,QH.mk (lK l i j) hl (c:=c) (A:=A_R) ?_⟩;rw[e2]at S;have hp2':=hp2;unfold wT at hp2';unfold uE;rw[<-hp2];exact S
theorem U8{l:List mH}(x:mH)(hH:QH F W0 L q l w)(hl:l.length<=1099511627776) :
  Av prog 322 (pt q) "Push" [.iface 324 (.agg #[ii x.1,ii x.2])] w (λv w'=>v=.tuple #[]∧QH F W0 L q (l++[x]) w'):=by
 obtain⟨_,A_R,c,S⟩:=hH;refine⟨426,_,EA (by kernel_rfl) Y7,?_⟩;refine zI func426 ?_;refine zH (C:=(λσ wq=>CS F W0 (.blk q 326 [.slice A_R l.length c]::.row 324 2 A_R l.length c (nQ l)::L) 1 324 2 l.length (nQ l) (wT x) wq σ)) [6,7] [0,1,2,3,4,5,6,7] [8,9] (S.gr (Gr.drew _)) ?_;refine zV (λτ wq hq=>(hq.ok (j:=0) (by decide) rfl)) ?_;refine zR ?_;refine ot rfl (yU jd rfl rfl rfl) ?_;refine de rfl rfl (λwq hq=>rO hq kU jQ rJ rfl rfl rfl rfl rfl rfl) ?_;rintro v6 w6 ⟨A6,rfl,_⟩;refine de rfl rfl (λwq hq=>u6 hq rfl (λh=>⟨_,rfl⟩) kU XK rfl rfl rfl rfl rfl rfl om) ?_;rintro v7 w7 ⟨A7,c7,L7,rfl,_,_⟩;refine zY ?_;rintro w8 ⟨A8_,c8_,L_st,e_st,h_st,S⟩;cases e_st
 obtain rfl:=Option.some.inj h_st;refine z ?_;refine iy (i:=0) S rfl (sizeOf326 _) rfl rfl rfl rfl rfl rfl ?_;intro w2_ S;refine ze ?_;rw[OI]at S;exact na ⟨rfl,QH.mk (A:=A7) (c:=c7) (n:=l.length+1) (by simp) om S⟩
theorem WM{l:List mH}(hH:QH F W0 L q  l w)(h0:0<l.length) :
  Av prog 322 (pt q) "Pop" [] w (λv w'=>v=.iface 324 (.agg #[ii (fA l (l.length-1)).1,ii (fA l (l.length-1)).2])∧QH F W0 L q  (l.take (l.length-1)) w'):=by
 obtain⟨hl,A_R,c,S⟩:=hH;have sa_R:dO A_R:=(S.row (i:=1) rfl).someA om;have hcap:=(S.row (i:=1) rfl).cap;have hlast:=D2 (l:=l) (i:=l.length-1) om;have em:((l.length:Nat):Int)-1=((l.length-1:Nat):Int):=om;have hlast':((nQ l).drop (((l.length-1:Nat):Int).toNat * 2)).take 2=wT (fA l (l.length-1)):=by rw[b7];exact hlast
 refine⟨425,_,EA (by kernel_rfl) Y7,?_⟩;refine zI func425 ?_;refine zH (C:=(λσ wq=>Gr w wq/\VJ w wq 324 [ii 0,ii 0] σ)) [10] [0,1,2,3,4,5,6,7,8,9,10] [11] ⟨Gr.drew _,trivial⟩ ?_;refine zV (λτ wq hq=>((S.gr hq.1).blk (i:=0) rfl)) ?_;refine zV (λτ wq hq=>((S.gr hq.1).blk (i:=0) rfl)) ?_;refine zR ?_;rw[em];refine zR ?_;refine qo rfl (λτ wq hq=>fb jd rfl (jQ _) rfl ((S.gr hq.1).rd (i:=1) rfl) hlast' rfl rfl) ?_;refine de rfl rfl (λwq hq=>ML rJ rfl hq.1 (λv w' g h=>⟨g,h⟩)) ?_;rintro v10 w10 ⟨_,hsp10⟩;refine zY ?_;rintro wz ⟨gz,hsp⟩;obtain⟨b_P,he1,hB1,hs1⟩:=hsp;cases he1
 have S:=S.push gz (h:=.blk b_P 324 _) hB1 (λg h=>h▸hs1);refine zS ?_;intro wy S;refine zD [0,1,2,3,4,5,6,7,8,9] [10,11] ?_;rw[em];refine eO (jb kU jQ rfl rfl om om) ?_;refine zE ?_;refine zS ?_;intro w3_ S;refine dU (jn jd rfl rfl) ?_;refine zg ?_;have hR:=(S.row (i:=2) rfl).take (m:=l.length-1) om;rw[EC]at hR;have S:=(S.set (i:=2) (h':=.row 324 2 A_R (l.length-1) c (nQ (l.take (l.length-1)))) rfl rfl (Fr.refl No _) (λ_ h=>h.elim) hR (λg h=>.inl h)).drop 1;refine ir rfl ⟨rfl,QH.mk (A:=A_R) (c:=c) (n:=l.length-1) (by rw[d7];omega) om S⟩
theorem YO:Aw prog 322 (pt q) 324 (QH F W0 L q ) :=
 ⟨λl w h=>WL h,λl w i j h hi v=>U6 h hi v,λl w i j h hi v=>U7 h hi v,λl w x h z=>U8 x h z,λl w h y=>WM h y,λl w h=>h.1⟩
end
end queue
theorem iC.perm{L:List HA}(p:L.Perm L'):iC X w L->iC X w L':=by
 induction p with
 |nil=>exact id
 |cons a p ih=>exact λh=>⟨h.1,λg y h' v=>h.2.1 g y h' (p.mem_iff.2 v),ih h.2.2⟩
 |swap a b l =>
  intro h;refine⟨h.2.2.1,λg y h' v=>?_,h.1,λg y h' v=>h.2.1 g y h' (cW _ v),h.2.2.2.2⟩;rcases dy.1 v with e|v
  ·subst e;exact λI=>h.2.1 g I a eB y
  ·exact h.2.2.2.1 g y h' v
 |trans _ _ z D=>exact λh=>D (z h)
theorem St.perm{L:List HA}(S:St F W w L)(p:L.Perm L'):St F W w L':=⟨S.fr,S.sep.perm p⟩
theorem Sy(a b c d:α)(L:List α):(a::b::c::d::L).Perm (c::d::a::b::L) :=
 (ft (l₁:=[a,b]) (l₂:=[c,d])).append_right L
section
variable{V:List Int}
theorem SA(a:Nat)(aD:1<=gw/\gw<=1024)(aQ:1<=gh/\gh<=1024)(hV:V.length=gw*gh)(ha:a<gw*gh)(hB:vB V)(hA:Rd W A (cY V)) :
  Fn prog 126 [.agg #[ii gw,.slice A V.length c],ii a] W (λv w'=>∃d,lZ gw V a d/\jc id 2 1 V.length (fj V.length d) W v w'):=by
 have hn:gw*gh<=1048576:=by have:=fy aD.2 aQ.2;omega
 refine yI func126 ?_;refine yA ?_;intro I _ S;refine nD fZ jR rfl rfl rfl (n:=V.length) (c:=V.length) om om om om S ?_;intro D bp bg S aH;refine zg ?_;rw[yk]at S
 refine dl (λm e w=>∃k:Nat,k+m=V.length/\SL e [(1,ii a),(2,pt I),(5,.slice D V.length V.length),(16,ii V.length),(17,ii k)] /\
  St No W w [.row 2 1 D V.length V.length (fj V.length (λi=>if i<k then -1 else 0)),.blk I 236 [ii gw,.slice A V.length c]]) V.length
  ⟨0,om,sl,by simpa using S⟩ ?_
 rintro m e w ⟨k,hk,ai,S⟩;rw[ai.fold];refine zB ?_ ?_
 ·intro hc;refine zg ?_;refine jk (i:=0) S rfl (cR _) rfl rfl rfl rfl (by rw[pV];omega) rfl ?_;intro bq S;refine zg ?_;rw[rS,nj (o':=λi=>if i<k+1 then -1 else 0) (λi hi=>by unfold jU;dsimp only;(repeat' split)<;>omega)]at S;exact⟨m-1,om,k+1,om,sl,S⟩
 ·intro hc;rw[nj (o':=λ_=>-1) (λi hi=>by rw[a7 om])]at S;refine zg ?_;refine yb S ?_;intro aw br bh S aU;refine yA ?_;intro ab _ S;have hQ:queue.QH No W [.row 2 1 D V.length V.length (fj V.length (λ_=>-1)),.blk I 236 [ii gw,.slice A V.length c]] ab [((0:Int),a)] _:=queue.QH.mk (A:=aw) (c:=1) (n:=1) rfl om S
  refine dl (λm e w=>∃(o:Nat->Int)(l:List mH),5*(V.length-rQ (gw*gh) o)+l.length=m/\m<=5*V.length+1/\SL e [(2,pt I),(5,.slice D V.length V.length),(7,pt ab)] /\
   qQ l l.length/\DJ gw gh V a o l (λ_ _=>False)/\queue.QH No W [.row 2 1 D V.length V.length (fj V.length o),.blk I 236 [ii gw,.slice A V.length c]] ab l w)
   (5*(V.length-rQ (gw*gh) (λ_=>-1))+1) ⟨λ_=>-1,[(0,a)],rfl,om,sl,λk h0 h1=>by simp at h1;omega,DJ.init ha,hQ⟩ ?_
  clear hQ S;rintro m e w ⟨o,l,hm,bl,ai,hN,hD,hQ⟩;rw[ai.fold];obtain⟨aS,av,aA,S⟩:=hQ;refine zC (queue.YB av l.length aA w) ?_;intro bb aV S;refine zB ?_ ?_
  ·intro aN;have aR:0<l.length:=om;refine zg ?_;refine dU (jn Y7 rfl rfl) ?_;refine zK (WK queue.YO l _ hN aR ⟨aS,av,aA,S⟩) ?_;rintro _ w9 ⟨x,l',rfl,aZ,am,an,aC,aK⟩;obtain⟨al,aj,ak,S⟩:=aK;have ap:DJ gw gh V a o (x::l') (λ_ _=>False):=hD.perm (λy=>by rw[dy];exact(am y).symm);obtain⟨ao,aF,_⟩:=ap.ent x eB;obtain⟨xc,L⟩:=x;dsimp only at ao aF an am;refine dU (yU jd rfl rfl rfl) ?_;refine yA ?_;intro az _ S;refine dH (eI iY rfl rfl (S.rd (i:=3) rfl) (jg om)) ?_;refine zB ?_ ?_
   ·intro aE;refine zg ?_;exact⟨_,om,o,l',rfl,om,sl,aC,ap.skip aE,al,aj,ak,S.drop 1⟩
   ·intro aE;have hM:=ap.take om (show o L<0 by omega) an;dsimp only at hM;rw[<-hV]at hM;have ah:jU o L xc L=xc:=by unfold jU;rw[a7 rfl]
    have aY:rQ (gw*gh) (jU o L xc)=rQ (gw*gh) o+1:=by rw[AC aF om,a7 ao]
    have aX:=Ty (gw*gh) (jU o L xc);have au:=hM.room;rw[ah]at au;have bm:=Fz gw V.length L;refine zg ?_;refine jk (i:=3) S rfl (cR _) rfl rfl rfl rfl (by rw[pV];omega) rfl ?_;intro bc S;refine zK (FK (W:=_) (A:=A) (c:=c) L V.length ⟨aD.1,om⟩ om om) ?_;rintro _ be ⟨J,O,rfl,ad,ae,aB⟩;have S:=S.pushRow ad ae aB;refine zg ?_;rw[rS]at S;have S:=S.perm (Sy _ _ _ _ _);generalize qg gw V.length L=Z at *
    refine dl (λm' e w=>∃(k:Nat)(l2:List mH),k+m'=Z.length/\l2.length<=l'.length+k /\
     SL e [(2,pt I),(5,.slice D V.length V.length),(7,pt ab),(8,pt az),(52,.slice J Z.length O),(53,ii Z.length),(54,ii k)] /\
     qQ l2 l2.length/\Hl gw gh V a (jU o L xc) l2 L (Z.drop k) /\
     queue.QH No W [.row 3 1 J Z.length O (lR Z),.blk az 324 [ii xc,ii L],.row 2 1 D V.length V.length (fj V.length (jU o L xc)),.blk I 236 [ii gw,.slice A V.length c]] ab l2 w) Z.length
     ⟨0,l',om,om,sl,aC,by rw[dR];exact hM,al,aj,ak,S⟩ ?_
    clear S hM;rintro m' e w ⟨k,l2,bj,bk,ai,aq,U,aL⟩;rw[ai.fold];obtain⟨ag,aa,ac,S⟩:=aL;refine zB ?_ ?_
    ·intro aO;have ar:k<Z.length:=om;obtain⟨y,hy,aP⟩:∃y,Z[k]?=some y/\Z.drop k=y::Z.drop (k+1):=⟨Z[k]'ar,fw ar,dX ar⟩;rw[aP]at U;have aG:dO J:=(S.row (i:=2) rfl).someA om;have bn:=U.todo_ok y eB;have aT:=E2 hB L y;have ba:=sA V L y;refine zx ?_;refine dH (eI dB rfl rfl (S.rd (i:=2) rfl) (BA hy)) ?_;(iterate 3 refine z ?_);refine zx ?_;refine dH (eI iY rfl rfl (S.rd (i:=4) rfl) (jg om)) ?_;refine zB ?_ ?_
     ·intro hu;refine zD [0,1,2,3,4,5,6,7,8,9,10,11,12] [13] ?_;refine eO (jn Y7 rfl rfl) ?_;refine zP (λwq hq=>KC (gw:=gw) (c:=c) L y om om hB (hA.gr (S.gr hq).out)) ?_;refine eO (fh rfl (by unfold u7 at*;omega)) ?_;refine zQ ?_;refine eO (jn jd rfl rfl) ?_;refine zE ?_;intro bf aW S;refine zK (U5 queue.YO l2 (xc+st V L y,y) _ aq ⟨ag,aa,ac,S⟩ om) ?_;rintro _ bo ⟨rfl,l3,bi,aI,aJ,aM⟩;refine zg ?_;exact⟨m'-1,om,k+1,l3,om,om,sl,aJ,U.push aT (λx=>by rw[aI,ah]),aM⟩
     ·intro hu;refine zg ?_;exact⟨m'-1,om,k+1,l2,om,om,sl,aq,U.known om,ag,aa,ac,S⟩
    ·intro aO;rw[nw om]at U;refine zg ?_;exact⟨_,om,jU o L xc,l2,rfl,om,sl,aq,U.done,ag,aa,ac,S.sub (.cons_cons _ (.cons_cons _ (.cons _ (.cons _ (.cons_cons _ (.cons_cons _ .slnil))))))⟩
  ·intro aN;obtain rfl:l=[]:=gj om;refine zX ?_;exact⟨o,hD.finish om hV ha,S.retNew (i:=2) (mk:=id) rfl⟩
end
section
variable{cap:Nat}
theorem OJ(ax ay bx y:Int)(hG:eJ W p gw gh cc A cap bs Rs)(D:mD gw gh (ax,ay)=false\/mD gw gh (bx,y)=false):Fn prog 62 [pt p,.agg #[ii ax,ii ay],.agg #[ii bx,ii y]] W (dp (.tuple #[ii 0,.slice none 0 0,ii 4]) W):=by
 have z:[(ax,ay),(bx,y)].all (mD gw gh)=false:=by rcases D with h|h<;>simp[h]
 have S:=St.start W;refine zI func62 ?_;refine zN ?_;intro O ae Z S;refine zN ?_;intro U ag aa S;refine zg ?_;refine yb S ?_;intro J ah ab S I;refine zC (((TY (W:=_) [(ax,ay),(bx,y)] (by simp) (hG.gr S.out) (S.rd (i:=0) rfl)).mono (λv w' h=>h.2 z))) ?_;intro ai ac S;refine zN ?_;intro V aj ad S;refine zS ?_;intro L S;exact tE rfl rfl rfl ⟨rfl,S.out⟩
theorem U9(a b:Nat)(ha:a<gw*gh)(hb:b<gw*gh)(hB:vB (dw gw gh cc))(hG:eJ W p gw gh cc A cap bs Rs) :
  Fn prog 62 [pt p,.agg #[ii (a%gw:Nat),ii (a/gw:Nat)],.agg #[ii (b%gw:Nat),ii (b/gw:Nat)]] W
  (λv w'=>∃d,lZ gw (dw gw gh cc) b d/\jc (λs=>.tuple #[ii (d a),s,ii 0]) 24 2 (ri gw (dw gw gh cc) d b a).length (eT ((ri gw (dw gw gh cc) d b a).map (cz gw))) W v w'):=by
 have hw:=hG.sw;have hh:=hG.sh;have hn:gw*gh<=1024*1024:=fy hw.2 hh.2;have hV:=qf gw gh cc;have aF:=TH (gh:=gh) (show 0<gw by omega) ha;have aG:=TH (gh:=gh) (show 0<gw by omega) hb;have aQ:[cz gw a,cz gw b].all (mD gw gh)=true:=by simp[aF,aG]
 have av:∀(D:Option Addr)(I a:Nat)(w:World),a<gw*gh->Rd w D (cY (dw gw gh cc))->Fn prog 126 [.agg #[ii gw,.slice D (gw*gh) I],ii a] w (λv w'=>∃d,lZ gw (dw gw gh cc) a d/\jc id 2 1 (gw*gh) (fj (gw*gh) d) w v w'):=λD I a w ha h=>by
  have:=SA (gw:=gw) (gh:=gh) (c:=I) (V:=dw gw gh cc) a hw hh hV ha hB h;rw[hV]at this;exact this
 have an:∀(D:Option Addr)(I x y:Nat)(w:World),x<gw*gh->y<gw*gh->Rd w D (cY (dw gw gh cc))->Fn prog 128 [.agg #[ii gw,.slice D (gw*gh) I],ii x,ii y] w (dp (ii (st (dw gw gh cc) x y)) w):=λD I x y w hx hy h=>by
  have:=KC (gw:=gw) (c:=I) (V:=dw gw gh cc) x y om om hB h;rw[hV]at this;exact this
 refine yI func62 ?_;refine yA ?_;intro _ _ _ S;refine yb S ?_;intro aY bC bt S aX;refine zK (((TY (W:=_) [cz gw a,cz gw b] (by simp) (hG.gr S.out) (S.rd (i:=0) rfl)).mono (λv w' h=>h.1 aQ))) ?_;rintro _ bD ⟨D,I,ab,ad,rfl,hv,aP,aT,aO,hd,aN⟩;have S:=S.push2 aN (h1:=.row 2 1 D _ I _) (h2:=.row 3 1 ab _ ad _) hv aT aP aO hd;refine zN ?_;intro ak bE bu S;refine zS ?_;intro bj S;have aJ:lR ([cz gw a,cz gw b].map (CD gw))=[ii (a:Nat),ii (b:Nat)]:=by simp[lR,CD,VS]
 rw[aJ]at S;have ap:dO ab:=(S.row (i:=2) rfl).someA (by simp);refine zD [0,1,2,3] [4,5] ?_;refine eO (sj iF fa rfl rfl ap om (by simp)) ?_;refine fo (λwq hq=>eI dB rfl rfl ((S.gr hq).rd (i:=2) rfl) rfl) ?_;refine zE ?_;intro bk aZ S;refine zK (av _ _ b _ hb (S.row (i:=1) rfl).rd) ?_;rintro _ w4 ⟨d,L,O,Z,rfl,hR,hF,g4⟩;have S:=S.pushRow hR hF g4;refine zg ?_;refine yb S ?_;intro J bl ba S ar;refine zg ?_;refine dU (sj iF fa rfl rfl ap om (by simp)) ?_;refine dH (eI dB rfl rfl (S.rd (i:=4) rfl) rfl) ?_;refine zg ?_;have ag:[]++ri gw (dw gw gh cc) d b a=ri gw (dw gw gh cc) d b a:=rfl;have aj:=AD (d:=d) ha;generalize dw gw gh cc=V at *;have S:=S.sub (L':=[.row 24 2 J 1 1 (eT ((([]:List Nat)++[a]).map (cz gw))),.row 2 1 O (gw*gh) Z (fj (gw*gh) d),.blk ak 236 [ii gw,.slice D (gw*gh) I],.row 2 1 D (gw*gh) I (cY V),.row 3 1 ab 2 ad [ii (a:Nat),ii (b:Nat)]]) (.cons_cons _ (.cons_cons _ (.cons_cons _ (.cons_cons _ (.cons_cons _ (.cons _ (.cons _ (.cons _ .slnil))))))))
 refine dl (λm e w=>∃(pre:List Nat)(i:Nat)(J:Option Addr)(ac:Nat),(d i).toNat=m/\i<gw*gh/\pre++ri gw V d b i=ri gw V d b a/\zk (gw*gh) d i+pre.length+1<=gw*gh /\
  SL e [(9,pt ak),(10,.slice ab 2 ad),(12,.slice O (gw*gh) Z),(13,.slice J (pre.length+1) ac),(14,ii i)] /\
  St No W w [.row 24 2 J (pre.length+1) ac (eT ((pre++[i]).map (cz gw))),.row 2 1 O (gw*gh) Z (fj (gw*gh) d),.blk ak 236 [ii gw,.slice D (gw*gh) I],.row 2 1 D (gw*gh) I (cY V),.row 3 1 ab 2 ad [ii (a:Nat),ii (b:Nat)]]) (d a).toNat
  ⟨[],a,J,1,rfl,ha,ag,aj,sl,S⟩ ?_
 clear S ag aj;rintro m e w ⟨pre,i,J,ac,rfl,hi,aa,aU,aB,S⟩;rw[aB.fold];have ao:dO O:=(S.row (i:=1) rfl).someA om;refine z ?_;refine z ?_;refine zx ?_;refine dH (eI dB rfl rfl (S.rd (i:=4) rfl) rfl) ?_;refine zB ?_ ?_
 ·intro az;obtain⟨p1,U,hL,aS,bA,ai,aV⟩:=Ds (show 0<gw by omega) hV L hi az;have aI:=Fz gw V.length i;rw[I7 (show 0<gw by omega) hV L hi az]at aa;have bh:=sA V i (qh gw V d i);have bz:=L.nn (qh gw V d i) om;have bB:=zm (n:=gw*gh) (d:=d) (i:=qh gw V d i) (j:=i) ai om;generalize qh gw V d i=nx at *;refine zK (FK (W:=w) (A:=D) (c:=I) i (gw*gh) ⟨hw.1,om⟩ hi om) ?_;rintro _ bm ⟨ae,ah,rfl,al,am,aE⟩;have S:=S.pushRow al am aE;refine zg ?_;rw[hV]at hL aI;rw[hL]at S aI ⊢;have aK:dO ae:=(S.row (i:=0) rfl).someA (by show 0<(p1++nx::U).length;rw[cP,fc];omega)
  refine dl (λm2 e w=>∃k:Nat,k+m2=p1.length/\SL e [(9,pt ak),(10,.slice ab 2 ad),(12,.slice O (gw*gh) Z),(13,.slice J (pre.length+1) ac),(14,ii i),(46,.slice ae (p1++nx::U).length ah),(47,ii (p1++nx::U).length),(48,ii k)] /\
   St No W w [.row 3 1 ae (p1++nx::U).length ah (lR (p1++nx::U)),.row 24 2 J (pre.length+1) ac (eT ((pre++[i]).map (cz gw))),.row 2 1 O (gw*gh) Z (fj (gw*gh) d),.blk ak 236 [ii gw,.slice D (gw*gh) I],.row 2 1 D (gw*gh) I (cY V),.row 3 1 ab 2 ad [ii (a:Nat),ii (b:Nat)]]) p1.length
   ⟨0,om,sl,S⟩ ?_
  clear S;rintro m2 e w ⟨k,hk,aB,S⟩;rw[aB.fold];have bg:(p1++nx::U).length=p1.length+1+U.length:=by simp;omega
  have aA:∀y,y∈p1++nx::U->y<gw*gh:=λy hy=>by rw[<-hL]at hy;exact((tC om hi).1 hy).1
  by_cases aH:k<p1.length
  ·obtain⟨y,hy⟩:∃y,p1[k]?=some y:=⟨_,fw aH⟩;have aq:(p1++nx::U)[k]?=some y:=by rw[gt aH];exact hy
   have au:=aA y (dD aq);have bw:=aS y (dD hy);have aW:=E2 hB i y;have bi:=sA V i y;have bv:=L.nn y om;have aw:=L.bound hB y om;have aR:=AD (d:=d) au;rw[hV]at aw;refine zt ?_;refine zx ?_;refine dH (eI dB rfl rfl (S.rd (i:=0) rfl) (BA aq)) ?_;refine zD [0,1,2,3,4,5,6,7,8,9,10,11,12,13] [] ?_;refine fo (λwq hq=>eI iY rfl rfl ((S.gr hq).rd (i:=2) rfl) (jg om)) ?_;refine zP (λwq hq=>an D I i y wq om au ((S.gr hq).rd (i:=4) rfl)) ?_;refine eO (fh rfl (by unfold u7 at*;omega)) ?_;iterate 2 refine eO (jx rfl) ?_
   refine eO (sj fZ cR rfl rfl ao om om) ?_;refine fo (λwq hq=>eI iY rfl rfl ((S.gr hq).rd (i:=2) rfl) (jg om)) ?_;refine zE ?_;intro bn bb S;exact⟨m2-1,om,k+1,om,sl,S⟩
  ·obtain rfl:k=p1.length:=om;have aq:(p1++nx::U)[p1.length]?=some nx:=by rw[fU (fK _)];simp
   have aw:=L.bound hB nx om;have aR:=AD (d:=d) ai;have aW:=E2 hB i nx;rw[hV]at aw;refine zt ?_;refine zx ?_;refine dH (eI dB rfl rfl (S.rd (i:=0) rfl) (BA aq)) ?_;refine zD [0,1,2,3,4,5,6,7,8,9,10,11,12,13] [] ?_;refine fo (λwq hq=>eI iY rfl rfl ((S.gr hq).rd (i:=2) rfl) (jg om)) ?_;refine zP (λwq hq=>an D I i nx wq om ai ((S.gr hq).rd (i:=4) rfl)) ?_;refine eO (fh rfl (by unfold u7 at*;omega)) ?_;refine y ?_;refine y ?_;refine yx ?_;refine fo (λwq hq=>eI iY rfl rfl ((S.gr hq).rd (i:=2) rfl) (jg om)) ?_;refine zE ?_;intro bo bc S;refine zC (Xd (W:=_) (A:=D) (c:=I) nx (gw*gh) hw.1 om) ?_;intro bp be S;refine yb S ?_;intro aM bq bf S aL;refine ZP 2 0 S ?_;intro aC aD br S ar;refine zg ?_;have e1:eT ((pre++[i]).map (cz gw))++[ii (nx%gw:Nat),ii (nx/gw:Nat)]=eT ((pre++[i]++[nx]).map (cz gw)):=by simp[eT,cz]
   have S:=S.sub (.cons _ (.cons _ (.cons_cons _ (.cons_cons _ (.cons_cons _ (.cons_cons _ (.cons_cons _ .slnil)))))));rw[e1]at S;refine⟨_,om,pre++[i],nx,_,_,rfl,ai,by rw[cL];exact aa,by rw[cP,iV];omega,⟨rfl,rfl,rfl,se (by simp) rfl,rfl,trivial⟩,?_⟩;rw[cP,iV];exact S
 ·intro az;obtain rfl:i=b:=om;rw[I6 L]at aa;have hl:(ri gw V d i a).length=pre.length+1:=by rw[<-aa];simp
  refine zc ?_;refine pD ?_;repeat first|refine nC ?_|refine pE ?_
  show CW _ _ _ _ _ _;refine z ?_;refine z ?_;refine zx ?_;refine dH (eI dB rfl rfl (S.rd (i:=4) rfl) rfl) ?_;refine zx ?_;refine dH (eI iY rfl rfl (S.rd (i:=1) rfl) (jg om)) ?_;refine zg ?_;rw[aa]at S;refine tE rfl rfl rfl ⟨d,L,?_⟩;rw[hl];exact S.retNew (i:=0) (mk:=λs=>.tuple #[ii (d a),s,ii 0]) rfl
end
def Bj(v:Value)(i:Nat):Value:=match v with
 |.tuple a=>a.toList.getD i undef
 |_=>undef
def o9(F:Nat->Prop)(W:World)(L0:List HA)(b t:Nat)(cs:Nat->Value->List Value)(T:Value->List HA->Prop)(σ:List Value)(w:World):Prop:=match σ.getLast? with
 |none=>St F W w (.blk b t (cs 0 undef)::L0)
 |some v=>∃Q,T v Q/\St F W w (Q++(.blk b t (cs (σ.length-1) v)::L0))
section
variable{t:Nat}{cs:Nat->Value->List Value}{T:Value->List HA->Prop}{σ:List Value}
theorem o9.start(S:St F W w (.blk b t (cs 0 undef)::L0)):o9 F W L0 b t cs T [] w:=S
theorem o9.st(h:o9 F W L0 b t cs T σ w):St F W w L0:=by
 unfold o9 at h;split at h
 ·exact h.drop 1
 ·obtain⟨Q,_,S⟩:=h;exact S.tail.drop 1
section
variable{ps:String}
theorem wU(h:o9 F W L0 b t cs T [] w)(z:∀v,cs 0 v=cs 0 undef)(I:lj (args.map (ev e))=some vs)(D:St F W w L0->Fn P f vs w (λv w'=>∃Q,T v Q/\St No w w' Q)):gI P e ⟨d,.call ⟨.value (.func f),args.toArray,tys⟩,ty,ps,af,none⟩ w (λv w'=>o9 F W L0 b t cs T [v] w'):=by
 have S:St F W w (.blk b t (cs 0 undef)::L0):=h
 exact l4 I ((D (S.drop 1)).mono λv w'⟨y,hT,S2⟩=>⟨y,hT,by
  show St F W w' (y++(.blk b t (cs 0 v)::L0));rw[z];exact S.app S2⟩)
theorem rX{o O:Nat}{v x:Value}{p y:Operand}(h:o9 F W L0 b t cs T σ w)(L:σ.getLast?=some v)(J:σ.length=k+1)(hz:(sizeOf O).run P w=.ok 1 w)(Z:ev e p=.pointer (some ⟨b,o,none⟩))(hy:fz (ev e y)=some x)(hv:x.oneCell'=true)(D:x.cells=#[x])(hu:(cs k v)[o]?=some u)(hs:(cs k v).set o x=cs (k+1) v):gI P e ⟨d,.store O p y,ty,ps,af,none⟩ w (λu w'=>o9 F W L0 b t cs T (u::σ) w'):=by
 unfold o9 at h;rw[L,J,eA]at h;obtain⟨Q,V,S⟩:=h;have U:St F W w (.blk b t (cs k v)::(Q++L0)):=St.mid (B:=[_]) S
 have I:∀(u:Value)(w':World),St F W w' (HA.blk b t ((cs k v).set o x)::(Q++L0))->o9 F W L0 b t cs T (u::σ) w':=λu w' z=>by
  unfold o9;rw[List.getLast?_cons,L,fc,J,eA];refine⟨Q,V,?_⟩;rw[hs]at z;exact St.mid (A:=[_]) z
 exact gu rfl (iy (i:=0) U rfl hz Z hy hv D hu rfl (λw' z=>I _ w' z))
theorem o9.fin{v:Value}(h:o9 F W L0 b t cs T σ w)(z:σ.getLast?=some v)(y:σ.length=k+1):∃Q,T v Q/\St F W w (Q++(.blk b t (cs k v)::L0)):=by
 unfold o9 at h;rw[z,y,eA]at h;exact h
end
end
section
variable{v:Int}
theorem St.back{A B:List HA}{k:HA}(S:St F W w (k::(A++(B++tl)))):St F W w ((A++B)++(k::tl)):=by
 rw[<-cL]at S;exact S.perm_ ef.symm
theorem St.forth{A B:List HA}{k:HA}(S:St F W w ((A++B)++(k::tl))):St F W w (k::(A++(B++tl))):=by
 have:=S.perm_ ef;rwa[cL]at this
theorem St.regBack{a b c d k:HA}{A B:List HA}(S:St F W w (a::b::c::d::k::(A++(B++tl)))):St F W w (k::((a::A)++(B++tl))):=(S.sub (.cons_cons _ (.cons _ (.cons _ (.cons _ (cQ _)))))).swap
def uJ:List Value:=[ii 0,ii 0,.bool false,ii 0,ii 0,.slice none 0 0,.slice none 0 0,.slice none 0 0,.slice none 0 0,.slice none 0 0]
structure Va(gw gh:Nat)(V:List Int)(t:Int)where
 r:Nat->Nat
 A1:Option Addr
 c1:Nat
 A2:Option Addr
 c2:Nat
 n:Nat
 hr:I2 gw V t r
 hn:n=lQ V t r V.length
def Va.rep{gw gh:Nat}{V:List Int}{t:Int}(q:Va gw gh V t):gZ:={ code:=0,n:=q.n,values:=⟨q.A1,V.length,q.c1⟩,parts:=⟨q.A2,q.n,q.c2⟩ }
def Va.labs{gw gh:Nat}{V:List Int}{t:Int}(q:Va gw gh V t):HA:=.row 2 1 q.A1 V.length q.c1 (fB V.length (sN V t q.r))
def Va.row{gw gh:Nat}{V:List Int}{t:Int}(q:Va gw gh V t):HA:=.row 228 8 q.A2 q.n q.c2 (ko (j4 gw V t q.r V.length))
def Yq(gw gh:Nat)(V:List Int)(t:Int)(v:Value)(Q:List HA):Prop:=∃A1 c1 A2 c2 n,v=.tuple #[.slice A1 V.length c1,.slice A2 n c2,ii 0]/\∃r,I2 gw V t r/\n=lQ V t r V.length/\Q=[.row 228 8 A2 n c2 (ko (j4 gw V t r V.length)),.row 2 1 A1 V.length c1 (fB V.length (sN V t r))]
theorem Vb(t:Int)(hV:s.V.length<=1048576)(ho:o.k=14/\o.n=t) :
  pQ F W (s.L++M) s.sb o true (57) (λq:Va s.gw s.gh s.V t=>q.rep) (λq=>q.row::q.labs::(s.L++M)):=by
 intro kb tl w S;replace S:=St.forth S;obtain⟨ok,ab,ad,ac,ae,U,V,Z,aa,n,m,vs,bs,bd⟩:=o;dsimp only at ho;obtain⟨rfl,rfl⟩:=ho;replace S:St F W w (.blk kb 3 [ii 14]::(s.L++(M++tl))):=S;have ao:=(S.grid (i:=2) rfl).sw;have al:=(S.grid (i:=2) rfl).sh;have O:=λw G=>(aaN (W:=w) (gw:=s.gw) (gh:=s.gh) (cc:=s.cc) (p:=s.p) (A:=s.A) (cap:=s.cap) (bs:=s.bs) (Rs:=s.Rs) n G).mono (R':=λv w'=>∃Q,Yq s.gw s.gh s.V n v Q/\St No w w' Q) λv w'⟨r,hr,A1,c1,A2,c2,hv,S⟩=>⟨_,⟨A1,c1,A2,c2,_,hv,r,hr,rfl,rfl⟩,S⟩;refine zI func57 ?_;refine zN ?_;intro D av ah S;refine zN ?_;intro y aw ai S;refine zN ?_;intro J az aj S;refine zC (pj (S.blk (i:=6) rfl)) ?_;intro aA ak S;refine zH (C:=(o9 F W (.blk y 40 uJ::.blk D 46 (m5.cs ⟨14,ab,ad,ac,ae,U,V,Z,aa,n,m,vs,bs,bd⟩)::.blk kb 3 [ii 14]::(s.L++(M++tl))) J 40 (λk v=>match k with|0=>uJ|1=>uJ.set 6 (Bj v 0)|_=>(uJ.set 6 (Bj v 0)).set 7 (Bj v 1)) (Yq s.gw s.gh s.V n))) [6,12,14] [0,1,2,3,4,5,6,7,8,9,10,11,12,13,14] [15] (o9.start (S.gr (Gr.drew _))) ?_;refine zV (λτ wq z=>((o9.st z).blk (i:=3) rfl)) ?_;refine zV (λτ wq z=>((o9.st z).blk (i:=1) rfl)) ?_;refine de rfl rfl (λwq z=>wU z (λ_=>rfl) rfl (λS=>O wq (S.grid (i:=4) rfl))) ?_;rintro v6 w6 ⟨_,⟨A1,c1,A2,c2,I,rfl,r6,_,an,_⟩,_⟩;refine zR ?_;refine de rfl rfl (λwq z=>rX (k:=0) z rfl rfl (jN _) rfl rfl rfl rfl rfl rfl) ?_;rintro ap ar _;refine zR ?_;refine de rfl rfl (λwq z=>rX (k:=1) z rfl rfl (sizeOf36 _) rfl rfl rfl rfl rfl rfl) ?_;rintro aq au _;refine zY ?_;rintro wz hz;obtain⟨_,⟨_,_,_,_,_,e2,r,hr,L,rfl⟩,S⟩:=o9.fin (k:=2) hz rfl rfl;cases e2
 replace S:St F W wz (.row 228 8 A2 I c2 (ko (j4 s.gw s.V n r s.V.length))::.row 2 1 A1 s.V.length c1 (fB s.V.length (sN s.V n r))::.blk J 40 ((uJ.set 6 (.slice A1 s.V.length c1)).set 7 (.slice A2 I c2))::.blk y 40 uJ::.blk D 46 (m5.cs ⟨14,ab,ad,ac,ae,U,V,Z,aa,n,m,vs,bs,bd⟩)::.blk kb 3 [ii 14]::(s.L++(M++tl))):=S;refine zg ?_;have am:I<=s.V.length:=by rw[L];exact Cf _ _ _ _
 refine zS ?_;intro aB S;refine zC (vE (r:={ code:=0,n:=(I:Nat),values:=⟨A1,s.V.length,c1⟩,parts:=⟨A2,I,c2⟩ })) ?_;refine zS ?_;intro ag S;exact rA S ⟨⟨r,A1,c1,A2,c2,I,hr,L⟩,rfl,St.back (A:=_::_::s.L) (St.perm (S.sub (.cons_cons _ (.cons_cons _ (.cons _ (.cons _ (.cons _ (cQ _))))))) (ef (l₁:=[_,_])))⟩
end
end Go.Proofs.YtcalhocphkbbgaaGreatDoor
