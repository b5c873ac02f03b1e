/- A part of the proof that hachuretop.WholeCharts and hachuretop.WholeWater returns true at every input; no condition. -/
import Derived.Test.YtcalhocphkbbgaaGreatDoorKG
import Derived.Test.YtcalhocphkbbgaaGreatDoorKI
set_option maxRecDepth 100000
set_option maxHeartbeats 16000000
set_option linter.unusedVariables false
set_option linter.unusedSimpArgs false
namespace Go.Proofs.YtcalhocphkbbgaaGreatDoor
open Go.Proofs.Tryz Go.RowKit
variable{af:Array Edge}{Q':Exit->Act->World->Prop}{f:FuncId}{h h':HA}{a a':Int}{σ:List (Nat × Value)}{L' L1 M T:List HA}{hd todo:List Nat}{caps l l' τ:List Value}{N b b' c c1 c2 cB fid g gh gw i j k k' m n n2 p p2 q tb:Nat}{c' cc:Nat->Int}{bs o':Nat->Nat}{R':Nat->Nat->Bool}{Rs:Nat->Option Nat}{F:Nat->Prop}{e:Nat->Value}{o1 o2:Oper}{hi lo x:Operand}{A A1 A2 B o0:Option Addr}{d:Option Tmp}{P:Program}{α:Type}{dd:TypeDesc}{t ty:TypeId}{u v2 v3:Value}{R:Value->World->Prop}{W w w' wq:World}{C:World->Prop}
def CN(F:Nat->Prop)(W:World)(L:List HA)(T:Value->HA->Prop)(wq:World):List Value->Prop
 |[]=>St F W wq L
 |v::_=>∃h,T v h/\St F W wq (h::L)
theorem CN.st{L:List HA}{T:Value->HA->Prop}:∀{τ:List Value},CN F W L T wq τ->St F W wq L
 |[],h=>h
 |v::_,⟨_,_,S⟩=>S.drop 1
theorem CN.gr{L:List HA}{T:Value->HA->Prop}(g:Gr wq w'):∀{τ:List Value},CN F W L T wq τ->CN F W L T w' τ
 |[],h=>St.gr h g
 |v::_,⟨x,t,S⟩=>⟨x,t,S.gr g⟩
theorem qj{a u u':Tmp}{tb:TypeId}{o:Nat}{cs:List Value}(hu:P.underlying t=some dd)(hd:sM dd=true)(hz:(sizeOf t).run P w=.ok n w)(hx:e a=.pointer (some ⟨b,o,none⟩))(hB:eL w b tb l)(hl:lj ((l.drop o).take n)=some cs)(hn:cs.length=n)(h2:fz (e u)=some v2)(h3:fz (e u')=some v3)(hR:R (.tuple #[.agg cs.toArray,v2,v3]) w):QF P #[.cell a t,.tmp u,.tmp u'] R .ret e w :=
 ⟨_,λfn tmps hr hg=>by
  have h1:=ly (o:=default) (fx (P:=P) (d:=none) (ty:=0) (ps := "") (af:=#[]) (e:=λ_=>.pointer (some ⟨b,o,none⟩)) (x:=.tmp 0) hu hd hz rfl hB hl hn);have g1:=hg a;have g2:=hg u;have g3:=hg u';rw[hx,dN]at g1;rw[m9 h2,dN]at g2;rw[m9 h3,dN]at g3;simp[results,hr,g1,g2,g3,asAddr,h1],hR⟩
def CD(gw:Nat)(z:Int×Int):Nat:=z.2.toNat * gw+z.1.toNat
def Xj(gw gh:Nat)(V:List Int)(ps:List Nat)(W:World):Value->World->Prop:=λv w' =>
 ∃A' c' A2 c2,v=.tuple #[.agg #[ii gw,.slice A' (gw*gh) c'],.slice A2 ps.length c2,ii 0]/\gH w' 2 1 A' (gw*gh) c' (cY V)/\tr W A'/\gH w' 3 1 A2 ps.length c2 (lR ps)/\tr W A2/\(∀g,jv A' g->¬jv A2 g)/\Gr W w'
section
variable{cap:Nat}
theorem TY(zs:List (Int×Int))(hz:zs.length<=16)(hG:eJ W p gw gh cc A cap bs Rs)(hC:Rd W B (eT zs)) :
  Fn prog 125 [pt p,.slice B zs.length cB] W (λv w'=>(zs.all (mD gw gh)=true->Xj gw gh (dw gw gh cc) (zs.map (CD gw)) W v w') /\
   (zs.all (mD gw gh)=false->dp (.tuple #[.agg #[ii 0,.slice none 0 0],.slice none 0 0,ii 4]) W v w')):=by
 have hw:=hG.sw;have hh:=hG.sh;have hn:gw*gh<=1024*1024:=fy hw.2 hh.2;have e1:((gw:Int)-1)=((gw-1:Nat):Int):=om;have e2:((gh:Int)-1)=((gh-1:Nat):Int):=om
 have hval:∀w,Gr W w->Fn prog 47 [pt p,.agg #[ii 0,ii 0,ii (gw-1),ii (gh-1)]] w (jc (λv=>.tuple #[v,ii 0]) 2 1 (gw*gh) (cY (dw gw gh cc)) w):=λw g=>by
  have:=iz (W:=w) 0 0 (gw-1) (gh-1) om om (hG.gr g);rw[<-e1,<-e2,(om:gw-1+1-0=gw),(om:gh-1+1-0=gh),wJ,cD gh gw]at this;exact this
 have S:=St.start W;refine zI func125 ?_;refine zN ?_;intro b_res w2_ g2_ S;refine zC (mC p gw gh _ _ (hG.top.gr S.out)) ?_;intro w3_ g3_ S;refine zN ?_;intro b_l w5_ g5_ S;refine zS ?_;intro w6_ S;have S:=S.pushNil 3 1
 refine dl (λm e w=>∃(k:Nat)(A_ps:Option Addr)(c_ps:Nat),k+m=zs.length/\SL e [(0,pt p),(4,pt b_res),(9,pt b_l),(10,.slice A_ps k c_ps),(25,.slice B zs.length cB),(26,ii zs.length),(27,ii k)] /\
  (zs.take k).all (mD gw gh)=true/\St No W w [.row 3 1 A_ps k c_ps (lR ((zs.take k).map (CD gw))),.blk b_l 236 [ii gw,.slice none 0 0],.blk b_res 236 [ii 0,.slice none 0 0]]) zs.length
  ⟨0,_,_,om,sl,rfl,S⟩ ?_
 clear S;rintro m e w ⟨k,A_ps,c_ps,hk,hsl,hall,S⟩;rw[hsl.fold];refine zB ?_ ?_
 ·intro hc;have hkz:k<zs.length:=om;obtain⟨z,hzk,htk⟩:∃z,zs[k]?=some z/\zs.take (k+1)=zs.take k++[z]:=⟨zs[k]'hkz,fw hkz,ip hkz⟩;have hat:((eT zs).drop ((k:Int).toNat * 2)).take 2=[ii z.1,ii z.2]:=by rw[b7];exact mS hzk
  have sa_B:dO B:=hC.someA (by rw[xl];omega);cases hin:mD gw gh z with
  |false =>
   have hno:¬(0<=z.1/\z.1<gw/\0<=z.2/\z.2<gh):=λh=>by rw[jT.2 h]at hin;cases hin
   refine zg ?_;refine ZU (hC.gr S.out) hat ?_;refine zN ?_;intro b_c w8_ g8_ S;refine zS ?_;intro w9_ S;refine zC (Fq (W:=_) z.1 z.2 hno (hG.gr S.out)) ?_;refine zS ?_;intro w11_ S;refine qj oa rfl (MD _) rfl (S.blk (i:=3) rfl) rfl rfl rfl rfl ⟨λh=>?_,λ_=>⟨rfl,S.out⟩⟩;have:=dh.1 h z (dD hzk);rw[hin]at this;cases this
  |true =>
   have hin':=jT.1 hin;obtain⟨zx,zy⟩:=z;dsimp only at hin' hat;obtain⟨x,rfl⟩:=cJ hin'.1;obtain⟨y,rfl⟩:=cJ hin'.2.2.1;have em:(y:Int)*gw=((y*gw:Nat):Int):=by push_cast;rfl
   have ea:((y*gw:Nat):Int)+(x:Nat)=((y*gw+x:Nat):Int):=by push_cast;rfl
   have hyg:(y+1)*gw<=gh*gw:=cI _ om;rw[cX,cD gh]at hyg;refine zg ?_;refine ZU (hC.gr S.out) hat ?_;refine zN ?_;intro b_c w13_ g13_ S;refine zS ?_;intro w14_ S;refine zC (MI x y om om (hG.gr S.out)) ?_;intro w15_ g15_ S;refine zg ?_;rw[em];refine zg ?_;rw[ea];refine Mv iF fa tY rfl rfl rfl rfl rfl rfl S ?_;intro A_lit w17_ g17_ S sa_lit;refine ZP 2 0 S ?_;intro A_ps18 c_ps18 w18_ S sa_ps;refine zg ?_;have S:=S.sub (.cons _ (.cons _ (.cons_cons _ (.cons_cons _ (.cons_cons _ .slnil)))));have hid:CD gw ((x:Int),(y:Int))=y*gw+x:=by simp[CD]
   have e3:lR ((zs.take k).map (CD gw))++[ii ((y*gw+x:Nat):Int)]=lR ((zs.take (k+1)).map (CD gw)):=by rw[htk,fq,i7,hid];simp[lR]
   rw[e3]at S;refine⟨m-1,om,k+1,_,_,om,sl,?_,S⟩;rw[htk,List.all_append,hall];simp[hin]
 ·intro hc;obtain rfl:k=zs.length:=om;rw[i6]at hall S;refine zC (uo p gw gh hw.2 hh.2 _ w (hG.top.gr S.out)) ?_;intro w19_ g19_ S;refine zK (hval _ S.out) ?_;rintro _ w20_ ⟨A_vs,c_vs,rfl,hR_vs,hf_vs,g20_⟩;have S:=S.pushRow hR_vs hf_vs g20_;refine zS ?_;intro w22_ S;refine qj oa rfl (MD _) rfl (S.blk (i:=3) rfl) rfl rfl rfl rfl ⟨λ_=>?_,λh=>by rw[hall]at h;cases h⟩
  have hlm:(zs.map (CD gw)).length=zs.length:=by simp
  exact⟨_,_,_,_,by rw[hlm],S.row (i:=0) rfl,iC.fresh S (i:=0) rfl,by rw[hlm];exact S.row (i:=1) rfl,iC.fresh S (i:=1) rfl,λg hg=>S.sep.2.1 g hg _ eB,S.out⟩
end
section
variable{o o':Nat->α}{R:α->α->Bool}{a:Nat}
def ND(o:Nat->α)(i j:Nat):Nat->α:=λk=>if k=i then o j else if k=j then o i else o k
theorem Gj:ND o i j i=o j:=a7 rfl
theorem NE:ND o i j j=o i:=by
 unfold ND;by_cases h:j=i
 ·rw[a7 h,h]
 ·rw[a8 h,a7 rfl]
theorem xq(h1:k≠i)(h2:k≠j):ND o i j k=o k:=by unfold ND;rw[a8 h1,a8 h2]
inductive PS(a b:Nat)(o:Nat->α):(Nat->α)->Prop
 |refl:PS a b o o
 |swap {o':Nat->α} (i j:Nat) (hi:a<=i/\i<b) (hj:a<=j/\j<b) (h:PS a b o o'):PS a b o (ND o' i j)
theorem PS.trans{o2:Nat->α}(h:PS a b o o')(h':PS a b o' o2):PS a b o o2:=by
 induction h' with
 |refl=>exact h
 |swap i j hi v _ ih=>exact .swap i j hi v ih
theorem PS.wide{a':Nat}(h:PS a b o o')(v:a'<=a)(y:b<=b'):PS a' b' o o':=by
 induction h with
 |refl=>exact .refl
 |swap i j hi z _ ih=>exact .swap i j ⟨om,om⟩ ⟨om,om⟩ ih
theorem PS.out(h:PS a b o o')(y:k<a\/b<=k):o' k=o k:=by
 induction h with
 |refl=>rfl
 |swap i j hi v _ ih=>rw[xq om om,ih]
theorem PS.img(h:PS a b o o'):∀{k:Nat},a<=k->k<b->∃x,a<=x/\x<b/\o' k=o x:=by
 induction h with
 |refl=>exact λh1 h2=>⟨_,h1,h2,rfl⟩
 |@swap o' i j hi hj _ ih =>
  intro k h1 h2;by_cases v:k=i
  ·subst v;rw[Gj];exact ih hj.1 hj.2
  ·by_cases y:k=j
   ·subst y;rw[NE];exact ih hi.1 hi.2
   ·rw[xq v y];exact ih h1 h2
theorem PS.pre(h:PS a b o o'):∀{k:Nat},a<=k->k<b->∃x,a<=x/\x<b/\o' x=o k:=by
 induction h with
 |refl=>exact λh1 h2=>⟨_,h1,h2,rfl⟩
 |@swap o' i j hi hj _ ih =>
  intro k h1 h2;obtain⟨x,y,z,v⟩:=ih h1 h2;by_cases D:x=i
  ·exact⟨j,hj.1,hj.2,by rw[NE,<-D];exact v⟩
  ·by_cases I:x=j
   ·exact⟨i,hi.1,hi.2,by rw[Gj,<-I];exact v⟩
   ·exact⟨x,y,z,by rw[xq D I];exact v⟩
structure Wk(R:α->α->Bool):Prop where
 asym:∀x y,R x y=true->R y x=false
 trans:∀x y z,R y x=false->R z y=false->R z x=false
theorem Wk.refl(h:Wk R)(x:α):R x x=false:=by
 cases v:R x x with
 |false=>rfl
 |true=>have:=h.asym x x v;rw[v]at this;cases this
def SO(R:α->α->Bool)(o:Nat->α)(a b:Nat):Prop:=∀x y,a<=x->x<y->y<b->R (o y) (o x)=false
theorem SO.le(z:Wk R)(h:SO R o a b){x y:Nat}(h1:a<=x)(h2:x<=y)(v:y<b):R (o y) (o x)=false:=by
 by_cases e:x=y
 ·subst e;exact z.refl _
 ·exact h x y h1 om v
theorem SO.sub{a':Nat}(h:SO R o a b)(z:a<=a')(D:b'<=b):SO R o a' b':=λx y h1 h2 v=>h x y om h2 om
theorem SO.congr(h:SO R o a b)(z:∀k,a<=k->k<b->o' k=o k):SO R o' a b:=λx y h1 h2 v=>by
 rw[z x h1 om,z y om v];exact h x y h1 h2 v
theorem SO.one(h:b<=a+1):SO R o a b:=λx y h1 h2 v=>by omega
theorem SO.join(z:Wk R)(h1:SO R o a m)(h2:SO R o m b)(h:a<m->m<b->R (o m) (o (m-1))=false):SO R o a b:=λx y D v I=>by
 by_cases J:y<m
 ·exact h1 x y D v J
 ·by_cases L:m<=x
  ·exact h2 x y L v I
  ·exact z.trans _ _ _ (z.trans _ _ _ (h1.le z D (show x<=m-1 by omega) om) (h om om)) (h2.le z (fK m) om I)
structure NF(R:α->α->Bool)(o:Nat->α)(a i j:Nat):Prop where
 rest:∀x y,a<=x->x<y->y<=i->x≠j->y≠j->R (o y) (o x)=false
 behind:∀y,j<y->y<=i->R (o y) (o j)=false
theorem NF.init(h:SO R o a i):NF R o a i i:=⟨λx y h1 h2 v z D=>h x y h1 h2 om,λy h1 h2=>by omega⟩
theorem NF.step(S:Wk R)(h:NF R o a i j)(U:a<j)(L:j<=i)(O:R (o j) (o (j-1))=true):NF R (ND o j (j-1)) a i (j-1):=by
 refine⟨λx y h1 h2 D I J=>?_,λy h1 h2=>?_⟩
 ·by_cases v:y=j
  ·subst v;rw[Gj,xq om I];exact h.rest x (y-1) h1 om om om om
  ·by_cases z:x=j
   ·subst z;rw[Gj,xq v J];exact h.rest (x-1) y om om D om v
   ·rw[xq v J,xq z I];exact h.rest x y h1 h2 D z v
 ·rw[NE];by_cases v:y=j
  ·subst v;rw[Gj];exact S.asym _ _ O
  ·rw[xq v om];exact h.behind y om h2
theorem NF.done(J:Wk R)(h:NF R o a i j)(I:j<=i)(D:a<j->R (o j) (o (j-1))=false):SO R o a (i+1):=λx y h1 h2 L=>by
 by_cases z:y=j
 ·subst z;by_cases v:x=y-1
  ·rw[v];exact D om
  ·exact J.trans _ _ _ (h.rest x (y-1) h1 om om om om) (D om)
 ·by_cases v:x=j
  ·subst v;exact h.behind y h2 om
  ·exact h.rest x y h1 h2 om v z
theorem PS.halves{z:Nat}{o1 o2:Nat->α}(h:∀x y,a<=x->x<z->z<=y->y<b->R (o y) (o x)=false)(hm:a<=z/\z<=b)(p1:PS a z o o1)(p2:PS z b o1 o2)(s1:SO R o1 a z)(s2:SO R o2 z b):SO R o2 a b:=λx y V I Z=>by
 by_cases c1:y<z
 ·have J:=p2.out (k:=x) (.inl om);have L:=p2.out (k:=y) (.inl c1);rw[J,L];exact s1 x y V I c1
 ·by_cases c2:z<=x
  ·exact s2 x y c2 I Z
  ·obtain⟨u,O,S,hu⟩:=p1.img V (show x<z by omega);obtain⟨v,D,U,hv⟩:=p2.img (show z<=y by omega) Z;have J:=p2.out (k:=x) (.inl om);have L:=p1.out (k:=v) (.inr D);rw[J,hu,hv,L];exact h u v O S D U
end
section
variable{o o' o0:Nat->α}{R R':α->α->Bool}{a t B:Nat}
theorem SO.high(v:Wk R)(h:SO R o a b){x y:Nat}{z:α}(h1:a<=x)(h2:x<=y)(D:y<b)(I:R (o x) z=false):R (o y) z=false :=
 v.trans _ _ _ I (h.le v h1 h2 D)
theorem SO.low(I:Wk R)(h:SO R o a b){x y:Nat}{z:α}(h1:a<=x)(h2:x<=y)(D:y<b)(v:R (o y) z=true):R (o x) z=true:=by
 cases J:R (o x) z with
 |true=>rfl
 |false=>rw[h.high I h1 h2 D J]at v;cases v
theorem SO.over(v:Wk R)(h:SO R o a b){x y:Nat}{z:α}(h1:a<=x)(h2:x<=y)(D:y<b)(I:R z (o y)=false):R z (o x)=false :=
 v.trans _ _ _ (h.le v h1 h2 D) I
theorem SO.under(I:Wk R)(h:SO R o a b){x y:Nat}{z:α}(h1:a<=x)(h2:x<=y)(D:y<b)(v:R z (o x)=true):R z (o y)=true:=by
 cases J:R z (o y)with
 |true=>rfl
 |false=>rw[h.over I h1 h2 D J]at v;cases v
def XC(R R':α->α->Bool)(o:Nat->α)(a m b:Nat):Prop:=∀x y,a<=x->x<m->m<=y->y<b->R (o y) (o x)=R' (o y) (o x)
theorem XC.ps{d:Nat}(h:XC R R' o a m b)(v:PS c d o o')(hd:b<=c\/d<=a):XC R R' o' a m b:=λx y h1 h2 z D=>by
 rw[v.out (k:=x) om,v.out (k:=y) om];exact h x y h1 h2 z D
theorem SO.ps{d:Nat}(h:SO R o a b)(v:PS c d o o')(hd:b<=c\/d<=a):SO R o' a b:=h.congr λk h1 h2=>v.out om
end
section
variable{o:Nat->Nat}{R:Nat->Nat->Bool}{a t B:Nat}
structure ER(o:Nat->Nat)(t:Nat):Prop where
 lo:∀x,x<t->o x<t
 hi:∀y,t<=y->t<=o y
theorem ER.id_(t:Nat):ER (λi=>i) t:=⟨λx h=>h,λy h=>h⟩
theorem ER.ps(h:ER o t)(D:PS a b o o')(U:t<=a\/b<=t):ER o' t:=by
 refine⟨λx O=>?_,λy S=>?_⟩
 ·by_cases v:a<=x/\x<b
  ·obtain⟨z,J,L,I⟩:=D.img v.1 v.2;rw[I];exact h.lo z om
  ·rw[D.out om];exact h.lo x O
 ·by_cases v:a<=y/\y<b
  ·obtain⟨z,J,L,I⟩:=D.img v.1 v.2;rw[I];exact h.hi z om
  ·rw[D.out om];exact h.hi y S
def XA(R R':Nat->Nat->Bool)(n:Nat):Prop:=∀x y,x<y->y<n->R y x=R' y x
theorem XA.xc(h:XA R R' n)(v:ER o m)(I:ER o n)(S:b<=n):XC R R' o a m b:=λx y h1 h2 D O=>by
 have J:=v.lo x h2;have L:=v.hi y D;have z:=I.lo y om;exact h _ _ om z
structure Rj(R':Nat->Nat->Bool)(n B:Nat)(o:Nat->Nat)(q:Nat):Prop where
 ps:PS 0 n (λi=>i) o
 big:∀p,ER o (p*(2*B))
 small:∀p,2*q<=p->ER o (p*B)
 done:∀p,p<q->SO R' o (p*(2*B)) (min (p*(2*B)+2*B) n)
 todo:∀p,2*q<=p->SO R' o (p*B) (min (p*B+B) n)
structure Wg(R':Nat->Nat->Bool)(n B:Nat)(o:Nat->Nat):Prop where
 ps:PS 0 n (λi=>i) o
 spl:∀p,ER o (p*B)
 so:∀p,SO R' o (p*B) (min (p*B+B) n)
theorem Wg.start(h:Wg R' n B o):Rj R' n B o 0 :=
 ⟨h.ps,λp=>by rw[<-oc];exact h.spl _,λp _=>h.spl p,λp v=>by omega,λp _=>h.so p⟩
theorem Rj.step(h:Rj R' n B o j)(L:j*(2*B)+B<n)(I:c=min (j*(2*B)+2*B) n)(y:PS (j*(2*B)) c o o')(J:SO R' o' (j*(2*B)) c):Rj R' n B o' (j+1):=by
 have D:∀p,2*(j+1)<=p->j*(2*B)+2*B<=p*B:=λp y=>by
  have h2:=cI B y;have h1:2*(j+1)*B=j*(2*B)+2*B:=by rw[cD 2 (j+1),oc,cX]
  omega
 have z:∀p,p<j->p*(2*B)+2*B<=j*(2*B):=λp y=>by
  have h2:=cI (2*B) (show p+1<=j from y);rw[cX]at h2;omega
 refine⟨h.ps.trans (y.wide (ib _) om),λp=>?_,λp v=>?_,λp v=>?_,λp v=>?_⟩
 ·refine(h.big p).ps y ?_;by_cases v:p<=j
  ·exact .inl (cI _ v)
  ·right;have:=cI (2*B) (show j+1<=p by omega);rw[cX]at this;omega
 ·exact(h.small p om).ps y (.inr (by have:=D p v;omega))
 ·by_cases e:p=j
  ·subst e;rw[<-I];exact J
  ·exact(h.done p om).ps y (.inl (by have:=z p om;omega))
 ·exact(h.todo p om).ps y (.inr (by have:=D p v;omega))
theorem Rj.fin(h:Rj R' n B o j)(z:n<=j*(2*B)+B):Wg R' n (2*B) o:=by
 refine⟨h.ps,h.big,λp=>?_⟩;by_cases y:p<j
 ·exact h.done p y
 ·have h1:=h.todo (2*p) om;have v:2*p*B=p*(2*B):=by rw[cD 2 p,oc]
  rw[v]at h1;have h2:=cI (2*B) (show j<=p by omega);exact h1.sub (fK _) om
structure NG(R':Nat->Nat->Bool)(n B:Nat)(o:Nat->Nat)(q:Nat):Prop where
 ps:PS 0 n (λi=>i) o
 spl:∀p,ER o (p*B)
 so:∀p,p<q->SO R' o (p*B) (min (p*B+B) n)
 left:∀k,q*B<=k->o k=k
theorem NG.start:NG R' n B (λi=>i) 0:=⟨.refl,λ_=>ER.id_ _,λp v=>by omega,λ_ _=>rfl⟩
theorem NG.step(h:NG R' n B o j)(D:c=min (j*B+B) n)(I:j*B<=n)(y:PS (j*B) c o o')(J:SO R' o' (j*B) c):NG R' n B o' (j+1):=by
 have e:(j+1)*B=j*B+B:=cX j B;refine⟨h.ps.trans (y.wide (ib _) om),λp=>?_,λp v=>?_,λk L=>?_⟩
 ·refine(h.spl p).ps y ?_;by_cases v:p<=j
  ·exact .inl (cI _ v)
  ·right;have:=cI B (show j+1<=p by omega);omega
 ·by_cases z:p=j
  ·subst z;rw[<-D];exact J
  ·refine(h.so p om).ps y (.inl ?_);have h2:=cI B (show p+1<=j by omega);rw[cX]at h2;omega
 ·rw[y.out om];exact h.left k om
theorem NG.fin(h:NG R' n B o j)(D:n<=j*B):Wg R' n B o:=by
 refine⟨h.ps,h.spl,λp=>?_⟩;by_cases v:p<j
 ·exact h.so p v
 ·have h2:=cI B (show j<=p by omega);exact λx y h1 h2 z=>by omega
end
section
variable{enc:Nat->List Value}{x:Nat}{o:Nat->Nat}{v:Value}
theorem PS.lt{a:Nat}(h:PS a b o o')(L:b<=n)(y:∀i,i<n->o i<n):∀i,i<n->o' i<n:=λi hi=>by
 by_cases v:a<=i/\i<b
 ·obtain⟨z,I,J,D⟩:=h.img v.1 v.2;rw[D];exact y z om
 ·rw[h.out om];exact y i hi
end
theorem T6{x:Code}{Q':Exit->(Nat->Value)->World->Prop}(M:(Nat->Value)->World->Prop)(h1:CW P N x (wY M (λ_ _ _=>False)) e w)(h2:∀v w',M v w'->Q' .normal v w'):CW P N x Q' e w :=
 h1.mono λy e w h=>by
  cases y with
  |normal=>exact h2 e w h
  |_=>exact h.elim
def Xm(F:Nat->Prop)(W:World)(n fid:Nat)(caps:List Value)(val:Nat->Value)(cv:Nat->Nat->Int):Prop :=
 ∀w,Fr F W w->∀x y,x<n->y<n->Fn prog fid ([]++[val x,val y]++caps) w (dp (ii (cv x y)) w)
theorem Xm.fr{v:Nat->Value}{cv:Nat->Nat->Int}(h:Xm F W n fid caps v cv)(k:Fr F W w):Xm F w n fid caps v cv :=
 λw' k' x y z D=>h w' (k.trans k' (λ_ h=>.inl h)) x y z D
@[reducible] def YM(i:Nat):List Value:=[ii (i:Nat)]
@[reducible] def YN(i:Nat):Value:=ii (i:Nat)
section
variable{cap:Nat}{V:List Int}
theorem T7(i:Nat)(ad:1<=gw/\gw<=1048576)(hV:V.length=gw*gh)(hm:gw*gh<=1048576)(hi:i<gw*gh)(hA:Rd W A (cY V)) :
  Fn prog 259 [.agg #[ii gw,.slice A (gw*gh) c,.slice B n2 c2],ii i] W (dp (ii (kW gw V i:Nat)) W):=by
 have em:(i:Int)%gw=((i%gw:Nat):Int):=by push_cast;rfl
 have ak:dO A:=hA.someA (by rw[gn];omega);have I:∀i,i<gw*gh->(cY V)[(i:Int).toNat * 1]?=some (ii (V.getD i 0)):=λi hi=>by rw[cG,b7];exact gc (kr om)
 have d0:decide ((i:Int)>=gw)=FC gw (gw*gh) i 0:=by show _=decide _;rw[iq,iu,iu];omega
 have d1:decide (((i%gw:Nat):Int)>0)=FC gw (gw*gh) i 1:=by show _=decide _;rw[iq,iu,iu];omega
 have d2:decide (((i%gw:Nat):Int)<(gw:Int)-1)=FC gw (gw*gh) i 2:=by show _=decide _;rw[iq,iu,iu];omega
 have d3:decide ((i:Int)+gw<(gw*gh:Nat))=FC gw (gw*gh) i 3:=by show _=decide _;rw[iq,iu,iu];omega
 refine yI func259 ?_;refine yA ?_;intro Z ag S;refine pF (C:=λwq=>Gr ag wq) [0,1,2,3,4,5,6,7,8,9,10,11,12,13,14,15,16,17,18,19,20,21,22,23,24,25,26,27,28,29,30,31,32,33,34,35,36,37,38,39,40,41,42] [] (by kernel_rfl) (by kernel_rfl) (Gr.drew _) ?_;simp only[iS,dK,dR];refine y ?_;refine y ?_;refine fo (λwq z=>cV dB rfl rfl ((S.gr z).blk (i:=0) rfl) rfl) ?_;refine y ?_;rw[d0];refine eO (jx rfl) ?_;refine eO (du kN rfl fa rfl rfl) ?_;refine fo (λwq z=>cV dB rfl rfl ((S.gr z).blk (i:=0) rfl) rfl) ?_;refine eO (fh rfl om) ?_;refine eO (kL (pl:=[(0,1),(1,1)]) ZY uX (λw=>by kernel_rfl) rfl rfl) ?_;refine eO (jx rfl) ?_;refine eO (du kN rfl fa rfl rfl) ?_;refine fo (λwq z=>cV dB rfl rfl ((S.gr z).blk (i:=0) rfl) rfl) ?_;refine eO (xd rfl rfl om om) ?_;rw[em];refine eO (jx rfl) ?_;rw[d1];refine eO (jx rfl) ?_;refine eO (fh rfl om) ?_;refine eO (kL (pl:=[(0,1),(1,1)]) ZY uX (λw=>by kernel_rfl) rfl rfl) ?_;refine eO (jx rfl) ?_;refine eO (du kN rfl fa rfl rfl) ?_;refine fo (λwq z=>cV dB rfl rfl ((S.gr z).blk (i:=0) rfl) rfl) ?_;refine eO (xd rfl rfl om om) ?_;rw[em];refine zQ ?_;rw[d2];refine zQ ?_;rw[d3];refine zQ ?_;refine eO (Ck aae x8 zeroValue438 rfl rfl) ?_;refine zE ?_;intro av aq S
 refine dl (λm e w=>∃k:Nat,k+m=4/\SL e [(2,pt Z),(5,ii (yh V i (Cl gw (gw*gh) i k):Nat)),(50,.agg (Tz gw (gw*gh) i).toArray),(51,ii k)]/\yh V i (Cl gw (gw*gh) i k)<gw*gh/\St No W w [.blk Z 232 [ii gw,.slice A (gw*gh) c,.slice B n2 c2]]) 4
  ⟨0,rfl,sl,hi,S⟩ ?_
 clear S d0 d1 d2 d3;rintro m e w ⟨k,hk,ae,L,S⟩;rw[ae.fold];refine zB ?_ ?_
 ·intro hc;have aa:k<4:=om;have z:=MQ (gw:=gw) (n:=gw*gh) (i:=i) k aa;have v:yh V i (Cl gw (gw*gh) i (k+1))=yh V (yh V i (Cl gw (gw*gh) i k)) (Ky gw (gw*gh) i k):=TA _ _ _ _;generalize yh V i (Cl gw (gw*gh) i k)=b at *;rcases QA ad.1 hi k aa with⟨U,a,ha,O,J⟩|⟨U,J⟩
  ·rw[U,ha]at z;rw[J]at v;have D:yh V b [a]=if V.getD a 0<V.getD b 0 then a else b:=rfl;rw[D]at v;by_cases hl:V.getD a 0<V.getD b 0
   ·rw[a7 hl]at v;refine zg ?_;refine dU (rR aae ZY x8 rfl rfl rfl om om z) ?_;refine yA ?_;intro _ _ S;refine zD [0,1,2,3,4,5,6,7,8,9,10,11,12,13,14,15] [] ?_;try (refine fO rfl ?_;refine fo (λwq z=>eI iY rfl rfl (hA.gr (S.gr z).out) (I a O)) ?_)
    refine zQ ?_;try (refine fO rfl ?_;refine fo (λwq z=>eI iY rfl rfl (hA.gr (S.gr z).out) (I b L)) ?_)
    refine zE ?_;intro aw ar S;exact⟨m-1,om,k+1,om,⟨rfl,ie (by rw[v]),rfl,ie om,trivial⟩,by rw[v];exact O,S.drop 1⟩
   ·rw[a8 hl]at v;refine zg ?_;refine dU (rR aae ZY x8 rfl rfl rfl om om z) ?_;refine zN ?_;intro ab az au S;refine zS ?_;intro al S;refine zD [0,1,2,3,4,5,6,7,8,9,10,11,12,13,14,15] [] ?_;try (refine fO rfl ?_;refine fo (λwq z=>eI iY rfl rfl (hA.gr (S.gr z).out) (I a O)) ?_)
    refine zQ ?_;try (refine fO rfl ?_;refine fo (λwq z=>eI iY rfl rfl (hA.gr (S.gr z).out) (I b L)) ?_)
    refine zE ?_;intro am ah S;exact⟨m-1,om,k+1,om,⟨rfl,ie (by rw[v]),rfl,ie om,trivial⟩,by rw[v];exact L,S.drop 1⟩
  ·rw[U]at z;rw[J]at v;have D:yh V b []=b:=rfl;rw[D]at v;refine zg ?_;refine dU (rR aae ZY x8 rfl rfl rfl om om z) ?_;refine zN ?_;intro ab an ai S;refine zS ?_;intro ao S;refine zF [0,1,2,3,4,5,6,7,8,9,10,11,12,13,14,15] [] ?_;intro ap aj S;exact⟨m-1,om,k+1,om,⟨rfl,ie (by rw[v]),rfl,ie om,trivial⟩,by rw[v];exact L,S.drop 1⟩
 ·intro hc;obtain rfl:k=4:=om;have ac:kW gw V i=yh V i (Cl gw (gw*gh) i 4):=by rw[MP];unfold kW;rw[hV]
  rw[<-ac]at *;exact zZ
theorem Wh(i n:Nat)(L:1<=gw)(hi:i<=1048576):Fn prog 124 [.agg #[ii gw,.slice A n c,.slice B n2 c2],ii i] W (dp (.agg #[ii (i%gw:Nat),ii (i/gw:Nat)]) W):=by
 have z:(i:Int)%gw=((i%gw:Nat):Int):=by push_cast;rfl
 have D:(i:Int)/gw=((i/gw:Nat):Int):=by push_cast;rfl
 have S:=St.start W;refine zI func124 ?_;refine zN ?_;intro v O I S;refine zN ?_;intro y U J S;refine zD [0,1,2,3,4,5,6,7] [8,9] ?_;rw[z];refine zQ ?_;rw[D];refine zE ?_;refine zS ?_;intro V S;exact rA S ⟨rfl,S.out⟩
end
def NH(gw gh:Nat)(V:List Int)(mk:Value->Value)(W:World)(v:Value)(w':World):Prop :=
 ∃A1 c1 A2 c2,v=mk (.agg #[ii gw,.slice A1 (gw*gh) c1,.slice A2 (gw*gh) c2])/\gH w' 2 1 A1 (gw*gh) c1 (cY V)/\tr W A1/\gH w' 3 1 A2 (gw*gh) c2 (fB (gw*gh) (kW gw V))/\tr W A2/\(∀g,jv A1 g->¬jv A2 g)/\Gr W w'
section
variable{cap:Nat}
theorem T8(Z:eJ W p gw gh cc A cap bs Rs) :
  Fn prog 192 [pt p] W (NH gw gh (dw gw gh cc) (λl=>.tuple #[l,ii 0]) W):=by
 have hw:=Z.sw;have hh:=Z.sh;have hn:gw*gh<=1024*1024:=fy hw.2 hh.2;have O:((gw:Int)-1)=((gw-1:Nat):Int):=om;have e2:((gh:Int)-1)=((gh-1:Nat):Int):=om
 have ab:∀w,Gr W w->Fn prog 47 [pt p,.agg #[ii 0,ii 0,ii (gw-1),ii (gh-1)]] w (jc (λv=>.tuple #[v,ii 0]) 2 1 (gw*gh) (cY (dw gw gh cc)) w):=λw g=>by
  have:=iz (W:=w) 0 0 (gw-1) (gh-1) om om (Z.gr g);rw[<-O,<-e2,(om:gw-1+1-0=gw),(om:gh-1+1-0=gh),wJ,cD gh gw]at this;exact this
 have hV:=qf gw gh cc;have S:=St.start W;refine zI func192 ?_;refine zN ?_;intro y ar al S;refine zC (mC p gw gh _ _ (Z.top.gr S.out)) ?_;intro au am S;refine zC (uo p gw gh hw.2 hh.2 _ _ (Z.top.gr S.out)) ?_;intro av an S;refine zK (ab _ S.out) ?_;rintro _ aw ⟨D,I,rfl,J,L,ac⟩;have S:=S.pushRow J L ac;refine zg ?_;refine nD iF rN rfl rfl rfl (n:=gw*gh) (c:=gw*gh) om om om om S ?_;intro z az ao S ae;refine zN ?_;intro U aA ap S;refine zS ?_;intro ah S;generalize dw gw gh cc=V at *
 have hz:List.replicate (gw*gh) (ii 0)=fB (gw*gh) (λj=>if j<0 then kW gw V j else 0):=by
  unfold fB;simp only[sP,pW];rw[pd,gk];rfl
 rw[hz]at S
 refine dl (λm e w=>∃k:Nat,k+m=gw*gh/\SL e [(2,pt y),(8,pt U),(33,ii (gw*gh:Nat)),(34,ii k)] /\
  St No W w [.blk U 232 [ii gw,.slice D (gw*gh) I,.slice z (gw*gh) (gw*gh)],.row 3 1 z (gw*gh) (gw*gh) (fB (gw*gh) (λj=>if j<k then kW gw V j else 0)),.row 2 1 D (gw*gh) I (cY V),.blk y 232 [ii 0,.slice none 0 0,.slice none 0 0]]) (gw*gh)
  ⟨0,om,sl,S⟩ ?_
 clear S hz;rintro m e w ⟨k,hk,ad,S⟩;rw[ad.fold];refine zB ?_ ?_
 ·intro hc;have aa:k<gw*gh:=om;have aq:=HI hw.1 hV aa;refine zD [0,1,2,3,4,5] [6,7] ?_;refine zP (λwq hq=>T7 (W:=wq) k ⟨hw.1,om⟩ hV om aa ((S.gr hq).rd (i:=2) rfl)) ?_;refine zE ?_;intro ai ag S;refine jk (i:=1) S rfl (fa _) rfl rfl rfl rfl (by rw[lP];omega) rfl ?_;intro aj S;refine zg ?_
  rw[cG,b7,tH,lq (f':=λj=>if j<k+1 then kW gw V j else 0) (λj hj=>by
   unfold tc;(try dsimp only);by_cases O:j=k
   ·rw[a7 O,a7 om,O]
   ·by_cases e2:j<k
    ·rw[a8 O,a7 e2,a7 om]
    ·rw[a8 O,a8 e2,a8 om])]at S
  exact⟨m-1,om,k+1,om,sl,S⟩
 ·intro hc;obtain rfl:k=gw*gh:=om;rw[lq (f':=kW gw V) (λj hj=>by(try dsimp only);rw[a7 hj])]at S;refine zS ?_;intro ak S;exact pG S ⟨_,_,_,_,rfl,S.row (i:=2) rfl,iC.fresh S (i:=2) rfl,S.row (i:=1) rfl,iC.fresh S (i:=1) rfl,λg hg h2=>S.sep.2.2.2.1 g h2 _ eB hg,S.out⟩
end
def yy(F:Nat->Prop)(W:World)(L L1:List HA)(σ:List Value)(w:World):Prop:=match σ with
 |[]=>St F W w L
 |_::_=>St F W w L1
section
variable{L:List HA}{σ:List Value}
theorem yy.start(S:St F W w L):yy F W L L1 [] w:=S
theorem yy.ok(h:yy F W L L1 σ w){x:HA}(hi:gi L i=some x)(y:gi L1 i=some x):x.ok w:=by
 cases σ with
 |nil=>exact St.ok h hi
 |cons v σ=>exact St.ok h y
theorem yy.blk(h:yy F W L L1 σ w){t:Nat}(hi:gi L i=some (.blk b t l))(v:gi L1 i=some (.blk b t l)):eL w b t l:=h.ok hi v
end
section
variable{ps:String}{L:List HA}
theorem Aj{tb:TypeId}{y:Operand}{o:Nat}{cs:List Value}(S:St F W w L)(hi:gi L i=some (.blk b t l))(hz:(sizeOf tb).run P w=.ok n w)(V:ev e x=.pointer (some ⟨b,o,none⟩))(Z:ev e y=.agg cs.toArray)(I:cs.length=n)(z:lj (l.take o++cs++l.drop (o+n))=some l')(J:((cs.all λv=>v.oneCell')&&Nat.ble (o+n) l.length)=true)(U:j7 L i (.blk b t l')=some L')(O:∀w',St F W w' L'->R undef w'):gI P e ⟨d,.store tb x y,ty,ps,af,none⟩ w R :=
 gu rfl (d8 S hi hz V Z I z J U (λw' D=>O w' D))
end
section
variable{cap:Nat}{V:List Int}
theorem K9(x y:Int)(D:mD gw gh (x,y)=false)(hG:eJ W p gw gh cc A cap bs Rs):Fn prog 123 [pt p,.agg #[ii x,ii y]] W (dp (.tuple #[.agg #[ii 0,.slice none 0 0,.slice none 0 0],ii 0,ii 4]) W):=by
 have I:¬(0<=x/\x<gw/\0<=y/\y<gh):=λh=>by rw[jT.2 h]at D;cases D
 have S:=St.start W;refine zI func123 ?_;refine zN ?_;intro ac ai ae S;refine zN ?_;intro L aj ag S;refine zK (T8 (W:=_) (hG.gr S.out)) ?_;rintro _ ak ⟨J,O,v,z,rfl,hv,Z,aa,V,hd,U⟩;have S:=S.push2 U (h1:=.row 2 1 J _ O _) (h2:=.row 3 1 v _ z _) hv aa Z V hd;refine zN ?_;intro ad al ah S;refine zS ?_;intro am S;refine zC (Fq (W:=_) x y I (hG.gr S.out)) ?_;refine zS ?_;intro ab S;exact qj kN rfl (AV _) rfl (S.blk (i:=3) rfl) rfl rfl rfl rfl ⟨rfl,S.out⟩
theorem Rk(x y:Nat)(hx:x<gw)(hy:y<gh)(Z:eJ W p gw gh cc A cap bs Rs):Fn prog 123 [pt p,.agg #[ii x,ii y]] W
  (NH gw gh (dw gw gh cc) (λl=>.tuple #[l,ii (y*gw+x:Nat),ii 0]) W):=by
 have hw:=Z.sw;have hh:=Z.sh;have em:(y:Int)*gw=((y*gw:Nat):Int):=by push_cast;rfl
 have ea:((y*gw:Nat):Int)+x=((y*gw+x:Nat):Int):=by push_cast;rfl
 have ag:(y+1)*gw<=gh*gw:=cI _ om;have al:gh*gw<=1024*1024:=fy hh.2 hw.2;rw[cX]at ag;have S:=St.start W;refine zI func123 ?_;refine zN ?_;intro U ao ah S;refine zN ?_;intro J ap ai S;refine zK (T8 (W:=_) (Z.gr S.out)) ?_;rintro _ aq ⟨I,L,v,D,rfl,hv,ac,ae,ab,hd,aa⟩;have S:=S.push2 aa (h1:=.row 2 1 I _ L _) (h2:=.row 3 1 v _ D _) hv ae ac ab hd;refine zN ?_;intro V ar aj S;refine zS ?_;intro au S;refine zC (MI (W:=_) x y hx hy (Z.gr S.out)) ?_;intro av ak S;(iterate 5 refine z ?_);refine zf ?_;refine zc ?_;refine eX rfl ?_;refine zc ?_;refine gO ?_;try show CW _ _ _ _ _ _
 refine zc ?_;refine gP (M:=λe w=>SL e [(4,pt J),(5,ii (y*gw+x:Nat)),(6,ii 0)]/\St No W w [.blk V 232 [ii gw,.slice I (gw*gh) L,.slice v (gw*gh) D],.row 2 1 I (gw*gh) L (cY (dw gw gh cc)),.row 3 1 v (gw*gh) D (fB (gw*gh) (kW gw (dw gw gh cc))),.blk J 232 [ii gw,.slice I (gw*gh) L,.slice v (gw*gh) D],.blk U 24 [ii x,ii y]]) ?_ ?_
 ·skip;refine zH (C:=(yy No W [.blk V 232 [ii gw,.slice I (gw*gh) L,.slice v (gw*gh) D],.row 2 1 I (gw*gh) L (cY (dw gw gh cc)),.row 3 1 v (gw*gh) D (fB (gw*gh) (kW gw (dw gw gh cc))),.blk J 232 [ii 0,.slice none 0 0,.slice none 0 0],.blk U 24 [ii x,ii y]] [.blk V 232 [ii gw,.slice I (gw*gh) L,.slice v (gw*gh) D],.row 2 1 I (gw*gh) L (cY (dw gw gh cc)),.row 3 1 v (gw*gh) D (fB (gw*gh) (kW gw (dw gw gh cc))),.blk J 232 [ii gw,.slice I (gw*gh) L,.slice v (gw*gh) D],.blk U 24 [ii x,ii y]])) [9] [0,1,2,3,4,5,6,7,8,9] [10,11] (yy.start (S.gr (Gr.drew _))) ?_;refine zV (λτ wq O=>(O.blk (i:=0) rfl rfl)) ?_;refine zV (λτ wq O=>(O.blk (i:=4) rfl rfl)) ?_;refine zV (λτ wq O=>(O.blk (i:=0) rfl rfl)) ?_;refine zR ?_;rw[em];refine zV (λτ wq O=>(O.blk (i:=4) rfl rfl)) ?_;refine zR ?_;rw[ea];refine de rfl rfl (λwq O=>Aj (i:=3) O rfl (AV _) rfl rfl rfl rfl rfl rfl (λw' S'=>S')) ?_;rintro am an _;refine zY ?_;rintro wz hz;have S:St No W wz _:=hz;refine zg ?_;exact⟨sl,S⟩
 ·clear S;rintro e w ⟨ad,S⟩;rw[ad.fold];refine zg ?_;exact qj kN rfl (AV _) rfl (S.blk (i:=3) rfl) rfl rfl rfl rfl ⟨_,_,_,_,rfl,S.row (i:=1) rfl,iC.fresh S (i:=1) rfl,S.row (i:=2) rfl,iC.fresh S (i:=2) rfl,λg hg=>S.sep.2.2.2.1 g hg _ eB,S.out⟩
end
theorem JT(gw:Nat)(l:List Nat)(j:Nat):eT (l.map (cz gw))++[ii (j%gw:Nat),ii (j/gw:Nat)]=eT ((l++[j]).map (cz gw)):=by simp[eT,cz]
section
variable{cap:Nat}{V:List Int}
theorem OK(i:Nat)(hi:i<gw*gh)(y:eJ W p gw gh cc A cap bs Rs):Fn prog 123 [pt p,.agg #[ii (i%gw:Nat),ii (i/gw:Nat)]] W
  (NH gw gh (dw gw gh cc) (λl=>.tuple #[l,ii i,ii 0]) W):=by
 have v:=y.sw.1;have:=Rk (i%gw) (i/gw) (dt i v) (cS hi) y;rw[show i/gw*gw+i%gw=i by rw[cD];exact dP i gw]at this;exact this
theorem SB(x y:Int)(v:mD gw gh (x,y)=false)(O:eJ W p gw gh cc A cap bs Rs):Fn prog 61 [pt p,.agg #[ii x,ii y]] W (dp (.tuple #[.slice none 0 0,ii 4]) W):=by
 have S:=St.start W;refine zI func61 ?_;refine zN ?_;intro z U I S;refine zC (K9 (W:=_) x y v (O.gr S.out)) ?_;intro V J S;refine zN ?_;intro D Z L S;refine zS ?_;intro aa S;exact nd rfl rfl ⟨rfl,S.out⟩
theorem WN(i k:Nat)(hi:i<gw*gh)(aF:k<gw*gh)(hk:FF (kW gw (dw gw gh cc)) i k)(hG:eJ W p gw gh cc A cap bs Rs):Fn prog 61 [pt p,.agg #[ii (i%gw:Nat),ii (i/gw:Nat)]] W
  (jc (λs=>.tuple #[s,ii 0]) 24 2 (k+1) (eT ((zp (kW gw (dw gw gh cc)) i k).map (cz gw))) W):=by
 have hw:=hG.sw;have hh:=hG.sh;have hV:=qf gw gh cc;have aD:gw*gh<=1024*1024:=fy hw.2 hh.2;have hF:=FG hw.1 hV;have ad:∀i,i<gw*gh->(fB (gw*gh) (kW gw (dw gw gh cc)))[((i:Nat):Int).toNat * 1]?=some (ii (kW gw (dw gw gh cc) i:Nat)):=λi hi=>by rw[cG,b7];exact pT hi
 have ac:=λw(g:Gr W w)=>OK i hi (hG.gr g);generalize dw gw gh cc=V at *;have S:=St.start W;refine zI func61 ?_;refine zN ?_;intro ai aH aw S;refine zK (ac _ S.out) ?_;rintro _ aI ⟨O,U,D,I,rfl,hv,al,ae,ak,hd,aj⟩;have ap:dO D:=ae.someA om;have S:=S.push2 aj (h1:=.row 2 1 O _ U _) (h2:=.row 3 1 D _ I _) hv ae al ak hd;refine zN ?_;intro aa aJ az S;refine zS ?_;intro aK S;refine yb S ?_;intro v aL aA S L;refine zg ?_;generalize aC:kW gw V=f at *
 refine dl (λm e w=>∃(j:Nat)(v:Option Addr)(y:Nat),j+m=k/\SL e [(6,pt aa),(7,ii (xx f j i:Nat)),(9,.slice v (j+1) y)] /\
  St No W w [.row 24 2 v (j+1) y (eT ((zp f i j).map (cz gw))),.blk aa 232 [ii gw,.slice O (gw*gh) U,.slice D (gw*gh) I],.row 2 1 O (gw*gh) U (cY V),.row 3 1 D (gw*gh) I (fB (gw*gh) f),.blk ai 24 [ii (i%gw:Nat),ii (i/gw:Nat)]]) k
  ⟨0,v,1,om,sl,S⟩ ?_
 clear S;rintro m e w ⟨j,v,y,aE,ao,S⟩;rw[ao.fold];have an:=hF.itr_lt hi j;have ar:=hF.itr_lt hi (j+1);have J:=ad _ an;have e1:f (xx f j i)=xx f (j+1) i:=rfl;rw[e1]at J;by_cases am:j<k
 ·have aG:=hk.1 j am;(iterate 3 refine z ?_);refine zx ?_;refine dH (eI dB rfl rfl (S.rd (i:=3) rfl) J) ?_;refine z ?_;refine zt ?_;(iterate 3 refine z ?_);refine zx ?_;refine dH (eI dB rfl rfl (S.rd (i:=3) rfl) J) ?_;refine zC (Wh (W:=w) (xx f (j+1) i) (gw*gh) hw.1 om) ?_;intro aM aB S;refine yb S ?_;intro ah au aq S ag;refine ZP 1 0 S ?_;intro Z ab av S L;refine zg ?_;have S:=S.drop 1;rw[JT,<-MR]at S;exact⟨m-1,om,j+1,Z,ab,om,sl,S⟩
 ·obtain rfl:j=k:=om;have he:=hk.2;rw[he]at J;(iterate 3 refine z ?_);refine zx ?_;refine dH (eI dB rfl rfl (S.rd (i:=3) rfl) J) ?_;refine zX ?_;exact(S.retNew (i:=0) (mk:=λs=>.tuple #[s,ii 0]) rfl)
end
end Go.Proofs.YtcalhocphkbbgaaGreatDoor
