/- A part of the proof that hachuretop.WholeCharts and hachuretop.WholeWater returns true at every input; no condition. -/
import Derived.Test.YtcalhocphkbbgaaGreatDoorKQ
import Derived.Test.YtcalhocphkbbgaaGreatDoorKS
set_option maxRecDepth 100000
set_option maxHeartbeats 16000000
set_option linter.unusedVariables false
set_option linter.unusedSimpArgs false
namespace Go.Proofs.YtcalhocphkbbgaaGreatDoor
open Go.Proofs.Tryz Go.RowKit
variable{Q:(Nat->Value)->World->Prop}{af:Array Edge}{h h':HA}{X0 X1 Y Y0 Y1 a:Int}{kc kn:IntKind}{es:List (Int × Int)}{σ:List (Nat × Value)}{T:List HA}{hd ks:List Nat}{l l' l2 vs xs:List Value}{N b bytes c c2 cB cap2 el g gh gw i j k k1 k2 m n p p2 q tb x0 x1 y0 y1:Nat}{c' cc:Nat->Int}{bs bs2:Nat->Nat}{R':Nat->Nat->Bool}{Rs Rs2:Nat->Option Nat}{F X:Nat->Prop}{e:Nat->Value}{op:Op}{hi x:Operand}{A A2 B B2 gp pp:Option Addr}{d:Option Tmp}{P:Program}{G:Prop}{r:Rc}{s:lT}{t t' ty:TypeId}{u v3:Value}{R:Value->World->Prop}{W w w' wq:World}{C:World->Prop}
section
variable{cap:Nat}{c:Nat->Int}{V:List Int}
theorem yB(x0 y0 x1 y1:Int)(L:dF x0 y0 x1 y1 gw gh≠0)(v:eJ W p gw gh c A cap bs Rs) :
  Fn prog 47 [pt p,.agg #[ii x0,ii y0,ii x1,ii y1]] W (dp (.tuple #[.slice none 0 0,ii (dF x0 y0 x1 y1 gw gh)]) W):=by
 have O:=v.sw;have J:=v.sh;have y:=λw(g:Gr W w)=>xJ p gw gh x0 y0 x1 y1 O.2 J.2 _ w (v.top.gr g);generalize dF x0 y0 x1 y1 gw gh=e at *;have S:=St.start W;refine zI func47 ?_;refine zN ?_;intro z U D S;refine zC (y _ S.out) ?_;intro V I S;exact zZ
def sX(n:Nat)(V:List Int):Int:=if V.length≠n then 6 else if V.any (λv=>!iL v)then 7 else 0
theorem NY(cp:Nat)(hx:x0<=x1/\x1<gw)(hy:y0<=y1/\y1<gh)(ae:V.length<=9223372036854775807)(ac:sX ((y1+1-y0)*(x1+1-x0)) V≠0)(hG:eJ W p gw gh c A cap bs Rs)(hB:Rd W B (cY V)) :
  Fn prog 142 [pt p,.agg #[ii x0,ii y0,ii x1,ii y1],.slice B V.length cp] W (dp (ii (sX ((y1+1-y0)*(x1+1-x0)) V)) W):=by
 have hw:=hG.sw;have hh:=hG.sh;have aj:(y1+1-y0)*(x1+1-x0)<=1024*1024:=fy om om
 have ab:((x1:Int)-x0+1)*((y1:Int)-y0+1)=(((y1+1-y0)*(x1+1-x0):Nat):Int):=by
  rw[(om:(x1:Int)-x0+1=((x1+1-x0:Nat):Int)),(om:(y1:Int)-y0+1=((y1+1-y0:Nat):Int)),iW];push_cast;rfl
 have aa:=λw(g:Gr W w)=>iz x0 y0 x1 y1 hx hy (hG.gr g);unfold sX at *;generalize hN:(y1+1-y0)*(x1+1-x0)=N at *;by_cases h1:V.length=N
 ·rw[a8 om]at ac ⊢;by_cases h2:V.any (λv=>!iL v)=true
  ·rw[a7 h2];have S:=St.start W;refine zI func142 ?_;refine zN ?_;intro U ag ad S;refine zK (aa _ S.out) ?_;rintro _ L ⟨O,Z,rfl,y,D,I⟩;have S:=S.pushRow y D I;(iterate 6 refine z ?_);refine zf ?_;iterate 3 refine z ?_
   refine eY rfl (qc _ _ _ _ om L) ?_;rintro _ ah ⟨rfl,J⟩;have S:=S.gr J;rw[ab];refine zC (rf B V.length cp _ [] V rfl ae (λv=>!iL v) _ (hB.gr S.out) (λx hx w' g=>Dn x w')) ?_;intro ak ai S;rw[h2];exact zZ
  ·exact absurd (a8 h2) ac
 ·rw[a7 h1];have S:=St.start W;refine zI func142 ?_;refine zN ?_;intro U ag ad S;refine zK (aa _ S.out) ?_;rintro _ L ⟨O,Z,rfl,y,D,I⟩;have S:=S.pushRow y D I;(iterate 6 refine z ?_);refine zf ?_;iterate 3 refine z ?_
  refine eY rfl (qc _ _ _ _ om L) ?_;rintro _ ah ⟨rfl,J⟩;have S:=S.gr J;rw[ab];exact zZ
theorem Rw(U:Nat)(hx:x0<=x1/\x1<gw)(hy:y0<=y1/\y1<gh)(D:V.length<=9223372036854775807)(L:sX ((y1+1-y0)*(x1+1-x0)) V≠0)(hG:eJ W p gw gh c A cap bs Rs)(z:Rd W B (cY V)) :
  Fn prog 390 [pt p,.agg #[ii x0,ii y0,ii x1,ii y1],.slice B V.length U] W
   (dp (.tuple #[tD,ii (sX ((y1+1-y0)*(x1+1-x0)) V)]) W):=by
 have I:=λw(g:Gr W w)=>FX (hG.gr g);have O:=λw q A2 cap2 bs2 Rs2(v:eJ w q gw gh c A2 cap2 bs2 Rs2)(z:Rd w B (cY V))=>NY U hx hy D L v z;generalize sX ((y1+1-y0)*(x1+1-x0)) V=e at *;unfold tD;have S:=St.start W;refine zI func390 ?_;refine zN ?_;intro aa ad ab S;refine zN ?_;intro Z ae ac S;refine zK (I _ S.out) ?_;rintro _ ag ⟨q,A2,cap2,bs2,Rs2,rfl,v,J,y⟩;have S:=S.pushGrid v J y;refine zC (O _ q A2 cap2 bs2 Rs2 (S.grid (i:=0) rfl) (z.gr S.out)) ?_;refine zS ?_;intro ah S;exact pG S ⟨rfl,S.out⟩
end
def yC(xs:List (Int×Int))(vs:List Int):List Int:=vs.flatMap λv=>lJ (GB xs v)
def WA(xs:List (Int×Int))(V:List Int)(wd j:Nat):ByteArray:=Io (yC xs ((V.drop (j*wd)).take wd))
def yD(xs:List (Int×Int))(V:List Int)(wd n:Nat):List Value:=(List.range n).map λj=>.string (WA xs V wd j)
theorem JK{xs:List (Int×Int)}{V:List Int}{v:Nat}:yD xs V v n++[.string (WA xs V v n)]=yD xs V v (n+1):=by
 unfold yD;rw[eG,fq];rfl
theorem Ip{xs:List (Int×Int)}(h:tO xs=true)(v:Int):qk (GB xs v)=true:=by
 have y:∀b∈xs,qk b.2=true:=λb L=>by
  obtain⟨i,hi,rfl⟩:=gK.1 L;unfold tO at h;rw[cM,dh]at h;have:=h.2 i (dJ.2 hi);rw[fw hi]at this;unfold wv at this;simp only[cM]at this;exact this.2.1
 have J:1<=xs.length:=by
  unfold tO at h;simp only[cM,cT]at h;exact h.1.1
 have D:∀(l:List (Int×Int))(a:Int),(∀b∈l,qk b.2=true)->qk a=true->qk (l.foldl (λa b=>if b.1<=v then b.2 else a) a)=true:=by
  intro l;induction l with
  |nil=>intro a _ z;exact z
  |cons b r ih =>
   intro a I z;refine ih _ (λx O=>I x (cW _ O)) ?_;dsimp only;split
   ·exact I b (by simp)
   ·exact z
 refine D xs _ y ?_;cases xs with
 |nil=>simp at J
 |cons b r=>exact y b (by simp)
theorem LJ{xs:List (Int×Int)}{vs:List Int}{v:Int}:yC xs (vs++[v])=yC xs vs++lJ (GB xs v):=by unfold yC;simp
theorem UC{xs:List (Int×Int)}(h:tO xs=true)(vs:List Int):Uz (yC xs vs):=λn y=>by
 obtain⟨v,_,z⟩:=og.1 y;exact UA (Ip h v) n z
theorem GC(xs:List (Int×Int)):∀vs:List Int,(yC xs vs).length<=3*vs.length
 |[]=>fK _
 |v::r=>by
  have h1:=GC xs r
  have h2:=(BO (GB xs v)).2;unfold yC at h1 ⊢;rw[fe,cP,fc];omega
section
variable{cap:Nat}{xs:List (Int × Int)}
theorem xT:(prog.info? 9).map (λi=>(i.zero,i.size,i.bytes))=some (some (.string ByteArray.empty),1,16):=by kernel_rfl
theorem RZ(y:dF X0 Y0 X1 Y1 gw gh≠0)(J:eJ W p gw gh cc A cap bs Rs) :
  Fn prog 75 [pt p,.agg #[ii X0,ii Y0,ii X1,ii Y1],.slice B n c] W (dp (.tuple #[.slice none 0 0,ii (dF X0 Y0 X1 Y1 gw gh)]) W):=by
 have v:=λw G=>yB (W:=w) (p:=p) (gw:=gw) (gh:=gh) (c:=cc) (A:=A) (cap:=cap) (bs:=bs) (Rs:=Rs) X0 Y0 X1 Y1 y G;generalize dF X0 Y0 X1 Y1 gw gh=e at *;have S:=St.start W;refine zI func75 ?_;refine zN ?_;intro z L D S;refine zC (v _ (J.gr S.out)) ?_;intro O I S;exact zZ
theorem LK(hx:x0<=x1/\x1<gw)(hy:y0<=y1/\y1<gh)(hn:n=xs.length)(J:n<=c)(I:n<=9223372036854775807)(hB:Rd W B (kI xs))(hl:tO xs=false)(hG:eJ W p gw gh cc A cap bs Rs) :
  Fn prog 75 [pt p,.agg #[ii x0,ii y0,ii x1,ii y1],.slice B n c] W (dp (.tuple #[.slice none 0 0,ii 13]) W):=by
 have z:=λw=>DR (W:=w) (A:=B) hn J I;rw[hl]at z;have S:=St.start W;refine zI func75 ?_;refine zN ?_;intro O aa V S;refine zK (iz x0 y0 x1 y1 hx hy (hG.gr S.out)) ?_;rintro _ ab ⟨L,U,rfl,v,y,D⟩;have S:=S.pushRow v y D;refine zC (z _ (hB.gr S.out)) ?_;intro ac Z S;exact zZ
theorem WB(hx:x0<=x1/\x1<gw)(hy:y0<=y1/\y1<gh)(hn:n=xs.length)(aw:n<=c)(av:n<=9223372036854775807)(hB:Rd W B (kI xs))(hl:tO xs=true)(hG:eJ W p gw gh cc A cap bs Rs) :
  Fn prog 75 [pt p,.agg #[ii x0,ii y0,ii x1,ii y1],.slice B n c] W
   (jc (λv=>.tuple #[v,ii 0]) 9 1 (y1+1-y0) (yD xs (fi gw cc x0 y0 (x1+1-x0) (y1+1-y0)) (x1+1-x0) (y1+1-y0)) W):=by
 have aB:=λw=>DR (W:=w) (A:=B) hn aw av;rw[hl]at aB;have az:=λw v=>Xt (W:=w) (A:=B) v hn aw av;have hw:=hG.sw;have hh:=hG.sh;have ao:=λw G=>iz (W:=w) (p:=p) (gw:=gw) (gh:=gh) (c:=cc) (A:=A) (cap:=cap) (bs:=bs) (Rs:=Rs) x0 y0 x1 y1 hx hy G;have aE:=lE gw cc x0 y0 (x1+1-x0) (y1+1-y0);obtain⟨y,aK⟩:∃k,k=x1+1-x0:=⟨_,rfl⟩;obtain⟨z,aF⟩:∃k,k=y1+1-y0:=⟨_,rfl⟩
 have Z:∀w(q t:Nat),t<y->q<z->Fn prog 117 [.agg #[ii x0,ii y0,ii x1,ii y1],ii (q*y+t:Nat)] w (dp (.tuple #[.agg #[ii (x0+t:Nat),ii (y0+q:Nat)],.bool true]) w):=λw q t I hq=>by
  have e1:(x1:Int)-x0+1=(y:Nat):=om;have e2:(y1:Int)-y0+1=(z:Nat):=om;have hm:(q*y+t)%y=t:=by rw[cD,fp,dT I]
  have hd:(q*y+t)/y=q:=by rw[cD,fF om,ee I,eW]
  have ad:q*y+t<z*y:=by
   have:=cI y (show q+1<=z from hq);rw[cX]at this;omega
  have h:=Bw x0 y0 x1 y1 (q*y+t:Nat) om om (by rw[e1,e2,<-kv,cD y];exact ke.2 ad) w;rw[e1,<-Int.natCast_emod,<-Int.natCast_ediv,hm,hd]at h;exact h
 rw[<-aK,<-aF]at ao aE ⊢;have bh:z*y<=1024*1024:=fy om om;generalize fi gw cc x0 y0 y z=V at *;have ah:=λv=>Ip hl v;have aG:=UC hl;have aH:=GC xs;refine yI func75 ?_;refine yA ?_;intro aj _ S;refine zK (ao _ (hG.gr S.out)) ?_;rintro _ bj ⟨ab,al,rfl,am,an,aD⟩;have S:=S.pushRow am an aD;refine zC (aB _ (hB.gr S.out)) ?_;intro bk ba S;refine yA ?_;intro D _ S;have S:=(S.pushNil 9 1).pushNil 5 1;have S:=S.pick 5 [2,0,1,3,4] rfl rfl rfl
 refine dl (λm e w=>∃(q t:Nat)(l:List Int)(pp aa J:Option Addr)(ac L:Nat),q*y+t+m=z*y/\t<y/\l=yC xs ((V.drop (q*y)).take t)/\(pp=none\/pp=some ⟨D,0,none⟩) /\
   SL e [(2,.slice B n c),(4,pt aj),(10,.slice J q L),(11,pt D),(32,.slice ab (z*y) al),(33,ii (z*y:Nat)),(34,ii (q*y+t:Nat))] /\
   St No W w [.blk D 269 [.pointer pp,.slice aa l.length ac],.row 5 1 aa l.length ac (f9 l),.row 9 1 J q L (yD xs V y q),.row 2 1 ab (z*y) al (cY V),.blk aj 43 [ii x0,ii y0,ii x1,ii y1]]) (z*y)
  ⟨0,0,[],none,none,none,0,0,om,om,rfl,.inl rfl,sl,S⟩ ?_
 clear S;rintro m e w ⟨q,t,l,pp,aa,J,ac,L,hk,I,au,aA,aJ,S⟩;rw[aJ.fold];rcases fv (q*y+t<z*y)with ad|ad
 ·have hq:q<z:=by
   rcases eV q z with h|h
   ·exact h
   ·have:=cI y h;omega
  have aq:q*y+t<V.length:=om;have bi:q<1024:=om
  have aQ:(cY V)[((q*y+t:Nat):Int).toNat * 1]?=some (ii V[q*y+t]):=by
   rw[cG,b7];exact gc (fw aq)
  have ag:(V.drop (q*y)).take t++[V[q*y+t]]=(V.drop (q*y)).take (t+1):=by
   rw[kK,jD,fw aq];rfl
  have aS:dO ab:=(S.row (i:=3) rfl).someA om;have ae:l++lJ (GB xs V[q*y+t])=yC xs ((V.drop (q*y)).take (t+1)):=by rw[au,<-LJ,ag]
  have be:l.length<=3*1024:=by
   have:=aH ((V.drop (q*y)).take t);rw[<-au,d7]at this;omega
  have bf:(l++lJ (GB xs V[q*y+t])).length<=3*1024+3:=by
   have:=(BO (GB xs V[q*y+t])).2;rw[cP];omega
  have aI:l++lJ (GB xs V[q*y+t])≠[]:=by simp[RU]
  have ap:Uz (l++lJ (GB xs V[q*y+t])):=ae▸aG _;have aC:=ah V[q*y+t];generalize V[q*y+t]=v at *;generalize ar:l++lJ (GB xs v)=l' at *;rcases fv (t+1=y)with h1|h1
  ·have e1:((x0+t:Nat):Int)=x1:=om;have hS:Io l'=WA xs V y q:=by unfold WA;rw[ae,h1]
   refine yA ?_;refine zC (az w v (hB.gr S.out) hl) ?_;intro bl bb S;refine zK (LI aC aA om S) ?_;rintro _ bm ⟨⟨n9,rfl⟩,O,U,S⟩;rw[ar]at S;refine zC (Z _ q t I hq) ?_;intro bn bc S;refine yA ?_;intro _ _ S;refine zK (N4 aI ap om (S.pick 6 [1,2,0,3,4,5] rfl rfl rfl)) ?_;rintro _ aT ⟨rfl,S⟩;refine yb S ?_;intro aM aU aN S aL;refine ZP 3 0 S ?_;intro ai ak aV S aR;refine zK (RY (S.pick 6 [1,0,2,3,4,5] rfl rfl rfl)) ?_;rintro _ aW ⟨rfl,S⟩;refine zg ?_;rw[hS,JK]at S;have S:=(S.pick 6 [0,3,4,5,1,2] rfl rfl rfl).sub (List.take_sublist 4 _);have S:=(S.pushNil 5 1).pick 5 [1,0,2,3,4] rfl rfl rfl;have bg:(q+1)*y=q*y+y:=cX q y;exact⟨m-1,om,q+1,0,[],none,none,ai,0,ak,om,om,rfl,.inl rfl,sl,S⟩
  ·have e1:((x0+t:Nat):Int)≠x1:=om;refine yA ?_;refine zC (az w v (hB.gr S.out) hl) ?_;intro aX aO S;refine zK (LI aC aA om S) ?_;rintro _ aY ⟨⟨n9,rfl⟩,O,U,S⟩;rw[ar]at S;refine zC (Z _ q t I hq) ?_;intro aZ aP S;refine yA ?_;intro _ _ S;exact⟨m-1,om,q,t+1,l',_,O,J,U,L,om,om,ae,.inr rfl,sl,S.drop 1⟩
 ·have hq:q=z:=by
   rcases eV q z with h|h
   ·have:=cI y (show q+1<=z from h);rw[cX]at this;omega
   ·have:=cI y h;exact Nat.le_antisymm (by rcases eV z q with h2|h2;(have:=cI y (show z+1<=q from h2);rw[cX]at this;omega);exact h2) h
  subst hq;refine zX ?_;exact(S.retNew (i:=2) (mk:=λv=>.tuple #[v,ii 0]) rfl)
end
theorem Rx{ps:String}{s:Operand}{t:Nat}{z:Value}(J:P.underlying t=some (.slice el))(y:(P.info? el).map (λi=>(i.zero,i.size,i.bytes))=some (some z,k,bytes))(I:ev e s=.slice A n c)(D:n<=c)(L:ev e x=.slice B 0 c2):gd P e ⟨d,.call ⟨.builtin .append,#[s,x],#[t,t]⟩,ty,ps,af,none⟩ w (.slice A n c):=by
 obtain⟨V,v,O,S,U⟩:=nG y;cases A<;>cases B<;>simp[gd,execOp,resolve,invoke,builtin,I,L,Builtin.append_,dS J,sizeOf,typeInfo,v,Builtin.lenOf,Builtin.firstCells,loadCells,loadCellsFrom,D,storeCells]
section
variable{l m:List Int}
theorem NZ(z:m.length=N)(v:Rd W A (f9 l))(y:Rd W B (f9 m)):Fn prog 205 [.slice A l.length c,.slice B N cB] W (dp (.bool (Ua l m)) W):=by
 subst z;exact Ie v y
theorem N0(D:dO A):Fn prog 208 [.slice A 0 c] W (jc id 5 1 0 (f9 []) W):=by
 obtain⟨J,L,rfl⟩:=D;have S:=St.start W;refine zI func208 ?_;refine zg ?_;refine dU (xF (B:=false) fR rfl rfl) ?_;refine zg ?_;refine mv fR gJ S ?_;intro y I z S v;refine zg ?_;refine dH (Rx fR nN rfl (fK _) rfl) ?_;refine zX ?_;exact(S.retNew (i:=0) rfl)
theorem N1(v:dO A)(z:l.length<=1099511627776)(y:Rd W A (f9 l)):Fn prog 208 [.slice A l.length c] W (jc id 5 1 l.length (f9 l) W):=by
 rcases iZ l.length with h|h
 ·obtain rfl:=gj h;exact N0 v
 ·exact AF h z y
def Ui(l:List Int)(W:World)(v:Value)(w':World):Prop:=∃(B:Option Addr)(nB cB:Nat)(e:Int)(Q:List HA),v=.tuple #[.slice B nB cB,ii e]/\St No W w' Q/\(e=0->nB=(l.take (l.length-4)).length/\Q=[.row 5 1 B nB cB (f9 (l.take (l.length-4)))])
theorem Uj(hT:jX W)(hc:l.length<=c)(hm:l.length<=1073741824)(v:Rd W A (f9 l)):Fn prog 137 [.slice A l.length c] W (Ui l W):=by
 rcases fv (l.length<4)with h4|h4
 ·skip;have S:=St.start W;refine zI func137 ?_;refine zX ?_;exact⟨_,_,_,14,[],rfl,S,λh=>absurd h (by decide)⟩
 ·have V:dO A:=v.someA (by rw[m4];omega);have y:Rd W A (f9 (l.take (l.length-4))):=by rw[<-tK];exact v.tk _
  have ah:(l.take (l.length-4)).length=l.length-4:=by rw[d7];omega
  have ag:=v.off8 (m:=l.length-4) om hc;have ai:l.length-(l.length-4)=(l.drop (l.length-4)).length:=by rw[i8]
  have e4:((l.length:Nat):Int)-4=((l.length-4:Nat):Int):=om;have I:=λw v=>N1 (W:=w) (A:=A) (c:=c) (l:=l.take (l.length-4)) V om v;have U:=λw hT v=>H8 (W:=w) (A:=A) (c:=c) (l:=l.take (l.length-4)) hT om v;have J:=λw B cB m h4 v hB=>NZ (N:=4) (W:=w) (A:=uA A ((l.length-4)*1) (c-(l.length-4))) (B:=B) (c:=c-(l.length-4)) (cB:=cB) (l:=l.drop (l.length-4)) (m:=m) h4 v hB;unfold Ui;rw[ah]at I U ⊢;generalize l.take (l.length-4)=l1 at *;generalize hd:l.drop (l.length-4)=l2 at *;generalize ae:uA A ((l.length-4)*1) (c-(l.length-4))=A2 at *;generalize ap:l.length-4=N at *;have S:=St.start W;refine zI func137 ?_;refine zD [0,1,2,3,4,5,6,7,8,9,10,11] [] ?_;rw[e4];refine eO (jb (n:=(N:Int)) fR gJ rfl rfl om om) ?_;rw[b7];refine zQ ?_;rw[e4];refine eO (Jq fR gJ rfl rfl om hc) ?_;rw[ae,ai];refine zE ?_;intro aq an S;refine zK (U _ (hT.gr S.out) (y.gr S.out)) ?_;rintro _ ar ⟨sm,ak,rfl,ab⟩;have S:=S.gr ab;refine zK (Gd sm ak) ?_;rintro _ au ⟨lt,aj,Z,aa,rfl,D,O,ac⟩;have S:=S.pushRow D O ac;refine zC (J _ Z aa lt aj (ag.gr S.out) (S.rd (i:=0) rfl)) ?_;intro av ao S;refine zg ?_;cases hq:Ua l2 lt
  ·rw[hq]at *;refine zX ?_;exact⟨_,_,_,10,_,rfl,S,λh=>absurd h (by decide)⟩
  ·skip;refine zK (I _ (y.gr S.out)) ?_;rintro _ aw ⟨al,am,rfl,z,L,ad⟩;have S:=S.pushRow z L ad;refine zX ?_;exact⟨_,_,_,0,_,rfl,S.sub (.cons_cons _ (.cons _ .slnil)),λ_=>⟨rfl,rfl⟩⟩
theorem Ap:∀{es:List (Int×Int)},(∀x∈es,(1:Int)<=x.2)->0<=(es.map Prod.snd).sum
 |[],_=>by simp
 |x::r,h=>by
  have h1:=h x (by simp)
  have h2:=Ap (es:=r) λy v=>h y (cW _ v);rw[iJ,tQ];omega
theorem Lp(h:ES a es):∀x∈es,(1:Int)<=x.2:=λx v=>by
 obtain⟨i,hi,rfl⟩:=gK.1 v;exact(h i _ (fw hi)).2.1
theorem PT(h:ES a es){x:Int×Int}(z:es[k]?=some x):a<=x.1/\x.1+x.2<=a+(es.map Prod.snd).sum:=by
 obtain⟨h1,h2,J⟩:=h k x z
 have L:(es.map Prod.snd).sum=((es.take k).map Prod.snd).sum+(x.2+((es.drop (k+1)).map Prod.snd).sum):=by
  have e:es=es.take k++x::es.drop (k+1):=by
   obtain⟨I,rfl⟩:=dq.1 z;rw[<-dX I,lV]
  have D:=congrArg (λl=>(l.map Prod.snd).sum) e;simpa using D
 have O:=Ap (es:=es.take k) λy v=>Lp h y (jj v);have p2:=Ap (es:=es.drop (k+1)) λy v=>Lp h y (List.mem_of_mem_drop v);omega
theorem Ry(h:ES a es){x:Int×Int}(I:es.length=k+1)(y:es[k]?=some x):x.1+x.2=a+(es.map Prod.snd).sum:=by
 obtain⟨h1,h2,D⟩:=h k x y
 have e:es=es.take k++[x]:=by
  obtain⟨v,rfl⟩:=dq.1 y;have:=lV k es;rw[dX v,nw om]at this;exact this.symm
 have z:=congrArg (λl=>(l.map Prod.snd).sum) e;simp only[fq,List.sum_append,iJ,List.map_nil,tQ,List.sum_nil]at z;omega
theorem Lr(h:ES a es):(es.map Prod.snd).sum<=es.length*1048576:=by
 have v:∀{es:List (Int×Int)},(∀x∈es,x.2<=(1048576:Int))->(es.map Prod.snd).sum<=es.length*1048576:=by
  intro es;induction es with
  |nil=>intro _;simp
  |cons x r ih =>
   intro h;have h1:=h x (by simp);have h2:=ih λy D=>h y (cW _ D);rw[iJ,tQ,fc];push_cast;omega
 exact v λx z=>by
  obtain⟨i,hi,rfl⟩:=gK.1 z;exact(h i _ (fw hi)).2.2
def Gw(mk:Value->Int->Value)(W:World)(v:Value)(w':World):Prop:=∃(gp:Option Addr)(e:Int)(Q:List HA),v=mk (.pointer gp) e/\St No W w' Q /\
 (e=10\/e=0/\∃(p gw gh cap:Nat)(cc:Nat->Int)(A:Option Addr)(bs:Nat->Nat)(Rs:Nat->Option Nat),gp=some ⟨p,0,none⟩/\vB (dw gw gh cc)/\Q=[.grid p gw gh cc A cap bs Rs])
theorem Uk(hT:jX W)(hc:l.length<=c)(hm:l.length<=1073741824)(hA:Rd W A (f9 l)):Fn prog 68 [.slice A l.length c] W (λv w'=>∃(kA:Option Addr)(kn kc:Nat),Gw (λg e=>.tuple #[g,.slice kA kn kc,ii e]) W v w'):=by
 have Z:∀{w:World}{L:List HA},St No W w L->(∃(kA:Option Addr)(kn kc:Nat),Gw (λg e=>.tuple #[g,.slice kA kn kc,ii e]) W (.tuple #[.pointer none,.slice none 0 0,ii 10]) w):=λS=>⟨none,0,0,none,10,_,rfl,S,.inl rfl⟩;have S:=St.start W;refine zI func68 ?_;refine zK (Uj hT hc hm (hA.gr S.out)) ?_;rintro _ bV ⟨B,nB,cB,e1,Q1,rfl,S2,aS⟩;have S:=S.app S2;iterate 5 refine z ?_
 refine ze ?_;rcases fv (e1=0)with aj|aj
 ·obtain⟨aY,rfl⟩:=aS aj;subst aj;have bN:(l.take (l.length-4)).length<=1073741824:=by rw[d7];omega
  generalize l.take (l.length-4)=l1 at *;subst aY;refine zK (Wm (S.row (i:=0) rfl).cap om (S.rd (i:=0) rfl)) ?_;rintro _ bW ⟨X,Y,B2,bS,ap,e2,Q2,rfl,S2,aT⟩;have S:=S.app S2;iterate 9 refine z ?_
  refine ze ?_;rcases fv (e2=0)with ak|ak
  ·obtain⟨gw,gh,es,rfl,rfl,hw,hh,rfl,aA,J,rfl⟩:=aT ak;subst ak;have bO:1*1<=cU gw*cU gh:=fy (kQ hw.1) (kQ hh.1);have bP:cU gw*cU gh<=64*64:=fy (jS hw.2) (jS hh.2);have ah:cU gh*cU gw=cU gw*cU gh:=cD _ _;obtain⟨N,hN⟩:∃N,cU gw*cU gh=N+1:=⟨cU gw*cU gh-1,om⟩;have aQ:N<es.length:=om;obtain⟨⟨x,n⟩,hx⟩:∃y,es[N]?=some y:=⟨es[N],fw aQ⟩;have an:=Ry J om hx;have be:=mS hx;have eN:((cU gw*cU gh:Nat):Int)-1=(N:Nat):=om;have aI:((eT es).drop ((N:Int).toNat * 2)).take 2=[ii x,ii n]:=by rw[b7];exact be
   have bn:dO B2:=(S.row (i:=0) rfl).someA om;have bg:=J N _ hx;dsimp only at an bg;have aF:=Lr J;have av:=λk y=>PT (k:=k) (x:=y) J;generalize (es.map Prod.snd).sum=bU at *;have bR:0<=x:=by have:=(av N _ hx).1;dsimp only at this;omega
   rcases fv (x+n=(l1.length:Nat))with bf|bf
   ·skip;refine yA ?_;rw[eN];refine ZU (S.rd (i:=0) rfl) aI ?_;refine zN ?_;intro aa bX bL S;refine Z1 0 S ?_;intro bY S;iterate 4 refine z ?_
    refine dU (fh rfl (by rw[aA]at aF;omega)) ?_;refine zK (IZ gw gh 0 hw hh (by decide) _) ?_;rintro _ bZ ⟨p,U,cap,bs,Rs,rfl,au,aB,aL⟩;have S:=S.pushGrid au aB aL;refine zK (xN (S.grid (i:=0) rfl)) ?_;rintro _ ca ⟨I,ab,rfl,ag,am,aM⟩;have S:=S.pushRow ag am aM;refine zg ?_;have S:=S.pushNil 3 1;rw[ah]at S ⊢;have az:=(S.row (i:=5) rfl).cap
    refine dl (λm e w=>∃(k:Nat)(cc:Nat->Int)(Rs:Nat->Option Nat)(ad:Option Addr)(ae:Nat)(ks:List Value),k+m=cU gw*cU gh/\vB (dw gw gh cc) /\
      SL e [(0,.slice B l1.length cB),(8,.slice B2 (cU gw*cU gh) ap),(10,pt p),(12,.slice ad k ae),(58,.slice I (cU gw*cU gh) ab),(59,ii (cU gw*cU gh:Nat)),(60,ii k)] /\
      St No W w [.row 3 1 ad k ae ks,.row 43 4 I (cU gw*cU gh) ab (FZ gw gh),.grid p gw gh cc U cap bs Rs,.blk aa 107 [ii x,ii n],.row 107 2 B2 (cU gw*cU gh) ap (eT es),.row 5 1 B l1.length cB (f9 l1)]) (cU gw*cU gh)
     ⟨0,_,Rs,none,0,[],om,u9 (λv hv=>by unfold dw at hv;obtain⟨_,_,rfl⟩:=fC.1 hv;rfl),sl,S⟩ ?_
    clear S;rintro m e w ⟨k,cc,Rs,ad,ae,ks,hk,aH,bb,S⟩;rw[bb.fold];rcases fv (k<cU gw*cU gh)with aE|aE
    ·have aD:k<cU gh*cU gw:=om;have O:=F0 (gh:=gh) hw.1 aD;have aw:=Jj (gh:=gh) hw.1 aD;have bl:=mA (dt k (kQ hw.1));have bm:=mA (show k/cU gw<cU gh from cS aE);have aC:=λw=>Lf (W:=w) (uI gw k) (vL gw k) (z8 gw k) (Aa gw gh k) ⟨O.1.1,om⟩ ⟨O.2.1,om⟩;rw[O.1.2.2,O.2.2.2]at aC
     have aZ:=λW B cp(V:List Int)Rs(hV:V.length=fQ gw (k%cU gw)*fQ gh (k/cU gw))hm hG hR ha hl=>show Fn prog 142 [_,_,.slice B (fQ gw (k%cU gw)*fQ gh (k/cU gw)) cp] W _ from by
      have h:=Dz (W:=W) (B:=B) (V:=V) (p:=p) (gw:=gw) (gh:=gh) (c:=cc) (A:=U) (cap:=cap) (bs:=bs) (Rs:=Rs) (x0:=uI gw k) (x1:=z8 gw k) (y0:=vL gw k) (y1:=Aa gw gh k) cp ⟨O.1.1,O.1.2.1⟩ ⟨O.2.1,O.2.2.1⟩ (by rw[O.1.2.2,O.2.2.2,hV,cD]) hm hG hR ha hl;rw[hV]at h;exact h
     have ba:=λ(V:List Int)(h:vB V)=>yw (gh:=gh) (x0:=uI gw k) (y0:=vL gw k) (x1:=z8 gw k) (y1:=Aa gw gh k) h aH;generalize fQ gw (k%cU gw)=tw at *;generalize fQ gh (k/cU gw)=th at *;have aX:k<es.length:=om;obtain⟨⟨xi,ni⟩,hy⟩:∃y,es[k]?=some y:=⟨es[k],fw aX⟩;have bj:=av k _ hy;have bk:=J k _ hy;have bi:=mS hy;have bh:((eT es).drop ((k:Int).toNat * 2)).take 2=[ii xi,ii ni]:=by rw[b7];exact bi
     dsimp only at bj bk;obtain⟨D,rfl⟩:=cJ (show 0<=xi by omega);obtain⟨qi,rfl⟩:=cJ (show 0<=ni by omega);have ar:(D:Int)+(qi:Nat)=((D+qi:Nat):Int):=om;have bQ:D+qi<=l1.length:=om;have aV:∀w,Rd w B (f9 l1)->Rd w (uA B (D*1) (cB-D)) (f9 ((l1.drop D).take qi)):=λw h=>by rw[<-tK];exact(h.off8 om az).tk qi
     have ai:((l1.drop D).take qi).length=qi:=by rw[d7,i8];omega
     have aG:=λw' hR=>NT (W:=w') (A:=uA B (D*1) (cB-D)) (c:=cB-D) (w:=tw) (h:=th) (l:=(l1.drop D).take qi) bl bm (by rw[ai];omega) (by rw[ai];omega) hR;rw[ai]at aG;have aJ:dO B2:=(S.row (i:=4) rfl).someA om;have bp:dO I:=(S.row (i:=1) rfl).someA om;generalize aN:uA B (D*1) (cB-D)=A3 at *
     have bc:=λw' hR=>(aG w' hR).mono (R':=PN (tw*th) vM w') λv w' hr=>by
      rcases hr with⟨e,he,hv,g⟩|⟨R,B,cB,nx,hR,hV,hv,S⟩
      ·exact⟨_,_,_,_,_,[],hv,(St.start _).gr g,λh=>absurd h he⟩
      ·exact⟨_,_,_,_,_,_,hv,S,λ_=>⟨rfl,R,hR,hV,rfl⟩⟩
     refine zg ?_;refine ZU (S.rd (i:=1) rfl) aw ?_;refine zN ?_;intro br ce bM S;refine zS ?_;intro bB S;refine ZU (S.rd (i:=5) rfl) bh ?_;refine zN ?_;intro bt bC bu S;refine zS ?_;intro bD S;refine zC (aC _) ?_;intro bE bv S;iterate 12 refine z ?_
     refine dU (fh rfl (by rw[ar];omega)) ?_;rw[ar];refine dU (Gb fR gJ rfl rfl rfl om om) ?_;rw[aN,iw];refine zK (bc _ (aV _ (S.rd (i:=7) rfl))) ?_;rintro _ bF ⟨B5,bT,aK,kd,e5,Q5,rfl,S2,aU⟩;have S:=S.app S2;iterate 7 refine z ?_
     refine ze ?_;rcases fv (e5=0)with al|al
     ·obtain⟨rfl,V,hV,aW,rfl⟩:=aU al;subst al
      have ac:∀v∈V,iL v=true:=λv hv=>by
       have:=aW v hv;unfold iL;simpa using this
      refine zK (aZ _ B5 aK V Rs hV ac (S.grid (i:=5) rfl) (S.rd (i:=0) rfl) (λg h2 h3=>S.sep.ap (i:=0) (j:=5) rfl rfl rfl g h2 h3) (λg h=>(S.row (i:=0) rfl).lt h)) ?_;rintro _ bG ⟨rfl,Rs2,aP,aO,aR⟩;have S:=S.set (i:=5) (h':=.grid p gw gh (im gw V (uI gw k) (vL gw k) (z8 gw k) (Aa gw gh k) cc) U cap bs Rs2) rfl rfl aO (λg h=>.inl h) aP aR;refine zg ?_;refine yb S ?_;intro bq bH bw S bo;refine ZP 4 0 S ?_;intro ao aq bI S bA;refine zg ?_;exact⟨m-1,om,k+1,_,Rs2,ao,aq,_,om,ba V (u9 ac),sl,S.drop 4⟩
     ·skip;repeat refine dm ?_
      refine dz ?_;refine dU (jx rfl) ?_;refine dU (ff (b:=true) rfl (f5.2 om)) ?_;first|refine eF ?_|(refine di ?_;show CW _ _ _ _ _ _)|refine di ?_
      repeat refine dm ?_
      refine jr rfl ?_;repeat refine dm ?_
      refine dz ?_;iterate 3 refine dU (jx rfl) ?_
      first|refine eF ?_|(refine di ?_;show CW _ _ _ _ _ _)|refine di ?_
      repeat refine dm ?_
      refine mJ ?_;repeat first|refine mL ?_|refine oq ?_
      exact tE rfl rfl rfl (Z S)
    ·obtain rfl:k=cU gw*cU gh:=om;refine zX ?_;exact⟨_,_,_,_,0,_,rfl,S.sub (.cons _ (.cons _ (.cons_cons _ (.cons _ (.cons _ (.cons _ .slnil)))))),.inr ⟨rfl,p,gw,gh,cap,cc,U,bs,Rs,rfl,aH,rfl⟩⟩
   ·skip;refine zg ?_;rw[eN];refine zg ?_;refine ZU (S.rd (i:=0) rfl) aI ?_;refine zN ?_;intro aa bJ bz S;refine Z1 0 S ?_;intro bK S;iterate 4 refine z ?_
    refine dU (fh rfl (by rw[aA]at aF;omega)) ?_;refine zX ?_;exact(Z S)
  ·skip;repeat refine dm ?_
   refine dz ?_;refine dU (jx rfl) ?_;refine dU (ff (b:=true) rfl (f5.2 om)) ?_;first|refine eF ?_|(refine di ?_;show CW _ _ _ _ _ _)|refine di ?_
   repeat refine dm ?_
   refine jr rfl ?_;repeat refine dm ?_
   refine dz ?_;iterate 3 refine dU (jx rfl) ?_
   first|refine eF ?_|(refine di ?_;show CW _ _ _ _ _ _)|refine di ?_
   repeat refine dm ?_
   refine mJ ?_;repeat first|refine mL ?_|refine oq ?_
   exact tE rfl rfl rfl (Z S)
 ·skip;repeat refine dm ?_
  refine dz ?_;refine dU (jx rfl) ?_;refine dU (ff (b:=true) rfl (f5.2 om)) ?_;first|refine eF ?_|(refine di ?_;show CW _ _ _ _ _ _)|refine di ?_
  repeat refine dm ?_
  refine jr rfl ?_;repeat refine dm ?_
  refine dz ?_;iterate 3 refine dU (jx rfl) ?_
  first|refine eF ?_|(refine di ?_;show CW _ _ _ _ _ _)|refine di ?_
  repeat refine dm ?_
  refine mJ ?_;repeat first|refine mL ?_|refine oq ?_
  exact tE rfl rfl rfl (Z S)
end
section
variable{ps:String}{y:Operand}{k:IntKind}{b c:Int}
theorem wQ(I:ev e x=.int k a)(J:ev e y=.int k b)(v:0<=a)(L:0<b):iE P e ⟨d,.binOp .rem t x y t',ty,ps,af,none⟩ (.int k (a%b)):=by
 intro w;have z:b≠0:=om;have D:a.tmod b=a%b:=mc v;simp[gd,execOp,I,J,eqGuard,binOp,Op.intDiv,z,D]
theorem wR(J:ev e x=.int k a)(L:ev e y=.int k b)(v:0<=a)(O:0<b)(I:k.wrap (a/b)=c):iE P e ⟨d,.binOp .quo t x y t',ty,ps,af,none⟩ (.int k c):=by
 intro w;have z:b≠0:=om;have D:a.tdiv b=a/b:=py v;subst I;simp[gd,execOp,J,L,eqGuard,binOp,Op.intDiv,z,D]
theorem wS(z:ev e x=.int k a)(D:ev e y=.int k b)(v:k.wrap (a*b)=c):iE P e ⟨d,.binOp .mul t x y t',ty,ps,af,none⟩ (.int k c):=by
 intro w;subst v;simp[gd,execOp,z,D,eqGuard,binOp,Op.intArith]
end
theorem CK(n:Int)(h:0<=n/\n<4294967296):IntKind.u32.wrap n=n:=by rw[j3];omega
def Ul(s:Int):Int:=if s%2=1 then bits .xor .u32 (s/2) 2197175160 else s/2
def Lt(s:Int):Nat->Int
 |0=>s
 |j+1=>Ul (Lt s j)
def Lu(l:List Int)(s:Int):Nat->Int
 |0=>s
 |i+1=>Lt (bits .xor .u32 (Lu l s i) (IntKind.u32.wrap (l.getD i 0))) 8
def DO(s:Int):Prop:=0<=s/\s<4294967296
theorem Um(op:BinOp)(a b:Int):DO (bits op .u32 a b):=DB (k:=.u32) rfl op a b
theorem Un{s:Int}(h:DO s):DO (Ul s):=by
 unfold Ul;split
 ·exact Um _ _ _
 ·unfold DO at*;omega
theorem Gx{s:Int}(h:DO s):∀j,DO (Lt s j)
 |0=>h
 |j+1=>Un (Gx h j)
theorem Uo{l:List Int}{s:Int}(h:DO s):∀i,DO (Lu l s i)
 |0=>h
 |i+1=>Gx (Um _ _ _) 8
def Lv(l:List Int):Int:=bits .xor .u32 (Lu l (bits .xor .u32 0 4294967295) l.length) 4294967295
theorem AL{l:List Int}(h:i<l.length):(f9 l)[(i:Int).toNat * 1]?=some (.int .u8 (l.getD i 0)):=by
 rw[Cx h,cO,fw h];rfl
theorem uB.gr{L:List HA}{T:List Value->List HA->Prop}{σ:List Value}(g:Gr w w')(h:uB F W L T σ w):uB F W L T σ w':=by
 obtain⟨Q,v,S⟩:=h;exact⟨Q,v,S.gr g⟩
section
variable{l:List Int}
theorem Up(hm:l.length<=1099511627776)(hA:Rd W A (f9 l)):Fn prog 159 [.int .u32 0,.slice A l.length c] W (dp (.int .u32 (Lv l)) W):=by
 unfold Lv;obtain⟨I,z⟩:∃s,s=bits .xor .u32 0 4294967295:=⟨_,rfl⟩;have ab:DO I:=z▸Um .xor 0 4294967295;rw[<-z];have ad:=λi=>Uo (l:=l) ab i;have S:=St.start W;refine zI func159 ?_;refine zg ?_;refine dU (gR (op:=.xor) rfl rfl rfl) ?_;rw[<-z];refine zg ?_
 refine dl (λm e w=>∃i:Nat,i+m=l.length/\SL e [(0,.int .u32 (Lu l I i)),(1,.slice A l.length c),(5,ii i)]/\St No W w []) l.length
  ⟨0,om,sl,S⟩ ?_
 clear S;rintro m e w ⟨i,hi,D,S⟩;rw[D.fold];rcases fv (i<l.length)with L|L
 ·have ac:dO A:=hA.someA (by rw[m4];omega);have hg:=AL L;have hx:=Um .xor (Lu l I i) (IntKind.u32.wrap (l.getD i 0));have v:Lu l I (i+1)=Lt (bits .xor .u32 (Lu l I i) (IntKind.u32.wrap (l.getD i 0))) 8:=rfl;generalize l.getD i 0=b at *;generalize Lu l I i=s1 at *;obtain⟨U,J⟩:∃s,s=bits .xor .u32 s1 (IntKind.u32.wrap b):=⟨_,rfl⟩;rw[<-J]at hx v;have V:=λj=>Gx hx j;refine zT (hA.gr S.out) hg ?_;refine Y9 (n:=b) rfl rfl ?_;refine dU (gR (op:=.xor) rfl rfl rfl) ?_;rw[<-J];refine zg ?_
  refine dl (λO e w=>∃j:Nat,j+O=8/\SL e [(0,.int .u32 (Lt U j)),(1,.slice A l.length c),(5,ii i),(6,ii j)]/\St No W w []) 8
   ⟨0,om,sl,S⟩ ?_
  clear S;rintro O e w ⟨j,hj,D,S⟩;rw[D.fold];rcases fv (j<8)with aa|aa
  ·have Z:=V j;have y:Lt U (j+1)=Ul (Lt U j):=rfl;unfold Ul at y;generalize Lt U j=s3 at *;unfold DO at Z;rcases fv (s3%2=1)with h1|h1
   ·rw[a7 h1]at y;refine zg ?_;refine dU (wQ rfl rfl om om) ?_;refine zg ?_;refine dU (wR rfl rfl om om (CK _ om)) ?_;refine zg ?_;refine dU (vN (B:=true) rfl rfl (fX.2 h1)) ?_;refine zg ?_;refine dU (gR (op:=.xor) rfl rfl rfl) ?_;refine zg ?_;exact⟨O-1,om,j+1,om,⟨ie y.symm,rfl,rfl,ie om,trivial⟩,S⟩
   ·rw[a8 h1]at y;refine zg ?_;refine dU (wQ rfl rfl om om) ?_;refine zg ?_;refine dU (wR rfl rfl om om (CK _ om)) ?_;refine zg ?_;refine dU (vN (B:=false) rfl rfl (et.2 h1)) ?_;refine zg ?_;exact⟨O-1,om,j+1,om,⟨ie y.symm,rfl,rfl,ie om,trivial⟩,S⟩
  ·obtain rfl:j=8:=om;refine zg ?_;exact⟨m-1,om,i+1,om,⟨ie v.symm,rfl,ie om,trivial⟩,S⟩
 ·obtain rfl:i=l.length:=om;refine zg ?_;refine dU (gR (op:=.xor) rfl rfl rfl) ?_;exact zZ
theorem Wp(z:l.length<=1099511627776)(y:Rd W A (f9 l)):Fn prog 83 [.slice A l.length c] W (dp (.int .u32 (Lv l)) W):=by
 have S:=St.start W;refine zI func83 ?_;refine zC (Up z (y.gr S.out)) ?_;intro D v S;exact zZ
theorem Rz(l:List Int):DO (Lv l):=Um _ _ _
def JG(s:Int):List Int:=[IntKind.u8.wrap (s%256),IntKind.u8.wrap (s/256%256),IntKind.u8.wrap (s/65536%256),IntKind.u8.wrap (s/16777216)]
theorem Uq(s:Int)(D:DO s):Fn prog 82 [.int .u32 s] W (jc id 5 1 4 (f9 (JG s)) W):=by
 unfold DO at D;have S:=St.start W;refine zI func82 ?_;refine zg ?_;refine dU (wQ rfl rfl om om) ?_;refine Y9 rfl rfl ?_;refine zg ?_;refine dU (wR rfl rfl om om (CK _ om)) ?_;refine dU (wQ rfl rfl om om) ?_;refine Y9 rfl rfl ?_;refine zg ?_;refine dU (wR rfl rfl om om (CK _ om)) ?_;refine dU (wQ rfl rfl om om) ?_;refine Y9 rfl rfl ?_;refine zg ?_;refine dU (wR rfl rfl om om (CK _ om)) ?_;refine Y9 rfl rfl ?_;refine yb S ?_;intro y I z S v;refine zX ?_;exact(S.retNew (i:=0) rfl)
def Xq(A:Option Addr)(l:List Int)(c:Nat)(W:World)(v:Value)(w':World):Prop:=∃(B:Option Addr)(nB cB:Nat)(e:Int),v=.tuple #[.slice B nB cB,ii e]/\Gr W w'/\(e=0->4<=l.length/\B=A/\nB=l.length-4/\cB=c)
theorem Ur(hc:l.length<=c)(hm:l.length<=1099511627776)(U:Rd W A (f9 l)):Fn prog 39 [.slice A l.length c] W (Xq A l c W):=by
 rcases fv (l.length<4)with h4|h4
 ·skip;have S:=St.start W;refine zI func39 ?_;refine zX ?_;exact⟨_,_,_,14,rfl,S.out,λh=>absurd h (by decide)⟩
 ·have e4:((l.length:Nat):Int)-4=((l.length-4:Nat):Int):=om;have I:Rd W A (f9 (l.take (l.length-4))):=by rw[<-tK];exact U.tk _
  have ab:(l.take (l.length-4)).length=l.length-4:=by rw[d7];omega
  have J:=U.off8 (m:=l.length-4) om hc;have L:l.length-(l.length-4)=(l.drop (l.length-4)).length:=by rw[i8]
  have y:=λw U=>Wp (W:=w) (A:=A) (c:=c) (l:=l.take (l.length-4)) om U;have D:=λw=>Uq (W:=w) _ (Rz (l.take (l.length-4)));rw[ab]at y;obtain⟨l1,Z⟩:∃x,x=l.take (l.length-4):=⟨_,rfl⟩;obtain⟨l2,aa⟩:∃x,x=l.drop (l.length-4):=⟨_,rfl⟩;rw[<-Z]at y D I;rw[<-aa]at J L;generalize V:uA A ((l.length-4)*1) (c-(l.length-4))=A2 at *;generalize hN:l.length-4=N at *;obtain⟨s,hs⟩:∃s,s=Lv l1:=⟨_,rfl⟩;rw[<-hs]at y D;obtain⟨tb,ac⟩:∃tb,(!((Bt (JG s)).toList==(Bt l2).toList))=tb:=⟨_,rfl⟩;have S:=St.start W;refine zI func39 ?_;refine zg ?_;rw[e4];refine zH (C:=(uB No W [] (λσ Q=>match σ with|[]=>Q=[]|[v]=>∃(B:Option Addr)(cB:Nat),v=.slice B 4 cB/\Q=[.row 5 1 B 4 cB (f9 (JG s))]|v::_=>v=.string (Bt (JG s))/\Q=[]))) [4,5] [0,1,2,3,6,7,8,9,4,5] [10] (uB.start rfl (S.gr (Gr.drew _))) ?_;refine ot rfl (jb (n:=(N:Int)) fR gJ rfl rfl om om) ?_;rw[b7];refine jH rfl rfl (λτ wq z=>(y wq (I.gr (uB.st z).out)).mono (λ_ _⟨O,hg⟩=>⟨O,uB.gr hg z⟩)) ?_;refine zR ?_;refine ot rfl (Jq fR gJ rfl rfl om hc) ?_;rw[V,L];refine qo rfl (λτ wq z=>BZ fR dv fk rfl (J.gr (uB.st z).out)) ?_;refine de rfl rfl (λwq z=>vh z rfl (λQ hQ S=>?_)) ?_
  ·cases hQ;exact(D _).mono λv w'⟨A',c',O,hR,hf,g⟩=>⟨_,⟨A',c',O,rfl⟩,S.pushRow hR hf g⟩
  rintro v3 w3 ⟨_,⟨A3,c3,rfl,_⟩,_⟩;refine de rfl rfl (λwq z=>?_) ?_
  ·obtain⟨Q,⟨A',c',O,rfl⟩,S⟩:=z;cases O;exact gu rfl (dH (BZ fR dv fk rfl (S.rd (i:=0) rfl)) ⟨[],⟨rfl,rfl⟩,S.drop 1⟩)
  rintro v5 w5 ⟨Q5,⟨rfl,_⟩,_⟩;refine zY ?_;rintro wz hz;obtain⟨_,⟨_,rfl⟩,S⟩:=hz;refine dU (Jp rfl rfl ac) ?_;refine ze ?_;cases tb
  ·skip;refine zg ?_;refine dU (jb (n:=(N:Int)) fR gJ rfl rfl om om) ?_;rw[b7];refine zX ?_;exact⟨_,_,_,0,rfl,S.out,λ_=>⟨om,rfl,om,rfl⟩⟩
  ·skip;refine zX ?_;exact⟨_,_,_,10,rfl,S.out,λh=>absurd h (by decide)⟩
end
section
variable{ps:String}{y:Operand}{k:IntKind}{b c:Int}
theorem Lw(z:ev e x=.int k a)(D:ev e y=.int k b)(v:b≠0):iE P e ⟨d,.binOp .rem t x y t',ty,ps,af,none⟩ (.int k (a.tmod b)):=by
 intro w;simp[gd,execOp,z,D,eqGuard,binOp,Op.intDiv,v]
theorem Ly{B:Bool}(z:ev e x=.int k a)(D:ev e y=.int k b)(v:decide (a<=b)=B):iE P e ⟨d,.binOp .leq t x y t',ty,ps,af,none⟩ (.bool B):=by
 intro w;subst v;simp[gd,execOp,z,D,eqGuard,binOp,Op.intCmp]
theorem Us(z:ev e x=.int k a)(D:ev e y=.int k b)(v:k.wrap (a-b)=c):iE P e ⟨d,.binOp .sub t x y t',ty,ps,af,none⟩ (.int k c):=by
 intro w;subst v;simp[gd,execOp,z,D,eqGuard,binOp,Op.intArith]
end
theorem Ut(n:Int):0<=IntKind.u64.wrap n/\IntKind.u64.wrap n<18446744073709551616:=by rw[gQ];omega
section
variable{l:List Int}
theorem RA(at_ n:Nat)(L:at_<=1099511627776)(Z:1<=n/\n<=8)(V:l.length<=1099511627776)(D:Rd W A (f9 l)) :
  Fn prog 160 [.slice A l.length c,ii at_,ii n] W (λv w'=>∃u x e:Int,v=.tuple #[.int .u64 u,ii x,ii e]/\Gr W w'):=by
 rcases fv (l.length<at_)with h1|h1
 ·skip;have S:=St.start W;refine zI func160 ?_;refine zX ?_;exact⟨_,_,_,rfl,S.out⟩
 ·rcases fv (l.length<at_+n)with h2|h2
  ·skip;have S:=St.start W;refine zI func160 ?_;refine zX ?_;exact⟨_,_,_,rfl,S.out⟩
  ·skip;have S:=St.start W;refine zI func160 ?_;refine zg ?_
   refine dl (λm e w=>∃u:Int,m<=n/\SL e [(0,.slice A l.length c),(1,ii at_),(2,ii n),(9,.int .u64 u),(10,ii ((m:Nat)-1:Int))]/\St No W w []) n
    ⟨0,fK _,sl,S⟩ ?_
   clear S;rintro m e w ⟨u,U,z,S⟩;rw[z.fold];rcases fv (0<m)with y|y
   ·have I:dO A:=D.someA (by rw[m4];omega);have J:(at_:Int)+((m:Nat)-1:Int)=((at_+(m-1):Nat):Int):=om;have O:=AL (l:=l) (i:=at_+(m-1)) om;refine zg ?_;refine dU (wS rfl rfl rfl) ?_;refine zg ?_;rw[J];refine zT (D.gr S.out) O ?_;refine Y9 rfl rfl ?_;refine dU (nO rfl rfl rfl) ?_;refine zg ?_;exact⟨m-1,om,_,om,sl,S⟩
   ·skip;refine zX ?_;exact⟨_,_,_,rfl,S.out⟩
theorem N2(at_ n:Nat)(z:at_<=1099511627776)(J:1<=n/\n<=8)(I:l.length<=1099511627776)(D:Rd W A (f9 l)) :
  Fn prog 84 [.slice A l.length c,ii at_,ii n] W (λv w'=>∃x:Int,(-9223372036854775808<=x/\x<=9223372036854775807)/\v=ii x/\Gr W w'):=by
 have S:=St.start W;refine zI func84 ?_;refine zK (RA (c:=c) at_ n z J I (D.gr S.out)) ?_;rintro _ L ⟨u,x,e,rfl,y⟩;have S:=S.gr y;refine zg ?_;refine Y9 (n:=u) rfl rfl ?_;refine zX ?_;exact⟨_,NL u,rfl,S.out⟩
theorem JH(u:Int)(y:0<=u):Fn prog 163 [.int .u64 u] W (λv w'=>∃x:Int,v=ii x/\Gr W w'):=by
 rcases fv (u%2=0)with h|h
 ·skip;have S:=St.start W;refine zI func163 ?_;refine zg ?_;refine dU (wQ rfl rfl y om) ?_;refine dU (vN (B:=true) rfl rfl (fX.2 h)) ?_;refine zg ?_;refine dU (wR rfl rfl y om rfl) ?_;refine Y9 rfl rfl ?_;refine zX ?_;exact⟨_,rfl,S.out⟩
 ·skip;have S:=St.start W;refine zI func163 ?_;refine zg ?_;refine dU (wQ rfl rfl y om) ?_;refine dU (vN (B:=false) rfl rfl (et.2 h)) ?_;refine zg ?_;refine dU (wR rfl rfl y om rfl) ?_;refine Y9 rfl rfl ?_;refine zg ?_;refine dU (Us rfl rfl rfl) ?_;refine zX ?_;exact⟨_,rfl,S.out⟩
theorem In(n:Nat)(hn:n<=l.length)(hm:l.length<=1099511627776)(I:Rd W A (f9 l)) :
  Fn prog 162 [.slice A l.length c,ii n] W (λv w'=>∃u nx e:Int,v=.tuple #[.int .u64 u,ii nx,ii e]/\(0<=u/\u<18446744073709551616)/\(e=0->∃k:Nat,nx=k/\n<k/\k<=l.length)/\Gr W w'):=by
 have S:=St.start W;refine zI func162 ?_;refine zg ?_
 refine dl (λm e w=>∃(k:Nat)(u wo:Int),k+m=10/\(0<=u/\u<18446744073709551616)/\SL e [(0,.slice A l.length c),(1,ii n),(7,.int .u64 u),(8,.int .u64 wo),(9,ii k)]/\St No W w []) 10
  ⟨0,0,1,om,om,sl,S⟩ ?_
 clear S;rintro m e w ⟨k,u,wo,hk,hu,aa,S⟩;rw[aa.fold];have L:(l.length:Int)-n=((l.length-n:Nat):Int):=om;rcases fv (k<10)with Z|Z
 ·rcases fv (l.length-n<=k)with h1|h1
  ·skip;refine yX ?_;exact⟨0,0,14,rfl,om,(λh=>absurd h (by decide)),S.out⟩
  ·have ac:dO A:=I.someA (by rw[m4];omega);have O:(n:Int)+k=((n+k:Nat):Int):=om;have J:=AL (l:=l) (i:=n+k) om;generalize l.getD (n+k) 0=b at J;rcases fv ((k=9/\1<b)\/(¬(k=9/\1<b)/\0<k/\b=0))with ab|ad
   ·rcases fv (k=9)with h2|h2
    all_goals
     rcases fv (1<b)with U|U
    all_goals
     rcases fv (k=0)with D|D
    all_goals
     rcases fv (b=0)with V|V
    all_goals
     first
      |(exfalso;omega)
      |skip
    all_goals
     refine zg ?_;rw[L];refine zg ?_;rw[O];refine zT (I.gr S.out) J ?_;refine zX ?_;exact⟨0,0,13,rfl,om,(λh=>absurd h (by decide)),S.out⟩
   ·have er:(n:Int)+(k:Int)+1=((n+k+1:Nat):Int):=om;rcases fv (b<128)with y|y
    ·rcases fv (k=9)with h2|h2
     all_goals
      rcases fv (1<b)with U|U
     all_goals
      rcases fv (k=0)with D|D
     all_goals
      rcases fv (b=0)with V|V
     all_goals
      first
       |(exfalso;omega)
       |skip
     all_goals
      refine zg ?_;rw[L];refine zg ?_;rw[O];refine zT (I.gr S.out) J ?_;refine zg ?_;refine dU (Lw rfl rfl (by decide)) ?_;refine Y9 rfl rfl ?_;refine zg ?_;refine dU (wS rfl rfl rfl) ?_;refine dU (nO rfl rfl rfl) ?_;refine zg ?_;refine dU (wS rfl rfl rfl) ?_;refine z ?_;refine z ?_;refine dU (uz (B:=true) rfl rfl (fD om)) ?_;refine zX ?_;exact⟨_,_,0,rfl,Ut _,(λ_=>⟨n+k+1,er,om,om⟩),S.out⟩
    ·rcases fv (k=9)with h2|h2
     all_goals
      rcases fv (k=0)with D|D
     all_goals
      first
       |(exfalso;omega)
       |skip
     all_goals
      refine zg ?_;rw[L];refine zg ?_;rw[O];refine zT (I.gr S.out) J ?_;refine zg ?_;refine dU (Lw rfl rfl (by decide)) ?_;refine Y9 rfl rfl ?_;refine zg ?_;refine dU (wS rfl rfl rfl) ?_;refine dU (nO rfl rfl rfl) ?_;refine zg ?_;refine dU (wS rfl rfl rfl) ?_;refine z ?_;refine z ?_;refine dU (uz (B:=false) rfl rfl (iO om)) ?_;refine zg ?_;exact⟨m-1,om,k+1,_,_,om,Ut _,sl,S⟩
 ·skip;refine zX ?_;exact⟨0,0,13,rfl,om,(λh=>absurd h (by decide)),S.out⟩
theorem RB(U n:Nat)(aj:U<=l.length)(hn:n<=1048576)(hm:l.length<=1099511627776)(hA:Rd W A (f9 l)) :
  Fn prog 90 [.slice A l.length c,ii U,ii n] W (PN n (λ_=>True) W):=by
 have D:∀{w:World}{L:List HA}{e x:Int},e≠0->St No W w L->PN n (λ_=>True) W (.tuple #[.slice none 0 0,ii x,ii e]) w:=λhe S=>⟨_,_,_,_,_,_,rfl,S,λh=>absurd h he⟩;have S:=St.start W;refine zI func90 ?_;refine zg ?_;refine mv fZ cR S ?_;intro ar aB au S O;refine zg ?_
 refine dl (λm e w=>∃(k at_:Nat)(R:List Int)(B:Option Addr)(cB:Nat)(bh:Bool),k+m=n/\at_<=l.length/\R.length=k/\SL e [(0,.slice A l.length c),(1,ii at_),(2,ii n),(9,.slice B k cB),(10,.bool bh)]/\St No W w [.row 2 1 B k cB (cY R)]) n
  ⟨0,U,[],_,_,false,om,aj,rfl,sl,S⟩ ?_
 clear S;rintro m e w ⟨k,at_,R,B,cB,bh,hk,ac,hR,Z,S⟩;rw[Z.fold];rcases fv (k<n)with al|al
 ·skip;refine zK (In (c:=c) at_ ac hm (hA.gr S.out)) ?_;rintro _ aC ⟨u,nx,e1,rfl,hu,am,ag⟩;have S:=S.gr ag;iterate 7 refine dU (jx rfl) ?_
  first|refine eF ?_|(refine di ?_;show CW _ _ _ _ _ _)|refine di ?_
  rcases fv (e1≠0)with he|he
  ·skip;refine yA ?_;exact tE rfl rfl rfl (D he S)
  ·obtain⟨k1,rfl,aw,J⟩:=am (fH.1 he);rcases fv (0<u)with I|I
   ·skip;repeat refine dm ?_
    refine dz ?_;refine dU (jx rfl) ?_;refine dU (ff (b:=false) rfl (eo.2 om)) ?_;first|refine eF ?_|(refine di ?_;show CW _ _ _ _ _ _)|refine di ?_
    repeat refine dm ?_
    refine eX rfl ?_;repeat refine dm ?_
    refine gO ?_;try show CW _ _ _ _ _ _
    repeat refine dm ?_
    refine dz ?_;refine dU (jx rfl) ?_;refine dU (qA (B:=true) rfl rfl (fD I)) ?_;refine zK (JH u hu.1) ?_;rintro _ aD ⟨x,rfl,ah⟩;have S:=S.gr ah;refine yb S ?_;intro ab aE av S aa;refine fM (i:=1) S rfl (λh=>rfl) fZ jR rfl rfl rfl rfl (by simp) om (S.rd (i:=0) rfl) rfl om ?_;intro v y aF S O;refine zg ?_;have S:=S.drop 1;rw[show cY R++[ii x]=cY (R++[x])by simp[cY]]at S;exact⟨m-1,om,k+1,k1,R++[x],v,y,false,om,J,by simp[hR],sl,S⟩
   ·cases bh
    ·skip;refine yA ?_;refine dU (qA (B:=false) rfl rfl (iO I)) ?_;refine zK (In (c:=c) k1 J hm (hA.gr S.out)) ?_;rintro _ aG ⟨u2,aA,e2,rfl,an,ae,ai⟩;have S:=S.gr ai;iterate 7 refine dU (jx rfl) ?_
     first|refine eF ?_|(refine di ?_;show CW _ _ _ _ _ _)|refine di ?_
     rcases fv (e2≠0)with V|V
     ·skip;refine yA ?_;exact tE rfl rfl rfl (D V S)
     ·obtain⟨k2,rfl,az,ad⟩:=ae (fH.1 V);obtain⟨q,rfl⟩:=cJ an.1;have e5:(n:Int)-k-1=((n-k-1:Nat):Int):=om;rcases fv (n-k-1<q)with hq|hq
      ·skip;repeat refine dm ?_
       refine dz ?_;refine dU (jx rfl) ?_;refine dU (ff (b:=false) rfl (eo.2 om)) ?_;first|refine eF ?_|(refine di ?_;show CW _ _ _ _ _ _)|refine di ?_
       repeat refine dm ?_
       refine eX rfl ?_;repeat refine dm ?_
       refine gO ?_;try show CW _ _ _ _ _ _
       repeat refine dm ?_
       refine dz ?_;iterate 3 refine dU (jx rfl) ?_
       refine dU (p6 fZ rfl) ?_;refine dU (fh rfl om) ?_;refine dU (fh rfl om) ?_;rw[e5];refine dU (dY (ks:=.i64) (n:=((n-k-1:Nat):Int)) (m:=((n-k-1:Nat):Int)) (kd:=.u64) dB kC rfl (re _ om)) ?_;refine dU (qA (B:=true) rfl rfl (fD om)) ?_;refine zX ?_;exact(D (by decide) S)
      ·skip;refine yA ?_;rw[e5];refine dU (dY (ks:=.i64) (n:=((n-k-1:Nat):Int)) (m:=((n-k-1:Nat):Int)) (kd:=.u64) dB kC rfl (re _ om)) ?_;refine dU (qA (B:=false) rfl rfl (iO om)) ?_;refine zg ?_
       refine dl (λm2 e w=>∃(i:Nat)(R:List Int)(B:Option Addr)(cB:Nat),i+m2=q+1/\R.length=k+i/\SL e [(0,.slice A l.length c),(2,ii n),(9,.slice B (k+i) cB),(14,.int .u64 q),(15,ii k2),(17,.int .u64 i)]/\St No W w [.row 2 1 B (k+i) cB (cY R)]) (q+1)
        ⟨0,R,B,cB,om,om,sl,S⟩ ?_
       clear S;rintro m2 e w ⟨i,R,B,cB,hi,hR,Z,S⟩;rw[Z.fold];rcases fv (i<=q)with ak|ak
       ·skip;refine zg ?_;refine dU (Ly (B:=true) rfl rfl (fD om)) ?_;refine zg ?_;refine yb S ?_;intro ab ap ao S aa;refine fM (i:=1) S rfl (λh=>rfl) fZ jR rfl rfl rfl rfl (by simp) om (S.rd (i:=0) rfl) rfl om ?_;intro v y aq S O;refine zg ?_;refine dU (nO rfl rfl (re _ om)) ?_;refine zg ?_;have S:=S.drop 1;rw[show cY R++[ii 0]=cY (R++[0])by simp[cY]]at S;exact⟨m2-1,om,i+1,R++[0],v,y,om,by simp[hR];omega,sl,S⟩
       ·obtain rfl:i=q+1:=om;refine zg ?_;refine dU (Ly (B:=false) rfl rfl (iO om)) ?_;refine zg ?_;exact⟨n-(k+(q+1)),om,k+(q+1),k2,R,B,cB,true,om,ad,hR,sl,S⟩
    ·skip;refine z ?_;refine zf ?_;refine z ?_;refine dU (qA (B:=false) rfl rfl (iO I)) ?_;refine zX ?_;exact(D (by decide) S)
 ·obtain rfl:k=n:=om;refine zX ?_;exact⟨_,_,_,_,0,_,rfl,S,λ_=>⟨rfl,R,hR,trivial,rfl⟩⟩
end
end Go.Proofs.YtcalhocphkbbgaaGreatDoor
