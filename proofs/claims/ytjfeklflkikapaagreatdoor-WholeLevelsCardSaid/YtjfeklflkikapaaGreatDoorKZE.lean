/- hachuretop.WholeLevels: a part of the proof that the law returns true at every input; no condition of its own. -/
import Derived.Test.YtjfeklflkikapaaGreatDoorKT
import Derived.Test.YtjfeklflkikapaaGreatDoorKZ
set_option maxRecDepth 100000
set_option maxHeartbeats 16000000
set_option linter.unusedVariables false
set_option linter.unusedSimpArgs false
namespace Go.Proofs.YtjfeklflkikapaaGreatDoor
open Go.Proofs.Tryz Go.RowKit
variable{af:Array Edge}{f:FuncId}{h h':HA}{Y a ax ay bx e0:Int}{σ:List (Nat × Value)}{M T:List HA}{hd:List Nat}{caps l:List Value}{N b b' c cf cx cy fid g gh gw i j k lc m n p q rb tb x0 x1 xb y0 y1:Nat}{sp:Nat->Bool}{c':Nat->Int}{R':Nat->Nat->Bool}{As:Nat->Option Addr}{F X:Nat->Prop}{e:Nat->Value}{hi lo x:Operand}{A B lA:Option Addr}{d:Option Tmp}{P:Program}{r':RG}{r:Rc}{t ty:TypeId}{u zv:Value}{W w w' wq:World}{C:World->Prop}
def xU(N M i:Nat):Nat:=(2*(M*i)+N)/(2*N)
def rm(ax ay:Int)(r:TX)(i:Nat):Int×Int:=(ax+i*r.ux+xU r.n.toNat r.m.toNat i*r.vx,ay+i*r.uy+xU r.n.toNat r.m.toNat i*r.vy)
def vX(ax ay bx cy:Int):List (Int×Int):=(List.range ((jh ax ay bx cy).n.toNat+1)).map (rm ax ay (jh ax ay bx cy))
theorem UK{M rest:Nat}(h:rest+2*(N*j)=N+2*(M*i))(v:rest<2*N):xU N M i=j:=by
 unfold xU;rw[show 2*(M*i)+N=rest+2*N*j by rw[oc];omega,Nat.add_mul_div_left _ _ om,ee v,eH]
theorem Om(N M:Nat):xU N M 0=0:=by
 unfold xU;rcases iZ N with rfl|h
 ·simp
 ·exact ee om
theorem On(ax ay bx cy:Int)(hg:gw<=1024/\gh<=1024)(ha:mD gw gh (ax,ay)=true)(hb:mD gw gh (bx,cy)=true) :
  Fn prog 176 [.agg #[ii ax,ii ay],.agg #[ii bx,ii cy]] W (jc (λs=>.tuple #[s,ii 0]) 34 2 ((jh ax ay bx cy).n.toNat+1) (eT (vX ax ay bx cy)) W):=by
 have au:=jT.1 ha;have av:=jT.1 hb;dsimp only at au av;have ab:=λw=>Rh (W:=w) ax ay bx cy om om om om;have an:=λw=>KW (W:=w) ax ay bx cy om om om om;unfold vX;obtain⟨r,hr⟩:∃r,jh ax ay bx cy=r:=⟨_,rfl⟩;obtain⟨N,M,eN,eM,aX,hN,hd,am⟩:=Js ha hb hr;rw[hr]at ab an ⊢;have ae:∀i:Nat,rm ax ay r i=(ax+i*r.ux+xU N M i*r.vx,ay+i*r.uy+xU N M i*r.vy):=λi=>by unfold rm;rw[eN,eM,b7,b7]
 obtain⟨f,hf⟩:∃f,rm ax ay r=f:=⟨_,rfl⟩;rw[hf]at ae ⊢;obtain⟨n,m,L,O,V,Z⟩:=r;dsimp only at *;subst eN eM;rw[b7];have aA:f 0=(ax,ay):=by rw[ae,Om];simp
 have S:=St.start W;refine zI func176 ?_;refine zN ?_;intro ah bc aS S;refine zN ?_;intro ap be aT S;refine zC (ab _) ?_;intro bf aU S;refine zC (an _) ?_;intro bg aV S;refine zN ?_;intro aa bh aW S;refine d8 (i:=0) S rfl (sizeOf387 _) rfl rfl rfl rfl rfl rfl ?_;intro bi S;refine z ?_;refine yb S ?_;intro v aI aE S D;refine cq (cH rfl) ?_;first|refine eF ?_|(refine di ?_;show CW _ _ _ _ _ _)|refine di ?_
 repeat refine dm ?_
 refine dz ?_;iterate 2 refine cq (cH rfl) ?_
 first|refine eF ?_|(refine di ?_;show CW _ _ _ _ _ _)|refine di ?_
 repeat refine dm ?_
 refine dz ?_;iterate 2 refine cq (cH rfl) ?_
 first|refine eF ?_|(refine di ?_;show CW _ _ _ _ _ _)|refine di ?_
 repeat refine dm ?_
 refine k0 ?_;repeat refine dm ?_
 refine dl (λm e w=>∃(i j rest:Nat)(v:Option Addr)(y:Nat),i+m=N/\j<=M/\rest+2*(N*j)=N+2*(M*i)/\(rest<2*N\/N=0) /\
   SL e [(2,pt ah),(6,ii N),(8,pt aa),(9,.slice v (i+1) y),(10,ii rest),(26,ii N),(27,ii i)] /\
   St No W w [.row 34 2 v (i+1) y (eT ((List.range (i+1)).map f)),.blk aa 387 [ii N,ii M,ii L,ii O,ii V,ii Z],.blk ap 34 [ii bx,ii cy],.blk ah 34 [ii (ax+i*L+j*V),ii (ay+i*O+j*Z)]]) N
  ⟨0,0,N,v,1,om,om,om,om,sl,by simpa [eT,aA]using S⟩ ?_
 clear S;rintro m e w ⟨i,j,rest,v,y,hi,hj,ag,ba,aD,S⟩;rw[aD.fold];by_cases al:i<N
 ·have aC:M*(i+1)<=M*N:=eZ _ al;rw[nk]at aC;have aw:=jT.1 (am i j om hj);have az:=jT.1 (am (i+1) j al hj);dsimp only at aw az;have aZ:M*(i+1)=M*i+M:=nk M i;have aY:N*(j+1)=N*j+N:=nk N j
  have bb:rest<=4096*1024:=by
   have h1:M*i<=1024*1024:=cE om om;omega
  have ex:ax+(i:Int)*L+j*V+L=ax+((i+1:Nat):Int)*L+j*V:=by rw[Int.natCast_add,j6];omega
  have ey:ay+(i:Int)*O+j*Z+O=ay+((i+1:Nat):Int)*O+j*Z:=by rw[Int.natCast_add,j6];omega
  have ac:∀(j' r':Nat),r'+2*(N*j')=N+2*(M*(i+1))->r'<2*N->eT ((List.range (i+1)).map f)++[ii (ax+((i+1:Nat):Int)*L+j'*V),ii (ay+((i+1:Nat):Int)*O+j'*Z)]=eT ((List.range (i+1+1)).map f):=λj' r' h1 h2=>by
   rw[wr,eG (n:=i+1),fq,i7,ae (i+1),UK h1 h2]
  by_cases aH:2*N<=rest+2*M
  ·have aB:j+1<=M:=by
    rcases eV j M with h|h
    ·exact h
    ·exfalso;have e:j=M:=om;subst e;rw[cD N j]at ag;omega
   have aq:ax+((i+1:Nat):Int)*L+j*V+V=ax+((i+1:Nat):Int)*L+((j+1:Nat):Int)*V:=by rw[show((j+1:Nat):Int)=(j:Int)+1 from rfl,j6 (j:Int)];omega
   have ar:ay+((i+1:Nat):Int)*O+j*Z+Z=ay+((i+1:Nat):Int)*O+((j+1:Nat):Int)*Z:=by rw[show((j+1:Nat):Int)=(j:Int)+1 from rfl,j6 (j:Int)];omega
   have er:(rest:Int)+2*(M:Int)-2*(N:Int)=((rest+2*M-2*N:Nat):Int):=om;refine zt ?_;iterate 3 refine z ?_
   refine eY rfl (Ge (W:=w) _ _ L O om om om om) ?_;rintro _ aJ ⟨rfl,ai⟩;have S:=S.gr ai;rw[ex,ey];refine d8 (i:=3) S rfl (dW _) rfl rfl rfl rfl rfl rfl ?_;intro ao S;(iterate 3 refine z ?_);(iterate 2 refine zr ?_);(iterate 3 refine z ?_);refine zr ?_;refine zt ?_;refine z ?_;refine z ?_;iterate 2 refine zr ?_
   rw[er];refine cq (cH rfl) ?_;first|refine eF ?_|(refine di ?_;show CW _ _ _ _ _ _)|refine di ?_
   repeat refine dm ?_
   refine dz ?_;refine dH (fx dI rfl (dW _) rfl (S.blk (i:=3) rfl) rfl rfl) ?_;refine cq (du lz rfl dW rfl rfl) ?_;refine dH (fx dI rfl (dW _) rfl (S.blk (i:=1) rfl) rfl rfl) ?_;refine eY rfl (Ge (W:=ao) _ _ V Z om om om om) ?_;rintro _ aK ⟨rfl,aj⟩;have S:=S.gr aj;rw[aq,ar];refine zS ?_;intro aL S;refine yb S ?_;intro ad aM aF S U;refine fM (i:=1) S rfl (λh=>rfl) ki wA rfl rfl rfl rfl (by simp) om (S.rd (i:=0) rfl) rfl om ?_;intro I J aN S D;refine zg ?_;have S:=S.drop 1;rw[ac (j+1) (rest+2*M-2*N) om om]at S;exact⟨m-1,om,i+1,j+1,rest+2*M-2*N,I,J,om,aB,om,om,sl,S⟩
  ·have er:(rest:Int)+2*(M:Int)=((rest+2*M:Nat):Int):=om;refine zt ?_;iterate 3 refine z ?_
   refine eY rfl (Ge (W:=w) _ _ L O om om om om) ?_;rintro _ aO ⟨rfl,ak⟩;have S:=S.gr ak;rw[ex,ey];refine zS ?_;intro aP S;rw[er];refine zg ?_;refine yb S ?_;intro ad aQ aG S U;refine fM (i:=1) S rfl (λh=>rfl) ki wA rfl rfl rfl rfl (by simp) om (S.rd (i:=0) rfl) rfl om ?_;intro I J aR S D;refine zg ?_;have S:=S.drop 1;rw[ac j (rest+2*M) om om]at S;exact⟨m-1,om,i+1,j,rest+2*M,I,J,om,hj,om,om,sl,S⟩
 ·obtain rfl:i=N:=om;refine zX ?_;exact(S.retNew (i:=0) (mk:=λs=>.tuple #[s,ii 0]) rfl)
theorem UL(z a b i n:Int)(hz:-17179869184<=z/\z<=17179869184)(U:-17179869184<=a/\a<=17179869184)(V:-17179869184<=b/\b<=17179869184)(Z:1<=n/\n<=1024)(hi:0<=i/\i<=n):Fn prog 109 [ii z,ii a,ii b,ii i,ii n] W (dp (.tuple #[.bool (decide ((z-a)*n>(b-a)*i)),ii 0]) W):=by
 have h1:-35184372088832<=(z-a)*n/\(z-a)*n<=35184372088832:=by
  have h2:=fu (show z-a<=34359738368 by omega) (show 0<=n by omega);have I:=fu (show -34359738368<=z-a by omega) (show 0<=n by omega);omega
 have h2:-35184372088832<=(b-a)*i/\(b-a)*i<=35184372088832:=by
  have h2:=fu (show b-a<=34359738368 by omega) (show 0<=i by omega);have I:=fu (show -34359738368<=b-a by omega) (show 0<=i by omega);omega
 have S:=St.start W;refine zI func109 ?_;refine zC (Gf z om) ?_;intro J D S;iterate 2 refine cq (cH rfl) ?_
 first|refine eD rfl ?_|(refine dr rfl ?_;refine cq (cH rfl) ?_)
 refine dr rfl ?_;refine eY rfl (Gf a om) ?_;rintro _ L ⟨rfl,v⟩;have S:=S.gr v;first|refine eD rfl ?_|(refine dr rfl ?_;refine cq (cH rfl) ?_)
 iterate 2 refine cq (cH rfl) ?_
 first|refine eD rfl ?_|(refine dr rfl ?_;refine cq (cH rfl) ?_)
 refine dr rfl ?_;refine eY rfl (Gf b om) ?_;rintro _ O ⟨rfl,y⟩;have S:=S.gr y;exact zZ
theorem Et(ax ay bx cy:Int):((jh ax ay bx cy).uy=0/\(jh ax ay bx cy).vx=0/\((jh ax ay bx cy).ux=1\/(jh ax ay bx cy).ux=-1)/\((jh ax ay bx cy).vy=1\/(jh ax ay bx cy).vy=-1)) \/
  ((jh ax ay bx cy).ux=0/\(jh ax ay bx cy).vy=0/\((jh ax ay bx cy).uy=1\/(jh ax ay bx cy).uy=-1)/\((jh ax ay bx cy).vx=1\/(jh ax ay bx cy).vx=-1)):=by
 have h1:=xP (bx-ax);have h2:=xP (cy-ay);unfold jh;split
 ·exact .inr ⟨rfl,rfl,by dsimp only;omega,by dsimp only;omega⟩
 ·exact .inl ⟨rfl,rfl,by dsimp only;omega,by dsimp only;omega⟩
theorem GI{M:Nat}(h:i<=j):xU N M i<=xU N M j:=by
 have:=eZ M h;exact ji om
theorem AN{s:Int}(v:s=1\/s=-1){a:Nat}(h1:a<=b)(h2:b<=c)(z:Int):((z+a*s<=z+b*s/\z+b*s<=z+c*s)\/(z+c*s<=z+b*s/\z+b*s<=z+a*s)):=by
 rcases v with rfl|rfl<;>omega
theorem UM(ax ay bx cy:Int)(h1:i<=j)(h2:j<=k){x0 y0 x1 y1:Int}(hi:Be x0 y0 x1 y1 (rm ax ay (jh ax ay bx cy) i).1 (rm ax ay (jh ax ay bx cy) i).2=true)(I:Be x0 y0 x1 y1 (rm ax ay (jh ax ay bx cy) k).1 (rm ax ay (jh ax ay bx cy) k).2=true) :
  Be x0 y0 x1 y1 (rm ax ay (jh ax ay bx cy) j).1 (rm ax ay (jh ax ay bx cy) j).2=true:=by
 unfold Be rm at *;simp only[cM,cT]at *;have J:=GI (N:=(jh ax ay bx cy).n.toNat) (M:=(jh ax ay bx cy).m.toNat) h1;have L:=GI (N:=(jh ax ay bx cy).n.toNat) (M:=(jh ax ay bx cy).m.toNat) h2;generalize xU (jh ax ay bx cy).n.toNat (jh ax ay bx cy).m.toNat=q at *;rcases Et ax ay bx cy with⟨v,y,z,D⟩|⟨v,y,z,D⟩
 ·have O:=AN z h1 h2 ax;have S:=AN D J L ay;simp only[v,y,r5,sf]at hi I ⊢;omega
 ·have O:=AN z h1 h2 ay;have S:=AN D J L ax;simp only[v,y,r5,sf]at hi I ⊢;omega
theorem UN(ax ay bx cy:Int)(h:rm ax ay (jh ax ay bx cy) i=rm ax ay (jh ax ay bx cy) j):i=j:=by
 unfold rm at h;simp only[Prod.mk.injEq]at h;rcases Et ax ay bx cy with⟨v,y,z,D⟩|⟨v,y,z,D⟩
 ·rw[v,y]at h;simp only[r5,sf]at h;rcases z with e|e<;>rw[e]at h<;>omega
 ·rw[v,y]at h;simp only[r5,sf]at h;rcases z with e|e<;>rw[e]at h<;>omega
theorem AO(ax ay bx cy:Int):(vX ax ay bx cy).length=(jh ax ay bx cy).n.toNat+1:=by simp[vX]
theorem UO{cy:Int}(h:i<(vX ax ay bx cy).length):(vX ax ay bx cy)[i]?=some (rm ax ay (jh ax ay bx cy) i):=by
 rw[AO]at h;unfold vX;rw[da,eu h];rfl
theorem UP{cy:Int}(J:mD gw gh (ax,ay)=true)(L:mD gw gh (bx,cy)=true):(∀i,i<(vX ax ay bx cy).length->mD gw gh (rm ax ay (jh ax ay bx cy) i)=true)/\((jh ax ay bx cy).n.toNat<gw\/(jh ax ay bx cy).n.toNat<gh):=by
 obtain⟨N,M,y,z,D,I,hd,v⟩:=Js J L rfl;rw[AO,y,b7];refine⟨λi hi=>?_,I⟩;unfold rm;rw[y,z,b7,b7];refine v i (xU N M i) om ?_;unfold xU;rcases iZ N with rfl|O
 ·simp
 ·have:=eZ M (show i<=N by omega);have e:(M+1)*(2*N)=2*(M*N)+2*N:=by rw[cX,Nat.mul_left_comm]
  rw[Nat.le_iff_lt_add_one,sH om,e];omega
structure Bh(w:World)(xb yb gw gh:Nat)(V:List Int)(l:List (Int×Int)):Prop where
 blk:∃lA lc,eL w xb 205 [pt yb,ii gw,ii gh,.slice lA l.length lc]/\Rd w lA (eT l)
 pyr:iM w yb gw gh V
 hin:∀(i:Nat)(c:Int×Int),l[i]?=some c->mD gw gh c=true
 hw:1<=gw/\gw<=1024
 hh:1<=gh/\gh<=1024
 len:l.length<=1024
def yF(gw:Nat)(V:List Int)(c:Int×Int):Int:=V.getD (c.2.toNat * gw+c.1.toNat) 0
def DV(gw gh:Nat)(V:List Int)(k:Nat)(c:Int×Int):Int:=(pm gw gh V k (c.1.toNat/2^k) (c.2.toNat/2^k)).hi
section
variable{yb:Nat}{V:List Int}{l:List (Int × Int)}
theorem Bh.gr(h:Bh W xb yb gw gh V l)(g:Gr W w'):Bh w' xb yb gw gh V l:=by
 obtain⟨⟨lA,lc,h1,h2⟩,v,y,z,D,I⟩:=h;exact⟨⟨lA,lc,h1.gr g,h2.gr g⟩,v.gr g,y,z,D,I⟩
theorem Bh.cell(h:Bh W xb yb gw gh V l){c:Int×Int}(hi:l[i]?=some c):∃x y:Nat,c=((x:Int),(y:Int))/\x<gw/\y<gh:=by
 have v:=jT.1 (h.hin i c hi);obtain⟨x,z⟩:=cJ v.1;obtain⟨y,D⟩:=cJ v.2.2.1;exact⟨x,y,Prod.ext z D,om,om⟩
theorem Is(i:Nat){c:Int×Int}(L:l[i]?=some c)(h:Bh W xb yb gw gh V l):Fn prog (106) [pt xb,ii i] W (dp (ii (yF gw V c)) W):=by
 obtain⟨x,y,rfl,hx,hy⟩:=h.cell L;have hi:=(dq.1 L).1;have aa:=h.len;have ac:=lI h.hw.2 h.hh.2;have J:=λw(g:Gr W w)=>Cr 0 x y h.hw h.hh om (by rw[iR h.hw.1];exact hx) (by rw[iR h.hh.1];exact hy) (h.pyr.gr g);have e0:(pm gw gh V 0 x y).cells=[ii (V.getD (y*gw+x) 0),ii (V.getD (y*gw+x) 0)]:=rfl;rw[e0]at J;show Fn _ _ _ _ (dp (ii (V.getD (y*gw+x) 0)) W);generalize V.getD (y*gw+x) 0=z at *;obtain⟨lA,lc,hX,hL⟩:=h.blk;have U:dO lA:=hL.someA (by rw[xl];omega);have I:((eT l).drop ((i:Int).toNat * 2)).take 2=[ii x,ii y]:=by rw[b7];exact mS L
 have S:=St.start W;refine zI func106 ?_;refine zH (C:=(CA _ _ _ 151 [ii 0,ii 0] [ii z,ii z])) [15,16] [0,1,2,3,4,5,6,7,8,9,10,11,12,13,14,15,16] [17] (CA.start (S.gr (Gr.drew _))) ?_;refine zV (λτ wq v=>(hX.gr v.st.out)) ?_;refine zV (λτ wq v=>(hX.gr v.st.out)) ?_;refine zR ?_;refine qo rfl (λτ wq v=>fb dI rfl (dW _) rfl (hL.gr v.st.out) I rfl rfl) ?_;refine jH rfl rfl (λτ wq v=>(J wq v.st.out).mono (λ_ _⟨hv,hg⟩=>⟨hv,v.gr hg⟩)) ?_;refine zR ?_;refine de rfl rfl (λwq v=>kG v mf rfl) ?_;rintro ad ag ⟨ab,rfl,_⟩;refine de rfl rfl (λwq v=>kH v (fD _) rfl rfl rfl rfl rfl) ?_;rintro ae ah _;refine zY ?_;rintro ai O;obtain⟨Z,D,S⟩:=O.fin;cases D
 exact zZ
theorem Oo(k i:Nat){c:Int×Int}(hk:k<fW gw gh)(U:l[i]?=some c)(h:Bh W xb yb gw gh V l):Fn prog (178) [pt xb,ii k,ii i] W (dp (ii (DV gw gh V k c)) W):=by
 obtain⟨x,y,rfl,hx,hy⟩:=h.cell U;have hi:=(dq.1 U).1;have ag:=h.len;have aj:=lI h.hw.2 h.hh.2;have O:=λw=>HJ (W:=w) k x y h.hw h.hh hk hx hy;have J:=λw(g:Gr W w)=>Cr k (x/2^k) (y/2^k) h.hw h.hh hk (sy k hx) (sy k hy) (h.pyr.gr g);have Z:DV gw gh V k (x,y)=(pm gw gh V k (x/2^k) (y/2^k)).hi:=rfl;rw[Z];generalize pm gw gh V k (x/2^k) (y/2^k)=rg at *;generalize x/2^k=X at *;generalize y/2^k=Y at *;unfold RG.cells at J;obtain⟨lA,lc,L,hL⟩:=h.blk;have ac:dO lA:=hL.someA (by rw[xl];omega);have I:((eT l).drop ((i:Int).toNat * 2)).take 2=[ii x,ii y]:=by rw[b7];exact mS U
 have S:=St.start W;refine zI func178 ?_;refine zH (C:=(CA _ _ _ 34 [ii 0,ii 0] [ii X,ii Y])) [20,21] [0,1,2,3,4,5,6,7,8,9,10,11,12,13,14,15,16,17,18,19,20,21] [22] (CA.start (S.gr (Gr.drew _))) ?_;refine zV (λτ wq v=>(L.gr v.st.out)) ?_;refine zV (λτ wq v=>(L.gr v.st.out)) ?_;refine zV (λτ wq v=>(L.gr v.st.out)) ?_;refine zR ?_;refine qo rfl (λτ wq v=>fb dI rfl (dW _) rfl (hL.gr v.st.out) I rfl rfl) ?_;refine jH rfl rfl (λτ wq v=>(O wq).mono (λ_ _⟨hv,hg⟩=>⟨hv,v.gr hg⟩)) ?_;refine zR ?_;refine de rfl rfl (λwq v=>kG v kU rfl) ?_;rintro ak ao ⟨ah,rfl,_⟩;refine de rfl rfl (λwq v=>kH v (dW _) rfl rfl rfl rfl rfl) ?_;rintro am aq _;refine zY ?_;rintro au aa;obtain⟨ad,z,S⟩:=aa.fin;cases z
 refine zH (C:=(CA _ _ _ 151 [ii 0,ii 0] [ii rg.lo,ii rg.hi])) [10,11] [0,1,2,3,4,5,6,7,8,9,10,11] [12] (CA.start (S.gr (Gr.drew _))) ?_;refine zV (λτ wq v=>(L.gr v.st.out)) ?_;refine zV (λτ wq v=>(v.st.blk (i:=0) rfl)) ?_;refine jH rfl rfl (λτ wq v=>(J wq v.st.out).mono (λ_ _⟨hv,hg⟩=>⟨hv,v.gr hg⟩)) ?_;refine zR ?_;refine de rfl rfl (λwq v=>kG v mf rfl) ?_;rintro al ap ⟨ai,rfl,_⟩;refine de rfl rfl (λwq v=>kH v (fD _) rfl rfl rfl rfl rfl) ?_;rintro an ar _;refine zY ?_;rintro av ab;obtain⟨ae,D,S⟩:=ab.fin;cases D
 exact zZ
theorem LQ(k s t:Nat){c:Int×Int}(hk:k<fW gw gh)(an:s<=t)(ht:t<l.length)(hc:l[s]?=some c)(h:Bh W xb yb gw gh V l):Fn prog (177) [pt xb,ii k,ii s,ii t] W
  (λu w'=>∃p:Nat,u=ii p/\s<=p/\p<=t/\(∀d,l[p]?=some d->d.1.toNat/2^k=c.1.toNat/2^k/\d.2.toNat/2^k=c.2.toNat/2^k)/\Gr W w'):=by
 obtain⟨x,y,rfl,hx,hy⟩:=h.cell hc;have av:=h.len;have hw:=h.hw;have hh:=h.hh;have aC:=lI hw.2 hh.2;have hn:Nd.ok ⟨k,x/2^k,y/2^k⟩ gw gh:=⟨hk,sy k hx,sy k hy⟩;have ah:=λw=>HJ (W:=w) k x y hw hh hk hx hy;have ag:∀w,Fn prog 126 [ii gw,ii gh,ii k,.agg #[ii (x/2^k:Nat),ii (y/2^k:Nat)]] w (dp (.tuple #[.agg (Nd.span gw gh ⟨k,x/2^k,y/2^k⟩).cells.toArray,ii 0]) w):=λw=>Co (W:=w) k (x/2^k) (y/2^k) hw hh hk hn.2.1 hn.2.2;have am:=Nd.span_ok hw.1 hh.1 hn;have U:=λ{i d}(hi:l[i]?=some d)=>h.cell hi;have J:∀{u v:Nat},u<gw->v<gh->((Nd.span gw gh ⟨k,x/2^k,y/2^k⟩).has u v↔u/2^k=x/2^k/\v/2^k=y/2^k):=λhu hv=>Nd.has hu hv;have Z:=(J hx hy).2 ⟨rfl,rfl⟩;show Fn _ _ _ _ (λu w'=>∃p:Nat,u=ii p/\s<=p/\p<=t/\(∀d,l[p]?=some d->d.1.toNat/2^k=x/2^k/\d.2.toNat/2^k=y/2^k)/\Gr W w');generalize Nd.span gw gh ⟨k,x/2^k,y/2^k⟩=sp at *;generalize x/2^k=X at *;generalize y/2^k=Y at *;have hr:nb (sp.x0:Int) sp.y0 sp.x1 sp.y1=true:=(lO _ _ _ _).2 (by obtain⟨⟨a1,a2⟩,a3,a4⟩:=am;omega);unfold Rc.cells at ag;obtain⟨lA,lc,O,hL⟩:=h.blk;have aq:dO lA:=hL.someA (by rw[xl];omega);have ae:((eT l).drop ((s:Int).toNat * 2)).take 2=[ii x,ii y]:=by rw[b7];exact mS hc
 have S:=St.start W;refine zI func177 ?_;refine zH (C:=(CA _ _ _ 34 [ii 0,ii 0] [ii X,ii Y])) [20,21] [0,1,2,3,4,5,6,7,8,9,10,11,12,13,14,15,16,17,18,19,20,21] [22] (CA.start (S.gr (Gr.drew _))) ?_;refine zV (λτ wq z=>(O.gr z.st.out)) ?_;refine zV (λτ wq z=>(O.gr z.st.out)) ?_;refine zV (λτ wq z=>(O.gr z.st.out)) ?_;refine zR ?_;refine qo rfl (λτ wq z=>fb dI rfl (dW _) rfl (hL.gr z.st.out) ae rfl rfl) ?_;refine jH rfl rfl (λτ wq z=>(ah wq).mono (λ_ _⟨hv,hg⟩=>⟨hv,z.gr hg⟩)) ?_;refine zR ?_;refine de rfl rfl (λwq z=>kG z kU rfl) ?_;rintro aD aJ ⟨aw,rfl,_⟩;refine de rfl rfl (λwq z=>kH z (dW _) rfl rfl rfl rfl rfl) ?_;rintro aF aL _;refine zY ?_;rintro aN ao;obtain⟨ar,ab,S⟩:=ao.fin;cases ab
 refine zH (C:=(CA _ _ _ 43 [ii 0,ii 0,ii 0,ii 0] [ii sp.x0,ii sp.y0,ii sp.x1,ii sp.y1])) [14,15] [0,1,2,3,4,5,6,7,8,9,10,11,12,13,14,15] [16] (CA.start (S.gr (Gr.drew _))) ?_;refine zV (λτ wq z=>(O.gr z.st.out)) ?_;refine zV (λτ wq z=>(O.gr z.st.out)) ?_;refine zV (λτ wq z=>(z.st.blk (i:=0) rfl)) ?_;refine jH rfl rfl (λτ wq z=>(ag wq).mono (λ_ _⟨hv,hg⟩=>⟨hv,z.gr hg⟩)) ?_;refine zR ?_;refine de rfl rfl (λwq z=>kG z fy rfl) ?_;rintro aE aK ⟨aa,rfl,_⟩;refine de rfl rfl (λwq z=>kH z (dV _) rfl rfl rfl rfl rfl) ?_;rintro aG aM _;refine zY ?_;rintro aO ap;obtain⟨au,ac,S⟩:=ap.fin;cases ac
 refine zg ?_
 refine dl (λm e w=>∃lo hi:Nat,m=hi-lo/\s<=lo/\lo<=hi/\hi<=t/\(∀d,l[lo]?=some d->d.1.toNat/2^k=X/\d.2.toNat/2^k=Y)/\SL e [(0,pt xb),(11,pt aa),(13,ii lo),(14,ii hi)]/\St No W w [.blk aa 43 [ii sp.x0,ii sp.y0,ii sp.x1,ii sp.y1]]) (t-s)
  ⟨s,t,rfl,om,an,om,λd hd=>(by rw[hc]at hd;cases hd;exact(J hx hy).1 Z),sl,S.sub (.cons_cons _ (.cons _ .slnil))⟩ ?_
 clear S;rintro m e w ⟨lo,hi,rfl,h1,h2,h3,h4,al,S⟩;rw[al.fold];by_cases aB:lo<hi
 ·have em:((lo:Int)+hi+1)/2=(((lo+hi+1)/2:Nat):Int):=om;obtain⟨D,hm⟩:∃q,q=(lo+hi+1)/2:=⟨_,rfl⟩;rw[<-hm]at em;obtain⟨d,hd⟩:∃d,l[D]?=some d:=⟨_,ct om⟩;obtain⟨cx,cy,rfl,ai,aj⟩:=U hd;have I:((eT l).drop ((D:Int).toNat * 2)).take 2=[ii cx,ii cy]:=by rw[b7];exact mS hd
  have L:=λw=>Wb (W:=w) sp.x0 sp.y0 sp.x1 sp.y1 cx cy hr;cases hb:Be sp.x0 sp.y0 sp.x1 sp.y1 cx cy with
  |true =>
   rw[hb]at L;unfold Be at hb;simp only[cM,cT]at hb;have ak:=(J ai aj).1 (by unfold Rc.has;omega);refine zg ?_;rw[em];refine zD [0,1,2,3,4,5,6,7,8] [] ?_;refine zM (λwq z=>(O.gr (S.gr z).out)) ?_;refine zQ ?_;refine fo (λwq z=>fb dI rfl (dW _) rfl (hL.gr (S.gr z).out) I rfl rfl) ?_;refine zP (λwq z=>L wq) ?_;refine zE ?_;intro aH az S;exact⟨hi-D,om,D,hi,rfl,om,om,om,λd' ad=>(by rw[hd]at ad;cases ad;exact ak),sl,S⟩
  |false =>
   rw[hb]at L;have e2:(D:Int)-1=((D-1:Nat):Int):=om;refine zg ?_;rw[em];refine zD [0,1,2,3,4,5,6,7,8] [] ?_;refine zM (λwq z=>(O.gr (S.gr z).out)) ?_;refine zQ ?_;refine fo (λwq z=>fb dI rfl (dW _) rfl (hL.gr (S.gr z).out) I rfl rfl) ?_;refine zP (λwq z=>L wq) ?_;refine zE ?_;intro aI aA S;rw[e2];refine zg ?_;exact⟨D-1-lo,om,lo,D-1,rfl,om,om,om,h4,sl,S⟩
 ·skip;refine zX ?_;exact⟨lo,rfl,h1,om,h4,S.out⟩
end
def tP(F:Nat->Prop)(W:World)(L:List HA)(i j k:Nat)(t:TypeId)(z x:Value)(σ:List (Nat×Value))(w:World):Prop :=
 ∃Q1 Q2,(match σ.lookup i with|none=>Q1=[]|some u=>∃b,u=.pointer (some ⟨b,0,none⟩)/\Q1=[.blk b t [if (σ.lookup k).isSome then x else z]])/\(match σ.lookup j with|none=>Q2=[]|some u=>∃b,u=.pointer (some ⟨b,0,none⟩)/\Q2=[.blk b t [z]])/\St F W w (Q1++(Q2++L))
theorem tP.mid_{A B C:List HA}(S:St F W w (A++(B++C))):St F W w (B++(A++C)):=by
 refine S.perm_ ?_;rw[<-cL,<-cL];exact ft.append_right C
section
variable{L:List HA}{z x:Value}
theorem tP.start(S:St F W w L):tP F W L i j k t z x [] w:=⟨[],[],rfl,rfl,S⟩
theorem tP.st(h:tP F W L i j k t z x σ w):St F W w L:=by
 obtain⟨v,y,_,_,S⟩:=h;have:=S.drop (v++y).length;rwa[<-cL,jE]at this
theorem tP.gr(h:tP F W L i j k t z x σ w)(g:Gr w w'):tP F W L i j k t z x σ w':=by
 obtain⟨v,y,h1,h2,S⟩:=h;exact⟨v,y,h1,h2,S.gr g⟩
section
variable{ps:String}
theorem CZ(h:tP F W L i j k t z x σ w)(hi:σ.lookup i=none)(J:σ.lookup k=none)(y:(j==i)=false)(D:(k==i)=false)(U:∀w,(zeroValue t).run P w=.ok zv w)(O:zv.cells.toList=[z]):gI P e ⟨d,.alloc t,ty,ps,af,none⟩ w (λv w'=>tP F W L i j k t z x ((i,v)::σ) w'):=by
 obtain⟨V,I,h1,h2,S⟩:=h;rw[hi]at h1;subst h1;refine gu rfl (kq (jV U O) S (λb w' g S=>⟨[.blk b t [z]],I,?_,?_,S⟩))
 ·simp only[cZ,fE,D,J];exact⟨b,rfl,rfl⟩
 ·simp only[cZ,y];exact h2
theorem C0(h:tP F W L i j k t z x σ w)(J:σ.lookup j=none)(y:(i==j)=false)(D:(k==j)=false)(U:∀w,(zeroValue t).run P w=.ok zv w)(O:zv.cells.toList=[z]):gI P e ⟨d,.alloc t,ty,ps,af,none⟩ w (λv w'=>tP F W L i j k t z x ((j,v)::σ) w'):=by
 obtain⟨I,V,h1,h2,S⟩:=h;rw[J]at h2;subst h2;refine gu rfl (kq (jV U O) S (λb w' g S=>⟨I,[.blk b t [z]],?_,?_,tP.mid_ (A:=[_]) S⟩))
 ·simp only[cZ,y,D];exact h1
 ·simp only[cZ,fE];exact⟨b,rfl,rfl⟩
theorem Eu{p y:Operand}(h:tP F W L i j k t z x σ w)(hi:σ.lookup i=some (pt b))(V:σ.lookup k=none)(v:(i==k)=false)(D:(j==k)=false)(hz:(sizeOf t).run P w=.ok 1 w)(Z:ev e p=pt b)(hy:fz (ev e y)=some x)(hv:x.oneCell'=true)(I:x.cells=#[x]) :
  gI P e ⟨d,.store t p y,ty,ps,af,none⟩ w (λu w'=>tP F W L i j k t z x ((k,u)::σ) w'):=by
 obtain⟨Q1,J,h1,h2,S⟩:=h;rw[hi,V]at h1;obtain⟨b',U,rfl⟩:=h1;cases U
 refine gu rfl (iy (i:=0) S rfl hz Z hy hv I rfl rfl (λw' O=>⟨[.blk b t [x]],J,?_,?_,O⟩))
 ·simp only[cZ,v,hi,fE];exact⟨b,rfl,rfl⟩
 ·simp only[cZ,D];exact h2
end
theorem tP.ia(h:tP F W L i j k t z x σ w)(hi:σ.lookup i=some u):∃b,u=pt b:=by
 obtain⟨v,y,h1,h2,S⟩:=h;rw[hi]at h1;obtain⟨b,e,_⟩:=h1;exact⟨b,e⟩
theorem tP.ja(h:tP F W L i j k t z x σ w)(v:σ.lookup j=some u):∃b,u=pt b:=by
 obtain⟨y,D,h1,h2,S⟩:=h;rw[v]at h2;obtain⟨b,e,_⟩:=h2;exact⟨b,e⟩
theorem tP.fin(h:tP F W L i j k t z x σ w)(hi:σ.lookup i=some (pt b))(D:σ.lookup j=some (pt c))(I:(σ.lookup k).isSome=true):St F W w (.blk b t [x]::.blk c t [z]::L):=by
 obtain⟨J,O,h1,h2,S⟩:=h;rw[hi,I]at h1;rw[D]at h2;obtain⟨b',v,rfl⟩:=h1;obtain⟨c',y,rfl⟩:=h2;cases v
 cases y
 exact S
end
def GJ(k:Nat)(c d:Int×Int):Prop:=d.1.toNat/2^k=c.1.toNat/2^k/\d.2.toNat/2^k=c.2.toNat/2^k
def AP(f t:Nat)(hide:Nat->Bool)(r:Int):Prop:=(r=-1/\∀i,f<=i->i<=t->hide i=false)\/∃i:Nat,r=i/\(f<=i/\i<=t)/\hide i=true/\∀j,f<=j->j<i->hide j=false
theorem AP.uniq{f t:Nat}{hide:Nat->Bool}{r r':Int}(h:AP f t hide r)(h':AP f t hide r'):r=r':=by
 rcases h with⟨rfl,h⟩|⟨i,rfl,h1,h2,D⟩
 ·rcases h' with⟨rfl,_⟩|⟨j,rfl,y,v,z⟩
  ·rfl
  ·rw[h j y.1 y.2]at v;cases v
 ·rcases h' with⟨rfl,h'⟩|⟨j,rfl,y,v,z⟩
  ·rw[h' i h1.1 h1.2]at h2;cases h2
  ·rcases qG i j with e|e|e
   ·rw[z i h1.1 e]at h2;cases h2
   ·rw[e]
   ·rw[D j y.1 e]at v;cases v
section
variable{yb:Nat}{V:List Int}{l:List (Int × Int)}
theorem UQ(v:vB V)(D:1<=gw)(z:1<=gh){c:Int×Int}(y:mD gw gh c=true):-2147483648<=DV gw gh V k c/\DV gw gh V k c<=2147483647:=by
 have h:=jT.1 y;obtain⟨_,⟨cx,cy,_,_,_,_,e⟩⟩:=Ci (V:=V) D z k (c.1.toNat/2^k) (c.2.toNat/2^k) (sy k om) (sy k om);unfold DV;rw[e];exact v _
theorem WF{c d:Int×Int}(hd:mD gw gh d=true)(h:GJ k c d):yF gw V d<=DV gw gh V k c:=by
 have h1:=jT.1 hd;have:=(I5 (V:=V) (cx:=d.1.toNat) (cy:=d.2.toNat) (gw:=gw) (gh:=gh) om om k).2;unfold DV yF;rw[<-h.1,<-h.2];exact this
theorem Si(c:Int×Int):DV gw gh V 0 c=yF gw V c:=by
 unfold DV yF;rw[kX,ig,ig];rfl
theorem LR{hide:Nat->Bool}{may:Int->Nat->Nat->Bool}{cf:Nat->Int×Int}(f t:Nat)(hft:f<=t+1)(ht:t<l.length)(hB:vB V)(h:Bh W xb yb gw gh V l)(hl:∀i,i<l.length->l[i]?=some (cf i))(hcv:∀k i j p:Nat,i<=j->j<=p->p<l.length->GJ k (cf i) (cf p)->GJ k (cf i) (cf j))(hinj:∀i j,cf i=cf j->i=j)(hf:∀w,Gr W w->∀(z:Int)(i j:Nat),(-2147483648<=z/\z<=2147483647)->i<=t->j<=t->Fn prog fid ([]++[ii z,ii i,ii j]++caps) w (dp (.bool (may z i j)) w))(hs:∀(z:Int)(i j x:Nat),i<=x->x<=j->yF gw V (cf x)<=z->hide x=true->may z i j=true)(he:∀i,may (yF gw V (cf i)) i i=hide i) :
  Fn prog (107) [pt xb,ii f,ii t,.func (.func fid) (([]:List Value).toArray) caps.toArray] W (λu w'=>∃r:Int,u=ii r/\AP f t hide r/\Gr W w'):=by
 have hlen:=h.len;have hw:=h.hw;have hh:=h.hh;have hlv:=lI hw.2 hh.2;obtain⟨lA,lc,hX,hL⟩:=h.blk;have S:=St.start W;refine zI func107 ?_;refine zg ?_
 refine dl (λm e w=>∃i k:Nat,m=(t+1-i)*12+k/\f<=i/\i<=t+1/\k<fW gw gh/\(∀j,f<=j->j<i->hide j=false)/\SL e [(0,pt xb),(1,ii i),(2,ii t),(3,.func (.func fid) (([]:List Value).toArray) caps.toArray),(9,ii k)]/\St No W w []) ((t+1-f)*12+0)
  ⟨f,0,rfl,cN _,hft,om,λj h1 h2=>by omega,sl,S⟩ ?_
 clear S;rintro m e w ⟨i,k,rfl,h1,h2,h3,hno,hsl,S⟩;rw[hsl.fold];by_cases hi:i<=t
 ·have hli:=hl i om;have hgi:=h.hin i _ hli;have hmb:=UQ (V:=V) hB hw.1 hh.1 (k:=k) hgi;refine zK (LQ k i t h3 hi ht hli (h.gr S.out)) ?_;rintro _ w1_ ⟨p,rfl,hp1,hp2,hp3,g1_⟩;have S:=S.gr g1_;refine zg ?_;have hpc:=hp3 _ (hl p om);have hms:=hs (DV gw gh V k (cf i)) i p;have hall:∀x,i<=x->x<=p->yF gw V (cf x)<=DV gw gh V k (cf i):=λx a b=>WF (h.hin x _ (hl x om)) (hcv k i x p a b om hpc)
  have hzero:k=0->p=i/\DV gw gh V k (cf i)=yF gw V (cf i):=λe=>by
   subst e;have hgp:=jT.1 (h.hin p _ (hl p om));have hgi:=jT.1 hgi;have hpc:(cf p).1.toNat/2^0=(cf i).1.toNat/2^0/\(cf p).2.toNat/2^0=(cf i).2.toNat/2^0:=hpc;rw[kX,ig,ig,ig,ig]at hpc;exact⟨hinj _ _ (Prod.ext om om),Si _⟩
  have hff:=hf;have hmost:=λw(g:Gr W w)=>Oo k i h3 hli (h.gr g);generalize DV gw gh V k (cf i)=z at *;have ek:min ((k:Int)+1) (((fW gw gh:Nat):Int)-1)=((min (k+1) (fW gw gh-1):Nat):Int):=om;have hfz:=λw(g:Gr W w)=>hf w g z i p hmb hi hp2;cases hm:may z i p with
  |false =>
   rw[hm]at hfz
   have hno2:∀x,f<=x->x<p+1->hide x=false:=λx a b=>by
    rcases eV x i with c|c
    ·exact hno x a c
    ·cases hx:hide x with
     |false=>rfl
     |true=>rw[hms x c om (hall x c om) hx]at hm;cases hm
   refine zC (hmost _ S.out) ?_;intro w2_ g2_ S;refine zg ?_;refine ju rfl rfl (hfz w2_ S.out) ?_;rintro _ w3_ ⟨rfl,g3_⟩;have S:=S.gr g3_;refine zL (hX.gr S.out) ?_;refine zC (zA (h.pyr.gr S.out)) ?_;intro w4_ g4_ S;refine zg ?_;rw[ek];refine zg ?_;exact⟨(t+1-(p+1))*12+min (k+1) (fW gw gh-1),om,p+1,_,rfl,om,om,om,hno2,sl,S⟩
  |true =>
   rw[hm]at hfz;by_cases hk:k=0
   ·obtain⟨rfl,hz⟩:=hzero hk;rw[hz,he]at hm;refine zC (hmost _ S.out) ?_;intro w5_ g5_ S;refine zg ?_;refine ju rfl rfl (hfz w5_ S.out) ?_;rintro _ w6_ ⟨rfl,g6_⟩;have S:=S.gr g6_;refine zX ?_;exact⟨_,rfl,.inr ⟨p,rfl,⟨h1,hi⟩,hm,hno⟩,S.out⟩
   ·have e2:(k:Int)-1=((k-1:Nat):Int):=om;refine zC (hmost _ S.out) ?_;intro w7_ g7_ S;refine zg ?_;refine ju rfl rfl (hfz w7_ S.out) ?_;rintro _ w8_ ⟨rfl,g8_⟩;have S:=S.gr g8_;refine zg ?_;rw[e2];refine zg ?_;exact⟨(t+1-i)*12+(k-1),om,i,k-1,rfl,h1,h2,om,hno,sl,S⟩
 ·skip;refine zX ?_;exact⟨-1,rfl,.inl ⟨rfl,λj a b=>hno j a om⟩,S.out⟩
end
structure Bi where
 eye:Int
 top:Int
 n:Int
def Bi.over(s:Bi)(z:Int)(i:Nat):Bool:=decide ((z-s.eye)*s.n>(s.top-s.eye)*i)
theorem Bi.ends{s:Bi}(y:0<=s.n){z v:Int}{x:Nat}(h1:i<=x)(h2:x<=j)(D:v<=z)(h:s.over v x=true):(s.over z i||s.over z j)=true:=by
 unfold Bi.over at *;rw[ky];rw[cT]at *;rw[cT];have a:=fu (show v-s.eye<=z-s.eye by omega) y;rcases me 0 (s.top-s.eye)with b|b
 ·have c:=li (show(i:Int)<=x by omega) b;exact .inl om
 ·have c:=li (show(x:Int)<=j by omega) (show 0<=-(s.top-s.eye)by omega);rw[Int.neg_mul,Int.neg_mul]at c;exact .inr om
def UR(gw:Nat)(V:List Int)(ax ay ha bx cy hb:Int):Bi:=⟨yF gw V (rm ax ay (jh ax ay bx cy) 0)+ha,yF gw V (rm ax ay (jh ax ay bx cy) (jh ax ay bx cy).n.toNat)+hb,(jh ax ay bx cy).n⟩
def Oq(gw:Nat)(V:List Int)(ax ay ha bx cy hb:Int)(i:Nat):Bool:=(UR gw V ax ay ha bx cy hb).over (yF gw V (rm ax ay (jh ax ay bx cy) i)) i
def pk(gw gh:Nat)(ax ay ha bx cy hb:Int):Int:=if (mD gw gh (ax,ay)&&mD gw gh (bx,cy))=false then 4 else if (0<=ha/\ha<=1048576)/\0<=hb/\hb<=1048576 then 0 else 8
def JN(gw gh:Nat)(V:List Int)(ax ay ha bx cy hb:Int)(yes:Bool)(ox oy:Int):Prop :=
 (pk gw gh ax ay ha bx cy hb≠0/\yes=false/\ox=0/\oy=0)\/(pk gw gh ax ay ha bx cy hb=0/\∃r,AP 1 ((jh ax ay bx cy).n.toNat-1) (Oq gw V ax ay ha bx cy hb) r/\((r<0/\yes=true/\ox=0/\oy=0)\/(0<=r/\yes=false/\(ox,oy)=rm ax ay (jh ax ay bx cy) r.toNat)))
section
variable{yb:Nat}{V:List Int}
theorem Sj(x y:Int)(U:1<=gw/\gw<=1024)(O:1<=gh/\gh<=1024)(hc:mD gw gh (x,y)=false)(hP:iM W yb gw gh V) :
  Fn prog 174 [pt yb,ii 0,.agg #[ii x,ii y]] W (dp (.tuple #[.agg #[ii 0,ii 0],ii 4]) W):=by
 obtain⟨lA,lc,As,cs,h1,h2,h3⟩:=hP;have hl:=lI U.2 O.2;have J:dO lA:=h2.someA (by rw[Cq];omega);have L:=E3 (gw:=gw) (gh:=gh) (As:=As) (cs:=cs) (show 0<fW gw gh by omega);rw[iR U.1,iR O.1]at L
 have v:x<0\/(0<=x/\x>=gw)\/((0<=x/\x<gw)/\(y<0\/(0<=y/\y>=gh))):=by
  have:=mt (jT (gw:=gw) (gh:=gh) (c:=(x,y))).2 (by rw[hc];simp);dsimp only at this;omega
 have S:=St.start W;rcases v with v|v|⟨v,I|I⟩
 all_goals
  refine zI func174 ?_;refine zN ?_;intro Z ae ab S;refine zN ?_;intro D ag ac S;iterate 5 refine z ?_
  first|refine cq (ff (b:=true) rfl (cF om)) ?_|refine cq (ff (b:=false) rfl (cC om)) ?_|refine cq (cH rfl) ?_
  iterate 5 refine z ?_
  first|refine eD rfl ?_|(refine dr rfl ?_;refine dH (cV jO rfl rfl (h1.gr S.out) rfl) ?_)
  refine z ?_;first|refine eD rfl ?_|(refine dr rfl ?_;(first|refine cq (ff (b:=true) rfl (cF om)) ?_|refine cq (ff (b:=false) rfl (cC om)) ?_|refine cq (cH rfl) ?_))
  iterate 5 refine z ?_
  refine dH (cV jO rfl rfl (h1.gr S.out) rfl) ?_;refine zg ?_;refine dH (fb gB rfl (lm _) rfl (h2.gr S.out) L rfl rfl) ?_;refine zN ?_;intro aa ah ad S;refine zS ?_;intro ai S;exact pG S ⟨rfl,S.out⟩
def LS(gw gh:Nat)(x y:Int):Int:=if mD gw gh (x,y)=true then 0 else 4
theorem LT(x y:Int)(z:1<=gw/\gw<=1024)(v:1<=gh/\gh<=1024):∃I:RG,∀W,iM W yb gw gh V ->
  Fn prog 174 [pt yb,ii 0,.agg #[ii x,ii y]] W (dp (.tuple #[.agg #[ii I.lo,ii I.hi],ii (LS gw gh x y)]) W):=by
 have O:=lI z.2 v.2;unfold LS;by_cases h:mD gw gh (x,y)=true
 ·rw[a7 h];have hi:=jT.1 h;dsimp only at hi;obtain⟨X,J⟩:=cJ hi.1;obtain⟨Y,L⟩:=cJ hi.2.2.1;subst J L;exact⟨pm gw gh V 0 X Y,λW D=>Cr 0 X Y z v om (by rw[iR z.1];omega) (by rw[iR v.1];omega) D⟩
 ·rw[a8 h];exact⟨⟨0,0⟩,λW D=>Sj x y z v (by simpa using h) D⟩
theorem AQ(n:Int):Fn prog 105 [ii n] W (dp (.bool (decide (0<=n)&&decide (n<=1048576))) W):=by
 have S:=St.start W;by_cases h:0<=n
 ·rw[cF h,tR];by_cases h2:n<=1048576
  all_goals
   refine zI func105 ?_;refine zX ?_;exact⟨by simp[h2],S.out⟩
 ·rw[cC h,nz];refine zI func105 ?_;exact zZ
theorem US{v O:Nat}{s:Bi}(z:Int)(i j:Nat)(hz:-17179869184<=z/\z<=17179869184)(J:(-17179869184<=s.eye/\s.eye<=17179869184)/\-17179869184<=s.top/\s.top<=17179869184)(hn:1<=s.n/\s.n<=1024)(I:eL W v 2 [ii s.eye])(L:eL W tb 2 [ii s.top])(D:eL W O 3 [ii s.n])(hi:i<=s.n)(hj:j<=s.n) :
  Fn prog 108 ([]++[ii z,ii i,ii j]++[pt v,pt tb,pt O]) W (dp (.bool (s.over z i||s.over z j)) W):=by
 have h1:=λw(k:Nat)(h:k<=s.n)=>UL (W:=w) z s.eye s.top k s.n hz J.1 J.2 hn om;have h2:=λw=>h1 w i hi;have y:=λw=>h1 w j hj;have U:∀k:Nat,decide ((z-s.eye)*s.n>(s.top-s.eye)*k)=s.over z k:=λk=>rfl;rw[U]at h2 y;generalize s.over z i=A at *;generalize s.over z j=B at *;have S:=St.start W;cases A
 all_goals
  refine zI func108 ?_;repeat refine dm ?_
  refine dz ?_;refine cq (cH rfl) ?_;first|refine eF ?_|(refine di ?_;show CW _ _ _ _ _ _)|refine di ?_
  repeat refine dm ?_
  refine dz ?_;refine cq (cH rfl) ?_;refine dH (cV cw rfl rfl (I.gr S.out) rfl) ?_;refine dH (cV cw rfl rfl (L.gr S.out) rfl) ?_;refine cq (cH rfl) ?_;refine dH (cV dB rfl rfl (D.gr S.out) rfl) ?_;refine zC (h2 W) ?_;intro aa V S;refine zL (I.gr S.out) ?_;refine zL (L.gr S.out) ?_;refine zL (D.gr S.out) ?_;refine zC (y _) ?_;intro ab Z S;exact zZ
theorem GK(ax ay bx cy:Int)(hw:1<=gw/\gw<=1024)(hh:1<=gh/\gh<=1024)(hP:iM W yb gw gh V) :
  Fn prog 104 [pt yb,.agg #[ii ax,ii ay],.agg #[ii bx,ii cy]] W
   (λu w'=>((mD gw gh (ax,ay)&&mD gw gh (bx,cy))=false/\u=.tuple #[.pointer none,ii 4]/\Gr W w') \/
    (mD gw gh (ax,ay)=true/\mD gw gh (bx,cy)=true/\∃xb lA lc,u=.tuple #[pt xb,ii 0]/\St No W w' [.blk xb 205 [pt yb,ii gw,ii gh,.slice lA (vX ax ay bx cy).length lc],.row 34 2 lA (vX ax ay bx cy).length lc (eT (vX ax ay bx cy))])):=by
 obtain⟨ra,y⟩:=LT (yb:=yb) (V:=V) ax ay hw hh;obtain⟨rb,z⟩:=LT (yb:=yb) (V:=V) bx cy hw hh;unfold LS at y z;have D:=λw ha hb=>On (W:=w) (gw:=gw) (gh:=gh) ax ay bx cy ⟨hw.2,hh.2⟩ ha hb;rw[<-AO]at D;generalize mD gw gh (ax,ay)=A at *;generalize mD gw gh (bx,cy)=B at *;generalize vX ax ay bx cy=l at *;have S:=St.start W;refine zI func104 ?_;refine zN ?_;intro O aV aS S;refine zN ?_;intro U aW aT S;refine zN ?_;intro J aX aU S;refine zC (tJ hw hh (hP.gr S.out)) ?_;refine zS ?_;intro aY S;refine cq (Ck ow dW zeroValue306 rfl rfl) ?_;refine zg ?_
 refine dl (λm e w=>∃k:Nat,m=2-k/\k<=2/\((1<=k->A=true)/\(2<=k->B=true))/\SL e [(0,pt yb),(4,pt O),(5,pt U),(8,pt J),(31,.agg #[ii ax,ii ay,ii bx,ii cy]),(32,ii k)] /\
   St No W w [.blk J 205 [pt yb,ii gw,ii gh,.slice none 0 0],.blk U 34 [ii bx,ii cy],.blk O 34 [ii ax,ii ay]]) 2
  ⟨0,rfl,om,⟨λh=>by omega,λh=>by omega⟩,sl,S⟩ ?_
 clear S;rintro m e w ⟨k,rfl,hk,L,ae,S⟩;rw[ae.fold];rcases (show k=0\/k=1\/k=2 by omega)with rfl|rfl|rfl
 ·cases A
  ·simp only[m7,pW]at y;refine zg ?_;refine cq (rR ow dI dW rfl rfl rfl om om rfl) ?_;refine zN ?_;intro I au ag S;refine zS ?_;intro av S;refine zC (y _ (hP.gr S.out)) ?_;intro aw ah S;refine zN ?_;intro v az ai S;refine zS ?_;intro aA S;exact nd rfl rfl (.inl ⟨rfl,rfl,S.out⟩)
  ·simp only[rq]at y;refine zg ?_;refine cq (rR ow dI dW rfl rfl rfl om om rfl) ?_;refine zN ?_;intro I aB aj S;refine zS ?_;intro aC S;refine zC (y _ (hP.gr S.out)) ?_;intro aD ak S;refine zN ?_;intro v aE al S;refine zS ?_;intro aF S;exact⟨1,om,1,om,om,⟨λ_=>rfl,λh=>by omega⟩,sl,S.drop 2⟩
 ·cases B
  ·simp only[m7,pW]at z;refine zg ?_;refine cq (rR ow dI dW rfl rfl rfl om om rfl) ?_;refine zN ?_;intro I aG am S;refine zS ?_;intro aH S;refine zC (z _ (hP.gr S.out)) ?_;intro aI an S;refine zN ?_;intro v aJ ao S;refine zS ?_;intro aK S;exact nd rfl rfl (.inl ⟨by rw[Bool.and_false],rfl,S.out⟩)
  ·simp only[rq]at z;refine zg ?_;refine cq (rR ow dI dW rfl rfl rfl om om rfl) ?_;refine zN ?_;intro I aL ap S;refine zS ?_;intro aM S;refine zC (z _ (hP.gr S.out)) ?_;intro aN aq S;refine zN ?_;intro v aO ar S;refine zS ?_;intro aP S;exact⟨0,om,2,om,om,⟨λ_=>L.1 (cN _),λ_=>rfl⟩,sl,S.drop 2⟩
 ·obtain rfl:=L.1 om;obtain rfl:=L.2 om;refine zK (D w rfl rfl) ?_;rintro _ aQ ⟨ac,ad,rfl,aa,ab,Z⟩;have S:=S.pushRow aa ab Z;refine zS ?_;intro aR S;exact nd rfl rfl (.inr ⟨rfl,rfl,J,ac,ad,rfl,(S.swap.sub (.cons_cons _ (.cons_cons _ (.cons _ (.cons _ .slnil)))))⟩)
theorem JO(ax ay D bx cy L:Int)(hw:1<=gw/\gw<=1024)(hh:1<=gh/\gh<=1024)(hc:pk gw gh ax ay D bx cy L≠0)(O:iM W yb gw gh V) :
  Fn prog 50 [pt yb,.agg #[ii ax,ii ay],ii D,.agg #[ii bx,ii cy],ii L] W (dp (.tuple #[.bool false,.agg #[ii 0,ii 0],ii (pk gw gh ax ay D bx cy L)]) W):=by
 have I:=λw=>AQ (W:=w) D;have ad:=λw=>AQ (W:=w) L;unfold pk at hc ⊢;by_cases y:(mD gw gh (ax,ay)&&mD gw gh (bx,cy))=false
 ·rw[a7 y];have J:=λw(O:iM w yb gw gh V)=>(GK (W:=w) (yb:=yb) (V:=V) ax ay bx cy hw hh O).mono (R':=dp (.tuple #[.pointer none,ii 4]) w) λu w' h=>h.elim (λh=>h.2) (λh=>by rw[h.1,h.2.1]at y;cases y)
  have S:=St.start W;refine zI func50 ?_;refine zN ?_;intro U ae aa S;refine zN ?_;intro Z ag ab S;refine zN ?_;intro v ah ac S;refine zC (J _ (O.gr S.out)) ?_;intro ai ao S;refine zS ?_;intro aj S;exact tm dI rfl (dW _) rfl (S.blk (i:=0) rfl) rfl rfl rfl rfl ⟨rfl,S.out⟩
 ·have J:=λw(O:iM w yb gw gh V)=>(GK (W:=w) (yb:=yb) (V:=V) ax ay bx cy hw hh O).mono (R':=λu w'=>∃xb,u=.tuple #[pt xb,ii 0]/\Gr w w') λu w' h=>h.elim (λh=>absurd h.1 y) (λ⟨_,_,xb,lA,lc,hu,S⟩=>⟨xb,hu,S.out⟩);rw[a8 y]at hc ⊢;have al:¬((0<=D/\D<=1048576)/\0<=L/\L<=1048576):=λh=>hc (a7 h);rw[a8 al];have S:=St.start W;by_cases h1:0<=D/\D<=1048576
  ·have h2:(decide (0<=L)&&decide (L<=1048576))=false:=by
    rw[il,d9,d9];omega
   rw[cF h1.1,cF h1.2]at I;rw[h2]at ad;refine zI func50 ?_;refine zN ?_;intro U ae aa S;refine zN ?_;intro Z ag ab S;refine zN ?_;intro v ah ac S;refine zK (J _ (O.gr S.out)) ?_;rintro _ ai ⟨xb,rfl,g9⟩;have S:=S.gr g9;refine zC (I _) ?_;intro aj ap S;iterate 3 refine z ?_
   refine dr rfl ?_;refine eY rfl (ad aj) ?_;rintro _ am ⟨rfl,ak⟩;have S:=S.gr ak;refine zS ?_;intro an S;exact tm dI rfl (dW _) rfl (S.blk (i:=0) rfl) rfl rfl rfl rfl ⟨rfl,S.out⟩
  ·have h2:(decide (0<=D)&&decide (D<=1048576))=false:=by
    rw[il,d9,d9];omega
   rw[h2]at I;refine zI func50 ?_;refine zN ?_;intro U ae aa S;refine zN ?_;intro Z ag ab S;refine zN ?_;intro v ah ac S;refine zK (J _ (O.gr S.out)) ?_;rintro _ ai ⟨xb,rfl,g9⟩;have S:=S.gr g9;refine zC (I _) ?_;refine zS ?_;intro am S;exact tm dI rfl (dW _) rfl (S.blk (i:=0) rfl) rfl rfl rfl rfl ⟨rfl,S.out⟩
theorem DW{c d:Int×Int}(h1:0<=d.1)(h2:0<=d.2):Be ((c.1.toNat/2^k*2^k:Nat):Int) ((c.2.toNat/2^k*2^k:Nat):Int) (((c.1.toNat/2^k+1)*2^k-1:Nat):Int) (((c.2.toNat/2^k+1)*2^k-1:Nat):Int) d.1 d.2=true↔GJ k c d:=by
 have y:0<2^k:=ic om;unfold Be GJ;simp only[cM,cT];rw[E7 y,E7 y];have v:=cX (c.1.toNat/2^k) (2^k);have a2:=cX (c.2.toNat/2^k) (2^k);simp only[Nat.succ_eq_add_one]at v a2;rw[v,a2];generalize c.1.toNat/2^k*2^k=X at *;generalize c.2.toNat/2^k*2^k=Y at *;generalize 2^k=q at *;omega
theorem UT(v:vB V)(c:Int×Int):-2147483648<=yF gw V c/\yF gw V c<=2147483647:=v _
theorem At(ax ay ha bx cy hb:Int)(hB:vB V)(hw:1<=gw/\gw<=1024)(hh:1<=gh/\gh<=1024)(hP:iM W yb gw gh V) :
  Fn prog 50 [pt yb,.agg #[ii ax,ii ay],ii ha,.agg #[ii bx,ii cy],ii hb] W
   (λu w'=>∃yes ox oy,u=.tuple #[.bool yes,.agg #[ii ox,ii oy],ii (pk gw gh ax ay ha bx cy hb)]/\JN gw gh V ax ay ha bx cy hb yes ox oy/\Gr W w'):=by
 by_cases hc:pk gw gh ax ay ha bx cy hb=0
 ·rw[hc]
  have hc0:=hc
  unfold pk at hc
  by_cases hAB:(mD gw gh (ax,ay)&&mD gw gh (bx,cy))=false
  ·rw[a7 hAB]at hc;cases hc
  rw[a8 hAB]at hc
  have hht:(0<=ha/\ha<=1048576)/\0<=hb/\hb<=1048576:=by
   by_cases h:(0<=ha/\ha<=1048576)/\0<=hb/\hb<=1048576
   ·exact h
   ·rw[a8 h]at hc;cases hc
  rw[Bool.not_eq_false,cM]at hAB
  have hof:=λw(hP:iM w yb gw gh V)=>(GK (W:=w) (yb:=yb) (V:=V) ax ay bx cy hw hh hP).mono (R':=λu w'=>∃xb lA lc,u=.tuple #[pt xb,ii 0]/\St No w w' [.blk xb 205 [pt yb,ii gw,ii gh,.slice lA (vX ax ay bx cy).length lc],.row 34 2 lA (vX ax ay bx cy).length lc (eT (vX ax ay bx cy))]) λu w' h=>h.elim (λh=>by rw[hAB.1,hAB.2]at h;cases h.1) (λh=>h.2.2)
  have hma:=λw=>AQ (W:=w) ha
  have hmb:=λw=>AQ (W:=w) hb
  rw[cF hht.1.1,cF hht.1.2]at hma
  rw[cF hht.2.1,cF hht.2.2]at hmb
  have hcf:=λi h=>UO (ax:=ax) (ay:=ay) (bx:=bx) (cy:=cy) (i:=i) h
  have hin:=UP hAB.1 hAB.2
  have hbt:=λi j k h1 h2 x0 y0 x1 y1=>UM ax ay bx cy (i:=i) (j:=j) (k:=k) h1 h2 (x0:=x0) (y0:=y0) (x1:=x1) (y1:=y1)
  have hij:=λi j=>UN ax ay bx cy (i:=i) (j:=j)
  have hsr:∀yes ox oy,(∃r,AP 1 ((jh ax ay bx cy).n.toNat-1) (Oq gw V ax ay ha bx cy hb) r/\((r<0/\yes=true/\ox=0/\oy=0)\/(0<=r/\yes=false/\(ox,oy)=rm ax ay (jh ax ay bx cy) r.toNat)))->JN gw gh V ax ay ha bx cy hb yes ox oy:=λyes ox oy h=>.inr ⟨hc0,h⟩
  have hll:=AO ax ay bx cy
  unfold Oq UR at hsr
  have hnn:0<=(jh ax ay bx cy).n:=by obtain⟨N,M,eN,_⟩:=Js hAB.1 hAB.2 rfl;omega
  obtain⟨n,hn⟩:=cJ hnn
  rw[hn]at hll hin hsr
  rw[b7]at hll hin hsr
  have hvb:=λi=>UT (gw:=gw) hB (rm ax ay (jh ax ay bx cy) i)
  generalize rm ax ay (jh ax ay bx cy)=cf at *
  generalize vX ax ay bx cy=l at *
  have hn10:n<1024:=om
  have en:((n+1:Nat):Int)-1=n:=om
  obtain⟨ln,hls⟩:∃s:Bi,(⟨yF gw V (cf 0)+ha,yF gw V (cf n)+hb,(n:Int)⟩:Bi)=s:=⟨_,rfl⟩
  rw[hls]at hsr
  have hle:ln.eye=yF gw V (cf 0)+ha:=by rw[<-hls]
  have hlt:ln.top=yF gw V (cf n)+hb:=by rw[<-hls]
  have hlq:ln.n=n:=by rw[<-hls]
  have hle2:-17179869184<=ln.eye/\ln.eye<=17179869184:=by have:=hvb 0;omega
  have hlt2:-17179869184<=ln.top/\ln.top<=17179869184:=by have:=hvb n;omega
  rw[hll]at hof
  refine yI func50 ?_
  refine yA ?_
  intro b_a b_b b_res _ S
  refine zK (hof _ (hP.gr S.out)) ?_
  rintro _ w7_ ⟨xb,A_l,c_l,rfl,S2⟩
  have S:=S.app S2
  refine EO hma ?_
  intro w8_ S
  iterate 3 refine z ?_
  refine dr rfl ?_
  refine eY rfl (hmb w8_) ?_
  rintro _ w9_ ⟨rfl,g9_⟩
  have S:=S.gr g9_
  refine zg ?_
  have hway:∀{w T},St No W w (HA.blk xb 205 [pt yb,ii gw,ii gh,.slice A_l (n+1) c_l]::.row 34 2 A_l (n+1) c_l (eT l)::T)->Bh w xb yb gw gh V l:=λS=>⟨⟨A_l,c_l,hll▸S.blk (i:=0) rfl,S.rd (i:=1) rfl⟩,hP.gr S.out,λi c hc=>by
   have hi:=(dq.1 hc).1
   rw[hcf i hi]at hc
   cases hc
   exact hin.1 i hi,hw,hh,om⟩
  by_cases h0:n=0
  ·subst h0
   refine yA ?_
   intro _ _ S
   exact tm dI rfl (dW _) rfl (S.blk (i:=3) rfl) rfl rfl rfl rfl ⟨true,0,0,rfl,hsr _ _ _ ⟨-1,.inl ⟨rfl,λi h1 h2=>by omega⟩,.inl ⟨om,rfl,rfl,rfl⟩⟩,S.out⟩
  ·skip
   refine yA ?_
   rw[en]
   intro b_n _ S
   refine gP (M:=λe w=>∃eb tb:Nat,SL e [(11,pt b_res),(13,pt xb),(15,pt b_n),(16,pt eb),(17,pt tb)]/\St No W w [.blk eb 2 [ii ln.eye],.blk tb 2 [ii ln.top],.blk b_n 3 [ii n],.blk xb 205 [pt yb,ii gw,ii gh,.slice A_l (n+1) c_l],.row 34 2 A_l (n+1) c_l (eT l),.blk b_res 34 [ii 0,ii 0],.blk b_b 34 [ii bx,ii cy],.blk b_a 34 [ii ax,ii ay]]) ?_ ?_
   ·have hc0':=hcf 0 om
    have hcn':=hcf n om
    have hb0:=hvb 0
    have hbn:=hvb n
    refine zc ?_
    refine nI (C:=(tP No W [.blk b_n 3 [ii n],.blk xb 205 [pt yb,ii gw,ii gh,.slice A_l (n+1) c_l],.row 34 2 A_l (n+1) c_l (eT l),.blk b_res 34 [ii 0,ii 0],.blk b_b 34 [ii bx,ii cy],.blk b_a 34 [ii ax,ii ay]] 9 10 11 2 (ii 0) (ii ln.eye))) [9,10,11] (.one 0 (.one 1 (.one 2 (.one 3 (.one 4 (.one 5 (.one 6 (.one 7 (.one 8 (.two 9 (.one 10 (.one 11 .nil)) 10 (.one 9 (.one 11 .nil)))))))))))) [12] (by kernel_rfl) (by kernel_rfl) (tP.start (S.gr (Gr.drew _))) ?_
    simp only[qK,iS,dK,dR]
    refine zW ?_
    refine ul rfl rfl (λτ wq hq=>(Is 0 hc0' (hway ((tP.st hq).drop 1))).mono (λ_ _⟨hv,hg⟩=>⟨hv,tP.gr hq hg⟩)) ?_
    refine zW ?_
    rw[<-hle]
    refine zU (λτ wq hq=>((tP.st hq).blk (i:=0) rfl)) ?_
    refine zW ?_
    refine ul rfl rfl (λτ wq hq=>(Is n hcn' (hway ((tP.st hq).drop 1))).mono (λ_ _⟨hv,hg⟩=>⟨hv,tP.gr hq hg⟩)) ?_
    refine zW ?_
    rw[<-hlt]
    refine zW ?_
    refine nf ?_ ?_
    ·refine dC rfl rfl (λwq hq=>CZ hq rfl rfl rfl rfl pJ rfl) ?_
     rintro v9 w9 h9
     obtain⟨b9,rfl⟩:=h9.ia rfl
     refine zW ?_
     refine dC rfl rfl (λwq hq=>C0 hq rfl rfl rfl pJ rfl) ?_
     rintro v10 w10 h10
     obtain⟨b10,rfl⟩:=h10.ja rfl
     refine zW ?_
     refine dC rfl rfl (λwq hq=>Eu hq rfl rfl rfl rfl (cR _) rfl rfl rfl rfl) ?_
     rintro v11 w11 h11
     refine zW ?_
     refine jm ?_
     rintro wz hz
     have S:=tP.fin hz rfl rfl rfl
     refine yA ?_
     intro _ S
     exact⟨_,_,sl,S⟩
    ·refine dC rfl rfl (λwq hq=>C0 hq rfl rfl rfl pJ rfl) ?_
     rintro v10 w10 h10
     obtain⟨b10,rfl⟩:=h10.ja rfl
     refine zW ?_
     refine dC rfl rfl (λwq hq=>CZ hq rfl rfl rfl rfl pJ rfl) ?_
     rintro v9 w9 h9
     obtain⟨b9,rfl⟩:=h9.ia rfl
     refine zW ?_
     refine dC rfl rfl (λwq hq=>Eu hq rfl rfl rfl rfl (cR _) rfl rfl rfl rfl) ?_
     rintro v11 w11 h11
     refine zW ?_
     refine jm ?_
     rintro wz hz
     have S:=tP.fin hz rfl rfl rfl
     refine zS ?_
     intro w20_ S
     exact⟨_,_,sl,S⟩
   ·rintro e9 w9 ⟨eb,tb,hsl,S⟩
    rw[hsl.fold]
    have en2:(n:Int)-1=((n-1:Nat):Int):=om
    have hfi:=LR (W:=w9) (hide:=λi=>ln.over (yF gw V (cf i)) i) (may:=λz i j=>ln.over z i||ln.over z j) 1 (n-1) om om hB (hway (S.drop 3)) hcf
     (λk i j p h1 h2 hp hs=>by
      have g:∀i,i<=p->0<=(cf i).1/\0<=(cf i).2:=λi hi=>by
       have:=jT.1 (hin.1 i om)
       omega
      exact(DW (g j h2).1 (g j h2).2).1 (hbt i j p h1 h2 _ _ _ _ ((DW (g i om).1 (g i om).2).2 ⟨rfl,rfl⟩) ((DW (g p (cN _)).1 (g p (cN _)).2).2 hs))) hij
     (λw' g z i j hz hi hj=>US z i j om ⟨hle2,hlt2⟩ om ((S.gr g).blk (i:=0) rfl) ((S.gr g).blk (i:=1) rfl) (hlq▸(S.gr g).blk (i:=2) rfl) om om)
     (λz i j x h1 h2 h3 h4=>Bi.ends om h1 h2 h3 h4) (λi=>Bool.or_self _)
    refine zg ?_
    rw[en2]
    refine zK (hfi) ?_
    rintro _ w21_ ⟨r,rfl,hF,g10⟩
    have S:=S.gr g10
    refine zg ?_
    have sa_l:dO A_l:=(S.row (i:=4) rfl).someA om
    have hF2:=hF
    rcases hF with⟨rfl,_⟩|⟨i,rfl,hi,_⟩
    ·skip
     refine yA ?_
     intro _ S
     exact tm dI rfl (dW _) rfl (S.blk (i:=5) rfl) rfl rfl rfl rfl ⟨true,0,0,rfl,hsr _ _ _ ⟨-1,hF2,.inl ⟨om,rfl,rfl,rfl⟩⟩,S.out⟩
    ·have hget:((eT l).drop ((i:Int).toNat * 2)).take 2=[ii (cf i).1,ii (cf i).2]:=by rw[b7];exact mS (hcf i om)
     refine zD [0,1,2,3,4,5,6,7] [8,9] ?_
     refine fo (λwq hq=>fb dI rfl (dW _) rfl ((S.gr hq).rd (i:=4) rfl) hget rfl rfl) ?_
     refine zE ?_
     refine zS ?_
     intro w24_ S
     exact tm dI rfl (dW _) rfl (S.blk (i:=5) rfl) rfl rfl rfl rfl ⟨false,(cf i).1,(cf i).2,rfl,hsr _ _ _ ⟨i,hF2,.inr ⟨om,rfl,by rw[b7]⟩⟩,S.out⟩
 ·exact(JO ax ay ha bx cy hb hw hh hc hP).mono λu w'⟨hu,g⟩=>⟨false,0,0,hu,.inl ⟨hc,rfl,rfl,rfl⟩,g⟩
end
end Go.Proofs.YtjfeklflkikapaaGreatDoor
