/- A part of the proof that hachuretop.WholeErrors returns true at every input; no condition. -/
import Derived.Test.YtceahkcepefcaaaGreatDoorKQ
import Derived.Lib.UnsafeStr
import Derived.Test.YtceahkcepefcaaaGreatDoorKM
import Derived.Test.YtceahkcepefcaaaGreatDoorKO
set_option maxRecDepth 100000
set_option maxHeartbeats 16000000
set_option linter.unusedVariables false
set_option linter.unusedSimpArgs false
namespace Go.Proofs.YtceahkcepefcaaaGreatDoor
open Go.Proofs.Tryz Go.RowKit
variable{Q:(Nat->Value)->World->Prop}{af:Array Edge}{ops:Array Oper}{f:FuncId}{h h':HA}{X0 X1 Y Y0 Y1 a now stamp:Int}{σ:List (Nat × Value)}{K:List (Nat × Value)->Act->Prop}{M T tl:List HA}{hd:List Nat}{l l' vs xs:List Value}{N b c c2 cap2 el fid g gh gw i j k lh lw m n p p2 pb q sn tb x0 x1 xb y0 y1:Nat}{sp:Nat->Bool}{c' cc:Nat->Int}{bs bs2 ns:Nat->Nat}{As:Nat->Option Addr}{Rs Rs2:Nat->Option Nat}{F F':Nat->Prop}{e:Nat->Value}{op:Op}{o:m5}{hi lo x:Operand}{A A2 B ov pp:Option Addr}{d:Option Tmp}{P:Program}{G:Prop}{r:Rc}{s:lT}{t t' ty:TypeId}{u:Value}{W w w' wq:World}{C:World->Prop}
theorem Rc.area_le(h:r.ok gw gh)(D:gw<=1024)(z:gh<=1024):∃c:Nat,((r.x1:Int)-r.x0+1)*((r.y1:Int)-r.y0+1)=c/\1<=c/\c<=1048576:=by
 obtain⟨⟨h1,h2⟩,v,y⟩:=h;refine⟨(r.x1+1-r.x0)*(r.y1+1-r.y0),?_,j5 om om,show _<=1024*1024 from cE om om⟩;rw[(om:(r.x1:Int)-r.x0+1=((r.x1+1-r.x0:Nat):Int)),(om:(r.y1:Int)-r.y0+1=((r.y1+1-r.y0:Nat):Int))];push_cast;rfl
section
variable{yb:Nat}{V:List Int}{z:Int}
def W8(yb gw gh:Nat)(r:Rc)(z:Int):List Value:=[pt yb,ii gw,ii gh,ii r.x0,ii r.y0,ii r.x1,ii r.y1,ii z]
theorem Rv(Z:1<=gw/\gw<=1024)(O:1<=gh/\gh<=1024)(hr:r.ok gw gh):∀(k x y:Nat)(W:World),Nd.ok ⟨k,x,y⟩ gw gh->iM W yb gw gh V->eL W xb 303 (W8 yb gw gh r z) ->
  Fn prog 104 [pt xb,ii k,.agg #[ii x,ii y]] W (λv w'=>∃c:Nat,v=ii c/\c<=1048576*4^k/\Gr W w'):=by
 intro k;induction k using Nat.strongRecOn with
 |ind k ih =>
  intro x y W U hP J;have hs:=Nd.span_ok Z.1 O.1 U;have bt:=lI Z.2 O.2;have aO:∀w,Fn prog 129 [ii gw,ii gh,ii k,.agg #[ii x,ii y]] w (dp (.tuple #[.agg (Nd.span gw gh ⟨k,x,y⟩).cells.toArray,ii 0]) w):=λw=>Co (W:=w) k x y Z O U.1 U.2.1 U.2.2;have au:=λw=>E6 (W:=w) (Nd.span gw gh ⟨k,x,y⟩) r (hs.far Z.2 O.2) (hr.far Z.2 O.2);have ao:=λw=>Cr (W:=w) (V:=V) (pb:=yb) k x y Z O U.1 U.2.1 U.2.2
  have av:(Nd.span gw gh ⟨k,x,y⟩).both r=true->(Nd.span gw gh ⟨k,x,y⟩).mt r=((Nd.span gw gh ⟨k,x,y⟩).meet r).cells/\((Nd.span gw gh ⟨k,x,y⟩).meet r).ok gw gh:=λh=>by
   refine⟨by unfold Rc.mt;rw[a7 h],?_⟩;unfold Rc.both at h;rw[cT]at h;obtain⟨⟨a1,a2⟩,a3,a4⟩:=hs;unfold Rc.meet Rc.ok;dsimp only;omega
  have ad:∃a b c d:Int,(Nd.span gw gh ⟨k,x,y⟩).mt r=[ii a,ii b,ii c,ii d]:=by
   unfold Rc.mt;split
   ·exact⟨_,_,_,_,rfl⟩
   ·exact⟨_,_,_,_,rfl⟩
  obtain⟨m0,m1,m2,m3,ad⟩:=ad;have az:k=0->(pm gw gh V k x y).lo=(pm gw gh V k x y).hi:=λe=>by subst e;rfl
  rw[ad]at au av;generalize (Nd.span gw gh ⟨k,x,y⟩).meet r=mm at *;generalize Nd.span gw gh ⟨k,x,y⟩=sp at *;generalize pm gw gh V k x y=v at *;generalize sp.both r=B at *;unfold RG.cells at ao;unfold W8 at J ih;have aG:=J;refine yI func104 ?_;refine yA ?_;intro _ _ S;refine zH (C:=(CA _ _ _ 24 [ii 0,ii 0,ii 0,ii 0] [ii sp.x0,ii sp.y0,ii sp.x1,ii sp.y1])) [14,15] [0,1,2,3,4,5,6,7,8,9,10,11,12,13,14,15] [16] (CA.start (S.gr (Gr.drew _))) ?_;refine zV (λτ wq D=>(J.gr D.st.out)) ?_;refine zV (λτ wq D=>(J.gr D.st.out)) ?_;refine zV (λτ wq D=>(D.st.blk (i:=0) rfl)) ?_;refine jH rfl rfl (λτ wq D=>(aO wq).mono (λ_ _⟨hv,hg⟩=>⟨hv,D.gr hg⟩)) ?_;refine zR ?_;refine de rfl rfl (λwq D=>kG D Ac rfl) ?_;rintro bv bE ⟨aV,rfl,_⟩;refine de rfl rfl (λwq D=>kH D (yr _) rfl rfl rfl rfl rfl) ?_;rintro bA bH _;refine zY ?_;rintro bK aP;obtain⟨aE,ab,S⟩:=aP.fin;cases ab
  refine zH (C:=(CA _ _ _ 24 [ii 0,ii 0,ii 0,ii 0] [ii m0,ii m1,ii m2,ii m3])) [9,10] [0,1,2,3,4,5,6,7,8,9,10] [11] (CA.start (S.gr (Gr.drew _))) ?_;refine zV (λτ wq D=>(D.st.blk (i:=0) rfl)) ?_;refine zV (λτ wq D=>(J.gr D.st.out)) ?_;refine jH rfl rfl (λτ wq D=>(au wq).mono (λ_ _⟨hv,hg⟩=>⟨hv,D.gr hg⟩)) ?_;refine zR ?_;refine de rfl rfl (λwq D=>kG D Ac rfl) ?_;rintro bw bF ⟨bk,rfl,_⟩;refine de rfl rfl (λwq D=>kH D (yr _) rfl rfl rfl rfl rfl) ?_;rintro bB bI _;refine zY ?_;rintro bL aQ;obtain⟨aU,ah,S⟩:=aQ.fin;cases ah
  refine zH (C:=(CA _ _ _ 153 [ii 0,ii 0] [ii v.lo,ii v.hi])) [10,11] [0,1,2,3,4,5,6,7,8,9,10,11] [12] (CA.start (S.gr (Gr.drew _))) ?_;refine zV (λτ wq D=>(J.gr D.st.out)) ?_;refine zV (λτ wq D=>(D.st.blk (i:=2) rfl)) ?_;refine jH rfl rfl (λτ wq D=>(ao wq (hP.gr D.st.out)).mono (λ_ _⟨hv,hg⟩=>⟨hv,D.gr hg⟩)) ?_;refine zR ?_;refine de rfl rfl (λwq D=>kG D Zo rfl) ?_;rintro bz bG ⟨bl,rfl,_⟩;refine de rfl rfl (λwq D=>kH D (YS _) rfl rfl rfl rfl rfl) ?_;rintro bC bJ _;refine zY ?_;rintro ae aR;obtain⟨aW,ai,S⟩:=aR.fin;cases ai
  refine cq (cH rfl) ?_;first|refine eF ?_|(refine di ?_;show CW _ _ _ _ _ _)|refine di ?_
  cases B
  ·skip;refine zF [0,1,2,3,4,5,6,7,8,9,10,11] [] ?_;intro bD bm S;exact ir rfl ⟨0,rfl,ib _,S.out⟩
  ·by_cases h1:v.hi<z
   ·skip;refine yA ?_;refine pF (C:=λwq=>Gr ae wq) [0,1,2,3,4,5,6,7,8,9,10,11] [] (by kernel_rfl) (by kernel_rfl) (Gr.drew _) ?_;simp only[iS,dK,dR];iterate 3 refine eO (cH rfl) ?_
    first|refine iN rfl ?_|(refine fO rfl ?_;refine eO (du YQ rfl cR rfl rfl) ?_)
    first|refine iN rfl ?_|(refine fO rfl ?_;refine fo (λwq D=>cV cw rfl rfl ((S.gr D).blk (i:=0) rfl) rfl) ?_)
    first|refine iN rfl ?_|(refine fO rfl ?_;refine eO (cH rfl) ?_)
    first|refine iN rfl ?_|(refine fO rfl ?_;refine eO (cH rfl) ?_)
    first|refine iN rfl ?_|(refine fO rfl ?_;refine eO (du jO rfl cR rfl rfl) ?_)
    first|refine iN rfl ?_|(refine fO rfl ?_;refine fo (λwq D=>cV cw rfl rfl (J.gr (S.gr D).out) rfl) ?_)
    first|refine iN rfl ?_|(refine fO rfl ?_;(first|refine eO (ff (b:=true) rfl (cF om)) ?_|refine eO (ff (b:=false) rfl (cC om)) ?_|refine eO (cH rfl) ?_))
    iterate 2 refine eO (cH rfl) ?_
    refine vZ ?_;intro bc aj;have S:=S.gr aj;first|refine eF ?_|(refine di ?_;show CW _ _ _ _ _ _)|refine di ?_
    repeat refine dm ?_
    refine jr rfl ?_;repeat refine dm ?_
    refine dz ?_;refine cq (cH rfl) ?_;first|refine eF ?_|(refine di ?_;show CW _ _ _ _ _ _)|refine di ?_
    repeat refine dm ?_
    refine mJ ?_;repeat first|refine mL ?_|refine oq ?_
    exact ir rfl ⟨0,rfl,ib _,S.out⟩
   ·by_cases h2:v.lo>=z
    ·obtain⟨ac,aw⟩:=av rfl;obtain⟨cc,aI,bo,aJ⟩:=Rc.area_le aw Z.2 O.2;unfold Rc.cells at ac;simp only[List.cons.injEq,Value.int.injEq,true_and,and_true]at ac;obtain⟨rfl,rfl,rfl,rfl⟩:=ac;obtain⟨⟨a1,a2⟩,a3,a4⟩:=aw;refine yA ?_;refine pF (C:=λwq=>Gr ae wq) [0,1,2,3,4,5,6,7,8,9,10,11] [] (by kernel_rfl) (by kernel_rfl) (Gr.drew _) ?_;simp only[iS,dK,dR];iterate 3 refine eO (cH rfl) ?_
     first|refine iN rfl ?_|(refine fO rfl ?_;refine eO (du YQ rfl cR rfl rfl) ?_)
     first|refine iN rfl ?_|(refine fO rfl ?_;refine fo (λwq D=>cV cw rfl rfl ((S.gr D).blk (i:=0) rfl) rfl) ?_)
     first|refine iN rfl ?_|(refine fO rfl ?_;refine eO (cH rfl) ?_)
     first|refine iN rfl ?_|(refine fO rfl ?_;refine eO (cH rfl) ?_)
     first|refine iN rfl ?_|(refine fO rfl ?_;refine eO (du jO rfl cR rfl rfl) ?_)
     first|refine iN rfl ?_|(refine fO rfl ?_;refine fo (λwq D=>cV cw rfl rfl (J.gr (S.gr D).out) rfl) ?_)
     first|refine iN rfl ?_|(refine fO rfl ?_;(first|refine eO (ff (b:=true) rfl (cF om)) ?_|refine eO (ff (b:=false) rfl (cC om)) ?_|refine eO (cH rfl) ?_))
     iterate 2 refine eO (cH rfl) ?_
     refine vZ ?_;intro aA ak;have S:=S.gr ak;first|refine eF ?_|(refine di ?_;show CW _ _ _ _ _ _)|refine di ?_
     repeat refine dm ?_
     refine eX rfl ?_;repeat refine dm ?_
     refine pF (C:=λwq=>Gr aA wq) [0,1,2,3,4,5,6,7] [] (by kernel_rfl) (by kernel_rfl) (Gr.drew _) ?_;simp only[iS,dK,dR];refine eO (du YQ rfl cR rfl rfl) ?_;refine fo (λwq D=>cV cw rfl rfl ((S.gr D).blk (i:=0) rfl) rfl) ?_;iterate 2 refine eO (cH rfl) ?_
     refine eO (du jO rfl cR rfl rfl) ?_;refine fo (λwq D=>cV cw rfl rfl (J.gr (S.gr D).out) rfl) ?_;first|refine eO (ff (b:=true) rfl (cF om)) ?_|refine eO (ff (b:=false) rfl (cC om)) ?_|refine eO (cH rfl) ?_
     refine eO (cH rfl) ?_;refine vZ ?_;intro aB al;have S:=S.gr al;refine yA ?_;refine dH (fx xa rfl (yr _) rfl (S.blk (i:=1) rfl) rfl rfl) ?_;refine eY rfl (qc _ _ _ _ om aB) ?_;rintro _ be ⟨rfl,am⟩;have S:=S.gr am;refine zX ?_;exact⟨cc,ie aI,dE aJ (eS _ (ic om)),S.out⟩
    ·obtain⟨k,rfl⟩:∃j,k=j+1:=⟨k-1,by
      have:k≠0:=λe=>by have:=az e;omega
      omega⟩
     obtain⟨hk,hx,hy⟩:=U;dsimp only at hk hx hy;have bq:=qz hx;have br:=qz hy;have aK:=λw=>Lh (W:=w) k x y Z O hk hx hy;have nx:1<=kd (dG gw k) x/\kd (dG gw k) x<=2/\2*x+kd (dG gw k) x=min (2*x+2) (dG gw k):=by unfold kd;omega
     have ny:1<=kd (dG gh k) y/\kd (dG gh k) y<=2/\2*y+kd (dG gh k) y=min (2*y+2) (dG gh k):=by unfold kd;omega
     have aL:∀j,j<kd (dG gh k) y*kd (dG gw k) x->((eT (xA (dG gw k) (dG gh k) x y)).drop ((j:Int).toNat * 2)).take 2=[ii (2*x+j%kd (dG gw k) x:Nat),ii (2*y+j/kd (dG gw k) x:Nat)]:=λj hj=>by
      rw[b7];refine mS (c:=(((2*x+j%kd (dG gw k) x:Nat):Int),((2*y+j/kd (dG gw k) x:Nat):Int))) ?_;unfold xA;rw[da,eu hj];rfl
     generalize xA (dG gw k) (dG gh k) x y=KL at *;generalize kd (dG gw k) x=I at *;generalize kd (dG gh k) y=L at *;have hb:L*I<=4:=cE ny.2.1 nx.2.1
     have aq:∀j,j<L*I->Nd.ok ⟨k,2*x+j%I,2*y+j/I⟩ gw gh:=λj hj=>by
      have a1:=dt j (show 0<I by omega);have a2:j/I<L:=cS (by rw[cD];exact hj);unfold Nd.ok;dsimp only;generalize j%I=a at *;generalize j/I=b at *;omega
     have bu:=fP (n:=4) om (show k<=10 by omega);have hM:1048576*4^(k+1)=4*(1048576*4^k):=by rw[gb];omega
     have ap:=λx y W=>ih k om x y W;rw[hM];generalize bn:1048576*4^k=M at *;generalize L*I=N at *;have e1:((k+1:Nat):Int)-1=k:=om;repeat refine dm ?_
     refine k0 ?_;repeat refine dm ?_
     refine pF (C:=λwq=>Gr ae wq) [0,1,2,3,4,5,6,7,8,9,10,11] [] (by kernel_rfl) (by kernel_rfl) (Gr.drew _) ?_;simp only[iS,dK,dR];iterate 3 refine eO (cH rfl) ?_
     first|refine iN rfl ?_|(refine fO rfl ?_;refine eO (du YQ rfl cR rfl rfl) ?_)
     first|refine iN rfl ?_|(refine fO rfl ?_;refine fo (λwq D=>cV cw rfl rfl ((S.gr D).blk (i:=0) rfl) rfl) ?_)
     first|refine iN rfl ?_|(refine fO rfl ?_;refine eO (cH rfl) ?_)
     first|refine iN rfl ?_|(refine fO rfl ?_;refine eO (cH rfl) ?_)
     first|refine iN rfl ?_|(refine fO rfl ?_;refine eO (du jO rfl cR rfl rfl) ?_)
     first|refine iN rfl ?_|(refine fO rfl ?_;refine fo (λwq D=>cV cw rfl rfl (J.gr (S.gr D).out) rfl) ?_)
     first|refine iN rfl ?_|(refine fO rfl ?_;(first|refine eO (ff (b:=true) rfl (cF om)) ?_|refine eO (ff (b:=false) rfl (cC om)) ?_|refine eO (cH rfl) ?_))
     iterate 2 refine eO (cH rfl) ?_
     refine vZ ?_;intro aC an;have S:=S.gr an;refine yA ?_;refine pF (C:=λwq=>Gr aC wq) [0,1,2,3,4,5,6,7] [] (by kernel_rfl) (by kernel_rfl) (Gr.drew _) ?_;simp only[iS,dK,dR];refine eO (du YQ rfl cR rfl rfl) ?_;refine fo (λwq D=>cV cw rfl rfl ((S.gr D).blk (i:=0) rfl) rfl) ?_;iterate 2 refine eO (cH rfl) ?_
     refine eO (du jO rfl cR rfl rfl) ?_;refine fo (λwq D=>cV cw rfl rfl (J.gr (S.gr D).out) rfl) ?_;refine zE ?_;intro bf aY S;refine zH (C:=(λσ wq=>CN _ _ _ (λv h=>∃A c,v=.tuple #[.slice A N c,ii 0]/\h=.row 26 2 A N c (eT KL)) wq σ)) [10] [0,1,2,3,4,5,6,7,8,9,10,11,12,13,14,15] [] (S.gr (Gr.drew _)) ?_;refine zV (λτ wq D=>(J.gr (CN.st D).out)) ?_;refine zV (λτ wq D=>(J.gr (CN.st D).out)) ?_;refine zV (λτ wq D=>((CN.st D).blk (i:=3) rfl)) ?_;refine de rfl rfl (λwq D=>l4 rfl ((aK wq).mono (λv w2⟨A,c,hv,hR,hf,g⟩=>⟨_,⟨A,c,hv,rfl⟩,St.pushRow (CN.st D) hR hf g⟩))) ?_;rintro bb bi ⟨aH,⟨aa,ag,rfl,rfl⟩,_⟩;refine zY ?_;rintro bj ⟨aH,⟨aS,aX,aF,rfl⟩,S⟩;cases aF
     refine zg ?_;have S:=S.only (i:=0) rfl
     refine dl (λm e w=>∃i n:Nat,i+m=N/\n<=i*M/\SL e [(0,pt xb),(1,ii (k+1:Nat)),(13,ii n),(87,.slice aa N ag),(88,ii N),(89,ii i)]/\St No _ w [.row 26 2 aa N ag (eT KL)]) N
      ⟨0,0,om,ib _,sl,S⟩ ?_
     clear S;rintro m e w ⟨i,n,hi,aM,aN,S⟩;rw[aN.fold];by_cases ar:i<N
     ·have ba:dO aa:=(S.row (i:=0) rfl).someA om;have h4:=cI M (show i<=4 by omega);have h5:(i+1)*M=i*M+M:=cX i M;have hl:=aL i ar;refine zg ?_;refine ZU (S.rd (i:=0) rfl) hl ?_;refine zN ?_;intro aT bg aZ S;refine zS ?_;intro aD S;rw[e1];refine dH (fx q9 rfl (ya _) rfl (S.blk (i:=0) rfl) rfl rfl) ?_;refine eY rfl (ap _ _ aD (aq i ar) (hP.gr S.out) (aG.gr S.out)) ?_;rintro _ bh ⟨c9,rfl,bp,g9⟩;have S:=S.gr g9;refine zg ?_;exact⟨m-1,om,i+1,n+c9,om,om,sl,S.drop 1⟩
     ·obtain rfl:i=N:=om;have h4:=cI M hb;refine zX ?_;exact⟨n,rfl,dE aM h4,S.out⟩
theorem nP{x0 y0 x1 y1:Int}(h:dF x0 y0 x1 y1 gw gh=0):∃r:Rc,r.ok gw gh/\x0=r.x0/\y0=r.y0/\x1=r.x1/\y1=r.y1:=by
 unfold dF at h;split at h
 ·cases h
 ·split at h
  ·cases h
  ·split at h
   ·cases h
   ·rename_i h1 h2 v;simp only[ky,hZ,not_or,Bool.not_eq_false]at h2;unfold fL at h2;simp only[cM,cT]at h2;refine⟨⟨x0.toNat,y0.toNat,x1.toNat,y1.toNat⟩,?_,?_⟩
    ·unfold Rc.ok;dsimp only;omega
    ·dsimp only;omega
theorem Xp(x0 y0 x1 y1 z:Int)(hw:1<=gw/\gw<=1024)(U:1<=gh/\gh<=1024)(O:iM W yb gw gh V) :
  Fn prog 103 [pt yb,.agg #[ii x0,ii y0,ii x1,ii y1],ii z] W (λv w'=>∃xb,v=.tuple #[pt xb,ii (dF x0 y0 x1 y1 gw gh)] /\
   St No W w' [.blk xb 303 [pt yb,ii gw,ii gh,ii x0,ii y0,ii x1,ii y1,ii z]]):=by
 have S:=St.start W;refine zI func103 ?_;refine zN ?_;intro D aa I S;refine zN ?_;intro y ab J S;refine zC (tJ hw U (O.gr S.out)) ?_;refine zS ?_;intro ac S;refine zD [0,1,2,3,4,5,6,7,8,9,10,11,12] [] ?_;refine nA rfl (λwq Z=>(jW _ _ _ _ _ _ om om wq).mono (λ_ _⟨hv,hg⟩=>⟨hv,Z.trans hg⟩)) ?_;refine zE ?_;intro ad L S;exact nd rfl rfl ⟨y,rfl,S.sub (.cons_cons _ (.cons _ .slnil))⟩
theorem Im(x0 y0 x1 y1 z:Int)(L:1<=gw/\gw<=1024)(J:1<=gh/\gh<=1024)(D:iM W yb gw gh V) :
  Fn prog 51 [pt yb,.agg #[ii x0,ii y0,ii x1,ii y1],ii z] W (λv w'=>∃c:Nat,v=.tuple #[ii c,ii (dF x0 y0 x1 y1 gw gh)]/\c<=1099511627776/\Gr W w'):=by
 have y:=λw=>Xp (W:=w) (V:=V) (yb:=yb) x0 y0 x1 y1 z L J;have hl:=lI L.2 J.2;have e1:(fW gw gh:Int)-1=((fW gw gh-1:Nat):Int):=om;by_cases I:dF x0 y0 x1 y1 gw gh=0
 ·rw[I]at y ⊢;obtain⟨r,hr,rfl,rfl,rfl,rfl⟩:=nP I;have hc:=λw xb(D:iM w yb gw gh V)hX=>Rv (xb:=xb) (z:=z) L J hr (fW gw gh-1) 0 0 w (Am L J) D hX;have ae:=fP (n:=4) om (show fW gw gh-1<=10 by omega);have S:=St.start W;refine zI func51 ?_;refine zN ?_;intro U ab Z S;refine zK (y _ (D.gr S.out)) ?_;rintro _ ac ⟨xb,rfl,O⟩;have S:=S.app O;refine zC (zA (D.gr S.out)) ?_;intro ag ad S;refine zg ?_;rw[e1];refine zK (hc _ xb (D.gr S.out) (S.blk (i:=0) rfl)) ?_;rintro _ ah ⟨c9,rfl,aa,g9⟩;have S:=S.gr g9;refine zX ?_;exact⟨c9,rfl,dE aa om,S.out⟩
 ·generalize dF x0 y0 x1 y1 gw gh=e at *;have S:=St.start W;refine zI func51 ?_;refine zN ?_;intro U ab Z S;refine zK (y _ (D.gr S.out)) ?_;rintro _ ac ⟨xb,rfl,O⟩;have S:=S.app O;refine zX ?_;exact⟨0,rfl,ib _,S.out⟩
theorem Lo(lo hi:Int)(ac:-2147483648<=hi/\hi<=2147483648)(hw:1<=gw/\gw<=1024)(hh:1<=gh/\gh<=1024)(hr:r.ok gw gh)(Z:iM W yb gw gh V) :
  Fn prog 106 [pt yb,.agg r.cells.toArray,ii lo,ii hi] W (λv w'=>∃n:Int,v=.tuple #[ii n,ii 0]/\Gr W w'):=by
 have J:=λw z=>Im (W:=w) (V:=V) (yb:=yb) r.x0 r.y0 r.x1 r.y1 z hw hh;have aa:dF r.x0 r.y0 r.x1 r.y1 gw gh=0:=gW om om (by have:=hr.1;omega) (by have:=hr.2;omega);rw[aa]at J;unfold Rc.cells;have S:=St.start W;by_cases h1:lo>hi
 ·skip;refine zI func106 ?_;refine zN ?_;intro y O D S;refine zK (J _ lo (Z.gr S.out)) ?_;rintro _ U ⟨c9,rfl,L,I⟩;have S:=S.gr I;refine zX ?_;exact⟨_,rfl,S.out⟩
 ·by_cases h2:hi>=2147483647
  ·skip;refine zI func106 ?_;refine zN ?_;intro y O D S;refine zK (J _ lo (Z.gr S.out)) ?_;rintro _ U ⟨c9,rfl,L,I⟩;have S:=S.gr I;refine zX ?_;exact⟨_,rfl,S.out⟩
  ·skip;refine zI func106 ?_;refine zN ?_;intro y O D S;refine zK (J _ lo (Z.gr S.out)) ?_;rintro _ U ⟨c9,rfl,L,I⟩;have S:=S.gr I;refine zK (J _ (hi+1) (Z.gr S.out)) ?_;rintro _ ad ⟨c8,rfl,ab,g8⟩;have S:=S.gr g8;refine zX ?_;exact⟨_,rfl,S.out⟩
def PR(x0 y0 x1 y1:Int)(gw gh:Nat)(k:Int):Int:=if dF x0 y0 x1 y1 gw gh≠0 then dF x0 y0 x1 y1 gw gh else if k<0\/k>=(x1-x0+1)*(y1-y0+1)then 11 else 0
theorem Wo(x0 y0 x1 y1 k:Int)(hB:vB V)(hw:1<=gw/\gw<=1024)(hh:1<=gh/\gh<=1024)(hP:iM W yb gw gh V) :
  Fn prog 52 [pt yb,.agg #[ii x0,ii y0,ii x1,ii y1],ii k] W (λv w'=>∃n:Int,v=.tuple #[ii n,ii (PR x0 y0 x1 y1 gw gh k)]/\Gr W w'):=by
 unfold PR;by_cases J:dF x0 y0 x1 y1 gw gh=0
 ·rw[a8 (λh=>h J)];obtain⟨r,hr,rfl,rfl,rfl,rfl⟩:=nP J;clear J;have I:=λw=>DN (W:=w) (yb:=yb) hB hw hh hr;have ah:=λw lo hi h=>Lo (W:=w) (V:=V) (yb:=yb) lo hi h hw hh hr;obtain⟨cc,ai,ap,aq⟩:=Rc.area_le hr hw.2 hh.2;have ab:=λw=>qc r.x0 r.y0 r.x1 r.y1 (by obtain⟨⟨a1,a2⟩,a3,a4⟩:=hr;omega) w;rw[ai]at ab ⊢;have ae:∀x y,-2147483648<=V.getD (y*gw+x) 0/\V.getD (y*gw+x) 0<=2147483647:=λx y=>hB _;unfold Rc.cells at *;have S:=St.start W;by_cases h1:k<0\/k>=cc
  ·rw[a7 h1];by_cases h2:k<0
   ·skip;refine zI func52 ?_;refine yA ?_;intro _ _ S;refine zK (I _ (hP.gr S.out)) ?_;rintro _ ac ⟨z,rfl,hR,g9⟩;have S:=S.gr g9;refine zN ?_;intro D ad Z S;refine zS ?_;intro O S;exact nd rfl rfl ⟨0,rfl,S.out⟩
   ·have h3:k>=cc:=om;refine zI func52 ?_;refine yA ?_;intro _ _ S;refine zK (I _ (hP.gr S.out)) ?_;rintro _ ac ⟨z,rfl,hR,g9⟩;have S:=S.gr g9;refine zN ?_;intro D ad Z S;refine Z1 0 S ?_;intro O S;refine cq (cH rfl) ?_;first|refine eF ?_|(refine di ?_;show CW _ _ _ _ _ _)|refine di ?_
    repeat refine dm ?_
    refine k0 ?_;repeat refine dm ?_
    refine dz ?_;refine cq (cH rfl) ?_;refine cq (ff (b:=false) rfl (eo.2 om)) ?_;refine cq (cH rfl) ?_;first|refine eF ?_|(refine di ?_;show CW _ _ _ _ _ _)|refine di ?_
    repeat refine dm ?_
    refine eX rfl ?_;repeat refine dm ?_
    refine dz ?_;refine cq (cH rfl) ?_;first|refine cq (ff (b:=true) rfl (cF om)) ?_|refine cq (ff (b:=false) rfl (cC om)) ?_|refine cq (cH rfl) ?_
    refine cq (cH rfl) ?_;first|refine eD rfl ?_|(refine dr rfl ?_;refine cq (cH rfl) ?_)
    first|refine eD rfl ?_|(refine dr rfl ?_;refine dH (fx xa rfl (yr _) rfl (S.blk (i:=1) rfl) rfl rfl) ?_)
    refine dr rfl ?_;refine eY rfl (ab O) ?_;rintro _ al ⟨rfl,aa⟩;have S:=S.gr aa;refine zX ?_;exact⟨0,rfl,S.out⟩
  ·rw[a8 h1];refine zI func52 ?_;refine zN ?_;intro U ak ag S;refine zK (I _ (hP.gr S.out)) ?_;rintro _ ac ⟨z,rfl,hR,g9⟩;have S:=S.gr g9;refine zN ?_;intro D ad Z S;refine Z1 0 S ?_;intro O S;refine cq (cH rfl) ?_;first|refine eF ?_|(refine di ?_;show CW _ _ _ _ _ _)|refine di ?_
   repeat refine dm ?_
   refine k0 ?_;repeat refine dm ?_
   refine dz ?_;refine cq (cH rfl) ?_;refine cq (ff (b:=false) rfl (eo.2 om)) ?_;refine cq (cH rfl) ?_;first|refine eF ?_|(refine di ?_;show CW _ _ _ _ _ _)|refine di ?_
   repeat refine dm ?_
   refine eX rfl ?_;repeat refine dm ?_
   refine dz ?_;refine cq (cH rfl) ?_;first|refine cq (ff (b:=true) rfl (cF om)) ?_|refine cq (ff (b:=false) rfl (cC om)) ?_|refine cq (cH rfl) ?_
   refine cq (cH rfl) ?_;first|refine eD rfl ?_|(refine dr rfl ?_;refine cq (cH rfl) ?_)
   first|refine eD rfl ?_|(refine dr rfl ?_;refine dH (fx xa rfl (yr _) rfl (S.blk (i:=1) rfl) rfl rfl) ?_)
   refine dr rfl ?_;refine eY rfl (ab O) ?_;rintro _ al ⟨rfl,aa⟩;have S:=S.gr aa;refine zF [0,1,2,3,4,5] [] ?_;intro av ao S;obtain⟨h9,⟨u1,u2,_,e1⟩,⟨u3,u4,hu,e2⟩⟩:=hR;have ar:z.lo<=z.hi:=e2▸(h9 u3 u4 hu).1;have b1:=e1▸ae u1 u2;have b2:=e2▸ae u3 u4
   refine dl (λm e w=>∃lo hi:Int,(-2147483648<=lo/\lo<=hi/\hi<=2147483647)/\(hi-lo).toNat<=m/\SL e [(0,pt yb),(2,ii k),(4,pt U),(8,pt D),(10,ii lo),(11,ii hi)] /\
    St No W w [.blk D 153 [ii z.lo,ii z.hi],.blk U 24 [ii r.x0,ii r.y0,ii r.x1,ii r.y1]]) (z.hi-z.lo).toNat
    ⟨z.lo,z.hi,om,cN _,sl,S⟩ ?_
   clear S;rintro m e w ⟨lo,hi,hb,hm,aj,S⟩;rw[aj.fold];by_cases he:lo=hi
   ·skip;refine zX ?_;exact⟨lo,rfl,S.out⟩
   ·have am:lo<=lo+(hi-lo)/2/\lo+(hi-lo)/2<hi:=om;refine zg ?_;generalize au:lo+(hi-lo)/2=L at *;refine zK (ah w z.lo L om (hP.gr S.out)) ?_;rintro _ aw ⟨n9,rfl,g9⟩;have S:=S.gr g9;refine zB ?_ ?_
    ·intro hc;refine zg ?_;exact⟨(L-lo).toNat,om,lo,L,om,cN _,sl,S⟩
    ·intro hc;refine zg ?_;exact⟨(hi-(L+1)).toNat,om,L+1,hi,om,cN _,sl,S⟩
 ·rw[a7 J];have I:=λw=>An (W:=w) (V:=V) (yb:=yb) x0 y0 x1 y1 hw hh J;generalize dF x0 y0 x1 y1 gw gh=e at *;have S:=St.start W;refine zI func52 ?_;refine zN ?_;intro U ak ag S;refine zC (I _ (hP.gr S.out)) ?_;intro ac an S;refine zN ?_;intro D ad Z S;refine zS ?_;intro O S;exact nd rfl rfl ⟨0,rfl,S.out⟩
end
section
variable{cap:Nat}{c:Nat->Int}{V:List Int}
theorem yB(x0 y0 x1 y1:Int)(L:dF x0 y0 x1 y1 gw gh≠0)(v:eJ W p gw gh c A cap bs Rs) :
  Fn prog 44 [pt p,.agg #[ii x0,ii y0,ii x1,ii y1]] W (dp (.tuple #[.slice none 0 0,ii (dF x0 y0 x1 y1 gw gh)]) W):=by
 have O:=v.sw;have J:=v.sh;have y:=λw(g:Gr W w)=>xJ p gw gh x0 y0 x1 y1 O.2 J.2 _ w (v.top.gr g);generalize dF x0 y0 x1 y1 gw gh=e at *;have S:=St.start W;refine zI func44 ?_;refine zN ?_;intro z U D S;refine zC (y _ S.out) ?_;intro V I S;exact zZ
def sX(n:Nat)(V:List Int):Int:=if V.length≠n then 6 else if V.any (λv=>!iL v)then 7 else 0
theorem NY(cp:Nat)(hx:x0<=x1/\x1<gw)(hy:y0<=y1/\y1<gh)(ae:V.length<=9223372036854775807)(ac:sX ((y1+1-y0)*(x1+1-x0)) V≠0)(hG:eJ W p gw gh c A cap bs Rs)(hB:Rd W B (cY V)) :
  Fn prog 139 [pt p,.agg #[ii x0,ii y0,ii x1,ii y1],.slice B V.length cp] W (dp (ii (sX ((y1+1-y0)*(x1+1-x0)) V)) W):=by
 have hw:=hG.sw;have hh:=hG.sh;have aj:(y1+1-y0)*(x1+1-x0)<=1024*1024:=cE om om
 have ab:((x1:Int)-x0+1)*((y1:Int)-y0+1)=(((y1+1-y0)*(x1+1-x0):Nat):Int):=by
  rw[(om:(x1:Int)-x0+1=((x1+1-x0:Nat):Int)),(om:(y1:Int)-y0+1=((y1+1-y0:Nat):Int)),iW];push_cast;rfl
 have aa:=λw(g:Gr W w)=>iz x0 y0 x1 y1 hx hy (hG.gr g);unfold sX at *;generalize hN:(y1+1-y0)*(x1+1-x0)=N at *;by_cases h1:V.length=N
 ·rw[a8 om]at ac ⊢;by_cases h2:V.any (λv=>!iL v)=true
  ·rw[a7 h2];have S:=St.start W;refine zI func139 ?_;refine zN ?_;intro U ag ad S;refine zK (aa _ S.out) ?_;rintro _ L ⟨O,Z,rfl,y,D,I⟩;have S:=S.pushRow y D I;(iterate 6 refine z ?_);refine zf ?_;iterate 3 refine z ?_
   refine eY rfl (qc _ _ _ _ om L) ?_;rintro _ ah ⟨rfl,J⟩;have S:=S.gr J;rw[ab];refine zC (rf B V.length cp _ [] V rfl ae (λv=>!iL v) _ (hB.gr S.out) (λx hx w' g=>Dn x w')) ?_;intro ak ai S;rw[h2];exact zZ
  ·exact absurd (a8 h2) ac
 ·rw[a7 h1];have S:=St.start W;refine zI func139 ?_;refine zN ?_;intro U ag ad S;refine zK (aa _ S.out) ?_;rintro _ L ⟨O,Z,rfl,y,D,I⟩;have S:=S.pushRow y D I;(iterate 6 refine z ?_);refine zf ?_;iterate 3 refine z ?_
  refine eY rfl (qc _ _ _ _ om L) ?_;rintro _ ah ⟨rfl,J⟩;have S:=S.gr J;rw[ab];exact zZ
theorem Rw(U:Nat)(hx:x0<=x1/\x1<gw)(hy:y0<=y1/\y1<gh)(D:V.length<=9223372036854775807)(L:sX ((y1+1-y0)*(x1+1-x0)) V≠0)(hG:eJ W p gw gh c A cap bs Rs)(z:Rd W B (cY V)) :
  Fn prog 387 [pt p,.agg #[ii x0,ii y0,ii x1,ii y1],.slice B V.length U] W
   (dp (.tuple #[tD,ii (sX ((y1+1-y0)*(x1+1-x0)) V)]) W):=by
 have I:=λw(g:Gr W w)=>FX (hG.gr g);have O:=λw q A2 cap2 bs2 Rs2(v:eJ w q gw gh c A2 cap2 bs2 Rs2)(z:Rd w B (cY V))=>NY U hx hy D L v z;generalize sX ((y1+1-y0)*(x1+1-x0)) V=e at *;unfold tD;have S:=St.start W;refine zI func387 ?_;refine zN ?_;intro aa ad ab S;refine zN ?_;intro Z ae ac S;refine zK (I _ S.out) ?_;rintro _ ag ⟨q,A2,cap2,bs2,Rs2,rfl,v,J,y⟩;have S:=S.pushGrid v J y;refine zC (O _ q A2 cap2 bs2 Rs2 (S.grid (i:=0) rfl) (z.gr S.out)) ?_;refine zS ?_;intro ah S;exact pG S ⟨rfl,S.out⟩
end
def wv(xs:List (Int×Int))(i:Nat)(b:Int×Int):Bool :=
 decide (-2147483648<=b.1/\b.1<=2147483647)&&(qk b.2&&(!(match i with|0=>false|j+1=>(match xs[j]? with|some a=>decide (b.1<=a.1)|none=>false))&&!((xs.take i).any λa=>decide (a.2=b.2))))
def tO(xs:List (Int×Int)):Bool:=decide (1<=xs.length/\xs.length<=12)&&(List.range xs.length).all λi=>match xs[i]? with|some b=>wv xs i b|none=>true
theorem Uy{xs:List (Int×Int)}{b:Int×Int}(v:xs[i]?=some b)(h:wv xs i b=false):tO xs=false:=by
 unfold tO;rw[il];right;rw[List.all_eq_false];refine⟨i,dJ.2 (dq.1 v).1,?_⟩;rw[v];simp[h]
theorem RT{xs:List (Int×Int)}(h1:¬xs.length<1)(h2:¬12<xs.length)(y:∀i b,i<xs.length->xs[i]?=some b->wv xs i b=true):tO xs=true:=by
 unfold tO;rw[cM,dh];refine⟨cF om,λi hi=>?_⟩;have v:=dJ.1 hi;rw[ct v];exact y i _ v (ct v)
theorem CO:∀(xs:List (Int×Int))(k:Nat),kI (xs.take k)=(kI xs).take (k*2)
 |[],k=>by simp[kI]
 |x::r,0=>by simp[kI]
 |x::r,k+1=>by
  have h:=CO r k
  rw[po,cX];show _::_::kI (r.take k)=_::_::(kI r).take (k*2);rw[h]
theorem Rd.takeB{xs:List (Int×Int)}(h:Rd w A (kI xs))(k:Nat):Rd w A (kI (xs.take k)):=by
 rw[CO];rcases h with h|⟨b,o,z,D,I⟩
 ·rw[h];exact .inl (List.take_nil)
 ·refine .inr ⟨b,o,z,D,λj v y=>I j v ?_⟩;rw[fJ]at y;split at y
  ·exact y
  ·cases y
theorem GA{xs:List (Int×Int)}{x:Int×Int}(h:xs[k]?=some x):((kI xs).drop (k*2)).take 2=[ii x.1,.int .i32 x.2]:=lG (f:=λb:Int×Int=>[ii b.1,.int .i32 b.2]) (λ_=>rfl) h
theorem LH{xs:List (Int×Int)}{x:Int×Int}(h:xs[k]?=some x):(kI xs)[k*2+0]?=some (ii x.1):=qe (f:=λb:Int×Int=>[ii b.1,.int .i32 b.2]) (m:=2) (λ_=>rfl) h (by decide)
section
variable{xs:List (Int × Int)}
theorem DR(hn:n=xs.length)(ba:n<=c)(aZ:n<=9223372036854775807)(I:Rd W A (kI xs)):Fn prog 147 [.slice A n c] W (dp (.bool (tO xs)) W):=by
 subst hn;have S:=St.start W;rcases cr (xs.length<1)with h0|h0
 ·have hl:tO xs=false:=by unfold tO;rw[cC om];rfl
  rw[hl];refine zI func147 ?_;exact zZ
 rcases cr (12<xs.length)with ag|ag
 ·have hl:tO xs=false:=by unfold tO;rw[cC om];rfl
  rw[hl];refine zI func147 ?_;exact zZ
 have aA:dO A:=I.someA (by rw[Ar];omega);refine zI func147 ?_;refine zg ?_
 refine dl (λm e w=>∃k:Nat,k+m=xs.length/\SL e [(0,.slice A xs.length c),(14,.slice A xs.length c),(15,ii xs.length),(16,ii k)]/\(∀i b,i<k->xs[i]?=some b->wv xs i b=true)/\St No W w []) xs.length
  ⟨0,om,sl,λi b hi=>by omega,S⟩ ?_
 clear S;rintro m e w ⟨k,aY,aj,hI,S⟩;rw[aj.fold];rcases cr (k<xs.length)with hk|hk
 ·obtain⟨⟨f,s⟩,U⟩:∃x,xs[k]?=some x:=⟨xs[k],ct hk⟩;have ak:=GA U;have D:((kI xs).drop ((k:Int).toNat * 2)).take 2=[ii f,.int .i32 s]:=by rw[b7];exact ak
  have O:=λh=>Uy U (by unfold wv;exact h);rcases cr (f < -2147483648)with h1|h1
  ·rw[O (by rw[cC om];rfl)];refine zg ?_;refine ZU (I.gr S.out) D ?_;refine zN ?_;intro v bb aV S;refine zS ?_;intro bc S;refine cq (jb (n:=(k:Int)) fZ Zj rfl rfl om om) ?_;rw[b7];exact zZ
  ·rcases cr (2147483647<f)with h2|h2
   ·rw[O (by rw[cC om];rfl)];refine zg ?_;refine ZU (I.gr S.out) D ?_;refine zN ?_;intro v be aW S;refine zS ?_;intro bf S;refine cq (jb (n:=(k:Int)) fZ Zj rfl rfl om om) ?_;rw[b7];exact zZ
   ·have L:decide (-2147483648<=f/\f<=2147483647)=true:=cF om;rcases qn (qk s)with J|J
    ·rcases k with _|j
     ·skip;refine zg ?_;refine ZU (I.gr S.out) D ?_;refine zN ?_;intro v bg aX S;refine zS ?_;intro bh S;refine cq (jb (n:=((0:Nat):Int)) fZ Zj rfl rfl om om) ?_;rw[b7];(iterate 3 refine z ?_);refine zf ?_;(iterate 3 refine z ?_);refine zf ?_;refine z ?_;refine z ?_;refine dr rfl ?_;refine cq (du Zd rfl je rfl rfl) ?_;refine dr rfl ?_;refine z ?_;refine dr rfl ?_;refine eY rfl (Aq s) ?_;rintro _ aB ⟨rfl,aa⟩;have S:=S.gr aa;refine dr rfl ?_;refine zg ?_;rw[J];refine zF [0,1,2,3,4,5,6,7,8,9,10,11,12,13] [] ?_;intro aC al S;refine zC (vT (xs:=[]) A 0 c (231) [pt v] rfl om (λx:Int×Int=>decide (x.2=s)) _ (.inl rfl) (λx U=>by cases U)) ?_;intro aD am S;refine zg ?_
      exact⟨m-1,om,1,om,sl,λi y hi Z=>by
       obtain rfl:i=0:=om;rw[U]at Z;cases Z
       unfold wv;rw[L,J];rfl,S.drop 1⟩
     ·obtain⟨⟨pf,ps⟩,hp⟩:∃y,xs[j]?=some y:=⟨xs[j],ct om⟩;have ai:=LH hp;have e1:((j+1:Nat):Int)-1=(j:Nat):=om;have V:(kI xs)[(j:Int).toNat * 2+0]?=some (ii pf):=by rw[b7];exact ai
      rcases cr (f<=pf)with h4|h4
      ·rw[O (by rw[L,J];dsimp only;rw[hp];simp[h4])];refine zg ?_;refine ZU (I.gr S.out) D ?_;refine zN ?_;intro v aE an S;refine zS ?_;intro aF S;refine cq (jb (n:=((j+1:Nat):Int)) fZ Zj rfl rfl om om) ?_;rw[b7];(iterate 3 refine z ?_);refine zf ?_;(iterate 3 refine z ?_);refine zf ?_;refine z ?_;refine z ?_;refine dr rfl ?_;refine cq (du Zd rfl je rfl rfl) ?_;refine dr rfl ?_;refine z ?_;refine dr rfl ?_;refine eY rfl (Aq s) ?_;rintro _ aG ⟨rfl,ab⟩;have S:=S.gr ab;refine dr rfl ?_;refine zg ?_;rw[J];refine zD [0,1,2,3,4,5,6,7,8,9,10,11,12,13] [] ?_;rw[e1];refine zQ ?_;try (refine fO rfl ?_;refine fo (λwq hq=>eI cw rfl rfl (I.gr (S.gr hq).out) V) ?_)
       refine zE ?_;intro aH ao S;exact ir rfl ⟨rfl,S.out⟩
      ·rcases qn ((xs.take (j+1)).any λa=>decide (a.2=s))with h5|h5
       ·rw[O (by rw[L,J,h5];dsimp only;rw[hp];simp)];refine zg ?_;refine ZU (I.gr S.out) D ?_;refine zN ?_;intro v aI ap S;refine zS ?_;intro aJ S;refine cq (jb (n:=((j+1:Nat):Int)) fZ Zj rfl rfl om om) ?_;rw[b7];(iterate 3 refine z ?_);refine zf ?_;(iterate 3 refine z ?_);refine zf ?_;refine z ?_;refine z ?_;refine dr rfl ?_;refine cq (du Zd rfl je rfl rfl) ?_;refine dr rfl ?_;refine z ?_;refine dr rfl ?_;refine eY rfl (Aq s) ?_;rintro _ aK ⟨rfl,ac⟩;have S:=S.gr ac;refine dr rfl ?_;refine zg ?_;rw[J];refine zD [0,1,2,3,4,5,6,7,8,9,10,11,12,13] [] ?_;rw[e1];refine zQ ?_;try (refine fO rfl ?_;refine fo (λwq hq=>eI cw rfl rfl (I.gr (S.gr hq).out) V) ?_)
        refine zE ?_;intro aL aq S;refine zC (vT (xs:=xs.take (j+1)) A (j+1) c (231) [pt v] (by rw[d7];omega) om (λx:Int×Int=>decide (x.2=s)) _ ((I.takeB (j+1)).gr S.out) (λx U w' g=>Gz x.1 x.2 f s ((S.blk (i:=0) rfl).gr g))) ?_;intro aM ar S;rw[h5];exact zZ
       ·have ah:wv xs (j+1) (f,s)=true:=by unfold wv;rw[L,J,h5];dsimp only;rw[hp];simp[h4]
        refine zg ?_;refine ZU (I.gr S.out) D ?_;refine zN ?_;intro v aN au S;refine zS ?_;intro aO S;refine cq (jb (n:=((j+1:Nat):Int)) fZ Zj rfl rfl om om) ?_;rw[b7];(iterate 3 refine z ?_);refine zf ?_;(iterate 3 refine z ?_);refine zf ?_;refine z ?_;refine z ?_;refine dr rfl ?_;refine cq (du Zd rfl je rfl rfl) ?_;refine dr rfl ?_;refine z ?_;refine dr rfl ?_;refine eY rfl (Aq s) ?_;rintro _ aP ⟨rfl,ad⟩;have S:=S.gr ad;refine dr rfl ?_;refine zg ?_;rw[J];refine zD [0,1,2,3,4,5,6,7,8,9,10,11,12,13] [] ?_;rw[e1];refine zQ ?_;try (refine fO rfl ?_;refine fo (λwq hq=>eI cw rfl rfl (I.gr (S.gr hq).out) V) ?_)
        refine zE ?_;intro aQ av S;refine zC (vT (xs:=xs.take (j+1)) A (j+1) c (231) [pt v] (by rw[d7];omega) om (λx:Int×Int=>decide (x.2=s)) _ ((I.takeB (j+1)).gr S.out) (λx U w' g=>Gz x.1 x.2 f s ((S.blk (i:=0) rfl).gr g))) ?_;intro aR aw S;rw[h5];refine zg ?_
        exact⟨m-1,om,j+1+1,om,sl,λi y hi Z=>by
         rcases cr (i=j+1)with e|e
         ·subst e;rw[U]at Z;cases Z
          exact ah
         ·exact hI i y om Z,S.drop 1⟩
    ·rw[O (by rw[L,J];rfl)];refine zg ?_;refine ZU (I.gr S.out) D ?_;refine zN ?_;intro v aS az S;refine zS ?_;intro aT S;refine cq (jb (n:=(k:Int)) fZ Zj rfl rfl om om) ?_;rw[b7];(iterate 3 refine z ?_);refine zf ?_;(iterate 3 refine z ?_);refine zf ?_;refine z ?_;refine z ?_;refine dr rfl ?_;refine cq (du Zd rfl je rfl rfl) ?_;refine dr rfl ?_;refine z ?_;refine dr rfl ?_;refine eY rfl (Aq s) ?_;rintro _ aU ⟨rfl,ae⟩;have S:=S.gr ae;refine dr rfl ?_;refine zg ?_;rw[J];exact zZ
 ·obtain rfl:k=xs.length:=om;rw[RT h0 ag hI];exact zZ
def GB(xs:List (Int×Int))(v:Int):Int:=xs.foldl (λa b=>if b.1<=v then b.2 else a) (xs.headD (0,0)).2
theorem Xt(v:Int)(hn:n=xs.length)(ab:n<=c)(aa:n<=9223372036854775807)(D:Rd W A (kI xs))(O:tO xs=true):Fn prog 148 [.slice A n c,ii v] W (dp (.tuple #[.int .i32 (GB xs v),ii 0]) W):=by
 have h0:1<=xs.length:=by
  unfold tO at O;simp only[cM,cT]at O;exact O.1.1
 have I:=λw=>DR (W:=w) (A:=A) hn ab aa;rw[O]at I;subst hn;have ad:dO A:=D.someA (by rw[Ar];omega);obtain⟨⟨f0,s0⟩,z⟩:∃x,xs[0]?=some x:=⟨xs[0],ct h0⟩
 have V:(xs.headD (0,0)).2=s0:=by
  cases xs with
  |nil=>cases z
  |cons x r=>injection z with h;rw[h];rfl
 have Z:(kI xs)[0*2+1]?=some (.int .i32 s0):=qe (f:=λb:Int×Int=>[ii b.1,.int .i32 b.2]) (m:=2) (λ_=>rfl) z (by decide);have S:=St.start W;refine zI func148 ?_;refine zC (I W (D.gr S.out)) ?_;intro ak ag S;refine zT (D.gr S.out) Z ?_;refine zg ?_
 refine dl (λm e w=>∃k:Nat,k+m=xs.length/\SL e [(1,ii v),(6,.int .i32 ((xs.take k).foldl (λa b=>if b.1<=v then b.2 else a) (xs.headD (0,0)).2)),(16,.slice A xs.length c),(17,ii xs.length),(18,ii k)]/\St No W w []) xs.length
  ⟨0,om,⟨rfl,ie V.symm,rfl,rfl,rfl,trivial⟩,S⟩ ?_
 clear S;rintro m e w ⟨k,aj,J,S⟩;rw[J.fold];rcases cr (k<xs.length)with hk|hk
 ·obtain⟨⟨f,s⟩,hx⟩:∃x,xs[k]?=some x:=⟨xs[k],ct hk⟩;have ac:=GA hx;have L:((kI xs).drop ((k:Int).toNat * 2)).take 2=[ii f,.int .i32 s]:=by rw[b7];exact ac
  have y:(xs.take (k+1)).foldl (λa b=>if b.1<=v then b.2 else a) (xs.headD (0,0)).2=if f<=v then s else(xs.take k).foldl (λa b=>if b.1<=v then b.2 else a) (xs.headD (0,0)).2:=by
   rw[kK,hx,Option.toList_some,nT];rfl
  generalize (xs.take k).foldl (λa b=>if b.1<=v then b.2 else a) (xs.headD (0,0)).2=ae at *;rcases cr (f<=v)with h1|h1
  ·rw[a7 h1]at y;refine zg ?_;refine ZU (D.gr S.out) L ?_;refine zN ?_;intro U al ah S;refine zS ?_;intro am S;exact⟨m-1,om,k+1,om,⟨rfl,ie y.symm,rfl,rfl,ie om,trivial⟩,S.drop 1⟩
  ·rw[a8 h1]at y;refine zg ?_;refine ZU (D.gr S.out) L ?_;refine zN ?_;intro U an ai S;refine zS ?_;intro ao S;exact⟨m-1,om,k+1,om,⟨rfl,ie y.symm,rfl,rfl,ie om,trivial⟩,S.drop 1⟩
 ·obtain rfl:k=xs.length:=om;rw[i6]at J ⊢;exact zZ
end
def lJ(r:Int):List Int:=if r<128 then [r]else if r<2048 then [192+r/64,128+r%64]else [224+r/4096,128+r/64%64,128+r%64]
def DS(l:List Int):List UInt8:=l.map λn=>n.toNat.toUInt8
def Io(l:List Int):ByteArray:=⟨(DS l).toArray⟩
def Uz(l:List Int):Prop:=∀n∈l,0<=n/\n<256
theorem N3{n:Int}(h:0<=n/\n<256):((n.toNat.toUInt8).toNat:Int)=n:=by
 have h1:n.toNat<256:=om;rw[show n.toNat.toUInt8.toNat=n.toNat%256 from rfl,dT h1];omega
theorem UA{r:Int}(h:qk r=true):Uz (lJ r):=by
 have h2:33<=r/\r<=65532:=by
  unfold qk at h;simp only[cM,cT]at h;omega
 unfold lJ;intro n v;split at v
 ·simp only[dM]at v;omega
 ·split at v<;>simp only[dy,gM,lr]at v<;>omega
theorem RU(r:Int):lJ r≠[]:=by
 unfold lJ;split
 ·simp
 ·split<;>simp
theorem BO(r:Int):1<=(lJ r).length/\(lJ r).length<=3:=by
 unfold lJ;split
 ·simp
 ·split<;>simp
theorem Xu:∀x:Fin 32,bits .or .u8 192 (x.val:Nat)=192+(x.val:Nat):=by decide
theorem Xv:∀x:Fin 16,bits .or .u8 224 (x.val:Nat)=224+(x.val:Nat):=by decide
theorem Xw:∀x:Fin 64,bits .or .u8 128 (x.val:Nat)=128+(x.val:Nat):=by decide
theorem Xx:∀x:Fin 256,bits .and .u8 (x.val:Nat) 63=((x.val%64:Nat):Int):=by decide+kernel
theorem Wx{x:Int}(h:0<=x/\x<32):bits .or .u8 192 x=192+x:=by
 obtain⟨n,rfl⟩:=cJ h.1;exact Xu ⟨n,om⟩
theorem PX{x:Int}(h:0<=x/\x<16):bits .or .u8 224 x=224+x:=by
 obtain⟨n,rfl⟩:=cJ h.1;exact Xv ⟨n,om⟩
theorem CP{x:Int}(h:0<=x/\x<64):bits .or .u8 128 x=128+x:=by
 obtain⟨n,rfl⟩:=cJ h.1;exact Xw ⟨n,om⟩
theorem CQ{x:Int}(h:0<=x/\x<256):bits .and .u8 x 63=x%64:=by
 obtain⟨n,rfl⟩:=cJ h.1;exact(Xx ⟨n,om⟩).trans (by push_cast;rfl)
section
variable{rest:List Oper}{ps:String}{L:List HA}
theorem Wy{o:Nat}(y:ev e x=.slice (some ⟨b,o,none⟩) n c)(v:c≠0):iE P e ⟨d,.call ⟨.builtin .unsafeSliceData,#[x],#[t]⟩,ty,ps,af,none⟩ (.pointer (some ⟨b,o,none⟩)):=by
 intro w;have h:=Lib.run_unsafeSliceData_row (P:=P) (w:=w) #[t] ty ⟨b,o,none⟩ n c v;simp[gd,execOp,y,resolve,invoke,builtin,h]
theorem St.gone(S:St F W w L)(z:h.own g)(y:St F W w (h::L))(k:Fr (λb=>b=g) w w'):St F W w' L :=
 (y.set (i:=0) (h':=.row 0 1 none 0 0 []) rfl rfl k (λb v=>.inl (v▸z)) (gH.nil _ _ _) (λb v=>by cases v)).drop 1
theorem Wz{p n:Operand}{pt Z:Nat}{l:List Int}(S:St F W w (.row el 1 A l.length c (f9 l)::L))(hu:P.underlying pt=some (.pointer el))(hc:P.cellsOf el=1)(hp:ev e p=.pointer A)(D:ev e n=ii l.length)(h0:l≠[])(hb:Uz l)(hm:l.length<=9223372036854775807)(hr:∀w',St F W w' L->RW P ops Q rest (fI e d (.string (Io l))) w'):RW P ops Q (⟨d,.call ⟨.builtin .unsafeString,#[p,n],#[pt,Z]⟩,ty,ps,af,none⟩::rest) e w:=by
 rcases (S.row (i:=0) rfl).form with⟨_,I,_⟩|⟨g,cs,rfl,hB,aa,I,ht,_⟩
 ·exact absurd (gj I) h0
 ·rw[cG]at I ht;have z:(DS l).length=l.length:=eP ..;have V:w.shape? g=some (el,c):=by simp[World.shape?,show w.heap[g]?=_ from hB,I]
  have y:∀j x,(DS l)[j]?=some x->w.cell? ((⟨g,0,none⟩:Addr).add j)=some (.int .u8 x.toNat):=λj x O=>by
   unfold DS at O;rw[da]at O;obtain⟨n,D,rfl⟩:=fl.1 O;have U:j<l.length:=(dq.1 D).1
   have J:cs[j]?=some (.int .u8 n):=by
    have:(cs.take l.length)[j]?=some (.int .u8 n):=by rw[ht];unfold f9;rw[da,D];rfl
    rwa[fJ,a7 U]at this
   have h2:=N3 (hb n (dD D));rw[h2];rw[js];simp[World.cell?,show w.heap[g]?=_ from hB,J]
  have v:=Lib.run_unsafeString_row (P:=P) (w:=w) pt Z ty el hu hc g c V (DS l) (λh=>h0 (by simpa [DS]using h)) om om y;rw[z]at v
  have hw:(execOp (ev e) ⟨d,.call ⟨.builtin .unsafeString,#[p,n],#[pt,Z]⟩,ty,ps,af,none⟩).run P w=.ok (.value (.string (Io l))) (w.freeze ⟨g,0,none⟩ l.length):=by
   simp[execOp,resolve,invoke,builtin,hp,D,v,Io]
  refine wZ hw (hr _ ((S.drop 1).gone (g:=g) rfl S ?_));unfold World.freeze;split
  ·exact Fr.refl _ _
  ·exact⟨rfl,rfl,rfl,by simp,λk _ hk=>by
    simp only[sL];rw[a8 (λe=>hk e.symm)]⟩
end
section
variable{p:Option Addr}{l:List Int}{v:Value}
theorem JJ(L:p=none\/p=some ⟨b,0,none⟩)(S:St F W w (.blk b 265 [.pointer p,v]::tl)) :
  Fn prog (232) [pt b] w (λu w'=>u=.tuple #[]/\St F W w' (.blk b 265 [pt b,v]::tl)):=by
 have y:=S.blk (i:=0) rfl;have I:w.cell? ⟨b,0,none⟩=some (.pointer p):=by simp[World.cell?,show w.heap[b]?=_ from y]
 rcases L with rfl|rfl
 ·refine jM (by kernel_rfl) ((Any.Builder_copyCheck_fresh (ρ:=Pw) { Px with } Py.toX72 b w I (by simp[World.shape?,show w.heap[b]?=_ from y];rfl) (by simp[World.frozen?,show w.heap[b]?=_ from y])).mono λe w'⟨z,hw⟩=>⟨z,?_⟩);subst hw;refine S.set (i:=0) (F':=λg=>g=b) rfl rfl ⟨rfl,rfl,rfl,by simp[World.setCell],λk _ J=>Below.heap_setCell _ _ _ _ (λe=>J e)⟩ (λg D=>.inl D) ?_ (λg D=>.inl D);show(w.setCell _ _).heap[b]?=_;simp[World.setCell,sL,show w.heap[b]?=_ from y]
 ·exact jM (by kernel_rfl) ((Any.Builder_copyCheck_used (ρ:=Pw) { Px with } Py.toX72 b w I).mono λe w'⟨z,hw⟩=>⟨z,hw▸S⟩)
theorem AM(l m:List Int):f9 l++f9 m=f9 (l++m):=by unfold f9;rw[fq]
theorem xS{ps:String}{y:Operand}{k:IntKind}{b:Int}{B:Bool}(z:ev e x=.int k a)(D:ev e y=.int k b)(v:decide (a<=b)=B):iE P e ⟨d,.binOp .leq t x y t',ty,ps,af,none⟩ (.bool B):=by
 intro w;subst v;simp[gd,execOp,z,D,eqGuard,binOp,Op.intCmp]
theorem RX{r:Int}(hs:qk r=true)(h7:128<=r)(hl:l.length<=1099511627776)(S:St F W w (.row 5 1 A l.length c (f9 l)::tl)) :
  Fn prog 281 [.slice A l.length c,.int .i32 r] w (λv w'=>∃A' c',v=.slice A' (l++lJ r).length c'/\St F W w' (.row 5 1 A' (l++lJ r).length c' (f9 (l++lJ r))::tl)):=by
 have h2:33<=r/\r<=65532/\¬(55296<=r/\r<=57343):=by
  unfold qk E8 at hs;simp only[cM,cT,hZ,d9]at hs;omega
 have e6:r/2^6=r/64:=rfl;have e12:r/2^12=r/4096:=rfl;rcases cr (r<2048)with h3|h3
 ·have hz:lJ r=[192+r/64,128+r%64]:=by unfold lJ;rw[a8 om,a7 h3]
  rw[hz];refine zI func281 ?_;refine zg ?_;refine Y9 (n:=r) (m:=r) rfl (by rw[j3]<;>omega) ?_;refine zg ?_;refine cq (xS (B:=true) rfl rfl (cF om)) ?_;refine zg ?_;refine cq (rT (k:=6) rfl rfl (by decide) om) ?_;rw[e6];refine Y9 (n:=r/64) (m:=r/64) rfl (by rw[gD]<;>omega) ?_;refine cq (gR (op:=.or) rfl rfl rfl) ?_;rw[Wx om];refine zg ?_;refine Y9 (n:=r) (m:=r%256) rfl (by rw[gD]<;>omega) ?_;refine cq (gR (op:=.and) rfl rfl rfl) ?_;rw[CQ om,(om:r%256%64=r%64)];refine cq (gR (op:=.or) rfl rfl rfl) ?_;rw[CP om];refine yb S ?_;intro A_q w2_ g2_ S sa_q;refine ZP 1 0 S ?_;intro A_p3 c_p3 w3_ S sa_p;refine zg ?_;have S:=S.sub (.cons _ (.cons_cons _ (cQ _)));rw[show [Value.int .u8 (192+r/64),.int .u8 (128+r%64)]=f9 [192+r/64,128+r%64]from rfl,AM]at S;exact ir rfl ⟨_,_,by rw[cP];rfl,by rw[cP];exact S⟩
 ·have hz:lJ r=[224+r/4096,128+r/64%64,128+r%64]:=by unfold lJ;rw[a8 om,a8 h3]
  rw[hz];rcases cr (r<55296)with h4|h4
  ·skip;refine zI func281 ?_;refine zg ?_;refine Y9 (n:=r) (m:=r) rfl (by rw[j3]<;>omega) ?_;refine zg ?_;refine cq (xS (B:=false) rfl rfl (cC om)) ?_;refine zg ?_;refine cq (uz (B:=true) rfl rfl (cF om)) ?_;refine zg ?_;refine cq (rT (k:=12) rfl rfl (by decide) om) ?_;rw[e12];refine Y9 (n:=r/4096) (m:=r/4096) rfl (by rw[gD]<;>omega) ?_;refine cq (gR (op:=.or) rfl rfl rfl) ?_;rw[PX om];refine zg ?_;refine cq (rT (k:=6) rfl rfl (by decide) om) ?_;rw[e6];refine Y9 (n:=r/64) (m:=r/64%256) rfl (by rw[gD]<;>omega) ?_;refine cq (gR (op:=.and) rfl rfl rfl) ?_;rw[CQ om,(om:r/64%256%64=r/64%64)];refine cq (gR (op:=.or) rfl rfl rfl) ?_;rw[CP om];refine zg ?_;refine Y9 (n:=r) (m:=r%256) rfl (by rw[gD]<;>omega) ?_;refine cq (gR (op:=.and) rfl rfl rfl) ?_;rw[CQ om,(om:r%256%64=r%64)];refine cq (gR (op:=.or) rfl rfl rfl) ?_;rw[CP om];refine yb S ?_;intro A_q w2_ g2_ S sa_q;refine ZP 1 0 S ?_;intro A_p3 c_p3 w3_ S sa_p;refine zg ?_;have S:=S.sub (.cons _ (.cons_cons _ (cQ _)));rw[show [Value.int .u8 (224+r/4096),.int .u8 (128+r/64%64),.int .u8 (128+r%64)]=f9 [224+r/4096,128+r/64%64,128+r%64]from rfl,AM]at S;exact ir rfl ⟨_,_,by rw[cP];rfl,by rw[cP];exact S⟩
  ·skip;refine zI func281 ?_;refine zg ?_;refine Y9 (n:=r) (m:=r) rfl (by rw[j3]<;>omega) ?_;refine zg ?_;refine cq (xS (B:=false) rfl rfl (cC om)) ?_;refine zg ?_;refine cq (uz (B:=false) rfl rfl (cC om)) ?_;refine zg ?_;refine cq (uz (B:=true) rfl rfl (cF om)) ?_;refine zg ?_;refine dr rfl ?_;refine cq (xS (B:=true) rfl rfl (cF om)) ?_;refine zg ?_;refine cq (rT (k:=12) rfl rfl (by decide) om) ?_;rw[e12];refine Y9 (n:=r/4096) (m:=r/4096) rfl (by rw[gD]<;>omega) ?_;refine cq (gR (op:=.or) rfl rfl rfl) ?_;rw[PX om];refine zg ?_;refine cq (rT (k:=6) rfl rfl (by decide) om) ?_;rw[e6];refine Y9 (n:=r/64) (m:=r/64%256) rfl (by rw[gD]<;>omega) ?_;refine cq (gR (op:=.and) rfl rfl rfl) ?_;rw[CQ om,(om:r/64%256%64=r/64%64)];refine cq (gR (op:=.or) rfl rfl rfl) ?_;rw[CP om];refine zg ?_;refine Y9 (n:=r) (m:=r%256) rfl (by rw[gD]<;>omega) ?_;refine cq (gR (op:=.and) rfl rfl rfl) ?_;rw[CQ om,(om:r%256%64=r%64)];refine cq (gR (op:=.or) rfl rfl rfl) ?_;rw[CP om];refine yb S ?_;intro A_q w2_ g2_ S sa_q;refine ZP 1 0 S ?_;intro A_p3 c_p3 w3_ S sa_p;refine zg ?_;have S:=S.sub (.cons _ (.cons_cons _ (cQ _)));rw[show [Value.int .u8 (224+r/4096),.int .u8 (128+r/64%64),.int .u8 (128+r%64)]=f9 [224+r/4096,128+r/64%64,128+r%64]from rfl,AM]at S;exact ir rfl ⟨_,_,by rw[cP];rfl,by rw[cP];exact S⟩
theorem UB{r:Int}(y:qk r=true)(Z:l.length<=1099511627776)(S:St F W w (.row 5 1 A l.length c (f9 l)::tl)) :
  Fn prog 233 [.slice A l.length c,.int .i32 r] w (λv w'=>∃z c',v=.slice z (l++lJ r).length c'/\St F W w' (.row 5 1 z (l++lJ r).length c' (f9 (l++lJ r))::tl)):=by
 have h2:33<=r/\r<=65532:=by
  unfold qk at y;simp only[cM,cT]at y;omega
 rcases cr (r<128)with J|J
 ·have hz:lJ r=[r]:=by unfold lJ;rw[a7 J]
  rw[hz];refine zI func233 ?_;refine zg ?_;refine Y9 (n:=r) (m:=r) rfl (by rw[j3]<;>omega) ?_;refine cq (xS (B:=true) rfl rfl (cF om)) ?_;refine zg ?_;refine Y9 (n:=r) (m:=r) rfl (by rw[gD]<;>omega) ?_;refine yb S ?_;intro U ab V S O;refine ZP 1 0 S ?_;intro D I ac S L;refine zg ?_;have S:=S.sub (.cons _ (.cons_cons _ (cQ _)));rw[show [Value.int .u8 r]=f9 [r]from rfl,AM]at S;exact ir rfl ⟨_,_,by rw[cP];rfl,by rw[cP];exact S⟩
 ·skip;refine zI func233 ?_;refine zg ?_;refine Y9 (n:=r) (m:=r) rfl (by rw[j3]<;>omega) ?_;refine cq (xS (B:=false) rfl rfl (cC om)) ?_;refine zK (RX y om Z S) ?_;rintro _ aa ⟨A2,c2,rfl,S⟩;refine zX ?_;exact⟨_,_,rfl,S⟩
theorem LI{r:Int}(J:qk r=true)(I:p=none\/p=some ⟨b,0,none⟩)(z:l.length<=1099511627776)(S:St F W w (.blk b 265 [.pointer p,.slice A l.length c]::.row 5 1 A l.length c (f9 l)::tl)) :
  Fn prog (149) [pt b,.int .i32 r] w (λv w'=>(∃n:Int,v=.tuple #[ii n,.nilIface])/\∃y c',St F W w' (.blk b 265 [pt b,.slice y (l++lJ r).length c']::.row 5 1 y (l++lJ r).length c' (f9 (l++lJ r))::tl)):=by
 have D:=BO r;refine zI func149 ?_;refine zK (JJ I S) ?_;rintro _ L ⟨rfl,S⟩;refine zK (UB J z (S.pick 2 [1,0] rfl rfl rfl)) ?_;rintro _ O ⟨A2,c2,rfl,S⟩;have S:=S.pick 2 [1,0] rfl rfl rfl;refine zS ?_;intro U S;refine cq (fh rfl (by rw[cP];omega)) ?_;refine zX ?_;exact⟨⟨_,rfl⟩,_,_,S⟩
theorem RY(S:St F W w (.blk b 265 [.pointer p,.slice A n c]::tl)) :
  Fn prog (151) [pt b] w (λv w'=>v=.tuple #[]/\St F W w' (.blk b 265 [.pointer none,.slice none 0 0]::tl)):=by
 refine zI func151 ?_;iterate 3 refine z ?_
 refine iy (i:=0) S rfl (sizeOf263 _) rfl rfl rfl rfl rfl rfl ?_;intro y S;iterate 3 refine z ?_
 refine iy (i:=0) S rfl (Zq _) rfl rfl rfl rfl rfl rfl ?_;intro D S;refine ze ?_;exact na ⟨rfl,S⟩
theorem N4(y:l≠[])(J:Uz l)(O:l.length<=1099511627776)(S:St F W w (.blk b 265 [.pointer p,.slice A l.length c]::.row 5 1 A l.length c (f9 l)::tl)) :
  Fn prog (150) [pt b] w (λv w'=>v=.string (Io l)/\St F W w' (.blk b 265 [.pointer p,.slice A l.length c]::tl)):=by
 obtain⟨g,D,z⟩:∃g,A=some ⟨g,0,none⟩/\c≠0:=by
  rcases (S.row (i:=1) rfl).form with⟨_,h,_⟩|⟨g,cs,h,_,U,_⟩
  ·exact absurd (gj h) y
  ·exact⟨g,h,λh=>y (gj om)⟩
 refine zI func150 ?_;refine zD [0,1,2,3,4,5,6,7,8,9] [10,11] ?_;rw[D];refine eO (Wy rfl z) ?_;rw[<-D];refine zE ?_;intro L I S;refine Wz (S.pick 2 [1,0] rfl rfl rfl) underlying366 (by kernel_rfl) rfl rfl y J om ?_;intro V S;refine zX ?_;exact⟨rfl,S⟩
end
def yC(xs:List (Int×Int))(vs:List Int):List Int:=vs.flatMap λv=>lJ (GB xs v)
def WA(xs:List (Int×Int))(V:List Int)(wd j:Nat):ByteArray:=Io (yC xs ((V.drop (j*wd)).take wd))
def yD(xs:List (Int×Int))(V:List Int)(wd n:Nat):List Value:=(List.range n).map λj=>.string (WA xs V wd j)
theorem JK{xs:List (Int×Int)}{V:List Int}{v:Nat}:yD xs V v n++[.string (WA xs V v n)]=yD xs V v (n+1):=by
 unfold yD;rw[eG,fq];rfl
theorem Ip{xs:List (Int×Int)}(h:tO xs=true)(v:Int):qk (GB xs v)=true:=by
 have y:∀b∈xs,qk b.2=true:=λb L=>by
  obtain⟨i,hi,rfl⟩:=gK.1 L;unfold tO at h;rw[cM,dh]at h;have:=h.2 i (dJ.2 hi);rw[ct hi]at this;unfold wv at this;simp only[cM]at this;exact this.2.1
 have J:1<=xs.length:=by
  unfold tO at h;simp only[cM,cT]at h;exact h.1.1
 have D:∀(l:List (Int×Int))(a:Int),(∀b∈l,qk b.2=true)->qk a=true->qk (l.foldl (λa b=>if b.1<=v then b.2 else a) a)=true:=by
  intro l;induction l with
  |nil=>intro a _ z;exact z
  |cons b r ih =>
   intro a I z;refine ih _ (λx O=>I x (cW _ O)) ?_;dsimp only;split
   ·exact I b (by simp)
   ·exact z
 refine D xs _ y ?_;cases xs with
 |nil=>simp at J
 |cons b r=>exact y b (by simp)
theorem LJ{xs:List (Int×Int)}{vs:List Int}{v:Int}:yC xs (vs++[v])=yC xs vs++lJ (GB xs v):=by unfold yC;simp
theorem UC{xs:List (Int×Int)}(h:tO xs=true)(vs:List Int):Uz (yC xs vs):=λn y=>by
 obtain⟨v,_,z⟩:=og.1 y;exact UA (Ip h v) n z
theorem GC(xs:List (Int×Int)):∀vs:List Int,(yC xs vs).length<=3*vs.length
 |[]=>cN _
 |v::r=>by
  have h1:=GC xs r
  have h2:=(BO (GB xs v)).2;unfold yC at h1 ⊢;rw[fe,cP,fc];omega
section
variable{cap:Nat}{xs:List (Int × Int)}
theorem xT:(prog.info? 9).map (λi=>(i.zero,i.size,i.bytes))=some (some (.string ByteArray.empty),1,16):=by kernel_rfl
theorem RZ(y:dF X0 Y0 X1 Y1 gw gh≠0)(J:eJ W p gw gh cc A cap bs Rs) :
  Fn prog 72 [pt p,.agg #[ii X0,ii Y0,ii X1,ii Y1],.slice B n c] W (dp (.tuple #[.slice none 0 0,ii (dF X0 Y0 X1 Y1 gw gh)]) W):=by
 have v:=λw G=>yB (W:=w) (p:=p) (gw:=gw) (gh:=gh) (c:=cc) (A:=A) (cap:=cap) (bs:=bs) (Rs:=Rs) X0 Y0 X1 Y1 y G;generalize dF X0 Y0 X1 Y1 gw gh=e at *;have S:=St.start W;refine zI func72 ?_;refine zN ?_;intro z L D S;refine zC (v _ (J.gr S.out)) ?_;intro O I S;exact zZ
theorem LK(hx:x0<=x1/\x1<gw)(hy:y0<=y1/\y1<gh)(hn:n=xs.length)(J:n<=c)(I:n<=9223372036854775807)(hB:Rd W B (kI xs))(hl:tO xs=false)(hG:eJ W p gw gh cc A cap bs Rs) :
  Fn prog 72 [pt p,.agg #[ii x0,ii y0,ii x1,ii y1],.slice B n c] W (dp (.tuple #[.slice none 0 0,ii 13]) W):=by
 have z:=λw=>DR (W:=w) (A:=B) hn J I;rw[hl]at z;have S:=St.start W;refine zI func72 ?_;refine zN ?_;intro O aa V S;refine zK (iz x0 y0 x1 y1 hx hy (hG.gr S.out)) ?_;rintro _ ab ⟨L,U,rfl,v,y,D⟩;have S:=S.pushRow v y D;refine zC (z _ (hB.gr S.out)) ?_;intro ac Z S;exact zZ
theorem WB(hx:x0<=x1/\x1<gw)(hy:y0<=y1/\y1<gh)(hn:n=xs.length)(aw:n<=c)(av:n<=9223372036854775807)(hB:Rd W B (kI xs))(hl:tO xs=true)(hG:eJ W p gw gh cc A cap bs Rs) :
  Fn prog 72 [pt p,.agg #[ii x0,ii y0,ii x1,ii y1],.slice B n c] W
   (jc (λv=>.tuple #[v,ii 0]) 9 1 (y1+1-y0) (yD xs (fi gw cc x0 y0 (x1+1-x0) (y1+1-y0)) (x1+1-x0) (y1+1-y0)) W):=by
 have aB:=λw=>DR (W:=w) (A:=B) hn aw av;rw[hl]at aB;have az:=λw v=>Xt (W:=w) (A:=B) v hn aw av;have hw:=hG.sw;have hh:=hG.sh;have ao:=λw G=>iz (W:=w) (p:=p) (gw:=gw) (gh:=gh) (c:=cc) (A:=A) (cap:=cap) (bs:=bs) (Rs:=Rs) x0 y0 x1 y1 hx hy G;have aE:=lE gw cc x0 y0 (x1+1-x0) (y1+1-y0);obtain⟨y,aK⟩:∃k,k=x1+1-x0:=⟨_,rfl⟩;obtain⟨z,aF⟩:∃k,k=y1+1-y0:=⟨_,rfl⟩
 have Z:∀w(q t:Nat),t<y->q<z->Fn prog 114 [.agg #[ii x0,ii y0,ii x1,ii y1],ii (q*y+t:Nat)] w (dp (.tuple #[.agg #[ii (x0+t:Nat),ii (y0+q:Nat)],.bool true]) w):=λw q t I hq=>by
  have e1:(x1:Int)-x0+1=(y:Nat):=om;have e2:(y1:Int)-y0+1=(z:Nat):=om;have hm:(q*y+t)%y=t:=by rw[cD,fp,dT I]
  have hd:(q*y+t)/y=q:=by rw[cD,fF om,ee I,eW]
  have ad:q*y+t<z*y:=by
   have:=cI y (show q+1<=z from hq);rw[cX]at this;omega
  have h:=Bw x0 y0 x1 y1 (q*y+t:Nat) om om (by rw[e1,e2,<-kv,cD y];exact ke.2 ad) w;rw[e1,<-Int.natCast_emod,<-Int.natCast_ediv,hm,hd]at h;exact h
 rw[<-aK,<-aF]at ao aE ⊢;have bh:z*y<=1024*1024:=cE om om;generalize fi gw cc x0 y0 y z=V at *;have ah:=λv=>Ip hl v;have aG:=UC hl;have aH:=GC xs;refine yI func72 ?_;refine yA ?_;intro aj _ S;refine zK (ao _ (hG.gr S.out)) ?_;rintro _ bj ⟨ab,al,rfl,am,an,aD⟩;have S:=S.pushRow am an aD;refine zC (aB _ (hB.gr S.out)) ?_;intro bk ba S;refine yA ?_;intro D _ S;have S:=(S.pushNil 9 1).pushNil 5 1;have S:=S.pick 5 [2,0,1,3,4] rfl rfl rfl
 refine dl (λm e w=>∃(q t:Nat)(l:List Int)(pp aa J:Option Addr)(ac L:Nat),q*y+t+m=z*y/\t<y/\l=yC xs ((V.drop (q*y)).take t)/\(pp=none\/pp=some ⟨D,0,none⟩) /\
   SL e [(2,.slice B n c),(4,pt aj),(10,.slice J q L),(11,pt D),(32,.slice ab (z*y) al),(33,ii (z*y:Nat)),(34,ii (q*y+t:Nat))] /\
   St No W w [.blk D 265 [.pointer pp,.slice aa l.length ac],.row 5 1 aa l.length ac (f9 l),.row 9 1 J q L (yD xs V y q),.row 2 1 ab (z*y) al (cY V),.blk aj 24 [ii x0,ii y0,ii x1,ii y1]]) (z*y)
  ⟨0,0,[],none,none,none,0,0,om,om,rfl,.inl rfl,sl,S⟩ ?_
 clear S;rintro m e w ⟨q,t,l,pp,aa,J,ac,L,hk,I,au,aA,aJ,S⟩;rw[aJ.fold];rcases cr (q*y+t<z*y)with ad|ad
 ·have hq:q<z:=by
   rcases eV q z with h|h
   ·exact h
   ·have:=cI y h;omega
  have aq:q*y+t<V.length:=om;have bi:q<1024:=om
  have aQ:(cY V)[((q*y+t:Nat):Int).toNat * 1]?=some (ii V[q*y+t]):=by
   rw[cG,b7];exact gc (ct aq)
  have ag:(V.drop (q*y)).take t++[V[q*y+t]]=(V.drop (q*y)).take (t+1):=by
   rw[kK,jD,ct aq];rfl
  have aS:dO ab:=(S.row (i:=3) rfl).someA om;have ae:l++lJ (GB xs V[q*y+t])=yC xs ((V.drop (q*y)).take (t+1)):=by rw[au,<-LJ,ag]
  have be:l.length<=3*1024:=by
   have:=aH ((V.drop (q*y)).take t);rw[<-au,d7]at this;omega
  have bf:(l++lJ (GB xs V[q*y+t])).length<=3*1024+3:=by
   have:=(BO (GB xs V[q*y+t])).2;rw[cP];omega
  have aI:l++lJ (GB xs V[q*y+t])≠[]:=by simp[RU]
  have ap:Uz (l++lJ (GB xs V[q*y+t])):=ae▸aG _;have aC:=ah V[q*y+t];generalize V[q*y+t]=v at *;generalize ar:l++lJ (GB xs v)=l' at *;rcases cr (t+1=y)with h1|h1
  ·have e1:((x0+t:Nat):Int)=x1:=om;have hS:Io l'=WA xs V y q:=by unfold WA;rw[ae,h1]
   refine yA ?_;refine zC (az w v (hB.gr S.out) hl) ?_;intro bl bb S;refine zK (LI aC aA om S) ?_;rintro _ bm ⟨⟨n9,rfl⟩,O,U,S⟩;rw[ar]at S;refine zC (Z _ q t I hq) ?_;intro bn bc S;refine yA ?_;intro _ _ S;refine zK (N4 aI ap om (S.pick 6 [1,2,0,3,4,5] rfl rfl rfl)) ?_;rintro _ aT ⟨rfl,S⟩;refine yb S ?_;intro aM aU aN S aL;refine ZP 3 0 S ?_;intro ai ak aV S aR;refine zK (RY (S.pick 6 [1,0,2,3,4,5] rfl rfl rfl)) ?_;rintro _ aW ⟨rfl,S⟩;refine zg ?_;rw[hS,JK]at S;have S:=(S.pick 6 [0,3,4,5,1,2] rfl rfl rfl).sub (List.take_sublist 4 _);have S:=(S.pushNil 5 1).pick 5 [1,0,2,3,4] rfl rfl rfl;have bg:(q+1)*y=q*y+y:=cX q y;exact⟨m-1,om,q+1,0,[],none,none,ai,0,ak,om,om,rfl,.inl rfl,sl,S⟩
  ·have e1:((x0+t:Nat):Int)≠x1:=om;refine yA ?_;refine zC (az w v (hB.gr S.out) hl) ?_;intro aX aO S;refine zK (LI aC aA om S) ?_;rintro _ aY ⟨⟨n9,rfl⟩,O,U,S⟩;rw[ar]at S;refine zC (Z _ q t I hq) ?_;intro aZ aP S;refine yA ?_;intro _ _ S;exact⟨m-1,om,q,t+1,l',_,O,J,U,L,om,om,ae,.inr rfl,sl,S.drop 1⟩
 ·have hq:q=z:=by
   rcases eV q z with h|h
   ·have:=cI y (show q+1<=z from h);rw[cX]at this;omega
   ·have:=cI y h;exact Nat.le_antisymm (by rcases eV z q with h2|h2;(have:=cI y (show z+1<=q from h2);rw[cX]at this;omega);exact h2) h
  subst hq;refine zX ?_;exact(S.retNew (i:=2) (mk:=λv=>.tuple #[v,ii 0]) rfl)
end
theorem vH.congr{v:Nat->Nat->Int}{P Q:Nat->Nat->Prop}{r:RG}(h:vH v P r)(z:∀x y,P x y↔Q x y):vH v Q r:=by
 obtain⟨x1,y1,L,D⟩:=h.lo;obtain⟨O,S,p2,I⟩:=h.hi;exact⟨λx y J=>h.all x y ((z x y).2 J),⟨x1,y1,(z _ _).1 L,D⟩,O,S,(z _ _).1 p2,I⟩
noncomputable def WD(V:List Int)(gw x0 y0 x1 y1:Nat):RG :=
 open Classical in if h:∃r,vH (Bx V gw) (nh x0 y0 x1 y1) r then h.choose else⟨0,0⟩
theorem WE{V:List Int}{r:RG}(h:vH (Bx V gw) (nh x0 y0 x1 y1) r):WD V gw x0 y0 x1 y1=r:=by
 have h':∃r,vH (Bx V gw) (nh x0 y0 x1 y1) r:=⟨r,h⟩;unfold WD;rw[dif_pos h'];exact h'.choose_spec.uniq h
section
variable{V:List Int}
theorem LO(k x y:Nat)(hw:1<=gw/\gw<=1024)(hh:1<=gh/\gh<=1024)(hk:k<=Nat.log2 (min gw gh))(hx:x<f7 gw k)(hy:y<f7 gh k)(hA:vd W tb gw gh V) :
  Fn prog 235 [pt tb,ii k,.agg #[ii x,ii y]] W (dp (.tuple #[.agg (wm V gw k x y).cells.toArray,ii 0]) W):=by
 obtain⟨As,cs,Z,cc,hT,hS,hF⟩:=hA;generalize Nat.log2 (min gw gh)=K at *;have U:=Pi (k:=K+1) (j:=k) (ac:=f7 gw) (As:=Z) (ns:=λk=>f7 gw k*f7 gh k) (cs:=cc) om;have hC:=(hF k om).rd;have I:=hS.rd;have L:=Cd (zj V (gw:=gw) (gh:=gh) (k:=k) hx hy);have aa:(mY (tf V gw gh k)).length=f7 gw k*f7 gh k*2:=by rw[Do,Dq]
 have O:f7 gw k<=1024:=by unfold f7;have:=mT k;omega
 have J:f7 gh k<=1024:=by unfold f7;have:=mT k;omega
 have hm:f7 gw k*f7 gh k<=1024*1024:=cE O J
 have am:k<1024:=by
  by_cases h:k<1024
  ·exact h
  ·exfalso;have h2:k<2^k:=Nat.lt_two_pow_self;unfold f7 at hx;omega
 have an:y*f7 gw k+x<f7 gw k*f7 gh k:=by
  have:=cI (f7 gw k) (show y+1<=f7 gh k from hy);rw[cX,cD (f7 gh k)]at this;omega
 have hq:(((f7 gw k*f7 gh k:Nat):Int)).tdiv ((f7 gw k:Nat):Int)=((f7 gh k:Nat):Int):=by
  rw[kv];exact Int.mul_tdiv_cancel_left _ om
 generalize f7 gw k=D at *;generalize f7 gh k=ah at *;generalize tf V gw gh k=l at *;generalize wm V gw k x y=r at *;have e1:(y:Int)*(D:Int)=((y*D:Nat):Int):=by push_cast;rfl
 generalize y*D=p at *;have v:((mY l).drop (((p:Int)+x).toNat * 2)).take 2=r.cells:=by rw[(om:((p:Int)+x).toNat=p+x)];exact L
 have ad:dO As:=hS.someA om;have ab:dO (Z k):=hC.someA om;unfold RG.cells at v ⊢;have S:=St.start W;refine zI func235 ?_;refine zN ?_;intro ag ao aj S;refine zN ?_;intro ae ap ak S;iterate 5 refine z ?_
 first|refine cq (ff (b:=true) rfl (cF om)) ?_|refine cq (ff (b:=false) rfl (cC om)) ?_|refine cq (cH rfl) ?_
 iterate 5 refine z ?_
 first|refine eD rfl ?_|(refine dr rfl ?_;refine dH (cV jy rfl rfl (hT.gr S.out) rfl) ?_)
 refine z ?_;first|refine eD rfl ?_|(refine dr rfl ?_;(first|refine cq (ff (b:=true) rfl (cF om)) ?_|refine cq (ff (b:=false) rfl (cC om)) ?_|refine cq (cH rfl) ?_))
 iterate 5 refine z ?_
 refine dH (cV jy rfl rfl (hT.gr S.out) rfl) ?_;refine zg ?_;refine ZU (I.gr S.out) U ?_;refine zN ?_;intro ai aq al S;refine Z1 0 S ?_;intro ar S;iterate 5 refine z ?_
 refine cq (FT rfl rfl om hq om) ?_;iterate 3 refine z ?_
 first|refine cq (ff (b:=true) rfl (cF om)) ?_|refine cq (ff (b:=false) rfl (cC om)) ?_|refine cq (cH rfl) ?_
 iterate 5 refine z ?_
 first|refine eD rfl ?_|(refine dr rfl ?_;(first|refine cq (ff (b:=true) rfl (cF om)) ?_|refine cq (ff (b:=false) rfl (cC om)) ?_|refine cq (cH rfl) ?_))
 iterate 4 refine z ?_
 first|refine eD rfl ?_|(refine dr rfl ?_;(first|refine cq (ff (b:=true) rfl (cF om)) ?_|refine cq (ff (b:=false) rfl (cC om)) ?_|refine cq (cH rfl) ?_))
 iterate 5 refine z ?_
 first|refine eD rfl ?_|(refine dr rfl ?_;(first|refine cq (ff (b:=true) rfl (cF om)) ?_|refine cq (ff (b:=false) rfl (cC om)) ?_|refine cq (cH rfl) ?_))
 iterate 7 refine z ?_
 refine cq (fh rfl (by rw[e1];omega)) ?_;rw[e1];refine zg ?_;refine ZU (hC.gr S.out) v ?_;refine zS ?_;intro au S;exact Xb YQ rfl (YS _) rfl (S.blk (i:=1) rfl) rfl rfl rfl ⟨rfl,S.out⟩
theorem Oa(x0 y0 x1 y1:Nat)(hw:1<=gw/\gw<=1024)(hh:1<=gh/\gh<=1024)(hx:x0<=x1/\x1<gw)(hy:y0<=y1/\y1<gh)(hA:vd W tb gw gh V) :
  Fn prog 153 [pt tb,.agg #[ii x0,ii y0,ii x1,ii y1]] W (dp (.tuple #[.agg (WD V gw x0 y0 x1 y1).cells.toArray,ii 0]) W):=by
 have aq:=hA;obtain⟨Ao,co,As,cs,hT,hO,hF⟩:=aq;have aB:dF x0 y0 x1 y1 gw gh=0:=gW om om om om;obtain⟨J,aU⟩:∃J,J=min (x1-x0) (y1-y0)+1:=⟨_,rfl⟩;have am:min ((x1:Int)-x0) ((y1:Int)-y0)+1=((J:Nat):Int):=om;have ah:=λ(k x y:Nat)(w:World)(g:Gr W w)hk hx hy=>LO (W:=w) (V:=V) (tb:=tb) k x y hw hh hk hx hy (hA.gr g)
 have ac:Nat.log2 J<=Nat.log2 (min gw gh):=by
  have h1:2^Nat.log2 J<=J:=rx om;exact(Nat.le_log2 om).2 om
 have aS:Nat.log2 (min gw gh)<=1024:=dE (Nat.log2_le_self _) om;have ap:2^Nat.log2 J<=J:=rx om;obtain⟨k,ek⟩:∃k,k=Nat.log2 J:=⟨_,rfl⟩;rw[<-ek]at ac ap
 have aI:k<=10:=by
  by_cases h:k<=10
  ·exact h
  ·have:=fP (show 0<2 by omega) (show 11<=k by omega);omega
 have ag:=λx y=>Ch V gw k x y;have aH:1<=2^k:=mT k
 have aA:IntKind.i64.wrap (1*2^(min (k:Int).toNat IntKind.i64.bits))=((2^k:Nat):Int):=by
  have e:(1:Int)*2^(min (k:Int).toNat IntKind.i64.bits)=((2^k:Nat):Int):=by
   rw[jG,show min (k:Int).toNat IntKind.i64.bits=k by unfold IntKind.bits;dsimp only;omega];push_cast;rfl
  rw[e];exact gC _ om
 have aG:f7 gw k+2^k=gw+1:=by unfold f7;omega
 have aF:f7 gh k+2^k=gh+1:=by unfold f7;omega
 generalize 2^k=v at *;generalize aT:Nat.log2 (min gw gh)=K at *;obtain⟨I,aj⟩:∃I,I+v=x1+1:=⟨x1+1-v,om⟩;obtain⟨L,ak⟩:∃L,L+v=y1+1:=⟨y1+1-v,om⟩;have an:(x1:Int)-v+1=((I:Nat):Int):=om;have ao:(y1:Int)-v+1=((L:Nat):Int):=om;have aw:=λw g=>ah k x0 y0 w g ac om om;refine yI func153 ?_;refine yA ?_;intro U O _ S;refine zD [0,1,2,3,4,5,6,7,8,9,10] [] ?_;refine zM (λwq hq=>(hT.gr (S.gr hq).out)) ?_;refine zM (λwq hq=>(hT.gr (S.gr hq).out)) ?_;refine nA rfl (λwq hq=>(jW _ _ _ _ _ _ om om wq).mono (λ_ _⟨hv,hg⟩=>⟨hv,hq.trans hg⟩)) ?_;rw[aB];refine zE ?_;intro aZ aO S;rw[am];refine zC (Ph J om om) ?_;intro ba aP S;rw[<-ek];refine zg ?_;refine cq (vz (c:=(v:Int)) rfl rfl om aA) ?_;refine zD [0,1,2,3,4,5,6,7,8,9,10,11] [] ?_;rw[an];refine zQ ?_;rw[ao];refine zE ?_;intro bb aQ S;refine zC (aw _ S.out) ?_;intro bc aR S;refine yA ?_;intro z _ S
 refine dl (λm e w=>∃(y:Nat)(g:RG)(Q:Nat->Nat->Prop),y+m=L/\y0<=y/\vH (Bx V gw) Q g/\(∀a b,Q a b->nh x0 y0 x1 y1 a b)/\(∀a b,nh x0 y0 x1 y1 a b->b<y->Q a b) /\
  SL e [(0,pt tb),(3,pt U),(4,pt O),(7,ii k),(8,ii v),(9,ii I),(10,ii L),(11,pt z),(13,ii y)]/\St No W w [.blk z 153 g.cells,.blk O 153 [ii 0,ii 0],.blk U 24 [ii x0,ii y0,ii x1,ii y1]]) (L-y0)
  ⟨y0,_,_,om,cN _,ag x0 y0,λa b h=>by unfold nh at*;omega,λa b h hb=>by unfold nh at*;omega,sl,S⟩ ?_
 clear S;rintro m e w ⟨y,g,Q,aY,aX,hQ,Z,D,ad,S⟩;rw[ad.fold];refine zg ?_
 refine dl (λm e w=>∃(x:Nat)(g:RG)(Q:Nat->Nat->Prop),x+m=I/\x0<=x/\vH (Bx V gw) Q g/\(∀a b,Q a b->nh x0 y0 x1 y1 a b)/\(∀a b,nh x0 y0 x1 y1 a b->b<y->Q a b)/\(∀a b,nh x0 y0 x1 y1 a b->b<y+v->a<x->Q a b) /\
  SL e [(0,pt tb),(3,pt U),(4,pt O),(7,ii k),(8,ii v),(9,ii I),(10,ii L),(11,pt z),(13,ii y),(14,ii x)]/\St No W w [.blk z 153 g.cells,.blk O 153 [ii 0,ii 0],.blk U 24 [ii x0,ii y0,ii x1,ii y1]]) (I-x0)
  ⟨x0,g,Q,om,cN _,hQ,Z,D,λa b h hb ha=>by unfold nh at h;omega,sl,S⟩ ?_
 clear S hQ Z D Q g;rintro m2 e w ⟨x,g,Q,aW,aV,hQ,Z,D,ar,ad,S⟩;rw[ad.fold];have az:=λw g=>ah k x y w g ac om om;have ai:=ag x y;generalize wm V gw k x y=q at *;have hJ:vH (Bx V gw) (λa b=>Q a b\/nh x y (x+v-1) (y+v-1) a b) (mE g q):=hQ.join ai (λa b=>Iff.rfl)
 have aa:∀a b,(Q a b\/nh x y (x+v-1) (y+v-1) a b)->nh x0 y0 x1 y1 a b:=λa b h=>by
  rcases h with h|h
  ·exact Z a b h
  ·unfold nh at*;omega
 have ab:∀a b,nh x0 y0 x1 y1 a b->b<y+v->a<x+v->(Q a b\/nh x y (x+v-1) (y+v-1) a b):=λa b h hb ha=>by
  by_cases av:b<y
  ·exact .inl (D a b h av)
  ·by_cases au:a<x
   ·exact .inl (ar a b h hb au)
   ·right;unfold nh at*;omega
 refine zC (az w S.out) ?_;intro aJ aD S;refine zN ?_;intro aC aK aE S;refine zS ?_;intro aL S;refine zC (Fx g q _) ?_;refine zS ?_;intro aM S;refine zB ?_ ?_
 ·intro aj;obtain rfl:x=I:=om;refine zB ?_ ?_
  ·intro ak;have al:∀a b,(Q a b\/nh x y (x+v-1) (y+v-1) a b)↔nh x0 y0 x1 y1 a b:=λa b=>⟨aa a b,λh=>ab a b h (by unfold nh at h;omega) (by unfold nh at h;omega)⟩;have ae:=WE (hJ.congr al);rw[ae];refine zS ?_;intro aN S;exact pG S ⟨rfl,S.out⟩
  ·intro ak;refine zg ?_;have S:=S.sub (.cons _ (.cons_cons _ (.cons_cons _ (.cons_cons _ (.slnil)))));exact⟨L-min (y+v) L,om,min (y+v) L,mE g q,_,om,om,hJ,aa,λa b h hb=>ab a b h om (by unfold nh at h;omega),sl,S⟩
 ·intro aj;refine zg ?_;have S:=S.sub (.cons _ (.cons_cons _ (.cons_cons _ (.cons_cons _ (.slnil)))));exact⟨I-min (x+v) I,om,min (x+v) I,mE g q,_,om,om,hJ,aa,λa b h hb=>.inl (D a b h hb),λa b h hb ha=>ab a b h hb om,sl,S⟩
end
def GG(V:List Int)(gw gh:Nat)(x0 y0 x1 y1:Int):Int:=if dF x0 y0 x1 y1 gw gh=0 then uv V gw x0.toNat y0.toNat x1.toNat y1.toNat else 0
noncomputable def JL(V:List Int)(gw gh:Nat)(x0 y0 x1 y1:Int):RG:=if dF x0 y0 x1 y1 gw gh=0 then WD V gw x0.toNat y0.toNat x1.toNat y1.toNat else⟨0,0⟩
def Ob(sn:Nat)(stamp:Int)(gw gh:Nat)(V:List Int)(Q:List HA):Prop:=∃tb q Ao co As cs Ao2 co2 As2 cs2,Q=.blk sn 253 [ii stamp,pt tb,pt q]::(BB tb gw gh V Ao co As cs++VP q Ao2 co2 As2 cs2 gw gh V)
def rl(w:World)(sn:Nat)(stamp:Int)(gw gh:Nat)(V:List Int):Prop:=∃tb q,eL w sn 253 [ii stamp,pt tb,pt q]/\rj w tb gw gh V/\vd w q gw gh V
def DU(w:World)(ov:Option Addr)(now:Int)(gw gh:Nat)(V:List Int)(b:Bool):Prop:=(ov=none/\b=false)\/∃sn st V0,ov=some ⟨sn,0,none⟩/\rl w sn st gw gh V0/\vB V0/\(st=now->V0=V)/\b=decide (st=now)
theorem rl.gr{V:List Int}(h:rl w sn stamp gw gh V)(g:Gr w w'):rl w' sn stamp gw gh V:=by
 obtain⟨tb,q,h1,h2,v⟩:=h;exact⟨tb,q,h1.gr g,h2.gr g,v.gr g⟩
theorem DU.gr{V:List Int}{b:Bool}(h:DU w ov now gw gh V b)(g:Gr w w'):DU w' ov now gw gh V b :=
 h.imp id λ⟨sn,st,v,h1,h2,y,z⟩=>⟨sn,st,v,h1,h2.gr g,y,z⟩
theorem Ob.at_{V:List Int}{Q:List HA}(h:Ob sn stamp gw gh V Q)(S:St F W w (Q++T)):rl w sn stamp gw gh V:=by
 obtain⟨tb,q,L,O,As,cs,v,z,y,D,rfl⟩:=h;refine⟨tb,q,S.blk (i:=0) rfl,⟨_,_,_,_,S.blk (i:=2) rfl,S.row (i:=3) rfl,λ_ J=>S.rrow (i:=1) rfl J⟩,?_⟩;have I:St F W w (VP q v z y D gw gh V++T):=(S.drop 4);exact⟨v,z,y,D,I.blk (i:=2) rfl,I.row (i:=0) rfl,λ_ J=>I.grow_ (i:=1) rfl J⟩
section
variable{lb:Nat}{V:List Int}
theorem UE(x0 y0 x1 y1:Int)(Z:vB V)(hw:1<=gw/\gw<=1024)(hh:1<=gh/\gh<=1024)(D:xy W tb gw gh (lk gw V)) :
  Fn prog 97 [pt tb,.agg #[ii x0,ii y0,ii x1,ii y1]] W (dp (.tuple #[ii (GG V gw gh x0 y0 x1 y1),ii (dF x0 y0 x1 y1 gw gh)]) W):=by
 unfold GG;by_cases v:dF x0 y0 x1 y1 gw gh=0
 ·rw[a7 v,v];obtain⟨r,J,rfl,rfl,rfl,rfl⟩:=nP v;exact Jf r.x0 r.y0 r.x1 r.y1 Z hw hh J.1 J.2 D
 ·rw[a8 v];generalize z:dF x0 y0 x1 y1 gw gh=e at *;obtain⟨A,c,I,hR⟩:=D;have S:=St.start W;refine zI func97 ?_;refine zN ?_;intro L aa O S;refine zD [0,1,2,3,4,5,6,7,8,9,10] [] ?_;refine zM (λwq y=>(I.gr (S.gr y).out)) ?_;refine zM (λwq y=>(I.gr (S.gr y).out)) ?_;refine nA rfl (λwq y=>(jW _ _ _ _ _ _ om om wq).mono (λ_ _⟨hv,hg⟩=>⟨hv,y.trans hg⟩)) ?_;rw[z];refine zE ?_;intro ab U S;exact nd rfl rfl ⟨rfl,S.out⟩
theorem Oc(x0 y0 x1 y1:Int)(hw:1<=gw/\gw<=1024)(hh:1<=gh/\gh<=1024)(J:rj W tb gw gh V) :
  Fn prog 234 [pt tb,.agg #[ii x0,ii y0,ii x1,ii y1]] W (dp (ii (dF x0 y0 x1 y1 gw gh)) W):=by
 obtain⟨Z,co,As,cs,y,hO,hF⟩:=J;have S:=St.start W;refine zI func234 ?_;refine zN ?_;intro z O D S;refine zD [0,1,2,3,4,5,6,7,8,9,10] [] ?_;refine zM (λwq v=>(y.gr (S.gr v).out)) ?_;refine zM (λwq v=>(y.gr (S.gr v).out)) ?_;refine nA rfl (λwq v=>(jW _ _ _ _ _ _ om om wq).mono (λ_ _⟨L,hg⟩=>⟨L,v.trans hg⟩)) ?_;refine zE ?_;intro U I S;exact ir rfl ⟨rfl,S.out⟩
theorem UF(x0 y0 x1 y1:Int)(Z:vB V)(J:1<=gw/\gw<=1024)(D:1<=gh/\gh<=1024)(z:rj W tb gw gh V) :
  Fn prog 152 [pt tb,.agg #[ii x0,ii y0,ii x1,ii y1]] W (dp (.tuple #[ii (GG V gw gh x0 y0 x1 y1),ii (dF x0 y0 x1 y1 gw gh)]) W):=by
 unfold GG;by_cases v:dF x0 y0 x1 y1 gw gh=0
 ·rw[a7 v,v];obtain⟨r,I,rfl,rfl,rfl,rfl⟩:=nP v;exact Pp r.x0 r.y0 r.x1 r.y1 Z J D I.1 I.2 z
 ·rw[a8 v];have y:=λw(g:Gr W w)=>Oc x0 y0 x1 y1 J D (z.gr g);generalize dF x0 y0 x1 y1 gw gh=e at *;have S:=St.start W;refine zI func152 ?_;refine zN ?_;intro L aa O S;refine zC (y _ S.out) ?_;intro ab U S;exact zZ
theorem Iq(x0 y0 x1 y1:Int)(L:vB V)(Z:1<=gw/\gw<=1024)(O:1<=gh/\gh<=1024)(v:rl W sn stamp gw gh V) :
  Fn prog 75 [pt sn,.agg #[ii x0,ii y0,ii x1,ii y1]] W (dp (.tuple #[ii (GG V gw gh x0 y0 x1 y1),ii (dF x0 y0 x1 y1 gw gh)]) W):=by
 obtain⟨tb,q,v,J,_⟩:=v;have U:=λw(g:Gr W w)=>UF x0 y0 x1 y1 L Z O (J.gr g);have S:=St.start W;refine zI func75 ?_;refine zN ?_;intro z aa D S;refine zD [0,1,2,3,4,5,6,7,8,9] [] ?_;refine zM (λwq y=>(v.gr (S.gr y).out)) ?_;refine zP (λwq y=>U wq (S.gr y).out) ?_;refine zE ?_;intro ab I S;exact nd rfl rfl ⟨rfl,S.out⟩
theorem Of(x0 y0 x1 y1:Int)(hw:1<=gw/\gw<=1024)(hh:1<=gh/\gh<=1024)(D:vd W q gw gh V) :
  Fn prog 153 [pt q,.agg #[ii x0,ii y0,ii x1,ii y1]] W (dp (.tuple #[.agg #[ii (JL V gw gh x0 y0 x1 y1).lo,ii (JL V gw gh x0 y0 x1 y1).hi],ii (dF x0 y0 x1 y1 gw gh)]) W):=by
 unfold JL;by_cases v:dF x0 y0 x1 y1 gw gh=0
 ·rw[a7 v,v];obtain⟨r,J,rfl,rfl,rfl,rfl⟩:=nP v;exact Oa r.x0 r.y0 r.x1 r.y1 hw hh J.1 J.2 D
 ·rw[a8 v];generalize z:dF x0 y0 x1 y1 gw gh=e at *;obtain⟨Ao,co,As,cs,I,hO,hF⟩:=D;have S:=St.start W;refine zI func153 ?_;refine zN ?_;intro O aa U S;refine zN ?_;intro L ab Z S;refine zD [0,1,2,3,4,5,6,7,8,9,10] [] ?_;refine zM (λwq y=>(I.gr (S.gr y).out)) ?_;refine zM (λwq y=>(I.gr (S.gr y).out)) ?_;refine nA rfl (λwq y=>(jW _ _ _ _ _ _ om om wq).mono (λ_ _⟨hv,hg⟩=>⟨hv,y.trans hg⟩)) ?_;rw[z];refine zE ?_;refine zS ?_;intro ac S;exact pG S ⟨rfl,S.out⟩
theorem Og(x0 y0 x1 y1:Int)(hw:1<=gw/\gw<=1024)(hh:1<=gh/\gh<=1024)(D:rl W sn stamp gw gh V) :
  Fn prog 76 [pt sn,.agg #[ii x0,ii y0,ii x1,ii y1]] W (dp (.tuple #[.agg #[ii (JL V gw gh x0 y0 x1 y1).lo,ii (JL V gw gh x0 y0 x1 y1).hi],ii (dF x0 y0 x1 y1 gw gh)]) W):=by
 obtain⟨tb,q,D,_,Z⟩:=D;have hs:=λw(g:Gr W w)=>Of x0 y0 x1 y1 hw hh (Z.gr g);generalize JL V gw gh x0 y0 x1 y1=I at *;have S:=St.start W;refine zI func76 ?_;refine zN ?_;intro L ab O S;refine zN ?_;intro y ac U S;refine zH (C:=(CX _ _ _ 0 (.blk y 153 [ii I.lo,ii I.hi]))) [8] [0,1,2,3,4,5,6,7,8] [9] (CX.start (S.gr (Gr.drew _))) ?_;refine zV (λτ wq v=>(D.gr v.out)) ?_;refine zV (λτ wq v=>(v.blk (j:=1) (by decide) rfl)) ?_;refine jH rfl rfl (λτ wq v=>(hs wq v.out).mono (λ_ _⟨hv,hg⟩=>⟨hv,v.gr hg⟩)) ?_;refine zR ?_;refine de rfl rfl (λwq v=>JD v rfl (YS _) rfl rfl rfl rfl rfl rfl) ?_;rintro aa ad _;refine zY ?_;rintro ae ⟨J,z,S⟩;obtain rfl:=Option.some.inj z;refine zg ?_;exact pG S ⟨rfl,S.out⟩
theorem Sf(v:rl W sn stamp gw gh V):Fn prog 168 [pt sn,ii now] W (dp (.bool (decide (stamp=now))) W):=by
 obtain⟨tb,q,v,_,_⟩:=v;have S:=St.start W;by_cases h:stamp=now
 all_goals
  refine zI func168 ?_;refine zg ?_;refine cq (uS YU rfl rfl) ?_;refine zX ?_;exact⟨by simp[h],S.out⟩
theorem Sg(v:rl W sn stamp gw gh V):Fn prog 169 [pt sn] W (dp (.tuple #[ii gw,ii gh]) W):=by
 obtain⟨tb,q,v,D,_⟩:=v;have S:=St.start W;refine zI func169 ?_;iterate 7 refine z ?_
 refine dH (cV ua rfl rfl (v.gr S.out) rfl) ?_;refine zC (TZ (D.gr S.out)) ?_;intro I y S;exact zZ
end
section
variable{lb cap:Nat}{V:List Int}
theorem UG{b:Bool}{y z:Value}(hO:DU W ov now gw gh V b)(hL:eL W lb 183 [pt p,y,z])(hG:eJ W p gw gh cc A cap bs Rs) :
  Fn prog 96 [pt lb,.pointer ov,ii now] W (λv w'=>v=.bool b/\(b=true->∃sn st,ov=some ⟨sn,0,none⟩/\rl W sn st gw gh V)/\Gr W w'):=by
 rcases hO with⟨rfl,rfl⟩|⟨sn,st,V0,rfl,J,hB,O,rfl⟩
 ·exact(PD (lb:=lb) (now:=now) (.inl rfl)).mono λv w'⟨hv,g⟩=>⟨hv,(λh=>by cases h),g⟩
 ·have L:=hG.top;have D:=λw(g:Gr W w)=>Sf (now:=now) (J.gr g);have U:=λw(g:Gr W w)=>Sg (J.gr g);have S:=St.start W;by_cases h:st=now
  ·rw[cF h]at D ⊢;refine zI func96 ?_;refine zC (D W S.out) ?_;intro Z I S;refine zL (hL.gr S.out) ?_;refine zC (mC p gw gh _ _ (L.gr S.out)) ?_;intro ac aa S;refine zC (U _ S.out) ?_;intro ad ab S;refine zX ?_;exact⟨rfl,λ_=>⟨sn,st,rfl,O h▸J⟩,S.out⟩
  ·rw[cC h]at D ⊢;refine zI func96 ?_;refine zC (D W S.out) ?_;intro Z I S;refine zX ?_;exact⟨rfl,(λh=>by cases h),S.out⟩
theorem UH{b:Bool}{z:Value}(x0 y0 x1 y1:Int)(J:vB V)(hO:DU W ov now gw gh V b)(L:eL W lb 183 [pt p,pt tb,z])(v:eJ W p gw gh cc A cap bs Rs)(hF:xy W tb gw gh (lk gw V)) :
  Fn prog 48 [pt lb,.pointer ov,ii now,.agg #[ii x0,ii y0,ii x1,ii y1]] W (dp (.tuple #[ii (GG V gw gh x0 y0 x1 y1),.bool (b&&decide (dF x0 y0 x1 y1 gw gh=0)),ii (dF x0 y0 x1 y1 gw gh)]) W):=by
 have U:=v.sw;have O:=v.sh;have ho:=λw(g:Gr W w)=>UG (hO.gr g) (L.gr g) (v.gr g);have hf:=λw(g:Gr W w)=>UE x0 y0 x1 y1 J U O (hF.gr g);have D:=λw sn st(h:rl w sn st gw gh V)=>Iq x0 y0 x1 y1 J U O h;generalize ad:dF x0 y0 x1 y1 gw gh=e at *;generalize GG V gw gh x0 y0 x1 y1=n at *;have S:=St.start W;refine zI func48 ?_;refine zN ?_;intro Z ae aa S;refine zK (ho _ S.out) ?_;rintro _ ag ⟨rfl,hb,I⟩;have S:=S.gr I;refine zD [0,1,2,3,4,5,6,7,8,9,10] [] ?_;refine zM (λwq y=>(L.gr (S.gr y).out)) ?_;refine zP (λwq y=>hf wq (S.gr y).out) ?_;refine zE ?_;intro ah ab S;cases b
 ·skip;refine zX ?_;exact⟨by simp[*],S.out⟩
 ·obtain⟨sn,st,rfl,hS⟩:=hb rfl;by_cases he:e=0
  all_goals
   refine zC (D _ sn st (hS.gr (I.trans (by assumption)))) ?_;intro ai ac S;refine zX ?_;exact⟨by simp[*],S.out⟩
theorem UI(Z:vB (dw gw gh cc))(D:eJ W p gw gh cc A cap bs Rs):Fn prog 69 [pt p,ii stamp] W (λv w'=>∃sn Q,v=.tuple #[pt sn,ii 0]/\Ob sn stamp gw gh (dw gw gh cc) Q/\St No W w' Q):=by
 have hg:=λw(g:Gr W w)=>FN Z (D.gr g);have hs:=λw(g:Gr W w)=>HO (D.gr g);have S:=St.start W;refine zI func69 ?_;refine zN ?_;intro L aa V S;refine zK (hg _ S.out) ?_;rintro _ ab ⟨tb,Ao,co,Fs,U,rfl,y⟩;have S:=(S.app y).perm_ ft;refine zS ?_;intro ac S;refine zK (hs _ S.out) ?_;rintro _ ad ⟨q,I,O,J,z,rfl,y⟩;have S:=(S.app y).perm_ ft;refine zS ?_;intro ae S;exact nd rfl rfl ⟨_,_,rfl,⟨_,_,_,_,_,_,_,_,_,_,rfl⟩,S⟩
end
theorem qw.weaken{mk:Value->Value}{c:Nat->Int}{v:Value}(h:qw mk gw gh c w v w')(g:Gr W w):qw mk gw gh c W v w':=by
 obtain⟨p,A,cap,bs,Rs,e,y,D,I⟩:=h;exact⟨p,A,cap,bs,Rs,e,y,λb z=>dE g.le (D b z),g.trans I⟩
def EU(gw gh:Nat)(cc:Nat->Int)(k how i:Nat):Int :=
 GX how (fi gw cc (Nd.span gw gh ⟨k,i%dG gw k,i/dG gw k⟩).x0 (Nd.span gw gh ⟨k,i%dG gw k,i/dG gw k⟩).y0 ((Nd.span gw gh ⟨k,i%dG gw k,i/dG gw k⟩).x1+1-(Nd.span gw gh ⟨k,i%dG gw k,i/dG gw k⟩).x0) ((Nd.span gw gh ⟨k,i%dG gw k,i/dG gw k⟩).y1+1-(Nd.span gw gh ⟨k,i%dG gw k,i/dG gw k⟩).y0))
section
variable{cap:Nat}
theorem OM(k:Int)(z:1<=gw/\gw<=1024)(y:1<=gh/\gh<=1024)(v:k<0\/k>=fW gw gh):Fn prog 127 [ii gw,ii gh,ii k] W (dp (.tuple #[ii 0,ii 0,ii 11]) W):=by
 have J:=lI z.2 y.2;have S:=St.start W;have v:k<0\/(0<=k/\k>=fW gw gh):=om;rcases v with v|v
 all_goals
  refine zI func127 ?_;refine zC (Bz z y) ?_;intro I D S;exact zZ
theorem Mb(k v:Int)(D:¬((0<=k/\k<fW gw gh)/\(v=0\/v=1\/v=2)))(U:eJ W p gw gh cc A cap bs Rs):Fn prog 60 [pt p,ii k,ii v] W (dp (.tuple #[.pointer none,ii 11]) W):=by
 have hw:=U.sw;have hh:=U.sh;have I:=U.top;have y:=λw=>P3 (W:=w) v;by_cases hk:0<=k/\k<fW gw gh
 ·have V:¬(v=0\/v=1\/v=2):=λh=>D ⟨hk,h⟩;have e:ED v=.nilFunc:=by unfold ED;rw[a8 om,a8 om,a8 om]
  rw[e]at y;obtain⟨q,rfl⟩:=cJ hk.1;have z:=λw=>xL (W:=w) q hw hh om;have S:=St.start W;refine zI func60 ?_;refine zC (mC p gw gh _ W (I.gr S.out)) ?_;intro aa J S;refine zC (z _) ?_;intro ab L S;refine zC (y _) ?_;intro ac O S;refine zg ?_;refine dr rfl ?_;refine cq (Ma underlying239 rfl (.inl ⟨rfl,rfl⟩)) ?_;exact zZ
 ·have z:=λw=>OM (W:=w) k hw hh om
  have Z:ED v=.nilFunc\/∃f,ED v=.func (.func f) #[] #[]:=by
   unfold ED;split
   ·exact .inr ⟨_,rfl⟩
   ·split
    ·exact .inr ⟨_,rfl⟩
    ·split
     ·exact .inr ⟨_,rfl⟩
     ·exact .inl rfl
  have S:=St.start W;rcases Z with hf|⟨f,hf⟩
  all_goals
   rw[hf]at y;refine zI func60 ?_;refine zC (mC p gw gh _ W (I.gr S.out)) ?_;intro aa J S;refine zC (z _) ?_;intro ab L S;refine zC (y _) ?_;intro ac O S;exact zZ
theorem SD(k D:Nat)(hk:k<fW gw gh)(aZ:D<=2)(hB:vB (dw gw gh cc))(hG:eJ W p gw gh cc A cap bs Rs):Fn prog 60 [pt p,ii k,ii D] W
  (qw (λv=>.tuple #[v,ii 0]) (dG gw k) (dG gh k) (λi=>((List.range (dG gw k*dG gh k)).map (EU gw gh cc k D)).getD i 0) W):=by
 have hw:=hG.sw;have hh:=hG.sh;have aH:=hG.top;have bb:=lI hw.2 hh.2;have bc:=oZ k hw.1;have ba:=oZ k hh.1;have O:=tg gw k;have aj:=tg gh k;have hm:dG gw k*dG gh k<=1024*1024:=cE om om;have au:=λw=>P3 (W:=w) D;have aK:=λw=>xL (W:=w) k hw hh hk
 obtain⟨fid,aE,aF⟩:∃fid,ED D=.func (.func fid) #[] #[]/\∀(w:World)(A:Option Addr)(c:Nat)(xs:List Int),1<=xs.length->xs.length<=1048576->(∀x∈xs,-2147483648<=x/\x<=2147483647)->Rd w A (cY xs)->Fn prog fid [.slice A xs.length c] w (dp (ii (GX D xs)) w):=by
  rcases (show D=0\/D=1\/D=2 by omega)with rfl|rfl|rfl
  ·exact⟨_,rfl,λw A c xs h1 h2 h3 h4=>WO h1 h2 h4⟩
  ·exact⟨_,rfl,λw A c xs h1 h2 h3 h4=>WP h1 h2 h4⟩
  ·exact⟨_,rfl,λw A c xs h1 h2 h3 h4=>Vc h1 h2 h3 h4⟩
 rw[aE]at au;have ao:∀w i,i<dG gw k*dG gh k->Fn prog 129 [ii gw,ii gh,ii k,.agg #[ii (i%dG gw k:Nat),ii (i/dG gw k:Nat)]] w (dp (.tuple #[.agg (Nd.span gw gh ⟨k,i%dG gw k,i/dG gw k⟩).cells.toArray,ii 0]) w):=λw i hi=>Co (W:=w) k (i%dG gw k) (i/dG gw k) hw hh hk (dt _ O) (cS hi);have ad:∀i,i<dG gw k*dG gh k->(Nd.span gw gh ⟨k,i%dG gw k,i/dG gw k⟩).ok gw gh:=λi hi=>Nd.span_ok hw.1 hh.1 ⟨hk,dt _ O,cS hi⟩;have hg:∀i,EU gw gh cc k D i=GX D (fi gw cc (Nd.span gw gh ⟨k,i%dG gw k,i/dG gw k⟩).x0 (Nd.span gw gh ⟨k,i%dG gw k,i/dG gw k⟩).y0 ((Nd.span gw gh ⟨k,i%dG gw k,i/dG gw k⟩).x1+1-(Nd.span gw gh ⟨k,i%dG gw k,i/dG gw k⟩).x0) ((Nd.span gw gh ⟨k,i%dG gw k,i/dG gw k⟩).y1+1-(Nd.span gw gh ⟨k,i%dG gw k,i/dG gw k⟩).y0)):=λi=>rfl
 have an:∀r:Rc,r.ok gw gh->(1<=(fi gw cc r.x0 r.y0 (r.x1+1-r.x0) (r.y1+1-r.y0)).length/\(fi gw cc r.x0 r.y0 (r.x1+1-r.x0) (r.y1+1-r.y0)).length<=1048576)/\∀v∈fi gw cc r.x0 r.y0 (r.x1+1-r.x0) (r.y1+1-r.y0),-2147483648<=v/\v<=2147483647:=λr hr=>by
  obtain⟨⟨a1,a2⟩,a3,a4⟩:=hr;rw[lE]
  exact⟨⟨j5 om om,show _<=1024*1024 from cE om om⟩,λv hv=>by
   have h:iL v=true:=wN hB a2 a4 v hv;unfold iL at h;simpa using h⟩
 have aq:=λw(r:Rc)(hr:r.ok gw gh)(g:Gr W w)=>iz (W:=w) r.x0 r.y0 r.x1 r.y1 hr.1 hr.2 (hG.gr g)
 have ak:∀v∈(List.range (dG gw k*dG gh k)).map (EU gw gh cc k D),iL v=true:=λv hv=>by
  obtain⟨i,hi,rfl⟩:=fC.1 hv;have:=an _ (ad i (dJ.1 hi));rw[hg];exact K2 (IA D this.1.1 this.2)
 have L:=λw(B:Option Addr)cp(h:Rd w B (cY ((List.range (dG gw k*dG gh k)).map (EU gw gh cc k D))))=>VL (W:=w) (V:=(List.range (dG gw k*dG gh k)).map (EU gw gh cc k D)) cp ⟨O,om⟩ ⟨aj,om⟩ (by simp) ak h;have aJ:((List.range (dG gw k*dG gh k)).map (EU gw gh cc k D)).length=dG gw k*dG gh k:=by simp
 rw[aJ]at L;generalize EU gw gh cc k D=g at *;obtain⟨sp,ap⟩:∃sp:Nat->Rc,∀i,Nd.span gw gh ⟨k,i%dG gw k,i/dG gw k⟩=sp i:=⟨λi=>Nd.span gw gh ⟨k,i%dG gw k,i/dG gw k⟩,λi=>rfl⟩;simp only[ap]at ao ad hg;generalize dG gw k=lw at *;generalize dG gh k=lh at *;have S:=St.start W;refine zI func60 ?_;refine zC (mC p gw gh _ W (aH.gr S.out)) ?_;intro bf aU S;refine zC (aK _) ?_;intro bg aV S;refine zC (au _) ?_;intro bh aW S;refine zg ?_;refine dr rfl ?_;refine cq (Ma underlying239 rfl (.inr ⟨⟨_,_,_,rfl⟩,rfl⟩)) ?_;refine zg ?_;have S:=S.pushNil 2 1
 refine dl (λm e w=>∃(y:Nat)(I:Option Addr)(J:Nat),y+m=lh/\SL e [(0,pt p),(1,ii k),(8,ii gw),(9,ii gh),(10,ii lw),(11,ii lh),(13,.func (.func fid) #[] #[]),(14,.slice I (y*lw) J),(44,ii lh),(45,ii y)] /\
  St No W w [.row 2 1 I (y*lw) J (cY ((List.range (y*lw)).map g))]) lh
  ⟨0,none,0,om,⟨rfl,rfl,rfl,rfl,rfl,rfl,rfl,by rw[iD];rfl,rfl,rfl,trivial⟩,by rw[iD];exact S⟩ ?_
 clear S;rintro m e w ⟨y,I,J,hy,ac,S⟩;rw[ac.fold];by_cases be:y<lh
 ·have aM:=cI lw (show y+1<=lh by omega);rw[cX,cD lh]at aM;refine zg ?_
  refine dl (λm2 e w=>∃(x:Nat)(I:Option Addr)(J:Nat),x+m2=lw/\SL e [(0,pt p),(1,ii k),(8,ii gw),(9,ii gh),(10,ii lw),(11,ii lh),(13,.func (.func fid) #[] #[]),(14,.slice I (y*lw+x) J),(15,ii y),(44,ii lh),(45,ii y),(48,ii lw),(49,ii x)] /\
   St No W w [.row 2 1 I (y*lw+x) J (cY ((List.range (y*lw+x)).map g))]) lw
   ⟨0,I,J,om,sl,S⟩ ?_
  clear S;rintro m2 e w ⟨x,I,J,hx,ac,S⟩;rw[ac.fold];by_cases aL:x<lw
  ·have hi:y*lw+x<lw*lh:=om;have hc:=jo (Y:=y) aL;have ab:=λw=>ao w (y*lw+x) hi;rw[hc.1,hc.2]at ab;have am:=ad _ hi;have ar:=λw gr=>aq w (sp (y*lw+x)) am gr;have Z:=an _ am;have aG:=hg (y*lw+x);have aI:=lE gw cc (sp (y*lw+x)).x0 (sp (y*lw+x)).y0 ((sp (y*lw+x)).x1+1-(sp (y*lw+x)).x0) ((sp (y*lw+x)).y1+1-(sp (y*lw+x)).y0);rw[<-aI]at ar;have al:=λw A c h=>aF w A c _ Z.1.1 Z.1.2 Z.2 h;rw[<-aG]at al;have aD:(List.range (y*lw+x+1)).map g=(List.range (y*lw+x)).map g++[g (y*lw+x)]:=by rw[eG,fq,i7]
   generalize g (y*lw+x)=z at *;generalize fi gw cc (sp (y*lw+x)).x0 (sp (y*lw+x)).y0 ((sp (y*lw+x)).x1+1-(sp (y*lw+x)).x0) ((sp (y*lw+x)).y1+1-(sp (y*lw+x)).y0)=vs at *;unfold Rc.cells at ab;refine zC (ab w) ?_;intro bi aX S;refine zN ?_;intro aT bj aY S;refine zS ?_;intro bk S;refine zK (ar _ S.out) ?_;rintro _ aN ⟨ag,ai,rfl,U,aa,az⟩;have S:=S.pushRow U aa az;refine zg ?_;refine ju rfl rfl (al aN ag ai (S.rd (i:=0) rfl)) ?_;rintro _ bl ⟨rfl,aA⟩;have S:=S.gr aA;refine yb S ?_;intro aw aQ aO S av;refine ZP 3 0 S ?_;intro ae ah aR S aP;refine zg ?_;have S:=S.sub (.cons _ (.cons _ (.cons _ (.cons_cons _ .slnil))));rw[show cY ((List.range (y*lw+x)).map g)++[ii z]=cY ((List.range (y*lw+x)).map g++[z])by simp[cY],<-aD]at S;exact⟨m2-1,om,x+1,ae,ah,om,sl,S⟩
  ·obtain rfl:x=lw:=om;refine zg ?_;have ey:y*x+x=(y+1)*x:=(cX y x).symm;rw[ey]at S;exact⟨m-1,om,y+1,I,J,om,⟨rfl,rfl,rfl,rfl,rfl,rfl,rfl,by rw[<-ey];rfl,rfl,rfl,trivial⟩,S⟩
 ·obtain rfl:y=lh:=om;rw[cD lw y]at L ⊢;refine zK (L w I J (S.rd (i:=0) rfl)) ?_;rintro _ aS ⟨p2,A2,cap2,bs2,Rs2,rfl,aC,aB,g9⟩;have S:=S.gr g9;refine zX ?_;exact⟨p2,A2,cap2,bs2,Rs2,rfl,aC,λg h=>by have:=aB g h;have:=St.le ‹St No W w _›;omega,S.out⟩
end
theorem aaP(x0 y0 x1 y1 gw gh:Nat)(I:1<=gw/\gw<=1024)(D:1<=gh/\gh<=1024)(J:x0<=x1/\x1<gw)(L:y0<=y1/\y1<gh)(W:World):Fn prog 14 [.agg #[ii x0,ii y0,ii x1,ii y1],ii gw,ii gh] W (dp (ii 0) W):=by
 have S:=St.start W;refine zI func14 ?_;refine zN ?_;intro v z y S;exact zZ
structure aaL(V:List Int)(gw x0 y0 x1 y1 y x:Nat)(L:List Int):Prop where
 of:∀v∈L,∃a b,nh x0 y0 x1 y1 a b/\Bx V gw a b=v
 all:∀a b,nh x0 y0 x1 y1 a b->(b<y\/(b=y/\a<x))->Bx V gw a b∈L
theorem aaL.push{V:List Int}{y x:Nat}{L:List Int}(h:aaL V gw x0 y0 x1 y1 y x L)(I:nh x0 y0 x1 y1 x y):aaL V gw x0 y0 x1 y1 y (x+1) (L++[Bx V gw x y]):=by
 refine⟨λv z=>?_,λa b D J=>?_⟩
 ·rcases ez.1 z with z|z
  ·exact h.of v z
  ·exact⟨x,y,I,(dM.1 z).symm⟩
 ·by_cases e:b=y/\a=x
  ·obtain⟨rfl,rfl⟩:=e;exact lW _ (dM.2 rfl)
  ·exact f6 _ (h.all a b D om)
def dW(L:List Int)(lo hi:Int):Prop:=(∀v∈L,lo<=v/\v<=hi)/\lo∈L/\hi∈L
theorem dW.push{L:List Int}{lo hi D y v:Int}(h:dW L lo hi)(I:D=min lo v)(J:y=max hi v):dW (L++[v]) D y:=by
 obtain⟨h1,h2,O⟩:=h;refine⟨λu z=>?_,?_,?_⟩
 ·rcases ez.1 z with z|z
  ·have:=h1 u z;omega
  ·rw[dM.1 z];omega
 ·by_cases e:lo<=v
  ·rw[I,(om:min lo v=lo)];exact f6 _ h2
  ·rw[I,(om:min lo v=v)];exact lW _ (dM.2 rfl)
 ·by_cases e:v<=hi
  ·rw[J,(om:max hi v=hi)];exact f6 _ O
  ·rw[J,(om:max hi v=v)];exact lW _ (dM.2 rfl)
def VCz(W:World)(L:List HA)(Q:List Int->Prop)(σ:List Value)(wq:World):Prop:=match σ with
 |[]=>St No W wq L
 |[v]=>∃l A c,v=.tuple #[.slice A l.length c,ii 0]/\Q l/\St No W wq (.row 2 1 A l.length c (cY l)::L)
 |_=>False
section
variable{L:List HA}{Q:List Int->Prop}{σ:List Value}
theorem VCz.gr(h:VCz W L Q σ w)(g:Gr w w'):VCz W L Q σ w':=by
 match σ,h with
 |[],h=>exact St.gr (show St No W w L from h) g
 |[v],⟨l,A,c,e,q,S⟩=>exact⟨l,A,c,e,q,S.gr g⟩
theorem VCz.blk(h:VCz W L Q σ w){t:Nat}(hi:gi L i=some (.blk b t l)):eL w b t l:=by
 match σ,h with
 |[],h=>exact St.blk (show St No W w L from h) hi
 |[v],⟨_,_,_,e,q,S⟩=>exact S.blk (i:=i+1) hi
theorem VCz.out(h:VCz W L Q [] w):Gr W w:=St.out (show St No W w L from h)
theorem VCz.step(h:VCz W L Q [] w)(v:Value)(w':World)(D:∃L:List Int,Q L/\jc (λs=>.tuple #[s,ii 0]) 2 1 L.length (cY L) w v w'):VCz W L Q [v] w':=by
 obtain⟨l,q,A,c,rfl,z,y,g⟩:=D;exact⟨l,A,c,rfl,q,St.pushRow (show St No W w L from h) z y g⟩
end
def aaz(V:List Int)(gw x0 y0 x1 y1:Nat):List Int:=fi gw (λj=>V.getD j 0) x0 y0 (x1+1-x0) (y1+1-y0)
theorem aa5(V:List Int)(gw x0 y0 x1 y1:Nat):(aaz V gw x0 y0 x1 y1).length=(y1+1-y0)*(x1+1-x0):=lE _ _ _ _ _ _
theorem aa6{V:List Int}{v:Int}(h:v∈aaz V gw x0 y0 x1 y1):∃j,v=V.getD j 0:=by
 unfold aaz fi at h;obtain⟨b,_,y⟩:=og.1 h;unfold vV at y;obtain⟨a,_,z⟩:=fC.1 y;exact⟨_,z.symm⟩
section
variable{cap:Nat}{V:List Int}
theorem aaQ(x0 y0 x1 y1:Nat)(hw:1<=gw/\gw<=1024)(hh:1<=gh/\gh<=1024)(hx:x0<=x1/\x1<gw)(hy:y0<=y1/\y1<gh)(hV:V.length=gw*gh)(hA:Rd W A (cY V)) :
  Fn prog 23 [aaC gw gh A (gw*gh) cap,.agg #[ii x0,ii y0,ii x1,ii y1]] W
  (jc (λs=>.tuple #[s,ii 0]) 2 1 (aaz V gw x0 y0 x1 y1).length (cY (aaz V gw x0 y0 x1 y1)) W):=by
 have an:=λw=>aaP x0 y0 x1 y1 gw gh hw hh hx hy w;have hm:1<=gw*gh/\gw*gh<=1024*1024:=⟨cE hw.1 hh.1,cE hw.2 hh.2⟩;obtain⟨U,am⟩:∃U,U=x1+1-x0:=⟨_,rfl⟩;have ao:dO A:=hA.someA (by rw[gn];omega);unfold aaC;have S:=St.start W;refine zI func23 ?_;refine zN ?_;intro I aI aq S;refine zN ?_;intro J aJ ar S;refine zC (an _) ?_;intro aK au S;refine zg ?_;refine mv dk cR S ?_;intro v aL av S ah;refine zg ?_
 refine dl (λm e w=>∃(y:Nat)(L:List Int)(v:Option Addr)(D:Nat),y+m=y1+1/\y0<=y/\L.length=(y-y0)*U/\L=fi gw (λj=>V.getD j 0) x0 y0 U (y-y0)/\SL e [(2,pt I),(3,pt J),(7,.slice v L.length D),(8,ii y)] /\
  St No W w [.row 2 1 v L.length D (cY L),.blk J 24 [ii x0,ii y0,ii x1,ii y1],.blk I 38 [ii gw,ii gh,.slice A (gw*gh) cap]]) (y1+1-y0)
  ⟨y0,[],v,_,om,cN _,by simp,by rw[j8];rfl,sl,S⟩ ?_
 clear S;rintro m e w ⟨y,L,v,D,aG,aF,Z,O,ab,S⟩;rw[ab.fold];by_cases aH:y<=y1
 ·have hq:(y-y0+1)*U<=1024*1024:=cE om om;rw[cX,<-Z]at hq;obtain⟨q,ag⟩:∃q,q=L.length:=⟨_,rfl⟩;refine zg ?_
  refine dl (λm e w=>∃(x:Nat)(L:List Int)(v:Option Addr)(D:Nat),x+m=x1+1/\x0<=x/\L.length=q+(x-x0)/\L=fi gw (λj=>V.getD j 0) x0 y0 U (y-y0)++vV gw (λj=>V.getD j 0) x0 y (x-x0)/\SL e [(2,pt I),(3,pt J),(7,.slice v L.length D),(8,ii y),(9,ii x)] /\
   St No W w [.row 2 1 v L.length D (cY L),.blk J 24 [ii x0,ii y0,ii x1,ii y1],.blk I 38 [ii gw,ii gh,.slice A (gw*gh) cap]]) (x1+1-x0)
   ⟨x0,L,v,D,om,cN _,om,by rw[j8,<-O];exact(fG L).symm,sl,S⟩ ?_
  rw[<-ag]at hq;rw[<-ag]at Z;clear S O;rintro m2 e w ⟨x,L,v,D,aD,aC,az,O,ab,S⟩;rw[ab.fold];by_cases aE:x<=x1
  ·have aB:y*gw+x<gw*gh:=by
    have:=cI gw (show y+1<=gh by omega);rw[cX,cD gh]at this;omega
   have e1:(y:Int)*(gw:Int)=((y*gw:Nat):Int):=by push_cast;rfl
   have aa:L++[V.getD (y*gw+x) 0]=fi gw (λj=>V.getD j 0) x0 y0 U (y-y0)++vV gw (λj=>V.getD j 0) x0 y (x+1-x0):=by
    rw[O,cL,(om:x+1-x0=(x-x0)+1),MJ,(om:x0+(x-x0)=x)]
   generalize y*gw=yg at *;have ae:(cY V)[((yg:Int)+(x:Int)).toNat * 1]?=some (ii (V.getD (yg+x) 0)):=by rw[cG,(om:((yg:Int)+(x:Int)).toNat=yg+x)];exact gc (kr om)
   (iterate 3 refine z ?_);refine zt ?_;iterate 6 refine z ?_
   refine cq (fh rfl (by rw[e1];omega)) ?_;rw[e1];refine zT (hA.gr S.out) ae ?_;refine yb S ?_;intro aj aM aw S ai;refine fM (i:=1) S rfl (λh=>rfl) dk jR rfl rfl rfl rfl (by simp) om (S.rd (i:=0) rfl) rfl om ?_;intro ac ad ap S ah;refine zg ?_;have S:=S.sub (.cons _ (.cons_cons _ (.cons_cons _ (.cons_cons _ (.slnil)))));refine⟨m2-1,om,x+1,L++[V.getD (yg+x) 0],ac,ad,om,om,by simp;omega,aa,⟨rfl,rfl,?_,rfl,ie om,trivial⟩,?_⟩
   ·rw[cP];rfl
   ·rw[cP,<-Qo];exact S
  ·have ak:x-x0=U:=om;rw[ak]at O;refine zg ?_;exact⟨m-1,om,y+1,L,v,D,om,om,by rw[(om:y+1-y0=(y-y0)+1),cX];omega,by rw[(om:y+1-y0=(y-y0)+1),yZ,(om:y0+(y-y0)=y)];exact O,sl,S⟩
 ·have ey:y=y1+1:=om;rw[ey]at O Z;have aA:(y1+1-y0)*U<=1024*1024:=cE om om;rw[am]at O;have al:aaz V gw x0 y0 x1 y1=L:=O.symm;rw[al];refine zX ?_;exact(S.retNew (i:=0) (mk:=λs=>.tuple #[s,ii 0]) rfl)
end
end Go.Proofs.YtceahkcepefcaaaGreatDoor
