/- A part of the proof that hachuretop.WholeCharts and hachuretop.WholeWater returns true at every input; no condition. -/
import Derived.Test.YtcalhocphkbbgaaGreatDoorKY
import Derived.Test.YtcalhocphkbbgaaGreatDoorKX
set_option maxRecDepth 100000
set_option maxHeartbeats 16000000
set_option linter.unusedVariables false
set_option linter.unusedSimpArgs false
namespace Go.Proofs.YtcalhocphkbbgaaGreatDoor
open Go.Proofs.Tryz Go.RowKit
variable{Q:(Nat->Value)->World->Prop}{af:Array Edge}{tys:Array TypeId}{bd:Code}{f:FuncId}{h:HA}{Y ax ay bx:Int}{σ:List (Nat × Value)}{K:List (Nat × Value)->Act->Prop}{M T tl:List HA}{args:List Operand}{l l2 vs xs:List Value}{N b c cB cK cap2 dn g gh gw i j k k' m n p p2 q sb:Nat}{cc:Nat->Int}{bs bs2:Nat->Nat}{R':Nat->Nat->Bool}{Rs Rs2:Nat->Option Nat}{F X:Nat->Prop}{e:Nat->Value}{o:m5}{hi x:Operand}{A B l0 o0 p0 pp:Option Addr}{d:Option Tmp}{P:Program}{r:Rc}{s:lT}{t ty:TypeId}{W w w' wq:World}{C:World->Prop}
structure wV(W:World)(o:m5):Prop where
 n:-9223372036854775808<=o.n/\o.n<=9223372036854775807
 m:-9223372036854775808<=o.m/\o.m<=9223372036854775807
 vs:∃V:List Int,o.vs.n=V.length/\Rd W o.vs.A (cY V)
 bs:∃l:List Int,o.bs.n=l.length/\o.bs.n<=o.bs.c/\Rd W o.bs.A (f9 l)
 bd:∃xs:List (Int×Int),o.bd.n=xs.length/\o.bd.n<=o.bd.c/\Rd W o.bd.A (kI xs)
theorem wV.gr(h:wV W o)(g:Gr W w):wV w o:=by
 obtain⟨V,h1,h2⟩:=h.vs;obtain⟨l,v,y,z⟩:=h.bs;obtain⟨xs,D,I,J⟩:=h.bd;exact⟨h.n,h.m,⟨V,h1,h2.gr g⟩,⟨l,v,y,z.gr g⟩,⟨xs,D,I,J.gr g⟩⟩
def C5(o:m5):Prop:=o.vs.n<=500/\o.bs.n<=2000/\o.bd.n<=40
theorem wV.ok(h:wV W o)(L:C5 o):IC W o:=by
 obtain⟨V,h1,h2⟩:=h.vs;obtain⟨l,v,y,z⟩:=h.bs;obtain⟨xs,D,I,J⟩:=h.bd;obtain⟨O,l2,S⟩:=L;exact⟨h.n,h.m,⟨V,h1,om,h2⟩,⟨l,v,y,om,z⟩,⟨xs,D,I,om,J⟩⟩
def G0(os:List m5):List Value:=os.flatMap m5.cs
theorem Md{os:List m5}(h:os[k]?=some o):((G0 os).drop ((k:Int).toNat * 14)).take 14=o.cs:=by
 rw[b7];exact lG (f:=m5.cs) (λ_=>rfl) h
theorem ID(os:List m5):(G0 os).length=os.length*14:=lF (f:=m5.cs) (λ_=>rfl) os
theorem Vl(os:List m5)(z:Nat)(au:z<=1000)(ab:∀o∈os,wV W o)(hA:Rd W A (G0 os)) :
  Fn prog 19 [.slice A os.length c,ii z] W (λv w'=>∃b,v=.bool b/\Gr W w'/\(b=false->os.length<=z/\∀o∈os,C5 o)):=by
 have D:∀{w:World}{L:List HA},St No W w L->∃b,(.bool true:Value)=.bool b/\Gr W w/\(b=false->os.length<=z/\∀o∈os,C5 o):=λS=>⟨true,rfl,S.out,λh=>by cases h⟩;generalize hN:os.length=N at *;have S:=St.start W;refine zI func19 ?_;rcases fv ((N:Int)>z)with ae|ae
 ·skip;refine zX ?_;exact(D S)
 ·skip;refine zg ?_
  refine dl (λk e w=>∃i:Nat,i+k=N/\(∀j o,j<i->os[j]?=some o->C5 o)/\SL e [(0,.slice A N c),(5,ii i)]/\St No W w []) N
   ⟨0,om,(λj o h=>absurd h om),sl,S⟩ ?_
  clear S;rintro k e w ⟨i,hi,Z,I,S⟩;rw[I.fold];rcases fv (i<N)with ag|ag
  ·obtain⟨o,ho⟩:∃o,os[i]?=some o:=⟨os[i],fw om⟩;have ah:=Md ho;have hr:=ab o (dD ho);obtain⟨b8,O,U,V⟩:=hr.bs;have am:dO A:=hA.someA (by rw[ID];omega)
   have y:C5 o->∀j q,j<i+1->os[j]?=some q->C5 q:=λh j q hj hq=>by
    rcases eV j i with h1|h1
    ·exact Z j q h1 hq
    ·obtain rfl:j=i:=om;rw[ho]at hq;injection hq with hq;exact hq▸h
   clear hr;obtain⟨k',ai,ak,aj,al,ax,ay,bx,ac,n,m,⟨vA,vn,vc⟩,⟨bA,bn,bc⟩,⟨dA,dn,dc⟩⟩:=o;unfold C5 at y;dsimp only at O U V y;subst O;refine zg ?_;refine ZU (hA.gr S.out) ah ?_;refine zN ?_;intro J aB ao S;refine Z1 0 S ?_;intro aC S;refine ze ?_;rcases fv ((vn:Int)>500)with h1|h1
   ·skip;refine yA ?_;exact ir rfl (D S)
   ·rcases fv ((b8.length:Int)>2000)with h2|h2
    ·skip;repeat refine dm ?_
     refine dz ?_;refine dU (du eE rfl jN rfl rfl) ?_;refine dH (cV fZ rfl rfl (S.blk (i:=0) rfl) rfl) ?_;refine dU (p6 fZ rfl) ?_;refine dU (ff (b:=false) rfl (iO om)) ?_;refine dU (jx rfl) ?_;first|refine eD rfl ?_|(refine dr rfl ?_;refine dU (du eE rfl nr rfl rfl) ?_)
     first|refine eD rfl ?_|(refine dr rfl ?_;refine dH (cV fR rfl rfl (S.blk (i:=0) rfl) rfl) ?_)
     first|refine eD rfl ?_|(refine dr rfl ?_;refine dU (p6 fR rfl) ?_)
     first|refine eD rfl ?_|(refine dr rfl ?_;refine dU (ff (b:=true) rfl (fD om)) ?_)
     iterate 2 refine dU (jx rfl) ?_
     first|refine eD rfl ?_|(refine dr rfl ?_;refine dU (du eE rfl sizeOf44 rfl rfl) ?_)
     first|refine eD rfl ?_|(refine dr rfl ?_;refine dH (cV iG rfl rfl (S.blk (i:=0) rfl) rfl) ?_)
     first|refine eD rfl ?_|(refine dr rfl ?_;refine dU (p6 iG rfl) ?_)
     first|refine eD rfl ?_|(refine dr rfl ?_;(first|refine dU (ff (b:=true) rfl (fD om)) ?_|refine dU (ff (b:=false) rfl (iO om)) ?_|refine dU (jx rfl) ?_))
     refine dU (jx rfl) ?_;first|refine eF ?_|(refine di ?_;show CW _ _ _ _ _ _)|refine di ?_
     repeat refine dm ?_
     refine jr rfl ?_;repeat refine dm ?_
     refine dz ?_;refine dU (jx rfl) ?_;first|refine eF ?_|(refine di ?_;show CW _ _ _ _ _ _)|refine di ?_
     repeat refine dm ?_
     refine mJ ?_;repeat first|refine mL ?_|refine oq ?_
     exact ir rfl (D S)
    ·rcases fv ((dn:Int)>40)with h3|h3
     ·skip;refine yA ?_;exact ir rfl (D S)
     ·replace y:=y ⟨om,om,om⟩;have hl:=λw=>RN (W:=w) (A:=bA) (c:=bc) (l:=b8) U om;obtain⟨p,hp⟩:∃p,IntKind.i64.wrap (n*m)=p:=⟨_,rfl⟩;repeat refine dm ?_
      refine dz ?_;refine dU (du eE rfl jN rfl rfl) ?_;refine dH (cV fZ rfl rfl (S.blk (i:=0) rfl) rfl) ?_;refine dU (p6 fZ rfl) ?_;refine dU (ff (b:=false) rfl (iO om)) ?_;refine dU (jx rfl) ?_;first|refine eD rfl ?_|(refine dr rfl ?_;refine dU (du eE rfl nr rfl rfl) ?_)
      first|refine eD rfl ?_|(refine dr rfl ?_;refine dH (cV fR rfl rfl (S.blk (i:=0) rfl) rfl) ?_)
      first|refine eD rfl ?_|(refine dr rfl ?_;refine dU (p6 fR rfl) ?_)
      first|refine eD rfl ?_|(refine dr rfl ?_;refine dU (ff (b:=false) rfl (iO om)) ?_)
      iterate 2 refine dU (jx rfl) ?_
      first|refine eD rfl ?_|(refine dr rfl ?_;refine dU (du eE rfl sizeOf44 rfl rfl) ?_)
      first|refine eD rfl ?_|(refine dr rfl ?_;refine dH (cV iG rfl rfl (S.blk (i:=0) rfl) rfl) ?_)
      first|refine eD rfl ?_|(refine dr rfl ?_;refine dU (p6 iG rfl) ?_)
      first|refine eD rfl ?_|(refine dr rfl ?_;refine dU (ff (b:=false) rfl (iO om)) ?_)
      refine dU (jx rfl) ?_;first|refine eF ?_|(refine di ?_;show CW _ _ _ _ _ _)|refine di ?_
      repeat refine dm ?_
      refine eX rfl ?_;repeat refine dm ?_
      refine gO ?_;try show CW _ _ _ _ _ _
      repeat refine dm ?_
      refine gP (M:=λe w=>∃B:Bool,SL e [(0,.slice A N c),(5,ii i),(6,pt J),(70,.bool B)]/\St No W w [.blk J 46 [ii k',ii ai,ii ak,ii aj,ii al,ii ax,ii ay,ii bx,ii ac,ii n,ii m,.slice vA vn vc,.slice bA b8.length bc,.slice dA dn dc]]) ?_ ?_
      ·by_cases hk:k'=1
       ·by_cases av:n>0
        ·by_cases aq:m>0
         ·by_cases aw:n<=1024
          ·by_cases ar:m<=1024
           ·by_cases az:p>300
            all_goals
             refine yA ?_;exact⟨_,sl,S⟩
           ·skip;refine zg ?_;exact⟨_,sl,S⟩
          ·skip;refine zg ?_;exact⟨_,sl,S⟩
         ·skip;refine zg ?_;exact⟨_,sl,S⟩
        ·skip;refine zg ?_;exact⟨_,sl,S⟩
       ·skip;refine zg ?_;exact⟨_,sl,S⟩
      ·rintro e w3 ⟨B9,I,S⟩;rw[I.fold];rcases B9 with _|_
       ·skip;refine zc ?_;refine eX rfl ?_;refine zc ?_;refine gO ?_;try show CW _ _ _ _ _ _
        rcases fv (k'=24)with hk|hk
        ·skip;repeat refine dm ?_
         refine dz ?_;refine dU (du eE rfl fa rfl rfl) ?_;refine dH (cV dB rfl rfl (S.blk (i:=0) rfl) rfl) ?_;refine dU (ff (b:=true) rfl (fX.2 om)) ?_;first|refine eF ?_|(refine di ?_;show CW _ _ _ _ _ _)|refine di ?_
         repeat refine dm ?_
         refine jr rfl ?_;repeat refine dm ?_
         refine dz ?_;refine dU (du eE rfl nr rfl rfl) ?_;refine dH (cV fR rfl rfl (S.blk (i:=0) rfl) rfl) ?_;refine eY rfl (hl w3 (V.gr S.out)) ?_;rintro _ aD ⟨X,Y,B,K,nB,cB,nK,cK,b,rfl,ad⟩;have S:=S.gr ad;refine zN ?_;intro an aE ap S;refine zS ?_;intro aF S;obtain⟨p2,aa⟩:∃p,IntKind.i64.wrap (X*Y)=p:=⟨_,rfl⟩;rcases b with _|_
         ·skip;refine zg ?_;exact⟨k-1,om,i+1,om,y,sl,S.drop 2⟩
         ·by_cases aA:p2>300
          ·skip;refine zg ?_;refine dr rfl ?_;refine dU (wS rfl rfl aa) ?_;refine zX ?_;exact(D S)
          ·skip;refine zg ?_;refine dr rfl ?_;refine dU (wS rfl rfl aa) ?_;refine zg ?_;exact⟨k-1,om,i+1,om,y,sl,S.drop 2⟩
        ·skip;repeat refine dm ?_
         refine dz ?_;refine dU (du eE rfl fa rfl rfl) ?_;refine dH (cV dB rfl rfl (S.blk (i:=0) rfl) rfl) ?_;refine dU (ff (b:=false) rfl (et.2 om)) ?_;first|refine eF ?_|(refine di ?_;show CW _ _ _ _ _ _)|refine di ?_
         repeat refine dm ?_
         refine eX rfl ?_;repeat refine dm ?_
         refine gO ?_;try show CW _ _ _ _ _ _
         repeat refine dm ?_
         refine dz ?_;refine dU (jx rfl) ?_;refine dU (fh rfl om) ?_;refine dU (jx rfl) ?_;first|refine eF ?_|(refine di ?_;show CW _ _ _ _ _ _)|refine di ?_
         exact⟨k-1,om,i+1,om,y,sl,S.drop 1⟩
       ·skip;refine zX ?_;exact(D S)
  ·obtain rfl:i=N:=om;refine zX ?_
   exact⟨false,rfl,S.out,λ_=>⟨om,λo ho=>by
    obtain⟨j,hj,rfl⟩:=gK.1 ho;exact Z j _ om (fw hj)⟩⟩
theorem xV.st(h:xV sb j W w tl):∃L,St No W w L:=by
 rcases h with⟨p0,S⟩|⟨s,Q,_,_,S⟩
 ·exact⟨_,S⟩
 ·exact⟨_,S⟩
section
theorem Xz(os:List m5)(hN:os.length<=30)(hT:jX W)(D:∀o∈os,IC W o)(O:Rd W A (G0 os)) :
  Fn prog 7 [.slice A os.length c] W (λv w'=>∃sb,v=pt sb/\xV sb os.length W w' []):=by
 generalize aa:os.length=N at *;have S:=St.start W;refine zI func7 ?_;refine zK (Gk) ?_;rintro _ ab ⟨sb,pp,rfl,Z⟩;have S:=S.app Z;refine zg ?_
 refine dl (λk e w=>∃i:Nat,i+k=N/\SL e [(0,.slice A N c),(3,pt sb),(4,ii i)]/\xV sb i W w []) N
  ⟨0,om,sl,.inl ⟨_,S.sub (.cons_cons _ (.cons _ .slnil))⟩⟩ ?_
 clear S;rintro k e w ⟨i,hi,J,y⟩;obtain⟨L,S⟩:=y.st;rw[J.fold];rcases fv (i<N)with z|z
 ·obtain⟨o,U⟩:∃o,os[i]?=some o:=⟨os[i],fw om⟩;have I:=Md U;have hr:=D o (dD U);have V:dO A:=O.someA (by rw[ID];omega);refine zg ?_;refine ZU (O.gr S.out) I ?_;refine zK (Xy hT hr (show i<40 by omega) y) ?_;rintro _ ac ⟨r,rfl,y⟩;refine zg ?_;exact⟨k-1,om,i+1,om,sl,y⟩
 ·obtain rfl:i=N:=om;refine zX ?_;exact⟨sb,rfl,y⟩
theorem SM:Fn prog 23 [.pointer none] W (dp (.pointer none) W):=by
 have S:=St.start W;refine zI func23 ?_;exact zZ
theorem Me{y:Int}(v:eL W sb 73 [.pointer none,.pointer l0,.pointer o0,ii y,.pointer p0]):Fn prog 10 [pt sb] W (dp (.pointer none) W):=by
 have S:=St.start W;refine zI func10 ?_;iterate 6 refine z ?_
 refine dH (cV kO rfl rfl (v.gr S.out) rfl) ?_;refine zC (SM) ?_;intro I D S;exact zZ
theorem Vm{cap:Nat}{J:Int}(I:eL W sb 73 [pt p,.pointer l0,.pointer o0,ii J,.pointer p0])(O:eJ W p gw gh cc A cap bs Rs) :
  Fn prog 10 [pt sb] W (qw id gw gh cc W):=by
 have S:=St.start W;refine zI func10 ?_;iterate 6 refine z ?_
 refine dH (cV kO rfl rfl (I.gr S.out) rfl) ?_;refine zK (FX (W:=W) (O.gr S.out)) ?_;rintro _ U ⟨p2,L,cap2,bs2,Rs2,rfl,v,y,D⟩;have S:=S.pushGrid v y D;refine zX ?_;exact(S.retGrid (i:=0) rfl)
section
variable{L:List HA}{z:List Value}{cs:Value->List Value}{T:Value->List HA->Prop}{ps:String}
theorem C6(h:rp F W L i j k t z cs T σ w)(hi:σ.lookup i=none)(O:σ.lookup k=none)(y:(j==i)=false)(D:(k==i)=false)(V:lj (args.map (ev e))=some vs)(J:∀Q,St F W w (Q++L)->Fn P f vs w (λv w'=>T v []/\St F W w' (Q++L))):gI P e ⟨d,.call ⟨.value (.func f),args.toArray,tys⟩,ty,ps,af,none⟩ w (λv w'=>rp F W L i j k t z cs T ((i,v)::σ) w'):=by
 obtain⟨Q,S,U⟩:=rp.call h hi O y D;exact l4 V ((J Q S).mono λv w'⟨I,S2⟩=>U v [] w' I S2)
end
theorem OQ(S:St No W w (WQ sb p0::tl)):Fn prog 8 [pt sb] w (λv w'=>v=.tuple #[.agg #[ii 0,ii 0,.slice none 0 0],.bool false]/\St No W w' (WQ sb p0::tl)):=by
 replace S:St No W w (.blk sb 73 [.pointer none,.pointer none,.pointer none,ii 0,.pointer p0]::tl):=S;refine zI func8 ?_;refine zN ?_;intro b_res w2_ g2_ S;refine zC (Me (S.blk (i:=1) rfl)) ?_;refine zS ?_;intro w4_ S;exact pG S ⟨rfl,S.drop 1⟩
theorem Vn{Q:List HA}(hB:Bk j s Q)(S:St No W w ((s.L++Q)++tl)):Fn prog 8 [pt s.sb] w (λv w'=>∃(A:Option Addr)(c:Nat),v=.tuple #[.agg #[ii s.gw,ii s.gh,.slice A (s.gw*s.gh) c],.bool true]/\St No W w' (.row 2 1 A (s.gw*s.gh) c (cY s.V)::((s.L++Q)++tl))):=by
 have hw:=(S.grid (i:=1) rfl).sw;have hh:=(S.grid (i:=1) rfl).sh;have hm:s.gw*s.gh<=1024*1024:=fy hw.2 hh.2;have L:(s.gw:Int)*s.gh=((s.gw*s.gh:Nat):Int):=by push_cast;rfl
 have ag:∀(i:Nat),i<s.gw*s.gh->∀(N:List HA)(w:World),St No W w (N++((s.L++Q)++tl))->Fn prog 9 [pt s.sb,.agg #[ii 6,ii 0,ii 0,ii 0,ii 0,ii (i%s.gw:Nat),ii (i/s.gw:Nat),ii 0,ii 0,ii 0,ii 0,.slice none 0 0,.slice none 0 0,.slice none 0 0]] w
   (λv w'=>v=({ code:=0,n:=s.cc i }:gZ).v/\St No W w' (N++((s.L++Q)++tl))):=λi hi N w S=>by
  have ah:mD s.gw s.gh ((i%s.gw:Nat),(i/s.gw:Nat))=true:=jT.2 ⟨m6 _,ke.2 (dt i om),m6 _,ke.2 (cS hi)⟩;have V:=PZ (F:=No) (W:=W) (M:=Q) (s:=s) (o:=⟨6,0,0,0,0,(i%s.gw:Nat),(i/s.gw:Nat),0,0,0,0,⟨none,0,0⟩,⟨none,0,0⟩,⟨none,0,0⟩⟩) rfl;dsimp only at V;unfold LS at V;rw[a7 ah,a7 ah,b7,b7,show i/s.gw*s.gw+i%s.gw=i by rw[cD];exact dP i s.gw]at V;exact(tj rfl true (rV (by dsimp only;decide) (by dsimp only;decide)) V (St.mid S)).mono λv w'⟨_,hv,S'⟩=>⟨hv,St.mid S'⟩
 have hV:s.V=(List.range (s.gw*s.gh)).map s.cc:=rfl;rw[hV];replace S:St No W w (.blk s.sb 73 s.top::(s.rest++Q++tl)):=S;refine zI func8 ?_;refine zN ?_;intro D aH aE S;refine zK (Vm (S.blk (i:=1) rfl) (S.grid (i:=2) rfl)) ?_;rintro _ aI ⟨p2,aD,cap2,bs2,Rs2,rfl,ac,ad,ak⟩;have S:=S.pushGrid ac ad ak;refine zC (mC p2 s.gw s.gh _ _ ((S.grid (i:=0) rfl).top)) ?_;intro aJ aF S;refine zN ?_;intro I aK aG S;refine zS ?_;intro aL S;have S:=S.sub (show List.Sublist (.blk I 31 [ii s.gw,ii s.gh,.slice none 0 0]::.blk D 31 [ii 0,ii 0,.slice none 0 0]::((s.L++Q)++tl)) _ from .cons_cons _ (.cons _ (cQ _)));have S:=S.pushNil 2 1;generalize hN:s.gw*s.gh=N at *
 refine dl (λk e w=>∃(i:Nat)(A:Option Addr)(c:Nat),i+k=N/\SL e [(0,pt s.sb),(2,pt D),(5,ii s.gw),(6,ii s.gh),(7,pt I),(8,ii i)]/\St No W w (.row 2 1 A i c (cY ((List.range i).map s.cc))::.blk I 31 [ii s.gw,ii s.gh,.slice A i c]::.blk D 31 [ii 0,ii 0,.slice none 0 0]::((s.L++Q)++tl))) N
  ⟨0,none,0,om,sl,S⟩ ?_
 clear S;rintro k e w ⟨i,A,c,hi,Z,S⟩;rw[Z.fold];rcases fv (i<N)with ai|ai
 ·have em:(i:Int)%s.gw=((i%s.gw:Nat):Int):=by push_cast;rfl
  have ed:(i:Int)/s.gw=((i/s.gw:Nat):Int):=by push_cast;rfl
  have V:=ag i ai;have O:cY ((List.range i).map s.cc)++[ii (s.cc i)]=cY ((List.range (i+1)).map s.cc):=by rw[eG];simp[cY]
  have am:∃z,z=s.cc i:=⟨_,rfl⟩;obtain⟨z,hz⟩:=am;rw[<-hz]at V O;generalize i%s.gw=x at *;generalize i/s.gw=y at *;repeat refine dm ?_
  refine dz ?_;iterate 3 refine dU (jx rfl) ?_
  refine dU (fh rfl (by rw[L];omega)) ?_;rw[L];refine zg ?_;have ae:=λ(Q1:List HA)w(S:St No W w (Q1++(.row 2 1 A i c (cY ((List.range i).map s.cc))::.blk I 31 [ii s.gw,ii s.gh,.slice A i c]::.blk D 31 [ii 0,ii 0,.slice none 0 0]::((s.L++Q)++tl))))=>(V (Q1++[.row 2 1 A i c (cY ((List.range i).map s.cc)),.blk I 31 [ii s.gw,ii s.gh,.slice A i c],.blk D 31 [ii 0,ii 0,.slice none 0 0]]) w (by rw[cL];exact S)).mono (R':=λv w'=>(v=({ code:=0,n:=z }:gZ).v/\([]:List HA)=[])/\St No W w' (Q1++(.row 2 1 A i c (cY ((List.range i).map s.cc))::.blk I 31 [ii s.gw,ii s.gh,.slice A i c]::.blk D 31 [ii 0,ii 0,.slice none 0 0]::((s.L++Q)++tl)))) λv w'⟨hv,S'⟩=>⟨⟨hv,rfl⟩,by rw[cL]at S';exact S'⟩;refine zc ?_;refine gP (M:=λe w=>∃b9:Nat,SL e [(0,pt s.sb),(2,pt D),(5,ii s.gw),(6,ii s.gh),(7,pt I),(8,ii i),(9,pt b9)]/\St No W w (.blk b9 40 [ii 0,ii z,.bool false,ii 0,ii 0,.slice none 0 0,.slice none 0 0,.slice none 0 0,.slice none 0 0,.slice none 0 0]::.row 2 1 A i c (cY ((List.range i).map s.cc))::.blk I 31 [ii s.gw,ii s.gh,.slice A i c]::.blk D 31 [ii 0,ii 0,.slice none 0 0]::((s.L++Q)++tl))) ?_ ?_
  ·skip;refine zc ?_;refine nI (C:=(rp No W (.row 2 1 A i c (cY ((List.range i).map s.cc))::.blk I 31 [ii s.gw,ii s.gh,.slice A i c]::.blk D 31 [ii 0,ii 0,.slice none 0 0]::((s.L++Q)++tl)) 9 10 11 40 [ii 0,ii 0,.bool false,ii 0,ii 0,.slice none 0 0,.slice none 0 0,.slice none 0 0,.slice none 0 0,.slice none 0 0] (λ_=>[ii 0,ii z,.bool false,ii 0,ii 0,.slice none 0 0,.slice none 0 0,.slice none 0 0,.slice none 0 0,.slice none 0 0]) (λv Q=>v=({ code:=0,n:=z }:gZ).v/\Q=[]))) [9,10,11] (.one 0 (.one 1 (.one 2 (.one 3 (.one 4 (.one 5 (.one 6 (.one 7 (.one 8 (.two 9 (.one 10 (.one 11 .nil)) 10 (.one 9 (.one 11 .nil)))))))))))) [] (by kernel_rfl) (by kernel_rfl) (rp.start (S.gr (Gr.drew _))) ?_;simp only[qK,iS,dK,dR];refine zW ?_;rw[em];refine zW ?_;rw[ed];refine zW ?_;refine nf ?_ ?_
   ·refine dC rfl rfl (λwq J=>C6 J rfl rfl rfl rfl rfl (λQ S=>ae Q wq S)) ?_;rintro v9 w9 h9;obtain⟨_,rfl,_⟩:=h9.val rfl;refine zW ?_;refine dC rfl rfl (λwq J=>sB J rfl rfl rfl rfl pI rfl) ?_;rintro ao aq U;obtain⟨aj,rfl⟩:=U.adr rfl;refine zW ?_;refine dC rfl rfl (λwq J=>sC J rfl rfl rfl rfl rfl (sizeOf40 _) rfl rfl rfl rfl rfl) ?_;rintro ap ar al;refine zW ?_;refine jm ?_;rintro wz hz;obtain⟨_,⟨_,rfl⟩,S⟩:=hz.fin rfl rfl rfl;refine ze ?_;exact⟨_,sl,S⟩
   ·refine dC rfl rfl (λwq J=>sB J rfl rfl rfl rfl pI rfl) ?_;rintro ao aq U;obtain⟨aj,rfl⟩:=U.adr rfl;refine zW ?_;refine dC rfl rfl (λwq J=>C6 J rfl rfl rfl rfl rfl (λQ S=>ae Q wq S)) ?_;rintro v9 w9 h9;obtain⟨_,rfl,_⟩:=h9.val rfl;refine zW ?_;refine dC rfl rfl (λwq J=>sC J rfl rfl rfl rfl rfl (sizeOf40 _) rfl rfl rfl rfl rfl) ?_;rintro ap ar al;refine zW ?_;refine jm ?_;rintro wz hz;obtain⟨_,⟨_,rfl⟩,S⟩:=hz.fin rfl rfl rfl;refine ze ?_;exact⟨_,sl,S⟩
  ·rintro e w2 ⟨b9,Z,S⟩;rw[Z.fold];refine zg ?_;refine yb S ?_;intro au az av S an;refine ZP 2 0 S ?_;intro aa ab aA S aw;refine zS ?_;intro aB S;have S:=S.drop 2;rw[O]at S;exact⟨k-1,om,i+1,aa,ab,om,sl,S⟩
 ·obtain rfl:i=N:=om;iterate 3 refine z ?_
  refine dU (fh rfl (by rw[L];omega)) ?_;rw[L];refine zS ?_;intro aC S;exact pG S ⟨A,c,rfl,S.sub (.cons_cons _ (.cons _ (.cons _ (cQ _))))⟩
end
theorem xV.baseL{L:List HA}(S:St No W w L)(h:xV sb j w w' []):xV sb j W w' L:=by
 rcases h with⟨p0,v⟩|⟨s,Q,h1,h2,v⟩
 ·exact .inl ⟨p0,S.app v⟩
 ·have:=S.app v;rw[fG]at this;exact .inr ⟨s,Q,h1,h2,this⟩
theorem St.mid1{A B C:List HA}(S:St F W w (h::(A++(B++C)))):St F W w (h::(B++(A++C))):=by
 refine S.perm_ (.cons _ ?_);rw[<-cL,<-cL];exact ft.append_right C
theorem XL(os:List m5)(y:∀o∈os,wV W o)(D:Rd W A (G0 os)) :
  Fn prog 6 [.slice A os.length c] W (λv w'=>∃b,v=.bool b/\Gr W w'/\(b=false->os.length<=30/\∀o∈os,C5 o)):=by
 have S:=St.start W;refine zI func6 ?_;refine zK (Vl os 30 (by decide) (λo J=>(y o J).gr S.out) (D.gr S.out)) ?_;rintro _ L ⟨b,rfl,z,I⟩;have S:=S.gr z;refine zX ?_;exact⟨b,rfl,S.out,I⟩
theorem abd{V:List Int}(x y:Int)(v:V.length=gw*gh)(D:gw*gh<=1048576)(z:Rd W A (cY V)) :
  Fn prog 11 [aaC gw gh A (gw*gh) c,.agg #[ii x,ii y]] W (dp (.tuple #[ii (if mD gw gh (x,y)=true then V.getD (y.toNat * gw+x.toNat) 0 else 0),ii (LS gw gh x y)]) W):=by
 unfold LS;cases h:mD gw gh (x,y)
 ·exact aa8 x y _ h
 ·rw[<-v];exact abe x y h v D z
theorem abE{V:List Int}(hi:i<gw*gh)(y:V.length=gw*gh)(D:gw*gh<=1048576)(z:Rd W A (cY V)) :
  Fn prog 11 [.agg #[ii gw,ii gh,.slice A (gw*gh) c],.agg #[ii (i%gw:Nat),ii (i/gw:Nat)]] W (dp (.tuple #[ii (V.getD i 0),ii 0]) W):=by
 have v:0<gw:=fT λe=>by rw[e,iD]at hi;omega
 have h:=abe (W:=W) (A:=A) (cap:=c) (gw:=gw) (gh:=gh) (V:=V) (i%gw:Nat) (i/gw:Nat) (jT.2 ⟨m6 _,ke.2 (dt _ v),m6 _,ke.2 (cS hi)⟩) y D z;rw[y,b7,b7,show i/gw*gw+i%gw=i by rw[cD];exact dP i gw]at h;exact h
end Go.Proofs.YtcalhocphkbbgaaGreatDoor
