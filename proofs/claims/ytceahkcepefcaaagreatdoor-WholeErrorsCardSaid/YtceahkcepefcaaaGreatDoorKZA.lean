/- A part of the proof that hachuretop.WholeErrors returns true at every input; no condition. -/
import Derived.Test.YtceahkcepefcaaaGreatDoorKY
import Derived.Test.YtceahkcepefcaaaGreatDoorKZ
set_option maxRecDepth 100000
set_option maxHeartbeats 16000000
set_option linter.unusedVariables false
set_option linter.unusedSimpArgs false
namespace Go.Proofs.YtceahkcepefcaaaGreatDoor
open Go.Proofs.Tryz Go.RowKit
variable{Q:(Nat->Value)->World->Prop}{af:Array Edge}{tys:Array TypeId}{bd:Code}{f:FuncId}{h:HA}{a ax ay bx e0:Int}{σ:List (Nat × Value)}{M T tl:List HA}{args:List Operand}{l vs:List Value}{N b c cap2 cd dn g gh gw i j k m n p p2 sb x0 x1 y0 y1:Nat}{cc:Nat->Int}{bs bs2:Nat->Nat}{R':Nat->Nat->Bool}{Rs Rs2:Nat->Option Nat}{F X:Nat->Prop}{e:Nat->Value}{o:m5}{hi x:Operand}{A B l0 o0 p0 pp:Option Addr}{d:Option Tmp}{P:Program}{r:Rc}{s:lT}{H:Type}{t ty:TypeId}{v1:Value}{W w w' wq:World}{C:World->Prop}
theorem xV.st(h:xV sb j W w tl):∃L,St No W w L:=by
 rcases h with⟨p0,S⟩|⟨s,Q,_,_,S⟩
 ·exact⟨_,S⟩
 ·exact⟨_,S⟩
section
theorem Xz(os:List m5)(hN:os.length<=30)(hT:jX W)(D:∀o∈os,IC W o)(O:Rd W A (G0 os)) :
  Fn prog 7 [.slice A os.length c] W (λv w'=>∃sb,v=pt sb/\xV sb os.length W w' []):=by
 generalize aa:os.length=N at *;have S:=St.start W;refine zI func7 ?_;refine zK (Gk) ?_;rintro _ ab ⟨sb,pp,rfl,Z⟩;have S:=S.app Z;refine zg ?_
 refine dl (λk e w=>∃i:Nat,i+k=N/\SL e [(0,.slice A N c),(3,pt sb),(4,ii i)]/\xV sb i W w []) N
  ⟨0,om,sl,.inl ⟨_,S.sub (.cons_cons _ (.cons _ .slnil))⟩⟩ ?_
 clear S;rintro k e w ⟨i,hi,J,y⟩;obtain⟨L,S⟩:=y.st;rw[J.fold];rcases cr (i<N)with z|z
 ·obtain⟨o,U⟩:∃o,os[i]?=some o:=⟨os[i],ct om⟩;have I:=Md U;have hr:=D o (dD U);have V:dO A:=O.someA (by rw[ID];omega);refine zg ?_;refine ZU (O.gr S.out) I ?_;refine zK (Xy hT hr (show i<40 by omega) y) ?_;rintro _ ac ⟨r,rfl,y⟩;refine zg ?_;exact⟨k-1,om,i+1,om,sl,y⟩
 ·obtain rfl:i=N:=om;refine zX ?_;exact⟨sb,rfl,y⟩
theorem SM:Fn prog 22 [.pointer none] W (dp (.pointer none) W):=by
 have S:=St.start W;refine zI func22 ?_;exact zZ
theorem Me{y:Int}(v:eL W sb 71 [.pointer none,.pointer l0,.pointer o0,ii y,.pointer p0]):Fn prog 10 [pt sb] W (dp (.pointer none) W):=by
 have S:=St.start W;refine zI func10 ?_;iterate 6 refine z ?_
 refine dH (cV Y5 rfl rfl (v.gr S.out) rfl) ?_;refine zC (SM) ?_;intro I D S;exact zZ
theorem Vm{cap:Nat}{J:Int}(I:eL W sb 71 [pt p,.pointer l0,.pointer o0,ii J,.pointer p0])(O:eJ W p gw gh cc A cap bs Rs) :
  Fn prog 10 [pt sb] W (qw id gw gh cc W):=by
 have S:=St.start W;refine zI func10 ?_;iterate 6 refine z ?_
 refine dH (cV Y5 rfl rfl (I.gr S.out) rfl) ?_;refine zK (FX (W:=W) (O.gr S.out)) ?_;rintro _ U ⟨p2,L,cap2,bs2,Rs2,rfl,v,y,D⟩;have S:=S.pushGrid v y D;refine zX ?_;exact(S.retGrid (i:=0) rfl)
section
variable{L:List HA}{z:List Value}{cs:Value->List Value}{T:Value->List HA->Prop}{ps:String}
theorem C6(h:rp F W L i j k t z cs T σ w)(hi:σ.lookup i=none)(O:σ.lookup k=none)(y:(j==i)=false)(D:(k==i)=false)(V:lj (args.map (ev e))=some vs)(J:∀Q,St F W w (Q++L)->Fn P f vs w (λv w'=>T v []/\St F W w' (Q++L))):gI P e ⟨d,.call ⟨.value (.func f),args.toArray,tys⟩,ty,ps,af,none⟩ w (λv w'=>rp F W L i j k t z cs T ((i,v)::σ) w'):=by
 obtain⟨Q,S,U⟩:=rp.call h hi O y D;exact l4 V ((J Q S).mono λv w'⟨I,S2⟩=>U v [] w' I S2)
end
theorem OQ(S:St No W w (WQ sb p0::tl)):Fn prog 8 [pt sb] w (λv w'=>v=.tuple #[.agg #[ii 0,ii 0,.slice none 0 0],.bool false]/\St No W w' (WQ sb p0::tl)):=by
 replace S:St No W w (.blk sb 71 [.pointer none,.pointer none,.pointer none,ii 0,.pointer p0]::tl):=S;refine zI func8 ?_;refine zN ?_;intro b_res w2_ g2_ S;refine zC (Me (S.blk (i:=1) rfl)) ?_;refine zS ?_;intro w4_ S;exact pG S ⟨rfl,S.drop 1⟩
theorem Vn{Q:List HA}(hB:Bk j s Q)(S:St No W w ((s.L++Q)++tl)):Fn prog 8 [pt s.sb] w (λv w'=>∃(A:Option Addr)(c:Nat),v=.tuple #[.agg #[ii s.gw,ii s.gh,.slice A (s.gw*s.gh) c],.bool true]/\St No W w' (.row 2 1 A (s.gw*s.gh) c (cY s.V)::((s.L++Q)++tl))):=by
 have hw:=(S.grid (i:=1) rfl).sw;have hh:=(S.grid (i:=1) rfl).sh;have hm:s.gw*s.gh<=1024*1024:=cE hw.2 hh.2;have L:(s.gw:Int)*s.gh=((s.gw*s.gh:Nat):Int):=by push_cast;rfl
 have ag:∀(i:Nat),i<s.gw*s.gh->∀(N:List HA)(w:World),St No W w (N++((s.L++Q)++tl))->Fn prog 9 [pt s.sb,.agg #[ii 6,ii 0,ii 0,ii 0,ii 0,ii (i%s.gw:Nat),ii (i/s.gw:Nat),ii 0,ii 0,ii 0,ii 0,.slice none 0 0,.slice none 0 0,.slice none 0 0]] w
   (λv w'=>v=({ code:=0,n:=s.cc i }:gZ).v/\St No W w' (N++((s.L++Q)++tl))):=λi hi N w S=>by
  have ah:mD s.gw s.gh ((i%s.gw:Nat),(i/s.gw:Nat))=true:=jT.2 ⟨m6 _,ke.2 (dt i om),m6 _,ke.2 (cS hi)⟩;have V:=PZ (F:=No) (W:=W) (M:=Q) (s:=s) (o:=⟨6,0,0,0,0,(i%s.gw:Nat),(i/s.gw:Nat),0,0,0,0,⟨none,0,0⟩,⟨none,0,0⟩,⟨none,0,0⟩⟩) rfl;dsimp only at V;unfold LS at V;rw[a7 ah,a7 ah,b7,b7,show i/s.gw*s.gw+i%s.gw=i by rw[cD];exact dP i s.gw]at V;exact(tj rfl true (rV (by dsimp only;decide) (by dsimp only;decide)) V (St.mid S)).mono λv w'⟨_,hv,S'⟩=>⟨hv,St.mid S'⟩
 have hV:s.V=(List.range (s.gw*s.gh)).map s.cc:=rfl;rw[hV];replace S:St No W w (.blk s.sb 71 s.top::(s.rest++Q++tl)):=S;refine zI func8 ?_;refine zN ?_;intro D aH aE S;refine zK (Vm (S.blk (i:=1) rfl) (S.grid (i:=2) rfl)) ?_;rintro _ aI ⟨p2,aD,cap2,bs2,Rs2,rfl,ac,ad,ak⟩;have S:=S.pushGrid ac ad ak;refine zC (mC p2 s.gw s.gh _ _ ((S.grid (i:=0) rfl).top)) ?_;intro aJ aF S;refine zN ?_;intro I aK aG S;refine zS ?_;intro aL S;have S:=S.sub (show List.Sublist (.blk I 38 [ii s.gw,ii s.gh,.slice none 0 0]::.blk D 38 [ii 0,ii 0,.slice none 0 0]::((s.L++Q)++tl)) _ from .cons_cons _ (.cons _ (cQ _)));have S:=S.pushNil 2 1;generalize hN:s.gw*s.gh=N at *
 refine dl (λk e w=>∃(i:Nat)(A:Option Addr)(c:Nat),i+k=N/\SL e [(0,pt s.sb),(2,pt D),(5,ii s.gw),(6,ii s.gh),(7,pt I),(8,ii i)]/\St No W w (.row 2 1 A i c (cY ((List.range i).map s.cc))::.blk I 38 [ii s.gw,ii s.gh,.slice A i c]::.blk D 38 [ii 0,ii 0,.slice none 0 0]::((s.L++Q)++tl))) N
  ⟨0,none,0,om,sl,S⟩ ?_
 clear S;rintro k e w ⟨i,A,c,hi,Z,S⟩;rw[Z.fold];rcases cr (i<N)with ai|ai
 ·have em:(i:Int)%s.gw=((i%s.gw:Nat):Int):=by push_cast;rfl
  have ed:(i:Int)/s.gw=((i/s.gw:Nat):Int):=by push_cast;rfl
  have V:=ag i ai;have O:cY ((List.range i).map s.cc)++[ii (s.cc i)]=cY ((List.range (i+1)).map s.cc):=by rw[eG];simp[cY]
  have am:∃z,z=s.cc i:=⟨_,rfl⟩;obtain⟨z,hz⟩:=am;rw[<-hz]at V O;generalize i%s.gw=x at *;generalize i/s.gw=y at *;repeat refine dm ?_
  refine dz ?_;iterate 3 refine cq (cH rfl) ?_
  refine cq (fh rfl (by rw[L];omega)) ?_;rw[L];refine zg ?_;have ae:=λ(Q1:List HA)w(S:St No W w (Q1++(.row 2 1 A i c (cY ((List.range i).map s.cc))::.blk I 38 [ii s.gw,ii s.gh,.slice A i c]::.blk D 38 [ii 0,ii 0,.slice none 0 0]::((s.L++Q)++tl))))=>(V (Q1++[.row 2 1 A i c (cY ((List.range i).map s.cc)),.blk I 38 [ii s.gw,ii s.gh,.slice A i c],.blk D 38 [ii 0,ii 0,.slice none 0 0]]) w (by rw[cL];exact S)).mono (R':=λv w'=>(v=({ code:=0,n:=z }:gZ).v/\([]:List HA)=[])/\St No W w' (Q1++(.row 2 1 A i c (cY ((List.range i).map s.cc))::.blk I 38 [ii s.gw,ii s.gh,.slice A i c]::.blk D 38 [ii 0,ii 0,.slice none 0 0]::((s.L++Q)++tl)))) λv w'⟨hv,S'⟩=>⟨⟨hv,rfl⟩,by rw[cL]at S';exact S'⟩;refine zc ?_;refine gP (M:=λe w=>∃b9:Nat,SL e [(0,pt s.sb),(2,pt D),(5,ii s.gw),(6,ii s.gh),(7,pt I),(8,ii i),(9,pt b9)]/\St No W w (.blk b9 46 [ii 0,ii z,.bool false,ii 0,ii 0,.slice none 0 0,.slice none 0 0,.slice none 0 0,.slice none 0 0,.slice none 0 0]::.row 2 1 A i c (cY ((List.range i).map s.cc))::.blk I 38 [ii s.gw,ii s.gh,.slice A i c]::.blk D 38 [ii 0,ii 0,.slice none 0 0]::((s.L++Q)++tl))) ?_ ?_
  ·skip;refine zc ?_;refine nI (C:=(rp No W (.row 2 1 A i c (cY ((List.range i).map s.cc))::.blk I 38 [ii s.gw,ii s.gh,.slice A i c]::.blk D 38 [ii 0,ii 0,.slice none 0 0]::((s.L++Q)++tl)) 9 10 11 46 [ii 0,ii 0,.bool false,ii 0,ii 0,.slice none 0 0,.slice none 0 0,.slice none 0 0,.slice none 0 0,.slice none 0 0] (λ_=>[ii 0,ii z,.bool false,ii 0,ii 0,.slice none 0 0,.slice none 0 0,.slice none 0 0,.slice none 0 0,.slice none 0 0]) (λv Q=>v=({ code:=0,n:=z }:gZ).v/\Q=[]))) [9,10,11] (.one 0 (.one 1 (.one 2 (.one 3 (.one 4 (.one 5 (.one 6 (.one 7 (.one 8 (.two 9 (.one 10 (.one 11 .nil)) 10 (.one 9 (.one 11 .nil)))))))))))) [] (by kernel_rfl) (by kernel_rfl) (rp.start (S.gr (Gr.drew _))) ?_;simp only[qK,iS,dK,dR];refine zW ?_;rw[em];refine zW ?_;rw[ed];refine zW ?_;refine nf ?_ ?_
   ·refine dC rfl rfl (λwq J=>C6 J rfl rfl rfl rfl rfl (λQ S=>ae Q wq S)) ?_;rintro v9 w9 h9;obtain⟨_,rfl,_⟩:=h9.val rfl;refine zW ?_;refine dC rfl rfl (λwq J=>sB J rfl rfl rfl rfl Zx rfl) ?_;rintro ao aq U;obtain⟨aj,rfl⟩:=U.adr rfl;refine zW ?_;refine dC rfl rfl (λwq J=>sC J rfl rfl rfl rfl rfl (sizeOf46 _) rfl rfl rfl rfl rfl) ?_;rintro ap ar al;refine zW ?_;refine jm ?_;rintro wz hz;obtain⟨_,⟨_,rfl⟩,S⟩:=hz.fin rfl rfl rfl;refine ze ?_;exact⟨_,sl,S⟩
   ·refine dC rfl rfl (λwq J=>sB J rfl rfl rfl rfl Zx rfl) ?_;rintro ao aq U;obtain⟨aj,rfl⟩:=U.adr rfl;refine zW ?_;refine dC rfl rfl (λwq J=>C6 J rfl rfl rfl rfl rfl (λQ S=>ae Q wq S)) ?_;rintro v9 w9 h9;obtain⟨_,rfl,_⟩:=h9.val rfl;refine zW ?_;refine dC rfl rfl (λwq J=>sC J rfl rfl rfl rfl rfl (sizeOf46 _) rfl rfl rfl rfl rfl) ?_;rintro ap ar al;refine zW ?_;refine jm ?_;rintro wz hz;obtain⟨_,⟨_,rfl⟩,S⟩:=hz.fin rfl rfl rfl;refine ze ?_;exact⟨_,sl,S⟩
  ·rintro e w2 ⟨b9,Z,S⟩;rw[Z.fold];refine zg ?_;refine yb S ?_;intro au az av S an;refine ZP 2 0 S ?_;intro aa ab aA S aw;refine zS ?_;intro aB S;have S:=S.drop 2;rw[O]at S;exact⟨k-1,om,i+1,aa,ab,om,sl,S⟩
 ·obtain rfl:i=N:=om;iterate 3 refine z ?_
  refine cq (fh rfl (by rw[L];omega)) ?_;rw[L];refine zS ?_;intro aC S;exact pG S ⟨A,c,rfl,S.sub (.cons_cons _ (.cons _ (.cons _ (cQ _))))⟩
end
theorem xV.baseL{L:List HA}(S:St No W w L)(h:xV sb j w w' []):xV sb j W w' L:=by
 rcases h with⟨p0,v⟩|⟨s,Q,h1,h2,v⟩
 ·exact .inl ⟨p0,S.app v⟩
 ·have:=S.app v;rw[fG]at this;exact .inr ⟨s,Q,h1,h2,this⟩
theorem xV.tlz{L:List HA}(h:xV sb j W w L):St No W w L:=by
 rcases h with⟨p0,S⟩|⟨s,Q,_,_,S⟩
 ·exact S.drop 1
 ·exact St.tail S
theorem St.mid1{A B C:List HA}(S:St F W w (h::(A++(B++C)))):St F W w (h::(B++(A++C))):=by
 refine S.perm_ (.cons _ ?_);rw[<-cL,<-cL];exact ft.append_right C
theorem XL(os:List m5)(y:∀o∈os,wV W o)(D:Rd W A (G0 os)) :
  Fn prog 5 [.slice A os.length c] W (λv w'=>∃b,v=.bool b/\Gr W w'/\(b=false->os.length<=30/\∀o∈os,C5 o)):=by
 have S:=St.start W;refine zI func5 ?_;refine zK (Vl os 30 (by decide) (λo J=>(y o J).gr S.out) (D.gr S.out)) ?_;rintro _ L ⟨b,rfl,z,I⟩;have S:=S.gr z;refine zX ?_;exact⟨b,rfl,S.out,I⟩
theorem abd{V:List Int}(x y:Int)(v:V.length=gw*gh)(D:gw*gh<=1048576)(z:Rd W A (cY V)) :
  Fn prog 11 [aaC gw gh A (gw*gh) c,.agg #[ii x,ii y]] W (dp (.tuple #[ii (if mD gw gh (x,y)=true then V.getD (y.toNat * gw+x.toNat) 0 else 0),ii (LS gw gh x y)]) W):=by
 unfold LS;cases h:mD gw gh (x,y)
 ·exact aa8 x y _ h
 ·rw[<-v];exact abe x y h v D z
theorem aaH(x0 y0 x1 y1:Int)(z:1≤gw∧gw≤1024)(y:1≤gh∧gh≤1024) :
    (dF x0 y0 x1 y1 gw gh=4∧(x0<0∨(0≤x0∧gw≤x0)∨((0≤x0∧x0<gw)∧x1<0)∨((0≤x0∧x0<gw)∧0≤x1∧gw≤x1)∨((0≤x0∧x0<gw)∧(0≤x1∧x1<gw)∧y0<0)∨((0≤x0∧x0<gw)∧(0≤x1∧x1<gw)∧0≤y0∧gh≤y0)∨((0≤x0∧x0<gw)∧(0≤x1∧x1<gw)∧(0≤y0∧y0<gh)∧y1<0)∨((0≤x0∧x0<gw)∧(0≤x1∧x1<gw)∧(0≤y0∧y0<gh)∧0≤y1∧gh≤y1))) ∨
    (dF x0 y0 x1 y1 gw gh=5∧((0≤x0∧x0<gw)∧(0≤x1∧x1<gw)∧(0≤y0∧y0<gh)∧0≤y1∧y1<gh)∧(x1<x0∨(x0≤x1∧y1<y0))) ∨
    (dF x0 y0 x1 y1 gw gh=0∧((0≤x0∧x0<gw)∧(0≤x1∧x1<gw)∧(0≤y0∧y0<gh)∧0≤y1∧y1<gh)∧x0≤x1∧y0≤y1):=by
  have U:fL ((gw:Int)-1) 1024=true:=by simp[fL];omega
  have V:fL ((gh:Int)-1) 1024=true:=by simp[fL];omega
  have v:∀(a:Int)(n:Nat),1≤n→(fL a n=true↔0≤a∧a<n):=λa n Z=>by simp[fL];try omega
  unfold dF;simp only[U,V,Bool.not_true,aaq,m7,pW];cases D:fL x0 gw with
  |false =>
    have:¬(0≤x0∧x0<gw):=λh=>by rw[(v x0 gw z.1).2 h]at D;cases D
    exact .inl ⟨rfl,by omega⟩
  |true =>
    have J:=(v x0 gw z.1).1 D;cases h1:fL x1 gw with
    |false =>
      have:¬(0≤x1∧x1<gw):=λh=>by rw[(v x1 gw z.1).2 h]at h1;cases h1
      exact .inl ⟨rfl,by omega⟩
    |true =>
      have L:=(v x1 gw z.1).1 h1;cases h2:fL y0 gh with
      |false =>
        have:¬(0≤y0∧y0<gh):=λh=>by rw[(v y0 gh y.1).2 h]at h2;cases h2
        exact .inl ⟨rfl,by omega⟩
      |true =>
        have O:=(v y0 gh y.1).1 h2;cases I:fL y1 gh with
        |false =>
          have:¬(0≤y1∧y1<gh):=λh=>by rw[(v y1 gh y.1).2 h]at I;cases I
          exact .inl ⟨rfl,by omega⟩
        |true =>
          have S:=(v y1 gh y.1).1 I;rcases cr (x1<x0∨y1<y0)with h|h
          · exact .inr (.inl ⟨a7 h,⟨J,L,O,S⟩,by omega⟩)
          · exact .inr (.inr ⟨a8 h,⟨J,L,O,S⟩,by omega⟩)
theorem aaE(x0 y0 x1 y1:Int)(I:1<=gw/\gw<=1024)(D:1<=gh/\gh<=1024):Fn prog 14 [.agg #[ii x0,ii y0,ii x1,ii y1],ii gw,ii gh] W (dp (ii (dF x0 y0 x1 y1 gw gh)) W):=by
 rcases aaH x0 y0 x1 y1 I D with⟨e,h⟩|⟨e,h,h2⟩|⟨e,h,h2⟩
 all_goals rw[e]
 ·rcases h with h|h|h|h|h|h|h|h
  all_goals
   have S:=St.start W;refine zI func14 ?_;refine zN ?_;intro v z y S;exact zZ
 ·rcases h2 with h2|h2
  all_goals
   have S:=St.start W;refine zI func14 ?_;refine zN ?_;intro v z y S;exact zZ
 ·skip;have S:=St.start W;refine zI func14 ?_;refine zN ?_;intro v z y S;exact zZ
theorem aba(z:x1<gw)(D:y1<gh):aaz (dw gw gh cc) gw x0 y0 x1 y1=fi gw cc x0 y0 (x1+1-x0) (y1+1-y0):=by
 unfold aaz;refine Jw (gh:=gh) ?_ z D;refine List.ext_getElem (by rw[qf,qf]) λi h1 h2=>?_;rw[qf]at h1;have v:=mF gw gh (λj=>(dw gw gh cc).getD j 0) i;have y:=mF gw gh cc i;rw[a7 h1]at v y;rw[cO,ct (by rw[qf];exact h1)]at v y;exact v.trans (by rw[mF,a7 h1];exact y.symm)
theorem aap(a b e:Int)(h:Bool):Fn prog 12 [ii a,ii b,.bool h,ii e] W (dp (ii (if a≠0 then a else if b≠0 then b else if h then e else 0)) W):=by
 rcases cr (a=0)with v|v
 ·rw[a8 (λh=>h v)];rcases cr (b=0)with y|y
  ·rw[a8 (λh=>h y)];cases h
   ·skip;have S:=St.start W;refine zI func12 ?_;exact zZ
   ·skip;have S:=St.start W;refine zI func12 ?_;exact zZ
  ·rw[a7 y];have S:=St.start W;refine zI func12 ?_;exact zZ
 ·rw[a7 v];have S:=St.start W;refine zI func12 ?_;exact zZ
theorem aa7(o:m5)(y:wV W o):Fn prog 6 [o.v] W (λv w'=>∃b,v=.bool b/\Gr W w'/\(b=false->C5 o)):=by
 have D:=λw A c(g:Gr W w)(h:Rd w A (G0 [o]))=>Vl (W:=w) (A:=A) (c:=c) [o] 1 (by decide) (λo' I=>by obtain rfl:=dM.1 I;exact y.gr g) h;obtain⟨ok,ae,ah,ag,ai,aa,ab,ac,ad,n,m,vs,bs,bd⟩:=o;have S:=St.start W;refine zI func6 ?_;refine zN ?_;intro O aj U S;refine zg ?_;refine yb S ?_;intro L ak V S J;refine zK (D _ _ _ S.out (S.rd (i:=0) rfl)) ?_;rintro _ al ⟨b,rfl,z,Z⟩;have S:=S.gr z;refine zX ?_;exact⟨b,rfl,S.out,λh=>(Z h).2 _ (dM.2 rfl)⟩
theorem aaM(x0 y0 x1 y1:Int)(n:Nat)(U:1<=gw/\gw<=1024)(L:1<=gh/\gh<=1024)(O:dF x0 y0 x1 y1 gw gh≠0) :
  Fn prog 23 [aaC gw gh A n c,.agg #[ii x0,ii y0,ii x1,ii y1]] W (dp (.tuple #[.slice none 0 0,ii (dF x0 y0 x1 y1 gw gh)]) W):=by
 have v:=λw=>aaE (W:=w) x0 y0 x1 y1 U L;generalize dF x0 y0 x1 y1 gw gh=e at *;unfold aaC;have S:=St.start W;refine zI func23 ?_;refine zN ?_;intro y V D S;refine zN ?_;intro z Z I S;refine zC (v _) ?_;intro aa J S;exact zZ
theorem abb{n z:Int}(y:-2147483648<=z/\z<=2147483647):iL (C4 5 n z)=false↔(n>2147483647-z\/n < -2147483648-z):=by
 have h:=u0 (C4 5 n z);have e:C4 5 n z=max (min n 1099511627776) (-1099511627776)+z:=rfl;rw[e]at h ⊢;cases v:iL (max (min n 1099511627776) (-1099511627776)+z)
 ·have:¬(-2147483648<=max (min n 1099511627776) (-1099511627776)+z/\max (min n 1099511627776) (-1099511627776)+z<=2147483647):=λh2=>by rw[h.2 h2]at v;cases v
  simp only[true_iff];omega
 ·have:=h.1 v;simp only[Bool.true_eq_false,false_iff];omega
theorem aaF{l:List Int}:(l.any λv=>!iL v)=false↔∀j,j<l.length->iL (l.getD j 0)=true:=by
 rw[nU];constructor
 ·intro h j y;have:=h (l.getD j 0) (by rw[cO,ct y];exact fY y);cases z:iL (l.getD j 0)
  ·rw[z]at this;exact absurd rfl this
  ·rfl
 ·intro h v D;obtain⟨j,y,rfl⟩:=gK.1 D;have:=h j y;rw[cO,ct y]at this;rw[show iL l[j]=true from this];exact λh=>by cases h
theorem aaR{l:List Int}(y:j<l.length)(h:iL (l.getD j 0)=false):(l.any λv=>!iL v)=true:=by
 cases h2:l.any λv=>!iL v
 ·rw[aaF.1 h2 j y]at h;cases h
 ·rfl
section
variable{vA:Option Addr}{vc:Nat}{X:List Int}
theorem aaS(k x0 y0 x1 y1 ax ay bx aa n m:Int)(bA dA:Option Addr)(bn bc dn dc:Nat)(hB:vB s.V)(hw:1<=s.gw/\s.gw<=1024)(hh:1<=s.gh/\s.gh<=1024)(hA:Rd W A (cY s.V))(hX:Rd W vA (cY X))(aO:X.length<=500)(h1:Y4 s ⟨k,x0,y0,x1,y1,ax,ay,bx,aa,n,m,⟨vA,X.length,vc⟩,⟨bA,bn,bc⟩,⟨dA,dn,dc⟩⟩=0) :
  Fn prog 15 [aaC s.gw s.gh A (s.gw*s.gh) c,.agg #[ii k,ii x0,ii y0,ii x1,ii y1,ii ax,ii ay,ii bx,ii aa,ii n,ii m,.slice vA X.length vc,.slice bA bn bc,.slice dA dn dc]] W (dp (ii (ZB s ⟨k,x0,y0,x1,y1,ax,ay,bx,aa,n,m,⟨vA,X.length,vc⟩,⟨bA,bn,bc⟩,⟨dA,dn,dc⟩⟩ X)) W):=by
 have aJ:s.V.length=s.gw*s.gh:=qf _ _ _
 have am:k≠3->k≠4->k≠5->k≠11->ZB s ⟨k,x0,y0,x1,y1,ax,ay,bx,aa,n,m,⟨vA,X.length,vc⟩,⟨bA,bn,bc⟩,⟨dA,dn,dc⟩⟩ X=0:=λa b d e=>by
  unfold ZB;rw[a8 a,a8 b,a8 d,a8 e]
 rcases cr (dF x0 y0 x1 y1 s.gw s.gh=0)with av|av
 ·obtain⟨⟨u0,v0,u1,v1⟩,hr,e0,e1,e2,e3⟩:=nP av;dsimp only at e0 e1 e2 e3;subst e0 e1 e2 e3;have hx:u0<=u1/\u1<s.gw:=hr.1;have hy:v0<=v1/\v1<s.gh:=hr.2;have V:=λw(g:Gr W w)=>aaQ (W:=w) (cap:=c) u0 v0 u1 v1 hw hh hx hy aJ (hA.gr g);have hL:=aa5 s.V s.gw u0 v0 u1 v1;have aF:aaz s.V s.gw u0 v0 u1 v1=fi s.gw s.cc u0 v0 (u1+1-u0) (v1+1-v0):=aba hx.2 hy.2
  have aH:∀z∈aaz s.V s.gw u0 v0 u1 v1,-2147483648<=z/\z<=2147483647:=λz hz=>by
   obtain⟨j,rfl⟩:=aa6 hz;exact hB j
  have aI:(v1+1-v0)*(u1+1-u0)<=1024*1024:=cE om om
  have az:k=5->aaB s ⟨k,(u0:Nat),(v0:Nat),(u1:Nat),(v1:Nat),ax,ay,bx,aa,n,m,⟨vA,X.length,vc⟩,⟨bA,bn,bc⟩,⟨dA,dn,dc⟩⟩ X=(aaz s.V s.gw u0 v0 u1 v1).map (C4 5 n):=λI=>by
   unfold aaB;dsimp only;rw[a8 om,I,aF];rfl
  have aK:k=3->ZB s ⟨k,(u0:Nat),(v0:Nat),(u1:Nat),(v1:Nat),ax,ay,bx,aa,n,m,⟨vA,X.length,vc⟩,⟨bA,bn,bc⟩,⟨dA,dn,dc⟩⟩ X=if iL n then 0 else 7:=λI=>by
   unfold ZB;rw[a7 I]
  have aA:k=4->ZB s ⟨k,(u0:Nat),(v0:Nat),(u1:Nat),(v1:Nat),ax,ay,bx,aa,n,m,⟨vA,X.length,vc⟩,⟨bA,bn,bc⟩,⟨dA,dn,dc⟩⟩ X=sX (aaz s.V s.gw u0 v0 u1 v1).length X:=λI=>by
   unfold ZB;rw[a8 (show ¬k=3 by omega),a7 I,hL];rfl
  have aB:k=5->ZB s ⟨k,(u0:Nat),(v0:Nat),(u1:Nat),(v1:Nat),ax,ay,bx,aa,n,m,⟨vA,X.length,vc⟩,⟨bA,bn,bc⟩,⟨dA,dn,dc⟩⟩ X=if ((aaz s.V s.gw u0 v0 u1 v1).map (C4 5 n)).any (λv=>!iL v)then 7 else 0:=λI=>by
   unfold ZB;rw[a8 (show ¬k=3 by omega),a8 (show ¬k=4 by omega),a7 I,az I]
  have ao:k=11->ZB s ⟨k,(u0:Nat),(v0:Nat),(u1:Nat),(v1:Nat),ax,ay,bx,aa,n,m,⟨vA,X.length,vc⟩,⟨bA,bn,bc⟩,⟨dA,dn,dc⟩⟩ X=if n<0\/n>=((aaz s.V s.gw u0 v0 u1 v1).length:Nat)then 11 else 0:=λI=>by
   unfold ZB;rw[a8 (show ¬k=3 by omega),a8 (show ¬k=4 by omega),a8 (show ¬k=5 by omega),a7 I];dsimp only
   have e:((u1:Int)-u0+1)*((v1:Int)-v0+1)=((aaz s.V s.gw u0 v0 u1 v1).length:Nat):=by
    rw[hL,cD];push_cast;rw[Int.ofNat_sub om,Int.ofNat_sub om];push_cast;congr 1<;>omega
   rw[e]
  clear az;rw[<-hL]at aI;generalize ZB s ⟨k,(u0:Nat),(v0:Nat),(u1:Nat),(v1:Nat),ax,ay,bx,aa,n,m,⟨vA,X.length,vc⟩,⟨bA,bn,bc⟩,⟨dA,dn,dc⟩⟩ X=cd at *;generalize aaz s.V s.gw u0 v0 u1 v1=L at *;clear aF hL h1;have I:k=3\/k=4\/k=5\/k=11\/(k≠3/\k≠4/\k≠5/\k≠11):=om;rcases I with I|I|I|I|I
  ·have hf:=λw=>aap (W:=w) 0 0 7 (!iL n)
   have e:(if (0:Int)≠0 then(0:Int)else if (0:Int)≠0 then 0 else if (!iL n)then 7 else 0)=cd:=by
    rw[aK I];cases iL n<;>rfl
   rw[e]at hf;have S:=St.start W;refine zI func15 ?_;refine zN ?_;intro ab ai ae S;refine zN ?_;intro Z aj ag S;refine zK (V _ S.out) ?_;rintro _ ak ⟨J,U,rfl,y,D,O⟩;have S:=S.pushRow y D O;refine zC (Pf n _) ?_;intro ap an S;refine zC (hf _) ?_;intro aG aE S;exact zZ
  ·rcases cr (X.length=L.length)with hl|hl
   ·skip;have S:=St.start W;refine zI func15 ?_;refine zN ?_;intro ab ai ae S;refine zN ?_;intro Z aj ag S;refine zK (V _ S.out) ?_;rintro _ ak ⟨J,U,rfl,y,D,O⟩;have S:=S.pushRow y D O;refine zg ?_;have hS:=S;replace S:=S.sub (show List.Sublist [HA.blk Z 31 [ii k,ii u0,ii v0,ii u1,ii v1,ii ax,ii ay,ii bx,ii aa,ii n,ii m,.slice vA X.length vc,.slice bA bn bc,.slice dA dn dc]] _ from .cons _ (.cons_cons _ (.cons _ .slnil)))
    refine dl (λm' e w=>∃i:Nat,i+m'=X.length/\SL e [(3,pt Z),(7,ii i)]/\(∀j,j<i->iL (X.getD j 0)=true)/\St No W w [.blk Z 31 [ii k,ii u0,ii v0,ii u1,ii v1,ii ax,ii ay,ii bx,ii aa,ii n,ii m,.slice vA X.length vc,.slice bA bn bc,.slice dA dn dc]]) X.length
     ⟨0,om,sl,λj hj=>by omega,S⟩ ?_
    clear S hS;rintro m' e w ⟨i,hi,aC,ah,S⟩;rw[aC.fold];rcases cr (i<X.length)with ac|ac
    ·have aM:dO vA:=hX.someA (by rw[gn];omega);have ad:(cY X)[(i:Int).toNat * 1]?=some (ii (X.getD i 0)):=by rw[cG,b7];exact gc (kr ac)
     have aq:=λw=>Pf (X.getD i 0) w;have ar:=aaR ac
     have aD:iL (X.getD i 0)=true->∀j,j<i+1->iL (X.getD j 0)=true:=λh j hj=>by
      rcases eV j i with h2|h2
      ·exact ah j h2
      ·obtain rfl:j=i:=om;exact h
     generalize X.getD i 0=z at *;cases hm:iL z
     ·rw[hm]at aq
      have e:cd=7:=by
       rw[aA I];unfold sX;rw[a8 (λh=>h hl),a7 (ar hm)]
      refine zT (hX.gr S.out) ad ?_;refine zC (aq w) ?_;intro ap an S;refine zX ?_;exact⟨by rw[e],S.out⟩
     ·rw[hm]at aq;refine zT (hX.gr S.out) ad ?_;refine zC (aq w) ?_;intro aG aE S;refine zg ?_;exact⟨m'-1,om,i+1,om,sl,aD hm,S⟩
    ·have e:cd=0:=by
      rw[aA I];unfold sX;rw[a8 (λh=>h hl),aaF.2 λj hj=>ah j om];rfl
     refine zX ?_;exact⟨by rw[e],S.out⟩
   ·have e:cd=6:=by
     rw[aA I];unfold sX;rw[a7 hl]
    have S:=St.start W;refine zI func15 ?_;refine zN ?_;intro ab ai ae S;refine zN ?_;intro Z aj ag S;refine zK (V _ S.out) ?_;rintro _ ak ⟨J,U,rfl,y,D,O⟩;have S:=S.pushRow y D O;refine zX ?_;exact⟨by rw[e],S.out⟩
  ·skip;have S:=St.start W;refine zI func15 ?_;refine zN ?_;intro ab ai ae S;refine zN ?_;intro Z aj ag S;refine zK (V _ S.out) ?_;rintro _ ak ⟨J,U,rfl,y,D,O⟩;have S:=S.pushRow y D O;refine zg ?_;replace S:=S.sub (show List.Sublist [HA.row 2 1 J L.length U (cY L),HA.blk Z 31 [ii k,ii u0,ii v0,ii u1,ii v1,ii ax,ii ay,ii bx,ii aa,ii n,ii m,.slice vA X.length vc,.slice bA bn bc,.slice dA dn dc]] _ from .cons_cons _ (.cons_cons _ (.cons _ .slnil)))
   refine dl (λm' e w=>∃i:Nat,i+m'=L.length/\SL e [(3,pt Z),(5,.slice J L.length U),(8,ii i)]/\(∀j,j<i->iL ((L.map (C4 5 n)).getD j 0)=true)/\St No W w [.row 2 1 J L.length U (cY L),.blk Z 31 [ii k,ii u0,ii v0,ii u1,ii v1,ii ax,ii ay,ii bx,ii aa,ii n,ii m,.slice vA X.length vc,.slice bA bn bc,.slice dA dn dc]]) L.length
    ⟨0,om,sl,λj hj=>by omega,S⟩ ?_
   clear S;rintro m' e w ⟨i,hi,aC,ah,S⟩;rw[aC.fold];rcases cr (i<L.length)with ac|ac
   ·have al:dO J:=(S.row (i:=0) rfl).someA om;have ad:(cY L)[(i:Int).toNat * 1]?=some (ii (L.getD i 0)):=by rw[cG,b7];exact gc (kr ac)
    have ar:=aaR (l:=L.map (C4 5 n)) (j:=i) (by rw[eP];exact ac);have hz:-2147483648<=L.getD i 0/\L.getD i 0<=2147483647:=aH _ (by rw[cO,ct ac];exact fY ac);have aL:(L.map (C4 5 n)).getD i 0=C4 5 n (L.getD i 0):=by rw[cO,da,ct ac,cO,ct ac];rfl
    have aD:iL ((L.map (C4 5 n)).getD i 0)=true->∀j,j<i+1->iL ((L.map (C4 5 n)).getD j 0)=true:=λh j hj=>by
     rcases eV j i with h2|h2
     ·exact ah j h2
     ·obtain rfl:j=i:=om;exact h
    have au:=abb (n:=n) hz;rw[<-aL]at au;generalize L.getD i 0=z at *;generalize iL ((L.map (C4 5 n)).getD i 0)=bz at *;have hc:n>2147483647-z\/(n<=2147483647-z/\n < -2147483648-z)\/(n<=2147483647-z/\-2147483648-z<=n):=om;rcases hc with hc|hc|hc
    ·have e:cd=7:=by rw[aB I,ar (au.2 (.inl hc))];rfl
     repeat refine dm ?_
     refine dz ?_;iterate 2 refine cq (cH rfl) ?_
     refine cq (p6 dk rfl) ?_;refine cq (ff (b:=true) rfl (cF om)) ?_;first|refine eF ?_|(refine di ?_;show CW _ _ _ _ _ _)|refine di ?_
     repeat refine dm ?_
     refine jr rfl ?_;repeat refine dm ?_
     refine gO ?_;try show CW _ _ _ _ _ _
     repeat refine dm ?_
     refine k0 ?_;repeat refine dm ?_
     refine pF (C:=λwq=>Gr w wq) [0,1,2,3,4,5,6,7,8,9,10,11,12,13,14,15,16,17] [] (by kernel_rfl) (by kernel_rfl) (Gr.drew _) ?_;simp only[iS,dK,dR];refine eO (du sd rfl cR rfl rfl) ?_;refine fo (λwq hq=>cV cw rfl rfl ((S.gr hq).blk (i:=1) rfl) rfl) ?_;iterate 2 refine eO (cH rfl) ?_
     refine eO (sj dk cR rfl rfl al om om) ?_;refine fo (λwq hq=>eI cw rfl rfl ((S.gr hq).rd (i:=0) rfl) ad) ?_;refine zE ?_;intro ap an S;exact ir rfl ⟨by rw[e],S.out⟩
    ·have e:cd=7:=by rw[aB I,ar (au.2 (.inr hc.2))];rfl
     repeat refine dm ?_
     refine dz ?_;iterate 2 refine cq (cH rfl) ?_
     refine cq (p6 dk rfl) ?_;refine cq (ff (b:=true) rfl (cF om)) ?_;first|refine eF ?_|(refine di ?_;show CW _ _ _ _ _ _)|refine di ?_
     repeat refine dm ?_
     refine jr rfl ?_;repeat refine dm ?_
     refine gO ?_;try show CW _ _ _ _ _ _
     repeat refine dm ?_
     refine k0 ?_;repeat refine dm ?_
     refine pF (C:=λwq=>Gr w wq) [0,1,2,3,4,5,6,7,8,9,10,11,12,13,14,15,16,17] [] (by kernel_rfl) (by kernel_rfl) (Gr.drew _) ?_;simp only[iS,dK,dR];refine eO (du sd rfl cR rfl rfl) ?_;refine fo (λwq hq=>cV cw rfl rfl ((S.gr hq).blk (i:=1) rfl) rfl) ?_;iterate 2 refine eO (cH rfl) ?_
     refine eO (sj dk cR rfl rfl al om om) ?_;refine fo (λwq hq=>eI cw rfl rfl ((S.gr hq).rd (i:=0) rfl) ad) ?_;refine zE ?_;intro aG aE S;exact ir rfl ⟨by rw[e],S.out⟩
    ·have hb:bz=true:=by
      cases bz
      ·have:=au.1 rfl;omega
      ·rfl
     repeat refine dm ?_
     refine dz ?_;iterate 2 refine cq (cH rfl) ?_
     refine cq (p6 dk rfl) ?_;refine cq (ff (b:=true) rfl (cF om)) ?_;first|refine eF ?_|(refine di ?_;show CW _ _ _ _ _ _)|refine di ?_
     repeat refine dm ?_
     refine jr rfl ?_;repeat refine dm ?_
     refine gO ?_;try show CW _ _ _ _ _ _
     repeat refine dm ?_
     refine k0 ?_;repeat refine dm ?_
     refine pF (C:=λwq=>Gr w wq) [0,1,2,3,4,5,6,7,8,9,10,11,12,13,14,15,16,17] [] (by kernel_rfl) (by kernel_rfl) (Gr.drew _) ?_;simp only[iS,dK,dR];refine eO (du sd rfl cR rfl rfl) ?_;refine fo (λwq hq=>cV cw rfl rfl ((S.gr hq).blk (i:=1) rfl) rfl) ?_;iterate 2 refine eO (cH rfl) ?_
     refine eO (sj dk cR rfl rfl al om om) ?_;refine fo (λwq hq=>eI cw rfl rfl ((S.gr hq).rd (i:=0) rfl) ad) ?_;refine zE ?_;intro aP aN S;exact⟨m'-1,om,i+1,om,sl,aD hb,S⟩
   ·have e:cd=0:=by
     rw[aB I,aaF.2 λj hj=>ah j (by rw[eP]at hj;omega)];rfl
    refine zX ?_;exact⟨by rw[e],S.out⟩
  ·have hc:n<0\/(0<=n/\(L.length:Int)<=n)\/(0<=n/\n<L.length):=om;rcases hc with hc|hc|hc
   ·have e:cd=11:=by rw[ao I,a7 (.inl hc)]
    have S:=St.start W;refine zI func15 ?_;refine zN ?_;intro ab ai ae S;refine zN ?_;intro Z aj ag S;refine zK (V _ S.out) ?_;rintro _ ak ⟨J,U,rfl,y,D,O⟩;have S:=S.pushRow y D O;refine zC (aap 0 0 11 true) ?_;intro ap an S;refine zX ?_;exact⟨by rw[e];rfl,S.out⟩
   ·have e:cd=11:=by rw[ao I,a7 (.inr hc.2)]
    have S:=St.start W;refine zI func15 ?_;refine zN ?_;intro ab ai ae S;refine zN ?_;intro Z aj ag S;refine zK (V _ S.out) ?_;rintro _ ak ⟨J,U,rfl,y,D,O⟩;have S:=S.pushRow y D O;refine zC (aap 0 0 11 true) ?_;intro ap an S;refine zX ?_;exact⟨by rw[e];rfl,S.out⟩
   ·have e:cd=0:=by rw[ao I,a8 om]
    have S:=St.start W;refine zI func15 ?_;refine zN ?_;intro ab ai ae S;refine zN ?_;intro Z aj ag S;refine zK (V _ S.out) ?_;rintro _ ak ⟨J,U,rfl,y,D,O⟩;have S:=S.pushRow y D O;refine zC (aap 0 0 11 false) ?_;intro ap an S;refine zX ?_;exact⟨by rw[e];rfl,S.out⟩
  ·have e:=am I.1 I.2.1 I.2.2.1 I.2.2.2;have S:=St.start W;refine zI func15 ?_;refine zN ?_;intro ab ai ae S;refine zN ?_;intro Z aj ag S;refine zK (V _ S.out) ?_;rintro _ ak ⟨J,U,rfl,y,D,O⟩;have S:=S.pushRow y D O;refine zX ?_;exact⟨by rw[e],S.out⟩
 ·have I:k≠3/\k≠4/\k≠5/\k≠11:=by
   have aw:(k=3\/k=4\/k=5\/k=11)->False:=λh=>by
    unfold Y4 at h1;dsimp only at h1;rw[a8 om,a8 om,a8 om,a8 om,a8 om,a8 om]at h1;exact av h1
   refine⟨λh=>aw ?_,λh=>aw ?_,λh=>aw ?_,λh=>aw ?_⟩<;>omega
  have e:=am I.1 I.2.1 I.2.2.1 I.2.2.2;have V:=λw=>aaM (W:=w) (A:=A) (c:=c) x0 y0 x1 y1 (s.gw*s.gh) hw hh av;unfold aaC at *;generalize dF x0 y0 x1 y1 s.gw s.gh=we at *;have S:=St.start W;refine zI func15 ?_;refine zN ?_;intro ab ai ae S;refine zN ?_;intro Z aj ag S;refine zC (V _) ?_;intro ak O S;refine zX ?_;exact⟨by rw[e],S.out⟩
end
theorem aaX{A B H:Bool}{n m:Int}(v:H=true↔(n<0\/n>1048576\/m<0\/m>1048576)) :
  (if (A&&B)=false then(4:Int)else if (0<=n/\n<=1048576)/\0<=m/\m<=1048576 then 0 else 8)=if (if A=true then(0:Int)else 4)≠0 then(if A=true then 0 else 4)else if (if B=true then(0:Int)else 4)≠0 then(if B=true then 0 else 4)else if H=true then 8 else 0:=by
 have e:((0<=n/\n<=1048576)/\0<=m/\m<=1048576)↔¬(H=true):=by rw[v];omega
 simp only[e];cases A<;>cases B<;>cases H<;>rfl
theorem aaY{A H B:Bool}{n m k:Int}(z:H=true↔(n<0\/n>1048576\/m<0\/m>1048576))(y:B=true↔(k<0\/k>1024)) :
  (if (if (A&&A)=false then(4:Int)else if (0<=n/\n<=1048576)/\0<=m/\m<=1048576 then 0 else 8)=0 then(if k<0\/1024<k then(9:Int)else 0)else(if (A&&A)=false then(4:Int)else if (0<=n/\n<=1048576)/\0<=m/\m<=1048576 then 0 else 8)) =
  if (if (if A=true then(0:Int)else 4)≠0 then(if A=true then(0:Int)else 4)else if (0:Int)≠0 then 0 else if H=true then 8 else 0)≠0 then(if (if A=true then(0:Int)else 4)≠0 then(if A=true then(0:Int)else 4)else if (0:Int)≠0 then 0 else if H=true then 8 else 0)else if (0:Int)≠0 then 0 else if B=true then 9 else 0:=by
 have e:((0<=n/\n<=1048576)/\0<=m/\m<=1048576)↔¬(H=true):=by rw[z];omega
 have v:(k<0\/1024<k)↔B=true:=by rw[y]
 simp only[e,v];cases A<;>cases H<;>cases B<;>rfl
theorem aaG(os:List m5)(o:m5)(hG:GL W)(hT:jX W)(ai:∀o∈os,wV W o)(hA:Rd W A (G0 os))(ae:wV W o) :
  Fn prog 3 [.slice A os.length c,o.v] W (dp (.bool true) W):=by
 have an:=λw(g:Gr W w)=>aa7 (W:=w) _ (ae.gr g);obtain⟨k,x0,y0,x1,y1,ax,ay,bx,v,n,m,⟨vA,vn,vc⟩,⟨J,O,L⟩,⟨U,dn,Z⟩⟩:=o;obtain⟨X,al,hX⟩:=ae.vs;dsimp only at al hX;subst al;dsimp only[m5.v,Sv.v]at an ⊢;have S:=St.start W;refine zI func3 ?_;refine zN ?_;intro ab bw bt S;refine zC (SX (hG.gr S.out)) ?_;intro bz bu S;refine z ?_;refine zc ?_;refine eX rfl ?_;refine zc ?_;refine gO ?_;try show CW _ _ _ _ _ _
 have aG:k<2\/16<k\/(2<=k/\k<=16):=om;repeat refine dm ?_
 refine gP (M:=λe w=>∃B:Bool,SL e [(0,.slice A os.length c),(3,pt ab),(32,.bool B)]/\(B=false->(os.length<=30/\∀o∈os,C5 o)/\X.length<=500/\2<=k/\k<=16)/\St No W w [.blk ab 31 [ii k,ii x0,ii y0,ii x1,ii y1,ii ax,ii ay,ii bx,ii v,ii n,ii m,.slice vA X.length vc,.slice J O L,.slice U dn Z]]) ?_ ?_
 ·rcases aG with h1|h1|h1
  all_goals
   refine zK (XL os (λo ho=>(ai o ho).gr S.out) (hA.gr S.out)) ?_;rintro _ bB ⟨b,rfl,aB,hb⟩;have S:=S.gr aB;refine zg ?_;refine O8 19 rfl (λh9=>?_) (λh9=>?_)
   ·first|refine eD rfl ?_|(refine dr rfl ?_;refine dH (fx sd rfl (Zm _) rfl (S.blk (i:=0) rfl) rfl rfl) ?_)
    refine eD rfl ?_;refine z ?_;refine z ?_;refine O8 23 rfl (λaa=>?_) (λaa=>?_)
    ·first|refine eD rfl ?_|(refine dr rfl ?_;refine cq (du sd rfl fa rfl rfl) ?_)
     refine zg ?_;exact⟨_,⟨rfl,rfl,rfl,trivial⟩,(by first|exact λ_=>⟨hb h9,(ag aa).1,h1⟩|(intro h;cases h;done)|cases aa),S⟩
    ·first|refine eD rfl ?_|(refine dr rfl ?_;refine cq (du sd rfl fa rfl rfl) ?_)
     refine zg ?_;exact⟨_,⟨rfl,rfl,rfl,trivial⟩,(by first|exact λ_=>⟨hb h9,(ag aa).1,h1⟩|(intro h;cases h;done)|cases aa),S⟩
   ·first|refine eD rfl ?_|(refine dr rfl ?_;refine dH (fx sd rfl (Zm _) rfl (S.blk (i:=0) rfl) rfl rfl) ?_)

    refine dr rfl ?_;refine eY rfl (an _ S.out) ?_;rintro _ bC ⟨b2,rfl,aC,ag⟩;have S:=S.gr aC;refine zg ?_;refine O8 23 rfl (λaa=>?_) (λaa=>?_)
    ·first|refine eD rfl ?_|(refine dr rfl ?_;refine cq (du sd rfl fa rfl rfl) ?_)
     refine zg ?_;exact⟨_,⟨rfl,rfl,rfl,trivial⟩,(by first|exact λ_=>⟨hb h9,(ag aa).1,h1⟩|(intro h;cases h;done)|cases aa),S⟩
    ·first|refine eD rfl ?_|(refine dr rfl ?_;refine cq (du sd rfl fa rfl rfl) ?_)
     refine zg ?_;exact⟨_,⟨rfl,rfl,rfl,trivial⟩,(by first|exact λ_=>⟨hb h9,(ag aa).1,h1⟩|(intro h;cases h;done)|cases aa),S⟩
 ·rintro e w2 ⟨B,ac,hB,S⟩;rw[ac.fold];rcases B with _|_
  ·obtain⟨⟨ap,aI⟩,aE,ao,ah⟩:=hB rfl;refine zK (Xz os ap (hT.gr S.out) (λo ho=>((ai o ho).gr S.out).ok (aI o ho)) (hA.gr S.out)) ?_;rintro _ bD ⟨sb,rfl,hS⟩;replace hS:=xV.baseL S hS;refine zg ?_;rcases hS with⟨p0,S⟩|⟨s,Q,aL,aj,S⟩
   ·skip;refine zK (OQ S) ?_;rintro _ bE ⟨rfl,S⟩;refine zN ?_;intro ad bF bv S;refine zS ?_;intro aZ S;refine zC (SK (o:=⟨k,x0,y0,x1,y1,ax,ay,bx,v,n,m,⟨vA,X.length,vc⟩,⟨J,O,L⟩,⟨U,dn,Z⟩⟩) ⟨ao,uP ah (by decide),λh=>by have h:k=24:=h;omega⟩ (St.swap S)) ?_;intro ba aN S;refine cq (P6 eE rfl Z6 rfl rfl rfl) ?_;refine zC (Me (S.blk (i:=1) rfl)) ?_;intro bb aO S;refine z ?_;refine z ?_;refine dr rfl ?_;refine z ?_;refine dr rfl ?_;exact zZ
   ·subst aL;have hw:=(S.grid (i:=1) rfl).sw;have hh:=(S.grid (i:=1) rfl).sh;have aJ:=aj.ok;have aD:s.V.length=s.gw*s.gh:=qf _ _ _;have hm:s.gw*s.gh<=1024*1024:=cE hw.2 hh.2;have ak:=λ(w:World)(D:Option Addr)(I:Nat)(x y:Int)(h:Rd w D (cY s.V))=>abd (W:=w) (c:=I) x y aD hm h;have aM:=λw=>aaE (W:=w) x0 y0 x1 y1 hw hh;have aq:=λ(h1:Y4 s ⟨k,x0,y0,x1,y1,ax,ay,bx,v,n,m,⟨vA,X.length,vc⟩,⟨J,O,L⟩,⟨U,dn,Z⟩⟩=0)(w:World)(D:Option Addr)(I:Nat)(hV:Rd w D (cY s.V))(hX:Rd w vA (cY X))=>aaS (W:=w) (A:=D) (c:=I) (vc:=vc) (s:=s) k x0 y0 x1 y1 ax ay bx v n m J U O L dn Z aJ.hB hw hh hV hX aE h1
    have aF:=λ{w:World}{tl:List HA}(S:St No W w ((s.L++Q)++tl))=>abc (o:=⟨k,x0,y0,x1,y1,ax,ay,bx,v,n,m,⟨vA,X.length,vc⟩,⟨J,O,L⟩,⟨U,dn,Z⟩⟩) (V:=X) rfl aj (show os.length<40 by omega) rfl (show X.length<=9223372036854775807 by omega) hX ⟨ao,ah⟩ S;have hO:ZO s ⟨k,x0,y0,x1,y1,ax,ay,bx,v,n,m,⟨vA,X.length,vc⟩,⟨J,O,L⟩,⟨U,dn,Z⟩⟩ X=if Y4 s ⟨k,x0,y0,x1,y1,ax,ay,bx,v,n,m,⟨vA,X.length,vc⟩,⟨J,O,L⟩,⟨U,dn,Z⟩⟩=0 then ZB s ⟨k,x0,y0,x1,y1,ax,ay,bx,v,n,m,⟨vA,X.length,vc⟩,⟨J,O,L⟩,⟨U,dn,Z⟩⟩ X else Y4 s ⟨k,x0,y0,x1,y1,ax,ay,bx,v,n,m,⟨vA,X.length,vc⟩,⟨J,O,L⟩,⟨U,dn,Z⟩⟩:=rfl;have f6:k=6\/k=15->Y4 s ⟨k,x0,y0,x1,y1,ax,ay,bx,v,n,m,⟨vA,X.length,vc⟩,⟨J,O,L⟩,⟨U,dn,Z⟩⟩=LS s.gw s.gh ax ay:=λh=>by unfold Y4;rw[a7 h]
    have f2:k=2->Y4 s ⟨k,x0,y0,x1,y1,ax,ay,bx,v,n,m,⟨vA,X.length,vc⟩,⟨J,O,L⟩,⟨U,dn,Z⟩⟩=if LS s.gw s.gh ax ay≠0 then LS s.gw s.gh ax ay else if (0:Int)≠0 then 0 else if (!iL n)=true then 7 else 0:=λh=>by
     unfold Y4;rw[a8 (by dsimp only;omega),a7 h];dsimp only;cases iL n<;>simp
    have aA:k=16->Y4 s ⟨k,x0,y0,x1,y1,ax,ay,bx,v,n,m,⟨vA,X.length,vc⟩,⟨J,O,L⟩,⟨U,dn,Z⟩⟩=if LS s.gw s.gh ax ay≠0 then LS s.gw s.gh ax ay else if LS s.gw s.gh bx v≠0 then LS s.gw s.gh bx v else if false=true then 0 else 0:=λh=>by
     unfold Y4;rw[a8 (by dsimp only;omega),a8 (by dsimp only;omega),a7 h];dsimp only;split
     ·rfl
     ·split
      ·rfl
      ·rename_i h1 h2;simp;omega
    have av:k=12->∀H:Bool,(H=true↔(n<0\/n>1048576\/m<0\/m>1048576))->Y4 s ⟨k,x0,y0,x1,y1,ax,ay,bx,v,n,m,⟨vA,X.length,vc⟩,⟨J,O,L⟩,⟨U,dn,Z⟩⟩=if LS s.gw s.gh ax ay≠0 then LS s.gw s.gh ax ay else if LS s.gw s.gh bx v≠0 then LS s.gw s.gh bx v else if H=true then 8 else 0:=λh H hH=>by
     unfold Y4;rw[a8 (by dsimp only;omega),a8 (by dsimp only;omega),a8 (by dsimp only;omega),a7 h];exact aaX hH
    have aw:k=13->∀H:Bool,(H=true↔(n<0\/n>1048576\/m<0\/m>1048576))->∀B:Bool,(B=true↔(bx<0\/bx>1024))->Y4 s ⟨k,x0,y0,x1,y1,ax,ay,bx,v,n,m,⟨vA,X.length,vc⟩,⟨J,O,L⟩,⟨U,dn,Z⟩⟩=if (if LS s.gw s.gh ax ay≠0 then LS s.gw s.gh ax ay else if (0:Int)≠0 then 0 else if H=true then 8 else 0)≠0 then(if LS s.gw s.gh ax ay≠0 then LS s.gw s.gh ax ay else if (0:Int)≠0 then 0 else if H=true then 8 else 0)else if (0:Int)≠0 then 0 else if B=true then 9 else 0:=λh H hH B hB=>by
     unfold Y4;rw[a8 (by dsimp only;omega),a8 (by dsimp only;omega),a8 (by dsimp only;omega),a8 (by dsimp only;omega),a7 h];unfold BQ pk LS;exact aaY (A:=mD s.gw s.gh (ax,ay)) hH hB
    have az:k=14->Y4 s ⟨k,x0,y0,x1,y1,ax,ay,bx,v,n,m,⟨vA,X.length,vc⟩,⟨J,O,L⟩,⟨U,dn,Z⟩⟩=0:=λh=>by
     unfold Y4;rw[a8 (by dsimp only;omega),a8 (by dsimp only;omega),a8 (by dsimp only;omega),a8 (by dsimp only;omega),a8 (by dsimp only;omega),a7 h]
    have f0:(k≠6/\k≠15)/\k≠2/\k≠16/\k≠12/\k≠13/\k≠14->Y4 s ⟨k,x0,y0,x1,y1,ax,ay,bx,v,n,m,⟨vA,X.length,vc⟩,⟨J,O,L⟩,⟨U,dn,Z⟩⟩=dF x0 y0 x1 y1 s.gw s.gh:=λh=>by
     unfold Y4;rw[a8 (by dsimp only;omega),a8 (by dsimp only;omega),a8 (by dsimp only;omega),a8 (by dsimp only;omega),a8 (by dsimp only;omega),a8 (by dsimp only;omega)]
    have ar:=λ(w:World)(D:Option Addr)(I:Nat)(h:Rd w D (cY s.V))=>ak w D I ax ay h;have au:=λ(w:World)(D:Option Addr)(I:Nat)(h:Rd w D (cY s.V))=>ak w D I bx v h
    clear ak;unfold aaC at ar au aq;generalize Y4 s ⟨k,x0,y0,x1,y1,ax,ay,bx,v,n,m,⟨vA,X.length,vc⟩,⟨J,O,L⟩,⟨U,dn,Z⟩⟩=q1 at *;generalize ZB s ⟨k,x0,y0,x1,y1,ax,ay,bx,v,n,m,⟨vA,X.length,vc⟩,⟨J,O,L⟩,⟨U,dn,Z⟩⟩ X=q2 at *;generalize ZO s ⟨k,x0,y0,x1,y1,ax,ay,bx,v,n,m,⟨vA,X.length,vc⟩,⟨J,O,L⟩,⟨U,dn,Z⟩⟩ X=qO at *;generalize LS s.gw s.gh ax ay=qa at *;generalize LS s.gw s.gh bx v=qb at *
    generalize dF x0 y0 x1 y1 s.gw s.gh=qw at *;replace S:St No W _ ([.blk ab 31 [ii k,ii x0,ii y0,ii x1,ii y1,ii ax,ii ay,ii bx,ii v,ii n,ii m,.slice vA X.length vc,.slice J O L,.slice U dn Z]]++((s.L++Q)++[])):=St.mid (C:=[]) S;refine zK (Vn aj (St.mid (A:=[_]) S)) ?_;rintro _ be ⟨D,I,rfl,S⟩;replace S:=St.mid1 (B:=[_]) (C:=[]) S;refine zN ?_;intro ad bf aP S;refine zS ?_;intro bg S;refine zK (aF (St.mid (A:=[_,_,_]) (C:=[]) S)) ?_;rintro _ bh ⟨r,rfl,aK,hS⟩;replace S:St No W _ [.blk ad 38 [ii s.gw,ii s.gh,.slice D (s.gw*s.gh) I],.row 2 1 D (s.gw*s.gh) I (cY s.V),.blk ab 31 [ii k,ii x0,ii y0,ii x1,ii y1,ii ax,ii ay,ii bx,ii v,ii n,ii m,.slice vA X.length vc,.slice J O L,.slice U dn Z]]:=xV.tlz hS;refine cq (P6 eE rfl Z6 rfl rfl rfl) ?_;rw[show r.code=qO from aK];refine zC (ar _ _ _ (S.rd (i:=1) rfl)) ?_;intro bi aQ S;refine zC (au _ _ _ (S.rd (i:=1) rfl)) ?_;intro bj aR S;iterate 6 refine z ?_
    refine ze ?_;have am:n<0\/(0<=n/\n>1048576)\/((0<=n/\n<=1048576)/\m<0)\/((0<=n/\n<=1048576)/\0<=m/\m>1048576)\/((0<=n/\n<=1048576)/\0<=m/\m<=1048576):=om;repeat refine dm ?_
    refine gP (M:=λe w=>∃H:Bool,(H=true↔(n<0\/n>1048576\/m<0\/m>1048576))/\SL e [(3,pt ab),(6,pt ad),(8,ii qO),(10,ii qa),(12,ii qb),(14,.bool H)]/\St No W w [.blk ad 38 [ii s.gw,ii s.gh,.slice D (s.gw*s.gh) I],.row 2 1 D (s.gw*s.gh) I (cY s.V),.blk ab 31 [ii k,ii x0,ii y0,ii x1,ii y1,ii ax,ii ay,ii bx,ii v,ii n,ii m,.slice vA X.length vc,.slice J O L,.slice U dn Z]]) ?_ ?_
    ·rcases am with h1|h1|h1|h1|h1
     all_goals
      refine zg ?_;exact⟨_,(by first|exact⟨λ_=>by omega,λ_=>rfl⟩|exact⟨λh=>(by cases h),λh=>absurd h om⟩),⟨rfl,rfl,rfl,rfl,rfl,rfl,trivial⟩,S⟩
    ·rintro e w3 ⟨H,hH,ac,S⟩;rw[ac.fold];refine z ?_;refine z ?_;refine zc ?_;refine gP (M:=λe w=>SL e [(3,pt ab),(6,pt ad),(8,ii qO),(13,ii q1)]/\St No W w [.blk ad 38 [ii s.gw,ii s.gh,.slice D (s.gw*s.gh) I],.row 2 1 D (s.gw*s.gh) I (cY s.V),.blk ab 31 [ii k,ii x0,ii y0,ii x1,ii y1,ii ax,ii ay,ii bx,ii v,ii n,ii m,.slice vA X.length vc,.slice J O L,.slice U dn Z]]) ?_ ?_
     ·have aH:k=6\/k=15\/k=2\/k=16\/k=12\/k=13\/k=14\/((k≠6/\k≠15)/\k≠2/\k≠16/\k≠12/\k≠13/\k≠14):=om;rcases aH with h|h|h|h|h|h|h|h
      ·have e1:=f6 (.inl h);refine zg ?_;exact⟨⟨rfl,rfl,rfl,ie e1.symm,trivial⟩,S⟩
      ·have e1:=f6 (.inr h);refine zg ?_;exact⟨⟨rfl,rfl,rfl,ie e1.symm,trivial⟩,S⟩
      ·have e1:=f2 h;refine zC (Pf n w3) ?_;intro bk aS S;refine zC (aap qa 0 7 (!iL n)) ?_;intro bl aT S;refine zg ?_;exact⟨⟨rfl,rfl,rfl,ie e1.symm,trivial⟩,S⟩
      ·have e1:=aA h;refine zC (aap qa qb 0 false) ?_;intro bm aU S;refine zg ?_;exact⟨⟨rfl,rfl,rfl,ie e1.symm,trivial⟩,S⟩
      ·have e1:=av h H hH;refine zC (aap qa qb 8 H) ?_;intro bo aV S;refine zg ?_;exact⟨⟨rfl,rfl,rfl,ie e1.symm,trivial⟩,S⟩
      ·have e1:=aw h H hH;have hb:bx<0\/(0<=bx/\bx>1024)\/(0<=bx/\bx<=1024):=om;rcases hb with hb|hb|hb
       all_goals
        refine zD [0,1,2,3,4,5,6,7,8,9,10,11,12,13,14] [] ?_;refine zP (λwq hq=>aap qa 0 8 H) ?_;refine zP (λwq hq=>aap _ 0 9 _) ?_;refine zE ?_;intro bp aW S;exact⟨⟨rfl,rfl,rfl,ie (e1 _ (by first|exact⟨λ_=>by omega,λ_=>rfl⟩|exact⟨λh=>(by cases h),λh=>absurd h om⟩)).symm,trivial⟩,S⟩
      ·have e1:=az h;refine zg ?_;exact⟨⟨rfl,rfl,rfl,ie e1.symm,trivial⟩,S⟩
      ·have e1:=f0 h;refine zC (aM w3) ?_;intro bq aX S;refine zg ?_;exact⟨⟨rfl,rfl,rfl,ie e1.symm,trivial⟩,S⟩
     ·rintro e w4 ⟨ac,S⟩;rcases cr (q1=0)with hc|hc
      ·have e1:qO=q2:=by rw[hO,a7 hc]
       rw[e1]at ac;rw[ac.fold];refine zC (aq hc _ _ _ (S.rd (i:=1) rfl) (hX.gr S.out)) ?_;intro br aY S;exact zZ
      ·have e1:qO=q1:=by rw[hO,a8 hc]
       rw[e1]at ac;rw[ac.fold];exact zZ
  ·skip;exact zZ
end Go.Proofs.YtceahkcepefcaaaGreatDoor
