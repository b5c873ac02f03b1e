/- hachuretop.WholeLevels: a part of the proof that the law returns true at every input; no condition of its own. -/
import Derived.Test.YtjfeklflkikapaaGreatDoorKZI
set_option maxRecDepth 100000
set_option maxHeartbeats 16000000
set_option linter.unusedVariables false
set_option linter.unusedSimpArgs false
namespace Go.Proofs.YtjfeklflkikapaaGreatDoor
open Go.Proofs.Tryz Go.RowKit
variable{Qq:(Nat->Value)->Prop}{Q:(Nat->Value)->World->Prop}{f:FuncId}{h:HA}{Y ax ay:Int}{σ:List (Nat × Value)}{M T:List HA}{V1:List Int}{ks:List Nat}{N b c gh gw i j k m n q sb x0 x1 xb y0 y1:Nat}{F X:Nat->Prop}{e:Nat->Value}{o:m5}{hi x:Operand}{A B p0:Option Addr}{r:Rc}{s:lT}{W w w' wq:World}{C:World->Prop}
theorem St.over0{L:List HA}(S:St No W w [])(v:St No w w' L):St No W w' L:=fG L▸S.app v
theorem xV.base(S:St No W w [])(h:xV sb j w w' []):xV sb j W w' []:=by
 rcases h with⟨p0,v⟩|⟨s,Q,h1,h2,v⟩
 ·exact .inl ⟨p0,S.over0 v⟩
 ·exact .inr ⟨s,Q,h1,h2,S.over0 v⟩
theorem St.mid1{A B C:List HA}(S:St F W w (h::(A++(B++C)))):St F W w (h::(B++(A++C))):=by
 refine S.perm_ (.cons _ ?_);rw[<-cL,<-cL];exact ft.append_right C
section
theorem XL(os:List m5)(y:∀o∈os,wV W o)(D:Rd W A (G0 os)) :
  Fn prog 5 [.slice A os.length c] W (λv w'=>∃b,v=.bool b/\Gr W w'/\(b=false->os.length<=30/\∀o∈os,C5 o)):=by
 have S:=St.start W;refine zI func5 ?_;refine zK (Vl os 30 (by decide) (λo J=>(y o J).gr S.out) (D.gr S.out)) ?_;rintro _ L ⟨b,rfl,z,I⟩;have S:=S.gr z;refine zX ?_;exact⟨b,rfl,S.out,I⟩
def Hu(s:lT)(kk how:Nat):List Int:=dw (dG s.gw kk) (dG s.gh kk) (λi=>((List.range (dG s.gw kk*dG s.gh kk)).map (EU s.gw s.gh s.cc kk how)).getD i 0)
theorem O3(n m:Nat)(f:Nat->Int)(i:Nat)(h:i<n*m):(dw n m (λi=>((List.range (n*m)).map f).getD i 0)).getD i 0=f i:=by
 rw[mF,a7 h,cO,da,eu h];rfl
theorem G9(s:lT)(y v:Nat):(Hu s y v).length=dG s.gw y*dG s.gh y:=by unfold Hu;exact qf _ _ _
theorem WS(s:lT)(y v i:Nat)(h:i<dG s.gw y*dG s.gh y):(Hu s y v)[i]?=some (EU s.gw s.gh s.cc y v i):=by
 have h1:(Hu s y v).getD i 0=EU s.gw s.gh s.cc y v i:=by unfold Hu;exact O3 _ _ _ i h
 have h2:i<(Hu s y v).length:=by rw[G9];exact h
 rw[ct h2,<-h1,cO,ct h2];rfl
section
variable{Q N:List HA}
theorem Ml(z y:Nat)(J:s.ok)(I:z<fW s.gw s.gh)(D:y<=2)(S:St No W w (N++((s.L++Q)++T))) :
  Fn prog 8 [pt s.sb,.agg #[ii 17,ii 0,ii 0,ii 0,ii 0,ii 0,ii 0,ii 0,ii 0,ii z,ii y,.slice none 0 0,.slice none 0 0,.slice none 0 0]] w
   (λv w'=>∃A c,v=gZ.v { code:=0,ax:=(dG s.gw z:Nat),ay:=(dG s.gh z:Nat),values:=⟨A,dG s.gw z*dG s.gh z,c⟩ }/\St No W w' (.row 2 1 A (dG s.gw z*dG s.gh z) c (cY (Hu s z y))::(N++((s.L++Q)++T)))) :=
 (tj (o:=⟨17,0,0,0,0,0,0,0,0,z,y,.nil,.nil,.nil⟩) rfl true (wt (by dsimp only;decide) (by dsimp only;decide)) (IB (M:=Q) z y J I D ⟨rfl,rfl,rfl⟩) (St.mid S)).mono λv w'⟨q,hv,S'⟩=>⟨q.1,q.2,hv,St.mid1 S'⟩
theorem Ha(z y:Nat)(D:fW s.gw s.gh<=z)(S:St No W w (N++((s.L++Q)++T))) :
  Fn prog 8 [pt s.sb,.agg #[ii 17,ii 0,ii 0,ii 0,ii 0,ii 0,ii 0,ii 0,ii 0,ii z,ii y,.slice none 0 0,.slice none 0 0,.slice none 0 0]] w
   (λv w'=>v=gZ.v { code:=11 }/\St No W w' (N++((s.L++Q)++T))) :=
 (tj (o:=⟨17,0,0,0,0,0,0,0,0,z,y,.nil,.nil,.nil⟩) rfl true (wt (by dsimp only;decide) (by dsimp only;decide)) (EF (M:=Q) (by dsimp only;omega) rfl) (St.mid S)).mono λv w'⟨_,hv,S'⟩=>⟨hv,St.mid S'⟩
theorem WT(r:Rc)(D:s.ok)(I:r.ok s.gw s.gh)(S:St No W w (N++((s.L++Q)++T))) :
  Fn prog 8 [pt s.sb,.agg #[ii 8,ii r.x0,ii r.y0,ii r.x1,ii r.y1,ii 0,ii 0,ii 0,ii 0,ii 0,ii 0,.slice none 0 0,.slice none 0 0,.slice none 0 0]] w
   (λv w'=>(∃x y:Int,v=gZ.v { code:=0,n:=to min (fi s.gw s.cc r.x0 r.y0 (r.x1+1-r.x0) (r.y1+1-r.y0)),ax:=x,ay:=y })/\St No W w' (N++((s.L++Q)++T))):=by
 have L:=(S.mid.grid (i:=1) rfl).sw;have J:=(S.mid.grid (i:=1) rfl).sh;have z:dF (r.x0:Int) r.y0 r.x1 r.y1 s.gw s.gh=0:=gW om om (by have:=I.1;omega) (by have:=I.2;omega);refine(tj (o:=⟨8,r.x0,r.y0,r.x1,r.y1,0,0,0,0,0,0,.nil,.nil,.nil⟩) rfl true (rV (by dsimp only;decide) (by dsimp only;decide)) (P1 (M:=Q) D rfl) (St.mid S)).mono λv w'⟨q,hv,S'⟩=>⟨⟨q.1.2.1,q.1.2.2,?_⟩,St.mid S'⟩;have h2:=O1 I (q.2 z);rw[h2,hv];unfold gZ.told;rw[a7 z]
theorem WU(r:Rc)(D:s.ok)(I:r.ok s.gw s.gh)(S:St No W w (N++((s.L++Q)++T))) :
  Fn prog 8 [pt s.sb,.agg #[ii 9,ii r.x0,ii r.y0,ii r.x1,ii r.y1,ii 0,ii 0,ii 0,ii 0,ii 0,ii 0,.slice none 0 0,.slice none 0 0,.slice none 0 0]] w
   (λv w'=>(∃x y:Int,v=gZ.v { code:=0,n:=to max (fi s.gw s.cc r.x0 r.y0 (r.x1+1-r.x0) (r.y1+1-r.y0)),ax:=x,ay:=y })/\St No W w' (N++((s.L++Q)++T))):=by
 have L:=(S.mid.grid (i:=1) rfl).sw;have J:=(S.mid.grid (i:=1) rfl).sh;have z:dF (r.x0:Int) r.y0 r.x1 r.y1 s.gw s.gh=0:=gW om om (by have:=I.1;omega) (by have:=I.2;omega);refine(tj (o:=⟨9,r.x0,r.y0,r.x1,r.y1,0,0,0,0,0,0,.nil,.nil,.nil⟩) rfl true (rV (by dsimp only;decide) (by dsimp only;decide)) (P2 (M:=Q) D rfl) (St.mid S)).mono λv w'⟨q,hv,S'⟩=>⟨⟨q.1.2.1,q.1.2.2,?_⟩,St.mid S'⟩;have h2:=S0 I (q.2 z);rw[h2,hv];unfold gZ.told;rw[a7 z]
end
theorem S4:∀n:Nat,n<256->td n<=8:=by decide+kernel
theorem XM(y:gw<=256)(v:gh<=256):fW gw gh<=9:=by
 unfold fW;by_cases h:max gw gh-1<256
 ·have:=S4 _ h;omega
 ·omega
theorem Hb(os:List m5)(v:Int)(hv:-9223372036854775808<=v/\v<=9223372036854775807)(hG:GL W)(hT:jX W)(hraw:∀o∈os,wV W o)(hA:Rd W A (G0 os)) :
  Fn prog 3 [.slice A os.length c,ii v] W (dp (.bool true) W):=by
 have S:=St.start W;refine zI func3 ?_;refine zC (SX (hG.gr S.out)) ?_;intro w1_ g1_ S;refine z ?_;refine zc ?_;refine eX rfl ?_;refine zc ?_;refine gO ?_;try show CW _ _ _ _ _ _
 have hv3:v<0\/v>10\/(0<=v/\v<=10):=om;repeat refine dm ?_
 refine gP (M:=λe w=>∃B:Bool,SL e [(0,.slice A os.length c),(1,ii v),(29,.bool B)]/\(B=false->(os.length<=30/\∀o∈os,C5 o)/\0<=v/\v<=10)/\St No W w []) ?_ ?_
 ·rcases hv3 with h1|h1|h1
  all_goals
   refine zK (XL os (λo ho=>(hraw o ho).gr S.out) (hA.gr S.out)) ?_;rintro _ w2_ ⟨b,rfl,g2_,hb⟩;have S:=S.gr g2_;refine zg ?_;refine O8 22 rfl (λh9=>?_) (λh9=>?_)
   ·refine yA ?_;exact⟨_,sl,(by first|exact λ_=>⟨hb h9,h1⟩|(intro h;cases h)),S⟩
   ·first|refine eD rfl ?_|(refine dr rfl ?_;refine cq (cH rfl) ?_)
    refine zg ?_;exact⟨_,sl,(by first|exact λ_=>⟨hb h9,h1⟩|(intro h;cases h)),S⟩
 ·rintro e w2 ⟨B,hsl,hB,S⟩;rw[hsl.fold];rcases B with _|_
  ·obtain⟨⟨hlen,hlt⟩,h0v,hv10⟩:=hB rfl;obtain⟨kk,rfl⟩:=cJ h0v;refine zK (Xz os hlen (hT.gr S.out) (λo ho=>((hraw o ho).gr S.out).ok (hlt o ho)) (hA.gr S.out)) ?_;rintro _ w3_ ⟨sb,rfl,hS⟩;replace hS:=xV.base S hS;refine zg ?_;rcases hS with⟨p0,S⟩|⟨s,Q,hsb,hBk,S⟩
   ·skip;refine zK (OQ S) ?_;rintro _ w4_ ⟨rfl,S⟩;refine yA ?_;intro _ _ S;exact ir rfl ⟨rfl,S.out⟩
   ·subst hsb;have hw:=(S.grid (i:=1) rfl).sw;have hh:=(S.grid (i:=1) rfl).sh;have hok:=hBk.ok;refine zK (Vn hBk S) ?_;rintro _ w8_ ⟨A_V,c_V,rfl,S⟩;refine zN ?_;intro b_m w10_ g10_ S;refine zS ?_;intro w11_ S;have hm:s.gw*s.gh<=1024*1024:=cE hw.2 hh.2;have hmu:(s.gw:Int)*s.gh=((s.gw*s.gh:Nat):Int):=by push_cast;rfl
    rcases eV 150 (s.gw*s.gh)with hbig|hbig
    ·skip;refine zg ?_;rw[hmu];exact zZ
    ·have hgw:s.gw<=150:=dE (eS _ hh.1) hbig;have hgh:s.gh<=150:=dE (Nat.le_mul_of_pos_left _ hw.1) hbig;have hl9:=XM (gw:=s.gw) (gh:=s.gh) om om;refine zg ?_;rw[hmu];refine zg ?_;rcases eV kk (fW s.gw s.gh)with hkk|hkk
     ·have hsd:2^kk<=2^8:=fP om om;have hp:0<2^kk:=ic om;have e1:=IF (n:=s.gw) (k:=kk) hw.1;have e2:=IF (n:=s.gh) (k:=kk) hh.1
      have hsh:IntKind.i64.wrap (1*2^(min ((kk:Nat):Int).toNat IntKind.i64.bits))=((2^kk:Nat):Int):=by
       rw[b7,io (by show kk<=64;omega),jG,show((2:Int)^kk)=((2^kk:Nat):Int)by push_cast;rfl];exact gC _ om
      have hwk:IntKind.u64.wrap ((kk:Nat):Int)=kk:=by rw[gQ];omega
      have hin1:∀X,X<dG s.gw kk->X*2^kk<s.gw:=λX h=>CJ hw.1 h;have hin2:∀X,X<dG s.gh kk->X*2^kk<s.gh:=λX h=>CJ hh.1 h
      have hlv:∀how i,i<dG s.gw kk*dG s.gh kk->(Hu s kk how)[i]?=some (GX how (fi s.gw s.cc (C8 s.gw s.gh (2^kk) (i%dG s.gw kk) (i/dG s.gw kk)).x0 (C8 s.gw s.gh (2^kk) (i%dG s.gw kk) (i/dG s.gw kk)).y0 ((C8 s.gw s.gh (2^kk) (i%dG s.gw kk) (i/dG s.gw kk)).x1+1-(C8 s.gw s.gh (2^kk) (i%dG s.gw kk) (i/dG s.gw kk)).x0) ((C8 s.gw s.gh (2^kk) (i%dG s.gw kk) (i/dG s.gw kk)).y1+1-(C8 s.gw s.gh (2^kk) (i%dG s.gw kk) (i/dG s.gw kk)).y0))):=λhow i h=>by
       rw[WS s kk how i h,<-O2 hw.1 hh.1];rfl
      have hle1:=oZ kk hw.1;have hle2:=oZ kk hh.1;have hg1:=tg s.gw kk;have hm2:dG s.gw kk*dG s.gh kk<=150*150:=cE om om;refine zK (Ml (s:=s) (Q:=Q) (N:=[_,_]) (T:=[]) kk 0 hok hkk om S) ?_;rintro _ w12_ ⟨A_rlo,c_rlo,rfl,S⟩;refine zK (Ml (s:=s) (Q:=Q) (N:=[_,_,_]) (T:=[]) kk 1 hok hkk om S) ?_;rintro _ w13_ ⟨A_rhi,c_rhi,rfl,S⟩;refine zN ?_;intro b_lo w15_ g15_ S;refine zN ?_;intro b_hi w17_ g17_ S;refine zS ?_;intro w19_ S;dsimp only[gZ.cs,Sv.v,Sv.nil]at S;refine zg ?_;refine cq (dY (ks:=.i64) (n:=(kk:Nat)) (kd:=.u64) (m:=(kk:Nat)) cw mh rfl hwk) ?_;refine cq (vz (c:=((2^kk:Nat):Int)) rfl rfl om hsh) ?_;refine zg ?_;have hl0:=hlv 0;have hl1:=hlv 1;have hlen0:=G9 s kk 0;have hlen1:=G9 s kk 1;generalize Hu s kk 0=V0 at *;generalize Hu s kk 1=V1 at *;clear hsh hwk hkk hl9 hlv;have hq1:((s.gw:Int)+(2^kk:Nat)-1)/(2^kk:Nat)=(dG s.gw kk:Nat):=by rw[e1];push_cast;rw[Int.ofNat_sub om];push_cast;rfl
      have hq2:((s.gh:Int)+(2^kk:Nat)-1)/(2^kk:Nat)=(dG s.gh kk:Nat):=by rw[e2];push_cast;rw[Int.ofNat_sub om];push_cast;rfl
      clear e1 e2;generalize 2^kk=sd at *;generalize dG s.gw kk=g1 at *;generalize dG s.gh kk=g2 at *;have h12:(g1:Int)*g2=((g1*g2:Nat):Int):=by push_cast;rfl
      refine zD [0,1,2,3,4,5,6,7,8,9,10,11,12,13,14,15,16,17,18,19,20,21,22,23,24,25,26,27,28,29,30,31,32,33,34,35,36,37,38,39,40,41,42,43,44,45,46,47,48,49,50,51,52] [] ?_;refine eO (M2 (r:=false) rfl rfl (by rw[cF ⟨rfl,rfl⟩];rfl)) ?_;iterate 3 refine y ?_
      first|refine iN rfl ?_|(refine fO rfl ?_;refine fo (λwq hq=>cV cw rfl rfl ((S.gr hq).blk (i:=1) rfl) rfl) ?_)
      refine y ?_;first|refine iN rfl ?_|(refine fO rfl ?_;refine fo (λwq hq=>cV cw rfl rfl ((S.gr hq).blk (i:=4) rfl) rfl) ?_)
      refine y ?_;(iterate 2 refine yr ?_);refine y ?_;refine fO rfl ?_;refine eO (EW rfl rfl om om) ?_;rw[hq1];first|refine iN rfl ?_|(refine fO rfl ?_;refine eO (ff (b:=false) rfl (eo.2 om)) ?_)
      iterate 2 refine eO (cH rfl) ?_
      first|refine iN rfl ?_|(refine fO rfl ?_;refine eO (du iH rfl dW rfl rfl) ?_)
      first|refine iN rfl ?_|(refine fO rfl ?_;refine eO (du dI rfl cR rfl rfl) ?_)
      first|refine iN rfl ?_|(refine fO rfl ?_;refine fo (λwq hq=>cV cw rfl rfl ((S.gr hq).blk (i:=1) rfl) rfl) ?_)
      first|refine iN rfl ?_|(refine fO rfl ?_;refine eO (du fZ rfl cR rfl rfl) ?_)
      first|refine iN rfl ?_|(refine fO rfl ?_;refine fo (λwq hq=>cV cw rfl rfl ((S.gr hq).blk (i:=4) rfl) rfl) ?_)
      first|refine iN rfl ?_|(refine fO rfl ?_;refine eO (cH rfl) ?_)
      first|refine iN rfl ?_|(refine fO rfl ?_;refine eO (fh rfl om) ?_)
      first|refine iN rfl ?_|(refine fO rfl ?_;refine eO (fh rfl om) ?_)
      first|refine iN rfl ?_|(refine fO rfl ?_;refine eO (cH rfl) ?_)
      refine fO rfl ?_;refine zQ ?_;rw[hq2];refine zQ ?_;rw[h12];refine zE ?_;intro w20_ g20_ S;have hV12:∀i,i<g1*g2->i/g1<g2:=λi h=>cS h;generalize hN:g1*g2=N at *
      refine dl (λm e w=>∃i:Nat,i+m=N/\SL e [(5,pt s.sb),(6,pt b_m),(8,pt b_lo),(9,pt b_hi),(10,ii sd),(11,ii i)]/\St No W w (.blk b_hi 40 [ii 0,ii 0,.bool false,ii g1,ii g2,.slice none 0 0,.slice A_rhi N c_rhi,.slice none 0 0,.slice none 0 0,.slice none 0 0]::.blk b_lo 40 [ii 0,ii 0,.bool false,ii g1,ii g2,.slice none 0 0,.slice A_rlo N c_rlo,.slice none 0 0,.slice none 0 0,.slice none 0 0]::.row 2 1 A_rhi N c_rhi (cY V1)::.row 2 1 A_rlo N c_rlo (cY V0)::.blk b_m 29 [ii s.gw,ii s.gh,.slice A_V (s.gw*s.gh) c_V]::.row 2 1 A_V (s.gw*s.gh) c_V (cY s.V)::((s.L++Q)++[]))) N
       ⟨0,om,sl,S⟩ ?_
      clear S;rintro m e w ⟨i,hi,hsl,S⟩;rw[hsl.fold];rcases cr (i<N)with hin|hin
      ·have hX:i%g1<g1:=dt i om;have hY:=hV12 i hin;have hx:=hin1 _ hX;have hy:=hin2 _ hY;have hz0:V0[i]?=some (to min _):=hl0 i hin;have hz1:V1[i]?=some (to max _):=hl1 i hin;have em:(i:Int)%g1=((i%g1:Nat):Int):=by push_cast;rfl
       have ed:(i:Int)/g1=((i/g1:Nat):Int):=by push_cast;rfl
       clear hl0 hl1;generalize i%g1=X at *;generalize i/g1=Y at *;unfold C8 at hz0 hz1;dsimp only at hz0 hz1;have exs:(X:Int)*sd=((X*sd:Nat):Int):=by push_cast;rfl
       have eys:(Y:Int)*sd=((Y*sd:Nat):Int):=by push_cast;rfl
       generalize X*sd=x0 at *;generalize Y*sd=y0 at *;have ex1:(x0:Int)+sd-1=((x0+sd-1:Nat):Int):=om;have ey1:(y0:Int)+sd-1=((y0+sd-1:Nat):Int):=om;have ew1:(s.gw:Int)-1=((s.gw-1:Nat):Int):=om;have eh1:(s.gh:Int)-1=((s.gh-1:Nat):Int):=om;have hr:Rc.ok ⟨x0,y0,min (s.gw-1) (x0+sd-1),min (s.gh-1) (y0+sd-1)⟩ s.gw s.gh:=⟨by dsimp only;omega,by dsimp only;omega⟩;have hme:=λw=>XK x0 y0 (x0+sd-1) (y0+sd-1) (s.gw-1) (s.gh-1) om om om om w;generalize min (s.gw-1) (x0+sd-1)=x1 at *;generalize min (s.gh-1) (y0+sd-1)=y1 at *;have q8:=λ{N T:List HA}{w:World}(S:St No W w (N++((s.L++Q)++T)))=>WT _ hok hr S;have q9:=λ{N T:List HA}{w:World}(S:St No W w (N++((s.L++Q)++T)))=>WU _ hok hr S;dsimp only at q8 q9;generalize to min (fi s.gw s.cc x0 y0 (x1+1-x0) (y1+1-y0))=z0 at *;generalize to max (fi s.gw s.cc x0 y0 (x1+1-x0) (y1+1-y0))=z1 at *;have sa_rlo:dO A_rlo:=(S.rd (i:=3) rfl).someA (by rw[gn,hlen0];omega);have sa_rhi:dO A_rhi:=(S.rd (i:=2) rfl).someA (by rw[gn,hlen1];omega);(iterate 4 refine z ?_);refine zt ?_;refine zc ?_;refine jr rfl ?_;refine zc ?_;refine gO ?_;try show CW _ _ _ _ _ _
       refine zc ?_;refine k0 ?_;refine zc ?_;refine pF (C:=λwq=>Gr w wq) [0,1,2,3,4,5,6,7,8,9,10,11,12,13,14,15] [] (by kernel_rfl) (by kernel_rfl) (Gr.drew _) ?_;simp only[iS,dK,dR];iterate 3 refine y ?_
       refine fo (λwq hq=>cV cw rfl rfl ((S.gr hq).blk (i:=1) rfl) rfl) ?_;refine eO (xd rfl rfl om om) ?_;rw[em];refine eO (cH rfl) ?_;refine eO (fh rfl (by rw[exs];omega)) ?_;rw[exs];iterate 3 refine y ?_
       refine fo (λwq hq=>cV cw rfl rfl ((S.gr hq).blk (i:=1) rfl) rfl) ?_;refine eO (EW rfl rfl om om) ?_;rw[ed];refine eO (cH rfl) ?_;refine eO (fh rfl (by rw[eys];omega)) ?_;rw[eys];refine zE ?_;intro w21_ g21_ S;rw[ex1];refine zg ?_;rw[ey1];refine zg ?_;rw[ew1];refine zg ?_;rw[eh1];refine zC (hme _) ?_;intro w22_ g22_ S;refine zN ?_;intro b_r w24_ g24_ S;refine zS ?_;intro w25_ S;refine TI.YA (C:=(AV No W _ 3 7 8 9 (λv=>∃x y:Int,v=gZ.v { code:=0,n:=z0,ax:=x,ay:=y }) (λv=>∃x y:Int,v=gZ.v { code:=0,n:=z1,ax:=x,ay:=y }) 40 [ii 0,ii 0,.bool false,ii 0,ii 0,.slice none 0 0,.slice none 0 0,.slice none 0 0,.slice none 0 0,.slice none 0 0])) [3,7,8,9] [0,1,2,4,5,6] [10,11] (λi=>if i=7 then [3]else []) (by kernel_rfl) (by kernel_rfl) (AV.start (S.gr (Gr.drew _))) ?_;simp only[kz,iS,dK,dR];refine zU (λτ wq hq=>((AV.st hq).blk (i:=0) rfl)) ?_;refine zU (λτ wq hq=>((AV.st hq).blk (i:=0) rfl)) ?_;refine zW ?_;refine⟨⟨⟨rfl,?_⟩,⟨rfl,?_⟩,⟨rfl,?_⟩,⟨rfl,?_⟩,trivial⟩,?_⟩
       ·intro σ w hC hn hp;refine G8 3 (.inl rfl) rfl rfl rfl rfl rfl hC rfl (λQq S=>?_);exact(q8 (St.csa (A:=Qq) (B:=[_,_,_,_,_,_,_]) S)).mono λv w'⟨hv,S'⟩=>⟨λ_=>hv,λh=>(by cases h),St.asc S'⟩
       ·intro σ w hC hn hp;refine G8 7 (.inr rfl) rfl rfl rfl rfl rfl hC rfl (λQq S=>?_);exact(q9 (St.csa (A:=Qq) (B:=[_,_,_,_,_,_,_]) S)).mono λv w'⟨hv,S'⟩=>⟨λh=>(by cases h),λ_=>hv,St.asc S'⟩
       ·intro σ w hC hn hp;exact JW hC hn rfl rfl rfl kT rfl
       ·intro σ w hC hn hp;exact JX hC hn rfl rfl rfl kT rfl
       rintro σ V hV w26_ hz;dsimp only[TI.Eb];obtain⟨b_a,b_b,e1,e2,⟨xa,ya,h1⟩,⟨xb,yb,h2⟩,S⟩:=hz.fin (hV _ (.head _)) (hV _ (.tail _ (.head _))) (hV _ (.tail _ (.tail _ (.head _)))) (hV _ (.tail _ (.tail _ (.tail _ (.head _)))));dsimp only at e1 e2 h1 h2;rw[e1,e2,h1,h2];refine zS ?_;intro w28_ S;dsimp only[gZ.cs,Sv.v,Sv.nil]at S;refine zD [0,1,2,3,4,5,6,7,8,9,10,11,12,13,14,15,16,17,18,19,20,21,22,23,24,25,26,27] [] ?_;try (refine fO rfl ?_;refine fo (λwq hq=>eI cw rfl rfl ((S.gr hq).rd (i:=6) rfl) (by rw[b7,cG];exact gc hz0)) ?_)
       refine zQ ?_;try (refine fO rfl ?_;refine fo (λwq hq=>eI cw rfl rfl ((S.gr hq).rd (i:=5) rfl) (by rw[b7,cG];exact gc hz1)) ?_)
       refine zE ?_;intro w29_ g29_ S;exact⟨m-1,om,i+1,om,sl,S.drop 3⟩
      ·obtain rfl:i=N:=om;exact zZ
     ·skip;refine zK (Ha (s:=s) (Q:=Q) (N:=[_,_]) (T:=[]) kk 0 hkk S) ?_;rintro _ w30_ ⟨rfl,S⟩;refine zK (Ha (s:=s) (Q:=Q) (N:=[_,_]) (T:=[]) kk 1 hkk S) ?_;rintro _ w31_ ⟨rfl,S⟩;refine zN ?_;intro b_lo w33_ g33_ S;refine zN ?_;intro b_hi w35_ g35_ S;refine zS ?_;intro w37_ S;dsimp only[gZ.cs,Sv.v,Sv.nil]at S;exact zZ
  ·skip;exact zZ
end
end Go.Proofs.YtjfeklflkikapaaGreatDoor
