/- A part of the proof that hachuretop.WholeErrors returns true at every input; no condition. -/
import Derived.Test.YtceahkcepefcaaaGreatDoorKR
import Derived.Test.YtceahkcepefcaaaGreatDoorKS
set_option maxRecDepth 100000
set_option maxHeartbeats 16000000
set_option linter.unusedVariables false
set_option linter.unusedSimpArgs false
namespace Go.Proofs.YtceahkcepefcaaaGreatDoor
open Go.Proofs.Tryz Go.RowKit
variable{bd:Code}{h h':HA}{Y a ax ay bx now:Int}{σ:List (Nat × Value)}{ls:List BR}{L' M T tl:List HA}{l vs xs:List Value}{N b c cf cy g gh gw i j k kb lc m n p q rb sn tb x0 x1 xb y0 y1:Nat}{cc:Nat->Int}{bs:Nat->Nat}{R':Nat->Nat->Bool}{As:Nat->Option Addr}{Rs:Nat->Option Nat}{F X:Nat->Prop}{e:Nat->Value}{o:m5}{hi x:Operand}{A B lA ov:Option Addr}{d:Option Tmp}{G:Prop}{r:Rc}{s:lT}{u:Value}{R:Value->World->Prop}{W w w' wq:World}{C:World->Prop}
structure Bi where
 eye:Int
 top:Int
 n:Int
def Bi.over(s:Bi)(z:Int)(i:Nat):Bool:=decide ((z-s.eye)*s.n>(s.top-s.eye)*i)
theorem Bi.ends{s:Bi}(y:0<=s.n){z v:Int}{x:Nat}(h1:i<=x)(h2:x<=j)(D:v<=z)(h:s.over v x=true):(s.over z i||s.over z j)=true:=by
 unfold Bi.over at *;rw[ky];rw[cT]at *;rw[cT];have a:=fu (show v-s.eye<=z-s.eye by omega) y;rcases me 0 (s.top-s.eye)with b|b
 ·have c:=li (show(i:Int)<=x by omega) b;exact .inl om
 ·have c:=li (show(x:Int)<=j by omega) (show 0<=-(s.top-s.eye)by omega);rw[Int.neg_mul,Int.neg_mul]at c;exact .inr om
def UR(gw:Nat)(V:List Int)(ax ay ha bx cy hb:Int):Bi:=⟨yF gw V (rm ax ay (jh ax ay bx cy) 0)+ha,yF gw V (rm ax ay (jh ax ay bx cy) (jh ax ay bx cy).n.toNat)+hb,(jh ax ay bx cy).n⟩
def Oq(gw:Nat)(V:List Int)(ax ay ha bx cy hb:Int)(i:Nat):Bool:=(UR gw V ax ay ha bx cy hb).over (yF gw V (rm ax ay (jh ax ay bx cy) i)) i
def pk(gw gh:Nat)(ax ay ha bx cy hb:Int):Int:=if (mD gw gh (ax,ay)&&mD gw gh (bx,cy))=false then 4 else if (0<=ha/\ha<=1048576)/\0<=hb/\hb<=1048576 then 0 else 8
def JN(gw gh:Nat)(V:List Int)(ax ay ha bx cy hb:Int)(yes:Bool)(ox oy:Int):Prop :=
 (pk gw gh ax ay ha bx cy hb≠0/\yes=false/\ox=0/\oy=0)\/(pk gw gh ax ay ha bx cy hb=0/\∃r,AP 1 ((jh ax ay bx cy).n.toNat-1) (Oq gw V ax ay ha bx cy hb) r/\((r<0/\yes=true/\ox=0/\oy=0)\/(0<=r/\yes=false/\(ox,oy)=rm ax ay (jh ax ay bx cy) r.toNat)))
section
variable{yb:Nat}{V:List Int}
theorem Sj(x y:Int)(U:1<=gw/\gw<=1024)(O:1<=gh/\gh<=1024)(hc:mD gw gh (x,y)=false)(hP:iM W yb gw gh V) :
  Fn prog 179 [pt yb,ii 0,.agg #[ii x,ii y]] W (dp (.tuple #[.agg #[ii 0,ii 0],ii 4]) W):=by
 obtain⟨lA,lc,As,cs,h1,h2,h3⟩:=hP;have hl:=lI U.2 O.2;have J:dO lA:=h2.someA (by rw[Cq];omega);have L:=E3 (gw:=gw) (gh:=gh) (As:=As) (cs:=cs) (show 0<fW gw gh by omega);rw[iR U.1,iR O.1]at L
 have v:x<0\/(0<=x/\x>=gw)\/((0<=x/\x<gw)/\(y<0\/(0<=y/\y>=gh))):=by
  have:=mt (jT (gw:=gw) (gh:=gh) (c:=(x,y))).2 (by rw[hc];simp);dsimp only at this;omega
 have S:=St.start W;rcases v with v|v|⟨v,I|I⟩
 all_goals
  refine zI func179 ?_;refine zN ?_;intro Z ae ab S;refine zN ?_;intro D ag ac S;iterate 5 refine z ?_
  first|refine cq (ff (b:=true) rfl (cF om)) ?_|refine cq (ff (b:=false) rfl (cC om)) ?_|refine cq (cH rfl) ?_
  iterate 5 refine z ?_
  first|refine eD rfl ?_|(refine dr rfl ?_;refine dH (cV ow rfl rfl (h1.gr S.out) rfl) ?_)
  refine z ?_;first|refine eD rfl ?_|(refine dr rfl ?_;(first|refine cq (ff (b:=true) rfl (cF om)) ?_|refine cq (ff (b:=false) rfl (cC om)) ?_|refine cq (cH rfl) ?_))
  iterate 5 refine z ?_
  refine dH (cV ow rfl rfl (h1.gr S.out) rfl) ?_;refine zg ?_;refine ZU (h2.gr S.out) L ?_;refine zN ?_;intro aa ah ad S;refine zS ?_;intro ai S;exact pG S ⟨rfl,S.out⟩
def LS(gw gh:Nat)(x y:Int):Int:=if mD gw gh (x,y)=true then 0 else 4
theorem LT(x y:Int)(z:1<=gw/\gw<=1024)(v:1<=gh/\gh<=1024):∃I:RG,∀W,iM W yb gw gh V ->
  Fn prog 179 [pt yb,ii 0,.agg #[ii x,ii y]] W (dp (.tuple #[.agg #[ii I.lo,ii I.hi],ii (LS gw gh x y)]) W):=by
 have O:=lI z.2 v.2;unfold LS;by_cases h:mD gw gh (x,y)=true
 ·rw[a7 h];have hi:=jT.1 h;dsimp only at hi;obtain⟨X,J⟩:=cJ hi.1;obtain⟨Y,L⟩:=cJ hi.2.2.1;subst J L;exact⟨pm gw gh V 0 X Y,λW D=>Cr 0 X Y z v om (by rw[iR z.1];omega) (by rw[iR v.1];omega) D⟩
 ·rw[a8 h];exact⟨⟨0,0⟩,λW D=>Sj x y z v (by simpa using h) D⟩
theorem AQ(n:Int):Fn prog 108 [ii n] W (dp (.bool (decide (0<=n)&&decide (n<=1048576))) W):=by
 have S:=St.start W;by_cases h:0<=n
 ·rw[cF h,tR];by_cases h2:n<=1048576
  all_goals
   refine zI func108 ?_;refine zX ?_;exact⟨by simp[h2],S.out⟩
 ·rw[cC h,nz];refine zI func108 ?_;exact zZ
theorem US{v O:Nat}{s:Bi}(z:Int)(i j:Nat)(hz:-17179869184<=z/\z<=17179869184)(J:(-17179869184<=s.eye/\s.eye<=17179869184)/\-17179869184<=s.top/\s.top<=17179869184)(hn:1<=s.n/\s.n<=1024)(I:eL W v 2 [ii s.eye])(L:eL W tb 2 [ii s.top])(D:eL W O 3 [ii s.n])(hi:i<=s.n)(hj:j<=s.n) :
  Fn prog 111 ([]++[ii z,ii i,ii j]++[pt v,pt tb,pt O]) W (dp (.bool (s.over z i||s.over z j)) W):=by
 have h1:=λw(k:Nat)(h:k<=s.n)=>UL (W:=w) z s.eye s.top k s.n hz J.1 J.2 hn om;have h2:=λw=>h1 w i hi;have y:=λw=>h1 w j hj;have U:∀k:Nat,decide ((z-s.eye)*s.n>(s.top-s.eye)*k)=s.over z k:=λk=>rfl;rw[U]at h2 y;generalize s.over z i=A at *;generalize s.over z j=B at *;have S:=St.start W;cases A
 all_goals
  refine zI func111 ?_;repeat refine dm ?_
  refine dz ?_;refine cq (cH rfl) ?_;first|refine eF ?_|(refine di ?_;show CW _ _ _ _ _ _)|refine di ?_
  repeat refine dm ?_
  refine dz ?_;refine cq (cH rfl) ?_;refine dH (cV cw rfl rfl (I.gr S.out) rfl) ?_;refine dH (cV cw rfl rfl (L.gr S.out) rfl) ?_;refine cq (cH rfl) ?_;refine dH (cV dB rfl rfl (D.gr S.out) rfl) ?_;refine zC (h2 W) ?_;intro aa V S;refine zL (I.gr S.out) ?_;refine zL (L.gr S.out) ?_;refine zL (D.gr S.out) ?_;refine zC (y _) ?_;intro ab Z S;exact zZ
theorem GK(ax ay bx cy:Int)(hw:1<=gw/\gw<=1024)(hh:1<=gh/\gh<=1024)(hP:iM W yb gw gh V) :
  Fn prog 107 [pt yb,.agg #[ii ax,ii ay],.agg #[ii bx,ii cy]] W
   (λu w'=>((mD gw gh (ax,ay)&&mD gw gh (bx,cy))=false/\u=.tuple #[.pointer none,ii 4]/\Gr W w') \/
    (mD gw gh (ax,ay)=true/\mD gw gh (bx,cy)=true/\∃xb lA lc,u=.tuple #[pt xb,ii 0]/\St No W w' [.blk xb 205 [pt yb,ii gw,ii gh,.slice lA (vX ax ay bx cy).length lc],.row 26 2 lA (vX ax ay bx cy).length lc (eT (vX ax ay bx cy))])):=by
 obtain⟨ra,y⟩:=LT (yb:=yb) (V:=V) ax ay hw hh;obtain⟨rb,z⟩:=LT (yb:=yb) (V:=V) bx cy hw hh;unfold LS at y z;have D:=λw ha hb=>On (W:=w) (gw:=gw) (gh:=gh) ax ay bx cy ⟨hw.2,hh.2⟩ ha hb;rw[<-AO]at D;generalize mD gw gh (ax,ay)=A at *;generalize mD gw gh (bx,cy)=B at *;generalize vX ax ay bx cy=l at *;have S:=St.start W;refine zI func107 ?_;refine zN ?_;intro O aV aS S;refine zN ?_;intro U aW aT S;refine zN ?_;intro J aX aU S;refine zC (tJ hw hh (hP.gr S.out)) ?_;refine zS ?_;intro aY S;refine cq (Ck ZE ya zeroValue309 rfl rfl) ?_;refine zg ?_
 refine dl (λm e w=>∃k:Nat,m=2-k/\k<=2/\((1<=k->A=true)/\(2<=k->B=true))/\SL e [(0,pt yb),(4,pt O),(5,pt U),(8,pt J),(31,.agg #[ii ax,ii ay,ii bx,ii cy]),(32,ii k)] /\
   St No W w [.blk J 205 [pt yb,ii gw,ii gh,.slice none 0 0],.blk U 26 [ii bx,ii cy],.blk O 26 [ii ax,ii ay]]) 2
  ⟨0,rfl,om,⟨λh=>by omega,λh=>by omega⟩,sl,S⟩ ?_
 clear S;rintro m e w ⟨k,rfl,hk,L,ae,S⟩;rw[ae.fold];rcases (show k=0\/k=1\/k=2 by omega)with rfl|rfl|rfl
 ·cases A
  ·simp only[m7,pW]at y;refine zg ?_;refine cq (rR ZE q9 ya rfl rfl rfl om om rfl) ?_;refine zN ?_;intro I au ag S;refine zS ?_;intro av S;refine zC (y _ (hP.gr S.out)) ?_;intro aw ah S;refine zN ?_;intro v az ai S;refine zS ?_;intro aA S;exact nd rfl rfl (.inl ⟨rfl,rfl,S.out⟩)
  ·simp only[rq]at y;refine zg ?_;refine cq (rR ZE q9 ya rfl rfl rfl om om rfl) ?_;refine zN ?_;intro I aB aj S;refine zS ?_;intro aC S;refine zC (y _ (hP.gr S.out)) ?_;intro aD ak S;refine zN ?_;intro v aE al S;refine zS ?_;intro aF S;exact⟨1,om,1,om,om,⟨λ_=>rfl,λh=>by omega⟩,sl,S.drop 2⟩
 ·cases B
  ·simp only[m7,pW]at z;refine zg ?_;refine cq (rR ZE q9 ya rfl rfl rfl om om rfl) ?_;refine zN ?_;intro I aG am S;refine zS ?_;intro aH S;refine zC (z _ (hP.gr S.out)) ?_;intro aI an S;refine zN ?_;intro v aJ ao S;refine zS ?_;intro aK S;exact nd rfl rfl (.inl ⟨by rw[Bool.and_false],rfl,S.out⟩)
  ·simp only[rq]at z;refine zg ?_;refine cq (rR ZE q9 ya rfl rfl rfl om om rfl) ?_;refine zN ?_;intro I aL ap S;refine zS ?_;intro aM S;refine zC (z _ (hP.gr S.out)) ?_;intro aN aq S;refine zN ?_;intro v aO ar S;refine zS ?_;intro aP S;exact⟨0,om,2,om,om,⟨λ_=>L.1 (cN _),λ_=>rfl⟩,sl,S.drop 2⟩
 ·obtain rfl:=L.1 om;obtain rfl:=L.2 om;refine zK (D w rfl rfl) ?_;rintro _ aQ ⟨ac,ad,rfl,aa,ab,Z⟩;have S:=S.pushRow aa ab Z;refine zS ?_;intro aR S;exact nd rfl rfl (.inr ⟨rfl,rfl,J,ac,ad,rfl,(S.swap.sub (.cons_cons _ (.cons_cons _ (.cons _ (.cons _ .slnil)))))⟩)
theorem JO(ax ay D bx cy L:Int)(hw:1<=gw/\gw<=1024)(hh:1<=gh/\gh<=1024)(hc:pk gw gh ax ay D bx cy L≠0)(O:iM W yb gw gh V) :
  Fn prog 55 [pt yb,.agg #[ii ax,ii ay],ii D,.agg #[ii bx,ii cy],ii L] W (dp (.tuple #[.bool false,.agg #[ii 0,ii 0],ii (pk gw gh ax ay D bx cy L)]) W):=by
 have I:=λw=>AQ (W:=w) D;have ad:=λw=>AQ (W:=w) L;unfold pk at hc ⊢;by_cases y:(mD gw gh (ax,ay)&&mD gw gh (bx,cy))=false
 ·rw[a7 y];have J:=λw(O:iM w yb gw gh V)=>(GK (W:=w) (yb:=yb) (V:=V) ax ay bx cy hw hh O).mono (R':=dp (.tuple #[.pointer none,ii 4]) w) λu w' h=>h.elim (λh=>h.2) (λh=>by rw[h.1,h.2.1]at y;cases y)
  have S:=St.start W;refine zI func55 ?_;refine zN ?_;intro U ae aa S;refine zN ?_;intro Z ag ab S;refine zN ?_;intro v ah ac S;refine zC (J _ (O.gr S.out)) ?_;intro ai ao S;refine zS ?_;intro aj S;exact tm q9 rfl (ya _) rfl (S.blk (i:=0) rfl) rfl rfl rfl rfl ⟨rfl,S.out⟩
 ·have J:=λw(O:iM w yb gw gh V)=>(GK (W:=w) (yb:=yb) (V:=V) ax ay bx cy hw hh O).mono (R':=λu w'=>∃xb,u=.tuple #[pt xb,ii 0]/\Gr w w') λu w' h=>h.elim (λh=>absurd h.1 y) (λ⟨_,_,xb,lA,lc,hu,S⟩=>⟨xb,hu,S.out⟩);rw[a8 y]at hc ⊢;have al:¬((0<=D/\D<=1048576)/\0<=L/\L<=1048576):=λh=>hc (a7 h);rw[a8 al];have S:=St.start W;by_cases h1:0<=D/\D<=1048576
  ·have h2:(decide (0<=L)&&decide (L<=1048576))=false:=by
    rw[il,d9,d9];omega
   rw[cF h1.1,cF h1.2]at I;rw[h2]at ad;refine zI func55 ?_;refine zN ?_;intro U ae aa S;refine zN ?_;intro Z ag ab S;refine zN ?_;intro v ah ac S;refine zK (J _ (O.gr S.out)) ?_;rintro _ ai ⟨xb,rfl,g9⟩;have S:=S.gr g9;refine zC (I _) ?_;intro aj ap S;iterate 3 refine z ?_
   refine dr rfl ?_;refine eY rfl (ad aj) ?_;rintro _ am ⟨rfl,ak⟩;have S:=S.gr ak;refine zS ?_;intro an S;exact tm q9 rfl (ya _) rfl (S.blk (i:=0) rfl) rfl rfl rfl rfl ⟨rfl,S.out⟩
  ·have h2:(decide (0<=D)&&decide (D<=1048576))=false:=by
    rw[il,d9,d9];omega
   rw[h2]at I;refine zI func55 ?_;refine zN ?_;intro U ae aa S;refine zN ?_;intro Z ag ab S;refine zN ?_;intro v ah ac S;refine zK (J _ (O.gr S.out)) ?_;rintro _ ai ⟨xb,rfl,g9⟩;have S:=S.gr g9;refine zC (I _) ?_;refine zS ?_;intro am S;exact tm q9 rfl (ya _) rfl (S.blk (i:=0) rfl) rfl rfl rfl rfl ⟨rfl,S.out⟩
theorem DW{c d:Int×Int}(h1:0<=d.1)(h2:0<=d.2):Be ((c.1.toNat/2^k*2^k:Nat):Int) ((c.2.toNat/2^k*2^k:Nat):Int) (((c.1.toNat/2^k+1)*2^k-1:Nat):Int) (((c.2.toNat/2^k+1)*2^k-1:Nat):Int) d.1 d.2=true↔GJ k c d:=by
 have y:0<2^k:=ic om;unfold Be GJ;simp only[cM,cT];rw[E7 y,E7 y];have v:=cX (c.1.toNat/2^k) (2^k);have a2:=cX (c.2.toNat/2^k) (2^k);simp only[Nat.succ_eq_add_one]at v a2;rw[v,a2];generalize c.1.toNat/2^k*2^k=X at *;generalize c.2.toNat/2^k*2^k=Y at *;generalize 2^k=q at *;omega
theorem UT(v:vB V)(c:Int×Int):-2147483648<=yF gw V c/\yF gw V c<=2147483647:=v _
theorem At(ax ay ha bx cy hb:Int)(hB:vB V)(hw:1<=gw/\gw<=1024)(hh:1<=gh/\gh<=1024)(hP:iM W yb gw gh V) :
  Fn prog 55 [pt yb,.agg #[ii ax,ii ay],ii ha,.agg #[ii bx,ii cy],ii hb] W
   (λu w'=>∃yes ox oy,u=.tuple #[.bool yes,.agg #[ii ox,ii oy],ii (pk gw gh ax ay ha bx cy hb)]/\JN gw gh V ax ay ha bx cy hb yes ox oy/\Gr W w'):=by
 by_cases hc:pk gw gh ax ay ha bx cy hb=0
 ·rw[hc]
  have hc0:=hc
  unfold pk at hc
  by_cases hAB:(mD gw gh (ax,ay)&&mD gw gh (bx,cy))=false
  ·rw[a7 hAB]at hc;cases hc
  rw[a8 hAB]at hc
  have hht:(0<=ha/\ha<=1048576)/\0<=hb/\hb<=1048576:=by
   by_cases h:(0<=ha/\ha<=1048576)/\0<=hb/\hb<=1048576
   ·exact h
   ·rw[a8 h]at hc;cases hc
  rw[Bool.not_eq_false,cM]at hAB
  have hof:=λw(hP:iM w yb gw gh V)=>(GK (W:=w) (yb:=yb) (V:=V) ax ay bx cy hw hh hP).mono (R':=λu w'=>∃xb lA lc,u=.tuple #[pt xb,ii 0]/\St No w w' [.blk xb 205 [pt yb,ii gw,ii gh,.slice lA (vX ax ay bx cy).length lc],.row 26 2 lA (vX ax ay bx cy).length lc (eT (vX ax ay bx cy))]) λu w' h=>h.elim (λh=>by rw[hAB.1,hAB.2]at h;cases h.1) (λh=>h.2.2)
  have hma:=λw=>AQ (W:=w) ha
  have hmb:=λw=>AQ (W:=w) hb
  rw[cF hht.1.1,cF hht.1.2]at hma
  rw[cF hht.2.1,cF hht.2.2]at hmb
  have hcf:=λi h=>UO (ax:=ax) (ay:=ay) (bx:=bx) (cy:=cy) (i:=i) h
  have hin:=UP hAB.1 hAB.2
  have hbt:=λi j k h1 h2 x0 y0 x1 y1=>UM ax ay bx cy (i:=i) (j:=j) (k:=k) h1 h2 (x0:=x0) (y0:=y0) (x1:=x1) (y1:=y1)
  have hij:=λi j=>UN ax ay bx cy (i:=i) (j:=j)
  have hsr:∀yes ox oy,(∃r,AP 1 ((jh ax ay bx cy).n.toNat-1) (Oq gw V ax ay ha bx cy hb) r/\((r<0/\yes=true/\ox=0/\oy=0)\/(0<=r/\yes=false/\(ox,oy)=rm ax ay (jh ax ay bx cy) r.toNat)))->JN gw gh V ax ay ha bx cy hb yes ox oy:=λyes ox oy h=>.inr ⟨hc0,h⟩
  have hll:=AO ax ay bx cy
  unfold Oq UR at hsr
  have hnn:0<=(jh ax ay bx cy).n:=by obtain⟨N,M,eN,_⟩:=Js hAB.1 hAB.2 rfl;omega
  obtain⟨n,hn⟩:=cJ hnn
  rw[hn]at hll hin hsr
  rw[b7]at hll hin hsr
  have hvb:=λi=>UT (gw:=gw) hB (rm ax ay (jh ax ay bx cy) i)
  generalize rm ax ay (jh ax ay bx cy)=cf at *
  generalize vX ax ay bx cy=l at *
  have hn10:n<1024:=om
  have en:((n+1:Nat):Int)-1=n:=om
  obtain⟨ln,hls⟩:∃s:Bi,(⟨yF gw V (cf 0)+ha,yF gw V (cf n)+hb,(n:Int)⟩:Bi)=s:=⟨_,rfl⟩
  rw[hls]at hsr
  have hle:ln.eye=yF gw V (cf 0)+ha:=by rw[<-hls]
  have hlt:ln.top=yF gw V (cf n)+hb:=by rw[<-hls]
  have hlq:ln.n=n:=by rw[<-hls]
  have hle2:-17179869184<=ln.eye/\ln.eye<=17179869184:=by have:=hvb 0;omega
  have hlt2:-17179869184<=ln.top/\ln.top<=17179869184:=by have:=hvb n;omega
  rw[hll]at hof
  refine yI func55 ?_
  refine yA ?_
  intro b_a b_b b_res _ S
  refine zK (hof _ (hP.gr S.out)) ?_
  rintro _ w7_ ⟨xb,A_l,c_l,rfl,S2⟩
  have S:=S.app S2
  refine EO hma ?_
  intro w8_ S
  iterate 3 refine z ?_
  refine dr rfl ?_
  refine eY rfl (hmb w8_) ?_
  rintro _ w9_ ⟨rfl,g9_⟩
  have S:=S.gr g9_
  refine zg ?_
  have hway:∀{w T},St No W w (HA.blk xb 205 [pt yb,ii gw,ii gh,.slice A_l (n+1) c_l]::.row 26 2 A_l (n+1) c_l (eT l)::T)->Bh w xb yb gw gh V l:=λS=>⟨⟨A_l,c_l,hll▸S.blk (i:=0) rfl,S.rd (i:=1) rfl⟩,hP.gr S.out,λi c hc=>by
   have hi:=(dq.1 hc).1
   rw[hcf i hi]at hc
   cases hc
   exact hin.1 i hi,hw,hh,om⟩
  by_cases h0:n=0
  ·subst h0
   refine yA ?_
   intro _ _ S
   exact tm q9 rfl (ya _) rfl (S.blk (i:=3) rfl) rfl rfl rfl rfl ⟨true,0,0,rfl,hsr _ _ _ ⟨-1,.inl ⟨rfl,λi h1 h2=>by omega⟩,.inl ⟨om,rfl,rfl,rfl⟩⟩,S.out⟩
  ·skip
   refine yA ?_
   rw[en]
   intro b_n _ S
   refine gP (M:=λe w=>∃eb tb:Nat,SL e [(11,pt b_res),(13,pt xb),(15,pt b_n),(16,pt eb),(17,pt tb)]/\St No W w [.blk eb 2 [ii ln.eye],.blk tb 2 [ii ln.top],.blk b_n 3 [ii n],.blk xb 205 [pt yb,ii gw,ii gh,.slice A_l (n+1) c_l],.row 26 2 A_l (n+1) c_l (eT l),.blk b_res 26 [ii 0,ii 0],.blk b_b 26 [ii bx,ii cy],.blk b_a 26 [ii ax,ii ay]]) ?_ ?_
   ·have hc0':=hcf 0 om
    have hcn':=hcf n om
    have hb0:=hvb 0
    have hbn:=hvb n
    refine zc ?_
    refine nI (C:=(tP No W [.blk b_n 3 [ii n],.blk xb 205 [pt yb,ii gw,ii gh,.slice A_l (n+1) c_l],.row 26 2 A_l (n+1) c_l (eT l),.blk b_res 26 [ii 0,ii 0],.blk b_b 26 [ii bx,ii cy],.blk b_a 26 [ii ax,ii ay]] 9 10 11 2 (ii 0) (ii ln.eye))) [9,10,11] (.one 0 (.one 1 (.one 2 (.one 3 (.one 4 (.one 5 (.one 6 (.one 7 (.one 8 (.two 9 (.one 10 (.one 11 .nil)) 10 (.one 9 (.one 11 .nil)))))))))))) [12] (by kernel_rfl) (by kernel_rfl) (tP.start (S.gr (Gr.drew _))) ?_
    simp only[qK,iS,dK,dR]
    refine zW ?_
    refine ul rfl rfl (λτ wq hq=>(Is 0 hc0' (hway ((tP.st hq).drop 1))).mono (λ_ _⟨hv,hg⟩=>⟨hv,tP.gr hq hg⟩)) ?_
    refine zW ?_
    rw[<-hle]
    refine zU (λτ wq hq=>((tP.st hq).blk (i:=0) rfl)) ?_
    refine zW ?_
    refine ul rfl rfl (λτ wq hq=>(Is n hcn' (hway ((tP.st hq).drop 1))).mono (λ_ _⟨hv,hg⟩=>⟨hv,tP.gr hq hg⟩)) ?_
    refine zW ?_
    rw[<-hlt]
    refine zW ?_
    refine nf ?_ ?_
    ·refine dC rfl rfl (λwq hq=>CZ hq rfl rfl rfl rfl pJ rfl) ?_
     rintro v9 w9 h9
     obtain⟨b9,rfl⟩:=h9.ia rfl
     refine zW ?_
     refine dC rfl rfl (λwq hq=>C0 hq rfl rfl rfl pJ rfl) ?_
     rintro v10 w10 h10
     obtain⟨b10,rfl⟩:=h10.ja rfl
     refine zW ?_
     refine dC rfl rfl (λwq hq=>Eu hq rfl rfl rfl rfl (cR _) rfl rfl rfl rfl) ?_
     rintro v11 w11 h11
     refine zW ?_
     refine jm ?_
     rintro wz hz
     have S:=tP.fin hz rfl rfl rfl
     refine yA ?_
     intro _ S
     exact⟨_,_,sl,S⟩
    ·refine dC rfl rfl (λwq hq=>C0 hq rfl rfl rfl pJ rfl) ?_
     rintro v10 w10 h10
     obtain⟨b10,rfl⟩:=h10.ja rfl
     refine zW ?_
     refine dC rfl rfl (λwq hq=>CZ hq rfl rfl rfl rfl pJ rfl) ?_
     rintro v9 w9 h9
     obtain⟨b9,rfl⟩:=h9.ia rfl
     refine zW ?_
     refine dC rfl rfl (λwq hq=>Eu hq rfl rfl rfl rfl (cR _) rfl rfl rfl rfl) ?_
     rintro v11 w11 h11
     refine zW ?_
     refine jm ?_
     rintro wz hz
     have S:=tP.fin hz rfl rfl rfl
     refine zS ?_
     intro w20_ S
     exact⟨_,_,sl,S⟩
   ·rintro e9 w9 ⟨eb,tb,hsl,S⟩
    rw[hsl.fold]
    have en2:(n:Int)-1=((n-1:Nat):Int):=om
    have hfi:=LR (W:=w9) (hide:=λi=>ln.over (yF gw V (cf i)) i) (may:=λz i j=>ln.over z i||ln.over z j) 1 (n-1) om om hB (hway (S.drop 3)) hcf
     (λk i j p h1 h2 hp hs=>by
      have g:∀i,i<=p->0<=(cf i).1/\0<=(cf i).2:=λi hi=>by
       have:=jT.1 (hin.1 i om)
       omega
      exact(DW (g j h2).1 (g j h2).2).1 (hbt i j p h1 h2 _ _ _ _ ((DW (g i om).1 (g i om).2).2 ⟨rfl,rfl⟩) ((DW (g p (cN _)).1 (g p (cN _)).2).2 hs))) hij
     (λw' g z i j hz hi hj=>US z i j om ⟨hle2,hlt2⟩ om ((S.gr g).blk (i:=0) rfl) ((S.gr g).blk (i:=1) rfl) (hlq▸(S.gr g).blk (i:=2) rfl) om om)
     (λz i j x h1 h2 h3 h4=>Bi.ends om h1 h2 h3 h4) (λi=>aaq _)
    refine zg ?_
    rw[en2]
    refine zK (hfi) ?_
    rintro _ w21_ ⟨r,rfl,hF,g10⟩
    have S:=S.gr g10
    refine zg ?_
    have sa_l:dO A_l:=(S.row (i:=4) rfl).someA om
    have hF2:=hF
    rcases hF with⟨rfl,_⟩|⟨i,rfl,hi,_⟩
    ·skip
     refine yA ?_
     intro _ S
     exact tm q9 rfl (ya _) rfl (S.blk (i:=5) rfl) rfl rfl rfl rfl ⟨true,0,0,rfl,hsr _ _ _ ⟨-1,hF2,.inl ⟨om,rfl,rfl,rfl⟩⟩,S.out⟩
    ·have hget:((eT l).drop ((i:Int).toNat * 2)).take 2=[ii (cf i).1,ii (cf i).2]:=by rw[b7];exact mS (hcf i om)
     refine zD [0,1,2,3,4,5,6,7] [8,9] ?_
     refine fo (λwq hq=>fb q9 rfl (ya _) rfl ((S.gr hq).rd (i:=4) rfl) hget rfl rfl) ?_
     refine zE ?_
     refine zS ?_
     intro w24_ S
     exact tm q9 rfl (ya _) rfl (S.blk (i:=5) rfl) rfl rfl rfl rfl ⟨false,(cf i).1,(cf i).2,rfl,hsr _ _ _ ⟨i,hF2,.inr ⟨om,rfl,by rw[b7]⟩⟩,S.out⟩
 ·exact(JO ax ay ha bx cy hb hw hh hc hP).mono λu w'⟨hu,g⟩=>⟨false,0,0,hu,.inl ⟨hc,rfl,rfl,rfl⟩,g⟩
end
def gZ.told(r:gZ)(e:Int):gZ:=if e=0 then r else { code:=e }
def vY(ov:Option Addr)(now:Int)(gw gh:Nat)(V:List Int)(M:List HA):Prop:=(ov=none/\M=[])\/∃sn st V0,ov=some ⟨sn,0,none⟩/\Ob sn st gw gh V0 M/\vB V0/\st<=now/\(st=now->V0=V)
section
variable{yb cap:Nat}{V:List Int}{r:gZ}
theorem o4(e:Int):Fn prog 53 [r.v,ii e] W (dp (r.told e).v W):=by
 unfold gZ.told;by_cases v:e=0
 ·rw[a7 v,v];exact vE
 ·rw[a8 v];have S:=St.start W;refine zI func53 ?_;refine zN ?_;intro y J D S;refine zN ?_;intro z L I S;refine zS ?_;intro O S;exact rA S ⟨rfl,S.out⟩
theorem WG(x y:Int)(v:eJ W p gw gh cc A cap bs Rs):Fn prog 47 [pt p,.agg #[ii x,ii y]] W (dp (.tuple #[ii (if mD gw gh (x,y)=true then cc (y.toNat * gw+x.toNat)else 0),ii (LS gw gh x y)]) W):=by
 unfold LS;by_cases h:mD gw gh (x,y)=true
 ·rw[a7 h,a7 h];have hi:=jT.1 h;dsimp only at hi;obtain⟨X,z⟩:=cJ hi.1;obtain⟨Y,D⟩:=cJ hi.2.2.1;subst z D;exact MI X Y om om v
 ·rw[a8 h,a8 h];exact Fq x y (λI=>h (jT.2 (by dsimp only;omega))) v
theorem Ot(x0 y0 x1 y1:Int)(O:vB V)(L:1<=gw/\gw<=1024)(J:1<=gh/\gh<=1024)(I:iM W yb gw gh V) :
  Fn prog 49 [pt yb,.agg #[ii x0,ii y0,ii x1,ii y1]] W (λu w'=>∃(z:Int)(x y:Nat),u=.tuple #[ii z,.agg #[ii x,ii y],ii (dF x0 y0 x1 y1 gw gh)]/\(dF x0 y0 x1 y1 gw gh=0->CY gw V ⟨x0.toNat,y0.toNat,x1.toNat,y1.toNat⟩ z x y)/\Gr W w'):=by
 by_cases v:dF x0 y0 x1 y1 gw gh=0
 ·rw[v];obtain⟨r,S,rfl,rfl,rfl,rfl⟩:=nP v;exact(Sh O L J S I).mono λu w'⟨z,x,y,D,h,g⟩=>⟨z,x,y,D,λ_=>h,g⟩
 ·exact(LP x0 y0 x1 y1 L J v I).mono λu w'⟨D,g⟩=>⟨0,0,0,D,λh=>absurd h v,g⟩
theorem Sk(x0 y0 x1 y1:Int)(O:vB V)(L:1<=gw/\gw<=1024)(J:1<=gh/\gh<=1024)(I:iM W yb gw gh V) :
  Fn prog 50 [pt yb,.agg #[ii x0,ii y0,ii x1,ii y1]] W (λu w'=>∃(z:Int)(x y:Nat),u=.tuple #[ii z,.agg #[ii x,ii y],ii (dF x0 y0 x1 y1 gw gh)]/\(dF x0 y0 x1 y1 gw gh=0->E9 gw V ⟨x0.toNat,y0.toNat,x1.toNat,y1.toNat⟩ z x y)/\Gr W w'):=by
 by_cases v:dF x0 y0 x1 y1 gw gh=0
 ·rw[v];obtain⟨r,S,rfl,rfl,rfl,rfl⟩:=nP v;exact(UJ O L J S I).mono λu w'⟨z,x,y,D,h,g⟩=>⟨z,x,y,D,λ_=>h,g⟩
 ·exact(Ol x0 y0 x1 y1 L J v I).mono λu w'⟨D,g⟩=>⟨0,0,0,D,λh=>absurd h v,g⟩
end
theorem lT.pyrAtG(S:St F W w (s.L++tl)):iM w s.yb s.gw s.gh s.V:=⟨s.lA,s.lc,s.As,s.cs,S.blk (i:=5) rfl,S.rd (i:=6) rfl,λk v=>(S.prow (i:=7) rfl v).rd⟩
theorem St.backG{A B:List HA}{k:HA}(S:St F W w (k::(A++(B++tl)))):St F W w ((A++B)++(k::tl)):=by
 rw[<-cL]at S;exact S.perm_ ef.symm
theorem St.forthG{A B:List HA}{k:HA}(S:St F W w ((A++B)++(k::tl))):St F W w (k::(A++(B++tl))):=by
 have:=S.perm_ ef;rwa[cL]at this
theorem CX.ok9{A:List HA}{σ:List Value}{R:Prop}(z:CX F W (h::A) 0 h' σ w)(y:St F W w A->R):R:=by
 cases σ with
 |nil=>exact y (St.drop (show St F W w _ from z) 1)
 |cons v r=>obtain⟨L',e,S⟩:=z;cases e;exact y (S.drop 1)
theorem PZ(V:o.k=6):pQ F W (s.L++M) s.sb o true (45) (λ_:Unit=>(({ code:=0,n:=if mD s.gw s.gh (o.ax,o.ay)=true then s.cc (o.ay.toNat * s.gw+o.ax.toNat)else 0 }:gZ).told (LS s.gw s.gh o.ax o.ay))) (λ_=>s.L++M):=by
 intro kb tl w S;replace S:=St.forthG S;obtain⟨ok,ai,ak,aj,al,v,y,ag,ah,n,m,vs,bs,bd⟩:=o;dsimp only at V;subst V;replace S:St F W w (.blk kb 3 [ii 6]::(s.L++(M++tl))):=S;have O:=λw G=>WG (W:=w) (gw:=s.gw) (gh:=s.gh) (cc:=s.cc) (p:=s.p) (A:=s.A) (cap:=s.cap) (bs:=s.bs) (Rs:=s.Rs) v y G;dsimp only;generalize (if mD s.gw s.gh (v,y)=true then s.cc (y.toNat * s.gw+v.toNat)else 0)=z at *;generalize LS s.gw s.gh v y=e at *;refine zI func45 ?_;refine zN ?_;intro U an ab S;refine zN ?_;intro I ao ac S;refine zN ?_;intro J ap ad S;refine zC (pj (S.blk (i:=6) rfl)) ?_;intro aq ae S;refine zH (C:=(CX _ _ _ 0 (.blk J 46 [ii 0,ii z,.bool false,ii 0,ii 0,.slice none 0 0,.slice none 0 0,.slice none 0 0,.slice none 0 0,.slice none 0 0]))) [11] [0,1,2,3,4,5,6,7,8,9,10,11] [12] (CX.start (S.gr (Gr.drew _))) ?_;refine zV (λτ wq D=>(D.blk (j:=4) (by decide) rfl)) ?_;refine zV (λτ wq D=>(D.blk (j:=2) (by decide) rfl)) ?_;refine jH rfl rfl (λτ wq D=>(O wq (show eJ wq _ _ _ _ _ _ _ _ from D.ok (j:=5) (by decide) rfl)).mono (λ_ _⟨hv,hg⟩=>⟨hv,D.gr hg⟩)) ?_;refine zR ?_;refine de rfl rfl (λwq D=>Ak D rfl (cR _) rfl rfl rfl rfl rfl rfl rfl) ?_;rintro am ar _;refine zY ?_;rintro au ⟨aa,L,S⟩;obtain rfl:=Option.some.inj L;refine zC (o4 (r:={ code:=0,n:=z }) e) ?_;refine zS ?_;intro Z S;exact rA S ⟨(),rfl,St.backG (S.drop 3)⟩
theorem vY.at_{V:List Int}(h:vY ov now gw gh V M):∃b,∀{F:Nat->Prop}{W w:World}{A B tl:List HA},St F W w (A++(B++(M++tl)))->DU w ov now gw gh V b:=by
 rcases h with⟨rfl,_⟩|⟨sn,st,v,rfl,z,y,_,D⟩
 ·exact⟨false,λ_=>.inl ⟨rfl,rfl⟩⟩
 ·exact⟨decide (st=now),λS=>.inr ⟨sn,st,v,rfl,z.at_ (St.tail (St.tail S)),y,D,rfl⟩⟩
theorem WH(Z:s.ok)(hM:vY s.ov s.stamp s.gw s.gh s.V M)(hk:o.k=7):pQ F W (s.L++M) s.sb o true (45) (λ_:Unit=>(({ code:=0,n:=GG s.V s.gw s.gh o.x0 o.y0 o.x1 o.y1 }:gZ).told (dF o.x0 o.y0 o.x1 o.y1 s.gw s.gh))) (λ_=>s.L++M):=by
 intro kb tl w S;obtain⟨b,hO⟩:=hM.at_;replace S:=St.forthG S;obtain⟨ok,y,I,D,J,ai,aj,ak,al,n,m,vs,bs,bd⟩:=o;dsimp only at hk;subst hk;replace S:St F W w (.blk kb 3 [ii 7]::(s.L++(M++tl))):=S;have V:=λw z h1 h2 h3 h4=>UH (W:=w) (z:=z) (ov:=s.ov) (lb:=s.lb) (p:=s.p) (tb:=s.tb) (now:=s.stamp) (gw:=s.gw) (gh:=s.gh) (cc:=s.cc) (A:=s.A) (cap:=s.cap) (bs:=s.bs) (Rs:=s.Rs) (b:=b) y I D J Z.hB h1 h2 h3 h4;dsimp only;generalize GG s.V s.gw s.gh y I D J=z at *;generalize dF y I D J s.gw s.gh=e at *;refine zI func45 ?_;refine zN ?_;intro aa an ad S;refine zN ?_;intro L ao ae S;refine zN ?_;intro O ap ag S;refine zC (pj (S.blk (i:=6) rfl)) ?_;intro aq ah S;refine zH (C:=(CX _ _ _ 0 (.blk O 46 [ii 0,ii z,.bool false,ii 0,ii 0,.slice none 0 0,.slice none 0 0,.slice none 0 0,.slice none 0 0,.slice none 0 0]))) [20] [0,1,2,3,4,5,6,7,8,9,10,11,12,13,14,15,16,17,18,19,20] [21] (CX.start (S.gr (Gr.drew _))) ?_;refine zV (λτ wq v=>(v.blk (j:=4) (by decide) rfl)) ?_;refine zV (λτ wq v=>(v.blk (j:=4) (by decide) rfl)) ?_;refine zV (λτ wq v=>(v.blk (j:=4) (by decide) rfl)) ?_;refine zV (λτ wq v=>(v.blk (j:=2) (by decide) rfl)) ?_;refine jH rfl rfl (λτ wq v=>(V wq _ (v.ok9 (λS=>hO (A:=[_,_,_]) (B:=s.L) (tl:=tl) S)) (v.blk (j:=6) (by decide) rfl) (show eJ wq _ _ _ _ _ _ _ _ from v.ok (j:=5) (by decide) rfl) ⟨s.A1,s.c1,v.blk (j:=7) (by decide) rfl,(show gH wq _ _ _ _ _ _ from v.ok (j:=8) (by decide) rfl).rd⟩).mono (λ_ _⟨hv,hg⟩=>⟨hv,v.gr hg⟩)) ?_;refine zR ?_;refine de rfl rfl (λwq v=>Ak v rfl (cR _) rfl rfl rfl rfl rfl rfl rfl) ?_;rintro am ar _;refine zY ?_;rintro au ⟨ac,U,S⟩;obtain rfl:=Option.some.inj U;refine zC (o4 (r:={ code:=0,n:=z }) e) ?_;refine zS ?_;intro ab S;exact rA S ⟨(),rfl,St.backG (S.drop 3)⟩
theorem P1(U:s.ok)(hk:o.k=8):pQ F W (s.L++M) s.sb o true (45) (λq:{ q:Int×Nat×Nat//dF o.x0 o.y0 o.x1 o.y1 s.gw s.gh=0->CY s.gw s.V ⟨o.x0.toNat,o.y0.toNat,o.x1.toNat,o.y1.toNat⟩ q.1 q.2.1 q.2.2 }=>({ code:=0,n:=q.1.1,ax:=q.1.2.1,ay:=q.1.2.2 }:gZ).told (dF o.x0 o.y0 o.x1 o.y1 s.gw s.gh)) (λ_=>s.L++M):=by
 intro kb tl w S;replace S:=St.forthG S;obtain⟨ok,v,I,D,J,aj,ak,al,am,n,m,vs,bs,bd⟩:=o;dsimp only at hk;subst hk;replace S:St F W w (.blk kb 3 [ii 8]::(s.L++(M++tl))):=S;have Z:=(S.grid (i:=2) rfl).sw;have O:=(S.grid (i:=2) rfl).sh;have V:∀{w A},St F W w (A++(s.L++(M++tl)))->iM w s.yb s.gw s.gh s.V:=λS=>lT.pyrAtG (St.tail S);refine zI func45 ?_;refine zN ?_;intro aa an ae S;refine zN ?_;intro L ao ag S;refine zN ?_;intro ad ap ah S;refine zC (pj (S.blk (i:=6) rfl)) ?_;intro aq ai S;refine zK (Ot v I D J U.hB Z O (V (A:=[_,_,_,_]) S)) ?_;rintro _ ar ⟨z,x,y,rfl,hL,g9⟩;have S:=S.gr g9;refine zS ?_;intro ab S;refine zC (o4 (r:={ code:=0,n:=z,ax:=x,ay:=y }) (dF v I D J s.gw s.gh)) ?_;refine zS ?_;intro ac S;exact rA S ⟨⟨(z,x,y),hL⟩,rfl,St.backG (S.drop 3)⟩
theorem P2(U:s.ok)(hk:o.k=9):pQ F W (s.L++M) s.sb o true (45) (λq:{ q:Int×Nat×Nat//dF o.x0 o.y0 o.x1 o.y1 s.gw s.gh=0->E9 s.gw s.V ⟨o.x0.toNat,o.y0.toNat,o.x1.toNat,o.y1.toNat⟩ q.1 q.2.1 q.2.2 }=>({ code:=0,n:=q.1.1,ax:=q.1.2.1,ay:=q.1.2.2 }:gZ).told (dF o.x0 o.y0 o.x1 o.y1 s.gw s.gh)) (λ_=>s.L++M):=by
 intro kb tl w S;replace S:=St.forthG S;obtain⟨ok,v,I,D,J,aj,ak,al,am,n,m,vs,bs,bd⟩:=o;dsimp only at hk;subst hk;replace S:St F W w (.blk kb 3 [ii 9]::(s.L++(M++tl))):=S;have Z:=(S.grid (i:=2) rfl).sw;have O:=(S.grid (i:=2) rfl).sh;have V:∀{w A},St F W w (A++(s.L++(M++tl)))->iM w s.yb s.gw s.gh s.V:=λS=>lT.pyrAtG (St.tail S);refine zI func45 ?_;refine zN ?_;intro aa an ae S;refine zN ?_;intro L ao ag S;refine zN ?_;intro ad ap ah S;refine zC (pj (S.blk (i:=6) rfl)) ?_;intro aq ai S;refine zK (Sk v I D J U.hB Z O (V (A:=[_,_,_,_]) S)) ?_;rintro _ ar ⟨z,x,y,rfl,hL,g9⟩;have S:=S.gr g9;refine zS ?_;intro ab S;refine zC (o4 (r:={ code:=0,n:=z,ax:=x,ay:=y }) (dF v I D J s.gw s.gh)) ?_;refine zS ?_;intro ac S;exact rA S ⟨⟨(z,x,y),hL⟩,rfl,St.backG (S.drop 3)⟩
theorem UU(Z:o.k=10):pQ F W (s.L++M) s.sb o true (45) (λq:Int=>({ code:=0,n:=q }:gZ).told (dF o.x0 o.y0 o.x1 o.y1 s.gw s.gh)) (λ_=>s.L++M):=by
 intro kb tl w S;replace S:=St.forthG S;obtain⟨ok,v,z,y,D,ai,aj,ak,al,n,m,vs,bs,bd⟩:=o;dsimp only at Z;subst Z;replace S:St F W w (.blk kb 3 [ii 10]::(s.L++(M++tl))):=S;have O:=(S.grid (i:=2) rfl).sw;have J:=(S.grid (i:=2) rfl).sh;have L:∀{w A},St F W w (A++(s.L++(M++tl)))->iM w s.yb s.gw s.gh s.V:=λS=>lT.pyrAtG (St.tail S);refine zI func45 ?_;refine zN ?_;intro U am ac S;refine zN ?_;intro I an ad S;refine zN ?_;intro ab ao ae S;refine zC (pj (S.blk (i:=6) rfl)) ?_;intro ap ag S;refine zK (Im v z y D n O J (L (A:=[_,_,_,_]) S)) ?_;rintro _ aq ⟨V,rfl,ah,g9⟩;have S:=S.gr g9;refine zS ?_;intro ar S;refine zC (o4 (r:={ code:=0,n:=(V:Nat) }) (dF v z y D s.gw s.gh)) ?_;refine zS ?_;intro aa S;exact rA S ⟨((V:Nat):Int),rfl,St.backG (S.drop 3)⟩
theorem UV(O:s.ok)(hk:o.k=11):pQ F W (s.L++M) s.sb o true (45) (λq:Int=>({ code:=0,n:=q }:gZ).told (PR o.x0 o.y0 o.x1 o.y1 s.gw s.gh o.n)) (λ_=>s.L++M):=by
 intro kb tl w S;replace S:=St.forthG S;obtain⟨ok,v,D,y,I,ah,ai,aj,ak,n,m,vs,bs,bd⟩:=o;dsimp only at hk;subst hk;replace S:St F W w (.blk kb 3 [ii 11]::(s.L++(M++tl))):=S;have V:=(S.grid (i:=2) rfl).sw;have L:=(S.grid (i:=2) rfl).sh;have U:∀{w A},St F W w (A++(s.L++(M++tl)))->iM w s.yb s.gw s.gh s.V:=λS=>lT.pyrAtG (St.tail S);refine zI func45 ?_;refine zN ?_;intro Z al ac S;refine zN ?_;intro J am ad S;refine zN ?_;intro ab an ae S;refine zC (pj (S.blk (i:=6) rfl)) ?_;intro ao ag S;refine zK (Wo v D y I n O.hB V L (U (A:=[_,_,_,_]) S)) ?_;rintro _ ap ⟨z,rfl,g9⟩;have S:=S.gr g9;refine zS ?_;intro aq S;refine zC (o4 (r:={ code:=0,n:=z }) (PR v D y I s.gw s.gh n)) ?_;refine zS ?_;intro aa S;exact rA S ⟨z,rfl,St.backG (S.drop 3)⟩
section
variable{xs:List (Int × Int)}
theorem UW(U:∀w L,St F W w L->Rd w o.bd.A (kI xs))(V:o.bd.n=xs.length)(ab:o.bd.n<=o.bd.c)(aa:o.bd.n<=9223372036854775807)(hl:tO xs=true)(hx:x0<=x1/\x1<s.gw)(hy:y0<=y1/\y1<s.gh)(ho:o.k=27/\o.x0=x0/\o.y0=y0/\o.x1=x1/\o.y1=y1) :
  pQ F W (s.L++M) s.sb o false (71) (λq:Option Addr×Nat=>{ code:=0,lines:=⟨q.1,y1+1-y0,q.2⟩:gZ }) (λq=>.row 9 1 q.1 (y1+1-y0) q.2 (yD xs (fi s.gw s.cc x0 y0 (x1+1-x0) (y1+1-y0)) (x1+1-x0) (y1+1-y0))::(s.L++M)):=by
 intro kb tl w S;obtain⟨ok,aj,al,ak,am,ax,ay,bx,ag,n,m,vs,bs,⟨bA,bn,bc⟩⟩:=o;dsimp only at *;obtain⟨rfl,rfl,rfl,rfl,rfl⟩:=ho;have Z:=λw hB G=>WB (W:=w) (B:=bA) (p:=s.p) (gw:=s.gw) (gh:=s.gh) (cc:=s.cc) (A:=s.A) (cap:=s.cap) (bs:=s.bs) (Rs:=s.Rs) hx hy V ab aa hB hl G;generalize yD xs (fi s.gw s.cc x0 y0 (x1+1-x0) (y1+1-y0)) (x1+1-x0) (y1+1-y0)=ls at *;generalize y1+1-y0=ht at *;refine zI func71 ?_;refine zN ?_;intro ad ao ah S;refine zN ?_;intro I ap ai S;refine zH (C:=(λσ wq=>CN _ _ _ (λv h=>∃A c,v=.tuple #[.slice A ht c,ii 0]/\h=.row 9 1 A ht c ls) wq σ)) [8] [0,1,2,3,4,5,6,7,8,9,10,11,12,13] [] (S.gr (Gr.drew _)) ?_;refine zV (λτ wq y=>((CN.st y).blk (i:=2) rfl)) ?_;refine zV (λτ wq y=>((CN.st y).blk (i:=1) rfl)) ?_;refine zV (λτ wq y=>((CN.st y).blk (i:=1) rfl)) ?_;refine de rfl rfl (λwq y=>l4 rfl ((Z wq (U _ _ (CN.st y)) (St.grid (CN.st y) (i:=3) rfl)).mono (λv w2⟨A,c,hv,hR,hf,g⟩=>⟨_,⟨A,c,hv,rfl⟩,St.pushRow (CN.st y) hR hf g⟩))) ?_;rintro an ar ⟨O,⟨z,D,rfl,rfl⟩,_⟩;refine zY ?_;rintro au ⟨O,⟨ac,ae,J,rfl⟩,S⟩;cases J
 refine zC (vE (r:={ code:=0,lines:=⟨z,ht,D⟩ })) ?_;refine zS ?_;intro aq S;exact rA S ⟨(z,D),rfl,S.sub (.cons_cons _ (.cons _ (.cons _ (cQ _))))⟩
theorem Sm(y:∀w L,St F W w L->Rd w o.bd.A (kI xs))(z:o.bd.n=xs.length)(J:o.bd.n<=o.bd.c)(I:o.bd.n<=9223372036854775807)(hl:tO xs=false)(hx:x0<=x1/\x1<s.gw)(hy:y0<=y1/\y1<s.gh)(ho:o.k=27/\o.x0=x0/\o.y0=y0/\o.x1=x1/\o.y1=y1) :
  pQ F W (s.L++M) s.sb o false (71) (λ_:Unit=>{ code:=13:gZ }) (λ_=>s.L++M):=by
 intro kb tl w S;obtain⟨ok,ad,ag,ae,ah,ax,ay,bx,Z,n,m,vs,bs,⟨V,bn,bc⟩⟩:=o;dsimp only at *;obtain⟨rfl,rfl,rfl,rfl,rfl⟩:=ho;have D:=λw hB G=>LK (W:=w) (B:=V) (p:=s.p) (gw:=s.gw) (gh:=s.gh) (cc:=s.cc) (A:=s.A) (cap:=s.cap) (bs:=s.bs) (Rs:=s.Rs) hx hy z J I hB hl G;refine zI func71 ?_;refine zN ?_;intro O ai aa S;refine zN ?_;intro v aj ab S;refine zD [0,1,2,3,4,5,6,7,8,9,10,11,12,13] [] ?_;refine zP (λwq U=>D wq (y _ _ (S.gr U)) (St.grid (S.gr U) (i:=3) rfl)) ?_;refine zE ?_;intro ak ac S;refine zC (o4 (r:={ code:=0 }) 13) ?_;refine zS ?_;intro al S;exact rA S ⟨(),rfl,S.drop 2⟩
theorem Ou(I:dF o.x0 o.y0 o.x1 o.y1 s.gw s.gh≠0)(ho:o.k=27) :
  pQ F W (s.L++M) s.sb o false (71) (λ_:Unit=>{ code:=dF o.x0 o.y0 o.x1 o.y1 s.gw s.gh:gZ }) (λ_=>s.L++M):=by
 intro kb tl w S;obtain⟨ok,v,z,y,D,ax,ay,bx,aa,n,m,vs,bs,⟨Z,bn,bc⟩⟩:=o;dsimp only at *;subst ho;have O:=λw G=>RZ (W:=w) (B:=Z) (n:=bn) (c:=bc) (p:=s.p) (gw:=s.gw) (gh:=s.gh) (cc:=s.cc) (A:=s.A) (cap:=s.cap) (bs:=s.bs) (Rs:=s.Rs) I G;have J:=λw=>o4 (W:=w) (r:={ code:=0 }) (dF v z y D s.gw s.gh);have U:({ code:=0 }:gZ).told (dF v z y D s.gw s.gh)={ code:=dF v z y D s.gw s.gh }:=by unfold gZ.told;rw[a8 I]
 rw[U]at J;generalize dF v z y D s.gw s.gh=e at *;refine zI func71 ?_;refine zN ?_;intro V ae ab S;refine zN ?_;intro L ag ac S;refine zD [0,1,2,3,4,5,6,7,8,9,10,11,12,13] [] ?_;refine zP (λwq hq=>O wq (St.grid (S.gr hq) (i:=3) rfl)) ?_;refine zE ?_;intro ah ad S;refine zC (J _) ?_;refine zS ?_;intro ai S;exact rA S ⟨(),rfl,S.drop 2⟩
end
end Go.Proofs.YtceahkcepefcaaaGreatDoor
