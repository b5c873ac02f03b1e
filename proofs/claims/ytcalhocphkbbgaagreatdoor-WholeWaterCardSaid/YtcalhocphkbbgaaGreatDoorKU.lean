/- A part of the proof that hachuretop.WholeCharts and hachuretop.WholeWater returns true at every input; no condition. -/
import Derived.Test.YtcalhocphkbbgaaGreatDoorKP
import Derived.Test.YtcalhocphkbbgaaGreatDoorKR
set_option maxRecDepth 100000
set_option maxHeartbeats 16000000
set_option linter.unusedVariables false
set_option linter.unusedSimpArgs false
namespace Go.Proofs.YtcalhocphkbbgaaGreatDoor
open Go.Proofs.Tryz Go.RowKit
variable{Q:(Nat->Value)->World->Prop}{af:Array Edge}{f:FuncId}{h h':HA}{Y a ax ay bx e0 now stamp:Int}{σ:List (Nat × Value)}{K:List (Nat × Value)->Act->Prop}{L' M T tl:List HA}{V1 V2:List Int}{hd:List Nat}{caps l vs xs:List Value}{N b b' c c1 c2 cap2 cf cx cy dn fid g gh gw i j k k1 k2 kb lc lh lw m n p p2 pb q rb sb sn tb x0 x1 xb y0 y1:Nat}{sp:Nat->Bool}{c' c0 cc:Nat->Int}{bs bs2 ns:Nat->Nat}{R':Nat->Nat->Bool}{As:Nat->Option Addr}{Rs Rs2:Nat->Option Nat}{F X:Nat->Prop}{e:Nat->Value}{o:m5}{hi lo x:Operand}{A A1 A2 B B1 B2 lA ov pp:Option Addr}{d:Option Tmp}{P:Program}{r':RG}{r:Rc}{s s':lT}{t ty:TypeId}{u v3 zv:Value}{W w w' wq:World}{C:World->Prop}
def uD(gw:Nat)(c0 cc:Nat->Int)(x0 y0 x1 y1 k j:Nat):Int :=
 if ((x0<=j%gw/\j%gw<=x1)/\y0<=j/gw/\j/gw<=y1)/\(j/gw-y0)*(x1+1-x0)+(j%gw-x0)<k then cc j else c0 j
theorem CV{f g:Nat->Int}(h:∀i,i<gw*gh->f i=g i):dw gw gh f=dw gw gh g:=eQ λi hi=>h i (dJ.1 hi)
theorem mF(gw gh:Nat)(f:Nat->Int)(i:Nat):(dw gw gh f).getD i 0=if i<gw*gh then f i else 0:=by
 unfold dw;rw[cO,da];by_cases h:i<gw*gh
 ·rw[eu h,a7 h];rfl
 ·rw[dZ (by rw[gk];omega),a8 h];rfl
theorem N8:uD gw c0 cc x0 y0 x1 y1 0=c0:=funext λj=>by
 unfold uD;rw[a8 (λh=>sP _ h.2)]
theorem Sd(z:∀x y,x<gw->y<gh->¬((x0<=x/\x<=x1)/\y0<=y/\y<=y1)->c0 (y*gw+x)=cc (y*gw+x))(v:j<gw*gh):uD gw c0 cc x0 y0 x1 y1 ((y1+1-y0)*(x1+1-x0)) j=cc j:=by
 have I:0<gw:=fT λe=>by rw[e,iD]at v;omega
 have D:=dt j I;have hd:j/gw<gh:=cS v;unfold uD;by_cases h:(x0<=j%gw/\j%gw<=x1)/\y0<=j/gw/\j/gw<=y1
 ·rw[a7];refine⟨h,?_⟩;have h2:=cI (x1+1-x0) (show j/gw-y0+1<=y1+1-y0 by omega);rw[cX]at h2;omega
 ·rw[a8 (λh'=>h h'.1)];have:=z (j%gw) (j/gw) D hd h;rwa[cD,dP]at this
theorem GE(U:x0<=x1/\x1<gw)(L:k<(y1+1-y0)*(x1+1-x0))(j:Nat) :
  uD gw c0 cc x0 y0 x1 y1 (k+1) j=if j=(y0+k/(x1+1-x0))*gw+(x0+k%(x1+1-x0))then cc j else uD gw c0 cc x0 y0 x1 y1 k j:=by
 have y:0<x1+1-x0:=om;have S:=dt k y;have O:k/(x1+1-x0)<y1+1-y0:=cS (by rw[cD];exact L);have z:=dP k (x1+1-x0);rw[cD]at z;unfold uD;generalize y:x1+1-x0=v at *;by_cases e:j=(y0+k/v)*gw+(x0+k%v)
 ·rw[a7 e,a7];have h1:=(jo (Y:=y0+k/v) (show x0+k%v<gw by omega)).1;have h2:=(jo (Y:=y0+k/v) (show x0+k%v<gw by omega)).2;rw[<-e]at h1 h2;rw[h1,h2,iw,iw];generalize k/v=a at *;generalize k%v=b at *;omega
 ·rw[a8 e];congr 1;rw[eq_iff_iff];constructor
  ·rintro⟨h1,h2⟩;refine⟨h1,Nat.lt_of_le_of_ne om λD=>e ?_⟩
   have I:j%gw-x0<v:=by
    omega
   have J:k%v=j%gw-x0:=by rw[<-D,cD,fp,dT I]
   have a2:k/v=j/gw-y0:=by rw[<-D,cD,fF y,ee I,eW]
   rw[J,a2,(om:y0+(j/gw-y0)=j/gw),(om:x0+(j%gw-x0)=j%gw),cD,dP]
  ·rintro⟨h1,h2⟩;exact⟨h1,om⟩
theorem GF(h:j=(y0+k/(x1+1-x0))*gw+(x0+k%(x1+1-x0)))(y:x0+k%(x1+1-x0)<gw):uD gw c0 cc x0 y0 x1 y1 k j=c0 j:=by
 have v:=dP k (x1+1-x0);rw[cD]at v;unfold uD;have h1:=(jo (Y:=y0+k/(x1+1-x0)) y).1;have h2:=(jo (Y:=y0+k/(x1+1-x0)) y).2;rw[<-h]at h1 h2;rw[a8];rintro⟨_,z⟩;rw[h1,h2,iw,iw]at z;omega
theorem N9(J:x0<=x1/\x1<gw)(L:y1<gh)(I:k<(y1+1-y0)*(x1+1-x0))(v:cx=x0+k%(x1+1-x0))(y:cy=y0+k/(x1+1-x0))(z:cx<gw)(D:cy*gw+cx<gw*gh) :
  LL gw (dw gw gh (uD gw c0 cc x0 y0 x1 y1 k)) (dw gw gh (uD gw c0 cc x0 y0 x1 y1 (k+1))) cx cy (cc (cy*gw+cx)-c0 (cy*gw+cx)):=λj=>by
 rw[mF,mF];subst v y;by_cases h:j<gw*gh
 ·rw[a7 h,a7 h,GE J I];by_cases e:j=(y0+k/(x1+1-x0))*gw+(x0+k%(x1+1-x0))
  ·rw[a7 e,a7 e,GF e z,<-e];omega
  ·rw[a8 e,a8 e];omega
 ·rw[a8 h,a8 h,a8 om];rfl
theorem Se(v:vB (dw gw gh c0))(h1:vB (dw gw gh cc))(k:Nat):vB (dw gw gh (uD gw c0 cc x0 y0 x1 y1 k)):=FL λi hi=>by
 have a:=v i;have b:=h1 i;rw[mF,a7 hi]at a b;unfold uD;split<;>assumption
section
variable{cap lb:Nat}{cs:Nat->Nat}
theorem LN(h0:vB (dw gw gh c0))(hB:vB (dw gw gh cc))(hx:x0<=x1/\x1<gw)(hy:y0<=y1/\y1<gh)(hsm:¬gw*gh<8*((y1+1-y0)*(x1+1-x0)))(hV:∀x y,x<gw->y<gh->¬((x0<=x/\x<=x1)/\y0<=y/\y<=y1)->c0 (y*gw+x)=cc (y*gw+x))(S:St F W w (.grid p gw gh cc A cap bs Rs::.blk lb 188 [pt p,pt tb,pt pb] ::
   .blk pb 312 [.slice lA (fW gw gh) lc]::.row 389 3 lA (fW gw gh) lc (ut (fW gw gh) gw gh As cs)::.pfam 158 2 (fW gw gh) As (mG gw gh) cs (wX gw gh (dw gw gh c0)) ::
   .blk tb 293 [ii gw,ii gh,.slice A1 ((gh+1)*(gw+1)) c1]::.row 2 1 A1 ((gh+1)*(gw+1)) c1 (fj ((gh+1)*(gw+1)) (lk gw (dw gw gh c0)))::tl)) :
  Fn prog 398 [pt lb,.agg #[ii x0,ii y0,ii x1,ii y1]] w (λv w'=>v=ii 0 /\
   St F W w' (.grid p gw gh cc A cap bs Rs::.blk lb 188 [pt p,pt tb,pt pb] ::
   .blk pb 312 [.slice lA (fW gw gh) lc]::.row 389 3 lA (fW gw gh) lc (ut (fW gw gh) gw gh As cs)::.pfam 158 2 (fW gw gh) As (mG gw gh) cs (wX gw gh (dw gw gh cc)) ::
   .blk tb 293 [ii gw,ii gh,.slice A1 ((gh+1)*(gw+1)) c1]::.row 2 1 A1 ((gh+1)*(gw+1)) c1 (fj ((gh+1)*(gw+1)) (lk gw (dw gw gh cc)))::tl)):=by
 have hG:=S.grid (i:=0) rfl
 have hw:=hG.sw
 have hh:=hG.sh
 have hvl:=lE gw cc x0 y0 (x1+1-x0) (y1+1-y0)
 have hb2:¬((gw*gh:Nat):Int)<8*(((y1+1-y0)*(x1+1-x0):Nat):Int):=om
 rw[kv gw gh]at hb2
 have hm:gw*gh<=1024*1024:=fy hw.2 hh.2
 have har:(y1+1-y0)*(x1+1-x0)<=1024*1024:=fy om om
 have hq:∀k,k<fW gw gh->∀i,i<dG gw k*dG gh k->¬((x0/2^k<=i%dG gw k/\i%dG gw k<=x1/2^k)/\y0/2^k<=i/dG gw k/\i/dG gw k<=y1/2^k)->zz gw gh (dw gw gh c0) k i=zz gw gh (dw gw gh cc) k i :=
  λk _ i hi hn=>PE hw.1 hh.1 (λx y hx hy hn=>by
   have:=hV x y hx hy hn
   rw[mF,mF,this]) k i hi hn
 have hvg:∀i,i<(y1+1-y0)*(x1+1-x0)->(cY (fi gw cc x0 y0 (x1+1-x0) (y1+1-y0)))[(i:Int).toNat * 1]?=some (ii (cc ((y0+i/(x1+1-x0))*gw+(x0+i%(x1+1-x0))))):=λi hi=>by
  rw[cG,b7]
  exact gc (yp om hi)
 have hbm:=λk=>Se (x0:=x0) (y0:=y0) (x1:=x1) (y1:=y1) h0 hB k
 have hAt:=λw k cx cy hx hy h1 h2=>UD (W:=w) (tb:=tb) (gw:=gw) (gh:=gh) (cx:=cx) (cy:=cy) (V:=dw gw gh (uD gw c0 cc x0 y0 x1 y1 k)) (hbm k) hw hh hx hy ⟨A1,c1,h1,h2⟩
 have hend:dw gw gh (uD gw c0 cc x0 y0 x1 y1 ((y1+1-y0)*(x1+1-x0)))=dw gw gh cc:=CV λj hj=>Sd hV hj
 clear hG
 refine zI func398 ?_
 refine yA ?_
 intro b_r w2_ S
 refine zH (C:=(λσ wq=>Gr w2_ wq/\CN F W _ (λv h=>∃A c,v=.tuple #[.slice A ((y1+1-y0)*(x1+1-x0)) c,ii 0]/\h=.row 2 1 A ((y1+1-y0)*(x1+1-x0)) c (cY (fi gw cc x0 y0 (x1+1-x0) (y1+1-y0)))) wq σ)) [5] [0,1,2,3,4,5,6,7,8,9,10] [] ⟨Gr.drew _,S.gr (Gr.drew _)⟩ ?_
 refine zV (λτ wq hq=>((S.gr hq.1).blk (i:=2) rfl)) ?_
 refine zV (λτ wq hq=>((S.gr hq.1).blk (i:=0) rfl)) ?_
 refine de rfl rfl (λwq hq=>l4 rfl ((iz x0 y0 x1 y1 hx hy (St.grid (CN.st hq.2) (i:=1) rfl)).mono (λv w'⟨A,c,hv,hR,hf,g⟩=>⟨hq.1.trans g,_,⟨A,c,hv,rfl⟩,St.pushRow (CN.st hq.2) hR hf g⟩))) ?_
 rintro v3 w3 ⟨g3,h3,⟨A_vs,c_vs,rfl,rfl⟩,_⟩
 refine zY ?_
 rintro w4 ⟨g4,h4,⟨A4,c4,e4,rfl⟩,S⟩
 refine zC (mC p gw gh _ w4 (S.grid (i:=2) rfl).top) ?_
 intro w4_ g4_ S
 refine zg ?_
 cases e4
 rw[show lk gw (dw gw gh c0)=lk gw (dw gw gh (uD gw c0 cc x0 y0 x1 y1 0))by rw[N8]]at S
 refine dl (λm e w=>∃k:Nat,k+m=(y1+1-y0)*(x1+1-x0)/\SL e [(0,pt lb),(3,pt b_r),(65,.slice A_vs ((y1+1-y0)*(x1+1-x0)) c_vs),(66,ii ((y1+1-y0)*(x1+1-x0):Nat)),(67,ii k)] /\
  St F W w (.row 2 1 A_vs ((y1+1-y0)*(x1+1-x0)) c_vs (cY (fi gw cc x0 y0 (x1+1-x0) (y1+1-y0)))::.blk b_r 43 [ii x0,ii y0,ii x1,ii y1]::.grid p gw gh cc A cap bs Rs::.blk lb 188 [pt p,pt tb,pt pb] ::
   .blk pb 312 [.slice lA (fW gw gh) lc]::.row 389 3 lA (fW gw gh) lc (ut (fW gw gh) gw gh As cs)::.pfam 158 2 (fW gw gh) As (mG gw gh) cs (wX gw gh (dw gw gh c0)) ::
   .blk tb 293 [ii gw,ii gh,.slice A1 ((gh+1)*(gw+1)) c1]::.row 2 1 A1 ((gh+1)*(gw+1)) c1 (fj ((gh+1)*(gw+1)) (lk gw (dw gw gh (uD gw c0 cc x0 y0 x1 y1 k))))::tl)) ((y1+1-y0)*(x1+1-x0))
  ⟨0,om,sl,S⟩ ?_
 clear S
 rintro m e w ⟨k,hk,hsl,S⟩
 rw[hsl.fold]
 by_cases hkn:k<(y1+1-y0)*(x1+1-x0)
 ·have sa_vs:dO A_vs:=(S.row (i:=0) rfl).someA om
  have hp:=λcx cy a b=>N9 (gw:=gw) (gh:=gh) (c0:=c0) (cc:=cc) hx hy.2 hkn (cx:=cx) (cy:=cy) a b
  have hsame:=λj=>GE (c0:=c0) (cc:=cc) (y0:=y0) hx hkn j
  have hwas:=λh=>GF (c0:=c0) (cc:=cc) (y0:=y0) (y1:=y1) (x0:=x0) (x1:=x1) (k:=k) (gw:=gw) rfl h
  have hvk:=hvg k hkn
  have hAk:=λw=>hAt w k
  generalize hwd:x1+1-x0=wd at *
  generalize hnn:(y1+1-y0)*wd=nn at *
  have hkm:=dt k (show wd>0 by omega)
  have hkd:k/wd<y1+1-y0:=cS (by rw[cD,hnn];exact hkn)
  have e0:(x1:Int)-x0+1=(wd:Nat):=om
  have e1:(x0:Int)+(k:Int)%(wd:Nat)=((x0+k%wd:Nat):Int):=by push_cast;rfl
  have e2:(y0:Int)+(k:Int)/(wd:Nat)=((y0+k/wd:Nat):Int):=by push_cast;rfl
  have hnth:=λw'=>Bw x0 y0 x1 y1 k om om (by rw[e0,(om:(y1:Int)-y0+1=((y1+1-y0:Nat):Int)),iW,show(((y1+1-y0:Nat):Int)*wd)=(((y1+1-y0)*wd:Nat):Int)by push_cast;rfl,hnn];omega) w'
  rw[e0,e1,e2]at hnth
  have hxb:x0+k%wd<gw:=om
  have hyb:y0+k/wd<gh:=om
  have hw0:=hwas hxb
  have hp:=hp _ _ rfl rfl hxb
  generalize x0+k%wd=cx at *
  generalize y0+k/wd=cy at *
  have hidx:cy*gw+cx<gw*gh:=by
   have:=eZ gw (show cy+1<=gh by omega)
   rw[lL,cG,cD gw cy]at this
   omega
  have hAk:=λw=>hAk w cx cy hxb hyb
  rw[mF,a7 hidx,hw0]at hAk
  have hp:=hp hidx
  have b0:=h0 (cy*gw+cx)
  have b1:=hB (cy*gw+cx)
  rw[mF,a7 hidx]at b0 b1
  by_cases hne:cc (cy*gw+cx)=c0 (cy*gw+cx)
  ·have hs:dw gw gh (uD gw c0 cc x0 y0 x1 y1 (k+1))=dw gw gh (uD gw c0 cc x0 y0 x1 y1 k):=CV λj _=>by
    rw[hsame]
    split
    ·rename_i e;rw[e,hne,hw0]
    ·rfl
   rw[hne]at hvk
   refine yA ?_
   refine zC (hnth w) ?_
   intro w5_ g5_ S
   refine yA ?_
   intro _ _ S
   refine zD [0,1,2,3,4,5,6,7,8,9,10] [] ?_
   refine zP (λwq hq=>hAk wq ((S.gr hq).blk (i:=8) rfl) ((S.gr hq).rd (i:=9) rfl)) ?_
   refine zE ?_
   intro w9_ g9_ S
   rw[<-hs]at S
   exact⟨m-1,om,k+1,om,sl,S.drop 1⟩
  ·skip
   refine yA ?_
   refine zC (hnth w) ?_
   intro w10_ g10_ S
   refine yA ?_
   intro _ _ S
   refine zD [0,1,2,3,4,5,6,7,8,9,10] [] ?_
   refine zP (λwq hq=>hAk wq ((S.gr hq).blk (i:=8) rfl) ((S.gr hq).rd (i:=9) rfl)) ?_
   refine zE ?_
   intro w14_ g14_ S
   refine zF [0,1,2,3,4,5,6,7] [8] ?_
   intro w15_ g15_ S
   refine zK (WC (hbm k) hw hh hxb hyb om hp (S.pick 10 [8,9,0,1,2,3,4,5,6,7] rfl rfl rfl)) ?_
   rintro _ w16_ ⟨rfl,S⟩
   refine zg ?_
   have S:=S.pick 10 [2,3,4,5,6,7,8,9,0,1] rfl rfl rfl
   exact⟨m-1,om,k+1,om,sl,S.drop 1⟩
 ·obtain rfl:k=(y1+1-y0)*(x1+1-x0):=om
  rw[hend]at S
  refine zF [0,1,2,3,4,5,6,7,8] [9,10] ?_
  intro w17_ g17_ S
  refine zK (z7 hx hy (S.grid (i:=2) rfl) hq (S.pick 9 [4,5,6,7,8,0,1,2,3] rfl rfl rfl)) ?_
  rintro _ w18_ ⟨rfl,S⟩
  refine zg ?_
  have S:=S.pick 9 [5,6,7,8,0,1,2,3,4] rfl rfl rfl
  exact ir rfl ⟨rfl,S.drop 2⟩
end
theorem vH.congr{v:Nat->Nat->Int}{P Q:Nat->Nat->Prop}{r:RG}(h:vH v P r)(z:∀x y,P x y↔Q x y):vH v Q r:=by
 obtain⟨x1,y1,L,D⟩:=h.lo;obtain⟨O,S,p2,I⟩:=h.hi;exact⟨λx y J=>h.all x y ((z x y).2 J),⟨x1,y1,(z _ _).1 L,D⟩,O,S,(z _ _).1 p2,I⟩
noncomputable def WD(V:List Int)(gw x0 y0 x1 y1:Nat):RG :=
 open Classical in if h:∃r,vH (Bx V gw) (nh x0 y0 x1 y1) r then h.choose else⟨0,0⟩
theorem WE{V:List Int}{r:RG}(h:vH (Bx V gw) (nh x0 y0 x1 y1) r):WD V gw x0 y0 x1 y1=r:=by
 have h':∃r,vH (Bx V gw) (nh x0 y0 x1 y1) r:=⟨r,h⟩;unfold WD;rw[dif_pos h'];exact h'.choose_spec.uniq h
section
variable{V:List Int}
theorem LO(k x y:Nat)(hw:1<=gw/\gw<=1024)(hh:1<=gh/\gh<=1024)(hk:k<=Nat.log2 (min gw gh))(hx:x<f7 gw k)(hy:y<f7 gh k)(hA:vd W tb gw gh V) :
  Fn prog 238 [pt tb,ii k,.agg #[ii x,ii y]] W (dp (.tuple #[.agg (wm V gw k x y).cells.toArray,ii 0]) W):=by
 obtain⟨As,cs,Z,cc,hT,hS,hF⟩:=hA;generalize Nat.log2 (min gw gh)=K at *;have U:=Pi (k:=K+1) (j:=k) (ac:=f7 gw) (As:=Z) (ns:=λk=>f7 gw k*f7 gh k) (cs:=cc) om;have hC:=(hF k om).rd;have I:=hS.rd;have L:=Cd (zj V (gw:=gw) (gh:=gh) (k:=k) hx hy);have aa:(mY (tf V gw gh k)).length=f7 gw k*f7 gh k*2:=by rw[Do,Dq]
 have O:f7 gw k<=1024:=by unfold f7;have:=mT k;omega
 have J:f7 gh k<=1024:=by unfold f7;have:=mT k;omega
 have hm:f7 gw k*f7 gh k<=1024*1024:=fy O J
 have am:k<1024:=by
  by_cases h:k<1024
  ·exact h
  ·exfalso;have h2:k<2^k:=Nat.lt_two_pow_self;unfold f7 at hx;omega
 have an:y*f7 gw k+x<f7 gw k*f7 gh k:=by
  have:=cI (f7 gw k) (show y+1<=f7 gh k from hy);rw[cX,cD (f7 gh k)]at this;omega
 have hq:(((f7 gw k*f7 gh k:Nat):Int)).tdiv ((f7 gw k:Nat):Int)=((f7 gh k:Nat):Int):=by
  rw[kv];exact Int.mul_tdiv_cancel_left _ om
 generalize f7 gw k=D at *;generalize f7 gh k=ah at *;generalize tf V gw gh k=l at *;generalize wm V gw k x y=r at *;have e1:(y:Int)*(D:Int)=((y*D:Nat):Int):=by push_cast;rfl
 generalize y*D=p at *;have v:((mY l).drop (((p:Int)+x).toNat * 2)).take 2=r.cells:=by rw[(om:((p:Int)+x).toNat=p+x)];exact L
 have ad:dO As:=hS.someA om;have ab:dO (Z k):=hC.someA om;unfold RG.cells at v ⊢;have S:=St.start W;refine zI func238 ?_;refine zN ?_;intro ag ao aj S;refine zN ?_;intro ae ap ak S;iterate 5 refine z ?_
 first|refine dU (ff (b:=true) rfl (fD om)) ?_|refine dU (ff (b:=false) rfl (iO om)) ?_|refine dU (jx rfl) ?_
 iterate 5 refine z ?_
 first|refine eD rfl ?_|(refine dr rfl ?_;refine dH (cV lz rfl rfl (hT.gr S.out) rfl) ?_)
 refine z ?_;first|refine eD rfl ?_|(refine dr rfl ?_;(first|refine dU (ff (b:=true) rfl (fD om)) ?_|refine dU (ff (b:=false) rfl (iO om)) ?_|refine dU (jx rfl) ?_))
 iterate 5 refine z ?_
 refine dH (cV lz rfl rfl (hT.gr S.out) rfl) ?_;refine zg ?_;refine ZU (I.gr S.out) U ?_;refine zN ?_;intro ai aq al S;refine Z1 0 S ?_;intro ar S;iterate 5 refine z ?_
 refine dU (FT rfl rfl om hq om) ?_;iterate 3 refine z ?_
 first|refine dU (ff (b:=true) rfl (fD om)) ?_|refine dU (ff (b:=false) rfl (iO om)) ?_|refine dU (jx rfl) ?_
 iterate 5 refine z ?_
 first|refine eD rfl ?_|(refine dr rfl ?_;(first|refine dU (ff (b:=true) rfl (fD om)) ?_|refine dU (ff (b:=false) rfl (iO om)) ?_|refine dU (jx rfl) ?_))
 iterate 4 refine z ?_
 first|refine eD rfl ?_|(refine dr rfl ?_;(first|refine dU (ff (b:=true) rfl (fD om)) ?_|refine dU (ff (b:=false) rfl (iO om)) ?_|refine dU (jx rfl) ?_))
 iterate 5 refine z ?_
 first|refine eD rfl ?_|(refine dr rfl ?_;(first|refine dU (ff (b:=true) rfl (fD om)) ?_|refine dU (ff (b:=false) rfl (iO om)) ?_|refine dU (jx rfl) ?_))
 iterate 7 refine z ?_
 refine dU (fh rfl (by rw[e1];omega)) ?_;rw[e1];refine zg ?_;refine ZU (hC.gr S.out) v ?_;refine zS ?_;intro au S;exact Xb gU rfl (iH _) rfl (S.blk (i:=1) rfl) rfl rfl rfl ⟨rfl,S.out⟩
theorem Oa(x0 y0 x1 y1:Nat)(hw:1<=gw/\gw<=1024)(hh:1<=gh/\gh<=1024)(hx:x0<=x1/\x1<gw)(hy:y0<=y1/\y1<gh)(hA:vd W tb gw gh V) :
  Fn prog 156 [pt tb,.agg #[ii x0,ii y0,ii x1,ii y1]] W (dp (.tuple #[.agg (WD V gw x0 y0 x1 y1).cells.toArray,ii 0]) W):=by
 have aq:=hA;obtain⟨Ao,co,As,cs,hT,hO,hF⟩:=aq;have aB:dF x0 y0 x1 y1 gw gh=0:=gW om om om om;obtain⟨J,aU⟩:∃J,J=min (x1-x0) (y1-y0)+1:=⟨_,rfl⟩;have am:min ((x1:Int)-x0) ((y1:Int)-y0)+1=((J:Nat):Int):=om;have ah:=λ(k x y:Nat)(w:World)(g:Gr W w)hk hx hy=>LO (W:=w) (V:=V) (tb:=tb) k x y hw hh hk hx hy (hA.gr g)
 have ac:Nat.log2 J<=Nat.log2 (min gw gh):=by
  have h1:2^Nat.log2 J<=J:=rx om;exact(Nat.le_log2 om).2 om
 have aS:Nat.log2 (min gw gh)<=1024:=dE (Nat.log2_le_self _) om;have ap:2^Nat.log2 J<=J:=rx om;obtain⟨k,ek⟩:∃k,k=Nat.log2 J:=⟨_,rfl⟩;rw[<-ek]at ac ap
 have aI:k<=10:=by
  by_cases h:k<=10
  ·exact h
  ·have:=fP (show 0<2 by omega) (show 11<=k by omega);omega
 have ag:=λx y=>Ch V gw k x y;have aH:1<=2^k:=mT k
 have aA:IntKind.i64.wrap (1*2^(min (k:Int).toNat IntKind.i64.bits))=((2^k:Nat):Int):=by
  have e:(1:Int)*2^(min (k:Int).toNat IntKind.i64.bits)=((2^k:Nat):Int):=by
   rw[jG,show min (k:Int).toNat IntKind.i64.bits=k by unfold IntKind.bits;dsimp only;omega];push_cast;rfl
  rw[e];exact gC _ om
 have aG:f7 gw k+2^k=gw+1:=by unfold f7;omega
 have aF:f7 gh k+2^k=gh+1:=by unfold f7;omega
 generalize 2^k=v at *;generalize aT:Nat.log2 (min gw gh)=K at *;obtain⟨I,aj⟩:∃I,I+v=x1+1:=⟨x1+1-v,om⟩;obtain⟨L,ak⟩:∃L,L+v=y1+1:=⟨y1+1-v,om⟩;have an:(x1:Int)-v+1=((I:Nat):Int):=om;have ao:(y1:Int)-v+1=((L:Nat):Int):=om;have aw:=λw g=>ah k x0 y0 w g ac om om;refine yI func156 ?_;refine yA ?_;intro U O _ S;refine zD [0,1,2,3,4,5,6,7,8,9,10] [] ?_;refine zM (λwq hq=>(hT.gr (S.gr hq).out)) ?_;refine zM (λwq hq=>(hT.gr (S.gr hq).out)) ?_;refine nA rfl (λwq hq=>(jW _ _ _ _ _ _ om om wq).mono (λ_ _⟨hv,hg⟩=>⟨hv,hq.trans hg⟩)) ?_;rw[aB];refine zE ?_;intro aZ aO S;rw[am];refine zC (Ph J om om) ?_;intro ba aP S;rw[<-ek];refine zg ?_;refine dU (vz (c:=(v:Int)) rfl rfl om aA) ?_;refine zD [0,1,2,3,4,5,6,7,8,9,10,11] [] ?_;rw[an];refine zQ ?_;rw[ao];refine zE ?_;intro bb aQ S;refine zC (aw _ S.out) ?_;intro bc aR S;refine yA ?_;intro z _ S
 refine dl (λm e w=>∃(y:Nat)(g:RG)(Q:Nat->Nat->Prop),y+m=L/\y0<=y/\vH (Bx V gw) Q g/\(∀a b,Q a b->nh x0 y0 x1 y1 a b)/\(∀a b,nh x0 y0 x1 y1 a b->b<y->Q a b) /\
  SL e [(0,pt tb),(3,pt U),(4,pt O),(7,ii k),(8,ii v),(9,ii I),(10,ii L),(11,pt z),(13,ii y)]/\St No W w [.blk z 158 g.cells,.blk O 158 [ii 0,ii 0],.blk U 43 [ii x0,ii y0,ii x1,ii y1]]) (L-y0)
  ⟨y0,_,_,om,fK _,ag x0 y0,λa b h=>by unfold nh at*;omega,λa b h hb=>by unfold nh at*;omega,sl,S⟩ ?_
 clear S;rintro m e w ⟨y,g,Q,aY,aX,hQ,Z,D,ad,S⟩;rw[ad.fold];refine zg ?_
 refine dl (λm e w=>∃(x:Nat)(g:RG)(Q:Nat->Nat->Prop),x+m=I/\x0<=x/\vH (Bx V gw) Q g/\(∀a b,Q a b->nh x0 y0 x1 y1 a b)/\(∀a b,nh x0 y0 x1 y1 a b->b<y->Q a b)/\(∀a b,nh x0 y0 x1 y1 a b->b<y+v->a<x->Q a b) /\
  SL e [(0,pt tb),(3,pt U),(4,pt O),(7,ii k),(8,ii v),(9,ii I),(10,ii L),(11,pt z),(13,ii y),(14,ii x)]/\St No W w [.blk z 158 g.cells,.blk O 158 [ii 0,ii 0],.blk U 43 [ii x0,ii y0,ii x1,ii y1]]) (I-x0)
  ⟨x0,g,Q,om,fK _,hQ,Z,D,λa b h hb ha=>by unfold nh at h;omega,sl,S⟩ ?_
 clear S hQ Z D Q g;rintro m2 e w ⟨x,g,Q,aW,aV,hQ,Z,D,ar,ad,S⟩;rw[ad.fold];have az:=λw g=>ah k x y w g ac om om;have ai:=ag x y;generalize wm V gw k x y=q at *;have hJ:vH (Bx V gw) (λa b=>Q a b\/nh x y (x+v-1) (y+v-1) a b) (mE g q):=hQ.join ai (λa b=>Iff.rfl)
 have aa:∀a b,(Q a b\/nh x y (x+v-1) (y+v-1) a b)->nh x0 y0 x1 y1 a b:=λa b h=>by
  rcases h with h|h
  ·exact Z a b h
  ·unfold nh at*;omega
 have ab:∀a b,nh x0 y0 x1 y1 a b->b<y+v->a<x+v->(Q a b\/nh x y (x+v-1) (y+v-1) a b):=λa b h hb ha=>by
  by_cases av:b<y
  ·exact .inl (D a b h av)
  ·by_cases au:a<x
   ·exact .inl (ar a b h hb au)
   ·right;unfold nh at*;omega
 refine zC (az w S.out) ?_;intro aJ aD S;refine zN ?_;intro aC aK aE S;refine zS ?_;intro aL S;refine zC (Fx g q _) ?_;refine zS ?_;intro aM S;refine zB ?_ ?_
 ·intro aj;obtain rfl:x=I:=om;refine zB ?_ ?_
  ·intro ak;have al:∀a b,(Q a b\/nh x y (x+v-1) (y+v-1) a b)↔nh x0 y0 x1 y1 a b:=λa b=>⟨aa a b,λh=>ab a b h (by unfold nh at h;omega) (by unfold nh at h;omega)⟩;have ae:=WE (hJ.congr al);rw[ae];refine zS ?_;intro aN S;exact pG S ⟨rfl,S.out⟩
  ·intro ak;refine zg ?_;have S:=S.sub (.cons _ (.cons_cons _ (.cons_cons _ (.cons_cons _ (.slnil)))));exact⟨L-min (y+v) L,om,min (y+v) L,mE g q,_,om,om,hJ,aa,λa b h hb=>ab a b h om (by unfold nh at h;omega),sl,S⟩
 ·intro aj;refine zg ?_;have S:=S.sub (.cons _ (.cons_cons _ (.cons_cons _ (.cons_cons _ (.slnil)))));exact⟨I-min (x+v) I,om,min (x+v) I,mE g q,_,om,om,hJ,aa,λa b h hb=>.inl (D a b h hb),λa b h hb ha=>ab a b h hb om,sl,S⟩
end
def GG(V:List Int)(gw gh:Nat)(x0 y0 x1 y1:Int):Int:=if dF x0 y0 x1 y1 gw gh=0 then uv V gw x0.toNat y0.toNat x1.toNat y1.toNat else 0
noncomputable def JL(V:List Int)(gw gh:Nat)(x0 y0 x1 y1:Int):RG:=if dF x0 y0 x1 y1 gw gh=0 then WD V gw x0.toNat y0.toNat x1.toNat y1.toNat else⟨0,0⟩
def Ob(sn:Nat)(stamp:Int)(gw gh:Nat)(V:List Int)(Q:List HA):Prop:=∃tb q Ao co As cs Ao2 co2 As2 cs2,Q=.blk sn 258 [ii stamp,pt tb,pt q]::(BB tb gw gh V Ao co As cs++VP q Ao2 co2 As2 cs2 gw gh V)
def rl(w:World)(sn:Nat)(stamp:Int)(gw gh:Nat)(V:List Int):Prop:=∃tb q,eL w sn 258 [ii stamp,pt tb,pt q]/\rj w tb gw gh V/\vd w q gw gh V
def DU(w:World)(ov:Option Addr)(now:Int)(gw gh:Nat)(V:List Int)(b:Bool):Prop:=(ov=none/\b=false)\/∃sn st V0,ov=some ⟨sn,0,none⟩/\rl w sn st gw gh V0/\vB V0/\(st=now->V0=V)/\b=decide (st=now)
theorem rl.gr{V:List Int}(h:rl w sn stamp gw gh V)(g:Gr w w'):rl w' sn stamp gw gh V:=by
 obtain⟨tb,q,h1,h2,v⟩:=h;exact⟨tb,q,h1.gr g,h2.gr g,v.gr g⟩
theorem DU.gr{V:List Int}{b:Bool}(h:DU w ov now gw gh V b)(g:Gr w w'):DU w' ov now gw gh V b :=
 h.imp id λ⟨sn,st,v,h1,h2,y,z⟩=>⟨sn,st,v,h1,h2.gr g,y,z⟩
theorem Ob.at_{V:List Int}{Q:List HA}(h:Ob sn stamp gw gh V Q)(S:St F W w (Q++T)):rl w sn stamp gw gh V:=by
 obtain⟨tb,q,L,O,As,cs,v,z,y,D,rfl⟩:=h;refine⟨tb,q,S.blk (i:=0) rfl,⟨_,_,_,_,S.blk (i:=2) rfl,S.row (i:=3) rfl,λ_ J=>S.rrow (i:=1) rfl J⟩,?_⟩;have I:St F W w (VP q v z y D gw gh V++T):=(S.drop 4);exact⟨v,z,y,D,I.blk (i:=2) rfl,I.row (i:=0) rfl,λ_ J=>I.grow_ (i:=1) rfl J⟩
section
variable{lb:Nat}{V:List Int}
theorem UE(x0 y0 x1 y1:Int)(Z:vB V)(hw:1<=gw/\gw<=1024)(hh:1<=gh/\gh<=1024)(D:xy W tb gw gh (lk gw V)) :
  Fn prog 100 [pt tb,.agg #[ii x0,ii y0,ii x1,ii y1]] W (dp (.tuple #[ii (GG V gw gh x0 y0 x1 y1),ii (dF x0 y0 x1 y1 gw gh)]) W):=by
 unfold GG;by_cases v:dF x0 y0 x1 y1 gw gh=0
 ·rw[a7 v,v];obtain⟨r,J,rfl,rfl,rfl,rfl⟩:=nP v;exact Jf r.x0 r.y0 r.x1 r.y1 Z hw hh J.1 J.2 D
 ·rw[a8 v];generalize z:dF x0 y0 x1 y1 gw gh=e at *;obtain⟨A,c,I,hR⟩:=D;have S:=St.start W;refine zI func100 ?_;refine zN ?_;intro L aa O S;refine zD [0,1,2,3,4,5,6,7,8,9,10] [] ?_;refine zM (λwq y=>(I.gr (S.gr y).out)) ?_;refine zM (λwq y=>(I.gr (S.gr y).out)) ?_;refine nA rfl (λwq y=>(jW _ _ _ _ _ _ om om wq).mono (λ_ _⟨hv,hg⟩=>⟨hv,y.trans hg⟩)) ?_;rw[z];refine zE ?_;intro ab U S;exact nd rfl rfl ⟨rfl,S.out⟩
theorem Oc(x0 y0 x1 y1:Int)(hw:1<=gw/\gw<=1024)(hh:1<=gh/\gh<=1024)(J:rj W tb gw gh V) :
  Fn prog 237 [pt tb,.agg #[ii x0,ii y0,ii x1,ii y1]] W (dp (ii (dF x0 y0 x1 y1 gw gh)) W):=by
 obtain⟨Z,co,As,cs,y,hO,hF⟩:=J;have S:=St.start W;refine zI func237 ?_;refine zN ?_;intro z O D S;refine zD [0,1,2,3,4,5,6,7,8,9,10] [] ?_;refine zM (λwq v=>(y.gr (S.gr v).out)) ?_;refine zM (λwq v=>(y.gr (S.gr v).out)) ?_;refine nA rfl (λwq v=>(jW _ _ _ _ _ _ om om wq).mono (λ_ _⟨L,hg⟩=>⟨L,v.trans hg⟩)) ?_;refine zE ?_;intro U I S;exact ir rfl ⟨rfl,S.out⟩
theorem UF(x0 y0 x1 y1:Int)(Z:vB V)(J:1<=gw/\gw<=1024)(D:1<=gh/\gh<=1024)(z:rj W tb gw gh V) :
  Fn prog 155 [pt tb,.agg #[ii x0,ii y0,ii x1,ii y1]] W (dp (.tuple #[ii (GG V gw gh x0 y0 x1 y1),ii (dF x0 y0 x1 y1 gw gh)]) W):=by
 unfold GG;by_cases v:dF x0 y0 x1 y1 gw gh=0
 ·rw[a7 v,v];obtain⟨r,I,rfl,rfl,rfl,rfl⟩:=nP v;exact Pp r.x0 r.y0 r.x1 r.y1 Z J D I.1 I.2 z
 ·rw[a8 v];have y:=λw(g:Gr W w)=>Oc x0 y0 x1 y1 J D (z.gr g);generalize dF x0 y0 x1 y1 gw gh=e at *;have S:=St.start W;refine zI func155 ?_;refine zN ?_;intro L aa O S;refine zC (y _ S.out) ?_;intro ab U S;exact zZ
theorem Iq(x0 y0 x1 y1:Int)(L:vB V)(Z:1<=gw/\gw<=1024)(O:1<=gh/\gh<=1024)(v:rl W sn stamp gw gh V) :
  Fn prog 78 [pt sn,.agg #[ii x0,ii y0,ii x1,ii y1]] W (dp (.tuple #[ii (GG V gw gh x0 y0 x1 y1),ii (dF x0 y0 x1 y1 gw gh)]) W):=by
 obtain⟨tb,q,v,J,_⟩:=v;have U:=λw(g:Gr W w)=>UF x0 y0 x1 y1 L Z O (J.gr g);have S:=St.start W;refine zI func78 ?_;refine zN ?_;intro z aa D S;refine zD [0,1,2,3,4,5,6,7,8,9] [] ?_;refine zM (λwq y=>(v.gr (S.gr y).out)) ?_;refine zP (λwq y=>U wq (S.gr y).out) ?_;refine zE ?_;intro ab I S;exact nd rfl rfl ⟨rfl,S.out⟩
theorem Of(x0 y0 x1 y1:Int)(hw:1<=gw/\gw<=1024)(hh:1<=gh/\gh<=1024)(D:vd W q gw gh V) :
  Fn prog 156 [pt q,.agg #[ii x0,ii y0,ii x1,ii y1]] W (dp (.tuple #[.agg #[ii (JL V gw gh x0 y0 x1 y1).lo,ii (JL V gw gh x0 y0 x1 y1).hi],ii (dF x0 y0 x1 y1 gw gh)]) W):=by
 unfold JL;by_cases v:dF x0 y0 x1 y1 gw gh=0
 ·rw[a7 v,v];obtain⟨r,J,rfl,rfl,rfl,rfl⟩:=nP v;exact Oa r.x0 r.y0 r.x1 r.y1 hw hh J.1 J.2 D
 ·rw[a8 v];generalize z:dF x0 y0 x1 y1 gw gh=e at *;obtain⟨Ao,co,As,cs,I,hO,hF⟩:=D;have S:=St.start W;refine zI func156 ?_;refine zN ?_;intro O aa U S;refine zN ?_;intro L ab Z S;refine zD [0,1,2,3,4,5,6,7,8,9,10] [] ?_;refine zM (λwq y=>(I.gr (S.gr y).out)) ?_;refine zM (λwq y=>(I.gr (S.gr y).out)) ?_;refine nA rfl (λwq y=>(jW _ _ _ _ _ _ om om wq).mono (λ_ _⟨hv,hg⟩=>⟨hv,y.trans hg⟩)) ?_;rw[z];refine zE ?_;refine zS ?_;intro ac S;exact pG S ⟨rfl,S.out⟩
theorem Og(x0 y0 x1 y1:Int)(hw:1<=gw/\gw<=1024)(hh:1<=gh/\gh<=1024)(D:rl W sn stamp gw gh V) :
  Fn prog 79 [pt sn,.agg #[ii x0,ii y0,ii x1,ii y1]] W (dp (.tuple #[.agg #[ii (JL V gw gh x0 y0 x1 y1).lo,ii (JL V gw gh x0 y0 x1 y1).hi],ii (dF x0 y0 x1 y1 gw gh)]) W):=by
 obtain⟨tb,q,D,_,Z⟩:=D;have hs:=λw(g:Gr W w)=>Of x0 y0 x1 y1 hw hh (Z.gr g);generalize JL V gw gh x0 y0 x1 y1=I at *;have S:=St.start W;refine zI func79 ?_;refine zN ?_;intro L ab O S;refine zN ?_;intro y ac U S;refine zH (C:=(CX _ _ _ 0 (.blk y 158 [ii I.lo,ii I.hi]))) [8] [0,1,2,3,4,5,6,7,8] [9] (CX.start (S.gr (Gr.drew _))) ?_;refine zV (λτ wq v=>(D.gr v.out)) ?_;refine zV (λτ wq v=>(v.blk (j:=1) (by decide) rfl)) ?_;refine jH rfl rfl (λτ wq v=>(hs wq v.out).mono (λ_ _⟨hv,hg⟩=>⟨hv,v.gr hg⟩)) ?_;refine zR ?_;refine de rfl rfl (λwq v=>JD v rfl (iH _) rfl rfl rfl rfl rfl rfl) ?_;rintro aa ad _;refine zY ?_;rintro ae ⟨J,z,S⟩;obtain rfl:=Option.some.inj z;refine zg ?_;exact pG S ⟨rfl,S.out⟩
theorem Sf(v:rl W sn stamp gw gh V):Fn prog 171 [pt sn,ii now] W (dp (.bool (decide (stamp=now))) W):=by
 obtain⟨tb,q,v,_,_⟩:=v;have S:=St.start W;by_cases h:stamp=now
 all_goals
  refine zI func171 ?_;refine zg ?_;refine dU (uS jl rfl rfl) ?_;refine zX ?_;exact⟨by simp[h],S.out⟩
theorem Sg(v:rl W sn stamp gw gh V):Fn prog 172 [pt sn] W (dp (.tuple #[ii gw,ii gh]) W):=by
 obtain⟨tb,q,v,D,_⟩:=v;have S:=St.start W;refine zI func172 ?_;iterate 7 refine z ?_
 refine dH (cV DC rfl rfl (v.gr S.out) rfl) ?_;refine zC (TZ (D.gr S.out)) ?_;intro I y S;exact zZ
end
section
variable{lb cap:Nat}{V:List Int}
theorem UG{b:Bool}{y z:Value}(hO:DU W ov now gw gh V b)(hL:eL W lb 188 [pt p,y,z])(hG:eJ W p gw gh cc A cap bs Rs) :
  Fn prog 99 [pt lb,.pointer ov,ii now] W (λv w'=>v=.bool b/\(b=true->∃sn st,ov=some ⟨sn,0,none⟩/\rl W sn st gw gh V)/\Gr W w'):=by
 rcases hO with⟨rfl,rfl⟩|⟨sn,st,V0,rfl,J,hB,O,rfl⟩
 ·exact(PD (lb:=lb) (now:=now) (.inl rfl)).mono λv w'⟨hv,g⟩=>⟨hv,(λh=>by cases h),g⟩
 ·have L:=hG.top;have D:=λw(g:Gr W w)=>Sf (now:=now) (J.gr g);have U:=λw(g:Gr W w)=>Sg (J.gr g);have S:=St.start W;by_cases h:st=now
  ·rw[fD h]at D ⊢;refine zI func99 ?_;refine zC (D W S.out) ?_;intro Z I S;refine zL (hL.gr S.out) ?_;refine zC (mC p gw gh _ _ (L.gr S.out)) ?_;intro ac aa S;refine zC (U _ S.out) ?_;intro ad ab S;refine zX ?_;exact⟨rfl,λ_=>⟨sn,st,rfl,O h▸J⟩,S.out⟩
  ·rw[iO h]at D ⊢;refine zI func99 ?_;refine zC (D W S.out) ?_;intro Z I S;refine zX ?_;exact⟨rfl,(λh=>by cases h),S.out⟩
theorem UH{b:Bool}{z:Value}(x0 y0 x1 y1:Int)(J:vB V)(hO:DU W ov now gw gh V b)(L:eL W lb 188 [pt p,pt tb,z])(v:eJ W p gw gh cc A cap bs Rs)(hF:xy W tb gw gh (lk gw V)) :
  Fn prog 51 [pt lb,.pointer ov,ii now,.agg #[ii x0,ii y0,ii x1,ii y1]] W (dp (.tuple #[ii (GG V gw gh x0 y0 x1 y1),.bool (b&&decide (dF x0 y0 x1 y1 gw gh=0)),ii (dF x0 y0 x1 y1 gw gh)]) W):=by
 have U:=v.sw;have O:=v.sh;have ho:=λw(g:Gr W w)=>UG (hO.gr g) (L.gr g) (v.gr g);have hf:=λw(g:Gr W w)=>UE x0 y0 x1 y1 J U O (hF.gr g);have D:=λw sn st(h:rl w sn st gw gh V)=>Iq x0 y0 x1 y1 J U O h;generalize ad:dF x0 y0 x1 y1 gw gh=e at *;generalize GG V gw gh x0 y0 x1 y1=n at *;have S:=St.start W;refine zI func51 ?_;refine zN ?_;intro Z ae aa S;refine zK (ho _ S.out) ?_;rintro _ ag ⟨rfl,hb,I⟩;have S:=S.gr I;refine zD [0,1,2,3,4,5,6,7,8,9,10] [] ?_;refine zM (λwq y=>(L.gr (S.gr y).out)) ?_;refine zP (λwq y=>hf wq (S.gr y).out) ?_;refine zE ?_;intro ah ab S;cases b
 ·skip;refine zX ?_;exact⟨by simp[*],S.out⟩
 ·obtain⟨sn,st,rfl,hS⟩:=hb rfl;by_cases he:e=0
  all_goals
   refine zC (D _ sn st (hS.gr (I.trans (by assumption)))) ?_;intro ai ac S;refine zX ?_;exact⟨by simp[*],S.out⟩
theorem UI(Z:vB (dw gw gh cc))(D:eJ W p gw gh cc A cap bs Rs):Fn prog 72 [pt p,ii stamp] W (λv w'=>∃sn Q,v=.tuple #[pt sn,ii 0]/\Ob sn stamp gw gh (dw gw gh cc) Q/\St No W w' Q):=by
 have hg:=λw(g:Gr W w)=>FN Z (D.gr g);have hs:=λw(g:Gr W w)=>HO (D.gr g);have S:=St.start W;refine zI func72 ?_;refine zN ?_;intro L aa V S;refine zK (hg _ S.out) ?_;rintro _ ab ⟨tb,Ao,co,Fs,U,rfl,y⟩;have S:=(S.app y).perm_ ft;refine zS ?_;intro ac S;refine zK (hs _ S.out) ?_;rintro _ ad ⟨q,I,O,J,z,rfl,y⟩;have S:=(S.app y).perm_ ft;refine zS ?_;intro ae S;exact nd rfl rfl ⟨_,_,rfl,⟨_,_,_,_,_,_,_,_,_,_,rfl⟩,S⟩
end
theorem Et(ax ay bx cy:Int):((jh ax ay bx cy).uy=0/\(jh ax ay bx cy).vx=0/\((jh ax ay bx cy).ux=1\/(jh ax ay bx cy).ux=-1)/\((jh ax ay bx cy).vy=1\/(jh ax ay bx cy).vy=-1)) \/
  ((jh ax ay bx cy).ux=0/\(jh ax ay bx cy).vy=0/\((jh ax ay bx cy).uy=1\/(jh ax ay bx cy).uy=-1)/\((jh ax ay bx cy).vx=1\/(jh ax ay bx cy).vx=-1)):=by
 have h1:=xP (bx-ax);have h2:=xP (cy-ay);unfold jh;split
 ·exact .inr ⟨rfl,rfl,by dsimp only;omega,by dsimp only;omega⟩
 ·exact .inl ⟨rfl,rfl,by dsimp only;omega,by dsimp only;omega⟩
theorem GI{M:Nat}(h:i<=j):xU N M i<=xU N M j:=by
 have:=eZ M h;exact ji om
theorem AN{s:Int}(v:s=1\/s=-1){a:Nat}(h1:a<=b)(h2:b<=c)(z:Int):((z+a*s<=z+b*s/\z+b*s<=z+c*s)\/(z+c*s<=z+b*s/\z+b*s<=z+a*s)):=by
 rcases v with rfl|rfl<;>omega
theorem UM(ax ay bx cy:Int)(h1:i<=j)(h2:j<=k){x0 y0 x1 y1:Int}(hi:Be x0 y0 x1 y1 (rm ax ay (jh ax ay bx cy) i).1 (rm ax ay (jh ax ay bx cy) i).2=true)(I:Be x0 y0 x1 y1 (rm ax ay (jh ax ay bx cy) k).1 (rm ax ay (jh ax ay bx cy) k).2=true) :
  Be x0 y0 x1 y1 (rm ax ay (jh ax ay bx cy) j).1 (rm ax ay (jh ax ay bx cy) j).2=true:=by
 unfold Be rm at *;simp only[cM,cT]at *;have J:=GI (N:=(jh ax ay bx cy).n.toNat) (M:=(jh ax ay bx cy).m.toNat) h1;have L:=GI (N:=(jh ax ay bx cy).n.toNat) (M:=(jh ax ay bx cy).m.toNat) h2;generalize xU (jh ax ay bx cy).n.toNat (jh ax ay bx cy).m.toNat=q at *;rcases Et ax ay bx cy with⟨v,y,z,D⟩|⟨v,y,z,D⟩
 ·have O:=AN z h1 h2 ax;have S:=AN D J L ay;simp only[v,y,r5,sf]at hi I ⊢;omega
 ·have O:=AN z h1 h2 ay;have S:=AN D J L ax;simp only[v,y,r5,sf]at hi I ⊢;omega
theorem UN(ax ay bx cy:Int)(h:rm ax ay (jh ax ay bx cy) i=rm ax ay (jh ax ay bx cy) j):i=j:=by
 unfold rm at h;simp only[Prod.mk.injEq]at h;rcases Et ax ay bx cy with⟨v,y,z,D⟩|⟨v,y,z,D⟩
 ·rw[v,y]at h;simp only[r5,sf]at h;rcases z with e|e<;>rw[e]at h<;>omega
 ·rw[v,y]at h;simp only[r5,sf]at h;rcases z with e|e<;>rw[e]at h<;>omega
theorem AO(ax ay bx cy:Int):(vX ax ay bx cy).length=(jh ax ay bx cy).n.toNat+1:=by simp[vX]
theorem UO{cy:Int}(h:i<(vX ax ay bx cy).length):(vX ax ay bx cy)[i]?=some (rm ax ay (jh ax ay bx cy) i):=by
 rw[AO]at h;unfold vX;rw[da,eu h];rfl
theorem UP{cy:Int}(J:mD gw gh (ax,ay)=true)(L:mD gw gh (bx,cy)=true):(∀i,i<(vX ax ay bx cy).length->mD gw gh (rm ax ay (jh ax ay bx cy) i)=true)/\((jh ax ay bx cy).n.toNat<gw\/(jh ax ay bx cy).n.toNat<gh):=by
 obtain⟨N,M,y,z,D,I,hd,v⟩:=Js J L rfl;rw[AO,y,b7];refine⟨λi hi=>?_,I⟩;unfold rm;rw[y,z,b7,b7];refine v i (xU N M i) om ?_;unfold xU;rcases iZ N with rfl|O
 ·simp
 ·have:=eZ M (show i<=N by omega);have e:(M+1)*(2*N)=2*(M*N)+2*N:=by rw[cX,Nat.mul_left_comm]
  rw[Nat.le_iff_lt_add_one,sH om,e];omega
structure Bh(w:World)(xb yb gw gh:Nat)(V:List Int)(l:List (Int×Int)):Prop where
 blk:∃lA lc,eL w xb 210 [pt yb,ii gw,ii gh,.slice lA l.length lc]/\Rd w lA (eT l)
 pyr:iM w yb gw gh V
 hin:∀(i:Nat)(c:Int×Int),l[i]?=some c->mD gw gh c=true
 hw:1<=gw/\gw<=1024
 hh:1<=gh/\gh<=1024
 len:l.length<=1024
def yF(gw:Nat)(V:List Int)(c:Int×Int):Int:=V.getD (c.2.toNat * gw+c.1.toNat) 0
def DV(gw gh:Nat)(V:List Int)(k:Nat)(c:Int×Int):Int:=(pm gw gh V k (c.1.toNat/2^k) (c.2.toNat/2^k)).hi
section
variable{yb:Nat}{V:List Int}{l:List (Int × Int)}
theorem Bh.gr(h:Bh W xb yb gw gh V l)(g:Gr W w'):Bh w' xb yb gw gh V l:=by
 obtain⟨⟨lA,lc,h1,h2⟩,v,y,z,D,I⟩:=h;exact⟨⟨lA,lc,h1.gr g,h2.gr g⟩,v.gr g,y,z,D,I⟩
theorem Bh.cell(h:Bh W xb yb gw gh V l){c:Int×Int}(hi:l[i]?=some c):∃x y:Nat,c=((x:Int),(y:Int))/\x<gw/\y<gh:=by
 have v:=jT.1 (h.hin i c hi);obtain⟨x,z⟩:=cJ v.1;obtain⟨y,D⟩:=cJ v.2.2.1;exact⟨x,y,Prod.ext z D,om,om⟩
theorem Is(i:Nat){c:Int×Int}(L:l[i]?=some c)(h:Bh W xb yb gw gh V l):Fn prog (112) [pt xb,ii i] W (dp (ii (yF gw V c)) W):=by
 obtain⟨x,y,rfl,hx,hy⟩:=h.cell L;have hi:=(dq.1 L).1;have aa:=h.len;have ac:=lI h.hw.2 h.hh.2;have J:=λw(g:Gr W w)=>Cr 0 x y h.hw h.hh om (by rw[iR h.hw.1];exact hx) (by rw[iR h.hh.1];exact hy) (h.pyr.gr g);have e0:(pm gw gh V 0 x y).cells=[ii (V.getD (y*gw+x) 0),ii (V.getD (y*gw+x) 0)]:=rfl;rw[e0]at J;show Fn _ _ _ _ (dp (ii (V.getD (y*gw+x) 0)) W);generalize V.getD (y*gw+x) 0=z at *;obtain⟨lA,lc,hX,hL⟩:=h.blk;have U:dO lA:=hL.someA (by rw[xl];omega);have I:((eT l).drop ((i:Int).toNat * 2)).take 2=[ii x,ii y]:=by rw[b7];exact mS L
 have S:=St.start W;refine zI func112 ?_;refine zH (C:=(CA _ _ _ 158 [ii 0,ii 0] [ii z,ii z])) [15,16] [0,1,2,3,4,5,6,7,8,9,10,11,12,13,14,15,16] [17] (CA.start (S.gr (Gr.drew _))) ?_;refine zV (λτ wq v=>(hX.gr v.st.out)) ?_;refine zV (λτ wq v=>(hX.gr v.st.out)) ?_;refine zR ?_;refine qo rfl (λτ wq v=>fb xa rfl (jy _) rfl (hL.gr v.st.out) I rfl rfl) ?_;refine jH rfl rfl (λτ wq v=>(J wq v.st.out).mono (λ_ _⟨hv,hg⟩=>⟨hv,v.gr hg⟩)) ?_;refine zR ?_;refine de rfl rfl (λwq v=>kG v ne rfl) ?_;rintro ad ag ⟨ab,rfl,_⟩;refine de rfl rfl (λwq v=>kH v (iH _) rfl rfl rfl rfl rfl) ?_;rintro ae ah _;refine zY ?_;rintro ai O;obtain⟨Z,D,S⟩:=O.fin;cases D
 exact zZ
theorem Oo(k i:Nat){c:Int×Int}(hk:k<fW gw gh)(U:l[i]?=some c)(h:Bh W xb yb gw gh V l):Fn prog (186) [pt xb,ii k,ii i] W (dp (ii (DV gw gh V k c)) W):=by
 obtain⟨x,y,rfl,hx,hy⟩:=h.cell U;have hi:=(dq.1 U).1;have ag:=h.len;have aj:=lI h.hw.2 h.hh.2;have O:=λw=>HJ (W:=w) k x y h.hw h.hh hk hx hy;have J:=λw(g:Gr W w)=>Cr k (x/2^k) (y/2^k) h.hw h.hh hk (sy k hx) (sy k hy) (h.pyr.gr g);have Z:DV gw gh V k (x,y)=(pm gw gh V k (x/2^k) (y/2^k)).hi:=rfl;rw[Z];generalize pm gw gh V k (x/2^k) (y/2^k)=rg at *;generalize x/2^k=X at *;generalize y/2^k=Y at *;unfold RG.cells at J;obtain⟨lA,lc,L,hL⟩:=h.blk;have ac:dO lA:=hL.someA (by rw[xl];omega);have I:((eT l).drop ((i:Int).toNat * 2)).take 2=[ii x,ii y]:=by rw[b7];exact mS U
 have S:=St.start W;refine zI func186 ?_;refine zH (C:=(CA _ _ _ 24 [ii 0,ii 0] [ii X,ii Y])) [20,21] [0,1,2,3,4,5,6,7,8,9,10,11,12,13,14,15,16,17,18,19,20,21] [22] (CA.start (S.gr (Gr.drew _))) ?_;refine zV (λτ wq v=>(L.gr v.st.out)) ?_;refine zV (λτ wq v=>(L.gr v.st.out)) ?_;refine zV (λτ wq v=>(L.gr v.st.out)) ?_;refine zR ?_;refine qo rfl (λτ wq v=>fb xa rfl (jy _) rfl (hL.gr v.st.out) I rfl rfl) ?_;refine jH rfl rfl (λτ wq v=>(O wq).mono (λ_ _⟨hv,hg⟩=>⟨hv,v.gr hg⟩)) ?_;refine zR ?_;refine de rfl rfl (λwq v=>kG v Ac rfl) ?_;rintro ak ao ⟨ah,rfl,_⟩;refine de rfl rfl (λwq v=>kH v (jy _) rfl rfl rfl rfl rfl) ?_;rintro am aq _;refine zY ?_;rintro au aa;obtain⟨ad,z,S⟩:=aa.fin;cases z
 refine zH (C:=(CA _ _ _ 158 [ii 0,ii 0] [ii rg.lo,ii rg.hi])) [10,11] [0,1,2,3,4,5,6,7,8,9,10,11] [12] (CA.start (S.gr (Gr.drew _))) ?_;refine zV (λτ wq v=>(L.gr v.st.out)) ?_;refine zV (λτ wq v=>(v.st.blk (i:=0) rfl)) ?_;refine jH rfl rfl (λτ wq v=>(J wq v.st.out).mono (λ_ _⟨hv,hg⟩=>⟨hv,v.gr hg⟩)) ?_;refine zR ?_;refine de rfl rfl (λwq v=>kG v ne rfl) ?_;rintro al ap ⟨ai,rfl,_⟩;refine de rfl rfl (λwq v=>kH v (iH _) rfl rfl rfl rfl rfl) ?_;rintro an ar _;refine zY ?_;rintro av ab;obtain⟨ae,D,S⟩:=ab.fin;cases D
 exact zZ
theorem LQ(k s t:Nat){c:Int×Int}(hk:k<fW gw gh)(an:s<=t)(ht:t<l.length)(hc:l[s]?=some c)(h:Bh W xb yb gw gh V l):Fn prog (185) [pt xb,ii k,ii s,ii t] W
  (λu w'=>∃p:Nat,u=ii p/\s<=p/\p<=t/\(∀d,l[p]?=some d->d.1.toNat/2^k=c.1.toNat/2^k/\d.2.toNat/2^k=c.2.toNat/2^k)/\Gr W w'):=by
 obtain⟨x,y,rfl,hx,hy⟩:=h.cell hc;have av:=h.len;have hw:=h.hw;have hh:=h.hh;have aC:=lI hw.2 hh.2;have hn:Nd.ok ⟨k,x/2^k,y/2^k⟩ gw gh:=⟨hk,sy k hx,sy k hy⟩;have ah:=λw=>HJ (W:=w) k x y hw hh hk hx hy;have ag:∀w,Fn prog 132 [ii gw,ii gh,ii k,.agg #[ii (x/2^k:Nat),ii (y/2^k:Nat)]] w (dp (.tuple #[.agg (Nd.span gw gh ⟨k,x/2^k,y/2^k⟩).cells.toArray,ii 0]) w):=λw=>Co (W:=w) k (x/2^k) (y/2^k) hw hh hk hn.2.1 hn.2.2;have am:=Nd.span_ok hw.1 hh.1 hn;have U:=λ{i d}(hi:l[i]?=some d)=>h.cell hi;have J:∀{u v:Nat},u<gw->v<gh->((Nd.span gw gh ⟨k,x/2^k,y/2^k⟩).has u v↔u/2^k=x/2^k/\v/2^k=y/2^k):=λhu hv=>Nd.has hu hv;have Z:=(J hx hy).2 ⟨rfl,rfl⟩;show Fn _ _ _ _ (λu w'=>∃p:Nat,u=ii p/\s<=p/\p<=t/\(∀d,l[p]?=some d->d.1.toNat/2^k=x/2^k/\d.2.toNat/2^k=y/2^k)/\Gr W w');generalize Nd.span gw gh ⟨k,x/2^k,y/2^k⟩=sp at *;generalize x/2^k=X at *;generalize y/2^k=Y at *;have hr:nb (sp.x0:Int) sp.y0 sp.x1 sp.y1=true:=(lO _ _ _ _).2 (by obtain⟨⟨a1,a2⟩,a3,a4⟩:=am;omega);unfold Rc.cells at ag;obtain⟨lA,lc,O,hL⟩:=h.blk;have aq:dO lA:=hL.someA (by rw[xl];omega);have ae:((eT l).drop ((s:Int).toNat * 2)).take 2=[ii x,ii y]:=by rw[b7];exact mS hc
 have S:=St.start W;refine zI func185 ?_;refine zH (C:=(CA _ _ _ 24 [ii 0,ii 0] [ii X,ii Y])) [20,21] [0,1,2,3,4,5,6,7,8,9,10,11,12,13,14,15,16,17,18,19,20,21] [22] (CA.start (S.gr (Gr.drew _))) ?_;refine zV (λτ wq z=>(O.gr z.st.out)) ?_;refine zV (λτ wq z=>(O.gr z.st.out)) ?_;refine zV (λτ wq z=>(O.gr z.st.out)) ?_;refine zR ?_;refine qo rfl (λτ wq z=>fb xa rfl (jy _) rfl (hL.gr z.st.out) ae rfl rfl) ?_;refine jH rfl rfl (λτ wq z=>(ah wq).mono (λ_ _⟨hv,hg⟩=>⟨hv,z.gr hg⟩)) ?_;refine zR ?_;refine de rfl rfl (λwq z=>kG z Ac rfl) ?_;rintro aD aJ ⟨aw,rfl,_⟩;refine de rfl rfl (λwq z=>kH z (jy _) rfl rfl rfl rfl rfl) ?_;rintro aF aL _;refine zY ?_;rintro aN ao;obtain⟨ar,ab,S⟩:=ao.fin;cases ab
 refine zH (C:=(CA _ _ _ 43 [ii 0,ii 0,ii 0,ii 0] [ii sp.x0,ii sp.y0,ii sp.x1,ii sp.y1])) [14,15] [0,1,2,3,4,5,6,7,8,9,10,11,12,13,14,15] [16] (CA.start (S.gr (Gr.drew _))) ?_;refine zV (λτ wq z=>(O.gr z.st.out)) ?_;refine zV (λτ wq z=>(O.gr z.st.out)) ?_;refine zV (λτ wq z=>(z.st.blk (i:=0) rfl)) ?_;refine jH rfl rfl (λτ wq z=>(ag wq).mono (λ_ _⟨hv,hg⟩=>⟨hv,z.gr hg⟩)) ?_;refine zR ?_;refine de rfl rfl (λwq z=>kG z gE rfl) ?_;rintro aE aK ⟨aa,rfl,_⟩;refine de rfl rfl (λwq z=>kH z (fS _) rfl rfl rfl rfl rfl) ?_;rintro aG aM _;refine zY ?_;rintro aO ap;obtain⟨au,ac,S⟩:=ap.fin;cases ac
 refine zg ?_
 refine dl (λm e w=>∃lo hi:Nat,m=hi-lo/\s<=lo/\lo<=hi/\hi<=t/\(∀d,l[lo]?=some d->d.1.toNat/2^k=X/\d.2.toNat/2^k=Y)/\SL e [(0,pt xb),(11,pt aa),(13,ii lo),(14,ii hi)]/\St No W w [.blk aa 43 [ii sp.x0,ii sp.y0,ii sp.x1,ii sp.y1]]) (t-s)
  ⟨s,t,rfl,om,an,om,λd hd=>(by rw[hc]at hd;cases hd;exact(J hx hy).1 Z),sl,S.sub (.cons_cons _ (.cons _ .slnil))⟩ ?_
 clear S;rintro m e w ⟨lo,hi,rfl,h1,h2,h3,h4,al,S⟩;rw[al.fold];by_cases aB:lo<hi
 ·have em:((lo:Int)+hi+1)/2=(((lo+hi+1)/2:Nat):Int):=om;obtain⟨D,hm⟩:∃q,q=(lo+hi+1)/2:=⟨_,rfl⟩;rw[<-hm]at em;obtain⟨d,hd⟩:∃d,l[D]?=some d:=⟨_,fw om⟩;obtain⟨cx,cy,rfl,ai,aj⟩:=U hd;have I:((eT l).drop ((D:Int).toNat * 2)).take 2=[ii cx,ii cy]:=by rw[b7];exact mS hd
  have L:=λw=>Wb (W:=w) sp.x0 sp.y0 sp.x1 sp.y1 cx cy hr;cases hb:Be sp.x0 sp.y0 sp.x1 sp.y1 cx cy with
  |true =>
   rw[hb]at L;unfold Be at hb;simp only[cM,cT]at hb;have ak:=(J ai aj).1 (by unfold Rc.has;omega);refine zg ?_;rw[em];refine zD [0,1,2,3,4,5,6,7,8] [] ?_;refine zM (λwq z=>(O.gr (S.gr z).out)) ?_;refine zQ ?_;refine fo (λwq z=>fb xa rfl (jy _) rfl (hL.gr (S.gr z).out) I rfl rfl) ?_;refine zP (λwq z=>L wq) ?_;refine zE ?_;intro aH az S;exact⟨hi-D,om,D,hi,rfl,om,om,om,λd' ad=>(by rw[hd]at ad;cases ad;exact ak),sl,S⟩
  |false =>
   rw[hb]at L;have e2:(D:Int)-1=((D-1:Nat):Int):=om;refine zg ?_;rw[em];refine zD [0,1,2,3,4,5,6,7,8] [] ?_;refine zM (λwq z=>(O.gr (S.gr z).out)) ?_;refine zQ ?_;refine fo (λwq z=>fb xa rfl (jy _) rfl (hL.gr (S.gr z).out) I rfl rfl) ?_;refine zP (λwq z=>L wq) ?_;refine zE ?_;intro aI aA S;rw[e2];refine zg ?_;exact⟨D-1-lo,om,lo,D-1,rfl,om,om,om,h4,sl,S⟩
 ·skip;refine zX ?_;exact⟨lo,rfl,h1,om,h4,S.out⟩
end
def tP(F:Nat->Prop)(W:World)(L:List HA)(i j k:Nat)(t:TypeId)(z x:Value)(σ:List (Nat×Value))(w:World):Prop :=
 ∃Q1 Q2,(match σ.lookup i with|none=>Q1=[]|some u=>∃b,u=.pointer (some ⟨b,0,none⟩)/\Q1=[.blk b t [if (σ.lookup k).isSome then x else z]])/\(match σ.lookup j with|none=>Q2=[]|some u=>∃b,u=.pointer (some ⟨b,0,none⟩)/\Q2=[.blk b t [z]])/\St F W w (Q1++(Q2++L))
theorem tP.mid_{A B C:List HA}(S:St F W w (A++(B++C))):St F W w (B++(A++C)):=by
 refine S.perm_ ?_;rw[<-cL,<-cL];exact ft.append_right C
section
variable{L:List HA}{z x:Value}
theorem tP.start(S:St F W w L):tP F W L i j k t z x [] w:=⟨[],[],rfl,rfl,S⟩
theorem tP.st(h:tP F W L i j k t z x σ w):St F W w L:=by
 obtain⟨v,y,_,_,S⟩:=h;have:=S.drop (v++y).length;rwa[<-cL,jE]at this
theorem tP.gr(h:tP F W L i j k t z x σ w)(g:Gr w w'):tP F W L i j k t z x σ w':=by
 obtain⟨v,y,h1,h2,S⟩:=h;exact⟨v,y,h1,h2,S.gr g⟩
section
variable{ps:String}
theorem CZ(h:tP F W L i j k t z x σ w)(hi:σ.lookup i=none)(J:σ.lookup k=none)(y:(j==i)=false)(D:(k==i)=false)(U:∀w,(zeroValue t).run P w=.ok zv w)(O:zv.cells.toList=[z]):gI P e ⟨d,.alloc t,ty,ps,af,none⟩ w (λv w'=>tP F W L i j k t z x ((i,v)::σ) w'):=by
 obtain⟨V,I,h1,h2,S⟩:=h;rw[hi]at h1;subst h1;refine gu rfl (kq (jV U O) S (λb w' g S=>⟨[.blk b t [z]],I,?_,?_,S⟩))
 ·simp only[cZ,fE,D,J];exact⟨b,rfl,rfl⟩
 ·simp only[cZ,y];exact h2
theorem C0(h:tP F W L i j k t z x σ w)(J:σ.lookup j=none)(y:(i==j)=false)(D:(k==j)=false)(U:∀w,(zeroValue t).run P w=.ok zv w)(O:zv.cells.toList=[z]):gI P e ⟨d,.alloc t,ty,ps,af,none⟩ w (λv w'=>tP F W L i j k t z x ((j,v)::σ) w'):=by
 obtain⟨I,V,h1,h2,S⟩:=h;rw[J]at h2;subst h2;refine gu rfl (kq (jV U O) S (λb w' g S=>⟨I,[.blk b t [z]],?_,?_,tP.mid_ (A:=[_]) S⟩))
 ·simp only[cZ,y,D];exact h1
 ·simp only[cZ,fE];exact⟨b,rfl,rfl⟩
theorem Eu{p y:Operand}(h:tP F W L i j k t z x σ w)(hi:σ.lookup i=some (pt b))(V:σ.lookup k=none)(v:(i==k)=false)(D:(j==k)=false)(hz:(sizeOf t).run P w=.ok 1 w)(Z:ev e p=pt b)(hy:fz (ev e y)=some x)(hv:x.oneCell'=true)(I:x.cells=#[x]) :
  gI P e ⟨d,.store t p y,ty,ps,af,none⟩ w (λu w'=>tP F W L i j k t z x ((k,u)::σ) w'):=by
 obtain⟨Q1,J,h1,h2,S⟩:=h;rw[hi,V]at h1;obtain⟨b',U,rfl⟩:=h1;cases U
 refine gu rfl (iy (i:=0) S rfl hz Z hy hv I rfl rfl (λw' O=>⟨[.blk b t [x]],J,?_,?_,O⟩))
 ·simp only[cZ,v,hi,fE];exact⟨b,rfl,rfl⟩
 ·simp only[cZ,D];exact h2
end
theorem tP.ia(h:tP F W L i j k t z x σ w)(hi:σ.lookup i=some u):∃b,u=pt b:=by
 obtain⟨v,y,h1,h2,S⟩:=h;rw[hi]at h1;obtain⟨b,e,_⟩:=h1;exact⟨b,e⟩
theorem tP.ja(h:tP F W L i j k t z x σ w)(v:σ.lookup j=some u):∃b,u=pt b:=by
 obtain⟨y,D,h1,h2,S⟩:=h;rw[v]at h2;obtain⟨b,e,_⟩:=h2;exact⟨b,e⟩
theorem tP.fin(h:tP F W L i j k t z x σ w)(hi:σ.lookup i=some (pt b))(D:σ.lookup j=some (pt c))(I:(σ.lookup k).isSome=true):St F W w (.blk b t [x]::.blk c t [z]::L):=by
 obtain⟨J,O,h1,h2,S⟩:=h;rw[hi,I]at h1;rw[D]at h2;obtain⟨b',v,rfl⟩:=h1;obtain⟨c',y,rfl⟩:=h2;cases v
 cases y
 exact S
end
def GJ(k:Nat)(c d:Int×Int):Prop:=d.1.toNat/2^k=c.1.toNat/2^k/\d.2.toNat/2^k=c.2.toNat/2^k
def AP(f t:Nat)(hide:Nat->Bool)(r:Int):Prop:=(r=-1/\∀i,f<=i->i<=t->hide i=false)\/∃i:Nat,r=i/\(f<=i/\i<=t)/\hide i=true/\∀j,f<=j->j<i->hide j=false
theorem AP.uniq{f t:Nat}{hide:Nat->Bool}{r r':Int}(h:AP f t hide r)(h':AP f t hide r'):r=r':=by
 rcases h with⟨rfl,h⟩|⟨i,rfl,h1,h2,D⟩
 ·rcases h' with⟨rfl,_⟩|⟨j,rfl,y,v,z⟩
  ·rfl
  ·rw[h j y.1 y.2]at v;cases v
 ·rcases h' with⟨rfl,h'⟩|⟨j,rfl,y,v,z⟩
  ·rw[h' i h1.1 h1.2]at h2;cases h2
  ·rcases qG i j with e|e|e
   ·rw[z i h1.1 e]at h2;cases h2
   ·rw[e]
   ·rw[D j y.1 e]at v;cases v
section
variable{yb:Nat}{V:List Int}{l:List (Int × Int)}
theorem UQ(v:vB V)(D:1<=gw)(z:1<=gh){c:Int×Int}(y:mD gw gh c=true):-2147483648<=DV gw gh V k c/\DV gw gh V k c<=2147483647:=by
 have h:=jT.1 y;obtain⟨_,⟨cx,cy,_,_,_,_,e⟩⟩:=Ci (V:=V) D z k (c.1.toNat/2^k) (c.2.toNat/2^k) (sy k om) (sy k om);unfold DV;rw[e];exact v _
theorem WF{c d:Int×Int}(hd:mD gw gh d=true)(h:GJ k c d):yF gw V d<=DV gw gh V k c:=by
 have h1:=jT.1 hd;have:=(I5 (V:=V) (cx:=d.1.toNat) (cy:=d.2.toNat) (gw:=gw) (gh:=gh) om om k).2;unfold DV yF;rw[<-h.1,<-h.2];exact this
theorem Si(c:Int×Int):DV gw gh V 0 c=yF gw V c:=by
 unfold DV yF;rw[kX,ig,ig];rfl
theorem LR{hide:Nat->Bool}{may:Int->Nat->Nat->Bool}{cf:Nat->Int×Int}(f t:Nat)(hft:f<=t+1)(ht:t<l.length)(hB:vB V)(h:Bh W xb yb gw gh V l)(hl:∀i,i<l.length->l[i]?=some (cf i))(hcv:∀k i j p:Nat,i<=j->j<=p->p<l.length->GJ k (cf i) (cf p)->GJ k (cf i) (cf j))(hinj:∀i j,cf i=cf j->i=j)(hf:∀w,Gr W w->∀(z:Int)(i j:Nat),(-2147483648<=z/\z<=2147483647)->i<=t->j<=t->Fn prog fid ([]++[ii z,ii i,ii j]++caps) w (dp (.bool (may z i j)) w))(hs:∀(z:Int)(i j x:Nat),i<=x->x<=j->yF gw V (cf x)<=z->hide x=true->may z i j=true)(he:∀i,may (yF gw V (cf i)) i i=hide i) :
  Fn prog (113) [pt xb,ii f,ii t,.func (.func fid) (([]:List Value).toArray) caps.toArray] W (λu w'=>∃r:Int,u=ii r/\AP f t hide r/\Gr W w'):=by
 have hlen:=h.len;have hw:=h.hw;have hh:=h.hh;have hlv:=lI hw.2 hh.2;obtain⟨lA,lc,hX,hL⟩:=h.blk;have S:=St.start W;refine zI func113 ?_;refine zg ?_
 refine dl (λm e w=>∃i k:Nat,m=(t+1-i)*12+k/\f<=i/\i<=t+1/\k<fW gw gh/\(∀j,f<=j->j<i->hide j=false)/\SL e [(0,pt xb),(1,ii i),(2,ii t),(3,.func (.func fid) (([]:List Value).toArray) caps.toArray),(9,ii k)]/\St No W w []) ((t+1-f)*12+0)
  ⟨f,0,rfl,fK _,hft,om,λj h1 h2=>by omega,sl,S⟩ ?_
 clear S;rintro m e w ⟨i,k,rfl,h1,h2,h3,hno,hsl,S⟩;rw[hsl.fold];by_cases hi:i<=t
 ·have hli:=hl i om;have hgi:=h.hin i _ hli;have hmb:=UQ (V:=V) hB hw.1 hh.1 (k:=k) hgi;refine zK (LQ k i t h3 hi ht hli (h.gr S.out)) ?_;rintro _ w1_ ⟨p,rfl,hp1,hp2,hp3,g1_⟩;have S:=S.gr g1_;refine zg ?_;have hpc:=hp3 _ (hl p om);have hms:=hs (DV gw gh V k (cf i)) i p;have hall:∀x,i<=x->x<=p->yF gw V (cf x)<=DV gw gh V k (cf i):=λx a b=>WF (h.hin x _ (hl x om)) (hcv k i x p a b om hpc)
  have hzero:k=0->p=i/\DV gw gh V k (cf i)=yF gw V (cf i):=λe=>by
   subst e;have hgp:=jT.1 (h.hin p _ (hl p om));have hgi:=jT.1 hgi;have hpc:(cf p).1.toNat/2^0=(cf i).1.toNat/2^0/\(cf p).2.toNat/2^0=(cf i).2.toNat/2^0:=hpc;rw[kX,ig,ig,ig,ig]at hpc;exact⟨hinj _ _ (Prod.ext om om),Si _⟩
  have hff:=hf;have hmost:=λw(g:Gr W w)=>Oo k i h3 hli (h.gr g);generalize DV gw gh V k (cf i)=z at *;have ek:min ((k:Int)+1) (((fW gw gh:Nat):Int)-1)=((min (k+1) (fW gw gh-1):Nat):Int):=om;have hfz:=λw(g:Gr W w)=>hf w g z i p hmb hi hp2;cases hm:may z i p with
  |false =>
   rw[hm]at hfz
   have hno2:∀x,f<=x->x<p+1->hide x=false:=λx a b=>by
    rcases eV x i with c|c
    ·exact hno x a c
    ·cases hx:hide x with
     |false=>rfl
     |true=>rw[hms x c om (hall x c om) hx]at hm;cases hm
   refine zC (hmost _ S.out) ?_;intro w2_ g2_ S;refine zg ?_;refine ju rfl rfl (hfz w2_ S.out) ?_;rintro _ w3_ ⟨rfl,g3_⟩;have S:=S.gr g3_;refine zL (hX.gr S.out) ?_;refine zC (zA (h.pyr.gr S.out)) ?_;intro w4_ g4_ S;refine zg ?_;rw[ek];refine zg ?_;exact⟨(t+1-(p+1))*12+min (k+1) (fW gw gh-1),om,p+1,_,rfl,om,om,om,hno2,sl,S⟩
  |true =>
   rw[hm]at hfz;by_cases hk:k=0
   ·obtain⟨rfl,hz⟩:=hzero hk;rw[hz,he]at hm;refine zC (hmost _ S.out) ?_;intro w5_ g5_ S;refine zg ?_;refine ju rfl rfl (hfz w5_ S.out) ?_;rintro _ w6_ ⟨rfl,g6_⟩;have S:=S.gr g6_;refine zX ?_;exact⟨_,rfl,.inr ⟨p,rfl,⟨h1,hi⟩,hm,hno⟩,S.out⟩
   ·have e2:(k:Int)-1=((k-1:Nat):Int):=om;refine zC (hmost _ S.out) ?_;intro w7_ g7_ S;refine zg ?_;refine ju rfl rfl (hfz w7_ S.out) ?_;rintro _ w8_ ⟨rfl,g8_⟩;have S:=S.gr g8_;refine zg ?_;rw[e2];refine zg ?_;exact⟨(t+1-i)*12+(k-1),om,i,k-1,rfl,h1,h2,om,hno,sl,S⟩
 ·skip;refine zX ?_;exact⟨-1,rfl,.inl ⟨rfl,λj a b=>hno j a om⟩,S.out⟩
end
structure Bi where
 eye:Int
 top:Int
 n:Int
def Bi.over(s:Bi)(z:Int)(i:Nat):Bool:=decide ((z-s.eye)*s.n>(s.top-s.eye)*i)
theorem Bi.ends{s:Bi}(y:0<=s.n){z v:Int}{x:Nat}(h1:i<=x)(h2:x<=j)(D:v<=z)(h:s.over v x=true):(s.over z i||s.over z j)=true:=by
 unfold Bi.over at *;rw[ky];rw[cT]at *;rw[cT];have a:=fu (show v-s.eye<=z-s.eye by omega) y;rcases me 0 (s.top-s.eye)with b|b
 ·have c:=li (show(i:Int)<=x by omega) b;exact .inl om
 ·have c:=li (show(x:Int)<=j by omega) (show 0<=-(s.top-s.eye)by omega);rw[Int.neg_mul,Int.neg_mul]at c;exact .inr om
def UR(gw:Nat)(V:List Int)(ax ay ha bx cy hb:Int):Bi:=⟨yF gw V (rm ax ay (jh ax ay bx cy) 0)+ha,yF gw V (rm ax ay (jh ax ay bx cy) (jh ax ay bx cy).n.toNat)+hb,(jh ax ay bx cy).n⟩
def Oq(gw:Nat)(V:List Int)(ax ay ha bx cy hb:Int)(i:Nat):Bool:=(UR gw V ax ay ha bx cy hb).over (yF gw V (rm ax ay (jh ax ay bx cy) i)) i
def pk(gw gh:Nat)(ax ay ha bx cy hb:Int):Int:=if (mD gw gh (ax,ay)&&mD gw gh (bx,cy))=false then 4 else if (0<=ha/\ha<=1048576)/\0<=hb/\hb<=1048576 then 0 else 8
def JN(gw gh:Nat)(V:List Int)(ax ay ha bx cy hb:Int)(yes:Bool)(ox oy:Int):Prop :=
 (pk gw gh ax ay ha bx cy hb≠0/\yes=false/\ox=0/\oy=0)\/(pk gw gh ax ay ha bx cy hb=0/\∃r,AP 1 ((jh ax ay bx cy).n.toNat-1) (Oq gw V ax ay ha bx cy hb) r/\((r<0/\yes=true/\ox=0/\oy=0)\/(0<=r/\yes=false/\(ox,oy)=rm ax ay (jh ax ay bx cy) r.toNat)))
section
variable{yb:Nat}{V:List Int}
theorem Sj(x y:Int)(U:1<=gw/\gw<=1024)(O:1<=gh/\gh<=1024)(hc:mD gw gh (x,y)=false)(hP:iM W yb gw gh V) :
  Fn prog 182 [pt yb,ii 0,.agg #[ii x,ii y]] W (dp (.tuple #[.agg #[ii 0,ii 0],ii 4]) W):=by
 obtain⟨lA,lc,As,cs,h1,h2,h3⟩:=hP;have hl:=lI U.2 O.2;have J:dO lA:=h2.someA (by rw[Cq];omega);have L:=E3 (gw:=gw) (gh:=gh) (As:=As) (cs:=cs) (show 0<fW gw gh by omega);rw[iR U.1,iR O.1]at L
 have v:x<0\/(0<=x/\x>=gw)\/((0<=x/\x<gw)/\(y<0\/(0<=y/\y>=gh))):=by
  have:=mt (jT (gw:=gw) (gh:=gh) (c:=(x,y))).2 (by rw[hc];simp);dsimp only at this;omega
 have S:=St.start W;rcases v with v|v|⟨v,I|I⟩
 all_goals
  refine zI func182 ?_;refine zN ?_;intro Z ae ab S;refine zN ?_;intro D ag ac S;iterate 5 refine z ?_
  first|refine dU (ff (b:=true) rfl (fD om)) ?_|refine dU (ff (b:=false) rfl (iO om)) ?_|refine dU (jx rfl) ?_
  iterate 5 refine z ?_
  first|refine eD rfl ?_|(refine dr rfl ?_;refine dH (cV kV rfl rfl (h1.gr S.out) rfl) ?_)
  refine z ?_;first|refine eD rfl ?_|(refine dr rfl ?_;(first|refine dU (ff (b:=true) rfl (fD om)) ?_|refine dU (ff (b:=false) rfl (iO om)) ?_|refine dU (jx rfl) ?_))
  iterate 5 refine z ?_
  refine dH (cV kV rfl rfl (h1.gr S.out) rfl) ?_;refine zg ?_;refine ZU (h2.gr S.out) L ?_;refine zN ?_;intro aa ah ad S;refine zS ?_;intro ai S;exact pG S ⟨rfl,S.out⟩
def LS(gw gh:Nat)(x y:Int):Int:=if mD gw gh (x,y)=true then 0 else 4
theorem LT(x y:Int)(z:1<=gw/\gw<=1024)(v:1<=gh/\gh<=1024):∃I:RG,∀W,iM W yb gw gh V ->
  Fn prog 182 [pt yb,ii 0,.agg #[ii x,ii y]] W (dp (.tuple #[.agg #[ii I.lo,ii I.hi],ii (LS gw gh x y)]) W):=by
 have O:=lI z.2 v.2;unfold LS;by_cases h:mD gw gh (x,y)=true
 ·rw[a7 h];have hi:=jT.1 h;dsimp only at hi;obtain⟨X,J⟩:=cJ hi.1;obtain⟨Y,L⟩:=cJ hi.2.2.1;subst J L;exact⟨pm gw gh V 0 X Y,λW D=>Cr 0 X Y z v om (by rw[iR z.1];omega) (by rw[iR v.1];omega) D⟩
 ·rw[a8 h];exact⟨⟨0,0⟩,λW D=>Sj x y z v (by simpa using h) D⟩
theorem AQ(n:Int):Fn prog 111 [ii n] W (dp (.bool (decide (0<=n)&&decide (n<=1048576))) W):=by
 have S:=St.start W;by_cases h:0<=n
 ·rw[fD h,tR];by_cases h2:n<=1048576
  all_goals
   refine zI func111 ?_;refine zX ?_;exact⟨by simp[h2],S.out⟩
 ·rw[iO h,nz];refine zI func111 ?_;exact zZ
theorem US{v O:Nat}{s:Bi}(z:Int)(i j:Nat)(hz:-17179869184<=z/\z<=17179869184)(J:(-17179869184<=s.eye/\s.eye<=17179869184)/\-17179869184<=s.top/\s.top<=17179869184)(hn:1<=s.n/\s.n<=1024)(I:eL W v 2 [ii s.eye])(L:eL W tb 2 [ii s.top])(D:eL W O 3 [ii s.n])(hi:i<=s.n)(hj:j<=s.n) :
  Fn prog 114 ([]++[ii z,ii i,ii j]++[pt v,pt tb,pt O]) W (dp (.bool (s.over z i||s.over z j)) W):=by
 have h1:=λw(k:Nat)(h:k<=s.n)=>UL (W:=w) z s.eye s.top k s.n hz J.1 J.2 hn om;have h2:=λw=>h1 w i hi;have y:=λw=>h1 w j hj;have U:∀k:Nat,decide ((z-s.eye)*s.n>(s.top-s.eye)*k)=s.over z k:=λk=>rfl;rw[U]at h2 y;generalize s.over z i=A at *;generalize s.over z j=B at *;have S:=St.start W;cases A
 all_goals
  refine zI func114 ?_;repeat refine dm ?_
  refine dz ?_;refine dU (jx rfl) ?_;first|refine eF ?_|(refine di ?_;show CW _ _ _ _ _ _)|refine di ?_
  repeat refine dm ?_
  refine dz ?_;refine dU (jx rfl) ?_;refine dH (cV iY rfl rfl (I.gr S.out) rfl) ?_;refine dH (cV iY rfl rfl (L.gr S.out) rfl) ?_;refine dU (jx rfl) ?_;refine dH (cV dB rfl rfl (D.gr S.out) rfl) ?_;refine zC (h2 W) ?_;intro aa V S;refine zL (I.gr S.out) ?_;refine zL (L.gr S.out) ?_;refine zL (D.gr S.out) ?_;refine zC (y _) ?_;intro ab Z S;exact zZ
theorem GK(ax ay bx cy:Int)(hw:1<=gw/\gw<=1024)(hh:1<=gh/\gh<=1024)(hP:iM W yb gw gh V) :
  Fn prog 110 [pt yb,.agg #[ii ax,ii ay],.agg #[ii bx,ii cy]] W
   (λu w'=>((mD gw gh (ax,ay)&&mD gw gh (bx,cy))=false/\u=.tuple #[.pointer none,ii 4]/\Gr W w') \/
    (mD gw gh (ax,ay)=true/\mD gw gh (bx,cy)=true/\∃xb lA lc,u=.tuple #[pt xb,ii 0]/\St No W w' [.blk xb 210 [pt yb,ii gw,ii gh,.slice lA (vX ax ay bx cy).length lc],.row 24 2 lA (vX ax ay bx cy).length lc (eT (vX ax ay bx cy))])):=by
 obtain⟨ra,y⟩:=LT (yb:=yb) (V:=V) ax ay hw hh;obtain⟨rb,z⟩:=LT (yb:=yb) (V:=V) bx cy hw hh;unfold LS at y z;have D:=λw ha hb=>On (W:=w) (gw:=gw) (gh:=gh) ax ay bx cy ⟨hw.2,hh.2⟩ ha hb;rw[<-AO]at D;generalize mD gw gh (ax,ay)=A at *;generalize mD gw gh (bx,cy)=B at *;generalize vX ax ay bx cy=l at *;have S:=St.start W;refine zI func110 ?_;refine zN ?_;intro O aV aS S;refine zN ?_;intro U aW aT S;refine zN ?_;intro J aX aU S;refine zC (tJ hw hh (hP.gr S.out)) ?_;refine zS ?_;intro aY S;refine dU (Ck qS jy zeroValue313 rfl rfl) ?_;refine zg ?_
 refine dl (λm e w=>∃k:Nat,m=2-k/\k<=2/\((1<=k->A=true)/\(2<=k->B=true))/\SL e [(0,pt yb),(4,pt O),(5,pt U),(8,pt J),(31,.agg #[ii ax,ii ay,ii bx,ii cy]),(32,ii k)] /\
   St No W w [.blk J 210 [pt yb,ii gw,ii gh,.slice none 0 0],.blk U 24 [ii bx,ii cy],.blk O 24 [ii ax,ii ay]]) 2
  ⟨0,rfl,om,⟨λh=>by omega,λh=>by omega⟩,sl,S⟩ ?_
 clear S;rintro m e w ⟨k,rfl,hk,L,ae,S⟩;rw[ae.fold];rcases (show k=0\/k=1\/k=2 by omega)with rfl|rfl|rfl
 ·cases A
  ·simp only[m7,pW]at y;refine zg ?_;refine dU (rR qS xa jy rfl rfl rfl om om rfl) ?_;refine zN ?_;intro I au ag S;refine zS ?_;intro av S;refine zC (y _ (hP.gr S.out)) ?_;intro aw ah S;refine zN ?_;intro v az ai S;refine zS ?_;intro aA S;exact nd rfl rfl (.inl ⟨rfl,rfl,S.out⟩)
  ·simp only[rq]at y;refine zg ?_;refine dU (rR qS xa jy rfl rfl rfl om om rfl) ?_;refine zN ?_;intro I aB aj S;refine zS ?_;intro aC S;refine zC (y _ (hP.gr S.out)) ?_;intro aD ak S;refine zN ?_;intro v aE al S;refine zS ?_;intro aF S;exact⟨1,om,1,om,om,⟨λ_=>rfl,λh=>by omega⟩,sl,S.drop 2⟩
 ·cases B
  ·simp only[m7,pW]at z;refine zg ?_;refine dU (rR qS xa jy rfl rfl rfl om om rfl) ?_;refine zN ?_;intro I aG am S;refine zS ?_;intro aH S;refine zC (z _ (hP.gr S.out)) ?_;intro aI an S;refine zN ?_;intro v aJ ao S;refine zS ?_;intro aK S;exact nd rfl rfl (.inl ⟨by rw[Bool.and_false],rfl,S.out⟩)
  ·simp only[rq]at z;refine zg ?_;refine dU (rR qS xa jy rfl rfl rfl om om rfl) ?_;refine zN ?_;intro I aL ap S;refine zS ?_;intro aM S;refine zC (z _ (hP.gr S.out)) ?_;intro aN aq S;refine zN ?_;intro v aO ar S;refine zS ?_;intro aP S;exact⟨0,om,2,om,om,⟨λ_=>L.1 (fK _),λ_=>rfl⟩,sl,S.drop 2⟩
 ·obtain rfl:=L.1 om;obtain rfl:=L.2 om;refine zK (D w rfl rfl) ?_;rintro _ aQ ⟨ac,ad,rfl,aa,ab,Z⟩;have S:=S.pushRow aa ab Z;refine zS ?_;intro aR S;exact nd rfl rfl (.inr ⟨rfl,rfl,J,ac,ad,rfl,(S.swap.sub (.cons_cons _ (.cons_cons _ (.cons _ (.cons _ .slnil)))))⟩)
theorem JO(ax ay D bx cy L:Int)(hw:1<=gw/\gw<=1024)(hh:1<=gh/\gh<=1024)(hc:pk gw gh ax ay D bx cy L≠0)(O:iM W yb gw gh V) :
  Fn prog 58 [pt yb,.agg #[ii ax,ii ay],ii D,.agg #[ii bx,ii cy],ii L] W (dp (.tuple #[.bool false,.agg #[ii 0,ii 0],ii (pk gw gh ax ay D bx cy L)]) W):=by
 have I:=λw=>AQ (W:=w) D;have ad:=λw=>AQ (W:=w) L;unfold pk at hc ⊢;by_cases y:(mD gw gh (ax,ay)&&mD gw gh (bx,cy))=false
 ·rw[a7 y];have J:=λw(O:iM w yb gw gh V)=>(GK (W:=w) (yb:=yb) (V:=V) ax ay bx cy hw hh O).mono (R':=dp (.tuple #[.pointer none,ii 4]) w) λu w' h=>h.elim (λh=>h.2) (λh=>by rw[h.1,h.2.1]at y;cases y)
  have S:=St.start W;refine zI func58 ?_;refine zN ?_;intro U ae aa S;refine zN ?_;intro Z ag ab S;refine zN ?_;intro v ah ac S;refine zC (J _ (O.gr S.out)) ?_;intro ai ao S;refine zS ?_;intro aj S;exact tm xa rfl (jy _) rfl (S.blk (i:=0) rfl) rfl rfl rfl rfl ⟨rfl,S.out⟩
 ·have J:=λw(O:iM w yb gw gh V)=>(GK (W:=w) (yb:=yb) (V:=V) ax ay bx cy hw hh O).mono (R':=λu w'=>∃xb,u=.tuple #[pt xb,ii 0]/\Gr w w') λu w' h=>h.elim (λh=>absurd h.1 y) (λ⟨_,_,xb,lA,lc,hu,S⟩=>⟨xb,hu,S.out⟩);rw[a8 y]at hc ⊢;have al:¬((0<=D/\D<=1048576)/\0<=L/\L<=1048576):=λh=>hc (a7 h);rw[a8 al];have S:=St.start W;by_cases h1:0<=D/\D<=1048576
  ·have h2:(decide (0<=L)&&decide (L<=1048576))=false:=by
    rw[il,d9,d9];omega
   rw[fD h1.1,fD h1.2]at I;rw[h2]at ad;refine zI func58 ?_;refine zN ?_;intro U ae aa S;refine zN ?_;intro Z ag ab S;refine zN ?_;intro v ah ac S;refine zK (J _ (O.gr S.out)) ?_;rintro _ ai ⟨xb,rfl,g9⟩;have S:=S.gr g9;refine zC (I _) ?_;intro aj ap S;iterate 3 refine z ?_
   refine dr rfl ?_;refine eY rfl (ad aj) ?_;rintro _ am ⟨rfl,ak⟩;have S:=S.gr ak;refine zS ?_;intro an S;exact tm xa rfl (jy _) rfl (S.blk (i:=0) rfl) rfl rfl rfl rfl ⟨rfl,S.out⟩
  ·have h2:(decide (0<=D)&&decide (D<=1048576))=false:=by
    rw[il,d9,d9];omega
   rw[h2]at I;refine zI func58 ?_;refine zN ?_;intro U ae aa S;refine zN ?_;intro Z ag ab S;refine zN ?_;intro v ah ac S;refine zK (J _ (O.gr S.out)) ?_;rintro _ ai ⟨xb,rfl,g9⟩;have S:=S.gr g9;refine zC (I _) ?_;refine zS ?_;intro am S;exact tm xa rfl (jy _) rfl (S.blk (i:=0) rfl) rfl rfl rfl rfl ⟨rfl,S.out⟩
theorem DW{c d:Int×Int}(h1:0<=d.1)(h2:0<=d.2):Be ((c.1.toNat/2^k*2^k:Nat):Int) ((c.2.toNat/2^k*2^k:Nat):Int) (((c.1.toNat/2^k+1)*2^k-1:Nat):Int) (((c.2.toNat/2^k+1)*2^k-1:Nat):Int) d.1 d.2=true↔GJ k c d:=by
 have y:0<2^k:=ic om;unfold Be GJ;simp only[cM,cT];rw[E7 y,E7 y];have v:=cX (c.1.toNat/2^k) (2^k);have a2:=cX (c.2.toNat/2^k) (2^k);simp only[Nat.succ_eq_add_one]at v a2;rw[v,a2];generalize c.1.toNat/2^k*2^k=X at *;generalize c.2.toNat/2^k*2^k=Y at *;generalize 2^k=q at *;omega
theorem UT(v:vB V)(c:Int×Int):-2147483648<=yF gw V c/\yF gw V c<=2147483647:=v _
theorem At(ax ay ha bx cy hb:Int)(hB:vB V)(hw:1<=gw/\gw<=1024)(hh:1<=gh/\gh<=1024)(hP:iM W yb gw gh V) :
  Fn prog 58 [pt yb,.agg #[ii ax,ii ay],ii ha,.agg #[ii bx,ii cy],ii hb] W
   (λu w'=>∃yes ox oy,u=.tuple #[.bool yes,.agg #[ii ox,ii oy],ii (pk gw gh ax ay ha bx cy hb)]/\JN gw gh V ax ay ha bx cy hb yes ox oy/\Gr W w'):=by
 by_cases hc:pk gw gh ax ay ha bx cy hb=0
 ·rw[hc]
  have hc0:=hc
  unfold pk at hc
  by_cases hAB:(mD gw gh (ax,ay)&&mD gw gh (bx,cy))=false
  ·rw[a7 hAB]at hc;cases hc
  rw[a8 hAB]at hc
  have hht:(0<=ha/\ha<=1048576)/\0<=hb/\hb<=1048576:=by
   by_cases h:(0<=ha/\ha<=1048576)/\0<=hb/\hb<=1048576
   ·exact h
   ·rw[a8 h]at hc;cases hc
  rw[Bool.not_eq_false,cM]at hAB
  have hof:=λw(hP:iM w yb gw gh V)=>(GK (W:=w) (yb:=yb) (V:=V) ax ay bx cy hw hh hP).mono (R':=λu w'=>∃xb lA lc,u=.tuple #[pt xb,ii 0]/\St No w w' [.blk xb 210 [pt yb,ii gw,ii gh,.slice lA (vX ax ay bx cy).length lc],.row 24 2 lA (vX ax ay bx cy).length lc (eT (vX ax ay bx cy))]) λu w' h=>h.elim (λh=>by rw[hAB.1,hAB.2]at h;cases h.1) (λh=>h.2.2)
  have hma:=λw=>AQ (W:=w) ha
  have hmb:=λw=>AQ (W:=w) hb
  rw[fD hht.1.1,fD hht.1.2]at hma
  rw[fD hht.2.1,fD hht.2.2]at hmb
  have hcf:=λi h=>UO (ax:=ax) (ay:=ay) (bx:=bx) (cy:=cy) (i:=i) h
  have hin:=UP hAB.1 hAB.2
  have hbt:=λi j k h1 h2 x0 y0 x1 y1=>UM ax ay bx cy (i:=i) (j:=j) (k:=k) h1 h2 (x0:=x0) (y0:=y0) (x1:=x1) (y1:=y1)
  have hij:=λi j=>UN ax ay bx cy (i:=i) (j:=j)
  have hsr:∀yes ox oy,(∃r,AP 1 ((jh ax ay bx cy).n.toNat-1) (Oq gw V ax ay ha bx cy hb) r/\((r<0/\yes=true/\ox=0/\oy=0)\/(0<=r/\yes=false/\(ox,oy)=rm ax ay (jh ax ay bx cy) r.toNat)))->JN gw gh V ax ay ha bx cy hb yes ox oy:=λyes ox oy h=>.inr ⟨hc0,h⟩
  have hll:=AO ax ay bx cy
  unfold Oq UR at hsr
  have hnn:0<=(jh ax ay bx cy).n:=by obtain⟨N,M,eN,_⟩:=Js hAB.1 hAB.2 rfl;omega
  obtain⟨n,hn⟩:=cJ hnn
  rw[hn]at hll hin hsr
  rw[b7]at hll hin hsr
  have hvb:=λi=>UT (gw:=gw) hB (rm ax ay (jh ax ay bx cy) i)
  generalize rm ax ay (jh ax ay bx cy)=cf at *
  generalize vX ax ay bx cy=l at *
  have hn10:n<1024:=om
  have en:((n+1:Nat):Int)-1=n:=om
  obtain⟨ln,hls⟩:∃s:Bi,(⟨yF gw V (cf 0)+ha,yF gw V (cf n)+hb,(n:Int)⟩:Bi)=s:=⟨_,rfl⟩
  rw[hls]at hsr
  have hle:ln.eye=yF gw V (cf 0)+ha:=by rw[<-hls]
  have hlt:ln.top=yF gw V (cf n)+hb:=by rw[<-hls]
  have hlq:ln.n=n:=by rw[<-hls]
  have hle2:-17179869184<=ln.eye/\ln.eye<=17179869184:=by have:=hvb 0;omega
  have hlt2:-17179869184<=ln.top/\ln.top<=17179869184:=by have:=hvb n;omega
  rw[hll]at hof
  refine yI func58 ?_
  refine yA ?_
  intro b_a b_b b_res _ S
  refine zK (hof _ (hP.gr S.out)) ?_
  rintro _ w7_ ⟨xb,A_l,c_l,rfl,S2⟩
  have S:=S.app S2
  refine EO hma ?_
  intro w8_ S
  iterate 3 refine z ?_
  refine dr rfl ?_
  refine eY rfl (hmb w8_) ?_
  rintro _ w9_ ⟨rfl,g9_⟩
  have S:=S.gr g9_
  refine zg ?_
  have hway:∀{w T},St No W w (HA.blk xb 210 [pt yb,ii gw,ii gh,.slice A_l (n+1) c_l]::.row 24 2 A_l (n+1) c_l (eT l)::T)->Bh w xb yb gw gh V l:=λS=>⟨⟨A_l,c_l,hll▸S.blk (i:=0) rfl,S.rd (i:=1) rfl⟩,hP.gr S.out,λi c hc=>by
   have hi:=(dq.1 hc).1
   rw[hcf i hi]at hc
   cases hc
   exact hin.1 i hi,hw,hh,om⟩
  by_cases h0:n=0
  ·subst h0
   refine yA ?_
   intro _ _ S
   exact tm xa rfl (jy _) rfl (S.blk (i:=3) rfl) rfl rfl rfl rfl ⟨true,0,0,rfl,hsr _ _ _ ⟨-1,.inl ⟨rfl,λi h1 h2=>by omega⟩,.inl ⟨om,rfl,rfl,rfl⟩⟩,S.out⟩
  ·skip
   refine yA ?_
   rw[en]
   intro b_n _ S
   refine gP (M:=λe w=>∃eb tb:Nat,SL e [(11,pt b_res),(13,pt xb),(15,pt b_n),(16,pt eb),(17,pt tb)]/\St No W w [.blk eb 2 [ii ln.eye],.blk tb 2 [ii ln.top],.blk b_n 3 [ii n],.blk xb 210 [pt yb,ii gw,ii gh,.slice A_l (n+1) c_l],.row 24 2 A_l (n+1) c_l (eT l),.blk b_res 24 [ii 0,ii 0],.blk b_b 24 [ii bx,ii cy],.blk b_a 24 [ii ax,ii ay]]) ?_ ?_
   ·have hc0':=hcf 0 om
    have hcn':=hcf n om
    have hb0:=hvb 0
    have hbn:=hvb n
    refine zc ?_
    refine nI (C:=(tP No W [.blk b_n 3 [ii n],.blk xb 210 [pt yb,ii gw,ii gh,.slice A_l (n+1) c_l],.row 24 2 A_l (n+1) c_l (eT l),.blk b_res 24 [ii 0,ii 0],.blk b_b 24 [ii bx,ii cy],.blk b_a 24 [ii ax,ii ay]] 9 10 11 2 (ii 0) (ii ln.eye))) [9,10,11] (.one 0 (.one 1 (.one 2 (.one 3 (.one 4 (.one 5 (.one 6 (.one 7 (.one 8 (.two 9 (.one 10 (.one 11 .nil)) 10 (.one 9 (.one 11 .nil)))))))))))) [12] (by kernel_rfl) (by kernel_rfl) (tP.start (S.gr (Gr.drew _))) ?_
    simp only[qK,iS,dK,dR]
    refine zW ?_
    refine ul rfl rfl (λτ wq hq=>(Is 0 hc0' (hway ((tP.st hq).drop 1))).mono (λ_ _⟨hv,hg⟩=>⟨hv,tP.gr hq hg⟩)) ?_
    refine zW ?_
    rw[<-hle]
    refine zU (λτ wq hq=>((tP.st hq).blk (i:=0) rfl)) ?_
    refine zW ?_
    refine ul rfl rfl (λτ wq hq=>(Is n hcn' (hway ((tP.st hq).drop 1))).mono (λ_ _⟨hv,hg⟩=>⟨hv,tP.gr hq hg⟩)) ?_
    refine zW ?_
    rw[<-hlt]
    refine zW ?_
    refine nf ?_ ?_
    ·refine dC rfl rfl (λwq hq=>CZ hq rfl rfl rfl rfl pJ rfl) ?_
     rintro v9 w9 h9
     obtain⟨b9,rfl⟩:=h9.ia rfl
     refine zW ?_
     refine dC rfl rfl (λwq hq=>C0 hq rfl rfl rfl pJ rfl) ?_
     rintro v10 w10 h10
     obtain⟨b10,rfl⟩:=h10.ja rfl
     refine zW ?_
     refine dC rfl rfl (λwq hq=>Eu hq rfl rfl rfl rfl (cR _) rfl rfl rfl rfl) ?_
     rintro v11 w11 h11
     refine zW ?_
     refine jm ?_
     rintro wz hz
     have S:=tP.fin hz rfl rfl rfl
     refine yA ?_
     intro _ S
     exact⟨_,_,sl,S⟩
    ·refine dC rfl rfl (λwq hq=>C0 hq rfl rfl rfl pJ rfl) ?_
     rintro v10 w10 h10
     obtain⟨b10,rfl⟩:=h10.ja rfl
     refine zW ?_
     refine dC rfl rfl (λwq hq=>CZ hq rfl rfl rfl rfl pJ rfl) ?_
     rintro v9 w9 h9
     obtain⟨b9,rfl⟩:=h9.ia rfl
     refine zW ?_
     refine dC rfl rfl (λwq hq=>Eu hq rfl rfl rfl rfl (cR _) rfl rfl rfl rfl) ?_
     rintro v11 w11 h11
     refine zW ?_
     refine jm ?_
     rintro wz hz
     have S:=tP.fin hz rfl rfl rfl
     refine zS ?_
     intro w20_ S
     exact⟨_,_,sl,S⟩
   ·rintro e9 w9 ⟨eb,tb,hsl,S⟩
    rw[hsl.fold]
    have en2:(n:Int)-1=((n-1:Nat):Int):=om
    have hfi:=LR (W:=w9) (hide:=λi=>ln.over (yF gw V (cf i)) i) (may:=λz i j=>ln.over z i||ln.over z j) 1 (n-1) om om hB (hway (S.drop 3)) hcf
     (λk i j p h1 h2 hp hs=>by
      have g:∀i,i<=p->0<=(cf i).1/\0<=(cf i).2:=λi hi=>by
       have:=jT.1 (hin.1 i om)
       omega
      exact(DW (g j h2).1 (g j h2).2).1 (hbt i j p h1 h2 _ _ _ _ ((DW (g i om).1 (g i om).2).2 ⟨rfl,rfl⟩) ((DW (g p (fK _)).1 (g p (fK _)).2).2 hs))) hij
     (λw' g z i j hz hi hj=>US z i j om ⟨hle2,hlt2⟩ om ((S.gr g).blk (i:=0) rfl) ((S.gr g).blk (i:=1) rfl) (hlq▸(S.gr g).blk (i:=2) rfl) om om)
     (λz i j x h1 h2 h3 h4=>Bi.ends om h1 h2 h3 h4) (λi=>Bool.or_self _)
    refine zg ?_
    rw[en2]
    refine zK (hfi) ?_
    rintro _ w21_ ⟨r,rfl,hF,g10⟩
    have S:=S.gr g10
    refine zg ?_
    have sa_l:dO A_l:=(S.row (i:=4) rfl).someA om
    have hF2:=hF
    rcases hF with⟨rfl,_⟩|⟨i,rfl,hi,_⟩
    ·skip
     refine yA ?_
     intro _ S
     exact tm xa rfl (jy _) rfl (S.blk (i:=5) rfl) rfl rfl rfl rfl ⟨true,0,0,rfl,hsr _ _ _ ⟨-1,hF2,.inl ⟨om,rfl,rfl,rfl⟩⟩,S.out⟩
    ·have hget:((eT l).drop ((i:Int).toNat * 2)).take 2=[ii (cf i).1,ii (cf i).2]:=by rw[b7];exact mS (hcf i om)
     refine zD [0,1,2,3,4,5,6,7] [8,9] ?_
     refine fo (λwq hq=>fb xa rfl (jy _) rfl ((S.gr hq).rd (i:=4) rfl) hget rfl rfl) ?_
     refine zE ?_
     refine zS ?_
     intro w24_ S
     exact tm xa rfl (jy _) rfl (S.blk (i:=5) rfl) rfl rfl rfl rfl ⟨false,(cf i).1,(cf i).2,rfl,hsr _ _ _ ⟨i,hF2,.inr ⟨om,rfl,by rw[b7]⟩⟩,S.out⟩
 ·exact(JO ax ay ha bx cy hb hw hh hc hP).mono λu w'⟨hu,g⟩=>⟨false,0,0,hu,.inl ⟨hc,rfl,rfl,rfl⟩,g⟩
end
section
variable{cap lb:Nat}{cs:Nat->Nat}{L:List HA}
theorem LV(U:vB (dw gw gh c0))(L:vB (dw gw gh cc))(D:x0<=x1/\x1<gw)(I:y0<=y1/\y1<gh)(O:∀x y,x<gw->y<gh->¬((x0<=x/\x<=x1)/\y0<=y/\y<=y1)->c0 (y*gw+x)=cc (y*gw+x))(S:St F W w (.grid p gw gh cc A cap bs Rs::.blk lb 188 [pt p,pt tb,pt pb] ::
   .blk pb 312 [.slice lA (fW gw gh) lc]::.row 389 3 lA (fW gw gh) lc (ut (fW gw gh) gw gh As cs)::.pfam 158 2 (fW gw gh) As (mG gw gh) cs (wX gw gh (dw gw gh c0)) ::
   .blk tb 293 [ii gw,ii gh,.slice A1 ((gh+1)*(gw+1)) c1]::.row 2 1 A1 ((gh+1)*(gw+1)) c1 (fj ((gh+1)*(gw+1)) (lk gw (dw gw gh c0)))::tl)) :
  Fn prog 398 [pt lb,.agg #[ii x0,ii y0,ii x1,ii y1]] w (λv w'=>∃tb A1 c1,v=ii 0 /\
   St F W w' (.grid p gw gh cc A cap bs Rs::.blk lb 188 [pt p,pt tb,pt pb] ::
   .blk pb 312 [.slice lA (fW gw gh) lc]::.row 389 3 lA (fW gw gh) lc (ut (fW gw gh) gw gh As cs)::.pfam 158 2 (fW gw gh) As (mG gw gh) cs (wX gw gh (dw gw gh cc)) ::
   .blk tb 293 [ii gw,ii gh,.slice A1 ((gh+1)*(gw+1)) c1]::.row 2 1 A1 ((gh+1)*(gw+1)) c1 (fj ((gh+1)*(gw+1)) (lk gw (dw gw gh cc)))::tl)):=by
 by_cases z:gw*gh<8*((y1+1-y0)*(x1+1-x0))
 ·refine(Nv L D I z (λx y D I V=>?_) S).mono λv w'⟨tb,A1,c1,J,S⟩=>⟨tb,A1,c1,J,(S.pick 9 [7,8,2,3,4,5,6,0,1] rfl rfl rfl).drop 2⟩;rw[mF,mF,O x y D I V]
 ·exact(LN U L D I z O S).mono λv w'⟨J,S⟩=>⟨_,_,_,J,S⟩
theorem GO(hi:gi L i=some h)(h':HA):∃L',j7 L i h'=some L':=by
 induction L generalizing i with
 |nil=>cases hi
 |cons a r ih =>
  cases i with
  |zero=>exact⟨_,rfl⟩
  |succ i =>
   obtain⟨L',e⟩:=ih (i:=i) hi;exact⟨a::L',by show(match j7 r i h' with|some s=>some (a::s)|none=>none)=_;rw[e]⟩
theorem GP:∀{L L':List HA}{i:Nat}{h:HA},gi L i=some h->j7 L i h=some L'->L'=L
 |[],_,_,_,hi,_=>by cases hi
 |a::r,L',0,h,hi,v=>by cases hi;cases v;rfl
 |a::r,L',i+1,h,hi,v=>by
  obtain⟨s,e⟩:=GO (L:=r) (i:=i) hi h
  have:=GP (L:=r) hi e;subst this;have v:(match j7 s i h with|some s=>some (a::s)|none=>none)=some L':=v;rw[e]at v;exact(Option.some.inj v).symm
theorem Oy(U:x1<gw)(V:y1<gh)(S:St F W w L)(hi:gi L i=some (.grid p gw gh cc A cap bs Rs))(Z:uM w x0 y0 x1 y1 n k1 k2 B1 B2 V1 V2)(J:∀g,jv B2 g->¬lH (cU gw*cU gh) p A bs Rs g) :
  Fn prog 397 [pt p,vg x0 y0 x1 y1 n k1 k2 B1 B2] w (λv w'=>∃c2 Rs2 y,(c2=im gw V2 x0 y0 x1 y1 cc\/(c2=cc/\fi gw cc x0 y0 (x1+1-x0) (y1+1-y0)≠V1))/\j7 L i (.grid p gw gh c2 A cap bs Rs2)=some y/\St F W w' y):=by
 refine(Q8 U V (S.grid hi) Z J).mono λv w' h=>?_;rcases h with⟨_,_,Rs2,D,z,I⟩|⟨O,_,g⟩
 ·obtain⟨y,e⟩:=GO hi (.grid p gw gh (im gw V2 x0 y0 x1 y1 cc) A cap bs Rs2);exact⟨_,Rs2,y,.inl rfl,e,S.set hi e z (λg h=>.inl h) D I⟩
 ·obtain⟨y,e⟩:=GO hi (.grid p gw gh cc A cap bs Rs);obtain rfl:y=L:=GP hi e;exact⟨_,Rs,y,.inr ⟨rfl,O⟩,e,S.gr g⟩
theorem GQ(J:s.ok)(U:0<=s.stamp/\s.stamp<1000)(L:uM w x0 y0 x1 y1 n k1 k2 B1 B2 V1 V2)(O:x1<s.gw)(V:y1<s.gh)(hB:vB (dw s.gw s.gh (im s.gw V2 x0 y0 x1 y1 s.cc)))(S:St F W w (s.L++(.row 2 1 B2 n k2 (cY V2)::.row 2 1 B1 n k1 (cY V1)::tl))) :
  Fn prog 392 [pt s.sb,vg x0 y0 x1 y1 n k1 k2 B1 B2] w (λv w'=>v=.tuple #[]/\∃tb A1 c1 Rs c2,(c2=im s.gw V2 x0 y0 x1 y1 s.cc\/(c2=s.cc/\fi s.gw s.cc x0 y0 (x1+1-x0) (y1+1-y0)≠V1))/\vB (dw s.gw s.gh c2) /\
   St F W w' ({ s with tb:=tb,A1:=A1,c1:=c1,Rs:=Rs,cc:=c2,stamp:=s.stamp+1 }.L++(.row 2 1 B2 n k2 (cY V2)::.row 2 1 B1 n k1 (cY V1)::tl))):=by
 have h0:=J.hB;clear J;obtain⟨sb,p,cap,pp,lb,tb,yb,gw,gh,done,A,A1,lA,pA,ov,c1,lc,pc,bs,Rs,cc,As,cs,l,stamp⟩:=s;have hn:=L.pos;have aa:0<=stamp/\stamp<1000:=U;unfold vg;refine zI func392 ?_;refine zN ?_;intro Z ah ac S;refine zF [0,1,2,3,4] [5] ?_;intro ai ad S;refine zK (Oy (i:=2) O V S rfl { L with r1:=S.rd (i:=13) rfl,r2:=S.rd (i:=12) rfl } (λg h2 h3=>S.sep.ap (i:=2) (j:=12) rfl rfl rfl g h3 h2)) ?_;rintro _ aj ⟨c2,Rs2,L2,D,e2,S⟩;obtain rfl:=Option.some.inj e2;have I:vB (dw gw gh c2):=D.elim (λe=>e▸hB) (λe=>e.1▸h0);refine zF [0,1,2,3,4,5] [6] ?_;intro ak ae S;refine zK (LV (c0:=cc) (cc:=c2) h0 I ⟨L.hx.1,O⟩ ⟨L.hy.1,V⟩ (λx y O V hn=>D.elim (λe=>e▸(En O hn).symm) (λe=>by rw[e.1])) (S.pick 14 [2,3,6,7,8,4,5,0,1,9,10,11,12,13] rfl rfl rfl)) ?_;rintro _ al ⟨ag,A2,ab,rfl,S⟩;have S:=S.pick 14 [7,8,0,1,5,6,2,3,4,9,10,11,12,13] rfl rfl rfl;(iterate 4 refine z ?_);refine zr ?_;refine z ?_;refine z ?_;refine iy (i:=1) S rfl (cR _) rfl rfl rfl rfl rfl rfl ?_;intro w9 S;refine ze ?_;exact na ⟨rfl,_,_,_,_,_,D,I,S.drop 1⟩
end
section
variable{done:Nat}{l:List lS}
theorem Ht(z:eL W pb 115 [.slice A n c,ii 0]):Fn prog 69 [pt pb] W (dp (.tuple #[tD,ii 15]) W):=by
 unfold tD;have S:=St.start W;refine zI func69 ?_;refine zN ?_;intro v D y S;refine zL (z.gr S.out) ?_;refine zS ?_;intro I S;exact pG S ⟨rfl,S.out⟩
theorem GS(y:eL W pb 115 [.slice A n c,ii n]):Fn prog 70 [pt pb] W (dp (.tuple #[tD,ii 15]) W):=by
 unfold tD;have S:=St.start W;refine zI func70 ?_;refine zN ?_;intro z I D S;refine zD [0,1,2,3,4,5,6,7,8,9,10] [] ?_;refine zM (λwq v=>(y.gr (S.gr v).out)) ?_;refine zM (λwq v=>(y.gr (S.gr v).out)) ?_;refine zE ?_;refine zS ?_;intro J S;exact pG S ⟨rfl,S.out⟩
theorem JP{x:lS}(L:gw<=1024)(J:gh<=1024)(hd:done+1<=l.length)(hl:l.length<1000)(U:l[done]?=some x)(D:DA gw gh x)(S:St F W w (.blk pb 115 [.slice lA l.length lc,ii (done:Nat)]::.row 253 6 lA l.length lc (l.flatMap lS.cells)::.pts l::tl)) :
  Fn prog 70 [pt pb] w (λv w'=>∃A1 c1 A2 c2,v=.tuple #[vg x.x0 x.y0 x.x1 x.y1 x.V1.length c1 c2 A1 A2,ii 0] /\
   St F W w' (.row 2 1 A2 x.V1.length c2 (cY x.V2)::.row 2 1 A1 x.V1.length c1 (cY x.V1)::.blk pb 115 [.slice lA l.length lc,ii (done+1:Nat)]::.row 253 6 lA l.length lc (l.flatMap lS.cells)::.pts l::tl)):=by
 have V:dO lA:=(S.row (i:=1) rfl).someA om;have z:x.V2.length=x.V1.length:=by rw[D.l1,D.l2]
 have O:x.cells=[ii x.x0,ii x.y0,ii x.x1,ii x.y1,.slice x.B1 x.V1.length x.k1,.slice x.B2 x.V1.length x.k2]:=by unfold lS.cells;rw[z]
 have y:=PF U;rw[O]at y;have e1:((done:Nat):Int)+1=(done+1:Nat):=om;have e2:((done+1:Nat):Int)-1=(done:Nat):=om;have I:=λwq(h:x.ok wq)=>Pr (D.ptok (n:=x.V1.length) (k1:=x.k1) (k2:=x.k2) L J rfl rfl rfl h);unfold vg at *;refine zI func70 ?_;refine zN ?_;intro aa ae ab S;refine zF [0,1,2,3,4,5,6,7,8,9,10] [] ?_;intro ag ac S;rw[e1];refine zS ?_;intro ah S;refine zD [0,1,2,3,4,5,6,7,8] [9,10,11,12,13] ?_;rw[e2];refine zE ?_;intro ai ad S;refine ZU (S.rd (i:=2) rfl) y ?_;refine zK (I _ ((S.ok (i:=3) (h:=.pts l) rfl) x (dD U))) ?_;rintro _ aj ⟨A1,c1,A2,c2,rfl,Z⟩;have S:=S.app Z;refine zS ?_;intro ak S;refine pG S ⟨A1,c1,A2,c2,rfl,S.sub (.cons_cons _ (.cons_cons _ (.cons _ (cQ _))))⟩
end
structure LY(s s':lT)(x:lS)(V1 V2:List Int)(dn:Nat):Prop where
 sb:s'.sb=s.sb
 gw:s'.gw=s.gw
 gh:s'.gh=s.gh
 ov:s'.ov=s.ov
 l:s'.l=s.l
 st:s'.stamp=s.stamp+1
 dn:s'.done=dn
 cc:s'.cc=im s.gw V2 x.x0 x.y0 x.x1 x.y1 s.cc\/(s'.cc=s.cc/\fi s.gw s.cc x.x0 x.y0 (x.x1+1-x.x0) (x.y1+1-x.y0)≠V1)
theorem OB{x:lS}(z:s.ok)(aa:0<=s.stamp/\s.stamp<1000)(hl:s.l.length<1000)(hd:s.done=dn+1)(hx:s.l[dn]?=some x)(S:St F W w (s.L++T)) :
  Fn prog (415) [iT false (69) kb,pt s.sb,o.v] w (λv w'=>∃s':lT,v=gZ.fine.v/\(s'.ok/\LY s s' x x.V2 x.V1 (dn))/\St F W w' (s'.L++T)):=by
 obtain⟨sb,p,cap,pp,lb,tb,yb,gw,gh,done,A,A1,lA,pA,ov,c1,lc,pc,bs,Rs,cc,As,cs,l,stamp⟩:=s;dsimp only at *;subst hd;have y:DA gw gh x:=z.hg x (dD hx);have ac:1<=gw/\gw<=1024:=(S.grid (i:=1) rfl).sw;have Z:1<=gh/\gh<=1024:=(S.grid (i:=1) rfl).sh;have L:x.V2.length=x.V1.length:=by rw[y.l1,y.l2]
 have hP:∀w' A1 A2 c1 c2,Rd w' A1 (cY x.V2)->Rd w' A2 (cY x.V1)->uM w' x.x0 x.y0 x.x1 x.y1 x.V1.length c1 c2 A1 A2 x.V2 x.V1:=λw' A1 A2 c1 c2 r1 r2=>⟨⟨y.hx.1,by have:=y.hx;omega⟩,⟨y.hy.1,by have:=y.hy;omega⟩,y.l1,L,rfl,y.m2,y.m1,r1,r2⟩;have I:dn+1<=l.length:=z.hd;have O:=yw (x0:=x.x0) (y0:=x.y0) (x1:=x.x1) (y1:=x.y1) (u9 y.m1) z.hB;have J:dn<=l.length:=Nat.le_of_succ_le I;unfold iT;refine zI func415 ?_;refine zN ?_;intro ae am aj S;refine zN ?_;intro ah an ak S;refine zg ?_;refine ju rfl rfl (K1 ac.2 Z.2 I hl hx y (S.pick 13 [10,11,12,0,1,2,3,4,5,6,7,8,9] rfl rfl rfl)) ?_;rintro _ ao ⟨B1,k1,B2,k2,rfl,S⟩;have S:=S.pick 15 [0,1,5,6,7,8,9,10,11,12,13,14,2,3,4] rfl rfl rfl;refine zN ?_;intro ag ap al S;refine zS ?_;intro aq S;refine zK (GQ (s:=⟨sb,p,cap,pp,lb,tb,yb,gw,gh,dn,A,A1,lA,pA,ov,c1,lc,pc,bs,Rs,cc,As,cs,l,stamp⟩) ⟨z.hB,J,z.hg⟩ aa (hP _ _ _ _ _ (S.rd (i:=2) rfl) (S.rd (i:=1) rfl)) y.hx.2 y.hy.2 O (S.pick 16 [5,6,7,8,9,10,11,12,13,14,15,1,2,0,3,4] rfl rfl rfl)) ?_;rintro _ ar ⟨rfl,ad,A2,U,Rs2,V,D,ab,S⟩;have S:=S.pick 16 [13,11,12,14,15,0,1,2,3,4,5,6,7,8,9,10] rfl rfl rfl;refine zS ?_;intro ai S;exact rA S ⟨⟨sb,p,cap,pp,lb,ad,yb,gw,gh,dn,A,A2,lA,pA,ov,U,lc,pc,bs,Rs2,V,As,cs,l,stamp+1⟩,rfl,⟨⟨ab,J,z.hg⟩,rfl,rfl,rfl,rfl,rfl,rfl,rfl,D⟩,S.drop 5⟩
theorem LZ{x:lS}(z:s.ok)(aa:0<=s.stamp/\s.stamp<1000)(hl:s.l.length<1000)(hd:s.done=dn)(hx:s.l[dn]?=some x)(S:St F W w (s.L++T)) :
  Fn prog (415) [iT false (70) kb,pt s.sb,o.v] w (λv w'=>∃s':lT,v=gZ.fine.v/\(s'.ok/\LY s s' x x.V1 x.V2 (dn+1))/\St F W w' (s'.L++T)):=by
 obtain⟨sb,p,cap,pp,lb,tb,yb,gw,gh,done,A,A1,lA,pA,ov,c1,lc,pc,bs,Rs,cc,As,cs,l,stamp⟩:=s;dsimp only at *;replace hd:=hd.symm;subst hd;have y:DA gw gh x:=z.hg x (dD hx);have ac:1<=gw/\gw<=1024:=(S.grid (i:=1) rfl).sw;have Z:1<=gh/\gh<=1024:=(S.grid (i:=1) rfl).sh;have L:x.V2.length=x.V1.length:=by rw[y.l1,y.l2]
 have hP:∀w' A1 A2 c1 c2,Rd w' A1 (cY x.V1)->Rd w' A2 (cY x.V2)->uM w' x.x0 x.y0 x.x1 x.y1 x.V1.length c1 c2 A1 A2 x.V1 x.V2:=λw' A1 A2 c1 c2 r1 r2=>⟨⟨y.hx.1,by have:=y.hx;omega⟩,⟨y.hy.1,by have:=y.hy;omega⟩,y.l1,rfl,L,y.m1,y.m2,r1,r2⟩;have I:dn+1<=l.length:=(dq.1 hx).1;have O:=yw (x0:=x.x0) (y0:=x.y0) (x1:=x.x1) (y1:=x.y1) (u9 y.m2) z.hB;have J:dn+1<=l.length:=I;unfold iT;refine zI func415 ?_;refine zN ?_;intro ae am aj S;refine zN ?_;intro ah an ak S;refine zg ?_;refine ju rfl rfl (JP ac.2 Z.2 I hl hx y (S.pick 13 [10,11,12,0,1,2,3,4,5,6,7,8,9] rfl rfl rfl)) ?_;rintro _ ao ⟨B1,k1,B2,k2,rfl,S⟩;have S:=S.pick 15 [0,1,5,6,7,8,9,10,11,12,13,14,2,3,4] rfl rfl rfl;refine zN ?_;intro ag ap al S;refine zS ?_;intro aq S;refine zK (GQ (s:=⟨sb,p,cap,pp,lb,tb,yb,gw,gh,dn+1,A,A1,lA,pA,ov,c1,lc,pc,bs,Rs,cc,As,cs,l,stamp⟩) ⟨z.hB,J,z.hg⟩ aa (hP _ _ _ _ _ (S.rd (i:=2) rfl) (S.rd (i:=1) rfl)) y.hx.2 y.hy.2 O (S.pick 16 [5,6,7,8,9,10,11,12,13,14,15,1,2,0,3,4] rfl rfl rfl)) ?_;rintro _ ar ⟨rfl,ad,A2,U,Rs2,V,D,ab,S⟩;have S:=S.pick 16 [13,11,12,14,15,0,1,2,3,4,5,6,7,8,9,10] rfl rfl rfl;refine zS ?_;intro ai S;exact rA S ⟨⟨sb,p,cap,pp,lb,ad,yb,gw,gh,dn+1,A,A2,lA,pA,ov,U,lc,pc,bs,Rs2,V,As,cs,l,stamp+1⟩,rfl,⟨⟨ab,J,z.hg⟩,rfl,rfl,rfl,rfl,rfl,rfl,rfl,D⟩,S.drop 5⟩
theorem L3(hd:s.done=0)(S:St F W w (s.L++T)) :
  Fn prog (415) [iT false (69) kb,pt s.sb,o.v] w (λv w'=>v=({ code:=15 }:gZ).v/\St F W w' (s.L++T)):=by
 obtain⟨sb,p,cap,pp,lb,tb,yb,gw,gh,done,A,A1,lA,pA,ov,c1,lc,pc,bs,Rs,cc,As,cs,l,stamp⟩:=s;dsimp only at *;subst hd;unfold iT;refine zI func415 ?_;refine zN ?_;intro D V L S;refine zN ?_;intro J z O S;refine zg ?_;refine ju rfl rfl (Ht (W:=z) (S.blk (i:=10) rfl)) ?_;rintro _ Z ⟨rfl,y⟩;have S:=S.gr y;refine zN ?_;intro I aa U S;refine zS ?_;intro ab S;exact rA S ⟨rfl,S.drop 3⟩
theorem JQ(hd:s.done=s.l.length)(S:St F W w (s.L++T)) :
  Fn prog (415) [iT false (70) kb,pt s.sb,o.v] w (λv w'=>v=({ code:=15 }:gZ).v/\St F W w' (s.L++T)):=by
 obtain⟨sb,p,cap,pp,lb,tb,yb,gw,gh,done,A,A1,lA,pA,ov,c1,lc,pc,bs,Rs,cc,As,cs,l,stamp⟩:=s;dsimp only at *;subst hd;unfold iT;refine zI func415 ?_;refine zN ?_;intro D V L S;refine zN ?_;intro J z O S;refine zg ?_;refine ju rfl rfl (GS (W:=z) (S.blk (i:=10) rfl)) ?_;rintro _ Z ⟨rfl,y⟩;have S:=S.gr y;refine zN ?_;intro I aa U S;refine zS ?_;intro ab S;exact rA S ⟨rfl,S.drop 3⟩
def EU(gw gh:Nat)(cc:Nat->Int)(k how i:Nat):Int :=
 GX how (fi gw cc (Nd.span gw gh ⟨k,i%dG gw k,i/dG gw k⟩).x0 (Nd.span gw gh ⟨k,i%dG gw k,i/dG gw k⟩).y0 ((Nd.span gw gh ⟨k,i%dG gw k,i/dG gw k⟩).x1+1-(Nd.span gw gh ⟨k,i%dG gw k,i/dG gw k⟩).x0) ((Nd.span gw gh ⟨k,i%dG gw k,i/dG gw k⟩).y1+1-(Nd.span gw gh ⟨k,i%dG gw k,i/dG gw k⟩).y0))
section
variable{cap:Nat}
theorem OM(k:Int)(z:1<=gw/\gw<=1024)(y:1<=gh/\gh<=1024)(v:k<0\/k>=fW gw gh):Fn prog 130 [ii gw,ii gh,ii k] W (dp (.tuple #[ii 0,ii 0,ii 11]) W):=by
 have J:=lI z.2 y.2;have S:=St.start W;have v:k<0\/(0<=k/\k>=fW gw gh):=om;rcases v with v|v
 all_goals
  refine zI func130 ?_;refine zC (Bz z y) ?_;intro I D S;exact zZ
theorem Mb(k v:Int)(D:¬((0<=k/\k<fW gw gh)/\(v=0\/v=1\/v=2)))(U:eJ W p gw gh cc A cap bs Rs):Fn prog 63 [pt p,ii k,ii v] W (dp (.tuple #[.pointer none,ii 11]) W):=by
 have hw:=U.sw;have hh:=U.sh;have I:=U.top;have y:=λw=>P3 (W:=w) v;by_cases hk:0<=k/\k<fW gw gh
 ·have V:¬(v=0\/v=1\/v=2):=λh=>D ⟨hk,h⟩;have e:ED v=.nilFunc:=by unfold ED;rw[a8 om,a8 om,a8 om]
  rw[e]at y;obtain⟨q,rfl⟩:=cJ hk.1;have z:=λw=>xL (W:=w) q hw hh om;have S:=St.start W;refine zI func63 ?_;refine zC (mC p gw gh _ W (I.gr S.out)) ?_;intro aa J S;refine zC (z _) ?_;intro ab L S;refine zC (y _) ?_;intro ac O S;refine zg ?_;refine dr rfl ?_;refine dU (Ma underlying244 rfl (.inl ⟨rfl,rfl⟩)) ?_;exact zZ
 ·have z:=λw=>OM (W:=w) k hw hh om
  have Z:ED v=.nilFunc\/∃f,ED v=.func (.func f) #[] #[]:=by
   unfold ED;split
   ·exact .inr ⟨_,rfl⟩
   ·split
    ·exact .inr ⟨_,rfl⟩
    ·split
     ·exact .inr ⟨_,rfl⟩
     ·exact .inl rfl
  have S:=St.start W;rcases Z with hf|⟨f,hf⟩
  all_goals
   rw[hf]at y;refine zI func63 ?_;refine zC (mC p gw gh _ W (I.gr S.out)) ?_;intro aa J S;refine zC (z _) ?_;intro ab L S;refine zC (y _) ?_;intro ac O S;exact zZ
theorem SD(k D:Nat)(hk:k<fW gw gh)(aZ:D<=2)(hB:vB (dw gw gh cc))(hG:eJ W p gw gh cc A cap bs Rs):Fn prog 63 [pt p,ii k,ii D] W
  (qw (λv=>.tuple #[v,ii 0]) (dG gw k) (dG gh k) (λi=>((List.range (dG gw k*dG gh k)).map (EU gw gh cc k D)).getD i 0) W):=by
 have hw:=hG.sw;have hh:=hG.sh;have aH:=hG.top;have bb:=lI hw.2 hh.2;have bc:=oZ k hw.1;have ba:=oZ k hh.1;have O:=tg gw k;have aj:=tg gh k;have hm:dG gw k*dG gh k<=1024*1024:=fy om om;have au:=λw=>P3 (W:=w) D;have aK:=λw=>xL (W:=w) k hw hh hk
 obtain⟨fid,aE,aF⟩:∃fid,ED D=.func (.func fid) #[] #[]/\∀(w:World)(A:Option Addr)(c:Nat)(xs:List Int),1<=xs.length->xs.length<=1048576->(∀x∈xs,-2147483648<=x/\x<=2147483647)->Rd w A (cY xs)->Fn prog fid [.slice A xs.length c] w (dp (ii (GX D xs)) w):=by
  rcases (show D=0\/D=1\/D=2 by omega)with rfl|rfl|rfl
  ·exact⟨_,rfl,λw A c xs h1 h2 h3 h4=>WO h1 h2 h4⟩
  ·exact⟨_,rfl,λw A c xs h1 h2 h3 h4=>WP h1 h2 h4⟩
  ·exact⟨_,rfl,λw A c xs h1 h2 h3 h4=>Vc h1 h2 h3 h4⟩
 rw[aE]at au;have ao:∀w i,i<dG gw k*dG gh k->Fn prog 132 [ii gw,ii gh,ii k,.agg #[ii (i%dG gw k:Nat),ii (i/dG gw k:Nat)]] w (dp (.tuple #[.agg (Nd.span gw gh ⟨k,i%dG gw k,i/dG gw k⟩).cells.toArray,ii 0]) w):=λw i hi=>Co (W:=w) k (i%dG gw k) (i/dG gw k) hw hh hk (dt _ O) (cS hi);have ad:∀i,i<dG gw k*dG gh k->(Nd.span gw gh ⟨k,i%dG gw k,i/dG gw k⟩).ok gw gh:=λi hi=>Nd.span_ok hw.1 hh.1 ⟨hk,dt _ O,cS hi⟩;have hg:∀i,EU gw gh cc k D i=GX D (fi gw cc (Nd.span gw gh ⟨k,i%dG gw k,i/dG gw k⟩).x0 (Nd.span gw gh ⟨k,i%dG gw k,i/dG gw k⟩).y0 ((Nd.span gw gh ⟨k,i%dG gw k,i/dG gw k⟩).x1+1-(Nd.span gw gh ⟨k,i%dG gw k,i/dG gw k⟩).x0) ((Nd.span gw gh ⟨k,i%dG gw k,i/dG gw k⟩).y1+1-(Nd.span gw gh ⟨k,i%dG gw k,i/dG gw k⟩).y0)):=λi=>rfl
 have an:∀r:Rc,r.ok gw gh->(1<=(fi gw cc r.x0 r.y0 (r.x1+1-r.x0) (r.y1+1-r.y0)).length/\(fi gw cc r.x0 r.y0 (r.x1+1-r.x0) (r.y1+1-r.y0)).length<=1048576)/\∀v∈fi gw cc r.x0 r.y0 (r.x1+1-r.x0) (r.y1+1-r.y0),-2147483648<=v/\v<=2147483647:=λr hr=>by
  obtain⟨⟨a1,a2⟩,a3,a4⟩:=hr;rw[lE]
  exact⟨⟨j5 om om,show _<=1024*1024 from fy om om⟩,λv hv=>by
   have h:iL v=true:=wN hB a2 a4 v hv;unfold iL at h;simpa using h⟩
 have aq:=λw(r:Rc)(hr:r.ok gw gh)(g:Gr W w)=>iz (W:=w) r.x0 r.y0 r.x1 r.y1 hr.1 hr.2 (hG.gr g)
 have ak:∀v∈(List.range (dG gw k*dG gh k)).map (EU gw gh cc k D),iL v=true:=λv hv=>by
  obtain⟨i,hi,rfl⟩:=fC.1 hv;have:=an _ (ad i (dJ.1 hi));rw[hg];exact K2 (IA D this.1.1 this.2)
 have L:=λw(B:Option Addr)cp(h:Rd w B (cY ((List.range (dG gw k*dG gh k)).map (EU gw gh cc k D))))=>VL (W:=w) (V:=(List.range (dG gw k*dG gh k)).map (EU gw gh cc k D)) cp ⟨O,om⟩ ⟨aj,om⟩ (by simp) ak h;have aJ:((List.range (dG gw k*dG gh k)).map (EU gw gh cc k D)).length=dG gw k*dG gh k:=by simp
 rw[aJ]at L;generalize EU gw gh cc k D=g at *;obtain⟨sp,ap⟩:∃sp:Nat->Rc,∀i,Nd.span gw gh ⟨k,i%dG gw k,i/dG gw k⟩=sp i:=⟨λi=>Nd.span gw gh ⟨k,i%dG gw k,i/dG gw k⟩,λi=>rfl⟩;simp only[ap]at ao ad hg;generalize dG gw k=lw at *;generalize dG gh k=lh at *;have S:=St.start W;refine zI func63 ?_;refine zC (mC p gw gh _ W (aH.gr S.out)) ?_;intro bf aU S;refine zC (aK _) ?_;intro bg aV S;refine zC (au _) ?_;intro bh aW S;refine zg ?_;refine dr rfl ?_;refine dU (Ma underlying244 rfl (.inr ⟨⟨_,_,_,rfl⟩,rfl⟩)) ?_;refine zg ?_;have S:=S.pushNil 2 1
 refine dl (λm e w=>∃(y:Nat)(I:Option Addr)(J:Nat),y+m=lh/\SL e [(0,pt p),(1,ii k),(8,ii gw),(9,ii gh),(10,ii lw),(11,ii lh),(13,.func (.func fid) #[] #[]),(14,.slice I (y*lw) J),(44,ii lh),(45,ii y)] /\
  St No W w [.row 2 1 I (y*lw) J (cY ((List.range (y*lw)).map g))]) lh
  ⟨0,none,0,om,⟨rfl,rfl,rfl,rfl,rfl,rfl,rfl,by rw[iD];rfl,rfl,rfl,trivial⟩,by rw[iD];exact S⟩ ?_
 clear S;rintro m e w ⟨y,I,J,hy,ac,S⟩;rw[ac.fold];by_cases be:y<lh
 ·have aM:=cI lw (show y+1<=lh by omega);rw[cX,cD lh]at aM;refine zg ?_
  refine dl (λm2 e w=>∃(x:Nat)(I:Option Addr)(J:Nat),x+m2=lw/\SL e [(0,pt p),(1,ii k),(8,ii gw),(9,ii gh),(10,ii lw),(11,ii lh),(13,.func (.func fid) #[] #[]),(14,.slice I (y*lw+x) J),(15,ii y),(44,ii lh),(45,ii y),(48,ii lw),(49,ii x)] /\
   St No W w [.row 2 1 I (y*lw+x) J (cY ((List.range (y*lw+x)).map g))]) lw
   ⟨0,I,J,om,sl,S⟩ ?_
  clear S;rintro m2 e w ⟨x,I,J,hx,ac,S⟩;rw[ac.fold];by_cases aL:x<lw
  ·have hi:y*lw+x<lw*lh:=om;have hc:=jo (Y:=y) aL;have ab:=λw=>ao w (y*lw+x) hi;rw[hc.1,hc.2]at ab;have am:=ad _ hi;have ar:=λw gr=>aq w (sp (y*lw+x)) am gr;have Z:=an _ am;have aG:=hg (y*lw+x);have aI:=lE gw cc (sp (y*lw+x)).x0 (sp (y*lw+x)).y0 ((sp (y*lw+x)).x1+1-(sp (y*lw+x)).x0) ((sp (y*lw+x)).y1+1-(sp (y*lw+x)).y0);rw[<-aI]at ar;have al:=λw A c h=>aF w A c _ Z.1.1 Z.1.2 Z.2 h;rw[<-aG]at al;have aD:(List.range (y*lw+x+1)).map g=(List.range (y*lw+x)).map g++[g (y*lw+x)]:=by rw[eG,fq,i7]
   generalize g (y*lw+x)=z at *;generalize fi gw cc (sp (y*lw+x)).x0 (sp (y*lw+x)).y0 ((sp (y*lw+x)).x1+1-(sp (y*lw+x)).x0) ((sp (y*lw+x)).y1+1-(sp (y*lw+x)).y0)=vs at *;unfold Rc.cells at ab;refine zC (ab w) ?_;intro bi aX S;refine zN ?_;intro aT bj aY S;refine zS ?_;intro bk S;refine zK (ar _ S.out) ?_;rintro _ aN ⟨ag,ai,rfl,U,aa,az⟩;have S:=S.pushRow U aa az;refine zg ?_;refine ju rfl rfl (al aN ag ai (S.rd (i:=0) rfl)) ?_;rintro _ bl ⟨rfl,aA⟩;have S:=S.gr aA;refine yb S ?_;intro aw aQ aO S av;refine ZP 3 0 S ?_;intro ae ah aR S aP;refine zg ?_;have S:=S.sub (.cons _ (.cons _ (.cons _ (.cons_cons _ .slnil))));rw[show cY ((List.range (y*lw+x)).map g)++[ii z]=cY ((List.range (y*lw+x)).map g++[z])by simp[cY],<-aD]at S;exact⟨m2-1,om,x+1,ae,ah,om,sl,S⟩
  ·obtain rfl:x=lw:=om;refine zg ?_;have ey:y*x+x=(y+1)*x:=(cX y x).symm;rw[ey]at S;exact⟨m-1,om,y+1,I,J,om,⟨rfl,rfl,rfl,rfl,rfl,rfl,rfl,by rw[<-ey];rfl,rfl,rfl,trivial⟩,S⟩
 ·obtain rfl:y=lh:=om;rw[cD lw y]at L ⊢;refine zK (L w I J (S.rd (i:=0) rfl)) ?_;rintro _ aS ⟨p2,A2,cap2,bs2,Rs2,rfl,aC,aB,g9⟩;have S:=S.gr g9;refine zX ?_;exact⟨p2,A2,cap2,bs2,Rs2,rfl,aC,λg h=>by have:=aB g h;have:=St.le ‹St No W w _›;omega,S.out⟩
end
end Go.Proofs.YtcalhocphkbbgaaGreatDoor
