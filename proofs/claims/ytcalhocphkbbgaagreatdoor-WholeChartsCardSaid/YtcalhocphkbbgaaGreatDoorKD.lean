/- A part of the proof that hachuretop.WholeCharts and hachuretop.WholeWater returns true at every input; no condition. -/
import Derived.Test.YtcalhocphkbbgaaGreatDoorKC
set_option maxRecDepth 100000
set_option maxHeartbeats 16000000
set_option linter.unusedVariables false
set_option linter.unusedSimpArgs false
namespace Go.Proofs.YtcalhocphkbbgaaGreatDoor
open Go.Proofs.Tryz Go.RowKit
variable{af:Array Edge}{h h':HA}{Y a e0:Int}{σ:List (Nat × Value)}{M:List HA}{caps l l' xs ys:List Value}{N b b' c c2 el fid g gh gw i j k m n n' p q sh size sw x0 x1 y0 y1:Nat}{c':Nat->Int}{bs:Nat->Nat}{R':Nat->Nat->Bool}{Rs:Nat->Option Nat}{F F' X:Nat->Prop}{e:Nat->Value}{op:Op}{hi x:Operand}{A A1 A2 g0 l0:Option Addr}{d:Option Tmp}{P:Program}{t t' ty:TypeId}{u v1:Value}{R:Value->World->Prop}{W W' w w' w0 wq:World}{C:World->Prop}
def fL(n e:Int):Bool:=decide (0<=n)&&decide (n<e)
theorem D7(n e:Int)(w:World) :
  Calls prog 189 #[ii n,ii e] w λr w'=>r=.returned (.bool (fL n e))/\w=w':=by
 go_enter func189,ntmps189;go_wp2;all_goals (go_ret;refine⟨?_,rfl⟩;unfold fL;simp[*];try omega)
def dF(x0 y0 x1 y1 w h:Int):Int :=
 if !fL (w-1) 1024||!fL (h-1) 1024 then 3
 else if !fL x0 w||!fL x1 w||!fL y0 h||!fL y1 h then 4
 else if x1<x0\/y1<y0 then 5 else 0
theorem D8(x0 y0 x1 y1 w h:Int)(z:-9223372036854775808<w)(D:w<=9223372036854775807)(v:-9223372036854775808<h)(y:h<=9223372036854775807)(W:World) :
  Calls prog 134 #[.agg #[ii x0,ii y0,ii x1,ii y1],ii w,ii h] W λr W'=>r=.returned (ii (dF x0 y0 x1 y1 w h))/\Below W.heap.size W W':=by
 go_enter func134,ntmps134;go_wp2_with (go_at_call 189;refine(D7 _ _ _).mono ?_;rintro e w' ⟨rfl,rfl⟩)
 all_goals
  go_ret;refine⟨?_,(um _ _).alloc (fK _) _⟩;simp_all[dF]
 all_goals first|done|(intro I;omega)|omega
def nb(x0 y0 x1 y1:Int):Bool:=dF x0 y0 x1 y1 1024 1024==0
theorem lO(x0 y0 x1 y1:Int):nb x0 y0 x1 y1=true↔0<=x0/\x0<=x1/\x1<1024/\0<=y0/\y0<=y1/\y1<1024:=by
 unfold nb dF fL;simp;split
 ·simp;omega
 ·split
  ·simp;omega
  ·omega
theorem Fh(x0 y0 x1 y1:Int)(W:World) :
  Calls prog 167 #[.agg #[ii x0,ii y0,ii x1,ii y1]] W λr W'=>r=.returned (.bool (nb x0 y0 x1 y1))/\Below W.heap.size W W':=by
 go_enter func167,ntmps167;go_wp2_with (go_at_call 134;refine(D8 _ _ _ _ _ _ om om om om _).mono ?_;rintro e w' ⟨rfl,v⟩)
 all_goals
  go_ret;refine⟨?_,((um _ _).alloc (fK _) _).trans (v.mono (by simp))⟩;rfl
theorem Bu(x0 y0 x1 y1:Int)(h:0<=x0/\x0<=x1/\x1<1024)(W:World) :
  Calls prog 168 #[.agg #[ii x0,ii y0,ii x1,ii y1]] W λr W'=>r=.returned (ii (x1-x0+1))/\Below W.heap.size W W':=by
 obtain⟨h1,h2,v⟩:=h;go_enter func168,ntmps168;go_wp2;go_ret;exact⟨rfl,(um _ _).alloc (fK _) _⟩
theorem Hz(a b:Int)(D:0<=a)(z:0<=b)(v:a<=1024)(y:b<=1024):0<=a*b/\a*b<=1048576:=by
 refine⟨p5 D z,?_⟩;have:a*b<=1024*1024:=Int.mul_le_mul v y z om;omega
theorem P8(x0 y0 x1 y1:Int)(h:0<=x0/\x0<=x1/\x1<1024/\0<=y0/\y0<=y1/\y1<1024)(W:World) :
  Calls prog 94 #[.agg #[ii x0,ii y0,ii x1,ii y1]] W λr W'=>r=.returned (ii ((x1-x0+1)*(y1-y0+1)))/\Below W.heap.size W W':=by
 have hr:nb x0 y0 x1 y1=true:=(lO _ _ _ _).2 h;obtain⟨h1,h2,O,S,U,V⟩:=h;obtain⟨m1,m2⟩:=Hz (x1-x0+1) (y1-y0+1) om om om om;go_enter func94,ntmps94;go_wp2_with (go_at_call 167;refine(Fh _ _ _ _ _).mono ?_;rintro e w' ⟨rfl,y⟩;obtain⟨v,Z⟩:=Xa y;have L:=y.size;simp at L);have z:∀g:wD w',g.at_.cell? ⟨W.heap.size,0,none⟩=some (ii x0):=λg=>II g om (by simp[v]);have D:∀g:wD w',g.at_.cell? ⟨W.heap.size,1,none⟩=some (ii y0):=λg=>II g om (by simp[v]);have I:∀g:wD w',g.at_.cell? ⟨W.heap.size,2,none⟩=some (ii x1):=λg=>II g om (by simp[v]);have J:∀g:wD w',g.at_.cell? ⟨W.heap.size,3,none⟩=some (ii y1):=λg=>II g om (by simp[v]);refine EL (by kernel_rfl) (by kernel_rfl) ?_;repeat (first|go_big_quiet_step ((go_at_call 168;exact J0 (Bu _ _ _ _ om _)))|quiet_step ((go_at_call 168;exact J0 (Bu _ _ _ _ om _))))
 refine wpQuiet_nil ?_;rintro _ ⟨g,rfl⟩;go_wp2;go_ret;exact⟨rfl,(((um _ _).alloc (fK _) _).trans (y.mono (by simp))).trans (g.below.mono om)⟩
theorem J5(n:Int)(h:0<=n)(h':n<1048576):bits .andNot .i64 n 15=n-n%16:=by
 obtain⟨k,rfl⟩:=cJ h
 have z:k&&& 18446744073709551600=k/16*16:=by
  rw[(by decide:(18446744073709551600)=(2^60-1)<<<4),(by rw[Nat.shiftRight_eq_div_pow,Nat.shiftLeft_eq]:k/16*16=(k>>>4)<<<4)];apply Nat.eq_of_testBit_eq;intro i;rw[Nat.testBit_and,sF,sF,Nat.testBit_two_pow_sub_one,Nat.testBit_shiftRight];by_cases v:i>=4
  ·have:4+(i-4)=i:=om;rw[this];by_cases y:i-4<60
   ·simp_all
   ·have:k.testBit i=false:=Nat.testBit_lt_two_pow (fg (om:k<1048576) (by
     have:2^20<=2^i:=fP om om;omega))
    simp[this]
  ·simp[v]
 show IntKind.i64.wrap ((BitVec.ofInt 64 _&&& ~~~ BitVec.ofInt 64 _).toNat)=_;rw[rE,BitVec.toNat_not];rw[(by rw[BitVec.ofInt_natCast];exact dT om:(BitVec.ofInt 64 (k)).toNat=k),(by decide:2^64-1-(BitVec.ofInt 64 (15)).toNat=18446744073709551600),oY];omega
theorem Mx(n:Int)(h:0<=n)(h':n<1048576)(W:World) :
  Calls prog 202 #[ii n] W λr W'=>r=.returned (ii (n-n%16))/\W=W':=by
 have v:=Lib.hid (J5 n h h');go_enter func202,ntmps202;go_wp2;go_ret;exact⟨by rw[v.out];rfl,rfl⟩
def dp(v:Value)(w:World):Value->World->Prop:=λv' w'=>v'=v/\Gr w w'
theorem P9(n e:Int)(w:World):Fn prog 189 [ii n,ii e] w (dp (.bool (fL n e)) w) :=
 jM (by kernel_rfl) ((D7 n e w).mono λ_ _⟨h,hw⟩=>⟨h,by subst hw;exact Gr.refl _⟩)
theorem jW(x0 y0 x1 y1 w h:Int)(y:-9223372036854775808<w/\w<=9223372036854775807)(v:-9223372036854775808<h/\h<=9223372036854775807)(W:World) :
  Fn prog 134 [.agg #[ii x0,ii y0,ii x1,ii y1],ii w,ii h] W (dp (ii (dF x0 y0 x1 y1 w h)) W) :=
 jM (by kernel_rfl) (D8 x0 y0 x1 y1 w h y.1 y.2 v.1 v.2 W)
theorem mz(x0 y0 x1 y1:Int)(W:World):Fn prog 167 [.agg #[ii x0,ii y0,ii x1,ii y1]] W (dp (.bool (nb x0 y0 x1 y1)) W) :=
 jM (by kernel_rfl) (Fh x0 y0 x1 y1 W)
theorem Tg(x0 y0 x1 y1:Int)(h:0<=x0/\x0<=x1/\x1<1024)(W:World):Fn prog 168 [.agg #[ii x0,ii y0,ii x1,ii y1]] W (dp (ii (x1-x0+1)) W) :=
 jM (by kernel_rfl) (Bu x0 y0 x1 y1 h W)
theorem qc(x0 y0 x1 y1:Int)(h:0<=x0/\x0<=x1/\x1<1024/\0<=y0/\y0<=y1/\y1<1024)(W:World):Fn prog 94 [.agg #[ii x0,ii y0,ii x1,ii y1]] W (dp (ii ((x1-x0+1)*(y1-y0+1))) W) :=
 jM (by kernel_rfl) (P8 x0 y0 x1 y1 h W)
theorem J6(n:Int)(h:0<=n/\n<1048576)(W:World):Fn prog 202 [ii n] W (dp (ii (n-n%16)) W) :=
 jM (by kernel_rfl) ((Mx n h.1 h.2 W).mono λ_ _⟨h,hw⟩=>⟨h,by subst hw;exact Gr.refl _⟩)
def x6(x0 y0 x1 y1 x y:Int):List Value:=[ii (max x x0),ii (max y y0),ii (min (x+16-1) x1),ii (min (y+16-1) y1)]
def AZ(x0 y0 x1 y1 y:Int)(k:Nat):List Value:=(List.range k).flatMap λ(i:Nat)=>x6 x0 y0 x1 y1 (x0-x0%16+16*(i:Int)) y
def dQ(a b:Int):Nat:=(b/16-a/16+1).toNat
def mX(x0 y0 x1 y1:Int)(k:Nat):List Value:=(List.range k).flatMap λ(j:Nat)=>AZ x0 y0 x1 y1 (y0-y0%16+16*(j:Int)) (dQ x0 x1)
theorem My(x0 y0 x1 y1 y:Int)(k:Nat):AZ x0 y0 x1 y1 y (k+1)=AZ x0 y0 x1 y1 y k++x6 x0 y0 x1 y1 (x0-x0%16+16*(k:Int)) y:=by
 simp[AZ,eG]
theorem He(x0 y0 x1 y1:Int)(k:Nat):mX x0 y0 x1 y1 (k+1)=mX x0 y0 x1 y1 k++AZ x0 y0 x1 y1 (y0-y0%16+16*(k:Int)) (dQ x0 x1):=by
 simp[mX,eG]
theorem ww(a b:Int)(k:Nat)(v:0<=a)(h:a<=b):k<dQ a b↔a-a%16+16*(k:Int)<=b:=by
 unfold dQ;omega
theorem AA(a b:Int)(v:0<=a)(h:a<=b)(y:b<1024):1<=dQ a b/\dQ a b<=64:=by
 unfold dQ;omega
theorem Mz:(prog.info? 43).map (λi=>(i.zero,i.size,i.bytes))=some (some (.agg #[ii 0,ii 0,ii 0,ii 0]),4,32):=by kernel_rfl
def VF(el size n:Nat)(xs:List Value)(w:World):Value->World->Prop:=λv' w'=>∃A c,v'=.slice A n c/\wa w' w.heap.size el size A n c xs/\Gr w w'
theorem Qa(x0 y0 x1 y1:Int)(h:0<=x0/\x0<=x1/\x1<1024/\0<=y0/\y0<=y1/\y1<1024)(W:World) :
  Fn prog 135 [.agg #[ii x0,ii y0,ii x1,ii y1]] W (VF 43 4 (dQ y0 y1*dQ x0 x1) (mX x0 y0 x1 y1 (dQ y0 y1)) W):=by
 have hr:nb x0 y0 x1 y1=true:=(lO _ _ _ _).2 h;obtain⟨h1,h2,h3,h4,h5,h6⟩:=h;obtain⟨aw,am⟩:=AA x0 x1 h1 h2 h3;obtain⟨az,aA⟩:=AA y0 y1 h4 h5 h6;refine zI func135 ?_;refine zg ?_;refine tW (tX rfl) ?_;intro aF aa aB v;refine zL v ?_;refine zK (mz x0 y0 x1 y1 _) ?_;rintro _ w2 ⟨rfl,g2⟩;have v:=v.gr g2;refine z ?_;refine zc ?_;refine eX (by rw[hr];rfl) ?_;refine zL v ?_;refine zK (J6 y0 om _) ?_;rintro _ w3 ⟨rfl,g3⟩;have v:=v.gr g3;refine zg ?_;have bz:=v;refine zg ?_
 refine dl (λm e w=>∃(j:Nat)(A:Option Addr)(c:Nat),j+m=dQ y0 y1/\SL e [(1,pt W.heap.size),(3,.slice A (j*dQ x0 x1) c),(4,ii (y0-y0%16+16*(j:Int)))] /\
  wa w w3.heap.size 43 4 A (j*dQ x0 x1) c (mX x0 y0 x1 y1 j)/\Gr w3 w) (dQ y0 y1) ⟨0,none,0,om,⟨rfl,se om rfl,ie om,trivial⟩,by simpa [mX]using wa.nil _ _ _ _,Gr.refl _⟩ ?_
 rintro m e w ⟨j,A,c,hm,al,O,hg⟩;rw[al.fold];have v:=v.gr hg;refine zL v ?_;first|refine dU (ff (b:=true) rfl (fD om)) ?_|refine dU (ff (b:=false) rfl (iO om)) ?_|refine dU (jx rfl) ?_
 refine zc ?_;refine tV rfl (λhc=>?_) (λhc=>?_)
 ·refine gO ?_;try show CW _ _ _ _ _ _
  have ak:j<dQ y0 y1:=(ww y0 y1 j h4 h5).2 (by simpa using hc);have au:=(ww y0 y1 j h4 h5).1 ak;refine zL v ?_;refine zK (J6 x0 om _) ?_;rintro _ w4 ⟨rfl,g4⟩;have v:=v.gr g4;refine zg ?_
  refine dl (λm e w'=>∃(k:Nat)(A:Option Addr)(c:Nat),k+m=dQ x0 x1/\SL e [(1,pt W.heap.size),(3,.slice A (j*dQ x0 x1+k) c),(4,ii (y0-y0%16+16*(j:Int))),(5,ii (x0-x0%16+16*(k:Int)))] /\
   wa w' w3.heap.size 43 4 A (j*dQ x0 x1+k) c (mX x0 y0 x1 y1 j++AZ x0 y0 x1 y1 (y0-y0%16+16*(j:Int)) k)/\Gr w3 w') (dQ x0 x1) ⟨0,A,c,om,sl,by simpa [AZ]using O.gr g4,hg.trans g4⟩ ?_
  rintro m' e' w' ⟨k,A',c',av,ae,I,J⟩;rw[ae.fold];have v:=bz.gr J;have D:=Gr.refl w';have aq:=bz.lt;have ar:=J.le;refine zL v ?_;refine zg ?_;refine tV rfl (λV=>?_) (λV=>?_)
  ·refine gO ?_;try show CW _ _ _ _ _ _
   have ad:k<dQ x0 x1:=(ww x0 x1 k h1 h2).2 (by simpa using V);have an:=(ww x0 x1 k h1 h2).1 ad;have ap:j*dQ x0 x1<=64*64:=fy om am;refine zL v ?_;refine zL v ?_;refine zL v ?_;refine zL v ?_;refine zg ?_;try have ag:=v.lt
   try have ag:=D.le
   refine tW (jV gE rfl) ?_;intro aG ab aC y;have v:=v.gr ab;have D:=D.trans ab;refine Bq (n:=4) (fS _) rfl rfl rfl y rfl rfl ?_;intro aH ac aD ah;have v:=v.grown ac (by first|(intro hh;simp only[Option.some.injEq]at hh;omega)|(intro hh;have:=Option.some.inj hh;omega)|exact λhh=>absurd (Option.some.inj hh) (v.ne_ y (by decide)));have D:=D.store ac om;have y:=ah;refine zg ?_;first|refine dH (fx dL rfl (fS _) rfl y rfl rfl) ?_|refine dH (fx dL rfl (fS _) rfl v rfl rfl) ?_
   try have S:=v.lt
   try have S:=D.le
   try have S:=y.lt
   refine tW (mu oE fS gE rfl rfl rfl rfl rfl) ?_;intro aI U aE ai;have v:=v.gr U;have D:=D.trans U;have y:=y.gr U;refine Mp oE Mz rfl rfl rfl (I.gr D) rfl ai rfl rfl om (by have:=D.le;omega) ?_;intro A2 c2 w5 Z aj ao;refine zg ?_;refine⟨m'-1,om,k+1,A2,c2,om,sl,?_,(J.trans D).below aj (fK _)⟩;rw[My,<-cL];exact Z
  ·refine pD ?_;refine zg ?_;have hk:k=dQ x0 x1:=by have:=mt (ww x0 x1 k h1 h2).1;simp at V;omega
   subst hk;repeat refine dm ?_
   refine dz ?_;refine dU (jx rfl) ?_;refine dU (fh rfl om) ?_;refine dU (jx rfl) ?_;first|refine eF ?_|(refine di ?_;show CW _ _ _ _ _ _)|refine di ?_
   have L:j*dQ x0 x1+dQ x0 x1=(j+1)*dQ x0 x1:=(cX _ _).symm;refine⟨m-1,om,j+1,A',c',om,⟨rfl,se L rfl,ie om,trivial⟩,?_,J⟩;rw[He,<-L];exact I
 ·refine pD ?_;show CW _ _ _ _ _ _;refine z ?_;refine z ?_;refine ze ?_;have hj:j=dQ y0 y1:=by have:=mt (ww y0 y1 j h4 h5).1;simp at hc;omega
  subst hj;refine mJ ?_;exact ir rfl ⟨_,_,rfl,O.base ((aa.trans (g2.trans g3)).le),aa.trans (g2.trans (g3.trans hg))⟩
def iL(v:Int):Bool:=decide (-2147483648<=v)&&decide (v<=2147483647)
theorem u0(v:Int):iL v=true↔-2147483648<=v/\v<=2147483647:=by simp[iL]
theorem wg(n:Int)(h:-2147483648<=n/\n<=2147483647):IntKind.i32.wrap n=n:=IntWalk.i32_in n h
theorem Fi(v:Int)(W:World):Fn prog 204 [ii v] W (dp (.bool (iL v)) W):=by
 refine zI func204 ?_;refine zg ?_;refine O8 5 rfl (λh=>?_) (λh=>?_)
 ·first|refine eD rfl ?_|(refine dr rfl ?_;refine dU (jx rfl) ?_)
  refine zX ?_;exact⟨be (by simp[iL]at h ⊢;omega),Gr.refl _⟩
 ·first|refine eD rfl ?_|(refine dr rfl ?_;refine dU (jx rfl) ?_)
  refine zX ?_;exact⟨be (by simp[iL]at h ⊢;omega),Gr.refl _⟩
theorem IS(w h:Int)(y:1<=w/\w<=16)(v:1<=h/\h<=16)(W:World):Fn prog 203 [ii w,ii h] W (dp (.bool true) W):=by
 refine zI func203 ?_;refine zX ?_;exact⟨rfl,Gr.refl _⟩
theorem J7(x y:Int)(W:World):Fn prog 170 [.agg #[ii x,ii y]] W (dp (.agg #[ii x,ii y,ii x,ii y]) W):=by
 refine zI func170 ?_;have D:=Gr.refl W;refine zg ?_;try have V:=D.le
 refine tW (tX rfl) ?_;intro ac U Z v;have D:=D.trans U;try have O:=D.le
 try have O:=v.lt
 refine tW (jV gE rfl) ?_;intro ad I aa z;have D:=D.trans I;have v:=v.gr I;refine zg ?_;first|refine dH (cV iY rfl rfl z rfl) ?_|refine dH (cV iY rfl rfl v rfl) ?_
 refine zg ?_;first|refine dH (cV iY rfl rfl z rfl) ?_|refine dH (cV iY rfl rfl v rfl) ?_
 refine zg ?_;first|refine dH (cV iY rfl rfl z rfl) ?_|refine dH (cV iY rfl rfl v rfl) ?_
 refine zg ?_;first|refine dH (cV iY rfl rfl z rfl) ?_|refine dH (cV iY rfl rfl v rfl) ?_
 refine zg ?_;refine Bq (n:=4) (fS _) rfl rfl rfl z rfl rfl ?_;intro ae J ab S;have D:=D.store J om;have v:=v.grown J (by first|(intro L;simp only[Option.some.injEq]at L;omega)|(intro L;have:=Option.some.inj L;omega)|exact λL=>absurd (Option.some.inj L) (v.ne_ z (by decide)));have z:=S;refine ze ?_;refine mJ (Tb dL rfl (fS _) rfl z rfl rfl ⟨rfl,D⟩)
theorem wx(b:Nat)(w h x0 y0 x1 y1:Int)(v:Value)(hw:1<=w/\w<=16)(Z:1<=h/\h<=16)(W:World)(D:eL W b 164 [ii w,ii h,v]) :
  Fn prog 169 [pt b,.agg #[ii x0,ii y0,ii x1,ii y1]] W (dp (ii (dF x0 y0 x1 y1 w h)) W):=by
 have J:=Gr.refl W;refine zI func169 ?_;refine zg ?_;try have O:=D.lt
 try have O:=J.le
 refine tW (tX rfl) ?_;intro U L S z;have D:=D.gr L;have J:=J.trans L;refine zD [0,1,2,3,4,5,6,7,8,9,10] [] ?_;first|refine fo (λwq y=>fx dL rfl (fS _) rfl (z.gr y) rfl rfl) ?_|refine fo (λwq y=>fx dL rfl (fS _) rfl (D.gr y) rfl rfl) ?_
 refine zQ ?_;first|refine fo (λwq y=>cV iY rfl rfl (z.gr y) rfl) ?_|refine fo (λwq y=>cV iY rfl rfl (D.gr y) rfl) ?_
 refine zQ ?_;first|refine fo (λwq y=>cV iY rfl rfl (z.gr y) rfl) ?_|refine fo (λwq y=>cV iY rfl rfl (D.gr y) rfl) ?_
 refine zP (λwq y=>jW x0 y0 x1 y1 w h om om wq) ?_;refine zQ ?_;refine vZ ?_;intro V I;have D:=D.gr I;have J:=J.trans I;have z:=z.gr I;refine ze ?_;refine mJ (ir rfl ⟨rfl,J⟩)
theorem VG(w h v:Int)(V:1<=w/\w<=16)(U:1<=h/\h<=16)(J:-2147483648<=v/\v<=2147483647)(W:World):Fn prog 136 [ii w,ii h,ii v] W
  (λr w'=>∃b,r=.tuple #[pt b,ii 0]/\W.heap.size<=b/\eL w' b 164 [ii w,ii h,.iface 333 (.int .i32 v)]/\Gr W w'):=by
 have y:=Gr.refl W;refine zI func136 ?_;iterate 3 refine z ?_
 first|refine dU (ff (b:=true) rfl (fD om)) ?_|refine dU (ff (b:=false) rfl (iO om)) ?_|refine dU (jx rfl) ?_
 refine z ?_;refine z ?_;first|refine eD rfl ?_|(refine dr rfl ?_;(first|refine dU (ff (b:=true) rfl (fD om)) ?_|refine dU (ff (b:=false) rfl (iO om)) ?_|refine dU (jx rfl) ?_))
 iterate 3 refine z ?_
 first|refine eD rfl ?_|(refine dr rfl ?_;(first|refine dU (ff (b:=true) rfl (fD om)) ?_|refine dU (ff (b:=false) rfl (iO om)) ?_|refine dU (jx rfl) ?_))
 iterate 3 refine z ?_
 first|refine eD rfl ?_|(refine dr rfl ?_;(first|refine dU (ff (b:=true) rfl (fD om)) ?_|refine dU (ff (b:=false) rfl (iO om)) ?_|refine dU (jx rfl) ?_))
 iterate 4 refine z ?_
 refine dr rfl ?_;refine eY rfl (IS w h V U _) ?_;rintro _ w1 ⟨rfl,O⟩;have y:=y.trans O;refine zK (Fi v _) ?_;rintro _ w2 ⟨rfl,S⟩;have y:=y.trans S;refine z ?_;refine z ?_;refine zc ?_;refine eX (by rw[(u0 v).2 J];rfl) ?_;refine zg ?_;refine Y9 rfl (wg _ J) ?_;refine dU (jn gF rfl rfl) ?_;refine zg ?_;try have L:=y.le
 refine tW (tX rfl) ?_;intro aa I Z D;have y:=y.trans I;refine zX ?_;exact⟨_,rfl,by have:=y.le;omega,D,y⟩
def km(n:Nat)(c:Nat->Int):List Value:=(List.range n).map λi=>.int .i32 (c i)
theorem rM(n:Nat)(c:Nat->Int):(km n c).length=n:=by simp[km]
theorem xj{c:Nat->Int}(h:i<n):(km n c)[i]?=some (.int .i32 (c i)):=by simp[km,h]
theorem J8{c:Nat->Int}{v:Int}(h:∀i,i<n->c' i=if i=j then v else c i):(km n c).set j (.int .i32 v)=km n c':=by
 apply gG;intro i;rw[gl];by_cases hi:i<n
 ·rw[xj (c:=c') hi,h i hi];by_cases y:j=i
  ·subst y;simp[rM,hi]
  ·rw[a8 y,xj hi,a8 (λe=>y e.symm)]
 ·rw[dZ (l:=km n c') (by rw[rM];omega),dZ (l:=km n c) (by rw[rM];omega)];split
  ·split
   ·rename_i h1 h2;rw[rM]at h2;omega
   ·rfl
  ·rfl
theorem vw{c:Nat->Int}(h:∀i,i<n->c i=c' i):km n c=km n c':=by
 unfold km;exact eQ λi hi=>by rw[h i (dJ.1 hi)]
theorem Hf{c:Nat->Int}{x:Int}(h:∀i,i<n->c i=x):km n c=List.replicate n (.int .i32 x):=by
 rw[n3];refine⟨rM n c,λv y=>?_⟩;obtain⟨i,hi,rfl⟩:=fC.1 y;rw[h i (dJ.1 hi)]
def kE(w:World)(b:Nat)(R:Option Nat)(sw sh:Nat)(c:Nat->Int):Prop :=
 (∀i,i<sw*sh->-2147483648<=c i/\c i<=2147483647)/\match R with
 |none=>∃x:Int,eL w b 164 [ii sw,ii sh,.iface 333 (.int .i32 x)]/\(-2147483648<=x/\x<=2147483647)/\∀i,i<sw*sh->c i=x
 |some g=>∃cap,eL w b 164 [ii sw,ii sh,.iface 166 (.slice (some ⟨g,0,none⟩) (sw*sh) cap)]/\gH w 21 1 (some ⟨g,0,none⟩) (sw*sh) cap (km (sw*sh) c)
theorem MA(x:Value)(w:World):(method (prog.types.size+Made.depth) 333 x "hachure/slab.at").run prog w=.ok (428,x) w:=by kernel_rfl
theorem J9(x:Value)(w:World):(method (prog.types.size+Made.depth) 166 x "hachure/slab.at").run prog w=.ok (419,x) w:=by kernel_rfl
theorem Qb(x i:Int)(v:-2147483648<=x/\x<=2147483647)(W:World):Fn prog 428 [.int .i32 x,ii i] W (dp (ii x) W):=by
 refine zI func428 ?_;refine zg ?_;refine Y9 rfl (gC _ om) ?_;refine zX ?_;exact⟨rfl,Gr.refl _⟩
theorem MB(A:Option Addr)(n cap:Nat)(i x:Int)(l:List Value)(J:-2147483648<=x/\x<=2147483647)(W:World)(y:Rd W A l)(v:dO A)(I:0<=i)(h1:i<n)(D:l[i.toNat]?=some (.int .i32 x)) :
  Fn prog 419 [.slice A n cap,ii i] W (dp (ii x) W):=by
 have S:=St.start W;refine zI func419 ?_;(iterate 3 refine z ?_);refine zx ?_;refine dH (eI fV rfl rfl (y.gr S.out) (by simpa using D)) ?_;refine Y9 rfl (gC _ om) ?_;exact zZ
theorem Th{x y:Int}(z:0<=x/\x<sw)(v:0<=y/\y<sh):0<=y*sw+x/\y*sw+x<sw*sh:=by
 obtain⟨b,rfl⟩:=cJ v.1;have h2:_*sw<=sh*sw:=cI _ (om:b+1<=sh);grind
theorem IT{x y w h:Int}(L:1<=w/\w<=1024)(J:1<=h/\h<=1024)(O:0<=x/\x<w)(S:0<=y/\y<h):dF x y x y w h=0:=by
 have v:fL (w-1) 1024=true:=by simp[fL];omega
 have z:fL (h-1) 1024=true:=by simp[fL];omega
 have D:fL x w=true:=by simp[fL];omega
 have I:fL y h=true:=by simp[fL];omega
 simp[dF,v,z,D,I]
theorem Ti(b:Nat)(R:Option Nat)(sw sh:Nat)(c:Nat->Int)(x y:Int)(hw:1<=sw/\sw<=16)(hh:1<=sh/\sh<=16)(hx:0<=x/\x<sw)(hy:0<=y/\y<sh)(W:World)(hS:kE W b R sw sh c) :
  Fn prog 96 [pt b,.agg #[ii x,ii y]] W (dp (.tuple #[ii (c (y*sw+x).toNat),ii 0]) W):=by
 have ab:=Th hx hy;have ae:sw*sh<=16*16:=fy hw.2 hh.2
 have aj:0<=y*sw/\y*sw<=256:=by
  constructor
  ·exact p5 hy.1 om
  ·have:((sw*sh:Nat):Int)<=256:=by exact_mod_cast ae
   push_cast at this;omega
 have Z:(y*sw+x).toNat<sw*sh:=by
  have:((sw*sh:Nat):Int)=(sw:Int)*sh:=by push_cast;rfl
  omega
 have ac:=IT (w:=sw) (h:=sh) om om hx hy;have L:=Gr.refl W;obtain⟨hr,hS⟩:=hS;have ad:=hr _ Z;cases R with
 |none =>
  obtain⟨v,J,hv,hc⟩:=hS;have aa:=hc _ Z;refine zI func96 ?_;refine zg ?_;try have U:=J.lt
  try have U:=L.le
  refine tW (tX rfl) ?_;intro ah V ag D;have J:=J.gr V;have L:=L.trans V;refine zg ?_;first|refine dH (fx xa rfl (jy _) rfl D rfl rfl) ?_|refine dH (fx xa rfl (jy _) rfl J rfl rfl) ?_
  refine zK (J7 x y _) ?_;rintro _ w1 ⟨rfl,g1⟩;have J:=J.gr g1;have L:=L.trans g1;have D:=D.gr g1;refine zK (wx b sw sh x y x y _ om om _ J) ?_;rintro _ w2 ⟨rfl,g2⟩;have J:=J.gr g2;have L:=L.trans g2;have D:=D.gr g2;refine z ?_;refine z ?_;first|refine dU (ff (b:=true) rfl (f5.2 om)) ?_|refine dU (ff (b:=false) rfl (eo.2 om)) ?_|refine dU (jx rfl) ?_
  refine zc ?_;refine eX (by rw[ac];rfl) ?_;refine zD [0,1,2,3,4,5,6,7,8,9,10,11,12,13,14,15,16,17,18] [] ?_;first|refine fo (λwq I=>cV k5 rfl rfl (D.gr I) rfl) ?_|refine fo (λwq I=>cV k5 rfl rfl (J.gr I) rfl) ?_
  refine zQ ?_;first|refine fo (λwq I=>cV iY rfl rfl (D.gr I) rfl) ?_|refine fo (λwq I=>cV iY rfl rfl (J.gr I) rfl) ?_
  refine zQ ?_;first|refine fo (λwq I=>cV iY rfl rfl (D.gr I) rfl) ?_|refine fo (λwq I=>cV iY rfl rfl (J.gr I) rfl) ?_
  refine zQ ?_;first|refine fo (λwq I=>cV iY rfl rfl (D.gr I) rfl) ?_|refine fo (λwq I=>cV iY rfl rfl (J.gr I) rfl) ?_
  refine zQ ?_;refine Fb rfl (MA _) rfl (λwq I=>(Qb v _ hv wq).mono (λ_ _⟨hv,hg⟩=>⟨hv,I.trans hg⟩)) ?_;refine zQ ?_;refine vZ ?_;intro ai O;have J:=J.gr O;have L:=L.trans O;have D:=D.gr O;refine zX ?_;exact⟨by rw[aa],L⟩
 |some g =>
  obtain⟨cap,J,S⟩:=hS;have aa:=xj (c:=c) Z;refine zI func96 ?_;refine zg ?_;try have U:=J.lt
  try have U:=L.le
  try have U:=S.lt
  refine tW (tX rfl) ?_;intro ah V ag D;have J:=J.gr V;have L:=L.trans V;have S:=S.gr V;refine zg ?_;first|refine dH (fx xa rfl (jy _) rfl D rfl rfl) ?_|refine dH (fx xa rfl (jy _) rfl S rfl rfl) ?_|refine dH (fx xa rfl (jy _) rfl J rfl rfl) ?_
  refine zK (J7 x y _) ?_;rintro _ w1 ⟨rfl,g1⟩;have J:=J.gr g1;have L:=L.trans g1;have S:=S.gr g1;have D:=D.gr g1;refine zK (wx b sw sh x y x y _ om om _ J) ?_;rintro _ w2 ⟨rfl,g2⟩;have J:=J.gr g2;have L:=L.trans g2;have S:=S.gr g2;have D:=D.gr g2;refine z ?_;refine z ?_;first|refine dU (ff (b:=true) rfl (f5.2 om)) ?_|refine dU (ff (b:=false) rfl (eo.2 om)) ?_|refine dU (jx rfl) ?_
  refine zc ?_;refine eX (by rw[ac];rfl) ?_;refine zD [0,1,2,3,4,5,6,7,8,9,10,11,12,13,14,15,16,17,18] [] ?_;first|refine fo (λwq I=>cV k5 rfl rfl (D.gr I) rfl) ?_|refine fo (λwq I=>cV k5 rfl rfl (S.gr I) rfl) ?_|refine fo (λwq I=>cV k5 rfl rfl (J.gr I) rfl) ?_
  refine zQ ?_;first|refine fo (λwq I=>cV iY rfl rfl (D.gr I) rfl) ?_|refine fo (λwq I=>cV iY rfl rfl (S.gr I) rfl) ?_|refine fo (λwq I=>cV iY rfl rfl (J.gr I) rfl) ?_
  refine zQ ?_;first|refine fo (λwq I=>cV iY rfl rfl (D.gr I) rfl) ?_|refine fo (λwq I=>cV iY rfl rfl (S.gr I) rfl) ?_|refine fo (λwq I=>cV iY rfl rfl (J.gr I) rfl) ?_
  refine zQ ?_;first|refine fo (λwq I=>cV iY rfl rfl (D.gr I) rfl) ?_|refine fo (λwq I=>cV iY rfl rfl (S.gr I) rfl) ?_|refine fo (λwq I=>cV iY rfl rfl (J.gr I) rfl) ?_
  refine zQ ?_;refine Fb rfl (J9 _) rfl (λwq I=>(MB _ _ cap _ _ _ ad wq (S.gr I).rd (pS _ _) ab.1 (by push_cast;exact ab.2) aa).mono (λ_ _⟨hv,hg⟩=>⟨hv,I.trans hg⟩)) ?_;refine zQ ?_;refine vZ ?_;intro ai O;have J:=J.gr O;have L:=L.trans O;have S:=S.gr O;have D:=D.gr O;refine zX ?_;exact⟨rfl,L⟩
theorem Qc(c:Int)(v:0<=c)(h1:c<4294967296):bits .and .u64 c 4294967295=c:=by
 rw[u64_and c 4294967295 v om om om]
 have:c.toNat&&& (4294967295:Int).toNat=c.toNat:=by
  have e:(4294967295:Int).toNat=2^32-1:=by decide
  rw[e,Nat.and_two_pow_sub_one_eq_mod];exact dT om
 rw[this];omega
section
variable{ps:String}
theorem tx{op:BinOp}{y:Operand}{b c:Int}(z:ev e x=.int .u64 a)(D:ev e y=.int .u64 b)(v:(binOp op t (.int .u64 a) (.int .u64 b)).run P w=.ok (.int .u64 c) w):gd P e ⟨d,.binOp op t x y t',ty,ps,af,none⟩ w (.int .u64 c):=by
 simp[gd,execOp,z,D,eqGuard,v]
theorem un{b c:Int}(h:a*b=c)(v:0<=c/\c<18446744073709551616)(w:World):(binOp .mul t (.int .u64 a) (.int .u64 b)).run P w=.ok (.int .u64 c) w:=by
 have:IntKind.u64.wrap (a*b)=c:=by rw[h,gQ];omega
 simp[binOp,Op.intArith,this]
theorem wh{b c:Int}(h:a+b=c)(v:0<=c/\c<18446744073709551616)(w:World):(binOp .add t (.int .u64 a) (.int .u64 b)).run P w=.ok (.int .u64 c) w:=by
 have:IntKind.u64.wrap (a+b)=c:=by rw[h,gQ];omega
 simp[binOp,Op.intArith,this]
theorem x7(v:0<=a)(h1:a<4294967296)(w:World):(binOp .and t (.int .u64 a) (.int .u64 4294967295)).run P w=.ok (.int .u64 a) w:=by
 have:=Qc a v h1;simp only[binOp];have h2:(Op.intBits .and .u64 a 4294967295).run P w=.ok (.int .u64 (bits .and .u64 a 4294967295)) w:=rfl;simp[h2,this]
theorem IU(v:0<=a)(h1:a<4294967296)(w:World)(k:IntKind):(binOp .shr t (.int .u64 a) (.int k 32)).run P w=.ok (.int .u64 0) w:=by
 have:a.fdiv 4294967296=0:=by
  rw[jp _ om];omega
 simp[binOp,Op.shift,IntKind.bits,this]
theorem B6{y:Operand}{k:IntKind}(z:ev e x=.int .u64 a)(D:ev e y=.int k 32)(v:0<=a)(h1:a<4294967296):gd P e ⟨d,.binOp .shr t x y t',ty,ps,af,none⟩ w (.int .u64 0):=by
 simp[gd,execOp,z,D,eqGuard,IU v h1 w k]
theorem EZ{y:Operand}{c:Int}{b:Bool}(z:ev e x=.int .u64 a)(D:ev e y=.int .u64 c)(v:decide (a>c)=b):iE P e ⟨d,.binOp .gtr t x y t',ty,ps,af,none⟩ (.bool b):=by
 intro w;subst v;simp[gd,execOp,z,D,eqGuard,binOp,Op.intCmp]
end
theorem Tj(c:Int)(v:0<=c)(h1:c<4294967296)(W:World):Fn prog 276 [.int .u64 1,.int .u64 c] W (dp (.tuple #[.int .u64 0,.int .u64 c]) W):=by
 refine zI func276 ?_;refine zg ?_;refine dH (tx rfl rfl (x7 (a:=1) om om _)) ?_;refine zg ?_;refine dH (B6 rfl rfl om om) ?_;refine zg ?_;refine dH (tx rfl rfl (x7 v h1 _)) ?_;refine zg ?_;refine dH (B6 rfl rfl v h1) ?_;refine zg ?_;refine dH (tx rfl rfl (un (c:=c) om om _)) ?_;refine zg ?_;refine dH (tx rfl rfl (un (c:=0) om om _)) ?_;refine zg ?_;refine dH (B6 rfl rfl v h1) ?_;refine dH (tx rfl rfl (wh (c:=0) om om _)) ?_;refine zg ?_;refine dH (tx rfl rfl (x7 (a:=0) om om _)) ?_;refine zg ?_;refine dH (B6 rfl rfl om om) ?_;refine zg ?_;refine dH (tx rfl rfl (un (c:=0) om om _)) ?_;refine dH (tx rfl rfl (wh (c:=0) om om _)) ?_;refine zg ?_;refine dH (tx rfl rfl (un (c:=0) om om _)) ?_;refine zg ?_;refine dH (tx rfl rfl (wh (c:=0) om om _)) ?_;refine zg ?_;refine dH (B6 rfl rfl om om) ?_;refine dH (tx rfl rfl (wh (c:=0) om om _)) ?_;refine zg ?_;refine dH (tx rfl rfl (un (c:=c) om om _)) ?_;refine zX ?_;exact⟨rfl,Gr.refl _⟩
theorem Tk(c:Int)(y:0<=c)(h1:c<4294967296)(W:World):Fn prog 225 [.int .u64 1,.int .u64 c] W (dp (.tuple #[.int .u64 0,.int .u64 c]) W):=by
 refine zI func225 ?_;refine zK (Tj c y h1 _) ?_;rintro _ z ⟨rfl,v⟩;refine zX ?_;exact⟨rfl,v⟩
theorem Qd:(prog.info? 21).map (λi=>(i.zero,i.size,i.bytes))=some (some (.int .i32 0),1,4):=by kernel_rfl
theorem re(n:Int)(h:0<=n/\n<18446744073709551616):IntKind.u64.wrap n=n:=by rw[gQ];omega
theorem Qe(g:Nat)(v:Value)(n:Nat)(hn:1<=n/\n<=256)(hv:v.oneCell'=true)(W:World)(D:eL W g 21 [v]) :
  Fn prog 325 [.slice (some ⟨g,0,none⟩) 1 1,ii n] W
   (λr w'=>∃b,r=.slice (some ⟨b,0,none⟩) n n/\W.heap.size<=b/\eL w' b 21 (List.replicate n v)/\Gr W w'):=by
 have y:=Gr.refl W;refine zI func325 ?_;refine zg ?_;refine Y9 rfl (re _ om) ?_;refine zg ?_;refine Y9 rfl (re _ om) ?_;refine zK (Tk n om om _) ?_;rintro _ Z ⟨rfl,g1⟩;have D:=D.gr g1;have y:=y.trans g1;refine zg ?_;refine dU (EZ rfl rfl (b:=false) (iO om)) ?_;refine zg ?_;refine dr rfl ?_;refine dU (EZ rfl rfl (b:=false) (iO om)) ?_;refine zg ?_;refine Y9 rfl (gC _ om) ?_;try have S:=D.lt
 try have S:=y.le
 refine tW (Hy gB Qd rfl rfl rfl (n:=n) (c:=n) om om om om) ?_;intro am J al aa;have D:=D.gr J;have y:=y.trans J;refine zg ?_;have ag:=y.le;have ak:=D.lt;refine zg ?_;refine J3 gB je rfl rfl aa D (n:=1) om rfl rfl (by simp;omega) (by simpa using hv) ?_;intro w3 g3 s3 b3;refine zg ?_;have y:=y.store g3 om;refine zg ?_
 refine dl (λm e w=>∃k:Nat,1<=k/\k<=n/\k+m=n/\SL e [(7,.slice (some ⟨Z.heap.size,0,none⟩) n n),(8,ii k)]/\(∃l,eL w Z.heap.size 21 l/\l.length=n/\∀i,i<k->l[i]?=some v)/\Gr W w) (n-1)
  ⟨1,om,om,om,sl,⟨_,b3,by simp;omega,λi hi=>(by rw[(om:i=0)];simp)⟩,y⟩ ?_
 rintro m e w ⟨k,ah,ai,aj,ad,⟨l,hL,ae,U⟩,hg⟩;rw[ad.fold];iterate 3 refine z ?_
 first|refine dU (ff (b:=true) rfl (fD om)) ?_|refine dU (ff (b:=false) rfl (iO om)) ?_|refine dU (jx rfl) ?_
 refine zc ?_;refine tV rfl (λhc=>?_) (λhc=>?_)
 ·refine gO ?_;try show CW _ _ _ _ _ _
  have O:k<n:=by simp at hc;omega
  have I:∀u,u∈l.take k->u=v:=λu V=>by
   obtain⟨i,hi,rfl⟩:=gK.1 V;have ab:i<k:=by simp at hi;omega
   have:=U i ab;rw[List.getElem_take];rw[fw om]at this;exact Option.some.inj this
  refine zH (C:=(λσ wq=>match σ with|[]=>wq=w.drew|v0::_=>v0=ii (min k (n-k):Nat)/\w.grownBy wq (some Z.heap.size)/\eL wq Z.heap.size 21 (l.take k++l.take (min k (n-k))++l.drop (k+min k (n-k))))) [7] [0,1,2,3,4,5,6,7,8,9] [] rfl ?_;refine ot rfl (D6 gB je rfl rfl om om om) ?_;refine zR ?_;refine ot rfl (jb gB je rfl rfl om om) ?_;refine de rfl rfl (λwq hq=>?_) ?_
  ·subst hq;refine Te (Fd gB je rfl rfl hL.drew hL.drew (n:=min k (n-k)) (by simp) rfl (by simp;omega) om (λu V=>by rw[I u (by simp only[dR,cG]at V;exact(pu l (Nat.min_le_left _ _)) V)];exact hv)) ?_;rintro w' ⟨h2,h3,h4⟩;exact⟨rfl,⟨h2.os,h2.tape,h2.output,h2.size,h2.block⟩,by simpa using h4⟩
  rintro v0 an ⟨rfl,gq,bq⟩;refine zY ?_;rintro w4 ⟨_,g4,b4⟩;refine ze ?_;refine⟨m-min k (n-k),om,k+min k (n-k),om,om,om,sl,⟨_,b4,by simp;omega,λi hi=>?_⟩,?_⟩
  ·by_cases L:i<k
   ·rw[cL,gt (by simp;omega)];simp[L,U i L]
   ·rw[cL,fU (by simp;omega),gt (by simp;omega)];simp only[d7];rw[fJ,a7 om];exact U _ om
  ·exact hg.store g4 om
 ·refine pD ?_;show CW _ _ _ _ _ _;refine z ?_;refine z ?_;refine ze ?_;have O:k=n:=by simp at hc;omega
  subst O
  have ac:l=List.replicate k v:=by
   apply gG;intro i;by_cases hi:i<k
   ·rw[U i hi];simp[hi]
   ·rw[dZ om];simp[hi]
  subst ac;exact mJ (ir rfl ⟨_,rfl,g1.le,hL,hg⟩)
theorem Qf:(prog.info? 21).map (λi=>(i.zero,i.size,i.bytes))=some (some (.int .i32 0),1,4):=by kernel_rfl
theorem jR:(prog.info? 2).map (λi=>(i.zero,i.size,i.bytes))=some (some (ii 0),1,8):=by kernel_rfl
theorem rN:(prog.info? 3).map (λi=>(i.zero,i.size,i.bytes))=some (some (ii 0),1,8):=by kernel_rfl
theorem abq:(prog.info? 24).map (λi=>(i.zero,i.size,i.bytes))=some (some (.agg #[ii 0,ii 0]),2,16):=by kernel_rfl
theorem Ns:(prog.info? 158).map (λi=>(i.zero,i.size,i.bytes))=some (some (.agg #[ii 0,ii 0]),2,16):=by kernel_rfl
theorem WU:(prog.info? 228).map (λi=>(i.zero,i.size,i.bytes))=some (some (.agg #[ii 0,ii 0,ii 0,ii 0,ii 0,ii 0,ii 0,ii 0]),8,64):=by kernel_rfl
theorem abr:(prog.info? 92).map (λi=>(i.zero,i.size,i.bytes))=some (some (.pointer none),1,8):=by kernel_rfl
theorem XK:(prog.info? 324).map (λi=>(i.zero,i.size,i.bytes))=some (some (.agg #[ii 0,ii 0]),2,16):=by kernel_rfl
theorem O3:(prog.info? 350).map (λi=>(i.zero,i.size,i.bytes))=some (some (.agg #[ii 0,.slice none 0 0]),2,32):=by kernel_rfl
def Fm(w wq:World)(el k n:Nat)(xs:List Value)(v:Value):Prop:=∃A,v=.slice A n n/\gH wq el k A n n xs/\tr w A
theorem Fm.gr{v:Value}(h:Fm w wq el k n xs v)(g:Gr wq w'):Fm w w' el k n xs v:=by
 obtain⟨A,h1,h2,y⟩:=h;exact⟨A,h1,h2.gr g,y⟩
theorem ME{ps:String}{el:TypeId}{y:List (Nat×Operand)}{z:Value}{l0:List Value}(hu:P.underlying t=some (.slice el))(hs:∀w,(sizeOf el).run P w=.ok k w)(hz:∀w,(zeroValue el).run P w=.ok z w)(S:z.cells.toList.length=k)(D:Nat.beq (n*k) 0=false)(O:Nat.ble (n*k) 16777216=true)(h1:yS (λi=>some (i*k,k)) ((List.replicate n z.cells.toList).flatten) (yQ e y)=some l0)(h2:lj l0=some l)(U:Nat.beq l.length (n*k)=true)(g0:Gr w0 w)(Z:∀v w',Gr w w'->Fm w0 w' el k n l v->R v w'):gI P e ⟨d,.buildSlice t n y.toArray,ty,ps,af,none⟩ w R:=by
 refine AY (mu hu hs hz S D O h1 h2) (Z _ _ (Gr.alloc _ _) ?_);have I:n*k≠0:=by intro h;rw[h]at D;cases D
 have L:0<k:=fT λh=>by rw[h]at I;simp at I
 have V:n<=n*k:=eS _ L;exact⟨_,rfl,gH.of_blk (eL.new _ _ _) (eU U) (by have:=eC O;unfold maxLen;omega),λg J=>by injection J with J;have:=g0.le;dsimp at J;omega⟩
theorem Qh(b:Nat)(y v1:Value)(A:Option Addr)(n c:Nat)(W:World)(v:eL W b 164 [y,v1,.iface 166 (.slice A n c)]) :
  Fn prog 306 [pt b] W (dp (.slice A n c) W):=by
 have S:=St.start W;refine zI func306 ?_;iterate 4 refine z ?_
 refine dH (cV k5 rfl rfl (v.gr S.out) rfl) ?_;refine dU (x4 gB rfl rfl) ?_;exact zZ
theorem IV(b sw sh:Nat)(x:Int)(hx:-2147483648<=x/\x<=2147483647)(hw:1<=sw/\sw<=16)(hh:1<=sh/\sh<=16)(W:World)(hB:eL W b 164 [ii sw,ii sh,.iface 333 (.int .i32 x)]) :
  Fn prog 306 [pt b] W (λr w'=>∃g,r=.slice (some ⟨g,0,none⟩) (sw*sh) (sw*sh)/\W.heap.size<=g /\
   eL w' b 164 [ii sw,ii sh,.iface 166 (.slice (some ⟨g,0,none⟩) (sw*sh) (sw*sh))]/\eL w' g 21 (List.replicate (sw*sh) (.int .i32 x))/\Fr (λg=>g=b) W w'):=by
 have S:=St.start1 W (.blk b 164 [ii sw,ii sh,.iface 333 (.int .i32 x)]) hB;have hm:1<=sw*sh/\sw*sh<=16*16:=⟨fy hw.1 hh.1,fy hw.2 hh.2⟩;have ac:(sw:Int)*sh=((sw*sh:Nat):Int):=by push_cast;rfl
 refine zI func306 ?_;refine zg ?_;refine dU (xg gB rfl rfl rfl JV) ?_;refine zg ?_;have hB:=S.blk (i:=0) rfl;refine zH (C:=(λσ wq=>Gr W wq/\(match σ with|[]=>True|v::_=>Fm W wq 21 1 1 [.int .i32 x] v))) [5] [0,1,2,3,4,6,7,8,9,10,11,12,13,14,5] [15,16] ⟨Gr.drew _,trivial⟩ ?_;refine zV (λτ wq y=>((S.gr y.1).blk (i:=0) rfl)) ?_;refine ot rfl (yU gF rfl rfl rfl) ?_;refine zV (λτ wq y=>((S.gr y.1).blk (i:=0) rfl)) ?_;refine zV (λτ wq y=>((S.gr y.1).blk (i:=0) rfl)) ?_;refine zR ?_;refine de rfl rfl (λwq y=>ME gB je zeroValue21 rfl rfl rfl rfl rfl rfl y.1 (λv w' g h=>⟨y.1.trans g,h⟩)) ?_;rintro v5 w5 ⟨_,A5,rfl,_,_⟩;refine zY ?_;rintro ad ⟨z,V⟩;have S:=S.gr z;have ab:=S.le;obtain⟨A6,O,L,aa⟩:=V;injection O with h61;subst h61;obtain⟨g5,rfl,I⟩:=L.one;refine zK (Qe g5 (.int .i32 x) (sw*sh) om rfl _ I) ?_;rintro _ ae ⟨Z,rfl,U,J,D⟩;have S:=S.push D (h:=.blk Z 21 _) J (λg hg=>by rw[hg];exact U);refine zg ?_;refine dU (jn gB rfl rfl) ?_;refine zS ?_;intro ag S;exact ir rfl ⟨Z,rfl,om,S.blk (i:=1) rfl,S.blk (i:=0) rfl,S.fr⟩
theorem Fo(A:Option Addr)(n c fid:Nat)(caps:List Value)(xs:List Int)(hn:n=xs.length)(ab:n<=9223372036854775807)(p:Int->Bool)(W:World)(U:Rd W A (xs.map (.int .i32)))(hf:∀x∈xs,∀w',Gr W w'->Fn prog fid ([]++[.int .i32 x]++caps) w' (dp (.bool (p x)) w')) :
  Fn prog 326 [.slice A n c,.func (.func fid) (([]:List Value).toArray) caps.toArray] W (λv w'=>∃r:Int,v=ii r/\Gr W w'/\(0<=r↔xs.any p=true)):=by
 subst hn;have S:=St.start W;refine zI func326 ?_;refine zg ?_
 refine dl (λm e w=>∃k:Nat,k+m=xs.length/\SL e [(0,.slice A xs.length c),(1,.func (.func fid) (([]:List Value).toArray) caps.toArray),(7,ii xs.length),(8,ii k)]/\(∀i x,i<k->xs[i]?=some x->p x=false)/\St No W w []) xs.length
  ⟨0,om,sl,λi x hi=>by omega,S⟩ ?_
 rintro m e w ⟨k,aa,L,V,S⟩;rw[L.fold];refine zB ?_ ?_
 ·intro hc;obtain⟨x,D⟩:∃x,xs[k]?=some x:=⟨xs[k],fw om⟩;have Z:dO A:=U.someA (by simp;omega);have ac:(xs.map (Value.int .i32))[(k:Int).toNat * 1]?=some (.int .i32 x):=by simp[D]
  refine zT (U.gr S.out) (by assumption) ?_;refine ju rfl rfl (hf x (dD D) _ S.out) ?_;rintro _ ad ⟨rfl,I⟩;have S:=S.gr I;refine zB ?_ ?_
  ·intro z;refine zX ?_;exact⟨_,rfl,S.out,by simp;exact⟨x,dD D,z⟩⟩
  ·intro z;refine zg ?_
   exact⟨m-1,om,k+1,om,sl,λi y hi O=>by
    by_cases J:i=k
    ·subst J;rw[D]at O;cases O;exact z
    ·exact V i y om O,S⟩
 ·intro hc;refine zg ?_;refine ir rfl ⟨_,rfl,S.out,?_⟩;simp only[jZ];refine⟨λh=>by omega,λ⟨x,D,z⟩=>?_⟩;obtain⟨i,hi,rfl⟩:=gK.1 D;rw[V i _ om (fw hi)]at z;cases z
theorem xk(A:Option Addr)(n c fid:Nat)(caps:List Value)(xs:List Int)(I:n=xs.length)(y:n<=9223372036854775807)(p:Int->Bool)(W:World)(z:Rd W A (xs.map (.int .i32)))(D:∀x∈xs,∀w',Gr W w'->Fn prog fid ([]++[.int .i32 x]++caps) w' (dp (.bool (p x)) w')) :
  Fn prog 307 [.slice A n c,.func (.func fid) (([]:List Value).toArray) caps.toArray] W (dp (.bool (xs.any p)) W):=by
 have S:=St.start W;refine zI func307 ?_;refine zK (Fo A n c fid caps xs I y p _ (z.gr S.out) (by intro x L w' g;exact D x L w' (S.out.trans g))) ?_;rintro _ O ⟨r,rfl,v,J⟩;have S:=S.gr v;refine zX ?_;exact⟨be (by rw[iq,<-J];simp),S.out⟩
theorem Ka(C:Nat)(A:Option Addr)(n c:Nat)(x x0:Int)(xs:List Value)(I:0<n)(W:World)(D:eL W C 166 [.slice A n c])(v:Rd W A (.int .i32 x0::xs)) :
  Fn prog 308 ([]++[.int .i32 x]++[pt C]) W (dp (.bool (x !=x0)) W):=by
 have y:dO A:=v.someA (by simp);have S:=St.start W;refine zI func308 ?_;refine z ?_;refine z ?_;refine dH (cV gB rfl rfl (D.gr S.out) rfl) ?_;refine zx ?_;refine dH (eI fV rfl rfl (v.gr S.out) rfl) ?_;exact zZ
def su(sw:Nat)(x0 y0 x1 y1:Int)(i:Nat):Prop:=x0<=(i%sw:Nat)/\((i%sw:Nat):Int)<=x1/\y0<=(i/sw:Nat)/\((i/sw:Nat):Int)<=y1
instance (sw:Nat)(x0 y0 x1 y1:Int)(i:Nat):Decidable (su sw x0 y0 x1 y1 i):=by unfold su;infer_instance
def ik(sw:Nat)(x0 y0 x1 y1 v:Int)(c:Nat->Int):Nat->Int:=λi=>if su sw x0 y0 x1 y1 i then v else c i
def IW(W:World)(b:Nat)(R:Option Nat)(sw sh:Nat)(c:Nat->Int)(w':World):Prop:=∃R',kE w' b R' sw sh c/\Fr (λg=>g=b\/R=some g) W w'/\∀g,R'=some g->R=some g\/W.heap.size<=g
theorem kE.mayC{R:Option Nat}{c:Nat->Int}(h:kE w b R sw sh c){x0 y0 x1 y1 v:Int}(y:-2147483648<=v/\v<=2147483647):∀i,i<sw*sh->-2147483648<=ik sw x0 y0 x1 y1 v c i/\ik sw x0 y0 x1 y1 v c i<=2147483647:=λi hi=>by
 unfold ik;split
 ·exact y
 ·exact h.1 i hi
theorem gW{x0 y0 x1 y1 w h:Int}(S:1<=w/\w<=1024)(O:1<=h/\h<=1024)(U:0<=x0/\x0<=x1/\x1<w)(V:0<=y0/\y0<=y1/\y1<h):dF x0 y0 x1 y1 w h=0:=by
 have v:fL (w-1) 1024=true:=by simp[fL];omega
 have y:fL (h-1) 1024=true:=by simp[fL];omega
 have z:fL x0 w=true:=by simp[fL];omega
 have D:fL y0 h=true:=by simp[fL];omega
 have I:fL x1 w=true:=by simp[fL];omega
 have J:fL y1 h=true:=by simp[fL];omega
 have L:¬(x1<x0\/y1<y0):=om;simp[dF,v,y,z,D,I,J];omega
theorem Qi{x0 y0 x1 y1:Int}(I:0<=x0/\x0<=x1/\x1<sw)(J:0<=y0/\y0<=y1/\y1<sh)(h:(x1-x0+1)*(y1-y0+1)=sw*sh):x0=0/\y0=0/\x1=sw-1/\y1=sh-1:=by
 have h1:(x1-x0+1)*(y1-y0+1)<=(x1-x0+1)*sh:=li om om;have h2:(x1-x0+1)*sh<=sw*sh:=fu om om;have y:(x1-x0+1)*sh=sw*sh:=om;have v:(x1-x0+1)*(y1-y0+1)=(x1-x0+1)*sh:=om;have z:x1-x0+1=sw:=Int.eq_of_mul_eq_mul_right om y;have D:y1-y0+1=sh:=Int.eq_of_mul_eq_mul_left om v;clear h1 h2 v y h;omega
theorem Qj(v:1<=sw)(hi:i<sw*sh){x1 y1:Int}(y:x1=sw-1)(z:y1=sh-1):su sw 0 0 x1 y1 i:=by
 have h1:i%sw<sw:=dt _ om;have h2:i/sw<sh:=cS hi;unfold su;generalize i%sw=p at *;generalize i/sw=q at *;omega
theorem D9{t:Nat}(D:eL w b t l)(I:gH w el k A n c xs)(y:t≠el):¬jv A b:=by
 intro z;rcases I.form with⟨rfl,_⟩|⟨g,l',rfl,v,_⟩
 ·cases z
 ·have:g=b:=by injection z
  subst this;exact y (D.inj v).1
theorem IX(b sw sh:Nat)(R:Option Nat)(c:Nat->Int)(x0 y0 x1 y1 v:Int)(hw:1<=sw/\sw<=16)(hh:1<=sh/\sh<=16)(hx:0<=x0/\x0<=x1/\x1<sw)(hy:0<=y0/\y0<=y1/\y1<sh)(y:-2147483648<=v/\v<=2147483647)(J:Value)(ae:J=.iface 333 (.int .i32 v) \/
  ((∃u,J=.iface 333 (.int .i32 u)/\u≠v)\/(∃A n c,J=.iface 166 (.slice A n c)))/\(x1-x0+1)*(y1-y0+1)=sw*sh)(W:World)(hB:eL W b 164 [ii sw,ii sh,J]) :
  Fn prog 296 [pt b,.agg #[ii x0,ii y0,ii x1,ii y1],ii v] W
   (λr w'=>r=ii 0/\eL w' b 164 [ii sw,ii sh,.iface 333 (.int .i32 v)]/\Fr (λg=>g=b) W w'):=by
 have D:dF x0 y0 x1 y1 sw sh=0:=gW om om om om;have hm:sw*sh<=16*16:=fy hw.2 hh.2;have ai:(sw:Int)*sh=((sw*sh:Nat):Int):=by push_cast;rfl
 have S:=St.start1 W (.blk b 164 [ii sw,ii sh,J]) hB;rcases ae with rfl|⟨⟨u,rfl,aj⟩|⟨A,n,cp,rfl⟩,ah⟩
 ·skip;refine zI func296 ?_;refine yA ?_;intro _ _ S;refine zC (wx b sw sh x0 y0 x1 y1 _ om om _ (S.blk (i:=1) rfl)) ?_;intro Z L S;refine z ?_;refine z ?_;refine zf ?_;refine zc ?_;refine eX (by rw[D];rfl) ?_;refine zC (Fi _ _) ?_;intro aa O S;refine z ?_;refine zc ?_;refine eX (by rw[(u0 v).2 y];rfl) ?_;refine zg ?_;refine dU (x4 gF rfl rfl) ?_;refine zD [0,1,2,3,4,5,6,7,8,9,10,11,12,13,14,15,16,17,18,19,20] [] ?_;try (refine fO rfl ?_;refine eO (dY iY gF rfl (wg _ y)) ?_)
  refine zQ ?_;try (refine fO rfl ?_;refine nA rfl (λwq V=>(qc _ _ _ _ om wq).mono (λ_ _⟨y,hg⟩=>⟨y,V.trans hg⟩)) ?_)
  refine zE ?_;intro ab U S;refine Y9 rfl (wg _ y) ?_;refine dU (jn gF rfl rfl) ?_;refine zS ?_;intro ac S;exact ir rfl ⟨rfl,S.blk (i:=1) rfl,S.fr⟩
 ·skip;refine zI func296 ?_;refine zN ?_;intro I ag ad S;refine zC (wx b sw sh x0 y0 x1 y1 _ om om _ (S.blk (i:=1) rfl)) ?_;intro Z L S;refine z ?_;refine z ?_;refine zf ?_;refine zc ?_;refine eX (by rw[D];rfl) ?_;refine zC (Fi _ _) ?_;intro aa O S;refine z ?_;refine zc ?_;refine eX (by rw[(u0 v).2 y];rfl) ?_;refine zg ?_;refine dU (x4 gF rfl rfl) ?_;refine zD [0,1,2,3,4,5,6,7,8,9,10,11,12,13,14,15,16,17,18,19,20] [] ?_;try (refine fO rfl ?_;refine eO (dY iY gF rfl (wg _ y)) ?_)
  refine zQ ?_;try (refine fO rfl ?_;refine nA rfl (λwq V=>(qc _ _ _ _ om wq).mono (λ_ _⟨y,hg⟩=>⟨y,V.trans hg⟩)) ?_)
  refine zE ?_;intro ab U S;refine Y9 rfl (wg _ y) ?_;refine dU (jn gF rfl rfl) ?_;refine zS ?_;intro ac S;exact ir rfl ⟨rfl,S.blk (i:=1) rfl,S.fr⟩
 ·skip;refine zI func296 ?_;refine zN ?_;intro I ag ad S;refine zC (wx b sw sh x0 y0 x1 y1 _ om om _ (S.blk (i:=1) rfl)) ?_;intro Z L S;refine z ?_;refine z ?_;refine zf ?_;refine zc ?_;refine eX (by rw[D];rfl) ?_;refine zC (Fi _ _) ?_;intro aa O S;refine z ?_;refine zc ?_;refine eX (by rw[(u0 v).2 y];rfl) ?_;refine zg ?_;refine dU (xg gF rfl rfl rfl zeroValue333) ?_;refine zD [0,1,2,3,4,5,6,7,8,9,10,11,12,13,14,15,16,17,18,19,20] [] ?_;try (refine fO rfl ?_;refine eO (dY iY gF rfl (gC _ om)) ?_)
  refine zQ ?_;try (refine fO rfl ?_;refine nA rfl (λwq V=>(qc _ _ _ _ om wq).mono (λ_ _⟨y,hg⟩=>⟨y,V.trans hg⟩)) ?_)
  refine zE ?_;intro ab U S;refine Y9 rfl (wg _ y) ?_;refine dU (jn gF rfl rfl) ?_;refine zS ?_;intro ac S;exact ir rfl ⟨rfl,S.blk (i:=1) rfl,S.fr⟩
theorem B7{x0 y0 x1 y1 v:Int}{c:Nat->Int}(h:x1<x0\/y1<y0)(i:Nat):ik sw x0 y0 x1 y1 v c i=c i:=by
 unfold ik;rw[a8];unfold su;omega
theorem MF{x0 y0 x1 v:Int}{c:Nat->Int}(z:y0<=Y)(i:Nat):ik sw x0 Y x1 Y v (ik sw x0 y0 x1 (Y-1) v c) i=ik sw x0 y0 x1 Y v c i:=by
 have y:su sw x0 y0 x1 Y i↔su sw x0 Y x1 Y i\/su sw x0 y0 x1 (Y-1) i:=by
  unfold su;generalize ((i%sw:Nat):Int)=p;generalize ((i/sw:Nat):Int)=q;omega
 unfold ik;by_cases h1:su sw x0 Y x1 Y i
 ·rw[a7 h1,a7 (y.2 (.inl h1))]
 ·rw[a8 h1];by_cases h2:su sw x0 y0 x1 (Y-1) i
  ·rw[a7 h2,a7 (y.2 (.inr h2))]
  ·rw[a8 h2,a8 (λh=>(y.1 h).elim h1 h2)]
theorem MG{X:Int}(z:0<=X/\X<sw)(D:0<=Y)(i:Nat):((i%sw:Nat):Int)=X/\((i/sw:Nat):Int)=Y↔i=(Y*sw+X).toNat:=by
 obtain⟨a,rfl⟩:=cJ z.1;obtain⟨b,rfl⟩:=cJ D
 have h1:((b:Int)*sw+a).toNat=b*sw+a:=by
  have:((b:Int)*sw+a)=((b*sw+a:Nat):Int):=by push_cast;rfl
  rw[this];exact b7 _
 have y:a<sw:=om;rw[h1];constructor
 ·rintro⟨h2,v⟩;have h2:i%sw=a:=by exact_mod_cast h2
  have v:i/sw=b:=by exact_mod_cast v
  have:=dP i sw;rw[h2,v,cD]at this;exact this.symm
 ·rintro rfl;constructor
  ·rw[j9,dT y]
  ·rw[ka,lU _ _ om,ee y,eH]
theorem Kb{x0 X v:Int}{c:Nat->Int}(z:0<=X/\X<sw)(J:x0<=X)(D:0<=Y)(i:Nat):ik sw x0 Y X Y v c i=if i=(Y*sw+X).toNat then v else ik sw x0 Y (X-1) Y v c i:=by
 have I:=MG z D i
 have y:su sw x0 Y X Y i↔i=(Y*sw+X).toNat\/su sw x0 Y (X-1) Y i:=by
  rw[<-I];unfold su;generalize ((i%sw:Nat):Int)=p;generalize ((i/sw:Nat):Int)=q;omega
 unfold ik;by_cases h1:i=(Y*sw+X).toNat
 ·rw[a7 h1,a7 (y.2 (.inl h1))]
 ·rw[a8 h1];by_cases h2:su sw x0 Y (X-1) Y i
  ·rw[a7 h2,a7 (y.2 (.inr h2))]
  ·rw[a8 h2,a8 (λh=>(y.1 h).elim h1 h2)]
theorem VH{a:Nat}(h:a=j):Value.pointer (some ⟨g,a,none⟩)=.pointer (at_ (some ⟨g,0,none⟩) j):=by rw[h,yW,eH]
theorem MH(v:0<=Y)(h1:Y<sh):0<=Y*sw/\Y*sw+sw<=((sw*sh:Nat):Int)/\(Y+1)*sw=Y*sw+sw:=by
 obtain⟨b,rfl⟩:=cJ v;have h2:(b+1)*sw<=sh*sw:=cI _ om;rw[cX,cD sh sw]at h2;refine⟨p5 om om,?_,by rw[j6,jG]⟩;exact_mod_cast h2
theorem Hg(b sw sh:Nat)(R:Option Nat)(c:Nat->Int)(x0 y0 x1 y1 v:Int)(hw:1<=sw/\sw<=16)(hh:1<=sh/\sh<=16)(hx:0<=x0/\x0<=x1/\x1<sw)(hy:0<=y0/\y0<=y1/\y1<sh)(U:-2147483648<=v/\v<=2147483647)(ao:(x1-x0+1)*(y1-y0+1)≠sw*sh)(W:World)(Z:kE W b R sw sh c)(ar:R=none->∀u,eL W b 164 [ii sw,ii sh,.iface 333 (.int .i32 u)]->u≠v) :
  Fn prog 296 [pt b,.agg #[ii x0,ii y0,ii x1,ii y1],ii v] W
   (λr w'=>r=ii 0/\IW W b R sw sh (ik sw x0 y0 x1 y1 v c) w'):=by
 have aA:dF x0 y0 x1 y1 sw sh=0:=gW om om om om;have hm:1<=sw*sh/\sw*sh<=16*16:=⟨fy hw.1 hh.1,fy hw.2 hh.2⟩;have av:(sw:Int)*sh=((sw*sh:Nat):Int):=by push_cast;rfl
 have L:=Z.mayC (x0:=x0) (y0:=y0) (x1:=x1) (y1:=y1) U;have au:=Z.1;rw[av]at ao;refine yI func296 ?_
 obtain⟨cl,V⟩:∃cl,eL W b 164 [ii sw,ii sh,cl]:=by
  obtain⟨_,h⟩:=Z;cases R with
  |none=>obtain⟨u,h,_⟩:=h;exact⟨_,h⟩
  |some g=>obtain⟨cap,h,_⟩:=h;exact⟨_,h⟩
 refine zN ?_;intro y aZ aR S;refine zC (wx b sw sh x0 y0 x1 y1 _ om om _ (V.gr S.out)) ?_;intro ba aS S;refine z ?_;refine z ?_;refine zf ?_;refine zc ?_;refine eX (by rw[aA];rfl) ?_;refine EO (Fi _) ?_;intro _ S;refine eX (by rw[(u0 v).2 U];rfl) ?_;refine zc ?_;refine gO ?_;try show CW _ _ _ _ _ _
 refine zc ?_;refine gP (M:=λe w=>∃(u:Int)(ok:Bool),SL e [(0,pt b),(2,ii v),(4,pt y),(8,.int .i32 u),(9,.bool ok)]/\(ok=true->u≠v)/\St No W w [.blk y 43 [ii x0,ii y0,ii x1,ii y1]]) ?_ ?_
 ·cases R with
  |none =>
   obtain⟨_,u,D,_⟩:=Z;obtain rfl:cl=.iface 333 (.int .i32 u):=by have:=(V.inj D).2;simpa using this
   refine yA ?_;exact⟨u,true,sl,λ_=>ar rfl u D,S⟩
  |some g =>
   obtain⟨_,cap,D,_⟩:=Z;obtain rfl:=(by have:=(V.inj D).2;simpa using this:cl=.iface 166 (.slice (some ⟨g,0,none⟩) (sw*sh) cap));refine zL (V.gr S.out) ?_;refine dU (xg gF rfl rfl rfl zeroValue333) ?_;refine zg ?_;exact⟨0,false,sl,(λh=>by cases h),S⟩
 ·rintro e1 w1 ⟨u,ok,I,ai,S⟩;rw[I.fold];refine zc ?_;refine gP (M:=λe w=>SL e [(0,pt b),(2,ii v),(4,pt y),(51,.bool false)]/\St No W w [.blk y 43 [ii x0,ii y0,ii x1,ii y1]]) ?_ ?_
  ·rcases ok with _|_
   ·skip;refine zD [0,1,2,3,4,5,6,7,8,9,10,11,12,13,14,15,16,17,18,19,20] [] ?_;try (refine fO rfl ?_;refine eO (dY iY gF rfl (wg _ U)) ?_)
    refine zQ ?_;try (refine fO rfl ?_;refine nA rfl (λwq O=>(qc _ _ _ _ om wq).mono (λ_ _⟨U,hg⟩=>⟨U,O.trans hg⟩)) ?_)
    refine zQ ?_;try (refine fO rfl ?_;refine fo (λwq O=>cV iY rfl rfl (V.gr (S.gr O).out) rfl) ?_)
    refine zQ ?_;try (refine fO rfl ?_;refine fo (λwq O=>cV iY rfl rfl (V.gr (S.gr O).out) rfl) ?_)
    refine zE ?_;intro bb aT S;exact⟨sl,S⟩
   ·have ai:=ai rfl;refine zD [0,1,2,3,4,5,6,7,8,9,10,11,12,13,14,15,16,17,18,19,20] [] ?_;try (refine fO rfl ?_;refine eO (dY iY gF rfl (wg _ U)) ?_)
    refine zQ ?_;try (refine fO rfl ?_;refine nA rfl (λwq O=>(qc _ _ _ _ om wq).mono (λ_ _⟨U,hg⟩=>⟨U,O.trans hg⟩)) ?_)
    refine zQ ?_;try (refine fO rfl ?_;refine fo (λwq O=>cV iY rfl rfl (V.gr (S.gr O).out) rfl) ?_)
    refine zQ ?_;try (refine fO rfl ?_;refine fo (λwq O=>cV iY rfl rfl (V.gr (S.gr O).out) rfl) ?_)
    refine zE ?_;intro bc aU S;exact⟨sl,S⟩
  ·rintro e2 w2 ⟨I,S⟩;have aH:=S.le;rw[I.fold];refine zc ?_;refine eX rfl ?_;refine zc ?_;refine gO ?_;try show CW _ _ _ _ _ _
   refine zc ?_;refine gP (M:=λe w=>∃(g cap C:Nat),SL e [(0,pt b),(2,ii v),(4,pt y),(10,pt C)]/\(R=some g\/W.heap.size<=g)/\St (λg=>g=b\/R=some g) W w [.blk C 166 [.slice (some ⟨g,0,none⟩) (sw*sh) cap],.row 21 1 (some ⟨g,0,none⟩) (sw*sh) cap (km (sw*sh) c),.blk b 164 [ii sw,ii sh,.iface 166 (.slice (some ⟨g,0,none⟩) (sw*sh) cap)],.blk y 43 [ii x0,ii y0,ii x1,ii y1]]) ?_ ?_
   ·cases R with
    |none =>
     obtain⟨_,x,D,aB,aq⟩:=Z;have S:=(S.own1 (.blk b 164 [ii sw,ii sh,.iface 333 (.int .i32 x)]) D).frw (F':=λg=>g=b\/none=some g) (λg h=>.inl h);refine zK (IV b sw sh x aB hw hh w2 (S.blk (i:=0) rfl)) ?_;rintro _ be ⟨g,rfl,aY,ak,am,al⟩;have S:=S.setPush (i:=0) (h':=.blk b 164 _) (h2:=.row 21 1 (some ⟨g,0,none⟩) (sw*sh) (sw*sh) (km (sw*sh) c)) rfl rfl al (λg h=>.inl h) ak (λg h=>.inl h) ((gH.of_blk am (by simp) (by unfold maxLen;omega)).congr (Hf aq).symm) (λb' aa=>by have:=B0 aa;omega) (λb' aa ap=>by have:=B0 aa;have h3:=D.lt;have:b'=b:=ap;omega);refine zN ?_;intro aj bf aV S;refine zS ?_;intro aI S;exact⟨g,_,_,sl,.inr om,S⟩
    |some g =>
     obtain⟨_,cap,D,ae⟩:=Z
     have S:=(S.own2 (.row 21 1 (some ⟨g,0,none⟩) (sw*sh) cap (km (sw*sh) c)) (.blk b 164 [ii sw,ii sh,.iface 166 (.slice (some ⟨g,0,none⟩) (sw*sh) cap)]) ae D
      (λg' h1 h2=>D9 D ae (by decide) (by have:g'=b:=h2;rw[<-this];exact h1))).frw (F':=λg'=>g'=b\/some g=some g') (λg' h=>h.elim (λe=>.inr e) .inl)
     refine zC (Qh b _ _ _ _ _ w2 (S.blk (i:=1) rfl)) ?_;intro aJ aD S;refine zN ?_;intro aj aK aE S;refine zS ?_;intro aL S;exact⟨g,_,_,sl,.inl rfl,S⟩
   ·rintro e3 w3 ⟨g,cap,C,I,hg,S⟩;rw[I.fold];have aG:=(S.row (i:=1) rfl).cap;have aC:dO (some ⟨g,0,none⟩):=pS _ _;refine zg ?_
    refine dl (λm e w=>∃Y:Int,y0<=Y/\Y+m=y1+1/\SL e [(0,pt b),(2,ii v),(4,pt y),(10,pt C),(11,ii Y)]/\St (λg=>g=b\/R=some g) W w [.blk C 166 [.slice (some ⟨g,0,none⟩) (sw*sh) cap],.row 21 1 (some ⟨g,0,none⟩) (sw*sh) cap (km (sw*sh) (ik sw x0 y0 x1 (Y-1) v c)),.blk b 164 [ii sw,ii sh,.iface 166 (.slice (some ⟨g,0,none⟩) (sw*sh) cap)],.blk y 43 [ii x0,ii y0,ii x1,ii y1]]) (y1+1-y0).toNat
     ⟨y0,om,om,sl,by rw[vw (c':=c) (λi _=>B7 om i)];exact S⟩ ?_
    rintro m e w ⟨Y,ag,aX,I,S⟩;rw[I.fold];refine zB ?_ ?_
    ·intro hc;have hb:=MH (sw:=sw) (sh:=sh) (Y:=Y) om om;refine zD [0,1,2,3,4,5,6,7,8,9,10,11,12,13,14,15] [] ?_;refine eO (IQ gB je rfl rfl rfl om om om om) ?_;refine zE ?_;intro aM aF S
     refine dl (λm e w=>∃X:Int,x0<=X/\X+m=x1+1/\SL e [(0,pt b),(2,ii v),(4,pt y),(10,pt C),(11,ii Y),(12,.slice (some ⟨g,0+(Y*sw).toNat * 1,none⟩) (((Y+1)*sw).toNat-(Y*sw).toNat) (cap-(Y*sw).toNat)),(13,ii X)]/\St (λg=>g=b\/R=some g) W w [.blk C 166 [.slice (some ⟨g,0,none⟩) (sw*sh) cap],.row 21 1 (some ⟨g,0,none⟩) (sw*sh) cap (km (sw*sh) (ik sw x0 Y (X-1) Y v (ik sw x0 y0 x1 (Y-1) v c))),.blk b 164 [ii sw,ii sh,.iface 166 (.slice (some ⟨g,0,none⟩) (sw*sh) cap)],.blk y 43 [ii x0,ii y0,ii x1,ii y1]]) (x1+1-x0).toNat
      ⟨x0,om,om,sl,by rw[vw (λi _=>B7 (c:=ik sw x0 y0 x1 (Y-1) v c) om i)];exact S⟩ ?_
     rintro m' e w ⟨X,an,aW,I,S⟩;rw[I.fold];refine zg ?_;refine tV rfl (λab=>?_) (λab=>?_)
     ·try simp only[cT,d9,fX,f5,et,eo,hZ,YP,ne_eq,fH,kw,ke,md,qB,qC,pz,pB]at ab
      refine zg ?_;refine Y9 rfl (wg _ U) ?_;refine dU (vo gB je rfl rfl om om) ?_;refine jk (i:=1) S rfl (je _) (j:=(Y*sw+X).toNat) (VH (by have:=ag;rw[cG,cG];omega)) rfl rfl rfl (by rw[rM];omega) rfl ?_;intro aN S;refine zg ?_;rw[J8 (λi _=>Kb om an om i)]at S;exact⟨m'-1,om,X+1,om,om,sl,by rw[(om:X+1-1=X)];exact S⟩
     ·try simp only[cT,d9,fX,f5,et,eo,hZ,YP,ne_eq,fH,kw,ke,md,qB,qC,pz,pB]at ab
      refine zg ?_;obtain rfl:X=x1+1:=om;refine⟨m-1,om,Y+1,om,om,sl,?_⟩;rw[(om:x1+1-1=x1),vw (λi _=>MF ag i)]at S;rw[(om:Y+1-1=Y)];exact S
    ·intro hc;refine zc ?_;refine pD ?_;repeat first|refine nC ?_|refine pE ?_
     show CW _ _ _ _ _ _;obtain rfl:Y=y1+1:=om;rw[(om:y1+1-1=y1)]at S;have hR:=S.row (i:=1) rfl;have e0:km (sw*sh) (ik sw x0 y0 x1 y1 v c)=((List.range (sw*sh)).map (ik sw x0 y0 x1 y1 v c)).map (.int .i32):=by simp[km]
     obtain⟨n',aw⟩:∃n',sw*sh=n'+1:=⟨sw*sh-1,om⟩;have az:(km (sw*sh) (ik sw x0 y0 x1 y1 v c))[0]?=some (.int .i32 (ik sw x0 y0 x1 y1 v c 0)):=xj om
     have e1:.int .i32 (ik sw x0 y0 x1 y1 v c 0)::(km (sw*sh) (ik sw x0 y0 x1 y1 v c)).tail=km (sw*sh) (ik sw x0 y0 x1 y1 v c):=by
      unfold km;rw[aw,rz];simp
     cases J:((List.range (sw*sh)).map (ik sw x0 y0 x1 y1 v c)).any (λx=>x !=ik sw x0 y0 x1 y1 v c 0)
     ·have ah:∀i,i<sw*sh->ik sw x0 y0 x1 y1 v c i=ik sw x0 y0 x1 y1 v c 0:=λi hi=>by
       have:=nU.1 J _ (fC.2 ⟨i,dJ.2 hi,rfl⟩);simpa using this
      refine z ?_;refine z ?_;refine eY rfl (xk _ _ _ 308 [pt C] ((List.range (sw*sh)).map (ik sw x0 y0 x1 y1 v c)) (by simp) om (λx=>x !=ik sw x0 y0 x1 y1 v c 0) w (by rw[<-e0];exact(S.rd (i:=1) rfl)) (λx hx w' g=>Ka C _ (sw*sh) cap x _ _ om w' ((S.blk (i:=0) rfl).gr g) (by rw[e1];exact((S.rd (i:=1) rfl).gr g)))) ?_;rintro _ aO ⟨rfl,ac⟩;have S:=S.gr ac;rw[J];refine zT (S.rd (i:=1) rfl) az ?_;refine dU (jn gF rfl rfl) ?_;refine zS ?_;intro aP S;exact ir rfl ⟨rfl,none,⟨L,_,S.blk (i:=2) rfl,L 0 om,ah⟩,S.fr.weak (λg h=>h),(λg h=>by cases h)⟩
     ·skip;refine z ?_;refine z ?_;refine eY rfl (xk _ _ _ 308 [pt C] ((List.range (sw*sh)).map (ik sw x0 y0 x1 y1 v c)) (by simp) om (λx=>x !=ik sw x0 y0 x1 y1 v c 0) w (by rw[<-e0];exact(S.rd (i:=1) rfl)) (λx hx w' g=>Ka C _ (sw*sh) cap x _ _ om w' ((S.blk (i:=0) rfl).gr g) (by rw[e1];exact((S.rd (i:=1) rfl).gr g)))) ?_;rintro _ aQ ⟨rfl,ad⟩;have S:=S.gr ad;rw[J];refine zX ?_;exact⟨rfl,some g,⟨L,cap,S.blk (i:=2) rfl,S.row (i:=1) rfl⟩,S.fr.weak (λg h=>h),(λg' h=>by injection h with h;subst h;exact hg)⟩
theorem Tl(b sw sh:Nat)(R:Option Nat)(c:Nat->Int)(x0 y0 x1 y1 v:Int)(hw:1<=sw/\sw<=16)(hh:1<=sh/\sh<=16)(hx:0<=x0/\x0<=x1/\x1<sw)(hy:0<=y0/\y0<=y1/\y1<sh)(hv:-2147483648<=v/\v<=2147483647)(W:World)(hS:kE W b R sw sh c) :
  Fn prog 296 [pt b,.agg #[ii x0,ii y0,ii x1,ii y1],ii v] W
   (λr w'=>r=ii 0/\IW W b R sw sh (ik sw x0 y0 x1 y1 v c) w'):=by
 have Z:=hS.mayC (x0:=x0) (y0:=y0) (x1:=x1) (y1:=y1) hv;have ab:(sw:Int)*sh=((sw*sh:Nat):Int):=by push_cast;rfl
 have y:∀O,(O=.iface 333 (.int .i32 v)\/((∃u,O=.iface 333 (.int .i32 u)/\u≠v)\/(∃A n c,O=.iface 166 (.slice A n c)))/\(x1-x0+1)*(y1-y0+1)=sw*sh)->eL W b 164 [ii sw,ii sh,O] ->
   (∀i,i<sw*sh->ik sw x0 y0 x1 y1 v c i=v)->Fn prog 296 [pt b,.agg #[ii x0,ii y0,ii x1,ii y1],ii v] W
   (λr w'=>r=ii 0/\IW W b R sw sh (ik sw x0 y0 x1 y1 v c) w'):=λO h1 z hc =>
  (IX b sw sh R c x0 y0 x1 y1 v hw hh hx hy hv O h1 W z).mono λr w'⟨hr,L,hF⟩=>⟨hr,none,⟨Z,v,L,hv,hc⟩,hF.weak (λg h=>.inl h),λg h=>by cases h⟩
 by_cases I:(x1-x0+1)*(y1-y0+1)=sw*sh
 ·have J:=Qi hx hy I
  have D:∀i,i<sw*sh->ik sw x0 y0 x1 y1 v c i=v:=λi hi=>by
   unfold ik;rw[a7];rw[J.1,J.2.1];exact Qj hw.1 hi J.2.2.1 J.2.2.2
  have S:=hS.2;cases R with
  |none =>
   obtain⟨x,z,_,U⟩:=S;by_cases aa:x=v
   ·subst aa;exact y _ (.inl rfl) z D
   ·exact y _ (.inr ⟨.inl ⟨x,rfl,aa⟩,I⟩) z D
  |some g =>
   obtain⟨cap,z,_⟩:=S;exact y _ (.inr ⟨.inr ⟨_,_,_,rfl⟩,I⟩) z D
 ·by_cases V:R=none/\eL W b 164 [ii sw,ii sh,.iface 333 (.int .i32 v)]
  ·obtain⟨rfl,z⟩:=V;obtain⟨x,L,_,U⟩:=hS.2;obtain rfl:x=v:=by have:=(L.inj z).2;simpa using this
   refine y _ (.inl rfl) z λi hi=>?_;unfold ik;split
   ·rfl
   ·exact U i hi
  ·exact Hg b sw sh R c x0 y0 x1 y1 v hw hh hx hy hv I W hS (λhR u z hu=>V ⟨hR,hu▸z⟩)
def cU(n:Nat):Nat:=(n+15)/16
def fQ(n k:Nat):Nat:=min 16 (n-16*k)
def u5(gw:Nat)(c:Nat->Int)(t:Nat):Nat->Int:=λi=>c ((16*(t/cU gw)+i/fQ gw (t%cU gw))*gw+(16*(t%cU gw)+i%fQ gw (t%cU gw)))
theorem kQ(h:1<=n):1<=cU n:=by unfold cU;omega
theorem jS(h:n<=1024):cU n<=64:=by unfold cU;omega
theorem jf{x:Nat}(h:x<n):x/16<cU n:=by unfold cU;omega
theorem mA(h:k<cU n):1<=fQ n k/\fQ n k<=16:=by unfold fQ;unfold cU at h;omega
theorem mB{x:Nat}(h:x<n):x%16<fQ n (x/16):=by unfold fQ;omega
theorem xH{a:Nat}(v:a<cU gw):(b*cU gw+a)%cU gw=a/\(b*cU gw+a)/cU gw=b:=by
 constructor
 ·rw[j9,dT v]
 ·rw[ka,lU _ _ om,ee v,eH]
theorem Dk{x y:Nat}{c:Nat->Int}(D:x<gw)(I:y<gh):u5 gw c (y/16*cU gw+x/16) (y%16*fQ gw (x/16)+x%16)=c (y*gw+x):=by
 have z:=xH (gw:=gw) (b:=y/16) (jf D);have v:=mB D;unfold u5;rw[z.1,z.2];rw[j9,dT v,ka (y%16*_),lU _ _ om,ee v,eH,dP,dP]
theorem xI{x y:Nat}(v:x<gw)(z:y<gh):y/16*cU gw+x/16<cU gw*cU gh:=by
 have h1:=jf v;have h2:(y/16+1)*cU gw<=cU gh*cU gw:=cI _ (jf z);rw[cX,cD (cU gh)]at h2;omega
def vU(n:Nat)(bs:Nat->Nat):List Value:=(List.range n).map λt=>.pointer (some ⟨bs t,0,none⟩)
theorem Qk{t:Nat}(h:t<n):(vU n bs)[t]?=some (.pointer (some ⟨bs t,0,none⟩)):=by simp[vU,h]
theorem Ql(n:Nat)(bs:Nat->Nat):(vU n bs).length=n:=by simp[vU]
structure eJ(w:World)(p gw gh:Nat)(c:Nat->Int)(A:Option Addr)(cap:Nat)(bs:Nat->Nat)(Rs:Nat->Option Nat):Prop where
 sw:1<=gw/\gw<=1024
 sh:1<=gh/\gh<=1024
 top:eL w p 90 [ii gw,ii gh,ii (cU gw),.slice A (cU gw*cU gh) cap]
 row:gH w 92 1 A (cU gw*cU gh) cap (vU (cU gw*cU gh) bs)
 slab:∀t,t<cU gw*cU gh->kE w (bs t) (Rs t) (fQ gw (t%cU gw)) (fQ gh (t/cU gw)) (u5 gw c t)
 inj:∀t u,t<cU gw*cU gh->u<cU gw*cU gh->bs t=bs u->t=u
 injR:∀t u g,t<cU gw*cU gh->u<cU gw*cU gh->Rs t=some g->Rs u=some g->t=u
structure Tm(F:Nat->Prop)(N p:Nat)(A:Option Addr)(bs:Nat->Nat)(Rs:Nat->Option Nat):Prop where
 top:F p
 row:∀g,jv A g->F g
 slab:∀t,t<N->F (bs t)
 rough:∀t g,t<N->Rs t=some g->F g
def wj(w:World)(F:Nat->Prop)(p gw gh:Nat)(c:Nat->Int):Prop:=∃A cap bs Rs,eJ w p gw gh c A cap bs Rs/\Tm F (cU gw*cU gh) p A bs Rs
theorem kE.keep{R:Option Nat}{c:Nat->Int}(h:kE w b R sw sh c)(z:∀g,g=b\/R=some g->w'.heap[g]?=w.heap[g]?):kE w' b R sw sh c:=by
 obtain⟨h1,h2⟩:=h;refine⟨h1,?_⟩;cases R with
 |none=>obtain⟨x,v,r⟩:=h2;exact⟨x,v.keep (z b (.inl rfl)),r⟩
 |some g=>obtain⟨cap,v,I⟩:=h2;exact⟨cap,v.keep (z b (.inl rfl)),I.keep (λD y=>z D (.inr (by rw[<-B0 y])))⟩
theorem kE.lt{R:Option Nat}{c:Nat->Int}(h:kE w b R sw sh c)(v:g=b\/R=some g):g<w.heap.size:=by
 obtain⟨h1,h2⟩:=h;cases R with
 |none=>obtain⟨x,y,r⟩:=h2;exact v.elim (λe=>e▸y.lt) (λe=>by cases e)
 |some D =>
  obtain⟨cap,y,z⟩:=h2;rcases v with rfl|v
  ·exact y.lt
  ·injection v with v;subst v;exact z.lt rfl
theorem kE.gr{R:Option Nat}{c:Nat->Int}(h:kE w b R sw sh c)(k:Gr w w'):kE w' b R sw sh c:=h.keep λg v=>k.block g (h.lt v)
theorem eJ.gr{cap:Nat}{c:Nat->Int}(h:eJ w p gw gh c A cap bs Rs)(k:Gr w w'):eJ w' p gw gh c A cap bs Rs :=
 ⟨h.sw,h.sh,h.top.gr k,h.row.gr k,λt v=>(h.slab t v).gr k,h.inj,h.injR⟩
theorem wj.gr{c:Nat->Int}(h:wj w F p gw gh c)(k:Gr w w'):wj w' F p gw gh c:=by
 obtain⟨A,cap,bs,Rs,h1,h2⟩:=h;exact⟨A,cap,bs,Rs,h1.gr k,h2⟩
theorem wj.weak{c:Nat->Int}(h:wj w F p gw gh c)(v:∀g,F g->F' g):wj w F' p gw gh c:=by
 obtain⟨A,cap,bs,Rs,h1,h2⟩:=h;exact⟨A,cap,bs,Rs,h1,v _ h2.top,λg y=>v g (h2.row g y),λt z=>v _ (h2.slab t z),λt g z y=>v g (h2.rough t g z y)⟩
theorem B8{t:Nat}(S:t<cU gw*cU gh)(D:1<=gw)(hi:i<fQ gw (t%cU gw)*fQ gh (t/cU gw)):(16*(t/cU gw)+i/fQ gw (t%cU gw))*gw+(16*(t%cU gw)+i%fQ gw (t%cU gw))<gw*gh:=by
 have O:=kQ D;have h1:t%cU gw<cU gw:=dt _ om;have h2:=mA h1;have I:i%fQ gw (t%cU gw)<fQ gw (t%cU gw):=dt _ om;have J:i/fQ gw (t%cU gw)<fQ gh (t/cU gw):=cS hi;have v:∀n k,fQ n k<=n-16*k:=λn k=>by unfold fQ;omega
 have L:16*(t%cU gw)+i%fQ gw (t%cU gw)<gw:=by have:=v gw (t%cU gw);generalize i%fQ gw (t%cU gw)=q at*;omega
 have y:16*(t/cU gw)+i/fQ gw (t%cU gw)<gh:=by have:=v gh (t/cU gw);generalize i/fQ gw (t%cU gw)=q at*;omega
 have z:(16*(t/cU gw)+i/fQ gw (t%cU gw)+1)*gw<=gh*gw:=cI _ y;rw[cX,cD gh]at z;omega
theorem Ca{t:Nat}{c:Nat->Int}(h:∀j,j<gw*gh->c j=c' j)(v:t<cU gw*cU gh)(y:1<=gw)(hi:i<fQ gw (t%cU gw)*fQ gh (t/cU gw)):u5 gw c t i=u5 gw c' t i:=h _ (B8 v y hi)
theorem kE.congr{R:Option Nat}{c:Nat->Int}(h:kE w b R sw sh c)(y:∀i,i<sw*sh->c i=c' i):kE w b R sw sh c':=by
 obtain⟨h1,h2⟩:=h;refine⟨λi hi=>(y i hi)▸h1 i hi,?_⟩;cases R with
 |none=>obtain⟨x,v,D,r⟩:=h2;exact⟨x,v,D,λi hi=>(y i hi)▸r i hi⟩
 |some g=>obtain⟨cap,v,z⟩:=h2;exact⟨cap,v,z.congr (vw y)⟩
theorem wj.congr{c:Nat->Int}(h:wj w F p gw gh c)(y:∀i,i<gw*gh->c i=c' i):wj w F p gw gh c':=by
 obtain⟨A,cap,bs,Rs,h1,h2⟩:=h;exact⟨A,cap,bs,Rs,⟨h1.sw,h1.sh,h1.top,h1.row,λt v=>(h1.slab t v).congr λi hi=>Ca y v h1.sw.1 hi,h1.inj,h1.injR⟩,h2⟩
theorem eJ.may{cap:Nat}{c:Nat->Int}(h:eJ w p gw gh c A cap bs Rs){x y:Nat}(z:x<gw)(D:y<gh):-2147483648<=c (y*gw+x)/\c (y*gw+x)<=2147483647:=by
 have J:=xI z D;have h1:=(h.slab _ J).1;have v:=xH (gw:=gw) (b:=y/16) (jf z);rw[v.1,v.2]at h1
 have h2:=h1 (y%16*fQ gw (x/16)+x%16) (by
  have L:=mB z;have I:(y%16+1)*fQ gw (x/16)<=fQ gh (y/16)*fQ gw (x/16):=cI _ (mB D);rw[cX,cD (fQ gh _)]at I;omega)
 rwa[Dk z D]at h2
theorem mC(p gw gh:Nat)(l:List Value)(W:World)(y:eL W p 90 (ii gw::ii gh::l)):Fn prog 21 [pt p] W (dp (.tuple #[ii gw,ii gh]) W):=by
 have S:=St.start W;refine zI func21 ?_;refine zD [0,1,2,3,4,5,6,7,8,9] [] ?_;refine zM (λwq v=>(y.gr (S.gr v).out)) ?_;refine zM (λwq v=>(y.gr (S.gr v).out)) ?_;refine zE ?_;intro D z S;exact nd rfl rfl ⟨rfl,S.out⟩
theorem uo(p gw gh:Nat)(O:gw<=1024)(L:gh<=1024)(l:List Value)(W:World)(z:eL W p 90 (ii gw::ii gh::l)):Fn prog 64 [pt p] W (dp (.agg #[ii 0,ii 0,ii (gw-1),ii (gh-1)]) W):=by
 have S:=St.start W;refine zI func64 ?_;refine zN ?_;intro y I D S;refine zD [0,1,2,3,4,5,6,7,8,9] [10,11] ?_;refine zM (λwq v=>(z.gr (S.gr v).out)) ?_;refine zM (λwq v=>(z.gr (S.gr v).out)) ?_;refine zE ?_;refine zS ?_;intro J S;exact rA S ⟨rfl,S.out⟩
theorem xJ(p gw gh:Nat)(x0 y0 x1 y1:Int)(V:gw<=1024)(U:gh<=1024)(l:List Value)(W:World)(z:eL W p 90 (ii gw::ii gh::l)) :
  Fn prog 93 [pt p,.agg #[ii x0,ii y0,ii x1,ii y1]] W (dp (ii (dF x0 y0 x1 y1 gw gh)) W):=by
 have S:=St.start W;refine zI func93 ?_;refine zN ?_;intro y L D S;refine zD [0,1,2,3,4,5,6,7,8,9,10] [] ?_;refine zM (λwq v=>(z.gr (S.gr v).out)) ?_;refine zM (λwq v=>(z.gr (S.gr v).out)) ?_;refine nA rfl (λwq v=>(jW _ _ _ _ _ _ om om wq).mono (λ_ _⟨J,hg⟩=>⟨J,v.trans hg⟩)) ?_;refine zE ?_;intro O I S;exact ir rfl ⟨rfl,S.out⟩
theorem Kc(x y:Int)(W:World):Fn prog 98 [.agg #[ii x,ii y]] W (dp (.agg #[ii x,ii y,ii x,ii y]) W):=by
 have S:=St.start W;refine zI func98 ?_;refine zN ?_;intro v J D S;refine zN ?_;intro z L I S;refine zS ?_;intro O S;exact rA S ⟨rfl,S.out⟩
theorem Cb(x y:Int)(J:0<=x)(L:0<=y)(W:World):Fn prog 97 [ii x,ii y] W (dp (.agg #[ii (x%16),ii (y%16)]) W):=by
 have S:=St.start W;refine zI func97 ?_;refine zN ?_;intro v D z S;refine zS ?_;intro I S;exact rA S ⟨rfl,S.out⟩
section
variable{cap:Nat}{c:Nat->Int}
theorem Fp(x y:Nat)(hx:x<gw)(hy:y<gh)(z:eJ W p gw gh c A cap bs Rs) :
  Fn prog 95 [pt p,ii x,ii y] W (dp (.pointer (some ⟨bs (y/16*cU gw+x/16),0,none⟩)) W):=by
 have I:=z.top;have D:=z.row;have ht:=xI hx hy;have J:=z.sw;have Z:=z.sh;have hN:cU gw*cU gh<=64*64:=fy (jS J.2) (jS Z.2);have L:dO A:=D.someA om;have hb:y/16*cU gw<=64*64:=fy om (jS J.2);have O:(y:Int)/16*(cU gw:Nat)=((y/16*cU gw:Nat):Int):=by push_cast;rfl
 have U:(((y/16*cU gw:Nat):Int)+(x:Int)/16).toNat * 1=y/16*cU gw+x/16:=om;have hv:=Qk (bs:=bs) ht;have S:=St.start W;refine zI func95 ?_;refine zD [0,1,2,3,4,5,6,7,8,9,10,11,12,13,14,15,16] [] ?_;refine zM (λwq v=>(I.gr (S.gr v).out)) ?_;refine zM (λwq v=>(I.gr (S.gr v).out)) ?_;refine zQ ?_;rw[O];refine zQ ?_;rw[U];refine zO (λwq v=>(gH.rd (D.gr (S.gr v).out))) hv ?_;refine zE ?_;intro aa V S;exact ir rfl ⟨rfl,S.out⟩
theorem MI(x y:Nat)(D:x<gw)(L:y<gh)(I:eJ W p gw gh c A cap bs Rs) :
  Fn prog 50 [pt p,.agg #[ii x,ii y]] W (dp (.tuple #[ii (c (y*gw+x)),ii 0]) W):=by
 have hw:=I.sw;have hh:=I.sh;have O:dF x y x y gw gh=0:=gW om om om om;have ht:=xI D L;have hS:=I.slab _ ht;have J:=xH (gw:=gw) (b:=y/16) (jf D);rw[J.1,J.2]at hS;have ae:=mB D;have ag:=mB L;have U:=mA (jf D);have V:=mA (jf L)
 have e1:((y:Int)%16*(fQ gw (x/16):Nat)+(x:Int)%16).toNat=y%16*fQ gw (x/16)+x%16:=by
  have:(y:Int)%16*(fQ gw (x/16):Nat)+(x:Int)%16=((y%16*fQ gw (x/16)+x%16:Nat):Int):=by push_cast;rfl
  rw[this];exact b7 _
 have S:=St.start W;refine zI func50 ?_;refine zN ?_;intro Z ah aa S;refine zC (Kc _ _ _) ?_;intro ai ab S;refine zC (xJ p gw gh x y x y hw.2 hh.2 _ _ (I.top.gr S.out)) ?_;intro aj ac S;refine z ?_;refine z ?_;refine zf ?_;refine zc ?_;refine eX (by rw[O];rfl) ?_;refine zD [0,1,2,3,4,5,6,7,8,9,10,11,12,13,14,15] [] ?_;refine zP (λwq v=>Fp x y D L (I.gr (S.gr v).out)) ?_;refine eO (du xa rfl cR rfl rfl) ?_;refine fo (λwq v=>cV iY rfl rfl ((S.gr v).blk (i:=0) rfl) rfl) ?_;refine eO (du xa rfl cR rfl rfl) ?_;refine fo (λwq v=>cV iY rfl rfl ((S.gr v).blk (i:=0) rfl) rfl) ?_;refine nA rfl (λwq v=>(Cb _ _ om om wq).mono (λ_ _⟨hv,hg⟩=>⟨hv,v.trans hg⟩)) ?_;refine zP (λwq v=>Ti _ _ _ _ (u5 gw c (y/16*cU gw+x/16)) (x%16) (y%16) U V om om wq (hS.gr (S.gr v).out)) ?_;refine zE ?_;intro ak ad S;exact nd rfl rfl ⟨by rw[e1,Dk (gh:=gh) D L],S.out⟩
theorem Fq(x y:Int)(ab:¬(0<=x/\x<gw/\0<=y/\y<gh))(I:eJ W p gw gh c A cap bs Rs) :
  Fn prog 50 [pt p,.agg #[ii x,ii y]] W (dp (.tuple #[ii 0,ii 4]) W):=by
 have hw:=I.sw;have hh:=I.sh
 have v:dF x y x y gw gh=4:=by
  have L:fL ((gw:Int)-1) 1024=true:=by simp[fL];omega
  have O:fL ((gh:Int)-1) 1024=true:=by simp[fL];omega
  by_cases hx:0<=x/\x<gw
  ·have D:fL x gw=true:=by simp[fL];omega
   have U:fL y gh=false:=by simp[fL];omega
   simp[dF,L,O,D,U]
  ·have D:fL x gw=false:=by simp[fL];omega
   simp[dF,L,O,D]
 have S:=St.start W;refine zI func50 ?_;refine zN ?_;intro J ac V S;refine zC (Kc _ _ _) ?_;intro ad Z S;refine zC (xJ p gw gh x y x y hw.2 hh.2 _ _ (I.top.gr S.out)) ?_;intro ae aa S;refine z ?_;refine z ?_;refine zt ?_;refine zc ?_;refine jr (by rw[v];rfl) ?_;refine zX ?_;exact⟨by rw[v],S.out⟩
def cY(xs:List Int):List Value:=xs.map (.int .i64)
theorem gn(xs:List Int):(cY xs).length=xs.length:=by simp[cY]
theorem Qo(xs ys:List Int):cY xs++cY ys=cY (xs++ys):=by simp[cY]
theorem gc{xs:List Int}{x:Int}(h:xs[i]?=some x):(cY xs)[i]?=some (ii x):=by simp[cY,h]
def vV(gw:Nat)(c:Nat->Int)(x0 y n:Nat):List Int:=(List.range n).map λi=>c (y*gw+(x0+i))
def fi(gw:Nat)(c:Nat->Int)(x0 y0 w h:Nat):List Int:=(List.range h).flatMap λj=>vV gw c x0 (y0+j) w
theorem MJ(gw:Nat)(c:Nat->Int)(x0 y n:Nat):vV gw c x0 y (n+1)=vV gw c x0 y n++[c (y*gw+(x0+n))]:=by simp[vV,eG]
theorem yZ(gw:Nat)(c:Nat->Int)(x0 y0 w h:Nat):fi gw c x0 y0 w (h+1)=fi gw c x0 y0 w h++vV gw c x0 (y0+h) w:=by simp[fi,eG]
theorem HB(gw:Nat)(c:Nat->Int)(x0 y n:Nat):(vV gw c x0 y n).length=n:=by simp[vV]
theorem lE(gw:Nat)(c:Nat->Int)(x0 y0 w h:Nat):(fi gw c x0 y0 w h).length=h*w:=by
 induction h with
 |zero=>simp[fi]
 |succ h ih=>rw[yZ,cP,ih,HB,cX]
theorem wJ(gw gh:Nat)(c:Nat->Int):fi gw c 0 0 gw gh=(List.range (gw*gh)).map c:=by
 induction gh with
 |zero=>simp[fi]
 |succ h ih =>
  rw[yZ,ih,nk,pY,fq];congr 1;simp only[vV,rZ];refine eQ λi _=>?_;simp only[Function.comp,eH,cD]
theorem iz(x0 y0 x1 y1:Nat)(hx:x0<=x1/\x1<gw)(hy:y0<=y1/\y1<gh)(hG:eJ W p gw gh c A cap bs Rs) :
  Fn prog 47 [pt p,.agg #[ii x0,ii y0,ii x1,ii y1]] W
   (jc (λv=>.tuple #[v,ii 0]) 2 1 ((y1+1-y0)*(x1+1-x0)) (cY (fi gw c x0 y0 (x1+1-x0) (y1+1-y0))) W):=by
 have hw:=hG.sw;have hh:=hG.sh;have ak:dF x0 y0 x1 y1 gw gh=0:=gW om om om om;have hN:(y1+1-y0)*(x1+1-x0)<=1024*1024:=fy om om
 have ai:((x1:Int)-x0+1)*(y1-y0+1)=(((y1+1-y0)*(x1+1-x0):Nat):Int):=by
  rw[(om:(x1:Int)-x0+1=((x1+1-x0:Nat):Int)),(om:(y1:Int)-y0+1=((y1+1-y0:Nat):Int))];push_cast;exact iW _ _
 have S:=St.start W;refine zI func47 ?_;refine zN ?_;intro y aG av S;refine zC (xJ p gw gh x0 y0 x1 y1 hw.2 hh.2 _ _ (hG.top.gr S.out)) ?_;intro an aw S;refine z ?_;refine z ?_;refine zf ?_;refine zc ?_;refine eX (by rw[ak];rfl) ?_;refine z ?_;refine eY rfl (qc _ _ _ _ om an) ?_;rintro _ aH ⟨rfl,ag⟩;have S:=S.gr ag;rw[ai];refine nD fZ jR rfl rfl rfl (n:=0) (c:=(y1+1-y0)*(x1+1-x0)) om om om om S ?_;intro ad aI az S J;refine zg ?_
 refine dl (λm e w=>∃(j:Nat)(A:Option Addr)(U:Nat),j+m=y1+1-y0/\SL e [(0,pt p),(3,pt y),(7,.slice A (j*(x1+1-x0)) U),(8,ii (y0+j))] /\
  St No W w [.row 2 1 A (j*(x1+1-x0)) U (cY (fi gw c x0 y0 (x1+1-x0) j)),.blk y 43 [ii x0,ii y0,ii x1,ii y1]]) (y1+1-y0)
  ⟨0,_,_,om,⟨rfl,rfl,se om rfl,rfl,trivial⟩,by rw[iD];exact S⟩ ?_
 rintro m e w ⟨j,A1,U,hj,O,S⟩;rw[O.fold];refine zB ?_ ?_
 ·intro hc;have aj:j<y1+1-y0:=om;refine zg ?_
  refine dl (λm e w=>∃(k:Nat)(A:Option Addr)(U:Nat),k+m=x1+1-x0/\SL e [(0,pt p),(3,pt y),(7,.slice A (j*(x1+1-x0)+k) U),(8,ii (y0+j)),(9,ii (x0+k))] /\
   St No W w [.row 2 1 A (j*(x1+1-x0)+k) U (cY (fi gw c x0 y0 (x1+1-x0) j++vV gw c x0 (y0+j) k)),.blk y 43 [ii x0,ii y0,ii x1,ii y1]]) (x1+1-x0)
   ⟨0,_,_,om,sl,by simpa [vV]using S⟩ ?_
  rintro m' e w ⟨k,A2,au,hk,O,S⟩;rw[O.fold];refine zg ?_;refine tV rfl (λL=>?_) (λL=>?_)
  ·try simp only[cT,d9,fX,f5,et,eo,hZ,YP,ne_eq,fH,kw,ke,md,qB,qC,pz,pB]at L
   have aD:k<x1+1-x0:=om;have D:x0+k<gw:=om;have I:y0+j<gh:=om
   have aC:j*(x1+1-x0)+k+1<=(y1+1-y0)*(x1+1-x0):=by
    have:(j+1)*(x1+1-x0)<=(y1+1-y0)*(x1+1-x0):=cI _ aj;rw[cX]at this;omega
   have ht:=xI D I;have hS:=hG.slab _ ht;have aa:=xH (gw:=gw) (b:=(y0+j)/16) (jf D);rw[aa.1,aa.2]at hS;have aE:=mB D;have aF:=mB I;have al:=mA (jf D);have am:=mA (jf I);have e0:(x0:Int)+k=((x0+k:Nat):Int):=om;have ae:(y0:Int)+j=((y0+j:Nat):Int):=om
   have e1:(((y0+j:Nat):Int)%16*(fQ gw ((x0+k)/16):Nat)+((x0+k:Nat):Int)%16).toNat=(y0+j)%16*fQ gw ((x0+k)/16)+(x0+k)%16:=by
    have:((y0+j:Nat):Int)%16*(fQ gw ((x0+k)/16):Nat)+((x0+k:Nat):Int)%16=(((y0+j)%16*fQ gw ((x0+k)/16)+(x0+k)%16:Nat):Int):=by push_cast;rfl
    rw[this];exact b7 _
   rw[e0,ae];refine zC (Fp (x0+k) (y0+j) D I (hG.gr S.out)) ?_;intro ao aA S;refine z ?_;refine z ?_;refine eY rfl (Cb _ _ om om ao) ?_;rintro _ aJ ⟨rfl,ah⟩;have S:=S.gr ah;refine zC (Ti _ _ _ _ (u5 gw c ((y0+j)/16*cU gw+(x0+k)/16)) (((x0+k:Nat):Int)%16) (((y0+j:Nat):Int)%16) al am om om _ (hS.gr S.out)) ?_;intro aK aB S;rw[e1,Dk (gh:=gh) D I];refine zg ?_;refine yb S ?_;intro ac aq ap S ab;refine ZP 1 0 S ?_;intro V Z ar S J;refine zg ?_;refine⟨m'-1,om,k+1,_,_,om,sl,?_⟩;have S:=S.sub (.cons _ (.cons_cons _ (.cons_cons _ .slnil)));rw[MJ,<-cL,<-Qo];exact S
  ·try simp only[cT,d9,fX,f5,et,eo,hZ,YP,ne_eq,fH,kw,ke,md,qB,qC,pz,pB]at L
   refine zg ?_;obtain rfl:k=x1+1-x0:=om;refine⟨m-1,om,j+1,_,_,om,⟨rfl,rfl,se (cX _ _).symm rfl,ie om,trivial⟩,?_⟩;rw[yZ,cX];exact S
 ·intro hc;refine zg ?_;obtain rfl:j=y1+1-y0:=om;exact nd rfl rfl (S.retNew (i:=0) (mk:=λv=>.tuple #[v,ii 0]) rfl)
end
end Go.Proofs.YtcalhocphkbbgaaGreatDoor
