/- A part of the proof that hachuretop.WholeCharts and hachuretop.WholeWater returns true at every input; no condition. -/
import Derived.Laws.StructEq
import Derived.Test.YtcalhocphkbbgaaGreatDoorKF
set_option maxRecDepth 100000
set_option maxHeartbeats 16000000
set_option linter.unusedVariables false
set_option linter.unusedSimpArgs false
namespace Go.Proofs.YtcalhocphkbbgaaGreatDoor
open Go.Proofs.Tryz Go.RowKit
variable{af:Array Edge}{f:FuncId}{h:HA}{Y a a' d':Int}{K:List (Nat × Value)->Act->Prop}{M tl:List HA}{V':List Int}{hd:List Nat}{b b' c c1 c2 cx cy g gh gw i j k m n p p2 q tb x0 x1 y0 y1:Nat}{c' cc:Nat->Int}{bs o':Nat->Nat}{As:Nat->Option Addr}{Rs:Nat->Option Nat}{F X:Nat->Prop}{e:Nat->Value}{op:Op}{hi x:Operand}{A A1 g0:Option Addr}{d:Option Tmp}{P:Program}{dd:TypeDesc}{t t' ty:TypeId}{R2:Value->Prop}{W w w' wq:World}
theorem BE{op:BinOp}{y:Operand}{a b:Array Value}(h:P.eqGuardType P.depth t=false):(eqGuard op t x y (.agg a) (.agg b)).run P w=.ok () w:=by
 unfold eqGuard;cases op<;>simp[h]
theorem WS(a b c d:Int)(w:World):(binOp .neq 24 (.agg #[ii a,ii b]) (.agg #[ii c,ii d])).run prog w=.ok (.bool (!decide (a=c/\b=d))) w:=by
 have D:=iY;have z:=qv;have I:=cR;have v:prog.underlying 24=some (.struct (prog.fieldsOf 24)):=by kernel_rfl
 have y:prog.stoodInHeld 24=false:=by kernel_rfl
 rw[run_neq_struct,show(10000:Nat)=9999+1 from rfl,wA w 9999 24 _ _ v y];simp only[Program.fieldsOf,xa];go_simp;by_cases h1:a=c<;>by_cases h2:b=d<;>simp[h1,h2]
section
variable{dd:Option Tmp}{ps:String}{y:Operand}{b c d:Int}
theorem Qg{r:Bool}(D:ev e x=.agg #[ii a,ii b])(I:ev e y=.agg #[ii c,ii d])(z:(!decide (a=c/\b=d))=r):iE prog e ⟨dd,.binOp .neq 24 x y t',ty,ps,af,none⟩ (.bool r):=by
 intro w;subst z;have v:∀w,(eqGuard .neq 24 x y (.agg #[ii a,ii b]) (.agg #[ii c,ii d])).run prog w=.ok () w:=λw=>BE (by kernel_rfl);simp[gd,execOp,D,I,v,WS]
end
def cz(gw j:Nat):Int×Int:=(((j%gw:Nat):Int),((j/gw:Nat):Int))
theorem TH(v:0<gw)(hi:i<gw*gh):mD gw gh (cz gw i)=true:=by
 have h1:=dt i v;have h2:i/gw<gh:=cS hi;refine jT.2 ?_;unfold cz;dsimp only;generalize i%gw=x at *;generalize i/gw=y at *;omega
theorem VS:(cz gw i).2.toNat * gw+(cz gw i).1.toNat=i:=by
 unfold cz;simp only[b7];rw[cD];exact dP i gw
section
variable{ps:String}
theorem KJ{y:Operand}{b:Int}(z:ev e x=ii a)(D:ev e y=ii b)(I:0<b):iE P e ⟨d,.binOp .rem t x y t',ty,ps,af,none⟩ (ii (a.tmod b)):=by
 intro w;have v:b≠0:=om;simp[gd,execOp,z,D,eqGuard,binOp,Op.intDiv,v]
theorem FT{y:Operand}{b c:Int}(J:ev e x=ii a)(L:ev e y=ii b)(O:0<b)(D:a.tdiv b=c)(I:-9223372036854775808<=c/\c<=9223372036854775807):iE P e ⟨d,.binOp .quo t x y t',ty,ps,af,none⟩ (ii c):=by
 intro w;have v:b≠0:=om;have z:IntKind.i64.wrap c=c:=gC _ I;simp[gd,execOp,J,L,eqGuard,binOp,Op.intDiv,v,D,z]
end
def uv(V:List Int)(gw x0 y0 x1 y1:Nat):Int:=lf V gw (y1+1) (x1+1)-lf V gw (y1+1) x0-lf V gw y0 (x1+1)+lf V gw y0 x0
theorem HV{s n:Int}(y:0<n):-n<s.tmod n/\s.tmod n<n/\(s.tmod n+n).tmod n=s%n/\(s-s%n).tdiv n=s/n:=by
 have h1:-n<s.tmod n/\s.tmod n<n:=by
  have:=Int.tmod_lt_of_pos s y
  have h2:-n<s.tmod n:=by
   have:=Int.lt_tmod_of_pos s y;omega
  exact⟨h2,this⟩
 refine⟨h1.1,h1.2,?_,?_⟩
 ·rw[mc om,Int.add_emod_right];have:=sJ s n;have v:s.tmod n=s-n*s.tdiv n:=om;rw[v,Int.sub_mul_emod_self_left]
 ·have v:=Int.mul_ediv_add_emod s n;have z:s-s%n=s/n*n:=by rw[iW];omega
  rw[z,Int.mul_tdiv_cancel _ om]
section
variable{V:List Int}
theorem QQ(x0 y0 x1 y1:Nat)(hw:1<=gw/\gw<=1024)(hh:1<=gh/\gh<=1024)(hx:x0<=x1/\x1<gw)(hy:y0<=y1/\y1<gh)(L:rj W tb gw gh V) :
  Fn prog 237 [pt tb,.agg #[ii x0,ii y0,ii x1,ii y1]] W (dp (ii 0) W):=by
 obtain⟨Ao,co,As,cs,z,hO,hF⟩:=L;have y:dF x0 y0 x1 y1 gw gh=0:=gW om om om om;have S:=St.start W;refine zI func237 ?_;refine zN ?_;intro D U I S;refine zD [0,1,2,3,4,5,6,7,8,9,10] [] ?_;refine zM (λwq v=>(z.gr (S.gr v).out)) ?_;refine zM (λwq v=>(z.gr (S.gr v).out)) ?_;refine nA rfl (λwq v=>(jW _ _ _ _ _ _ om om wq).mono (λ_ _⟨O,hg⟩=>⟨O,v.trans hg⟩)) ?_;refine zE ?_;intro Z J S;exact ir rfl ⟨by rw[y],S.out⟩
theorem Pp(x0 y0 x1 y1:Nat)(I:vB V)(hw:1<=gw/\gw<=1024)(hh:1<=gh/\gh<=1024)(hx:x0<=x1/\x1<gw)(hy:y0<=y1/\y1<gh)(hA:rj W tb gw gh V) :
  Fn prog 155 [pt tb,.agg #[ii x0,ii y0,ii x1,ii y1]] W (dp (.tuple #[ii (uv V gw x0 y0 x1 y1),ii 0]) W):=by
 have L:=hA;obtain⟨Ao,co,As,cs,hT,hO,J⟩:=L;have D:=(J y0 om).rd;have z:=(J (y1+1) om).rd;have y:=hO.rd;have aa:dO Ao:=hO.someA om;have U:dO (As y0):=(J y0 om).someA om;have O:dO (As (y1+1)):=(J (y1+1) om).someA om;have g0:=FM (As:=As) (n:=gw+1) (cs:=cs) (show y0<gh+1 by omega);have g1:=FM (As:=As) (n:=gw+1) (cs:=cs) (show y1+1<gh+1 by omega);have ey:(y1:Int)+1=((y1+1:Nat):Int):=by push_cast;rfl
 have Z:(x1:Int)+1=((x1+1:Nat):Int):=by push_cast;rfl
 have b1:=jg (o:=lf V gw (y1+1)) (show x1+1<gw+1 by omega);have b2:=jg (o:=lf V gw (y1+1)) (show x0<gw+1 by omega);have b3:=jg (o:=lf V gw y0) (show x1+1<gw+1 by omega);have b4:=jg (o:=lf V gw y0) (show x0<gw+1 by omega);have h1:=va I gw (x:=x1+1) om (y1+1);have h2:=va I gw (x:=x0) om (y1+1);have h3:=va I gw (x:=x1+1) om y0;have h4:=va I gw (x:=x0) om y0;unfold uv;generalize lf V gw (y1+1) (x1+1)=p1 at *;generalize lf V gw (y1+1) x0=p2 at *;generalize lf V gw y0 (x1+1)=p3 at *;generalize lf V gw y0 x0=p4 at *;have S:=St.start W;refine zI func155 ?_;refine zN ?_;intro ab ah ac S;refine zC (QQ x0 y0 x1 y1 hw hh hx hy (hA.gr S.out)) ?_;intro ai ad S;refine zD [0,1,2,3,4,5,6,7,8,9,10,11,12,13,14,15,16,17,18] [] ?_;refine zM (λwq v=>(hT.gr (S.gr v).out)) ?_;refine zO (λwq v=>(y.gr (S.gr v).out)) g0 ?_;refine zM (λwq v=>(hT.gr (S.gr v).out)) ?_;refine zQ ?_;rw[ey];refine zO (λwq v=>(y.gr (S.gr v).out)) g1 ?_;refine zE ?_;intro aj ae S;refine zD [0,1,2,3,4,5,6,7,8,9,10,11,12,13,14,15,16,17,18,19,20,21,22,23,24,25,26] [] ?_;rw[Z];refine zO (λwq v=>(z.gr (S.gr v).out)) b1 ?_;refine zO (λwq v=>(z.gr (S.gr v).out)) b2 ?_;refine zQ ?_;rw[Z];refine zO (λwq v=>(D.gr (S.gr v).out)) b3 ?_;refine zO (λwq v=>(D.gr (S.gr v).out)) b4 ?_;refine zE ?_;intro ak ag S;exact nd rfl rfl ⟨rfl,S.out⟩
end
def lb(k:Nat):Nat:=if k=0 then 0 else if k%2=1 then 1 else 2*lb (k/2)
 termination_by k
 decreasing_by omega
theorem KF:lb 0=0:=by unfold lb;rfl
theorem uu(h:k%2=1):lb k=1:=by unfold lb;rw[a8 om,a7 h]
theorem ti(k:Nat):lb (2*k)=2*lb k:=by
 by_cases h:k=0
 ·subst h;simp[KF]
 ·rw[lb,a8 om,a8 om,(om:2*k/2=k)]
theorem vD:∀{k:Nat},0<k->0<lb k:=by
 intro k;induction k using Nat.strongRecOn with
 |ind k ih =>
  intro h;by_cases v:k%2=1
  ·rw[uu v];omega
  ·have:=ih (k/2) om om;rw[(om:k=2*(k/2)),ti];omega
theorem vS:∀(k:Nat),lb k<=k:=by
 intro k;induction k using Nat.strongRecOn with
 |ind k ih =>
  by_cases v:k=0
  ·subst v;rw[KF];omega
  ·by_cases y:k%2=1
   ·rw[uu y];omega
   ·have:=ih (k/2) om;have e:=ti (k/2);rw[(om:2*(k/2)=k)]at e;omega
theorem zG(a b:Nat):a&&& b=2*((a/2)&&& (b/2))+(a%2)*(b%2):=by
 have h1:=Nat.and_div_two (a:=a) (b:=b)
 have h2:(a&&& b)%2=(a%2)*(b%2):=by
  have:=@Nat.and_mod_two_pow a b 1;rw[show(2:Nat)^1=2 from rfl]at this;rw[this];rcases ma a with v|v<;>rcases ma b with y|y<;>rw[v,y]<;>rfl
 omega
theorem MW:∀(k:Nat),0<k->k&&& (k-1)=k-lb k:=by
 intro k;induction k using Nat.strongRecOn with
 |ind k ih =>
  intro h;rw[zG];by_cases v:k%2=1
  ·rw[uu v,(om:(k-1)/2=k/2),Nat.and_self,v,(om:(k-1)%2=0)];omega
  ·have h1:=ih (k/2) om om;have e:=ti (k/2);have h2:=vS (k/2);rw[(om:2*(k/2)=k)]at e;rw[(om:(k-1)/2=k/2-1),h1,(om:k%2=0)];omega
theorem HS:∀(n a:Nat),a<2^n→a&&& (2^n-1-a)=0
  |0,a,h=>by
    have:a=0:=by simpa using h
    subst this;simp
  |n+1,a,h=>by
    have e:2^(n+1)=2*2^n:=by rw[gb,cD]
    have y:0<2^n:=ic om;have ih:=HS n (a/2) om;rw[zG,show(2^(n+1)-1-a)/2=2^n-1-a/2 by omega,ih];rcases ma a with v|v
    · simp[v]
    · rw[(om:(2^(n+1)-1-a)%2=0)];simp
theorem HT:∀(n k:Nat),0<k->k<2^n->k&&& (2^n-k)=lb k
 |0,k,h0,h=>by simp at h;omega
 |n+1,k,h0,h=>by
  have e:2^(n+1)=2*2^n:=by rw[gb,cD]
  have z:0<2^n:=ic om;rw[zG];by_cases y:k%2=1
  ·have h1:=HS n (k/2) om;rw[uu y,(om:(2^(n+1)-k)/2=2^n-1-k/2),h1,y,(om:(2^(n+1)-k)%2=1)]
  ·have h1:=HT n (k/2) om om;have v:=ti (k/2);rw[(om:2*(k/2)=k)]at v;rw[(om:(2^(n+1)-k)/2=2^n-k/2),h1,(om:k%2=0),v];omega
def mZ(f:Nat->Int):Nat->Int
 |0=>0
 |n+1=>mZ f n+f (n+1)
def FW(f:Nat->Int)(k:Nat):Int:=mZ f k-mZ f (k-lb k)
def FA(f:Nat->Int):Nat->Nat->Int
 |0,j=>f j
 |k+1,j=>FA f k j+if k+1+lb (k+1)=j then FW f (k+1)else 0
def Jc(f:Nat->Int)(m:Nat):Int:=f (2*m-1)+f (2*m)
theorem FO(f:Nat->Int):∀n,mZ (Jc f) n=mZ f (2*n)
 |0=>rfl
 |n+1=>by
  show mZ (Jc f) n+Jc f (n+1)=_
  rw[FO f n,(om:2*(n+1)=2*n+1+1)]
  show _=mZ f (2*n)+f (2*n+1)+f (2*n+1+1)
  unfold Jc
  rw[(om:2*(n+1)-1=2*n+1),(om:2*(n+1)=2*n+1+1)]
  omega
theorem Pk(f:Nat->Int)(m:Nat):FW (Jc f) m=FW f (2*m):=by
 unfold FW;rw[FO,FO,ti,Nat.mul_sub]
theorem Pm{f:Nat->Int}(h:k%2=1):FW f k=f k:=by
 unfold FW;obtain⟨n,rfl⟩:∃n,k=n+1:=⟨k-1,om⟩;rw[uu h,eA];show mZ f n+f (n+1)-mZ f n=_;omega
theorem Jd(h:0<i):(i+lb i)%2=0:=by
 by_cases v:i%2=1
 ·rw[uu v];omega
 ·have:=ti (i/2);rw[(om:2*(i/2)=i)]at this;omega
theorem Pn{f:Nat->Int}(h:j%2=1):∀k,FA f k j=f j
 |0=>rfl
 |k+1=>by
  show FA f k j+_=_
  rw[Pn h k,a8 (λe=>by have:=Jd (i:=k+1) om;omega)]
  omega
theorem KG{f:Nat->Int}{m:Nat}:∀k,k<m->FA f (2*k) (2*m)+f (2*m-1)=FA (Jc f) k m
 |0,_=>by show f (2*m)+f (2*m-1)=f (2*m-1)+f (2*m);omega
 |k+1,h=>by
  have ih:=KG (f:=f) (m:=m) k (by omega)
  rw[show 2*(k+1)=2*k+1+1 by omega];show FA f (2*k) (2*m)+(if 2*k+1+lb (2*k+1)=2*m then FW f (2*k+1)else 0)+(if 2*k+1+1+lb (2*k+1+1)=2*m then FW f (2*k+1+1)else 0)+f (2*m-1)=FA (Jc f) k m+if k+1+lb (k+1)=m then FW (Jc f) (k+1)else 0;rw[a8 (by rw[uu (by omega)];omega),<-ih,Pk,show 2*k+1+1=2*(k+1)by omega,ti];by_cases hc:k+1+lb (k+1)=m
  ·rw[a7 (by omega),a7 hc];omega
  ·rw[a8 (by omega),a8 hc];omega
theorem TF:∀(j:Nat)(f:Nat->Int),0<j->FA f (j-1) j=FW f j:=by
 intro j;induction j using Nat.strongRecOn with
 |ind j ih =>
  intro f h;by_cases v:j%2=1
  ·rw[Pn v,Pm v]
  ·obtain⟨m,rfl⟩:∃m,j=2*m:=⟨j/2,om⟩;have h1:=ih m om (Jc f) om;have h2:=KG (f:=f) (m:=m) (m-1) om;rw[Pk]at h1;rw[<-h1,<-h2,(om:2*m-1=2*(m-1)+1)];show FA f (2*(m-1)) (2*m)+(if 2*(m-1)+1+lb (2*(m-1)+1)=2*m then FW f (2*(m-1)+1)else 0)=_;rw[a7 (by rw[uu om];omega),Pm om]
theorem E4{f:Nat->Int}(h:0<j):∀k,j-1<=k->FA f k j=FW f j:=λk v=>by
 induction k with
 |zero=>rw[<-TF j f h,(om:j-1=0)]
 |succ k ih =>
  by_cases e:j-1=k+1
  ·rw[<-e];exact TF j f h
  ·show FA f k j+_=_;rw[ih om,a8 (by have:=vD (k:=k+1) om;omega)];omega
theorem FP(f g:Nat->Int):∀n,mZ (λi=>f i-g i) n=mZ f n-mZ g n
 |0=>rfl
 |n+1=>by show mZ (λi=>f i-g i) n+(f (n+1)-g (n+1))=mZ f n+f (n+1)-(mZ g n+g (n+1));rw[FP f g n];omega
theorem BD{f g:Nat->Int}:∀n,(∀i,1<=i->i<=n->f i=g i)->mZ f n=mZ g n
 |0,_=>rfl
 |n+1,h=>by show mZ f n+f (n+1)=mZ g n+g (n+1);rw[BD n (λi h1 h2=>h i h1 om),h (n+1) om om]
theorem VR(f g:Nat->Int)(k:Nat):FW (λi=>f i-g i) k=FW f k-FW g k:=by unfold FW;rw[FP,FP];omega
theorem HU{f g:Nat->Int}(h:∀i,1<=i->i<=k->f i=g i):FW f k=FW g k:=by
 unfold FW;rw[BD k h,BD (k-lb k) (λi h1 h2=>h i h1 om)]
def cel(gw:Nat)(V:List Int)(y x:Nat):Int:=V.getD ((y-1)*gw+(x-1)) 0
def MX(gw:Nat)(V:List Int)(x y:Nat):Int:=FW (λy'=>FW (cel gw V y') x) y
def yN(gw:Nat)(V:List Int)(x y:Nat):Int:=mZ (λy'=>mZ (cel gw V y') x) y
section
variable{V:List Int}
def nJ(gw:Nat)(V:List Int)(y k i:Nat):Int :=
 if i%(gw+1)=0\/i/(gw+1)=0 then 0 else if i/(gw+1)<y then FW (cel gw V (i/(gw+1))) (i%(gw+1))
 else if i/(gw+1)=y then FA (cel gw V y) k (i%(gw+1))else cel gw V (i/(gw+1)) (i%(gw+1))
def nL(gw:Nat)(V:List Int)(y k i:Nat):Int :=
 if i%(gw+1)=0\/i/(gw+1)=0 then 0 else FA (λy'=>FW (cel gw V y') (i%(gw+1))) (if i%(gw+1)<=k then y else y-1) (i/(gw+1))
def lk(gw:Nat)(V:List Int)(i:Nat):Int:=if i%(gw+1)=0\/i/(gw+1)=0 then 0 else MX gw V (i%(gw+1)) (i/(gw+1))
theorem AE{x y:Nat}(h:x<=gw):(y*(gw+1)+x)%(gw+1)=x:=by
 rw[cD,fp,dT om]
theorem ym{x y:Nat}(h:x<=gw):(y*(gw+1)+x)/(gw+1)=y:=by
 rw[cD,fF om,ee om,eW]
theorem Je{x y:Nat}(h:x<=gw):i=y*(gw+1)+x↔i%(gw+1)=x/\i/(gw+1)=y:=by
 constructor
 ·rintro rfl;exact⟨AE h,ym h⟩
 ·rintro⟨rfl,rfl⟩;have:=dP i (gw+1);rw[cD]at this;omega
theorem FQ{y x v:Nat}(h:x<=gw):nJ gw V y k (v*(gw+1)+x)=if x=0\/v=0 then 0 else if v<y then FW (cel gw V v) x else if v=y then FA (cel gw V y) k x else cel gw V v x:=by
 unfold nJ;rw[AE h,ym h]
theorem FR{y x v:Nat}(h:x<=gw):nL gw V y k (v*(gw+1)+x)=if x=0\/v=0 then 0 else FA (λv=>FW (cel gw V v) x) (if x<=k then y else y-1) v:=by
 unfold nL;rw[AE h,ym h]
theorem TG{x y:Nat}(h:x<=gw):lk gw V (y*(gw+1)+x)=if x=0\/y=0 then 0 else MX gw V x y:=by
 unfold lk;rw[AE h,ym h]
theorem MY{y x:Nat}(L:1<=y)(J:x<gw)(v:x+1+lb (x+1)<=gw) :
  jU (nJ gw V y x) (y*(gw+1)+(x+1+lb (x+1))) (nJ gw V y x (y*(gw+1)+(x+1+lb (x+1)))+nJ gw V y x (y*(gw+1)+(x+1)))=nJ gw V y (x+1):=funext λi=>by
 have h1:=E4 (f:=cel gw V y) (j:=x+1) om x om;have h2:nJ gw V y x (y*(gw+1)+(x+1+lb (x+1)))=FA (cel gw V y) x (x+1+lb (x+1)):=by rw[FQ v,a8 om,a8 om,a7 rfl]
 have D:nJ gw V y x (y*(gw+1)+(x+1))=FW (cel gw V y) (x+1):=by rw[FQ om,a8 om,a8 om,a7 rfl,h1]
 unfold jU;rw[h2,D];by_cases e:i=y*(gw+1)+(x+1+lb (x+1))
 ·rw[a7 e,e,FQ v,a8 om,a8 om,a7 rfl];show _=FA (cel gw V y) x _+_;rw[a7 rfl]
 ·rw[a8 e];unfold nJ;split
  ·rfl
  ·split
   ·rfl
   ·split
    ·rename_i I;show _=FA (cel gw V y) x (i%(gw+1))+_;rw[a8 (λz=>e ((Je v).2 ⟨z.symm,I⟩))];omega
    ·rfl
theorem MZ{y x:Nat}(D:x<gw)(v:¬x+1+lb (x+1)<=gw):nJ gw V y x i=nJ gw V y (x+1) i:=by
 have z:=dt i (show gw+1>0 by omega);unfold nJ;split
 ·rfl
 ·split
  ·rfl
  ·split
   ·show _=FA (cel gw V y) x (i%(gw+1))+_;rw[a8 om];omega
   ·rfl
theorem QN{y:Nat}(I:1<=y):nJ gw V y gw i=nJ gw V (y+1) 0 i:=by
 have D:=dt i (show gw+1>0 by omega);unfold nJ;split
 ·rfl
 ·rename_i z;by_cases h1:i/(gw+1)<y
  ·rw[a7 h1,a7 om]
  ·rw[a8 h1];by_cases h2:i/(gw+1)=y
   ·rw[a7 h2,a7 om,E4 om gw om,h2]
   ·rw[a8 h2,a8 om];split
    ·rename_i v;rw[v];rfl
    ·rfl
theorem Xe(hi:i<(gh+1)*(gw+1)):nJ gw V (gh+1) 0 i=nL gw V 1 0 i:=by
 have hd:i/(gw+1)<gh+1:=cS (by rw[cD];exact hi);unfold nJ nL;split
 ·rfl
 ·rename_i v;rw[a8 (show ¬i%(gw+1)<=0 by omega)];rfl
theorem M0{y x:Nat}(J:1<=y)(I:x<gw) :
  jU (nL gw V y x) ((y+lb y)*(gw+1)+(x+1)) (nL gw V y x ((y+lb y)*(gw+1)+(x+1))+nL gw V y x (y*(gw+1)+(x+1)))=nL gw V y (x+1):=funext λi=>by
 obtain⟨k,rfl⟩:∃k,y=k+1:=⟨y-1,om⟩;have h1:=E4 (f:=λv=>FW (cel gw V v) (x+1)) (j:=k+1) om k om;have h2:nL gw V (k+1) x ((k+1+lb (k+1))*(gw+1)+(x+1))=FA (λv=>FW (cel gw V v) (x+1)) k (k+1+lb (k+1)):=by rw[FR om,a8 om,a8 om,eA]
 have z:nL gw V (k+1) x ((k+1)*(gw+1)+(x+1))=FW (λv=>FW (cel gw V v) (x+1)) (k+1):=by rw[FR om,a8 om,a8 om,eA,h1]
 unfold jU;rw[h2,z];by_cases e:i=(k+1+lb (k+1))*(gw+1)+(x+1)
 ·rw[a7 e,e,FR om,a8 om,a7 om];show _=FA (λv=>FW (cel gw V v) (x+1)) k _+_;rw[a7 rfl]
 ·rw[a8 e];unfold nL;split
  ·rfl
  ·by_cases h2:i%(gw+1)<=x
   ·rw[a7 h2,a7 om]
   ·rw[a8 h2,eA];by_cases z:i%(gw+1)=x+1
    ·rw[a7 om];show _=FA _ k (i/(gw+1))+_;rw[a8 (λD=>e ((Je om).2 ⟨z,D.symm⟩))];omega
    ·rw[a8 om]
theorem M1{y:Nat}(hi:i<(gh+1)*(gw+1))(v:¬y+lb y<=gh)(z:1<=y):nL gw V y 0 i=nL gw V (y+1) 0 i:=by
 have hd:i/(gw+1)<gh+1:=cS (by rw[cD];exact hi);obtain⟨k,rfl⟩:∃k,y=k+1:=⟨y-1,om⟩;unfold nL;split
 ·rfl
 ·rw[a8 om,a8 om,eA,eA];show _=FA _ k (i/(gw+1))+_;rw[a8 om];omega
theorem QO{y:Nat}:nL gw V y gw i=nL gw V (y+1) 0 i:=by
 have v:=dt i (show gw+1>0 by omega);unfold nL;split
 ·rfl
 ·rw[a7 om,a8 om,eA]
theorem Xf(hi:i<(gh+1)*(gw+1)):nL gw V (gh+1) 0 i=lk gw V i:=by
 have hd:i/(gw+1)<gh+1:=cS (by rw[cD];exact hi);unfold nL lk;split
 ·rfl
 ·rw[a8 om,eA];exact E4 (fT λe=>by rename_i v;exact v (.inr e)) gh (dE (Nat.sub_le _ _) (nR hd))
theorem QP(gw:Nat)(V:List Int){x y:Nat}(z:0<x):MX gw V x y=FW (λv=>mZ (cel gw V v) x) y-FW (λv=>mZ (cel gw V v) (x-lb x)) y:=by
 unfold MX;rw[<-VR];rfl
theorem yn(gw:Nat)(V:List Int){w y:Nat}(z:0<y):FW (λv=>mZ (cel gw V v) w) y=yN gw V w y-yN gw V w (y-lb y):=rfl
theorem KH(gw:Nat)(V:List Int)(y:Nat):∀x,mZ (cel gw V (y+1)) x=tI V (y*gw) x
 |0=>rfl
 |x+1=>by
  show mZ (cel gw V (y+1)) x+cel gw V (y+1) (x+1)=tI V (y*gw) x+V.getD (y*gw+x) 0
  rw[KH gw V y x]
  rfl
theorem ve(gw:Nat)(V:List Int)(x:Nat):∀y,yN gw V x y=lf V gw y x
 |0=>rfl
 |y+1=>by
  show mZ (λv=>mZ (cel gw V v) x) y+mZ (cel gw V (y+1)) x=tI V (y*gw) x+lf V gw y x
  have:=ve gw V x y
  unfold yN at this;rw[this,KH];omega
end
section
variable{ps:String}
theorem FS(a b:Nat)(L:a<2^64)(O:b<2^64)(I:a&&& b<2^63)(x y:Int)(S:x%2^64=a)(U:y%2^64=b)(w:World):(Op.intBits .and .i64 x y).run P w=.ok (ii ((a&&& b:Nat):Int)) w:=by
 have v:(BitVec.ofInt 64 x).toNat=a:=by rw[m8];omega
 have z:(BitVec.ofInt 64 y).toNat=b:=by rw[m8];omega
 have D:(BitVec.ofInt 64 x&&& BitVec.ofInt 64 y).toNat=a&&& b:=by rw[rE,v,z]
 unfold Op.intBits;show(pure (ii (IntKind.i64.wrap ((BitVec.ofInt 64 x&&& BitVec.ofInt 64 y).toNat:Int))):Sem Value).run P w=_;rw[D]
 have J:IntKind.i64.wrap ((a&&& b:Nat):Int)=((a&&& b:Nat):Int):=by
  generalize a&&& b=n at *;exact gC _ om
 rw[J];rfl
theorem Dy{y:Operand}{m:Int}(J:ev e x=ii n)(L:ev e y=ii m)(I:m=-(n:Int))(v:0<n)(h1:n<2^63):iE P e ⟨d,.binOp .and t x y t',ty,ps,af,none⟩ (ii (lb n:Nat)):=by
 intro w;subst I;have z:=HT 64 n v om;have D:=vS n;have:=FS (P:=P) n (2^64-n) om om om (n:Int) (-(n:Int)) om om w;rw[z]at this;simp[gd,execOp,J,L,eqGuard,binOp,this]
theorem Po{y:Operand}(D:ev e x=ii n)(I:ev e y=ii ((n:Int)-1))(v:0<n)(h1:n<2^63):iE P e ⟨d,.binOp .and t x y t',ty,ps,af,none⟩ (ii ((n-lb n:Nat):Int)):=by
 intro w;have z:=MW n v;have:=FS (P:=P) n (n-1) om om om (n:Int) ((n:Int)-1) om om w;rw[z]at this;simp[gd,execOp,D,I,eqGuard,binOp,this]
end
def xy(w:World)(tb gw gh:Nat)(f:Nat->Int):Prop:=∃A c,eL w tb 293 [ii gw,ii gh,.slice A ((gh+1)*(gw+1)) c]/\Rd w A (fj ((gh+1)*(gw+1)) f)
theorem xy.gr{f:Nat->Int}(h:xy w tb gw gh f)(g:Gr w w'):xy w' tb gw gh f:=by
 obtain⟨A,c,h1,h2⟩:=h;exact⟨A,c,h1.gr g,h2.gr g⟩
theorem vK{x y:Nat}(z:x<=gw)(v:y<=gh):y*(gw+1)+x<(gh+1)*(gw+1):=by
 have:=cI (gw+1) v;rw[cX];omega
theorem xM(y:gw<=1024)(v:gh<=1024):(gh+1)*(gw+1)<=1025*1025:=fy om om
theorem HW{V:List Int}(v:vB V){x y:Nat}(z:x<=1024)(D:y<=1024):-2251799813685248<=yN gw V x y/\yN gw V x y<=2251799813685248:=by
 have:=va v gw z y;rw[ve];omega
section
variable{V:List Int}{f:Nat->Int}
theorem M3(x y:Nat)(L:gw<=1024)(J:gh<=1024)(O:x<=gw)(U:y<=gh)(D:xy W tb gw gh f):Fn prog 253 [pt tb,ii x,ii y] W (dp (ii (y*(gw+1)+x:Nat)) W):=by
 obtain⟨A,c,I,Z⟩:=D;have h1:=vK O U;have h2:=xM L J;have v:(y:Int)*((gw:Int)+1)=((y*(gw+1):Nat):Int):=by push_cast;rfl
 have V:y*(gw+1)<=1025*1025:=om;have S:=St.start W;refine zI func253 ?_;iterate 5 refine z ?_
 refine dH (cV iY rfl rfl (I.gr S.out) rfl) ?_;refine zr ?_;refine dU (fh rfl (by rw[v];omega)) ?_;rw[v];refine zX ?_;exact⟨ie (by push_cast;omega),S.out⟩
theorem yo(x0 y0:Nat)(hB:vB V)(hw:gw<=1024)(hh:gh<=1024)(hx:x0<=gw)(hy:y0<=gh)(hF:xy W tb gw gh (lk gw V)):Fn prog 173 [pt tb,ii x0,ii y0] W (dp (ii (yN gw V x0 y0)) W):=by
 have aa:=hF;obtain⟨A,c,hT,hR⟩:=hF;have an:=xM hw hh;have v:=λx y hx hy=>HW (gw:=gw) hB (x:=x) (y:=y) hx hy;have ag:dO A:=hR.someA (by rw[pV,cX];omega);have S:=St.start W;refine zI func173 ?_;refine zg ?_
 refine dl (λm e w=>m<=gh/\SL e [(0,pt tb),(1,ii x0),(7,ii (yN gw V x0 y0-yN gw V x0 m)),(8,ii m)]/\St No W w []) y0
  ⟨hy,sl,S⟩ ?_
 clear S;rintro y e w ⟨Z,ac,S⟩;rw[ac.fold];have b0:=v x0 y0 om om;have b1:=v x0 y om om;generalize ai:yN gw V x0 y0=P0 at *;by_cases D:0<y
 ·have al:=vS y;have aj:=vD D;have ae:=yn gw V (w:=x0) D;refine zg ?_
  refine dl (λm e w=>m<=x0/\SL e [(0,pt tb),(1,ii x0),(7,ii (P0-yN gw V x0 y+(FW (λz=>mZ (cel gw V z) x0) y-FW (λz=>mZ (cel gw V z) m) y))),(8,ii y),(9,ii m)]/\St No W w []) x0
   ⟨fK _,sl,S⟩ ?_
  clear S;rintro x e2 w2 ⟨ao,U,S⟩;rw[U.fold];by_cases I:0<x
  ·have ak:=vS x;have ad:=vD I;have L:=vK (gw:=gw) (gh:=gh) (x:=x) (y:=y) om Z;have am:=QP gw V (y:=y) I
   have J:(fj ((gh+1)*(gw+1)) (lk gw V))[((y*(gw+1)+x:Nat):Int).toNat * 1]?=some (ii (MX gw V x y)):=by
    rw[jg L,TG om,a8 om]
   have c1:=yn gw V (w:=x) D;have c2:=yn gw V (w:=x-lb x) D;have d1:=v x y om om;have d2:=v x (y-lb y) om om;have d3:=v (x-lb x) y om om;have d4:=v (x-lb x) (y-lb y) om om;have d5:=v x0 (y-lb y) om om;have em:((x:Nat):Int)-1=(x:Int)-1:=rfl;generalize FW (λz=>mZ (cel gw V z) x) y=R1 at *;generalize FW (λz=>mZ (cel gw V z) x0) y=R0 at *;generalize ab:FW (λz=>mZ (cel gw V z) (x-lb x)) y=R2 at *;refine zD [0,1,2,3,4,5,6,7,8,9,10,11,12] [] ?_;refine zM (λwq O=>(hT.gr (S.gr O).out)) ?_;refine zP (λwq O=>M3 x y hw hh om Z (aa.gr (S.gr O).out)) ?_;refine zO (λwq O=>(hR.gr (S.gr O).out)) J ?_;refine zE ?_;intro ap ah S;refine dU (Po rfl rfl I om) ?_;refine zg ?_;exact⟨x-lb x,om,om,⟨rfl,rfl,ie (by rw[ab];omega),rfl,rfl,trivial⟩,S⟩
  ·obtain rfl:x=0:=om
   have hz:FW (λz=>mZ (cel gw V z) 0) y=0:=by
    have h0:∀n,mZ (λz=>mZ (cel gw V z) 0) n=0:=λn=>by
     induction n with
     |zero=>rfl
     |succ n ih=>show mZ _ n+0=0;rw[ih];rfl
    unfold FW;rw[h0,h0];rfl
   rw[hz]at *;refine zg ?_;refine dU (Po rfl rfl D om) ?_;refine zg ?_;exact⟨y-lb y,om,om,sl,S⟩
 ·obtain rfl:y=0:=om;have hz:yN gw V x0 0=0:=rfl;refine zX ?_;exact⟨ie om,S.out⟩
theorem Jf(x0 y0 x1 y1:Nat)(I:vB V)(L:1<=gw/\gw<=1024)(J:1<=gh/\gh<=1024)(hx:x0<=x1/\x1<gw)(hy:y0<=y1/\y1<gh)(U:xy W tb gw gh (lk gw V)) :
  Fn prog 100 [pt tb,.agg #[ii x0,ii y0,ii x1,ii y1]] W (dp (.tuple #[ii (uv V gw x0 y0 x1 y1),ii 0]) W):=by
 have z:=U;obtain⟨A,c,Z,hR⟩:=U;have O:dF x0 y0 x1 y1 gw gh=0:=gW om om om om;have ey:(y1:Int)+1=((y1+1:Nat):Int):=by push_cast;rfl
 have ex:(x1:Int)+1=((x1+1:Nat):Int):=by push_cast;rfl
 have D:=λx y hx hy=>HW (gw:=gw) I (x:=x) (y:=y) hx hy;have d1:=D (x1+1) (y1+1) om om;have d2:=D x0 (y1+1) om om;have d3:=D (x1+1) y0 om om;have d4:=D x0 y0 om om;have S:=St.start W;refine zI func100 ?_;refine zN ?_;intro aa ag ab S;refine zD [0,1,2,3,4,5,6,7,8,9,10] [] ?_;refine zM (λwq v=>(Z.gr (S.gr v).out)) ?_;refine zM (λwq v=>(Z.gr (S.gr v).out)) ?_;refine nA rfl (λwq v=>(jW _ _ _ _ _ _ om om wq).mono (λ_ _⟨hv,hg⟩=>⟨hv,v.trans hg⟩)) ?_;rw[O];refine zE ?_;intro ah ac S;refine zD [0,1,2,3,4,5,6,7] [] ?_;rw[ex];refine zQ ?_;rw[ey];refine zE ?_;intro ai ad S;refine zD [0,1,2,3,4,5,6,7,8,9,10,11,12,13,14,15,16,17,18,19,20,21,22,23,24] [] ?_;refine zP (λwq v=>yo (x1+1) (y1+1) I L.2 J.2 om om (z.gr (S.gr v).out)) ?_;refine zP (λwq v=>yo x0 (y1+1) I L.2 J.2 om om (z.gr (S.gr v).out)) ?_;refine zP (λwq v=>yo (x1+1) y0 I L.2 J.2 om om (z.gr (S.gr v).out)) ?_;refine zP (λwq v=>yo x0 y0 I L.2 J.2 om om (z.gr (S.gr v).out)) ?_;refine zE ?_;intro aj ae S;refine nd rfl rfl ⟨?_,S.out⟩;unfold uv;rw[ve,ve,ve,ve]
end
theorem HX{f:Nat->Int}{M:Int}(h:∀i,-M<=f i/\f i<=M)(b:Nat):∀d:Nat,-(d*M)<=mZ f (b+d)-mZ f b/\mZ f (b+d)-mZ f b<=d*M
 |0=>by simp
 |d+1=>by
  have ih:=HX h b d
  have:=h (b+d+1);have e:((d+1:Nat):Int)*M=d*M+M:=by push_cast;rw[j6,jG]
  show _<=mZ f (b+d)+f (b+d+1)-mZ f b/\mZ f (b+d)+f (b+d+1)-mZ f b<=_;rw[e];omega
theorem Cu{f:Nat->Int}{M:Int}(y:0<=M)(h:∀i,-M<=f i/\f i<=M){K:Nat}(D:k<=K):-(K*M)<=FW f k/\FW f k<=K*M:=by
 have h1:=vS k;have h2:=HX h (k-lb k) (lb k);rw[(om:k-lb k+lb k=k)]at h2;have v:((lb k:Nat):Int)<=(K:Int):=om;have z:((lb k:Nat):Int)*M<=(K:Int)*M:=fu v y;unfold FW;omega
theorem Jg{f:Nat->Int}{M:Int}(v:0<=M)(h:∀i,-M<=f i/\f i<=M){K:Nat}(j:Nat):∀k,k<=K->-(M+k*(K*M))<=FA f k j/\FA f k j<=M+k*(K*M)
 |0,_=>by have:=h j;show _<=f j/\f j<=_;simp;omega
 |k+1,hk=>by
  have ih:=Jg (K:=K) v h j k om;have h1:=Cu v h (k:=k+1) (K:=K) hk;have y:0<=(K:Int)*M:=p5 om v;have e:((k+1:Nat):Int)*(K*M)=k*(K*M)+K*M:=by push_cast;rw[j6,jG]
  rw[e];show _<=FA f k j+(if k+1+lb (k+1)=j then FW f (k+1)else 0)/\FA f k j+(if k+1+lb (k+1)=j then FW f (k+1)else 0)<=_;split<;>omega
theorem zJ{V:List Int}(v:vB V)(y i:Nat):-2147483648<=cel gw V y i/\cel gw V y i<=2147483648:=by
 have:=v ((y-1)*gw+(i-1));unfold cel;omega
theorem QR{V:List Int}(v:vB V)(I:gw<=1024){y:Nat}(z:k<=gw)(i:Nat):-4503599627370496<=nJ gw V y k i/\nJ gw V y k i<=4503599627370496:=by
 have D:=dt i (show gw+1>0 by omega);unfold nJ;split
 ·omega
 ·split
  ·have:=Cu om (zJ (gw:=gw) v (i/(gw+1))) (k:=i%(gw+1)) (K:=1024) om;omega
  ·split
   ·have h1:=Jg om (zJ (gw:=gw) v y) (K:=1024) (i%(gw+1)) k om;have h2:(k:Int)*((1024:Nat)*2147483648)<=1024*((1024:Nat)*2147483648):=fu om om;omega
   ·have:=zJ (gw:=gw) v (i/(gw+1)) (i%(gw+1));omega
theorem QS{V:List Int}(D:vB V)(J:gw<=1024){y:Nat}(L:y<=1024)(i:Nat):-2310346608841064448<=nL gw V y k i/\nL gw V y k i<=2310346608841064448:=by
 have I:=dt i (show gw+1>0 by omega);unfold nL;split
 ·omega
 ·have z:∀v,-2199023255552<=FW (cel gw V v) (i%(gw+1))/\FW (cel gw V v) (i%(gw+1))<=2199023255552:=λv=>by
   have:=Cu om (zJ (gw:=gw) D v) (k:=i%(gw+1)) (K:=1024) om;omega
  have h1:=Jg om z (K:=1024) (i/(gw+1)) (if i%(gw+1)<=k then y else y-1) (by split<;>omega);have h2:((if i%(gw+1)<=k then y else y-1:Nat):Int)*((1024:Nat)*2199023255552)<=1024*((1024:Nat)*2199023255552):=fu (by split<;>omega) om;omega
def Bc(gw:Nat)(V:List Int)(k i:Nat):Int:=if i%(gw+1)=0\/i/(gw+1)=0 then 0 else if (i/(gw+1)-1)*gw+(i%(gw+1)-1)<k then V.getD ((i/(gw+1)-1)*gw+(i%(gw+1)-1)) 0 else 0
theorem M4(gw:Nat)(V:List Int):Bc gw V 0=λ_=>0:=funext λi=>by unfold Bc;split<;>simp
theorem M5{V:List Int}(S:1<=gw):jU (Bc gw V k) ((k/gw+1)*(gw+1)+(k%gw+1)) (V.getD k 0)=Bc gw V (k+1):=funext λi=>by
 have O:=dt k (show gw>0 by omega);have v:=dP k gw;rw[cD]at v;unfold jU;by_cases e:i=(k/gw+1)*(gw+1)+(k%gw+1)
 ·rw[a7 e,e];unfold Bc;rw[AE (gw:=gw) (x:=k%gw+1) om,ym (gw:=gw) (x:=k%gw+1) om,a8 (λh=>h.elim (Nat.succ_ne_zero _) (Nat.succ_ne_zero _)),eA,eA,v,a7 om]
 ·rw[a8 e];unfold Bc;split
  ·rfl
  ·rename_i L;have D:=dt i (show gw+1>0 by omega)
   have I:(i/(gw+1)-1)*gw+(i%(gw+1)-1)≠k:=λz=>e (by
    have J:k%gw=i%(gw+1)-1:=by rw[<-z,cD,fp,dT (show i%(gw+1)-1<gw by omega)]
    have a2:k/gw=i/(gw+1)-1:=by rw[<-z,cD,fF om,ee (show i%(gw+1)-1<gw by omega),eW]
    refine(Je (gw:=gw) (x:=k%gw+1) (y:=k/gw+1) om).2 ⟨om,?_⟩;rw[a2];generalize i/(gw+1)=q at *;omega)
   by_cases h1:(i/(gw+1)-1)*gw+(i%(gw+1)-1)<k
   ·rw[a7 h1,a7 om]
   ·rw[a8 h1,a8 om]
theorem QT{V:List Int}(z:1<=gw)(hi:i<(gh+1)*(gw+1)):Bc gw V (gw*gh) i=nJ gw V 1 0 i:=by
 have hd:i/(gw+1)<gh+1:=cS (by rw[cD];exact hi);have y:=dt i (show gw+1>0 by omega);unfold Bc nJ;split
 ·rfl
 ·rename_i v
  have h1:(i/(gw+1)-1)*gw+gw<=gw*gh:=by
   have:(i/(gw+1)-1+1)*gw<=gh*gw:=cI _ (by generalize i/(gw+1)=q at*;omega);rw[iI,kR,cD gh]at this;exact this
  rw[a7 om,a8 (by generalize i/(gw+1)=q at*;omega)];split
  ·rename_i h2;show _=cel gw V 1 (i%(gw+1));unfold cel;rw[h2]
  ·rfl
section
variable{cap:Nat}
theorem FU(y:eJ W p gw gh cc A cap bs Rs):∀w,Gr W w->Fn prog 47 [pt p,.agg #[ii 0,ii 0,ii (gw-1),ii (gh-1)]] w (jc (λv=>.tuple #[v,ii 0]) 2 1 (gw*gh) (cY (dw gw gh cc)) w):=λw g=>by
 have J:=y.sw;have I:=y.sh;have z:((gw:Int)-1)=((gw-1:Nat):Int):=om;have D:((gh:Int)-1)=((gh-1:Nat):Int):=om;have:=iz (W:=w) 0 0 (gw-1) (gh-1) om om (y.gr g);rw[<-z,<-D,(om:gw-1+1-0=gw),(om:gh-1+1-0=gh),wJ,cD gh gw]at this;exact this
theorem VT(gw gh:Nat)(hw:1<=gw/\gw<=1024)(Z:1<=gh/\gh<=1024)(W:World):Fn prog 407 [ii gw,ii gh] W (λv w'=>∃tb A,v=.tuple #[pt tb,ii 0] /\
  St No W w' [.blk tb 293 [ii gw,ii gh,.slice A ((gh+1)*(gw+1)) ((gh+1)*(gw+1))],.row 2 1 A ((gh+1)*(gw+1)) ((gh+1)*(gw+1)) (fj ((gh+1)*(gw+1)) λ_=>0)]):=by
 have J:dF 0 0 0 0 gw gh=0:=gW om om om om;have aa:=xM hw.2 Z.2;have L:((gw:Int)+1)*((gh:Int)+1)=(((gh+1)*(gw+1):Nat):Int):=by push_cast;rw[iW]
 generalize hn:(gh+1)*(gw+1)=n at *;have S:=St.start W;refine zI func407 ?_;refine z ?_;refine z ?_;refine zs ?_;refine dU (kL (pl:=[(0,1),(1,1),(2,1),(3,1)]) dL gE (λw=>by kernel_rfl) rfl rfl) ?_;refine z ?_;refine z ?_;refine eY rfl (jW _ _ _ _ _ _ om om W) ?_;rintro _ ab ⟨rfl,I⟩;have S:=S.gr I;rw[J];refine z ?_;refine z ?_;refine zf ?_;(iterate 3 refine z ?_);refine zr ?_;refine z ?_;refine zr ?_;refine dU (fh rfl (by rw[L];omega)) ?_;rw[L];refine nD fZ jR rfl rfl rfl (n:=n) (c:=n) om om om om S ?_;intro y ac U S O;refine zN ?_;intro D ad V S;refine zg ?_;rw[yk]at S;exact nd rfl rfl ⟨D,y,rfl,S⟩
theorem Jh(hB:vB (dw gw gh cc))(hG:eJ W p gw gh cc A cap bs Rs):Fn prog 402 [pt p] W (λv w'=>∃tb A' c',v=.tuple #[pt tb,ii 0] /\
  St No W w' [.blk tb 293 [ii gw,ii gh,.slice A' ((gh+1)*(gw+1)) c'],.row 2 1 A' ((gh+1)*(gw+1)) c' (fj ((gh+1)*(gw+1)) (lk gw (dw gw gh cc)))]):=by
 have hw:=hG.sw;have hh:=hG.sh;have hm:gw*gh<=1024*1024:=fy hw.2 hh.2;have hV:=qf gw gh cc;have ar:=FU hG;have aM:=xM hw.2 hh.2;have ap:=hG.top;generalize dw gw gh cc=V at *;have ao:∀i,i<gw*gh->(cY V)[(i:Int).toNat * 1]?=some (ii (V.getD i 0)):=λi hi=>by rw[cG,b7];exact gc (kr om)
 generalize hn:(gh+1)*(gw+1)=n at *;have L:=λ(w:World)(tb x y:Nat)(A:Option Addr)(c:Nat)(f:Nat->Int)(hx:x<=gw)(hy:y<=gh)(h1:eL w tb 293 [ii gw,ii gh,.slice A n c])(h2:Rd w A (fj n f))=>M3 (W:=w) (tb:=tb) (f:=f) x y hw.2 hh.2 hx hy ⟨A,c,hn▸h1,hn▸h2⟩;have ai:=λw=>VT gw gh hw hh w;rw[hn]at ai;have S:=St.start W;refine zI func402 ?_;refine zC (mC p gw gh _ W (ap.gr S.out)) ?_;intro aN aE S;refine zK (ai _) ?_;rintro _ aO ⟨tb,D,rfl,S2⟩;have S:=S.app S2;refine zC (uo p gw gh hw.2 hh.2 _ _ (ap.gr S.out)) ?_;intro aP aF S;refine zK (ar _ S.out) ?_;rintro _ aQ ⟨aa,ah,rfl,aj,ak,au⟩;have S:=S.pushRow aj ak au;refine zg ?_;rw[<-M4 gw V]at S
 refine dl (λm e w=>∃k:Nat,k+m=gw*gh/\SL e [(4,pt tb),(35,.slice aa (gw*gh) ah),(36,ii (gw*gh:Nat)),(37,ii k)] /\
  St No W w [.row 2 1 aa (gw*gh) ah (cY V),.blk tb 293 [ii gw,ii gh,.slice D n n],.row 2 1 D n n (fj n (Bc gw V k))]) (gw*gh)
  ⟨0,om,sl,S⟩ ?_
 clear S;rintro m e w ⟨k,hk,J,S⟩;rw[J.fold];by_cases aq:k<gw*gh
 ·have aA:dO aa:=(S.row (i:=0) rfl).someA om;have an:dO D:=(S.row (i:=2) rfl).someA (by rw[<-hn,cX];omega);have aL:=dt k (show gw>0 by omega);have aK:k/gw<gh:=cS aq;have e3:(k:Int)%gw=((k%gw:Nat):Int):=by push_cast;rfl
  have e4:(k:Int)/gw=((k/gw:Nat):Int):=by push_cast;rfl
  have aJ:(0:Int)<=(k:Int)/gw:=sU om om;have e1:((k%gw:Nat):Int)+1=((k%gw+1:Nat):Int):=rfl;have e2:((k/gw:Nat):Int)+1=((k/gw+1:Nat):Int):=rfl;have av:=vK (gw:=gw) (gh:=gh) (x:=k%gw+1) (y:=k/gw+1) om om;rw[hn]at av;have am:=M5 (gw:=gw) (k:=k) (V:=V) hw.1;refine zt ?_;refine z ?_;refine zx ?_;refine dH (eI iY rfl rfl (S.rd (i:=0) rfl) (ao k aq)) ?_;refine zD [0,1,2,3,4,5,6,7,8,9,10,11,12,13,14,15] [] ?_;rw[e3];refine zQ ?_;rw[e1];refine zQ ?_;rw[e4];refine zQ ?_;rw[e2];refine zE ?_;intro aR aG S;refine zD [0,1,2,3,4,5,6,7,8] [9,10] ?_;refine zP (λwq I=>L wq tb (k%gw+1) (k/gw+1) D n (Bc gw V k) om om ((S.gr I).blk (i:=1) rfl) ((S.gr I).rd (i:=2) rfl)) ?_;refine zE ?_;intro aS aH S;refine jk (i:=2) S rfl (cR _) rfl rfl rfl rfl (by rw[pV];omega) rfl ?_;intro aT S;refine zg ?_;rw[rS,am]at S;exact⟨m-1,om,k+1,om,sl,S⟩
 ·obtain rfl:k=gw*gh:=om;rw[nj (o':=nJ gw V 1 0) (λi hi=>QT hw.1 (by rw[hn];exact hi))]at S;have S:=S.drop 1;refine zg ?_;have bA:=λ{y k:Nat}(hk:k<=gw)(i:Nat)=>QR (y:=y) hB hw.2 hk i;have bB:=λ{y k:Nat}(hy:y<=1024)(i:Nat)=>QS (k:=k) hB hw.2 hy i;have Z:∀{o o':Nat->Int},(∀i,i<n->o i=o' i)->fj n o=fj n o':=λh=>nj h;have an:dO D:=(S.row (i:=1) rfl).someA (by rw[<-hn,cX];omega)
  refine dl (λm e w=>∃y:Nat,y+m=gh+1/\1<=y/\SL e [(4,pt tb),(12,ii y)] /\
   St No W w [.blk tb 293 [ii gw,ii gh,.slice D n n],.row 2 1 D n n (fj n (nJ gw V y 0))]) gh
   ⟨1,om,om,sl,S⟩ ?_
  clear S;rintro m e w ⟨y,hy,ae,J,S⟩;rw[J.fold];by_cases U:y<=gh
  ·skip;refine zg ?_
   refine dl (λm2 e w=>∃x:Nat,x+m2=gw/\SL e [(4,pt tb),(12,ii y),(13,ii (x+1:Nat))] /\
    St No W w [.blk tb 293 [ii gw,ii gh,.slice D n n],.row 2 1 D n n (fj n (nJ gw V y x))]) gw
    ⟨0,om,sl,S⟩ ?_
   clear S;rintro m2 e w ⟨x,hx,J,S⟩;rw[J.fold];by_cases ag:x<gw
   ·have aw:=vS (x+1);have az:=vD (k:=x+1) om;have ab:((x+1:Nat):Int)+(lb (x+1):Nat)=((x+1+lb (x+1):Nat):Int):=rfl;by_cases O:x+1+lb (x+1)<=gw
    ·have ac:=vK (gw:=gw) (gh:=gh) (x:=x+1+lb (x+1)) (y:=y) O U;have ad:=vK (gw:=gw) (gh:=gh) (x:=x+1) (y:=y) om U;rw[hn]at ac ad;have g1:=jg (o:=nJ gw V y x) ac;have g2:=jg (o:=nJ gw V y x) ad;have b1:=bA (y:=y) (k:=x) om (y*(gw+1)+(x+1+lb (x+1)));have b2:=bA (y:=y) (k:=x) om (y*(gw+1)+(x+1));have al:=MY (V:=V) ae ag O;refine zg ?_;refine dU (Dy rfl rfl om om om) ?_;refine zg ?_;rw[ab];refine zD [0,1,2,3,4,5,6,7,8,9,10,11,12,13,14,15,16,17,18,19] [20,21,22] ?_;refine zP (λwq I=>L wq tb (x+1+lb (x+1)) y D n (nJ gw V y x) O U ((S.gr I).blk (i:=0) rfl) ((S.gr I).rd (i:=1) rfl)) ?_;refine yx ?_;refine fo (λwq I=>eI iY rfl rfl ((S.gr I).rd (i:=1) rfl) g1) ?_;refine zP (λwq I=>L wq tb (x+1) y D n (nJ gw V y x) om U ((S.gr I).blk (i:=0) rfl) ((S.gr I).rd (i:=1) rfl)) ?_;refine yx ?_;refine fo (λwq I=>eI iY rfl rfl ((S.gr I).rd (i:=1) rfl) g2) ?_;refine zE ?_;intro aU aI S;refine jk (i:=1) S rfl (cR _) rfl rfl rfl rfl (by rw[pV];omega) rfl ?_;intro aV S;refine zg ?_;rw[rS,al]at S;exact⟨m2-1,om,x+1,om,⟨rfl,rfl,ie (by push_cast;omega),trivial⟩,S⟩
    ·skip;refine zg ?_;refine dU (Dy rfl rfl om om om) ?_;refine zg ?_;rw[ab];refine zg ?_;rw[Z (o':=nJ gw V y (x+1)) (λi _=>MZ ag O)]at S;exact⟨m2-1,om,x+1,om,⟨rfl,rfl,ie (by push_cast;omega),trivial⟩,S⟩
   ·obtain rfl:x=gw:=om;refine zg ?_;rw[Z (o':=nJ x V (y+1) 0) (λi _=>QN ae)]at S;exact⟨m-1,om,y+1,om,om,⟨rfl,ie (by push_cast;omega),trivial⟩,S⟩
  ·obtain rfl:y=gh+1:=om;rw[Z (o':=nL gw V 1 0) (λi hi=>Xe (by rw[hn];exact hi))]at S;refine zg ?_
   refine dl (λm e w=>∃y:Nat,y+m=gh+1/\1<=y/\SL e [(4,pt tb),(15,ii y)] /\
    St No W w [.blk tb 293 [ii gw,ii gh,.slice D n n],.row 2 1 D n n (fj n (nL gw V y 0))]) gh
    ⟨1,om,om,sl,S⟩ ?_
   clear S;rintro m e w ⟨y,hy,ae,J,S⟩;rw[J.fold];by_cases U:y<=gh
   ·have aw:=vS y;have az:=vD (k:=y) om;have ab:((y:Nat):Int)+(lb y:Nat)=((y+lb y:Nat):Int):=rfl;by_cases O:y+lb y<=gh
    ·skip;refine zg ?_;refine dU (Dy rfl rfl om om om) ?_;refine zg ?_;rw[ab];refine zg ?_
     refine dl (λm2 e w=>∃x:Nat,x+m2=gw/\SL e [(4,pt tb),(15,ii y),(16,ii (y+lb y:Nat)),(17,ii (x+1:Nat))] /\
      St No W w [.blk tb 293 [ii gw,ii gh,.slice D n n],.row 2 1 D n n (fj n (nL gw V y x))]) gw
      ⟨0,om,sl,S⟩ ?_
     clear S;rintro m2 e w ⟨x,hx,J,S⟩;rw[J.fold];by_cases ag:x<gw
     ·have ac:=vK (gw:=gw) (gh:=gh) (x:=x+1) (y:=y+lb y) om O;have ad:=vK (gw:=gw) (gh:=gh) (x:=x+1) (y:=y) om U;rw[hn]at ac ad;have g1:=jg (o:=nL gw V y x) ac;have g2:=jg (o:=nL gw V y x) ad;have b1:=bB (y:=y) (k:=x) om ((y+lb y)*(gw+1)+(x+1));have b2:=bB (y:=y) (k:=x) om (y*(gw+1)+(x+1));have al:=M0 (V:=V) ae ag;refine zD [0,1,2,3,4,5,6,7,8,9,10,11,12,13,14,15,16,17,18,19] [20,21,22] ?_;refine zP (λwq I=>L wq tb (x+1) (y+lb y) D n (nL gw V y x) om O ((S.gr I).blk (i:=0) rfl) ((S.gr I).rd (i:=1) rfl)) ?_;refine yx ?_;refine fo (λwq I=>eI iY rfl rfl ((S.gr I).rd (i:=1) rfl) g1) ?_;refine zP (λwq I=>L wq tb (x+1) y D n (nL gw V y x) om U ((S.gr I).blk (i:=0) rfl) ((S.gr I).rd (i:=1) rfl)) ?_;refine yx ?_;refine fo (λwq I=>eI iY rfl rfl ((S.gr I).rd (i:=1) rfl) g2) ?_;refine zE ?_;intro aC aB S;refine jk (i:=1) S rfl (cR _) rfl rfl rfl rfl (by rw[pV];omega) rfl ?_;intro aD S;refine zg ?_;rw[rS,al]at S;exact⟨m2-1,om,x+1,om,⟨rfl,rfl,rfl,ie (by push_cast;omega),trivial⟩,S⟩
     ·obtain rfl:x=gw:=om;refine zg ?_;rw[Z (o':=nL x V (y+1) 0) (λi _=>QO)]at S;exact⟨m-1,om,y+1,om,om,⟨rfl,ie (by push_cast;omega),trivial⟩,S⟩
    ·skip;refine zg ?_;refine dU (Dy rfl rfl om om om) ?_;refine zg ?_;rw[ab];refine zg ?_;rw[Z (o':=nL gw V (y+1) 0) (λi hi=>M1 (by rw[hn];exact hi) O ae)]at S;exact⟨m-1,om,y+1,om,om,⟨rfl,ie (by push_cast;omega),trivial⟩,S⟩
   ·obtain rfl:y=gh+1:=om;rw[Z (o':=lk gw V) (λi hi=>Xf (by rw[hn];exact hi))]at S;refine zX ?_;exact⟨tb,D,n,rfl,S⟩
end
theorem KP(a b c d a' b' c' d':Int)(w:World):(binOp .eql 43 (.agg #[ii a,ii b,ii c,ii d]) (.agg #[ii a',ii b',ii c',ii d'])).run prog w=.ok (.bool (decide (a=a'/\b=b'/\c=c'/\d=d'))) w:=by
 have J:=iY;have I:=qv;have L:=cR;have z:prog.underlying 43=some (.struct (prog.fieldsOf 43)):=by kernel_rfl
 have D:prog.stoodInHeld 43=false:=by kernel_rfl
 rw[run_eql_struct,show(10000:Nat)=9999+1 from rfl,wA w 9999 43 _ _ z D];simp only[Program.fieldsOf,dL];go_simp;by_cases h1:a=a'<;>by_cases h2:b=b'<;>by_cases v:c=c'<;>by_cases y:d=d'<;>simp[h1,h2,v,y]
theorem KQ(a b c d a' b' c' d':Int)(w:World):(binOp .neq 43 (.agg #[ii a,ii b,ii c,ii d]) (.agg #[ii a',ii b',ii c',ii d'])).run prog w=.ok (.bool (!decide (a=a'/\b=b'/\c=c'/\d=d'))) w:=by
 have J:=iY;have I:=qv;have L:=cR;have z:prog.underlying 43=some (.struct (prog.fieldsOf 43)):=by kernel_rfl
 have D:prog.stoodInHeld 43=false:=by kernel_rfl
 rw[run_neq_struct,show(10000:Nat)=9999+1 from rfl,wA w 9999 43 _ _ z D];simp only[Program.fieldsOf,dL];go_simp;by_cases h1:a=a'<;>by_cases h2:b=b'<;>by_cases v:c=c'<;>by_cases y:d=d'<;>simp[h1,h2,v,y]
section
variable{dd:Option Tmp}{ps:String}{y:Operand}{b c d b' c':Int}
theorem yq{r:Bool}(D:ev e x=.agg #[ii a,ii b,ii c,ii d])(I:ev e y=.agg #[ii a',ii b',ii c',ii d'])(z:(decide (a=a'/\b=b'/\c=c'/\d=d'))=r):iE prog e ⟨dd,.binOp .eql 43 x y t',ty,ps,af,none⟩ (.bool r):=by
 intro w;subst z;have v:∀w,(eqGuard .eql 43 x y (.agg #[ii a,ii b,ii c,ii d]) (.agg #[ii a',ii b',ii c',ii d'])).run prog w=.ok () w:=λw=>BE (by kernel_rfl);simp[gd,execOp,D,I,v,KP]
theorem Nb{r:Bool}(D:ev e x=.agg #[ii a,ii b,ii c,ii d])(I:ev e y=.agg #[ii a',ii b',ii c',ii d'])(z:(!decide (a=a'/\b=b'/\c=c'/\d=d'))=r):iE prog e ⟨dd,.binOp .neq 43 x y t',ty,ps,af,none⟩ (.bool r):=by
 intro w;subst z;have v:∀w,(eqGuard .neq 43 x y (.agg #[ii a,ii b,ii c,ii d]) (.agg #[ii a',ii b',ii c',ii d'])).run prog w=.ok () w:=λw=>BE (by kernel_rfl);simp[gd,execOp,D,I,v,KQ]
end
def cv(x p:Nat):Bool:=decide (x-lb x<p/\p<=x)
theorem CR{x:Nat}:cv x p=true↔x-lb x<p/\p<=x:=by unfold cv;exact iu
theorem CT{x:Nat}(h:0<x):cv x x=true:=CR.2 ⟨by have:=vD h;omega,fK _⟩
theorem DT{x:Nat}(h:x<p):cv x p=false:=by unfold cv;exact iO om
theorem R3:∀p,0<p->∀x,(x-lb x<p/\p<=x)↔(x=p\/(x-lb x<p+lb p/\p+lb p<=x)):=by
 intro p;induction p using Nat.strongRecOn with
 |ind p ih =>
  intro h x;by_cases y:p%2=1
  ·rw[uu y];by_cases v:x%2=1
   ·rw[uu v];omega
   ·have h1:=ti (x/2);have h2:=vS (x/2);rw[(om:2*(x/2)=x)]at h1;omega
  ·have h1:=ti (p/2);rw[(om:2*(p/2)=p)]at h1;by_cases v:x%2=1
   ·rw[uu v];omega
   ·have h2:=ti (x/2);have z:=vS (x/2);rw[(om:2*(x/2)=x)]at h2;have D:=ih (p/2) om om (x/2);omega
theorem CU(h:0<p)(x:Nat):cv x p=(x==p||cv x (p+lb p)):=by
 rw[iq,ky,fX,CR,CR];exact R3 p h x
theorem GD(f:Nat->Int)(hp:0<p)(d:Int):∀n,mZ (λi=>f i+if i=p then d else 0) n=mZ f n+if p<=n then d else 0
 |0=>by show(0:Int)=0+_;rw[a8 om];rfl
 |n+1=>by
  show mZ _ n+(f (n+1)+if n+1=p then d else 0)=mZ f n+f (n+1)+_
  rw[GD f hp d n]
  by_cases h1:n+1=p
  ·rw[a7 h1,a8 om,a7 om];omega
  ·by_cases h2:p<=n
   ·rw[a8 h1,a7 h2,a7 om];omega
   ·rw[a8 h1,a8 h2,a8 om];omega
theorem PY(f:Nat->Int)(v:0<p)(d:Int)(k:Nat):FW (λi=>f i+if i=p then d else 0) k=FW f k+if cv k p=true then d else 0:=by
 have:=vS k;unfold FW;rw[GD f v,GD f v];by_cases h:cv k p=true
 ·rw[a7 h];rw[CR]at h;rw[a7 h.2,a8 om];omega
 ·rw[a8 h];rw[CR]at h;by_cases h2:p<=k
  ·rw[a7 h2,a7 om];omega
  ·rw[a8 h2,a8 om];omega
def LL(gw:Nat)(V V':List Int)(cx cy:Nat)(d:Int):Prop:=∀j,V'.getD j 0=V.getD j 0+if j=cy*gw+cx then d else 0
section
variable{V:List Int}{d:Int}
theorem R7(h:LL gw V V' cx cy d)(v:cx<gw){y x:Nat}(D:0<y)(z:0<x∧x≤gw):cel gw V' y x=cel gw V y x+if x=cx+1 then(if y=cy+1 then d else 0)else 0:=by
  show V'.getD ((y-1)*gw+(x-1)) 0=V.getD ((y-1)*gw+(x-1)) 0+_;rw[h];congr 1;by_cases h1:x=cx+1
  · by_cases h2:y=cy+1
    · rw[a7 h1,a7 h2,a7 (by rw[h1,h2];rfl)]
    · rw[a7 h1,a8 h2,a8]
      intro e
      have a:=congrArg (·/gw) e
      rw[cD,fF om,cD,fF om,ee om,ee v]at a
      omega
  · rw[a8 h1,a8]
    intro e
    have a:=congrArg (·%gw) e
    rw[cD,fp,cD,fp,dT om,dT v]at a
    omega
theorem N5(h:LL gw V V' cx cy d)(I:cx<gw)(i:Nat):lk gw V' i=lk gw V i+if (cv (i%(gw+1)) (cx+1)&&cv (i/(gw+1)) (cy+1))=true then d else 0:=by
 have L:=dt i (show gw+1>0 by omega);unfold lk;by_cases y:i%(gw+1)=0\/i/(gw+1)=0
 ·rw[a7 y,a7 y,a8]
  ·omega
  ·rcases y with e|e
   ·rw[e,DT om];simp
   ·rw[e,DT (x:=0) (p:=cy+1) om];simp
 ·rw[a8 y,a8 y];generalize i%(gw+1)=X at *;generalize i/(gw+1)=Y at *;unfold MX
  have h1:∀v,1<=v->v<=Y->FW (cel gw V' v) X=FW (cel gw V v) X+if v=cy+1 then(if cv X (cx+1)=true then d else 0)else 0:=λv D _=>by
   rw[HU (g:=λx=>cel gw V v x+if x=cx+1 then(if v=cy+1 then d else 0)else 0) (λx z J=>R7 h I D ⟨z,om⟩),PY _ om];congr 1;by_cases a:cv X (cx+1)=true
   ·simp[a]
   ·simp[a]
  rw[HU h1,PY _ om];congr 1;cases cv X (cx+1)<;>cases cv Y (cy+1)<;>simp
def uC(f:Nat->Int)(gw:Nat)(d:Int)(cx cy p q i:Nat):Int :=
 f i+if (cv (i%(gw+1)) cx&&cv (i/(gw+1)) cy&&(!cv (i/(gw+1)) q||(i/(gw+1)==q&&!cv (i%(gw+1)) p)))=true then d else 0
theorem LM{f:Nat->Int}:uC f gw d cx cy cx cy=f:=funext λi=>by
 unfold uC;cases cv (i%(gw+1)) cx<;>cases cv (i/(gw+1)) cy<;>simp
theorem N6{f:Nat->Int}(v:0<p/\p<=gw)(I:0<q)(h1:cv p cx=true)(h2:cv q cy=true) :
  jU (uC f gw d cx cy p q) (q*(gw+1)+p) (uC f gw d cx cy p q (q*(gw+1)+p)+d)=uC f gw d cx cy (p+lb p) q:=funext λi=>by
 have J:=vD v.1;unfold jU;by_cases e:i=q*(gw+1)+p
 ·rw[a7 e,e];unfold uC;rw[AE v.2,ym v.2,h1,h2,CT I,CT v.1,DT (x:=p) (p:=p+lb p) om];simp
 ·rw[a8 e];have z:=λh=>e ((Je v.2).2 h);unfold uC;by_cases D:i/(gw+1)=q
  ·have y:i%(gw+1)≠p:=λy=>z ⟨y,D⟩;rw[CU v.1 (i%(gw+1)),et.2 y,tS]
  ·rw[et.2 D,nz,nz]
theorem R8{f:Nat->Int}(I:gw<p)(y:0<q)(J:∀x,cv x q=true->cv x cy=true)(i:Nat):uC f gw d cx cy p q i=uC f gw d cx cy cx (q+lb q) i:=by
 have D:=dt i (show gw+1>0 by omega);unfold uC;rw[DT (x:=i%(gw+1)) (p:=p) om,CU y (i/(gw+1))];by_cases v:i/(gw+1)=q
 ·have z:=vD y;rw[v,DT (x:=q) (p:=q+lb q) om];simp
 ·rw[et.2 v];cases cv (i%(gw+1)) cx<;>simp
theorem N7(h:LL gw V V' cx cy d)(v:cx<gw)(y:gh<q)(hi:i<(gh+1)*(gw+1))(p:Nat):uC (lk gw V) gw d (cx+1) (cy+1) p q i=lk gw V' i:=by
 have hd:i/(gw+1)<gh+1:=cS (by rw[cD];exact hi);rw[N5 h v];unfold uC;rw[DT (x:=i/(gw+1)) (p:=q) om];simp
theorem R9(z:vB V)(I:gw<=1024)(hi:i/(gw+1)<=1024):-2251799813685248<=lk gw V i/\lk gw V i<=2251799813685248:=by
 have D:=dt i (show gw+1>0 by omega);unfold lk;split
 ·omega
 ·have y:∀v,-2199023255552<=FW (cel gw V v) (i%(gw+1))/\FW (cel gw V v) (i%(gw+1))<=2199023255552:=λv=>by
   have:=Cu om (zJ (gw:=gw) z v) (k:=i%(gw+1)) (K:=1024) om;omega
  have:=Cu om y (k:=i/(gw+1)) (K:=1024) hi;unfold MX;omega
theorem Sa{f:Nat->Int}(v:-2251799813685248<=f i/\f i<=2251799813685248)(hd:-8589934592<=d/\d<=8589934592):-2251808403619840<=uC f gw d cx cy p q i/\uC f gw d cx cy p q i<=2251808403619840:=by
 unfold uC;split<;>omega
theorem Sb(V:List Int)(gw x y:Nat):uv V gw x y x y=V.getD (y*gw+x) 0:=by
 unfold uv;show tI V (y*gw) x+V.getD (y*gw+x) 0+lf V gw y (x+1)-(tI V (y*gw) x+lf V gw y x)-lf V gw y (x+1)+lf V gw y x=_;omega
end
section
variable{V:List Int}{d:Int}
theorem UD(I:vB V)(O:1<=gw/\gw<=1024)(L:1<=gh/\gh<=1024)(U:cx<gw)(Z:cy<gh)(J:xy W tb gw gh (lk gw V)) :
  Fn prog 404 [pt tb,.agg #[ii cx,ii cy]] W (dp (.tuple #[ii (V.getD (cy*gw+cx) 0),ii 0]) W):=by
 have v:=λw(g:Gr W w)=>Jf (W:=w) cx cy cx cy I O L ⟨fK _,U⟩ ⟨fK _,Z⟩ (J.gr g);rw[Sb]at v;have S:=St.start W;refine zI func404 ?_;refine zN ?_;intro y aa z S;refine zC (v _ S.out) ?_;intro ab D S;exact zZ
theorem WC(hB:vB V)(hw:1<=gw/\gw<=1024)(hh:1<=gh/\gh<=1024)(hx:cx<gw)(hy:cy<gh)(hd:-8589934592<=d/\d<=8589934592)(hV:LL gw V V' cx cy d)(S:St F W w (.blk tb 293 [ii gw,ii gh,.slice A1 ((gh+1)*(gw+1)) c1]::.row 2 1 A1 ((gh+1)*(gw+1)) c1 (fj ((gh+1)*(gw+1)) (lk gw V))::tl)) :
  Fn prog 405 [pt tb,.agg #[ii cx,ii cy],ii d] w (λv w'=>v=ii 0 /\
   St F W w' (.blk tb 293 [ii gw,ii gh,.slice A1 ((gh+1)*(gw+1)) c1]::.row 2 1 A1 ((gh+1)*(gw+1)) c1 (fj ((gh+1)*(gw+1)) (lk gw V'))::tl)):=by
 have av:=xM hw.2 hh.2;have ae:=λw h1 h2=>UD (W:=w) (tb:=tb) (gw:=gw) (gh:=gh) (cx:=cx) (cy:=cy) hB hw hh hx hy ⟨A1,c1,h1,h2⟩;have ag:=hB (cy*gw+cx);have ah:=λ{i:Nat}(h:i/(gw+1)<=1024)=>R9 (gw:=gw) hB hw.2 h;have ai:=λ{x y:Nat}(h1:x<=gw)(h2:y<=gh)=>vK (gw:=gw) (gh:=gh) h1 h2;have U:=λ{q i:Nat}h1 h2 p=>N7 (gh:=gh) hV hx (q:=q) (i:=i) h1 h2 p;have Z:=λ(w:World)(x y:Nat)(f:Nat->Int)(hx:x<=gw)(hy:y<=gh)h1 h2=>M3 (W:=w) (tb:=tb) (f:=f) x y hw.2 hh.2 hx hy ⟨A1,c1,h1,h2⟩;have aa:1<=(gh+1)*(gw+1):=by rw[cX];omega
 generalize hn:(gh+1)*(gw+1)=n at *;have ak:dO A1:=(S.row (i:=1) rfl).someA aa;have ex:(cx:Int)+1=((cx+1:Nat):Int):=rfl;have ey:(cy:Int)+1=((cy+1:Nat):Int):=rfl;refine zI func405 ?_;refine zN ?_;intro D aw al S;refine zC (ae _ (S.blk (i:=1) rfl) (S.rd (i:=2) rfl)) ?_;intro az am S;refine zg ?_;rw[ey];refine zg ?_;rw[<-LM (f:=lk gw V) (gw:=gw) (d:=d) (cx:=cx+1) (cy:=cy+1)]at S
 refine dl (λm e w=>∃q:Nat,q+m=2*gh+1/\(0<q/\q<=2*gh)/\(∀x,cv x q=true->cv x (cy+1)=true)/\SL e [(0,pt tb),(2,ii d),(4,pt D),(9,ii q)] /\
  St F W w (.blk D 24 [ii cx,ii cy]::.blk tb 293 [ii gw,ii gh,.slice A1 n c1]::.row 2 1 A1 n c1 (fj n (uC (lk gw V) gw d (cx+1) (cy+1) (cx+1) q))::tl)) (2*gh-cy)
  ⟨cy+1,om,om,λ_ h=>h,sl,S⟩ ?_
 clear S;rintro m e w ⟨q,hm,z,J,L,S⟩;rw[L.fold];have ar:=vS q;have au:=vD z.1;have ad:(q:Int)+(lb q:Nat)=((q+lb q:Nat):Int):=rfl;by_cases ab:q<=gh
 ·skip;refine zg ?_;rw[ex];refine zg ?_
  refine dl (λm2 e w=>∃p:Nat,p+m2=2*gw+1/\(0<p/\p<=2*gw)/\(∀x,cv x p=true->cv x (cx+1)=true)/\SL e [(0,pt tb),(2,ii d),(4,pt D),(9,ii q),(10,ii p)] /\
   St F W w (.blk D 24 [ii cx,ii cy]::.blk tb 293 [ii gw,ii gh,.slice A1 n c1]::.row 2 1 A1 n c1 (fj n (uC (lk gw V) gw d (cx+1) (cy+1) p q))::tl)) (2*gw-cx)
   ⟨cx+1,om,om,λ_ h=>h,sl,S⟩ ?_
  clear S;rintro m2 e w ⟨p,ao,hp,O,L,S⟩;rw[L.fold];have ap:=vS p;have aq:=vD hp.1;have ac:(p:Int)+(lb p:Nat)=((p+lb p:Nat):Int):=rfl;by_cases I:p<=gw
  ·have hi:=ai I ab;have g1:=jg (o:=uC (lk gw V) gw d (cx+1) (cy+1) p q) hi;have b1:=Sa (d:=d) (gw:=gw) (cx:=cx+1) (cy:=cy+1) (p:=p) (q:=q) (ah (i:=q*(gw+1)+p) (by rw[ym I];omega)) hd;have aj:=N6 (gw:=gw) (d:=d) (cx:=cx+1) (cy:=cy+1) (f:=lk gw V) ⟨hp.1,I⟩ z.1 (O p (CT hp.1)) (J q (CT z.1));refine zD [0,1,2,3,4,5,6,7,8,9,10] [11,12,13] ?_;refine zP (λwq z=>Z wq p q _ I ab ((S.gr z).blk (i:=1) rfl) ((S.gr z).rd (i:=2) rfl)) ?_;refine yx ?_;refine fo (λwq z=>eI iY rfl rfl ((S.gr z).rd (i:=2) rfl) g1) ?_;refine zE ?_;intro aA an S;refine jk (i:=2) S rfl (cR _) rfl rfl rfl rfl (by rw[pV];omega) rfl ?_;intro aB S;refine zg ?_;refine dU (Dy rfl rfl om om om) ?_;refine zg ?_;rw[ac];refine zg ?_;rw[rS,aj]at S;exact⟨m2-lb p,om,p+lb p,om,om,λx h=>O x (by rw[CU hp.1,h,Bool.or_true]),sl,S⟩
  ·skip;refine zg ?_;refine dU (Dy rfl rfl om om om) ?_;refine zg ?_;rw[ad];refine zg ?_;rw[nj (o':=uC (lk gw V) gw d (cx+1) (cy+1) (cx+1) (q+lb q)) (λi _=>R8 om z.1 J i)]at S;exact⟨m-lb q,om,q+lb q,om,om,λx h=>J x (by rw[CU z.1,h,Bool.or_true]),sl,S⟩
 ·skip;refine zg ?_;rw[nj (o':=lk gw V') (λi hi=>U om hi _)]at S;exact ir rfl ⟨rfl,S.drop 1⟩
end
end Go.Proofs.YtcalhocphkbbgaaGreatDoor
