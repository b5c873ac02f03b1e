/- A part of the proof that hachuretop.WholeErrors returns true at every input; no condition. -/
import Derived.Test.YtceahkcepefcaaaGreatDoorKG
set_option maxRecDepth 100000
set_option maxHeartbeats 16000000
set_option linter.unusedVariables false
set_option linter.unusedSimpArgs false
namespace Go.Proofs.YtceahkcepefcaaaGreatDoor
open Go.Proofs.Tryz Go.RowKit
variable{Q:(Nat->Value)->World->Prop}{af:Array Edge}{ops:Array Oper}{tys:Array TypeId}{f:FuncId}{h h':HA}{a:Int}{σ:List (Nat × Value)}{K:List (Nat × Value)->Act->Prop}{L' M T:List HA}{hd:List Nat}{args:List Operand}{l l' l2 vs xs τ:List Value}{N b b' c c1 c2 el g gh gw i j k m n p q sh sw tb x0 x1 y0 y1:Nat}{c' cc:Nat->Int}{bs o':Nat->Nat}{R':Nat->Nat->Bool}{Rs:Nat->Option Nat}{F X:Nat->Prop}{e:Nat->Value}{hi x:Operand}{A B:Option Addr}{d:Option Tmp}{P:Program}{name:String}{H α:Type}{dd:TypeDesc}{jt t t' ty:TypeId}{rv u v3:Value}{R2:Value->Prop}{R:Value->World->Prop}{W W0 w w' wq:World}{C:World->Prop}
def lb(k:Nat):Nat:=if k=0 then 0 else if k%2=1 then 1 else 2*lb (k/2)
 termination_by k
 decreasing_by omega
theorem KF:lb 0=0:=by unfold lb;rfl
theorem uu(h:k%2=1):lb k=1:=by unfold lb;rw[a8 om,a7 h]
theorem ti(k:Nat):lb (2*k)=2*lb k:=by
 by_cases h:k=0
 ·subst h;simp[KF]
 ·rw[lb,a8 om,a8 om,(om:2*k/2=k)]
theorem vD:∀{k:Nat},0<k->0<lb k:=by
 intro k;induction k using Nat.strongRecOn with
 |ind k ih =>
  intro h;by_cases v:k%2=1
  ·rw[uu v];omega
  ·have:=ih (k/2) om om;rw[(om:k=2*(k/2)),ti];omega
theorem vS:∀(k:Nat),lb k<=k:=by
 intro k;induction k using Nat.strongRecOn with
 |ind k ih =>
  by_cases v:k=0
  ·subst v;rw[KF];omega
  ·by_cases y:k%2=1
   ·rw[uu y];omega
   ·have:=ih (k/2) om;have e:=ti (k/2);rw[(om:2*(k/2)=k)]at e;omega
theorem zG(a b:Nat):a&&& b=2*((a/2)&&& (b/2))+(a%2)*(b%2):=by
 have h1:=Nat.and_div_two (a:=a) (b:=b)
 have h2:(a&&& b)%2=(a%2)*(b%2):=by
  have:=@Nat.and_mod_two_pow a b 1;rw[show(2:Nat)^1=2 from rfl]at this;rw[this];rcases ma a with v|v<;>rcases ma b with y|y<;>rw[v,y]<;>rfl
 omega
theorem MW:∀(k:Nat),0<k->k&&& (k-1)=k-lb k:=by
 intro k;induction k using Nat.strongRecOn with
 |ind k ih =>
  intro h;rw[zG];by_cases v:k%2=1
  ·rw[uu v,(om:(k-1)/2=k/2),Nat.and_self,v,(om:(k-1)%2=0)];omega
  ·have h1:=ih (k/2) om om;have e:=ti (k/2);have h2:=vS (k/2);rw[(om:2*(k/2)=k)]at e;rw[(om:(k-1)/2=k/2-1),h1,(om:k%2=0)];omega
theorem HS:∀(n a:Nat),a<2^n→a&&& (2^n-1-a)=0
  |0,a,h=>by
    have:a=0:=by simpa using h
    subst this;simp
  |n+1,a,h=>by
    have e:2^(n+1)=2*2^n:=by rw[gb,cD]
    have y:0<2^n:=ic om;have ih:=HS n (a/2) om;rw[zG,show(2^(n+1)-1-a)/2=2^n-1-a/2 by omega,ih];rcases ma a with v|v
    · simp[v]
    · rw[(om:(2^(n+1)-1-a)%2=0)];simp
theorem HT:∀(n k:Nat),0<k->k<2^n->k&&& (2^n-k)=lb k
 |0,k,h0,h=>by simp at h;omega
 |n+1,k,h0,h=>by
  have e:2^(n+1)=2*2^n:=by rw[gb,cD]
  have z:0<2^n:=ic om;rw[zG];by_cases y:k%2=1
  ·have h1:=HS n (k/2) om;rw[uu y,(om:(2^(n+1)-k)/2=2^n-1-k/2),h1,y,(om:(2^(n+1)-k)%2=1)]
  ·have h1:=HT n (k/2) om om;have v:=ti (k/2);rw[(om:2*(k/2)=k)]at v;rw[(om:(2^(n+1)-k)/2=2^n-k/2),h1,(om:k%2=0),v];omega
def mZ(f:Nat->Int):Nat->Int
 |0=>0
 |n+1=>mZ f n+f (n+1)
def FW(f:Nat->Int)(k:Nat):Int:=mZ f k-mZ f (k-lb k)
def FA(f:Nat->Int):Nat->Nat->Int
 |0,j=>f j
 |k+1,j=>FA f k j+if k+1+lb (k+1)=j then FW f (k+1)else 0
def Jc(f:Nat->Int)(m:Nat):Int:=f (2*m-1)+f (2*m)
theorem FO(f:Nat->Int):∀n,mZ (Jc f) n=mZ f (2*n)
 |0=>rfl
 |n+1=>by
  show mZ (Jc f) n+Jc f (n+1)=_
  rw[FO f n,(om:2*(n+1)=2*n+1+1)]
  show _=mZ f (2*n)+f (2*n+1)+f (2*n+1+1)
  unfold Jc
  rw[(om:2*(n+1)-1=2*n+1),(om:2*(n+1)=2*n+1+1)]
  omega
theorem Pk(f:Nat->Int)(m:Nat):FW (Jc f) m=FW f (2*m):=by
 unfold FW;rw[FO,FO,ti,Nat.mul_sub]
theorem Pm{f:Nat->Int}(h:k%2=1):FW f k=f k:=by
 unfold FW;obtain⟨n,rfl⟩:∃n,k=n+1:=⟨k-1,om⟩;rw[uu h,eA];show mZ f n+f (n+1)-mZ f n=_;omega
theorem Jd(h:0<i):(i+lb i)%2=0:=by
 by_cases v:i%2=1
 ·rw[uu v];omega
 ·have:=ti (i/2);rw[(om:2*(i/2)=i)]at this;omega
theorem Pn{f:Nat->Int}(h:j%2=1):∀k,FA f k j=f j
 |0=>rfl
 |k+1=>by
  show FA f k j+_=_
  rw[Pn h k,a8 (λe=>by have:=Jd (i:=k+1) om;omega)]
  omega
theorem KG{f:Nat->Int}{m:Nat}:∀k,k<m->FA f (2*k) (2*m)+f (2*m-1)=FA (Jc f) k m
 |0,_=>by show f (2*m)+f (2*m-1)=f (2*m-1)+f (2*m);omega
 |k+1,h=>by
  have ih:=KG (f:=f) (m:=m) k (by omega)
  rw[show 2*(k+1)=2*k+1+1 by omega];show FA f (2*k) (2*m)+(if 2*k+1+lb (2*k+1)=2*m then FW f (2*k+1)else 0)+(if 2*k+1+1+lb (2*k+1+1)=2*m then FW f (2*k+1+1)else 0)+f (2*m-1)=FA (Jc f) k m+if k+1+lb (k+1)=m then FW (Jc f) (k+1)else 0;rw[a8 (by rw[uu (by omega)];omega),<-ih,Pk,show 2*k+1+1=2*(k+1)by omega,ti];by_cases hc:k+1+lb (k+1)=m
  ·rw[a7 (by omega),a7 hc];omega
  ·rw[a8 (by omega),a8 hc];omega
theorem TF:∀(j:Nat)(f:Nat->Int),0<j->FA f (j-1) j=FW f j:=by
 intro j;induction j using Nat.strongRecOn with
 |ind j ih =>
  intro f h;by_cases v:j%2=1
  ·rw[Pn v,Pm v]
  ·obtain⟨m,rfl⟩:∃m,j=2*m:=⟨j/2,om⟩;have h1:=ih m om (Jc f) om;have h2:=KG (f:=f) (m:=m) (m-1) om;rw[Pk]at h1;rw[<-h1,<-h2,(om:2*m-1=2*(m-1)+1)];show FA f (2*(m-1)) (2*m)+(if 2*(m-1)+1+lb (2*(m-1)+1)=2*m then FW f (2*(m-1)+1)else 0)=_;rw[a7 (by rw[uu om];omega),Pm om]
theorem E4{f:Nat->Int}(h:0<j):∀k,j-1<=k->FA f k j=FW f j:=λk v=>by
 induction k with
 |zero=>rw[<-TF j f h,(om:j-1=0)]
 |succ k ih =>
  by_cases e:j-1=k+1
  ·rw[<-e];exact TF j f h
  ·show FA f k j+_=_;rw[ih om,a8 (by have:=vD (k:=k+1) om;omega)];omega
theorem FP(f g:Nat->Int):∀n,mZ (λi=>f i-g i) n=mZ f n-mZ g n
 |0=>rfl
 |n+1=>by show mZ (λi=>f i-g i) n+(f (n+1)-g (n+1))=mZ f n+f (n+1)-(mZ g n+g (n+1));rw[FP f g n];omega
theorem BD{f g:Nat->Int}:∀n,(∀i,1<=i->i<=n->f i=g i)->mZ f n=mZ g n
 |0,_=>rfl
 |n+1,h=>by show mZ f n+f (n+1)=mZ g n+g (n+1);rw[BD n (λi h1 h2=>h i h1 om),h (n+1) om om]
theorem VR(f g:Nat->Int)(k:Nat):FW (λi=>f i-g i) k=FW f k-FW g k:=by unfold FW;rw[FP,FP];omega
theorem HU{f g:Nat->Int}(h:∀i,1<=i->i<=k->f i=g i):FW f k=FW g k:=by
 unfold FW;rw[BD k h,BD (k-lb k) (λi h1 h2=>h i h1 om)]
def cel(gw:Nat)(V:List Int)(y x:Nat):Int:=V.getD ((y-1)*gw+(x-1)) 0
def MX(gw:Nat)(V:List Int)(x y:Nat):Int:=FW (λy'=>FW (cel gw V y') x) y
def yN(gw:Nat)(V:List Int)(x y:Nat):Int:=mZ (λy'=>mZ (cel gw V y') x) y
section
variable{V:List Int}
def nJ(gw:Nat)(V:List Int)(y k i:Nat):Int :=
 if i%(gw+1)=0\/i/(gw+1)=0 then 0 else if i/(gw+1)<y then FW (cel gw V (i/(gw+1))) (i%(gw+1))
 else if i/(gw+1)=y then FA (cel gw V y) k (i%(gw+1))else cel gw V (i/(gw+1)) (i%(gw+1))
def nL(gw:Nat)(V:List Int)(y k i:Nat):Int :=
 if i%(gw+1)=0\/i/(gw+1)=0 then 0 else FA (λy'=>FW (cel gw V y') (i%(gw+1))) (if i%(gw+1)<=k then y else y-1) (i/(gw+1))
def lk(gw:Nat)(V:List Int)(i:Nat):Int:=if i%(gw+1)=0\/i/(gw+1)=0 then 0 else MX gw V (i%(gw+1)) (i/(gw+1))
theorem AE{x y:Nat}(h:x<=gw):(y*(gw+1)+x)%(gw+1)=x:=by
 rw[cD,fp,dT om]
theorem ym{x y:Nat}(h:x<=gw):(y*(gw+1)+x)/(gw+1)=y:=by
 rw[cD,fF om,ee om,eW]
theorem Je{x y:Nat}(h:x<=gw):i=y*(gw+1)+x↔i%(gw+1)=x/\i/(gw+1)=y:=by
 constructor
 ·rintro rfl;exact⟨AE h,ym h⟩
 ·rintro⟨rfl,rfl⟩;have:=dP i (gw+1);rw[cD]at this;omega
theorem FQ{y x v:Nat}(h:x<=gw):nJ gw V y k (v*(gw+1)+x)=if x=0\/v=0 then 0 else if v<y then FW (cel gw V v) x else if v=y then FA (cel gw V y) k x else cel gw V v x:=by
 unfold nJ;rw[AE h,ym h]
theorem FR{y x v:Nat}(h:x<=gw):nL gw V y k (v*(gw+1)+x)=if x=0\/v=0 then 0 else FA (λv=>FW (cel gw V v) x) (if x<=k then y else y-1) v:=by
 unfold nL;rw[AE h,ym h]
theorem TG{x y:Nat}(h:x<=gw):lk gw V (y*(gw+1)+x)=if x=0\/y=0 then 0 else MX gw V x y:=by
 unfold lk;rw[AE h,ym h]
theorem MY{y x:Nat}(L:1<=y)(J:x<gw)(v:x+1+lb (x+1)<=gw) :
  jU (nJ gw V y x) (y*(gw+1)+(x+1+lb (x+1))) (nJ gw V y x (y*(gw+1)+(x+1+lb (x+1)))+nJ gw V y x (y*(gw+1)+(x+1)))=nJ gw V y (x+1):=funext λi=>by
 have h1:=E4 (f:=cel gw V y) (j:=x+1) om x om;have h2:nJ gw V y x (y*(gw+1)+(x+1+lb (x+1)))=FA (cel gw V y) x (x+1+lb (x+1)):=by rw[FQ v,a8 om,a8 om,a7 rfl]
 have D:nJ gw V y x (y*(gw+1)+(x+1))=FW (cel gw V y) (x+1):=by rw[FQ om,a8 om,a8 om,a7 rfl,h1]
 unfold jU;rw[h2,D];by_cases e:i=y*(gw+1)+(x+1+lb (x+1))
 ·rw[a7 e,e,FQ v,a8 om,a8 om,a7 rfl];show _=FA (cel gw V y) x _+_;rw[a7 rfl]
 ·rw[a8 e];unfold nJ;split
  ·rfl
  ·split
   ·rfl
   ·split
    ·rename_i I;show _=FA (cel gw V y) x (i%(gw+1))+_;rw[a8 (λz=>e ((Je v).2 ⟨z.symm,I⟩))];omega
    ·rfl
theorem MZ{y x:Nat}(D:x<gw)(v:¬x+1+lb (x+1)<=gw):nJ gw V y x i=nJ gw V y (x+1) i:=by
 have z:=dt i (show gw+1>0 by omega);unfold nJ;split
 ·rfl
 ·split
  ·rfl
  ·split
   ·show _=FA (cel gw V y) x (i%(gw+1))+_;rw[a8 om];omega
   ·rfl
theorem QN{y:Nat}(I:1<=y):nJ gw V y gw i=nJ gw V (y+1) 0 i:=by
 have D:=dt i (show gw+1>0 by omega);unfold nJ;split
 ·rfl
 ·rename_i z;by_cases h1:i/(gw+1)<y
  ·rw[a7 h1,a7 om]
  ·rw[a8 h1];by_cases h2:i/(gw+1)=y
   ·rw[a7 h2,a7 om,E4 om gw om,h2]
   ·rw[a8 h2,a8 om];split
    ·rename_i v;rw[v];rfl
    ·rfl
theorem Xe(hi:i<(gh+1)*(gw+1)):nJ gw V (gh+1) 0 i=nL gw V 1 0 i:=by
 have hd:i/(gw+1)<gh+1:=cS (by rw[cD];exact hi);unfold nJ nL;split
 ·rfl
 ·rename_i v;rw[a8 (show ¬i%(gw+1)<=0 by omega)];rfl
theorem M0{y x:Nat}(J:1<=y)(I:x<gw) :
  jU (nL gw V y x) ((y+lb y)*(gw+1)+(x+1)) (nL gw V y x ((y+lb y)*(gw+1)+(x+1))+nL gw V y x (y*(gw+1)+(x+1)))=nL gw V y (x+1):=funext λi=>by
 obtain⟨k,rfl⟩:∃k,y=k+1:=⟨y-1,om⟩;have h1:=E4 (f:=λv=>FW (cel gw V v) (x+1)) (j:=k+1) om k om;have h2:nL gw V (k+1) x ((k+1+lb (k+1))*(gw+1)+(x+1))=FA (λv=>FW (cel gw V v) (x+1)) k (k+1+lb (k+1)):=by rw[FR om,a8 om,a8 om,eA]
 have z:nL gw V (k+1) x ((k+1)*(gw+1)+(x+1))=FW (λv=>FW (cel gw V v) (x+1)) (k+1):=by rw[FR om,a8 om,a8 om,eA,h1]
 unfold jU;rw[h2,z];by_cases e:i=(k+1+lb (k+1))*(gw+1)+(x+1)
 ·rw[a7 e,e,FR om,a8 om,a7 om];show _=FA (λv=>FW (cel gw V v) (x+1)) k _+_;rw[a7 rfl]
 ·rw[a8 e];unfold nL;split
  ·rfl
  ·by_cases h2:i%(gw+1)<=x
   ·rw[a7 h2,a7 om]
   ·rw[a8 h2,eA];by_cases z:i%(gw+1)=x+1
    ·rw[a7 om];show _=FA _ k (i/(gw+1))+_;rw[a8 (λD=>e ((Je om).2 ⟨z,D.symm⟩))];omega
    ·rw[a8 om]
theorem M1{y:Nat}(hi:i<(gh+1)*(gw+1))(v:¬y+lb y<=gh)(z:1<=y):nL gw V y 0 i=nL gw V (y+1) 0 i:=by
 have hd:i/(gw+1)<gh+1:=cS (by rw[cD];exact hi);obtain⟨k,rfl⟩:∃k,y=k+1:=⟨y-1,om⟩;unfold nL;split
 ·rfl
 ·rw[a8 om,a8 om,eA,eA];show _=FA _ k (i/(gw+1))+_;rw[a8 om];omega
theorem QO{y:Nat}:nL gw V y gw i=nL gw V (y+1) 0 i:=by
 have v:=dt i (show gw+1>0 by omega);unfold nL;split
 ·rfl
 ·rw[a7 om,a8 om,eA]
theorem Xf(hi:i<(gh+1)*(gw+1)):nL gw V (gh+1) 0 i=lk gw V i:=by
 have hd:i/(gw+1)<gh+1:=cS (by rw[cD];exact hi);unfold nL lk;split
 ·rfl
 ·rw[a8 om,eA];exact E4 (fT λe=>by rename_i v;exact v (.inr e)) gh (dE (Nat.sub_le _ _) (nR hd))
theorem QP(gw:Nat)(V:List Int){x y:Nat}(z:0<x):MX gw V x y=FW (λv=>mZ (cel gw V v) x) y-FW (λv=>mZ (cel gw V v) (x-lb x)) y:=by
 unfold MX;rw[<-VR];rfl
theorem yn(gw:Nat)(V:List Int){w y:Nat}(z:0<y):FW (λv=>mZ (cel gw V v) w) y=yN gw V w y-yN gw V w (y-lb y):=rfl
theorem KH(gw:Nat)(V:List Int)(y:Nat):∀x,mZ (cel gw V (y+1)) x=tI V (y*gw) x
 |0=>rfl
 |x+1=>by
  show mZ (cel gw V (y+1)) x+cel gw V (y+1) (x+1)=tI V (y*gw) x+V.getD (y*gw+x) 0
  rw[KH gw V y x]
  rfl
theorem ve(gw:Nat)(V:List Int)(x:Nat):∀y,yN gw V x y=lf V gw y x
 |0=>rfl
 |y+1=>by
  show mZ (λv=>mZ (cel gw V v) x) y+mZ (cel gw V (y+1)) x=tI V (y*gw) x+lf V gw y x
  have:=ve gw V x y
  unfold yN at this;rw[this,KH];omega
end
section
variable{ps:String}
theorem FS(a b:Nat)(L:a<2^64)(O:b<2^64)(I:a&&& b<2^63)(x y:Int)(S:x%2^64=a)(U:y%2^64=b)(w:World):(Op.intBits .and .i64 x y).run P w=.ok (ii ((a&&& b:Nat):Int)) w:=by
 have v:(BitVec.ofInt 64 x).toNat=a:=by rw[m8];omega
 have z:(BitVec.ofInt 64 y).toNat=b:=by rw[m8];omega
 have D:(BitVec.ofInt 64 x&&& BitVec.ofInt 64 y).toNat=a&&& b:=by rw[rE,v,z]
 unfold Op.intBits;show(pure (ii (IntKind.i64.wrap ((BitVec.ofInt 64 x&&& BitVec.ofInt 64 y).toNat:Int))):Sem Value).run P w=_;rw[D]
 have J:IntKind.i64.wrap ((a&&& b:Nat):Int)=((a&&& b:Nat):Int):=by
  generalize a&&& b=n at *;exact gC _ om
 rw[J];rfl
theorem Dy{y:Operand}{m:Int}(J:ev e x=ii n)(L:ev e y=ii m)(I:m=-(n:Int))(v:0<n)(h1:n<2^63):iE P e ⟨d,.binOp .and t x y t',ty,ps,af,none⟩ (ii (lb n:Nat)):=by
 intro w;subst I;have z:=HT 64 n v om;have D:=vS n;have:=FS (P:=P) n (2^64-n) om om om (n:Int) (-(n:Int)) om om w;rw[z]at this;simp[gd,execOp,J,L,eqGuard,binOp,this]
theorem Po{y:Operand}(D:ev e x=ii n)(I:ev e y=ii ((n:Int)-1))(v:0<n)(h1:n<2^63):iE P e ⟨d,.binOp .and t x y t',ty,ps,af,none⟩ (ii ((n-lb n:Nat):Int)):=by
 intro w;have z:=MW n v;have:=FS (P:=P) n (n-1) om om om (n:Int) ((n:Int)-1) om om w;rw[z]at this;simp[gd,execOp,D,I,eqGuard,binOp,this]
end
def xy(w:World)(tb gw gh:Nat)(f:Nat->Int):Prop:=∃A c,eL w tb 289 [ii gw,ii gh,.slice A ((gh+1)*(gw+1)) c]/\Rd w A (fj ((gh+1)*(gw+1)) f)
theorem xy.gr{f:Nat->Int}(h:xy w tb gw gh f)(g:Gr w w'):xy w' tb gw gh f:=by
 obtain⟨A,c,h1,h2⟩:=h;exact⟨A,c,h1.gr g,h2.gr g⟩
theorem vK{x y:Nat}(z:x<=gw)(v:y<=gh):y*(gw+1)+x<(gh+1)*(gw+1):=by
 have:=cI (gw+1) v;rw[cX];omega
theorem xM(y:gw<=1024)(v:gh<=1024):(gh+1)*(gw+1)<=1025*1025:=cE om om
theorem HW{V:List Int}(v:vB V){x y:Nat}(z:x<=1024)(D:y<=1024):-2251799813685248<=yN gw V x y/\yN gw V x y<=2251799813685248:=by
 have:=va v gw z y;rw[ve];omega
section
variable{V:List Int}{f:Nat->Int}
theorem M3(x y:Nat)(L:gw<=1024)(J:gh<=1024)(O:x<=gw)(U:y<=gh)(D:xy W tb gw gh f):Fn prog 250 [pt tb,ii x,ii y] W (dp (ii (y*(gw+1)+x:Nat)) W):=by
 obtain⟨A,c,I,Z⟩:=D;have h1:=vK O U;have h2:=xM L J;have v:(y:Int)*((gw:Int)+1)=((y*(gw+1):Nat):Int):=by push_cast;rfl
 have V:y*(gw+1)<=1025*1025:=om;have S:=St.start W;refine zI func250 ?_;iterate 5 refine z ?_
 refine dH (cV cw rfl rfl (I.gr S.out) rfl) ?_;refine zr ?_;refine cq (fh rfl (by rw[v];omega)) ?_;rw[v];refine zX ?_;exact⟨ie (by push_cast;omega),S.out⟩
theorem yo(x0 y0:Nat)(hB:vB V)(hw:gw<=1024)(hh:gh<=1024)(hx:x0<=gw)(hy:y0<=gh)(hF:xy W tb gw gh (lk gw V)):Fn prog 170 [pt tb,ii x0,ii y0] W (dp (ii (yN gw V x0 y0)) W):=by
 have aa:=hF;obtain⟨A,c,hT,hR⟩:=hF;have an:=xM hw hh;have v:=λx y hx hy=>HW (gw:=gw) hB (x:=x) (y:=y) hx hy;have ag:dO A:=hR.someA (by rw[pV,cX];omega);have S:=St.start W;refine zI func170 ?_;refine zg ?_
 refine dl (λm e w=>m<=gh/\SL e [(0,pt tb),(1,ii x0),(7,ii (yN gw V x0 y0-yN gw V x0 m)),(8,ii m)]/\St No W w []) y0
  ⟨hy,sl,S⟩ ?_
 clear S;rintro y e w ⟨Z,ac,S⟩;rw[ac.fold];have b0:=v x0 y0 om om;have b1:=v x0 y om om;generalize ai:yN gw V x0 y0=P0 at *;by_cases D:0<y
 ·have al:=vS y;have aj:=vD D;have ae:=yn gw V (w:=x0) D;refine zg ?_
  refine dl (λm e w=>m<=x0/\SL e [(0,pt tb),(1,ii x0),(7,ii (P0-yN gw V x0 y+(FW (λz=>mZ (cel gw V z) x0) y-FW (λz=>mZ (cel gw V z) m) y))),(8,ii y),(9,ii m)]/\St No W w []) x0
   ⟨cN _,sl,S⟩ ?_
  clear S;rintro x e2 w2 ⟨ao,U,S⟩;rw[U.fold];by_cases I:0<x
  ·have ak:=vS x;have ad:=vD I;have L:=vK (gw:=gw) (gh:=gh) (x:=x) (y:=y) om Z;have am:=QP gw V (y:=y) I
   have J:(fj ((gh+1)*(gw+1)) (lk gw V))[((y*(gw+1)+x:Nat):Int).toNat * 1]?=some (ii (MX gw V x y)):=by
    rw[jg L,TG om,a8 om]
   have c1:=yn gw V (w:=x) D;have c2:=yn gw V (w:=x-lb x) D;have d1:=v x y om om;have d2:=v x (y-lb y) om om;have d3:=v (x-lb x) y om om;have d4:=v (x-lb x) (y-lb y) om om;have d5:=v x0 (y-lb y) om om;have em:((x:Nat):Int)-1=(x:Int)-1:=rfl;generalize FW (λz=>mZ (cel gw V z) x) y=R1 at *;generalize FW (λz=>mZ (cel gw V z) x0) y=R0 at *;generalize ab:FW (λz=>mZ (cel gw V z) (x-lb x)) y=R2 at *;refine zD [0,1,2,3,4,5,6,7,8,9,10,11,12] [] ?_;refine zM (λwq O=>(hT.gr (S.gr O).out)) ?_;refine zP (λwq O=>M3 x y hw hh om Z (aa.gr (S.gr O).out)) ?_;refine zO (λwq O=>(hR.gr (S.gr O).out)) J ?_;refine zE ?_;intro ap ah S;refine cq (Po rfl rfl I om) ?_;refine zg ?_;exact⟨x-lb x,om,om,⟨rfl,rfl,ie (by rw[ab];omega),rfl,rfl,trivial⟩,S⟩
  ·obtain rfl:x=0:=om
   have hz:FW (λz=>mZ (cel gw V z) 0) y=0:=by
    have h0:∀n,mZ (λz=>mZ (cel gw V z) 0) n=0:=λn=>by
     induction n with
     |zero=>rfl
     |succ n ih=>show mZ _ n+0=0;rw[ih];rfl
    unfold FW;rw[h0,h0];rfl
   rw[hz]at *;refine zg ?_;refine cq (Po rfl rfl D om) ?_;refine zg ?_;exact⟨y-lb y,om,om,sl,S⟩
 ·obtain rfl:y=0:=om;have hz:yN gw V x0 0=0:=rfl;refine zX ?_;exact⟨ie om,S.out⟩
theorem Jf(x0 y0 x1 y1:Nat)(I:vB V)(L:1<=gw/\gw<=1024)(J:1<=gh/\gh<=1024)(hx:x0<=x1/\x1<gw)(hy:y0<=y1/\y1<gh)(U:xy W tb gw gh (lk gw V)) :
  Fn prog 97 [pt tb,.agg #[ii x0,ii y0,ii x1,ii y1]] W (dp (.tuple #[ii (uv V gw x0 y0 x1 y1),ii 0]) W):=by
 have z:=U;obtain⟨A,c,Z,hR⟩:=U;have O:dF x0 y0 x1 y1 gw gh=0:=gW om om om om;have ey:(y1:Int)+1=((y1+1:Nat):Int):=by push_cast;rfl
 have ex:(x1:Int)+1=((x1+1:Nat):Int):=by push_cast;rfl
 have D:=λx y hx hy=>HW (gw:=gw) I (x:=x) (y:=y) hx hy;have d1:=D (x1+1) (y1+1) om om;have d2:=D x0 (y1+1) om om;have d3:=D (x1+1) y0 om om;have d4:=D x0 y0 om om;have S:=St.start W;refine zI func97 ?_;refine zN ?_;intro aa ag ab S;refine zD [0,1,2,3,4,5,6,7,8,9,10] [] ?_;refine zM (λwq v=>(Z.gr (S.gr v).out)) ?_;refine zM (λwq v=>(Z.gr (S.gr v).out)) ?_;refine nA rfl (λwq v=>(jW _ _ _ _ _ _ om om wq).mono (λ_ _⟨hv,hg⟩=>⟨hv,v.trans hg⟩)) ?_;rw[O];refine zE ?_;intro ah ac S;refine zD [0,1,2,3,4,5,6,7] [] ?_;rw[ex];refine zQ ?_;rw[ey];refine zE ?_;intro ai ad S;refine zD [0,1,2,3,4,5,6,7,8,9,10,11,12,13,14,15,16,17,18,19,20,21,22,23,24] [] ?_;refine zP (λwq v=>yo (x1+1) (y1+1) I L.2 J.2 om om (z.gr (S.gr v).out)) ?_;refine zP (λwq v=>yo x0 (y1+1) I L.2 J.2 om om (z.gr (S.gr v).out)) ?_;refine zP (λwq v=>yo (x1+1) y0 I L.2 J.2 om om (z.gr (S.gr v).out)) ?_;refine zP (λwq v=>yo x0 y0 I L.2 J.2 om om (z.gr (S.gr v).out)) ?_;refine zE ?_;intro aj ae S;refine nd rfl rfl ⟨?_,S.out⟩;unfold uv;rw[ve,ve,ve,ve]
end
theorem HX{f:Nat->Int}{M:Int}(h:∀i,-M<=f i/\f i<=M)(b:Nat):∀d:Nat,-(d*M)<=mZ f (b+d)-mZ f b/\mZ f (b+d)-mZ f b<=d*M
 |0=>by simp
 |d+1=>by
  have ih:=HX h b d
  have:=h (b+d+1);have e:((d+1:Nat):Int)*M=d*M+M:=by push_cast;rw[j6,jG]
  show _<=mZ f (b+d)+f (b+d+1)-mZ f b/\mZ f (b+d)+f (b+d+1)-mZ f b<=_;rw[e];omega
theorem Cu{f:Nat->Int}{M:Int}(y:0<=M)(h:∀i,-M<=f i/\f i<=M){K:Nat}(D:k<=K):-(K*M)<=FW f k/\FW f k<=K*M:=by
 have h1:=vS k;have h2:=HX h (k-lb k) (lb k);rw[(om:k-lb k+lb k=k)]at h2;have v:((lb k:Nat):Int)<=(K:Int):=om;have z:((lb k:Nat):Int)*M<=(K:Int)*M:=fu v y;unfold FW;omega
theorem Jg{f:Nat->Int}{M:Int}(v:0<=M)(h:∀i,-M<=f i/\f i<=M){K:Nat}(j:Nat):∀k,k<=K->-(M+k*(K*M))<=FA f k j/\FA f k j<=M+k*(K*M)
 |0,_=>by have:=h j;show _<=f j/\f j<=_;simp;omega
 |k+1,hk=>by
  have ih:=Jg (K:=K) v h j k om;have h1:=Cu v h (k:=k+1) (K:=K) hk;have y:0<=(K:Int)*M:=p5 om v;have e:((k+1:Nat):Int)*(K*M)=k*(K*M)+K*M:=by push_cast;rw[j6,jG]
  rw[e];show _<=FA f k j+(if k+1+lb (k+1)=j then FW f (k+1)else 0)/\FA f k j+(if k+1+lb (k+1)=j then FW f (k+1)else 0)<=_;split<;>omega
theorem zJ{V:List Int}(v:vB V)(y i:Nat):-2147483648<=cel gw V y i/\cel gw V y i<=2147483648:=by
 have:=v ((y-1)*gw+(i-1));unfold cel;omega
theorem QR{V:List Int}(v:vB V)(I:gw<=1024){y:Nat}(z:k<=gw)(i:Nat):-4503599627370496<=nJ gw V y k i/\nJ gw V y k i<=4503599627370496:=by
 have D:=dt i (show gw+1>0 by omega);unfold nJ;split
 ·omega
 ·split
  ·have:=Cu om (zJ (gw:=gw) v (i/(gw+1))) (k:=i%(gw+1)) (K:=1024) om;omega
  ·split
   ·have h1:=Jg om (zJ (gw:=gw) v y) (K:=1024) (i%(gw+1)) k om;have h2:(k:Int)*((1024:Nat)*2147483648)<=1024*((1024:Nat)*2147483648):=fu om om;omega
   ·have:=zJ (gw:=gw) v (i/(gw+1)) (i%(gw+1));omega
theorem QS{V:List Int}(D:vB V)(J:gw<=1024){y:Nat}(L:y<=1024)(i:Nat):-2310346608841064448<=nL gw V y k i/\nL gw V y k i<=2310346608841064448:=by
 have I:=dt i (show gw+1>0 by omega);unfold nL;split
 ·omega
 ·have z:∀v,-2199023255552<=FW (cel gw V v) (i%(gw+1))/\FW (cel gw V v) (i%(gw+1))<=2199023255552:=λv=>by
   have:=Cu om (zJ (gw:=gw) D v) (k:=i%(gw+1)) (K:=1024) om;omega
  have h1:=Jg om z (K:=1024) (i/(gw+1)) (if i%(gw+1)<=k then y else y-1) (by split<;>omega);have h2:((if i%(gw+1)<=k then y else y-1:Nat):Int)*((1024:Nat)*2199023255552)<=1024*((1024:Nat)*2199023255552):=fu (by split<;>omega) om;omega
def Bc(gw:Nat)(V:List Int)(k i:Nat):Int:=if i%(gw+1)=0\/i/(gw+1)=0 then 0 else if (i/(gw+1)-1)*gw+(i%(gw+1)-1)<k then V.getD ((i/(gw+1)-1)*gw+(i%(gw+1)-1)) 0 else 0
theorem M4(gw:Nat)(V:List Int):Bc gw V 0=λ_=>0:=funext λi=>by unfold Bc;split<;>simp
theorem M5{V:List Int}(S:1<=gw):jU (Bc gw V k) ((k/gw+1)*(gw+1)+(k%gw+1)) (V.getD k 0)=Bc gw V (k+1):=funext λi=>by
 have O:=dt k (show gw>0 by omega);have v:=dP k gw;rw[cD]at v;unfold jU;by_cases e:i=(k/gw+1)*(gw+1)+(k%gw+1)
 ·rw[a7 e,e];unfold Bc;rw[AE (gw:=gw) (x:=k%gw+1) om,ym (gw:=gw) (x:=k%gw+1) om,a8 (λh=>h.elim (Nat.succ_ne_zero _) (Nat.succ_ne_zero _)),eA,eA,v,a7 om]
 ·rw[a8 e];unfold Bc;split
  ·rfl
  ·rename_i L;have D:=dt i (show gw+1>0 by omega)
   have I:(i/(gw+1)-1)*gw+(i%(gw+1)-1)≠k:=λz=>e (by
    have J:k%gw=i%(gw+1)-1:=by rw[<-z,cD,fp,dT (show i%(gw+1)-1<gw by omega)]
    have a2:k/gw=i/(gw+1)-1:=by rw[<-z,cD,fF om,ee (show i%(gw+1)-1<gw by omega),eW]
    refine(Je (gw:=gw) (x:=k%gw+1) (y:=k/gw+1) om).2 ⟨om,?_⟩;rw[a2];generalize i/(gw+1)=q at *;omega)
   by_cases h1:(i/(gw+1)-1)*gw+(i%(gw+1)-1)<k
   ·rw[a7 h1,a7 om]
   ·rw[a8 h1,a8 om]
theorem QT{V:List Int}(z:1<=gw)(hi:i<(gh+1)*(gw+1)):Bc gw V (gw*gh) i=nJ gw V 1 0 i:=by
 have hd:i/(gw+1)<gh+1:=cS (by rw[cD];exact hi);have y:=dt i (show gw+1>0 by omega);unfold Bc nJ;split
 ·rfl
 ·rename_i v
  have h1:(i/(gw+1)-1)*gw+gw<=gw*gh:=by
   have:(i/(gw+1)-1+1)*gw<=gh*gw:=cI _ (by generalize i/(gw+1)=q at*;omega);rw[iI,kR,cD gh]at this;exact this
  rw[a7 om,a8 (by generalize i/(gw+1)=q at*;omega)];split
  ·rename_i h2;show _=cel gw V 1 (i%(gw+1));unfold cel;rw[h2]
  ·rfl
section
variable{cap:Nat}
theorem FU(y:eJ W p gw gh cc A cap bs Rs):∀w,Gr W w->Fn prog 44 [pt p,.agg #[ii 0,ii 0,ii (gw-1),ii (gh-1)]] w (jc (λv=>.tuple #[v,ii 0]) 2 1 (gw*gh) (cY (dw gw gh cc)) w):=λw g=>by
 have J:=y.sw;have I:=y.sh;have z:((gw:Int)-1)=((gw-1:Nat):Int):=om;have D:((gh:Int)-1)=((gh-1:Nat):Int):=om;have:=iz (W:=w) 0 0 (gw-1) (gh-1) om om (y.gr g);rw[<-z,<-D,(om:gw-1+1-0=gw),(om:gh-1+1-0=gh),wJ,cD gh gw]at this;exact this
theorem VT(gw gh:Nat)(hw:1<=gw/\gw<=1024)(Z:1<=gh/\gh<=1024)(W:World):Fn prog 404 [ii gw,ii gh] W (λv w'=>∃tb A,v=.tuple #[pt tb,ii 0] /\
  St No W w' [.blk tb 289 [ii gw,ii gh,.slice A ((gh+1)*(gw+1)) ((gh+1)*(gw+1))],.row 2 1 A ((gh+1)*(gw+1)) ((gh+1)*(gw+1)) (fj ((gh+1)*(gw+1)) λ_=>0)]):=by
 have J:dF 0 0 0 0 gw gh=0:=gW om om om om;have aa:=xM hw.2 Z.2;have L:((gw:Int)+1)*((gh:Int)+1)=(((gh+1)*(gw+1):Nat):Int):=by push_cast;rw[iW]
 generalize hn:(gh+1)*(gw+1)=n at *;have S:=St.start W;refine zI func404 ?_;refine z ?_;refine z ?_;refine zs ?_;refine cq (kL (pl:=[(0,1),(1,1),(2,1),(3,1)]) xa Ac (λw=>by kernel_rfl) rfl rfl) ?_;refine z ?_;refine z ?_;refine eY rfl (jW _ _ _ _ _ _ om om W) ?_;rintro _ ab ⟨rfl,I⟩;have S:=S.gr I;rw[J];refine z ?_;refine z ?_;refine zf ?_;(iterate 3 refine z ?_);refine zr ?_;refine z ?_;refine zr ?_;refine cq (fh rfl (by rw[L];omega)) ?_;rw[L];refine nD dk jR rfl rfl rfl (n:=n) (c:=n) om om om om S ?_;intro y ac U S O;refine zN ?_;intro D ad V S;refine zg ?_;rw[yk]at S;exact nd rfl rfl ⟨D,y,rfl,S⟩
theorem Jh(hB:vB (dw gw gh cc))(hG:eJ W p gw gh cc A cap bs Rs):Fn prog 399 [pt p] W (λv w'=>∃tb A' c',v=.tuple #[pt tb,ii 0] /\
  St No W w' [.blk tb 289 [ii gw,ii gh,.slice A' ((gh+1)*(gw+1)) c'],.row 2 1 A' ((gh+1)*(gw+1)) c' (fj ((gh+1)*(gw+1)) (lk gw (dw gw gh cc)))]):=by
 have hw:=hG.sw;have hh:=hG.sh;have hm:gw*gh<=1024*1024:=cE hw.2 hh.2;have hV:=qf gw gh cc;have ar:=FU hG;have aM:=xM hw.2 hh.2;have ap:=hG.top;generalize dw gw gh cc=V at *;have ao:∀i,i<gw*gh->(cY V)[(i:Int).toNat * 1]?=some (ii (V.getD i 0)):=λi hi=>by rw[cG,b7];exact gc (kr om)
 generalize hn:(gh+1)*(gw+1)=n at *;have L:=λ(w:World)(tb x y:Nat)(A:Option Addr)(c:Nat)(f:Nat->Int)(hx:x<=gw)(hy:y<=gh)(h1:eL w tb 289 [ii gw,ii gh,.slice A n c])(h2:Rd w A (fj n f))=>M3 (W:=w) (tb:=tb) (f:=f) x y hw.2 hh.2 hx hy ⟨A,c,hn▸h1,hn▸h2⟩;have ai:=λw=>VT gw gh hw hh w;rw[hn]at ai;have S:=St.start W;refine zI func399 ?_;refine zC (mC p gw gh _ W (ap.gr S.out)) ?_;intro aN aE S;refine zK (ai _) ?_;rintro _ aO ⟨tb,D,rfl,S2⟩;have S:=S.app S2;refine zC (uo p gw gh hw.2 hh.2 _ _ (ap.gr S.out)) ?_;intro aP aF S;refine zK (ar _ S.out) ?_;rintro _ aQ ⟨aa,ah,rfl,aj,ak,au⟩;have S:=S.pushRow aj ak au;refine zg ?_;rw[<-M4 gw V]at S
 refine dl (λm e w=>∃k:Nat,k+m=gw*gh/\SL e [(4,pt tb),(35,.slice aa (gw*gh) ah),(36,ii (gw*gh:Nat)),(37,ii k)] /\
  St No W w [.row 2 1 aa (gw*gh) ah (cY V),.blk tb 289 [ii gw,ii gh,.slice D n n],.row 2 1 D n n (fj n (Bc gw V k))]) (gw*gh)
  ⟨0,om,sl,S⟩ ?_
 clear S;rintro m e w ⟨k,hk,J,S⟩;rw[J.fold];by_cases aq:k<gw*gh
 ·have aA:dO aa:=(S.row (i:=0) rfl).someA om;have an:dO D:=(S.row (i:=2) rfl).someA (by rw[<-hn,cX];omega);have aL:=dt k (show gw>0 by omega);have aK:k/gw<gh:=cS aq;have e3:(k:Int)%gw=((k%gw:Nat):Int):=by push_cast;rfl
  have e4:(k:Int)/gw=((k/gw:Nat):Int):=by push_cast;rfl
  have aJ:(0:Int)<=(k:Int)/gw:=sU om om;have e1:((k%gw:Nat):Int)+1=((k%gw+1:Nat):Int):=rfl;have e2:((k/gw:Nat):Int)+1=((k/gw+1:Nat):Int):=rfl;have av:=vK (gw:=gw) (gh:=gh) (x:=k%gw+1) (y:=k/gw+1) om om;rw[hn]at av;have am:=M5 (gw:=gw) (k:=k) (V:=V) hw.1;refine zt ?_;refine z ?_;refine zx ?_;refine dH (eI cw rfl rfl (S.rd (i:=0) rfl) (ao k aq)) ?_;refine zD [0,1,2,3,4,5,6,7,8,9,10,11,12,13,14,15] [] ?_;rw[e3];refine zQ ?_;rw[e1];refine zQ ?_;rw[e4];refine zQ ?_;rw[e2];refine zE ?_;intro aR aG S;refine zD [0,1,2,3,4,5,6,7,8] [9,10] ?_;refine zP (λwq I=>L wq tb (k%gw+1) (k/gw+1) D n (Bc gw V k) om om ((S.gr I).blk (i:=1) rfl) ((S.gr I).rd (i:=2) rfl)) ?_;refine zE ?_;intro aS aH S;refine jk (i:=2) S rfl (cR _) rfl rfl rfl rfl (by rw[pV];omega) rfl ?_;intro aT S;refine zg ?_;rw[rS,am]at S;exact⟨m-1,om,k+1,om,sl,S⟩
 ·obtain rfl:k=gw*gh:=om;rw[nj (o':=nJ gw V 1 0) (λi hi=>QT hw.1 (by rw[hn];exact hi))]at S;have S:=S.drop 1;refine zg ?_;have bA:=λ{y k:Nat}(hk:k<=gw)(i:Nat)=>QR (y:=y) hB hw.2 hk i;have bB:=λ{y k:Nat}(hy:y<=1024)(i:Nat)=>QS (k:=k) hB hw.2 hy i;have Z:∀{o o':Nat->Int},(∀i,i<n->o i=o' i)->fj n o=fj n o':=λh=>nj h;have an:dO D:=(S.row (i:=1) rfl).someA (by rw[<-hn,cX];omega)
  refine dl (λm e w=>∃y:Nat,y+m=gh+1/\1<=y/\SL e [(4,pt tb),(12,ii y)] /\
   St No W w [.blk tb 289 [ii gw,ii gh,.slice D n n],.row 2 1 D n n (fj n (nJ gw V y 0))]) gh
   ⟨1,om,om,sl,S⟩ ?_
  clear S;rintro m e w ⟨y,hy,ae,J,S⟩;rw[J.fold];by_cases U:y<=gh
  ·skip;refine zg ?_
   refine dl (λm2 e w=>∃x:Nat,x+m2=gw/\SL e [(4,pt tb),(12,ii y),(13,ii (x+1:Nat))] /\
    St No W w [.blk tb 289 [ii gw,ii gh,.slice D n n],.row 2 1 D n n (fj n (nJ gw V y x))]) gw
    ⟨0,om,sl,S⟩ ?_
   clear S;rintro m2 e w ⟨x,hx,J,S⟩;rw[J.fold];by_cases ag:x<gw
   ·have aw:=vS (x+1);have az:=vD (k:=x+1) om;have ab:((x+1:Nat):Int)+(lb (x+1):Nat)=((x+1+lb (x+1):Nat):Int):=rfl;by_cases O:x+1+lb (x+1)<=gw
    ·have ac:=vK (gw:=gw) (gh:=gh) (x:=x+1+lb (x+1)) (y:=y) O U;have ad:=vK (gw:=gw) (gh:=gh) (x:=x+1) (y:=y) om U;rw[hn]at ac ad;have g1:=jg (o:=nJ gw V y x) ac;have g2:=jg (o:=nJ gw V y x) ad;have b1:=bA (y:=y) (k:=x) om (y*(gw+1)+(x+1+lb (x+1)));have b2:=bA (y:=y) (k:=x) om (y*(gw+1)+(x+1));have al:=MY (V:=V) ae ag O;refine zg ?_;refine cq (Dy rfl rfl om om om) ?_;refine zg ?_;rw[ab];refine zD [0,1,2,3,4,5,6,7,8,9,10,11,12,13,14,15,16,17,18,19] [20,21,22] ?_;refine zP (λwq I=>L wq tb (x+1+lb (x+1)) y D n (nJ gw V y x) O U ((S.gr I).blk (i:=0) rfl) ((S.gr I).rd (i:=1) rfl)) ?_;refine yx ?_;refine fo (λwq I=>eI cw rfl rfl ((S.gr I).rd (i:=1) rfl) g1) ?_;refine zP (λwq I=>L wq tb (x+1) y D n (nJ gw V y x) om U ((S.gr I).blk (i:=0) rfl) ((S.gr I).rd (i:=1) rfl)) ?_;refine yx ?_;refine fo (λwq I=>eI cw rfl rfl ((S.gr I).rd (i:=1) rfl) g2) ?_;refine zE ?_;intro aU aI S;refine jk (i:=1) S rfl (cR _) rfl rfl rfl rfl (by rw[pV];omega) rfl ?_;intro aV S;refine zg ?_;rw[rS,al]at S;exact⟨m2-1,om,x+1,om,⟨rfl,rfl,ie (by push_cast;omega),trivial⟩,S⟩
    ·skip;refine zg ?_;refine cq (Dy rfl rfl om om om) ?_;refine zg ?_;rw[ab];refine zg ?_;rw[Z (o':=nJ gw V y (x+1)) (λi _=>MZ ag O)]at S;exact⟨m2-1,om,x+1,om,⟨rfl,rfl,ie (by push_cast;omega),trivial⟩,S⟩
   ·obtain rfl:x=gw:=om;refine zg ?_;rw[Z (o':=nJ x V (y+1) 0) (λi _=>QN ae)]at S;exact⟨m-1,om,y+1,om,om,⟨rfl,ie (by push_cast;omega),trivial⟩,S⟩
  ·obtain rfl:y=gh+1:=om;rw[Z (o':=nL gw V 1 0) (λi hi=>Xe (by rw[hn];exact hi))]at S;refine zg ?_
   refine dl (λm e w=>∃y:Nat,y+m=gh+1/\1<=y/\SL e [(4,pt tb),(15,ii y)] /\
    St No W w [.blk tb 289 [ii gw,ii gh,.slice D n n],.row 2 1 D n n (fj n (nL gw V y 0))]) gh
    ⟨1,om,om,sl,S⟩ ?_
   clear S;rintro m e w ⟨y,hy,ae,J,S⟩;rw[J.fold];by_cases U:y<=gh
   ·have aw:=vS y;have az:=vD (k:=y) om;have ab:((y:Nat):Int)+(lb y:Nat)=((y+lb y:Nat):Int):=rfl;by_cases O:y+lb y<=gh
    ·skip;refine zg ?_;refine cq (Dy rfl rfl om om om) ?_;refine zg ?_;rw[ab];refine zg ?_
     refine dl (λm2 e w=>∃x:Nat,x+m2=gw/\SL e [(4,pt tb),(15,ii y),(16,ii (y+lb y:Nat)),(17,ii (x+1:Nat))] /\
      St No W w [.blk tb 289 [ii gw,ii gh,.slice D n n],.row 2 1 D n n (fj n (nL gw V y x))]) gw
      ⟨0,om,sl,S⟩ ?_
     clear S;rintro m2 e w ⟨x,hx,J,S⟩;rw[J.fold];by_cases ag:x<gw
     ·have ac:=vK (gw:=gw) (gh:=gh) (x:=x+1) (y:=y+lb y) om O;have ad:=vK (gw:=gw) (gh:=gh) (x:=x+1) (y:=y) om U;rw[hn]at ac ad;have g1:=jg (o:=nL gw V y x) ac;have g2:=jg (o:=nL gw V y x) ad;have b1:=bB (y:=y) (k:=x) om ((y+lb y)*(gw+1)+(x+1));have b2:=bB (y:=y) (k:=x) om (y*(gw+1)+(x+1));have al:=M0 (V:=V) ae ag;refine zD [0,1,2,3,4,5,6,7,8,9,10,11,12,13,14,15,16,17,18,19] [20,21,22] ?_;refine zP (λwq I=>L wq tb (x+1) (y+lb y) D n (nL gw V y x) om O ((S.gr I).blk (i:=0) rfl) ((S.gr I).rd (i:=1) rfl)) ?_;refine yx ?_;refine fo (λwq I=>eI cw rfl rfl ((S.gr I).rd (i:=1) rfl) g1) ?_;refine zP (λwq I=>L wq tb (x+1) y D n (nL gw V y x) om U ((S.gr I).blk (i:=0) rfl) ((S.gr I).rd (i:=1) rfl)) ?_;refine yx ?_;refine fo (λwq I=>eI cw rfl rfl ((S.gr I).rd (i:=1) rfl) g2) ?_;refine zE ?_;intro aC aB S;refine jk (i:=1) S rfl (cR _) rfl rfl rfl rfl (by rw[pV];omega) rfl ?_;intro aD S;refine zg ?_;rw[rS,al]at S;exact⟨m2-1,om,x+1,om,⟨rfl,rfl,rfl,ie (by push_cast;omega),trivial⟩,S⟩
     ·obtain rfl:x=gw:=om;refine zg ?_;rw[Z (o':=nL x V (y+1) 0) (λi _=>QO)]at S;exact⟨m-1,om,y+1,om,om,⟨rfl,ie (by push_cast;omega),trivial⟩,S⟩
    ·skip;refine zg ?_;refine cq (Dy rfl rfl om om om) ?_;refine zg ?_;rw[ab];refine zg ?_;rw[Z (o':=nL gw V (y+1) 0) (λi hi=>M1 (by rw[hn];exact hi) O ae)]at S;exact⟨m-1,om,y+1,om,om,⟨rfl,ie (by push_cast;omega),trivial⟩,S⟩
   ·obtain rfl:y=gh+1:=om;rw[Z (o':=lk gw V) (λi hi=>Xf (by rw[hn];exact hi))]at S;refine zX ?_;exact⟨tb,D,n,rfl,S⟩
end
structure KM(w:World)(gw:Nat)(gh:Nat)(c:Nat->Int)(k:Nat)(bs:Nat->Nat)(Rs:Nat->Option Nat):Prop where
 slab:∀t,t<k->kE w (bs t) (Rs t) (fQ gw (t%cU gw)) (fQ gh (t/cU gw)) (u5 gw c t)
 inj:∀t u,t<k->u<k->bs t=bs u->t=u
 injR:∀t u g,t<k->u<k->Rs t=some g->Rs u=some g->t=u
def HA.slbs(gw gh:Nat)(c:Nat->Int)(k:Nat)(bs:Nat->Nat)(Rs:Nat->Option Nat):HA :=
 ⟨λg=>∃t,t<k/\(g=bs t\/Rs t=some g),λw=>KM w gw gh c k bs Rs,λ_ _ h _ hS=>⟨λt ht=>(hS.slab t ht).keep (λg hg=>h g ⟨t,ht,hg⟩),hS.inj,hS.injR⟩,λ_ hS g⟨t,ht,hg⟩=>(hS.slab t ht).lt hg⟩
def HA.slb(b:Nat)(R:Option Nat)(sw sh:Nat)(c:Nat->Int):HA :=
 ⟨λg=>g=b\/R=some g,λw=>kE w b R sw sh c,λ_ _ h _ hS=>hS.keep (λg hg=>h g hg),λ_ hS g hg=>hS.lt hg⟩
section
variable{L:List HA}{c:Nat->Int}{R:Option Nat}
theorem St.slbs0(S:St F W w L)(gw gh:Nat)(c:Nat->Int)(bs:Nat->Nat)(Rs:Nat->Option Nat):St F W w (.slbs gw gh c 0 bs Rs::L) :=
 S.push (Gr.refl w) (h:=.slbs gw gh c 0 bs Rs) ⟨λt v=>by omega,λt u v=>by omega,λt u g v=>by omega⟩ (λg⟨t,v,_⟩=>by omega)
theorem St.slbsPush(S:St F W w (.slb b R (fQ gw (k%cU gw)) (fQ gh (k/cU gw)) (u5 gw c k)::.slbs gw gh c k bs Rs::L)):St F W w (.slbs gw gh c (k+1) (nX bs k b) (nX Rs k R)::L):=by
 have h1:=S.sep.1;have U:=S.sep.2.1;have h2:=S.sep.2.2.1;have V:=S.sep.2.2.2;have z:∀g,(g=b\/R=some g)->∀t,t<k->¬(g=bs t\/Rs t=some g):=λg v t I h=>U g v (.slbs gw gh c k bs Rs) eB ⟨t,I,h⟩;refine⟨S.fr,⟨⟨λt I=>?_,λt u I Z e=>?_,λt u g I Z D y=>?_⟩,λg⟨t,I,v⟩=>?_⟩,λg⟨t,I,v⟩h hh=>?_,V.2⟩
 ·by_cases e:t=k
  ·subst e;rw[iU,iU];exact h1.1
  ·rw[gY om,gY om];exact h2.1.slab t om
 ·by_cases D:t=k
  ·by_cases y:u=k
   ·rw[D,y]
   ·subst D;rw[iU,gY om]at e;exact(z b (.inl rfl) u om (.inl e)).elim
  ·rw[gY om]at e;by_cases y:u=k
   ·subst y;rw[iU]at e;exact(z b (.inl rfl) t om (.inl e.symm)).elim
   ·rw[gY om]at e;exact h2.1.inj t u om om e
 ·by_cases O:t=k
  ·by_cases J:u=k
   ·rw[O,J]
   ·subst O;rw[iU]at D;rw[gY om]at y;exact(z g (.inr D) u om (.inr y)).elim
  ·rw[gY om]at D;by_cases J:u=k
   ·subst J;rw[iU]at y;exact(z g (.inr y) t om (.inr D)).elim
   ·rw[gY om]at y;exact h2.1.injR t u g om om D y
 ·by_cases e:t=k
  ·subst e;rw[iU,iU]at v;exact h1.2 g v
  ·rw[gY om,gY om]at v;exact h2.2 g ⟨t,om,v⟩
 ·by_cases e:t=k
  ·subst e;rw[iU,iU]at v;exact U g v h (cW _ hh)
  ·rw[gY om,gY om]at v;exact V.1 g ⟨t,om,v⟩ h hh
end
theorem KN(n:Nat)(c:Nat->Int):((km n c).all λv=>v.oneCell')=true:=dh.2 λv y=>by
 simp only[km,fC]at y;obtain⟨i,_,rfl⟩:=y;rfl
theorem St.two{L:List HA}{a b:HA}(S:St F W w (a::b::L))(ok:a.ok w->b.ok w->h.ok w)(own:∀g,h.own g->a.own g\/b.own g):St F W w (h::L):=by
 have h1:=S.sep.1;have D:=S.sep.2.1;have h2:=S.sep.2.2.1;have y:=S.sep.2.2.2;exact⟨S.fr,⟨ok h1.1 h2.1,λg v=>(own g v).elim (h1.2 g) (h2.2 g)⟩,λg v x z=>(own g v).elim (λe=>D g e x (cW _ z)) (λe=>y.1 g e x z),y.2⟩
theorem Ho(xs:List Value)(U:xs.length=n)(h0:0<n)(hm:n<=1048576)(h1:(xs.all λv=>v.oneCell')=true)(D:Rd W A xs):Fn prog 77 [.slice A n c] W (jc id 21 1 n xs W):=by
 have y:dO A:=D.someA om;obtain⟨ab,ao,rfl⟩:=y;have S:=St.start W;refine zI func77 ?_;refine zg ?_;refine cq (xF (B:=false) z1 rfl rfl) ?_;refine zg ?_;refine mv z1 je S ?_;intro I V O S z;refine zg ?_;refine fM (i:=0) S rfl (λh=>rfl) z1 Qf rfl rfl rfl rfl (by rw[U,cG]) om (D.gr S.out) h1 om ?_;intro J L Z S z;refine zg ?_;rw[jL]at S;rw[eH]at S ⊢;exact ir rfl (S.retNew (i:=0) rfl)
theorem Hp(xs:List Value)(U:xs.length=n)(h0:0<n)(hm:n<=1048576)(h1:(xs.all λv=>v.oneCell')=true)(D:Rd W A xs):Fn prog 32 [.slice A n c] W (jc id 87 1 n xs W):=by
 have y:dO A:=D.someA om;obtain⟨ab,ao,rfl⟩:=y;have S:=St.start W;refine zI func32 ?_;refine zg ?_;refine cq (xF (B:=false) Zh rfl rfl) ?_;refine zg ?_;refine mv Zh aal S ?_;intro I V O S z;refine zg ?_;refine fM (i:=0) S rfl (λh=>rfl) Zh aa0 rfl rfl rfl rfl (by rw[U,cG]) om (D.gr S.out) h1 om ?_;intro J L Z S z;refine zg ?_;rw[jL]at S;rw[eH]at S ⊢;exact ir rfl (S.retNew (i:=0) rfl)
section
variable{R:Option Nat}{c:Nat->Int}
theorem TK(hs:1<=sw*sh/\sw*sh<=256)(hS:kE W b R sw sh c):Fn prog 33 [pt b] W (λv w'=>∃b' R',v=.pointer (some ⟨b',0,none⟩)/\St No W w' [.slb b' R' sw sh c]):=by
 obtain⟨hb,hm⟩:=hS;cases R with
 |none =>
  obtain⟨x,I,hx,hc⟩:=hm;have S:=St.start W;refine zI func33 ?_;iterate 5 refine z ?_
  refine dH (fx Zl rfl (aay _) rfl (I.gr S.out) rfl rfl) ?_;refine zN ?_;intro y ab V S;refine Z1 0 S ?_;intro ac S;iterate 3 refine z ?_
  refine dH (cV Y8 rfl rfl (I.gr S.out) rfl) ?_;refine cq (xg z1 rfl rfl rfl aat) ?_;refine zg ?_;refine ir rfl ⟨y,none,rfl,S.as_ (i:=0) (h':=.slb y none sw sh c) rfl rfl (λh=>⟨hb,x,h,hx,hc⟩) (λg hg=>hg.elim id (λe=>by cases e))⟩
 |some g =>
  obtain⟨cap,I,hR⟩:=hm;have S:=St.start W;refine zI func33 ?_;iterate 5 refine z ?_
  refine dH (fx Zl rfl (aay _) rfl (I.gr S.out) rfl rfl) ?_;refine zN ?_;intro y ab V S;refine Z1 0 S ?_;intro ac S;iterate 3 refine z ?_
  refine dH (cV Y8 rfl rfl (I.gr S.out) rfl) ?_;refine cq (x4 z1 rfl rfl) ?_;refine zK (Ho (km (sw*sh) c) (rM _ _) hs.1 om (KN _ _) (hR.rd.gr S.out)) ?_;rintro _ ad ⟨O,U,rfl,J,L,Z⟩;have S:=S.pushRow J L Z;refine cq (jn z1 rfl rfl) ?_;refine zS ?_;intro ae S
  obtain⟨D,aa⟩:∃D,O=some ⟨D,0,none⟩:=by
   rcases (S.row (i:=0) rfl).form with⟨_,h0,_⟩|⟨D,l,h,_⟩
   ·omega
   ·exact⟨D,h⟩
  subst aa;exact ir rfl ⟨y,some D,rfl,S.two (h:=.slb y (some D) sw sh c) (λh1 h2=>⟨hb,U,h2,h1⟩) (λg hg=>hg.elim .inr (λe=>.inl (by rw[Option.some.inj e];rfl)))⟩
end
section
variable{cap:Nat}
def vf(n k:Nat)(bs bs':Nat->Nat):List Value:=(List.range n).map λt=>.pointer (some ⟨if t<k then bs' t else bs t,0,none⟩)
theorem M7(n k:Nat)(bs v:Nat->Nat):(vf n k bs v).length=n:=by simp[vf]
theorem KO(n:Nat)(bs v:Nat->Nat):vU n bs=vf n 0 bs v:=by simp[vf,vU]
theorem M8(n:Nat)(bs v:Nat->Nat):vf n n bs v=vU n v:=by
 unfold vf vU;exact eQ λt y=>by rw[a7 (dJ.1 y)]
theorem M9{t:Nat}{v:Nat->Nat}(h:t<n)(y:k<=t):(vf n k bs v)[(t:Int).toNat * 1]?=some (.pointer (some ⟨bs t,0,none⟩)):=by
 rw[cG,b7];simp[vf,h];omega
theorem Na{v:Nat->Nat}:(vf n k bs v).set ((k:Int).toNat * 1) (pt b)=vf n (k+1) bs (nX v k b):=by
 rw[cG,b7];apply gG;intro i;rw[gl];unfold vf;by_cases e:k=i
 ·subst e;rw[a7 rfl];simp only[eP,gk,da];split
  ·rename_i h;rw[eu h];simp[nX]
  ·rename_i h;rw[dZ (by simp;omega)];rfl
 ·rw[a8 e];simp only[da];by_cases h:i<n
  ·rw[eu h];simp only[ku,Option.some.injEq,Value.pointer.injEq,Addr.mk.injEq,and_true];by_cases h2:i<k
   ·rw[a7 h2,a7 om,gY h2]
   ·rw[a8 h2,a8 om]
  ·rw[dZ (by simp;omega)];rfl
theorem QX(n:Nat)(bs:Nat->Nat):((vU n bs).all λv=>v.oneCell')=true:=dh.2 λv y=>by
 simp only[vU,fC]at y;obtain⟨i,_,rfl⟩:=y;rfl
def QY(F:Nat->Prop)(W:World)(L:List HA)(T:Value->HA->Prop)(wq:World):List Value->Prop
 |[]=>St F W wq L
 |v::_=>∃h,T v h/\St F W wq (h::L)
theorem QY.st{L:List HA}{T:Value->HA->Prop}:∀{τ:List Value},QY F W L T wq τ->St F W wq L
 |[],h=>h
 |v::_,⟨_,_,S⟩=>S.drop 1
theorem FX(hG:eJ W p gw gh cc A cap bs Rs):Fn prog 22 [pt p] W (qw id gw gh cc W):=by
 have hw:=hG.sw;have hh:=hG.sh;have hN:cU gw*cU gh<=64*64:=cE (jS hw.2) (jS hh.2);have ad:0<cU gw*cU gh:=j5 (kQ hw.1) (kQ hh.1);have hT:=hG.top;have hR:=hG.row;generalize D:cU gw*cU gh=N at *;have S:=St.start W;refine zI func22 ?_;iterate 5 refine z ?_
 refine dH (fx Zp rfl (sizeOf85 _) rfl (hT.gr S.out) rfl rfl) ?_;refine zN ?_;intro U an ak S;refine Z1 0 S ?_;intro ao S;iterate 3 refine z ?_
 refine dH (cV Zh rfl rfl (hT.gr S.out) rfl) ?_;refine zK (Hp (vU N bs) (Ql _ _) ad om (QX _ _) (hR.rd.gr S.out)) ?_;rintro _ ap ⟨I,L,rfl,aa,ab,ac⟩;have S:=S.pushRow aa ab ac;refine zS ?_;intro aq S;rw[KO N bs (λ_=>0)]at S;have S:=S.slbs0 gw gh cc (λ_=>0) (λ_=>none)
 refine dl (λm e w=>∃(k:Nat)(y:Nat->Nat)(J:Nat->Option Nat),k+m=N/\SL e [(3,pt U),(18,.slice I N L),(19,ii N),(20,ii k)] /\
  St No W w [.slbs gw gh cc k y J,.row 87 1 I N L (vf N k bs y),.blk U 85 [ii gw,ii gh,ii (cU gw),.slice I N L]]) N
  ⟨0,λ_=>0,λ_=>none,om,sl,S⟩ ?_
 clear S;rintro m e w ⟨k,y,J,hk,ai,S⟩;rw[ai.fold];by_cases Z:k<N
 ·have aj:dO I:=(S.row (i:=1) rfl).someA om;have O:=hG.slab k (by rw[D];exact Z);have al:=mA (n:=gw) (k:=k%cU gw) (dt _ (kQ hw.1));have am:=mA (n:=gh) (k:=k/cU gw) (cS (by rw[D];exact Z));have ah:=λw(g:Gr W w)=>TK ⟨cE (show 1<=_ by omega) (show 1<=_ by omega),cE (show _<=16 by omega) (show _<=16 by omega)⟩ (O.gr g);refine zt ?_;refine z ?_;refine zx ?_;refine dH (eI aav rfl rfl (S.rd (i:=1) rfl) (M9 Z (cN k))) ?_;refine zH (C:=(λσ wq=>QY No W [.slbs gw gh cc k y J,.row 87 1 I N L (vf N k bs y),.blk U 85 [ii gw,ii gh,ii (cU gw),.slice I N L]] (λv h=>∃b' R',v=.pointer (some ⟨b',0,none⟩)/\h=.slb b' R' (fQ gw (k%cU gw)) (fQ gh (k/cU gw)) (u5 gw cc k)) wq σ)) [4] [0,1,2,3,4,5] [6] (S.gr (Gr.drew _)) ?_;refine zV (λτ wq hq=>((QY.st hq).blk (i:=2) rfl)) ?_;refine zR ?_;refine de rfl rfl (λwq hq=>l4 rfl ((ah wq (St.out (QY.st hq))).mono (λv w'⟨b',R',hv,S2⟩=>⟨_,⟨b',R',hv,rfl⟩,St.app (QY.st hq) S2⟩))) ?_;rintro v4 w4 ⟨h4,⟨b4,R4,rfl,_⟩,_⟩;refine zY ?_;rintro w8 ⟨h8,⟨b',R',e8,rfl⟩,S⟩;cases e8
  refine jk (i:=2) S rfl (aal _) rfl rfl rfl rfl (by rw[M7];omega) rfl ?_;intro w9 S;refine zg ?_;rw[Na]at S;exact⟨m-1,om,k+1,nX y k b4,nX J k R',om,sl,S.slbsPush⟩
 ·obtain rfl:k=N:=om;refine zg ?_;rw[M8]at S;have O:KM w gw gh cc k y J:=S.ok (i:=0) rfl;have ag:=S.blk (i:=2) rfl;have ae:=S.row (i:=1) rfl;refine ir rfl ⟨U,I,L,y,J,rfl,⟨hw,hh,by rw[D];exact ag,by rw[D];exact ae,by rw[D];exact O.slab,by rw[D];exact O.inj,by rw[D];exact O.injR⟩,λg V=>?_,S.out⟩;rw[D]at V;rcases V with V|V|⟨t,ht,V⟩
  ·exact((S.sep.get (i:=2) rfl).2 g V).elim (λh=>h.elim) id
  ·exact((S.sep.get (i:=1) rfl).2 g V).elim (λh=>h.elim) id
  ·exact((S.sep.get (i:=0) rfl).2 g ⟨t,ht,V⟩).elim (λh=>h.elim) id
end
abbrev mH:=Int×Nat
def fA(l:List mH)(i:Nat):mH:=l.getD i (0,0)
def uE(l:List mH)(i j:Nat):List mH:=(l.set i (fA l j)).set j (fA l i)
theorem lK(l:List mH)(i j:Nat):(uE l i j).length=l.length:=by simp[uE]
theorem yG{l:List mH}(h:i<l.length):l[i]?=some (fA l i):=by
 rw[fA,cO,ct h];rfl
theorem D0{l:List mH}{x:mH}(h:l[i]?=some x):fA l i=x:=by
 rw[fA,cO,h];rfl
theorem o5{l:List mH}(hi:i<l.length)(z:j<l.length)(k:Nat):fA (uE l i j) k=if k=j then fA l i else if k=i then fA l j else fA l k:=by
 unfold uE;by_cases v:k=j
 ·rw[a7 v];exact D0 (by rw[v,gl,a7 rfl,pe,a7 z])
 ·rw[a8 v];by_cases y:k=i
  ·rw[a7 y];exact D0 (by rw[y,gl,a8 (by rw[y]at v;exact λh=>v h.symm),gl,a7 rfl,a7 hi])
  ·rw[a8 y];show(List.set _ _ _).getD k (0,0)=l.getD k (0,0);rw[cO,cO,gl,a8 (λh=>v h.symm),gl,a8 (λh=>y h.symm)]
theorem ql{l:List mH}{x:mH}:x∈l↔∃k,k<l.length/\fA l k=x:=by
 constructor
 ·intro h;obtain⟨k,v⟩:=List.mem_iff_getElem?.1 h;exact⟨k,(dq.1 v).1,D0 v⟩
 ·rintro⟨k,v,rfl⟩;exact dD (yG v)
theorem vl{l:List mH}(hi:i<l.length)(y:j<l.length)(x:mH):x∈uE l i j↔x∈l:=by
 have z:∀(l:List mH),i<l.length->j<l.length->∀x,x∈uE l i j->x∈l:=by
  intro l hi y x L;obtain⟨k,D,v⟩:=ql.1 L;rw[lK]at D;rw[o5 hi y]at v;split at v
  ·exact ql.2 ⟨i,hi,v⟩
  ·split at v
   ·exact ql.2 ⟨j,y,v⟩
   ·exact ql.2 ⟨k,D,v⟩
 refine⟨z l hi y x,λL=>?_⟩;obtain⟨k,D,v⟩:=ql.1 L;refine ql.2 ?_;rw[lK];by_cases O:k=i
 ·exact⟨j,y,by rw[o5 hi y,a7 rfl,<-O];exact v⟩
 ·by_cases I:k=j
  ·refine⟨i,hi,?_⟩;rw[o5 hi y];by_cases J:i=j
   ·rw[a7 J,J,<-I];exact v
   ·rw[a8 J,a7 rfl,<-I];exact v
  ·exact⟨k,D,by rw[o5 hi y,a8 I,a8 O];exact v⟩
def qQ(l:List mH)(n:Nat):Prop:=∀k,0<k->k<n->(fA l ((k-1)/2)).1<=(fA l k).1
structure xB(l:List mH)(j:Nat):Prop where
 lt:j<l.length
 ok:∀k,0<k->k<l.length->k≠j->(fA l ((k-1)/2)).1<=(fA l k).1
 kids:0<j->∀k,0<k->k<l.length->(k-1)/2=j->(fA l ((j-1)/2)).1<=(fA l k).1
structure xC(l:List mH)(n i:Nat):Prop where
 le:n<=l.length
 ok:∀k,0<k->k<n->(k-1)/2≠i->(fA l ((k-1)/2)).1<=(fA l k).1
 kids:0<i->∀k,0<k->k<n->(k-1)/2=i->(fA l ((i-1)/2)).1<=(fA l k).1
section
variable{l:List mH}
theorem xB.push{x:mH}(h:qQ l l.length):xB (l++[x]) l.length:=by
 have e:∀k,k<l.length->fA (l++[x]) k=fA l k:=λk v=>by unfold fA;rw[cO,cO,gt v]
 refine⟨by simp,λk y v z=>?_,λ_ k y v D=>?_⟩
 ·simp at v;rw[e k om,e _ om];exact h k y om
 ·simp at v;omega
theorem xB.stop(h:xB l j)(z:j=0\/(fA l ((j-1)/2)).1<=(fA l j).1):qQ l l.length:=by
 intro k v y;by_cases e:k=j
 ·subst e;rcases z with e|e
  ·omega
  ·exact e
 ·exact h.ok k v y e
theorem xB.up(h:xB l j)(S:0<j)(V:(fA l j).1<(fA l ((j-1)/2)).1):xB (uE l ((j-1)/2) j) ((j-1)/2):=by
 have U:=h.lt;have hi:(j-1)/2<l.length:=om;have D:=o5 hi U;generalize O:(j-1)/2=i at *;refine⟨by rw[lK];exact hi,λk z y L=>?_,λi0 k z y Z=>?_⟩
 ·rw[lK]at y;rw[D,D];by_cases v:k=j
  ·subst v;rw[a7 rfl,a8 om,a7 om];omega
  ·rw[a8 v,a8 L];by_cases I:(k-1)/2=j
   ·rw[a7 I];have:=h.kids S k z y I;rw[O]at this;exact this
   ·rw[a8 I];by_cases J:(k-1)/2=i
    ·rw[a7 J];have:=h.ok k z y v;rw[J]at this;omega
    ·rw[a8 J];exact h.ok k z y v
 ·rw[lK]at y;rw[D,D,a8 (show(i-1)/2≠j by omega),a8 (show(i-1)/2≠i by omega)];have h1:=h.ok i i0 hi om;by_cases v:k=j
  ·rw[a7 v];exact h1
  ·rw[a8 v,a8 om];have:=h.ok k z y v;rw[Z]at this;omega
theorem xC.stop(h:xC l n i)(z:∀k,0<k->k<n->(k-1)/2=i->(fA l i).1<=(fA l k).1):qQ l n:=by
 intro k v y;by_cases e:(k-1)/2=i
 ·rw[e];exact z k v y e
 ·exact h.ok k v y e
theorem xC.down(h:xC l n i)(hj:j<n)(L:0<j)(U:(j-1)/2=i)(aa:(fA l j).1<(fA l i).1)(v:∀k,0<k->k<n->(k-1)/2=i->(fA l j).1<=(fA l k).1):xC (uE l i j) n j:=by
 have O:=h.le;have I:=o5 (l:=l) (i:=i) (j:=j) om om;refine⟨by rw[lK];exact O,λk y D S=>?_,λ_ k y D V=>?_⟩
 ·rw[I,I];rw[a8 S];by_cases Z:k=j
  ·subst Z;rw[a7 U,a7 rfl];omega
  ·rw[a8 Z];by_cases z:(k-1)/2=i
   ·rw[a7 z,a8 om];exact v k y D z
   ·rw[a8 z];by_cases J:k=i
    ·rw[a7 J];subst J;exact h.kids y j L hj U
    ·rw[a8 J];exact h.ok k y D z
 ·rw[I,I,U,a8 om,a7 rfl,a8 om,a8 om];have:=h.ok k y D om;rw[V]at this;exact this
theorem qQ.min(h:qQ l n):∀k,k<n->(fA l 0).1<=(fA l k).1:=by
 intro k;induction k using Nat.strongRecOn with
 |_ k ih =>
  intro v;by_cases e:k=0
  ·subst e;exact ij _
  ·have h1:=ih ((k-1)/2) om om;have h2:=h k om v;omega
theorem xC.pop(h:qQ l l.length)(D:0<l.length):xC (uE l 0 (l.length-1)) (l.length-1) 0:=by
 have y:=o5 (l:=l) (i:=0) (j:=l.length-1) om om;refine⟨by rw[lK];omega,λk z I v=>?_,λe=>by omega⟩;rw[y,y,a8 om,a8 v,a8 om,a8 om];exact h k z om
theorem OH(z:l.length=m+1)(x:mH):x∈l↔x=fA l m\/x∈l.take m:=by
 rw[ql];constructor
 ·rintro⟨k,v,rfl⟩;by_cases e:k=m
  ·exact .inl (by rw[e])
  ·refine .inr (dD (i:=k) ?_);rw[fJ,a7 om];exact yG v
 ·rintro (rfl|y)
  ·exact⟨m,om,rfl⟩
  ·exact ql.1 (jj y)
theorem Ez(h:k<m):fA (l.take m) k=fA l k:=by
 unfold fA;rw[cO,cO,fJ,a7 h]
theorem qQ.take(h:qQ l m):qQ (l.take m) (l.take m).length:=by
 intro k y z;have v:k<m:=by have:=d7 (i:=m) (l:=l);omega
 rw[Ez om,Ez v];exact h k y v
end
def Av(P:Program)(t:TypeId)(u:Value)(m:String)(args:List Value)(w:World)(R:Value->World->Prop):Prop :=
 ∃f rv,(method (P.types.size+Made.depth) t u m).run P w=.ok (f,rv) w/\Fn P f (rv::args) w R
section
variable{rest:List Oper}{ps:String}
theorem mr{m:String}(L:ev e x=.iface t u)(J:lj (args.map (ev e))=some vs)(z:Av P t u m vs w R)(I:∀v w',R v w'->RW P ops Q rest (fI e d v) w'):RW P ops Q (⟨d,.call ⟨.invoke x m,args.toArray,tys⟩,ty,ps,af,none⟩::rest) e w:=by
 obtain⟨f,rv,D,y⟩:=z;exact o8 L D J y I
theorem U4{y:Operand}{b c:Int}(J:ev e x=ii a)(L:ev e y=ii b)(z:b≠0)(D:a.tdiv b=c)(I:-9223372036854775808<=c/\c<=9223372036854775807):iE P e ⟨d,.binOp .quo t x y t',ty,ps,af,none⟩ (ii c):=by
 intro w;have v:IntKind.i64.wrap c=c:=gC _ I;simp[gd,execOp,J,L,eqGuard,binOp,Op.intDiv,z,D,v]
end
theorem Ix{Q:Exit->(Nat->Value)->World->Prop}(v:Nat.beq j k=false)(h:Q (.exit j) e w):J2 k Q (.exit j) e w:=by
 simp only[J2,v];exact h
structure Aw(P:Program)(t:TypeId)(u:Value)(jt:TypeId)(H:List mH->World->Prop):Prop where
 len:∀l w,H l w→Av P t u "Len" [] w (λv w'=>v=ii l.length∧H l w')
 less:∀l w(i j:Nat),H l w→i<l.length→j<l.length→Av P t u "Less" [ii i,ii j] w (λv w'=>v=.bool (decide ((fA l i).1<(fA l j).1))∧H l w')
 swap:∀l w(i j:Nat),H l w→i<l.length→j<l.length→Av P t u "Swap" [ii i,ii j] w (λv w'=>v=.tuple #[]∧H (uE l i j) w')
 push:∀l w(x:mH),H l w→l.length≤1099511627776→Av P t u "Push" [.iface jt (.agg #[ii x.1,ii x.2])] w (λv w'=>v=.tuple #[]∧H (l++[x]) w')
 pop:∀l w,H l w→0<l.length→Av P t u "Pop" [] w (λv w'=>v=.iface jt (.agg #[ii (fA l (l.length-1)).1,ii (fA l (l.length-1)).2])∧H (l.take (l.length-1)) w')
 small:∀l w,H l w->l.length<=1099511627777
section
variable{H:List mH->World->Prop}
theorem Yp(L:Aw prog t u jt H)(l:List mH)(j:Nat)(W:World)(J:xB l j)(y:H l W) :
  Fn prog 258 [.iface t u,ii j] W (λv w'=>v=.tuple #[]/\∃l',l'.length=l.length/\(∀x,x∈l'↔x∈l)/\qQ l' l'.length/\H l' w'):=by
 refine zI func258 ?_;refine zg ?_;refine dl (λm e w=>∃(j':Nat)(l':List mH),j'=m/\SL e [(0,.iface t u),(1,ii j')]/\l'.length=l.length/\(∀x,x∈l'↔x∈l)/\xB l' j'/\H l' w) j ⟨j,l,rfl,sl,rfl,λ_=>Iff.rfl,J,y⟩ ?_;rintro m e w ⟨j,l',rfl,S,z,D,J,y⟩;rw[S.fold];have Z:=L.small _ _ y;have I:=J.lt;by_cases V:j=0
 ·subst V;refine zg ?_;refine cq (U4 (c:=0) rfl rfl (by decide) (by decide) om) ?_;refine zg ?_;refine Ix rfl (nC (pE ?_));refine na ?_;exact⟨rfl,l',z,D,J.stop (.inl rfl),y⟩
 ·have U:((j:Int)-1)/2=(((j-1)/2:Nat):Int):=om;by_cases O:(fA l' j).1<(fA l' ((j-1)/2)).1
  ·skip;refine zg ?_;rw[U];refine zg ?_;refine dr rfl ?_;refine mr rfl rfl (L.less _ _ j ((j-1)/2) y I om) ?_;rintro _ w1 ⟨rfl,y⟩;rw[cF O];refine zg ?_;refine mr rfl rfl (L.swap _ _ ((j-1)/2) j y om I) ?_;rintro _ w2 ⟨rfl,y⟩;refine zg ?_;exact⟨(j-1)/2,om,(j-1)/2,_,rfl,sl,by rw[lK];exact z,λx=>(vl om I x).trans (D x),J.up om O,y⟩
  ·skip;refine zg ?_;rw[U];refine zg ?_;refine dr rfl ?_;refine mr rfl rfl (L.less _ _ j ((j-1)/2) y I om) ?_;rintro _ w1 ⟨rfl,y⟩;rw[cC O];refine zg ?_;refine Ix rfl (nC (pE ?_));refine na ?_;exact⟨rfl,l',z,D,J.stop (.inr om),y⟩
theorem U5(I:Aw prog t u jt H)(l:List mH)(x:mH)(W:World)(O:qQ l l.length)(D:H l W)(S:l.length<=1099511627776) :
  Fn prog 192 [.iface t u,.iface jt (.agg #[ii x.1,ii x.2])] W (λv w'=>v=.tuple #[]/\∃l',l'.length=l.length+1/\(∀y,y∈l'↔y=x\/y∈l)/\qQ l' l'.length/\H l' w'):=by
 refine zI func192 ?_;refine zg ?_;refine mr rfl rfl (I.push _ _ x D S) ?_;rintro _ U ⟨rfl,D⟩;refine zg ?_;refine mr rfl rfl (I.len _ _ D) ?_;rintro _ V ⟨rfl,D⟩;have z:(l++[x]).length=l.length+1:=by simp
 refine zg ?_;rw[show(((l++[x]).length:Nat):Int)-1=((l.length:Nat):Int)by rw[z];omega];refine zK (Yp I _ _ _ (xB.push O) D) ?_;rintro _ Z ⟨rfl,l',h1,h2,J,L⟩;refine ze ?_;exact na ⟨rfl,l',by rw[h1];simp,λy=>(h2 y).trans (by rw[ez,dM];exact Or.comm),J,L⟩
theorem WJ(L:Aw prog t u jt H)(l:List mH)(i n:Nat)(W:World)(S:xC l n i)(hi:i<=1099511627777)(z:H l W) :
  Fn prog 257 [.iface t u,ii i,ii n] W (λv w'=>∃l',l'.length=l.length/\(∀x,x∈l'↔x∈l)/\qQ l' n/\(∀k,n<=k->fA l' k=fA l k)/\H l' w'):=by
 refine zI func257 ?_;refine zg ?_
 refine dl (λm e w=>∃(k:Nat)(l':List mH),m=n-k/\SL e [(0,.iface t u),(1,ii i),(2,ii n),(7,ii k)]/\l'.length=l.length/\(∀x,x∈l'↔x∈l)/\xC l' n k/\(∀k,n<=k->fA l' k=fA l k)/\k<=1099511627777/\H l' w) (n-i)
  ⟨i,l,rfl,sl,rfl,λ_=>Iff.rfl,S,λ_ _=>rfl,hi,z⟩ ?_
 rintro m e w ⟨k,l',rfl,aa,D,I,S,O,hk,z⟩;rw[aa.fold];have ad:=L.small _ _ z;have ab:=S.le;have U:((2:Int)*k+1)=((2*k+1:Nat):Int):=om;have V:(((2*k+1:Nat):Int)+1)=((2*k+2:Nat):Int):=om;by_cases h1:n<=2*k+1
 ·skip;refine zX ?_;exact⟨l',D,I,S.stop (λq q0 Z hp=>by omega),O,z⟩
 ·have J:∀q,(q=2*k+1\/q=2*k+2)->q<n->∀y,n<=y->fA (uE l' k q) y=fA l y:=λq Z ac y hy=>by rw[o5 om om,a8 om,a8 om];exact O y hy
  by_cases h2:2*k+2<n
  ·by_cases hc:(fA l' (2*k+2)).1<(fA l' (2*k+1)).1
   ·by_cases hd:(fA l' (2*k+2)).1<(fA l' k).1
    ·skip;refine yA ?_;refine dr rfl ?_;refine mr rfl rfl (L.less _ _ (2*k+2) (2*k+1) z om om) ?_;rintro _ w1 ⟨rfl,z⟩;rw[cF hc];refine zg ?_;refine mr rfl rfl (L.less _ _ (2*k+2) k z om om) ?_;rintro _ w2 ⟨rfl,z⟩;rw[cF hd];refine zg ?_;refine mr rfl rfl (L.swap _ _ k (2*k+2) z om om) ?_;rintro _ w3 ⟨rfl,z⟩;refine zg ?_
     exact⟨n-(2*k+2),om,2*k+2,_,rfl,sl,by rw[lK];exact D,λx=>(vl om om x).trans (I x),S.down h2 om om hd (λq q0 Z hp=>by
      rcases (show q=2*k+1\/q=2*k+2 by omega)with rfl|rfl
      ·omega
      ·exact ij _),J _ (.inr rfl) h2,om,z⟩
    ·skip;refine yA ?_;refine dr rfl ?_;refine mr rfl rfl (L.less _ _ (2*k+2) (2*k+1) z om om) ?_;rintro _ w1 ⟨rfl,z⟩;rw[cF hc];refine zg ?_;refine mr rfl rfl (L.less _ _ (2*k+2) k z om om) ?_;rintro _ w2 ⟨rfl,z⟩;rw[cC hd];refine zX ?_
     exact⟨l',D,I,S.stop (λq q0 Z hp=>by
      rcases (show q=2*k+1\/q=2*k+2 by omega)with rfl|rfl<;>omega),O,z⟩
   ·by_cases hd:(fA l' (2*k+1)).1<(fA l' k).1
    ·skip;refine yA ?_;refine dr rfl ?_;refine mr rfl rfl (L.less _ _ (2*k+2) (2*k+1) z om om) ?_;rintro _ w1 ⟨rfl,z⟩;rw[cC hc];refine zg ?_;refine mr rfl rfl (L.less _ _ (2*k+1) k z om om) ?_;rintro _ w2 ⟨rfl,z⟩;rw[cF hd];refine zg ?_;refine mr rfl rfl (L.swap _ _ k (2*k+1) z om om) ?_;rintro _ w3 ⟨rfl,z⟩;refine zg ?_
     exact⟨n-(2*k+1),om,2*k+1,_,rfl,sl,by rw[lK];exact D,λx=>(vl om om x).trans (I x),S.down om om om hd (λq q0 Z hp=>by
      rcases (show q=2*k+1\/q=2*k+2 by omega)with rfl|rfl
      ·exact ij _
      ·omega),J _ (.inl rfl) om,om,z⟩
    ·skip;refine zg ?_;rw[U];refine zg ?_;rw[V];refine zg ?_;refine dr rfl ?_;refine mr rfl rfl (L.less _ _ (2*k+2) (2*k+1) z om om) ?_;rintro _ w1 ⟨rfl,z⟩;rw[cC hc];refine zg ?_;refine mr rfl rfl (L.less _ _ (2*k+1) k z om om) ?_;rintro _ w2 ⟨rfl,z⟩;rw[cC hd];refine zX ?_
     exact⟨l',D,I,S.stop (λq q0 Z hp=>by
      rcases (show q=2*k+1\/q=2*k+2 by omega)with rfl|rfl<;>omega),O,z⟩
  ·by_cases hd:(fA l' (2*k+1)).1<(fA l' k).1
   ·skip;refine zg ?_;rw[U];refine zg ?_;rw[V];refine zg ?_;refine mr rfl rfl (L.less _ _ (2*k+1) k z om om) ?_;rintro _ w2 ⟨rfl,z⟩;rw[cF hd];refine zg ?_;refine mr rfl rfl (L.swap _ _ k (2*k+1) z om om) ?_;rintro _ w3 ⟨rfl,z⟩;refine zg ?_
    exact⟨n-(2*k+1),om,2*k+1,_,rfl,sl,by rw[lK];exact D,λx=>(vl om om x).trans (I x),S.down om om om hd (λq q0 Z hp=>by
     obtain rfl:q=2*k+1:=om;exact ij _),J _ (.inl rfl) om,om,z⟩
   ·skip;refine zg ?_;rw[U];refine zg ?_;rw[V];refine zg ?_;refine mr rfl rfl (L.less _ _ (2*k+1) k z om om) ?_;rintro _ w2 ⟨rfl,z⟩;rw[cC hd];refine zX ?_
    exact⟨l',D,I,S.stop (λq q0 Z hp=>by
     obtain rfl:q=2*k+1:=om;omega),O,z⟩
theorem WK(L:Aw prog t u jt H)(l:List mH)(W:World)(Z:qQ l l.length)(h0:0<l.length)(I:H l W) :
  Fn prog 191 [.iface t u] W (λv w'=>∃(x:mH)(l':List mH),v=.iface jt (.agg #[ii x.1,ii x.2])/\l'.length+1=l.length/\(∀y,y∈l↔y=x\/y∈l')/\(∀y∈l',x.1<=y.1)/\qQ l' l'.length/\H l' w'):=by
 have aa:=L.small _ _ I;refine zI func191 ?_;refine zg ?_;refine mr rfl rfl (L.len _ _ I) ?_;rintro _ w1 ⟨rfl,I⟩;refine zg ?_;rw[(om:((l.length:Nat):Int)-1=((l.length-1:Nat):Int))];refine zg ?_;refine mr rfl rfl (L.swap _ _ 0 (l.length-1) I om om) ?_;rintro _ w2 ⟨rfl,I⟩;refine zK (WJ L _ 0 (l.length-1) _ (xC.pop Z h0) om I) ?_;rintro v3 w3 ⟨l',D,J,U,V,I⟩;refine zg ?_;rw[lK]at D;refine mr rfl rfl (L.pop _ _ I om) ?_;rintro _ w4 ⟨rfl,I⟩;refine zg ?_;have z:fA l' (l'.length-1)=fA l 0:=by rw[D,V _ (cN _),o5 om om,a7 rfl]
 have O:=Z.min;have S:=OH (l:=l') (m:=l'.length-1) om;rw[z]at S;rw[z];refine ir rfl ⟨fA l 0,l'.take (l'.length-1),rfl,by rw[d7];omega,λy=>?_,λy hy=>?_,?_,I⟩
 ·rw[<-S y,J y,vl om om]
 ·have:y∈l:=by rw[<-vl (i:=0) (j:=l.length-1) om om,<-J];exact jj hy
  obtain⟨k,hk,rfl⟩:=ql.1 this;exact O k hk
 ·exact qQ.take (by rw[D];exact U)
end
theorem JS(tys:Array TypeId)(t:TypeId)(a:Addr)(v y:String):(Builtin.ssaWrapNilChk_ tys t #[.pointer (some a),strVal v,strVal y]).run P w=.ok (.pointer (some a)) w:=rfl
theorem Ax{el:TypeId}{a:Addr}(v:(P.info? t).map (λi=>(i.methods.find? (λm=>m.name==name)).map (λm=>(m.path,m.func)))=some (some (#[],some (f,false))))(z:P.underlying t=some (.pointer el))(y:(loadVar el a).run P w=.ok rv w):(method (n+1) t (.pointer (some a)) name).run P w=.ok (f,rv) w:=by
 obtain⟨i,hi,h1⟩:=fl.1 v;obtain⟨m,v,h2⟩:=fl.1 h1;injection h2 with h3 h4;rw[method];simp[typeInfo,hi,v,h3,h4,follow,receiverAt,dS z,Place.get,JS,asAddr,y]
theorem EA{el:TypeId}(v:(P.info? t).map (λi=>(i.methods.find? (λm=>m.name==name)).map (λm=>(m.path,m.func)))=some (some (#[],some (f,true))))(y:P.underlying t=some (.pointer el)) :
  (method (n+1) t u name).run P w=.ok (f,u) w:=by
 obtain⟨i,hi,h1⟩:=fl.1 v;obtain⟨m,v,h2⟩:=fl.1 h1;injection h2 with h3 h4;rw[method];simp[typeInfo,hi,v,h3,h4,follow,receiverAt,dS y,Place.get]
theorem D1{tb:TypeId}{o:Nat}{v:Value}(hu:P.underlying t=some dd)(hd:sM dd=false)(hB:eL w b tb l)(hv:l[o]?=some v):(loadVar t ⟨b,o,none⟩).run P w=.ok v w :=
 ly (o:=default) (cV (P:=P) (d:=none) (ty:=0) (ps := "") (af:=#[]) (e:=λ_=>.pointer (some ⟨b,o,none⟩)) (x:=.tmp 0) hu hd rfl hB hv)
def wT(x:mH):List Value:=[ii x.1,ii x.2]
def nQ(l:List mH):List Value:=l.flatMap wT
theorem GV(l:List mH):(nQ l).length=l.length*2:=lF (f:=wT) (λ_=>rfl) l
theorem D2{l:List mH}(h:i<l.length):((nQ l).drop (i*2)).take 2=wT (fA l i):=lG (f:=wT) (λ_=>rfl) (yG h)
theorem EB{l:List mH}(h:i<l.length):(nQ l)[i*2+0]?=some (ii (fA l i).1):=qe (f:=wT) (λ_=>rfl) (yG h) om
theorem OI(l:List mH)(x:mH):nQ l++wT x=nQ (l++[x]):=by simp[nQ]
theorem EC:∀(l:List mH)(m:Nat),(nQ l).take (m*2)=nQ (l.take m)
 |l,0=>by simp[nQ]
 |[],m+1=>by simp[nQ]
 |a::l,m+1=>by
  have ih:=EC l m
  unfold nQ at *;rw[po,fe,fe,<-ih,cX,jB,show(wT a).length=2 from rfl,fN (by show 2<=_;omega),eA]
theorem BP:∀{l:List mH}{i:Nat}(x:mH),i<l.length->(nQ l).take (i*2)++wT x++(nQ l).drop (i*2+2)=nQ (l.set i x)
 |[],i,x,h=>by simp at h
 |a::l,0,x,_=>rfl
 |a::l,i+1,x,h=>by
  have ih:=BP (l:=l) (i:=i) x (by simpa using h)
  unfold nQ at *
  rw[List.set_cons_succ,fe,fe,<-ih,cX,jB,List.drop_append,show(wT a).length=2 from rfl,fN (by show 2<=_;omega),nv (by show 2<=_;omega),eA,
   show i*2+2+2-2=i*2+2 by omega]
  simp
namespace queue
open Go.RowKit Go.Proofs.YtceahkcepefcaaaGreatDoor
section
variable{L:List HA}
def QH(F:Nat->Prop)(W0:World)(L:List HA)(q:Nat)(l:List mH)(w:World):Prop :=
 l.length<=1099511627777/\∃A c,St F W0 w (.blk q 322 [.slice A l.length c]::.row 320 2 A l.length c (nQ l)::L)
theorem QH.mk{l:List mH}(y:l.length=n)(v:n<=1099511627777)(S:St F W0 w (.blk q 322 [.slice A n c]::.row 320 2 A n c (nQ l)::L)):QH F W0 L q  l w:=by
 subst y;exact⟨v,A,c,S⟩
theorem YB(A:Option Addr)(n c:Nat)(w:World):Fn prog 190 [.slice A n c] w (dp (ii n) w):=by
 have S:=St.start w;refine zI func190 ?_;exact zZ
theorem WL{l:List mH}(hH:QH F W0 L q  l w):Av prog 318 (pt q) "Len" [] w (λv w'=>v=ii l.length∧QH F W0 L q  l w'):=by
 obtain⟨hl,A,c,S⟩:=hH;refine⟨190,_,Ax (by kernel_rfl) Zk (D1 Y7 rfl (S.blk (i:=0) rfl) rfl),?_⟩;refine zI func190 ?_;refine zX ?_;exact⟨rfl,hl,A,c,S⟩
theorem U6{l:List mH}(hH:QH F W0 L q  l w)(hi:i<l.length)(hj:j<l.length) :
  Av prog 318 (pt q) "Less" [ii i,ii j] w (λv w'=>v=.bool (decide ((fA l i).1<(fA l j).1))∧QH F W0 L q  l w'):=by
 obtain⟨hl,A_R,c,S⟩:=hH;have sa_R:dO A_R:=(S.row (i:=1) rfl).someA om;have ci:=EB hi;have cj:=EB hj;refine⟨421,_,Ax (by kernel_rfl) Zk (D1 Y7 rfl (S.blk (i:=0) rfl) rfl),?_⟩;refine zI func421 ?_;refine zD [0,1,2,3,4,5,6,7,8,9,10,11] [] ?_;refine zO (λwq hq=>((S.gr hq).rd (i:=1) rfl)) ci ?_;refine zO (λwq hq=>((S.gr hq).rd (i:=1) rfl)) cj ?_;refine zE ?_;intro w1_ g1_ S;exact ir rfl ⟨rfl,hl,A_R,c,S⟩
theorem U7{l:List mH}(hH:QH F W0 L q  l w)(hi:i<l.length)(hj:j<l.length) :
  Av prog 318 (pt q) "Swap" [ii i,ii j] w (λv w'=>v=.tuple #[]∧QH F W0 L q  (uE l i j) w'):=by
 obtain⟨hl,A_R,c,S⟩:=hH;have sa_R:dO A_R:=(S.row (i:=1) rfl).someA om;have ci:=D2 hi;have cj:=D2 hj;have hlen:=GV l;have e1:((i:Nat):Int).toNat * 2=i*2:=om;have e2:((j:Nat):Int).toNat * 2=j*2:=om;have hp1:=BP (l:=l) (i:=i) (fA l j) hi;have hlen1:=GV (l.set i (fA l j));have hp2:=BP (l:=l.set i (fA l j)) (i:=j) (fA l i) (by simpa using hj);rw[pe]at hlen1;refine⟨424,_,Ax (by kernel_rfl) Zk (D1 Y7 rfl (S.blk (i:=0) rfl) rfl),?_⟩;refine zI func424 ?_;refine zc ?_;refine nI (C:=(xu F W0 (.blk q 322 [.slice A_R l.length c]::.row 320 2 A_R l.length c (nQ l)::L) (.blk q 322 [.slice A_R l.length c]::.row 320 2 A_R l.length c (nQ (l.set i (fA l j)))::L) 7 11 13 (.agg (wT (fA l j)).toArray) (.agg (wT (fA l i)).toArray))) [7,11,13] (.one 0 (.one 1 (.one 2 (.one 3 (.one 4 (.one 5 (.one 6 (.one 8 (.one 9 (.one 10 (.two 7 (.one 11 (.one 12 (.one 13 .nil))) 11 (.one 7 (.one 12 (.one 13 .nil)))))))))))))) [14,15] (by kernel_rfl) (by kernel_rfl) (xu.start (S.gr (Gr.drew _))) ?_;simp only[qK,iS,dK,dR];refine zW ?_;refine nf ?_ ?_
 ·refine dC rfl rfl (λwq hq=>Pd (fb YT rfl (YW _) rfl ((hq.st0 rfl).rd (i:=1) rfl) (by rw[e2];exact cj) rfl rfl) (hq.push rfl rfl ⟨λ_=>rfl,λh=>by cases h⟩)) ?_;rintro v7 w7 h7;obtain rfl:=h7.first;refine zW ?_;refine dC rfl rfl (λwq hq=>Pd (fb YT rfl (YW _) rfl ((hq.st0 rfl).rd (i:=1) rfl) (by rw[e1];exact ci) rfl rfl) (hq.push rfl rfl ⟨λh=>(by cases h),λ_=>rfl⟩)) ?_;rintro v11 w11 h11;obtain rfl:=h11.second;refine zW ?_;refine dC rfl rfl (λwq hq=>Ef (i:=1) (hq.st0 rfl) rfl (YW _) rfl rfl rfl rfl (by rw[e1];omega) (by rw[e1];exact congrArg some (by rw[show i*2+2=i*2+2 from rfl,hp1])) rfl (λw' S'=>hq.made ⟨λh=>(by cases h),λh=>(by cases h)⟩ S')) ?_;rintro v13 w13 _;refine zW ?_;refine jm ?_;rintro wz hz;have S:=hz.st1 rfl;refine zg ?_;refine tF (i:=1) S rfl (YW _) rfl rfl rfl rfl (by rw[e2];omega) rfl rfl ?_;intro wz S;refine ze ?_;refine na ⟨rfl,QH.mk (lK l i j) hl (c:=c) (A:=A_R) ?_⟩;rw[e2]at S;have hp2':=hp2;unfold wT at hp2';unfold uE;rw[<-hp2];exact S
 ·refine dC rfl rfl (λwq hq=>Pd (fb YT rfl (YW _) rfl ((hq.st0 rfl).rd (i:=1) rfl) (by rw[e1];exact ci) rfl rfl) (hq.push rfl rfl ⟨λh=>(by cases h),λ_=>rfl⟩)) ?_;rintro v11 w11 h11;obtain rfl:=h11.second;refine zW ?_;refine dC rfl rfl (λwq hq=>Pd (fb YT rfl (YW _) rfl ((hq.st0 rfl).rd (i:=1) rfl) (by rw[e2];exact cj) rfl rfl) (hq.push rfl rfl ⟨λ_=>rfl,λh=>by cases h⟩)) ?_;rintro v7 w7 h7;obtain rfl:=h7.first;refine zW ?_;refine dC rfl rfl (λwq hq=>Ef (i:=1) (hq.st0 rfl) rfl (YW _) rfl rfl rfl rfl (by rw[e1];omega) (by rw[e1];exact congrArg some (by rw[show i*2+2=i*2+2 from rfl,hp1])) rfl (λw' S'=>hq.made ⟨λh=>(by cases h),λh=>(by cases h)⟩ S')) ?_;rintro v13 w13 _;refine zW ?_;refine jm ?_;rintro wz hz;have S:=hz.st1 rfl;refine zg ?_;refine tF (i:=1) S rfl (YW _) rfl rfl rfl rfl (by rw[e2];omega) rfl rfl ?_;intro wz S;refine ze ?_;refine na ⟨rfl,QH.mk (lK l i j) hl (c:=c) (A:=A_R) ?_⟩;rw[e2]at S;have hp2':=hp2;unfold wT at hp2';unfold uE;rw[<-hp2];exact S
theorem U8{l:List mH}(x:mH)(hH:QH F W0 L q l w)(hl:l.length<=1099511627776) :
  Av prog 318 (pt q) "Push" [.iface 320 (.agg #[ii x.1,ii x.2])] w (λv w'=>v=.tuple #[]∧QH F W0 L q (l++[x]) w'):=by
 obtain⟨_,A_R,c,S⟩:=hH;refine⟨423,_,EA (by kernel_rfl) Zk,?_⟩;refine zI func423 ?_;refine zH (C:=(λσ wq=>CS F W0 (.blk q 322 [.slice A_R l.length c]::.row 320 2 A_R l.length c (nQ l)::L) 1 320 2 l.length (nQ l) (wT x) wq σ)) [6,7] [0,1,2,3,4,5,6,7] [8,9] (S.gr (Gr.drew _)) ?_;refine zV (λτ wq hq=>(hq.ok (j:=0) (by decide) rfl)) ?_;refine zR ?_;refine ot rfl (yU YT rfl rfl rfl) ?_;refine de rfl rfl (λwq hq=>rO hq Y7 YW ZI rfl rfl rfl rfl rfl rfl) ?_;rintro v6 w6 ⟨A6,rfl,_⟩;refine de rfl rfl (λwq hq=>u6 hq rfl (λh=>⟨_,rfl⟩) Y7 aaT rfl rfl rfl rfl rfl rfl om) ?_;rintro v7 w7 ⟨A7,c7,L7,rfl,_,_⟩;refine zY ?_;rintro w8 ⟨A8_,c8_,L_st,e_st,h_st,S⟩;cases e_st
 obtain rfl:=Option.some.inj h_st;refine z ?_;refine iy (i:=0) S rfl (sizeOf322 _) rfl rfl rfl rfl rfl rfl ?_;intro w2_ S;refine ze ?_;rw[OI]at S;exact na ⟨rfl,QH.mk (A:=A7) (c:=c7) (n:=l.length+1) (by simp) om S⟩
theorem WM{l:List mH}(hH:QH F W0 L q  l w)(h0:0<l.length) :
  Av prog 318 (pt q) "Pop" [] w (λv w'=>v=.iface 320 (.agg #[ii (fA l (l.length-1)).1,ii (fA l (l.length-1)).2])∧QH F W0 L q  (l.take (l.length-1)) w'):=by
 obtain⟨hl,A_R,c,S⟩:=hH;have sa_R:dO A_R:=(S.row (i:=1) rfl).someA om;have hcap:=(S.row (i:=1) rfl).cap;have hlast:=D2 (l:=l) (i:=l.length-1) om;have em:((l.length:Nat):Int)-1=((l.length-1:Nat):Int):=om;have hlast':((nQ l).drop (((l.length-1:Nat):Int).toNat * 2)).take 2=wT (fA l (l.length-1)):=by rw[b7];exact hlast
 refine⟨422,_,EA (by kernel_rfl) Zk,?_⟩;refine zI func422 ?_;refine zH (C:=(λσ wq=>Gr w wq/\VJ w wq 320 [ii 0,ii 0] σ)) [10] [0,1,2,3,4,5,6,7,8,9,10] [11] ⟨Gr.drew _,trivial⟩ ?_;refine zV (λτ wq hq=>((S.gr hq.1).blk (i:=0) rfl)) ?_;refine zV (λτ wq hq=>((S.gr hq.1).blk (i:=0) rfl)) ?_;refine zR ?_;rw[em];refine zR ?_;refine qo rfl (λτ wq hq=>fb YT rfl (YW _) rfl ((S.gr hq.1).rd (i:=1) rfl) hlast' rfl rfl) ?_;refine de rfl rfl (λwq hq=>ML ZI rfl hq.1 (λv w' g h=>⟨g,h⟩)) ?_;rintro v10 w10 ⟨_,hsp10⟩;refine zY ?_;rintro wz ⟨gz,hsp⟩;obtain⟨b_P,he1,hB1,hs1⟩:=hsp;cases he1
 have S:=S.push gz (h:=.blk b_P 320 _) hB1 (λg h=>h▸hs1);refine zS ?_;intro wy S;refine zD [0,1,2,3,4,5,6,7,8,9] [10,11] ?_;rw[em];refine eO (jb Y7 YW rfl rfl om om) ?_;refine zE ?_;refine zS ?_;intro w3_ S;refine cq (jn YT rfl rfl) ?_;refine zg ?_;have hR:=(S.row (i:=2) rfl).take (m:=l.length-1) om;rw[EC]at hR;have S:=(S.set (i:=2) (h':=.row 320 2 A_R (l.length-1) c (nQ (l.take (l.length-1)))) rfl rfl (Fr.refl No _) (λ_ h=>h.elim) hR (λg h=>.inl h)).drop 1;refine ir rfl ⟨rfl,QH.mk (A:=A_R) (c:=c) (n:=l.length-1) (by rw[d7];omega) om S⟩
theorem YO:Aw prog 318 (pt q) 320 (QH F W0 L q ) :=
 ⟨λl w h=>WL h,λl w i j h hi v=>U6 h hi v,λl w i j h hi v=>U7 h hi v,λl w x h z=>U8 x h z,λl w h y=>WM h y,λl w h=>h.1⟩
end
end queue
theorem iC.perm{L:List HA}(p:L.Perm L'):iC X w L->iC X w L':=by
 induction p with
 |nil=>exact id
 |cons a p ih=>exact λh=>⟨h.1,λg y h' v=>h.2.1 g y h' (p.mem_iff.2 v),ih h.2.2⟩
 |swap a b l =>
  intro h;refine⟨h.2.2.1,λg y h' v=>?_,h.1,λg y h' v=>h.2.1 g y h' (cW _ v),h.2.2.2.2⟩;rcases dy.1 v with e|v
  ·subst e;exact λI=>h.2.1 g I a eB y
  ·exact h.2.2.2.1 g y h' v
 |trans _ _ z D=>exact λh=>D (z h)
theorem St.perm{L:List HA}(S:St F W w L)(p:L.Perm L'):St F W w L':=⟨S.fr,S.sep.perm p⟩
theorem Sy(a b c d:α)(L:List α):(a::b::c::d::L).Perm (c::d::a::b::L) :=
 (ft (l₁:=[a,b]) (l₂:=[c,d])).append_right L
section
variable{V:List Int}
theorem SA(a:Nat)(aD:1<=gw/\gw<=1024)(aQ:1<=gh/\gh<=1024)(hV:V.length=gw*gh)(ha:a<gw*gh)(hB:vB V)(hA:Rd W A (cY V)) :
  Fn prog 123 [.agg #[ii gw,.slice A V.length c],ii a] W (λv w'=>∃d,lZ gw V a d/\jc id 2 1 V.length (fj V.length d) W v w'):=by
 have hn:gw*gh<=1048576:=by have:=cE aD.2 aQ.2;omega
 refine yI func123 ?_;refine yA ?_;intro I _ S;refine nD dk jR rfl rfl rfl (n:=V.length) (c:=V.length) om om om om S ?_;intro D bp bg S aH;refine zg ?_;rw[yk]at S
 refine dl (λm e w=>∃k:Nat,k+m=V.length/\SL e [(1,ii a),(2,pt I),(5,.slice D V.length V.length),(16,ii V.length),(17,ii k)] /\
  St No W w [.row 2 1 D V.length V.length (fj V.length (λi=>if i<k then -1 else 0)),.blk I 231 [ii gw,.slice A V.length c]]) V.length
  ⟨0,om,sl,by simpa using S⟩ ?_
 rintro m e w ⟨k,hk,ai,S⟩;rw[ai.fold];refine zB ?_ ?_
 ·intro hc;refine zg ?_;refine jk (i:=0) S rfl (cR _) rfl rfl rfl rfl (by rw[pV];omega) rfl ?_;intro bq S;refine zg ?_;rw[rS,nj (o':=λi=>if i<k+1 then -1 else 0) (λi hi=>by unfold jU;dsimp only;(repeat' split)<;>omega)]at S;exact⟨m-1,om,k+1,om,sl,S⟩
 ·intro hc;rw[nj (o':=λ_=>-1) (λi hi=>by rw[a7 om])]at S;refine zg ?_;refine yb S ?_;intro aw br bh S aU;refine yA ?_;intro ab _ S;have hQ:queue.QH No W [.row 2 1 D V.length V.length (fj V.length (λ_=>-1)),.blk I 231 [ii gw,.slice A V.length c]] ab [((0:Int),a)] _:=queue.QH.mk (A:=aw) (c:=1) (n:=1) rfl om S
  refine dl (λm e w=>∃(o:Nat->Int)(l:List mH),5*(V.length-rQ (gw*gh) o)+l.length=m/\m<=5*V.length+1/\SL e [(2,pt I),(5,.slice D V.length V.length),(7,pt ab)] /\
   qQ l l.length/\DJ gw gh V a o l (λ_ _=>False)/\queue.QH No W [.row 2 1 D V.length V.length (fj V.length o),.blk I 231 [ii gw,.slice A V.length c]] ab l w)
   (5*(V.length-rQ (gw*gh) (λ_=>-1))+1) ⟨λ_=>-1,[(0,a)],rfl,om,sl,λk h0 h1=>by simp at h1;omega,DJ.init ha,hQ⟩ ?_
  clear hQ S;rintro m e w ⟨o,l,hm,bl,ai,hN,hD,hQ⟩;rw[ai.fold];obtain⟨aS,av,aA,S⟩:=hQ;refine zC (queue.YB av l.length aA w) ?_;intro bb aV S;refine zB ?_ ?_
  ·intro aN;have aR:0<l.length:=om;refine zg ?_;refine cq (jn Zk rfl rfl) ?_;refine zK (WK queue.YO l _ hN aR ⟨aS,av,aA,S⟩) ?_;rintro _ w9 ⟨x,l',rfl,aZ,am,an,aC,aK⟩;obtain⟨al,aj,ak,S⟩:=aK;have ap:DJ gw gh V a o (x::l') (λ_ _=>False):=hD.perm (λy=>by rw[dy];exact(am y).symm);obtain⟨ao,aF,_⟩:=ap.ent x eB;obtain⟨xc,L⟩:=x;dsimp only at ao aF an am;refine cq (yU YT rfl rfl rfl) ?_;refine yA ?_;intro az _ S;refine dH (eI cw rfl rfl (S.rd (i:=3) rfl) (jg om)) ?_;refine zB ?_ ?_
   ·intro aE;refine zg ?_;exact⟨_,om,o,l',rfl,om,sl,aC,ap.skip aE,al,aj,ak,S.drop 1⟩
   ·intro aE;have hM:=ap.take om (show o L<0 by omega) an;dsimp only at hM;rw[<-hV]at hM;have ah:jU o L xc L=xc:=by unfold jU;rw[a7 rfl]
    have aY:rQ (gw*gh) (jU o L xc)=rQ (gw*gh) o+1:=by rw[AC aF om,a7 ao]
    have aX:=Ty (gw*gh) (jU o L xc);have au:=hM.room;rw[ah]at au;have bm:=Fz gw V.length L;refine zg ?_;refine jk (i:=3) S rfl (cR _) rfl rfl rfl rfl (by rw[pV];omega) rfl ?_;intro bc S;refine zK (FK (W:=_) (A:=A) (c:=c) L V.length ⟨aD.1,om⟩ om om) ?_;rintro _ be ⟨J,O,rfl,ad,ae,aB⟩;have S:=S.pushRow ad ae aB;refine zg ?_;rw[rS]at S;have S:=S.perm (Sy _ _ _ _ _);generalize qg gw V.length L=Z at *
    refine dl (λm' e w=>∃(k:Nat)(l2:List mH),k+m'=Z.length/\l2.length<=l'.length+k /\
     SL e [(2,pt I),(5,.slice D V.length V.length),(7,pt ab),(8,pt az),(52,.slice J Z.length O),(53,ii Z.length),(54,ii k)] /\
     qQ l2 l2.length/\Hl gw gh V a (jU o L xc) l2 L (Z.drop k) /\
     queue.QH No W [.row 3 1 J Z.length O (lR Z),.blk az 320 [ii xc,ii L],.row 2 1 D V.length V.length (fj V.length (jU o L xc)),.blk I 231 [ii gw,.slice A V.length c]] ab l2 w) Z.length
     ⟨0,l',om,om,sl,aC,by rw[dR];exact hM,al,aj,ak,S⟩ ?_
    clear S hM;rintro m' e w ⟨k,l2,bj,bk,ai,aq,U,aL⟩;rw[ai.fold];obtain⟨ag,aa,ac,S⟩:=aL;refine zB ?_ ?_
    ·intro aO;have ar:k<Z.length:=om;obtain⟨y,hy,aP⟩:∃y,Z[k]?=some y/\Z.drop k=y::Z.drop (k+1):=⟨Z[k]'ar,ct ar,dX ar⟩;rw[aP]at U;have aG:dO J:=(S.row (i:=2) rfl).someA om;have bn:=U.todo_ok y eB;have aT:=E2 hB L y;have ba:=sA V L y;refine zx ?_;refine dH (eI dB rfl rfl (S.rd (i:=2) rfl) (BA hy)) ?_;(iterate 3 refine z ?_);refine zx ?_;refine dH (eI cw rfl rfl (S.rd (i:=4) rfl) (jg om)) ?_;refine zB ?_ ?_
     ·intro hu;refine zD [0,1,2,3,4,5,6,7,8,9,10,11,12] [13] ?_;refine eO (jn Zk rfl rfl) ?_;refine zP (λwq hq=>KC (gw:=gw) (c:=c) L y om om hB (hA.gr (S.gr hq).out)) ?_;refine eO (fh rfl (by unfold u7 at*;omega)) ?_;refine zQ ?_;refine eO (jn YT rfl rfl) ?_;refine zE ?_;intro bf aW S;refine zK (U5 queue.YO l2 (xc+st V L y,y) _ aq ⟨ag,aa,ac,S⟩ om) ?_;rintro _ bo ⟨rfl,l3,bi,aI,aJ,aM⟩;refine zg ?_;exact⟨m'-1,om,k+1,l3,om,om,sl,aJ,U.push aT (λx=>by rw[aI,ah]),aM⟩
     ·intro hu;refine zg ?_;exact⟨m'-1,om,k+1,l2,om,om,sl,aq,U.known om,ag,aa,ac,S⟩
    ·intro aO;rw[nw om]at U;refine zg ?_;exact⟨_,om,jU o L xc,l2,rfl,om,sl,aq,U.done,ag,aa,ac,S.sub (.cons_cons _ (.cons_cons _ (.cons _ (.cons _ (.cons_cons _ (.cons_cons _ .slnil))))))⟩
  ·intro aN;obtain rfl:l=[]:=gj om;refine zX ?_;exact⟨o,hD.finish om hV ha,S.retNew (i:=2) (mk:=id) rfl⟩
end
end Go.Proofs.YtceahkcepefcaaaGreatDoor
