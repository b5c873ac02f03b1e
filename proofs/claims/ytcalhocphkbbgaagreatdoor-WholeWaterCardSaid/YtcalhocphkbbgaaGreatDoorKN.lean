/- A part of the proof that hachuretop.WholeCharts and hachuretop.WholeWater returns true at every input; no condition. -/
import Derived.Lib.AppendZeros
import Derived.Test.YtcalhocphkbbgaaGreatDoorKL
import Derived.Lib.SlBytesConst
import Derived.RangeFuncRecord
import Derived.Test.YtcalhocphkbbgaaGreatDoorKM
set_option maxRecDepth 100000
set_option maxHeartbeats 16000000
set_option linter.unusedVariables false
set_option linter.unusedSimpArgs false
namespace Go.Proofs.YtcalhocphkbbgaaGreatDoor
open Go.Proofs.Tryz Go.RowKit
variable{Q:(Nat->Value)->World->Prop}{af:Array Edge}{ops:Array Oper}{rs:Array ResultVar}{tys:Array TypeId}{bd sg:Code}{Qn:Exit->(Nat->Value)->World->Prop}{Q':Exit->Act->World->Prop}{fn:Func}{f:FuncId}{h:HA}{a a' e0:Int}{kh kl kn:IntKind}{es:List (Int × Int)}{σ:List (Nat × Value)}{K:List (Nat × Value)->Act->Prop}{df:List Deferred}{L' L0 L1 M T:List HA}{hd ks:List Nat}{args:List Operand}{l l' l2 vs xs ys:List Value}{N b bytes c c1 c2 cB cur el g gh gw i j k k' k1 k2 lc m n n2 ob p q t2 tb:Nat}{Qm:Nat->Exit->(Nat->Value)->World->Prop}{c':Nat->Int}{o':Nat->Nat}{R':Nat->Nat->Bool}{F:Nat->Prop}{e:Nat->Value}{op:Op}{o1:Oper}{hi lo x:Operand}{A A1 A2 B l0 lp:Option Addr}{d:Option Tmp}{P:Program}{G:Prop}{H:Type}{jt t t' ty:TypeId}{rv u v2 v3:Value}{R:Value->World->Prop}{W w w' wq:World}{C:World->Prop}
section
variable{ps:String}
def VX:BinOp->Bool
 |.and|.or|.xor=>true
 |_=>false
theorem gR{op:BinOp}{y:Operand}{k:IntKind}{b:Int}(v:VX op=true)(z:ev e x=.int k a)(D:ev e y=.int k b):iE P e ⟨d,.binOp op t x y t',ty,ps,af,none⟩ (.int k (bits op k a b)):=by
 intro w;cases op<;>first|(cases v;done)|simp[gd,execOp,z,D,eqGuard,binOp,intBits_and,intBits_or,intBits_xor]
theorem Pu{k:IntKind}(v:k.signed=false)(y:ev e x=.int k a):iE P e ⟨d,.unOp .xor t x,ty,ps,af,none⟩ (.int k (bits .xor k k.max a)):=by
 intro w;simp[gd,execOp,y,Op.unary,v,intBits_xor]
theorem Q9{k:IntKind}(v:k.signed=false)(n:Int):0<=k.wrap n/\k.wrap n<2^k.bits:=by
 have h:k.wrap n=n%(2^k.bits:Int):=by simp[IntKind.wrap,v]
 have y:(0:Int)<2^k.bits:=Int.pow_pos om;rw[h];exact⟨Int.emod_nonneg _ om,Int.emod_lt_of_pos _ y⟩
theorem DB{k:IntKind}(v:k.signed=false)(op:BinOp)(a b:Int):0<=bits op k a b/\bits op k a b<2^k.bits:=Q9 v _
theorem El(a:Int):0<=bits .and .u32 a 15/\bits .and .u32 a 15<16:=by
 have h:(BitVec.ofInt IntKind.u32.bits a&&& BitVec.ofInt IntKind.u32.bits 15).toNat<=15:=by
  rw[rE];exact Nat.and_le_right
 have e:bits .and .u32 a 15=IntKind.u32.wrap (((BitVec.ofInt IntKind.u32.bits a&&& BitVec.ofInt IntKind.u32.bits 15).toNat:Nat):Int):=rfl;rw[e,j3];omega
theorem Ng(y:0<=a)(h1:a<18446744073709551616):bits .xor .u64 a 0=a:=by
 unfold bits
 have h:(BitVec.ofInt IntKind.u64.bits a^^^BitVec.ofInt IntKind.u64.bits 0).toNat=a.toNat:=by
  have v:BitVec.ofInt IntKind.u64.bits 0=0#64:=rfl;rw[v];show(BitVec.ofInt 64 a^^^0#64).toNat=_;rw[BitVec.xor_zero,m8];omega
 show IntKind.u64.wrap (((BitVec.ofInt IntKind.u64.bits a^^^BitVec.ofInt IntKind.u64.bits 0).toNat:Nat):Int)=a;rw[h,gQ];omega
theorem Nh(y:0<=a)(h1:a<18446744073709551616):bits .xor .u64 a 18446744073709551615=18446744073709551615-a:=by
 unfold bits
 have h:(BitVec.ofInt IntKind.u64.bits a^^^BitVec.ofInt IntKind.u64.bits 18446744073709551615).toNat=18446744073709551615-a.toNat:=by
  have v:BitVec.ofInt 64 18446744073709551615=BitVec.allOnes 64:=by decide
  show(BitVec.ofInt 64 a^^^BitVec.ofInt 64 18446744073709551615).toNat=_;rw[v];show(BitVec.ofInt 64 a^^^BitVec.allOnes 64).toNat=_;rw[BitVec.xor_allOnes,BitVec.toNat_not,m8];omega
 show IntKind.u64.wrap (((BitVec.ofInt IntKind.u64.bits a^^^BitVec.ofInt IntKind.u64.bits 18446744073709551615).toNat:Nat):Int)=_;rw[h,gQ];omega
theorem xO{y:Operand}{a:Nat}{kx kd:IntKind}(D:ev e x=.int kx a)(I:ev e y=.int kd k)(J:k<=kx.bits):iE P e ⟨d,.binOp .shr t x y t',ty,ps,af,none⟩ (.int kx ((a/2^k:Nat):Int)):=by
 intro w;have h1:min (k:Int).toNat kx.bits=k:=by rw[b7];omega
 have h2:¬(k:Int)<0:=om
 have v:(a:Int).fdiv (2^k)=((a/2^k:Nat):Int):=by
  rw[jp _ (Int.le_of_lt (Int.pow_pos om))];push_cast;rfl
 have z:(binOp .shr t (.int kx a) (.int kd k)).run P w=.ok (.int kx ((a/2^k:Nat):Int)) w:=by
  simp only[b7]at h1;simp[binOp,Op.shift,h1,h2,v]
 simp[gd,execOp,D,I,eqGuard,z]
theorem H3{y:Operand}{kd:IntKind}(D:ev e x=ii a)(I:ev e y=.int kd 63)(h:-9223372036854775808<=a/\a<9223372036854775808):iE P e ⟨d,.binOp .shr t x y t',ty,ps,af,none⟩ (ii (if 0<=a then 0 else -1)):=by
 intro w
 have v:a.fdiv 9223372036854775808=if 0<=a then 0 else -1:=by
  rw[jp _ om];split<;>omega
 have z:(binOp .shr t (ii a) (.int kd 63)).run P w=.ok (ii (if 0<=a then 0 else -1)) w:=by
  simp[binOp,Op.shift,IntKind.bits,v]
 simp[gd,execOp,D,I,eqGuard,z]
theorem Pv{el:TypeId}(v:P.underlying t=some (.slice el))(y:ev e x=.slice A n c):iE P e ⟨d,.call ⟨.builtin .cap,#[x],#[t]⟩,ty,ps,af,none⟩ (ii c):=by
 intro w;simp[gd,execOp,resolve,invoke,builtin,Builtin.cap_,y,dS v,goInt]
end
def f9(l:List Int):List Value:=l.map λn=>.int .u8 n
theorem m4(l:List Int):(f9 l).length=l.length:=by simp[f9]
theorem F6(l:List Int):((f9 l).all λv=>v.oneCell')=true:=dh.2 λv y=>by
 simp only[f9,fC]at y;obtain⟨i,_,rfl⟩:=y;rfl
theorem KS(l m:List Int):f9 l++f9 m=f9 (l++m):=by simp[f9]
theorem wB(l:List Int)(n:Int):f9 l++[.int .u8 n]=f9 (l++[n]):=by simp[f9]
def Cv(mk:Value->Value)(n:Nat)(W:World):Value->World->Prop:=λv w=>∃l:List Int,l.length=n/\jc mk 5 1 n (f9 l) W v w
section
variable{l:List Int}
theorem nN:(prog.info? 5).map (λi=>(i.zero,i.size,i.bytes))=some (some (.int .u8 0),1,1):=by kernel_rfl
theorem AF(h0:0<l.length)(hm:l.length<=1099511627776)(z:Rd W A (f9 l)):Fn prog 208 [.slice A l.length c] W (jc id 5 1 l.length (f9 l) W):=by
 have O:=m4 l;have v:dO A:=z.someA om;obtain⟨Z,ao,rfl⟩:=v;have h1:=F6 l;have S:=St.start W;refine zI func208 ?_;refine zg ?_;refine dU (xF (B:=false) fR rfl rfl) ?_;refine zg ?_;refine mv fR gJ S ?_;intro D U L S y;refine zg ?_;refine fM (i:=0) S rfl (λh=>rfl) fR nN rfl rfl rfl rfl (by rw[O,cG]) om (z.gr S.out) h1 om ?_;intro I J V S y;refine zg ?_;rw[jL]at S;rw[eH]at S ⊢;exact ir rfl (S.retNew (i:=0) rfl)
theorem Jo:Fn prog 208 [.slice none 0 0] W (dp (.slice none 0 0) W):=by
 have S:=St.start W;refine zI func208 ?_;refine zg ?_;refine dU (xF (B:=true) fR rfl rfl) ?_;exact zZ
theorem F7(h:n<=c):Fn prog 312 [.slice A n c] W (dp (.slice A n n) W):=by
 have S:=St.start W;refine zI func312 ?_;refine zg ?_;refine dU (F5 fR gJ rfl rfl rfl (fK _) h) ?_;exact zZ
end
theorem F8{rest:List Oper}{L:List HA}{ps:String}{s:Operand}{t:Nat}{z:Value}(S:St F W w L)(hu:P.underlying t=some (.slice el))(hI:(P.info? el).map (λi=>(i.zero,i.size,i.bytes))=some (some z,k,bytes))(hz:Nat.beq z.cells.size k=true)(hs:ev e s=.slice A n n)(hx:ev e x=.slice B m c2)(ab:xs.length=n*k)(hR:Rd w A xs)(aa:A=none->n=0)(ac:ys.length=m*k)(Z:0<m)(V:0<k)(U:Rd w B ys)(h1:(ys.all λv=>v.oneCell')=true)(hb:(n+m)*(bytes+1)<=140737488355328)(hr:∀O c' w',Gr w w'->St F W w' (.row el k O (n+m) c' (xs++ys)::L)->dO O->RW P ops Q rest (fI e d (.slice O (n+m) c')) w') :
  RW P ops Q (⟨d,.call ⟨.builtin .append,#[s,x],#[t,t]⟩,ty,ps,af,none⟩::rest) e w:=by
 obtain⟨g,c',w',I,D,y,ad⟩:=Ek (d:=d) (ty:=ty) (ps:=ps) (af:=af) (e:=e) hu hI hz hs hx ab hR aa ac Z V U h1 hb;refine wZ I (hr _ _ w' y (S.pushRow D (λb J=>?_) y) (pS _ _));injection J with J;have J:g=b:=J;omega
section
variable{l:List Int}
theorem AG{u:Nat}:IntKind.u8.wrap (u:Int)=((u%256:Nat):Int):=by rw[gD];omega
theorem H4(u:Nat)(hu:u<18446744073709551616)(hl:l.length<=1099511627776)(hA:(A=none/\c=0/\l=[])\/(0<l.length/\Rd W A (f9 l))) :
  Fn prog 310 [.slice A l.length c,.int .u64 u] W (Cv id (l.length+ur u) W):=by
 have al:=us 9 u om;have S:=St.start W;refine zI func310 ?_;refine z ?_;refine zc ?_;refine gP (M:=λe w=>∃(A:Option Addr)(L:List HA),SL e [(0,.slice A l.length l.length),(1,.int .u64 u)]/\(A=none->l.length=0)/\Rd w A (f9 l)/\St No W w L) ?_ ?_
 ·rcases hA with⟨rfl,rfl,rfl⟩|⟨h0,hR⟩
  ·skip;refine zC (Jo) ?_;intro aA aq S;refine zC (F7 (W:=_) (A:=none) (n:=0) (c:=0) (fK _)) ?_;intro aB ar S;refine zg ?_;exact⟨none,_,sl,λ_=>rfl,.inl rfl,S⟩
  ·skip;refine zK (AF (c:=c) h0 hl (hR.gr S.out)) ?_;rintro _ aC ⟨U,ad,rfl,aa,ab,ae⟩;have S:=S.pushRow aa ab ae;refine zC (F7 (W:=_) (A:=U) (n:=l.length) (c:=ad) (S.row (i:=0) rfl).cap) ?_;intro aD au S;refine zg ?_
   have ah:U=none->l.length=0:=λh=>by
    have:=(S.row (i:=0) rfl).someA om;rw[h]at this;obtain⟨_,_,h⟩:=this;cases h
   exact⟨U,_,sl,ah,S.rd (i:=0) rfl,S⟩
 ·rintro e1 w1 ⟨A1,L1,D,Z,ag,S⟩;rw[D.fold];refine zg ?_
  refine dl (λm e w=>∃x:Nat,m=x/\((x=u/\SL e [(0,.slice A1 l.length l.length),(1,.int .u64 x)]/\Rd w A1 (f9 l)/\St No W w L1) \/
    ∃(l':List Int)(A2:Option Addr)(c2:Nat),l'.length+ur x=l.length+ur u/\SL e [(0,.slice A2 l'.length c2),(1,.int .u64 x)]/\St No W w (.row 5 1 A2 l'.length c2 (f9 l')::L1))) u
   ⟨u,rfl,.inl ⟨rfl,sl,ag,S⟩⟩ ?_
  clear S;rintro m e w ⟨x,rfl,⟨rfl,D,hR,S⟩|⟨l',A2,c2,O,D,S⟩⟩
  ·rw[D.fold];by_cases hx:128<=m
   ·have V:=yj hx;refine zg ?_;refine dU (s9 rfl rfl (B:=true) (by simp;omega)) ?_;refine zg ?_;refine Y9 (n:=m) rfl AG ?_;refine dU (gR (op:=.or) rfl rfl rfl) ?_;refine yb S ?_;intro y aE av S v;refine F8 S fR nN rfl rfl rfl (by rw[m4,cG]) (hR.gr (by assumption)) Z rfl om om (S.rd (i:=0) rfl) rfl om ?_;intro A2 c2 w2 g2 S ai;refine zg ?_;refine dU (xO (kx:=.u64) (a:=m) (k:=7) rfl rfl (by decide)) ?_;refine zg ?_;rw[wB]at S;exact⟨m/128,om,_,rfl,.inr ⟨l++[bits .or .u8 ((m%256:Nat):Int) 128],A2,c2,by rw[cP,iV];omega,⟨se (by simp) rfl,rfl,trivial⟩,by simpa using S.sub (.cons_cons _ (.cons _ (cQ _)))⟩⟩
   ·have V:=vI (u:=m) om;refine zg ?_;refine dU (s9 rfl rfl (B:=false) (by simp;omega)) ?_;refine zg ?_;refine Y9 (n:=m) rfl AG ?_;refine yb S ?_;intro y aF aw S v;refine F8 S fR nN rfl rfl rfl (by rw[m4,cG]) (hR.gr (by assumption)) Z rfl om om (S.rd (i:=0) rfl) rfl om ?_;intro A2 c2 w2 g2 S ai;refine zg ?_;rw[wB]at S;rw[V];exact ir rfl ⟨_,by simp,S.retNew (i:=0) rfl⟩
  ·have az:=Dt m;rw[D.fold];by_cases hx:128<=m
   ·have V:=yj hx;refine zg ?_;refine dU (s9 rfl rfl (B:=true) (by simp;omega)) ?_;refine zg ?_;refine Y9 (n:=m) rfl AG ?_;refine dU (gR (op:=.or) rfl rfl rfl) ?_;refine yb S ?_;intro y am aj S v;refine ZP 1 0 S ?_;intro I J an S ac;refine zg ?_;refine dU (xO (kx:=.u64) (a:=m) (k:=7) rfl rfl (by decide)) ?_;refine zg ?_;rw[wB]at S;exact⟨m/128,om,_,rfl,.inr ⟨l'++[bits .or .u8 ((m%256:Nat):Int) 128],I,J,by rw[cP,iV];omega,⟨se (by simp) rfl,rfl,trivial⟩,by simpa using S.drop 1⟩⟩
   ·have V:=vI (u:=m) om;refine zg ?_;refine dU (s9 rfl rfl (B:=false) (by simp;omega)) ?_;refine zg ?_;refine Y9 (n:=m) rfl AG ?_;refine yb S ?_;intro y ao ak S v;refine ZP 1 0 S ?_;intro I J ap S ac;refine zg ?_;rw[wB]at S;rw[V]at O;rw[<-O];exact ir rfl ⟨_,by simp,S.retNew (i:=1) rfl⟩
end
theorem Cw{ps:String}{y:Operand}{b:Int}{B:Bool}(z:ev e x=.int .u64 a)(D:ev e y=.int .u64 b)(v:(a !=b)=B):iE P e ⟨d,.binOp .neq t x y t',ty,ps,af,none⟩ (.bool B):=by
 intro w;subst v;simp[gd,execOp,z,D,eqGuard,binOp,Op.intCmp]
section
variable{l:List Int}
theorem Ni(x:Int)(h:-4294967296<=x/\x<=4294967296):Fn prog 311 [ii x] W (dp (.int .u64 (sW x)) W):=by
 have S:=St.start W;refine zI func311 ?_;by_cases v:0<=x
 ·have y:((sW x:Nat):Int)=2*x:=by unfold sW;rw[a7 v];omega
  refine zg ?_;refine Y9 (n:=x) (m:=x) rfl (by rw[gQ];omega) ?_;refine dU (vz (c:=2*x) rfl rfl (by decide) (by show IntKind.u64.wrap (x*2)=_;rw[gQ];omega)) ?_;refine zg ?_;refine dU (H3 rfl rfl om) ?_;refine Y9 (n:=if 0<=x then 0 else -1) (m:=0) rfl (by rw[a7 v];decide) ?_;refine dU (gR (op:=.xor) rfl rfl rfl) ?_;rw[Ng om om];refine zX ?_;exact⟨by rw[y],S.out⟩
 ·have y:((sW x:Nat):Int)=-2*x-1:=by unfold sW;rw[a8 v];omega
  refine zg ?_;refine Y9 (n:=x) (m:=18446744073709551616+x) rfl (by rw[gQ];omega) ?_;refine dU (vz (c:=18446744073709551616+2*x) rfl rfl (by decide) (by show IntKind.u64.wrap ((18446744073709551616+x)*2)=_;rw[gQ];omega)) ?_;refine zg ?_;refine dU (H3 rfl rfl om) ?_;refine Y9 (n:=if 0<=x then 0 else -1) (m:=18446744073709551615) rfl (by rw[a8 v];decide) ?_;refine dU (gR (op:=.xor) rfl rfl rfl) ?_;rw[Nh om om];refine zX ?_;exact⟨by rw[y];congr 1;omega,S.out⟩
theorem VY(k u:Nat)(hk:1<=k/\k<8)(hu:u<2^(8*k))(hl:0<l.length/\l.length<=1099511627776)(hA:Rd W A (f9 l)) :
  Fn prog 299 [.slice A l.length c,ii k,.int .u64 u] W (Cv (λs=>.tuple #[s,ii 0]) (l.length+k) W):=by
 have e8:(8:Int)*k=((8*k:Nat):Int):=om;have hz:((u/2^(8*k):Nat):Int)=0:=by rw[ee hu];rfl
 have S:=St.start W;refine zI func299 ?_;(iterate 3 refine z ?_);refine zf ?_;refine z ?_;refine z ?_;refine zf ?_;(iterate 3 refine z ?_);refine zt ?_;iterate 3 refine z ?_
 refine dr rfl ?_;refine dU (fh rfl om) ?_;rw[e8];refine dr rfl ?_;refine dU (xO (kx:=.u64) (a:=u) (k:=8*k) rfl rfl (by show 8*k<=64;omega)) ?_;refine dr rfl ?_;refine dU (Cw (B:=false) rfl rfl (by rw[hz];rfl)) ?_;refine zK (AF (c:=c) hl.1 hl.2 (hA.gr S.out)) ?_;rintro _ ak ⟨v,L,rfl,V,Z,ab⟩;have S:=S.pushRow V Z ab;refine zC (F7 (W:=_) (A:=v) (n:=l.length) (c:=L) (S.row (i:=0) rfl).cap) ?_;intro al ae S;refine zg ?_
 have ac:v=none->l.length=0:=λh=>by
  have:=(S.row (i:=0) rfl).someA hl.1;rw[h]at this;obtain⟨_,_,h⟩:=this;cases h
 have U:=S.rd (i:=0) rfl
 refine dl (λm e w=>∃i:Nat,i+m=k/\((i=0/\SL e [(0,.slice v l.length l.length),(2,.int .u64 u),(29,ii k),(30,ii i)]/\Rd w v (f9 l)/\St No W w [.row 5 1 v l.length L (f9 l)]) \/
   ∃(l':List Int)(A2:Option Addr)(c2:Nat),l'.length=l.length+i/\SL e [(0,.slice A2 l'.length c2),(2,.int .u64 u),(29,ii k),(30,ii i)]/\St No W w [.row 5 1 A2 l'.length c2 (f9 l')])) k
  ⟨0,om,.inl ⟨rfl,sl,U,S⟩⟩ ?_
 clear S U;rintro m e w ⟨i,hi,⟨rfl,I,hR,S⟩|⟨l',A2,c2,aa,I,S⟩⟩
 ·rw[I.fold];have e0:(8:Int)*((0:Nat):Int)=((8*0:Nat):Int):=rfl;refine zg ?_;rw[e0];refine dU (xO (kx:=.u64) (a:=u) (k:=8*0) rfl rfl (by decide)) ?_;refine Y9 rfl AG ?_;refine yb S ?_;intro D am ag S y;refine F8 S fR nN rfl rfl rfl (by rw[m4,cG]) (hR.gr (by assumption)) ac rfl om om (S.rd (i:=0) rfl) rfl om ?_;intro A2 c2 w2 g2 S aj;refine zg ?_;rw[wB]at S;exact⟨k-1,om,1,om,.inr ⟨l++[((u/2^(8*0)%256:Nat):Int)],A2,c2,by simp,⟨se (by simp) rfl,rfl,rfl,rfl,trivial⟩,by simpa using S.sub (.cons_cons _ (.cons _ (.cons _ .slnil)))⟩⟩
 ·rw[I.fold];by_cases ai:i<k
  ·have e0:(8:Int)*(i:Int)=((8*i:Nat):Int):=om;refine zg ?_;rw[e0];refine dU (xO (kx:=.u64) (a:=u) (k:=8*i) rfl rfl (by show 8*i<=64;omega)) ?_;refine Y9 rfl AG ?_;refine yb S ?_;intro D an ah S y;refine ZP 1 0 S ?_;intro J O ao S ad;refine zg ?_;rw[wB]at S;exact⟨m-1,om,i+1,om,.inr ⟨l'++[((u/2^(8*i)%256:Nat):Int)],J,O,by simp;omega,⟨se (by simp) rfl,rfl,rfl,rfl,trivial⟩,by simpa using S.drop 1⟩⟩
  ·obtain rfl:i=k:=om;refine zg ?_;rw[<-aa];exact nd rfl rfl ⟨_,rfl,S.retNew (i:=0) (mk:=λs=>.tuple #[s,ii 0]) rfl⟩
theorem VZ(k u:Nat)(U:1<=k/\k<8)(I:u<2^(8*k))(V:0<l.length/\l.length<=1099511627776)(L:Rd W A (f9 l)) :
  Fn prog 280 [.slice A l.length c,ii k,ii u] W (Cv id (l.length+k) W):=by
 have J:u<2^64:=fg I (fP om om);have O:IntKind.u64.wrap (u:Int)=u:=re _ om;have S:=St.start W;refine zI func280 ?_;refine zg ?_;refine Y9 (n:=u) (m:=u) rfl O ?_;refine zK (VY (c:=c) k u U I V (L.gr S.out)) ?_;rintro _ Z ⟨l2,D,A2,c2,rfl,y,z,v⟩;have S:=S.pushRow y z v;refine zX ?_;exact⟨l2,D,S.retNew (i:=0) rfl⟩
theorem Nj(w:World)(n:Nat)(U:0<n/\n<=1099511627776):∃g z w',(Builtin.append_ #[37,3] 37 #[.slice none 0 0,ii n]).run prog w=.ok (.slice (some ⟨g,0,none⟩) n z) w'/\gH w' 5 1 (some ⟨g,0,none⟩) 0 z []/\Gr w w'/\w.heap.size<=g/\n<=z:=by
 obtain⟨S,v,J,L,O⟩:=nG nN;have y:=Lib.run_append_nil_zeros (P:=prog) w 37 3 37 5 S _ .i64 .i64 fR dB v J n om (by rw[L];decide) om (by rw[O];omega);have I:=grownCap_ge w n 0 5;have D:grownCap w n 0 5<=maxLen:=p9 w n 0 5 (by unfold maxLen;omega);refine⟨_,_,_,y,gH.mk_ (l:=(Builtin.zeroCells (Value.int .u8 0).cells n++Builtin.zeroCells (Value.int .u8 0).cells (grownCap w n 0 5-n)).toList) ?_ (ib _) ?_ ?_ D,(Gr.drew w).trans (Gr.alloc _ _),fK _,I⟩
 ·unfold eL;rw[o6];exact nH w.drew _
 ·rw[pC,qH,nF,nF];show n*1+(grownCap w n 0 5-n)*1=grownCap w n 0 5*1;omega
 ·rw[iD,List.take_zero]
theorem TQ(n:Nat)(V:0<n/\n<=1099511627776):Fn prog 281 [.slice none 0 0,ii n] W (λv w'=>∃A c,v=.slice A 0 c/\gH w' 5 1 A 0 c []/\tr W A/\Gr W w'):=by
 have e0:(n:Int)-(((0:Nat):Int)-((0:Nat):Int))=n:=om;have S:=St.start W;refine zI func281 ?_;refine zg ?_;refine dU (Pv fR rfl) ?_;refine zg ?_;rw[e0];refine zg ?_;refine dU (Pv fR rfl) ?_;refine dU (jb fR gJ rfl rfl om om) ?_;refine zg ?_;obtain⟨I,D,Z,O,J,L,y,U⟩:=Nj _ n V;refine wZ (v:=.slice (some ⟨I,0,none⟩) n D) (w':=Z) (by simp[execOp,resolve,invoke,builtin,ev,xW,qJ,fI];rw[O];rfl) ?_;have S:=S.gr L;refine zg ?_;refine dU (jb fR gJ rfl rfl om om) ?_;refine zg ?_;refine ir rfl ⟨_,_,rfl,J,λb z=>?_,S.out⟩;injection z with z;have z:I=b:=z;have y:W.heap.size<=I:=y;omega
structure BR where
 A:Option Addr
 c:Nat
 l:List Int
variable{ls:List BR}
def BR.v(q:BR):Value:=.slice q.A q.l.length q.c
def yO(ls:List BR):List Value:=ls.map BR.v
theorem Ra(ls:List BR):(yO ls).length=ls.length:=by simp[yO]
theorem H5{q:BR}(h:ls[i]?=some q):(yO ls)[i]?=some (.slice q.A q.l.length q.c):=by
 unfold yO;rw[da,h];rfl
def mj(ls:List BR):List Int:=ls.flatMap BR.l
theorem F9{q:BR}(h:ls[i]?=some q):mj (ls.take (i+1))=mj (ls.take i)++q.l:=by
 unfold mj;rw[kK,h];simp
theorem BH(hB:Rd W B (yO ls))(hq:∀q∈ls,0<q.l.length/\Rd W q.A (f9 q.l))(h0:0<ls.length)(hn:ls.length<=1048576)(hm:(mj ls).length<=1099511627776) :
  Fn prog 231 [.slice B ls.length cB] W (jc id 5 1 (mj ls).length (f9 (mj ls)) W):=by
 have ah:dO B:=hB.someA (by rw[Ra];omega)
 have ab:∀i,(mj (ls.take i)).length<=(mj ls).length:=λi=>by
  have:mj ls=mj (ls.take i)++mj (ls.drop i):=by unfold mj;rw[<-kZ,lV]
  rw[this,cP];omega
 have S:=St.start W;refine zI func231 ?_;refine zg ?_
 refine dl (λm e w=>∃i:Nat,i+m=ls.length/\SL e [(0,.slice B ls.length cB),(3,ii (mj (ls.take i)).length),(9,.slice B ls.length cB),(10,ii ls.length),(11,ii i)]/\St No W w []) ls.length
  ⟨0,om,sl,S⟩ ?_
 clear S;rintro m e w ⟨i,hi,L,S⟩;rw[L.fold];by_cases J:i<ls.length
 ·obtain⟨q,v⟩:∃q,ls[i]?=some q:=⟨_,fw J⟩;have hg:=H5 v;have O:=F9 v;have D:=ab (i+1);rw[O,cP]at D;have I:(yO ls)[(i:Int).toNat * 1]?=some (.slice q.A q.l.length q.c):=by rw[b7,cG];exact hg
  refine zT (hB.gr S.out) I ?_;refine zg ?_;exact⟨m-1,om,i+1,om,⟨rfl,ie (by rw[O,cP];omega),rfl,rfl,rfl,trivial⟩,S⟩
 ·obtain rfl:i=ls.length:=om;rw[i6]
  have hp:0<(mj ls).length:=by
   obtain⟨q,r,rfl⟩:∃q r,ls=q::r:=by
    cases ls with
    |nil=>simp at h0
    |cons q r=>exact⟨q,r,rfl⟩
   have:=(hq q (by simp)).1;unfold mj;rw[fe,cP];omega
  refine zK (TQ (W:=w) (mj ls).length ⟨hp,hm⟩) ?_;rintro _ ak ⟨y,z,rfl,Z,aa,ad⟩;have S:=S.pushRow Z aa ad;refine zg ?_
  refine dl (λm e w=>∃(i:Nat)(y:Option Addr)(z:Nat),i+m=ls.length/\SL e [(6,.slice y (mj (ls.take i)).length z),(25,.slice B ls.length cB),(26,ii ls.length),(27,ii i)]/\St No W w [.row 5 1 y (mj (ls.take i)).length z (f9 (mj (ls.take i)))]) ls.length
   ⟨0,y,z,om,sl,S⟩ ?_
  clear S;rintro m e w ⟨i,y,z,hi,L,S⟩;rw[L.fold];by_cases J:i<ls.length
  ·obtain⟨q,v⟩:∃q,ls[i]?=some q:=⟨_,fw J⟩;have hg:=H5 v;have O:=F9 v;have D:=ab (i+1);rw[O,cP]at D;have I:(yO ls)[(i:Int).toNat * 1]?=some (.slice q.A q.l.length q.c):=by rw[b7,cG];exact hg
   obtain⟨aj,ae⟩:=hq q (dD v);have ag:=F6 q.l;refine zT (hB.gr S.out) I ?_;refine zg ?_;refine fM (i:=0) S rfl (λh=>rfl) fR nN rfl rfl rfl rfl (by rw[m4,cG]) om (ae.gr S.out) ag om ?_;intro U V al S ai;refine zg ?_;rw[KS,<-O]at S;have ac:(mj (ls.take i)).length+q.l.length=(mj (ls.take (i+1))).length:=by rw[O,cP]
   rw[ac]at S;exact⟨m-1,om,i+1,U,V,om,⟨se ac rfl,rfl,rfl,rfl,trivial⟩,S⟩
  ·obtain rfl:i=ls.length:=om;rw[i6];rw[i6]at S;refine zX ?_;exact(S.retNew (i:=0) rfl)
end
variable{ls:List BR}
section
variable{ps:String}
theorem rT{y:Operand}{kx kd:IntKind}(D:ev e x=.int kx a)(I:ev e y=.int kd k)(z:k<=kx.bits)(v:0<=a):iE P e ⟨d,.binOp .shr t x y t',ty,ps,af,none⟩ (.int kx (a/2^k)):=by
 obtain⟨n,rfl⟩:=cJ v;have h:=xO (P:=P) (d:=d) (ty:=ty) (ps:=ps) (af:=af) (t:=t) (t':=t') (kx:=kx) (a:=n) (k:=k) D I z;rwa[show((n/2^k:Nat):Int)=(n:Int)/2^k by push_cast;rfl]at h
end
def jX(w:World):Prop:=∃tb:List Int,tb.length=16/\Rd w (some ⟨1,0,none⟩) (tb.map λn=>Value.int .u32 n)
theorem jX.gr(h:jX w)(g:Gr w w'):jX w':=by
 obtain⟨tb,h1,h2⟩:=h;exact⟨tb,h1,h2.gr g⟩
theorem Gc{tb:List Int}(h:tb.length=16)(y:Rd w (some ⟨1,0,none⟩) (tb.map λn=>Value.int .u32 n))(z:k<16):∃n:Int,w.cell? ⟨1,0+k*1,none⟩=some (.int .u32 n):=by
 have v:k<tb.length:=om;refine⟨tb[k],?_⟩;rw[cG];exact y.cell rfl (by rw[da,fw v];rfl)
section
variable{l:List Int}
theorem Nm(hT:jX W)(hm:l.length<=1073741824)(hA:Rd W A (f9 l)):Fn prog 263 [.int .u32 0,.slice A l.length c] W (λv w'=>∃s:Int,(0<=s/\s<4294967296)/\v=.int .u32 s/\Gr W w'):=by
 have y:∀op a b,0<=bits op .u32 a b/\bits op .u32 a b<4294967296:=λop a b=>DB (k:=.u32) rfl op a b;obtain⟨tb,I,J⟩:=hT;have S:=St.start W;refine zI func263 ?_;refine zg ?_;refine dU (Pu rfl rfl) ?_;refine zg ?_
 refine dl (λm e w=>∃(i:Nat)(s:Int),i+m=l.length/\(0<=s/\s<4294967296)/\SL e [(0,.int .u32 s),(9,.slice A l.length c),(10,ii l.length),(11,ii i)]/\St No W w []) l.length
  ⟨0,_,om,y .xor IntKind.u32.max 0,sl,S⟩ ?_
 clear S;rintro m e w ⟨i,s,hi,hs,ae,S⟩;rw[ae.fold];by_cases V:i<l.length
 ·have ag:dO A:=hA.someA (by rw[m4];omega)
  have hg:(f9 l)[(i:Int).toNat * 1]?=some (.int .u8 l[i]):=by
   rw[b7,cG];unfold f9;rw[da,fw V];rfl
  generalize l[i]=b at hg;have Z:=y .xor s (IntKind.u32.wrap b);generalize ac:bits .xor .u32 s (IntKind.u32.wrap b)=L at Z;have z:=El L;obtain⟨t1,O⟩:=Gc I (J.gr S.out) (k:=(bits .and .u32 L 15).toNat) om;have aa:=y .xor (L/2^4) t1;generalize ad:bits .xor .u32 (L/2^4) t1=s2 at aa;have D:=El s2;obtain⟨t2,U⟩:=Gc I (J.gr S.out) (k:=(bits .and .u32 s2 15).toNat) om;have ab:=y .xor (s2/2^4) t2;refine zT (hA.gr S.out) hg ?_;refine zg ?_;refine Y9 (n:=b) rfl rfl ?_;refine dU (gR (op:=.xor) rfl rfl rfl) ?_;rw[ac];refine zg ?_;refine dU (rT (k:=4) rfl rfl (by decide) om) ?_;refine zg ?_;refine dU (gR (op:=.and) rfl rfl rfl) ?_;refine dU (yV ue sizeOf173 rfl rfl z.1 z.2) ?_;refine dH (xE ml rfl rfl O) ?_;refine dU (gR (op:=.xor) rfl rfl rfl) ?_;rw[ad];refine zg ?_;refine dU (rT (k:=4) rfl rfl (by decide) om) ?_;refine zg ?_;refine dU (gR (op:=.and) rfl rfl rfl) ?_;refine dU (yV ue sizeOf173 rfl rfl D.1 D.2) ?_;refine dH (xE ml rfl rfl U) ?_;refine dU (gR (op:=.xor) rfl rfl rfl) ?_;refine zg ?_;exact⟨m-1,om,i+1,_,om,ab,sl,S⟩
 ·obtain rfl:i=l.length:=om;refine zg ?_;refine dU (Pu rfl rfl) ?_;refine zX ?_;exact⟨_,y _ _ _,rfl,S.out⟩
theorem H8(D:jX W)(I:l.length<=1073741824)(z:Rd W A (f9 l)):Fn prog 207 [.slice A l.length c] W (λv w'=>∃s:Int,(0<=s/\s<4294967296)/\v=.int .u32 s/\Gr W w'):=by
 have S:=St.start W;refine zI func207 ?_;refine zK (Nm (c:=c) (D.gr S.out) I (z.gr S.out)) ?_;rintro _ L ⟨s,J,rfl,y⟩;have S:=S.gr y;refine zX ?_;exact⟨s,J,rfl,S.out⟩
theorem Gd(s:Int)(v:0<=s/\s<4294967296):Fn prog 206 [.int .u32 s] W (Cv id 4 W):=by
 have S:=St.start W;refine zI func206 ?_;refine zg ?_;refine Y9 (n:=s) rfl rfl ?_;refine zg ?_;refine dU (rT (k:=8) rfl rfl (by decide) v.1) ?_;refine Y9 rfl rfl ?_;refine zg ?_;refine dU (rT (k:=16) rfl rfl (by decide) v.1) ?_;refine Y9 rfl rfl ?_;refine zg ?_;refine dU (rT (k:=24) rfl rfl (by decide) v.1) ?_;refine Y9 rfl rfl ?_;refine yb S ?_;intro z I D S y;refine zX ?_;exact⟨[_,_,_,_],rfl,S.retNew (i:=0) rfl⟩
theorem W6{v l2:List Int}(h:l2.length=n2)(y:Rd w B [.slice A1 v.length c1,.slice A2 n2 c2]):Rd w B (yO [⟨A1,c1,v⟩,⟨A2,c2,l2⟩]):=by
 subst h;exact y
theorem Nn(hT:jX W)(h0:0<l.length)(hm:l.length<=1073741824)(hA:Rd W A (f9 l)):Fn prog 230 [.slice A l.length c] W (Cv id (l.length+4) W):=by
 have S:=St.start W;refine zI func230 ?_;refine zK (H8 (c:=c) (hT.gr S.out) hm (hA.gr S.out)) ?_;rintro _ ag ⟨s,hs,rfl,L⟩;have S:=S.gr L;refine zK (Gd s hs) ?_;rintro _ ah ⟨Z,V,v,y,rfl,D,J,O⟩;have S:=S.pushRow D J O;refine yb S ?_;intro ab ai ae S aa;refine zK (BH (ls:=[⟨A,c,l⟩,⟨v,y,Z⟩]) (cB:=2) (W6 V (S.rd (i:=0) rfl)) (λq hq=>by simp only[dy,gM,lr]at hq;rcases hq with rfl|rfl;exact⟨h0,hA.gr S.out⟩;exact⟨by dsimp only;omega,S.rd (i:=1) rfl⟩) (by simp) (by simp) (by simp[mj];omega)) ?_;rintro _ aj ⟨ac,ad,rfl,z,I,U⟩;have S:=S.pushRow z I U;refine zg ?_;have e:(mj [⟨A,c,l⟩,⟨v,y,Z⟩]).length=l.length+4:=by simp[mj];omega
 generalize mj [⟨A,c,l⟩,⟨v,y,Z⟩]=q at *;rw[<-e];exact ir rfl ⟨q,rfl,S.retNew (i:=0) rfl⟩
end
def uA(A:Option Addr)(n r:Nat):Option Addr:=if r=0 then A else A.map λa=>a.add n
theorem Rd.off(h:Rd w A xs){len cap:Nat}(D:xs.length=len*k)(L:m<=len)(J:len<=cap):Rd w (uA A (m*k) (cap-m)) (xs.drop (m*k)):=by
 unfold uA;split
 ·have e:xs.drop (m*k)=[]:=List.drop_eq_nil_iff.2 (by rw[D,(om:len=m)];exact fK _);rw[e];exact .inl rfl
 ·rcases h with rfl|⟨b,o,rfl,z,I⟩
  ·exact .inl (List.drop_nil)
  ·refine .inr ⟨b,o+m*k,?_,z,λj v y=>?_⟩
   ·exact congrArg some (js b o (m*k))
   ·rw[jD]at y;rw[mI];exact I _ v y
theorem Rd.tk(h:Rd w A xs)(n:Nat):Rd w A (xs.take n):=by
 rcases h with rfl|⟨b,o,z,D,I⟩
 ·exact .inl List.take_nil
 ·refine .inr ⟨b,o,z,D,λj v y=>I j v ?_⟩;rw[fJ]at y;split at y
  ·exact y
  ·cases y
section
variable{ps:String}
theorem vN{y:Operand}{k:IntKind}{b:Int}{B:Bool}(z:ev e x=.int k a)(D:ev e y=.int k b)(v:(a==b)=B):iE P e ⟨d,.binOp .eql t x y t',ty,ps,af,none⟩ (.bool B):=by
 intro w;subst v;simp[gd,execOp,z,D,eqGuard,binOp,Op.intCmp]
theorem Jq{el:TypeId}{len cap:Nat}(I:P.underlying t=some (.slice el))(L:∀w,(sizeOf el).run P w=.ok k w)(J:ev e x=.slice A len cap)(D:ev e lo=.int kl m)(h1:m<=len)(O:len<=cap) :
  iE P e ⟨d,.slice t x (some lo) none none,ty,ps,af,none⟩ (.slice (uA A (m*k) (cap-m)) (len-m) (cap-m)):=by
 intro w;have v:(m:Int)<=len:=om;unfold uA;by_cases z:cap-m=0
 ·simp[gd,execOp,J,D,Instr.sliceAt,Instr.slice,dS I,Instr.sliceBounds,j0,v,L,z];intro h;omega
 ·have y:¬cap<=m:=om;simp[gd,execOp,J,D,Instr.sliceAt,Instr.slice,dS I,Instr.sliceBounds,j0,v,L,z,y];intro h;omega
theorem Gb{el:TypeId}{len cap:Nat}(L:P.underlying t=some (.slice el))(S:∀w,(sizeOf el).run P w=.ok k w)(O:ev e x=.slice A len cap)(J:ev e lo=.int kl m)(I:ev e hi=.int kh n)(h1:m<=n)(h2:n<=cap) :
  iE P e ⟨d,.slice t x (some lo) (some hi) none,ty,ps,af,none⟩ (.slice (uA A (m*k) (cap-m)) (n-m) (cap-m)):=by
 intro w;have v:(m:Int)<=n:=om;have y:(n:Int)<=cap:=om;unfold uA;by_cases D:cap-m=0
 ·simp[gd,execOp,O,J,I,Instr.sliceAt,Instr.slice,dS L,Instr.sliceBounds,j0,v,y,S,D];intro h;omega
 ·have z:¬cap<=m:=om;simp[gd,execOp,O,J,I,Instr.sliceAt,Instr.slice,dS L,Instr.sliceBounds,j0,v,y,S,D,z];intro h;omega
end
theorem Rg(l:List Int)(n:Nat):(f9 l).drop (n*1)=f9 (l.drop n):=by unfold f9;rw[cG,List.map_drop]
theorem tK(l:List Int)(n:Nat):(f9 l).take n=f9 (l.take n):=by unfold f9;rw[List.map_take]
theorem Rd.off8{l:List Int}{cap:Nat}(h:Rd w A (f9 l))(y:m<=l.length)(v:l.length<=cap):Rd w (uA A (m*1) (cap-m)) (f9 (l.drop m)):=by
 have:=h.off (k:=1) (len:=l.length) (m:=m) (cap:=cap) (by rw[m4,cG]) y v;rwa[Rg]at this
theorem Cx{l:List Int}(h:i<l.length):(f9 l)[(i:Int).toNat * 1]?=some (.int .u8 l[i]):=by
 rw[b7,cG];unfold f9;rw[da,fw h];rfl
section
variable{l:List Int}
theorem H7(n:Nat)(hn:n<=l.length)(hc:l.length<=c)(hm:l.length<=1099511627776)(hA:Rd W A (f9 l)) :
  Fn prog 266 [.slice A l.length c,ii n] W (λv w'=>∃u nx e:Int,v=.tuple #[.int .u64 u,ii nx,ii e]/\(0<=u/\u<18446744073709551616)/\(e=0->∃k:Nat,nx=k/\n<k/\k<=l.length)/\Gr W w'):=by
 have hb:∀op a b,0<=bits op .u64 a b/\bits op .u64 a b<18446744073709551616:=λop a b=>DB (k:=.u64) rfl op a b
 have hD:=hA.off8 hn hc
 generalize hA2:uA A (n*1) (c-n)=A2 at hD
 have hl2:l.length-n=(l.drop n).length:=by rw[i8]
 generalize hd:l.drop n=d at *
 have S:=St.start W
 refine zI func266 ?_
 refine zg ?_
 refine dU (Jq fR gJ rfl rfl hn hc) ?_
 rw[hA2,hl2]
 refine zg ?_
 refine dl (λm e w=>∃(i:Nat)(u:Int),i+m=d.length/\(0<=u/\u<18446744073709551616)/\SL e [(1,ii n),(7,.int .u64 u),(20,.slice A2 d.length (c-n)),(21,ii d.length),(22,ii i)]/\St No W w []) d.length
  ⟨0,0,om,om,⟨rfl,rfl,rfl,rfl,rfl,trivial⟩,S⟩ ?_
 clear S
 rintro m e w ⟨i,u,hi,hu,hsl,S⟩
 rw[hsl.fold]
 rcases fv (i<d.length)with hlt|hlt
 ·have sa_B:dO A2:=hD.someA (by rw[m4];omega)
  have hget:=Cx hlt
  generalize d[i]=b at hget
  rcases fv (i=9/\1<b)with h9|h9
  ·skip
   refine yX ?_
   exact⟨0,0,13,rfl,om,(λh=>absurd h (by decide)),S.out⟩
  ·rcases fv (b<128)with h128|h128
   ·rcases fv (b=0/\0<i)with h0|h0
    ·have hb0:=h0.1
     rcases fv (i=9)with h|h
     all_goals
      refine zT (hD.gr S.out) hget ?_
      refine zg ?_
      refine dU (gR (op:=.and) rfl rfl rfl) ?_
      refine Y9 (n:=bits .and .u8 b 127) rfl rfl ?_
      refine zg ?_
      refine dU (vz rfl rfl om rfl) ?_
      refine dU (gR (op:=.or) rfl rfl rfl) ?_
      refine z ?_;refine z ?_
      refine dU (uz (B:=true) rfl rfl (fD om)) ?_
      refine z ?_
      first|refine dU (vN (B:=true) rfl rfl (fX.2 om)) ?_|refine dU (vN (B:=false) rfl rfl (et.2 om)) ?_
      refine zX ?_
      exact⟨0,0,13,rfl,om,(λh=>absurd h (by decide)),S.out⟩
    ·have hr:(n:Int)+(i:Int)+1=((n+i+1:Nat):Int):=om
     have hle:n+i+1<=l.length:=om
     rcases fv (i=9)with h|h
     all_goals
      rcases fv (b=0)with hb0|hb0
     all_goals
      refine zT (hD.gr S.out) hget ?_
      iterate 3 refine z ?_
      first|refine dU (ff (b:=false) rfl (iO om)) ?_|refine dU (ff (b:=true) rfl (fD om)) ?_
      refine z ?_;refine z ?_
      first|refine eD rfl ?_|(refine dr rfl ?_;first|refine dU (qA (B:=true) rfl rfl (fD om)) ?_|refine dU (qA (B:=false) rfl rfl (iO om)) ?_)
      iterate 3 refine z ?_
      refine dU (gR (op:=.and) rfl rfl rfl) ?_
      refine Y9 (n:=bits .and .u8 b 127) rfl rfl ?_
      refine zg ?_
      refine dU (vz rfl rfl om rfl) ?_
      refine dU (gR (op:=.or) rfl rfl rfl) ?_
      refine z ?_;refine z ?_
      refine dU (uz (B:=true) rfl rfl (fD om)) ?_
      refine z ?_
      first|refine dU (vN (B:=true) rfl rfl (fX.2 om)) ?_|refine dU (vN (B:=false) rfl rfl (et.2 om)) ?_
      refine z ?_;refine z ?_
      first|refine eD rfl ?_|(refine dr rfl ?_;first|refine dU (ff (b:=false) rfl (iO om)) ?_|refine dU (ff (b:=true) rfl (fD om)) ?_)
      (iterate 4 refine z ?_);(iterate 2 refine zr ?_);iterate 3 refine z ?_
      refine zq ?_
      exact tE rfl rfl rfl ⟨_,_,0,rfl,hb .or _ _,(λ_=>⟨n+i+1,hr,om,hle⟩),S.out⟩
   ·rcases fv (i=9)with h|h
    all_goals
     refine zT (hD.gr S.out) hget ?_
     iterate 3 refine z ?_
     first|refine dU (ff (b:=false) rfl (iO om)) ?_|refine dU (ff (b:=true) rfl (fD om)) ?_
     refine z ?_;refine z ?_
     first|refine eD rfl ?_|(refine dr rfl ?_;first|refine dU (qA (B:=true) rfl rfl (fD om)) ?_|refine dU (qA (B:=false) rfl rfl (iO om)) ?_)
     iterate 3 refine z ?_
     refine dU (gR (op:=.and) rfl rfl rfl) ?_
     refine Y9 (n:=bits .and .u8 b 127) rfl rfl ?_
     refine zg ?_
     refine dU (vz rfl rfl om rfl) ?_
     refine dU (gR (op:=.or) rfl rfl rfl) ?_
     refine z ?_;refine z ?_
     refine dU (uz (B:=false) rfl rfl (iO om)) ?_
     refine zg ?_
     exact⟨m-1,om,i+1,_,om,hb .or _ _,⟨rfl,rfl,rfl,rfl,rfl,trivial⟩,S⟩
 ·skip
  refine zX ?_
  exact⟨0,0,14,rfl,om,(λh=>absurd h (by decide)),S.out⟩
end
theorem wM{z:Value}(v:z.cells=#[z])(n:Nat):Builtin.zeroCells z.cells n=(List.replicate n z).toArray:=by
 apply Array.ext
 ·rw[nF,v];simp
 ·intro i h1 h2;simp[Builtin.zeroCells,v,Nat.mod_one]
section
theorem KT(t tn ty e:TypeId)(i:TypeInfo){z:Value}{k:IntKind}(ht:P.underlying t=some (.slice e))(V:P.underlying tn=some (.int kn))(hi:P.info? e=some i)(hz:i.zero=some z)(hs:i.size=1)(Z:z.cells=#[z])(ho:z.oneCell'=true)(g v y m:Nat)(cur:Array Value)(hg:w.heap[g]?=some (.cells cur e (0,0)))(h0:0<m)(S:m<=1099511627776)(U:i.bytes<=64)(D:v+m<=y)(I:v+m<=cur.size) :
  (Builtin.append_ #[t,tn] ty #[.slice (some ⟨g,0,none⟩) v y,.int k m]).run P w =
   .ok (.slice (some ⟨g,0,none⟩) (v+m) y) (w.setRow g (cur.toList.take v++List.replicate m z++cur.toList.drop (v+m)).toArray):=by
 have L:=run_storeCells_at P g v e (List.replicate m z) 0 cur w hg (by simpa using I) (λu hu=>by rw[mQ hu];exact ho);simp only[eW]at L;have hn:m≠0:=om;have hw:IntKind.i64.wrap (m:Int)=m:=by rw[oY];omega
 have J:¬((m:Int)<0):=om
 have O:¬(281474976710656<(m:Int)*(i.bytes:Int)):=by
  have:=fy S U;rw[<-kv];omega
 have aa:=wM Z m;simp[Builtin.append_,dS ht,dS V,sizeOf,typeInfo,zeroValue,hi,hz,hs,asInt,asIntOf,hw,hn,J,O,D,Addr.add_lit,aa,L]
theorem KU(t tn ty e:TypeId)(i:TypeInfo){z:Value}{k:IntKind}(ht:P.underlying t=some (.slice e))(ab:P.underlying tn=some (.int kn))(hi:P.info? e=some i)(hz:i.zero=some z)(hs:i.size=1)(ac:z.cells=#[z])(b:Addr)(y D m:Nat)(I:List Value)(ah:I.length=y)(J:∀j v,I[j]?=some v->w.cell? (b.add j)=some v)(h0:0<m)(V:m<=1099511627776)(ag:y<=1099511627776)(Z:i.bytes<=64)(hg:D<y+m)(ae:Builtin.nextslicecap (y+m) D*i.bytes<=281474976710656) :
  (Builtin.append_ #[t,tn] ty #[.slice (some b) y D,.int k m]).run P w =
   .ok (.slice (some ⟨w.heap.size,0,none⟩) (y+m) (grownCap w (y+m) D e))
    (w.drew.alloc (.cells (I.toArray++(List.replicate m z).toArray++Builtin.zeroCells z.cells (grownCap w (y+m) D e-(y+m))) e)):=by
 have hn:¬(y+m<=D):=om;have hm:m≠0:=om;have O:¬(9223372036854775807<((y:Int)+(m:Int))):=om;have L:¬(281474976710656<Builtin.nextslicecap (y+m) D*i.bytes):=om;have hw:IntKind.i64.wrap (m:Int)=m:=by rw[oY];omega
 have S:¬((m:Int)<0):=om
 have U:¬(281474976710656<(m:Int)*(i.bytes:Int)):=by
  have:=fy V Z;rw[<-kv];omega
 have aa:=pL (P:=P) w.drew 1 y b y D I om (by simpa using J);have ad:=wM ac m;simp[Builtin.append_,dS ht,dS ab,sizeOf,typeInfo,zeroValue,hi,hz,hs,asInt,asIntOf,hw,hm,S,U,hn,O,L,Question.forced,aa,ad,newRow,grownCap]
theorem Np(t tn ty el:TypeId){z:Value}{k:IntKind}(ht:P.underlying t=some (.slice el))(V:P.underlying tn=some (.int kn))(hI:(P.info? el).map (λi=>(i.zero,i.size,i.bytes))=some (some z,1,bytes))(O:z.cells=#[z])(ho:z.oneCell'=true)(hR:gH w el 1 A n c xs)(h0:0<m)(ad:n+m<=1099511627776)(L:bytes<=64) :
  ∃A' c' w',(Builtin.append_ #[t,tn] ty #[.slice A n c,.int k m]).run P w=.ok (.slice A' (n+m) c') w'/\gH w' el 1 A' (n+m) c' (xs++List.replicate m z)/\Fr (λg=>jv A g) w w'/\(∀g,jv A' g->jv A g\/w.heap.size<=g):=by
 obtain⟨i,hi,hz,hs,hb⟩:=nG hI;subst hb;have D:=hR.len;rw[cG]at D;have S:∀v,v<n+m->Builtin.nextslicecap (n+m) v*i.bytes<=281474976710656:=λv h=>growslice_fits h (dE (fy ad L) (by decide))
 have I:∀v,v<n+m->∀ys:List Value,ys=xs++List.replicate m z->gH (w.drew.alloc (.cells (ys.toArray++Builtin.zeroCells z.cells (grownCap w (n+m) v el-(n+m))) el)) el 1 (some ⟨w.heap.size,0,none⟩) (n+m) (grownCap w (n+m) v el) ys:=by
  intro v ai ys ah;have ag:=grownCap_ge w (n+m) v el;have ae:grownCap w (n+m) v el<=maxLen:=p9 w (n+m) v el (by unfold maxLen;omega);have ac:ys.length=n+m:=by rw[ah,cP,lX,D]
  refine gH.mk_ (l:=(ys.toArray++Builtin.zeroCells z.cells (grownCap w (n+m) v el-(n+m))).toList) ?_ ag ?_ ?_ ae
  ·unfold eL;rw[o6];exact nH w.drew _
  ·rw[pC,qH,nF,O];simp[ac];omega
  ·rw[Array.toList_append,cG,<-ac];exact pX
 have aa:∀o,Fr (λg=>jv A g) w (w.drew.alloc o):=λo=>Fr.of_gr ((Gr.drew w).trans (Gr.alloc _ _));rcases hR.form with⟨rfl,rfl,rfl,rfl⟩|⟨g,l,rfl,hB,hn,hl,ab,hm⟩
 ·have Z:=Lib.run_append_nil_zeros (P:=P) w t tn ty el i z k kn ht V hi hz m h0 (by rw[hs];decide) om (by have:=fy (show m<=1099511627776 by omega) L;omega);rw[wM O m]at Z;refine⟨_,_,_,by rw[eH];exact Z,?_,aa _,λg hg=>.inr ?_⟩
  ·have:=I 0 om (List.replicate m z) rfl;rw[eH]at this ⊢;exact this
  ·injection hg with hg;exact uN hg
 ·rw[cG]at hl ab;by_cases y:n+m<=c
  ·have Z:=KT (P:=P) (w:=w) t tn ty el i (k:=k) ht V hi hz hs O ho g n c m l.toArray hB h0 om L y (by simpa [hl]using y);refine⟨_,_,_,Z,gH.mk_ (l:=l.take n++List.replicate m z++l.drop (n+m)) (setRow_heap w g l.toArray _ el _ hB) y ?_ ?_ hm,⟨rfl,rfl,rfl,by simp,λk _ hk=>setRow_other w g k _ (λe=>hk (by rw[<-e];rfl))⟩,λg' J=>.inl J⟩
   ·simp only[cP,d7,lX,i8];omega
   ·rw[ab,cG,show n+m=(xs++List.replicate m z).length by rw[cP,lX,D]];exact pX
  ·have U:∀j u,xs[j]?=some u->w.cell? ((⟨g,0,none⟩:Addr).add j)=some u:=λj u hj=>by
    rw[js];exact hR.rd.cell rfl hj
   have Z:=KU (P:=P) (w:=w) t tn ty el i (k:=k) ht V hi hz hs O ⟨g,0,none⟩ n c m xs D U h0 om om L om (S c om);refine⟨_,_,_,Z,?_,aa _,λg' J=>.inr ?_⟩
   ·have:=I c om (xs++List.replicate m z) rfl;rw[<-List.append_toArray]at this;exact this
   ·injection J with J;exact uN J
variable{rest:List Oper}{ps:String}{L:List HA}
theorem TW{f:HA->List HA}{t Z:Nat}{z:Value}{k:IntKind}{s:Operand}(S:St F W w L)(hi:gi L i=some (.row el 1 A n c xs))(hf:∀h,j7 L i h=some (f h))(ht:P.underlying t=some (.slice el))(U:P.underlying Z=some (.int kn))(hI:(P.info? el).map (λi=>(i.zero,i.size,i.bytes))=some (some z,1,bytes))(V:z.cells=#[z])(ho:z.oneCell'=true)(hs:ev e s=.slice A n c)(hx:ev e x=.int k m)(h0:0<m)(J:n+m<=1099511627776)(O:bytes<=64)(hr:∀y c' w',St F W w' (f (.row el 1 y (n+m) c' (xs++List.replicate m z)))->RW P ops Q rest (fI e d (.slice y (n+m) c')) w'):RW P ops Q (⟨d,.call ⟨.builtin .append,#[s,x],#[t,Z]⟩,ty,ps,af,none⟩::rest) e w:=by
 obtain⟨y,c',w',I,hR,hF,D⟩:=Np (P:=P) t Z ty el ht U hI V ho (S.row hi) h0 J O (k:=k);refine wZ (v:=.slice y (n+m) c') (w':=w') ?_ (hr y c' w' (S.set hi (hf _) hF (λg hg=>.inl hg) hR D));simp[execOp,resolve,invoke,builtin,hs,hx,I]
end
theorem KV{ps:String}{y:Operand}{k:IntKind}{b:Int}{B:Bool}(z:ev e x=.int k a)(D:ev e y=.int k b)(v:decide (a>=b)=B):iE P e ⟨d,.binOp .geq t x y t',ty,ps,af,none⟩ (.bool B):=by
 intro w;subst v;simp[gd,execOp,z,D,eqGuard,binOp,Op.intCmp]
theorem nO{ps:String}{y:Operand}{k:IntKind}{b c:Int}(z:ev e x=.int k a)(D:ev e y=.int k b)(v:k.wrap (a+b)=c):iE P e ⟨d,.binOp .add t x y t',ty,ps,af,none⟩ (.int k c):=by
 intro w;subst v;simp[gd,execOp,z,D,eqGuard,binOp,Op.intArith]
section
variable{l:List Int}
theorem Jr(u:Int)(y:0<=u):Fn prog 267 [.int .u64 u] W (λv w'=>∃x:Int,v=ii x/\Gr W w'):=by
 have S:=St.start W;refine zI func267 ?_;refine zg ?_;refine dU (rT (k:=1) rfl rfl (by decide) y) ?_;refine Y9 (n:=u/2^1) rfl rfl ?_;refine zg ?_;refine dU (gR (op:=.and) rfl rfl rfl) ?_;refine Y9 (n:=bits .and .u64 u 1) rfl rfl ?_;refine zg ?_;refine dU (gR (op:=.xor) rfl rfl rfl) ?_;refine zX ?_;exact⟨_,rfl,S.out⟩
theorem Nq(D n:Nat)(ae:D<=l.length)(hn:n<=1048576)(hc:l.length<=c)(hm:l.length<=1099511627776)(hA:Rd W A (f9 l)) :
  Fn prog 214 [.slice A l.length c,ii D,ii n] W (λv w'=>(∃e:Int,e≠0/\v=.tuple #[.slice none 0 0,ii 0,ii e]/\Gr W w') \/
   (∃(R:List Int)(B:Option Addr)(cB:Nat)(nx:Int),R.length=n/\v=.tuple #[.slice B n cB,ii nx,ii 0]/\St No W w' [.row 2 1 B n cB (cY R)])):=by
 have S:=St.start W;refine zI func214 ?_;refine zg ?_;have S:=S.pushNil 2 1
 refine dl (λm e w=>∃(k at_:Nat)(R:List Int)(B:Option Addr)(cB:Nat)(bh:Bool),k+m=n/\at_<=l.length/\R.length=k/\SL e [(0,.slice A l.length c),(1,ii at_),(2,ii n),(9,.slice B k cB),(10,.bool bh)]/\St No W w [.row 2 1 B k cB (cY R)]) n
  ⟨0,D,[],none,0,false,om,ae,rfl,sl,S⟩ ?_
 clear S;rintro m e w ⟨k,at_,R,B,cB,bh,hk,U,hR,ai,S⟩;rw[ai.fold];rcases fv (k<n)with ag|ag
 ·skip;refine zK (H7 at_ U hc hm (hA.gr S.out)) ?_;rintro _ ar ⟨u,nx,e1,rfl,hu,ah,ab⟩;have S:=S.gr ab;iterate 7 refine dU (jx rfl) ?_
  first|refine eF ?_|(refine di ?_;show CW _ _ _ _ _ _)|refine di ?_
  rcases fv (e1≠0)with he|he
  ·skip;refine yA ?_;exact tE rfl rfl rfl (.inl ⟨e1,he,rfl,S.out⟩)
  ·obtain⟨k1,rfl,ao,y⟩:=ah (fH.1 he);rcases fv (u≠0)with J|J
   ·skip;repeat refine dm ?_
    refine dz ?_;refine dU (jx rfl) ?_;refine dU (ff (b:=false) rfl (eo.2 om)) ?_;first|refine eF ?_|(refine di ?_;show CW _ _ _ _ _ _)|refine di ?_
    repeat refine dm ?_
    refine eX rfl ?_;repeat refine dm ?_
    refine gO ?_;try show CW _ _ _ _ _ _
    repeat refine dm ?_
    refine dz ?_;iterate 2 refine dU (jx rfl) ?_
    first|refine eF ?_|(refine di ?_;show CW _ _ _ _ _ _)|refine di ?_
    repeat refine dm ?_
    refine dz ?_;refine dU (jx rfl) ?_;refine dU (Cw rfl rfl (f5.2 J)) ?_;refine zK (Jr u hu.1) ?_;rintro _ au ⟨x,rfl,ac⟩;have S:=S.gr ac;refine yb S ?_;intro al av an S ak;refine fM (i:=1) S rfl (λh=>rfl) fZ jR rfl rfl rfl rfl (by simp) om (S.rd (i:=0) rfl) rfl om ?_;intro L O aw S am;refine zg ?_;have S:=S.drop 1;rw[show cY R++[ii x]=cY (R++[x])by simp[cY]]at S;exact⟨m-1,om,k+1,k1,R++[x],L,O,false,om,y,by simp[hR],sl,S⟩
   ·obtain rfl:u=0:=fH.1 J;cases bh
    ·skip;refine yA ?_;refine dU (Cw rfl rfl rfl) ?_;refine zK (H7 k1 y hc hm (hA.gr S.out)) ?_;rintro _ az ⟨u2,aq,e2,rfl,aj,Z,ad⟩;have S:=S.gr ad;iterate 7 refine dU (jx rfl) ?_
     first|refine eF ?_|(refine di ?_;show CW _ _ _ _ _ _)|refine di ?_
     rcases fv (e2≠0)with I|I
     ·skip;refine yA ?_;exact tE rfl rfl rfl (.inl ⟨e2,I,rfl,S.out⟩)
     ·obtain⟨k2,rfl,ap,V⟩:=Z (fH.1 I);obtain⟨q,rfl⟩:=cJ aj.1;have e5:(n:Int)-k=((n-k:Nat):Int):=om;rcases fv (n-k<=q)with hq|hq
      ·skip;repeat refine dm ?_
       refine k0 ?_;repeat refine dm ?_
       refine dz ?_;refine dU (jx rfl) ?_;refine dU (ff (b:=false) rfl (eo.2 om)) ?_;refine dU (jx rfl) ?_;first|refine eF ?_|(refine di ?_;show CW _ _ _ _ _ _)|refine di ?_
       repeat refine dm ?_
       refine eX rfl ?_;repeat refine dm ?_
       refine dz ?_;iterate 3 refine dU (jx rfl) ?_
       refine dU (p6 fZ rfl) ?_;refine dU (fh rfl om) ?_;rw[e5];refine dU (dY (ks:=.i64) (n:=((n-k:Nat):Int)) (m:=((n-k:Nat):Int)) (kd:=.u64) dB kC rfl (re _ om)) ?_;refine dU (KV (B:=true) rfl rfl (fD om)) ?_;refine zX ?_;exact(.inl ⟨13,by decide,rfl,S.out⟩)
      ·have aa:((q:Nat):Int)+1=((q+1:Nat):Int):=om;repeat refine dm ?_
       refine k0 ?_;repeat refine dm ?_
       refine dz ?_;refine dU (jx rfl) ?_;refine dU (ff (b:=false) rfl (eo.2 om)) ?_;refine dU (jx rfl) ?_;first|refine eF ?_|(refine di ?_;show CW _ _ _ _ _ _)|refine di ?_
       repeat refine dm ?_
       refine eX rfl ?_;repeat refine dm ?_
       refine dz ?_;iterate 3 refine dU (jx rfl) ?_
       refine dU (p6 fZ rfl) ?_;refine dU (fh rfl om) ?_;rw[e5];refine dU (dY (ks:=.i64) (n:=((n-k:Nat):Int)) (m:=((n-k:Nat):Int)) (kd:=.u64) dB kC rfl (re _ om)) ?_;refine dU (KV (B:=false) rfl rfl (iO om)) ?_;refine zg ?_;refine dU (nO rfl rfl ((re _ om).trans aa)) ?_;refine TW (i:=0) S rfl (λh=>rfl) fZ kC jR rfl rfl rfl rfl om om (by decide) ?_;intro A9 c9 w9 S;refine zg ?_;rw[show cY R++List.replicate (q+1) (ii 0)=cY (R++List.replicate (q+1) 0)by simp[cY]]at S;exact⟨n-(k+(q+1)),om,k+(q+1),k2,R++List.replicate (q+1) 0,A9,c9,true,om,V,by simp[hR],sl,S⟩
    ·skip;refine z ?_;refine zf ?_;iterate 3 refine z ?_
     refine dU (Cw rfl rfl rfl) ?_;refine zX ?_;exact(.inl ⟨13,by decide,rfl,S.out⟩)
 ·obtain rfl:k=n:=om;refine zX ?_;exact(.inr ⟨R,B,cB,_,hR,rfl,S⟩)
end
theorem xQ{rest:List Oper}{L:List HA}{J d2:Option Tmp}{Z aa:TypeId}{U V:String}{D I:Array Edge}{el:TypeId}{y:List (Nat×Operand)}{z:Value}{l0:List Value}(S:St F W w L)(hu:P.underlying t=some (.slice el))(he:P.underlying el=some (.int .u8))(hs:∀w,(sizeOf el).run P w=.ok k w)(hz:∀w,(zeroValue el).run P w=.ok z w)(hk:z.cells.toList.length=k)(O:Nat.beq (n*k) 0=false)(hn:Nat.ble (n*k) 16777216=true)(h1:yS (λi=>some (i*k,k)) ((List.replicate n z.cells.toList).flatten) (yQ e y)=some l0)(h2:lj l0=some l)(hx:∀A,ev (fI e J (.slice A n n)) x=.slice A n n)(hr:∀A w',Gr w w'->Rd w' A l->St F W w' L->RW P ops Q rest (fI (fI e J (.slice A n n)) d2 (.slice A n n)) w') :
  RW P ops Q (⟨J,.buildSlice t n y.toArray,Z,U,D,none⟩::⟨d2,.convert t t x,aa,V,I,none⟩::rest) e w:=by
 refine wZ (mu hu hs hz hk O hn h1 h2) (wZ (v:=.slice (some ⟨w.heap.size,0,none⟩) n n) (w':=w.alloc (.cells l.toArray el (l.toArray.size,l.toArray.size+1))) ?_ (hr _ _ (Gr.alloc _ _) (.inr ⟨w.heap.size,0,rfl,by show w.heap.size<(w.heap.push _).size;simp,λj v hj=>?_⟩) (S.gr (Gr.alloc _ _))))
 ·have hc:=Lib.run_convert_bytes_const w t el l.toArray n n hu he;simp only[execOp,hx,Dj,hc,Result.andThen_ok,Sem.run_pure]
 ·have hb:(w.alloc (.cells l.toArray el (l.toArray.size,l.toArray.size+1))).heap[w.heap.size]?=some (.cells l.toArray el (l.toArray.size,l.toArray.size+1)):=nH w _;unfold World.cell?;simp only[hb];simp[hj]
def uB(F:Nat->Prop)(W:World)(L:List HA)(T:List Value->List HA->Prop)(σ:List Value)(w:World):Prop:=∃Q,T σ Q/\St F W w (Q++L)
section
variable{L:List HA}{T:List Value->List HA->Prop}{σ:List Value}
theorem uB.start(h:T [] [])(S:St F W w L):uB F W L T [] w:=⟨[],h,S⟩
theorem uB.st(h:uB F W L T σ w):St F W w L:=by
 obtain⟨Q,_,S⟩:=h;have:=S.drop Q.length;rwa[jE]at this
theorem vh{ps:String}(h:uB F W L T σ w)(D:lj (args.map (ev e))=some vs)(z:∀Q,T σ Q->St F W w (Q++L)->Fn P f vs w (λv w'=>∃Q',T (v::σ) Q'/\St F W w' (Q'++L))):gI P e ⟨d,.call ⟨.value (.func f),args.toArray,tys⟩,ty,ps,af,none⟩ w (λv w'=>uB F W L T (v::σ) w'):=by
 obtain⟨Q,y,S⟩:=h;exact l4 D (z Q y S)
end
section
variable{ls:List Nat}
theorem Gg(n:Nat)(h:n<=1024):Fn prog 265 [ii n] W (dp (ii (cU n)) W):=by
 have v:((n:Int)+16-1)/16=((cU n:Nat):Int):=by unfold cU;omega
 have S:=St.start W;refine zI func265 ?_;refine zg ?_;rw[v];exact zZ
theorem DD(O:1<=gw/\gw<=1024)(L:1<=gh/\gh<=1024):Fn prog 211 [ii gw,ii gh] W (dp (.tuple #[ii (cU gw*cU gh:Nat),ii 0]) W):=by
 have I:dF 0 0 0 0 gw gh=0:=gW om om om om;have h1:=jS O.2;have h2:=jS L.2;have hm:cU gw*cU gh<=64*64:=fy h1 h2;have J:((cU gw:Nat):Int)*(cU gh:Nat)=((cU gw*cU gh:Nat):Int):=by push_cast;rfl
 have S:=St.start W;refine zI func211 ?_;refine z ?_;refine z ?_;refine zs ?_;refine dU (kL (pl:=[(0,1),(1,1),(2,1),(3,1)]) dL gE (λw=>by kernel_rfl) rfl rfl) ?_;refine z ?_;refine z ?_;refine eY rfl (jW _ _ _ _ _ _ om om W) ?_;rintro _ U ⟨rfl,v⟩;have S:=S.gr v;rw[I];refine zg ?_;refine ju rfl rfl (Gg gw O.2) ?_;rintro _ V ⟨rfl,y⟩;have S:=S.gr y;refine zg ?_;refine ju rfl rfl (Gg gh L.2) ?_;rintro _ Z ⟨rfl,D⟩;have S:=S.gr D;refine dU (fh rfl (by rw[J];omega)) ?_;rw[J];exact zZ
theorem KX(z:1<=gw/\gw<=1024)(y:1<=gh/\gh<=1024):Fn prog 212 [ii gw,ii gh] W (dp (.tuple #[ii (13+cU gw*cU gh*8:Nat),ii 0]) W):=by
 have h1:=jS z.2;have h2:=jS y.2;have J:cU gw*cU gh<=64*64:=fy h1 h2;have v:=λW=>DD (W:=W) z y;generalize cU gw*cU gh=q at *;have S:=St.start W;refine zI func212 ?_;refine zC (v W) ?_;intro I D S;exact zZ
theorem KY(D:Nat)(h0:D<=65536)(ab:∀x∈ls,1<=x/\x<=4096)(hn:ls.length<=4096)(hB:Rd W B (cY (ls.map λx:Nat=>(x:Int)))) :
  Fn prog 279 [ii D,.slice B ls.length cB] W (λv w'=>∃es:List (Int×Int),es.length=ls.length/\(∀e∈es,(0<=e.1/\e.1<4294967296)/\0<=e.2/\e.2<4294967296)/\jc (λs=>.tuple #[s,.bool true]) 107 2 ls.length (eT es) W v w'):=by
 have U:∀j(hj:j<ls.length),(cY (ls.map λx:Nat=>(x:Int)))[(j:Int).toNat * 1]?=some (ii (ls[j]:Nat)):=λj hj=>by
  rw[cG,b7];exact gc (by rw[da,fw hj];rfl)
 have S:=St.start W;refine zI func279 ?_;refine zg ?_;have S:=S.pushNil 107 2
 refine dl (λm e w'=>∃(i q:Nat)(es:List (Int×Int))(z:Option Addr)(I:Nat),i+m=ls.length/\q<=65536+i*4096/\es.length=i/\(∀e∈es,(0<=e.1/\e.1<4294967296)/\0<=e.2/\e.2<4294967296) /\
   SL e [(0,ii q),(6,.slice z i I),(9,.slice B ls.length cB),(10,ii ls.length),(11,ii i)]/\St No W w' [.row 107 2 z i I (eT es)]) ls.length
  ⟨0,D,[],none,0,om,om,rfl,(λ_ h=>by cases h),sl,S⟩ ?_
 clear S;rintro m e w2 ⟨i,q,es,z,I,hi,hq,O,y,ac,S⟩;rw[ac.fold];by_cases V:i<ls.length
 ·have ad:dO B:=hB.someA (by rw[gn,eP];omega);have hx:=ab _ (fY V);have g1:=U i V;generalize ls[i]=x at *;refine zT (hB.gr S.out) g1 ?_;refine zg ?_;refine yb S ?_;intro aa ah ag S Z;refine ZP 1 0 S ?_;intro J L ai S ae;refine zg ?_;have S:=S.drop 1;rw[wr]at S
  exact⟨m-1,om,i+1,q+x,es++[((q:Int),(x:Int))],J,L,om,om,by simp[O],λe he=>by
   rcases ez.1 he with h|h
   ·exact y e h
   ·rw[dM.1 h];dsimp only;omega,sl,S⟩
 ·obtain rfl:i=ls.length:=om;refine zX ?_;exact⟨es,O,y,S.retNew (i:=0) (mk:=λs=>.tuple #[s,.bool true]) rfl⟩
def Yj(n:Nat)(W:World)(v:Value)(w:World):Prop:=∃(l:List Int)(A:Option Addr)(c:Nat),l.length=n/\v=.slice A l.length c/\gH w 5 1 A l.length c (f9 l)/\tr W A/\Gr W w
theorem CC{l:List Int}(k u:Nat)(y:Rd w A (f9 l))(z:1<=k/\k<8)(I:u<2^(8*k))(D:0<l.length/\l.length<=1099511627776):Fn prog 280 [.slice A l.length c,ii k,ii u] w (Yj (l.length+k) w) :=
 (VZ k u z I D y).mono λv w'⟨l2,hl2,A2,c2,hv,h2,h3,g⟩=>⟨l2,A2,c2,hl2,by rw[hv,<-hl2];rfl,hl2▸h2,h3,g⟩
theorem Wc(hw:1<=gw/\gw<=1024)(hh:1<=gh/\gh<=1024)(aB:∀x∈ls,1<=x/\x<=4096)(hn:ls.length=cU gw*cU gh)(hB:Rd W B (cY (ls.map λx:Nat=>(x:Int)))) :
  Fn prog 229 [ii gw,ii gh,.slice B ls.length cB] W (Cv (λs=>.tuple #[s,ii 0]) (13+8*ls.length) W):=by
 have h1:=jS hw.2;have h2:=jS hh.2;have hm:cU gw*cU gh<=64*64:=fy h1 h2;have ag:=λW=>DD (W:=W) hw hh;have ae:=λW=>KX (W:=W) hw hh;rw[<-hn]at ag ae hm;have ar:=λW hB=>KY (W:=W) (B:=B) (cB:=cB) (ls:=ls) (13+ls.length*8) om aB om hB;have ew:(gw:Int)-1=((gw-1:Nat):Int):=om;have eh:(gh:Int)-1=((gh-1:Nat):Int):=om;have S:=St.start W;refine zI func229 ?_;refine zC (ag W) ?_;intro aL aE S;refine zC (ae _) ?_;intro aM aF S;refine zK (ar _ (hB.gr S.out)) ?_;rintro _ aN ⟨es,aH,aa,z,D,rfl,V,Z,ai⟩;have S:=S.pushRow V Z ai;refine zg ?_;refine xQ S fR dv gJ nE rfl rfl rfl rfl rfl (λ_=>rfl) ?_;intro A5 w5 g5 an S;skip;refine zg ?_;rw[ew];refine zK (CC (l:=[72,65,67,72,1]) (c:=5) 2 (gw-1) an (by decide) om (by decide)) ?_;rintro _ aO ⟨l6,A6,c6,O,rfl,ao,au,aj⟩;have S:=S.pushRow ao au aj;refine zg ?_;rw[eh];refine zK (CC (l:=l6) 2 (gh-1) (S.rd (i:=0) rfl) (by decide) om (by rw[O];decide)) ?_;rintro _ aP ⟨l7,A7,c7,ac,rfl,ap,av,ak⟩;have S:=S.pushRow ap av ak;refine zK (CC (l:=l7) 4 ls.length (S.rd (i:=0) rfl) (by decide) om (by rw[ac,O];decide)) ?_;rintro _ aQ ⟨l8,A8,c8,az,rfl,aq,aw,al⟩;have S:=S.pushRow aq aw al;refine zg ?_;have am:l8.length=13:=by rw[az,ac,O];rfl
 have S:=S.sub (.cons_cons _ (.cons _ (.cons _ (.cons_cons _ (.slnil)))))
 refine dl (λm e w'=>∃(k:Nat)(lb:List Int)(I:Option Addr)(J:Nat),k+m=ls.length/\lb.length=13+8*k/\SL e [(14,.slice I lb.length J),(54,.slice z ls.length D),(55,ii ls.length),(56,ii k)] /\
   St No W w' [.row 5 1 I lb.length J (f9 lb),.row 107 2 z ls.length D (eT es)]) ls.length
  ⟨0,l8,A8,c8,om,am,sl,S⟩ ?_
 clear S
 have ad:∀{wq:World}{l:List Int}{A:Option Addr}{c:Nat}{L:List HA}(u:Nat),Rd wq A (f9 l)->(u:Int)<4294967296->0<l.length/\l.length<=1099511627776->St No W wq L ->
   Fn prog 280 [.slice A l.length c,ii (4:Nat),ii u] wq (λv w'=>∃(l':List Int)(A':Option Addr)(c':Nat),l'.length=l.length+4/\v=.slice A' l'.length c'/\St No W w' (.row 5 1 A' l'.length c' (f9 l')::L)):=λu hR hu hl S =>
  (CC 4 u hR (by decide) om hl).mono λv w'⟨l2,A2,c2,hl2,hv,h2,h3,g⟩=>⟨l2,A2,c2,hl2,hv,S.pushRow h2 h3 g⟩
 rintro m e w2 ⟨k,lb,I,J,hk,aA,aC,S⟩;rw[aC.fold];by_cases aK:k<ls.length
 ·have aD:dO z:=(S.row (i:=1) rfl).someA om;have ab:k<es.length:=om;obtain⟨hx,hy⟩:=aa _ (fY ab);have g1:=mS (fw ab);obtain⟨x,ex⟩:=cJ hx.1;obtain⟨y,ey⟩:=cJ hy.1;rw[ex,ey]at g1;rw[ex]at hx;rw[ey]at hy;have ah:((eT es).drop ((k:Int).toNat * 2)).take 2=[ii x,ii y]:=by rw[b7];exact g1
  refine zg ?_;refine ZU (S.rd (i:=1) rfl) ah ?_;refine zN ?_;intro U aR aG S;refine zS ?_;intro aS S;refine zH (C:=(uB No W [.blk U 107 [ii x,ii y],.row 5 1 I lb.length J (f9 lb),.row 107 2 z ls.length D (eT es)] (λσ Q=>match σ with|[]=>Q=[]|[v]=>∃(l:List Int)(A:Option Addr)(c:Nat),l.length=lb.length+4/\v=.slice A l.length c/\Q=[.row 5 1 A l.length c (f9 l)]|v::_=>∃(l:List Int)(A:Option Addr)(c:Nat),l.length=lb.length+8/\v=.slice A l.length c/\Q=[.row 5 1 A l.length c (f9 l)]))) [3,6] [0,1,2,4,5,3,6] [7] (uB.start rfl (S.gr (Gr.drew _))) ?_;refine zV (λτ wq hq=>((uB.st hq).blk (i:=0) rfl)) ?_;refine zV (λτ wq hq=>((uB.st hq).blk (i:=0) rfl)) ?_;refine de rfl rfl (λwq hq=>vh hq rfl (λQ hQ S=>?_)) ?_
  ·cases hQ;exact(ad x (S.rd (i:=1) rfl) hx.2 om S).mono λv w'⟨l',A',c',h1,h2,S'⟩=>⟨_,⟨l',A',c',h1,h2,rfl⟩,S'⟩
  rintro v3 w3 ⟨_,⟨l3,A3,c3,aI,rfl,_⟩,_⟩;refine de rfl rfl (λwq hq=>vh hq rfl (λQ hQ S=>?_)) ?_
  ·obtain⟨l,A,c,hl,hv,rfl⟩:=hQ;injection hv with h1 h2 h3;subst h1 h3;rw[h2];exact(ad y (S.rd (i:=0) rfl) hy.2 om S).mono λv w'⟨l',A',c',h1,h2,S'⟩=>⟨_,⟨l',A',c',om,h2,rfl⟩,S'.sub (.cons_cons _ (.cons _ (cQ _)))⟩
  rintro v6 w6 ⟨_,⟨l6,A6,c6,O,rfl,_⟩,_⟩;refine zY ?_;rintro wz hz;obtain⟨_,⟨l9,A9,c9,aJ,e9,rfl⟩,S⟩:=hz;injection e9 with q1 q2 q3;subst q1 q3;refine zg ?_;exact⟨m-1,om,k+1,l9,A6,c6,om,om,⟨se q2 rfl,rfl,rfl,rfl,trivial⟩,by simpa using S.sub (.cons_cons _ (.cons _ (.cons _ (.cons_cons _ .slnil))))⟩
 ·obtain rfl:k=ls.length:=om;refine zg ?_;rw[<-aA];exact nd rfl rfl ⟨lb,rfl,S.retNew (i:=0) (mk:=λs=>.tuple #[s,ii 0]) rfl⟩
end
def HA.obj(b:Nat)(o:Obj):HA:=⟨λg=>g=b,λw=>w.heap[b]?=some o,λ_ _ h _ ho=>(h b rfl).trans ho,λw ho g hg=>by subst hg;exact(jq.1 ho).1⟩
section
variable{L:List HA}{o o':Obj}
theorem Fr.putObj(w:World)(b:Nat)(o:Obj):Fr (λg=>g=b) w (w.putObj b o):=⟨rfl,rfl,rfl,by simp,λg _ v=>World.putObj_heap_other v⟩
theorem St.putObj(S:St F W w L)(hi:gi L i=some (.obj b o))(y:j7 L i (.obj b o')=some L'):St F W (w.putObj b o') L' :=
 S.set hi y (Fr.putObj w b o') (λg v=>.inl v) (World.putObj_heap_same (jq.1 (S.ok hi)).1) (λg v=>.inl v)
theorem St.pushObj(S:St F W w L)(o:Obj):St F W (w.alloc o) (.obj w.heap.size o::L) :=
 S.push (Gr.alloc w o) (h:=.obj w.heap.size o) (World.alloc_heap_new w o) (λg v=>by have:g=w.heap.size:=v;omega)
end
def NO(P:Program)(l:Nat)(vs:List Value)(w:World)(R:Value->World->Prop):Prop :=
 ∃fn tmps sg bd,(Instr.yield l vs.toArray).run P w=.ok (.round l fn tmps sg bd) w/\RoundIn Fence.wide 0 P l fn tmps sg bd w λen w'=>∃v,en=.returned v/\R v w'
theorem NO.mono{l:Nat}{R':Value->World->Prop}(h:NO P l vs w R)(D:∀v w',R v w'->R' v w'):NO P l vs w R':=by
 obtain⟨fn,y,sg,bd,I,z⟩:=h;exact⟨fn,y,sg,bd,I,z.mono λJ w'⟨v,e,h⟩=>⟨v,e,D v w' h⟩⟩
section
variable{rest:List Oper}{ps:String}
theorem Ig{l:Nat}{f:Operand}(L:ev e f=.func (.yield l) #[] #[])(D:lj (args.map (ev e))=some vs)(S:NO P l vs w R)(h:∀v w',R v w'->RW P ops Q rest (fI e d v) w'):RW P ops Q (⟨d,.call ⟨.value f,args.toArray,tys⟩,ty,ps,af,none⟩::rest) e w:=by
 have I:=mK D;obtain⟨fn,z,sg,bd,y,J⟩:=S
 have O:(execOp (ev e) ⟨d,.call ⟨.value f,args.toArray,tys⟩,ty,ps,af,none⟩).run P w=.ok (.round l fn z sg bd) w:=by
  simp[execOp,resolve,L,Deferred.ofValue,invoke,I,y]
 rw[BW rfl];unfold tq;rw[O];exact⟨rfl,J.mono λU w'⟨v,he,D⟩=>⟨v,he,h v w' D⟩⟩
end
def Ih(D:Nat):Deferred:={ target:=.collected D,args:=#[] }
def AU(P:Program)(N:Nat)(c:Code)(Qn:Exit->(Nat->Value)->World->Prop)(Qm:Nat->Exit->(Nat->Value)->World->Prop)(e:Nat->Value)(w:World):Prop :=
 kS N c=true->∀a,oo N [] e a->c.wpIn (wF none) 0 P (λx a' w'=>(∃e',oo N [] e' a'/\Qn x e' w')\/∃e' D,oo N [Ih D] e' a'/\Qm D x e' w') a w
def YK(Q:Exit->(Nat->Value)->World->Prop):Exit->(Nat->Value)->World->Prop
 |.normal,_,_=>False
 |x,e,w=>Q x e w
def RF(P:Program)(N:Nat)(g:Operand)(ps:Array Tmp)(sg bd:Code)(K:Nat->(Nat->Value)->World->Prop)(e:Nat->Value)(w:World):Prop :=
 ∀a,oo N [] e a->(Code.rangeFunc g ps sg bd).wpIn (wF none) 0 P (λx a' w'=>x=.normal/\∃D,oo N [Ih D] e a'/\K D e w') a w
theorem vk{x y:Code}(h:CW P N x (wY (AU P N y Qn Qm) Qn) e w):AU P N (.seq x y) Qn Qm e w:=λz a J=>by
 simp only[kS,cM]at z;refine we (ll (h z.1 [] a J none) ?_);rintro L a' w' ⟨I,v,D⟩;cases L<;>first|exact D z.2 a' v|exact .inl ⟨I,v,D⟩
theorem Gm{x y:Code}(h:AU P N x (YK Qn) (λD=>wY (CW P N y (Qm D)) (Qm D)) e w):AU P N (.seq x y) Qn Qm e w:=λJ a V=>by
 simp only[kS,cM]at J;refine we (ll (h J.1 a V) ?_);rintro S a' w' (⟨I,v,z⟩|⟨I,D,v,z⟩)
 ·cases S<;>first|exact z.elim|exact .inl ⟨I,v,z⟩
 ·cases S<;>first|exact .inr ⟨I,D,v,z⟩|skip
  refine ll (z J.2 [Ih D] a' v none) ?_;rintro x2 a2 Z ⟨U,O,L⟩;exact .inr ⟨U,D,O,L⟩
theorem Gn{id:Nat}{g:Operand}{ps:Array Tmp}(h:RF P N g ps sg bd (λD e w=>Qm D .normal e w) e w):AU P N (.block id (.rangeFunc g ps sg bd)) Qn Qm e w:=λ_ a z=>by
 refine wpIn_block (ll (h a z) ?_);rintro x a' w' ⟨rfl,D,v,y⟩;exact .inr ⟨e,D,v,y⟩
def QM(P:Program)(rs:Array ResultVar)(R:Value->World->Prop)(D:Nat):Exit->(Nat->Value)->World->Prop
 |.normal,e,w|.ret,e,w=>w.heap[D]?=some (.deferred (some []))/\P4 P R rs e (w.putObj D (.deferred none))
 |_,_,_=>False
theorem PH(h:QF P rs R .ret e w):P4 P R rs e w:=h
theorem PI{D:Nat}{L:List HA}(S:St F W w L)(hi:gi L i=some (.obj D (.deferred (some []))))(v:j7 L i (.obj D (.deferred none))=some L')(h:∀w',St F W w' L'->P4 P R rs e w'):QM P rs R D .ret e w :=
 ⟨S.ok hi,h _ (S.putObj hi v)⟩
theorem CH{c:Code}{args:List Value}(hf:P.funcs[f]?=some fn)(hb:fn.body=some c)(U:fn.results=rs)(S:fn.ntmps=N)(J:o7 P f=true)(L:(kS N c&&Nat.ble args.length N)=true)(h:AU P N c (QF P rs R) (QM P rs R) (qJ args) w):Fn P f args w R:=by
 simp only[cM]at L;have ab:args.length<=N:=eC L.2;refine⟨J,xG.1 (callsIn_of_wp_marks (F:=Fence.wide) (n:=0) hf hb trivial ?_)⟩;refine ll (h L.1 _ ⟨rfl,by simp[S];omega,λk=>?_⟩) ?_
 ·simp only[qJ,cO,dN,n5,nS,nZ,S];split
  ·rfl
  ·rename_i aa;rw[dZ om];simp only[mR];split<;>rfl
 ·rintro x a' w' (⟨V,y,z⟩|⟨V,D,y,z⟩)
  ·cases x<;>first|exact z.elim|skip
   all_goals
    obtain⟨v,O,I⟩:=z;show LeavesInM _ _ _ _ _ _ _ _ _;rw[y.defers];exact⟨v,O fn _ U y.get,v,rfl,I⟩
  ·cases x<;>first|exact z.elim|skip
   all_goals
    obtain⟨Z,v,O,I⟩:=z;show LeavesInM _ _ _ _ _ _ _ _ _;rw[y.defers];exact⟨by simp,.inl ⟨D,_,rfl,run_takeDeferred Z,v,O fn _ U y.get,v,rfl,I⟩⟩
def PJ(e:Nat->Value):List (Nat×Value)->Nat->Value
 |[]=>e
 |(p,v)::r=>PJ (yP e p v) r
theorem oo.updL {N : Nat} {df : List Deferred} : ∀ (l : List (Nat × Value)) {e : Nat → Value} {a : Act}, oo N df e a → (l.all fun p => Nat.blt p.1 N) = true → oo N df (PJ e l) { a with tmps := l.foldl (fun t (p, v) => t.setIfInBounds p v) a.tmps }
  | [], _, _, h, _ => h
  | (p, v) :: r, e, a, h, hd => by
    simp only [kB, cM] at hd
    exact oo.updL r (h.put (d := some p) hd.1 v) hd.2
section
variable{g:Operand}{ps:Array Tmp}{K:Nat->(Nat->Value)->World->Prop}
theorem PK{σ:Type}{gf:FuncId}{lb:List Value}(z:σ->List HA->Prop)(y:σ->List Value->σ->Prop)(ab:σ->Prop)(s0:σ)(hg:ev e g=.func (.func gf) #[] lb.toArray)(ak:o7 P gf=true)(O:(kS N sg&&kS N bd&&ps.toList.all (λp=>Nat.blt p N))=true)(aa:σ->σ->(Nat->Value)->List HA->Prop)(h0:z s0 L0)(S:St F W w L0)(ac:∀s vs s',y s vs s'->vs.length=ps.size)(am:∀(l:Nat)(J:σ->World->Prop)(w1:World),(∀s w w',J s w->Gr w w'->J s w')->(∀s w,J s w->∃L,z s L/\∃o d:HA,St F W w (o::d::L))->J s0 w1->(∀s vs s' w,y s vs s'->J s w->NO P l vs w λv w'=>v=.bool true/\J s' w') ->
   Fn P gf (.func (.yield l) #[] #[]::lb) w1 λ_ w'=>∃s,ab s/\J s w')(aq:∀(o d:HA)(s:σ)(vs:List Value)(s':σ)(w:World)(L:List HA),y s vs s'->z s L->St F W w (o::d::L)->CW P N sg (wY (λe' w'=>∃L',aa s s' e' L'/\St F W w' (o::d::L')) λ_ _ _=>False) (PJ e (ps.toList.zip vs)) w)(aj:∀(o d:HA)(s s':σ)(e':Nat->Value)(w:World)(L:List HA),aa s s' e' L->St F W w (o::d::L)->CW P N bd (wY (λ_ w'=>∃L',z s' L'/\St F W w' (o::d::L')) λ_ _ _=>False) e' w)(hK:∀(l D:Nat)(o:Obj)(s:σ)(w':World)(L:List HA),ab s->z s L->St F W w' (.obj l o::.obj D (.deferred (some []))::L)->K D e w'):RF P N g ps sg bd K e w:=by
 intro a Z;simp only[cM]at O;refine wpIn_rangeFunc λfn _=>?_;have S1:=S.pushObj (.deferred (some []));have S2:=S1.pushObj (.loop { state:=.ready,pending:=none,fn,tmps:=a.tmps,params:=ps,assign:=sg,body:=bd,defers:=w.heap.size });rw[World.size_alloc]at S2;generalize ai:(w.alloc (.deferred (some []))).alloc (.loop { state:=.ready,pending:=none,fn,tmps:=a.tmps,params:=ps,assign:=sg,body:=bd,defers:=w.heap.size })=W1 at S2;have U:=run_enterLoop_outer (P:=P) (w:=w) fn a.tmps ps sg bd;rw[ai]at U;generalize w.heap.size+1=l at *;generalize w.heap.size=D at *;have eg:∀args w,(callFunc gf args).run P w=.ok (.enter gf args) w:=λargs w=>iX ak args w;let I:LoopState->Obj:=λst=>.loop { state:=st,pending:=none,fn,tmps:=a.tmps,params:=ps,assign:=sg,body:=bd,defers:=D };let J:σ->World->Prop:=λs w'=>∃L,z s L/\St F W w' (.obj l (I .ready)::.obj D (.deferred (some []))::L)
 have ah:∀s vs s' w,y s vs s'->J s w->NO P l vs w λv w'=>v=.bool true/\J s' w':=by
  rintro s vs s' w2 ae ⟨L,V,T⟩;have hl:=T.ok (i:=0) rfl;have hy:=run_yield (P:=P) (args:=vs.toArray) hl (by simpa using ac s vs s' ae);refine⟨fn,_,sg,bd,hy,roundIn_of_wpIn (F:=Fence.wide) trivial ?_⟩
  have ad:oo N [] (PJ e (ps.toList.zip vs)) { tmps:=(ps.zip vs.toArray).foldl (λt(p,v)=>t.setIfInBounds p v) a.tmps,defers:=[] }:=by
   have h1:=oo.updL (ps.toList.zip vs) (a:={ tmps:=a.tmps,defers:=[] }) ⟨rfl,Z.size,Z.get⟩ (dh.2 λp hp=>dh.1 O.2 p.1 (List.of_mem_zip hp).1)
   have h2:(ps.zip vs.toArray).foldl (λt(p,v)=>t.setIfInBounds p v) a.tmps=(ps.toList.zip vs).foldl (λt(p,v)=>t.setIfInBounds p v) a.tmps:=by
    rw[<-Array.foldl_toList];simp
   rw[h2];exact h1
  refine ll (aq _ _ s vs s' w2 L ae V T O.1.1 [] _ ad (some l)) ?_;rintro x a1 w3 ⟨e1,ap,hq⟩;cases x<;>first|exact hq.elim|skip
  obtain⟨L1,hM,T1⟩:=hq;have an:=T1.ok (i:=0) rfl;refine⟨_,run_beginRound an rfl,?_⟩;have T2:St F W (w3.putObj l (I .busy)) (.obj l (I .busy)::.obj D (.deferred (some []))::L1):=T1.putObj (i:=0) rfl rfl;refine ll (aj _ _ s s' e1 _ L1 hM T2 O.1.2 [] a1 ap (some l)) ?_;rintro x a2 w4 ⟨e2,ar,hq⟩;cases x<;>first|exact hq.elim|skip
  obtain⟨L2,ag,T3⟩:=hq;have ao:=T3.ok (i:=0) rfl;exact⟨_,_,run_endRound none ao,_,rfl,rfl,L2,ag,T3.putObj (i:=0) rfl rfl⟩
 have al:=am l J W1 (λs w w'⟨L,V,T⟩g=>⟨L,V,T.gr g⟩) (λs w⟨L,V,T⟩=>⟨L,V,_,_,T⟩) ⟨L0,h0,S2⟩ ah;refine⟨l,[Ih D],W1,{ target:=.fn (.func gf) lb.toArray,args:=#[.func (.yield l) #[] #[]] },W1,gf,#[.func (.yield l) #[] #[]]++lb.toArray,W1,U,?_,λ_ _=>trivial,?_,λh=>(by cases h),?_⟩
 ·have h1:ev e (.const (.func (.yield l) #[] #[]))=.func (.yield l) #[] #[]:=rfl;simp[resolve,Z.eval,hg,h1,Deferred.ofValue]
 ·simp[invoke,go_sem,eg]
 ·refine(xG (n:=0)).2 ?_;have h2:=al.2;rw[show(Value.func (.yield l) #[] #[]::lb).toArray=#[.func (.yield l) #[] #[]]++lb.toArray by simp]at h2;refine h2.mono ?_;rintro en w' ⟨v,rfl,s,hf,L,V,T⟩;have hl:=T.ok (i:=0) rfl;refine⟨none,_,run_endLoop hl (by simp),rfl,D,⟨?_,Z.size,Z.get⟩,hK l D _ s _ L hf V (T.putObj (i:=0) rfl rfl)⟩;show [Ih D]++a.defers=[Ih D];rw[Z.defers];rfl
end
theorem Ii{g:Operand}{ps:Array Tmp}{K:Nat->(Nat->Value)->World->Prop}(M:(Nat->Value)->Prop)(v:M e)(h:∀e,M e->RF P N g ps sg bd K e w):RF P N g ps sg bd K e w:=h e v
def rB(z:Nat)(x:Int):Nat:=if 0<z then 1+ur (z-1)else ur (sW x)
theorem wP{x:Int}(h:-4294967296<=x/\x<=4294967296):sW x<8589934593:=by
 unfold sW;split<;>omega
structure BK(V:List Int)(i z:Nat)(x:Int)(j:Nat):Prop where
 lt:i<j
 le:j<=V.length
 zl:z<=V.length
 xr:-4294967296<=x/\x<=4294967296
 eq:tN 0 (V.drop i)=rB z x+tN 0 (V.drop j)
def vR(V:List Int):Prop:=∀x∈V,-4294967296<=x/\x<=4294967296
theorem vR.at{V:List Int}(h:vR V)(i:Nat):-4294967296<=V.getD i 0/\V.getD i 0<=4294967296:=by
 rw[cO];rcases eV i V.length with hi|hi
 ·rw[fw hi];exact h _ (fY hi)
 ·rw[dZ hi];exact⟨by decide,by decide⟩
section
variable{V:List Int}
theorem Ij:Fn prog 297 [.slice A n c] W
  (λv w'=>∃b,v=.func (.func 309) (([]:List Value).toArray) [pt b].toArray/\eL w' b 29 [.slice A n c]/\W.heap.size<=b/\Gr W w'):=by
 have S:=St.start W;refine zI func297 ?_;refine zN ?_;intro y D z S;refine zX ?_;exact⟨y,rfl,S.blk (i:=0) rfl,(S.sep.1.2 _ rfl).resolve_left (λh=>h),S.out⟩
theorem Gp{l:Nat}(J:Nat->World->Prop)(hn:V.length<=16384)(hV:vR V)(O:∀k w w',J k w->Gr w w'->J k w')(hf:∀k w,J k w->eL w b 29 [.slice A V.length c]/\Rd w A (cY V))(hy:∀i z x j w,BK V i z x j->J i w->NO prog l [.agg #[ii (z:Nat),ii x]] w (λv w'=>v=.bool true/\J j w'))(h0:J 0 W) :
  Fn prog 309 ([.func (.yield l) #[] #[]]++[pt b]) W (λ_ w'=>J V.length w'):=by
 have U:∀j,j<V.length->(cY V)[(j:Int).toNat * 1]?=some (ii (V.getD j 0)):=λj hj=>by rw[cG,b7];exact gc (kr hj)
 have aj:=(hf 0 W h0).1;have S:=St.start W;refine zI func309 ?_;refine zg ?_;refine dl (λm e w=>∃i:Nat,i+m=V.length/\SL e [(0,.func (.yield l) #[] #[]),(1,pt b),(3,ii i)]/\J i w) V.length ⟨0,om,sl,O _ _ _ h0 S.out⟩ ?_;clear S aj;rintro m e w ⟨i,hi,am,hJ⟩;rw[am.fold];obtain⟨hB,hA⟩:=hf i w hJ;have G:=Gr.refl w;have S:=St.start w;by_cases ak:i<V.length
 ·have ap:dO A:=hA.someA (by rw[gn];omega);refine z ?_;refine dH (cV fZ rfl rfl (hB.gr S.out) rfl) ?_;refine z ?_;refine zt ?_;refine zc ?_;refine jr rfl ?_;refine zc ?_;refine gO ?_;try show CW _ _ _ _ _ _
  refine zc ?_;refine k0 ?_;refine zc ?_;refine gP (M:=λe w'=>SL e [(0,.func (.yield l) #[] #[]),(1,pt b),(3,ii i),(4,ii i)]/\St No w w' []) ?_ ?_
  ·skip;refine zg ?_;exact⟨sl,S⟩
  ·rintro e1 w1 ⟨ah,S⟩;rw[ah.fold];show CW _ _ _ _ _ _;refine zc ?_;refine gP (M:=λe w'=>∃j:Nat,SL e [(0,.func (.yield l) #[] #[]),(1,pt b),(3,ii j),(4,ii i)]/\i<=j/\j<=V.length/\tN 0 (V.drop i)=tN (j-i) (V.drop j)/\(j<V.length->V.getD j 0≠0)/\St No w w' []) ?_ ?_
   ·skip;refine zg ?_
    refine dl (λm e w'=>∃j:Nat,j+m=V.length/\SL e [(0,.func (.yield l) #[] #[]),(1,pt b),(3,ii j),(4,ii i)]/\i<=j/\tN 0 (V.drop i)=tN (j-i) (V.drop j)/\St No w w' []) (V.length-i)
     ⟨i,om,sl,fK _,by rw[j8],S⟩ ?_
    clear S;rintro m2 e2 w2 ⟨j,hj,I,aa,L,S⟩;rw[I.fold];by_cases D:j<V.length
    ·have g1:=U j D;have hz:=λh0=>TB (l:=V) D h0 (j-i);by_cases ad:V.getD j 0=0
     ·rw[ad]at g1;refine zL (hB.gr S.out) ?_;refine zg ?_;exact⟨m2-1,om,j+1,om,sl,om,by rw[L,hz ad];congr 1;omega,S⟩
     ·have ao:=ad;generalize an:V.getD j 0=vj at *;refine zL (hB.gr S.out) ?_;refine zg ?_;exact⟨j,sl,aa,om,L,λ_=>by rw[an];exact ao,S⟩
    ·skip;refine zL (hB.gr S.out) ?_;refine zg ?_;exact⟨j,sl,aa,om,L,λh=>absurd h D,S⟩
   ·rintro e2 w2 ⟨j,I,aa,D,L,ae,S⟩;rw[I.fold];refine zg ?_
    have ag:tN (j-i) (V.drop j)=Du (j-i)+tN 0 (V.drop j):=VO λx r hx=>by
     have y:j<V.length:=by
      rcases eV j V.length with h|h
      ·exact h
      ·rw[nw h]at hx;cases hx
     rw[dX y]at hx;injection hx with h1 h2;have:=ae y;rw[cO,fw y]at this;rw[<-h1];exact this
    by_cases he:j=i
    ·subst he;have y:=ak;have g1:=U j y;have hx:=hV.at j;have h1:=TC y (ae y);have ab:BK V j 0 (V.getD j 0) (j+1):=⟨om,om,om,hx,by rw[h1];rfl⟩;have ac:=λw=>hy j 0 (V.getD j 0) (j+1) w ab;generalize V.getD j 0=vj at *;have e0:(j:Int)-j=((0:Nat):Int):=om;refine zg ?_;rw[e0];refine zN ?_;intro ai au aq S;refine Z1 0 S ?_;intro av S;refine z ?_;refine z ?_;refine zt ?_;refine zs ?_;refine dH (cV fZ rfl rfl (hB.gr S.out) rfl) ?_;refine zT (hA.gr S.out) g1 ?_;refine zS ?_;intro aw S;refine Ig rfl rfl (ac _ (O _ _ _ hJ S.out)) ?_;rintro _ w5 ⟨rfl,Z⟩;refine zg ?_;exact⟨m-1,om,j+1,om,sl,Z⟩
    ·have e0:(j:Int)-i=((j-i:Nat):Int):=om
     have al:Du (j-i)=rB (j-i) 0:=by
      unfold Du rB;rw[a8 (show ¬j-i=0 by omega),a7 (show 0<j-i by omega)]
     have ab:BK V i (j-i) 0 j:=⟨om,D,om,om,by rw[L,ag,al]⟩;have ac:=λw=>hy i (j-i) 0 j w ab;generalize hz:j-i=z at *;refine zg ?_;rw[e0];refine zN ?_;intro ai az ar S;refine zS ?_;intro aA S;refine Ig rfl rfl (ac _ (O _ _ _ hJ S.out)) ?_;rintro _ w5 ⟨rfl,Z⟩;refine zg ?_;exact⟨V.length-j,om,j,om,sl,Z⟩
 ·obtain rfl:i=V.length:=om;refine z ?_;refine dH (cV fZ rfl rfl (hB.gr S.out) rfl) ?_;refine zg ?_;exact na (O _ _ _ hJ S.out)
theorem Es(z:Nat)(x:Int)(hz:z<=16384)(V:-4294967296<=x/\x<=4294967296):Fn prog (298) [.agg #[ii z,ii x]] W (Cv id (rB z x) W):=by
 have hf:=wP V;unfold rB;have S:=St.start W;refine zI func298 ?_;by_cases U:0<z
 ·have e1:(z:Int)-1=((z-1:Nat):Int):=om;rw[a7 U];refine zN ?_;intro J ag ab S;refine zg ?_;refine yb S ?_;intro aa ah ac S Z;refine zg ?_;rw[e1];refine dU (dY (ks:=.i64) (n:=(z-1:Nat)) (kd:=.u64) (m:=(z-1:Nat)) dB kC rfl (re _ om)) ?_;refine zK (H4 (W:=_) (l:=[0]) (c:=1) (z-1) om (by simp) (.inr ⟨by simp,S.rd (i:=0) rfl⟩)) ?_;rintro _ ai ⟨l2,y,A2,c2,rfl,D,I,L⟩;have S:=S.pushRow D I L;refine zX ?_;exact⟨l2,y,S.retNew (i:=0) rfl⟩
 ·obtain rfl:z=0:=om;rw[a8 U];refine zN ?_;intro J aj ad S;refine zC (Ni x V) ?_;intro ak ae S;refine zK (H4 (W:=_) (A:=none) (c:=0) (l:=[]) (sW x) om (by simp) (.inl ⟨rfl,rfl,rfl⟩)) ?_;rintro _ al ⟨l2,y,A2,c2,rfl,D,I,O⟩;have S:=S.pushRow D I O;refine zg ?_;rw[sT,eH]at y;rw[sT,eH]at S;exact ir (v:=.slice A2 (ur (sW x)) c2) (by show some (Value.slice A2 (0+ur (sW x)) c2)=_;rw[eH]) ⟨l2,y,S.retNew (i:=0) (mk:=id) rfl⟩
theorem NP(hn:V.length<=16384)(hV:vR V)(hA:Rd W A (cY V)):Fn prog 274 [.slice A V.length c] W (dp (ii (tN 0 V)) W):=by
 have aj:=Dv (B:=5) V 0 (λx hx=>by have:=wP (hV x hx);exact us 4 _ om) om om;rw[a7 rfl]at aj;have ah:=λW z x hz hx=>Es (W:=W) z x hz hx;have S:=St.start W;refine CH func274 rfl results274 ntmps274 (by kernel_rfl) (by kernel_rfl) ?_;try show AU _ _ _ _ _ _ _
 refine vk ?_;refine zg ?_;try show AU _ _ _ _ _ _ _
 refine vk ?_;refine zN ?_;intro O aq an S;refine zS ?_;intro ar S;try show AU _ _ _ _ _ _ _
 refine Gm ?_;try show AU _ _ _ _ _ _ _
 refine vk ?_;refine zK (Ij) ?_;rintro _ au ⟨y,rfl,ag,ap,ad⟩;have S:=S.push ad (h:=.blk y _ _) ag (λg hg=>by have:g=y:=hg;omega);refine ze ?_;try show AU _ _ _ _ _ _ _
 have S:=S.sub (.cons_cons _ (.cons_cons _ (.slnil)));refine Gn ?_;refine Ii (λe=>SL e [(3,pt O),(6,.func (.func 309) (([]:List Value).toArray) [pt y].toArray)]) sl ?_;intro e ak;rw[ak.fold]
 refine PK (gf:=309) (lb:=[pt y])
  (λ(i:Nat)L=>∃I:Nat,I+tN 0 (V.drop i)=tN 0 V/\L=[.blk y 29 [.slice A V.length c],.blk O 3 [ii I]])
  (λi vs j=>∃(z:Nat)(x:Int),BK V i z x j/\vs=[.agg #[ii (z:Nat),ii x]]) (λi=>i=V.length) 0 rfl (by kernel_rfl) (by kernel_rfl)
  (λi j e L=>∃(z:Nat)(x:Int)(I aa:Nat),BK V i z x j/\I+tN 0 (V.drop i)=tN 0 V/\SL e [(3,pt O),(4,pt aa)]/\L=[.blk aa 445 [ii z,ii x],.blk y 29 [.slice A V.length c],.blk O 3 [ii I]])
  ⟨0,by rw[dR];omega,rfl⟩ S (by rintro k vs k' ⟨_,_,_,rfl⟩;rfl) ?_ ?_ ?_ ?_
 ·intro l J w1 ai hJ h0 hy;refine(Gp (c:=c) (A:=A) (V:=V) (W:=w1) (b:=y) (l:=l) J hn hV ai (λk w ab=>?_) (λi z x j w Z ab=>hy i _ j w ⟨z,x,Z,rfl⟩ ab) h0).mono (λ_ w' h=>⟨_,rfl,h⟩);obtain⟨L,⟨I,_,rfl⟩,o1,d1,S1⟩:=hJ k w ab;exact⟨S1.blk (i:=2) rfl,hA.gr S1.out⟩
 ·rintro ob db i vs j w2 L ⟨z,x,Z,rfl⟩ ⟨I,U,rfl⟩ S;show CW _ _ _ _ (yP _ 7 _) _;refine zN ?_;intro aa av ao S;refine zS ?_;intro aw S;exact⟨_,⟨z,x,I,aa,Z,U,sl,rfl⟩,S.perm_ ((tz _ _ _).trans (.cons _ (.swap _ _ _)))⟩
 ·rintro ob db i j e w2 L ⟨z,x,I,aa,Z,U,ac,rfl⟩ S;rw[ac.fold];have am:=Z.eq;have hz:=Z.zl;have hx:=Z.xr;refine zH (C:=(λσ wq=>CN No W [ob,db,.blk aa 445 [ii z,ii x],.blk y 29 [.slice A V.length c],.blk O 3 [ii I]] (λv h=>∃A2 c2 l2,v=.slice A2 (rB z x) c2/\h=.row 5 1 A2 (rB z x) c2 l2) wq σ)) [2] [0,1,2,3] [4,5] (S.gr (Gr.drew _)) ?_;refine zV (λτ wq hq=>((CN.st hq).blk (i:=4) rfl)) ?_;refine zV (λτ wq hq=>((CN.st hq).blk (i:=2) rfl)) ?_;refine de rfl rfl (λwq hq=>l4 rfl ((ah wq z x om hx).mono λv w'⟨l2,hl2,A2,c2,hv,hR2,hf2,g⟩=>⟨_,⟨A2,c2,f9 l2,hv,rfl⟩,St.pushRow (show St No W wq _ from hq) hR2 hf2 g⟩)) ?_;rintro v2 w5 ⟨_,⟨A2,c2,l2,rfl,_⟩,_⟩;refine zY ?_;rintro wz al;obtain⟨_,⟨A3,c3,l3,e3,rfl⟩,S⟩:=al;cases e3
  refine zS ?_;intro az S;exact⟨_,⟨I+rB z x,om,rfl⟩,by simpa using S.sub (.cons _ (.cons_cons _ (.cons_cons _ (.cons _ (.cons_cons _ (.cons_cons _ .slnil))))))⟩
 ·rintro l D ob k w2 L rfl ⟨I,U,rfl⟩ S;rw[List.drop_length]at U;have ae:tN 0 []=0:=rfl;show CW _ _ _ _ _ _;refine z ?_;refine z ?_;refine zq ?_;refine PI S (i:=1) rfl rfl λw' S'=>?_;exact PH (ir rfl ⟨by rw[<-U,ae,eW],S'.out⟩)
theorem PL{z:Nat}{x:Int}(J:z<=16384)(v:-4294967296<=x/\x<=4294967296):1<=rB z x/\rB z x<=5:=by
 have h1:=Dt (z-1);have h2:=Dt (sW x);have y:=wP v;have D:=us 4 (sW x) om;have I:=us 1 (z-1) om;unfold rB;split<;>omega
theorem NQ{l:List Int}(hn:V.length<=16384)(hV:vR V)(hA:Rd W A (cY V))(hl:0<l.length/\l.length<=1048576)(hB:Rd W B (f9 l)) :
  Fn prog 278 [.slice B l.length cB,.slice A V.length c] W (Cv id (l.length+tN 0 V) W):=by
 have ap:=Dv (B:=5) V 0 (λx hx=>by have:=wP (hV x hx);exact us 4 _ om) om om;rw[a7 rfl]at ap;have an:=λW z x hz hx=>Es (W:=W) z x hz hx;have S:=St.start W;refine CH func278 rfl results278 ntmps278 (by kernel_rfl) (by kernel_rfl) ?_;try show AU _ _ _ _ _ _ _
 refine vk ?_;refine zN ?_;intro I aH aC S;refine zg ?_;try show AU _ _ _ _ _ _ _
 refine vk ?_;refine zK (AF (c:=cB) hl.1 om (hB.gr S.out)) ?_;rintro _ aI ⟨ad,ae,rfl,ab,ac,ak⟩;have S:=S.pushRow ab ac ak;refine zS ?_;intro aJ S;try show AU _ _ _ _ _ _ _
 refine Gm ?_;try show AU _ _ _ _ _ _ _
 refine vk ?_;refine zK (Ij) ?_;rintro _ aK ⟨y,rfl,am,aF,al⟩;have S:=S.push al (h:=.blk y _ _) am (λg hg=>by have:g=y:=hg;omega);refine ze ?_;try show AU _ _ _ _ _ _ _
 have S:=S.sub (.cons_cons _ (.cons_cons _ (.cons_cons _ (.slnil))));have S:=S.perm_ (.cons _ (.swap _ _ _));refine Gn ?_;refine Ii (λe=>SL e [(2,pt I),(9,.func (.func 309) (([]:List Value).toArray) [pt y].toArray)]) sl ?_;intro e au;rw[au.fold]
 refine PK (gf:=309) (lb:=[pt y])
  (λ(i:Nat)L=>∃(lc:List Int)(A2:Option Addr)(c2:Nat),lc.length+tN 0 (V.drop i)=l.length+tN 0 V/\L=[.blk y 29 [.slice A V.length c],.blk I 37 [.slice A2 lc.length c2],.row 5 1 A2 lc.length c2 (f9 lc)])
  (λi vs j=>∃(z:Nat)(x:Int),BK V i z x j/\vs=[.agg #[ii (z:Nat),ii x]]) (λi=>i=V.length) 0 rfl (by kernel_rfl) (by kernel_rfl)
  (λi j e L=>∃(z:Nat)(x:Int)(lc:List Int)(A2:Option Addr)(c2 Z:Nat),BK V i z x j/\lc.length+tN 0 (V.drop i)=l.length+tN 0 V/\SL e [(2,pt I),(5,pt Z)]/\L=[.blk Z 445 [ii z,ii x],.blk y 29 [.slice A V.length c],.blk I 37 [.slice A2 lc.length c2],.row 5 1 A2 lc.length c2 (f9 lc)])
  ⟨l,ad,ae,by rw[dR],rfl⟩ S (by rintro k vs k' ⟨_,_,_,rfl⟩;rfl) ?_ ?_ ?_ ?_
 ·intro l J w1 ao hJ h0 hy;refine(Gp (c:=c) (A:=A) (V:=V) (W:=w1) (b:=y) (l:=l) J hn hV ao (λk w aa=>?_) (λi z x j w O aa=>hy i _ j w ⟨z,x,O,rfl⟩ aa) h0).mono (λ_ w' h=>⟨_,rfl,h⟩);obtain⟨L,⟨lc,A2,c2,_,rfl⟩,o1,d1,S1⟩:=hJ k w aa;exact⟨S1.blk (i:=2) rfl,hA.gr S1.out⟩
 ·rintro ob db i vs j w2 L ⟨z,x,O,rfl⟩ ⟨lc,A2,c2,U,rfl⟩ S;show CW _ _ _ _ (yP _ 10 _) _;refine zN ?_;intro Z aL aD S;refine zS ?_;intro aM S;exact⟨_,⟨z,x,lc,A2,c2,Z,O,U,sl,rfl⟩,S.perm_ ((tz _ _ _).trans (.cons _ (.swap _ _ _)))⟩
 ·rintro ob db i j e w2 L ⟨z,x,lc,A2,c2,Z,O,U,ah,rfl⟩ S;rw[ah.fold];have az:=O.eq;have hz:=O.zl;have hx:=O.xr;have aG:=PL (z:=z) (x:=x) om hx;refine zH (C:=(λσ wq=>CN No W [ob,db,.blk Z 445 [ii z,ii x],.blk y 29 [.slice A V.length c],.blk I 37 [.slice A2 lc.length c2],.row 5 1 A2 lc.length c2 (f9 lc)] (λv h=>∃A2 c2 l2,v=.slice A2 (rB z x) c2/\l2.length=rB z x/\h=.row 5 1 A2 (rB z x) c2 (f9 l2)) wq σ)) [2] [0,1,2] [3,4] (S.gr (Gr.drew _)) ?_;refine zV (λτ wq hq=>((CN.st hq).blk (i:=4) rfl)) ?_;refine zV (λτ wq hq=>((CN.st hq).blk (i:=2) rfl)) ?_;refine de rfl rfl (λwq hq=>l4 rfl ((an wq z x om hx).mono λv w'⟨l2,hl2,A2,c2,hv,hR2,hf2,g⟩=>⟨_,⟨A2,c2,l2,hv,hl2,rfl⟩,St.pushRow (show St No W wq _ from hq) hR2 hf2 g⟩)) ?_;rintro v2 w5 ⟨_,⟨A3,c3,l2,rfl,_,_⟩,_⟩;refine zY ?_;rintro wz av;obtain⟨_,⟨A4,c4,l3,e3,ag,rfl⟩,S⟩:=av;cases e3
  have ar:=F6 l3;have aq:=m4 l3;refine fM (i:=6) S rfl (λh=>rfl) fR nN rfl rfl rfl rfl (by rw[aq,ag,cG]) om (S.rd (i:=0) rfl) ar om ?_;intro ai aj aA S aw;refine zS ?_;intro aB S;rw[KS]at S;have e5:lc.length+rB z x=(lc++l3).length:=by rw[cP,ag]
  rw[e5]at S;exact⟨_,⟨lc++l3,ai,aj,by rw[<-e5];omega,rfl⟩,S.sub (.cons _ (.cons_cons _ (.cons_cons _ (.cons _ (cQ _)))))⟩
 ·rintro lp D ob k w2 L rfl ⟨lc,A2,c2,U,rfl⟩ S;rw[List.drop_length]at U;have aE:tN 0 []=0:=rfl;show CW _ _ _ _ _ _;refine z ?_;refine z ?_;refine zq ?_;refine PI S (i:=1) rfl rfl λw' S'=>?_;have e6:lc.length=l.length+tN 0 V:=om;exact PH (ir rfl ⟨lc,e6,e6▸S'.retNew (i:=4) rfl⟩)
end
abbrev mH:=Int×Nat
def fA(l:List mH)(i:Nat):mH:=l.getD i (0,0)
def uE(l:List mH)(i j:Nat):List mH:=(l.set i (fA l j)).set j (fA l i)
theorem lK(l:List mH)(i j:Nat):(uE l i j).length=l.length:=by simp[uE]
theorem yG{l:List mH}(h:i<l.length):l[i]?=some (fA l i):=by
 rw[fA,cO,fw h];rfl
theorem D0{l:List mH}{x:mH}(h:l[i]?=some x):fA l i=x:=by
 rw[fA,cO,h];rfl
theorem o5{l:List mH}(hi:i<l.length)(z:j<l.length)(k:Nat):fA (uE l i j) k=if k=j then fA l i else if k=i then fA l j else fA l k:=by
 unfold uE;by_cases v:k=j
 ·rw[a7 v];exact D0 (by rw[v,gl,a7 rfl,pe,a7 z])
 ·rw[a8 v];by_cases y:k=i
  ·rw[a7 y];exact D0 (by rw[y,gl,a8 (by rw[y]at v;exact λh=>v h.symm),gl,a7 rfl,a7 hi])
  ·rw[a8 y];show(List.set _ _ _).getD k (0,0)=l.getD k (0,0);rw[cO,cO,gl,a8 (λh=>v h.symm),gl,a8 (λh=>y h.symm)]
theorem ql{l:List mH}{x:mH}:x∈l↔∃k,k<l.length/\fA l k=x:=by
 constructor
 ·intro h;obtain⟨k,v⟩:=List.mem_iff_getElem?.1 h;exact⟨k,(dq.1 v).1,D0 v⟩
 ·rintro⟨k,v,rfl⟩;exact dD (yG v)
theorem vl{l:List mH}(hi:i<l.length)(y:j<l.length)(x:mH):x∈uE l i j↔x∈l:=by
 have z:∀(l:List mH),i<l.length->j<l.length->∀x,x∈uE l i j->x∈l:=by
  intro l hi y x L;obtain⟨k,D,v⟩:=ql.1 L;rw[lK]at D;rw[o5 hi y]at v;split at v
  ·exact ql.2 ⟨i,hi,v⟩
  ·split at v
   ·exact ql.2 ⟨j,y,v⟩
   ·exact ql.2 ⟨k,D,v⟩
 refine⟨z l hi y x,λL=>?_⟩;obtain⟨k,D,v⟩:=ql.1 L;refine ql.2 ?_;rw[lK];by_cases O:k=i
 ·exact⟨j,y,by rw[o5 hi y,a7 rfl,<-O];exact v⟩
 ·by_cases I:k=j
  ·refine⟨i,hi,?_⟩;rw[o5 hi y];by_cases J:i=j
   ·rw[a7 J,J,<-I];exact v
   ·rw[a8 J,a7 rfl,<-I];exact v
  ·exact⟨k,D,by rw[o5 hi y,a8 I,a8 O];exact v⟩
def qQ(l:List mH)(n:Nat):Prop:=∀k,0<k->k<n->(fA l ((k-1)/2)).1<=(fA l k).1
structure xB(l:List mH)(j:Nat):Prop where
 lt:j<l.length
 ok:∀k,0<k->k<l.length->k≠j->(fA l ((k-1)/2)).1<=(fA l k).1
 kids:0<j->∀k,0<k->k<l.length->(k-1)/2=j->(fA l ((j-1)/2)).1<=(fA l k).1
structure xC(l:List mH)(n i:Nat):Prop where
 le:n<=l.length
 ok:∀k,0<k->k<n->(k-1)/2≠i->(fA l ((k-1)/2)).1<=(fA l k).1
 kids:0<i->∀k,0<k->k<n->(k-1)/2=i->(fA l ((i-1)/2)).1<=(fA l k).1
section
variable{l:List mH}
theorem xB.push{x:mH}(h:qQ l l.length):xB (l++[x]) l.length:=by
 have e:∀k,k<l.length->fA (l++[x]) k=fA l k:=λk v=>by unfold fA;rw[cO,cO,gt v]
 refine⟨by simp,λk y v z=>?_,λ_ k y v D=>?_⟩
 ·simp at v;rw[e k om,e _ om];exact h k y om
 ·simp at v;omega
theorem xB.stop(h:xB l j)(z:j=0\/(fA l ((j-1)/2)).1<=(fA l j).1):qQ l l.length:=by
 intro k v y;by_cases e:k=j
 ·subst e;rcases z with e|e
  ·omega
  ·exact e
 ·exact h.ok k v y e
theorem xB.up(h:xB l j)(S:0<j)(V:(fA l j).1<(fA l ((j-1)/2)).1):xB (uE l ((j-1)/2) j) ((j-1)/2):=by
 have U:=h.lt;have hi:(j-1)/2<l.length:=om;have D:=o5 hi U;generalize O:(j-1)/2=i at *;refine⟨by rw[lK];exact hi,λk z y L=>?_,λi0 k z y Z=>?_⟩
 ·rw[lK]at y;rw[D,D];by_cases v:k=j
  ·subst v;rw[a7 rfl,a8 om,a7 om];omega
  ·rw[a8 v,a8 L];by_cases I:(k-1)/2=j
   ·rw[a7 I];have:=h.kids S k z y I;rw[O]at this;exact this
   ·rw[a8 I];by_cases J:(k-1)/2=i
    ·rw[a7 J];have:=h.ok k z y v;rw[J]at this;omega
    ·rw[a8 J];exact h.ok k z y v
 ·rw[lK]at y;rw[D,D,a8 (show(i-1)/2≠j by omega),a8 (show(i-1)/2≠i by omega)];have h1:=h.ok i i0 hi om;by_cases v:k=j
  ·rw[a7 v];exact h1
  ·rw[a8 v,a8 om];have:=h.ok k z y v;rw[Z]at this;omega
theorem xC.stop(h:xC l n i)(z:∀k,0<k->k<n->(k-1)/2=i->(fA l i).1<=(fA l k).1):qQ l n:=by
 intro k v y;by_cases e:(k-1)/2=i
 ·rw[e];exact z k v y e
 ·exact h.ok k v y e
theorem xC.down(h:xC l n i)(hj:j<n)(L:0<j)(U:(j-1)/2=i)(aa:(fA l j).1<(fA l i).1)(v:∀k,0<k->k<n->(k-1)/2=i->(fA l j).1<=(fA l k).1):xC (uE l i j) n j:=by
 have O:=h.le;have I:=o5 (l:=l) (i:=i) (j:=j) om om;refine⟨by rw[lK];exact O,λk y D S=>?_,λ_ k y D V=>?_⟩
 ·rw[I,I];rw[a8 S];by_cases Z:k=j
  ·subst Z;rw[a7 U,a7 rfl];omega
  ·rw[a8 Z];by_cases z:(k-1)/2=i
   ·rw[a7 z,a8 om];exact v k y D z
   ·rw[a8 z];by_cases J:k=i
    ·rw[a7 J];subst J;exact h.kids y j L hj U
    ·rw[a8 J];exact h.ok k y D z
 ·rw[I,I,U,a8 om,a7 rfl,a8 om,a8 om];have:=h.ok k y D om;rw[V]at this;exact this
theorem qQ.min(h:qQ l n):∀k,k<n->(fA l 0).1<=(fA l k).1:=by
 intro k;induction k using Nat.strongRecOn with
 |_ k ih =>
  intro v;by_cases e:k=0
  ·subst e;exact ij _
  ·have h1:=ih ((k-1)/2) om om;have h2:=h k om v;omega
theorem xC.pop(h:qQ l l.length)(D:0<l.length):xC (uE l 0 (l.length-1)) (l.length-1) 0:=by
 have y:=o5 (l:=l) (i:=0) (j:=l.length-1) om om;refine⟨by rw[lK];omega,λk z I v=>?_,λe=>by omega⟩;rw[y,y,a8 om,a8 v,a8 om,a8 om];exact h k z om
theorem OH(z:l.length=m+1)(x:mH):x∈l↔x=fA l m\/x∈l.take m:=by
 rw[ql];constructor
 ·rintro⟨k,v,rfl⟩;by_cases e:k=m
  ·exact .inl (by rw[e])
  ·refine .inr (dD (i:=k) ?_);rw[fJ,a7 om];exact yG v
 ·rintro (rfl|y)
  ·exact⟨m,om,rfl⟩
  ·exact ql.1 (jj y)
theorem Ez(h:k<m):fA (l.take m) k=fA l k:=by
 unfold fA;rw[cO,cO,fJ,a7 h]
theorem qQ.take(h:qQ l m):qQ (l.take m) (l.take m).length:=by
 intro k y z;have v:k<m:=by have:=d7 (i:=m) (l:=l);omega
 rw[Ez om,Ez v];exact h k y v
end
def Av(P:Program)(t:TypeId)(u:Value)(m:String)(args:List Value)(w:World)(R:Value->World->Prop):Prop :=
 ∃f rv,(method (P.types.size+Made.depth) t u m).run P w=.ok (f,rv) w/\Fn P f (rv::args) w R
section
variable{rest:List Oper}{ps:String}
theorem mr{m:String}(L:ev e x=.iface t u)(J:lj (args.map (ev e))=some vs)(z:Av P t u m vs w R)(I:∀v w',R v w'->RW P ops Q rest (fI e d v) w'):RW P ops Q (⟨d,.call ⟨.invoke x m,args.toArray,tys⟩,ty,ps,af,none⟩::rest) e w:=by
 obtain⟨f,rv,D,y⟩:=z;exact o8 L D J y I
theorem U4{y:Operand}{b c:Int}(J:ev e x=ii a)(L:ev e y=ii b)(z:b≠0)(D:a.tdiv b=c)(I:-9223372036854775808<=c/\c<=9223372036854775807):iE P e ⟨d,.binOp .quo t x y t',ty,ps,af,none⟩ (ii c):=by
 intro w;have v:IntKind.i64.wrap c=c:=gC _ I;simp[gd,execOp,J,L,eqGuard,binOp,Op.intDiv,z,D,v]
end
theorem Ix{Q:Exit->(Nat->Value)->World->Prop}(v:Nat.beq j k=false)(h:Q (.exit j) e w):J2 k Q (.exit j) e w:=by
 simp only[J2,v];exact h
structure Aw(P:Program)(t:TypeId)(u:Value)(jt:TypeId)(H:List mH->World->Prop):Prop where
 len:∀l w,H l w→Av P t u "Len" [] w (λv w'=>v=ii l.length∧H l w')
 less:∀l w(i j:Nat),H l w→i<l.length→j<l.length→Av P t u "Less" [ii i,ii j] w (λv w'=>v=.bool (decide ((fA l i).1<(fA l j).1))∧H l w')
 swap:∀l w(i j:Nat),H l w→i<l.length→j<l.length→Av P t u "Swap" [ii i,ii j] w (λv w'=>v=.tuple #[]∧H (uE l i j) w')
 push:∀l w(x:mH),H l w→l.length≤1099511627776→Av P t u "Push" [.iface jt (.agg #[ii x.1,ii x.2])] w (λv w'=>v=.tuple #[]∧H (l++[x]) w')
 pop:∀l w,H l w→0<l.length→Av P t u "Pop" [] w (λv w'=>v=.iface jt (.agg #[ii (fA l (l.length-1)).1,ii (fA l (l.length-1)).2])∧H (l.take (l.length-1)) w')
 small:∀l w,H l w->l.length<=1099511627777
section
variable{H:List mH->World->Prop}
theorem Yp(L:Aw prog t u jt H)(l:List mH)(j:Nat)(W:World)(J:xB l j)(y:H l W) :
  Fn prog 261 [.iface t u,ii j] W (λv w'=>v=.tuple #[]/\∃l',l'.length=l.length/\(∀x,x∈l'↔x∈l)/\qQ l' l'.length/\H l' w'):=by
 refine zI func261 ?_;refine zg ?_;refine dl (λm e w=>∃(j':Nat)(l':List mH),j'=m/\SL e [(0,.iface t u),(1,ii j')]/\l'.length=l.length/\(∀x,x∈l'↔x∈l)/\xB l' j'/\H l' w) j ⟨j,l,rfl,sl,rfl,λ_=>Iff.rfl,J,y⟩ ?_;rintro m e w ⟨j,l',rfl,S,z,D,J,y⟩;rw[S.fold];have Z:=L.small _ _ y;have I:=J.lt;by_cases V:j=0
 ·subst V;refine zg ?_;refine dU (U4 (c:=0) rfl rfl (by decide) (by decide) om) ?_;refine zg ?_;refine Ix rfl (nC (pE ?_));refine na ?_;exact⟨rfl,l',z,D,J.stop (.inl rfl),y⟩
 ·have U:((j:Int)-1)/2=(((j-1)/2:Nat):Int):=om;by_cases O:(fA l' j).1<(fA l' ((j-1)/2)).1
  ·skip;refine zg ?_;rw[U];refine zg ?_;refine dr rfl ?_;refine mr rfl rfl (L.less _ _ j ((j-1)/2) y I om) ?_;rintro _ w1 ⟨rfl,y⟩;rw[fD O];refine zg ?_;refine mr rfl rfl (L.swap _ _ ((j-1)/2) j y om I) ?_;rintro _ w2 ⟨rfl,y⟩;refine zg ?_;exact⟨(j-1)/2,om,(j-1)/2,_,rfl,sl,by rw[lK];exact z,λx=>(vl om I x).trans (D x),J.up om O,y⟩
  ·skip;refine zg ?_;rw[U];refine zg ?_;refine dr rfl ?_;refine mr rfl rfl (L.less _ _ j ((j-1)/2) y I om) ?_;rintro _ w1 ⟨rfl,y⟩;rw[iO O];refine zg ?_;refine Ix rfl (nC (pE ?_));refine na ?_;exact⟨rfl,l',z,D,J.stop (.inr om),y⟩
theorem U5(I:Aw prog t u jt H)(l:List mH)(x:mH)(W:World)(O:qQ l l.length)(D:H l W)(S:l.length<=1099511627776) :
  Fn prog 195 [.iface t u,.iface jt (.agg #[ii x.1,ii x.2])] W (λv w'=>v=.tuple #[]/\∃l',l'.length=l.length+1/\(∀y,y∈l'↔y=x\/y∈l)/\qQ l' l'.length/\H l' w'):=by
 refine zI func195 ?_;refine zg ?_;refine mr rfl rfl (I.push _ _ x D S) ?_;rintro _ U ⟨rfl,D⟩;refine zg ?_;refine mr rfl rfl (I.len _ _ D) ?_;rintro _ V ⟨rfl,D⟩;have z:(l++[x]).length=l.length+1:=by simp
 refine zg ?_;rw[show(((l++[x]).length:Nat):Int)-1=((l.length:Nat):Int)by rw[z];omega];refine zK (Yp I _ _ _ (xB.push O) D) ?_;rintro _ Z ⟨rfl,l',h1,h2,J,L⟩;refine ze ?_;exact na ⟨rfl,l',by rw[h1];simp,λy=>(h2 y).trans (by rw[ez,dM];exact Or.comm),J,L⟩
theorem WJ(L:Aw prog t u jt H)(l:List mH)(i n:Nat)(W:World)(S:xC l n i)(hi:i<=1099511627777)(z:H l W) :
  Fn prog 260 [.iface t u,ii i,ii n] W (λv w'=>∃l',l'.length=l.length/\(∀x,x∈l'↔x∈l)/\qQ l' n/\(∀k,n<=k->fA l' k=fA l k)/\H l' w'):=by
 refine zI func260 ?_;refine zg ?_
 refine dl (λm e w=>∃(k:Nat)(l':List mH),m=n-k/\SL e [(0,.iface t u),(1,ii i),(2,ii n),(7,ii k)]/\l'.length=l.length/\(∀x,x∈l'↔x∈l)/\xC l' n k/\(∀k,n<=k->fA l' k=fA l k)/\k<=1099511627777/\H l' w) (n-i)
  ⟨i,l,rfl,sl,rfl,λ_=>Iff.rfl,S,λ_ _=>rfl,hi,z⟩ ?_
 rintro m e w ⟨k,l',rfl,aa,D,I,S,O,hk,z⟩;rw[aa.fold];have ad:=L.small _ _ z;have ab:=S.le;have U:((2:Int)*k+1)=((2*k+1:Nat):Int):=om;have V:(((2*k+1:Nat):Int)+1)=((2*k+2:Nat):Int):=om;by_cases h1:n<=2*k+1
 ·skip;refine zX ?_;exact⟨l',D,I,S.stop (λq q0 Z hp=>by omega),O,z⟩
 ·have J:∀q,(q=2*k+1\/q=2*k+2)->q<n->∀y,n<=y->fA (uE l' k q) y=fA l y:=λq Z ac y hy=>by rw[o5 om om,a8 om,a8 om];exact O y hy
  by_cases h2:2*k+2<n
  ·by_cases hc:(fA l' (2*k+2)).1<(fA l' (2*k+1)).1
   ·by_cases hd:(fA l' (2*k+2)).1<(fA l' k).1
    ·skip;refine yA ?_;refine dr rfl ?_;refine mr rfl rfl (L.less _ _ (2*k+2) (2*k+1) z om om) ?_;rintro _ w1 ⟨rfl,z⟩;rw[fD hc];refine zg ?_;refine mr rfl rfl (L.less _ _ (2*k+2) k z om om) ?_;rintro _ w2 ⟨rfl,z⟩;rw[fD hd];refine zg ?_;refine mr rfl rfl (L.swap _ _ k (2*k+2) z om om) ?_;rintro _ w3 ⟨rfl,z⟩;refine zg ?_
     exact⟨n-(2*k+2),om,2*k+2,_,rfl,sl,by rw[lK];exact D,λx=>(vl om om x).trans (I x),S.down h2 om om hd (λq q0 Z hp=>by
      rcases (show q=2*k+1\/q=2*k+2 by omega)with rfl|rfl
      ·omega
      ·exact ij _),J _ (.inr rfl) h2,om,z⟩
    ·skip;refine yA ?_;refine dr rfl ?_;refine mr rfl rfl (L.less _ _ (2*k+2) (2*k+1) z om om) ?_;rintro _ w1 ⟨rfl,z⟩;rw[fD hc];refine zg ?_;refine mr rfl rfl (L.less _ _ (2*k+2) k z om om) ?_;rintro _ w2 ⟨rfl,z⟩;rw[iO hd];refine zX ?_
     exact⟨l',D,I,S.stop (λq q0 Z hp=>by
      rcases (show q=2*k+1\/q=2*k+2 by omega)with rfl|rfl<;>omega),O,z⟩
   ·by_cases hd:(fA l' (2*k+1)).1<(fA l' k).1
    ·skip;refine yA ?_;refine dr rfl ?_;refine mr rfl rfl (L.less _ _ (2*k+2) (2*k+1) z om om) ?_;rintro _ w1 ⟨rfl,z⟩;rw[iO hc];refine zg ?_;refine mr rfl rfl (L.less _ _ (2*k+1) k z om om) ?_;rintro _ w2 ⟨rfl,z⟩;rw[fD hd];refine zg ?_;refine mr rfl rfl (L.swap _ _ k (2*k+1) z om om) ?_;rintro _ w3 ⟨rfl,z⟩;refine zg ?_
     exact⟨n-(2*k+1),om,2*k+1,_,rfl,sl,by rw[lK];exact D,λx=>(vl om om x).trans (I x),S.down om om om hd (λq q0 Z hp=>by
      rcases (show q=2*k+1\/q=2*k+2 by omega)with rfl|rfl
      ·exact ij _
      ·omega),J _ (.inl rfl) om,om,z⟩
    ·skip;refine zg ?_;rw[U];refine zg ?_;rw[V];refine zg ?_;refine dr rfl ?_;refine mr rfl rfl (L.less _ _ (2*k+2) (2*k+1) z om om) ?_;rintro _ w1 ⟨rfl,z⟩;rw[iO hc];refine zg ?_;refine mr rfl rfl (L.less _ _ (2*k+1) k z om om) ?_;rintro _ w2 ⟨rfl,z⟩;rw[iO hd];refine zX ?_
     exact⟨l',D,I,S.stop (λq q0 Z hp=>by
      rcases (show q=2*k+1\/q=2*k+2 by omega)with rfl|rfl<;>omega),O,z⟩
  ·by_cases hd:(fA l' (2*k+1)).1<(fA l' k).1
   ·skip;refine zg ?_;rw[U];refine zg ?_;rw[V];refine zg ?_;refine mr rfl rfl (L.less _ _ (2*k+1) k z om om) ?_;rintro _ w2 ⟨rfl,z⟩;rw[fD hd];refine zg ?_;refine mr rfl rfl (L.swap _ _ k (2*k+1) z om om) ?_;rintro _ w3 ⟨rfl,z⟩;refine zg ?_
    exact⟨n-(2*k+1),om,2*k+1,_,rfl,sl,by rw[lK];exact D,λx=>(vl om om x).trans (I x),S.down om om om hd (λq q0 Z hp=>by
     obtain rfl:q=2*k+1:=om;exact ij _),J _ (.inl rfl) om,om,z⟩
   ·skip;refine zg ?_;rw[U];refine zg ?_;rw[V];refine zg ?_;refine mr rfl rfl (L.less _ _ (2*k+1) k z om om) ?_;rintro _ w2 ⟨rfl,z⟩;rw[iO hd];refine zX ?_
    exact⟨l',D,I,S.stop (λq q0 Z hp=>by
     obtain rfl:q=2*k+1:=om;omega),O,z⟩
theorem WK(L:Aw prog t u jt H)(l:List mH)(W:World)(Z:qQ l l.length)(h0:0<l.length)(I:H l W) :
  Fn prog 194 [.iface t u] W (λv w'=>∃(x:mH)(l':List mH),v=.iface jt (.agg #[ii x.1,ii x.2])/\l'.length+1=l.length/\(∀y,y∈l↔y=x\/y∈l')/\(∀y∈l',x.1<=y.1)/\qQ l' l'.length/\H l' w'):=by
 have aa:=L.small _ _ I;refine zI func194 ?_;refine zg ?_;refine mr rfl rfl (L.len _ _ I) ?_;rintro _ w1 ⟨rfl,I⟩;refine zg ?_;rw[(om:((l.length:Nat):Int)-1=((l.length-1:Nat):Int))];refine zg ?_;refine mr rfl rfl (L.swap _ _ 0 (l.length-1) I om om) ?_;rintro _ w2 ⟨rfl,I⟩;refine zK (WJ L _ 0 (l.length-1) _ (xC.pop Z h0) om I) ?_;rintro v3 w3 ⟨l',D,J,U,V,I⟩;refine zg ?_;rw[lK]at D;refine mr rfl rfl (L.pop _ _ I om) ?_;rintro _ w4 ⟨rfl,I⟩;refine zg ?_;have z:fA l' (l'.length-1)=fA l 0:=by rw[D,V _ (fK _),o5 om om,a7 rfl]
 have O:=Z.min;have S:=OH (l:=l') (m:=l'.length-1) om;rw[z]at S;rw[z];refine ir rfl ⟨fA l 0,l'.take (l'.length-1),rfl,by rw[d7];omega,λy=>?_,λy hy=>?_,?_,I⟩
 ·rw[<-S y,J y,vl om om]
 ·have:y∈l:=by rw[<-vl (i:=0) (j:=l.length-1) om om,<-J];exact jj hy
  obtain⟨k,hk,rfl⟩:=ql.1 this;exact O k hk
 ·exact qQ.take (by rw[D];exact U)
end
end Go.Proofs.YtcalhocphkbbgaaGreatDoor
