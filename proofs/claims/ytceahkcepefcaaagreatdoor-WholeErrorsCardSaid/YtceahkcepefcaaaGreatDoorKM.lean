/- A part of the proof that hachuretop.WholeErrors returns true at every input; no condition. -/
import Derived.Lib.AppendZeros
import Derived.Test.YtceahkcepefcaaaGreatDoorKK
import Derived.Test.YtceahkcepefcaaaGreatDoorKL
import Derived.Lib.SlBytesConst
set_option maxRecDepth 100000
set_option maxHeartbeats 16000000
set_option linter.unusedVariables false
set_option linter.unusedSimpArgs false
namespace Go.Proofs.YtceahkcepefcaaaGreatDoor
open Go.Proofs.Tryz Go.RowKit
variable{Q:(Nat->Value)->World->Prop}{af:Array Edge}{ops:Array Oper}{tys:Array TypeId}{Q':Exit->Act->World->Prop}{f:FuncId}{h:HA}{a ax ay bx e0:Int}{kh kl kn:IntKind}{es:List (Int × Int)}{σ:List (Nat × Value)}{L1 M T:List HA}{hd ks:List Nat}{args:List Operand}{l l' l2 vs xs ys:List Value}{N b bytes c c1 c2 cB cur cy el g gh gw i j k k1 k2 m n n2 q t2 tb x0 x1 y0 y1:Nat}{c':Nat->Int}{F:Nat->Prop}{e:Nat->Value}{op:Op}{hi lo x:Operand}{A A1 A2 B l0:Option Addr}{d:Option Tmp}{P:Program}{t t' ty:TypeId}{u v3:Value}{R:Value->World->Prop}{W w w' wq:World}{C:World->Prop}
section
variable{ps:String}
def VX:BinOp->Bool
 |.and|.or|.xor=>true
 |_=>false
theorem gR{op:BinOp}{y:Operand}{k:IntKind}{b:Int}(v:VX op=true)(z:ev e x=.int k a)(D:ev e y=.int k b):iE P e ⟨d,.binOp op t x y t',ty,ps,af,none⟩ (.int k (bits op k a b)):=by
 intro w;cases op<;>first|(cases v;done)|simp[gd,execOp,z,D,eqGuard,binOp,intBits_and,intBits_or,intBits_xor]
theorem Pu{k:IntKind}(v:k.signed=false)(y:ev e x=.int k a):iE P e ⟨d,.unOp .xor t x,ty,ps,af,none⟩ (.int k (bits .xor k k.max a)):=by
 intro w;simp[gd,execOp,y,Op.unary,v,intBits_xor]
theorem Q9{k:IntKind}(v:k.signed=false)(n:Int):0<=k.wrap n/\k.wrap n<2^k.bits:=by
 have h:k.wrap n=n%(2^k.bits:Int):=by simp[IntKind.wrap,v]
 have y:(0:Int)<2^k.bits:=Int.pow_pos om;rw[h];exact⟨Int.emod_nonneg _ om,Int.emod_lt_of_pos _ y⟩
theorem DB{k:IntKind}(v:k.signed=false)(op:BinOp)(a b:Int):0<=bits op k a b/\bits op k a b<2^k.bits:=Q9 v _
theorem El(a:Int):0<=bits .and .u32 a 15/\bits .and .u32 a 15<16:=by
 have h:(BitVec.ofInt IntKind.u32.bits a&&& BitVec.ofInt IntKind.u32.bits 15).toNat<=15:=by
  rw[rE];exact Nat.and_le_right
 have e:bits .and .u32 a 15=IntKind.u32.wrap (((BitVec.ofInt IntKind.u32.bits a&&& BitVec.ofInt IntKind.u32.bits 15).toNat:Nat):Int):=rfl;rw[e,j3];omega
theorem Ng(y:0<=a)(h1:a<18446744073709551616):bits .xor .u64 a 0=a:=by
 unfold bits
 have h:(BitVec.ofInt IntKind.u64.bits a^^^BitVec.ofInt IntKind.u64.bits 0).toNat=a.toNat:=by
  have v:BitVec.ofInt IntKind.u64.bits 0=0#64:=rfl;rw[v];show(BitVec.ofInt 64 a^^^0#64).toNat=_;rw[BitVec.xor_zero,m8];omega
 show IntKind.u64.wrap (((BitVec.ofInt IntKind.u64.bits a^^^BitVec.ofInt IntKind.u64.bits 0).toNat:Nat):Int)=a;rw[h,gQ];omega
theorem Nh(y:0<=a)(h1:a<18446744073709551616):bits .xor .u64 a 18446744073709551615=18446744073709551615-a:=by
 unfold bits
 have h:(BitVec.ofInt IntKind.u64.bits a^^^BitVec.ofInt IntKind.u64.bits 18446744073709551615).toNat=18446744073709551615-a.toNat:=by
  have v:BitVec.ofInt 64 18446744073709551615=BitVec.allOnes 64:=by decide
  show(BitVec.ofInt 64 a^^^BitVec.ofInt 64 18446744073709551615).toNat=_;rw[v];show(BitVec.ofInt 64 a^^^BitVec.allOnes 64).toNat=_;rw[BitVec.xor_allOnes,BitVec.toNat_not,m8];omega
 show IntKind.u64.wrap (((BitVec.ofInt IntKind.u64.bits a^^^BitVec.ofInt IntKind.u64.bits 18446744073709551615).toNat:Nat):Int)=_;rw[h,gQ];omega
theorem xO{y:Operand}{a:Nat}{kx kd:IntKind}(D:ev e x=.int kx a)(I:ev e y=.int kd k)(J:k<=kx.bits):iE P e ⟨d,.binOp .shr t x y t',ty,ps,af,none⟩ (.int kx ((a/2^k:Nat):Int)):=by
 intro w;have h1:min (k:Int).toNat kx.bits=k:=by rw[b7];omega
 have h2:¬(k:Int)<0:=om
 have v:(a:Int).fdiv (2^k)=((a/2^k:Nat):Int):=by
  rw[jp _ (Int.le_of_lt (Int.pow_pos om))];push_cast;rfl
 have z:(binOp .shr t (.int kx a) (.int kd k)).run P w=.ok (.int kx ((a/2^k:Nat):Int)) w:=by
  simp only[b7]at h1;simp[binOp,Op.shift,h1,h2,v]
 simp[gd,execOp,D,I,eqGuard,z]
theorem H3{y:Operand}{kd:IntKind}(D:ev e x=ii a)(I:ev e y=.int kd 63)(h:-9223372036854775808<=a/\a<9223372036854775808):iE P e ⟨d,.binOp .shr t x y t',ty,ps,af,none⟩ (ii (if 0<=a then 0 else -1)):=by
 intro w
 have v:a.fdiv 9223372036854775808=if 0<=a then 0 else -1:=by
  rw[jp _ om];split<;>omega
 have z:(binOp .shr t (ii a) (.int kd 63)).run P w=.ok (ii (if 0<=a then 0 else -1)) w:=by
  simp[binOp,Op.shift,IntKind.bits,v]
 simp[gd,execOp,D,I,eqGuard,z]
theorem Pv{el:TypeId}(v:P.underlying t=some (.slice el))(y:ev e x=.slice A n c):iE P e ⟨d,.call ⟨.builtin .cap,#[x],#[t]⟩,ty,ps,af,none⟩ (ii c):=by
 intro w;simp[gd,execOp,resolve,invoke,builtin,Builtin.cap_,y,dS v,goInt]
end
def f9(l:List Int):List Value:=l.map λn=>.int .u8 n
theorem m4(l:List Int):(f9 l).length=l.length:=by simp[f9]
theorem F6(l:List Int):((f9 l).all λv=>v.oneCell')=true:=dh.2 λv y=>by
 simp only[f9,fC]at y;obtain⟨i,_,rfl⟩:=y;rfl
theorem KS(l m:List Int):f9 l++f9 m=f9 (l++m):=by simp[f9]
theorem wB(l:List Int)(n:Int):f9 l++[.int .u8 n]=f9 (l++[n]):=by simp[f9]
def Cv(mk:Value->Value)(n:Nat)(W:World):Value->World->Prop:=λv w=>∃l:List Int,l.length=n/\jc mk 5 1 n (f9 l) W v w
section
variable{l:List Int}
theorem nN:(prog.info? 5).map (λi=>(i.zero,i.size,i.bytes))=some (some (.int .u8 0),1,1):=by kernel_rfl
theorem AF(h0:0<l.length)(hm:l.length<=1099511627776)(z:Rd W A (f9 l)):Fn prog 205 [.slice A l.length c] W (jc id 5 1 l.length (f9 l) W):=by
 have O:=m4 l;have v:dO A:=z.someA om;obtain⟨Z,ao,rfl⟩:=v;have h1:=F6 l;have S:=St.start W;refine zI func205 ?_;refine zg ?_;refine cq (xF (B:=false) q8 rfl rfl) ?_;refine zg ?_;refine mv q8 gJ S ?_;intro D U L S y;refine zg ?_;refine fM (i:=0) S rfl (λh=>rfl) q8 nN rfl rfl rfl rfl (by rw[O,cG]) om (z.gr S.out) h1 om ?_;intro I J V S y;refine zg ?_;rw[jL]at S;rw[eH]at S ⊢;exact ir rfl (S.retNew (i:=0) rfl)
theorem Jo:Fn prog 205 [.slice none 0 0] W (dp (.slice none 0 0) W):=by
 have S:=St.start W;refine zI func205 ?_;refine zg ?_;refine cq (xF (B:=true) q8 rfl rfl) ?_;exact zZ
theorem F7(h:n<=c):Fn prog 309 [.slice A n c] W (dp (.slice A n n) W):=by
 have S:=St.start W;refine zI func309 ?_;refine zg ?_;refine cq (F5 q8 gJ rfl rfl rfl (cN _) h) ?_;exact zZ
end
theorem F8{rest:List Oper}{L:List HA}{ps:String}{s:Operand}{t:Nat}{z:Value}(S:St F W w L)(hu:P.underlying t=some (.slice el))(hI:(P.info? el).map (λi=>(i.zero,i.size,i.bytes))=some (some z,k,bytes))(hz:Nat.beq z.cells.size k=true)(hs:ev e s=.slice A n n)(hx:ev e x=.slice B m c2)(ab:xs.length=n*k)(hR:Rd w A xs)(aa:A=none->n=0)(ac:ys.length=m*k)(Z:0<m)(V:0<k)(U:Rd w B ys)(h1:(ys.all λv=>v.oneCell')=true)(hb:(n+m)*(bytes+1)<=140737488355328)(hr:∀O c' w',Gr w w'->St F W w' (.row el k O (n+m) c' (xs++ys)::L)->dO O->RW P ops Q rest (fI e d (.slice O (n+m) c')) w') :
  RW P ops Q (⟨d,.call ⟨.builtin .append,#[s,x],#[t,t]⟩,ty,ps,af,none⟩::rest) e w:=by
 obtain⟨g,c',w',I,D,y,ad⟩:=Ek (d:=d) (ty:=ty) (ps:=ps) (af:=af) (e:=e) hu hI hz hs hx ab hR aa ac Z V U h1 hb;refine wZ I (hr _ _ w' y (S.pushRow D (λb J=>?_) y) (pS _ _));injection J with J;have J:g=b:=J;omega
section
variable{l:List Int}
theorem AG{u:Nat}:IntKind.u8.wrap (u:Int)=((u%256:Nat):Int):=by rw[gD];omega
theorem H4(u:Nat)(hu:u<18446744073709551616)(hl:l.length<=1099511627776)(hA:(A=none/\c=0/\l=[])\/(0<l.length/\Rd W A (f9 l))) :
  Fn prog 307 [.slice A l.length c,.int .u64 u] W (Cv id (l.length+ur u) W):=by
 have al:=us 9 u om;have S:=St.start W;refine zI func307 ?_;refine z ?_;refine zc ?_;refine gP (M:=λe w=>∃(A:Option Addr)(L:List HA),SL e [(0,.slice A l.length l.length),(1,.int .u64 u)]/\(A=none->l.length=0)/\Rd w A (f9 l)/\St No W w L) ?_ ?_
 ·rcases hA with⟨rfl,rfl,rfl⟩|⟨h0,hR⟩
  ·skip;refine zC (Jo) ?_;intro aA aq S;refine zC (F7 (W:=_) (A:=none) (n:=0) (c:=0) (cN _)) ?_;intro aB ar S;refine zg ?_;exact⟨none,_,sl,λ_=>rfl,.inl rfl,S⟩
  ·skip;refine zK (AF (c:=c) h0 hl (hR.gr S.out)) ?_;rintro _ aC ⟨U,ad,rfl,aa,ab,ae⟩;have S:=S.pushRow aa ab ae;refine zC (F7 (W:=_) (A:=U) (n:=l.length) (c:=ad) (S.row (i:=0) rfl).cap) ?_;intro aD au S;refine zg ?_
   have ah:U=none->l.length=0:=λh=>by
    have:=(S.row (i:=0) rfl).someA om;rw[h]at this;obtain⟨_,_,h⟩:=this;cases h
   exact⟨U,_,sl,ah,S.rd (i:=0) rfl,S⟩
 ·rintro e1 w1 ⟨A1,L1,D,Z,ag,S⟩;rw[D.fold];refine zg ?_
  refine dl (λm e w=>∃x:Nat,m=x/\((x=u/\SL e [(0,.slice A1 l.length l.length),(1,.int .u64 x)]/\Rd w A1 (f9 l)/\St No W w L1) \/
    ∃(l':List Int)(A2:Option Addr)(c2:Nat),l'.length+ur x=l.length+ur u/\SL e [(0,.slice A2 l'.length c2),(1,.int .u64 x)]/\St No W w (.row 5 1 A2 l'.length c2 (f9 l')::L1))) u
   ⟨u,rfl,.inl ⟨rfl,sl,ag,S⟩⟩ ?_
  clear S;rintro m e w ⟨x,rfl,⟨rfl,D,hR,S⟩|⟨l',A2,c2,O,D,S⟩⟩
  ·rw[D.fold];by_cases hx:128<=m
   ·have V:=yj hx;refine zg ?_;refine cq (s9 rfl rfl (B:=true) (by simp;omega)) ?_;refine zg ?_;refine Y9 (n:=m) rfl AG ?_;refine cq (gR (op:=.or) rfl rfl rfl) ?_;refine yb S ?_;intro y aE av S v;refine F8 S q8 nN rfl rfl rfl (by rw[m4,cG]) (hR.gr (by assumption)) Z rfl om om (S.rd (i:=0) rfl) rfl om ?_;intro A2 c2 w2 g2 S ai;refine zg ?_;refine cq (xO (kx:=.u64) (a:=m) (k:=7) rfl rfl (by decide)) ?_;refine zg ?_;rw[wB]at S;exact⟨m/128,om,_,rfl,.inr ⟨l++[bits .or .u8 ((m%256:Nat):Int) 128],A2,c2,by rw[cP,iV];omega,⟨se (by simp) rfl,rfl,trivial⟩,by simpa using S.sub (.cons_cons _ (.cons _ (cQ _)))⟩⟩
   ·have V:=vI (u:=m) om;refine zg ?_;refine cq (s9 rfl rfl (B:=false) (by simp;omega)) ?_;refine zg ?_;refine Y9 (n:=m) rfl AG ?_;refine yb S ?_;intro y aF aw S v;refine F8 S q8 nN rfl rfl rfl (by rw[m4,cG]) (hR.gr (by assumption)) Z rfl om om (S.rd (i:=0) rfl) rfl om ?_;intro A2 c2 w2 g2 S ai;refine zg ?_;rw[wB]at S;rw[V];exact ir rfl ⟨_,by simp,S.retNew (i:=0) rfl⟩
  ·have az:=Dt m;rw[D.fold];by_cases hx:128<=m
   ·have V:=yj hx;refine zg ?_;refine cq (s9 rfl rfl (B:=true) (by simp;omega)) ?_;refine zg ?_;refine Y9 (n:=m) rfl AG ?_;refine cq (gR (op:=.or) rfl rfl rfl) ?_;refine yb S ?_;intro y am aj S v;refine ZP 1 0 S ?_;intro I J an S ac;refine zg ?_;refine cq (xO (kx:=.u64) (a:=m) (k:=7) rfl rfl (by decide)) ?_;refine zg ?_;rw[wB]at S;exact⟨m/128,om,_,rfl,.inr ⟨l'++[bits .or .u8 ((m%256:Nat):Int) 128],I,J,by rw[cP,iV];omega,⟨se (by simp) rfl,rfl,trivial⟩,by simpa using S.drop 1⟩⟩
   ·have V:=vI (u:=m) om;refine zg ?_;refine cq (s9 rfl rfl (B:=false) (by simp;omega)) ?_;refine zg ?_;refine Y9 (n:=m) rfl AG ?_;refine yb S ?_;intro y ao ak S v;refine ZP 1 0 S ?_;intro I J ap S ac;refine zg ?_;rw[wB]at S;rw[V]at O;rw[<-O];exact ir rfl ⟨_,by simp,S.retNew (i:=1) rfl⟩
end
theorem Cw{ps:String}{y:Operand}{b:Int}{B:Bool}(z:ev e x=.int .u64 a)(D:ev e y=.int .u64 b)(v:(a !=b)=B):iE P e ⟨d,.binOp .neq t x y t',ty,ps,af,none⟩ (.bool B):=by
 intro w;subst v;simp[gd,execOp,z,D,eqGuard,binOp,Op.intCmp]
section
variable{l:List Int}
theorem Ni(x:Int)(h:-4294967296<=x/\x<=4294967296):Fn prog 308 [ii x] W (dp (.int .u64 (sW x)) W):=by
 have S:=St.start W;refine zI func308 ?_;by_cases v:0<=x
 ·have y:((sW x:Nat):Int)=2*x:=by unfold sW;rw[a7 v];omega
  refine zg ?_;refine Y9 (n:=x) (m:=x) rfl (by rw[gQ];omega) ?_;refine cq (vz (c:=2*x) rfl rfl (by decide) (by show IntKind.u64.wrap (x*2)=_;rw[gQ];omega)) ?_;refine zg ?_;refine cq (H3 rfl rfl om) ?_;refine Y9 (n:=if 0<=x then 0 else -1) (m:=0) rfl (by rw[a7 v];decide) ?_;refine cq (gR (op:=.xor) rfl rfl rfl) ?_;rw[Ng om om];refine zX ?_;exact⟨by rw[y],S.out⟩
 ·have y:((sW x:Nat):Int)=-2*x-1:=by unfold sW;rw[a8 v];omega
  refine zg ?_;refine Y9 (n:=x) (m:=18446744073709551616+x) rfl (by rw[gQ];omega) ?_;refine cq (vz (c:=18446744073709551616+2*x) rfl rfl (by decide) (by show IntKind.u64.wrap ((18446744073709551616+x)*2)=_;rw[gQ];omega)) ?_;refine zg ?_;refine cq (H3 rfl rfl om) ?_;refine Y9 (n:=if 0<=x then 0 else -1) (m:=18446744073709551615) rfl (by rw[a8 v];decide) ?_;refine cq (gR (op:=.xor) rfl rfl rfl) ?_;rw[Nh om om];refine zX ?_;exact⟨by rw[y];congr 1;omega,S.out⟩
theorem VY(k u:Nat)(hk:1<=k/\k<8)(hu:u<2^(8*k))(hl:0<l.length/\l.length<=1099511627776)(hA:Rd W A (f9 l)) :
  Fn prog 296 [.slice A l.length c,ii k,.int .u64 u] W (Cv (λs=>.tuple #[s,ii 0]) (l.length+k) W):=by
 have e8:(8:Int)*k=((8*k:Nat):Int):=om;have hz:((u/2^(8*k):Nat):Int)=0:=by rw[ee hu];rfl
 have S:=St.start W;refine zI func296 ?_;(iterate 3 refine z ?_);refine zf ?_;refine z ?_;refine z ?_;refine zf ?_;(iterate 3 refine z ?_);refine zt ?_;iterate 3 refine z ?_
 refine dr rfl ?_;refine cq (fh rfl om) ?_;rw[e8];refine dr rfl ?_;refine cq (xO (kx:=.u64) (a:=u) (k:=8*k) rfl rfl (by show 8*k<=64;omega)) ?_;refine dr rfl ?_;refine cq (Cw (B:=false) rfl rfl (by rw[hz];rfl)) ?_;refine zK (AF (c:=c) hl.1 hl.2 (hA.gr S.out)) ?_;rintro _ ak ⟨v,L,rfl,V,Z,ab⟩;have S:=S.pushRow V Z ab;refine zC (F7 (W:=_) (A:=v) (n:=l.length) (c:=L) (S.row (i:=0) rfl).cap) ?_;intro al ae S;refine zg ?_
 have ac:v=none->l.length=0:=λh=>by
  have:=(S.row (i:=0) rfl).someA hl.1;rw[h]at this;obtain⟨_,_,h⟩:=this;cases h
 have U:=S.rd (i:=0) rfl
 refine dl (λm e w=>∃i:Nat,i+m=k/\((i=0/\SL e [(0,.slice v l.length l.length),(2,.int .u64 u),(29,ii k),(30,ii i)]/\Rd w v (f9 l)/\St No W w [.row 5 1 v l.length L (f9 l)]) \/
   ∃(l':List Int)(A2:Option Addr)(c2:Nat),l'.length=l.length+i/\SL e [(0,.slice A2 l'.length c2),(2,.int .u64 u),(29,ii k),(30,ii i)]/\St No W w [.row 5 1 A2 l'.length c2 (f9 l')])) k
  ⟨0,om,.inl ⟨rfl,sl,U,S⟩⟩ ?_
 clear S U;rintro m e w ⟨i,hi,⟨rfl,I,hR,S⟩|⟨l',A2,c2,aa,I,S⟩⟩
 ·rw[I.fold];have e0:(8:Int)*((0:Nat):Int)=((8*0:Nat):Int):=rfl;refine zg ?_;rw[e0];refine cq (xO (kx:=.u64) (a:=u) (k:=8*0) rfl rfl (by decide)) ?_;refine Y9 rfl AG ?_;refine yb S ?_;intro D am ag S y;refine F8 S q8 nN rfl rfl rfl (by rw[m4,cG]) (hR.gr (by assumption)) ac rfl om om (S.rd (i:=0) rfl) rfl om ?_;intro A2 c2 w2 g2 S aj;refine zg ?_;rw[wB]at S;exact⟨k-1,om,1,om,.inr ⟨l++[((u/2^(8*0)%256:Nat):Int)],A2,c2,by simp,⟨se (by simp) rfl,rfl,rfl,rfl,trivial⟩,by simpa using S.sub (.cons_cons _ (.cons _ (.cons _ .slnil)))⟩⟩
 ·rw[I.fold];by_cases ai:i<k
  ·have e0:(8:Int)*(i:Int)=((8*i:Nat):Int):=om;refine zg ?_;rw[e0];refine cq (xO (kx:=.u64) (a:=u) (k:=8*i) rfl rfl (by show 8*i<=64;omega)) ?_;refine Y9 rfl AG ?_;refine yb S ?_;intro D an ah S y;refine ZP 1 0 S ?_;intro J O ao S ad;refine zg ?_;rw[wB]at S;exact⟨m-1,om,i+1,om,.inr ⟨l'++[((u/2^(8*i)%256:Nat):Int)],J,O,by simp;omega,⟨se (by simp) rfl,rfl,rfl,rfl,trivial⟩,by simpa using S.drop 1⟩⟩
  ·obtain rfl:i=k:=om;refine zg ?_;rw[<-aa];exact nd rfl rfl ⟨_,rfl,S.retNew (i:=0) (mk:=λs=>.tuple #[s,ii 0]) rfl⟩
theorem VZ(k u:Nat)(U:1<=k/\k<8)(I:u<2^(8*k))(V:0<l.length/\l.length<=1099511627776)(L:Rd W A (f9 l)) :
  Fn prog 277 [.slice A l.length c,ii k,ii u] W (Cv id (l.length+k) W):=by
 have J:u<2^64:=fg I (fP om om);have O:IntKind.u64.wrap (u:Int)=u:=re _ om;have S:=St.start W;refine zI func277 ?_;refine zg ?_;refine Y9 (n:=u) (m:=u) rfl O ?_;refine zK (VY (c:=c) k u U I V (L.gr S.out)) ?_;rintro _ Z ⟨l2,D,A2,c2,rfl,y,z,v⟩;have S:=S.pushRow y z v;refine zX ?_;exact⟨l2,D,S.retNew (i:=0) rfl⟩
theorem Nj(w:World)(n:Nat)(U:0<n/\n<=1099511627776):∃g z w',(Builtin.append_ #[28,3] 28 #[.slice none 0 0,ii n]).run prog w=.ok (.slice (some ⟨g,0,none⟩) n z) w'/\gH w' 5 1 (some ⟨g,0,none⟩) 0 z []/\Gr w w'/\w.heap.size<=g/\n<=z:=by
 obtain⟨S,v,J,L,O⟩:=nG nN;have y:=Lib.run_append_nil_zeros (P:=prog) w 28 3 28 5 S _ .i64 .i64 q8 dB v J n om (by rw[L];decide) om (by rw[O];omega);have I:=grownCap_ge w n 0 5;have D:grownCap w n 0 5<=maxLen:=p9 w n 0 5 (by unfold maxLen;omega);refine⟨_,_,_,y,gH.mk_ (l:=(Builtin.zeroCells (Value.int .u8 0).cells n++Builtin.zeroCells (Value.int .u8 0).cells (grownCap w n 0 5-n)).toList) ?_ (ib _) ?_ ?_ D,(Gr.drew w).trans (Gr.alloc _ _),cN _,I⟩
 ·unfold eL;rw[o6];exact nH w.drew _
 ·rw[pC,qH,nF,nF];show n*1+(grownCap w n 0 5-n)*1=grownCap w n 0 5*1;omega
 ·rw[iD,List.take_zero]
theorem TQ(n:Nat)(V:0<n/\n<=1099511627776):Fn prog 278 [.slice none 0 0,ii n] W (λv w'=>∃A c,v=.slice A 0 c/\gH w' 5 1 A 0 c []/\tr W A/\Gr W w'):=by
 have e0:(n:Int)-(((0:Nat):Int)-((0:Nat):Int))=n:=om;have S:=St.start W;refine zI func278 ?_;refine zg ?_;refine cq (Pv q8 rfl) ?_;refine zg ?_;rw[e0];refine zg ?_;refine cq (Pv q8 rfl) ?_;refine cq (jb q8 gJ rfl rfl om om) ?_;refine zg ?_;obtain⟨I,D,Z,O,J,L,y,U⟩:=Nj _ n V;refine wZ (v:=.slice (some ⟨I,0,none⟩) n D) (w':=Z) (by simp[execOp,resolve,invoke,builtin,ev,xW,qJ,fI];rw[O];rfl) ?_;have S:=S.gr L;refine zg ?_;refine cq (jb q8 gJ rfl rfl om om) ?_;refine zg ?_;refine ir rfl ⟨_,_,rfl,J,λb z=>?_,S.out⟩;injection z with z;have z:I=b:=z;have y:W.heap.size<=I:=y;omega
structure BR where
 A:Option Addr
 c:Nat
 l:List Int
variable{ls:List BR}
def BR.v(q:BR):Value:=.slice q.A q.l.length q.c
def yO(ls:List BR):List Value:=ls.map BR.v
theorem Ra(ls:List BR):(yO ls).length=ls.length:=by simp[yO]
theorem H5{q:BR}(h:ls[i]?=some q):(yO ls)[i]?=some (.slice q.A q.l.length q.c):=by
 unfold yO;rw[da,h];rfl
def mj(ls:List BR):List Int:=ls.flatMap BR.l
theorem F9{q:BR}(h:ls[i]?=some q):mj (ls.take (i+1))=mj (ls.take i)++q.l:=by
 unfold mj;rw[kK,h];simp
theorem BH(hB:Rd W B (yO ls))(hq:∀q∈ls,0<q.l.length/\Rd W q.A (f9 q.l))(h0:0<ls.length)(hn:ls.length<=1048576)(hm:(mj ls).length<=1099511627776) :
  Fn prog 228 [.slice B ls.length cB] W (jc id 5 1 (mj ls).length (f9 (mj ls)) W):=by
 have ah:dO B:=hB.someA (by rw[Ra];omega)
 have ab:∀i,(mj (ls.take i)).length<=(mj ls).length:=λi=>by
  have:mj ls=mj (ls.take i)++mj (ls.drop i):=by unfold mj;rw[<-kZ,lV]
  rw[this,cP];omega
 have S:=St.start W;refine zI func228 ?_;refine zg ?_
 refine dl (λm e w=>∃i:Nat,i+m=ls.length/\SL e [(0,.slice B ls.length cB),(3,ii (mj (ls.take i)).length),(9,.slice B ls.length cB),(10,ii ls.length),(11,ii i)]/\St No W w []) ls.length
  ⟨0,om,sl,S⟩ ?_
 clear S;rintro m e w ⟨i,hi,L,S⟩;rw[L.fold];by_cases J:i<ls.length
 ·obtain⟨q,v⟩:∃q,ls[i]?=some q:=⟨_,ct J⟩;have hg:=H5 v;have O:=F9 v;have D:=ab (i+1);rw[O,cP]at D;have I:(yO ls)[(i:Int).toNat * 1]?=some (.slice q.A q.l.length q.c):=by rw[b7,cG];exact hg
  refine zT (hB.gr S.out) I ?_;refine zg ?_;exact⟨m-1,om,i+1,om,⟨rfl,ie (by rw[O,cP];omega),rfl,rfl,rfl,trivial⟩,S⟩
 ·obtain rfl:i=ls.length:=om;rw[i6]
  have hp:0<(mj ls).length:=by
   obtain⟨q,r,rfl⟩:∃q r,ls=q::r:=by
    cases ls with
    |nil=>simp at h0
    |cons q r=>exact⟨q,r,rfl⟩
   have:=(hq q (by simp)).1;unfold mj;rw[fe,cP];omega
  refine zK (TQ (W:=w) (mj ls).length ⟨hp,hm⟩) ?_;rintro _ ak ⟨y,z,rfl,Z,aa,ad⟩;have S:=S.pushRow Z aa ad;refine zg ?_
  refine dl (λm e w=>∃(i:Nat)(y:Option Addr)(z:Nat),i+m=ls.length/\SL e [(6,.slice y (mj (ls.take i)).length z),(25,.slice B ls.length cB),(26,ii ls.length),(27,ii i)]/\St No W w [.row 5 1 y (mj (ls.take i)).length z (f9 (mj (ls.take i)))]) ls.length
   ⟨0,y,z,om,sl,S⟩ ?_
  clear S;rintro m e w ⟨i,y,z,hi,L,S⟩;rw[L.fold];by_cases J:i<ls.length
  ·obtain⟨q,v⟩:∃q,ls[i]?=some q:=⟨_,ct J⟩;have hg:=H5 v;have O:=F9 v;have D:=ab (i+1);rw[O,cP]at D;have I:(yO ls)[(i:Int).toNat * 1]?=some (.slice q.A q.l.length q.c):=by rw[b7,cG];exact hg
   obtain⟨aj,ae⟩:=hq q (dD v);have ag:=F6 q.l;refine zT (hB.gr S.out) I ?_;refine zg ?_;refine fM (i:=0) S rfl (λh=>rfl) q8 nN rfl rfl rfl rfl (by rw[m4,cG]) om (ae.gr S.out) ag om ?_;intro U V al S ai;refine zg ?_;rw[KS,<-O]at S;have ac:(mj (ls.take i)).length+q.l.length=(mj (ls.take (i+1))).length:=by rw[O,cP]
   rw[ac]at S;exact⟨m-1,om,i+1,U,V,om,⟨se ac rfl,rfl,rfl,rfl,trivial⟩,S⟩
  ·obtain rfl:i=ls.length:=om;rw[i6];rw[i6]at S;refine zX ?_;exact(S.retNew (i:=0) rfl)
end
variable{ls:List BR}
def uA(A:Option Addr)(n r:Nat):Option Addr:=if r=0 then A else A.map λa=>a.add n
theorem Rd.off(h:Rd w A xs){len cap:Nat}(D:xs.length=len*k)(L:m<=len)(J:len<=cap):Rd w (uA A (m*k) (cap-m)) (xs.drop (m*k)):=by
 unfold uA;split
 ·have e:xs.drop (m*k)=[]:=List.drop_eq_nil_iff.2 (by rw[D,(om:len=m)];exact cN _);rw[e];exact .inl rfl
 ·rcases h with rfl|⟨b,o,rfl,z,I⟩
  ·exact .inl (List.drop_nil)
  ·refine .inr ⟨b,o+m*k,?_,z,λj v y=>?_⟩
   ·exact congrArg some (js b o (m*k))
   ·rw[jD]at y;rw[mI];exact I _ v y
theorem Rd.tk(h:Rd w A xs)(n:Nat):Rd w A (xs.take n):=by
 rcases h with rfl|⟨b,o,z,D,I⟩
 ·exact .inl List.take_nil
 ·refine .inr ⟨b,o,z,D,λj v y=>I j v ?_⟩;rw[fJ]at y;split at y
  ·exact y
  ·cases y
section
variable{ps:String}
theorem vN{y:Operand}{k:IntKind}{b:Int}{B:Bool}(z:ev e x=.int k a)(D:ev e y=.int k b)(v:(a==b)=B):iE P e ⟨d,.binOp .eql t x y t',ty,ps,af,none⟩ (.bool B):=by
 intro w;subst v;simp[gd,execOp,z,D,eqGuard,binOp,Op.intCmp]
theorem Jq{el:TypeId}{len cap:Nat}(I:P.underlying t=some (.slice el))(L:∀w,(sizeOf el).run P w=.ok k w)(J:ev e x=.slice A len cap)(D:ev e lo=.int kl m)(h1:m<=len)(O:len<=cap) :
  iE P e ⟨d,.slice t x (some lo) none none,ty,ps,af,none⟩ (.slice (uA A (m*k) (cap-m)) (len-m) (cap-m)):=by
 intro w;have v:(m:Int)<=len:=om;unfold uA;by_cases z:cap-m=0
 ·simp[gd,execOp,J,D,Instr.sliceAt,Instr.slice,dS I,Instr.sliceBounds,j0,v,L,z];intro h;omega
 ·have y:¬cap<=m:=om;simp[gd,execOp,J,D,Instr.sliceAt,Instr.slice,dS I,Instr.sliceBounds,j0,v,L,z,y];intro h;omega
theorem Gb{el:TypeId}{len cap:Nat}(L:P.underlying t=some (.slice el))(S:∀w,(sizeOf el).run P w=.ok k w)(O:ev e x=.slice A len cap)(J:ev e lo=.int kl m)(I:ev e hi=.int kh n)(h1:m<=n)(h2:n<=cap) :
  iE P e ⟨d,.slice t x (some lo) (some hi) none,ty,ps,af,none⟩ (.slice (uA A (m*k) (cap-m)) (n-m) (cap-m)):=by
 intro w;have v:(m:Int)<=n:=om;have y:(n:Int)<=cap:=om;unfold uA;by_cases D:cap-m=0
 ·simp[gd,execOp,O,J,I,Instr.sliceAt,Instr.slice,dS L,Instr.sliceBounds,j0,v,y,S,D];intro h;omega
 ·have z:¬cap<=m:=om;simp[gd,execOp,O,J,I,Instr.sliceAt,Instr.slice,dS L,Instr.sliceBounds,j0,v,y,S,D,z];intro h;omega
end
theorem Rg(l:List Int)(n:Nat):(f9 l).drop (n*1)=f9 (l.drop n):=by unfold f9;rw[cG,List.map_drop]
theorem tK(l:List Int)(n:Nat):(f9 l).take n=f9 (l.take n):=by unfold f9;rw[List.map_take]
theorem Rd.off8{l:List Int}{cap:Nat}(h:Rd w A (f9 l))(y:m<=l.length)(v:l.length<=cap):Rd w (uA A (m*1) (cap-m)) (f9 (l.drop m)):=by
 have:=h.off (k:=1) (len:=l.length) (m:=m) (cap:=cap) (by rw[m4,cG]) y v;rwa[Rg]at this
theorem Cx{l:List Int}(h:i<l.length):(f9 l)[(i:Int).toNat * 1]?=some (.int .u8 l[i]):=by
 rw[b7,cG];unfold f9;rw[da,ct h];rfl
section
variable{l:List Int}
theorem H7(n:Nat)(hn:n<=l.length)(hc:l.length<=c)(hm:l.length<=1099511627776)(hA:Rd W A (f9 l)) :
  Fn prog 263 [.slice A l.length c,ii n] W (λv w'=>∃u nx e:Int,v=.tuple #[.int .u64 u,ii nx,ii e]/\(0<=u/\u<18446744073709551616)/\(e=0->∃k:Nat,nx=k/\n<k/\k<=l.length)/\Gr W w'):=by
 have hb:∀op a b,0<=bits op .u64 a b/\bits op .u64 a b<18446744073709551616:=λop a b=>DB (k:=.u64) rfl op a b
 have hD:=hA.off8 hn hc
 generalize hA2:uA A (n*1) (c-n)=A2 at hD
 have hl2:l.length-n=(l.drop n).length:=by rw[i8]
 generalize hd:l.drop n=d at *
 have S:=St.start W
 refine zI func263 ?_
 refine zg ?_
 refine cq (Jq q8 gJ rfl rfl hn hc) ?_
 rw[hA2,hl2]
 refine zg ?_
 refine dl (λm e w=>∃(i:Nat)(u:Int),i+m=d.length/\(0<=u/\u<18446744073709551616)/\SL e [(1,ii n),(7,.int .u64 u),(20,.slice A2 d.length (c-n)),(21,ii d.length),(22,ii i)]/\St No W w []) d.length
  ⟨0,0,om,om,⟨rfl,rfl,rfl,rfl,rfl,trivial⟩,S⟩ ?_
 clear S
 rintro m e w ⟨i,u,hi,hu,hsl,S⟩
 rw[hsl.fold]
 rcases cr (i<d.length)with hlt|hlt
 ·have sa_B:dO A2:=hD.someA (by rw[m4];omega)
  have hget:=Cx hlt
  generalize d[i]=b at hget
  rcases cr (i=9/\1<b)with h9|h9
  ·skip
   refine yX ?_
   exact⟨0,0,13,rfl,om,(λh=>absurd h (by decide)),S.out⟩
  ·rcases cr (b<128)with h128|h128
   ·rcases cr (b=0/\0<i)with h0|h0
    ·have hb0:=h0.1
     rcases cr (i=9)with h|h
     all_goals
      refine zT (hD.gr S.out) hget ?_
      refine zg ?_
      refine cq (gR (op:=.and) rfl rfl rfl) ?_
      refine Y9 (n:=bits .and .u8 b 127) rfl rfl ?_
      refine zg ?_
      refine cq (vz rfl rfl om rfl) ?_
      refine cq (gR (op:=.or) rfl rfl rfl) ?_
      refine z ?_;refine z ?_
      refine cq (uz (B:=true) rfl rfl (cF om)) ?_
      refine z ?_
      first|refine cq (vN (B:=true) rfl rfl (fX.2 om)) ?_|refine cq (vN (B:=false) rfl rfl (et.2 om)) ?_
      refine zX ?_
      exact⟨0,0,13,rfl,om,(λh=>absurd h (by decide)),S.out⟩
    ·have hr:(n:Int)+(i:Int)+1=((n+i+1:Nat):Int):=om
     have hle:n+i+1<=l.length:=om
     rcases cr (i=9)with h|h
     all_goals
      rcases cr (b=0)with hb0|hb0
     all_goals
      refine zT (hD.gr S.out) hget ?_
      iterate 3 refine z ?_
      first|refine cq (ff (b:=false) rfl (cC om)) ?_|refine cq (ff (b:=true) rfl (cF om)) ?_
      refine z ?_;refine z ?_
      first|refine eD rfl ?_|(refine dr rfl ?_;first|refine cq (qA (B:=true) rfl rfl (cF om)) ?_|refine cq (qA (B:=false) rfl rfl (cC om)) ?_)
      iterate 3 refine z ?_
      refine cq (gR (op:=.and) rfl rfl rfl) ?_
      refine Y9 (n:=bits .and .u8 b 127) rfl rfl ?_
      refine zg ?_
      refine cq (vz rfl rfl om rfl) ?_
      refine cq (gR (op:=.or) rfl rfl rfl) ?_
      refine z ?_;refine z ?_
      refine cq (uz (B:=true) rfl rfl (cF om)) ?_
      refine z ?_
      first|refine cq (vN (B:=true) rfl rfl (fX.2 om)) ?_|refine cq (vN (B:=false) rfl rfl (et.2 om)) ?_
      refine z ?_;refine z ?_
      first|refine eD rfl ?_|(refine dr rfl ?_;first|refine cq (ff (b:=false) rfl (cC om)) ?_|refine cq (ff (b:=true) rfl (cF om)) ?_)
      (iterate 4 refine z ?_);(iterate 2 refine zr ?_);iterate 3 refine z ?_
      refine zq ?_
      exact tE rfl rfl rfl ⟨_,_,0,rfl,hb .or _ _,(λ_=>⟨n+i+1,hr,om,hle⟩),S.out⟩
   ·rcases cr (i=9)with h|h
    all_goals
     refine zT (hD.gr S.out) hget ?_
     iterate 3 refine z ?_
     first|refine cq (ff (b:=false) rfl (cC om)) ?_|refine cq (ff (b:=true) rfl (cF om)) ?_
     refine z ?_;refine z ?_
     first|refine eD rfl ?_|(refine dr rfl ?_;first|refine cq (qA (B:=true) rfl rfl (cF om)) ?_|refine cq (qA (B:=false) rfl rfl (cC om)) ?_)
     iterate 3 refine z ?_
     refine cq (gR (op:=.and) rfl rfl rfl) ?_
     refine Y9 (n:=bits .and .u8 b 127) rfl rfl ?_
     refine zg ?_
     refine cq (vz rfl rfl om rfl) ?_
     refine cq (gR (op:=.or) rfl rfl rfl) ?_
     refine z ?_;refine z ?_
     refine cq (uz (B:=false) rfl rfl (cC om)) ?_
     refine zg ?_
     exact⟨m-1,om,i+1,_,om,hb .or _ _,⟨rfl,rfl,rfl,rfl,rfl,trivial⟩,S⟩
 ·skip
  refine zX ?_
  exact⟨0,0,14,rfl,om,(λh=>absurd h (by decide)),S.out⟩
end
section
variable{ps:String}
theorem rT{y:Operand}{kx kd:IntKind}(D:ev e x=.int kx a)(I:ev e y=.int kd k)(z:k<=kx.bits)(v:0<=a):iE P e ⟨d,.binOp .shr t x y t',ty,ps,af,none⟩ (.int kx (a/2^k)):=by
 obtain⟨n,rfl⟩:=cJ v;have h:=xO (P:=P) (d:=d) (ty:=ty) (ps:=ps) (af:=af) (t:=t) (t':=t') (kx:=kx) (a:=n) (k:=k) D I z;rwa[show((n/2^k:Nat):Int)=(n:Int)/2^k by push_cast;rfl]at h
end
def jX(w:World):Prop:=∃tb:List Int,tb.length=16/\Rd w (some ⟨1,0,none⟩) (tb.map λn=>Value.int .u32 n)
theorem jX.gr(h:jX w)(g:Gr w w'):jX w':=by
 obtain⟨tb,h1,h2⟩:=h;exact⟨tb,h1,h2.gr g⟩
theorem Gc{tb:List Int}(h:tb.length=16)(y:Rd w (some ⟨1,0,none⟩) (tb.map λn=>Value.int .u32 n))(z:k<16):∃n:Int,w.cell? ⟨1,0+k*1,none⟩=some (.int .u32 n):=by
 have v:k<tb.length:=om;refine⟨tb[k],?_⟩;rw[cG];exact y.cell rfl (by rw[da,ct v];rfl)
section
variable{l:List Int}
theorem Nm(hT:jX W)(hm:l.length<=1073741824)(hA:Rd W A (f9 l)):Fn prog 260 [.int .u32 0,.slice A l.length c] W (λv w'=>∃s:Int,(0<=s/\s<4294967296)/\v=.int .u32 s/\Gr W w'):=by
 have y:∀op a b,0<=bits op .u32 a b/\bits op .u32 a b<4294967296:=λop a b=>DB (k:=.u32) rfl op a b;obtain⟨tb,I,J⟩:=hT;have S:=St.start W;refine zI func260 ?_;refine zg ?_;refine cq (Pu rfl rfl) ?_;refine zg ?_
 refine dl (λm e w=>∃(i:Nat)(s:Int),i+m=l.length/\(0<=s/\s<4294967296)/\SL e [(0,.int .u32 s),(9,.slice A l.length c),(10,ii l.length),(11,ii i)]/\St No W w []) l.length
  ⟨0,_,om,y .xor IntKind.u32.max 0,sl,S⟩ ?_
 clear S;rintro m e w ⟨i,s,hi,hs,ae,S⟩;rw[ae.fold];by_cases V:i<l.length
 ·have ag:dO A:=hA.someA (by rw[m4];omega)
  have hg:(f9 l)[(i:Int).toNat * 1]?=some (.int .u8 l[i]):=by
   rw[b7,cG];unfold f9;rw[da,ct V];rfl
  generalize l[i]=b at hg;have Z:=y .xor s (IntKind.u32.wrap b);generalize ac:bits .xor .u32 s (IntKind.u32.wrap b)=L at Z;have z:=El L;obtain⟨t1,O⟩:=Gc I (J.gr S.out) (k:=(bits .and .u32 L 15).toNat) om;have aa:=y .xor (L/2^4) t1;generalize ad:bits .xor .u32 (L/2^4) t1=s2 at aa;have D:=El s2;obtain⟨t2,U⟩:=Gc I (J.gr S.out) (k:=(bits .and .u32 s2 15).toNat) om;have ab:=y .xor (s2/2^4) t2;refine zT (hA.gr S.out) hg ?_;refine zg ?_;refine Y9 (n:=b) rfl rfl ?_;refine cq (gR (op:=.xor) rfl rfl rfl) ?_;rw[ac];refine zg ?_;refine cq (rT (k:=4) rfl rfl (by decide) om) ?_;refine zg ?_;refine cq (gR (op:=.and) rfl rfl rfl) ?_;refine cq (yV aae sizeOf168 rfl rfl z.1 z.2) ?_;refine dH (xE Zr rfl rfl O) ?_;refine cq (gR (op:=.xor) rfl rfl rfl) ?_;rw[ad];refine zg ?_;refine cq (rT (k:=4) rfl rfl (by decide) om) ?_;refine zg ?_;refine cq (gR (op:=.and) rfl rfl rfl) ?_;refine cq (yV aae sizeOf168 rfl rfl D.1 D.2) ?_;refine dH (xE Zr rfl rfl U) ?_;refine cq (gR (op:=.xor) rfl rfl rfl) ?_;refine zg ?_;exact⟨m-1,om,i+1,_,om,ab,sl,S⟩
 ·obtain rfl:i=l.length:=om;refine zg ?_;refine cq (Pu rfl rfl) ?_;refine zX ?_;exact⟨_,y _ _ _,rfl,S.out⟩
theorem H8(D:jX W)(I:l.length<=1073741824)(z:Rd W A (f9 l)):Fn prog 204 [.slice A l.length c] W (λv w'=>∃s:Int,(0<=s/\s<4294967296)/\v=.int .u32 s/\Gr W w'):=by
 have S:=St.start W;refine zI func204 ?_;refine zK (Nm (c:=c) (D.gr S.out) I (z.gr S.out)) ?_;rintro _ L ⟨s,J,rfl,y⟩;have S:=S.gr y;refine zX ?_;exact⟨s,J,rfl,S.out⟩
theorem Gd(s:Int)(v:0<=s/\s<4294967296):Fn prog 203 [.int .u32 s] W (Cv id 4 W):=by
 have S:=St.start W;refine zI func203 ?_;refine zg ?_;refine Y9 (n:=s) rfl rfl ?_;refine zg ?_;refine cq (rT (k:=8) rfl rfl (by decide) v.1) ?_;refine Y9 rfl rfl ?_;refine zg ?_;refine cq (rT (k:=16) rfl rfl (by decide) v.1) ?_;refine Y9 rfl rfl ?_;refine zg ?_;refine cq (rT (k:=24) rfl rfl (by decide) v.1) ?_;refine Y9 rfl rfl ?_;refine yb S ?_;intro z I D S y;refine zX ?_;exact⟨[_,_,_,_],rfl,S.retNew (i:=0) rfl⟩
theorem W6{v l2:List Int}(h:l2.length=n2)(y:Rd w B [.slice A1 v.length c1,.slice A2 n2 c2]):Rd w B (yO [⟨A1,c1,v⟩,⟨A2,c2,l2⟩]):=by
 subst h;exact y
theorem Nn(hT:jX W)(h0:0<l.length)(hm:l.length<=1073741824)(hA:Rd W A (f9 l)):Fn prog 227 [.slice A l.length c] W (Cv id (l.length+4) W):=by
 have S:=St.start W;refine zI func227 ?_;refine zK (H8 (c:=c) (hT.gr S.out) hm (hA.gr S.out)) ?_;rintro _ ag ⟨s,hs,rfl,L⟩;have S:=S.gr L;refine zK (Gd s hs) ?_;rintro _ ah ⟨Z,V,v,y,rfl,D,J,O⟩;have S:=S.pushRow D J O;refine yb S ?_;intro ab ai ae S aa;refine zK (BH (ls:=[⟨A,c,l⟩,⟨v,y,Z⟩]) (cB:=2) (W6 V (S.rd (i:=0) rfl)) (λq hq=>by simp only[dy,gM,lr]at hq;rcases hq with rfl|rfl;exact⟨h0,hA.gr S.out⟩;exact⟨by dsimp only;omega,S.rd (i:=1) rfl⟩) (by simp) (by simp) (by simp[mj];omega)) ?_;rintro _ aj ⟨ac,ad,rfl,z,I,U⟩;have S:=S.pushRow z I U;refine zg ?_;have e:(mj [⟨A,c,l⟩,⟨v,y,Z⟩]).length=l.length+4:=by simp[mj];omega
 generalize mj [⟨A,c,l⟩,⟨v,y,Z⟩]=q at *;rw[<-e];exact ir rfl ⟨q,rfl,S.retNew (i:=0) rfl⟩
end
theorem wM{z:Value}(v:z.cells=#[z])(n:Nat):Builtin.zeroCells z.cells n=(List.replicate n z).toArray:=by
 apply Array.ext
 ·rw[nF,v];simp
 ·intro i h1 h2;simp[Builtin.zeroCells,v,Nat.mod_one]
section
theorem KT(t tn ty e:TypeId)(i:TypeInfo){z:Value}{k:IntKind}(ht:P.underlying t=some (.slice e))(V:P.underlying tn=some (.int kn))(hi:P.info? e=some i)(hz:i.zero=some z)(hs:i.size=1)(Z:z.cells=#[z])(ho:z.oneCell'=true)(g v y m:Nat)(cur:Array Value)(hg:w.heap[g]?=some (.cells cur e (0,0)))(h0:0<m)(S:m<=1099511627776)(U:i.bytes<=64)(D:v+m<=y)(I:v+m<=cur.size) :
  (Builtin.append_ #[t,tn] ty #[.slice (some ⟨g,0,none⟩) v y,.int k m]).run P w =
   .ok (.slice (some ⟨g,0,none⟩) (v+m) y) (w.setRow g (cur.toList.take v++List.replicate m z++cur.toList.drop (v+m)).toArray):=by
 have L:=run_storeCells_at P g v e (List.replicate m z) 0 cur w hg (by simpa using I) (λu hu=>by rw[mQ hu];exact ho);simp only[eW]at L;have hn:m≠0:=om;have hw:IntKind.i64.wrap (m:Int)=m:=by rw[oY];omega
 have J:¬((m:Int)<0):=om
 have O:¬(281474976710656<(m:Int)*(i.bytes:Int)):=by
  have:=cE S U;rw[<-kv];omega
 have aa:=wM Z m;simp[Builtin.append_,dS ht,dS V,sizeOf,typeInfo,zeroValue,hi,hz,hs,asInt,asIntOf,hw,hn,J,O,D,Addr.add_lit,aa,L]
theorem KU(t tn ty e:TypeId)(i:TypeInfo){z:Value}{k:IntKind}(ht:P.underlying t=some (.slice e))(ab:P.underlying tn=some (.int kn))(hi:P.info? e=some i)(hz:i.zero=some z)(hs:i.size=1)(ac:z.cells=#[z])(b:Addr)(y D m:Nat)(I:List Value)(ah:I.length=y)(J:∀j v,I[j]?=some v->w.cell? (b.add j)=some v)(h0:0<m)(V:m<=1099511627776)(ag:y<=1099511627776)(Z:i.bytes<=64)(hg:D<y+m)(ae:Builtin.nextslicecap (y+m) D*i.bytes<=281474976710656) :
  (Builtin.append_ #[t,tn] ty #[.slice (some b) y D,.int k m]).run P w =
   .ok (.slice (some ⟨w.heap.size,0,none⟩) (y+m) (grownCap w (y+m) D e))
    (w.drew.alloc (.cells (I.toArray++(List.replicate m z).toArray++Builtin.zeroCells z.cells (grownCap w (y+m) D e-(y+m))) e)):=by
 have hn:¬(y+m<=D):=om;have hm:m≠0:=om;have O:¬(9223372036854775807<((y:Int)+(m:Int))):=om;have L:¬(281474976710656<Builtin.nextslicecap (y+m) D*i.bytes):=om;have hw:IntKind.i64.wrap (m:Int)=m:=by rw[oY];omega
 have S:¬((m:Int)<0):=om
 have U:¬(281474976710656<(m:Int)*(i.bytes:Int)):=by
  have:=cE V Z;rw[<-kv];omega
 have aa:=pL (P:=P) w.drew 1 y b y D I om (by simpa using J);have ad:=wM ac m;simp[Builtin.append_,dS ht,dS ab,sizeOf,typeInfo,zeroValue,hi,hz,hs,asInt,asIntOf,hw,hm,S,U,hn,O,L,Question.forced,aa,ad,newRow,grownCap]
theorem Np(t tn ty el:TypeId){z:Value}{k:IntKind}(ht:P.underlying t=some (.slice el))(V:P.underlying tn=some (.int kn))(hI:(P.info? el).map (λi=>(i.zero,i.size,i.bytes))=some (some z,1,bytes))(O:z.cells=#[z])(ho:z.oneCell'=true)(hR:gH w el 1 A n c xs)(h0:0<m)(ad:n+m<=1099511627776)(L:bytes<=64) :
  ∃A' c' w',(Builtin.append_ #[t,tn] ty #[.slice A n c,.int k m]).run P w=.ok (.slice A' (n+m) c') w'/\gH w' el 1 A' (n+m) c' (xs++List.replicate m z)/\Fr (λg=>jv A g) w w'/\(∀g,jv A' g->jv A g\/w.heap.size<=g):=by
 obtain⟨i,hi,hz,hs,hb⟩:=nG hI;subst hb;have D:=hR.len;rw[cG]at D;have S:∀v,v<n+m->Builtin.nextslicecap (n+m) v*i.bytes<=281474976710656:=λv h=>growslice_fits h (dE (cE ad L) (by decide))
 have I:∀v,v<n+m->∀ys:List Value,ys=xs++List.replicate m z->gH (w.drew.alloc (.cells (ys.toArray++Builtin.zeroCells z.cells (grownCap w (n+m) v el-(n+m))) el)) el 1 (some ⟨w.heap.size,0,none⟩) (n+m) (grownCap w (n+m) v el) ys:=by
  intro v ai ys ah;have ag:=grownCap_ge w (n+m) v el;have ae:grownCap w (n+m) v el<=maxLen:=p9 w (n+m) v el (by unfold maxLen;omega);have ac:ys.length=n+m:=by rw[ah,cP,lX,D]
  refine gH.mk_ (l:=(ys.toArray++Builtin.zeroCells z.cells (grownCap w (n+m) v el-(n+m))).toList) ?_ ag ?_ ?_ ae
  ·unfold eL;rw[o6];exact nH w.drew _
  ·rw[pC,qH,nF,O];simp[ac];omega
  ·rw[Array.toList_append,cG,<-ac];exact pX
 have aa:∀o,Fr (λg=>jv A g) w (w.drew.alloc o):=λo=>Fr.of_gr ((Gr.drew w).trans (Gr.alloc _ _));rcases hR.form with⟨rfl,rfl,rfl,rfl⟩|⟨g,l,rfl,hB,hn,hl,ab,hm⟩
 ·have Z:=Lib.run_append_nil_zeros (P:=P) w t tn ty el i z k kn ht V hi hz m h0 (by rw[hs];decide) om (by have:=cE (show m<=1099511627776 by omega) L;omega);rw[wM O m]at Z;refine⟨_,_,_,by rw[eH];exact Z,?_,aa _,λg hg=>.inr ?_⟩
  ·have:=I 0 om (List.replicate m z) rfl;rw[eH]at this ⊢;exact this
  ·injection hg with hg;exact uN hg
 ·rw[cG]at hl ab;by_cases y:n+m<=c
  ·have Z:=KT (P:=P) (w:=w) t tn ty el i (k:=k) ht V hi hz hs O ho g n c m l.toArray hB h0 om L y (by simpa [hl]using y);refine⟨_,_,_,Z,gH.mk_ (l:=l.take n++List.replicate m z++l.drop (n+m)) (setRow_heap w g l.toArray _ el _ hB) y ?_ ?_ hm,⟨rfl,rfl,rfl,by simp,λk _ hk=>setRow_other w g k _ (λe=>hk (by rw[<-e];rfl))⟩,λg' J=>.inl J⟩
   ·simp only[cP,d7,lX,i8];omega
   ·rw[ab,cG,show n+m=(xs++List.replicate m z).length by rw[cP,lX,D]];exact pX
  ·have U:∀j u,xs[j]?=some u->w.cell? ((⟨g,0,none⟩:Addr).add j)=some u:=λj u hj=>by
    rw[js];exact hR.rd.cell rfl hj
   have Z:=KU (P:=P) (w:=w) t tn ty el i (k:=k) ht V hi hz hs O ⟨g,0,none⟩ n c m xs D U h0 om om L om (S c om);refine⟨_,_,_,Z,?_,aa _,λg' J=>.inr ?_⟩
   ·have:=I c om (xs++List.replicate m z) rfl;rw[<-List.append_toArray]at this;exact this
   ·injection J with J;exact uN J
variable{rest:List Oper}{ps:String}{L:List HA}
theorem TW{f:HA->List HA}{t Z:Nat}{z:Value}{k:IntKind}{s:Operand}(S:St F W w L)(hi:gi L i=some (.row el 1 A n c xs))(hf:∀h,j7 L i h=some (f h))(ht:P.underlying t=some (.slice el))(U:P.underlying Z=some (.int kn))(hI:(P.info? el).map (λi=>(i.zero,i.size,i.bytes))=some (some z,1,bytes))(V:z.cells=#[z])(ho:z.oneCell'=true)(hs:ev e s=.slice A n c)(hx:ev e x=.int k m)(h0:0<m)(J:n+m<=1099511627776)(O:bytes<=64)(hr:∀y c' w',St F W w' (f (.row el 1 y (n+m) c' (xs++List.replicate m z)))->RW P ops Q rest (fI e d (.slice y (n+m) c')) w'):RW P ops Q (⟨d,.call ⟨.builtin .append,#[s,x],#[t,Z]⟩,ty,ps,af,none⟩::rest) e w:=by
 obtain⟨y,c',w',I,hR,hF,D⟩:=Np (P:=P) t Z ty el ht U hI V ho (S.row hi) h0 J O (k:=k);refine wZ (v:=.slice y (n+m) c') (w':=w') ?_ (hr y c' w' (S.set hi (hf _) hF (λg hg=>.inl hg) hR D));simp[execOp,resolve,invoke,builtin,hs,hx,I]
end
theorem KV{ps:String}{y:Operand}{k:IntKind}{b:Int}{B:Bool}(z:ev e x=.int k a)(D:ev e y=.int k b)(v:decide (a>=b)=B):iE P e ⟨d,.binOp .geq t x y t',ty,ps,af,none⟩ (.bool B):=by
 intro w;subst v;simp[gd,execOp,z,D,eqGuard,binOp,Op.intCmp]
theorem nO{ps:String}{y:Operand}{k:IntKind}{b c:Int}(z:ev e x=.int k a)(D:ev e y=.int k b)(v:k.wrap (a+b)=c):iE P e ⟨d,.binOp .add t x y t',ty,ps,af,none⟩ (.int k c):=by
 intro w;subst v;simp[gd,execOp,z,D,eqGuard,binOp,Op.intArith]
section
variable{l:List Int}
theorem Jr(u:Int)(y:0<=u):Fn prog 264 [.int .u64 u] W (λv w'=>∃x:Int,v=ii x/\Gr W w'):=by
 have S:=St.start W;refine zI func264 ?_;refine zg ?_;refine cq (rT (k:=1) rfl rfl (by decide) y) ?_;refine Y9 (n:=u/2^1) rfl rfl ?_;refine zg ?_;refine cq (gR (op:=.and) rfl rfl rfl) ?_;refine Y9 (n:=bits .and .u64 u 1) rfl rfl ?_;refine zg ?_;refine cq (gR (op:=.xor) rfl rfl rfl) ?_;refine zX ?_;exact⟨_,rfl,S.out⟩
theorem Nq(D n:Nat)(ae:D<=l.length)(hn:n<=1048576)(hc:l.length<=c)(hm:l.length<=1099511627776)(hA:Rd W A (f9 l)) :
  Fn prog 211 [.slice A l.length c,ii D,ii n] W (λv w'=>(∃e:Int,e≠0/\v=.tuple #[.slice none 0 0,ii 0,ii e]/\Gr W w') \/
   (∃(R:List Int)(B:Option Addr)(cB:Nat)(nx:Int),R.length=n/\v=.tuple #[.slice B n cB,ii nx,ii 0]/\St No W w' [.row 2 1 B n cB (cY R)])):=by
 have S:=St.start W;refine zI func211 ?_;refine zg ?_;have S:=S.pushNil 2 1
 refine dl (λm e w=>∃(k jF:Nat)(R:List Int)(B:Option Addr)(cB:Nat)(bh:Bool),k+m=n/\jF<=l.length/\R.length=k/\SL e [(0,.slice A l.length c),(1,ii jF),(2,ii n),(9,.slice B k cB),(10,.bool bh)]/\St No W w [.row 2 1 B k cB (cY R)]) n
  ⟨0,D,[],none,0,false,om,ae,rfl,sl,S⟩ ?_
 clear S;rintro m e w ⟨k,jF,R,B,cB,bh,hk,U,hR,ai,S⟩;rw[ai.fold];rcases cr (k<n)with ag|ag
 ·skip;refine zK (H7 jF U hc hm (hA.gr S.out)) ?_;rintro _ ar ⟨u,nx,e1,rfl,hu,ah,ab⟩;have S:=S.gr ab;iterate 7 refine cq (cH rfl) ?_
  first|refine eF ?_|(refine di ?_;show CW _ _ _ _ _ _)|refine di ?_
  rcases cr (e1≠0)with he|he
  ·skip;refine yA ?_;exact tE rfl rfl rfl (.inl ⟨e1,he,rfl,S.out⟩)
  ·obtain⟨k1,rfl,ao,y⟩:=ah (fH.1 he);rcases cr (u≠0)with J|J
   ·skip;repeat refine dm ?_
    refine dz ?_;refine cq (cH rfl) ?_;refine cq (ff (b:=false) rfl (eo.2 om)) ?_;first|refine eF ?_|(refine di ?_;show CW _ _ _ _ _ _)|refine di ?_
    repeat refine dm ?_
    refine eX rfl ?_;repeat refine dm ?_
    refine gO ?_;try show CW _ _ _ _ _ _
    repeat refine dm ?_
    refine dz ?_;iterate 2 refine cq (cH rfl) ?_
    first|refine eF ?_|(refine di ?_;show CW _ _ _ _ _ _)|refine di ?_
    repeat refine dm ?_
    refine dz ?_;refine cq (cH rfl) ?_;refine cq (Cw rfl rfl (f5.2 J)) ?_;refine zK (Jr u hu.1) ?_;rintro _ au ⟨x,rfl,ac⟩;have S:=S.gr ac;refine yb S ?_;intro al av an S ak;refine fM (i:=1) S rfl (λh=>rfl) dk jR rfl rfl rfl rfl (by simp) om (S.rd (i:=0) rfl) rfl om ?_;intro L O aw S am;refine zg ?_;have S:=S.drop 1;rw[show cY R++[ii x]=cY (R++[x])by simp[cY]]at S;exact⟨m-1,om,k+1,k1,R++[x],L,O,false,om,y,by simp[hR],sl,S⟩
   ·obtain rfl:u=0:=fH.1 J;cases bh
    ·skip;refine yA ?_;refine cq (Cw rfl rfl rfl) ?_;refine zK (H7 k1 y hc hm (hA.gr S.out)) ?_;rintro _ az ⟨u2,aq,e2,rfl,aj,Z,ad⟩;have S:=S.gr ad;iterate 7 refine cq (cH rfl) ?_
     first|refine eF ?_|(refine di ?_;show CW _ _ _ _ _ _)|refine di ?_
     rcases cr (e2≠0)with I|I
     ·skip;refine yA ?_;exact tE rfl rfl rfl (.inl ⟨e2,I,rfl,S.out⟩)
     ·obtain⟨k2,rfl,ap,V⟩:=Z (fH.1 I);obtain⟨q,rfl⟩:=cJ aj.1;have e5:(n:Int)-k=((n-k:Nat):Int):=om;rcases cr (n-k<=q)with hq|hq
      ·skip;repeat refine dm ?_
       refine k0 ?_;repeat refine dm ?_
       refine dz ?_;refine cq (cH rfl) ?_;refine cq (ff (b:=false) rfl (eo.2 om)) ?_;refine cq (cH rfl) ?_;first|refine eF ?_|(refine di ?_;show CW _ _ _ _ _ _)|refine di ?_
       repeat refine dm ?_
       refine eX rfl ?_;repeat refine dm ?_
       refine dz ?_;iterate 3 refine cq (cH rfl) ?_
       refine cq (p6 dk rfl) ?_;refine cq (fh rfl om) ?_;rw[e5];refine cq (dY (ks:=.i64) (n:=((n-k:Nat):Int)) (m:=((n-k:Nat):Int)) (kd:=.u64) dB dU rfl (re _ om)) ?_;refine cq (KV (B:=true) rfl rfl (cF om)) ?_;refine zX ?_;exact(.inl ⟨13,by decide,rfl,S.out⟩)
      ·have aa:((q:Nat):Int)+1=((q+1:Nat):Int):=om;repeat refine dm ?_
       refine k0 ?_;repeat refine dm ?_
       refine dz ?_;refine cq (cH rfl) ?_;refine cq (ff (b:=false) rfl (eo.2 om)) ?_;refine cq (cH rfl) ?_;first|refine eF ?_|(refine di ?_;show CW _ _ _ _ _ _)|refine di ?_
       repeat refine dm ?_
       refine eX rfl ?_;repeat refine dm ?_
       refine dz ?_;iterate 3 refine cq (cH rfl) ?_
       refine cq (p6 dk rfl) ?_;refine cq (fh rfl om) ?_;rw[e5];refine cq (dY (ks:=.i64) (n:=((n-k:Nat):Int)) (m:=((n-k:Nat):Int)) (kd:=.u64) dB dU rfl (re _ om)) ?_;refine cq (KV (B:=false) rfl rfl (cC om)) ?_;refine zg ?_;refine cq (nO rfl rfl ((re _ om).trans aa)) ?_;refine TW (i:=0) S rfl (λh=>rfl) dk dU jR rfl rfl rfl rfl om om (by decide) ?_;intro A9 c9 w9 S;refine zg ?_;rw[show cY R++List.replicate (q+1) (ii 0)=cY (R++List.replicate (q+1) 0)by simp[cY]]at S;exact⟨n-(k+(q+1)),om,k+(q+1),k2,R++List.replicate (q+1) 0,A9,c9,true,om,V,by simp[hR],sl,S⟩
    ·skip;refine z ?_;refine zf ?_;iterate 3 refine z ?_
     refine cq (Cw rfl rfl rfl) ?_;refine zX ?_;exact(.inl ⟨13,by decide,rfl,S.out⟩)
 ·obtain rfl:k=n:=om;refine zX ?_;exact(.inr ⟨R,B,cB,_,hR,rfl,S⟩)
end
def sO(n:Int):Int:=if n<0 then -n else n
def Cy(n:Int):Int:=if n<0 then -1 else 1
structure TX where
 n:Int
 m:Int
 ux:Int
 uy:Int
 vx:Int
 vy:Int
def jh(ax ay bx cy:Int):TX :=
 if sO (bx-ax)<sO (cy-ay)then⟨sO (cy-ay),sO (bx-ax),0,Cy (cy-ay),Cy (bx-ax),0⟩else⟨sO (bx-ax),sO (cy-ay),Cy (bx-ax),0,0,Cy (cy-ay)⟩
theorem xP(n:Int):(Cy n=1/\sO n=n/\0<=n)\/(Cy n=-1/\sO n=-n/\n<0):=by
 unfold Cy sO;by_cases h:n<0
 ·rw[a7 h,a7 h];exact .inr ⟨rfl,rfl,h⟩
 ·rw[a8 h,a8 h];exact .inl ⟨rfl,rfl,om⟩
theorem Js{cy:Int}(I:mD gw gh (ax,ay)=true)(J:mD gw gh (bx,cy)=true){r:TX}(z:jh ax ay bx cy=r):∃N M:Nat,r.n=N/\r.m=M/\M<=N/\(N<gw\/N<gh)/\(-1<=r.ux/\r.ux<=1/\-1<=r.uy/\r.uy<=1/\-1<=r.vx/\r.vx<=1/\-1<=r.vy/\r.vy<=1) /\
  ∀i j:Nat,i<=N->j<=M->mD gw gh (ax+i*r.ux+j*r.vx,ay+i*r.uy+j*r.vy)=true:=by
 rw[jT]at I J;dsimp only at I J;have h1:=xP (bx-ax);have h2:=xP (cy-ay);unfold jh at z;split at z
 ·subst z;refine⟨(sO (cy-ay)).toNat,(sO (bx-ax)).toNat,by dsimp only;omega,by dsimp only;omega,om,om,by dsimp only;omega,λi j hi D=>?_⟩;rw[jT];dsimp only;rcases h1 with⟨v,h1,_⟩|⟨v,h1,_⟩<;>rcases h2 with⟨y,h2,_⟩|⟨y,h2,_⟩<;>rw[v,y]<;>rw[h1]at D<;>rw[h2]at hi<;>omega
 ·subst z;refine⟨(sO (bx-ax)).toNat,(sO (cy-ay)).toNat,by dsimp only;omega,by dsimp only;omega,om,om,by dsimp only;omega,λi j hi D=>?_⟩;rw[jT];dsimp only;rcases h1 with⟨v,h1,_⟩|⟨v,h1,_⟩<;>rcases h2 with⟨y,h2,_⟩|⟨y,h2,_⟩<;>rw[v,y]<;>rw[h1]at hi<;>rw[h2]at D<;>omega
theorem wr(l:List (Int×Int))(x y:Int):eT l++[ii x,ii y]=eT (l++[(x,y)]):=by simp[eT]
theorem Cz(n:Int)(h:-2000<=n/\n<=2000):Fn prog 291 [ii n] W (dp (.tuple #[ii (Cy n),ii (sO n)]) W):=by
 have y:=xP n;have S:=St.start W;refine zI func291 ?_;by_cases v:n<0
 ·skip;refine zX ?_;exact⟨by rw[(om:Cy n=-1),(om:sO n=0-n)],S.out⟩
 ·skip;refine zX ?_;exact⟨by rw[(om:Cy n=1),(om:sO n=n)],S.out⟩
theorem PC(x y:Int)(I:0<=x/\x<1024)(J:0<=y/\y<1024):Fn prog 290 [.agg #[ii x,ii y]] W (dp (.bool true) W):=by
 have S:=St.start W;refine zI func290 ?_;refine zN ?_;intro v D z S;exact zZ
theorem KW(ax ay bx cy:Int)(hx:0<=ax/\ax<1024)(hy:0<=ay/\ay<1024)(hu:0<=bx/\bx<1024)(hv:0<=cy/\cy<1024) :
  Fn prog 252 [.agg #[ii ax,ii ay],.agg #[ii bx,ii cy]] W (dp (.agg #[ii (jh ax ay bx cy).n,ii (jh ax ay bx cy).m,ii (jh ax ay bx cy).ux,ii (jh ax ay bx cy).uy,ii (jh ax ay bx cy).vx,ii (jh ax ay bx cy).vy]) W):=by
 have S:=St.start W;refine zI func252 ?_;by_cases h:sO (bx-ax)<sO (cy-ay)
 ·have e:jh ax ay bx cy=⟨sO (cy-ay),sO (bx-ax),0,Cy (cy-ay),Cy (bx-ax),0⟩:=a7 h;refine zN ?_;intro v ag ab S;refine zN ?_;intro y ah ac S;refine zN ?_;intro z ai ad S;refine zC (Cz (bx-ax) om) ?_;intro aj ae S;refine zC (Cz (cy-ay) om) ?_;refine zS ?_;intro ak S;exact Tb Y6 rfl (sizeOf391 _) rfl (S.blk (i:=0) rfl) rfl rfl ⟨by rw[e],S.out⟩
 ·have e:jh ax ay bx cy=⟨sO (bx-ax),sO (cy-ay),Cy (bx-ax),0,0,Cy (cy-ay)⟩:=a8 h;refine zN ?_;intro v O D S;refine zN ?_;intro y U I S;refine zN ?_;intro z V J S;refine zC (Cz (bx-ax) om) ?_;intro Z L S;refine zC (Cz (cy-ay) om) ?_;refine zS ?_;intro aa S;exact Tb Y6 rfl (sizeOf391 _) rfl (S.blk (i:=0) rfl) rfl rfl ⟨by rw[e],S.out⟩
theorem Rh(ax ay bx cy:Int)(I:0<=ax/\ax<1024)(J:0<=ay/\ay<1024)(y:0<=bx/\bx<1024)(D:0<=cy/\cy<1024) :
  Fn prog 251 [.agg #[ii ax,ii ay],.agg #[ii bx,ii cy]] W (dp (.tuple #[ii (jh ax ay bx cy).n,ii 0]) W):=by
 have S:=St.start W;refine zI func251 ?_;refine zN ?_;intro L ab U S;refine zN ?_;intro O ac V S;refine zC (PC ax ay I J) ?_;intro ad Z S;iterate 3 refine z ?_
 refine dr rfl ?_;refine eY rfl (PC bx cy y D) ?_;rintro _ ae ⟨rfl,v⟩;have S:=S.gr v;refine zC (KW ax ay bx cy I J y D) ?_;intro ag aa S;refine cq (P6 Y6 rfl cw rfl rfl rfl) ?_;exact zZ
theorem Ge(x y v z:Int)(hx:-5000<=x/\x<=5000)(hy:-5000<=y/\y<=5000)(hs:-1<=v/\v<=1)(ht:-1<=z/\z<=1) :
  Fn prog 253 [.agg #[ii x,ii y],.agg #[ii v,ii z],ii 1] W (dp (.agg #[ii (x+v),ii (y+z)]) W):=by
 have S:=St.start W;refine zI func253 ?_;refine zN ?_;intro D V L S;refine zN ?_;intro I Z O S;refine zN ?_;intro J aa U S;refine zS ?_;intro ab S;exact Tb q9 rfl (ya _) rfl (S.blk (i:=0) rfl) rfl rfl ⟨by rw[jG,jG],S.out⟩
theorem Gf(n:Int)(h:-1099511627776<=n/\n<=1099511627776):Fn prog 184 [ii n] W (dp (.bool true) W):=by
 have S:=St.start W;refine zI func184 ?_;exact zZ
def Be(x0 y0 x1 y1 x y:Int):Bool:=decide (x0<=x)&&(decide (x<=x1)&&(decide (y0<=y)&&decide (y<=y1)))
theorem Wb(x0 y0 x1 y1 x y:Int)(I:nb x0 y0 x1 y1=true) :
  Fn prog 255 [.agg #[ii x0,ii y0,ii x1,ii y1],.agg #[ii x,ii y]] W (dp (.bool (Be x0 y0 x1 y1 x y)) W):=by
 unfold Be;have v:=λw=>mz x0 y0 x1 y1 w;rw[I]at v;refine yI func255 ?_;by_cases h1:x0<=x
 ·by_cases h2:x<=x1
  ·by_cases z:y0<=y
   ·by_cases D:y<=y1
    ·skip;refine EO v ?_;intro _ _ _ S;refine zX ?_;exact⟨be (by simp[h1,h2,z,D]),S.out⟩
    ·skip;refine EO v ?_;intro _ _ _ S;refine zX ?_;exact⟨be (by simp[h1,h2,z,D]),S.out⟩
   ·skip;refine EO v ?_;intro _ _ _ S;refine zX ?_;exact⟨be (by simp[h1,h2,z]),S.out⟩
  ·skip;refine EO v ?_;intro _ _ _ S;refine zX ?_;exact⟨be (by simp[h1,h2]),S.out⟩
 ·skip;refine EO v ?_;intro _ _ _ S;refine zX ?_;exact⟨be (by simp[h1]),S.out⟩
theorem xQ{rest:List Oper}{L:List HA}{J d2:Option Tmp}{Z aa:TypeId}{U V:String}{D I:Array Edge}{el:TypeId}{y:List (Nat×Operand)}{z:Value}{l0:List Value}(S:St F W w L)(hu:P.underlying t=some (.slice el))(he:P.underlying el=some (.int .u8))(hs:∀w,(sizeOf el).run P w=.ok k w)(hz:∀w,(zeroValue el).run P w=.ok z w)(hk:z.cells.toList.length=k)(O:Nat.beq (n*k) 0=false)(hn:Nat.ble (n*k) 16777216=true)(h1:yS (λi=>some (i*k,k)) ((List.replicate n z.cells.toList).flatten) (yQ e y)=some l0)(h2:lj l0=some l)(hx:∀A,ev (fI e J (.slice A n n)) x=.slice A n n)(hr:∀A w',Gr w w'->Rd w' A l->St F W w' L->RW P ops Q rest (fI (fI e J (.slice A n n)) d2 (.slice A n n)) w') :
  RW P ops Q (⟨J,.buildSlice t n y.toArray,Z,U,D,none⟩::⟨d2,.convert t t x,aa,V,I,none⟩::rest) e w:=by
 refine wZ (mu hu hs hz hk O hn h1 h2) (wZ (v:=.slice (some ⟨w.heap.size,0,none⟩) n n) (w':=w.alloc (.cells l.toArray el (l.toArray.size,l.toArray.size+1))) ?_ (hr _ _ (Gr.alloc _ _) (.inr ⟨w.heap.size,0,rfl,by show w.heap.size<(w.heap.push _).size;simp,λj v hj=>?_⟩) (S.gr (Gr.alloc _ _))))
 ·have hc:=Lib.run_convert_bytes_const w t el l.toArray n n hu he;simp only[execOp,hx,Dj,hc,Result.andThen_ok,Sem.run_pure]
 ·have hb:(w.alloc (.cells l.toArray el (l.toArray.size,l.toArray.size+1))).heap[w.heap.size]?=some (.cells l.toArray el (l.toArray.size,l.toArray.size+1)):=nH w _;unfold World.cell?;simp only[hb];simp[hj]
def uB(F:Nat->Prop)(W:World)(L:List HA)(T:List Value->List HA->Prop)(σ:List Value)(w:World):Prop:=∃Q,T σ Q/\St F W w (Q++L)
section
variable{L:List HA}{T:List Value->List HA->Prop}{σ:List Value}
theorem uB.start(h:T [] [])(S:St F W w L):uB F W L T [] w:=⟨[],h,S⟩
theorem uB.st(h:uB F W L T σ w):St F W w L:=by
 obtain⟨Q,_,S⟩:=h;have:=S.drop Q.length;rwa[jE]at this
theorem vh{ps:String}(h:uB F W L T σ w)(D:lj (args.map (ev e))=some vs)(z:∀Q,T σ Q->St F W w (Q++L)->Fn P f vs w (λv w'=>∃Q',T (v::σ) Q'/\St F W w' (Q'++L))):gI P e ⟨d,.call ⟨.value (.func f),args.toArray,tys⟩,ty,ps,af,none⟩ w (λv w'=>uB F W L T (v::σ) w'):=by
 obtain⟨Q,y,S⟩:=h;exact l4 D (z Q y S)
end
section
variable{ls:List Nat}
theorem Gg(n:Nat)(h:n<=1024):Fn prog 262 [ii n] W (dp (ii (cU n)) W):=by
 have v:((n:Int)+16-1)/16=((cU n:Nat):Int):=by unfold cU;omega
 have S:=St.start W;refine zI func262 ?_;refine zg ?_;rw[v];exact zZ
theorem DD(O:1<=gw/\gw<=1024)(L:1<=gh/\gh<=1024):Fn prog 208 [ii gw,ii gh] W (dp (.tuple #[ii (cU gw*cU gh:Nat),ii 0]) W):=by
 have I:dF 0 0 0 0 gw gh=0:=gW om om om om;have h1:=jS O.2;have h2:=jS L.2;have hm:cU gw*cU gh<=64*64:=cE h1 h2;have J:((cU gw:Nat):Int)*(cU gh:Nat)=((cU gw*cU gh:Nat):Int):=by push_cast;rfl
 have S:=St.start W;refine zI func208 ?_;refine z ?_;refine z ?_;refine zs ?_;refine cq (kL (pl:=[(0,1),(1,1),(2,1),(3,1)]) xa Ac (λw=>by kernel_rfl) rfl rfl) ?_;refine z ?_;refine z ?_;refine eY rfl (jW _ _ _ _ _ _ om om W) ?_;rintro _ U ⟨rfl,v⟩;have S:=S.gr v;rw[I];refine zg ?_;refine ju rfl rfl (Gg gw O.2) ?_;rintro _ V ⟨rfl,y⟩;have S:=S.gr y;refine zg ?_;refine ju rfl rfl (Gg gh L.2) ?_;rintro _ Z ⟨rfl,D⟩;have S:=S.gr D;refine cq (fh rfl (by rw[J];omega)) ?_;rw[J];exact zZ
theorem KX(z:1<=gw/\gw<=1024)(y:1<=gh/\gh<=1024):Fn prog 209 [ii gw,ii gh] W (dp (.tuple #[ii (13+cU gw*cU gh*8:Nat),ii 0]) W):=by
 have h1:=jS z.2;have h2:=jS y.2;have J:cU gw*cU gh<=64*64:=cE h1 h2;have v:=λW=>DD (W:=W) z y;generalize cU gw*cU gh=q at *;have S:=St.start W;refine zI func209 ?_;refine zC (v W) ?_;intro I D S;exact zZ
theorem KY(D:Nat)(h0:D<=65536)(ab:∀x∈ls,1<=x/\x<=4096)(hn:ls.length<=4096)(hB:Rd W B (cY (ls.map λx:Nat=>(x:Int)))) :
  Fn prog 276 [ii D,.slice B ls.length cB] W (λv w'=>∃es:List (Int×Int),es.length=ls.length/\(∀e∈es,(0<=e.1/\e.1<4294967296)/\0<=e.2/\e.2<4294967296)/\jc (λs=>.tuple #[s,.bool true]) 102 2 ls.length (eT es) W v w'):=by
 have U:∀j(hj:j<ls.length),(cY (ls.map λx:Nat=>(x:Int)))[(j:Int).toNat * 1]?=some (ii (ls[j]:Nat)):=λj hj=>by
  rw[cG,b7];exact gc (by rw[da,ct hj];rfl)
 have S:=St.start W;refine zI func276 ?_;refine zg ?_;have S:=S.pushNil 102 2
 refine dl (λm e w'=>∃(i q:Nat)(es:List (Int×Int))(z:Option Addr)(I:Nat),i+m=ls.length/\q<=65536+i*4096/\es.length=i/\(∀e∈es,(0<=e.1/\e.1<4294967296)/\0<=e.2/\e.2<4294967296) /\
   SL e [(0,ii q),(6,.slice z i I),(9,.slice B ls.length cB),(10,ii ls.length),(11,ii i)]/\St No W w' [.row 102 2 z i I (eT es)]) ls.length
  ⟨0,D,[],none,0,om,om,rfl,(λ_ h=>by cases h),sl,S⟩ ?_
 clear S;rintro m e w2 ⟨i,q,es,z,I,hi,hq,O,y,ac,S⟩;rw[ac.fold];by_cases V:i<ls.length
 ·have ad:dO B:=hB.someA (by rw[gn,eP];omega);have hx:=ab _ (fY V);have g1:=U i V;generalize ls[i]=x at *;refine zT (hB.gr S.out) g1 ?_;refine zg ?_;refine yb S ?_;intro aa ah ag S Z;refine ZP 1 0 S ?_;intro J L ai S ae;refine zg ?_;have S:=S.drop 1;rw[wr]at S
  exact⟨m-1,om,i+1,q+x,es++[((q:Int),(x:Int))],J,L,om,om,by simp[O],λe he=>by
   rcases ez.1 he with h|h
   ·exact y e h
   ·rw[dM.1 h];dsimp only;omega,sl,S⟩
 ·obtain rfl:i=ls.length:=om;refine zX ?_;exact⟨es,O,y,S.retNew (i:=0) (mk:=λs=>.tuple #[s,.bool true]) rfl⟩
def Yj(n:Nat)(W:World)(v:Value)(w:World):Prop:=∃(l:List Int)(A:Option Addr)(c:Nat),l.length=n/\v=.slice A l.length c/\gH w 5 1 A l.length c (f9 l)/\tr W A/\Gr W w
theorem CC{l:List Int}(k u:Nat)(y:Rd w A (f9 l))(z:1<=k/\k<8)(I:u<2^(8*k))(D:0<l.length/\l.length<=1099511627776):Fn prog 277 [.slice A l.length c,ii k,ii u] w (Yj (l.length+k) w) :=
 (VZ k u z I D y).mono λv w'⟨l2,hl2,A2,c2,hv,h2,h3,g⟩=>⟨l2,A2,c2,hl2,by rw[hv,<-hl2];rfl,hl2▸h2,h3,g⟩
theorem Wc(hw:1<=gw/\gw<=1024)(hh:1<=gh/\gh<=1024)(aB:∀x∈ls,1<=x/\x<=4096)(hn:ls.length=cU gw*cU gh)(hB:Rd W B (cY (ls.map λx:Nat=>(x:Int)))) :
  Fn prog 226 [ii gw,ii gh,.slice B ls.length cB] W (Cv (λs=>.tuple #[s,ii 0]) (13+8*ls.length) W):=by
 have h1:=jS hw.2;have h2:=jS hh.2;have hm:cU gw*cU gh<=64*64:=cE h1 h2;have ag:=λW=>DD (W:=W) hw hh;have ae:=λW=>KX (W:=W) hw hh;rw[<-hn]at ag ae hm;have ar:=λW hB=>KY (W:=W) (B:=B) (cB:=cB) (ls:=ls) (13+ls.length*8) om aB om hB;have ew:(gw:Int)-1=((gw-1:Nat):Int):=om;have eh:(gh:Int)-1=((gh-1:Nat):Int):=om;have S:=St.start W;refine zI func226 ?_;refine zC (ag W) ?_;intro aL aE S;refine zC (ae _) ?_;intro aM aF S;refine zK (ar _ (hB.gr S.out)) ?_;rintro _ aN ⟨es,aH,aa,z,D,rfl,V,Z,ai⟩;have S:=S.pushRow V Z ai;refine zg ?_;refine xQ S q8 dv gJ nE rfl rfl rfl rfl rfl (λ_=>rfl) ?_;intro A5 w5 g5 an S;skip;refine zg ?_;rw[ew];refine zK (CC (l:=[72,65,67,72,1]) (c:=5) 2 (gw-1) an (by decide) om (by decide)) ?_;rintro _ aO ⟨l6,A6,c6,O,rfl,ao,au,aj⟩;have S:=S.pushRow ao au aj;refine zg ?_;rw[eh];refine zK (CC (l:=l6) 2 (gh-1) (S.rd (i:=0) rfl) (by decide) om (by rw[O];decide)) ?_;rintro _ aP ⟨l7,A7,c7,ac,rfl,ap,av,ak⟩;have S:=S.pushRow ap av ak;refine zK (CC (l:=l7) 4 ls.length (S.rd (i:=0) rfl) (by decide) om (by rw[ac,O];decide)) ?_;rintro _ aQ ⟨l8,A8,c8,az,rfl,aq,aw,al⟩;have S:=S.pushRow aq aw al;refine zg ?_;have am:l8.length=13:=by rw[az,ac,O];rfl
 have S:=S.sub (.cons_cons _ (.cons _ (.cons _ (.cons_cons _ (.slnil)))))
 refine dl (λm e w'=>∃(k:Nat)(lb:List Int)(I:Option Addr)(J:Nat),k+m=ls.length/\lb.length=13+8*k/\SL e [(14,.slice I lb.length J),(54,.slice z ls.length D),(55,ii ls.length),(56,ii k)] /\
   St No W w' [.row 5 1 I lb.length J (f9 lb),.row 102 2 z ls.length D (eT es)]) ls.length
  ⟨0,l8,A8,c8,om,am,sl,S⟩ ?_
 clear S
 have ad:∀{wq:World}{l:List Int}{A:Option Addr}{c:Nat}{L:List HA}(u:Nat),Rd wq A (f9 l)->(u:Int)<4294967296->0<l.length/\l.length<=1099511627776->St No W wq L ->
   Fn prog 277 [.slice A l.length c,ii (4:Nat),ii u] wq (λv w'=>∃(l':List Int)(A':Option Addr)(c':Nat),l'.length=l.length+4/\v=.slice A' l'.length c'/\St No W w' (.row 5 1 A' l'.length c' (f9 l')::L)):=λu hR hu hl S =>
  (CC 4 u hR (by decide) om hl).mono λv w'⟨l2,A2,c2,hl2,hv,h2,h3,g⟩=>⟨l2,A2,c2,hl2,hv,S.pushRow h2 h3 g⟩
 rintro m e w2 ⟨k,lb,I,J,hk,aA,aC,S⟩;rw[aC.fold];by_cases aK:k<ls.length
 ·have aD:dO z:=(S.row (i:=1) rfl).someA om;have ab:k<es.length:=om;obtain⟨hx,hy⟩:=aa _ (fY ab);have g1:=mS (ct ab);obtain⟨x,ex⟩:=cJ hx.1;obtain⟨y,ey⟩:=cJ hy.1;rw[ex,ey]at g1;rw[ex]at hx;rw[ey]at hy;have ah:((eT es).drop ((k:Int).toNat * 2)).take 2=[ii x,ii y]:=by rw[b7];exact g1
  refine zg ?_;refine ZU (S.rd (i:=1) rfl) ah ?_;refine zN ?_;intro U aR aG S;refine zS ?_;intro aS S;refine zH (C:=(uB No W [.blk U 102 [ii x,ii y],.row 5 1 I lb.length J (f9 lb),.row 102 2 z ls.length D (eT es)] (λσ Q=>match σ with|[]=>Q=[]|[v]=>∃(l:List Int)(A:Option Addr)(c:Nat),l.length=lb.length+4/\v=.slice A l.length c/\Q=[.row 5 1 A l.length c (f9 l)]|v::_=>∃(l:List Int)(A:Option Addr)(c:Nat),l.length=lb.length+8/\v=.slice A l.length c/\Q=[.row 5 1 A l.length c (f9 l)]))) [3,6] [0,1,2,4,5,3,6] [7] (uB.start rfl (S.gr (Gr.drew _))) ?_;refine zV (λτ wq hq=>((uB.st hq).blk (i:=0) rfl)) ?_;refine zV (λτ wq hq=>((uB.st hq).blk (i:=0) rfl)) ?_;refine de rfl rfl (λwq hq=>vh hq rfl (λQ hQ S=>?_)) ?_
  ·cases hQ;exact(ad x (S.rd (i:=1) rfl) hx.2 om S).mono λv w'⟨l',A',c',h1,h2,S'⟩=>⟨_,⟨l',A',c',h1,h2,rfl⟩,S'⟩
  rintro v3 w3 ⟨_,⟨l3,A3,c3,aI,rfl,_⟩,_⟩;refine de rfl rfl (λwq hq=>vh hq rfl (λQ hQ S=>?_)) ?_
  ·obtain⟨l,A,c,hl,hv,rfl⟩:=hQ;injection hv with h1 h2 h3;subst h1 h3;rw[h2];exact(ad y (S.rd (i:=0) rfl) hy.2 om S).mono λv w'⟨l',A',c',h1,h2,S'⟩=>⟨_,⟨l',A',c',om,h2,rfl⟩,S'.sub (.cons_cons _ (.cons _ (cQ _)))⟩
  rintro v6 w6 ⟨_,⟨l6,A6,c6,O,rfl,_⟩,_⟩;refine zY ?_;rintro wz hz;obtain⟨_,⟨l9,A9,c9,aJ,e9,rfl⟩,S⟩:=hz;injection e9 with q1 q2 q3;subst q1 q3;refine zg ?_;exact⟨m-1,om,k+1,l9,A6,c6,om,om,⟨se q2 rfl,rfl,rfl,rfl,trivial⟩,by simpa using S.sub (.cons_cons _ (.cons _ (.cons _ (.cons_cons _ .slnil))))⟩
 ·obtain rfl:k=ls.length:=om;refine zg ?_;rw[<-aA];exact nd rfl rfl ⟨lb,rfl,S.retNew (i:=0) (mk:=λs=>.tuple #[s,ii 0]) rfl⟩
end
end Go.Proofs.YtceahkcepefcaaaGreatDoor
