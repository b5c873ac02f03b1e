/- hachuretop.WholeLevels: a part of the proof that the law returns true at every input; no condition of its own. -/
import Derived.Lib.AppendZeros
import Derived.Test.YtjfeklflkikapaaGreatDoorKP
set_option maxRecDepth 100000
set_option maxHeartbeats 16000000
set_option linter.unusedVariables false
set_option linter.unusedSimpArgs false
namespace Go.Proofs.YtjfeklflkikapaaGreatDoor
open Go.Proofs.Tryz Go.RowKit
variable{Q:(Nat->Value)->World->Prop}{af:Array Edge}{ops:Array Oper}{h:HA}{a e0:Int}{L1 M:List HA}{ks:List Nat}{l l' l2 xs ys:List Value}{b bytes c c2 cB el g i k m n q:Nat}{c':Nat->Int}{F:Nat->Prop}{e:Nat->Value}{op:Op}{hi x:Operand}{A A1 A2 B:Option Addr}{d:Option Tmp}{P:Program}{t t' ty:TypeId}{u:Value}{W w w':World}
section
variable{ps:String}
def VX:BinOp->Bool
 |.and|.or|.xor=>true
 |_=>false
theorem gR{op:BinOp}{y:Operand}{k:IntKind}{b:Int}(v:VX op=true)(z:ev e x=.int k a)(D:ev e y=.int k b):iE P e ⟨d,.binOp op t x y t',ty,ps,af,none⟩ (.int k (bits op k a b)):=by
 intro w;cases op<;>first|(cases v;done)|simp[gd,execOp,z,D,eqGuard,binOp,intBits_and,intBits_or,intBits_xor]
theorem Pu{k:IntKind}(v:k.signed=false)(y:ev e x=.int k a):iE P e ⟨d,.unOp .xor t x,ty,ps,af,none⟩ (.int k (bits .xor k k.max a)):=by
 intro w;simp[gd,execOp,y,Op.unary,v,intBits_xor]
theorem Q9{k:IntKind}(v:k.signed=false)(n:Int):0<=k.wrap n/\k.wrap n<2^k.bits:=by
 have h:k.wrap n=n%(2^k.bits:Int):=by simp[IntKind.wrap,v]
 have y:(0:Int)<2^k.bits:=Int.pow_pos om;rw[h];exact⟨Int.emod_nonneg _ om,Int.emod_lt_of_pos _ y⟩
theorem DB{k:IntKind}(v:k.signed=false)(op:BinOp)(a b:Int):0<=bits op k a b/\bits op k a b<2^k.bits:=Q9 v _
theorem El(a:Int):0<=bits .and .u32 a 15/\bits .and .u32 a 15<16:=by
 have h:(BitVec.ofInt IntKind.u32.bits a&&& BitVec.ofInt IntKind.u32.bits 15).toNat<=15:=by
  rw[rE];exact Nat.and_le_right
 have e:bits .and .u32 a 15=IntKind.u32.wrap (((BitVec.ofInt IntKind.u32.bits a&&& BitVec.ofInt IntKind.u32.bits 15).toNat:Nat):Int):=rfl;rw[e,j3];omega
theorem Ng(y:0<=a)(h1:a<18446744073709551616):bits .xor .u64 a 0=a:=by
 unfold bits
 have h:(BitVec.ofInt IntKind.u64.bits a^^^BitVec.ofInt IntKind.u64.bits 0).toNat=a.toNat:=by
  have v:BitVec.ofInt IntKind.u64.bits 0=0#64:=rfl;rw[v];show(BitVec.ofInt 64 a^^^0#64).toNat=_;rw[BitVec.xor_zero,m8];omega
 show IntKind.u64.wrap (((BitVec.ofInt IntKind.u64.bits a^^^BitVec.ofInt IntKind.u64.bits 0).toNat:Nat):Int)=a;rw[h,gQ];omega
theorem Nh(y:0<=a)(h1:a<18446744073709551616):bits .xor .u64 a 18446744073709551615=18446744073709551615-a:=by
 unfold bits
 have h:(BitVec.ofInt IntKind.u64.bits a^^^BitVec.ofInt IntKind.u64.bits 18446744073709551615).toNat=18446744073709551615-a.toNat:=by
  have v:BitVec.ofInt 64 18446744073709551615=BitVec.allOnes 64:=by decide
  show(BitVec.ofInt 64 a^^^BitVec.ofInt 64 18446744073709551615).toNat=_;rw[v];show(BitVec.ofInt 64 a^^^BitVec.allOnes 64).toNat=_;rw[BitVec.xor_allOnes,BitVec.toNat_not,m8];omega
 show IntKind.u64.wrap (((BitVec.ofInt IntKind.u64.bits a^^^BitVec.ofInt IntKind.u64.bits 18446744073709551615).toNat:Nat):Int)=_;rw[h,gQ];omega
theorem xO{y:Operand}{a:Nat}{kx kd:IntKind}(D:ev e x=.int kx a)(I:ev e y=.int kd k)(J:k<=kx.bits):iE P e ⟨d,.binOp .shr t x y t',ty,ps,af,none⟩ (.int kx ((a/2^k:Nat):Int)):=by
 intro w;have h1:min (k:Int).toNat kx.bits=k:=by rw[b7];omega
 have h2:¬(k:Int)<0:=om
 have v:(a:Int).fdiv (2^k)=((a/2^k:Nat):Int):=by
  rw[jp _ (Int.le_of_lt (Int.pow_pos om))];push_cast;rfl
 have z:(binOp .shr t (.int kx a) (.int kd k)).run P w=.ok (.int kx ((a/2^k:Nat):Int)) w:=by
  simp only[b7]at h1;simp[binOp,Op.shift,h1,h2,v]
 simp[gd,execOp,D,I,eqGuard,z]
theorem H3{y:Operand}{kd:IntKind}(D:ev e x=ii a)(I:ev e y=.int kd 63)(h:-9223372036854775808<=a/\a<9223372036854775808):iE P e ⟨d,.binOp .shr t x y t',ty,ps,af,none⟩ (ii (if 0<=a then 0 else -1)):=by
 intro w
 have v:a.fdiv 9223372036854775808=if 0<=a then 0 else -1:=by
  rw[jp _ om];split<;>omega
 have z:(binOp .shr t (ii a) (.int kd 63)).run P w=.ok (ii (if 0<=a then 0 else -1)) w:=by
  simp[binOp,Op.shift,IntKind.bits,v]
 simp[gd,execOp,D,I,eqGuard,z]
theorem Pv{el:TypeId}(v:P.underlying t=some (.slice el))(y:ev e x=.slice A n c):iE P e ⟨d,.call ⟨.builtin .cap,#[x],#[t]⟩,ty,ps,af,none⟩ (ii c):=by
 intro w;simp[gd,execOp,resolve,invoke,builtin,Builtin.cap_,y,dS v,goInt]
end
def f9(l:List Int):List Value:=l.map λn=>.int .u8 n
theorem m4(l:List Int):(f9 l).length=l.length:=by simp[f9]
theorem F6(l:List Int):((f9 l).all λv=>v.oneCell')=true:=dh.2 λv y=>by
 simp only[f9,fC]at y;obtain⟨i,_,rfl⟩:=y;rfl
theorem KS(l m:List Int):f9 l++f9 m=f9 (l++m):=by simp[f9]
theorem wB(l:List Int)(n:Int):f9 l++[.int .u8 n]=f9 (l++[n]):=by simp[f9]
def Cv(mk:Value->Value)(n:Nat)(W:World):Value->World->Prop:=λv w=>∃l:List Int,l.length=n/\jc mk 5 1 n (f9 l) W v w
section
variable{l:List Int}
theorem nN:(prog.info? 5).map (λi=>(i.zero,i.size,i.bytes))=some (some (.int .u8 0),1,1):=by kernel_rfl
theorem AF(h0:0<l.length)(hm:l.length<=1099511627776)(z:Rd W A (f9 l)):Fn prog 200 [.slice A l.length c] W (jc id 5 1 l.length (f9 l) W):=by
 have O:=m4 l;have v:dO A:=z.someA om;obtain⟨Z,ao,rfl⟩:=v;have h1:=F6 l;have S:=St.start W;refine zI func200 ?_;refine zg ?_;refine cq (xF (B:=false) dg rfl rfl) ?_;refine zg ?_;refine mv dg gJ S ?_;intro D U L S y;refine zg ?_;refine fM (i:=0) S rfl (λh=>rfl) dg nN rfl rfl rfl rfl (by rw[O,cG]) om (z.gr S.out) h1 om ?_;intro I J V S y;refine zg ?_;rw[jL]at S;rw[eH]at S ⊢;exact ir rfl (S.retNew (i:=0) rfl)
theorem Jo:Fn prog 200 [.slice none 0 0] W (dp (.slice none 0 0) W):=by
 have S:=St.start W;refine zI func200 ?_;refine zg ?_;refine cq (xF (B:=true) dg rfl rfl) ?_;exact zZ
theorem F7(h:n<=c):Fn prog 304 [.slice A n c] W (dp (.slice A n n) W):=by
 have S:=St.start W;refine zI func304 ?_;refine zg ?_;refine cq (F5 dg gJ rfl rfl rfl (cN _) h) ?_;exact zZ
end
theorem F8{rest:List Oper}{L:List HA}{ps:String}{s:Operand}{t:Nat}{z:Value}(S:St F W w L)(hu:P.underlying t=some (.slice el))(hI:(P.info? el).map (λi=>(i.zero,i.size,i.bytes))=some (some z,k,bytes))(hz:Nat.beq z.cells.size k=true)(hs:ev e s=.slice A n n)(hx:ev e x=.slice B m c2)(ab:xs.length=n*k)(hR:Rd w A xs)(aa:A=none->n=0)(ac:ys.length=m*k)(Z:0<m)(V:0<k)(U:Rd w B ys)(h1:(ys.all λv=>v.oneCell')=true)(hb:(n+m)*(bytes+1)<=140737488355328)(hr:∀O c' w',Gr w w'->St F W w' (.row el k O (n+m) c' (xs++ys)::L)->dO O->RW P ops Q rest (fI e d (.slice O (n+m) c')) w') :
  RW P ops Q (⟨d,.call ⟨.builtin .append,#[s,x],#[t,t]⟩,ty,ps,af,none⟩::rest) e w:=by
 obtain⟨g,c',w',I,D,y,ad⟩:=Ek (d:=d) (ty:=ty) (ps:=ps) (af:=af) (e:=e) hu hI hz hs hx ab hR aa ac Z V U h1 hb;refine wZ I (hr _ _ w' y (S.pushRow D (λb J=>?_) y) (pS _ _));injection J with J;have J:g=b:=J;omega
section
variable{l:List Int}
theorem AG{u:Nat}:IntKind.u8.wrap (u:Int)=((u%256:Nat):Int):=by rw[gD];omega
theorem H4(u:Nat)(hu:u<18446744073709551616)(hl:l.length<=1099511627776)(hA:(A=none/\c=0/\l=[])\/(0<l.length/\Rd W A (f9 l))) :
  Fn prog 302 [.slice A l.length c,.int .u64 u] W (Cv id (l.length+ur u) W):=by
 have al:=us 9 u om;have S:=St.start W;refine zI func302 ?_;refine z ?_;refine zc ?_;refine gP (M:=λe w=>∃(A:Option Addr)(L:List HA),SL e [(0,.slice A l.length l.length),(1,.int .u64 u)]/\(A=none->l.length=0)/\Rd w A (f9 l)/\St No W w L) ?_ ?_
 ·rcases hA with⟨rfl,rfl,rfl⟩|⟨h0,hR⟩
  ·skip;refine zC (Jo) ?_;intro aA aq S;refine zC (F7 (W:=_) (A:=none) (n:=0) (c:=0) (cN _)) ?_;intro aB ar S;refine zg ?_;exact⟨none,_,sl,λ_=>rfl,.inl rfl,S⟩
  ·skip;refine zK (AF (c:=c) h0 hl (hR.gr S.out)) ?_;rintro _ aC ⟨U,ad,rfl,aa,ab,ae⟩;have S:=S.pushRow aa ab ae;refine zC (F7 (W:=_) (A:=U) (n:=l.length) (c:=ad) (S.row (i:=0) rfl).cap) ?_;intro aD au S;refine zg ?_
   have ah:U=none->l.length=0:=λh=>by
    have:=(S.row (i:=0) rfl).someA om;rw[h]at this;obtain⟨_,_,h⟩:=this;cases h
   exact⟨U,_,sl,ah,S.rd (i:=0) rfl,S⟩
 ·rintro e1 w1 ⟨A1,L1,D,Z,ag,S⟩;rw[D.fold];refine zg ?_
  refine dl (λm e w=>∃x:Nat,m=x/\((x=u/\SL e [(0,.slice A1 l.length l.length),(1,.int .u64 x)]/\Rd w A1 (f9 l)/\St No W w L1) \/
    ∃(l':List Int)(A2:Option Addr)(c2:Nat),l'.length+ur x=l.length+ur u/\SL e [(0,.slice A2 l'.length c2),(1,.int .u64 x)]/\St No W w (.row 5 1 A2 l'.length c2 (f9 l')::L1))) u
   ⟨u,rfl,.inl ⟨rfl,sl,ag,S⟩⟩ ?_
  clear S;rintro m e w ⟨x,rfl,⟨rfl,D,hR,S⟩|⟨l',A2,c2,O,D,S⟩⟩
  ·rw[D.fold];by_cases hx:128<=m
   ·have V:=yj hx;refine zg ?_;refine cq (s9 rfl rfl (B:=true) (by simp;omega)) ?_;refine zg ?_;refine cq (dY (ks:=.u64) (n:=m) (kd:=.u8) dU dv rfl AG) ?_;refine cq (gR (op:=.or) rfl rfl rfl) ?_;refine yb S ?_;intro y aE av S v;refine F8 S dg nN rfl rfl rfl (by rw[m4,cG]) (hR.gr (by assumption)) Z rfl om om (S.rd (i:=0) rfl) rfl om ?_;intro A2 c2 w2 g2 S ai;refine zg ?_;refine cq (xO (kx:=.u64) (a:=m) (k:=7) rfl rfl (by decide)) ?_;refine zg ?_;rw[wB]at S;exact⟨m/128,om,_,rfl,.inr ⟨l++[bits .or .u8 ((m%256:Nat):Int) 128],A2,c2,by rw[cP,iV];omega,⟨se (by simp) rfl,rfl,trivial⟩,by simpa using S.sub (.cons_cons _ (.cons _ (cQ _)))⟩⟩
   ·have V:=vI (u:=m) om;refine zg ?_;refine cq (s9 rfl rfl (B:=false) (by simp;omega)) ?_;refine zg ?_;refine cq (dY (ks:=.u64) (n:=m) (kd:=.u8) dU dv rfl AG) ?_;refine yb S ?_;intro y aF aw S v;refine F8 S dg nN rfl rfl rfl (by rw[m4,cG]) (hR.gr (by assumption)) Z rfl om om (S.rd (i:=0) rfl) rfl om ?_;intro A2 c2 w2 g2 S ai;refine zg ?_;rw[wB]at S;rw[V];exact ir rfl ⟨_,by simp,S.retNew (i:=0) rfl⟩
  ·have az:=Dt m;rw[D.fold];by_cases hx:128<=m
   ·have V:=yj hx;refine zg ?_;refine cq (s9 rfl rfl (B:=true) (by simp;omega)) ?_;refine zg ?_;refine cq (dY (ks:=.u64) (n:=m) (kd:=.u8) dU dv rfl AG) ?_;refine cq (gR (op:=.or) rfl rfl rfl) ?_;refine yb S ?_;intro y am aj S v;refine fM (i:=1) S rfl (λh=>rfl) dg nN rfl rfl rfl rfl (by simp) om (S.rd (i:=0) rfl) rfl om ?_;intro I J an S ac;refine zg ?_;refine cq (xO (kx:=.u64) (a:=m) (k:=7) rfl rfl (by decide)) ?_;refine zg ?_;rw[wB]at S;exact⟨m/128,om,_,rfl,.inr ⟨l'++[bits .or .u8 ((m%256:Nat):Int) 128],I,J,by rw[cP,iV];omega,⟨se (by simp) rfl,rfl,trivial⟩,by simpa using S.drop 1⟩⟩
   ·have V:=vI (u:=m) om;refine zg ?_;refine cq (s9 rfl rfl (B:=false) (by simp;omega)) ?_;refine zg ?_;refine cq (dY (ks:=.u64) (n:=m) (kd:=.u8) dU dv rfl AG) ?_;refine yb S ?_;intro y ao ak S v;refine fM (i:=1) S rfl (λh=>rfl) dg nN rfl rfl rfl rfl (by simp) om (S.rd (i:=0) rfl) rfl om ?_;intro I J ap S ac;refine zg ?_;rw[wB]at S;rw[V]at O;rw[<-O];exact ir rfl ⟨_,by simp,S.retNew (i:=1) rfl⟩
end
theorem Cw{ps:String}{y:Operand}{b:Int}{B:Bool}(z:ev e x=.int .u64 a)(D:ev e y=.int .u64 b)(v:(a !=b)=B):iE P e ⟨d,.binOp .neq t x y t',ty,ps,af,none⟩ (.bool B):=by
 intro w;subst v;simp[gd,execOp,z,D,eqGuard,binOp,Op.intCmp]
section
variable{l:List Int}
theorem Ni(x:Int)(h:-4294967296<=x/\x<=4294967296):Fn prog 303 [ii x] W (dp (.int .u64 (sW x)) W):=by
 have S:=St.start W;refine zI func303 ?_;by_cases v:0<=x
 ·have y:((sW x:Nat):Int)=2*x:=by unfold sW;rw[a7 v];omega
  refine zg ?_;refine cq (dY (ks:=.i64) (n:=x) (kd:=.u64) (m:=x) cw dU rfl (by rw[gQ];omega)) ?_;refine cq (vz (c:=2*x) rfl rfl (by decide) (by show IntKind.u64.wrap (x*2)=_;rw[gQ];omega)) ?_;refine zg ?_;refine cq (H3 rfl rfl om) ?_;refine cq (dY (ks:=.i64) (n:=if 0<=x then 0 else -1) (kd:=.u64) (m:=0) cw dU rfl (by rw[a7 v];decide)) ?_;refine cq (gR (op:=.xor) rfl rfl rfl) ?_;rw[Ng om om];refine zX ?_;exact⟨by rw[y],S.out⟩
 ·have y:((sW x:Nat):Int)=-2*x-1:=by unfold sW;rw[a8 v];omega
  refine zg ?_;refine cq (dY (ks:=.i64) (n:=x) (kd:=.u64) (m:=18446744073709551616+x) cw dU rfl (by rw[gQ];omega)) ?_;refine cq (vz (c:=18446744073709551616+2*x) rfl rfl (by decide) (by show IntKind.u64.wrap ((18446744073709551616+x)*2)=_;rw[gQ];omega)) ?_;refine zg ?_;refine cq (H3 rfl rfl om) ?_;refine cq (dY (ks:=.i64) (n:=if 0<=x then 0 else -1) (kd:=.u64) (m:=18446744073709551615) cw dU rfl (by rw[a8 v];decide)) ?_;refine cq (gR (op:=.xor) rfl rfl rfl) ?_;rw[Nh om om];refine zX ?_;exact⟨by rw[y];congr 1;omega,S.out⟩
theorem VY(k u:Nat)(hk:1<=k/\k<8)(hu:u<2^(8*k))(hl:0<l.length/\l.length<=1099511627776)(hA:Rd W A (f9 l)) :
  Fn prog 291 [.slice A l.length c,ii k,.int .u64 u] W (Cv (λs=>.tuple #[s,ii 0]) (l.length+k) W):=by
 have e8:(8:Int)*k=((8*k:Nat):Int):=om;have hz:((u/2^(8*k):Nat):Int)=0:=by rw[ee hu];rfl
 have S:=St.start W;refine zI func291 ?_;(iterate 3 refine z ?_);refine zf ?_;refine z ?_;refine z ?_;refine zf ?_;(iterate 3 refine z ?_);refine zt ?_;iterate 3 refine z ?_
 refine dr rfl ?_;refine cq (fh rfl om) ?_;rw[e8];refine dr rfl ?_;refine cq (xO (kx:=.u64) (a:=u) (k:=8*k) rfl rfl (by show 8*k<=64;omega)) ?_;refine dr rfl ?_;refine cq (Cw (B:=false) rfl rfl (by rw[hz];rfl)) ?_;refine zK (AF (c:=c) hl.1 hl.2 (hA.gr S.out)) ?_;rintro _ ak ⟨v,L,rfl,V,Z,ab⟩;have S:=S.pushRow V Z ab;refine zC (F7 (W:=_) (A:=v) (n:=l.length) (c:=L) (S.row (i:=0) rfl).cap) ?_;intro al ae S;refine zg ?_
 have ac:v=none->l.length=0:=λh=>by
  have:=(S.row (i:=0) rfl).someA hl.1;rw[h]at this;obtain⟨_,_,h⟩:=this;cases h
 have U:=S.rd (i:=0) rfl
 refine dl (λm e w=>∃i:Nat,i+m=k/\((i=0/\SL e [(0,.slice v l.length l.length),(2,.int .u64 u),(29,ii k),(30,ii i)]/\Rd w v (f9 l)/\St No W w [.row 5 1 v l.length L (f9 l)]) \/
   ∃(l':List Int)(A2:Option Addr)(c2:Nat),l'.length=l.length+i/\SL e [(0,.slice A2 l'.length c2),(2,.int .u64 u),(29,ii k),(30,ii i)]/\St No W w [.row 5 1 A2 l'.length c2 (f9 l')])) k
  ⟨0,om,.inl ⟨rfl,sl,U,S⟩⟩ ?_
 clear S U;rintro m e w ⟨i,hi,⟨rfl,I,hR,S⟩|⟨l',A2,c2,aa,I,S⟩⟩
 ·rw[I.fold];have e0:(8:Int)*((0:Nat):Int)=((8*0:Nat):Int):=rfl;refine zg ?_;rw[e0];refine cq (xO (kx:=.u64) (a:=u) (k:=8*0) rfl rfl (by decide)) ?_;refine cq (dY (ks:=.u64) (kd:=.u8) dU dv rfl AG) ?_;refine yb S ?_;intro D am ag S y;refine F8 S dg nN rfl rfl rfl (by rw[m4,cG]) (hR.gr (by assumption)) ac rfl om om (S.rd (i:=0) rfl) rfl om ?_;intro A2 c2 w2 g2 S aj;refine zg ?_;rw[wB]at S;exact⟨k-1,om,1,om,.inr ⟨l++[((u/2^(8*0)%256:Nat):Int)],A2,c2,by simp,⟨se (by simp) rfl,rfl,rfl,rfl,trivial⟩,by simpa using S.sub (.cons_cons _ (.cons _ (.cons _ .slnil)))⟩⟩
 ·rw[I.fold];by_cases ai:i<k
  ·have e0:(8:Int)*(i:Int)=((8*i:Nat):Int):=om;refine zg ?_;rw[e0];refine cq (xO (kx:=.u64) (a:=u) (k:=8*i) rfl rfl (by show 8*i<=64;omega)) ?_;refine cq (dY (ks:=.u64) (kd:=.u8) dU dv rfl AG) ?_;refine yb S ?_;intro D an ah S y;refine fM (i:=1) S rfl (λh=>rfl) dg nN rfl rfl rfl rfl (by simp) om (S.rd (i:=0) rfl) rfl om ?_;intro J O ao S ad;refine zg ?_;rw[wB]at S;exact⟨m-1,om,i+1,om,.inr ⟨l'++[((u/2^(8*i)%256:Nat):Int)],J,O,by simp;omega,⟨se (by simp) rfl,rfl,rfl,rfl,trivial⟩,by simpa using S.drop 1⟩⟩
  ·obtain rfl:i=k:=om;refine zg ?_;rw[<-aa];exact nd rfl rfl ⟨_,rfl,S.retNew (i:=0) (mk:=λs=>.tuple #[s,ii 0]) rfl⟩
theorem VZ(k u:Nat)(U:1<=k/\k<8)(I:u<2^(8*k))(V:0<l.length/\l.length<=1099511627776)(L:Rd W A (f9 l)) :
  Fn prog 272 [.slice A l.length c,ii k,ii u] W (Cv id (l.length+k) W):=by
 have J:u<2^64:=fg I (fP om om);have O:IntKind.u64.wrap (u:Int)=u:=re _ om;have S:=St.start W;refine zI func272 ?_;refine zg ?_;refine cq (dY (ks:=.i64) (n:=u) (kd:=.u64) (m:=u) cw dU rfl O) ?_;refine zK (VY (c:=c) k u U I V (L.gr S.out)) ?_;rintro _ Z ⟨l2,D,A2,c2,rfl,y,z,v⟩;have S:=S.pushRow y z v;refine zX ?_;exact⟨l2,D,S.retNew (i:=0) rfl⟩
theorem Nj(w:World)(n:Nat)(U:0<n/\n<=1099511627776):∃g z w',(Builtin.append_ #[37,3] 37 #[.slice none 0 0,ii n]).run prog w=.ok (.slice (some ⟨g,0,none⟩) n z) w'/\gH w' 5 1 (some ⟨g,0,none⟩) 0 z []/\Gr w w'/\w.heap.size<=g/\n<=z:=by
 obtain⟨S,v,J,L,O⟩:=nG nN;have y:=Lib.run_append_nil_zeros (P:=prog) w 37 3 37 5 S _ .i64 .i64 dg dB v J n om (by rw[L];decide) om (by rw[O];omega);have I:=grownCap_ge w n 0 5;have D:grownCap w n 0 5<=maxLen:=p9 w n 0 5 (by unfold maxLen;omega);refine⟨_,_,_,y,gH.mk_ (l:=(Builtin.zeroCells (Value.int .u8 0).cells n++Builtin.zeroCells (Value.int .u8 0).cells (grownCap w n 0 5-n)).toList) ?_ (ib _) ?_ ?_ D,(Gr.drew w).trans (Gr.alloc _ _),cN _,I⟩
 ·unfold eL;rw[o6];exact nH w.drew _
 ·rw[pC,qH,nF,nF];show n*1+(grownCap w n 0 5-n)*1=grownCap w n 0 5*1;omega
 ·rw[iD,List.take_zero]
theorem TQ(n:Nat)(V:0<n/\n<=1099511627776):Fn prog 273 [.slice none 0 0,ii n] W (λv w'=>∃A c,v=.slice A 0 c/\gH w' 5 1 A 0 c []/\tr W A/\Gr W w'):=by
 have e0:(n:Int)-(((0:Nat):Int)-((0:Nat):Int))=n:=om;have S:=St.start W;refine zI func273 ?_;refine zg ?_;refine cq (Pv dg rfl) ?_;refine zg ?_;rw[e0];refine zg ?_;refine cq (Pv dg rfl) ?_;refine cq (jb dg gJ rfl rfl om om) ?_;refine zg ?_;obtain⟨I,D,Z,O,J,L,y,U⟩:=Nj _ n V;refine wZ (v:=.slice (some ⟨I,0,none⟩) n D) (w':=Z) (by simp[execOp,resolve,invoke,builtin,ev,xW,qJ,fI];rw[O];rfl) ?_;have S:=S.gr L;refine zg ?_;refine cq (jb dg gJ rfl rfl om om) ?_;refine zg ?_;refine ir rfl ⟨_,_,rfl,J,λb z=>?_,S.out⟩;injection z with z;have z:I=b:=z;have y:W.heap.size<=I:=y;omega
structure BR where
 A:Option Addr
 c:Nat
 l:List Int
variable{ls:List BR}
def BR.v(q:BR):Value:=.slice q.A q.l.length q.c
def yO(ls:List BR):List Value:=ls.map BR.v
theorem Ra(ls:List BR):(yO ls).length=ls.length:=by simp[yO]
theorem H5{q:BR}(h:ls[i]?=some q):(yO ls)[i]?=some (.slice q.A q.l.length q.c):=by
 unfold yO;rw[da,h];rfl
def mj(ls:List BR):List Int:=ls.flatMap BR.l
theorem F9{q:BR}(h:ls[i]?=some q):mj (ls.take (i+1))=mj (ls.take i)++q.l:=by
 unfold mj;rw[kK,h];simp
theorem BH(hB:Rd W B (yO ls))(hq:∀q∈ls,0<q.l.length/\Rd W q.A (f9 q.l))(h0:0<ls.length)(hn:ls.length<=1048576)(hm:(mj ls).length<=1099511627776) :
  Fn prog 223 [.slice B ls.length cB] W (jc id 5 1 (mj ls).length (f9 (mj ls)) W):=by
 have ah:dO B:=hB.someA (by rw[Ra];omega)
 have ab:∀i,(mj (ls.take i)).length<=(mj ls).length:=λi=>by
  have:mj ls=mj (ls.take i)++mj (ls.drop i):=by unfold mj;rw[<-kZ,lV]
  rw[this,cP];omega
 have S:=St.start W;refine zI func223 ?_;refine zg ?_
 refine dl (λm e w=>∃i:Nat,i+m=ls.length/\SL e [(0,.slice B ls.length cB),(3,ii (mj (ls.take i)).length),(9,.slice B ls.length cB),(10,ii ls.length),(11,ii i)]/\St No W w []) ls.length
  ⟨0,om,sl,S⟩ ?_
 clear S;rintro m e w ⟨i,hi,L,S⟩;rw[L.fold];by_cases J:i<ls.length
 ·obtain⟨q,v⟩:∃q,ls[i]?=some q:=⟨_,ct J⟩;have hg:=H5 v;have O:=F9 v;have D:=ab (i+1);rw[O,cP]at D;have I:(yO ls)[(i:Int).toNat * 1]?=some (.slice q.A q.l.length q.c):=by rw[b7,cG];exact hg
  refine zT (hB.gr S.out) I ?_;refine zg ?_;exact⟨m-1,om,i+1,om,⟨rfl,ie (by rw[O,cP];omega),rfl,rfl,rfl,trivial⟩,S⟩
 ·obtain rfl:i=ls.length:=om;rw[i6]
  have hp:0<(mj ls).length:=by
   obtain⟨q,r,rfl⟩:∃q r,ls=q::r:=by
    cases ls with
    |nil=>simp at h0
    |cons q r=>exact⟨q,r,rfl⟩
   have:=(hq q (by simp)).1;unfold mj;rw[fe,cP];omega
  refine zK (TQ (W:=w) (mj ls).length ⟨hp,hm⟩) ?_;rintro _ ak ⟨y,z,rfl,Z,aa,ad⟩;have S:=S.pushRow Z aa ad;refine zg ?_
  refine dl (λm e w=>∃(i:Nat)(y:Option Addr)(z:Nat),i+m=ls.length/\SL e [(6,.slice y (mj (ls.take i)).length z),(25,.slice B ls.length cB),(26,ii ls.length),(27,ii i)]/\St No W w [.row 5 1 y (mj (ls.take i)).length z (f9 (mj (ls.take i)))]) ls.length
   ⟨0,y,z,om,sl,S⟩ ?_
  clear S;rintro m e w ⟨i,y,z,hi,L,S⟩;rw[L.fold];by_cases J:i<ls.length
  ·obtain⟨q,v⟩:∃q,ls[i]?=some q:=⟨_,ct J⟩;have hg:=H5 v;have O:=F9 v;have D:=ab (i+1);rw[O,cP]at D;have I:(yO ls)[(i:Int).toNat * 1]?=some (.slice q.A q.l.length q.c):=by rw[b7,cG];exact hg
   obtain⟨aj,ae⟩:=hq q (dD v);have ag:=F6 q.l;refine zT (hB.gr S.out) I ?_;refine zg ?_;refine fM (i:=0) S rfl (λh=>rfl) dg nN rfl rfl rfl rfl (by rw[m4,cG]) om (ae.gr S.out) ag om ?_;intro U V al S ai;refine zg ?_;rw[KS,<-O]at S;have ac:(mj (ls.take i)).length+q.l.length=(mj (ls.take (i+1))).length:=by rw[O,cP]
   rw[ac]at S;exact⟨m-1,om,i+1,U,V,om,⟨se ac rfl,rfl,rfl,rfl,trivial⟩,S⟩
  ·obtain rfl:i=ls.length:=om;rw[i6];rw[i6]at S;refine zX ?_;exact(S.retNew (i:=0) rfl)
end
variable{ls:List BR}
end Go.Proofs.YtjfeklflkikapaaGreatDoor
