/- hachuretop.WholeLevels: a part of the proof that the law returns true at every input; no condition of its own. -/
import Derived.Test.YtjfeklflkikapaaGreatDoorKQ
import Derived.Lib.AppendZeros
set_option maxRecDepth 100000
set_option maxHeartbeats 16000000
set_option linter.unusedVariables false
set_option linter.unusedSimpArgs false
namespace Go.Proofs.YtjfeklflkikapaaGreatDoor
open Go.Proofs.Tryz Go.RowKit
variable{Q:(Nat->Value)->World->Prop}{af:Array Edge}{ops:Array Oper}{f:FuncId}{h:HA}{a:Int}{kh kl kn:IntKind}{ls:List BR}{hd ks:List Nat}{l l2 xs ys:List Value}{b bytes c c1 c2 cB cur el g i j k k1 k2 m n n2 q t2 tb:Nat}{c':Nat->Int}{F:Nat->Prop}{e:Nat->Value}{op:Op}{hi lo x:Operand}{A A1 A2 B:Option Addr}{d:Option Tmp}{P:Program}{t t' ty:TypeId}{u:Value}{R:Value->World->Prop}{W w w':World}
def uA(A:Option Addr)(n r:Nat):Option Addr:=if r=0 then A else A.map λa=>a.add n
theorem Rd.off(h:Rd w A xs){len cap:Nat}(D:xs.length=len*k)(L:m<=len)(J:len<=cap):Rd w (uA A (m*k) (cap-m)) (xs.drop (m*k)):=by
 unfold uA;split
 ·have e:xs.drop (m*k)=[]:=List.drop_eq_nil_iff.2 (by rw[D,(om:len=m)];exact cN _);rw[e];exact .inl rfl
 ·rcases h with rfl|⟨b,o,rfl,z,I⟩
  ·exact .inl (List.drop_nil)
  ·refine .inr ⟨b,o+m*k,?_,z,λj v y=>?_⟩
   ·exact congrArg some (js b o (m*k))
   ·rw[jD]at y;rw[mI];exact I _ v y
theorem Rd.tk(h:Rd w A xs)(n:Nat):Rd w A (xs.take n):=by
 rcases h with rfl|⟨b,o,z,D,I⟩
 ·exact .inl List.take_nil
 ·refine .inr ⟨b,o,z,D,λj v y=>I j v ?_⟩;rw[fJ]at y;split at y
  ·exact y
  ·cases y
section
variable{ps:String}
theorem vN{y:Operand}{k:IntKind}{b:Int}{B:Bool}(z:ev e x=.int k a)(D:ev e y=.int k b)(v:(a==b)=B):iE P e ⟨d,.binOp .eql t x y t',ty,ps,af,none⟩ (.bool B):=by
 intro w;subst v;simp[gd,execOp,z,D,eqGuard,binOp,Op.intCmp]
theorem Jq{el:TypeId}{len cap:Nat}(I:P.underlying t=some (.slice el))(L:∀w,(sizeOf el).run P w=.ok k w)(J:ev e x=.slice A len cap)(D:ev e lo=.int kl m)(h1:m<=len)(O:len<=cap) :
  iE P e ⟨d,.slice t x (some lo) none none,ty,ps,af,none⟩ (.slice (uA A (m*k) (cap-m)) (len-m) (cap-m)):=by
 intro w;have v:(m:Int)<=len:=om;unfold uA;by_cases z:cap-m=0
 ·simp[gd,execOp,J,D,Instr.sliceAt,Instr.slice,dS I,Instr.sliceBounds,j0,v,L,z];intro h;omega
 ·have y:¬cap<=m:=om;simp[gd,execOp,J,D,Instr.sliceAt,Instr.slice,dS I,Instr.sliceBounds,j0,v,L,z,y];intro h;omega
theorem Gb{el:TypeId}{len cap:Nat}(L:P.underlying t=some (.slice el))(S:∀w,(sizeOf el).run P w=.ok k w)(O:ev e x=.slice A len cap)(J:ev e lo=.int kl m)(I:ev e hi=.int kh n)(h1:m<=n)(h2:n<=cap) :
  iE P e ⟨d,.slice t x (some lo) (some hi) none,ty,ps,af,none⟩ (.slice (uA A (m*k) (cap-m)) (n-m) (cap-m)):=by
 intro w;have v:(m:Int)<=n:=om;have y:(n:Int)<=cap:=om;unfold uA;by_cases D:cap-m=0
 ·simp[gd,execOp,O,J,I,Instr.sliceAt,Instr.slice,dS L,Instr.sliceBounds,j0,v,y,S,D];intro h;omega
 ·have z:¬cap<=m:=om;simp[gd,execOp,O,J,I,Instr.sliceAt,Instr.slice,dS L,Instr.sliceBounds,j0,v,y,S,D,z];intro h;omega
end
theorem Rg(l:List Int)(n:Nat):(f9 l).drop (n*1)=f9 (l.drop n):=by unfold f9;rw[cG,List.map_drop]
theorem tK(l:List Int)(n:Nat):(f9 l).take n=f9 (l.take n):=by unfold f9;rw[List.map_take]
theorem Rd.off8{l:List Int}{cap:Nat}(h:Rd w A (f9 l))(y:m<=l.length)(v:l.length<=cap):Rd w (uA A (m*1) (cap-m)) (f9 (l.drop m)):=by
 have:=h.off (k:=1) (len:=l.length) (m:=m) (cap:=cap) (by rw[m4,cG]) y v;rwa[Rg]at this
theorem Cx{l:List Int}(h:i<l.length):(f9 l)[(i:Int).toNat * 1]?=some (.int .u8 l[i]):=by
 rw[b7,cG];unfold f9;rw[da,ct h];rfl
section
variable{l:List Int}
theorem H7(n:Nat)(hn:n<=l.length)(hc:l.length<=c)(hm:l.length<=1099511627776)(hA:Rd W A (f9 l)) :
  Fn prog 258 [.slice A l.length c,ii n] W (λv w'=>∃u nx e:Int,v=.tuple #[.int .u64 u,ii nx,ii e]/\(0<=u/\u<18446744073709551616)/\(e=0->∃k:Nat,nx=k/\n<k/\k<=l.length)/\Gr W w'):=by
 have hb:∀op a b,0<=bits op .u64 a b/\bits op .u64 a b<18446744073709551616:=λop a b=>DB (k:=.u64) rfl op a b
 have hD:=hA.off8 hn hc
 generalize hA2:uA A (n*1) (c-n)=A2 at hD
 have hl2:l.length-n=(l.drop n).length:=by rw[i8]
 generalize hd:l.drop n=d at *
 have S:=St.start W
 refine zI func258 ?_
 refine zg ?_
 refine cq (Jq dg gJ rfl rfl hn hc) ?_
 rw[hA2,hl2]
 refine zg ?_
 refine dl (λm e w=>∃(i:Nat)(u:Int),i+m=d.length/\(0<=u/\u<18446744073709551616)/\SL e [(1,ii n),(7,.int .u64 u),(20,.slice A2 d.length (c-n)),(21,ii d.length),(22,ii i)]/\St No W w []) d.length
  ⟨0,0,om,om,⟨rfl,rfl,rfl,rfl,rfl,trivial⟩,S⟩ ?_
 clear S
 rintro m e w ⟨i,u,hi,hu,hsl,S⟩
 rw[hsl.fold]
 rcases cr (i<d.length)with hlt|hlt
 ·have sa_B:dO A2:=hD.someA (by rw[m4];omega)
  have hget:=Cx hlt
  generalize d[i]=b at hget
  rcases cr (i=9/\1<b)with h9|h9
  ·skip
   refine yX ?_
   exact⟨0,0,13,rfl,om,(λh=>absurd h (by decide)),S.out⟩
  ·rcases cr (b<128)with h128|h128
   ·rcases cr (b=0/\0<i)with h0|h0
    ·have hb0:=h0.1
     rcases cr (i=9)with h|h
     all_goals
      refine zT (hD.gr S.out) hget ?_
      refine zg ?_
      refine cq (gR (op:=.and) rfl rfl rfl) ?_
      refine cq (dY (ks:=.u8) (n:=bits .and .u8 b 127) (kd:=.u64) dv dU rfl rfl) ?_
      refine zg ?_
      refine cq (vz rfl rfl om rfl) ?_
      refine cq (gR (op:=.or) rfl rfl rfl) ?_
      refine z ?_;refine z ?_
      refine cq (uz (B:=true) rfl rfl (cF om)) ?_
      refine z ?_
      first|refine cq (vN (B:=true) rfl rfl (fX.2 om)) ?_|refine cq (vN (B:=false) rfl rfl (et.2 om)) ?_
      refine zX ?_
      exact⟨0,0,13,rfl,om,(λh=>absurd h (by decide)),S.out⟩
    ·have hr:(n:Int)+(i:Int)+1=((n+i+1:Nat):Int):=om
     have hle:n+i+1<=l.length:=om
     rcases cr (i=9)with h|h
     all_goals
      rcases cr (b=0)with hb0|hb0
     all_goals
      refine zT (hD.gr S.out) hget ?_
      iterate 3 refine z ?_
      first|refine cq (ff (b:=false) rfl (cC om)) ?_|refine cq (ff (b:=true) rfl (cF om)) ?_
      refine z ?_;refine z ?_
      first|refine eD rfl ?_|(refine dr rfl ?_;first|refine cq (qA (B:=true) rfl rfl (cF om)) ?_|refine cq (qA (B:=false) rfl rfl (cC om)) ?_)
      iterate 3 refine z ?_
      refine cq (gR (op:=.and) rfl rfl rfl) ?_
      refine cq (dY (ks:=.u8) (n:=bits .and .u8 b 127) (kd:=.u64) dv dU rfl rfl) ?_
      refine zg ?_
      refine cq (vz rfl rfl om rfl) ?_
      refine cq (gR (op:=.or) rfl rfl rfl) ?_
      refine z ?_;refine z ?_
      refine cq (uz (B:=true) rfl rfl (cF om)) ?_
      refine z ?_
      first|refine cq (vN (B:=true) rfl rfl (fX.2 om)) ?_|refine cq (vN (B:=false) rfl rfl (et.2 om)) ?_
      refine z ?_;refine z ?_
      first|refine eD rfl ?_|(refine dr rfl ?_;first|refine cq (ff (b:=false) rfl (cC om)) ?_|refine cq (ff (b:=true) rfl (cF om)) ?_)
      (iterate 4 refine z ?_);(iterate 2 refine zr ?_);iterate 3 refine z ?_
      refine zq ?_
      exact tE rfl rfl rfl ⟨_,_,0,rfl,hb .or _ _,(λ_=>⟨n+i+1,hr,om,hle⟩),S.out⟩
   ·rcases cr (i=9)with h|h
    all_goals
     refine zT (hD.gr S.out) hget ?_
     iterate 3 refine z ?_
     first|refine cq (ff (b:=false) rfl (cC om)) ?_|refine cq (ff (b:=true) rfl (cF om)) ?_
     refine z ?_;refine z ?_
     first|refine eD rfl ?_|(refine dr rfl ?_;first|refine cq (qA (B:=true) rfl rfl (cF om)) ?_|refine cq (qA (B:=false) rfl rfl (cC om)) ?_)
     iterate 3 refine z ?_
     refine cq (gR (op:=.and) rfl rfl rfl) ?_
     refine cq (dY (ks:=.u8) (n:=bits .and .u8 b 127) (kd:=.u64) dv dU rfl rfl) ?_
     refine zg ?_
     refine cq (vz rfl rfl om rfl) ?_
     refine cq (gR (op:=.or) rfl rfl rfl) ?_
     refine z ?_;refine z ?_
     refine cq (uz (B:=false) rfl rfl (cC om)) ?_
     refine zg ?_
     exact⟨m-1,om,i+1,_,om,hb .or _ _,⟨rfl,rfl,rfl,rfl,rfl,trivial⟩,S⟩
 ·skip
  refine zX ?_
  exact⟨0,0,14,rfl,om,(λh=>absurd h (by decide)),S.out⟩
end
section
variable{ps:String}
theorem rT{y:Operand}{kx kd:IntKind}(D:ev e x=.int kx a)(I:ev e y=.int kd k)(z:k<=kx.bits)(v:0<=a):iE P e ⟨d,.binOp .shr t x y t',ty,ps,af,none⟩ (.int kx (a/2^k)):=by
 obtain⟨n,rfl⟩:=cJ v;have h:=xO (P:=P) (d:=d) (ty:=ty) (ps:=ps) (af:=af) (t:=t) (t':=t') (kx:=kx) (a:=n) (k:=k) D I z;rwa[show((n/2^k:Nat):Int)=(n:Int)/2^k by push_cast;rfl]at h
end
def jX(w:World):Prop:=∃tb:List Int,tb.length=16/\Rd w (some ⟨1,0,none⟩) (tb.map λn=>Value.int .u32 n)
theorem jX.gr(h:jX w)(g:Gr w w'):jX w':=by
 obtain⟨tb,h1,h2⟩:=h;exact⟨tb,h1,h2.gr g⟩
theorem Gc{tb:List Int}(h:tb.length=16)(y:Rd w (some ⟨1,0,none⟩) (tb.map λn=>Value.int .u32 n))(z:k<16):∃n:Int,w.cell? ⟨1,0+k*1,none⟩=some (.int .u32 n):=by
 have v:k<tb.length:=om;refine⟨tb[k],?_⟩;rw[cG];exact y.cell rfl (by rw[da,ct v];rfl)
section
variable{l:List Int}
theorem Nm(hT:jX W)(hm:l.length<=1073741824)(hA:Rd W A (f9 l)):Fn prog 255 [.int .u32 0,.slice A l.length c] W (λv w'=>∃s:Int,(0<=s/\s<4294967296)/\v=.int .u32 s/\Gr W w'):=by
 have y:∀op a b,0<=bits op .u32 a b/\bits op .u32 a b<4294967296:=λop a b=>DB (k:=.u32) rfl op a b;obtain⟨tb,I,J⟩:=hT;have S:=St.start W;refine zI func255 ?_;refine zg ?_;refine cq (Pu rfl rfl) ?_;refine zg ?_
 refine dl (λm e w=>∃(i:Nat)(s:Int),i+m=l.length/\(0<=s/\s<4294967296)/\SL e [(0,.int .u32 s),(9,.slice A l.length c),(10,ii l.length),(11,ii i)]/\St No W w []) l.length
  ⟨0,_,om,y .xor IntKind.u32.max 0,sl,S⟩ ?_
 clear S;rintro m e w ⟨i,s,hi,hs,ae,S⟩;rw[ae.fold];by_cases V:i<l.length
 ·have ag:dO A:=hA.someA (by rw[m4];omega)
  have hg:(f9 l)[(i:Int).toNat * 1]?=some (.int .u8 l[i]):=by
   rw[b7,cG];unfold f9;rw[da,ct V];rfl
  generalize l[i]=b at hg;have Z:=y .xor s (IntKind.u32.wrap b);generalize ac:bits .xor .u32 s (IntKind.u32.wrap b)=L at Z;have z:=El L;obtain⟨t1,O⟩:=Gc I (J.gr S.out) (k:=(bits .and .u32 L 15).toNat) om;have aa:=y .xor (L/2^4) t1;generalize ad:bits .xor .u32 (L/2^4) t1=s2 at aa;have D:=El s2;obtain⟨t2,U⟩:=Gc I (J.gr S.out) (k:=(bits .and .u32 s2 15).toNat) om;have ab:=y .xor (s2/2^4) t2;refine zT (hA.gr S.out) hg ?_;refine zg ?_;refine cq (dY (ks:=.u8) (n:=b) (kd:=.u32) dv fS rfl rfl) ?_;refine cq (gR (op:=.xor) rfl rfl rfl) ?_;rw[ac];refine zg ?_;refine cq (rT (k:=4) rfl rfl (by decide) om) ?_;refine zg ?_;refine cq (gR (op:=.and) rfl rfl rfl) ?_;refine cq (yV tZ sizeOf158 rfl rfl z.1 z.2) ?_;refine dH (xE fS rfl rfl O) ?_;refine cq (gR (op:=.xor) rfl rfl rfl) ?_;rw[ad];refine zg ?_;refine cq (rT (k:=4) rfl rfl (by decide) om) ?_;refine zg ?_;refine cq (gR (op:=.and) rfl rfl rfl) ?_;refine cq (yV tZ sizeOf158 rfl rfl D.1 D.2) ?_;refine dH (xE fS rfl rfl U) ?_;refine cq (gR (op:=.xor) rfl rfl rfl) ?_;refine zg ?_;exact⟨m-1,om,i+1,_,om,ab,sl,S⟩
 ·obtain rfl:i=l.length:=om;refine zg ?_;refine cq (Pu rfl rfl) ?_;refine zX ?_;exact⟨_,y _ _ _,rfl,S.out⟩
theorem H8(D:jX W)(I:l.length<=1073741824)(z:Rd W A (f9 l)):Fn prog 199 [.slice A l.length c] W (λv w'=>∃s:Int,(0<=s/\s<4294967296)/\v=.int .u32 s/\Gr W w'):=by
 have S:=St.start W;refine zI func199 ?_;refine zK (Nm (c:=c) (D.gr S.out) I (z.gr S.out)) ?_;rintro _ L ⟨s,J,rfl,y⟩;have S:=S.gr y;refine zX ?_;exact⟨s,J,rfl,S.out⟩
theorem Gd(s:Int)(v:0<=s/\s<4294967296):Fn prog 198 [.int .u32 s] W (Cv id 4 W):=by
 have S:=St.start W;refine zI func198 ?_;refine zg ?_;refine cq (dY (ks:=.u32) (n:=s) (kd:=.u8) fS dv rfl rfl) ?_;refine zg ?_;refine cq (rT (k:=8) rfl rfl (by decide) v.1) ?_;refine cq (dY (ks:=.u32) (kd:=.u8) fS dv rfl rfl) ?_;refine zg ?_;refine cq (rT (k:=16) rfl rfl (by decide) v.1) ?_;refine cq (dY (ks:=.u32) (kd:=.u8) fS dv rfl rfl) ?_;refine zg ?_;refine cq (rT (k:=24) rfl rfl (by decide) v.1) ?_;refine cq (dY (ks:=.u32) (kd:=.u8) fS dv rfl rfl) ?_;refine yb S ?_;intro z I D S y;refine zX ?_;exact⟨[_,_,_,_],rfl,S.retNew (i:=0) rfl⟩
theorem W6{v l2:List Int}(h:l2.length=n2)(y:Rd w B [.slice A1 v.length c1,.slice A2 n2 c2]):Rd w B (yO [⟨A1,c1,v⟩,⟨A2,c2,l2⟩]):=by
 subst h;exact y
theorem Nn(hT:jX W)(h0:0<l.length)(hm:l.length<=1073741824)(hA:Rd W A (f9 l)):Fn prog 222 [.slice A l.length c] W (Cv id (l.length+4) W):=by
 have S:=St.start W;refine zI func222 ?_;refine zK (H8 (c:=c) (hT.gr S.out) hm (hA.gr S.out)) ?_;rintro _ ag ⟨s,hs,rfl,L⟩;have S:=S.gr L;refine zK (Gd s hs) ?_;rintro _ ah ⟨Z,V,v,y,rfl,D,J,O⟩;have S:=S.pushRow D J O;refine yb S ?_;intro ab ai ae S aa;refine zK (BH (ls:=[⟨A,c,l⟩,⟨v,y,Z⟩]) (cB:=2) (W6 V (S.rd (i:=0) rfl)) (λq hq=>by simp only[dy,gM,lr]at hq;rcases hq with rfl|rfl;exact⟨h0,hA.gr S.out⟩;exact⟨by dsimp only;omega,S.rd (i:=1) rfl⟩) (by simp) (by simp) (by simp[mj];omega)) ?_;rintro _ aj ⟨ac,ad,rfl,z,I,U⟩;have S:=S.pushRow z I U;refine zg ?_;have e:(mj [⟨A,c,l⟩,⟨v,y,Z⟩]).length=l.length+4:=by simp[mj];omega
 generalize mj [⟨A,c,l⟩,⟨v,y,Z⟩]=q at *;rw[<-e];exact ir rfl ⟨q,rfl,S.retNew (i:=0) rfl⟩
end
theorem wM{z:Value}(v:z.cells=#[z])(n:Nat):Builtin.zeroCells z.cells n=(List.replicate n z).toArray:=by
 apply Array.ext
 ·rw[nF,v];simp
 ·intro i h1 h2;simp[Builtin.zeroCells,v,Nat.mod_one]
section
theorem KT(t tn ty e:TypeId)(i:TypeInfo){z:Value}{k:IntKind}(ht:P.underlying t=some (.slice e))(V:P.underlying tn=some (.int kn))(hi:P.info? e=some i)(hz:i.zero=some z)(hs:i.size=1)(Z:z.cells=#[z])(ho:z.oneCell'=true)(g v y m:Nat)(cur:Array Value)(hg:w.heap[g]?=some (.cells cur e (0,0)))(h0:0<m)(S:m<=1099511627776)(U:i.bytes<=64)(D:v+m<=y)(I:v+m<=cur.size) :
  (Builtin.append_ #[t,tn] ty #[.slice (some ⟨g,0,none⟩) v y,.int k m]).run P w =
   .ok (.slice (some ⟨g,0,none⟩) (v+m) y) (w.setRow g (cur.toList.take v++List.replicate m z++cur.toList.drop (v+m)).toArray):=by
 have L:=run_storeCells_at P g v e (List.replicate m z) 0 cur w hg (by simpa using I) (λu hu=>by rw[mQ hu];exact ho);simp only[eW]at L;have hn:m≠0:=om;have hw:IntKind.i64.wrap (m:Int)=m:=by rw[oY];omega
 have J:¬((m:Int)<0):=om
 have O:¬(281474976710656<(m:Int)*(i.bytes:Int)):=by
  have:=cE S U;rw[<-kv];omega
 have aa:=wM Z m;simp[Builtin.append_,dS ht,dS V,sizeOf,typeInfo,zeroValue,hi,hz,hs,asInt,asIntOf,hw,hn,J,O,D,Addr.add_lit,aa,L]
theorem KU(t tn ty e:TypeId)(i:TypeInfo){z:Value}{k:IntKind}(ht:P.underlying t=some (.slice e))(ab:P.underlying tn=some (.int kn))(hi:P.info? e=some i)(hz:i.zero=some z)(hs:i.size=1)(ac:z.cells=#[z])(b:Addr)(y D m:Nat)(I:List Value)(ah:I.length=y)(J:∀j v,I[j]?=some v->w.cell? (b.add j)=some v)(h0:0<m)(V:m<=1099511627776)(ag:y<=1099511627776)(Z:i.bytes<=64)(hg:D<y+m)(ae:Builtin.nextslicecap (y+m) D*i.bytes<=281474976710656) :
  (Builtin.append_ #[t,tn] ty #[.slice (some b) y D,.int k m]).run P w =
   .ok (.slice (some ⟨w.heap.size,0,none⟩) (y+m) (grownCap w (y+m) D e))
    (w.drew.alloc (.cells (I.toArray++(List.replicate m z).toArray++Builtin.zeroCells z.cells (grownCap w (y+m) D e-(y+m))) e)):=by
 have hn:¬(y+m<=D):=om;have hm:m≠0:=om;have O:¬(9223372036854775807<((y:Int)+(m:Int))):=om;have L:¬(281474976710656<Builtin.nextslicecap (y+m) D*i.bytes):=om;have hw:IntKind.i64.wrap (m:Int)=m:=by rw[oY];omega
 have S:¬((m:Int)<0):=om
 have U:¬(281474976710656<(m:Int)*(i.bytes:Int)):=by
  have:=cE V Z;rw[<-kv];omega
 have aa:=pL (P:=P) w.drew 1 y b y D I om (by simpa using J);have ad:=wM ac m;simp[Builtin.append_,dS ht,dS ab,sizeOf,typeInfo,zeroValue,hi,hz,hs,asInt,asIntOf,hw,hm,S,U,hn,O,L,Question.forced,aa,ad,newRow,grownCap]
theorem Np(t tn ty el:TypeId){z:Value}{k:IntKind}(ht:P.underlying t=some (.slice el))(V:P.underlying tn=some (.int kn))(hI:(P.info? el).map (λi=>(i.zero,i.size,i.bytes))=some (some z,1,bytes))(O:z.cells=#[z])(ho:z.oneCell'=true)(hR:gH w el 1 A n c xs)(h0:0<m)(ad:n+m<=1099511627776)(L:bytes<=64) :
  ∃A' c' w',(Builtin.append_ #[t,tn] ty #[.slice A n c,.int k m]).run P w=.ok (.slice A' (n+m) c') w'/\gH w' el 1 A' (n+m) c' (xs++List.replicate m z)/\Fr (λg=>jv A g) w w'/\(∀g,jv A' g->jv A g\/w.heap.size<=g):=by
 obtain⟨i,hi,hz,hs,hb⟩:=nG hI;subst hb;have D:=hR.len;rw[cG]at D;have S:∀v,v<n+m->Builtin.nextslicecap (n+m) v*i.bytes<=281474976710656:=λv h=>growslice_fits h (dE (cE ad L) (by decide))
 have I:∀v,v<n+m->∀ys:List Value,ys=xs++List.replicate m z->gH (w.drew.alloc (.cells (ys.toArray++Builtin.zeroCells z.cells (grownCap w (n+m) v el-(n+m))) el)) el 1 (some ⟨w.heap.size,0,none⟩) (n+m) (grownCap w (n+m) v el) ys:=by
  intro v ai ys ah;have ag:=grownCap_ge w (n+m) v el;have ae:grownCap w (n+m) v el<=maxLen:=p9 w (n+m) v el (by unfold maxLen;omega);have ac:ys.length=n+m:=by rw[ah,cP,lX,D]
  refine gH.mk_ (l:=(ys.toArray++Builtin.zeroCells z.cells (grownCap w (n+m) v el-(n+m))).toList) ?_ ag ?_ ?_ ae
  ·unfold eL;rw[o6];exact nH w.drew _
  ·rw[pC,qH,nF,O];simp[ac];omega
  ·rw[Array.toList_append,cG,<-ac];exact pX
 have aa:∀o,Fr (λg=>jv A g) w (w.drew.alloc o):=λo=>Fr.of_gr ((Gr.drew w).trans (Gr.alloc _ _));rcases hR.form with⟨rfl,rfl,rfl,rfl⟩|⟨g,l,rfl,hB,hn,hl,ab,hm⟩
 ·have Z:=Lib.run_append_nil_zeros (P:=P) w t tn ty el i z k kn ht V hi hz m h0 (by rw[hs];decide) om (by have:=cE (show m<=1099511627776 by omega) L;omega);rw[wM O m]at Z;refine⟨_,_,_,by rw[eH];exact Z,?_,aa _,λg hg=>.inr ?_⟩
  ·have:=I 0 om (List.replicate m z) rfl;rw[eH]at this ⊢;exact this
  ·injection hg with hg;exact uN hg
 ·rw[cG]at hl ab;by_cases y:n+m<=c
  ·have Z:=KT (P:=P) (w:=w) t tn ty el i (k:=k) ht V hi hz hs O ho g n c m l.toArray hB h0 om L y (by simpa [hl]using y);refine⟨_,_,_,Z,gH.mk_ (l:=l.take n++List.replicate m z++l.drop (n+m)) (setRow_heap w g l.toArray _ el _ hB) y ?_ ?_ hm,⟨rfl,rfl,rfl,by simp,λk _ hk=>setRow_other w g k _ (λe=>hk (by rw[<-e];rfl))⟩,λg' J=>.inl J⟩
   ·simp only[cP,d7,lX,i8];omega
   ·rw[ab,cG,show n+m=(xs++List.replicate m z).length by rw[cP,lX,D]];exact pX
  ·have U:∀j u,xs[j]?=some u->w.cell? ((⟨g,0,none⟩:Addr).add j)=some u:=λj u hj=>by
    rw[js];exact hR.rd.cell rfl hj
   have Z:=KU (P:=P) (w:=w) t tn ty el i (k:=k) ht V hi hz hs O ⟨g,0,none⟩ n c m xs D U h0 om om L om (S c om);refine⟨_,_,_,Z,?_,aa _,λg' J=>.inr ?_⟩
   ·have:=I c om (xs++List.replicate m z) rfl;rw[<-List.append_toArray]at this;exact this
   ·injection J with J;exact uN J
variable{rest:List Oper}{ps:String}{L:List HA}
theorem TW{f:HA->List HA}{t Z:Nat}{z:Value}{k:IntKind}{s:Operand}(S:St F W w L)(hi:gi L i=some (.row el 1 A n c xs))(hf:∀h,j7 L i h=some (f h))(ht:P.underlying t=some (.slice el))(U:P.underlying Z=some (.int kn))(hI:(P.info? el).map (λi=>(i.zero,i.size,i.bytes))=some (some z,1,bytes))(V:z.cells=#[z])(ho:z.oneCell'=true)(hs:ev e s=.slice A n c)(hx:ev e x=.int k m)(h0:0<m)(J:n+m<=1099511627776)(O:bytes<=64)(hr:∀y c' w',St F W w' (f (.row el 1 y (n+m) c' (xs++List.replicate m z)))->RW P ops Q rest (fI e d (.slice y (n+m) c')) w'):RW P ops Q (⟨d,.call ⟨.builtin .append,#[s,x],#[t,Z]⟩,ty,ps,af,none⟩::rest) e w:=by
 obtain⟨y,c',w',I,hR,hF,D⟩:=Np (P:=P) t Z ty el ht U hI V ho (S.row hi) h0 J O (k:=k);refine wZ (v:=.slice y (n+m) c') (w':=w') ?_ (hr y c' w' (S.set hi (hf _) hF (λg hg=>.inl hg) hR D));simp[execOp,resolve,invoke,builtin,hs,hx,I]
end
theorem KV{ps:String}{y:Operand}{k:IntKind}{b:Int}{B:Bool}(z:ev e x=.int k a)(D:ev e y=.int k b)(v:decide (a>=b)=B):iE P e ⟨d,.binOp .geq t x y t',ty,ps,af,none⟩ (.bool B):=by
 intro w;subst v;simp[gd,execOp,z,D,eqGuard,binOp,Op.intCmp]
theorem nO{ps:String}{y:Operand}{k:IntKind}{b c:Int}(z:ev e x=.int k a)(D:ev e y=.int k b)(v:k.wrap (a+b)=c):iE P e ⟨d,.binOp .add t x y t',ty,ps,af,none⟩ (.int k c):=by
 intro w;subst v;simp[gd,execOp,z,D,eqGuard,binOp,Op.intArith]
section
variable{l:List Int}
theorem Jr(u:Int)(y:0<=u):Fn prog 259 [.int .u64 u] W (λv w'=>∃x:Int,v=ii x/\Gr W w'):=by
 have S:=St.start W;refine zI func259 ?_;refine zg ?_;refine cq (rT (k:=1) rfl rfl (by decide) y) ?_;refine cq (dY (ks:=.u64) (n:=u/2^1) (kd:=.i64) dU cw rfl rfl) ?_;refine zg ?_;refine cq (gR (op:=.and) rfl rfl rfl) ?_;refine cq (dY (ks:=.u64) (n:=bits .and .u64 u 1) (kd:=.i64) dU cw rfl rfl) ?_;refine zg ?_;refine cq (gR (op:=.xor) rfl rfl rfl) ?_;refine zX ?_;exact⟨_,rfl,S.out⟩
theorem Nq(D n:Nat)(ae:D<=l.length)(hn:n<=1048576)(hc:l.length<=c)(hm:l.length<=1099511627776)(hA:Rd W A (f9 l)) :
  Fn prog 206 [.slice A l.length c,ii D,ii n] W (λv w'=>(∃e:Int,e≠0/\v=.tuple #[.slice none 0 0,ii 0,ii e]/\Gr W w') \/
   (∃(R:List Int)(B:Option Addr)(cB:Nat)(nx:Int),R.length=n/\v=.tuple #[.slice B n cB,ii nx,ii 0]/\St No W w' [.row 2 1 B n cB (cY R)])):=by
 have S:=St.start W;refine zI func206 ?_;refine zg ?_;have S:=S.pushNil 2 1
 refine dl (λm e w=>∃(k jF:Nat)(R:List Int)(B:Option Addr)(cB:Nat)(bh:Bool),k+m=n/\jF<=l.length/\R.length=k/\SL e [(0,.slice A l.length c),(1,ii jF),(2,ii n),(9,.slice B k cB),(10,.bool bh)]/\St No W w [.row 2 1 B k cB (cY R)]) n
  ⟨0,D,[],none,0,false,om,ae,rfl,sl,S⟩ ?_
 clear S;rintro m e w ⟨k,jF,R,B,cB,bh,hk,U,hR,ai,S⟩;rw[ai.fold];rcases cr (k<n)with ag|ag
 ·skip;refine zK (H7 jF U hc hm (hA.gr S.out)) ?_;rintro _ ar ⟨u,nx,e1,rfl,hu,ah,ab⟩;have S:=S.gr ab;iterate 7 refine cq (cH rfl) ?_
  first|refine eF ?_|(refine di ?_;show CW _ _ _ _ _ _)|refine di ?_
  rcases cr (e1≠0)with he|he
  ·skip;refine yA ?_;exact tE rfl rfl rfl (.inl ⟨e1,he,rfl,S.out⟩)
  ·obtain⟨k1,rfl,ao,y⟩:=ah (fH.1 he);rcases cr (u≠0)with J|J
   ·skip;repeat refine dm ?_
    refine dz ?_;refine cq (cH rfl) ?_;refine cq (ff (b:=false) rfl (eo.2 om)) ?_;first|refine eF ?_|(refine di ?_;show CW _ _ _ _ _ _)|refine di ?_
    repeat refine dm ?_
    refine eX rfl ?_;repeat refine dm ?_
    refine gO ?_;try show CW _ _ _ _ _ _
    repeat refine dm ?_
    refine dz ?_;iterate 2 refine cq (cH rfl) ?_
    first|refine eF ?_|(refine di ?_;show CW _ _ _ _ _ _)|refine di ?_
    repeat refine dm ?_
    refine dz ?_;refine cq (cH rfl) ?_;refine cq (Cw rfl rfl (f5.2 J)) ?_;refine zK (Jr u hu.1) ?_;rintro _ au ⟨x,rfl,ac⟩;have S:=S.gr ac;refine yb S ?_;intro al av an S ak;refine fM (i:=1) S rfl (λh=>rfl) dk jR rfl rfl rfl rfl (by simp) om (S.rd (i:=0) rfl) rfl om ?_;intro L O aw S am;refine zg ?_;have S:=S.drop 1;rw[show cY R++[ii x]=cY (R++[x])by simp[cY]]at S;exact⟨m-1,om,k+1,k1,R++[x],L,O,false,om,y,by simp[hR],sl,S⟩
   ·obtain rfl:u=0:=fH.1 J;cases bh
    ·skip;refine yA ?_;refine cq (Cw rfl rfl rfl) ?_;refine zK (H7 k1 y hc hm (hA.gr S.out)) ?_;rintro _ az ⟨u2,aq,e2,rfl,aj,Z,ad⟩;have S:=S.gr ad;iterate 7 refine cq (cH rfl) ?_
     first|refine eF ?_|(refine di ?_;show CW _ _ _ _ _ _)|refine di ?_
     rcases cr (e2≠0)with I|I
     ·skip;refine yA ?_;exact tE rfl rfl rfl (.inl ⟨e2,I,rfl,S.out⟩)
     ·obtain⟨k2,rfl,ap,V⟩:=Z (fH.1 I);obtain⟨q,rfl⟩:=cJ aj.1;have e5:(n:Int)-k=((n-k:Nat):Int):=om;rcases cr (n-k<=q)with hq|hq
      ·skip;repeat refine dm ?_
       refine k0 ?_;repeat refine dm ?_
       refine dz ?_;refine cq (cH rfl) ?_;refine cq (ff (b:=false) rfl (eo.2 om)) ?_;refine cq (cH rfl) ?_;first|refine eF ?_|(refine di ?_;show CW _ _ _ _ _ _)|refine di ?_
       repeat refine dm ?_
       refine eX rfl ?_;repeat refine dm ?_
       refine dz ?_;iterate 3 refine cq (cH rfl) ?_
       refine cq (p6 dk rfl) ?_;refine cq (fh rfl om) ?_;rw[e5];refine cq (dY (ks:=.i64) (n:=((n-k:Nat):Int)) (m:=((n-k:Nat):Int)) (kd:=.u64) dB dU rfl (re _ om)) ?_;refine cq (KV (B:=true) rfl rfl (cF om)) ?_;refine zX ?_;exact(.inl ⟨13,by decide,rfl,S.out⟩)
      ·have aa:((q:Nat):Int)+1=((q+1:Nat):Int):=om;repeat refine dm ?_
       refine k0 ?_;repeat refine dm ?_
       refine dz ?_;refine cq (cH rfl) ?_;refine cq (ff (b:=false) rfl (eo.2 om)) ?_;refine cq (cH rfl) ?_;first|refine eF ?_|(refine di ?_;show CW _ _ _ _ _ _)|refine di ?_
       repeat refine dm ?_
       refine eX rfl ?_;repeat refine dm ?_
       refine dz ?_;iterate 3 refine cq (cH rfl) ?_
       refine cq (p6 dk rfl) ?_;refine cq (fh rfl om) ?_;rw[e5];refine cq (dY (ks:=.i64) (n:=((n-k:Nat):Int)) (m:=((n-k:Nat):Int)) (kd:=.u64) dB dU rfl (re _ om)) ?_;refine cq (KV (B:=false) rfl rfl (cC om)) ?_;refine zg ?_;refine cq (nO rfl rfl ((re _ om).trans aa)) ?_;refine TW (i:=0) S rfl (λh=>rfl) dk dU jR rfl rfl rfl rfl om om (by decide) ?_;intro A9 c9 w9 S;refine zg ?_;rw[show cY R++List.replicate (q+1) (ii 0)=cY (R++List.replicate (q+1) 0)by simp[cY]]at S;exact⟨n-(k+(q+1)),om,k+(q+1),k2,R++List.replicate (q+1) 0,A9,c9,true,om,V,by simp[hR],sl,S⟩
    ·skip;refine z ?_;refine zf ?_;iterate 3 refine z ?_
     refine cq (Cw rfl rfl rfl) ?_;refine zX ?_;exact(.inl ⟨13,by decide,rfl,S.out⟩)
 ·obtain rfl:k=n:=om;refine zX ?_;exact(.inr ⟨R,B,cB,_,hR,rfl,S⟩)
end
end Go.Proofs.YtjfeklflkikapaaGreatDoor
