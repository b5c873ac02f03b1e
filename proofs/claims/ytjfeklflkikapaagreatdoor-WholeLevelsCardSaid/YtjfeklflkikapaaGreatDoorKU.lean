/- hachuretop.WholeLevels: a part of the proof that the law returns true at every input; no condition of its own. -/
import Derived.Test.YtjfeklflkikapaaGreatDoorKM
import Derived.Test.YtjfeklflkikapaaGreatDoorKH
set_option maxRecDepth 100000
set_option maxHeartbeats 16000000
set_option linter.unusedVariables false
set_option linter.unusedSimpArgs false
namespace Go.Proofs.YtjfeklflkikapaaGreatDoor
open Go.Proofs.Tryz Go.RowKit
variable{af:Array Edge}{f:FuncId}{h h':HA}{Y a e0:Int}{σ:List (Nat × Value)}{L' L0 L1 M:List HA}{caps l l' xs ys:List Value}{b b' c el el' fid g gh gw i j k k' k1 k2 m mb n n' p q tb x0 x1 y0 y1:Nat}{bs:Nat->Nat}{Rs:Nat->Option Nat}{F X:Nat->Prop}{e:Nat->Value}{hi x:Operand}{A:Option Addr}{d:Option Tmp}{P:Program}{t t' ty:TypeId}{u zv:Value}{W w w':World}
def CA(F:Nat->Prop)(W:World)(L:List HA)(t:TypeId)(z l:List Value)(σ:List Value)(w:World):Prop:=match σ with
 |[]=>St F W w L
 |[v]=>∃b,v=.pointer (some ⟨b,0,none⟩)/\St F W w (.blk b t z::L)
 |_::v::_=>∃b,v=.pointer (some ⟨b,0,none⟩)/\St F W w (.blk b t l::L)
section
variable{L:List HA}{z:List Value}{σ:List Value}
theorem CA.start(S:St F W w L):CA F W L t z l [] w:=S
theorem CA.gr(h:CA F W L t z l σ w)(g:Gr w w'):CA F W L t z l σ w':=by
 match σ,h with
 |[],h=>exact St.gr h g
 |[v],⟨b,e,S⟩=>exact⟨b,e,S.gr g⟩
 |_::v::_,⟨b,e,S⟩=>exact⟨b,e,S.gr g⟩
theorem CA.st(h:CA F W L t z l σ w):St F W w L:=by
 match σ,h with
 |[],h=>exact h
 |[v],⟨b,e,S⟩=>exact S.drop 1
 |_::v::_,⟨b,e,S⟩=>exact S.drop 1
theorem CA.fin{a v:Value}(h:CA F W L t z l (a::v::σ) w):∃b,v=pt b/\St F W w (.blk b t l::L):=h
section
variable{ps:String}
theorem kG(h:CA F W L t z l [] w)(D:∀w,(zeroValue t).run P w=.ok zv w)(y:zv.cells.toList=z):gI P e ⟨d,.alloc t,ty,ps,af,none⟩ w (λv w'=>CA F W L t z l [v] w') :=
 gu rfl (kq (jV D y) h (λb w' g S=>⟨b,rfl,S⟩))
theorem kH{y:Operand}{cs:List Value}(h:CA F W L t z l [pt b] w)(hz:(sizeOf t).run P w=.ok n w)(V:ev e x=pt b)(Z:ev e y=.agg cs.toArray)(O:cs.length=n)(D:lj (z.take 0++cs++z.drop (0+n))=some l)(U:((cs.all λv=>v.oneCell')&&Nat.ble (0+n) z.length)=true):gI P e ⟨d,.store t x y,ty,ps,af,none⟩ w (λv w'=>CA F W L t z l [v,pt b] w'):=by
 obtain⟨b',J,S⟩:=h;cases J
 exact gu rfl (d8 (i:=0) S rfl hz V Z O D U rfl (λw' I=>⟨b,rfl,I⟩))
end
end
structure Li where
 x0:Nat
 y0:Nat
 x1:Nat
 y1:Nat
def Li.val(r:Li):Value:=.agg #[ii r.x0,ii r.y0,ii r.x1,ii r.y1]
def Lj(gw gh i n:Nat):Li:=⟨i%gw-n,i/gw-n,min (i%gw+n) (gw-1),min (i/gw+n) (gh-1)⟩
def Li.ok(r:Li)(gw gh:Nat):Prop:=(r.x0<=r.x1/\r.x1<gw)/\r.y0<=r.y1/\r.y1<gh
theorem Ug(v:0<gw)(hi:i<gw*gh):(Lj gw gh i n).ok gw gh:=by
 have h1:=dt i v;have h2:i/gw<gh:=cS hi;unfold Li.ok Lj;dsimp only;generalize i%gw=X at *;generalize i/gw=Y at *;omega
theorem Rr(i n:Nat)(hw:1<=gw/\gw<=1024)(hh:1<=gh/\gh<=1024)(hi:i<gw*gh)(hn:n<=1024) :
  Fn prog 180 [.agg #[ii (i%gw:Nat),ii (i/gw:Nat)],ii n,ii gw,ii gh] W (dp (.tuple #[(Lj gw gh i n).val,ii 0]) W):=by
 have h1:=dt i hw.1;have h2:i/gw<gh:=cS hi
 have D:dF (i%gw:Nat) (i/gw:Nat) (i%gw:Nat) (i/gw:Nat) gw gh=0:=by
  generalize i%gw=X at *;generalize i/gw=Y at *;exact gW om om om om
 unfold Lj Li.val;dsimp only;generalize i%gw=X at *;generalize i/gw=Y at *;have e0:max ((X:Int)-n) 0=((X-n:Nat):Int):=om;have L:max ((Y:Int)-n) 0=((Y-n:Nat):Int):=om;have O:min ((X:Int)+n) ((gw:Int)-1)=((min (X+n) (gw-1):Nat):Int):=om;have U:min ((Y:Int)+n) ((gh:Int)-1)=((min (Y+n) (gh-1):Nat):Int):=om;have S:=St.start W;refine zI func180 ?_;refine zN ?_;intro J aa V S;refine zN ?_;intro v I Z S;iterate 9 refine z ?_
 refine cq (kL (pl:=[(0,1),(1,1),(2,1),(3,1)]) dL fy (λw=>by kernel_rfl) rfl rfl) ?_;refine z ?_;refine z ?_;refine eY rfl (jW _ _ _ _ _ _ om om I) ?_;rintro _ ab ⟨rfl,y⟩;have S:=S.gr y;rw[D];refine zg ?_;rw[e0];refine zg ?_;rw[L];refine zg ?_;rw[O];refine zg ?_;rw[U];refine zS ?_;intro ac S;exact pG S ⟨rfl,S.out⟩
theorem JC(i:Nat)(n:Int)(hw:1<=gw/\gw<=1024)(hh:1<=gh/\gh<=1024)(hi:i<gw*gh)(U:n<0\/1024<n) :
  Fn prog 180 [.agg #[ii (i%gw:Nat),ii (i/gw:Nat)],ii n,ii gw,ii gh] W (dp (.tuple #[.agg #[ii 0,ii 0,ii 0,ii 0],ii 9]) W):=by
 have h1:=dt i hw.1;have h2:i/gw<gh:=cS hi
 have I:dF (i%gw:Nat) (i/gw:Nat) (i%gw:Nat) (i/gw:Nat) gw gh=0:=by
  generalize i%gw=X at *;generalize i/gw=Y at *;exact gW om om om om
 generalize i%gw=X at *;generalize i/gw=Y at *;rcases U with U|U
 ·skip;have S:=St.start W;refine zI func180 ?_;refine zN ?_;intro J V L S;refine zN ?_;intro v D O S;iterate 9 refine z ?_
  refine cq (kL (pl:=[(0,1),(1,1),(2,1),(3,1)]) dL fy (λw=>by kernel_rfl) rfl rfl) ?_;refine z ?_;refine z ?_;refine eY rfl (jW _ _ _ _ _ _ om om D) ?_;rintro _ Z ⟨rfl,y⟩;have S:=S.gr y;rw[I];refine zS ?_;intro aa S;exact pG S ⟨rfl,S.out⟩
 ·skip;have S:=St.start W;refine zI func180 ?_;refine zN ?_;intro J V L S;refine zN ?_;intro v D O S;iterate 9 refine z ?_
  refine cq (kL (pl:=[(0,1),(1,1),(2,1),(3,1)]) dL fy (λw=>by kernel_rfl) rfl rfl) ?_;refine z ?_;refine z ?_;refine eY rfl (jW _ _ _ _ _ _ om om D) ?_;rintro _ Z ⟨rfl,y⟩;have S:=S.gr y;rw[I];refine zS ?_;intro aa S;exact pG S ⟨rfl,S.out⟩
def CX(F:Nat->Prop)(W:World)(L:List HA)(i:Nat)(h:HA)(σ:List Value)(w:World):Prop:=match σ with
 |[]=>St F W w L
 |_=>∃L',j7 L i h=some L'/\St F W w L'
def Ik(L:List HA)(i:Nat)(h:HA)(a:Bool)(j:Nat)(h':HA)(b:Bool):Option (List HA):=(if a then j7 L i h else some L).bind λL1=>if b then j7 L1 j h' else some L1
def BN(F:Nat->Prop)(W:World)(L:List HA)(p i:Nat)(h:HA)(q j:Nat)(h':HA)(σ:List (Nat×Value))(w:World):Prop :=
 ∃L',Ik L i h (σ.lookup p).isSome j h' (σ.lookup q).isSome=some L'/\St F W w L'
section
variable{L:List HA}{σ:List Value}
theorem CX.start(S:St F W w L):CX F W L i h [] w:=S
theorem CX.gr(y:CX F W L i h σ w)(g:Gr w w'):CX F W L i h σ w':=by
 cases σ with
 |nil=>exact St.gr y g
 |cons v r=>obtain⟨L',e,S⟩:=y;exact⟨L',e,S.gr g⟩
theorem CX.ok(y:CX F W L i h σ w)(D:j≠i){x:HA}(z:gi L j=some x):x.ok w:=by
 cases σ with
 |nil=>exact St.ok (show St F W w L from y) z
 |cons v r=>obtain⟨L',e,S⟩:=y;exact S.ok ((tG _ _ _ _ _ e D).trans z)
theorem CX.out(y:CX No W L i h σ w):Gr W w:=by
 cases σ with
 |nil=>exact St.out y
 |cons v r=>obtain⟨L',e,S⟩:=y;exact S.out
theorem CX.blk(y:CX F W L i h σ w){t:Nat}(v:j≠i)(z:gi L j=some (.blk b t l)):eL w b t l:=y.ok v z
theorem CX.rd(y:CX F W L i h σ w)(v:j≠i)(z:gi L j=some (.row el k A n c xs)):Rd w A xs:=gH.rd (y.ok v z)
theorem CS.blk(y:CS F W L i el k n xs ys w σ){t:Nat}(v:j≠i)(z:gi L j=some (.blk b t l)):eL w b t l:=y.ok v z
theorem CS.rd(z:CS F W L i el k n xs ys w σ){v:List Value}(y:j≠i)(D:gi L j=some (.row el' k' A n' c v)):Rd w A v:=gH.rd (z.ok y D)
theorem CS.out(v:CS No W L i el k n xs ys w σ):Gr W w:=v.frw.gr (λ_ h=>h.elim)
end
section
variable{L:List HA}
theorem BN.start(S:St F W w L):BN F W L p i h q j h' [] w:=⟨L,rfl,S⟩
theorem BN.gr(v:BN F W L p i h q j h' σ w)(g:Gr w w'):BN F W L p i h q j h' σ w':=by
 obtain⟨L',e,S⟩:=v;exact⟨L',e,S.gr g⟩
section
variable{ps:String}
theorem Ak{o t:Nat}{y:Operand}{v:Value}(S:CX F W L i (.blk b tb l') [] w)(hi:gi L i=some (.blk b tb l))(hz:(sizeOf t).run P w=.ok 1 w)(V:ev e x=.pointer (some ⟨b,o,none⟩))(Z:fz (ev e y)=some v)(U:v.oneCell'=true)(z:v.cells=#[v])(O:l[o]?=some u)(J:l.set o v=l')(D:j7 L i (.blk b tb l')=some L'):gI P e ⟨d,.store t x y,ty,ps,af,none⟩ w (λr w'=>CX F W L i (.blk b tb l') [r] w') :=
 gu rfl (iy (i:=i) S hi hz V Z U z O (by rw[J];exact D) (λw' I=>⟨L',D,I⟩))
theorem JD{o t:Nat}{cs:List Value}{y:Operand}(S:CX F W L i (.blk b tb l') [] w)(hi:gi L i=some (.blk b tb l))(Z:(sizeOf t).run P w=.ok n w)(U:ev e x=.pointer (some ⟨b,o,none⟩))(V:ev e y=.agg cs.toArray)(J:cs.length=n)(z:lj (l.take o++cs++l.drop (o+n))=some l')(O:((cs.all λv=>v.oneCell')&&Nat.ble (o+n) l.length)=true)(D:j7 L i (.blk b tb l')=some L'):gI P e ⟨d,.store t x y,ty,ps,af,none⟩ w (λr w'=>CX F W L i (.blk b tb l') [r] w') :=
 gu rfl (d8 (i:=i) S hi Z U V J z O D (λw' I=>⟨L',D,I⟩))
theorem JE{o t:Nat}{cs:List Value}{y:Operand}(V:BN F W L p i (.blk b tb l') q j h' σ w)(I:σ.lookup p=none)(Z:∀O,∃L1 z,Ik L i (.blk b tb l') false j h' O=some L1/\gi L1 i=some (.blk b tb l)/\j7 L1 i (.blk b tb l')=some z/\Ik L i (.blk b tb l') true j h' O=some z)(hz:(sizeOf t).run P w=.ok n w)(hx:ev e x=.pointer (some ⟨b,o,none⟩))(hy:ev e y=.agg cs.toArray)(hn:cs.length=n)(D:lj (l.take o++cs++l.drop (o+n))=some l')(ho:((cs.all λv=>v.oneCell')&&Nat.ble (o+n) l.length)=true)(J:(q==p)=false:=by decide):gI P e ⟨d,.store t x y,ty,ps,af,none⟩ w (λr w'=>BN F W L p i (.blk b tb l') q j h' ((p,r)::σ) w'):=by
 obtain⟨L0,e0,S⟩:=V;obtain⟨L1,z,k1,k2,k3,k4⟩:=Z (σ.lookup q).isSome;rw[I]at e0;obtain rfl:=Option.some.inj (k1.symm.trans e0);refine gu rfl (d8 (i:=i) S k2 hz hx hy hn D ho k3 (λw' U=>⟨z,?_,U⟩));rw[cZ,cZ,fE,J];exact k4
theorem JF{o t:Nat}{cs:List Value}{y:Operand}(V:BN F W L p i h q j (.blk b tb l') σ w)(I:σ.lookup q=none)(Z:∀O,∃L1 z,Ik L i h O j (.blk b tb l') false=some L1/\gi L1 j=some (.blk b tb l)/\j7 L1 j (.blk b tb l')=some z/\Ik L i h O j (.blk b tb l') true=some z)(hz:(sizeOf t).run P w=.ok n w)(hx:ev e x=.pointer (some ⟨b,o,none⟩))(hy:ev e y=.agg cs.toArray)(hn:cs.length=n)(D:lj (l.take o++cs++l.drop (o+n))=some l')(ho:((cs.all λv=>v.oneCell')&&Nat.ble (o+n) l.length)=true)(J:(p==q)=false:=by decide):gI P e ⟨d,.store t x y,ty,ps,af,none⟩ w (λr w'=>BN F W L p i h q j (.blk b tb l') ((q,r)::σ) w'):=by
 obtain⟨L0,e0,S⟩:=V;obtain⟨L1,z,k1,k2,k3,k4⟩:=Z (σ.lookup p).isSome;rw[I]at e0;obtain rfl:=Option.some.inj (k1.symm.trans e0);refine gu rfl (d8 (i:=j) S k2 hz hx hy hn D ho k3 (λw' U=>⟨z,?_,U⟩));rw[cZ,cZ,fE,J];exact k4
theorem BN.ok(J:BN F W L p i h q j h' σ w)(y:k≠i/\k≠j){x:HA}(z:gi L k=some x):x.ok w:=by
 obtain⟨L',e,S⟩:=J;refine S.ok (i:=k) ?_;unfold Ik at e;cases D:(σ.lookup p).isSome<;>cases I:(σ.lookup q).isSome<;>simp only[D,I,m7,pW,rq,Option.bind_some]at e
 ·obtain rfl:=Option.some.inj e;exact z
 ·exact(tG _ _ _ _ _ e y.2).trans z
 ·cases v:j7 L i h with
  |none=>rw[v]at e;cases e
  |some M =>
   rw[v]at e;obtain rfl:=Option.some.inj e;exact(tG _ _ _ _ _ v y.1).trans z
 ·cases v:j7 L i h with
  |none=>rw[v]at e;cases e
  |some M =>
   rw[v]at e;exact(tG _ _ _ _ _ e y.2).trans ((tG _ _ _ _ _ v y.1).trans z)
theorem BN.blk(y:BN F W L p i h q j h' σ w){t:Nat}(v:k≠i/\k≠j)(z:gi L k=some (.blk b t l)):eL w b t l:=y.ok v z
end
end
section
variable{ps:String}
theorem tL{y:Operand}{c:Int}{b:Bool}(z:ev e x=.int .i32 a)(D:ev e y=.int .i32 c)(v:decide (a>=c)=b):iE P e ⟨d,.binOp .geq t x y t',ty,ps,af,none⟩ (.bool b):=by
 intro w;subst v;simp[gd,execOp,z,D,eqGuard,binOp,Op.intCmp]
theorem tM{y:Operand}{c:Int}{b:Bool}(z:ev e x=.int .i32 a)(D:ev e y=.int .i32 c)(v:decide (a<=c)=b):iE P e ⟨d,.binOp .leq t x y t',ty,ps,af,none⟩ (.bool b):=by
 intro w;subst v;simp[gd,execOp,z,D,eqGuard,binOp,Op.intCmp]
end
def E8(c:Int):Bool:=decide (c=44\/c=58\/c=173\/(55296<=c/\c<=57343))
def qk(c:Int):Bool:=!E8 c&&decide ((33<=c/\c<=126)\/(161<=c/\c<=65532))
theorem Aq(c:Int):Fn prog 224 [.int .i32 c] W (dp (.bool (qk c)) W):=by
 rcases cr (c=44\/c=58\/c=173\/(55296<=c/\c<=57343))with h|h
 ·have y:qk c=false:=by unfold qk E8;rw[cF h];rfl
  rw[y];have S:=St.start W;rcases h with rfl|rfl|rfl|h
  all_goals
   refine zI func224 ?_;refine zg ?_;try (refine dr rfl ?_;(first|refine cq (tL (b:=true) rfl rfl (cF om)) ?_|refine cq (tL (b:=false) rfl rfl (cC om)) ?_))
   refine zg ?_;try (refine dr rfl ?_;(first|refine cq (tM (b:=true) rfl rfl (cF om)) ?_|refine cq (tM (b:=false) rfl rfl (cC om)) ?_))
   exact zZ
 ·have y:qk c=decide ((33<=c/\c<=126)\/(161<=c/\c<=65532)):=by unfold qk E8;rw[cC h];rfl
  rw[y];clear y;have S:=St.start W;have v:c<33\/(33<=c/\c<=126)\/(126<c/\c<161)\/(161<=c/\c<55296)\/(57343<c/\c<=65532)\/65532<c:=om;have D:c≠44:=om;have I:c≠58:=om;have z:c≠173:=om;rcases v with v|v|v|v|v|v
  all_goals
   refine zI func224 ?_;refine zg ?_;try (refine dr rfl ?_;(first|refine cq (tL (b:=true) rfl rfl (cF om)) ?_|refine cq (tL (b:=false) rfl rfl (cC om)) ?_))
   refine zg ?_;try (refine dr rfl ?_;(first|refine cq (tM (b:=true) rfl rfl (cF om)) ?_|refine cq (tM (b:=false) rfl rfl (cC om)) ?_))
   refine zg ?_;first|refine cq (tL (b:=true) rfl rfl (cF om)) ?_|refine cq (tL (b:=false) rfl rfl (cC om)) ?_
   refine zg ?_;try (refine dr rfl ?_;(first|refine cq (tM (b:=true) rfl rfl (cF om)) ?_|refine cq (tM (b:=false) rfl rfl (cC om)) ?_))
   refine zg ?_;try (refine dr rfl ?_;(first|refine cq (tL (b:=true) rfl rfl (cF om)) ?_|refine cq (tL (b:=false) rfl rfl (cC om)) ?_))
   refine zg ?_;try (refine dr rfl ?_;(first|refine cq (tM (b:=true) rfl rfl (cF om)) ?_|refine cq (tM (b:=false) rfl rfl (cC om)) ?_))
   refine zX ?_;exact⟨by simp<;>omega,S.out⟩
def kI(l:List (Int×Int)):List Value:=l.flatMap λb=>[ii b.1,.int .i32 b.2]
theorem Ar(l:List (Int×Int)):(kI l).length=l.length*2:=lF (f:=λb:Int×Int=>[ii b.1,.int .i32 b.2]) (λ_=>rfl) l
theorem JI(A:Option Addr)(n c fid:Nat)(caps:List Value)(xs:List (Int×Int))(hn:n=xs.length)(ac:n<=9223372036854775807)(p:Int×Int->Bool)(W:World)(V:Rd W A (kI xs))(hf:∀x∈xs,∀w',Gr W w'->Fn prog fid ([]++[.agg #[ii x.1,.int .i32 x.2]]++caps) w' (dp (.bool (p x)) w')) :
  Fn prog 274 [.slice A n c,.func (.func fid) (([]:List Value).toArray) caps.toArray] W (λv w'=>∃r:Int,v=ii r/\Gr W w'/\(0<=r↔xs.any p=true)):=by
 subst hn;have S:=St.start W;refine zI func274 ?_;refine zg ?_
 refine dl (λm e w=>∃k:Nat,k+m=xs.length/\SL e [(0,.slice A xs.length c),(1,.func (.func fid) (([]:List Value).toArray) caps.toArray),(7,ii xs.length),(8,ii k)]/\(∀i x,i<k->xs[i]?=some x->p x=false)/\St No W w []) xs.length
  ⟨0,om,sl,λi x hi=>by omega,S⟩ ?_
 rintro m e w ⟨k,ab,L,Z,S⟩;rw[L.fold];refine zB ?_ ?_
 ·intro hc;obtain⟨x,D⟩:∃x,xs[k]?=some x:=⟨xs[k],ct om⟩;have aa:dO A:=V.someA (by rw[Ar];omega);have O:((kI xs).drop ((k:Int).toNat * 2)).take 2=[ii x.1,.int .i32 x.2]:=by rw[b7];exact lG (f:=λb:Int×Int=>[ii b.1,.int .i32 b.2]) (λ_=>rfl) D
  refine zg ?_;refine dH (fb fR rfl (gE _) rfl (V.gr S.out) O rfl rfl) ?_;refine ju rfl rfl (hf x (dD D) _ S.out) ?_;rintro _ ad ⟨rfl,I⟩;have S:=S.gr I;refine zB ?_ ?_
  ·intro z;refine zX ?_;exact⟨_,rfl,S.out,⟨λ_=>jZ.2 ⟨x,dD D,z⟩,λ_=>by omega⟩⟩
  ·intro z;refine zg ?_
   exact⟨m-1,om,k+1,om,sl,λi y hi U=>by
    by_cases J:i=k
    ·subst J;rw[D]at U;cases U;exact z
    ·exact Z i y om U,S⟩
 ·intro hc;refine zg ?_;refine ir rfl ⟨_,rfl,S.out,?_⟩;simp only[jZ];refine⟨λh=>by omega,λ⟨x,D,z⟩=>?_⟩;obtain⟨i,hi,rfl⟩:=gK.1 D;rw[Z i _ om (ct hi)]at z;cases z
theorem vT(A:Option Addr)(n c fid:Nat)(caps:List Value)(xs:List (Int×Int))(I:n=xs.length)(y:n<=9223372036854775807)(p:Int×Int->Bool)(W:World)(z:Rd W A (kI xs))(D:∀x∈xs,∀w',Gr W w'->Fn prog fid ([]++[.agg #[ii x.1,.int .i32 x.2]]++caps) w' (dp (.bool (p x)) w')) :
  Fn prog 225 [.slice A n c,.func (.func fid) (([]:List Value).toArray) caps.toArray] W (dp (.bool (xs.any p)) W):=by
 have S:=St.start W;refine zI func225 ?_;refine zK (JI A n c fid caps xs I y p _ (z.gr S.out) (by intro x L w' g;exact D x L w' (S.out.trans g))) ?_;rintro _ O ⟨r,rfl,v,J⟩;have S:=S.gr v;refine zX ?_;exact⟨be (by rw[iq,<-J];simp),S.out⟩
theorem Gz(f s f' s':Int)(z:eL W mb 357 [ii f',.int .i32 s']):Fn prog 226 [.agg #[ii f,.int .i32 s],pt mb] W (dp (.bool (decide (s=s'))) W):=by
 have S:=St.start W;by_cases h:s=s'
 all_goals
  refine zI func226 ?_;refine zN ?_;intro v D y S;refine zL (z.gr S.out) ?_;refine zX ?_;exact⟨by simp[h],S.out⟩
def wv(xs:List (Int×Int))(i:Nat)(b:Int×Int):Bool :=
 decide (-2147483648<=b.1/\b.1<=2147483647)&&(qk b.2&&(!(match i with|0=>false|j+1=>(match xs[j]? with|some a=>decide (b.1<=a.1)|none=>false))&&!((xs.take i).any λa=>decide (a.2=b.2))))
def tO(xs:List (Int×Int)):Bool:=decide (1<=xs.length/\xs.length<=12)&&(List.range xs.length).all λi=>match xs[i]? with|some b=>wv xs i b|none=>true
theorem Uy{xs:List (Int×Int)}{b:Int×Int}(v:xs[i]?=some b)(h:wv xs i b=false):tO xs=false:=by
 unfold tO;rw[il];right;rw[List.all_eq_false];refine⟨i,dJ.2 (dq.1 v).1,?_⟩;rw[v];simp[h]
theorem RT{xs:List (Int×Int)}(h1:¬xs.length<1)(h2:¬12<xs.length)(y:∀i b,i<xs.length->xs[i]?=some b->wv xs i b=true):tO xs=true:=by
 unfold tO;rw[cM,dh];refine⟨cF om,λi hi=>?_⟩;have v:=dJ.1 hi;rw[ct v];exact y i _ v (ct v)
theorem CO:∀(xs:List (Int×Int))(k:Nat),kI (xs.take k)=(kI xs).take (k*2)
 |[],k=>by simp[kI]
 |x::r,0=>by simp[kI]
 |x::r,k+1=>by
  have h:=CO r k
  rw[po,cX];show _::_::kI (r.take k)=_::_::(kI r).take (k*2);rw[h]
theorem Rd.takeB{xs:List (Int×Int)}(h:Rd w A (kI xs))(k:Nat):Rd w A (kI (xs.take k)):=by
 rw[CO];rcases h with h|⟨b,o,z,D,I⟩
 ·rw[h];exact .inl (List.take_nil)
 ·refine .inr ⟨b,o,z,D,λj v y=>I j v ?_⟩;rw[fJ]at y;split at y
  ·exact y
  ·cases y
theorem GA{xs:List (Int×Int)}{x:Int×Int}(h:xs[k]?=some x):((kI xs).drop (k*2)).take 2=[ii x.1,.int .i32 x.2]:=lG (f:=λb:Int×Int=>[ii b.1,.int .i32 b.2]) (λ_=>rfl) h
theorem LH{xs:List (Int×Int)}{x:Int×Int}(h:xs[k]?=some x):(kI xs)[k*2+0]?=some (ii x.1):=qe (f:=λb:Int×Int=>[ii b.1,.int .i32 b.2]) (m:=2) (λ_=>rfl) h (by decide)
section
variable{xs:List (Int × Int)}
theorem DR(hn:n=xs.length)(ba:n<=c)(aZ:n<=9223372036854775807)(I:Rd W A (kI xs)):Fn prog 144 [.slice A n c] W (dp (.bool (tO xs)) W):=by
 subst hn;have S:=St.start W;rcases cr (xs.length<1)with h0|h0
 ·have hl:tO xs=false:=by unfold tO;rw[cC om];rfl
  rw[hl];refine zI func144 ?_;exact zZ
 rcases cr (12<xs.length)with ag|ag
 ·have hl:tO xs=false:=by unfold tO;rw[cC om];rfl
  rw[hl];refine zI func144 ?_;exact zZ
 have aA:dO A:=I.someA (by rw[Ar];omega);refine zI func144 ?_;refine zg ?_
 refine dl (λm e w=>∃k:Nat,k+m=xs.length/\SL e [(0,.slice A xs.length c),(14,.slice A xs.length c),(15,ii xs.length),(16,ii k)]/\(∀i b,i<k->xs[i]?=some b->wv xs i b=true)/\St No W w []) xs.length
  ⟨0,om,sl,λi b hi=>by omega,S⟩ ?_
 clear S;rintro m e w ⟨k,aY,aj,hI,S⟩;rw[aj.fold];rcases cr (k<xs.length)with hk|hk
 ·obtain⟨⟨f,s⟩,U⟩:∃x,xs[k]?=some x:=⟨xs[k],ct hk⟩;have ak:=GA U;have D:((kI xs).drop ((k:Int).toNat * 2)).take 2=[ii f,.int .i32 s]:=by rw[b7];exact ak
  have O:=λh=>Uy U (by unfold wv;exact h);rcases cr (f < -2147483648)with h1|h1
  ·rw[O (by rw[cC om];rfl)];refine zg ?_;refine dH (fb fR rfl (gE _) rfl (I.gr S.out) D rfl rfl) ?_;refine zN ?_;intro v bb aV S;refine zS ?_;intro bc S;refine cq (jb (n:=(k:Int)) iG gE rfl rfl om om) ?_;rw[b7];exact zZ
  ·rcases cr (2147483647<f)with h2|h2
   ·rw[O (by rw[cC om];rfl)];refine zg ?_;refine dH (fb fR rfl (gE _) rfl (I.gr S.out) D rfl rfl) ?_;refine zN ?_;intro v be aW S;refine zS ?_;intro bf S;refine cq (jb (n:=(k:Int)) iG gE rfl rfl om om) ?_;rw[b7];exact zZ
   ·have L:decide (-2147483648<=f/\f<=2147483647)=true:=cF om;rcases qn (qk s)with J|J
    ·rcases k with _|j
     ·skip;refine zg ?_;refine dH (fb fR rfl (gE _) rfl (I.gr S.out) D rfl rfl) ?_;refine zN ?_;intro v bg aX S;refine zS ?_;intro bh S;refine cq (jb (n:=((0:Nat):Int)) iG gE rfl rfl om om) ?_;rw[b7];(iterate 3 refine z ?_);refine zf ?_;(iterate 3 refine z ?_);refine zf ?_;refine z ?_;refine z ?_;refine dr rfl ?_;refine cq (du fR rfl je rfl rfl) ?_;refine dr rfl ?_;refine z ?_;refine dr rfl ?_;refine eY rfl (Aq s) ?_;rintro _ aB ⟨rfl,aa⟩;have S:=S.gr aa;refine dr rfl ?_;refine zg ?_;rw[J];refine zF [0,1,2,3,4,5,6,7,8,9,10,11,12,13] [] ?_;intro aC al S;refine zC (vT (xs:=[]) A 0 c (226) [pt v] rfl om (λx:Int×Int=>decide (x.2=s)) _ (.inl rfl) (λx U=>by cases U)) ?_;intro aD am S;refine zg ?_
      exact⟨m-1,om,1,om,sl,λi y hi Z=>by
       obtain rfl:i=0:=om;rw[U]at Z;cases Z
       unfold wv;rw[L,J];rfl,S.drop 1⟩
     ·obtain⟨⟨pf,ps⟩,hp⟩:∃y,xs[j]?=some y:=⟨xs[j],ct om⟩;have ai:=LH hp;have e1:((j+1:Nat):Int)-1=(j:Nat):=om;have V:(kI xs)[(j:Int).toNat * 2+0]?=some (ii pf):=by rw[b7];exact ai
      rcases cr (f<=pf)with h4|h4
      ·rw[O (by rw[L,J];dsimp only;rw[hp];simp[h4])];refine zg ?_;refine dH (fb fR rfl (gE _) rfl (I.gr S.out) D rfl rfl) ?_;refine zN ?_;intro v aE an S;refine zS ?_;intro aF S;refine cq (jb (n:=((j+1:Nat):Int)) iG gE rfl rfl om om) ?_;rw[b7];(iterate 3 refine z ?_);refine zf ?_;(iterate 3 refine z ?_);refine zf ?_;refine z ?_;refine z ?_;refine dr rfl ?_;refine cq (du fR rfl je rfl rfl) ?_;refine dr rfl ?_;refine z ?_;refine dr rfl ?_;refine eY rfl (Aq s) ?_;rintro _ aG ⟨rfl,ab⟩;have S:=S.gr ab;refine dr rfl ?_;refine zg ?_;rw[J];refine zD [0,1,2,3,4,5,6,7,8,9,10,11,12,13] [] ?_;rw[e1];refine zQ ?_;try (refine fO rfl ?_;refine fo (λwq hq=>eI cw rfl rfl (I.gr (S.gr hq).out) V) ?_)
       refine zE ?_;intro aH ao S;exact ir rfl ⟨rfl,S.out⟩
      ·rcases qn ((xs.take (j+1)).any λa=>decide (a.2=s))with h5|h5
       ·rw[O (by rw[L,J,h5];dsimp only;rw[hp];simp)];refine zg ?_;refine dH (fb fR rfl (gE _) rfl (I.gr S.out) D rfl rfl) ?_;refine zN ?_;intro v aI ap S;refine zS ?_;intro aJ S;refine cq (jb (n:=((j+1:Nat):Int)) iG gE rfl rfl om om) ?_;rw[b7];(iterate 3 refine z ?_);refine zf ?_;(iterate 3 refine z ?_);refine zf ?_;refine z ?_;refine z ?_;refine dr rfl ?_;refine cq (du fR rfl je rfl rfl) ?_;refine dr rfl ?_;refine z ?_;refine dr rfl ?_;refine eY rfl (Aq s) ?_;rintro _ aK ⟨rfl,ac⟩;have S:=S.gr ac;refine dr rfl ?_;refine zg ?_;rw[J];refine zD [0,1,2,3,4,5,6,7,8,9,10,11,12,13] [] ?_;rw[e1];refine zQ ?_;try (refine fO rfl ?_;refine fo (λwq hq=>eI cw rfl rfl (I.gr (S.gr hq).out) V) ?_)
        refine zE ?_;intro aL aq S;refine zC (vT (xs:=xs.take (j+1)) A (j+1) c (226) [pt v] (by rw[d7];omega) om (λx:Int×Int=>decide (x.2=s)) _ ((I.takeB (j+1)).gr S.out) (λx U w' g=>Gz x.1 x.2 f s ((S.blk (i:=0) rfl).gr g))) ?_;intro aM ar S;rw[h5];exact zZ
       ·have ah:wv xs (j+1) (f,s)=true:=by unfold wv;rw[L,J,h5];dsimp only;rw[hp];simp[h4]
        refine zg ?_;refine dH (fb fR rfl (gE _) rfl (I.gr S.out) D rfl rfl) ?_;refine zN ?_;intro v aN au S;refine zS ?_;intro aO S;refine cq (jb (n:=((j+1:Nat):Int)) iG gE rfl rfl om om) ?_;rw[b7];(iterate 3 refine z ?_);refine zf ?_;(iterate 3 refine z ?_);refine zf ?_;refine z ?_;refine z ?_;refine dr rfl ?_;refine cq (du fR rfl je rfl rfl) ?_;refine dr rfl ?_;refine z ?_;refine dr rfl ?_;refine eY rfl (Aq s) ?_;rintro _ aP ⟨rfl,ad⟩;have S:=S.gr ad;refine dr rfl ?_;refine zg ?_;rw[J];refine zD [0,1,2,3,4,5,6,7,8,9,10,11,12,13] [] ?_;rw[e1];refine zQ ?_;try (refine fO rfl ?_;refine fo (λwq hq=>eI cw rfl rfl (I.gr (S.gr hq).out) V) ?_)
        refine zE ?_;intro aQ av S;refine zC (vT (xs:=xs.take (j+1)) A (j+1) c (226) [pt v] (by rw[d7];omega) om (λx:Int×Int=>decide (x.2=s)) _ ((I.takeB (j+1)).gr S.out) (λx U w' g=>Gz x.1 x.2 f s ((S.blk (i:=0) rfl).gr g))) ?_;intro aR aw S;rw[h5];refine zg ?_
        exact⟨m-1,om,j+1+1,om,sl,λi y hi Z=>by
         rcases cr (i=j+1)with e|e
         ·subst e;rw[U]at Z;cases Z
          exact ah
         ·exact hI i y om Z,S.drop 1⟩
    ·rw[O (by rw[L,J];rfl)];refine zg ?_;refine dH (fb fR rfl (gE _) rfl (I.gr S.out) D rfl rfl) ?_;refine zN ?_;intro v aS az S;refine zS ?_;intro aT S;refine cq (jb (n:=(k:Int)) iG gE rfl rfl om om) ?_;rw[b7];(iterate 3 refine z ?_);refine zf ?_;(iterate 3 refine z ?_);refine zf ?_;refine z ?_;refine z ?_;refine dr rfl ?_;refine cq (du fR rfl je rfl rfl) ?_;refine dr rfl ?_;refine z ?_;refine dr rfl ?_;refine eY rfl (Aq s) ?_;rintro _ aU ⟨rfl,ae⟩;have S:=S.gr ae;refine dr rfl ?_;refine zg ?_;rw[J];exact zZ
 ·obtain rfl:k=xs.length:=om;rw[RT h0 ag hI];exact zZ
def GB(xs:List (Int×Int))(v:Int):Int:=xs.foldl (λa b=>if b.1<=v then b.2 else a) (xs.headD (0,0)).2
theorem Xt(v:Int)(hn:n=xs.length)(ab:n<=c)(aa:n<=9223372036854775807)(D:Rd W A (kI xs))(O:tO xs=true):Fn prog 145 [.slice A n c,ii v] W (dp (.tuple #[.int .i32 (GB xs v),ii 0]) W):=by
 have h0:1<=xs.length:=by
  unfold tO at O;simp only[cM,cT]at O;exact O.1.1
 have I:=λw=>DR (W:=w) (A:=A) hn ab aa;rw[O]at I;subst hn;have ad:dO A:=D.someA (by rw[Ar];omega);obtain⟨⟨f0,s0⟩,z⟩:∃x,xs[0]?=some x:=⟨xs[0],ct h0⟩
 have V:(xs.headD (0,0)).2=s0:=by
  cases xs with
  |nil=>cases z
  |cons x r=>injection z with h;rw[h];rfl
 have Z:(kI xs)[0*2+1]?=some (.int .i32 s0):=qe (f:=λb:Int×Int=>[ii b.1,.int .i32 b.2]) (m:=2) (λ_=>rfl) z (by decide);have S:=St.start W;refine zI func145 ?_;refine zC (I W (D.gr S.out)) ?_;intro ak ag S;refine zT (D.gr S.out) Z ?_;refine zg ?_
 refine dl (λm e w=>∃k:Nat,k+m=xs.length/\SL e [(1,ii v),(6,.int .i32 ((xs.take k).foldl (λa b=>if b.1<=v then b.2 else a) (xs.headD (0,0)).2)),(16,.slice A xs.length c),(17,ii xs.length),(18,ii k)]/\St No W w []) xs.length
  ⟨0,om,⟨rfl,ie V.symm,rfl,rfl,rfl,trivial⟩,S⟩ ?_
 clear S;rintro m e w ⟨k,aj,J,S⟩;rw[J.fold];rcases cr (k<xs.length)with hk|hk
 ·obtain⟨⟨f,s⟩,hx⟩:∃x,xs[k]?=some x:=⟨xs[k],ct hk⟩;have ac:=GA hx;have L:((kI xs).drop ((k:Int).toNat * 2)).take 2=[ii f,.int .i32 s]:=by rw[b7];exact ac
  have y:(xs.take (k+1)).foldl (λa b=>if b.1<=v then b.2 else a) (xs.headD (0,0)).2=if f<=v then s else(xs.take k).foldl (λa b=>if b.1<=v then b.2 else a) (xs.headD (0,0)).2:=by
   rw[kK,hx,Option.toList_some,nT];rfl
  generalize (xs.take k).foldl (λa b=>if b.1<=v then b.2 else a) (xs.headD (0,0)).2=ae at *;rcases cr (f<=v)with h1|h1
  ·rw[a7 h1]at y;refine zg ?_;refine dH (fb fR rfl (gE _) rfl (D.gr S.out) L rfl rfl) ?_;refine zN ?_;intro U al ah S;refine zS ?_;intro am S;exact⟨m-1,om,k+1,om,⟨rfl,ie y.symm,rfl,rfl,ie om,trivial⟩,S.drop 1⟩
  ·rw[a8 h1]at y;refine zg ?_;refine dH (fb fR rfl (gE _) rfl (D.gr S.out) L rfl rfl) ?_;refine zN ?_;intro U an ai S;refine zS ?_;intro ao S;exact⟨m-1,om,k+1,om,⟨rfl,ie y.symm,rfl,rfl,ie om,trivial⟩,S.drop 1⟩
 ·obtain rfl:k=xs.length:=om;rw[i6]at J ⊢;exact zZ
end
theorem qw.weaken{mk:Value->Value}{c:Nat->Int}{v:Value}(h:qw mk gw gh c w v w')(g:Gr W w):qw mk gw gh c W v w':=by
 obtain⟨p,A,cap,bs,Rs,e,y,D,I⟩:=h;exact⟨p,A,cap,bs,Rs,e,y,λb z=>dE g.le (D b z),g.trans I⟩
end Go.Proofs.YtjfeklflkikapaaGreatDoor
