/- A part of the proof that hachuretop.WholeCharts and hachuretop.WholeWater returns true at every input; no condition. -/
import Derived.Test.YtcalhocphkbbgaaGreatDoorKO
set_option maxRecDepth 100000
set_option maxHeartbeats 16000000
set_option linter.unusedVariables false
set_option linter.unusedSimpArgs false
namespace Go.Proofs.YtcalhocphkbbgaaGreatDoor
open Go.Proofs.Tryz Go.RowKit
variable{af:Array Edge}{f:FuncId}{h h':HA}{Y a a' e0:Int}{es:List (Int × Int)}{σ:List (Nat × Value)}{L' L0 L1 M T:List HA}{hd:List Nat}{caps l l' l2 xs ys:List Value}{N b b' c c1 cx cy el el' fid g gh gw i j k k' k1 k2 lh lw m mb n n' p pb q rb sb tb tb' x0 x1 xb y0 y1:Nat}{sp:Nat->Bool}{c0 cc:Nat->Int}{bs o':Nat->Nat}{Rs:Nat->Option Nat}{F X:Nat->Prop}{e:Nat->Value}{hi lo x:Operand}{A B:Option Addr}{d:Option Tmp}{P:Program}{dd:TypeDesc}{t t' ty:TypeId}{u v1 v2 zv:Value}{R:Value->World->Prop}{W w w' wq:World}{C:World->Prop}
def CA(F:Nat->Prop)(W:World)(L:List HA)(t:TypeId)(z l:List Value)(σ:List Value)(w:World):Prop:=match σ with
 |[]=>St F W w L
 |[v]=>∃b,v=.pointer (some ⟨b,0,none⟩)/\St F W w (.blk b t z::L)
 |_::v::_=>∃b,v=.pointer (some ⟨b,0,none⟩)/\St F W w (.blk b t l::L)
section
variable{L:List HA}{z:List Value}{σ:List Value}
theorem CA.start(S:St F W w L):CA F W L t z l [] w:=S
theorem CA.gr(h:CA F W L t z l σ w)(g:Gr w w'):CA F W L t z l σ w':=by
 match σ,h with
 |[],h=>exact St.gr h g
 |[v],⟨b,e,S⟩=>exact⟨b,e,S.gr g⟩
 |_::v::_,⟨b,e,S⟩=>exact⟨b,e,S.gr g⟩
theorem CA.st(h:CA F W L t z l σ w):St F W w L:=by
 match σ,h with
 |[],h=>exact h
 |[v],⟨b,e,S⟩=>exact S.drop 1
 |_::v::_,⟨b,e,S⟩=>exact S.drop 1
theorem CA.fin{a v:Value}(h:CA F W L t z l (a::v::σ) w):∃b,v=pt b/\St F W w (.blk b t l::L):=h
section
variable{ps:String}
theorem kG(h:CA F W L t z l [] w)(D:∀w,(zeroValue t).run P w=.ok zv w)(y:zv.cells.toList=z):gI P e ⟨d,.alloc t,ty,ps,af,none⟩ w (λv w'=>CA F W L t z l [v] w') :=
 gu rfl (kq (jV D y) h (λb w' g S=>⟨b,rfl,S⟩))
theorem kH{y:Operand}{cs:List Value}(h:CA F W L t z l [pt b] w)(hz:(sizeOf t).run P w=.ok n w)(V:ev e x=pt b)(Z:ev e y=.agg cs.toArray)(O:cs.length=n)(D:lj (z.take 0++cs++z.drop (0+n))=some l)(U:((cs.all λv=>v.oneCell')&&Nat.ble (0+n) z.length)=true):gI P e ⟨d,.store t x y,ty,ps,af,none⟩ w (λv w'=>CA F W L t z l [v,pt b] w'):=by
 obtain⟨b',J,S⟩:=h;cases J
 exact gu rfl (d8 (i:=0) S rfl hz V Z O D U rfl (λw' I=>⟨b,rfl,I⟩))
end
end
structure Li where
 x0:Nat
 y0:Nat
 x1:Nat
 y1:Nat
def Li.val(r:Li):Value:=.agg #[ii r.x0,ii r.y0,ii r.x1,ii r.y1]
def Lj(gw gh i n:Nat):Li:=⟨i%gw-n,i/gw-n,min (i%gw+n) (gw-1),min (i/gw+n) (gh-1)⟩
def Li.ok(r:Li)(gw gh:Nat):Prop:=(r.x0<=r.x1/\r.x1<gw)/\r.y0<=r.y1/\r.y1<gh
theorem Ug(v:0<gw)(hi:i<gw*gh):(Lj gw gh i n).ok gw gh:=by
 have h1:=dt i v;have h2:i/gw<gh:=cS hi;unfold Li.ok Lj;dsimp only;generalize i%gw=X at *;generalize i/gw=Y at *;omega
theorem Rr(i n:Nat)(hw:1<=gw/\gw<=1024)(hh:1<=gh/\gh<=1024)(hi:i<gw*gh)(hn:n<=1024) :
  Fn prog 188 [.agg #[ii (i%gw:Nat),ii (i/gw:Nat)],ii n,ii gw,ii gh] W (dp (.tuple #[(Lj gw gh i n).val,ii 0]) W):=by
 have h1:=dt i hw.1;have h2:i/gw<gh:=cS hi
 have D:dF (i%gw:Nat) (i/gw:Nat) (i%gw:Nat) (i/gw:Nat) gw gh=0:=by
  generalize i%gw=X at *;generalize i/gw=Y at *;exact gW om om om om
 unfold Lj Li.val;dsimp only;generalize i%gw=X at *;generalize i/gw=Y at *;have e0:max ((X:Int)-n) 0=((X-n:Nat):Int):=om;have L:max ((Y:Int)-n) 0=((Y-n:Nat):Int):=om;have O:min ((X:Int)+n) ((gw:Int)-1)=((min (X+n) (gw-1):Nat):Int):=om;have U:min ((Y:Int)+n) ((gh:Int)-1)=((min (Y+n) (gh-1):Nat):Int):=om;have S:=St.start W;refine zI func188 ?_;refine zN ?_;intro J aa V S;refine zN ?_;intro v I Z S;iterate 9 refine z ?_
 refine dU (kL (pl:=[(0,1),(1,1),(2,1),(3,1)]) dL gE (λw=>by kernel_rfl) rfl rfl) ?_;refine z ?_;refine z ?_;refine eY rfl (jW _ _ _ _ _ _ om om I) ?_;rintro _ ab ⟨rfl,y⟩;have S:=S.gr y;rw[D];refine zg ?_;rw[e0];refine zg ?_;rw[L];refine zg ?_;rw[O];refine zg ?_;rw[U];refine zS ?_;intro ac S;exact pG S ⟨rfl,S.out⟩
theorem JC(i:Nat)(n:Int)(hw:1<=gw/\gw<=1024)(hh:1<=gh/\gh<=1024)(hi:i<gw*gh)(U:n<0\/1024<n) :
  Fn prog 188 [.agg #[ii (i%gw:Nat),ii (i/gw:Nat)],ii n,ii gw,ii gh] W (dp (.tuple #[.agg #[ii 0,ii 0,ii 0,ii 0],ii 9]) W):=by
 have h1:=dt i hw.1;have h2:i/gw<gh:=cS hi
 have I:dF (i%gw:Nat) (i/gw:Nat) (i%gw:Nat) (i/gw:Nat) gw gh=0:=by
  generalize i%gw=X at *;generalize i/gw=Y at *;exact gW om om om om
 generalize i%gw=X at *;generalize i/gw=Y at *;rcases U with U|U
 ·skip;have S:=St.start W;refine zI func188 ?_;refine zN ?_;intro J V L S;refine zN ?_;intro v D O S;iterate 9 refine z ?_
  refine dU (kL (pl:=[(0,1),(1,1),(2,1),(3,1)]) dL gE (λw=>by kernel_rfl) rfl rfl) ?_;refine z ?_;refine z ?_;refine eY rfl (jW _ _ _ _ _ _ om om D) ?_;rintro _ Z ⟨rfl,y⟩;have S:=S.gr y;rw[I];refine zS ?_;intro aa S;exact pG S ⟨rfl,S.out⟩
 ·skip;have S:=St.start W;refine zI func188 ?_;refine zN ?_;intro J V L S;refine zN ?_;intro v D O S;iterate 9 refine z ?_
  refine dU (kL (pl:=[(0,1),(1,1),(2,1),(3,1)]) dL gE (λw=>by kernel_rfl) rfl rfl) ?_;refine z ?_;refine z ?_;refine eY rfl (jW _ _ _ _ _ _ om om D) ?_;rintro _ Z ⟨rfl,y⟩;have S:=S.gr y;rw[I];refine zS ?_;intro aa S;exact pG S ⟨rfl,S.out⟩
def CX(F:Nat->Prop)(W:World)(L:List HA)(i:Nat)(h:HA)(σ:List Value)(w:World):Prop:=match σ with
 |[]=>St F W w L
 |_=>∃L',j7 L i h=some L'/\St F W w L'
def Ik(L:List HA)(i:Nat)(h:HA)(a:Bool)(j:Nat)(h':HA)(b:Bool):Option (List HA):=(if a then j7 L i h else some L).bind λL1=>if b then j7 L1 j h' else some L1
def BN(F:Nat->Prop)(W:World)(L:List HA)(p i:Nat)(h:HA)(q j:Nat)(h':HA)(σ:List (Nat×Value))(w:World):Prop :=
 ∃L',Ik L i h (σ.lookup p).isSome j h' (σ.lookup q).isSome=some L'/\St F W w L'
section
variable{L:List HA}{σ:List Value}
theorem CX.start(S:St F W w L):CX F W L i h [] w:=S
theorem CX.gr(y:CX F W L i h σ w)(g:Gr w w'):CX F W L i h σ w':=by
 cases σ with
 |nil=>exact St.gr y g
 |cons v r=>obtain⟨L',e,S⟩:=y;exact⟨L',e,S.gr g⟩
theorem CX.ok(y:CX F W L i h σ w)(D:j≠i){x:HA}(z:gi L j=some x):x.ok w:=by
 cases σ with
 |nil=>exact St.ok (show St F W w L from y) z
 |cons v r=>obtain⟨L',e,S⟩:=y;exact S.ok ((tG _ _ _ _ _ e D).trans z)
theorem CX.out(y:CX No W L i h σ w):Gr W w:=by
 cases σ with
 |nil=>exact St.out y
 |cons v r=>obtain⟨L',e,S⟩:=y;exact S.out
theorem CX.blk(y:CX F W L i h σ w){t:Nat}(v:j≠i)(z:gi L j=some (.blk b t l)):eL w b t l:=y.ok v z
theorem CX.rd(y:CX F W L i h σ w)(v:j≠i)(z:gi L j=some (.row el k A n c xs)):Rd w A xs:=gH.rd (y.ok v z)
theorem CS.blk(y:CS F W L i el k n xs ys w σ){t:Nat}(v:j≠i)(z:gi L j=some (.blk b t l)):eL w b t l:=y.ok v z
theorem CS.rd(z:CS F W L i el k n xs ys w σ){v:List Value}(y:j≠i)(D:gi L j=some (.row el' k' A n' c v)):Rd w A v:=gH.rd (z.ok y D)
theorem CS.out(v:CS No W L i el k n xs ys w σ):Gr W w:=v.frw.gr (λ_ h=>h.elim)
end
section
variable{L:List HA}
theorem BN.start(S:St F W w L):BN F W L p i h q j h' [] w:=⟨L,rfl,S⟩
theorem BN.gr(v:BN F W L p i h q j h' σ w)(g:Gr w w'):BN F W L p i h q j h' σ w':=by
 obtain⟨L',e,S⟩:=v;exact⟨L',e,S.gr g⟩
section
variable{ps:String}
theorem Ak{o t:Nat}{y:Operand}{v:Value}(S:CX F W L i (.blk b tb l') [] w)(hi:gi L i=some (.blk b tb l))(hz:(sizeOf t).run P w=.ok 1 w)(V:ev e x=.pointer (some ⟨b,o,none⟩))(Z:fz (ev e y)=some v)(U:v.oneCell'=true)(z:v.cells=#[v])(O:l[o]?=some u)(J:l.set o v=l')(D:j7 L i (.blk b tb l')=some L'):gI P e ⟨d,.store t x y,ty,ps,af,none⟩ w (λr w'=>CX F W L i (.blk b tb l') [r] w') :=
 gu rfl (iy (i:=i) S hi hz V Z U z O (by rw[J];exact D) (λw' I=>⟨L',D,I⟩))
theorem JD{o t:Nat}{cs:List Value}{y:Operand}(S:CX F W L i (.blk b tb l') [] w)(hi:gi L i=some (.blk b tb l))(Z:(sizeOf t).run P w=.ok n w)(U:ev e x=.pointer (some ⟨b,o,none⟩))(V:ev e y=.agg cs.toArray)(J:cs.length=n)(z:lj (l.take o++cs++l.drop (o+n))=some l')(O:((cs.all λv=>v.oneCell')&&Nat.ble (o+n) l.length)=true)(D:j7 L i (.blk b tb l')=some L'):gI P e ⟨d,.store t x y,ty,ps,af,none⟩ w (λr w'=>CX F W L i (.blk b tb l') [r] w') :=
 gu rfl (d8 (i:=i) S hi Z U V J z O D (λw' I=>⟨L',D,I⟩))
theorem JE{o t:Nat}{cs:List Value}{y:Operand}(V:BN F W L p i (.blk b tb l') q j h' σ w)(I:σ.lookup p=none)(Z:∀O,∃L1 z,Ik L i (.blk b tb l') false j h' O=some L1/\gi L1 i=some (.blk b tb l)/\j7 L1 i (.blk b tb l')=some z/\Ik L i (.blk b tb l') true j h' O=some z)(hz:(sizeOf t).run P w=.ok n w)(hx:ev e x=.pointer (some ⟨b,o,none⟩))(hy:ev e y=.agg cs.toArray)(hn:cs.length=n)(D:lj (l.take o++cs++l.drop (o+n))=some l')(ho:((cs.all λv=>v.oneCell')&&Nat.ble (o+n) l.length)=true)(J:(q==p)=false:=by decide):gI P e ⟨d,.store t x y,ty,ps,af,none⟩ w (λr w'=>BN F W L p i (.blk b tb l') q j h' ((p,r)::σ) w'):=by
 obtain⟨L0,e0,S⟩:=V;obtain⟨L1,z,k1,k2,k3,k4⟩:=Z (σ.lookup q).isSome;rw[I]at e0;obtain rfl:=Option.some.inj (k1.symm.trans e0);refine gu rfl (d8 (i:=i) S k2 hz hx hy hn D ho k3 (λw' U=>⟨z,?_,U⟩));rw[cZ,cZ,fE,J];exact k4
theorem JF{o t:Nat}{cs:List Value}{y:Operand}(V:BN F W L p i h q j (.blk b tb l') σ w)(I:σ.lookup q=none)(Z:∀O,∃L1 z,Ik L i h O j (.blk b tb l') false=some L1/\gi L1 j=some (.blk b tb l)/\j7 L1 j (.blk b tb l')=some z/\Ik L i h O j (.blk b tb l') true=some z)(hz:(sizeOf t).run P w=.ok n w)(hx:ev e x=.pointer (some ⟨b,o,none⟩))(hy:ev e y=.agg cs.toArray)(hn:cs.length=n)(D:lj (l.take o++cs++l.drop (o+n))=some l')(ho:((cs.all λv=>v.oneCell')&&Nat.ble (o+n) l.length)=true)(J:(p==q)=false:=by decide):gI P e ⟨d,.store t x y,ty,ps,af,none⟩ w (λr w'=>BN F W L p i h q j (.blk b tb l') ((q,r)::σ) w'):=by
 obtain⟨L0,e0,S⟩:=V;obtain⟨L1,z,k1,k2,k3,k4⟩:=Z (σ.lookup p).isSome;rw[I]at e0;obtain rfl:=Option.some.inj (k1.symm.trans e0);refine gu rfl (d8 (i:=j) S k2 hz hx hy hn D ho k3 (λw' U=>⟨z,?_,U⟩));rw[cZ,cZ,fE,J];exact k4
theorem BN.ok(J:BN F W L p i h q j h' σ w)(y:k≠i/\k≠j){x:HA}(z:gi L k=some x):x.ok w:=by
 obtain⟨L',e,S⟩:=J;refine S.ok (i:=k) ?_;unfold Ik at e;cases D:(σ.lookup p).isSome<;>cases I:(σ.lookup q).isSome<;>simp only[D,I,m7,pW,rq,Option.bind_some]at e
 ·obtain rfl:=Option.some.inj e;exact z
 ·exact(tG _ _ _ _ _ e y.2).trans z
 ·cases v:j7 L i h with
  |none=>rw[v]at e;cases e
  |some M =>
   rw[v]at e;obtain rfl:=Option.some.inj e;exact(tG _ _ _ _ _ v y.1).trans z
 ·cases v:j7 L i h with
  |none=>rw[v]at e;cases e
  |some M =>
   rw[v]at e;exact(tG _ _ _ _ _ e y.2).trans ((tG _ _ _ _ _ v y.1).trans z)
theorem BN.blk(y:BN F W L p i h q j h' σ w){t:Nat}(v:k≠i/\k≠j)(z:gi L k=some (.blk b t l)):eL w b t l:=y.ok v z
end
end
section
variable{ps:String}
theorem tL{y:Operand}{c:Int}{b:Bool}(z:ev e x=.int .i32 a)(D:ev e y=.int .i32 c)(v:decide (a>=c)=b):iE P e ⟨d,.binOp .geq t x y t',ty,ps,af,none⟩ (.bool b):=by
 intro w;subst v;simp[gd,execOp,z,D,eqGuard,binOp,Op.intCmp]
theorem tM{y:Operand}{c:Int}{b:Bool}(z:ev e x=.int .i32 a)(D:ev e y=.int .i32 c)(v:decide (a<=c)=b):iE P e ⟨d,.binOp .leq t x y t',ty,ps,af,none⟩ (.bool b):=by
 intro w;subst v;simp[gd,execOp,z,D,eqGuard,binOp,Op.intCmp]
end
def E8(c:Int):Bool:=decide (c=44\/c=58\/c=173\/(55296<=c/\c<=57343))
def qk(c:Int):Bool:=!E8 c&&decide ((33<=c/\c<=126)\/(161<=c/\c<=65532))
theorem Aq(c:Int):Fn prog 232 [.int .i32 c] W (dp (.bool (qk c)) W):=by
 rcases fv (c=44\/c=58\/c=173\/(55296<=c/\c<=57343))with h|h
 ·have y:qk c=false:=by unfold qk E8;rw[fD h];rfl
  rw[y];have S:=St.start W;rcases h with rfl|rfl|rfl|h
  all_goals
   refine zI func232 ?_;refine zg ?_;try (refine dr rfl ?_;(first|refine dU (tL (b:=true) rfl rfl (fD om)) ?_|refine dU (tL (b:=false) rfl rfl (iO om)) ?_))
   refine zg ?_;try (refine dr rfl ?_;(first|refine dU (tM (b:=true) rfl rfl (fD om)) ?_|refine dU (tM (b:=false) rfl rfl (iO om)) ?_))
   exact zZ
 ·have y:qk c=decide ((33<=c/\c<=126)\/(161<=c/\c<=65532)):=by unfold qk E8;rw[iO h];rfl
  rw[y];clear y;have S:=St.start W;have v:c<33\/(33<=c/\c<=126)\/(126<c/\c<161)\/(161<=c/\c<55296)\/(57343<c/\c<=65532)\/65532<c:=om;have D:c≠44:=om;have I:c≠58:=om;have z:c≠173:=om;rcases v with v|v|v|v|v|v
  all_goals
   refine zI func232 ?_;refine zg ?_;try (refine dr rfl ?_;(first|refine dU (tL (b:=true) rfl rfl (fD om)) ?_|refine dU (tL (b:=false) rfl rfl (iO om)) ?_))
   refine zg ?_;try (refine dr rfl ?_;(first|refine dU (tM (b:=true) rfl rfl (fD om)) ?_|refine dU (tM (b:=false) rfl rfl (iO om)) ?_))
   refine zg ?_;first|refine dU (tL (b:=true) rfl rfl (fD om)) ?_|refine dU (tL (b:=false) rfl rfl (iO om)) ?_
   refine zg ?_;try (refine dr rfl ?_;(first|refine dU (tM (b:=true) rfl rfl (fD om)) ?_|refine dU (tM (b:=false) rfl rfl (iO om)) ?_))
   refine zg ?_;try (refine dr rfl ?_;(first|refine dU (tL (b:=true) rfl rfl (fD om)) ?_|refine dU (tL (b:=false) rfl rfl (iO om)) ?_))
   refine zg ?_;try (refine dr rfl ?_;(first|refine dU (tM (b:=true) rfl rfl (fD om)) ?_|refine dU (tM (b:=false) rfl rfl (iO om)) ?_))
   refine zX ?_;exact⟨by simp<;>omega,S.out⟩
def kI(l:List (Int×Int)):List Value:=l.flatMap λb=>[ii b.1,.int .i32 b.2]
theorem Ar(l:List (Int×Int)):(kI l).length=l.length*2:=lF (f:=λb:Int×Int=>[ii b.1,.int .i32 b.2]) (λ_=>rfl) l
theorem JI(A:Option Addr)(n c fid:Nat)(caps:List Value)(xs:List (Int×Int))(hn:n=xs.length)(ac:n<=9223372036854775807)(p:Int×Int->Bool)(W:World)(V:Rd W A (kI xs))(hf:∀x∈xs,∀w',Gr W w'->Fn prog fid ([]++[.agg #[ii x.1,.int .i32 x.2]]++caps) w' (dp (.bool (p x)) w')) :
  Fn prog 282 [.slice A n c,.func (.func fid) (([]:List Value).toArray) caps.toArray] W (λv w'=>∃r:Int,v=ii r/\Gr W w'/\(0<=r↔xs.any p=true)):=by
 subst hn;have S:=St.start W;refine zI func282 ?_;refine zg ?_
 refine dl (λm e w=>∃k:Nat,k+m=xs.length/\SL e [(0,.slice A xs.length c),(1,.func (.func fid) (([]:List Value).toArray) caps.toArray),(7,ii xs.length),(8,ii k)]/\(∀i x,i<k->xs[i]?=some x->p x=false)/\St No W w []) xs.length
  ⟨0,om,sl,λi x hi=>by omega,S⟩ ?_
 rintro m e w ⟨k,ab,L,Z,S⟩;rw[L.fold];refine zB ?_ ?_
 ·intro hc;obtain⟨x,D⟩:∃x,xs[k]?=some x:=⟨xs[k],fw om⟩;have aa:dO A:=V.someA (by rw[Ar];omega);have O:((kI xs).drop ((k:Int).toNat * 2)).take 2=[ii x.1,.int .i32 x.2]:=by rw[b7];exact lG (f:=λb:Int×Int=>[ii b.1,.int .i32 b.2]) (λ_=>rfl) D
  refine zg ?_;refine ZU (V.gr S.out) O ?_;refine ju rfl rfl (hf x (dD D) _ S.out) ?_;rintro _ ad ⟨rfl,I⟩;have S:=S.gr I;refine zB ?_ ?_
  ·intro z;refine zX ?_;exact⟨_,rfl,S.out,⟨λ_=>jZ.2 ⟨x,dD D,z⟩,λ_=>by omega⟩⟩
  ·intro z;refine zg ?_
   exact⟨m-1,om,k+1,om,sl,λi y hi U=>by
    by_cases J:i=k
    ·subst J;rw[D]at U;cases U;exact z
    ·exact Z i y om U,S⟩
 ·intro hc;refine zg ?_;refine ir rfl ⟨_,rfl,S.out,?_⟩;simp only[jZ];refine⟨λh=>by omega,λ⟨x,D,z⟩=>?_⟩;obtain⟨i,hi,rfl⟩:=gK.1 D;rw[Z i _ om (fw hi)]at z;cases z
theorem vT(A:Option Addr)(n c fid:Nat)(caps:List Value)(xs:List (Int×Int))(I:n=xs.length)(y:n<=9223372036854775807)(p:Int×Int->Bool)(W:World)(z:Rd W A (kI xs))(D:∀x∈xs,∀w',Gr W w'->Fn prog fid ([]++[.agg #[ii x.1,.int .i32 x.2]]++caps) w' (dp (.bool (p x)) w')) :
  Fn prog 233 [.slice A n c,.func (.func fid) (([]:List Value).toArray) caps.toArray] W (dp (.bool (xs.any p)) W):=by
 have S:=St.start W;refine zI func233 ?_;refine zK (JI A n c fid caps xs I y p _ (z.gr S.out) (by intro x L w' g;exact D x L w' (S.out.trans g))) ?_;rintro _ O ⟨r,rfl,v,J⟩;have S:=S.gr v;refine zX ?_;exact⟨be (by rw[iq,<-J];simp),S.out⟩
theorem Gz(f s f' s':Int)(z:eL W mb 82 [ii f',.int .i32 s']):Fn prog 234 [.agg #[ii f,.int .i32 s],pt mb] W (dp (.bool (decide (s=s'))) W):=by
 have S:=St.start W;by_cases h:s=s'
 all_goals
  refine zI func234 ?_;refine zN ?_;intro v D y S;refine zL (z.gr S.out) ?_;refine zX ?_;exact⟨by simp[h],S.out⟩
structure Rc where
 x0:Nat
 y0:Nat
 x1:Nat
 y1:Nat
variable{r:Rc}
def Rc.cells(r:Rc):List Value:=[ii r.x0,ii r.y0,ii r.x1,ii r.y1]
def Rc.ok(r:Rc)(gw gh:Nat):Prop:=(r.x0<=r.x1/\r.x1<gw)/\r.y0<=r.y1/\r.y1<gh
def Rc.has(r:Rc)(x y:Nat):Prop:=(r.x0<=x/\x<=r.x1)/\r.y0<=y/\y<=r.y1
def Rc.meet(a b:Rc):Rc:=⟨max a.x0 b.x0,max a.y0 b.y0,min a.x1 b.x1,min a.y1 b.y1⟩
def Rc.both(a b:Rc):Bool:=decide (max a.x0 b.x0<=min a.x1 b.x1/\max a.y0 b.y0<=min a.y1 b.y1)
def Rc.mt(a b:Rc):List Value:=if a.both b then(a.meet b).cells else [ii 0,ii 0,ii 0,ii 0]
theorem Rc.both_iff{a b:Rc}(v:a.ok gw gh)(z:b.ok gw gh):a.both b=true↔∃x y,a.has x y/\b.has x y:=by
 obtain⟨⟨D,a2⟩,I,J⟩:=v;obtain⟨⟨L,O⟩,S,U⟩:=z;unfold Rc.both Rc.has;rw[cT];exact⟨λh=>⟨max a.x0 b.x0,max a.y0 b.y0,om⟩,λ⟨x,y,h⟩=>by omega⟩
theorem E6(a b:Rc)(ha:a.ok 1024 1024)(hb:b.ok 1024 1024):Fn prog 179 [.agg a.cells.toArray,.agg b.cells.toArray] W (dp (.tuple #[.agg (a.mt b).toArray,.bool (a.both b)]) W):=by
 obtain⟨a0,y,v,D⟩:=a;obtain⟨c0,I,c1,J⟩:=b;obtain⟨⟨h1,h2⟩,h3,h4⟩:=ha;obtain⟨⟨g1,g2⟩,g3,g4⟩:=hb;dsimp only at h1 h2 h3 h4 g1 g2 g3 g4;have ra:nb a0 y v D=true:=(lO _ _ _ _).2 om;have rb:nb c0 I c1 J=true:=(lO _ _ _ _).2 om;have e1:max (a0:Int) c0=((max a0 c0:Nat):Int):=om;have e2:max (y:Int) I=((max y I:Nat):Int):=om;have e3:min (v:Int) c1=((min v c1:Nat):Int):=om;have e4:min (D:Int) J=((min D J:Nat):Int):=om
 have rc:nb (max a0 c0:Nat) (max y I:Nat) (min v c1:Nat) (min D J:Nat)=decide (max a0 c0<=min v c1/\max y I<=min D J):=by
  rw[iq,lO,cT];omega
 show Fn prog 179 [.agg #[ii a0,ii y,ii v,ii D],.agg #[ii c0,ii I,ii c1,ii J]] W
  (dp (.tuple #[.agg (if decide (max a0 c0<=min v c1/\max y I<=min D J)then [ii (max a0 c0:Nat),ii (max y I:Nat),ii (min v c1:Nat),ii (min D J:Nat)]else [ii 0,ii 0,ii 0,ii 0]).toArray,.bool (decide (max a0 c0<=min v c1/\max y I<=min D J))]) W)
 generalize decide (max a0 c0<=min v c1/\max y I<=min D J)=B at *;have S:=St.start W;refine zI func179 ?_;refine zN ?_;intro ae an aj S;refine zN ?_;intro ag ao ak S;refine zN ?_;intro ai ap al S;refine zC (mz _ _ _ _ _) ?_;intro O am S;rw[ra];iterate 3 refine z ?_
 refine dr rfl ?_;refine eY rfl (mz _ _ _ _ O) ?_;rintro _ aq ⟨rfl,L⟩;have S:=S.gr L;rw[rb];refine zg ?_;rw[e1];refine zg ?_;rw[e2];refine zg ?_;rw[e3];refine zg ?_;rw[e4];refine zN ?_;intro ah Z U S;refine zS ?_;intro aa S;refine zC (mz _ _ _ _ _) ?_;intro ab V S;rw[rc];refine zg ?_;cases B
 ·skip;refine zS ?_;intro ac S;exact pG S ⟨rfl,S.out⟩
 ·skip;refine zS ?_;intro ad S;exact pG S ⟨rfl,S.out⟩
structure Nd where
 k:Nat
 x:Nat
 y:Nat
def Nd.ok(n:Nd)(gw gh:Nat):Prop:=n.k<fW gw gh/\n.x<dG gw n.k/\n.y<dG gh n.k
def Nd.span(gw gh:Nat)(n:Nd):Rc:=⟨n.x*2^n.k,n.y*2^n.k,min ((n.x+1)*2^n.k) gw-1,min ((n.y+1)*2^n.k) gh-1⟩
def Nd.cells(gw gh:Nat)(n:Nd):List Value:=[ii n.k,ii n.x,ii n.y]++(n.span gw gh).cells
theorem E7{x:Nat}(v:0<p):c/p=x↔x*p<=c/\c<(x+1)*p:=by
 rw[<-sG v,<-sH v];omega
theorem CJ{x:Nat}(v:1<=n)(h:x<dG n k):x*2^k<n:=by
 unfold dG at h;have:=(sG (x:=x) (y:=n-1) (ic (a:=2) (n:=k) om)).1 om;omega
section
variable{n:Nd}
theorem Nd.span_ok(D:1<=gw)(z:1<=gh)(h:n.ok gw gh):(n.span gw gh).ok gw gh:=by
 have h1:=CJ D h.2.1;have h2:=CJ z h.2.2;have I:=ic (a:=2) (n:=n.k) om;have v:=cX n.x (2^n.k);have y:=cX n.y (2^n.k);unfold Nd.span Rc.ok;dsimp only;simp only[Nat.succ_eq_add_one]at v y;rw[v,y];generalize n.x*2^n.k=a at *;generalize n.y*2^n.k=b at *;omega
theorem Nd.has(D:cx<gw)(I:cy<gh):(n.span gw gh).has cx cy↔cx/2^n.k=n.x/\cy/2^n.k=n.y:=by
 have v:=ic (a:=2) (n:=n.k) om;rw[E7 v,E7 v];unfold Nd.span Rc.has;dsimp only;have y:(n.x+1)*2^n.k=n.x*2^n.k+2^n.k:=cX _ _;have z:(n.y+1)*2^n.k=n.y*2^n.k+2^n.k:=cX _ _;generalize n.x*2^n.k=a at *;generalize n.y*2^n.k=b at *;generalize (n.x+1)*2^n.k=c at *;generalize (n.y+1)*2^n.k=d at *;omega
theorem Rc.ok.far(h:r.ok gw gh)(D:gw<=1024)(z:gh<=1024):r.ok 1024 1024:=by
 obtain⟨⟨h1,h2⟩,v,y⟩:=h;exact⟨⟨h1,om⟩,v,om⟩
end
theorem Lg(l:List (Int×Int))(x y:Int):eT l++[ii x,ii y]=eT (l++[(x,y)]):=by simp[eT]
def kd(w x:Nat):Nat:=min (2*x+2) w-2*x
def Uf(w x y i:Nat):Int×Int:=(((2*x+i%kd w x:Nat):Int),((2*y+i/kd w x:Nat):Int))
def xA(w h x y:Nat):List (Int×Int):=(List.range (kd h y*kd w x)).map (Uf w x y)
theorem Lh(k x y:Nat)(Z:1<=gw/\gw<=1024)(V:1<=gh/\gh<=1024)(hk:k+1<fW gw gh)(hx:x<dG gw (k+1))(hy:y<dG gh (k+1)) :
  Fn prog 183 [ii gw,ii gh,ii (k+1:Nat),.agg #[ii x,ii y]] W
   (jc (λs=>.tuple #[s,ii 0]) 24 2 (kd (dG gh k) y*kd (dG gw k) x) (eT (xA (dG gw k) (dG gh k) x y)) W):=by
 have hl:=lI Z.2 V.2;have al:=qz hx;have am:=qz hy;have ao:=oZ k Z.1;have ap:=oZ k V.1;have e1:((k+1:Nat):Int)-1=(k:Int):=om;have e2:(2:Int)*y=((2*y:Nat):Int):=by push_cast;rfl
 have e3:(2:Int)*x=((2*x:Nat):Int):=by push_cast;rfl
 have nx:1<=kd (dG gw k) x/\kd (dG gw k) x<=2/\2*x+kd (dG gw k) x=min (2*x+2) (dG gw k):=by unfold kd;omega
 have ny:1<=kd (dG gh k) y/\kd (dG gh k) y<=2/\2*y+kd (dG gh k) y=min (2*y+2) (dG gh k):=by unfold kd;omega
 have ae:=λw=>xL (W:=w) k Z V om;unfold xA;have U:∀i,Uf (dG gw k) x y i=(((2*x+i%kd (dG gw k) x:Nat):Int),((2*y+i/kd (dG gw k) x:Nat):Int)):=λi=>rfl;have ac:=λw=>Dw (W:=w) (k+1) x y Z V hk hx hy;generalize Uf (dG gw k) x y=kf at *;generalize kd (dG gw k) x=v at *;generalize kd (dG gh k) y=z at *;generalize dG gw k=lw at *;generalize dG gh k=lh at *
 have hb:z*v<=4:=by
  have:=fy ny.2.1 nx.2.1;omega
 have S:=St.start W;refine zI func183 ?_;refine zN ?_;intro D aq ah S;refine zg ?_;rw[e1];refine zC (ae _) ?_;intro ar ai S;refine zC (ac _) ?_;intro au aj S;refine zg ?_;rw[e2];refine zg ?_;have S:=S.pushNil 24 2
 refine dl (λm e w=>∃(j:Nat)(A:Option Addr)(c:Nat),j+m=z/\SL e [(7,pt D),(10,ii lw),(11,ii lh),(13,.slice A (j*v) c),(14,ii (2*y+j:Nat))] /\
   St No W w [.row 24 2 A (j*v) c (eT ((List.range (j*v)).map kf)),.blk D 24 [ii x,ii y]]) z
  ⟨0,none,0,om,⟨rfl,rfl,rfl,by rw[iD];rfl,rfl,trivial⟩,by rw[iD];exact S⟩ ?_
 clear S;rintro m e w ⟨j,A,c,hj,J,S⟩;rw[J.fold];by_cases an:j<z
 ·skip;refine zg ?_;rw[e2];refine zg ?_;rw[e3];refine zg ?_
  refine dl (λm2 e w=>∃(i:Nat)(A:Option Addr)(c:Nat),i+m2=v/\SL e [(7,pt D),(10,ii lw),(11,ii lh),(13,.slice A (j*v+i) c),(14,ii (2*y+j:Nat)),(15,ii (2*x+i:Nat))] /\
    St No W w [.row 24 2 A (j*v+i) c (eT ((List.range (j*v+i)).map kf)),.blk D 24 [ii x,ii y]]) v
   ⟨0,A,c,om,sl,S⟩ ?_
  clear S;rintro m2 e w ⟨i,A,c,hi,J,S⟩;rw[J.fold];have ad:=cI v (show j+1<=z by omega);rw[cX]at ad;by_cases I:i<v
  ·have es:(List.range (j*v+i+1)).map kf=(List.range (j*v+i)).map kf++[(((2*x+i:Nat):Int),((2*y+j:Nat):Int))]:=by
    rw[eG,fq,i7,U,cD j,fp,dT I,fF om,ee I,eW]
   refine zg ?_;rw[e3];refine zg ?_;refine yb S ?_;intro ab av ak S aa;refine ZP 1 0 S ?_;intro L O aw S ag;refine zg ?_;have S:=S.sub (.cons _ (.cons_cons _ (.cons_cons _ .slnil)));rw[Lg,<-es]at S;exact⟨m2-1,om,i+1,L,O,om,sl,S⟩
  ·obtain rfl:i=v:=om;refine zg ?_;rw[e3];refine zg ?_;have ej:j*i+i=(j+1)*i:=(cX j i).symm;rw[ej]at S;exact⟨m-1,om,j+1,A,c,om,⟨rfl,rfl,rfl,by rw[<-ej];rfl,rfl,trivial⟩,S⟩
 ·obtain rfl:j=z:=om;refine zg ?_;rw[e2];refine zX ?_;exact(S.retNew (i:=0) (mk:=λs=>.tuple #[s,ii 0]) rfl)
def Al(gw gh:Nat)(l:List Nd):List Value:=l.flatMap (Nd.cells gw gh)
theorem Nd.cells_len(gw gh:Nat)(n:Nd):(n.cells gw gh).length=7:=rfl
section
variable{l:List Nd}{n:Nd}
theorem Il(l:List Nd):(Al gw gh l).length=l.length*7:=by
 unfold Al;induction l with
 |nil=>rfl
 |cons a r ih=>rw[fe,cP,ih,Nd.cells_len,fc];omega
theorem DK(l:List Nd)(n:Nd):Al gw gh l++n.cells gw gh=Al gw gh (l++[n]):=by
 unfold Al;rw[kZ,lx]
theorem NU(l:List Nd)(n:Nd):((Al gw gh (l++[n])).drop (l.length*7)).take 7=n.cells gw gh:=by
 rw[<-DK,<-Il (gw:=gw) (gh:=gh) l,jE];exact fN (by rw[Nd.cells_len];exact fK _)
theorem NV(l:List Nd)(n:Nd):(Al gw gh (l++[n])).take (l.length*7)=Al gw gh l:=by
 rw[<-DK,<-Il (gw:=gw) (gh:=gh) l,pX]
end
def SH(W:World)(gw gh sb yb:Nat)(r:Rc)(T:List HA)(l:List Nd)(w:World):Prop :=
 ∃A c,St No W w (.blk sb 303 [pt yb,ii r.x0,ii r.y0,ii r.x1,ii r.y1,.slice A l.length c]::.row 296 7 A l.length c (Al gw gh l)::T)
section
variable{yb:Nat}{V:List Int}{l:List Nd}
theorem SH.out(h:SH W gw gh sb yb r T l w):Gr W w:=by obtain⟨A,c,S⟩:=h;exact S.out
theorem XS:(prog.info? 296).map (λi=>(i.zero,i.size,i.bytes))=some (some (.agg #[ii 0,ii 0,ii 0,ii 0,ii 0,ii 0,ii 0]),7,56):=by kernel_rfl
theorem Lk(n:Nd)(hw:1<=gw/\gw<=1024)(U:1<=gh/\gh<=1024)(hn:n.ok gw gh)(hr:r.ok gw gh)(hl:l.length<=1000000000)(hP:iM W yb gw gh V)(hH:SH W gw gh sb yb r T l w) :
  Fn prog 178 [pt sb,ii n.k,.agg #[ii n.x,ii n.y]] w (λv w'=>v=.tuple #[]/\SH W gw gh sb yb r T (if (n.span gw gh).both r then l++[n]else l) w'):=by
 obtain⟨aa,c,S⟩:=hH;have hs:=Nd.span_ok hw.1 U.1 hn;have Z:=λw=>E6 (W:=w) (n.span gw gh) r (hs.far hw.2 U.2) (hr.far hw.2 U.2);have aj:∀w,Fn prog 132 [ii gw,ii gh,ii n.k,.agg #[ii n.x,ii n.y]] w (dp (.tuple #[.agg (n.span gw gh).cells.toArray,ii 0]) w):=λw=>Co (W:=w) n.k n.x n.y hw U hn.1 hn.2.1 hn.2.2;have ai:n.cells gw gh=[ii n.k,ii n.x,ii n.y,ii (n.span gw gh).x0,ii (n.span gw gh).y0,ii (n.span gw gh).x1,ii (n.span gw gh).y1]:=rfl;have D:=DK (gw:=gw) (gh:=gh) l n;rw[ai]at D
 have I:∃a b c d:Int,(n.span gw gh).mt r=[ii a,ii b,ii c,ii d]:=by
  unfold Rc.mt;split
  ·exact⟨_,_,_,_,rfl⟩
  ·exact⟨_,_,_,_,rfl⟩
 obtain⟨m0,m1,m2,m3,I⟩:=I;rw[I]at Z;generalize n.span gw gh=sp at *;generalize sp.both r=B at *;refine zI func178 ?_;refine zN ?_;intro aw aG aA S;refine zC (tJ hw U (hP.gr S.out)) ?_;intro aH aB S;refine zC (aj _) ?_;intro aI aC S;refine zN ?_;intro an aJ aD S;refine zS ?_;intro aK S;refine zH (C:=(CA _ _ _ 43 [ii 0,ii 0,ii 0,ii 0] [ii m0,ii m1,ii m2,ii m3])) [9,10] [0,1,2,3,4,5,6,7,8,9,10] [11] (CA.start (S.gr (Gr.drew _))) ?_;refine zV (λτ wq y=>(y.st.blk (i:=0) rfl)) ?_;refine zV (λτ wq y=>(y.st.blk (i:=2) rfl)) ?_;refine jH rfl rfl (λτ wq y=>(Z wq).mono (λ_ _⟨hv,hg⟩=>⟨hv,y.gr hg⟩)) ?_;refine zR ?_;refine de rfl rfl (λwq y=>kG y gE rfl) ?_;rintro aE aL ⟨az,rfl,_⟩;refine de rfl rfl (λwq y=>kH y (fS _) rfl rfl rfl rfl rfl) ?_;rintro aF aM _;refine zY ?_;rintro aN ak;obtain⟨am,L,S⟩:=ak.fin;cases L
 refine zg ?_;cases B
 ·skip;refine zg ?_;exact na ⟨rfl,aa,c,S.drop 3⟩
 ·skip;refine zH (C:=(λσ wq=>CS _ _ _ 4 296 7 l.length (Al gw gh l) [ii n.k,ii n.x,ii n.y,ii sp.x0,ii sp.y0,ii sp.x1,ii sp.y1] wq σ)) [9,10] [0,1,2,3,4,5,6,7,8,9,10] [11,12,13] (S.gr (Gr.drew _)) ?_;refine zV (λτ wq y=>(y.blk (j:=3) (by decide) rfl)) ?_;refine zV (λτ wq y=>(y.blk (j:=2) (by decide) rfl)) ?_;refine zV (λτ wq y=>(y.blk (j:=1) (by decide) rfl)) ?_;refine zR ?_;refine de rfl rfl (λwq y=>rO y qT lN sk rfl rfl rfl rfl rfl rfl) ?_;rintro ap au ⟨ac,rfl,_⟩;refine de rfl rfl (λwq y=>u6 y rfl (λh=>⟨_,rfl⟩) qT XS rfl rfl rfl rfl rfl rfl om) ?_;rintro ao ar ⟨ab,ag,ae,rfl,_,_⟩;refine zY ?_;rintro av ⟨ad,ah,al,J,O,S⟩;cases J
  obtain rfl:=Option.some.inj O;refine z ?_;refine z ?_;refine iy (i:=3) S rfl (sizeOf301 _) rfl rfl rfl rfl rfl rfl ?_;intro aq S;refine ze ?_;exact na ⟨rfl,_,_,by simp only[rq,cP,iV];rw[<-D];exact S.drop 3⟩
def rW(l:List Nd):Nat:=(l.map λn=>5^n.k).sum
theorem DL(l l':List Nd):rW (l++l')=rW l+rW l':=by unfold rW;rw[fq,List.sum_append]
theorem xR(n:Nd):rW [n]=5^n.k:=by simp[rW]
theorem wC:∀l:List Nd,l.length<=rW l
 |[]=>fK _
 |n::l=>by
  have:=wC l
  have h:rW (n::l)=5^n.k+rW l:=by simp[rW]
  have:=ic (a:=5) (n:=n.k) om;rw[fc];omega
def Gu(k x y nx j:Nat):Nd:=⟨k,2*x+j%nx,2*y+j/nx⟩
def Gv(gw gh:Nat)(n n':Nd):Prop:=n'.k+1=n.k/\n'.x/2=n.x/\n'.y/2=n.y/\n'.ok gw gh
def Ll(gw gh sb yb:Nat)(r:Rc)(T:List HA)(l:List Nd)(n:Nd)(W:World)(v:Value)(w':World):Prop :=
 v=.tuple #[]/\∃l',SH W gw gh sb yb r T l' w'/\(∀n'∈l',n'∈l\/(Gv gw gh n n'/\(n'.span gw gh).both r=true))/\(∀n'∈l,n'∈l')/\(∀n',Gv gw gh n n'->(n'.span gw gh).both r=true->n'∈l')/\rW l'<rW l+5^n.k
theorem Lm(k x y:Nat)(hw:1<=gw/\gw<=1024)(hh:1<=gh/\gh<=1024)(hn:Nd.ok ⟨k+1,x,y⟩ gw gh)(hr:r.ok gw gh)(hl:rW l<=100000000)(hP:iM W yb gw gh V)(hH:SH W gw gh sb yb r T l w) :
  Fn prog 176 [pt sb,.agg (Nd.cells gw gh ⟨k+1,x,y⟩).toArray] w (Ll gw gh sb yb r T l ⟨k+1,x,y⟩ W):=by
 obtain⟨hk,hx,hy⟩:=hn;dsimp only at hk hx hy;have aC:=lI hw.2 hh.2;have az:=qz hx;have aA:=qz hy;have aG:=oZ k hw.1;have aH:=oZ k hh.1;have ah:=λw=>Lh (W:=w) k x y hw hh hk hx hy;have nx:1<=kd (dG gw k) x/\kd (dG gw k) x<=2/\2*x+kd (dG gw k) x=min (2*x+2) (dG gw k):=by unfold kd;omega
 have ny:1<=kd (dG gh k) y/\kd (dG gh k) y<=2/\2*y+kd (dG gh k) y=min (2*y+2) (dG gh k):=by unfold kd;omega
 have ai:∀j,j<kd (dG gh k) y*kd (dG gw k) x->(xA (dG gw k) (dG gh k) x y)[j]?=some (((2*x+j%kd (dG gw k) x:Nat):Int),((2*y+j/kd (dG gw k) x:Nat):Int)):=λj hj=>by
  unfold xA;rw[da,eu hj];rfl
 obtain⟨L,c,S⟩:=hH;show Fn prog 176 [pt sb,.agg #[ii (k+1:Nat),ii x,ii y,ii (Nd.span gw gh ⟨k+1,x,y⟩).x0,ii (Nd.span gw gh ⟨k+1,x,y⟩).y0,ii (Nd.span gw gh ⟨k+1,x,y⟩).x1,ii (Nd.span gw gh ⟨k+1,x,y⟩).y1]] w _;generalize Nd.span gw gh ⟨k+1,x,y⟩=sp at *;generalize aD:kd (dG gw k) x=v at *;generalize aE:kd (dG gh k) y=D at *;have hb:D*v<=4:=fy ny.2.1 nx.2.1;have ae:1<=D*v:=fy ny.1 nx.1
 have O:∀j,j<D*v->Gv gw gh ⟨k+1,x,y⟩ (Gu k x y v j):=λj hj=>by
  have a1:=dt j (show 0<v by omega);have a2:j/v<D:=cS (by rw[cD];exact hj);unfold Gu Gv Nd.ok;dsimp only;generalize j%v=a at *;generalize j/v=b at *;omega
 have ab:∀n',Gv gw gh ⟨k+1,x,y⟩ n'->∃j,j<D*v/\n'=Gu k x y v j:=λn' z=>by
  obtain⟨k',x',y'⟩:=n';obtain⟨h1,h2,h3,h4,h5,h6⟩:=z;dsimp only at h1 h2 h3 h4 h5 h6;obtain rfl:k'=k:=om;have a1:x'-2*x<v:=om;have a2:y'-2*y+1<=D:=om;have a3:=cI v a2;rw[cX]at a3;refine⟨(y'-2*y)*v+(x'-2*x),om,?_⟩;unfold Gu;rw[cD (y'-2*y),fp,dT a1,fF om,ee a1,eW,(om:2*x+(x'-2*x)=x'),(om:2*y+(y'-2*y)=y')]
 generalize hN:D*v=N at *;refine zI func176 ?_;refine zN ?_;intro U aI ar S;refine zC (tJ hw hh (hP.gr S.out)) ?_;intro aJ au S;refine zK (ah _) ?_;rintro _ aK ⟨J,Z,rfl,aa,ac,ad⟩;have S:=S.pushRow aa ac ad;refine zg ?_;have aq:dO J:=(S.row (i:=0) rfl).someA ae;have S:=S.pick 4 [2,3,0,1] rfl rfl rfl;have aF:=ic (a:=5) (n:=k) om;have ao:=gb 5 k;have am:=fP (n:=5) om (show k+1<=11 by omega)
 have ak:=λ(l:List Nd)w j(hj:j<N)(hl:l.length<=1000000000)(hH:SH W gw gh sb yb r (.row 24 2 J N Z (eT (xA (dG gw k) (dG gh k) x y))::.blk U 296 [ii (k+1:Nat),ii x,ii y,ii sp.x0,ii sp.y0,ii sp.x1,ii sp.y1]::T) l w) =>
  Lk (W:=W) (w:=w) (V:=V) (Gu k x y v j) hw hh (O j hj).2.2.2 hr hl hP hH
 refine dl (λm e w=>∃l',SL e [(0,pt sb),(3,pt U),(6,.slice J N Z),(8,ii ((m:Int)-1))]/\m<=N /\
   SH W gw gh sb yb r (.row 24 2 J N Z (eT (xA (dG gw k) (dG gh k) x y))::.blk U 296 [ii (k+1:Nat),ii x,ii y,ii sp.x0,ii sp.y0,ii sp.x1,ii sp.y1]::T) l' w /\
   (∀n'∈l',n'∈l\/(Gv gw gh ⟨k+1,x,y⟩ n'/\(n'.span gw gh).both r=true))/\(∀n'∈l,n'∈l')/\(∀j,m<=j->j<N->((Gu k x y v j).span gw gh).both r=true->Gu k x y v j∈l')/\rW l'<=rW l+(N-m)*5^k) N
  ⟨l,sl,fK _,⟨L,c,S⟩,λn' h=>.inl h,λn' h=>h,λj h1 h2=>by omega,by rw[j8,iD];exact fK _⟩ ?_
 clear S;rintro m e w ⟨l',al,hm,⟨L,c,S⟩,h1,h2,h3,h4⟩;rw[al.fold];rcases iZ m with rfl|ap
 ·skip;refine zg ?_;refine na ⟨rfl,l',⟨L,c,S.sub (.cons_cons _ (.cons_cons _ (.cons _ (.cons _ (cQ _)))))⟩,h1,h2,λn' z I=>?_,?_⟩
  ·obtain⟨j,hj,rfl⟩:=ab n' z;exact h3 j om hj I
  ·have:=cI (5^k) hb;show _<_+5^(k+1);rw[Nat.sub_zero]at h4;omega
 ·obtain⟨j,rfl⟩:∃j,m=j+1:=⟨m-1,om⟩;have e1:((k+1:Nat):Int)-1=k:=om;have ej:(((j+1:Nat):Int)-1).toNat=j:=om;have aj:((eT (xA (dG gw k) (dG gh k) x y)).drop ((((j+1:Nat):Int)-1).toNat * 2)).take 2=[ii (2*x+j%v:Nat),ii (2*y+j/v:Nat)]:=by rw[ej];exact mS (ai j om)
  have aB:(N-(j+1))*5^k<=4*5^k:=cI _ om;have an:=wC l';refine zD [0,1,2,3,4,5,6,7] [8] ?_;rw[e1];refine zQ ?_;refine fo (λwq hq=>fb xa rfl (jy _) rfl ((S.gr hq).rd (i:=2) rfl) aj rfl rfl) ?_;refine zE ?_;intro aL av S;refine zK (ak l' _ j om om ⟨L,c,S⟩) ?_;rintro _ aM ⟨rfl,hH⟩;refine zg ?_;refine⟨j,om,_,sl,om,hH,λn' z=>?_,λn' z=>?_,λi aw ag I=>?_,?_⟩
  ·split at z
   ·rename_i I;rcases ez.1 z with h|h
    ·exact h1 n' h
    ·obtain rfl:=dM.1 h;exact .inr ⟨O j om,I⟩
   ·exact h1 n' z
  ·split
   ·exact f6 _ (h2 n' z)
   ·exact h2 n' z
  ·rcases eV j i with h|h
   ·have:=h3 i h ag I;split
    ·exact f6 _ this
    ·exact this
   ·obtain rfl:i=j:=om;rw[a7 I];exact lW _ (dM.2 rfl)
  ·have e3:(N-j)*5^k=(N-(j+1))*5^k+5^k:=by rw[<-cX];congr 1;omega
   split
   ·rw[DL,xR,e3];show _+5^k<=_;omega
   ·rw[e3];omega
end
theorem PO{a a' u:Tmp}{tb tb':TypeId}{o o':Nat}{dd':TypeDesc}{cs cs':List Value}(hu:P.underlying t=some dd)(hd:sM dd=true)(hz:(sizeOf t).run P w=.ok n w)(hx:e a=.pointer (some ⟨b,o,none⟩))(hB:eL w b tb l)(hl:lj ((l.drop o).take n)=some cs)(hn:cs.length=n)(hu':P.underlying t'=some dd')(hd':sM dd'=true)(hz':(sizeOf t').run P w=.ok n' w)(hx':e a'=.pointer (some ⟨b',o',none⟩))(hB':eL w b' tb' l')(hl':lj ((l'.drop o').take n')=some cs')(hn':cs'.length=n')(h2:fz (e u)=some v2)(hR:R (.tuple #[.agg cs.toArray,.agg cs'.toArray,v2]) w):QF P #[.cell a t,.cell a' t',.tmp u] R .ret e w :=
 ⟨_,λfn tmps hr hg=>by
  have h1:=ly (o:=default) (fx (P:=P) (d:=none) (ty:=0) (ps := "") (af:=#[]) (e:=λ_=>.pointer (some ⟨b,o,none⟩)) (x:=.tmp 0) hu hd hz rfl hB hl hn);have h3:=ly (o:=default) (fx (P:=P) (d:=none) (ty:=0) (ps := "") (af:=#[]) (e:=λ_=>.pointer (some ⟨b',o',none⟩)) (x:=.tmp 0) hu' hd' hz' rfl hB' hl' hn');have g1:=hg a;have g2:=hg u;have g3:=hg a';rw[hx,dN]at g1;rw[m9 h2,dN]at g2;rw[hx',dN]at g3;simp[results,hr,g1,g2,g3,asAddr,h1,h3],hR⟩
theorem tm{a s u:Tmp}{tb:TypeId}{o:Nat}{cs:List Value}(hu:P.underlying t=some dd)(hd:sM dd=true)(hz:(sizeOf t).run P w=.ok n w)(hx:e a=.pointer (some ⟨b,o,none⟩))(hB:eL w b tb l)(hl:lj ((l.drop o).take n)=some cs)(hn:cs.length=n)(h1:fz (e s)=some v1)(h2:fz (e u)=some v2)(hR:R (.tuple #[v1,.agg cs.toArray,v2]) w):QF P #[.tmp s,.cell a t,.tmp u] R .ret e w :=
 ⟨_,λfn tmps hr hg=>by
  have h3:=ly (o:=default) (fx (P:=P) (d:=none) (ty:=0) (ps := "") (af:=#[]) (e:=λ_=>.pointer (some ⟨b,o,none⟩)) (x:=.tmp 0) hu hd hz rfl hB hl hn);have g1:=hg a;have g2:=hg u;have g3:=hg s;rw[hx,dN]at g1;rw[m9 h2,dN]at g2;rw[m9 h1,dN]at g3;simp[results,hr,g1,g2,g3,asAddr,h3],hR⟩
section
variable{yb:Nat}{V:List Int}{l:List Nd}{x y:Value}
def Nd.rg(gw gh:Nat)(V:List Int)(n:Nd):RG:=pm gw gh V n.k n.x n.y
theorem NX(L:SH W gw gh sb yb r T [] w):Fn prog 174 [pt sb] w
  (λv w'=>v=.tuple #[.agg #[ii 0,ii 0,ii 0,ii 0,ii 0,ii 0,ii 0],.agg #[ii 0,ii 0],.bool false]/\SH W gw gh sb yb r T [] w'):=by
 obtain⟨y,c,S⟩:=L;replace S:St No W w (.blk sb 303 [pt yb,ii r.x0,ii r.y0,ii r.x1,ii r.y1,.slice y 0 c]::.row 296 7 y 0 c []::T):=S;refine zI func174 ?_;refine zN ?_;intro z O I S;refine zN ?_;intro D U J S;refine zS ?_;intro V S;exact PO kj rfl (lN _) rfl (S.blk (i:=1) rfl) rfl rfl gU rfl (iH _) rfl (S.blk (i:=0) rfl) rfl rfl rfl ⟨rfl,y,c,S.drop 2⟩
theorem Uh(n:Nd)(hw:1<=gw/\gw<=1024)(hh:1<=gh/\gh<=1024)(O:n.ok gw gh)(hl:l.length<=1000000000)(hP:iM W yb gw gh V)(hH:SH W gw gh sb yb r T (l++[n]) w):Fn prog 174 [pt sb] w
  (λv w'=>v=.tuple #[.agg (n.cells gw gh).toArray,.agg (n.rg gw gh V).cells.toArray,.bool true]/\SH W gw gh sb yb r T l w'):=by
 obtain⟨D,c,S⟩:=hH;have ac:=λw=>Cr (W:=w) (V:=V) (pb:=yb) n.k n.x n.y hw hh O.1 O.2.1 O.2.2;have L:=NU (gw:=gw) (gh:=gh) l n;have ag:=NV (gw:=gw) (gh:=gh) l n;have ae:n.cells gw gh=[ii n.k,ii n.x,ii n.y,ii (n.span gw gh).x0,ii (n.span gw gh).y0,ii (n.span gw gh).x1,ii (n.span gw gh).y1]:=rfl;have ai:(pm gw gh V n.k n.x n.y).cells=[ii (n.rg gw gh V).lo,ii (n.rg gw gh V).hi]:=rfl;have ah:(n.rg gw gh V).cells=[ii (n.rg gw gh V).lo,ii (n.rg gw gh V).hi]:=rfl;rw[ai]at ac;rw[ah];rw[ae]at L ⊢;generalize n.span gw gh=sp at *;generalize n.rg gw gh V=v at *;have ad:(l++[n]).length=l.length+1:=by rw[cP,iV]
 rw[ad]at S;have ap:dO D:=(S.row (i:=1) rfl).someA om;have e1:((l.length+1:Nat):Int)-1=l.length:=om;have ao:=(S.row (i:=1) rfl).cap;rw[show l.length*7=(l.length:Int).toNat * 7 by rw[b7]]at L;refine zI func174 ?_;refine zN ?_;intro U aD av S;refine zN ?_;intro Z aE aw S;refine zH (C:=(CA _ _ _ 296 [ii 0,ii 0,ii 0,ii 0,ii 0,ii 0,ii 0] [ii n.k,ii n.x,ii n.y,ii sp.x0,ii sp.y0,ii sp.x1,ii sp.y1])) [12,13] [0,1,2,3,4,5,6,7,8,9,10,11,12,13] [] (CA.start (S.gr (Gr.drew _))) ?_;refine zV (λτ wq y=>(y.st.blk (i:=2) rfl)) ?_;refine zV (λτ wq y=>(y.st.blk (i:=2) rfl)) ?_;refine zR ?_;rw[e1];refine zR ?_;refine qo rfl (λτ wq y=>fb kj rfl (lN _) rfl (y.st.rd (i:=3) rfl) L rfl rfl) ?_;refine de rfl rfl (λwq y=>kG y sk rfl) ?_;rintro az aG ⟨ar,rfl,_⟩;refine de rfl rfl (λwq y=>kH y (lN _) rfl rfl rfl rfl rfl) ?_;rintro aB aI _;refine zY ?_;rintro aK aj;obtain⟨am,aa,S⟩:=aj.fin;cases aa
 refine zD [0,1,2,3,4,5,6,7,8,9,10,11] [12,13,14] ?_;rw[e1];refine eO (jb qT lN rfl rfl om om) ?_;refine zE ?_;refine zS ?_;intro aF S;refine zH (C:=(CA _ _ _ 158 [ii 0,ii 0] [ii v.lo,ii v.hi])) [12,13] [0,1,2,3,4,5,6,7,8,9,10,11,12,13] [14] (CA.start (S.gr (Gr.drew _))) ?_;refine zV (λτ wq y=>(y.st.blk (i:=3) rfl)) ?_;refine zV (λτ wq y=>(y.st.blk (i:=0) rfl)) ?_;refine zV (λτ wq y=>(y.st.blk (i:=0) rfl)) ?_;refine jH rfl rfl (λτ wq y=>(ac wq (hP.gr y.st.out)).mono (λ_ _⟨hv,hg⟩=>⟨hv,y.gr hg⟩)) ?_;refine zR ?_;refine de rfl rfl (λwq y=>kG y ne rfl) ?_;rintro aA aH ⟨au,rfl,_⟩;refine de rfl rfl (λwq y=>kH y (iH _) rfl rfl rfl rfl rfl) ?_;rintro aC aJ _;refine zY ?_;rintro aL ak;obtain⟨an,ab,S⟩:=ak.fin;cases ab
 refine zg ?_;refine TI.YA (C:=(BN _ _ _ 2 3 (.blk U 296 [ii n.k,ii n.x,ii n.y,ii sp.x0,ii sp.y0,ii sp.x1,ii sp.y1]) 3 2 (.blk Z 158 [ii v.lo,ii v.hi]))) [2,3] [0,1] [4] (λ_=>[]) (by kernel_rfl) (by kernel_rfl) (BN.start (S.gr (Gr.drew _))) ?_;simp only[kz,iS,dK,dR];refine zU (λτ wq y=>(y.blk (k:=1) (by decide) rfl)) ?_;refine zU (λτ wq y=>(y.blk (k:=0) (by decide) rfl)) ?_;refine zW ?_;refine⟨⟨⟨rfl,?_⟩,⟨rfl,?_⟩,trivial⟩,?_⟩
 ·intro σ w hC O hp;refine JE hC O (by intro b;cases b<;>exact⟨_,_,rfl,rfl,rfl,rfl⟩) (lN _) rfl rfl rfl rfl rfl
 ·intro σ w hC O hp;refine JF hC O (by intro b;cases b<;>exact⟨_,_,rfl,rfl,rfl,rfl⟩) (iH _) rfl rfl rfl rfl rfl
 rintro σ V hV aq hz;dsimp only[TI.Eb];have I:σ.lookup 2=_:=hV _ (.head _);have J:σ.lookup 3=_:=hV _ (.tail _ (.head _));obtain⟨al,z,S⟩:=hz;rw[I,J]at z;obtain rfl:=Option.some.inj z;refine zg ?_;refine PO kj rfl (lN _) rfl (S.blk (i:=3) rfl) rfl rfl gU rfl (iH _) rfl (S.blk (i:=2) rfl) rfl rfl rfl ⟨rfl,D,c,?_⟩;have S:=S.drop 4;exact S.as_ (i:=1) (h':=.row 296 7 D l.length c (Al gw gh l)) rfl rfl (λh=>(gH.take h (lM _)).congr ag) (λg h=>h)
def Wn(a:Nat->Int):List Value:=[ii (a 0),ii (a 1),ii (a 2),ii (a 3),ii (a 4),ii (a 5),ii (a 6)]
def Xo(gw gh:Nat)(V:List Int)(l:List Nd)(a:Nat->Int)(v:RG)(B:Bool)(l':List Nd):Prop:=(B=false/\l=[]/\l'=[])\/(B=true/\∃n,l=l'++[n]/\Wn a=n.cells gw gh/\v=n.rg gw gh V)
theorem AJ(S:1<=gw/\gw<=1024)(J:1<=gh/\gh<=1024)(O:∀n∈l,n.ok gw gh)(L:l.length<=1000000000)(I:iM W yb gw gh V)(D:SH W gw gh sb yb r T l w):Fn prog 174 [pt sb] w
  (λu w'=>∃a v B l',u=.tuple #[.agg (Wn a).toArray,.agg #[ii v.lo,ii v.hi],.bool B]/\Xo gw gh V l a v B l'/\SH W gw gh sb yb r T l' w'):=by
 rcases List.eq_nil_or_concat l with rfl|⟨l',n,rfl⟩
 ·exact(NX D).mono λu w'⟨z,h⟩=>⟨λ_=>0,⟨0,0⟩,false,[],z,.inl ⟨rfl,rfl,rfl⟩,h⟩
 ·have y:=O n (by simp);exact(Uh n S J y (by simp at L;omega) I (sI▸D)).mono λu w'⟨z,h⟩=>⟨λi=>match i with|0=>n.k|1=>n.x|2=>n.y|3=>(n.span gw gh).x0|4=>(n.span gw gh).y0|5=>(n.span gw gh).x1|_=>(n.span gw gh).y1,n.rg gw gh V,true,l',z,.inr ⟨rfl,n,sI,rfl,rfl⟩,h⟩
def Rc.eqB(a b:Rc):Bool:=decide (a.x0=b.x0/\a.y0=b.y0/\a.x1=b.x1/\a.y1=b.y1)
theorem Rt(n:Nd)(U:1<=gw/\gw<=1024)(L:1<=gh/\gh<=1024)(hn:n.ok gw gh)(hr:r.ok gw gh)(hb:(n.span gw gh).both r=true)(hS:eL W sb 303 [x,ii r.x0,ii r.y0,ii r.x1,ii r.y1,y]) :
  Fn prog 175 [pt sb,.agg (n.cells gw gh).toArray] W (dp (.bool (((n.span gw gh).meet r).eqB (n.span gw gh))) W):=by
 have hs:=Nd.span_ok U.1 L.1 hn;have I:=λw=>E6 (W:=w) (n.span gw gh) r (hs.far U.2 L.2) (hr.far U.2 L.2);have J:n.cells gw gh=[ii n.k,ii n.x,ii n.y,ii (n.span gw gh).x0,ii (n.span gw gh).y0,ii (n.span gw gh).x1,ii (n.span gw gh).y1]:=rfl;have O:(n.span gw gh).mt r=[ii ((n.span gw gh).meet r).x0,ii ((n.span gw gh).meet r).y0,ii ((n.span gw gh).meet r).x1,ii ((n.span gw gh).meet r).y1]:=by unfold Rc.mt;rw[a7 hb];rfl
 rw[O]at I;rw[J];generalize (n.span gw gh).meet r=mm at *;generalize n.span gw gh=sp at *;have he:decide ((mm.x0:Int)=sp.x0/\(mm.y0:Int)=sp.y0/\(mm.x1:Int)=sp.x1/\(mm.y1:Int)=sp.y1)=mm.eqB sp:=by unfold Rc.eqB;simp only[kw]
 have S:=St.start W;refine zI func175 ?_;refine zN ?_;intro ab ag ac S;refine zH (C:=(CA _ _ _ 43 [ii 0,ii 0,ii 0,ii 0] [ii mm.x0,ii mm.y0,ii mm.x1,ii mm.y1])) [10,11] [0,1,2,3,4,5,6,7,8,9,10,11] [12] (CA.start (S.gr (Gr.drew _))) ?_;refine zV (λτ wq v=>(v.st.blk (i:=0) rfl)) ?_;refine zV (λτ wq v=>(hS.gr v.st.out)) ?_;refine jH rfl rfl (λτ wq v=>(I wq).mono (λ_ _⟨hv,hg⟩=>⟨hv,v.gr hg⟩)) ?_;refine zR ?_;refine de rfl rfl (λwq v=>kG v gE rfl) ?_;rintro ad ah ⟨aa,rfl,_⟩;refine de rfl rfl (λwq v=>kH v (fS _) rfl rfl rfl rfl rfl) ?_;rintro ae ai _;refine zY ?_;rintro aj V;obtain⟨Z,D,S⟩:=V.fin;cases D
 iterate 4 refine z ?_
 refine dU (yq rfl rfl he) ?_;exact zZ
def Bg(gw gh:Nat):Nd:=⟨fW gw gh-1,0,0⟩
theorem Am(y:1<=gw/\gw<=1024)(v:1<=gh/\gh<=1024):(Bg gw gh).ok gw gh:=by
 have:=lI y.2 v.2;exact⟨by show fW gw gh-1<_;omega,tg _ _,tg _ _⟩
theorem AK(I:1<=gw/\gw<=1024)(D:1<=gh/\gh<=1024){x y:Nat}(v:x<gw)(z:y<gh):((Bg gw gh).span gw gh).has x y:=by
 have h1:=sy (fW gw gh-1) v;have h2:=sy (fW gw gh-1) z;unfold fW at h1 h2;rw[eA,KA om om I.1]at h1;rw[eA,KA om om D.1]at h2;refine(Nd.has v z).2 ?_;show x/2^(fW gw gh-1)=0/\y/2^(fW gw gh-1)=0;unfold fW;rw[eA];exact⟨Nat.lt_one_iff.1 h1,Nat.lt_one_iff.1 h2⟩
theorem DM(D:1<=gw/\gw<=1024)(y:1<=gh/\gh<=1024)(I:r.ok gw gh)(hP:iM W yb gw gh V) :
  Fn prog 102 [pt yb,.agg r.cells.toArray] W (λv w'=>∃sb,v=.tuple #[pt sb,ii 0]/\SH W gw gh sb yb r [] [Bg gw gh] w'):=by
 have aa:dF r.x0 r.y0 r.x1 r.y1 gw gh=0:=gW om om (by have:=I.1;omega) (by have:=I.2;omega)
 have hb:((Bg gw gh).span gw gh).both r=true:=by
  have h1:=I.1;have h2:=I.2;exact(Rc.both_iff (Nd.span_ok D.1 y.1 (Am D y)) I).2 ⟨r.x0,r.y0,AK D y om om,⟨fK _,h1.1⟩,fK _,h2.1⟩
 have hl:=lI D.2 y.2;have e1:(fW gw gh:Int)-1=((fW gw gh-1:Nat):Int):=om;have L:=λw sb T(h:SH W gw gh sb yb r T [] w)=>Lk (Bg gw gh) D y (Am D y) I (by decide) hP h;rw[hb]at L;unfold Rc.cells;have S:=St.start W;refine zI func102 ?_;refine zN ?_;intro ac ai ad S;refine zC (tJ D y (hP.gr S.out)) ?_;intro ab ae S;iterate 8 refine z ?_
 refine eY rfl (jW _ _ _ _ _ _ om om ab) ?_;rintro _ aj ⟨rfl,Z⟩;have S:=S.gr Z;rw[aa];refine zN ?_;intro J ak ag S;refine zC (zA (hP.gr S.out)) ?_;intro al ah S;refine zg ?_;rw[e1];refine zK (L _ J _ ⟨none,0,(S.pushNil 296 7).swap⟩) ?_;rintro _ am ⟨rfl,O,U,S⟩;refine zX ?_;exact⟨J,rfl,O,U,S.sub (.cons_cons _ (.cons_cons _ (.cons _ .slnil)))⟩
theorem Ln(x0 y0 x1 y1:Int)(Z:1<=gw/\gw<=1024)(U:1<=gh/\gh<=1024)(aa:dF x0 y0 x1 y1 gw gh≠0)(O:iM W yb gw gh V) :
  Fn prog 102 [pt yb,.agg #[ii x0,ii y0,ii x1,ii y1]] W (dp (.tuple #[.pointer none,ii (dF x0 y0 x1 y1 gw gh)]) W):=by
 generalize y:dF x0 y0 x1 y1 gw gh=e at *;have S:=St.start W;refine zI func102 ?_;refine zN ?_;intro I ab J S;refine zC (tJ Z U (O.gr S.out)) ?_;intro D L S;iterate 8 refine z ?_
 refine eY rfl (jW _ _ _ _ _ _ om om D) ?_;rintro _ ac ⟨rfl,v⟩;have S:=S.gr v;rw[y];exact zZ
end
def PP(gw:Nat)(V:List Int)(r:Rc)(v:RG):Prop:=(∀x y,r.has x y->v.lo<=V.getD (y*gw+x) 0/\V.getD (y*gw+x) 0<=v.hi)/\(∃x y,r.has x y/\V.getD (y*gw+x) 0=v.lo)/\∃x y,r.has x y/\V.getD (y*gw+x) 0=v.hi
structure RI(gw gh:Nat)(V:List Int)(r:Rc)(l:List Nd)(out:RG):Prop where
 st:∀n∈l,n.ok gw gh/\(n.span gw gh).both r=true
 cov:∀x y,r.has x y->(out.lo<=V.getD (y*gw+x) 0/\V.getD (y*gw+x) 0<=out.hi)\/∃n∈l,(n.span gw gh).has x y
 lo:out.lo=2147483647\/∃x y,r.has x y/\V.getD (y*gw+x) 0=out.lo
 hi:out.hi=-2147483648\/∃x y,r.has x y/\V.getD (y*gw+x) 0=out.hi
section
variable{V:List Int}{l l':List Nd}{out:RG}{n:Nd}
theorem Rc.ok.cell{x y:Nat}(h:r.ok gw gh)(v:r.has x y):x<gw/\y<gh:=by
 obtain⟨⟨h1,h2⟩,z,D⟩:=h;obtain⟨⟨a,b⟩,c,d⟩:=v;omega
theorem Nd.rg_all{x y:Nat}(v:x<gw)(z:y<gh)(h:(n.span gw gh).has x y):(n.rg gw gh V).lo<=V.getD (y*gw+x) 0/\V.getD (y*gw+x) 0<=(n.rg gw gh V).hi:=by
 have h1:=(Nd.has v z).1 h;have:=I5 (V:=V) v z n.k;rw[h1.1,h1.2]at this;exact this
theorem RI.start(z:1<=gw/\gw<=1024)(v:1<=gh/\gh<=1024)(D:r.ok gw gh):RI gw gh V r [Bg gw gh] ⟨2147483647,-2147483648⟩:=by
 refine⟨λn I=>?_,λx y h=>.inr ⟨_,dM.2 rfl,?_⟩,.inl rfl,.inl rfl⟩
 ·obtain rfl:=dM.1 I;have h1:=D.1;have h2:=D.2;exact⟨Am z v,(Rc.both_iff (Nd.span_ok z.1 v.1 (Am z v)) D).2 ⟨r.x0,r.y0,AK z v om om,⟨fK _,h1.1⟩,fK _,h2.1⟩⟩
 ·have:=D.cell h;exact AK z v this.1 this.2
theorem RI.skip(h:RI gw gh V r (l++[n]) out)(L:r.ok gw gh)(h1:out.lo<=(n.rg gw gh V).lo)(h2:(n.rg gw gh V).hi<=out.hi):RI gw gh V r l out:=by
 refine⟨λm z=>h.st m (f6 _ z),λx y I=>?_,h.lo,h.hi⟩;rcases h.cov x y I with J|⟨m,z,D⟩
 ·exact .inl J
 ·rcases ez.1 z with v|v
  ·exact .inr ⟨m,v,D⟩
  ·obtain rfl:=dM.1 v;have:=L.cell I;have:=Nd.rg_all (V:=V) this.1 this.2 D;exact .inl om
theorem Rc.eqB_sub{a b:Rc}(h:(a.meet b).eqB a=true){x y:Nat}(v:a.has x y):b.has x y:=by
 unfold Rc.eqB Rc.meet at h;unfold Rc.has at *;rw[cT]at h;dsimp only at h;omega
theorem RI.whole(hw:1<=gw)(hh:1<=gh)(h:RI gw gh V r (l++[n]) out)(hr:r.ok gw gh)(h1:((n.span gw gh).meet r).eqB (n.span gw gh)=true):RI gw gh V r l ⟨min out.lo (n.rg gw gh V).lo,max out.hi (n.rg gw gh V).hi⟩:=by
 have L:=(h.st n (by simp)).1;obtain⟨⟨cx,cy,O,a2,S,U,Z⟩,⟨dx,dy,b1,b2,b3,b4,b5⟩⟩:=Ci (V:=V) hw hh n.k n.x n.y L.2.1 L.2.2;have ha:=Rc.eqB_sub h1 ((Nd.has (n:=n) O a2).2 ⟨S,U⟩);have hb:=Rc.eqB_sub h1 ((Nd.has (n:=n) b1 b2).2 ⟨b3,b4⟩);have e1:(n.rg gw gh V).lo=(pm gw gh V n.k n.x n.y).lo:=rfl;have e2:(n.rg gw gh V).hi=(pm gw gh V n.k n.x n.y).hi:=rfl;refine⟨λm D=>h.st m (f6 _ D),λx y J=>?_,?_,?_⟩
 ·dsimp only;rcases h.cov x y J with v|⟨m,D,I⟩
  ·exact .inl om
  ·rcases ez.1 D with z|z
   ·exact .inr ⟨m,z,I⟩
   ·obtain rfl:=dM.1 z;have:=hr.cell J;have:=Nd.rg_all (V:=V) this.1 this.2 I;exact .inl om
 ·dsimp only;rcases me out.lo (n.rg gw gh V).lo with v|v
  ·rw[Int.min_eq_left v];exact h.lo
  ·rw[Int.min_eq_right v];exact .inr ⟨cx,cy,ha,by rw[e1,Z]⟩
 ·dsimp only;rcases me out.hi (n.rg gw gh V).hi with v|v
  ·rw[Int.max_eq_right v];exact .inr ⟨dx,dy,hb,by rw[e2,b5]⟩
  ·rw[Int.max_eq_left v];exact h.hi
theorem Nd.one(I:r.ok gw gh)(D:n.ok gw gh)(v:(n.span gw gh).both r=true)(z:n.k=0):((n.span gw gh).meet r).eqB (n.span gw gh)=true:=by
 obtain⟨k,x,y⟩:=n;obtain⟨h1,h2,J⟩:=D;dsimp only at *;subst z;unfold Rc.both at v;unfold Rc.eqB;rw[cT]at *;unfold Rc.meet;unfold Nd.span at *;dsimp only at *;simp only[kX,cG]at *;obtain⟨⟨L,O⟩,S,U⟩:=I;omega
theorem PQ{x y:Nat}(I:Nd.ok ⟨k+1,x,y⟩ gw gh)(v:cx<gw)(z:cy<gh)(h:(Nd.span gw gh ⟨k+1,x,y⟩).has cx cy):Gv gw gh ⟨k+1,x,y⟩ ⟨k,cx/2^k,cy/2^k⟩/\(Nd.span gw gh ⟨k,cx/2^k,cy/2^k⟩).has cx cy:=by
 have h1:=(Nd.has v z).1 h;dsimp only at h1;rw[gb,<-gv,<-gv]at h1;have D:=I.1;dsimp only at D;exact⟨⟨rfl,h1.1,h1.2,by show k<_;omega,sy k v,sy k z⟩,(Nd.has v z).2 ⟨rfl,rfl⟩⟩
theorem RI.kids{x y:Nat}(h:RI gw gh V r (l++[⟨k+1,x,y⟩]) out)(O:r.ok gw gh)(Z:1<=gw)(U:1<=gh)(h1:∀n'∈l',n'∈l\/(Gv gw gh ⟨k+1,x,y⟩ n'/\(n'.span gw gh).both r=true))(h2:∀n'∈l,n'∈l')(S:∀n',Gv gw gh ⟨k+1,x,y⟩ n'->(n'.span gw gh).both r=true->n'∈l'):RI gw gh V r l' out:=by
 refine⟨λm L=>?_,λcx cy J=>?_,h.lo,h.hi⟩
 ·rcases h1 m L with v|⟨v,z⟩
  ·exact h.st m (f6 _ v)
  ·exact⟨v.2.2.2,z⟩
 ·rcases h.cov cx cy J with v|⟨m,L,v⟩
  ·exact .inl v
  ·rcases ez.1 L with z|z
   ·exact .inr ⟨m,h2 m z,v⟩
   ·obtain rfl:=dM.1 z;have D:=O.cell J;have I:=PQ (h.st _ (by simp)).1 D.1 D.2 v;exact .inr ⟨_,S _ I.1 ((Rc.both_iff (Nd.span_ok Z U I.1.2.2.2) O).2 ⟨cx,cy,I.2,J⟩),I.2⟩
theorem RI.done(h:RI gw gh V r [] out)(I:vB V)(D:r.ok gw gh):PP gw V r out:=by
 have h1:=D.1;have h2:=D.2;have z:r.has r.x0 r.y0:=⟨⟨fK _,h1.1⟩,fK _,h2.1⟩;have v:∀x y,r.has x y->out.lo<=V.getD (y*gw+x) 0/\V.getD (y*gw+x) 0<=out.hi:=λx y v=>(h.cov x y v).elim id λ⟨_,J,_⟩=>by cases J
 have b:=I (r.y0*gw+r.x0);have c:=v _ _ z;refine⟨v,h.lo.elim (λe=>⟨_,_,z,om⟩) id,h.hi.elim (λe=>⟨_,_,z,om⟩) id⟩
end
section
variable{yb:Nat}{V:List Int}
theorem Ru{l:List Nd}(n:Nd)(I:n.k≠0)(S:1<=gw/\gw<=1024)(D:1<=gh/\gh<=1024)(L:n.ok gw gh)(O:r.ok gw gh)(J:rW l<=100000000)(z:iM W yb gw gh V)(v:SH W gw gh sb yb r T l w) :
  Fn prog 176 [pt sb,.agg (n.cells gw gh).toArray] w (Ll gw gh sb yb r T l n W):=by
 obtain⟨k,x,y⟩:=n;obtain⟨k,rfl⟩:∃j,k=j+1:=⟨k-1,by dsimp only at I;omega⟩;exact Lm k x y S D L O J z v
theorem An(x0 y0 x1 y1:Int)(U:1<=gw/\gw<=1024)(O:1<=gh/\gh<=1024)(z:dF x0 y0 x1 y1 gw gh≠0)(L:iM W yb gw gh V) :
  Fn prog 101 [pt yb,.agg #[ii x0,ii y0,ii x1,ii y1]] W (dp (.tuple #[.agg #[ii 0,ii 0],ii (dF x0 y0 x1 y1 gw gh)]) W):=by
 have y:=λw=>Ln (W:=w) (V:=V) (yb:=yb) x0 y0 x1 y1 U O z;generalize dF x0 y0 x1 y1 gw gh=e at *;have S:=St.start W;refine zI func101 ?_;refine zN ?_;intro D Z I S;refine zN ?_;intro v aa J S;refine zC (y _ (L.gr S.out)) ?_;refine zS ?_;intro ab S;exact pG S ⟨rfl,S.out⟩
theorem DN(hB:vB V)(hw:1<=gw/\gw<=1024)(hh:1<=gh/\gh<=1024)(hr:r.ok gw gh)(hP:iM W yb gw gh V) :
  Fn prog 101 [pt yb,.agg r.cells.toArray] W (λv w'=>∃D:RG,v=.tuple #[.agg #[ii D.lo,ii D.hi],ii 0]/\PP gw V r D/\Gr W w'):=by
 have ao:=λw(g:Gr W w)=>DM hw hh hr (hP.gr g);have aL:=lI hw.2 hh.2;have an:=fP (n:=5) om (show fW gw gh-1<=10 by omega);have ai:=RI.start (V:=V) hw hh hr;unfold Rc.cells at *;refine yI func101 ?_;refine yA ?_;intro al O _ S;refine zK (ao _ S.out) ?_;rintro _ aN ⟨sb,rfl,I,J,S2⟩;have S:=S.app S2;refine zN ?_;intro L aO aK S;refine zS ?_;intro aP S;refine zK (AJ (l:=[Bg gw gh]) hw hh (λn hn=>(ai.st n hn).1) (by show 1<=1000000000;omega) hP ⟨I,J,S.pick 5 [1,2,0,3,4] rfl rfl rfl⟩) ?_;rintro _ aQ ⟨a,v,B,l',rfl,aa,I,J,S⟩;have S:=S.pick 5 [2,0,1,3,4] rfl rfl rfl;refine yA ?_;intro aj ag _ S;have S:=S.pick 7 [3,4,1,0,2,5,6] rfl rfl rfl
 refine dl (λm e w=>∃(l l':List Nd)(a:Nat->Int)(v D:RG)(B:Bool)(b9 ab:Nat),Xo gw gh V l a v B l'/\RI gw gh V r l D/\(rW l<=m/\m<=9765625) /\
  SL e [(4,pt O),(6,pt sb),(8,pt L),(9,pt b9),(10,pt ab),(11,.bool B)] /\
  SH W gw gh sb yb r [.blk b9 296 (Wn a),.blk ab 158 [ii v.lo,ii v.hi],.blk L 158 [ii D.lo,ii D.hi],.blk O 158 [ii 0,ii 0],.blk al 43 [ii r.x0,ii r.y0,ii r.x1,ii r.y1]] l' w) (5^(fW gw gh-1))
  ⟨_,l',a,v,⟨2147483647,-2147483648⟩,B,aj,ag,aa,ai,⟨by rw[xR];exact fK _,an⟩,sl,I,J,S⟩ ?_
 clear S aa ai;rintro m e w ⟨l,l',a,v,D,B,b9,ab,aa,hI,hm,ah,I,J,S⟩;rw[ah.fold];rcases aa with⟨rfl,rfl,rfl⟩|⟨rfl,n,rfl,ha,rfl⟩
 ·skip;refine zS ?_;intro aA S;exact pG S ⟨D,rfl,hI.done hB hr,S.out⟩
 ·have hn:=hI.st n (by simp);have ad:=λw x y h=>Rt (W:=w) (sb:=sb) (r:=r) (x:=x) (y:=y) n hw hh hn.1 hr hn.2 h;have ar:=DL l' [n];rw[xR]at ar;have az:=wC l';have aM:=ic (a:=5) (n:=n.k) om;rw[ha]at S;refine z ?_;refine zc ?_;refine jr rfl ?_;refine zc ?_;refine gO ?_;try show CW _ _ _ _ _ _
  refine zc ?_;refine gP (M:=λe w=>∃(l2:List Nd)(U:RG),RI gw gh V r l2 U/\rW l2<m/\SL e [(4,pt O),(6,pt sb),(8,pt L),(9,pt b9),(10,pt ab)]/\SH W gw gh sb yb r [.blk b9 296 (n.cells gw gh),.blk ab 158 [ii (n.rg gw gh V).lo,ii (n.rg gw gh V).hi],.blk L 158 [ii U.lo,ii U.hi],.blk O 158 [ii 0,ii 0],.blk al 43 [ii r.x0,ii r.y0,ii r.x1,ii r.y1]] l2 w) ?_ ?_
  ·by_cases hc:D.lo<=(n.rg gw gh V).lo/\(n.rg gw gh V).hi<=D.hi
   ·have h1:decide ((n.rg gw gh V).lo>=D.lo)=true:=fD hc.1;have h2:decide ((n.rg gw gh V).hi<=D.hi)=true:=fD hc.2;refine zg ?_;exact⟨l',D,hI.skip hr hc.1 hc.2,om,sl,I,J,S⟩
   ·have Z:(n.rg gw gh V).lo<D.lo\/(D.lo<=(n.rg gw gh V).lo/\D.hi<(n.rg gw gh V).hi):=om;by_cases ac:((n.span gw gh).meet r).eqB (n.span gw gh)=true
    ·rw[ac]at ad;rcases Z with Z|Z
     all_goals
      refine zC (ad w _ _ (S.blk (i:=0) rfl)) ?_;refine zS ?_;intro aB S;exact⟨l',_,hI.whole hw.1 hh.1 hr ac,om,sl,I,J,S⟩
    ·rw[Bool.eq_false_iff.2 ac]at ad;obtain⟨k,x,y⟩:=n
     obtain⟨k,rfl⟩:∃j,k=j+1:=⟨k-1,by
      have:k≠0:=λe=>ac (Nd.one hr hn.1 hn.2 e);omega⟩
     rcases Z with Z|Z
     all_goals
      refine zC (ad w _ _ (S.blk (i:=0) rfl)) ?_;intro aC au S;refine zK (Lm k x y hw hh hn.1 hr om hP ⟨I,J,S⟩) ?_;rintro _ aD ⟨rfl,l2,⟨I,J,S⟩,k1,k2,k3,k4⟩;refine zg ?_;exact⟨l2,D,hI.kids hr hw.1 hh.1 k1 k2 k3,by dsimp only at*;omega,sl,I,J,S⟩
  ·rintro e w ⟨l2,U,am,aq,ah,I,J,S⟩;rw[ah.fold];have ap:=wC l2;refine zN ?_;intro ak aE av S;refine zS ?_;intro aF S;refine zN ?_;intro ae aG aw S;refine zS ?_;intro aH S;refine zK (AJ (l:=l2) hw hh (λn hn=>(am.st n hn).1) om hP ⟨I,J,S.pick 9 [2,3,1,0,4,5,6,7,8] rfl rfl rfl⟩) ?_;rintro _ aI ⟨a,v,B,l3,rfl,aa,I,J,S⟩;have S:=S.pick 9 [3,2,0,1,4,5,6,7,8] rfl rfl rfl;refine zS ?_;intro aJ S;have S:=(S.pick 9 [4,5,2,3,1,0,6,7,8] rfl rfl rfl).drop 2;exact⟨rW l2,aq,l2,l3,a,v,U,B,ak,ae,aa,am,⟨fK _,om⟩,sl,I,J,S⟩
end
theorem Rc.area_le(h:r.ok gw gh)(D:gw<=1024)(z:gh<=1024):∃c:Nat,((r.x1:Int)-r.x0+1)*((r.y1:Int)-r.y0+1)=c/\1<=c/\c<=1048576:=by
 obtain⟨⟨h1,h2⟩,v,y⟩:=h;refine⟨(r.x1+1-r.x0)*(r.y1+1-r.y0),?_,j5 om om,show _<=1024*1024 from fy om om⟩;rw[(om:(r.x1:Int)-r.x0+1=((r.x1+1-r.x0:Nat):Int)),(om:(r.y1:Int)-r.y0+1=((r.y1+1-r.y0:Nat):Int))];push_cast;rfl
section
variable{yb:Nat}{V:List Int}{z:Int}
def W8(yb gw gh:Nat)(r:Rc)(z:Int):List Value:=[pt yb,ii gw,ii gh,ii r.x0,ii r.y0,ii r.x1,ii r.y1,ii z]
theorem Rv(Z:1<=gw/\gw<=1024)(O:1<=gh/\gh<=1024)(hr:r.ok gw gh):∀(k x y:Nat)(W:World),Nd.ok ⟨k,x,y⟩ gw gh->iM W yb gw gh V->eL W xb 307 (W8 yb gw gh r z) ->
  Fn prog 107 [pt xb,ii k,.agg #[ii x,ii y]] W (λv w'=>∃c:Nat,v=ii c/\c<=1048576*4^k/\Gr W w'):=by
 intro k;induction k using Nat.strongRecOn with
 |ind k ih =>
  intro x y W U hP J;have hs:=Nd.span_ok Z.1 O.1 U;have bt:=lI Z.2 O.2;have aO:∀w,Fn prog 132 [ii gw,ii gh,ii k,.agg #[ii x,ii y]] w (dp (.tuple #[.agg (Nd.span gw gh ⟨k,x,y⟩).cells.toArray,ii 0]) w):=λw=>Co (W:=w) k x y Z O U.1 U.2.1 U.2.2;have au:=λw=>E6 (W:=w) (Nd.span gw gh ⟨k,x,y⟩) r (hs.far Z.2 O.2) (hr.far Z.2 O.2);have ao:=λw=>Cr (W:=w) (V:=V) (pb:=yb) k x y Z O U.1 U.2.1 U.2.2
  have av:(Nd.span gw gh ⟨k,x,y⟩).both r=true->(Nd.span gw gh ⟨k,x,y⟩).mt r=((Nd.span gw gh ⟨k,x,y⟩).meet r).cells/\((Nd.span gw gh ⟨k,x,y⟩).meet r).ok gw gh:=λh=>by
   refine⟨by unfold Rc.mt;rw[a7 h],?_⟩;unfold Rc.both at h;rw[cT]at h;obtain⟨⟨a1,a2⟩,a3,a4⟩:=hs;unfold Rc.meet Rc.ok;dsimp only;omega
  have ad:∃a b c d:Int,(Nd.span gw gh ⟨k,x,y⟩).mt r=[ii a,ii b,ii c,ii d]:=by
   unfold Rc.mt;split
   ·exact⟨_,_,_,_,rfl⟩
   ·exact⟨_,_,_,_,rfl⟩
  obtain⟨m0,m1,m2,m3,ad⟩:=ad;have az:k=0->(pm gw gh V k x y).lo=(pm gw gh V k x y).hi:=λe=>by subst e;rfl
  rw[ad]at au av;generalize (Nd.span gw gh ⟨k,x,y⟩).meet r=mm at *;generalize Nd.span gw gh ⟨k,x,y⟩=sp at *;generalize pm gw gh V k x y=v at *;generalize sp.both r=B at *;unfold RG.cells at ao;unfold W8 at J ih;have aG:=J;refine yI func107 ?_;refine yA ?_;intro _ _ S;refine zH (C:=(CA _ _ _ 43 [ii 0,ii 0,ii 0,ii 0] [ii sp.x0,ii sp.y0,ii sp.x1,ii sp.y1])) [14,15] [0,1,2,3,4,5,6,7,8,9,10,11,12,13,14,15] [16] (CA.start (S.gr (Gr.drew _))) ?_;refine zV (λτ wq D=>(J.gr D.st.out)) ?_;refine zV (λτ wq D=>(J.gr D.st.out)) ?_;refine zV (λτ wq D=>(D.st.blk (i:=0) rfl)) ?_;refine jH rfl rfl (λτ wq D=>(aO wq).mono (λ_ _⟨hv,hg⟩=>⟨hv,D.gr hg⟩)) ?_;refine zR ?_;refine de rfl rfl (λwq D=>kG D gE rfl) ?_;rintro bv bE ⟨aV,rfl,_⟩;refine de rfl rfl (λwq D=>kH D (fS _) rfl rfl rfl rfl rfl) ?_;rintro bA bH _;refine zY ?_;rintro bK aP;obtain⟨aE,ab,S⟩:=aP.fin;cases ab
  refine zH (C:=(CA _ _ _ 43 [ii 0,ii 0,ii 0,ii 0] [ii m0,ii m1,ii m2,ii m3])) [9,10] [0,1,2,3,4,5,6,7,8,9,10] [11] (CA.start (S.gr (Gr.drew _))) ?_;refine zV (λτ wq D=>(D.st.blk (i:=0) rfl)) ?_;refine zV (λτ wq D=>(J.gr D.st.out)) ?_;refine jH rfl rfl (λτ wq D=>(au wq).mono (λ_ _⟨hv,hg⟩=>⟨hv,D.gr hg⟩)) ?_;refine zR ?_;refine de rfl rfl (λwq D=>kG D gE rfl) ?_;rintro bw bF ⟨bk,rfl,_⟩;refine de rfl rfl (λwq D=>kH D (fS _) rfl rfl rfl rfl rfl) ?_;rintro bB bI _;refine zY ?_;rintro bL aQ;obtain⟨aU,ah,S⟩:=aQ.fin;cases ah
  refine zH (C:=(CA _ _ _ 158 [ii 0,ii 0] [ii v.lo,ii v.hi])) [10,11] [0,1,2,3,4,5,6,7,8,9,10,11] [12] (CA.start (S.gr (Gr.drew _))) ?_;refine zV (λτ wq D=>(J.gr D.st.out)) ?_;refine zV (λτ wq D=>(D.st.blk (i:=2) rfl)) ?_;refine jH rfl rfl (λτ wq D=>(ao wq (hP.gr D.st.out)).mono (λ_ _⟨hv,hg⟩=>⟨hv,D.gr hg⟩)) ?_;refine zR ?_;refine de rfl rfl (λwq D=>kG D ne rfl) ?_;rintro bz bG ⟨bl,rfl,_⟩;refine de rfl rfl (λwq D=>kH D (iH _) rfl rfl rfl rfl rfl) ?_;rintro bC bJ _;refine zY ?_;rintro ae aR;obtain⟨aW,ai,S⟩:=aR.fin;cases ai
  refine dU (jx rfl) ?_;first|refine eF ?_|(refine di ?_;show CW _ _ _ _ _ _)|refine di ?_
  cases B
  ·skip;refine zF [0,1,2,3,4,5,6,7,8,9,10,11] [] ?_;intro bD bm S;exact ir rfl ⟨0,rfl,ib _,S.out⟩
  ·by_cases h1:v.hi<z
   ·skip;refine yA ?_;refine pF (C:=λwq=>Gr ae wq) [0,1,2,3,4,5,6,7,8,9,10,11] [] (by kernel_rfl) (by kernel_rfl) (Gr.drew _) ?_;simp only[iS,dK,dR];iterate 3 refine eO (jx rfl) ?_
    first|refine iN rfl ?_|(refine fO rfl ?_;refine eO (du gU rfl cR rfl rfl) ?_)
    first|refine iN rfl ?_|(refine fO rfl ?_;refine fo (λwq D=>cV iY rfl rfl ((S.gr D).blk (i:=0) rfl) rfl) ?_)
    first|refine iN rfl ?_|(refine fO rfl ?_;refine eO (jx rfl) ?_)
    first|refine iN rfl ?_|(refine fO rfl ?_;refine eO (jx rfl) ?_)
    first|refine iN rfl ?_|(refine fO rfl ?_;refine eO (du jP rfl cR rfl rfl) ?_)
    first|refine iN rfl ?_|(refine fO rfl ?_;refine fo (λwq D=>cV iY rfl rfl (J.gr (S.gr D).out) rfl) ?_)
    first|refine iN rfl ?_|(refine fO rfl ?_;(first|refine eO (ff (b:=true) rfl (fD om)) ?_|refine eO (ff (b:=false) rfl (iO om)) ?_|refine eO (jx rfl) ?_))
    iterate 2 refine eO (jx rfl) ?_
    refine vZ ?_;intro bc aj;have S:=S.gr aj;first|refine eF ?_|(refine di ?_;show CW _ _ _ _ _ _)|refine di ?_
    repeat refine dm ?_
    refine jr rfl ?_;repeat refine dm ?_
    refine dz ?_;refine dU (jx rfl) ?_;first|refine eF ?_|(refine di ?_;show CW _ _ _ _ _ _)|refine di ?_
    repeat refine dm ?_
    refine mJ ?_;repeat first|refine mL ?_|refine oq ?_
    exact ir rfl ⟨0,rfl,ib _,S.out⟩
   ·by_cases h2:v.lo>=z
    ·obtain⟨ac,aw⟩:=av rfl;obtain⟨cc,aI,bo,aJ⟩:=Rc.area_le aw Z.2 O.2;unfold Rc.cells at ac;simp only[List.cons.injEq,Value.int.injEq,true_and,and_true]at ac;obtain⟨rfl,rfl,rfl,rfl⟩:=ac;obtain⟨⟨a1,a2⟩,a3,a4⟩:=aw;refine yA ?_;refine pF (C:=λwq=>Gr ae wq) [0,1,2,3,4,5,6,7,8,9,10,11] [] (by kernel_rfl) (by kernel_rfl) (Gr.drew _) ?_;simp only[iS,dK,dR];iterate 3 refine eO (jx rfl) ?_
     first|refine iN rfl ?_|(refine fO rfl ?_;refine eO (du gU rfl cR rfl rfl) ?_)
     first|refine iN rfl ?_|(refine fO rfl ?_;refine fo (λwq D=>cV iY rfl rfl ((S.gr D).blk (i:=0) rfl) rfl) ?_)
     first|refine iN rfl ?_|(refine fO rfl ?_;refine eO (jx rfl) ?_)
     first|refine iN rfl ?_|(refine fO rfl ?_;refine eO (jx rfl) ?_)
     first|refine iN rfl ?_|(refine fO rfl ?_;refine eO (du jP rfl cR rfl rfl) ?_)
     first|refine iN rfl ?_|(refine fO rfl ?_;refine fo (λwq D=>cV iY rfl rfl (J.gr (S.gr D).out) rfl) ?_)
     first|refine iN rfl ?_|(refine fO rfl ?_;(first|refine eO (ff (b:=true) rfl (fD om)) ?_|refine eO (ff (b:=false) rfl (iO om)) ?_|refine eO (jx rfl) ?_))
     iterate 2 refine eO (jx rfl) ?_
     refine vZ ?_;intro aA ak;have S:=S.gr ak;first|refine eF ?_|(refine di ?_;show CW _ _ _ _ _ _)|refine di ?_
     repeat refine dm ?_
     refine eX rfl ?_;repeat refine dm ?_
     refine pF (C:=λwq=>Gr aA wq) [0,1,2,3,4,5,6,7] [] (by kernel_rfl) (by kernel_rfl) (Gr.drew _) ?_;simp only[iS,dK,dR];refine eO (du gU rfl cR rfl rfl) ?_;refine fo (λwq D=>cV iY rfl rfl ((S.gr D).blk (i:=0) rfl) rfl) ?_;iterate 2 refine eO (jx rfl) ?_
     refine eO (du jP rfl cR rfl rfl) ?_;refine fo (λwq D=>cV iY rfl rfl (J.gr (S.gr D).out) rfl) ?_;first|refine eO (ff (b:=true) rfl (fD om)) ?_|refine eO (ff (b:=false) rfl (iO om)) ?_|refine eO (jx rfl) ?_
     refine eO (jx rfl) ?_;refine vZ ?_;intro aB al;have S:=S.gr al;refine yA ?_;refine dH (fx dL rfl (fS _) rfl (S.blk (i:=1) rfl) rfl rfl) ?_;refine eY rfl (qc _ _ _ _ om aB) ?_;rintro _ be ⟨rfl,am⟩;have S:=S.gr am;refine zX ?_;exact⟨cc,ie aI,dE aJ (eS _ (ic om)),S.out⟩
    ·obtain⟨k,rfl⟩:∃j,k=j+1:=⟨k-1,by
      have:k≠0:=λe=>by have:=az e;omega
      omega⟩
     obtain⟨hk,hx,hy⟩:=U;dsimp only at hk hx hy;have bq:=qz hx;have br:=qz hy;have aK:=λw=>Lh (W:=w) k x y Z O hk hx hy;have nx:1<=kd (dG gw k) x/\kd (dG gw k) x<=2/\2*x+kd (dG gw k) x=min (2*x+2) (dG gw k):=by unfold kd;omega
     have ny:1<=kd (dG gh k) y/\kd (dG gh k) y<=2/\2*y+kd (dG gh k) y=min (2*y+2) (dG gh k):=by unfold kd;omega
     have aL:∀j,j<kd (dG gh k) y*kd (dG gw k) x->((eT (xA (dG gw k) (dG gh k) x y)).drop ((j:Int).toNat * 2)).take 2=[ii (2*x+j%kd (dG gw k) x:Nat),ii (2*y+j/kd (dG gw k) x:Nat)]:=λj hj=>by
      rw[b7];refine mS (c:=(((2*x+j%kd (dG gw k) x:Nat):Int),((2*y+j/kd (dG gw k) x:Nat):Int))) ?_;unfold xA;rw[da,eu hj];rfl
     generalize xA (dG gw k) (dG gh k) x y=KL at *;generalize kd (dG gw k) x=I at *;generalize kd (dG gh k) y=L at *;have hb:L*I<=4:=fy ny.2.1 nx.2.1
     have aq:∀j,j<L*I->Nd.ok ⟨k,2*x+j%I,2*y+j/I⟩ gw gh:=λj hj=>by
      have a1:=dt j (show 0<I by omega);have a2:j/I<L:=cS (by rw[cD];exact hj);unfold Nd.ok;dsimp only;generalize j%I=a at *;generalize j/I=b at *;omega
     have bu:=fP (n:=4) om (show k<=10 by omega);have hM:1048576*4^(k+1)=4*(1048576*4^k):=by rw[gb];omega
     have ap:=λx y W=>ih k om x y W;rw[hM];generalize bn:1048576*4^k=M at *;generalize L*I=N at *;have e1:((k+1:Nat):Int)-1=k:=om;repeat refine dm ?_
     refine k0 ?_;repeat refine dm ?_
     refine pF (C:=λwq=>Gr ae wq) [0,1,2,3,4,5,6,7,8,9,10,11] [] (by kernel_rfl) (by kernel_rfl) (Gr.drew _) ?_;simp only[iS,dK,dR];iterate 3 refine eO (jx rfl) ?_
     first|refine iN rfl ?_|(refine fO rfl ?_;refine eO (du gU rfl cR rfl rfl) ?_)
     first|refine iN rfl ?_|(refine fO rfl ?_;refine fo (λwq D=>cV iY rfl rfl ((S.gr D).blk (i:=0) rfl) rfl) ?_)
     first|refine iN rfl ?_|(refine fO rfl ?_;refine eO (jx rfl) ?_)
     first|refine iN rfl ?_|(refine fO rfl ?_;refine eO (jx rfl) ?_)
     first|refine iN rfl ?_|(refine fO rfl ?_;refine eO (du jP rfl cR rfl rfl) ?_)
     first|refine iN rfl ?_|(refine fO rfl ?_;refine fo (λwq D=>cV iY rfl rfl (J.gr (S.gr D).out) rfl) ?_)
     first|refine iN rfl ?_|(refine fO rfl ?_;(first|refine eO (ff (b:=true) rfl (fD om)) ?_|refine eO (ff (b:=false) rfl (iO om)) ?_|refine eO (jx rfl) ?_))
     iterate 2 refine eO (jx rfl) ?_
     refine vZ ?_;intro aC an;have S:=S.gr an;refine yA ?_;refine pF (C:=λwq=>Gr aC wq) [0,1,2,3,4,5,6,7] [] (by kernel_rfl) (by kernel_rfl) (Gr.drew _) ?_;simp only[iS,dK,dR];refine eO (du gU rfl cR rfl rfl) ?_;refine fo (λwq D=>cV iY rfl rfl ((S.gr D).blk (i:=0) rfl) rfl) ?_;iterate 2 refine eO (jx rfl) ?_
     refine eO (du jP rfl cR rfl rfl) ?_;refine fo (λwq D=>cV iY rfl rfl (J.gr (S.gr D).out) rfl) ?_;refine zE ?_;intro bf aY S;refine zH (C:=(λσ wq=>CN _ _ _ (λv h=>∃A c,v=.tuple #[.slice A N c,ii 0]/\h=.row 24 2 A N c (eT KL)) wq σ)) [10] [0,1,2,3,4,5,6,7,8,9,10,11,12,13,14,15] [] (S.gr (Gr.drew _)) ?_;refine zV (λτ wq D=>(J.gr (CN.st D).out)) ?_;refine zV (λτ wq D=>(J.gr (CN.st D).out)) ?_;refine zV (λτ wq D=>((CN.st D).blk (i:=3) rfl)) ?_;refine de rfl rfl (λwq D=>l4 rfl ((aK wq).mono (λv w2⟨A,c,hv,hR,hf,g⟩=>⟨_,⟨A,c,hv,rfl⟩,St.pushRow (CN.st D) hR hf g⟩))) ?_;rintro bb bi ⟨aH,⟨aa,ag,rfl,rfl⟩,_⟩;refine zY ?_;rintro bj ⟨aH,⟨aS,aX,aF,rfl⟩,S⟩;cases aF
     refine zg ?_;have S:=S.only (i:=0) rfl
     refine dl (λm e w=>∃i n:Nat,i+m=N/\n<=i*M/\SL e [(0,pt xb),(1,ii (k+1:Nat)),(13,ii n),(87,.slice aa N ag),(88,ii N),(89,ii i)]/\St No _ w [.row 24 2 aa N ag (eT KL)]) N
      ⟨0,0,om,ib _,sl,S⟩ ?_
     clear S;rintro m e w ⟨i,n,hi,aM,aN,S⟩;rw[aN.fold];by_cases ar:i<N
     ·have ba:dO aa:=(S.row (i:=0) rfl).someA om;have h4:=cI M (show i<=4 by omega);have h5:(i+1)*M=i*M+M:=cX i M;have hl:=aL i ar;refine zg ?_;refine ZU (S.rd (i:=0) rfl) hl ?_;refine zN ?_;intro aT bg aZ S;refine zS ?_;intro aD S;rw[e1];refine dH (fx xa rfl (jy _) rfl (S.blk (i:=0) rfl) rfl rfl) ?_;refine eY rfl (ap _ _ aD (aq i ar) (hP.gr S.out) (aG.gr S.out)) ?_;rintro _ bh ⟨c9,rfl,bp,g9⟩;have S:=S.gr g9;refine zg ?_;exact⟨m-1,om,i+1,n+c9,om,om,sl,S.drop 1⟩
     ·obtain rfl:i=N:=om;have h4:=cI M hb;refine zX ?_;exact⟨n,rfl,dE aM h4,S.out⟩
theorem nP{x0 y0 x1 y1:Int}(h:dF x0 y0 x1 y1 gw gh=0):∃r:Rc,r.ok gw gh/\x0=r.x0/\y0=r.y0/\x1=r.x1/\y1=r.y1:=by
 unfold dF at h;split at h
 ·cases h
 ·split at h
  ·cases h
  ·split at h
   ·cases h
   ·rename_i h1 h2 v;simp only[ky,hZ,not_or,Bool.not_eq_false]at h2;unfold fL at h2;simp only[cM,cT]at h2;refine⟨⟨x0.toNat,y0.toNat,x1.toNat,y1.toNat⟩,?_,?_⟩
    ·unfold Rc.ok;dsimp only;omega
    ·dsimp only;omega
theorem Xp(x0 y0 x1 y1 z:Int)(hw:1<=gw/\gw<=1024)(U:1<=gh/\gh<=1024)(O:iM W yb gw gh V) :
  Fn prog 106 [pt yb,.agg #[ii x0,ii y0,ii x1,ii y1],ii z] W (λv w'=>∃xb,v=.tuple #[pt xb,ii (dF x0 y0 x1 y1 gw gh)] /\
   St No W w' [.blk xb 307 [pt yb,ii gw,ii gh,ii x0,ii y0,ii x1,ii y1,ii z]]):=by
 have S:=St.start W;refine zI func106 ?_;refine zN ?_;intro D aa I S;refine zN ?_;intro y ab J S;refine zC (tJ hw U (O.gr S.out)) ?_;refine zS ?_;intro ac S;refine zD [0,1,2,3,4,5,6,7,8,9,10,11,12] [] ?_;refine nA rfl (λwq Z=>(jW _ _ _ _ _ _ om om wq).mono (λ_ _⟨hv,hg⟩=>⟨hv,Z.trans hg⟩)) ?_;refine zE ?_;intro ad L S;exact nd rfl rfl ⟨y,rfl,S.sub (.cons_cons _ (.cons _ .slnil))⟩
theorem Im(x0 y0 x1 y1 z:Int)(L:1<=gw/\gw<=1024)(J:1<=gh/\gh<=1024)(D:iM W yb gw gh V) :
  Fn prog 54 [pt yb,.agg #[ii x0,ii y0,ii x1,ii y1],ii z] W (λv w'=>∃c:Nat,v=.tuple #[ii c,ii (dF x0 y0 x1 y1 gw gh)]/\c<=1099511627776/\Gr W w'):=by
 have y:=λw=>Xp (W:=w) (V:=V) (yb:=yb) x0 y0 x1 y1 z L J;have hl:=lI L.2 J.2;have e1:(fW gw gh:Int)-1=((fW gw gh-1:Nat):Int):=om;by_cases I:dF x0 y0 x1 y1 gw gh=0
 ·rw[I]at y ⊢;obtain⟨r,hr,rfl,rfl,rfl,rfl⟩:=nP I;have hc:=λw xb(D:iM w yb gw gh V)hX=>Rv (xb:=xb) (z:=z) L J hr (fW gw gh-1) 0 0 w (Am L J) D hX;have ae:=fP (n:=4) om (show fW gw gh-1<=10 by omega);have S:=St.start W;refine zI func54 ?_;refine zN ?_;intro U ab Z S;refine zK (y _ (D.gr S.out)) ?_;rintro _ ac ⟨xb,rfl,O⟩;have S:=S.app O;refine zC (zA (D.gr S.out)) ?_;intro ag ad S;refine zg ?_;rw[e1];refine zK (hc _ xb (D.gr S.out) (S.blk (i:=0) rfl)) ?_;rintro _ ah ⟨c9,rfl,aa,g9⟩;have S:=S.gr g9;refine zX ?_;exact⟨c9,rfl,dE aa om,S.out⟩
 ·generalize dF x0 y0 x1 y1 gw gh=e at *;have S:=St.start W;refine zI func54 ?_;refine zN ?_;intro U ab Z S;refine zK (y _ (D.gr S.out)) ?_;rintro _ ac ⟨xb,rfl,O⟩;have S:=S.app O;refine zX ?_;exact⟨0,rfl,ib _,S.out⟩
theorem Lo(lo hi:Int)(ac:-2147483648<=hi/\hi<=2147483648)(hw:1<=gw/\gw<=1024)(hh:1<=gh/\gh<=1024)(hr:r.ok gw gh)(Z:iM W yb gw gh V) :
  Fn prog 109 [pt yb,.agg r.cells.toArray,ii lo,ii hi] W (λv w'=>∃n:Int,v=.tuple #[ii n,ii 0]/\Gr W w'):=by
 have J:=λw z=>Im (W:=w) (V:=V) (yb:=yb) r.x0 r.y0 r.x1 r.y1 z hw hh;have aa:dF r.x0 r.y0 r.x1 r.y1 gw gh=0:=gW om om (by have:=hr.1;omega) (by have:=hr.2;omega);rw[aa]at J;unfold Rc.cells;have S:=St.start W;by_cases h1:lo>hi
 ·skip;refine zI func109 ?_;refine zN ?_;intro y O D S;refine zK (J _ lo (Z.gr S.out)) ?_;rintro _ U ⟨c9,rfl,L,I⟩;have S:=S.gr I;refine zX ?_;exact⟨_,rfl,S.out⟩
 ·by_cases h2:hi>=2147483647
  ·skip;refine zI func109 ?_;refine zN ?_;intro y O D S;refine zK (J _ lo (Z.gr S.out)) ?_;rintro _ U ⟨c9,rfl,L,I⟩;have S:=S.gr I;refine zX ?_;exact⟨_,rfl,S.out⟩
  ·skip;refine zI func109 ?_;refine zN ?_;intro y O D S;refine zK (J _ lo (Z.gr S.out)) ?_;rintro _ U ⟨c9,rfl,L,I⟩;have S:=S.gr I;refine zK (J _ (hi+1) (Z.gr S.out)) ?_;rintro _ ad ⟨c8,rfl,ab,g8⟩;have S:=S.gr g8;refine zX ?_;exact⟨_,rfl,S.out⟩
def PR(x0 y0 x1 y1:Int)(gw gh:Nat)(k:Int):Int:=if dF x0 y0 x1 y1 gw gh≠0 then dF x0 y0 x1 y1 gw gh else if k<0\/k>=(x1-x0+1)*(y1-y0+1)then 11 else 0
theorem Wo(x0 y0 x1 y1 k:Int)(hB:vB V)(hw:1<=gw/\gw<=1024)(hh:1<=gh/\gh<=1024)(hP:iM W yb gw gh V) :
  Fn prog 55 [pt yb,.agg #[ii x0,ii y0,ii x1,ii y1],ii k] W (λv w'=>∃n:Int,v=.tuple #[ii n,ii (PR x0 y0 x1 y1 gw gh k)]/\Gr W w'):=by
 unfold PR;by_cases J:dF x0 y0 x1 y1 gw gh=0
 ·rw[a8 (λh=>h J)];obtain⟨r,hr,rfl,rfl,rfl,rfl⟩:=nP J;clear J;have I:=λw=>DN (W:=w) (yb:=yb) hB hw hh hr;have ah:=λw lo hi h=>Lo (W:=w) (V:=V) (yb:=yb) lo hi h hw hh hr;obtain⟨cc,ai,ap,aq⟩:=Rc.area_le hr hw.2 hh.2;have ab:=λw=>qc r.x0 r.y0 r.x1 r.y1 (by obtain⟨⟨a1,a2⟩,a3,a4⟩:=hr;omega) w;rw[ai]at ab ⊢;have ae:∀x y,-2147483648<=V.getD (y*gw+x) 0/\V.getD (y*gw+x) 0<=2147483647:=λx y=>hB _;unfold Rc.cells at *;have S:=St.start W;by_cases h1:k<0\/k>=cc
  ·rw[a7 h1];by_cases h2:k<0
   ·skip;refine zI func55 ?_;refine yA ?_;intro _ _ S;refine zK (I _ (hP.gr S.out)) ?_;rintro _ ac ⟨z,rfl,hR,g9⟩;have S:=S.gr g9;refine zN ?_;intro D ad Z S;refine zS ?_;intro O S;exact nd rfl rfl ⟨0,rfl,S.out⟩
   ·have h3:k>=cc:=om;refine zI func55 ?_;refine yA ?_;intro _ _ S;refine zK (I _ (hP.gr S.out)) ?_;rintro _ ac ⟨z,rfl,hR,g9⟩;have S:=S.gr g9;refine zN ?_;intro D ad Z S;refine Z1 0 S ?_;intro O S;refine dU (jx rfl) ?_;first|refine eF ?_|(refine di ?_;show CW _ _ _ _ _ _)|refine di ?_
    repeat refine dm ?_
    refine k0 ?_;repeat refine dm ?_
    refine dz ?_;refine dU (jx rfl) ?_;refine dU (ff (b:=false) rfl (eo.2 om)) ?_;refine dU (jx rfl) ?_;first|refine eF ?_|(refine di ?_;show CW _ _ _ _ _ _)|refine di ?_
    repeat refine dm ?_
    refine eX rfl ?_;repeat refine dm ?_
    refine dz ?_;refine dU (jx rfl) ?_;first|refine dU (ff (b:=true) rfl (fD om)) ?_|refine dU (ff (b:=false) rfl (iO om)) ?_|refine dU (jx rfl) ?_
    refine dU (jx rfl) ?_;first|refine eD rfl ?_|(refine dr rfl ?_;refine dU (jx rfl) ?_)
    first|refine eD rfl ?_|(refine dr rfl ?_;refine dH (fx dL rfl (fS _) rfl (S.blk (i:=1) rfl) rfl rfl) ?_)
    refine dr rfl ?_;refine eY rfl (ab O) ?_;rintro _ al ⟨rfl,aa⟩;have S:=S.gr aa;refine zX ?_;exact⟨0,rfl,S.out⟩
  ·rw[a8 h1];refine zI func55 ?_;refine zN ?_;intro U ak ag S;refine zK (I _ (hP.gr S.out)) ?_;rintro _ ac ⟨z,rfl,hR,g9⟩;have S:=S.gr g9;refine zN ?_;intro D ad Z S;refine Z1 0 S ?_;intro O S;refine dU (jx rfl) ?_;first|refine eF ?_|(refine di ?_;show CW _ _ _ _ _ _)|refine di ?_
   repeat refine dm ?_
   refine k0 ?_;repeat refine dm ?_
   refine dz ?_;refine dU (jx rfl) ?_;refine dU (ff (b:=false) rfl (eo.2 om)) ?_;refine dU (jx rfl) ?_;first|refine eF ?_|(refine di ?_;show CW _ _ _ _ _ _)|refine di ?_
   repeat refine dm ?_
   refine eX rfl ?_;repeat refine dm ?_
   refine dz ?_;refine dU (jx rfl) ?_;first|refine dU (ff (b:=true) rfl (fD om)) ?_|refine dU (ff (b:=false) rfl (iO om)) ?_|refine dU (jx rfl) ?_
   refine dU (jx rfl) ?_;first|refine eD rfl ?_|(refine dr rfl ?_;refine dU (jx rfl) ?_)
   first|refine eD rfl ?_|(refine dr rfl ?_;refine dH (fx dL rfl (fS _) rfl (S.blk (i:=1) rfl) rfl rfl) ?_)
   refine dr rfl ?_;refine eY rfl (ab O) ?_;rintro _ al ⟨rfl,aa⟩;have S:=S.gr aa;refine zF [0,1,2,3,4,5] [] ?_;intro av ao S;obtain⟨h9,⟨u1,u2,_,e1⟩,⟨u3,u4,hu,e2⟩⟩:=hR;have ar:z.lo<=z.hi:=e2▸(h9 u3 u4 hu).1;have b1:=e1▸ae u1 u2;have b2:=e2▸ae u3 u4
   refine dl (λm e w=>∃lo hi:Int,(-2147483648<=lo/\lo<=hi/\hi<=2147483647)/\(hi-lo).toNat<=m/\SL e [(0,pt yb),(2,ii k),(4,pt U),(8,pt D),(10,ii lo),(11,ii hi)] /\
    St No W w [.blk D 158 [ii z.lo,ii z.hi],.blk U 43 [ii r.x0,ii r.y0,ii r.x1,ii r.y1]]) (z.hi-z.lo).toNat
    ⟨z.lo,z.hi,om,fK _,sl,S⟩ ?_
   clear S;rintro m e w ⟨lo,hi,hb,hm,aj,S⟩;rw[aj.fold];by_cases he:lo=hi
   ·skip;refine zX ?_;exact⟨lo,rfl,S.out⟩
   ·have am:lo<=lo+(hi-lo)/2/\lo+(hi-lo)/2<hi:=om;refine zg ?_;generalize au:lo+(hi-lo)/2=L at *;refine zK (ah w z.lo L om (hP.gr S.out)) ?_;rintro _ aw ⟨n9,rfl,g9⟩;have S:=S.gr g9;refine zB ?_ ?_
    ·intro hc;refine zg ?_;exact⟨(L-lo).toNat,om,lo,L,om,fK _,sl,S⟩
    ·intro hc;refine zg ?_;exact⟨(hi-(L+1)).toNat,om,L+1,hi,om,fK _,sl,S⟩
 ·rw[a7 J];have I:=λw=>An (W:=w) (V:=V) (yb:=yb) x0 y0 x1 y1 hw hh J;generalize dF x0 y0 x1 y1 gw gh=e at *;have S:=St.start W;refine zI func55 ?_;refine zN ?_;intro U ak ag S;refine zC (I _ (hP.gr S.out)) ?_;intro ac an S;refine zN ?_;intro D ad Z S;refine zS ?_;intro O S;exact nd rfl rfl ⟨0,rfl,S.out⟩
end
theorem Ma{ps:String}{v:Value}{B:Bool}{q1 q2 q3}(D:P.underlying t=some (.func q1 q2 q3))(I:ev e x=v)(y:(v=.nilFunc/\B=true)\/((∃f a b,v=.func f a b)/\B=false)):iE P e ⟨d,.binOp .eql t x (.const .nilFunc) t',ty,ps,af,none⟩ (.bool B):=by
 intro w;have h2:ev e (.const .nilFunc)=.nilFunc:=rfl
 have z:(Op.equal t v .nilFunc).run P w=.ok B w:=by
  show(Op.equalIn (9999+1) t v .nilFunc).run P w=.ok B w;unfold Op.equalIn;rcases y with⟨rfl,rfl⟩|⟨⟨f,a,b,rfl⟩,rfl⟩<;>simp[dS D]
 rcases y with⟨rfl,rfl⟩|⟨⟨f,a,b,rfl⟩,rfl⟩<;>simp[gd,execOp,I,h2,eqGuard,binOp,z]
def to(f:Int->Int->Int):List Int->Int
 |[]=>0
 |a::r=>r.foldl f a
theorem GW(f:Int->Int->Int){xs:List Int}(y:0<i)(h:i<xs.length):to f (xs.take (i+1))=f (to f (xs.take i)) (xs.getD i 0):=by
 obtain⟨a,r,rfl⟩:∃a r,xs=a::r:=by
  cases xs with
  |nil=>simp at h
  |cons a r=>exact⟨a,r,rfl⟩
 obtain⟨j,rfl⟩:∃j,i=j+1:=⟨i-1,om⟩;have v:j<r.length:=by simpa using h
 show(r.take (j+1)).foldl f a=f ((r.take j).foldl f a) ((a::r).getD (j+1) 0);rw[kK,nT,fw v,List.getD_cons_succ,cO,fw v];rfl
theorem Iy(f:Int->Int->Int){xs:List Int}(h:1<=xs.length):to f (xs.take 1)=xs.getD 0 0:=by
 cases xs with
 |nil=>simp at h
 |cons a r=>rfl
def uF:List Int->Int
 |[]=>0
 |a::r=>a+uF r
theorem OL{xs:List Int}(h:i<xs.length):uF (xs.take (i+1))=uF (xs.take i)+xs.getD i 0:=by
 induction xs generalizing i with
 |nil=>simp at h
 |cons a r ih =>
  cases i with
  |zero=>show a+0=0+a;omega
  |succ i =>
   have:=ih (i:=i) (by simpa using h);show a+uF (r.take (i+1))=a+uF (r.take i)+(a::r).getD (i+1) 0;rw[this,List.getD_cons_succ];omega
theorem D3{lo hi:Int}:∀{xs:List Int},(∀x∈xs,lo<=x/\x<=hi)->xs.length*lo<=uF xs/\uF xs<=xs.length*hi
 |[],_=>by simp[uF]
 |a::r,h=>by
  have ih:=D3 (xs:=r) (λx v=>h x (by simp[v]))
  have:=h a (by simp);show _<=a+uF r/\a+uF r<=_;rw[fc];push_cast;rw[j6,j6,jG,jG];omega
def GX(how:Nat)(xs:List Int):Int:=match how with
 |0=>to min xs
 |1=>to max xs
 |_=>uF xs/xs.length
theorem Iz{xs:List Int}{lo hi:Int}(f:Int->Int->Int)(D:∀a b,(lo<=a/\a<=hi)->(lo<=b/\b<=hi)->lo<=f a b/\f a b<=hi)(h1:1<=xs.length)(h:∀x∈xs,lo<=x/\x<=hi):lo<=to f xs/\to f xs<=hi:=by
 cases xs with
 |nil=>simp at h1
 |cons a r =>
  show lo<=r.foldl f a/\r.foldl f a<=hi;have y:=h a (by simp);have z:∀x∈r,lo<=x/\x<=hi:=λx v=>h x (by simp[v]);clear h h1;induction r generalizing a with
  |nil=>exact y
  |cons b r ih=>exact ih (f a b) (D a b y (z b (by simp))) (λx v=>z x (by simp[v]))
theorem IA(v:Nat){xs:List Int}{lo hi:Int}(h1:1<=xs.length)(h:∀x∈xs,lo<=x/\x<=hi):lo<=GX v xs/\GX v xs<=hi:=by
 unfold GX;split
 ·exact Iz min (λa b _ _=>by omega) h1 h
 ·exact Iz max (λa b _ _=>by omega) h1 h
 ·have:=D3 h;have y:(0:Int)<(xs.length:Nat):=om;rw[iW _ lo,iW _ hi]at this;exact⟨(Int.le_ediv_iff_mul_le y).2 this.1,Int.le_of_lt_add_one ((Int.ediv_lt_iff_lt_mul y).2 (by rw[j6,jG];omega))⟩
section
variable{xs:List Int}
theorem WO(h1:1<=xs.length)(hm:xs.length<=1048576)(y:Rd W A (cY xs)):Fn prog 198 [.slice A xs.length c] W (dp (ii (to min xs)) W):=by
 have J:dO A:=y.someA (by rw[gn];exact h1);have I:∀i:Nat,i<xs.length->(cY xs)[(i:Int).toNat * 1]?=some (ii (xs.getD i 0)):=λi hi=>by rw[cG,b7];exact gc (kr hi)
 have L:=I 0 om;have Z:=λi h h'=>GW min (xs:=xs) (i:=i) h h';have V:=Iy min h1;have O:xs.take xs.length=xs:=i6;have S:=St.start W;refine zI func198 ?_;refine zT (y.gr S.out) L ?_;refine zg ?_;rw[<-V]
 refine dl (λm e w=>∃i:Nat,i+m=xs.length/\1<=i/\SL e [(0,.slice A xs.length c),(3,ii (to min (xs.take i))),(4,ii i)]/\St No W w []) (xs.length-1)
  ⟨1,om,om,sl,S⟩ ?_
 clear S;rintro m e w ⟨i,hi,U,D,S⟩;rw[D.fold];by_cases v:i<xs.length
 ·have z:=I i v;refine zT (y.gr S.out) z ?_;refine zg ?_;exact⟨m-1,om,i+1,om,om,⟨rfl,ie (Z i om v).symm,rfl,trivial⟩,S⟩
 ·obtain rfl:i=xs.length:=om;refine zX ?_;exact⟨by rw[O],S.out⟩
theorem WP(h1:1<=xs.length)(hm:xs.length<=1048576)(y:Rd W A (cY xs)):Fn prog 199 [.slice A xs.length c] W (dp (ii (to max xs)) W):=by
 have J:dO A:=y.someA (by rw[gn];exact h1);have I:∀i:Nat,i<xs.length->(cY xs)[(i:Int).toNat * 1]?=some (ii (xs.getD i 0)):=λi hi=>by rw[cG,b7];exact gc (kr hi)
 have L:=I 0 om;have Z:=λi h h'=>GW max (xs:=xs) (i:=i) h h';have V:=Iy max h1;have O:xs.take xs.length=xs:=i6;have S:=St.start W;refine zI func199 ?_;refine zT (y.gr S.out) L ?_;refine zg ?_;rw[<-V]
 refine dl (λm e w=>∃i:Nat,i+m=xs.length/\1<=i/\SL e [(0,.slice A xs.length c),(3,ii (to max (xs.take i))),(4,ii i)]/\St No W w []) (xs.length-1)
  ⟨1,om,om,sl,S⟩ ?_
 clear S;rintro m e w ⟨i,hi,U,D,S⟩;rw[D.fold];by_cases v:i<xs.length
 ·have z:=I i v;refine zT (y.gr S.out) z ?_;refine zg ?_;exact⟨m-1,om,i+1,om,om,⟨rfl,ie (Z i om v).symm,rfl,trivial⟩,S⟩
 ·obtain rfl:i=xs.length:=om;refine zX ?_;exact⟨by rw[O],S.out⟩
theorem Yr{s n:Int}(v:0<n):(s.tmod n<0->s.tdiv n-1=s/n)/\(¬s.tmod n<0->s.tdiv n=s/n):=by
 have h1:=(HV (s:=s) v).1;have h2:=(HV (s:=s) v).2.1;have y:=sJ s n;generalize s.tmod n=r at *;generalize s.tdiv n=q at *;constructor
 ·intro h;have e:s=(r+n)+n*(q-1):=by rw[Int.mul_sub,Int.mul_one];omega
  rw[e,sK _ _ om,rD om om];omega
 ·intro h;have e:s=r+n*q:=om;rw[e,sK _ _ om,rD om om];omega
theorem Vc(h1:1<=xs.length)(hm:xs.length<=1048576)(I:∀x∈xs,-2147483648<=x/\x<=2147483647)(V:Rd W A (cY xs)):Fn prog 200 [.slice A xs.length c] W (dp (ii (uF xs/xs.length)) W):=by
 have aa:dO A:=V.someA (by rw[gn];exact h1);have hg:∀i:Nat,i<xs.length->(cY xs)[(i:Int).toNat * 1]?=some (ii (xs.getD i 0)):=λi hi=>by rw[cG,b7];exact gc (kr hi)
 have hs:=λi h=>OL (xs:=xs) (i:=i) h;have Z:xs.take xs.length=xs:=i6
 have z:∀i,-2251799813685248<=uF (xs.take i)/\uF (xs.take i)<=2251799813685248:=λi=>by
  have:=D3 (xs:=xs.take i) (lo:=-2147483648) (hi:=2147483647) (λx hx=>I x (jj hx));have hl:((xs.take i).length:Int)<=1048576:=by have:=List.length_take_le i xs;have:=List.length_take_le' i xs;omega
  omega
 have L:∀i,i<xs.length->-2147483648<=xs.getD i 0/\xs.getD i 0<=2147483647:=λi hi=>by
  rw[cO,fw hi];exact I _ (fY hi)
 have hq:=Yr (s:=uF xs) (n:=(xs.length:Int)) om;have J:=z xs.length;rw[Z]at J;have hf:=IA 2 h1 I;have hf:-2147483648<=uF xs/(xs.length:Int)/\uF xs/(xs.length:Int)<=2147483647:=hf;have S:=St.start W;refine zI func200 ?_;refine zg ?_
 refine dl (λm e w=>∃i:Nat,i+m=xs.length/\SL e [(3,ii (uF (xs.take i))),(4,ii xs.length),(10,.slice A xs.length c),(11,ii xs.length),(12,ii i)]/\St No W w []) xs.length
  ⟨0,om,sl,S⟩ ?_
 clear S;rintro m e w ⟨i,hi,U,S⟩;rw[U.fold];by_cases y:i<xs.length
 ·have O:=hg i y;have b1:=z i;have b2:=L i y;refine zT (V.gr S.out) O ?_;refine zg ?_;exact⟨m-1,om,i+1,om,⟨ie (hs i y).symm,rfl,rfl,rfl,rfl,trivial⟩,S⟩
 ·obtain rfl:i=xs.length:=om;rw[Z];by_cases v:(uF xs).tmod (xs.length:Int)<0
  ·have D:=hq.1 v;refine zg ?_;refine dU (FT rfl rfl om rfl om) ?_;refine zg ?_;refine dU (KJ rfl rfl om) ?_;refine zg ?_;rw[D];exact zZ
  ·have D:=hq.2 v;refine zg ?_;refine dU (FT rfl rfl om D om) ?_;refine zg ?_;refine dU (KJ rfl rfl om) ?_;exact zZ
def ED(how:Int):Value:=if how=0 then .func (.func (198)) #[] #[]else if how=1 then .func (.func (199)) #[] #[]else if how=2 then .func (.func 200) #[] #[]else .nilFunc
theorem P3(v:Int):Fn prog 131 [ii v] W (dp (ED v) W):=by
 unfold ED;have S:=St.start W;by_cases y:v=0
 ·rw[a7 y];refine zI func131 ?_;exact zZ
 ·rw[a8 y];by_cases h1:v=1
  ·rw[a7 h1];refine zI func131 ?_;exact zZ
  ·rw[a8 h1];by_cases h2:v=2
   ·rw[a7 h2];refine zI func131 ?_;exact zZ
   ·rw[a8 h2];refine zI func131 ?_;exact zZ
end
theorem qw.weaken{mk:Value->Value}{c:Nat->Int}{v:Value}(h:qw mk gw gh c w v w')(g:Gr W w):qw mk gw gh c W v w':=by
 obtain⟨p,A,cap,bs,Rs,e,y,D,I⟩:=h;exact⟨p,A,cap,bs,Rs,e,y,λb z=>dE g.le (D b z),g.trans I⟩
end Go.Proofs.YtcalhocphkbbgaaGreatDoor
