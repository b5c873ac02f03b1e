/- hachuretop.WholeLevels: a part of the proof that the law returns true at every input; no condition of its own. -/
import Derived.Lib.SlBytesConst
import Derived.Test.YtjfeklflkikapaaGreatDoorKQ
import Derived.RangeFuncRecord
import Derived.Test.YtjfeklflkikapaaGreatDoorKS
set_option maxRecDepth 100000
set_option maxHeartbeats 16000000
set_option linter.unusedVariables false
set_option linter.unusedSimpArgs false
namespace Go.Proofs.YtjfeklflkikapaaGreatDoor
open Go.Proofs.Tryz Go.RowKit
variable{Q:(Nat->Value)->World->Prop}{af:Array Edge}{ops:Array Oper}{rs:Array ResultVar}{tys:Array TypeId}{bd sg:Code}{Qn:Exit->(Nat->Value)->World->Prop}{Q':Exit->Act->World->Prop}{fn:Func}{f:FuncId}{h:HA}{a a' ax ay bx e0:Int}{es:List (Int × Int)}{σ:List (Nat × Value)}{K:List (Nat × Value)->Act->Prop}{ls:List BR}{df:List Deferred}{L' L0 L1 M T:List HA}{hd ks:List Nat}{args:List Operand}{l l' l2 vs:List Value}{N b c c2 cB cy el g gh gw i j k k' lc m n ob p q x0 x1 y0 y1:Nat}{Qm:Nat->Exit->(Nat->Value)->World->Prop}{c':Nat->Int}{o':Nat->Nat}{R':Nat->Nat->Bool}{F:Nat->Prop}{e:Nat->Value}{o1:Oper}{hi x:Operand}{A A2 B l0 lp:Option Addr}{d:Option Tmp}{P:Program}{G:Prop}{t ty:TypeId}{u v2 v3:Value}{R:Value->World->Prop}{W w w' wq:World}{C:World->Prop}
def sO(n:Int):Int:=if n<0 then -n else n
def Cy(n:Int):Int:=if n<0 then -1 else 1
structure TX where
 n:Int
 m:Int
 ux:Int
 uy:Int
 vx:Int
 vy:Int
def jh(ax ay bx cy:Int):TX :=
 if sO (bx-ax)<sO (cy-ay)then⟨sO (cy-ay),sO (bx-ax),0,Cy (cy-ay),Cy (bx-ax),0⟩else⟨sO (bx-ax),sO (cy-ay),Cy (bx-ax),0,0,Cy (cy-ay)⟩
theorem xP(n:Int):(Cy n=1/\sO n=n/\0<=n)\/(Cy n=-1/\sO n=-n/\n<0):=by
 unfold Cy sO;by_cases h:n<0
 ·rw[a7 h,a7 h];exact .inr ⟨rfl,rfl,h⟩
 ·rw[a8 h,a8 h];exact .inl ⟨rfl,rfl,om⟩
theorem Js{cy:Int}(I:mD gw gh (ax,ay)=true)(J:mD gw gh (bx,cy)=true){r:TX}(z:jh ax ay bx cy=r):∃N M:Nat,r.n=N/\r.m=M/\M<=N/\(N<gw\/N<gh)/\(-1<=r.ux/\r.ux<=1/\-1<=r.uy/\r.uy<=1/\-1<=r.vx/\r.vx<=1/\-1<=r.vy/\r.vy<=1) /\
  ∀i j:Nat,i<=N->j<=M->mD gw gh (ax+i*r.ux+j*r.vx,ay+i*r.uy+j*r.vy)=true:=by
 rw[jT]at I J;dsimp only at I J;have h1:=xP (bx-ax);have h2:=xP (cy-ay);unfold jh at z;split at z
 ·subst z;refine⟨(sO (cy-ay)).toNat,(sO (bx-ax)).toNat,by dsimp only;omega,by dsimp only;omega,om,om,by dsimp only;omega,λi j hi D=>?_⟩;rw[jT];dsimp only;rcases h1 with⟨v,h1,_⟩|⟨v,h1,_⟩<;>rcases h2 with⟨y,h2,_⟩|⟨y,h2,_⟩<;>rw[v,y]<;>rw[h1]at D<;>rw[h2]at hi<;>omega
 ·subst z;refine⟨(sO (bx-ax)).toNat,(sO (cy-ay)).toNat,by dsimp only;omega,by dsimp only;omega,om,om,by dsimp only;omega,λi j hi D=>?_⟩;rw[jT];dsimp only;rcases h1 with⟨v,h1,_⟩|⟨v,h1,_⟩<;>rcases h2 with⟨y,h2,_⟩|⟨y,h2,_⟩<;>rw[v,y]<;>rw[h1]at hi<;>rw[h2]at D<;>omega
theorem wr(l:List (Int×Int))(x y:Int):eT l++[ii x,ii y]=eT (l++[(x,y)]):=by simp[eT]
theorem Cz(n:Int)(h:-2000<=n/\n<=2000):Fn prog 286 [ii n] W (dp (.tuple #[ii (Cy n),ii (sO n)]) W):=by
 have y:=xP n;have S:=St.start W;refine zI func286 ?_;by_cases v:n<0
 ·skip;refine zX ?_;exact⟨by rw[(om:Cy n=-1),(om:sO n=0-n)],S.out⟩
 ·skip;refine zX ?_;exact⟨by rw[(om:Cy n=1),(om:sO n=n)],S.out⟩
theorem PC(x y:Int)(I:0<=x/\x<1024)(J:0<=y/\y<1024):Fn prog 285 [.agg #[ii x,ii y]] W (dp (.bool true) W):=by
 have S:=St.start W;refine zI func285 ?_;refine zN ?_;intro v D z S;exact zZ
theorem KW(ax ay bx cy:Int)(hx:0<=ax/\ax<1024)(hy:0<=ay/\ay<1024)(hu:0<=bx/\bx<1024)(hv:0<=cy/\cy<1024) :
  Fn prog 247 [.agg #[ii ax,ii ay],.agg #[ii bx,ii cy]] W (dp (.agg #[ii (jh ax ay bx cy).n,ii (jh ax ay bx cy).m,ii (jh ax ay bx cy).ux,ii (jh ax ay bx cy).uy,ii (jh ax ay bx cy).vx,ii (jh ax ay bx cy).vy]) W):=by
 have S:=St.start W;refine zI func247 ?_;by_cases h:sO (bx-ax)<sO (cy-ay)
 ·have e:jh ax ay bx cy=⟨sO (cy-ay),sO (bx-ax),0,Cy (cy-ay),Cy (bx-ax),0⟩:=a7 h;refine zN ?_;intro v ag ab S;refine zN ?_;intro y ah ac S;refine zN ?_;intro z ai ad S;refine zC (Cz (bx-ax) om) ?_;intro aj ae S;refine zC (Cz (cy-ay) om) ?_;refine zS ?_;intro ak S;exact Tb lz rfl (sizeOf387 _) rfl (S.blk (i:=0) rfl) rfl rfl ⟨by rw[e],S.out⟩
 ·have e:jh ax ay bx cy=⟨sO (bx-ax),sO (cy-ay),Cy (bx-ax),0,0,Cy (cy-ay)⟩:=a8 h;refine zN ?_;intro v O D S;refine zN ?_;intro y U I S;refine zN ?_;intro z V J S;refine zC (Cz (bx-ax) om) ?_;intro Z L S;refine zC (Cz (cy-ay) om) ?_;refine zS ?_;intro aa S;exact Tb lz rfl (sizeOf387 _) rfl (S.blk (i:=0) rfl) rfl rfl ⟨by rw[e],S.out⟩
theorem Rh(ax ay bx cy:Int)(I:0<=ax/\ax<1024)(J:0<=ay/\ay<1024)(y:0<=bx/\bx<1024)(D:0<=cy/\cy<1024) :
  Fn prog 246 [.agg #[ii ax,ii ay],.agg #[ii bx,ii cy]] W (dp (.tuple #[ii (jh ax ay bx cy).n,ii 0]) W):=by
 have S:=St.start W;refine zI func246 ?_;refine zN ?_;intro L ab U S;refine zN ?_;intro O ac V S;refine zC (PC ax ay I J) ?_;intro ad Z S;iterate 3 refine z ?_
 refine dr rfl ?_;refine eY rfl (PC bx cy y D) ?_;rintro _ ae ⟨rfl,v⟩;have S:=S.gr v;refine zC (KW ax ay bx cy I J y D) ?_;intro ag aa S;refine cq (P6 lz rfl cw rfl rfl rfl) ?_;exact zZ
theorem Ge(x y v z:Int)(hx:-5000<=x/\x<=5000)(hy:-5000<=y/\y<=5000)(hs:-1<=v/\v<=1)(ht:-1<=z/\z<=1) :
  Fn prog 248 [.agg #[ii x,ii y],.agg #[ii v,ii z],ii 1] W (dp (.agg #[ii (x+v),ii (y+z)]) W):=by
 have S:=St.start W;refine zI func248 ?_;refine zN ?_;intro D V L S;refine zN ?_;intro I Z O S;refine zN ?_;intro J aa U S;refine zS ?_;intro ab S;exact Tb dI rfl (dW _) rfl (S.blk (i:=0) rfl) rfl rfl ⟨by rw[jG,jG],S.out⟩
theorem Gf(n:Int)(h:-1099511627776<=n/\n<=1099511627776):Fn prog 179 [ii n] W (dp (.bool true) W):=by
 have S:=St.start W;refine zI func179 ?_;exact zZ
def Be(x0 y0 x1 y1 x y:Int):Bool:=decide (x0<=x)&&(decide (x<=x1)&&(decide (y0<=y)&&decide (y<=y1)))
theorem Wb(x0 y0 x1 y1 x y:Int)(I:nb x0 y0 x1 y1=true) :
  Fn prog 250 [.agg #[ii x0,ii y0,ii x1,ii y1],.agg #[ii x,ii y]] W (dp (.bool (Be x0 y0 x1 y1 x y)) W):=by
 unfold Be;have v:=λw=>mz x0 y0 x1 y1 w;rw[I]at v;refine yI func250 ?_;by_cases h1:x0<=x
 ·by_cases h2:x<=x1
  ·by_cases z:y0<=y
   ·by_cases D:y<=y1
    ·skip;refine EO v ?_;intro _ _ _ S;refine zX ?_;exact⟨be (by simp[h1,h2,z,D]),S.out⟩
    ·skip;refine EO v ?_;intro _ _ _ S;refine zX ?_;exact⟨be (by simp[h1,h2,z,D]),S.out⟩
   ·skip;refine EO v ?_;intro _ _ _ S;refine zX ?_;exact⟨be (by simp[h1,h2,z]),S.out⟩
  ·skip;refine EO v ?_;intro _ _ _ S;refine zX ?_;exact⟨be (by simp[h1,h2]),S.out⟩
 ·skip;refine EO v ?_;intro _ _ _ S;refine zX ?_;exact⟨be (by simp[h1]),S.out⟩
theorem xQ{rest:List Oper}{L:List HA}{J d2:Option Tmp}{Z aa:TypeId}{U V:String}{D I:Array Edge}{el:TypeId}{y:List (Nat×Operand)}{z:Value}{l0:List Value}(S:St F W w L)(hu:P.underlying t=some (.slice el))(he:P.underlying el=some (.int .u8))(hs:∀w,(sizeOf el).run P w=.ok k w)(hz:∀w,(zeroValue el).run P w=.ok z w)(hk:z.cells.toList.length=k)(O:Nat.beq (n*k) 0=false)(hn:Nat.ble (n*k) 16777216=true)(h1:yS (λi=>some (i*k,k)) ((List.replicate n z.cells.toList).flatten) (yQ e y)=some l0)(h2:lj l0=some l)(hx:∀A,ev (fI e J (.slice A n n)) x=.slice A n n)(hr:∀A w',Gr w w'->Rd w' A l->St F W w' L->RW P ops Q rest (fI (fI e J (.slice A n n)) d2 (.slice A n n)) w') :
  RW P ops Q (⟨J,.buildSlice t n y.toArray,Z,U,D,none⟩::⟨d2,.convert t t x,aa,V,I,none⟩::rest) e w:=by
 refine wZ (mu hu hs hz hk O hn h1 h2) (wZ (v:=.slice (some ⟨w.heap.size,0,none⟩) n n) (w':=w.alloc (.cells l.toArray el (l.toArray.size,l.toArray.size+1))) ?_ (hr _ _ (Gr.alloc _ _) (.inr ⟨w.heap.size,0,rfl,by show w.heap.size<(w.heap.push _).size;simp,λj v hj=>?_⟩) (S.gr (Gr.alloc _ _))))
 ·have hc:=Lib.run_convert_bytes_const w t el l.toArray n n hu he;simp only[execOp,hx,Dj,hc,Result.andThen_ok,Sem.run_pure]
 ·have hb:(w.alloc (.cells l.toArray el (l.toArray.size,l.toArray.size+1))).heap[w.heap.size]?=some (.cells l.toArray el (l.toArray.size,l.toArray.size+1)):=nH w _;unfold World.cell?;simp only[hb];simp[hj]
def uB(F:Nat->Prop)(W:World)(L:List HA)(T:List Value->List HA->Prop)(σ:List Value)(w:World):Prop:=∃Q,T σ Q/\St F W w (Q++L)
section
variable{L:List HA}{T:List Value->List HA->Prop}{σ:List Value}
theorem uB.start(h:T [] [])(S:St F W w L):uB F W L T [] w:=⟨[],h,S⟩
theorem uB.st(h:uB F W L T σ w):St F W w L:=by
 obtain⟨Q,_,S⟩:=h;have:=S.drop Q.length;rwa[jE]at this
theorem vh{ps:String}(h:uB F W L T σ w)(D:lj (args.map (ev e))=some vs)(z:∀Q,T σ Q->St F W w (Q++L)->Fn P f vs w (λv w'=>∃Q',T (v::σ) Q'/\St F W w' (Q'++L))):gI P e ⟨d,.call ⟨.value (.func f),args.toArray,tys⟩,ty,ps,af,none⟩ w (λv w'=>uB F W L T (v::σ) w'):=by
 obtain⟨Q,y,S⟩:=h;exact l4 D (z Q y S)
end
section
variable{ls:List Nat}
theorem DC:(prog.info? 94).map (λi=>(i.zero,i.size,i.bytes))=some (some (.agg #[ii 0,ii 0]),2,16):=by kernel_rfl
theorem Gg(n:Nat)(h:n<=1024):Fn prog 257 [ii n] W (dp (ii (cU n)) W):=by
 have v:((n:Int)+16-1)/16=((cU n:Nat):Int):=by unfold cU;omega
 have S:=St.start W;refine zI func257 ?_;refine zg ?_;rw[v];exact zZ
theorem DD(O:1<=gw/\gw<=1024)(L:1<=gh/\gh<=1024):Fn prog 203 [ii gw,ii gh] W (dp (.tuple #[ii (cU gw*cU gh:Nat),ii 0]) W):=by
 have I:dF 0 0 0 0 gw gh=0:=gW om om om om;have h1:=jS O.2;have h2:=jS L.2;have hm:cU gw*cU gh<=64*64:=cE h1 h2;have J:((cU gw:Nat):Int)*(cU gh:Nat)=((cU gw*cU gh:Nat):Int):=by push_cast;rfl
 have S:=St.start W;refine zI func203 ?_;refine z ?_;refine z ?_;refine zs ?_;refine cq (kL (pl:=[(0,1),(1,1),(2,1),(3,1)]) dL fy (λw=>by kernel_rfl) rfl rfl) ?_;refine z ?_;refine z ?_;refine eY rfl (jW _ _ _ _ _ _ om om W) ?_;rintro _ U ⟨rfl,v⟩;have S:=S.gr v;rw[I];refine zg ?_;refine ju rfl rfl (Gg gw O.2) ?_;rintro _ V ⟨rfl,y⟩;have S:=S.gr y;refine zg ?_;refine ju rfl rfl (Gg gh L.2) ?_;rintro _ Z ⟨rfl,D⟩;have S:=S.gr D;refine cq (fh rfl (by rw[J];omega)) ?_;rw[J];exact zZ
theorem KX(z:1<=gw/\gw<=1024)(y:1<=gh/\gh<=1024):Fn prog 204 [ii gw,ii gh] W (dp (.tuple #[ii (13+cU gw*cU gh*8:Nat),ii 0]) W):=by
 have h1:=jS z.2;have h2:=jS y.2;have J:cU gw*cU gh<=64*64:=cE h1 h2;have v:=λW=>DD (W:=W) z y;generalize cU gw*cU gh=q at *;have S:=St.start W;refine zI func204 ?_;refine zC (v W) ?_;intro I D S;exact zZ
theorem KY(D:Nat)(h0:D<=65536)(ab:∀x∈ls,1<=x/\x<=4096)(hn:ls.length<=4096)(hB:Rd W B (cY (ls.map λx:Nat=>(x:Int)))) :
  Fn prog 271 [ii D,.slice B ls.length cB] W (λv w'=>∃es:List (Int×Int),es.length=ls.length/\(∀e∈es,(0<=e.1/\e.1<4294967296)/\0<=e.2/\e.2<4294967296)/\jc (λs=>.tuple #[s,.bool true]) 94 2 ls.length (eT es) W v w'):=by
 have U:∀j(hj:j<ls.length),(cY (ls.map λx:Nat=>(x:Int)))[(j:Int).toNat * 1]?=some (ii (ls[j]:Nat)):=λj hj=>by
  rw[cG,b7];exact gc (by rw[da,ct hj];rfl)
 have S:=St.start W;refine zI func271 ?_;refine zg ?_;have S:=S.pushNil 94 2
 refine dl (λm e w'=>∃(i q:Nat)(es:List (Int×Int))(z:Option Addr)(I:Nat),i+m=ls.length/\q<=65536+i*4096/\es.length=i/\(∀e∈es,(0<=e.1/\e.1<4294967296)/\0<=e.2/\e.2<4294967296) /\
   SL e [(0,ii q),(6,.slice z i I),(9,.slice B ls.length cB),(10,ii ls.length),(11,ii i)]/\St No W w' [.row 94 2 z i I (eT es)]) ls.length
  ⟨0,D,[],none,0,om,om,rfl,(λ_ h=>by cases h),sl,S⟩ ?_
 clear S;rintro m e w2 ⟨i,q,es,z,I,hi,hq,O,y,ac,S⟩;rw[ac.fold];by_cases V:i<ls.length
 ·have ad:dO B:=hB.someA (by rw[gn,eP];omega);have hx:=ab _ (fY V);have g1:=U i V;generalize ls[i]=x at *;refine zT (hB.gr S.out) g1 ?_;refine zg ?_;refine yb S ?_;intro aa ah ag S Z;refine fM (i:=1) S rfl (λh=>rfl) nq DC rfl rfl rfl rfl (by simp) om (S.rd (i:=0) rfl) rfl om ?_;intro J L ai S ae;refine zg ?_;have S:=S.drop 1;rw[wr]at S
  exact⟨m-1,om,i+1,q+x,es++[((q:Int),(x:Int))],J,L,om,om,by simp[O],λe he=>by
   rcases ez.1 he with h|h
   ·exact y e h
   ·rw[dM.1 h];dsimp only;omega,sl,S⟩
 ·obtain rfl:i=ls.length:=om;refine zX ?_;exact⟨es,O,y,S.retNew (i:=0) (mk:=λs=>.tuple #[s,.bool true]) rfl⟩
def Yj(n:Nat)(W:World)(v:Value)(w:World):Prop:=∃(l:List Int)(A:Option Addr)(c:Nat),l.length=n/\v=.slice A l.length c/\gH w 5 1 A l.length c (f9 l)/\tr W A/\Gr W w
theorem CC{l:List Int}(k u:Nat)(y:Rd w A (f9 l))(z:1<=k/\k<8)(I:u<2^(8*k))(D:0<l.length/\l.length<=1099511627776):Fn prog 272 [.slice A l.length c,ii k,ii u] w (Yj (l.length+k) w) :=
 (VZ k u z I D y).mono λv w'⟨l2,hl2,A2,c2,hv,h2,h3,g⟩=>⟨l2,A2,c2,hl2,by rw[hv,<-hl2];rfl,hl2▸h2,h3,g⟩
theorem Wc(hw:1<=gw/\gw<=1024)(hh:1<=gh/\gh<=1024)(aB:∀x∈ls,1<=x/\x<=4096)(hn:ls.length=cU gw*cU gh)(hB:Rd W B (cY (ls.map λx:Nat=>(x:Int)))) :
  Fn prog 221 [ii gw,ii gh,.slice B ls.length cB] W (Cv (λs=>.tuple #[s,ii 0]) (13+8*ls.length) W):=by
 have h1:=jS hw.2;have h2:=jS hh.2;have hm:cU gw*cU gh<=64*64:=cE h1 h2;have ag:=λW=>DD (W:=W) hw hh;have ae:=λW=>KX (W:=W) hw hh;rw[<-hn]at ag ae hm;have ar:=λW hB=>KY (W:=W) (B:=B) (cB:=cB) (ls:=ls) (13+ls.length*8) om aB om hB;have ew:(gw:Int)-1=((gw-1:Nat):Int):=om;have eh:(gh:Int)-1=((gh-1:Nat):Int):=om;have S:=St.start W;refine zI func221 ?_;refine zC (ag W) ?_;intro aL aE S;refine zC (ae _) ?_;intro aM aF S;refine zK (ar _ (hB.gr S.out)) ?_;rintro _ aN ⟨es,aH,aa,z,D,rfl,V,Z,ai⟩;have S:=S.pushRow V Z ai;refine zg ?_;refine xQ S dg dv gJ nE rfl rfl rfl rfl rfl (λ_=>rfl) ?_;intro A5 w5 g5 an S;skip;refine zg ?_;rw[ew];refine zK (CC (l:=[72,65,67,72,1]) (c:=5) 2 (gw-1) an (by decide) om (by decide)) ?_;rintro _ aO ⟨l6,A6,c6,O,rfl,ao,au,aj⟩;have S:=S.pushRow ao au aj;refine zg ?_;rw[eh];refine zK (CC (l:=l6) 2 (gh-1) (S.rd (i:=0) rfl) (by decide) om (by rw[O];decide)) ?_;rintro _ aP ⟨l7,A7,c7,ac,rfl,ap,av,ak⟩;have S:=S.pushRow ap av ak;refine zK (CC (l:=l7) 4 ls.length (S.rd (i:=0) rfl) (by decide) om (by rw[ac,O];decide)) ?_;rintro _ aQ ⟨l8,A8,c8,az,rfl,aq,aw,al⟩;have S:=S.pushRow aq aw al;refine zg ?_;have am:l8.length=13:=by rw[az,ac,O];rfl
 have S:=S.sub (.cons_cons _ (.cons _ (.cons _ (.cons_cons _ (.slnil)))))
 refine dl (λm e w'=>∃(k:Nat)(lb:List Int)(I:Option Addr)(J:Nat),k+m=ls.length/\lb.length=13+8*k/\SL e [(14,.slice I lb.length J),(54,.slice z ls.length D),(55,ii ls.length),(56,ii k)] /\
   St No W w' [.row 5 1 I lb.length J (f9 lb),.row 94 2 z ls.length D (eT es)]) ls.length
  ⟨0,l8,A8,c8,om,am,sl,S⟩ ?_
 clear S
 have ad:∀{wq:World}{l:List Int}{A:Option Addr}{c:Nat}{L:List HA}(u:Nat),Rd wq A (f9 l)->(u:Int)<4294967296->0<l.length/\l.length<=1099511627776->St No W wq L ->
   Fn prog 272 [.slice A l.length c,ii (4:Nat),ii u] wq (λv w'=>∃(l':List Int)(A':Option Addr)(c':Nat),l'.length=l.length+4/\v=.slice A' l'.length c'/\St No W w' (.row 5 1 A' l'.length c' (f9 l')::L)):=λu hR hu hl S =>
  (CC 4 u hR (by decide) om hl).mono λv w'⟨l2,A2,c2,hl2,hv,h2,h3,g⟩=>⟨l2,A2,c2,hl2,hv,S.pushRow h2 h3 g⟩
 rintro m e w2 ⟨k,lb,I,J,hk,aA,aC,S⟩;rw[aC.fold];by_cases aK:k<ls.length
 ·have aD:dO z:=(S.row (i:=1) rfl).someA om;have ab:k<es.length:=om;obtain⟨hx,hy⟩:=aa _ (fY ab);have g1:=mS (ct ab);obtain⟨x,ex⟩:=cJ hx.1;obtain⟨y,ey⟩:=cJ hy.1;rw[ex,ey]at g1;rw[ex]at hx;rw[ey]at hy;have ah:((eT es).drop ((k:Int).toNat * 2)).take 2=[ii x,ii y]:=by rw[b7];exact g1
  refine zg ?_;refine dH (fb iY rfl (kj _) rfl (S.rd (i:=1) rfl) ah rfl rfl) ?_;refine zN ?_;intro U aR aG S;refine zS ?_;intro aS S;refine zH (C:=(uB No W [.blk U 94 [ii x,ii y],.row 5 1 I lb.length J (f9 lb),.row 94 2 z ls.length D (eT es)] (λσ Q=>match σ with|[]=>Q=[]|[v]=>∃(l:List Int)(A:Option Addr)(c:Nat),l.length=lb.length+4/\v=.slice A l.length c/\Q=[.row 5 1 A l.length c (f9 l)]|v::_=>∃(l:List Int)(A:Option Addr)(c:Nat),l.length=lb.length+8/\v=.slice A l.length c/\Q=[.row 5 1 A l.length c (f9 l)]))) [3,6] [0,1,2,4,5,3,6] [7] (uB.start rfl (S.gr (Gr.drew _))) ?_;refine zV (λτ wq hq=>((uB.st hq).blk (i:=0) rfl)) ?_;refine zV (λτ wq hq=>((uB.st hq).blk (i:=0) rfl)) ?_;refine de rfl rfl (λwq hq=>vh hq rfl (λQ hQ S=>?_)) ?_
  ·cases hQ;exact(ad x (S.rd (i:=1) rfl) hx.2 om S).mono λv w'⟨l',A',c',h1,h2,S'⟩=>⟨_,⟨l',A',c',h1,h2,rfl⟩,S'⟩
  rintro v3 w3 ⟨_,⟨l3,A3,c3,aI,rfl,_⟩,_⟩;refine de rfl rfl (λwq hq=>vh hq rfl (λQ hQ S=>?_)) ?_
  ·obtain⟨l,A,c,hl,hv,rfl⟩:=hQ;injection hv with h1 h2 h3;subst h1 h3;rw[h2];exact(ad y (S.rd (i:=0) rfl) hy.2 om S).mono λv w'⟨l',A',c',h1,h2,S'⟩=>⟨_,⟨l',A',c',om,h2,rfl⟩,S'.sub (.cons_cons _ (.cons _ (cQ _)))⟩
  rintro v6 w6 ⟨_,⟨l6,A6,c6,O,rfl,_⟩,_⟩;refine zY ?_;rintro wz hz;obtain⟨_,⟨l9,A9,c9,aJ,e9,rfl⟩,S⟩:=hz;injection e9 with q1 q2 q3;subst q1 q3;refine zg ?_;exact⟨m-1,om,k+1,l9,A6,c6,om,om,⟨se q2 rfl,rfl,rfl,rfl,trivial⟩,by simpa using S.sub (.cons_cons _ (.cons _ (.cons _ (.cons_cons _ .slnil))))⟩
 ·obtain rfl:k=ls.length:=om;refine zg ?_;rw[<-aA];exact nd rfl rfl ⟨lb,rfl,S.retNew (i:=0) (mk:=λs=>.tuple #[s,ii 0]) rfl⟩
end
def HA.obj(b:Nat)(o:Obj):HA:=⟨λg=>g=b,λw=>w.heap[b]?=some o,λ_ _ h _ ho=>(h b rfl).trans ho,λw ho g hg=>by subst hg;exact(jq.1 ho).1⟩
section
variable{L:List HA}{o o':Obj}
theorem Fr.putObj(w:World)(b:Nat)(o:Obj):Fr (λg=>g=b) w (w.putObj b o):=⟨rfl,rfl,rfl,by simp,λg _ v=>World.putObj_heap_other v⟩
theorem St.putObj(S:St F W w L)(hi:gi L i=some (.obj b o))(y:j7 L i (.obj b o')=some L'):St F W (w.putObj b o') L' :=
 S.set hi y (Fr.putObj w b o') (λg v=>.inl v) (World.putObj_heap_same (jq.1 (S.ok hi)).1) (λg v=>.inl v)
theorem St.pushObj(S:St F W w L)(o:Obj):St F W (w.alloc o) (.obj w.heap.size o::L) :=
 S.push (Gr.alloc w o) (h:=.obj w.heap.size o) (World.alloc_heap_new w o) (λg v=>by have:g=w.heap.size:=v;omega)
end
def NO(P:Program)(l:Nat)(vs:List Value)(w:World)(R:Value->World->Prop):Prop :=
 ∃fn tmps sg bd,(Instr.yield l vs.toArray).run P w=.ok (.round l fn tmps sg bd) w/\RoundIn Fence.wide 0 P l fn tmps sg bd w λen w'=>∃v,en=.returned v/\R v w'
theorem NO.mono{l:Nat}{R':Value->World->Prop}(h:NO P l vs w R)(D:∀v w',R v w'->R' v w'):NO P l vs w R':=by
 obtain⟨fn,y,sg,bd,I,z⟩:=h;exact⟨fn,y,sg,bd,I,z.mono λJ w'⟨v,e,h⟩=>⟨v,e,D v w' h⟩⟩
section
variable{rest:List Oper}{ps:String}
theorem Ig{l:Nat}{f:Operand}(L:ev e f=.func (.yield l) #[] #[])(D:lj (args.map (ev e))=some vs)(S:NO P l vs w R)(h:∀v w',R v w'->RW P ops Q rest (fI e d v) w'):RW P ops Q (⟨d,.call ⟨.value f,args.toArray,tys⟩,ty,ps,af,none⟩::rest) e w:=by
 have I:=mK D;obtain⟨fn,z,sg,bd,y,J⟩:=S
 have O:(execOp (ev e) ⟨d,.call ⟨.value f,args.toArray,tys⟩,ty,ps,af,none⟩).run P w=.ok (.round l fn z sg bd) w:=by
  simp[execOp,resolve,L,Deferred.ofValue,invoke,I,y]
 rw[BW rfl];unfold tq;rw[O];exact⟨rfl,J.mono λU w'⟨v,he,D⟩=>⟨v,he,h v w' D⟩⟩
end
def Ih(D:Nat):Deferred:={ target:=.collected D,args:=#[] }
def AU(P:Program)(N:Nat)(c:Code)(Qn:Exit->(Nat->Value)->World->Prop)(Qm:Nat->Exit->(Nat->Value)->World->Prop)(e:Nat->Value)(w:World):Prop :=
 kS N c=true->∀a,oo N [] e a->c.wpIn (wF none) 0 P (λx a' w'=>(∃e',oo N [] e' a'/\Qn x e' w')\/∃e' D,oo N [Ih D] e' a'/\Qm D x e' w') a w
def YK(Q:Exit->(Nat->Value)->World->Prop):Exit->(Nat->Value)->World->Prop
 |.normal,_,_=>False
 |x,e,w=>Q x e w
def RF(P:Program)(N:Nat)(g:Operand)(ps:Array Tmp)(sg bd:Code)(K:Nat->(Nat->Value)->World->Prop)(e:Nat->Value)(w:World):Prop :=
 ∀a,oo N [] e a->(Code.rangeFunc g ps sg bd).wpIn (wF none) 0 P (λx a' w'=>x=.normal/\∃D,oo N [Ih D] e a'/\K D e w') a w
theorem vk{x y:Code}(h:CW P N x (wY (AU P N y Qn Qm) Qn) e w):AU P N (.seq x y) Qn Qm e w:=λz a J=>by
 simp only[kS,cM]at z;refine we (ll (h z.1 [] a J none) ?_);rintro L a' w' ⟨I,v,D⟩;cases L<;>first|exact D z.2 a' v|exact .inl ⟨I,v,D⟩
theorem Gm{x y:Code}(h:AU P N x (YK Qn) (λD=>wY (CW P N y (Qm D)) (Qm D)) e w):AU P N (.seq x y) Qn Qm e w:=λJ a V=>by
 simp only[kS,cM]at J;refine we (ll (h J.1 a V) ?_);rintro S a' w' (⟨I,v,z⟩|⟨I,D,v,z⟩)
 ·cases S<;>first|exact z.elim|exact .inl ⟨I,v,z⟩
 ·cases S<;>first|exact .inr ⟨I,D,v,z⟩|skip
  refine ll (z J.2 [Ih D] a' v none) ?_;rintro x2 a2 Z ⟨U,O,L⟩;exact .inr ⟨U,D,O,L⟩
theorem Gn{id:Nat}{g:Operand}{ps:Array Tmp}(h:RF P N g ps sg bd (λD e w=>Qm D .normal e w) e w):AU P N (.block id (.rangeFunc g ps sg bd)) Qn Qm e w:=λ_ a z=>by
 refine wpIn_block (ll (h a z) ?_);rintro x a' w' ⟨rfl,D,v,y⟩;exact .inr ⟨e,D,v,y⟩
def QM(P:Program)(rs:Array ResultVar)(R:Value->World->Prop)(D:Nat):Exit->(Nat->Value)->World->Prop
 |.normal,e,w|.ret,e,w=>w.heap[D]?=some (.deferred (some []))/\P4 P R rs e (w.putObj D (.deferred none))
 |_,_,_=>False
theorem PH(h:QF P rs R .ret e w):P4 P R rs e w:=h
theorem PI{D:Nat}{L:List HA}(S:St F W w L)(hi:gi L i=some (.obj D (.deferred (some []))))(v:j7 L i (.obj D (.deferred none))=some L')(h:∀w',St F W w' L'->P4 P R rs e w'):QM P rs R D .ret e w :=
 ⟨S.ok hi,h _ (S.putObj hi v)⟩
theorem CH{c:Code}{args:List Value}(hf:P.funcs[f]?=some fn)(hb:fn.body=some c)(U:fn.results=rs)(S:fn.ntmps=N)(J:o7 P f=true)(L:(kS N c&&Nat.ble args.length N)=true)(h:AU P N c (QF P rs R) (QM P rs R) (qJ args) w):Fn P f args w R:=by
 simp only[cM]at L;have ab:args.length<=N:=eC L.2;refine⟨J,xG.1 (callsIn_of_wp_marks (F:=Fence.wide) (n:=0) hf hb trivial ?_)⟩;refine ll (h L.1 _ ⟨rfl,by simp[S];omega,λk=>?_⟩) ?_
 ·simp only[qJ,cO,dN,n5,nS,nZ,S];split
  ·rfl
  ·rename_i aa;rw[dZ om];simp only[mR];split<;>rfl
 ·rintro x a' w' (⟨V,y,z⟩|⟨V,D,y,z⟩)
  ·cases x<;>first|exact z.elim|skip
   all_goals
    obtain⟨v,O,I⟩:=z;show LeavesInM _ _ _ _ _ _ _ _ _;rw[y.defers];exact⟨v,O fn _ U y.get,v,rfl,I⟩
  ·cases x<;>first|exact z.elim|skip
   all_goals
    obtain⟨Z,v,O,I⟩:=z;show LeavesInM _ _ _ _ _ _ _ _ _;rw[y.defers];exact⟨by simp,.inl ⟨D,_,rfl,run_takeDeferred Z,v,O fn _ U y.get,v,rfl,I⟩⟩
def PJ(e:Nat->Value):List (Nat×Value)->Nat->Value
 |[]=>e
 |(p,v)::r=>PJ (yP e p v) r
theorem oo.updL {N : Nat} {df : List Deferred} : ∀ (l : List (Nat × Value)) {e : Nat → Value} {a : Act}, oo N df e a → (l.all fun p => Nat.blt p.1 N) = true → oo N df (PJ e l) { a with tmps := l.foldl (fun t (p, v) => t.setIfInBounds p v) a.tmps }
  | [], _, _, h, _ => h
  | (p, v) :: r, e, a, h, hd => by
    simp only [kB, cM] at hd
    exact oo.updL r (h.put (d := some p) hd.1 v) hd.2
section
variable{g:Operand}{ps:Array Tmp}{K:Nat->(Nat->Value)->World->Prop}
theorem PK{σ:Type}{gf:FuncId}{lb:List Value}(z:σ->List HA->Prop)(y:σ->List Value->σ->Prop)(ab:σ->Prop)(s0:σ)(hg:ev e g=.func (.func gf) #[] lb.toArray)(ak:o7 P gf=true)(O:(kS N sg&&kS N bd&&ps.toList.all (λp=>Nat.blt p N))=true)(aa:σ->σ->(Nat->Value)->List HA->Prop)(h0:z s0 L0)(S:St F W w L0)(ac:∀s vs s',y s vs s'->vs.length=ps.size)(am:∀(l:Nat)(J:σ->World->Prop)(w1:World),(∀s w w',J s w->Gr w w'->J s w')->(∀s w,J s w->∃L,z s L/\∃o d:HA,St F W w (o::d::L))->J s0 w1->(∀s vs s' w,y s vs s'->J s w->NO P l vs w λv w'=>v=.bool true/\J s' w') ->
   Fn P gf (.func (.yield l) #[] #[]::lb) w1 λ_ w'=>∃s,ab s/\J s w')(aq:∀(o d:HA)(s:σ)(vs:List Value)(s':σ)(w:World)(L:List HA),y s vs s'->z s L->St F W w (o::d::L)->CW P N sg (wY (λe' w'=>∃L',aa s s' e' L'/\St F W w' (o::d::L')) λ_ _ _=>False) (PJ e (ps.toList.zip vs)) w)(aj:∀(o d:HA)(s s':σ)(e':Nat->Value)(w:World)(L:List HA),aa s s' e' L->St F W w (o::d::L)->CW P N bd (wY (λ_ w'=>∃L',z s' L'/\St F W w' (o::d::L')) λ_ _ _=>False) e' w)(hK:∀(l D:Nat)(o:Obj)(s:σ)(w':World)(L:List HA),ab s->z s L->St F W w' (.obj l o::.obj D (.deferred (some []))::L)->K D e w'):RF P N g ps sg bd K e w:=by
 intro a Z;simp only[cM]at O;refine wpIn_rangeFunc λfn _=>?_;have S1:=S.pushObj (.deferred (some []));have S2:=S1.pushObj (.loop { state:=.ready,pending:=none,fn,tmps:=a.tmps,params:=ps,assign:=sg,body:=bd,defers:=w.heap.size });rw[World.size_alloc]at S2;generalize ai:(w.alloc (.deferred (some []))).alloc (.loop { state:=.ready,pending:=none,fn,tmps:=a.tmps,params:=ps,assign:=sg,body:=bd,defers:=w.heap.size })=W1 at S2;have U:=run_enterLoop_outer (P:=P) (w:=w) fn a.tmps ps sg bd;rw[ai]at U;generalize w.heap.size+1=l at *;generalize w.heap.size=D at *;have eg:∀args w,(callFunc gf args).run P w=.ok (.enter gf args) w:=λargs w=>iX ak args w;let I:LoopState->Obj:=λst=>.loop { state:=st,pending:=none,fn,tmps:=a.tmps,params:=ps,assign:=sg,body:=bd,defers:=D };let J:σ->World->Prop:=λs w'=>∃L,z s L/\St F W w' (.obj l (I .ready)::.obj D (.deferred (some []))::L)
 have ah:∀s vs s' w,y s vs s'->J s w->NO P l vs w λv w'=>v=.bool true/\J s' w':=by
  rintro s vs s' w2 ae ⟨L,V,T⟩;have hl:=T.ok (i:=0) rfl;have hy:=run_yield (P:=P) (args:=vs.toArray) hl (by simpa using ac s vs s' ae);refine⟨fn,_,sg,bd,hy,roundIn_of_wpIn (F:=Fence.wide) trivial ?_⟩
  have ad:oo N [] (PJ e (ps.toList.zip vs)) { tmps:=(ps.zip vs.toArray).foldl (λt(p,v)=>t.setIfInBounds p v) a.tmps,defers:=[] }:=by
   have h1:=oo.updL (ps.toList.zip vs) (a:={ tmps:=a.tmps,defers:=[] }) ⟨rfl,Z.size,Z.get⟩ (dh.2 λp hp=>dh.1 O.2 p.1 (List.of_mem_zip hp).1)
   have h2:(ps.zip vs.toArray).foldl (λt(p,v)=>t.setIfInBounds p v) a.tmps=(ps.toList.zip vs).foldl (λt(p,v)=>t.setIfInBounds p v) a.tmps:=by
    rw[<-Array.foldl_toList];simp
   rw[h2];exact h1
  refine ll (aq _ _ s vs s' w2 L ae V T O.1.1 [] _ ad (some l)) ?_;rintro x a1 w3 ⟨e1,ap,hq⟩;cases x<;>first|exact hq.elim|skip
  obtain⟨L1,hM,T1⟩:=hq;have an:=T1.ok (i:=0) rfl;refine⟨_,run_beginRound an rfl,?_⟩;have T2:St F W (w3.putObj l (I .busy)) (.obj l (I .busy)::.obj D (.deferred (some []))::L1):=T1.putObj (i:=0) rfl rfl;refine ll (aj _ _ s s' e1 _ L1 hM T2 O.1.2 [] a1 ap (some l)) ?_;rintro x a2 w4 ⟨e2,ar,hq⟩;cases x<;>first|exact hq.elim|skip
  obtain⟨L2,ag,T3⟩:=hq;have ao:=T3.ok (i:=0) rfl;exact⟨_,_,run_endRound none ao,_,rfl,rfl,L2,ag,T3.putObj (i:=0) rfl rfl⟩
 have al:=am l J W1 (λs w w'⟨L,V,T⟩g=>⟨L,V,T.gr g⟩) (λs w⟨L,V,T⟩=>⟨L,V,_,_,T⟩) ⟨L0,h0,S2⟩ ah;refine⟨l,[Ih D],W1,{ target:=.fn (.func gf) lb.toArray,args:=#[.func (.yield l) #[] #[]] },W1,gf,#[.func (.yield l) #[] #[]]++lb.toArray,W1,U,?_,λ_ _=>trivial,?_,λh=>(by cases h),?_⟩
 ·have h1:ev e (.const (.func (.yield l) #[] #[]))=.func (.yield l) #[] #[]:=rfl;simp[resolve,Z.eval,hg,h1,Deferred.ofValue]
 ·simp[invoke,go_sem,eg]
 ·refine(xG (n:=0)).2 ?_;have h2:=al.2;rw[show(Value.func (.yield l) #[] #[]::lb).toArray=#[.func (.yield l) #[] #[]]++lb.toArray by simp]at h2;refine h2.mono ?_;rintro en w' ⟨v,rfl,s,hf,L,V,T⟩;have hl:=T.ok (i:=0) rfl;refine⟨none,_,run_endLoop hl (by simp),rfl,D,⟨?_,Z.size,Z.get⟩,hK l D _ s _ L hf V (T.putObj (i:=0) rfl rfl)⟩;show [Ih D]++a.defers=[Ih D];rw[Z.defers];rfl
end
theorem Ii{g:Operand}{ps:Array Tmp}{K:Nat->(Nat->Value)->World->Prop}(M:(Nat->Value)->Prop)(v:M e)(h:∀e,M e->RF P N g ps sg bd K e w):RF P N g ps sg bd K e w:=h e v
def rB(z:Nat)(x:Int):Nat:=if 0<z then 1+ur (z-1)else ur (sW x)
theorem wP{x:Int}(h:-4294967296<=x/\x<=4294967296):sW x<8589934593:=by
 unfold sW;split<;>omega
structure BK(V:List Int)(i z:Nat)(x:Int)(j:Nat):Prop where
 lt:i<j
 le:j<=V.length
 zl:z<=V.length
 xr:-4294967296<=x/\x<=4294967296
 eq:tN 0 (V.drop i)=rB z x+tN 0 (V.drop j)
def vR(V:List Int):Prop:=∀x∈V,-4294967296<=x/\x<=4294967296
theorem vR.at{V:List Int}(h:vR V)(i:Nat):-4294967296<=V.getD i 0/\V.getD i 0<=4294967296:=by
 rw[cO];rcases eV i V.length with hi|hi
 ·rw[ct hi];exact h _ (fY hi)
 ·rw[dZ hi];exact⟨by decide,by decide⟩
section
variable{V:List Int}
theorem Ij:Fn prog 289 [.slice A n c] W
  (λv w'=>∃b,v=.func (.func 301) (([]:List Value).toArray) [pt b].toArray/\eL w' b 27 [.slice A n c]/\W.heap.size<=b/\Gr W w'):=by
 have S:=St.start W;refine zI func289 ?_;refine zN ?_;intro y D z S;refine zX ?_;exact⟨y,rfl,S.blk (i:=0) rfl,(S.sep.1.2 _ rfl).resolve_left (λh=>h),S.out⟩
theorem Gp{l:Nat}(J:Nat->World->Prop)(hn:V.length<=16384)(hV:vR V)(O:∀k w w',J k w->Gr w w'->J k w')(hf:∀k w,J k w->eL w b 27 [.slice A V.length c]/\Rd w A (cY V))(hy:∀i z x j w,BK V i z x j->J i w->NO prog l [.agg #[ii (z:Nat),ii x]] w (λv w'=>v=.bool true/\J j w'))(h0:J 0 W) :
  Fn prog 301 ([.func (.yield l) #[] #[]]++[pt b]) W (λ_ w'=>J V.length w'):=by
 have U:∀j,j<V.length->(cY V)[(j:Int).toNat * 1]?=some (ii (V.getD j 0)):=λj hj=>by rw[cG,b7];exact gc (kr hj)
 have aj:=(hf 0 W h0).1;have S:=St.start W;refine zI func301 ?_;refine zg ?_;refine dl (λm e w=>∃i:Nat,i+m=V.length/\SL e [(0,.func (.yield l) #[] #[]),(1,pt b),(3,ii i)]/\J i w) V.length ⟨0,om,sl,O _ _ _ h0 S.out⟩ ?_;clear S aj;rintro m e w ⟨i,hi,am,hJ⟩;rw[am.fold];obtain⟨hB,hA⟩:=hf i w hJ;have G:=Gr.refl w;have S:=St.start w;by_cases ak:i<V.length
 ·have ap:dO A:=hA.someA (by rw[gn];omega);refine z ?_;refine dH (cV dk rfl rfl (hB.gr S.out) rfl) ?_;refine z ?_;refine zt ?_;refine zc ?_;refine jr rfl ?_;refine zc ?_;refine gO ?_;try show CW _ _ _ _ _ _
  refine zc ?_;refine k0 ?_;refine zc ?_;refine gP (M:=λe w'=>SL e [(0,.func (.yield l) #[] #[]),(1,pt b),(3,ii i),(4,ii i)]/\St No w w' []) ?_ ?_
  ·skip;refine zg ?_;exact⟨sl,S⟩
  ·rintro e1 w1 ⟨ah,S⟩;rw[ah.fold];show CW _ _ _ _ _ _;refine zc ?_;refine gP (M:=λe w'=>∃j:Nat,SL e [(0,.func (.yield l) #[] #[]),(1,pt b),(3,ii j),(4,ii i)]/\i<=j/\j<=V.length/\tN 0 (V.drop i)=tN (j-i) (V.drop j)/\(j<V.length->V.getD j 0≠0)/\St No w w' []) ?_ ?_
   ·skip;refine zg ?_
    refine dl (λm e w'=>∃j:Nat,j+m=V.length/\SL e [(0,.func (.yield l) #[] #[]),(1,pt b),(3,ii j),(4,ii i)]/\i<=j/\tN 0 (V.drop i)=tN (j-i) (V.drop j)/\St No w w' []) (V.length-i)
     ⟨i,om,sl,cN _,by rw[j8],S⟩ ?_
    clear S;rintro m2 e2 w2 ⟨j,hj,I,aa,L,S⟩;rw[I.fold];by_cases D:j<V.length
    ·have g1:=U j D;have hz:=λh0=>TB (l:=V) D h0 (j-i);by_cases ad:V.getD j 0=0
     ·rw[ad]at g1;refine zL (hB.gr S.out) ?_;refine zg ?_;exact⟨m2-1,om,j+1,om,sl,om,by rw[L,hz ad];congr 1;omega,S⟩
     ·have ao:=ad;generalize an:V.getD j 0=vj at *;refine zL (hB.gr S.out) ?_;refine zg ?_;exact⟨j,sl,aa,om,L,λ_=>by rw[an];exact ao,S⟩
    ·skip;refine zL (hB.gr S.out) ?_;refine zg ?_;exact⟨j,sl,aa,om,L,λh=>absurd h D,S⟩
   ·rintro e2 w2 ⟨j,I,aa,D,L,ae,S⟩;rw[I.fold];refine zg ?_
    have ag:tN (j-i) (V.drop j)=Du (j-i)+tN 0 (V.drop j):=VO λx r hx=>by
     have y:j<V.length:=by
      rcases eV j V.length with h|h
      ·exact h
      ·rw[nw h]at hx;cases hx
     rw[dX y]at hx;injection hx with h1 h2;have:=ae y;rw[cO,ct y]at this;rw[<-h1];exact this
    by_cases he:j=i
    ·subst he;have y:=ak;have g1:=U j y;have hx:=hV.at j;have h1:=TC y (ae y);have ab:BK V j 0 (V.getD j 0) (j+1):=⟨om,om,om,hx,by rw[h1];rfl⟩;have ac:=λw=>hy j 0 (V.getD j 0) (j+1) w ab;generalize V.getD j 0=vj at *;have e0:(j:Int)-j=((0:Nat):Int):=om;refine zg ?_;rw[e0];refine zN ?_;intro ai au aq S;refine d8 (i:=0) S rfl (sizeOf440 _) rfl rfl rfl rfl rfl rfl ?_;intro av S;refine z ?_;refine z ?_;refine zt ?_;refine zs ?_;refine dH (cV dk rfl rfl (hB.gr S.out) rfl) ?_;refine zT (hA.gr S.out) g1 ?_;refine zS ?_;intro aw S;refine Ig rfl rfl (ac _ (O _ _ _ hJ S.out)) ?_;rintro _ w5 ⟨rfl,Z⟩;refine zg ?_;exact⟨m-1,om,j+1,om,sl,Z⟩
    ·have e0:(j:Int)-i=((j-i:Nat):Int):=om
     have al:Du (j-i)=rB (j-i) 0:=by
      unfold Du rB;rw[a8 (show ¬j-i=0 by omega),a7 (show 0<j-i by omega)]
     have ab:BK V i (j-i) 0 j:=⟨om,D,om,om,by rw[L,ag,al]⟩;have ac:=λw=>hy i (j-i) 0 j w ab;generalize hz:j-i=z at *;refine zg ?_;rw[e0];refine zN ?_;intro ai az ar S;refine zS ?_;intro aA S;refine Ig rfl rfl (ac _ (O _ _ _ hJ S.out)) ?_;rintro _ w5 ⟨rfl,Z⟩;refine zg ?_;exact⟨V.length-j,om,j,om,sl,Z⟩
 ·obtain rfl:i=V.length:=om;refine z ?_;refine dH (cV dk rfl rfl (hB.gr S.out) rfl) ?_;refine zg ?_;exact na (O _ _ _ hJ S.out)
theorem Es(z:Nat)(x:Int)(hz:z<=16384)(V:-4294967296<=x/\x<=4294967296):Fn prog (290) [.agg #[ii z,ii x]] W (Cv id (rB z x) W):=by
 have hf:=wP V;unfold rB;have S:=St.start W;refine zI func290 ?_;by_cases U:0<z
 ·have e1:(z:Int)-1=((z-1:Nat):Int):=om;rw[a7 U];refine zN ?_;intro J ag ab S;refine zg ?_;refine yb S ?_;intro aa ah ac S Z;refine zg ?_;rw[e1];refine cq (dY (ks:=.i64) (n:=(z-1:Nat)) (kd:=.u64) (m:=(z-1:Nat)) dB dU rfl (re _ om)) ?_;refine zK (H4 (W:=_) (l:=[0]) (c:=1) (z-1) om (by simp) (.inr ⟨by simp,S.rd (i:=0) rfl⟩)) ?_;rintro _ ai ⟨l2,y,A2,c2,rfl,D,I,L⟩;have S:=S.pushRow D I L;refine zX ?_;exact⟨l2,y,S.retNew (i:=0) rfl⟩
 ·obtain rfl:z=0:=om;rw[a8 U];refine zN ?_;intro J aj ad S;refine zC (Ni x V) ?_;intro ak ae S;refine zK (H4 (W:=_) (A:=none) (c:=0) (l:=[]) (sW x) om (by simp) (.inl ⟨rfl,rfl,rfl⟩)) ?_;rintro _ al ⟨l2,y,A2,c2,rfl,D,I,O⟩;have S:=S.pushRow D I O;refine zg ?_;rw[sT,eH]at y;rw[sT,eH]at S;exact ir (v:=.slice A2 (ur (sW x)) c2) (by show some (Value.slice A2 (0+ur (sW x)) c2)=_;rw[eH]) ⟨l2,y,S.retNew (i:=0) (mk:=id) rfl⟩
theorem NP(hn:V.length<=16384)(hV:vR V)(hA:Rd W A (cY V)):Fn prog 266 [.slice A V.length c] W (dp (ii (tN 0 V)) W):=by
 have aj:=Dv (B:=5) V 0 (λx hx=>by have:=wP (hV x hx);exact us 4 _ om) om om;rw[a7 rfl]at aj;have ah:=λW z x hz hx=>Es (W:=W) z x hz hx;have S:=St.start W;refine CH func266 rfl results266 ntmps266 (by kernel_rfl) (by kernel_rfl) ?_;try show AU _ _ _ _ _ _ _
 refine vk ?_;refine zg ?_;try show AU _ _ _ _ _ _ _
 refine vk ?_;refine zN ?_;intro O aq an S;refine zS ?_;intro ar S;try show AU _ _ _ _ _ _ _
 refine Gm ?_;try show AU _ _ _ _ _ _ _
 refine vk ?_;refine zK (Ij) ?_;rintro _ au ⟨y,rfl,ag,ap,ad⟩;have S:=S.push ad (h:=.blk y _ _) ag (λg hg=>by have:g=y:=hg;omega);refine ze ?_;try show AU _ _ _ _ _ _ _
 have S:=S.sub (.cons_cons _ (.cons_cons _ (.slnil)));refine Gn ?_;refine Ii (λe=>SL e [(3,pt O),(6,.func (.func 301) (([]:List Value).toArray) [pt y].toArray)]) sl ?_;intro e ak;rw[ak.fold]
 refine PK (gf:=301) (lb:=[pt y])
  (λ(i:Nat)L=>∃I:Nat,I+tN 0 (V.drop i)=tN 0 V/\L=[.blk y 27 [.slice A V.length c],.blk O 3 [ii I]])
  (λi vs j=>∃(z:Nat)(x:Int),BK V i z x j/\vs=[.agg #[ii (z:Nat),ii x]]) (λi=>i=V.length) 0 rfl (by kernel_rfl) (by kernel_rfl)
  (λi j e L=>∃(z:Nat)(x:Int)(I aa:Nat),BK V i z x j/\I+tN 0 (V.drop i)=tN 0 V/\SL e [(3,pt O),(4,pt aa)]/\L=[.blk aa 440 [ii z,ii x],.blk y 27 [.slice A V.length c],.blk O 3 [ii I]])
  ⟨0,by rw[dR];omega,rfl⟩ S (by rintro k vs k' ⟨_,_,_,rfl⟩;rfl) ?_ ?_ ?_ ?_
 ·intro l J w1 ai hJ h0 hy;refine(Gp (c:=c) (A:=A) (V:=V) (W:=w1) (b:=y) (l:=l) J hn hV ai (λk w ab=>?_) (λi z x j w Z ab=>hy i _ j w ⟨z,x,Z,rfl⟩ ab) h0).mono (λ_ w' h=>⟨_,rfl,h⟩);obtain⟨L,⟨I,_,rfl⟩,o1,d1,S1⟩:=hJ k w ab;exact⟨S1.blk (i:=2) rfl,hA.gr S1.out⟩
 ·rintro ob db i vs j w2 L ⟨z,x,Z,rfl⟩ ⟨I,U,rfl⟩ S;show CW _ _ _ _ (yP _ 7 _) _;refine zN ?_;intro aa av ao S;refine zS ?_;intro aw S;exact⟨_,⟨z,x,I,aa,Z,U,sl,rfl⟩,S.perm_ ((tz _ _ _).trans (.cons _ (.swap _ _ _)))⟩
 ·rintro ob db i j e w2 L ⟨z,x,I,aa,Z,U,ac,rfl⟩ S;rw[ac.fold];have am:=Z.eq;have hz:=Z.zl;have hx:=Z.xr;refine zH (C:=(λσ wq=>CN No W [ob,db,.blk aa 440 [ii z,ii x],.blk y 27 [.slice A V.length c],.blk O 3 [ii I]] (λv h=>∃A2 c2 l2,v=.slice A2 (rB z x) c2/\h=.row 5 1 A2 (rB z x) c2 l2) wq σ)) [2] [0,1,2,3] [4,5] (S.gr (Gr.drew _)) ?_;refine zV (λτ wq hq=>((CN.st hq).blk (i:=4) rfl)) ?_;refine zV (λτ wq hq=>((CN.st hq).blk (i:=2) rfl)) ?_;refine de rfl rfl (λwq hq=>l4 rfl ((ah wq z x om hx).mono λv w'⟨l2,hl2,A2,c2,hv,hR2,hf2,g⟩=>⟨_,⟨A2,c2,f9 l2,hv,rfl⟩,St.pushRow (show St No W wq _ from hq) hR2 hf2 g⟩)) ?_;rintro v2 w5 ⟨_,⟨A2,c2,l2,rfl,_⟩,_⟩;refine zY ?_;rintro wz al;obtain⟨_,⟨A3,c3,l3,e3,rfl⟩,S⟩:=al;cases e3
  refine zS ?_;intro az S;exact⟨_,⟨I+rB z x,om,rfl⟩,by simpa using S.sub (.cons _ (.cons_cons _ (.cons_cons _ (.cons _ (.cons_cons _ (.cons_cons _ .slnil))))))⟩
 ·rintro l D ob k w2 L rfl ⟨I,U,rfl⟩ S;rw[List.drop_length]at U;have ae:tN 0 []=0:=rfl;show CW _ _ _ _ _ _;refine z ?_;refine z ?_;refine zq ?_;refine PI S (i:=1) rfl rfl λw' S'=>?_;exact PH (ir rfl ⟨by rw[<-U,ae,eW],S'.out⟩)
theorem PL{z:Nat}{x:Int}(J:z<=16384)(v:-4294967296<=x/\x<=4294967296):1<=rB z x/\rB z x<=5:=by
 have h1:=Dt (z-1);have h2:=Dt (sW x);have y:=wP v;have D:=us 4 (sW x) om;have I:=us 1 (z-1) om;unfold rB;split<;>omega
theorem NQ{l:List Int}(hn:V.length<=16384)(hV:vR V)(hA:Rd W A (cY V))(hl:0<l.length/\l.length<=1048576)(hB:Rd W B (f9 l)) :
  Fn prog 270 [.slice B l.length cB,.slice A V.length c] W (Cv id (l.length+tN 0 V) W):=by
 have ap:=Dv (B:=5) V 0 (λx hx=>by have:=wP (hV x hx);exact us 4 _ om) om om;rw[a7 rfl]at ap;have an:=λW z x hz hx=>Es (W:=W) z x hz hx;have S:=St.start W;refine CH func270 rfl results270 ntmps270 (by kernel_rfl) (by kernel_rfl) ?_;try show AU _ _ _ _ _ _ _
 refine vk ?_;refine zN ?_;intro I aH aC S;refine zg ?_;try show AU _ _ _ _ _ _ _
 refine vk ?_;refine zK (AF (c:=cB) hl.1 om (hB.gr S.out)) ?_;rintro _ aI ⟨ad,ae,rfl,ab,ac,ak⟩;have S:=S.pushRow ab ac ak;refine zS ?_;intro aJ S;try show AU _ _ _ _ _ _ _
 refine Gm ?_;try show AU _ _ _ _ _ _ _
 refine vk ?_;refine zK (Ij) ?_;rintro _ aK ⟨y,rfl,am,aF,al⟩;have S:=S.push al (h:=.blk y _ _) am (λg hg=>by have:g=y:=hg;omega);refine ze ?_;try show AU _ _ _ _ _ _ _
 have S:=S.sub (.cons_cons _ (.cons_cons _ (.cons_cons _ (.slnil))));have S:=S.perm_ (.cons _ (.swap _ _ _));refine Gn ?_;refine Ii (λe=>SL e [(2,pt I),(9,.func (.func 301) (([]:List Value).toArray) [pt y].toArray)]) sl ?_;intro e au;rw[au.fold]
 refine PK (gf:=301) (lb:=[pt y])
  (λ(i:Nat)L=>∃(lc:List Int)(A2:Option Addr)(c2:Nat),lc.length+tN 0 (V.drop i)=l.length+tN 0 V/\L=[.blk y 27 [.slice A V.length c],.blk I 37 [.slice A2 lc.length c2],.row 5 1 A2 lc.length c2 (f9 lc)])
  (λi vs j=>∃(z:Nat)(x:Int),BK V i z x j/\vs=[.agg #[ii (z:Nat),ii x]]) (λi=>i=V.length) 0 rfl (by kernel_rfl) (by kernel_rfl)
  (λi j e L=>∃(z:Nat)(x:Int)(lc:List Int)(A2:Option Addr)(c2 Z:Nat),BK V i z x j/\lc.length+tN 0 (V.drop i)=l.length+tN 0 V/\SL e [(2,pt I),(5,pt Z)]/\L=[.blk Z 440 [ii z,ii x],.blk y 27 [.slice A V.length c],.blk I 37 [.slice A2 lc.length c2],.row 5 1 A2 lc.length c2 (f9 lc)])
  ⟨l,ad,ae,by rw[dR],rfl⟩ S (by rintro k vs k' ⟨_,_,_,rfl⟩;rfl) ?_ ?_ ?_ ?_
 ·intro l J w1 ao hJ h0 hy;refine(Gp (c:=c) (A:=A) (V:=V) (W:=w1) (b:=y) (l:=l) J hn hV ao (λk w aa=>?_) (λi z x j w O aa=>hy i _ j w ⟨z,x,O,rfl⟩ aa) h0).mono (λ_ w' h=>⟨_,rfl,h⟩);obtain⟨L,⟨lc,A2,c2,_,rfl⟩,o1,d1,S1⟩:=hJ k w aa;exact⟨S1.blk (i:=2) rfl,hA.gr S1.out⟩
 ·rintro ob db i vs j w2 L ⟨z,x,O,rfl⟩ ⟨lc,A2,c2,U,rfl⟩ S;show CW _ _ _ _ (yP _ 10 _) _;refine zN ?_;intro Z aL aD S;refine zS ?_;intro aM S;exact⟨_,⟨z,x,lc,A2,c2,Z,O,U,sl,rfl⟩,S.perm_ ((tz _ _ _).trans (.cons _ (.swap _ _ _)))⟩
 ·rintro ob db i j e w2 L ⟨z,x,lc,A2,c2,Z,O,U,ah,rfl⟩ S;rw[ah.fold];have az:=O.eq;have hz:=O.zl;have hx:=O.xr;have aG:=PL (z:=z) (x:=x) om hx;refine zH (C:=(λσ wq=>CN No W [ob,db,.blk Z 440 [ii z,ii x],.blk y 27 [.slice A V.length c],.blk I 37 [.slice A2 lc.length c2],.row 5 1 A2 lc.length c2 (f9 lc)] (λv h=>∃A2 c2 l2,v=.slice A2 (rB z x) c2/\l2.length=rB z x/\h=.row 5 1 A2 (rB z x) c2 (f9 l2)) wq σ)) [2] [0,1,2] [3,4] (S.gr (Gr.drew _)) ?_;refine zV (λτ wq hq=>((CN.st hq).blk (i:=4) rfl)) ?_;refine zV (λτ wq hq=>((CN.st hq).blk (i:=2) rfl)) ?_;refine de rfl rfl (λwq hq=>l4 rfl ((an wq z x om hx).mono λv w'⟨l2,hl2,A2,c2,hv,hR2,hf2,g⟩=>⟨_,⟨A2,c2,l2,hv,hl2,rfl⟩,St.pushRow (show St No W wq _ from hq) hR2 hf2 g⟩)) ?_;rintro v2 w5 ⟨_,⟨A3,c3,l2,rfl,_,_⟩,_⟩;refine zY ?_;rintro wz av;obtain⟨_,⟨A4,c4,l3,e3,ag,rfl⟩,S⟩:=av;cases e3
  have ar:=F6 l3;have aq:=m4 l3;refine fM (i:=6) S rfl (λh=>rfl) dg nN rfl rfl rfl rfl (by rw[aq,ag,cG]) om (S.rd (i:=0) rfl) ar om ?_;intro ai aj aA S aw;refine zS ?_;intro aB S;rw[KS]at S;have e5:lc.length+rB z x=(lc++l3).length:=by rw[cP,ag]
  rw[e5]at S;exact⟨_,⟨lc++l3,ai,aj,by rw[<-e5];omega,rfl⟩,S.sub (.cons _ (.cons_cons _ (.cons_cons _ (.cons _ (cQ _)))))⟩
 ·rintro lp D ob k w2 L rfl ⟨lc,A2,c2,U,rfl⟩ S;rw[List.drop_length]at U;have aE:tN 0 []=0:=rfl;show CW _ _ _ _ _ _;refine z ?_;refine z ?_;refine zq ?_;refine PI S (i:=1) rfl rfl λw' S'=>?_;have e6:lc.length=l.length+tN 0 V:=om;exact PH (ir rfl ⟨lc,e6,e6▸S'.retNew (i:=4) rfl⟩)
end
end Go.Proofs.YtjfeklflkikapaaGreatDoor
