/- A part of the proof that hachuretop.WholeCharts and hachuretop.WholeWater returns true at every input; no condition. -/
import Derived.Test.YtcalhocphkbbgaaGreatDoorKT
set_option maxRecDepth 100000
set_option maxHeartbeats 16000000
set_option linter.unusedVariables false
set_option linter.unusedSimpArgs false
namespace Go.Proofs.YtcalhocphkbbgaaGreatDoor
open Go.Proofs.Tryz Go.RowKit
variable{Q:(Nat->Value)->World->Prop}{af:Array Edge}{ops:Array Oper}{rs:Array ResultVar}{Q':Exit->Act->World->Prop}{f:FuncId}{h h':HA}{Y a e0:Int}{es:List (Int × Int)}{σ:List (Nat × Value)}{K:List (Nat × Value)->Act->Prop}{M T:List HA}{V' V2:List Int}{ks:List Nat}{l l2 xs ys:List Value}{N b bytes c c1 c2 cB cK el g gh gw i i2 k k2 kind m n p p2 q tb x0 x1 y0 y1:Nat}{c' c0 cc:Nat->Int}{bs:Nat->Nat}{F X:Nat->Prop}{e:Nat->Value}{o:m5}{hi x:Operand}{A A1 A2 B B2:Option Addr}{d:Option Tmp}{P:Program}{r:Rc}{s:lT}{t t' ty:TypeId}{u v1 v2:Value}{R2:Value->Prop}{R:Value->World->Prop}{W W' w w' w0 wq:World}{C:World->Prop}
section
variable{w:Nat}{l V:List Int}
theorem Wq(x y:Nat)(I:y*w+x<V.length)(U:V.length<=1048576)(L:Rd W A (cY V)):Fn prog 251 [.slice A V.length c,ii w,ii x,ii y] W (dp (ii (V.getD (y*w+x) 0)) W):=by
 have D:dO A:=L.someA (by rw[gn];omega);have J:(y:Int)*w=((y*w:Nat):Int):=by push_cast;rfl
 have O:((y*w:Nat):Int)+x=((y*w+x:Nat):Int):=by push_cast;rfl
 have v:(cY V)[((y*w+x:Nat):Int).toNat * 1]?=some (ii (V.getD (y*w+x) 0)):=by rw[cG,b7];exact gc (kr I)
 generalize y*w=q at *;have S:=St.start W;refine zI func251 ?_;iterate 4 refine z ?_
 refine dU (fh rfl (by rw[J];omega)) ?_;rw[J];refine z ?_;refine zr ?_;rw[O];refine dU (sj fZ cR rfl rfl D om om) ?_;refine dH (eI iY rfl rfl (L.gr S.out) v) ?_;exact zZ
def Wr(W:World)(v:Value)(w':World):Prop:=∃g:Int,(-2147483648<=g/\g<=2147483647)/\v=ii g/\Gr W w'
theorem RC(kind i:Nat)(hk:kind<=2)(hw:1<=w)(hi:i=V.length)(hm:V.length<=1048576)(ar:w<=16)(hV:vM V)(v:Rd W A (cY V)) :
  Fn prog 165 [ii kind,.slice A V.length c,ii w,ii i] W (Wr W):=by
 have em:(i:Int)%w=((i%w:Nat):Int):=by push_cast;rfl
 have ed:(i:Int)/w=((i/w:Nat):Int):=by push_cast;rfl
 have ao:i=i/w*w+i%w:=by rw[cD];exact(dP i w).symm
 have au:i%w<w:=dt _ hw;have ag:=λW v(x y:Nat)hlt=>Wq (W:=W) (A:=A) (c:=c) (w:=w) (V:=V) x y hlt hm v;have hv:=λq=>hV.at q;have av:i/w<=1048576:=dE (sR i w) om;generalize i%w=x at *;generalize i/w=y at *;have aj:∀q,y=q+1->y*w=q*w+w:=λq h=>by rw[h,cX]
 rcases fv (kind=0\/(x=0/\y=0))with h0|h0
 ·rcases fv (kind=0)with h1|h1
  all_goals
   have S:=St.start W;refine zI func165 ?_;refine zD [0,1,2,3,4,5,6,7] [] ?_;rw[em];refine zQ ?_;rw[ed];refine zE ?_;intro L J S;exact ir rfl ⟨0,om,rfl,S.out⟩
 ·rcases x with _|p
  ·obtain⟨q,rfl⟩:∃q,y=q+1:=⟨y-1,om⟩;have hq:=aj q rfl;have D:((q+1:Nat):Int)-1=(q:Nat):=om;have hr:=hv (q*w+0);have ha:=λW v=>ag W v 0 q om;generalize V.getD (q*w+0) 0=z at *;have S:=St.start W;refine zI func165 ?_;refine zD [0,1,2,3,4,5,6,7] [] ?_;rw[em];refine zQ ?_;rw[ed];refine zE ?_;intro L J S;rw[D];refine zC (ha _ (v.gr S.out)) ?_;intro Z O S;refine zX ?_;exact⟨z,hr,rfl,S.out⟩
  ·have I:((p+1:Nat):Int)-1=(p:Nat):=om;have an:=hv (y*w+p);have U:=λW v=>ag W v p y om;generalize V.getD (y*w+p) 0=zl at *;rcases fv (kind=1\/y=0)with h2|h2
   ·rcases fv (kind=1)with h3|h3
    all_goals
     have S:=St.start W;refine zI func165 ?_;refine zD [0,1,2,3,4,5,6,7] [] ?_;rw[em];refine zQ ?_;rw[ed];refine zE ?_;intro L J S;rw[I];refine zC (U _ (v.gr S.out)) ?_;intro Z O S;refine zX ?_;exact⟨zl,an,rfl,S.out⟩
   ·obtain⟨q,rfl⟩:∃q,y=q+1:=⟨y-1,om⟩;have hq:=aj q rfl;have D:((q+1:Nat):Int)-1=(q:Nat):=om;have ap:=hv (q*w+(p+1));have aq:=hv (q*w+p);have aa:=λW v=>ag W v (p+1) q om;have ab:=λW v=>ag W v p q om;generalize V.getD (q*w+(p+1)) 0=za at *;generalize V.getD (q*w+p) 0=zb at *;rcases fv (zl+za-zb<zl/\zl+za-zb<za)with ak|ak
    ·rcases fv (zl<za)with ac|ac
     ·skip;have S:=St.start W;refine zI func165 ?_;refine zD [0,1,2,3,4,5,6,7] [] ?_;rw[em];refine zQ ?_;rw[ed];refine zE ?_;intro L J S;rw[I];refine zC (U _ (v.gr S.out)) ?_;intro Z O S;refine zg ?_;rw[D];refine zC (aa _ (v.gr S.out)) ?_;intro ah ad S;refine zg ?_;rw[I];refine zg ?_;rw[D];refine zC (ab _ (v.gr S.out)) ?_;intro ai ae S;refine zX ?_;exact⟨zl,om,rfl,S.out⟩
     ·skip;have S:=St.start W;refine zI func165 ?_;refine zD [0,1,2,3,4,5,6,7] [] ?_;rw[em];refine zQ ?_;rw[ed];refine zE ?_;intro L J S;rw[I];refine zC (U _ (v.gr S.out)) ?_;intro Z O S;refine zg ?_;rw[D];refine zC (aa _ (v.gr S.out)) ?_;intro ah ad S;refine zg ?_;rw[I];refine zg ?_;rw[D];refine zC (ab _ (v.gr S.out)) ?_;intro ai ae S;refine zX ?_;exact⟨za,om,rfl,S.out⟩
    ·rcases fv (zl<zl+za-zb/\za<zl+za-zb)with al|al
     ·rcases fv (za<zl)with ac|ac
      ·skip;have S:=St.start W;refine zI func165 ?_;refine zD [0,1,2,3,4,5,6,7] [] ?_;rw[em];refine zQ ?_;rw[ed];refine zE ?_;intro L J S;rw[I];refine zC (U _ (v.gr S.out)) ?_;intro Z O S;refine zg ?_;rw[D];refine zC (aa _ (v.gr S.out)) ?_;intro ah ad S;refine zg ?_;rw[I];refine zg ?_;rw[D];refine zC (ab _ (v.gr S.out)) ?_;intro ai ae S;refine zX ?_;exact⟨zl,om,rfl,S.out⟩
      ·skip;have S:=St.start W;refine zI func165 ?_;refine zD [0,1,2,3,4,5,6,7] [] ?_;rw[em];refine zQ ?_;rw[ed];refine zE ?_;intro L J S;rw[I];refine zC (U _ (v.gr S.out)) ?_;intro Z O S;refine zg ?_;rw[D];refine zC (aa _ (v.gr S.out)) ?_;intro ah ad S;refine zg ?_;rw[I];refine zg ?_;rw[D];refine zC (ab _ (v.gr S.out)) ?_;intro ai ae S;refine zX ?_;exact⟨za,om,rfl,S.out⟩
     ·rcases fv (zl+za-zb<zl)with ac|ac
      all_goals
       rcases fv (zl<zl+za-zb)with am|am
      all_goals
       first
        |(exfalso;omega)
        |skip
      all_goals
       have S:=St.start W;refine zI func165 ?_;refine zD [0,1,2,3,4,5,6,7] [] ?_;rw[em];refine zQ ?_;rw[ed];refine zE ?_;intro L J S;rw[I];refine zC (U _ (v.gr S.out)) ?_;intro Z O S;refine zg ?_;rw[D];refine zC (aa _ (v.gr S.out)) ?_;intro ah ad S;refine zg ?_;rw[I];refine zg ?_;rw[D];refine zC (ab _ (v.gr S.out)) ?_;intro ai ae S;refine zX ?_;exact⟨zl+za-zb,om,rfl,S.out⟩
theorem Lz(kind:Int)(n:Nat)(D:1<=w)(y:n%w=0):Fn prog 164 [ii kind,ii w,ii n] W (dp (.bool (decide (kind=0\/kind=1\/kind=2))) W):=by
 have v:(n:Int)%w=0:=by rw[show(n:Int)%w=((n%w:Nat):Int)by push_cast;rfl,y];rfl
 rcases fv (kind=0\/kind=1\/kind=2)with h|h
 ·rw[fD h];rcases h with rfl|rfl|rfl
  all_goals
   have S:=St.start W;refine zI func164 ?_;refine z ?_;refine z ?_;first|refine dU (ff (b:=true) rfl (fX.2 om)) ?_|refine dU (ff (b:=false) rfl (et.2 om)) ?_|refine dU (jx rfl) ?_
   refine z ?_;refine z ?_;first|refine eD rfl ?_|(refine dr rfl ?_;(first|refine dU (ff (b:=true) rfl (fX.2 om)) ?_|refine dU (ff (b:=false) rfl (et.2 om)) ?_|refine dU (jx rfl) ?_))
   iterate 3 refine z ?_
   first|refine eD rfl ?_|(refine dr rfl ?_;(first|refine dU (ff (b:=true) rfl (fX.2 om)) ?_|refine dU (ff (b:=false) rfl (et.2 om)) ?_|refine dU (jx rfl) ?_))
   (iterate 3 refine z ?_);refine zt ?_;(iterate 3 refine z ?_);refine zt ?_;iterate 4 refine z ?_
   refine dr rfl ?_;refine zg ?_;rw[v];exact zZ
 ·rw[iO h];have S:=St.start W;refine zI func164 ?_;exact zZ
theorem LA(kind:Int)(hw:1<=w/\w<=16)(hn:V.length%w=0)(hm:V.length<=1048576)(I:Rd W A (cY V)) :
  Fn prog 91 [ii kind,.slice A V.length c,ii w] W (λv w'=>∃(B:Option Addr)(nB cB:Nat)(e:Int)(Q:List HA),v=.tuple #[.slice B nB cB,ii e]/\St No W w' Q/\(e=0->∃R:List Int,R.length=nB/\R.length<=1048576/\Q=[.row 2 1 B nB cB (cY R)])):=by
 have D:=λW=>Lz (W:=W) kind V.length hw.1 hn;have Z:∀{i:Nat},i<V.length->(cY V)[(i:Int).toNat * 1]?=some (ii (V.getD i 0)):=λh=>by rw[cG,b7];exact gc (kr h)
 generalize hN:V.length=N at *;rcases fv (kind=0\/kind=1\/kind=2)with hk|hk
 ·rw[fD hk]at D;obtain⟨kd,rfl⟩:=cJ (show 0<=kind by omega);have S:=St.start W;refine zI func91 ?_;refine zC (D W) ?_;intro ai ad S;refine zg ?_;refine mv fZ cR S ?_;intro ak ao al S ac;refine zg ?_
  refine dl (λm e w'=>∃(i:Nat)(R:List Int)(B:Option Addr)(cB:Nat),i+m=N/\R.length=i/\vM R/\SL e [(0,ii kd),(1,.slice A N c),(2,ii w),(8,.slice B i cB),(9,ii i)]/\St No W w' [.row 2 1 B i cB (cY R)]) N
   ⟨0,[],_,_,om,rfl,(λx hx=>by cases hx),sl,S⟩ ?_
  clear S;rintro m e w2 ⟨i,R,B,cB,hi,y,hR,ag,S⟩;rw[ag.fold];rcases fv (i<N)with ab|ab
  ·have J:dO A:=I.someA (by rw[gn];omega);have U:=Z ab;have aa:=λW' I=>RC (W:=W') (A:=B) (c:=cB) (w:=w) (V:=R) kd i om hw.1 y.symm om hw.2 hR I;rw[y]at aa;generalize V.getD i 0=r at *;refine zK (aa w2 (S.rd (i:=0) rfl)) ?_;rintro _ ap ⟨g,an,rfl,ae⟩;have S:=S.gr ae;refine z ?_;refine ze ?_;rcases fv (r>2147483647-g)with h1|h1
   ·skip;repeat refine dm ?_
    refine dz ?_;iterate 2 refine dU (jx rfl) ?_
    refine dU (sj fZ cR rfl rfl J om om) ?_;refine dH (eI iY rfl rfl (I.gr S.out) U) ?_;refine zX ?_;exact⟨_,_,_,7,_,rfl,S,λh=>absurd h (by decide)⟩
   ·rcases fv (r < -2147483648-g)with h2|h2
    ·skip;repeat refine dm ?_
     refine dz ?_;iterate 2 refine dU (jx rfl) ?_
     refine dU (sj fZ cR rfl rfl J om om) ?_;refine dH (eI iY rfl rfl (I.gr S.out) U) ?_;refine zX ?_;exact⟨_,_,_,7,_,rfl,S,λh=>absurd h (by decide)⟩
    ·skip;refine zT (I.gr S.out) U ?_;refine z ?_;refine zr ?_;refine zf ?_;(iterate 3 refine z ?_);refine zx ?_;first|refine eD rfl ?_|(refine dr rfl ?_;refine dH (eI iY rfl rfl (I.gr S.out) U) ?_)
     refine z ?_;refine zr ?_;refine zf ?_;(iterate 5 refine z ?_);refine zx ?_;refine dH (eI iY rfl rfl (I.gr S.out) U) ?_;refine zg ?_;refine yb S ?_;intro aj aq am S ah;refine ZP 1 0 S ?_;intro L O ar S ac;refine zg ?_;have S:=S.drop 1;rw[show cY R++[ii (g+r)]=cY (R++[g+r])by simp[cY]]at S
     exact⟨m-1,om,i+1,R++[g+r],L,O,om,by simp[y],(λx hx=>by
      rcases ez.1 hx with h|h
      ·exact hR x h
      ·rw[dM.1 h];omega),sl,S⟩
  ·skip;refine zX ?_;exact⟨_,_,_,0,_,rfl,S,λ_=>⟨R,y,om,rfl⟩⟩
 ·rw[iO hk]at D;have S:=St.start W;refine zI func91 ?_;refine zC (D W) ?_;intro ai ad S;refine zX ?_;exact⟨_,_,_,11,_,rfl,S,λh=>absurd h (by decide)⟩
theorem LB(x y:Int):Fn prog 89 [ii x,ii y] W (dp (.bool (decide ((0<x/\x<17)/\0<y/\y<17))) W):=by
 rcases fv ((0<x/\x<17)/\0<y/\y<17)with h|h
 ·rw[fD h];have S:=St.start W;refine zI func89 ?_;exact zZ
 ·rw[iO h];rcases fv (0<x)with h1|h1
  ·rcases fv (x<17)with h2|h2
   ·rcases fv (0<y)with v|v
    ·skip;have S:=St.start W;refine zI func89 ?_;exact zZ
    ·skip;have S:=St.start W;refine zI func89 ?_;exact zZ
   ·skip;have S:=St.start W;refine zI func89 ?_;exact zZ
  ·skip;have S:=St.start W;refine zI func89 ?_;exact zZ
def Uu(W:World)(v:Value)(w':World):Prop:=∃(B:Option Addr)(nB cB:Nat)(x e:Int)(Q:List HA),v=.tuple #[.slice B nB cB,ii x,ii e]/\St No W w' Q/\(e=0->∃R:List Int,R.length=nB/\R.length<=1048576/\Q=[.row 2 1 B nB cB (cY R)])
theorem RD(x y:Int)(hm:l.length<=1099511627776)(I:Rd W A (f9 l)) :
  Fn prog 44 [.slice A l.length c,ii x,ii y] W (Uu W):=by
 have v:∀{w:World}{L:List HA}{e z:Int},e≠0->St No W w L->Uu W (.tuple #[.slice none 0 0,ii z,ii e]) w:=λhe S=>⟨_,_,_,_,_,_,rfl,S,λh=>absurd h he⟩;have D:=λW=>LB (W:=W) x y;rcases fv ((0<x/\x<17)/\0<y/\y<17)with h|h
 ·rw[fD h]at D;obtain⟨w,rfl⟩:=cJ (show 0<=x by omega);obtain⟨h',rfl⟩:=cJ (show 0<=y by omega);have aq:w*h'<=16*16:=fy om om;have ah:w*h'%w=0:=kJ w h';have aa:(w:Int)*h'=((w*h':Nat):Int):=by push_cast;rfl
  have aj:=λW h0 I=>RB (W:=W) (A:=A) (c:=c) (l:=l) 1 (w*h') h0 om hm I;have ag:=λW B cB(R:List Int)kind hR I=>LA (W:=W) (A:=B) (c:=cB) (w:=w) (V:=R) kind om hR I;generalize w*h'=N at *;have S:=St.start W;refine zI func44 ?_;rcases fv (l.length=0)with h0|h0
  ·skip;refine zC (D W) ?_;intro ak ab S;refine zX ?_;exact(v (by decide) S)
  ·have Z:(f9 l)[(0:Int).toNat * 1]?=some (.int .u8 (l.getD 0 0)):=AL (i:=0) om;generalize l.getD 0 0=b at Z;have al:dO A:=I.someA (by rw[m4];omega);rcases fv (2<b)with hb|hb
   ·skip;refine zC (D W) ?_;intro au an S;refine zT (I.gr S.out) Z ?_;refine dU (qA (B:=true) rfl rfl (fD om)) ?_;refine zX ?_;exact(v (by decide) S)
   ·skip;refine zC (D W) ?_;intro av ao S;refine zT (I.gr S.out) Z ?_;refine dU (qA (B:=false) rfl rfl (iO om)) ?_;iterate 3 refine z ?_
    refine dU (fh rfl (by rw[aa];omega)) ?_;rw[aa];refine zK (aj _ om (I.gr S.out)) ?_;rintro _ aw ⟨B,nB,cB,nx,e1,Q,rfl,S2,hQ⟩;have S:=S.app S2;iterate 7 refine z ?_
    refine ze ?_;rcases fv (e1=0)with J|J
    ·obtain⟨rfl,R,hR,-,rfl⟩:=hQ J;subst J;have U:=λW I=>ag W B cB R (IntKind.i64.wrap b) (by rw[hR];exact ah) om I;rw[hR]at U;rcases fv (nx<(l.length:Nat))with ai|ai
     ·skip;refine zX ?_;exact(v (by decide) S)
     ·skip;refine zT (I.gr S.out) Z ?_;refine Y9 (n:=b) rfl rfl ?_;refine zK (U _ (S.rd (i:=0) rfl)) ?_;rintro _ az ⟨B2,ar,am,e2,Q2,rfl,S2,ac⟩;have S:=S.app S2;iterate 5 refine z ?_
      refine ze ?_;rcases fv (e2=0)with O|O
      ·obtain⟨R2,ad,ae,rfl⟩:=ac O;subst O;refine zD [0,1,2,3,4,5,6,7] [] ?_;refine zO (λwq hq=>(I.gr (S.gr hq).out)) Z ?_;refine eO (dY (ks:=.u8) (n:=b) (kd:=.i64) dv dB rfl rfl) ?_;refine zE ?_;intro aA ap S;exact tE rfl rfl rfl ⟨_,_,_,_,0,_,rfl,S.sub (.cons_cons _ (.cons _ .slnil)),λ_=>⟨R2,ad,ae,rfl⟩⟩
      ·skip;repeat refine dm ?_
       refine dz ?_;refine dU (jx rfl) ?_;refine dU (ff (b:=true) rfl (f5.2 om)) ?_;first|refine eF ?_|(refine di ?_;show CW _ _ _ _ _ _)|refine di ?_
       repeat refine dm ?_
       refine jr rfl ?_;repeat refine dm ?_
       refine dz ?_;iterate 4 refine dU (jx rfl) ?_
       first|refine eF ?_|(refine di ?_;show CW _ _ _ _ _ _)|refine di ?_
       repeat refine dm ?_
       refine mJ ?_;repeat first|refine mL ?_|refine oq ?_
       exact tE rfl rfl rfl (v O S)
    ·skip;repeat refine dm ?_
     refine dz ?_;refine dU (jx rfl) ?_;refine dU (ff (b:=true) rfl (f5.2 om)) ?_;first|refine eF ?_|(refine di ?_;show CW _ _ _ _ _ _)|refine di ?_
     repeat refine dm ?_
     refine jr rfl ?_;repeat refine dm ?_
     refine dz ?_;iterate 4 refine dU (jx rfl) ?_
     first|refine eF ?_|(refine di ?_;show CW _ _ _ _ _ _)|refine di ?_
     repeat refine dm ?_
     refine mJ ?_;repeat first|refine mL ?_|refine oq ?_
     exact tE rfl rfl rfl (v J S)
 ·rw[iO h]at D;have S:=St.start W;refine zI func44 ?_;refine zC (D W) ?_;intro ak ab S;refine zX ?_;exact(v (by decide) S)
end
theorem CL(x0 y0 x1 y1:Nat)(D:x0<=x1/\x1<1024)(I:y0<=y1/\y1<1024)(W:World):Fn prog 166 [.agg #[ii x0,ii y0,ii x1,ii y1]] W (dp (.bool true) W):=by
 have S:=St.start W;refine zI func166 ?_;refine zN ?_;intro v z y S;exact zZ
theorem Ws(J L U Z V h1:Nat)(hw:V<1024)(hh:h1<1024)(hx:J<=U/\U<1024)(hy:L<=Z/\Z<1024)(W:World) :
  Fn prog 161 [.agg #[ii 0,ii 0,ii V,ii h1],.agg #[ii J,ii L,ii U,ii Z]] W
  (λv w'=>∃p q r s:Int,(J<=V/\L<=h1->p=J/\q=L/\r=(min V U:Nat)/\s=(min h1 Z:Nat))/\v=.tuple #[.agg #[ii p,ii q,ii r,ii s],.bool (decide (J<=V/\L<=h1))]/\Gr W w'):=by
 have ac:=λw=>CL 0 0 V h1 om om w;have ad:=λw=>CL J L U Z om om w;refine yI func161 ?_;refine EO ac ?_;intro D I y ae S;iterate 3 refine z ?_
 refine dr rfl ?_;refine eY rfl (ad ae) ?_;rintro _ ao ⟨rfl,ab⟩;have S:=S.gr ab;refine yA ?_;refine gP (M:=λe w=>SL e [(2,pt D),(3,pt I),(4,pt y),(5,.bool false)]/\St No W w [.blk y 43 [ii 0,ii 0,ii 0,ii 0],.blk I 43 [ii J,ii L,ii U,ii Z],.blk D 43 [ii J,ii 0,ii V,ii h1]]) ?_ ?_
 ·skip;refine zB ?_ ?_
  ·intro c0;refine zS ?_;intro ap S;exact⟨sl,S⟩
  ·intro c0;have e0:(J:Int)=0:=om;refine zg ?_;rw[e0]at S ⊢;exact⟨sl,S⟩
 ·rintro e0 ak ⟨O,S⟩;rw[O.fold];iterate 5 refine z ?_
  refine zc ?_;refine gP (M:=λe w=>SL e [(2,pt D),(3,pt I),(4,pt y),(5,.bool false)]/\St No W w [.blk y 43 [ii 0,ii 0,ii 0,ii 0],.blk I 43 [ii J,ii L,ii U,ii Z],.blk D 43 [ii J,ii L,ii V,ii h1]]) ?_ ?_
  ·skip;refine zB ?_ ?_
   ·intro c1;refine yA ?_;intro _ S;exact⟨sl,S⟩
   ·intro c1;have e0:(L:Int)=0:=om;refine zg ?_;rw[e0]at S ⊢;exact⟨sl,S⟩
  ·rintro e1 al ⟨O,S⟩;rw[O.fold];iterate 5 refine z ?_
   refine zc ?_;refine gP (M:=λe w=>SL e [(2,pt D),(3,pt I),(4,pt y),(5,.bool false)]/\St No W w [.blk y 43 [ii 0,ii 0,ii 0,ii 0],.blk I 43 [ii J,ii L,ii U,ii Z],.blk D 43 [ii J,ii L,ii (min V U:Nat),ii h1]]) ?_ ?_
   ·skip;refine zB ?_ ?_
    ·intro c2;have e0:min V U=U:=om;refine yA ?_;rw[e0];intro _ S;exact⟨sl,S⟩
    ·intro c2;have e0:min V U=V:=om;refine zg ?_;rw[e0];exact⟨sl,S⟩
   ·rintro e2 am ⟨O,S⟩;rw[O.fold];iterate 5 refine z ?_
    refine zc ?_;refine gP (M:=λe w=>SL e [(2,pt D),(3,pt I),(4,pt y),(5,.bool false)]/\St No W w [.blk y 43 [ii 0,ii 0,ii 0,ii 0],.blk I 43 [ii J,ii L,ii U,ii Z],.blk D 43 [ii J,ii L,ii (min V U:Nat),ii (min h1 Z:Nat)]]) ?_ ?_
    ·skip;refine zB ?_ ?_
     ·intro c3;have e0:min h1 Z=Z:=om;refine zS ?_;intro ag S;rw[e0];exact⟨sl,S⟩
     ·intro c3;have e0:min h1 Z=h1:=om;refine zg ?_;rw[e0];exact⟨sl,S⟩
    ·rintro e3 an ⟨O,S⟩;rw[O.fold];by_cases h0:J<=V
     ·by_cases aa:L<=h1
      ·rw[fD ⟨h0,aa⟩];refine zS ?_;intro ah S;exact pG S ⟨_,_,_,_,(λ_=>⟨rfl,rfl,rfl,rfl⟩),rfl,S.out⟩
      ·rw[iO (λh=>aa h.2)];refine zS ?_;intro ai S;exact pG S ⟨_,_,_,_,(λh=>absurd h.2 aa),rfl,S.out⟩
     ·rw[iO (λh=>h0 h.1)];refine zS ?_;intro aj S;exact pG S ⟨_,_,_,_,(λh=>absurd h.1 h0),rfl,S.out⟩
def DP(rs:List Rc):List Value:=rs.flatMap λr=>[ii r.x0,ii r.y0,ii r.x1,ii r.y1]
theorem Wt{rs:List Rc}(h:rs[k]?=some r):((DP rs).drop ((k:Int).toNat * 4)).take 4=[ii r.x0,ii r.y0,ii r.x1,ii r.y1]:=by
 rw[b7];exact lG (f:=λr:Rc=>[ii r.x0,ii r.y0,ii r.x1,ii r.y1]) (λ_=>rfl) h
theorem RE(rs:List Rc)(r:Rc):DP rs++[ii r.x0,ii r.y0,ii r.x1,ii r.y1]=DP (rs++[r]):=by simp[DP]
theorem PU(V h1 I z:Nat)(hw:V<1024)(hh:h1<1024)(ea:I=V/16+1)(eh:z=h1/16+1)(W:World) :
  Fn prog 87 [.agg #[ii 0,ii 0,ii V,ii h1]] W (λv w'=>∃(A:Option Addr)(c:Nat)(rs:List Rc),rs.length=z*I/\(∀r∈rs,r.ok (V+1) (h1+1))/\v=.slice A (z*I) c/\St No W w' [.row 43 4 A (z*I) c (DP rs)]):=by
 have hN:z*I<=64*64:=fy (by omega) (by omega);have S:=St.start W;refine zI func87 ?_;refine zN ?_;intro Z aH aA S;refine zg ?_;refine mv oE fS S ?_;intro D aI aB S aa;refine zg ?_
 refine dl (λm e w=>∃(y n:Nat)(D:Option Addr)(L:Nat)(rs:List Rc),y+m=64/\n=min y z*I/\rs.length=n/\(∀r∈rs,r.ok (V+1) (h1+1))/\SL e [(1,pt Z),(3,.slice D n L),(4,ii y)]/\St No W w [.row 43 4 D n L (DP rs),.blk Z 43 [ii 0,ii 0,ii V,ii h1]]) 64
  ⟨0,0,_,_,[],rfl,by simp,rfl,(λr h=>by cases h),sl,S⟩ ?_
 clear S aa;rintro m e w ⟨y,n,D,L,rs,hy,hn,J,O,ac,S⟩;rw[ac.fold];by_cases aD:y<64
 ·have hq:min y z*I<=z*I:=cI I (rt y z)
  have an:min (y+1) z*I=min y z*I+(if y<z then I else 0):=by
   by_cases h:y<z
   ·rw[a7 h,show min (y+1) z=min y z+1 by omega,cX]
   ·rw[a8 h,show min (y+1) z=min y z by omega];rfl
  generalize aF:min y z*I=q at *;refine zg ?_
  refine dl (λm2 e w=>∃(x n:Nat)(D:Option Addr)(L:Nat)(rs:List Rc),x+m2=64/\n=q+(if y<z then min x I else 0)/\rs.length=n/\(∀r∈rs,r.ok (V+1) (h1+1))/\SL e [(1,pt Z),(3,.slice D n L),(4,ii y),(5,ii x)]/\St No W w [.row 43 4 D n L (DP rs),.blk Z 43 [ii 0,ii 0,ii V,ii h1]]) 64
   ⟨0,n,_,_,rs,rfl,by rw[hn];simp,J,O,sl,S⟩ ?_
  clear S J O;rintro m2 e w ⟨x,n,D,L,rs,hx,hn,J,O,ac,S⟩;rw[ac.fold];by_cases aG:x<64
  ·have U:=λw=>Ws (16*x) (16*y) (16*x+15) (16*y+15) V h1 hw hh ⟨by omega,by omega⟩ ⟨by omega,by omega⟩ w;have ed:decide (16*x<=V/\16*y<=h1)=decide (x<I/\y<z):=decide_eq_decide.2 (by omega);rw[ed]at U;push_cast at U;have aE:n<=5000:=by split at hn<;>omega
   by_cases ab:x<I/\y<z
   ·rw[fD ab]at U;refine zK (U w) ?_;rintro _ aJ ⟨p1,p2,p3,p4,hp,rfl,al⟩;have S:=S.gr al;refine zN ?_;intro aj aK aC S;refine zS ?_;intro aL S;refine yb S ?_;intro ag aq ao S ae;refine ZP 2 0 S ?_;intro ai ak ar S aa;refine zg ?_;have am:=hp ⟨by omega,by omega⟩;obtain⟨rfl,rfl,rfl,rfl⟩:=am;have S:=S.sub (.cons _ (.cons _ (cQ _)));have er:=RE rs ⟨16*x,16*y,min V (16*x+15),min h1 (16*y+15)⟩;push_cast at er S;rw[er]at S
    exact⟨m2-1,by omega,x+1,_,_,_,rs++[⟨16*x,16*y,min V (16*x+15),min h1 (16*y+15)⟩],by omega,by rw[a7 ab.2]at hn ⊢;omega,by simp[J],(λr hr=>by
     rcases ez.1 hr with h|h
     ·exact O r h
     ·rw[dM.1 h];exact⟨⟨by dsimp only;omega,by dsimp only;omega⟩,by dsimp only;omega,by dsimp only;omega⟩),sl,S⟩
   ·rw[iO ab]at U;refine zK (U w) ?_;rintro _ au ⟨p1,p2,p3,p4,hp,rfl,ad⟩;have S:=S.gr ad;refine zN ?_;intro aj av ap S;refine zS ?_;intro az S;exact⟨m2-1,by omega,x+1,n,_,_,rs,by omega,by by_cases h:y<z<;>simp only[h,rq,pW]at hn ⊢<;>omega,J,O,sl,S.drop 1⟩
  ·obtain rfl:x=64:=by omega
   refine zg ?_;exact⟨m-1,by omega,y+1,n,_,_,rs,by omega,by rw[hn,an];by_cases h:y<z<;>simp only[h,rq,pW]<;>omega,J,O,sl,S⟩
 ·obtain rfl:y=64:=by omega
  have he:n=z*I:=by rw[hn,show min 64 z=z by omega]
  refine zg ?_;rw[he]at J S ⊢;exact ir rfl ⟨_,_,rs,J,O,rfl,S.sub (.cons_cons _ (.cons _ .slnil))⟩
theorem Wu(w h:Nat)(L:1<=w/\w<=1024)(J:1<=h/\h<=1024)(W:World):Fn prog 85 [ii w,ii h] W (dp (.tuple #[ii (cU h*cU w:Nat),ii 0]) W):=by
 have z:(w:Int)-1=((w-1:Nat):Int):=om;have D:(h:Int)-1=((h-1:Nat):Int):=om;have v:=λW=>PU (w-1) (h-1) (cU w) (cU h) om om (by unfold cU;omega) (by unfold cU;omega) W;rw[<-z,<-D]at v;have S:=St.start W;refine zI func85 ?_;refine zK (v W) ?_;rintro _ I ⟨A1,c1,rs,_,_,rfl,y⟩;have S:=S.app y;exact zZ
section
variable{V:List Int}
theorem Xr(r:Rc)(J:1<=gw/\gw<=1024)(I:1<=gh/\gh<=1024)(z:r.ok gw gh):Fn prog 24 [.agg #[ii r.x0,ii r.y0,ii r.x1,ii r.y1],ii gw,ii gh] W (dp (ii 0) W):=by
 obtain⟨x0,y0,x1,y1⟩:=r;obtain⟨L,O⟩:=z;dsimp only at *;have S:=St.start W;refine zI func24 ?_;refine zN ?_;intro v D y S;exact zZ
theorem Xs(r:Rc)(hw:1<=gw/\gw<=1024)(Z:1<=gh/\gh<=1024)(O:r.ok gw gh):Fn prog 92 [.agg #[ii r.x0,ii r.y0,ii r.x1,ii r.y1]] W (dp (ii ((r.y1+1-r.y0)*(r.x1+1-r.x0):Nat)) W):=by
 obtain⟨x0,y0,x1,y1⟩:=r;obtain⟨hx,hy⟩:=O;dsimp only at *;have L:=λw=>CL x0 y0 x1 y1 om om w;have z:(x1:Int)+1-x0=((x1+1-x0:Nat):Int):=om;have D:(y1:Int)+1-y0=((y1+1-y0:Nat):Int):=om;have v:((x1+1-x0:Nat):Int)*((y1+1-y0:Nat):Int)=(((y1+1-y0)*(x1+1-x0):Nat):Int):=by rw[cD];exact(kv _ _).symm
 have hm:(y1+1-y0)*(x1+1-x0)<=1024*1024:=fy om om;generalize x1+1-x0=wd at *;generalize y1+1-y0=ht at *;have S:=St.start W;refine zI func92 ?_;refine zN ?_;intro y U I S;refine zC (L _) ?_;intro V J S;refine zg ?_;rw[z];refine zg ?_;rw[D];refine dU (fh rfl (by rw[v];omega)) ?_;rw[v];exact zZ
theorem Uv(hw:1<=gw/\gw<=1024)(hh:1<=gh/\gh<=1024):Fn prog 86 [ii gw,ii gh,ii 0,ii 1024] W (λv w'=>∃(A:Option Addr)(c:Nat)(V:List Int),V.length=gw*gh/\v=.tuple #[.agg #[ii gw,ii gh,.slice A (gw*gh) c],ii 0]/\St No W w' [.row 2 1 A (gw*gh) c (cY V)]):=by
 have hm:gw*gh<=1024*1024:=fy hw.2 hh.2;have D:(gw:Int)*gh=((gw*gh:Nat):Int):=by push_cast;rfl
 generalize hN:gw*gh=N at *;have S:=St.start W;refine zI func86 ?_;refine zN ?_;intro y aj ae S;refine zC (Pf 0 _) ?_;intro ak ag S;refine zN ?_;intro J al ah S;refine zS ?_;intro am S;have S:=S.pushNil 2 1
 refine dl (λk e w=>∃(i:Nat)(A:Option Addr)(c:Nat)(V:List Int),i+k=N/\V.length=i/\SL e [(0,ii gw),(1,ii gh),(2,ii 0),(8,pt y),(10,pt J),(11,ii i)] /\
   St No W w [.row 2 1 A i c (cY V),.blk J 31 [ii gw,ii gh,.slice A i c],.blk y 31 [ii 0,ii 0,.slice none 0 0]]) N
  ⟨0,none,0,[],om,rfl,sl,S⟩ ?_
 clear S;rintro k e w ⟨i,A,c,V,hi,hV,U,S⟩;rw[U.fold];rcases fv (i<N)with O|O
 ·skip;iterate 3 refine z ?_
  refine dU (fh rfl (by rw[D];omega)) ?_;rw[D];refine zg ?_;refine yb S ?_;intro aa an ai S Z;refine ZP 1 0 S ?_;intro I L ao S ab;refine zS ?_;intro ac S;have S:=S.drop 1;rw[show cY V++[ii 0]=cY (V++[0])by simp[cY]]at S;exact⟨k-1,om,i+1,I,L,V++[0],om,by simp[hV],sl,S⟩
 ·obtain rfl:i=N:=om;iterate 3 refine z ?_
  refine dU (fh rfl (by rw[D];omega)) ?_;rw[D];refine zS ?_;intro ad S;exact pG S ⟨A,c,V,hV,rfl,S.sub (.cons_cons _ (.cons _ (.cons _ .slnil)))⟩
theorem Uw(O:1<=gw/\gw<=1024)(J:1<=gh/\gh<=1024):Fn prog 41 [ii gw,ii gh,ii 0] W (λv w'=>∃(A:Option Addr)(c:Nat)(V:List Int),V.length=gw*gh/\v=.tuple #[.agg #[ii gw,ii gh,.slice A (gw*gh) c],ii 0]/\St No W w' [.row 2 1 A (gw*gh) c (cY V)]):=by
 have L:=λw=>Uv (W:=w) O J;generalize gw*gh=N at *;have S:=St.start W;refine zI func41 ?_;refine zN ?_;intro y U D S;refine zK (L _) ?_;rintro _ Z ⟨A,c,V,I,rfl,z⟩;have S:=S.app z;refine zS ?_;intro aa S;exact pG S ⟨A,c,V,I,rfl,S.sub (.cons_cons _ (.cons _ .slnil))⟩
theorem Wv(n:Nat)(Z:1<=gw/\gw<=1024)(V:1<=gh/\gh<=1024):Fn prog 88 [.agg #[ii gw,ii gh,.slice A n c]] W (dp (.agg #[ii 0,ii 0,ii (gw-1:Nat),ii (gh-1:Nat)]) W):=by
 have z:(gw:Int)-1=((gw-1:Nat):Int):=om;have D:(gh:Int)-1=((gh-1:Nat):Int):=om;have S:=St.start W;refine zI func88 ?_;refine zN ?_;intro v L I S;refine zN ?_;intro y O J S;refine zg ?_;rw[z];refine zg ?_;rw[D];refine zS ?_;intro U S;exact rA S ⟨rfl,S.out⟩
theorem RH(n:Nat)(U:1<=gw/\gw<=1024)(O:1<=gh/\gh<=1024):Fn prog 42 [.agg #[ii gw,ii gh,.slice A n c]] W (λv w'=>∃(B:Option Addr)(cB:Nat)(rs:List Rc),rs.length=cU gh*cU gw/\(∀r∈rs,r.ok gw gh)/\v=.slice B (cU gh*cU gw) cB/\St No W w' [.row 43 4 B (cU gh*cU gw) cB (DP rs)]):=by
 have z:=λw=>Wv (W:=w) (A:=A) (c:=c) n U O;have y:=λw=>PU (gw-1) (gh-1) (cU gw) (cU gh) om om (by unfold cU;omega) (by unfold cU;omega) w;rw[(om:gw-1+1=gw),(om:gh-1+1=gh)]at y;generalize cU gh*cU gw=N at *;have S:=St.start W;refine zI func42 ?_;refine zN ?_;intro I V J S;refine zC (z _) ?_;intro Z L S;refine zK (y _) ?_;rintro _ aa ⟨B,cB,rs,h1,h2,rfl,D⟩;have S:=S.app D;refine zX ?_;exact⟨B,cB,rs,h1,h2,rfl,S.sub (.cons_cons _ (.cons _ .slnil))⟩
theorem LC{L:List HA}{t ty:Nat}{z:Value}{f:HA->List HA}(S:St F W w L)(hi:gi L i=some (.row el k A n c xs))(hf:∀h,j7 L i h=some (f h))(hu:P.underlying t=some (.slice el))(hI:(P.info? el).map (λi=>(i.zero,i.size,i.bytes))=some (some z,k,bytes))(hz:Nat.beq z.cells.size k=true)(hk:Nat.blt 0 k=true)(hm:ys.length=m*k)(ab:0<m)(hR:Rd w B ys)(h1:(ys.all λv=>v.oneCell')=true)(hb:(n+m)*(bytes+1)<=140737488355328) :
  ∃y c' w',(Builtin.append_ #[t,t] ty #[.slice A n c,.slice B m c2]).run P w=.ok (.slice y (n+m) c') w'/\St F W w' (f (.row el k y (n+m) c' (xs++ys))):=by
 obtain⟨ah,J,ad,ae,ag⟩:=nG hI;have O:0<k:=eC hk;have ac:=eU hz;have aa:(n+m)*bytes<=140737488355328:=dE (eZ _ om) hb;have ai:n+m<=140737488355328:=dE (eS _ om) hb;have I:=S.row hi;have V:0<ys.length:=by rw[hm];exact j5 ab O
 obtain⟨b,o,rfl⟩:=hR.someA V
 obtain⟨v',w',Z,ho,hg,_,U⟩:=uK (P:=P) w 0 t ty el ah z k bytes hu J ad ae ag ac O (.slice A n c) n xs I ⟨b,o,none⟩ m c2 ys hm
  (λj u hu=>by rw[js];exact hR.cell rfl hu) (λu hu=>dh.1 h1 u hu) (by unfold maxLen;omega) aa om
 obtain⟨y,c',rfl⟩:=wa.form ho;have D:gH w' el k y (n+m) c' (xs++ys):=ho;refine⟨y,c',w',Z,S.set hi (hf _) (Fr.of_grown (F:=λg=>jv A g) hg (λg e=>?_)) (λg e=>.inl e) D (λg e=>?_)⟩
 ·cases A with
  |none=>cases e
  |some a=>exact e
 ·have e':(Value.slice y (n+m) c').ownBlock=some g:=by
   cases y with
   |none=>cases e
   |some a=>exact e
  rw[e']at U;rcases U with h|h
  ·left;cases A with
   |none=>cases h
   |some a=>exact h.symm
  ·injection h with h;right;omega
def PM(W:World)(L:List HA)(gw gh n:Nat)(V:List Int)(σ:List (Nat×Value))(w:World):Prop :=
 ∃Q1 Q2,(match σ.lookup 7 with|some v=>∃A c,v=.slice A n c/\Q1=[.row 2 1 A n c (cY V)]|none=>(match σ.lookup 4 with|some v=>∃A c,v=.slice A 0 c/\Q1=[.row 2 1 A 0 c []]|none=>Q1=[])) /\
  (match σ.lookup 9 with|none=>Q2=[]|some u=>∃b,u=.pointer (some ⟨b,0,none⟩)/\Q2=[.blk b 31 [.int .i64 0,.int .i64 0,.slice none 0 0]])/\St No W w (Q2++(Q1++L))
section
variable{L:List HA}{ps:String}
theorem PM.start(S:St No W w L):PM W L gw gh n V [] w:=⟨[],[],rfl,rfl,S⟩
theorem PM.st(h:PM W L gw gh n V σ w):St No W w L:=by
 obtain⟨v,y,_,_,S⟩:=h;have:=S.drop (y++v).length;rwa[<-cL,jE]at this
theorem PM.no4(h:PM W L gw gh n V σ w)(y:σ.lookup 4=none)(z:σ.lookup 7=none):∃v,(match σ.lookup 9 with|none=>v=[]|some u=>∃b,u=.pointer (some ⟨b,0,none⟩)/\v=[.blk b 31 [.int .i64 0,.int .i64 0,.slice none 0 0]])/\St No W w (v++L):=by
 obtain⟨D,v,h1,h2,S⟩:=h;rw[z]at h1;simp only[y]at h1;subst h1;exact⟨v,h2,S⟩
theorem LD{k:TypeId}(h:PM W L gw gh n V σ w)(I:σ.lookup 4=none)(y:σ.lookup 7=none)(U:P.underlying t=some (.slice 2))(O:∀w,(sizeOf 2).run P w=.ok k w)(J:k=1) :
  gI P e ⟨d,.buildSlice t 0 #[],ty,ps,af,none⟩ w (λv w'=>PM W L gw gh n V ((4,v)::σ) w'):=by
 subst J;obtain⟨z,h2,S⟩:=h.no4 I y;refine gu rfl (mv U O S λA w' g D _=>⟨[.row 2 1 A 0 0 []],z,?_,?_,D.perm_ ef.symm⟩)
 ·simp only[cZ,show(7==4)=false from rfl,y,show(4==4)=true from rfl];exact⟨A,0,rfl,rfl⟩
 ·simp only[cZ,show(9==4)=false from rfl];exact h2
theorem DQ{s:Operand}{t cc:Nat}{J:Option Addr}{z:Value}(h:PM W L gw gh n V σ w)(h4:σ.lookup 4=some (.slice J 0 cc))(h7:σ.lookup 7=none)(hu:P.underlying t=some (.slice 2))(hI:(P.info? 2).map (λi=>(i.zero,i.size,i.bytes))=some (some z,1,bytes))(hz:Nat.beq z.cells.size 1=true)(hs:ev e s=.slice J 0 cc)(hx:ev e x=.slice B n c2)(hV:V.length=n)(h0:0<n)(hb:n*(bytes+1)<=140737488355328)(hR:Rd w B (cY V)) :
  gI P e ⟨d,.call ⟨.builtin .append,#[s,x],#[t,t]⟩,ty,ps,af,none⟩ w (λv w'=>PM W L gw gh n V ((7,v)::σ) w'):=by
 obtain⟨Q1,O,h1,h2,S⟩:=h;rw[h7]at h1;simp only[h4]at h1;obtain⟨A,c,D,rfl⟩:=h1;cases D
 have Z:St No W w (.row 2 1 J 0 cc []::(O++L)):=S.perm_ ef;obtain⟨I,c',w',y,U⟩:=LC (P:=P) (ty:=ty) (f:=λh=>h::(O++L)) (i:=0) Z rfl (λh=>rfl) hu hI hz rfl (by rw[gn,hV,cG]) h0 hR (dh.2 λv D=>by unfold cY at D;obtain⟨_,_,rfl⟩:=fC.1 D;rfl) (by rw[eH];exact hb) (c2:=c2);rw[eH]at y U;refine AY (v:=.slice I n c') (w':=w') ?_ ⟨[.row 2 1 I n c' (cY V)],O,?_,?_,U.perm_ ef.symm⟩
 ·simp[execOp,resolve,invoke,builtin,hs,hx,y]
 ·simp only[cZ,show(7==7)=true from rfl];exact⟨I,c',rfl,rfl⟩
 ·simp only[cZ,show(9==7)=false from rfl];exact h2
theorem Gy{z:Value}(h:PM W L gw gh n V σ w)(I:σ.lookup 9=none)(O:∀w,(zeroValue 31).run P w=.ok z w)(J:z.cells.toList=[ii 0,ii 0,.slice none 0 0]) :
  gI P e ⟨d,.alloc 31,ty,ps,af,none⟩ w (λv w'=>PM W L gw gh n V ((9,v)::σ) w'):=by
 obtain⟨y,U,h1,h2,S⟩:=h;rw[I]at h2;subst h2;refine gu rfl (kq (jV O J) S λb w' g D=>⟨y,[.blk b 31 [ii 0,ii 0,.slice none 0 0]],?_,?_,D⟩)
 ·simp only[cZ,show(7==9)=false from rfl,show(4==9)=false from rfl];exact h1
 ·simp only[cZ,show(9==9)=true from rfl];exact⟨b,rfl,rfl⟩
theorem PM.val4{v:Value}(h:PM W L gw gh n V ((4,v)::σ) w)(y:σ.lookup 7=none):∃A c,v=.slice A 0 c:=by
 obtain⟨D,I,h1,_,_⟩:=h;simp only[cZ,show(7==4)=false from rfl,y,show(4==4)=true from rfl]at h1;obtain⟨A,c,z,_⟩:=h1;exact⟨A,c,z⟩
theorem PM.val7{v:Value}(h:PM W L gw gh n V ((7,v)::σ) w):∃A c,v=.slice A n c:=by
 obtain⟨z,D,h1,_,_⟩:=h;simp only[cZ,show(7==7)=true from rfl]at h1;obtain⟨A,c,y,_⟩:=h1;exact⟨A,c,y⟩
theorem PM.val9{v:Value}(h:PM W L gw gh n V ((9,v)::σ) w):∃b,v=pt b:=by
 obtain⟨z,D,_,h2,_⟩:=h;simp only[cZ,show(9==9)=true from rfl]at h2;obtain⟨b,y,_⟩:=h2;exact⟨b,y⟩
theorem PM.fin(h:PM W L gw gh n V σ w)(z:σ.lookup 7=some (.slice A n c))(D:σ.lookup 9=some (pt b)):St No W w (.blk b 31 [ii 0,ii 0,.slice none 0 0]::.row 2 1 A n c (cY V)::L):=by
 obtain⟨I,J,h1,h2,S⟩:=h;rw[z]at h1;rw[D]at h2;obtain⟨_,_,v,rfl⟩:=h1;obtain⟨_,y,rfl⟩:=h2;cases v
 cases y
 exact S
end
theorem RJ{L:List Int}(cB:Nat)(hw:1<=gw/\gw<=1024)(hh:1<=gh/\gh<=1024)(hr:r.ok gw gh)(hV:V.length=gw*gh)(hL:L.length<=1048576)(hA:Rd W A (cY V))(hB:Rd W B (cY L)) :
  Fn prog 45 [.agg #[ii gw,ii gh,.slice A (gw*gh) c],.agg #[ii r.x0,ii r.y0,ii r.x1,ii r.y1],.slice B L.length cB] W (λv w'=>∃(A':Option Addr)(c':Nat)(V':List Int)(e:Int)(Q:List HA),V'.length=gw*gh/\v=.tuple #[.agg #[ii gw,ii gh,.slice A' (gw*gh) c'],ii e]/\St No W w' Q/\(Q=[]/\A'=A/\c'=c/\V'=V\/Q=[.row 2 1 A' (gw*gh) c' (cY V')])):=by
 have hwi:=λw=>Xr (W:=w) r hw hh hr;have har:=λw=>Xs (W:=w) r hw hh hr;have hm:gw*gh<=1024*1024:=fy hw.2 hh.2;have h1m:1<=gw*gh:=fy hw.1 hh.1
 have hcell:∀x y,x<gw->y<gh->y*gw+x<gw*gh:=λx y hx hy=>by
  have:=cI gw (show y+1<=gh by omega);rw[iI,kR,cD gh gw]at this;omega
 obtain⟨x0,y0,x1,y1⟩:=r;obtain⟨⟨hx,hx1⟩,hy,hy1⟩:=hr;dsimp only at *;have har2:(y1+1-y0)*(x1+1-x0)<=1024*1024:=fy om om;have hrow:∀y,y<=y1->(y+1-y0)*(x1+1-x0)<=(y1+1-y0)*(x1+1-x0):=λy h=>cI _ om;generalize hN:gw*gh=N at *;generalize hLn:L.length=n at *;refine yI func45 ?_;refine zN ?_;intro b_m w2_ g2_ S;refine zN ?_;intro b_r w4_ g4_ S;refine zN ?_;intro b_res w6_ g6_ S;refine zC (hwi _) ?_;intro w7_ g7_ S;refine zg ?_;rcases fv ((n:Int)≠((y1+1-y0)*(x1+1-x0):Nat))with hne|hne
 ·skip;refine zC (har _) ?_;refine yA ?_;intro _ S;exact pG S ⟨A,c,V,6,_,hV,rfl,S.drop 3,.inl ⟨rfl,rfl,rfl,rfl⟩⟩
 ·replace hne:(n:Int)=((y1+1-y0)*(x1+1-x0):Nat):=fH.1 hne;have hnn:n=(y1+1-y0)*(x1+1-x0):=om;refine EO har ?_;intro _ S;refine zf ?_;refine z ?_;refine zc ?_;refine gP (M:=λe w=>SL e [(2,.slice B n cB),(3,pt b_m),(4,pt b_r),(6,pt b_res)]/\St No W w [.blk b_res 31 [ii 0,ii 0,.slice none 0 0],.blk b_r 43 [ii x0,ii y0,ii x1,ii y1],.blk b_m 31 [ii gw,ii gh,.slice A N c]]) ?_ ?_
  ·skip;refine zg ?_
   refine dl (λk e w=>∃i:Nat,i+k=n/\SL e [(2,.slice B n cB),(3,pt b_m),(4,pt b_r),(6,pt b_res),(9,ii i)]/\St No W w [.blk b_res 31 [ii 0,ii 0,.slice none 0 0],.blk b_r 43 [ii x0,ii y0,ii x1,ii y1],.blk b_m 31 [ii gw,ii gh,.slice A N c]]) n
    ⟨0,om,sl,S⟩ ?_
   clear S;rintro k e w2 ⟨i,hi,hsl,S⟩;rw[hsl.fold];rcases fv (i<n)with hlt|hlt
   ·have sa_B:dO B:=hB.someA (by rw[gn];omega);have hget:(cY L)[(i:Int).toNat * 1]?=some (ii (L.getD i 0)):=by rw[cG,b7];exact gc (kr om)
    generalize L.getD i 0=v at *;have hmay:=λw=>Pf v w;rcases hb:iL v with _|_
    ·rw[hb]at hmay;refine zT (hB.gr S.out) hget ?_;refine zC (hmay w2) ?_;refine yA ?_;intro _ S;exact pG S ⟨A,c,V,7,_,hV,rfl,S.drop 3,.inl ⟨rfl,rfl,rfl,rfl⟩⟩
    ·rw[hb]at hmay;refine zT (hB.gr S.out) hget ?_;refine zC (hmay w2) ?_;intro w13_ g13_ S;refine zg ?_;exact⟨k-1,om,i+1,om,sl,S⟩
   ·skip;refine zg ?_;exact⟨sl,S⟩
  ·rintro e w2 ⟨hsl,S⟩;rw[hsl.fold];refine zc ?_;refine gP (M:=λe w=>∃(A2:Option Addr)(c2 b_o:Nat),SL e [(2,.slice B n cB),(3,pt b_m),(4,pt b_r),(6,pt b_res),(10,pt b_o)]/\(λV2=>St No W w [.blk b_o 31 [ii gw,ii gh,.slice A2 N c2],.row 2 1 A2 N c2 (cY V2),.blk b_res 31 [ii 0,ii 0,.slice none 0 0],.blk b_r 43 [ii x0,ii y0,ii x1,ii y1],.blk b_m 31 [ii gw,ii gh,.slice A N c]]) V) ?_ ?_
   ·skip;refine zc ?_;refine nI (C:=(PM W [.blk b_res 31 [ii 0,ii 0,.slice none 0 0],.blk b_r 43 [ii x0,ii y0,ii x1,ii y1],.blk b_m 31 [ii gw,ii gh,.slice A N c]] gw gh N V)) [4,7,9] (.one 0 (.one 1 (.one 2 (.one 3 (.one 5 (.one 6 (.two 4 (.two 7 (.one 8 (.one 9 .nil)) 9 (.one 7 (.one 8 .nil))) 9 (.one 4 (.one 7 (.one 8 .nil)))))))))) [10] (by kernel_rfl) (by kernel_rfl) (PM.start (S.gr (Gr.drew _))) ?_;simp only[qK,iS,dK,dR];refine jK ?_;refine oX rfl (du sd rfl cR rfl rfl) ?_;refine mo ?_;refine jK ?_;refine xh rfl (λτ wq hq=>cV iY rfl rfl ((PM.st hq).blk (i:=2) rfl) rfl) ?_;refine zU (λτ wq hq=>((PM.st hq).blk (i:=2) rfl)) ?_;refine zU (λτ wq hq=>((PM.st hq).blk (i:=2) rfl)) ?_;refine zW ?_;refine nf ?_ ?_
    ·refine dC rfl rfl (λwq hq=>LD hq rfl rfl fZ cR rfl) ?_;rintro v4 w4 h4;obtain⟨A4,c4,rfl⟩:=h4.val4 rfl;refine zW ?_;refine nf ?_ ?_
     ·refine dC rfl rfl (λwq hq=>DQ hq rfl rfl fZ jR rfl rfl rfl hV om om (hA.gr (PM.st hq).out)) ?_;rintro v7 w7 h7;obtain⟨A7,c7,rfl⟩:=h7.val7;refine zW ?_;refine dC rfl rfl (λwq hq=>Gy hq rfl s7 rfl) ?_;rintro v9 w9 h9;obtain⟨b9,rfl⟩:=h9.val9;refine zW ?_;refine jm ?_;rintro wz hz;have S:=hz.fin rfl rfl;refine d8 (i:=0) S rfl (Zm _) rfl rfl rfl rfl rfl rfl (λw' S=>?_);refine ze ?_;exact⟨_,_,_,sl,S⟩
     ·refine dC rfl rfl (λwq hq=>Gy hq rfl s7 rfl) ?_;rintro v9 w9 h9;obtain⟨b9,rfl⟩:=h9.val9;refine zW ?_;refine dC rfl rfl (λwq hq=>DQ hq rfl rfl fZ jR rfl rfl rfl hV om om (hA.gr (PM.st hq).out)) ?_;rintro v7 w7 h7;obtain⟨A7,c7,rfl⟩:=h7.val7;refine zW ?_;refine jm ?_;rintro wz hz;have S:=hz.fin rfl rfl;refine d8 (i:=0) S rfl (Zm _) rfl rfl rfl rfl rfl rfl (λw' S=>?_);refine ze ?_;exact⟨_,_,_,sl,S⟩
    ·refine dC rfl rfl (λwq hq=>Gy hq rfl s7 rfl) ?_;rintro v9 w9 h9;obtain⟨b9,rfl⟩:=h9.val9;refine zW ?_;refine dC rfl rfl (λwq hq=>LD hq rfl rfl fZ cR rfl) ?_;rintro v4 w4 h4;obtain⟨A4,c4,rfl⟩:=h4.val4 rfl;refine zW ?_;refine dC rfl rfl (λwq hq=>DQ hq rfl rfl fZ jR rfl rfl rfl hV om om (hA.gr (PM.st hq).out)) ?_;rintro v7 w7 h7;obtain⟨A7,c7,rfl⟩:=h7.val7;refine zW ?_;refine jm ?_;rintro wz hz;have S:=hz.fin rfl rfl;refine d8 (i:=0) S rfl (Zm _) rfl rfl rfl rfl rfl rfl (λw' S=>?_);refine ze ?_;exact⟨_,_,_,sl,S⟩
   ·rintro e w3 ⟨A2,c2,b_o,hsl,S⟩;rw[hsl.fold];have ex1:(x1:Int)+1=((x1+1:Nat):Int):=rfl;refine zg ?_
    refine dl (λk e w=>∃(y i:Nat)(V2:List Int),y0<=y/\y+k=y1+1/\i=(y-y0)*(x1+1-x0)/\V2.length=N/\SL e [(2,.slice B n cB),(3,pt b_m),(4,pt b_r),(6,pt b_res),(10,pt b_o),(11,ii i),(12,ii y)]/\St No W w [.blk b_o 31 [ii gw,ii gh,.slice A2 N c2],.row 2 1 A2 N c2 (cY V2),.blk b_res 31 [ii 0,ii 0,.slice none 0 0],.blk b_r 43 [ii x0,ii y0,ii x1,ii y1],.blk b_m 31 [ii gw,ii gh,.slice A N c]]) (y1+1-y0)
     ⟨y0,0,V,fK _,om,by simp,hV,sl,S⟩ ?_
    clear S;rintro k e w4 ⟨y,i,V2,hy0,hyk,hi,hV2,hsl,S⟩;rw[hsl.fold];rcases fv (y<=y1)with hlt|hlt
    ·have hq1:(y+1-y0)*(x1+1-x0)=(y-y0)*(x1+1-x0)+(x1+1-x0):=by rw[(om:y+1-y0=y-y0+1),iI,kR]
     have hq2:=hrow y hlt;have hc:=λx h=>hcell x y h om;have eyg:(y:Int)*gw=((y*gw:Nat):Int):=by push_cast;rfl
     generalize hq:(y-y0)*(x1+1-x0)=q at *;generalize hyg:y*gw=yg at *;refine zg ?_
     refine dl (λk2 e w=>∃(x i:Nat)(V2:List Int),x0<=x/\x+k2=x1+1/\i=q+(x-x0)/\V2.length=N/\SL e [(2,.slice B n cB),(3,pt b_m),(4,pt b_r),(6,pt b_res),(10,pt b_o),(11,ii i),(12,ii y),(13,ii x)]/\St No W w [.blk b_o 31 [ii gw,ii gh,.slice A2 N c2],.row 2 1 A2 N c2 (cY V2),.blk b_res 31 [ii 0,ii 0,.slice none 0 0],.blk b_r 43 [ii x0,ii y0,ii x1,ii y1],.blk b_m 31 [ii gw,ii gh,.slice A N c]]) (x1+1-x0)
      ⟨x0,i,V2,fK _,om,om,hV2,sl,S⟩ ?_
     clear S hi hV2;rintro k2 e w5 ⟨x,i2,V3,hx0,hxk,hi2,hV3,hsl,S⟩;rw[hsl.fold];rcases fv (x<=x1)with hxl|hxl
     ·have sa_B:dO B:=hB.someA (by rw[gn];omega);have hcx:=hc x om;have sa_v:dO A2:=(S.row (i:=1) rfl).rd.someA (by rw[gn];omega);have hget:(cY L)[(i2:Int).toNat * 1]?=some (ii (L.getD i2 0)):=by rw[cG,b7];exact gc (kr om)
      have eq2:((yg:Nat):Int)+x=((yg+x:Nat):Int):=by push_cast;rfl
      have hset:(cY V3).set (((yg+x:Nat):Int).toNat * 1) (ii (L.getD i2 0))=cY (V3.set (yg+x) (L.getD i2 0)):=by rw[cG,b7];simp[cY,uO]
      generalize L.getD i2 0=u at *;refine yA ?_;refine pF (C:=λwq=>Gr w5 wq) [0,1,2,3,4,5,6,7,8,9,10,11] [12,13] (by kernel_rfl) (by kernel_rfl) (Gr.drew _) ?_;simp only[iS,dK,dR];refine eO (du sd rfl jN rfl rfl) ?_;refine fo (λwq hq=>cV fZ rfl rfl ((S.gr hq).blk (i:=0) rfl) rfl) ?_;refine eO (jx rfl) ?_;refine eO (du sd rfl cR rfl rfl) ?_;refine fo (λwq hq=>cV iY rfl rfl ((S.gr hq).blk (i:=4) rfl) rfl) ?_;refine eO (fh rfl (by rw[eyg];omega)) ?_;rw[eyg];refine zQ ?_;rw[eq2];refine zO (λwq hq=>(hB.gr (S.gr hq).out)) hget ?_;refine zE ?_;intro w17_ g17_ S;refine jk (i:=1) S rfl (cR _) rfl rfl rfl rfl (by rw[gn];omega) rfl ?_;intro w18_ S;refine zg ?_;rw[hset]at S;exact⟨k2-1,om,x+1,i2+1,V3.set (yg+x) u,om,om,om,by simp[hV3],sl,S⟩
     ·obtain rfl:x=x1+1:=om;refine zg ?_;exact⟨k-1,om,y+1,i2,V3,om,om,om,hV3,sl,S⟩
    ·skip;refine yA ?_;intro _ S;exact pG S ⟨A2,c2,V2,0,_,hV2,rfl,S.sub (.cons _ (.cons_cons _ (rC _))),.inr rfl⟩
end
theorem Ww{rest:List Oper}{ps:String}{y:Operand}{a b:ByteArray}(v:ev e x=.string a)(z:ev e y=.string b)(h:∀B:Bool,RW P ops Q rest (fI e d (.bool B)) w):RW P ops Q (⟨d,.binOp .neq t x y t',ty,ps,af,none⟩::rest) e w:=dU (Jp v z rfl) (h _)
section
variable{l:List Int}
theorem RK(n m:Int)(v:¬((1<=n/\n<=1024)/\1<=m/\m<=1024)):Fn prog 85 [ii n,ii m] W (dp (.tuple #[ii 0,ii 3]) W):=by
 have S:=St.start W;rcases fv (n<1)with h1|h1
 ·skip;refine zI func85 ?_;exact zZ
 ·rcases fv (n>1024)with h2|h2
  ·skip;refine zI func85 ?_;exact zZ
  ·rcases fv (m<1)with y|y
   ·skip;refine zI func85 ?_;exact zZ
   ·skip;refine zI func85 ?_;exact zZ
theorem RL (hc:l.length<=c) (hm:l.length<=1099511627776) (hA:Rd W A (f9 l)):Fn prog 40 [.slice A l.length c] W (AI W):=by
 have hge:=fun w hA (at_ n:Nat) h1 h2=>N2 (W:=w) (A:=A) (c:=c) (l:=l) at_ n h1 h2 hm hA
 rcases fv (l.length < 13) with h13 | h13
 ·skip
  have S:=St.start W
  refine zI func40 ?_
  refine zX ?_
  exact (.no (by decide) S.out)
 ·have hR5:Rd W A (f9 (l.take 5)):=by rw [<-tK]; exact hA.tk _
  have hl5:(l.take 5).length=5:=by rw [d7]; omega
  generalize l.take 5=l5 at *
  have S:=St.start W
  refine zI func40 ?_
  refine zg ?_
  refine dU (jb (n:=(5:Int)) fR gJ rfl rfl om om) ?_
  refine dH (BZ (bs:=l5) fR dv fk (by rw [hl5]; rfl) (hR5.gr S.out)) ?_
  refine Ww rfl rfl fun tb=>?_
  refine ze ?_
  rcases tb with _ | _
  ·skip
   refine zK (hge W (hA.gr S.out) 5 2 (by decide) (by decide)) ?_
   rintro _ w1_ ⟨x1,hx1,rfl,g1_⟩
   have S:=S.gr g1_
   obtain ⟨X,hX⟩:∃ X,IntKind.i64.wrap (x1+1)=X:=⟨_,rfl⟩
   refine dU (nO rfl rfl hX) ?_
   refine zK (hge _ (hA.gr S.out) 7 2 (by decide) (by decide)) ?_
   rintro _ w2_ ⟨x2,hx2,rfl,g2_⟩
   have S:=S.gr g2_
   obtain ⟨Y,hY⟩:∃ Y,IntKind.i64.wrap (x2+1)=Y:=⟨_,rfl⟩
   refine dU (nO rfl rfl hY) ?_
   refine zg ?_
   rcases fv ((1<=X/\X<=1024)/\1<=Y/\Y<=1024) with hg | hg
   ·obtain ⟨gw,rfl⟩:=cJ (show 0<=X by omega)
    obtain ⟨gh,rfl⟩:=cJ (show 0<=Y by omega)
    have hgw:1<=gw/\gw<=1024:=om
    have hgh:1<=gh/\gh<=1024:=om
    have hti:=fun W=>Wu gw gh hgw hgh W
    have hmm:cU gh * cU gw<=64 * 64:=fy (jS hgh.2) (jS hgw.2)
    have hfin:∀ {w:World} {B:Option Addr} {cB:Nat} {es:List (Int × Int)},es.length=cU gh * cU gw->ES (13+cU gh * cU gw * 8:Nat) es->St No W w [.row 107 2 B (cU gh * cU gw) cB (eT es)]->AI W (.tuple #[ii gw,ii gh,.slice B (cU gh * cU gw) cB,ii 0]) w:=fun h1 h2 h3=>by rw [cD (cU gh)] at *; exact ⟨_,_,_,_,_,_,_,rfl,h3,fun _=>⟨gw,gh,_,rfl,rfl,hgw,hgh,rfl,h1,h2,rfl⟩⟩
    generalize cU gh * cU gw=N at *
    have e8:(8:Int) * (N:Nat)=((8 * N:Nat):Int):=om
    have e13:(13:Int)+((8 * N:Nat):Int)=((13+N * 8:Nat):Int):=om
    refine EO hti ?_
    intro _ S
    refine zK (hge _ (hA.gr S.out) 9 4 (by decide) (by decide)) ?_
    rintro _ w4_ ⟨x3,hx3,rfl,g4_⟩
    have S:=S.gr g4_
    refine z ?_
    obtain ⟨b3,hb3⟩:∃ b,(x3 != ((N:Nat):Int))=b:=⟨_,rfl⟩
    refine dU (ff (b:=b3) rfl hb3) ?_
    refine ze ?_
    rcases b3 with _ | _
    ·skip
     refine zc ?_
     refine eX rfl ?_
     refine zc ?_
     refine gO ?_
     try show CW _ _ _ _ _ _
     rcases fv (l.length < 13+N * 8) with hsh | hsh
     ·skip
      refine yA ?_
      exact CF rfl rfl rfl rfl (.no (by decide) S.out)
     ·skip
      repeat refine dm ?_
      refine dz ?_
      refine dU (jx rfl) ?_
      refine dU (p6 fR rfl) ?_
      refine dU (jx rfl) ?_
      refine dU (fh rfl om) ?_
      rw [e8]
      refine dU (fh rfl om) ?_
      rw [e13]
      refine dU (ff (b:=false) rfl (iO om)) ?_
      first | refine eF ?_ | (refine di ?_; show CW _ _ _ _ _ _) | refine di ?_
      repeat refine dm ?_
      refine eX rfl ?_
      repeat refine dm ?_
      refine gO ?_
      try show CW _ _ _ _ _ _
      repeat refine dm ?_
      refine dz ?_
      refine dU (jx rfl) ?_
      refine dU (fh rfl om) ?_
      rw [e8]
      refine zg ?_
      rw [e13]
      refine zg ?_
      refine mv Zy t7 S ?_
      intro A_o w6_ g6_ S sa_o
      refine zg ?_
      refine dl (fun m e w=>∃ (i:Nat) (q:Int) (es:List (Int × Int)) (B:Option Addr) (cB:Nat),i+m=N/\es.length=i/\q=(13+N * 8:Nat)+(es.map Prod.snd).sum/\((13+N * 8:Nat)<=q/\q<=(13+N * 8:Nat)+(i:Int) * 1048576)/\ES (13+N * 8:Nat) es /\
        SL e [(0,.slice A l.length c),(6,ii gw),(7,ii gh),(8,ii N),(10,ii q),(11,.slice B i cB),(12,ii i)] /\
        St No W w [.row 107 2 B i cB (eT es)]) N
       ⟨0,_,[],_,_,om,rfl,by simp,om,Ld _,⟨rfl,rfl,rfl,rfl,rfl,rfl,rfl,trivial⟩,S⟩ ?_
      clear S
      rintro m e w ⟨i,q,es,B,cB,hi,hes,hq,hqr,hch,hsl,S⟩
      rw [hsl.fold]
      rcases fv (i < N) with hlt | hlt
      ·have e8i:(8:Int) * (i:Nat)=((8 * i:Nat):Int):=om
       have e13i:(13:Int)+((8 * i:Nat):Int)=((13+8 * i:Nat):Int):=om
       have e17i:(17:Int)+((8 * i:Nat):Int)=((17+8 * i:Nat):Int):=om
       refine zg ?_
       rw [e8i]
       refine zg ?_
       rw [e13i]
       refine zK (hge w (hA.gr S.out) (13+8 * i) 4 om (by decide)) ?_
       rintro _ w7_ ⟨v1,hv1,rfl,g7_⟩
       have S:=S.gr g7_
       refine zg ?_
       rw [e8i]
       refine zg ?_
       rw [e17i]
       refine zK (hge _ (hA.gr S.out) (17+8 * i) 4 om (by decide)) ?_
       rintro _ w8_ ⟨v2,hv2,rfl,g8_⟩
       have S:=S.gr g8_
       refine zN ?_
       intro b_x w10_ g10_ S
       refine Z1 0 S ?_
       intro w11_ S
       refine ze ?_
       rcases fv (v1=q/\1<=v2/\v2<=1048576) with hok | hok
       ·obtain ⟨rfl,h1,h2⟩:=hok
        repeat refine dm ?_
        refine dz ?_
        refine dU (du lB rfl cR rfl rfl) ?_
        refine dH (cV iY rfl rfl (S.blk (i:=0) rfl) rfl) ?_
        refine dU (jx rfl) ?_
        refine dU (ff (b:=false) rfl (eo.2 om)) ?_
        refine dU (jx rfl) ?_
        first | refine eD rfl ?_ | (refine dr rfl ?_; refine dU (du lB rfl cR rfl rfl) ?_)
        first | refine eD rfl ?_ | (refine dr rfl ?_; refine dH (cV iY rfl rfl (S.blk (i:=0) rfl) rfl) ?_)
        first | refine eD rfl ?_ | (refine dr rfl ?_; refine dU (ff (b:=false) rfl (iO om)) ?_)
        iterate 2 refine dU (jx rfl) ?_
        first | refine eD rfl ?_ | (refine dr rfl ?_; refine dU (du lB rfl cR rfl rfl) ?_)
        first | refine eD rfl ?_ | (refine dr rfl ?_; refine dH (cV iY rfl rfl (S.blk (i:=0) rfl) rfl) ?_)
        first | refine eD rfl ?_ | (refine dr rfl ?_; refine dU (ff (b:=false) rfl (iO om)) ?_)
        refine dU (jx rfl) ?_
        first | refine eF ?_ | (refine di ?_; show CW _ _ _ _ _ _) | refine di ?_
        repeat refine dm ?_
        refine eX rfl ?_
        repeat refine dm ?_
        refine gO ?_
        try show CW _ _ _ _ _ _
        repeat refine dm ?_
        refine dz ?_
        refine dU (jx rfl) ?_
        refine dH (fx lB rfl (t7 _) rfl (S.blk (i:=0) rfl) rfl rfl) ?_
        refine yb S ?_
        intro A_on w13_ g13_ S sa_on
        refine ZP 2 0 S ?_
        intro A_o2 c_o2 w14_ S sa_o
        refine zg ?_
        have S:=S.drop 2
        rw [wr] at S
        have hsum:((es ++ [(v1,v2)]).map Prod.snd).sum=(es.map Prod.snd).sum+v2:=by simp
        exact ⟨m - 1,om,i+1,v1+v2,es ++ [(v1,v2)],A_o2,c_o2,om,by simp [hes],by rw [hsum]; omega,om,If hch hq ⟨h1,h2⟩,⟨rfl,rfl,rfl,rfl,rfl,rfl,ie om,trivial⟩,S⟩
       ·rcases fv (v1=q) with h1 | h1
        ·rcases fv (v2 < 1) with h2 | h2
         ·skip
          (iterate 3 refine z ?_); refine zf ?_; (iterate 3 refine z ?_); refine zt ?_; iterate 4 refine z ?_
          first | refine eD rfl ?_ | (refine dr rfl ?_; (first | refine dU (ff (b:=true) rfl (fD om)) ?_ | refine dU (ff (b:=false) rfl (iO om)) ?_ | refine dU (jx rfl) ?_))
          iterate 5 refine z ?_
          refine zq ?_
          exact CF rfl rfl rfl rfl (.no (by decide) S.out)
         ·skip
          (iterate 3 refine z ?_); refine zf ?_; (iterate 3 refine z ?_); refine zf ?_; (iterate 4 refine z ?_); refine zt ?_; iterate 5 refine z ?_
          refine zq ?_
          exact CF rfl rfl rfl rfl (.no (by decide) S.out)
        ·skip
         (iterate 3 refine z ?_); refine zt ?_; iterate 3 refine z ?_
         first | refine eD rfl ?_ | (refine dr rfl ?_; (first | refine dU (ff (b:=true) rfl (fD om)) ?_ | refine dU (ff (b:=false) rfl (iO om)) ?_ | refine dU (jx rfl) ?_))
         iterate 4 refine z ?_
         first | refine eD rfl ?_ | (refine dr rfl ?_; (first | refine dU (ff (b:=true) rfl (fD om)) ?_ | refine dU (ff (b:=false) rfl (iO om)) ?_ | refine dU (jx rfl) ?_))
         iterate 5 refine z ?_
         refine zq ?_
         exact CF rfl rfl rfl rfl (.no (by decide) S.out)
      ·obtain rfl:i=N:=om
       refine zX ?_
       exact (hfin hes hch S)
    ·skip
     refine zX ?_
     exact (.no (by decide) S.out)
   ·skip
    refine zC (RK (W:=_) X Y hg) ?_
    intro w15_ g15_ S
    refine zX ?_
    exact (.no (by decide) S.out)
  ·skip
   refine zX ?_
   exact (.no (by decide) S.out)
end
section
variable{l:List Int}
theorem RM(r:Rc)(O:1<=gw/\gw<=1024)(L:1<=gh/\gh<=1024)(D:r.ok gw gh):Fn prog 43 [.agg #[ii r.x0,ii r.y0,ii r.x1,ii r.y1]] W (dp (.tuple #[ii ((r.x1:Int)-r.x0+1),ii ((r.y1:Int)-r.y0+1)]) W):=by
 obtain⟨x0,y0,x1,y1⟩:=r;obtain⟨U,V⟩:=D;dsimp only at *;have S:=St.start W;refine zI func43 ?_;refine zN ?_;intro v I y S;refine zF [0,1,2,3,4,5,6,7,8,9,10,11,12,13] [] ?_;intro J z S;exact nd rfl rfl ⟨rfl,S.out⟩
def PW(W:World)(v:Value)(w':World):Prop:=∃(x y:Int)(B K:Option Addr)(nB cB nK cK:Nat)(b:Bool),v=.tuple #[.agg #[ii x,ii y,.slice B nB cB],.slice K nK cK,.bool b]/\Gr W w'
theorem RN(hc:l.length<=c)(hm:l.length<=1099511627776)(hA:Rd W A (f9 l)):Fn prog 29 [.slice A l.length c] W (PW W):=by
 have ae:∀{w:World}{L:List HA},St No W w L->PW W (.tuple #[.agg #[ii 0,ii 0,.slice none 0 0],.slice none 0 0,.bool false]) w:=λS=>⟨0,0,none,none,0,0,0,0,false,rfl,S.out⟩;refine yI func29 ?_;refine yA ?_;intro J U _ S;refine zK (Ur hc hm (hA.gr S.out)) ?_;rintro _ bX ⟨B,nB,cB,e1,rfl,aI,aK⟩;have S:=S.gr aI;iterate 5 refine z ?_
 refine ze ?_;rcases fv (e1=0)with an|an
 ·obtain⟨h4,rfl,rfl,rfl⟩:=aK an;subst an;have aw:Rd W B (f9 (l.take (l.length-4))):=by rw[<-tK];exact hA.tk _
  have aq:(l.take (l.length-4)).length=l.length-4:=by rw[d7];omega
  have aB:=λw hA=>RL (W:=w) (A:=B) (c:=cB) (l:=l.take (l.length-4)) (by rw[aq];omega) (by rw[aq];omega) hA;rw[aq]at aB;have bM:l.length-4<=cB:=om;generalize l.take (l.length-4)=l1 at *;generalize l.length-4=n1 at *;refine zK (aB _ (aw.gr S.out)) ?_;rintro _ bY ⟨X,Y,B2,bQ,ac,e2,Q2,rfl,S2,aL⟩;have S:=S.app S2;iterate 9 refine z ?_
  refine ze ?_;rcases fv (e2=0)with ao|ao
  ·obtain⟨gw,gh,es,rfl,rfl,hw,hh,rfl,aQ,ah,rfl⟩:=aL ao;subst ao;have bo:1<=cU gh*cU gw:=fy (kQ hh.1) (kQ hw.1);have aT:cU gw*cU gh<=64*64:=fy (jS hw.2) (jS hh.2);have am:cU gw*cU gh=cU gh*cU gw:=cD _ _;have aU:=λw=>Uw (W:=w) hw hh;have aY:=λw A c=>RH (W:=w) (A:=A) (c:=c) (gw*gh) hw hh;have aV:=λw A c(V:List Int)B cB(r:Rc)(L:List Int)hr hV hL hA hB=>RJ (W:=w) (A:=A) (c:=c) (V:=V) (B:=B) (r:=r) (L:=L) cB hw hh hr hV hL hA hB;rw[am]at aQ ah S aT ⊢;have bP:=Lr ah;have az:=λk(y:Int×Int)=>PT (k:=k) (x:=y) ah;have aP:∀(k:Nat)(y:Int×Int),es[k]?=some y->(13:Int)<=y.1/\1<=y.2:=λk y h=>⟨by have:=(az k y h).1;omega,(ah k y h).2.1⟩;generalize (es.map Prod.snd).sum=bS at *;generalize gw*gh=N at *;have bK:13+cU gh*cU gw*8<=40000:=om;generalize 13+cU gh*cU gw*8=bg at *;generalize hT:cU gh*cU gw=T at *;refine yK aU ?_;rintro _ bZ ⟨D,I,V,hV,rfl,S2⟩;have S:=S.app S2;refine zN ?_;intro aa bp bh S;refine zS ?_;intro bq S;refine zK (aY _ _ _) ?_;rintro _ br ⟨B3,ad,rs,bO,aW,rfl,S2⟩;have S:=S.app S2;refine zg ?_;refine mv iF fa S ?_;intro Z bt bi S aG;refine zg ?_;have S:=S.pick 4 [2,3,0,1] rfl rfl rfl
   refine dl (λmm e w=>∃(k:Nat)(q:Int)(D:Option Addr)(I:Nat)(V:List Int)(Z:Option Addr)(ab:Nat)(ks:List Value),k+mm=T/\V.length=N/\SL e [(2,pt J),(5,pt U),(6,.slice B n1 cB),(10,.slice B2 T ac),(12,pt aa),(14,.slice B3 T ad),(15,.slice Z k ab),(16,ii q),(17,ii k)]/\St No W w [.blk aa 31 [ii gw,ii gh,.slice D N I],.row 2 1 D N I (cY V),.row 3 1 Z k ab ks,.row 43 4 B3 T ad (DP rs),.row 107 2 B2 T ac (eT es),.blk U 31 [ii 0,ii 0,.slice none 0 0],.blk J 31 [ii 0,ii 0,.slice none 0 0]]) T
    ⟨0,0,D,I,V,_,_,[],om,hV,sl,S⟩ ?_
   clear S hV;rintro mm e w ⟨k,q,D,I,V,Z,ab,ks,hk,hV,ar,S⟩;rw[ar.fold];rcases fv (k<T)with aS|aS
   ·obtain⟨⟨xi,ni⟩,hy⟩:∃y,es[k]?=some y:=⟨es[k],fw om⟩;obtain⟨r,hr⟩:∃r,rs[k]?=some r:=⟨rs[k],fw om⟩;have aZ:=az k _ hy;have ba:=aP k _ hy;have ag:(eT es)[(k:Int).toNat * 2+0]?=some (ii xi):=by rw[b7];exact Qv hy
    have ai:(eT es)[(k:Int).toNat * 2+1]?=some (ii ni):=by rw[b7];exact Qw hy
    have aF:=aW r (dD hr);have aX:=λw=>RM (W:=w) r hw hh aF;dsimp only at aZ ba;have bb:dO B2:=(S.row (i:=4) rfl).someA om;have be:dO B3:=(S.row (i:=3) rfl).someA om;obtain⟨pi,rfl⟩:=cJ (show 0<=xi by omega);obtain⟨qi,rfl⟩:=cJ (show 0<=ni by omega);have al:(pi:Int)+(qi:Nat)=((pi+qi:Nat):Int):=om;have bN:pi+qi<=5000000000:=om;rcases fv (((pi+qi:Nat):Int)>(n1:Nat))with aR|aR
    ·skip;refine zD [0,1,2,3,4,5,6,7,8,9,10,11,12,13] [] ?_;refine zO (λwq O=>((S.gr O).rd (i:=4) rfl)) ag ?_;refine zO (λwq O=>((S.gr O).rd (i:=4) rfl)) ai ?_;refine zQ ?_;rw[al];refine zE ?_;intro bu bj S;refine z ?_;refine Z1 6 S ?_;intro bv S;refine yA ?_;exact qj sd rfl (Zm _) rfl (S.blk (i:=6) rfl) rfl rfl rfl rfl (ae S)
    ·have bL:n1<=cB:=om;have hD:Rd W (uA B (pi*1) (cB-pi)) (f9 ((l1.drop pi).take qi)):=by rw[<-tK];exact(aw.off8 om om).tk qi
     have aA:((l1.drop pi).take qi).length=qi:=by rw[d7,i8];omega
     have aj:=λw' hA=>RD (W:=w') (A:=uA B (pi*1) (cB-pi)) (c:=cB-pi) (l:=(l1.drop pi).take qi) ((r.x1:Int)-r.x0+1) ((r.y1:Int)-r.y0+1) (by rw[aA];omega) hA;rw[aA]at aj;generalize (l1.drop pi).take qi=l2 at *;generalize aJ:uA B (pi*1) (cB-pi)=A3 at *;have aE:=Wt hr;refine zD [0,1,2,3,4,5,6,7,8,9,10,11,12,13] [] ?_;refine zO (λwq O=>((S.gr O).rd (i:=4) rfl)) ag ?_;refine zO (λwq O=>((S.gr O).rd (i:=4) rfl)) ai ?_;refine zQ ?_;rw[al];refine zE ?_;intro bw bk S;refine ZU (S.rd (i:=3) rfl) aE ?_;refine zC (aX _) ?_;intro bz bl S;refine zH (C:=(uB No W [.blk aa 31 [ii gw,ii gh,.slice D N I],.row 2 1 D N I (cY V),.row 3 1 Z k ab ks,.row 43 4 B3 T ad (DP rs),.row 107 2 B2 T ac (eT es),.blk U 31 [ii 0,ii 0,.slice none 0 0],.blk J 31 [ii 0,ii 0,.slice none 0 0]] (λσ Q=>match σ with|[]=>Q=[]|v::_=>∃(B:Option Addr)(nB cB:Nat)(x e:Int),v=.tuple #[.slice B nB cB,ii x,ii e]/\(e=0->∃R:List Int,R.length=nB/\R.length<=1048576/\Q=[.row 2 1 B nB cB (cY R)])))) [20] [0,1,2,3,4,5,6,7,8,9,10,11,12,13,14,15,16,17,18,19,20,21,22,23,24,25,26,27] [] (uB.start rfl (S.gr (Gr.drew _))) ?_;refine qo rfl (λτ wq O=>eI iY rfl rfl ((uB.st O).rd (i:=4) rfl) ag) ?_;refine zR ?_;refine qo rfl (λτ wq O=>eI iY rfl rfl ((uB.st O).rd (i:=4) rfl) ag) ?_;refine zR ?_;refine qo rfl (λτ wq O=>eI iY rfl rfl ((uB.st O).rd (i:=4) rfl) ai) ?_;refine zR ?_;rw[al];refine ot rfl (Gb fR gJ rfl rfl rfl om om) ?_;rw[aJ,iw];refine zR ?_;refine de rfl rfl (λwq O=>vh O rfl (λQ hQ S=>by cases hQ;exact(aj _ (hD.gr S.out)).mono λv w'⟨B,nB,cB,x,e,Q',hv,S2,hQ'⟩=>⟨Q',⟨B,nB,cB,x,e,hv,hQ'⟩,S.app S2⟩)) ?_;rintro bU bW ⟨bI,⟨B5,bR,ak,x5,e5,rfl,_⟩,_⟩;refine zY ?_;rintro wz hz;refine ze ?_;obtain⟨Q5,⟨_,_,_,_,_,e_,aM⟩,S⟩:=hz;cases e_
     rcases fv (e5=0)with ap|ap
     ·obtain⟨R5,rfl,bJ,rfl⟩:=aM ap;subst ap;have S:=S.pick 2 [1,0] rfl rfl rfl;have aD:=λw(S:St No W w (.row 2 1 B5 R5.length ak (cY R5)::[.row 2 1 D N I (cY V),.row 3 1 Z k ab ks,.row 43 4 B3 T ad (DP rs),.row 107 2 B2 T ac (eT es),.blk U 31 [ii 0,ii 0,.slice none 0 0],.blk J 31 [ii 0,ii 0,.slice none 0 0]]))=>aV w D I V B5 ak r R5 aF hV om (S.rd (i:=1) rfl) (S.rd (i:=0) rfl);refine z ?_;refine zf ?_;refine zc ?_;refine eX rfl ?_;refine zc ?_;refine gO ?_;try show CW _ _ _ _ _ _
      refine zc ?_;refine gP (M:=λe w=>∃(A2:Option Addr)(c2:Nat)(V2:List Int),V2.length=N/\SL e [(2,pt J),(5,pt U),(6,.slice B n1 cB),(10,.slice B2 T ac),(12,pt aa),(14,.slice B3 T ad),(15,.slice Z k ab),(16,ii q),(17,ii k),(21,ii x5)]/\St No W w [.blk aa 31 [ii gw,ii gh,.slice A2 N c2],.row 2 1 A2 N c2 (cY V2),.row 3 1 Z k ab ks,.row 43 4 B3 T ad (DP rs),.row 107 2 B2 T ac (eT es),.blk U 31 [ii 0,ii 0,.slice none 0 0],.blk J 31 [ii 0,ii 0,.slice none 0 0]]) ?_ ?_
      ·skip;refine zH (C:=(uB No W (.row 2 1 B5 R5.length ak (cY R5)::[.row 2 1 D N I (cY V),.row 3 1 Z k ab ks,.row 43 4 B3 T ad (DP rs),.row 107 2 B2 T ac (eT es),.blk U 31 [ii 0,ii 0,.slice none 0 0],.blk J 31 [ii 0,ii 0,.slice none 0 0]]) (λσ Q=>match σ with|[]=>Q=[.blk aa 31 [ii gw,ii gh,.slice D N I]]|[v]=>v=.agg #[ii gw,ii gh,.slice D N I]/\Q=[.blk aa 31 [ii gw,ii gh,.slice D N I]]|[v,_]=>∃(A':Option Addr)(c':Nat)(V':List Int)(e:Int)(R:List HA),v=.tuple #[.agg #[ii gw,ii gh,.slice A' N c'],ii e]/\V'.length=N/\(R=[]/\A'=D/\c'=I/\V'=V\/R=[.row 2 1 A' N c' (cY V')])/\Q=R++[.blk aa 31 [ii gw,ii gh,.slice D N I]]|_::v::_=>∃(A':Option Addr)(c':Nat)(V':List Int)(e:Int)(R:List HA),v=.tuple #[.agg #[ii gw,ii gh,.slice A' N c'],ii e]/\V'.length=N/\(R=[]/\A'=D/\c'=I/\V'=V\/R=[.row 2 1 A' N c' (cY V')])/\Q=R++[.blk aa 31 [ii gw,ii gh,.slice A' N c']]))) [0,6,10] [1,2,3,4,5,0,6,7,8,9,10] [] ⟨_,rfl,S.gr (Gr.drew _)⟩ ?_;refine qo rfl (λτ wq O=>fb dL rfl (fS _) rfl ((uB.st O).rd (i:=3) rfl) aE rfl rfl) ?_;refine zR ?_;refine de rfl rfl (λwq O=>?_) ?_
       ·obtain⟨Q,hQ,S⟩:=O;cases hQ;exact gu rfl (dH (fx sd rfl (Zm _) rfl (S.blk (i:=0) rfl) rfl rfl) ⟨_,⟨rfl,rfl⟩,S⟩)
       rintro v0 w0 ⟨Q0,⟨rfl,_⟩,_⟩;refine de rfl rfl (λwq O=>vh O rfl (λQ hQ S=>?_)) ?_
       ·obtain⟨_,rfl⟩:=hQ;exact(aD _ (S.drop 1)).mono λv w'⟨A',c',V',e,Q',hl,hv,S2,hQ'⟩=>⟨_,⟨A',c',V',e,Q',hv,hl,hQ'.imp (λh=>⟨h.1,h.2.1,h.2.2.1,h.2.2.2⟩) (λh=>h),rfl⟩,by rw[cL];exact S.app S2⟩
       rintro v6 w6 ⟨Q6,⟨A6,c6,V6,e6,R6,rfl,_⟩,_⟩;refine zR ?_;refine de rfl rfl (λwq O=>?_) ?_
       ·obtain⟨Q,⟨A',c',V',e,R,hv,hl,hR,rfl⟩,S⟩:=O;cases hv;exact hR.elim (λ⟨h0,h1,h2,h3⟩=>by subst h0;exact gu rfl (d8 (i:=0) S rfl (Zm _) rfl rfl rfl rfl rfl rfl (λw' S'=>⟨_,⟨_,_,_,_,[],rfl,hl,.inl ⟨rfl,h1,h2,h3⟩,rfl⟩,S'⟩))) (λh=>by subst h;exact gu rfl (d8 (i:=1) S rfl (Zm _) rfl rfl rfl rfl rfl rfl (λw' S'=>⟨_,⟨_,_,_,_,[_],rfl,hl,.inr rfl,rfl⟩,S'⟩)))
       rintro bT bV _;refine zY ?_;rintro wz hz;refine ze ?_;obtain⟨_,⟨A2,c2,V2,_,R2,aH,aC,aN,rfl⟩,S⟩:=hz;cases aH
       rcases aN with⟨rfl,rfl,rfl,rfl⟩|rfl
       ·exact⟨_,_,_,aC,sl,S.sub (.cons_cons _ (.cons _ (cQ _)))⟩
       ·exact⟨_,_,_,aC,sl,(S.pick 2 [1,0] rfl rfl rfl).sub (.cons_cons _ (.cons_cons _ (.cons _ (.cons _ (cQ _)))))⟩
      ·rintro e w8 ⟨A2,c2,V2,aO,ar,S⟩;rw[ar.fold];refine zg ?_;refine yb S ?_;intro bf bA bm S bc;refine ZP 3 0 S ?_;intro au av bB S aG;refine zD [0,1,2,3,4,5,6,7,8,9,10,11] [] ?_;refine zO (λwq O=>((S.gr O).rd (i:=5) rfl)) ag ?_;refine zO (λwq O=>((S.gr O).rd (i:=5) rfl)) ai ?_;refine zE ?_;intro bC bn S;exact⟨mm-1,om,k+1,_,A2,c2,V2,au,av,_,om,aO,sl,S.drop 1⟩
     ·have S:=St.tail S;refine z ?_;refine zt ?_;refine z ?_;refine Z1 6 S ?_;intro bD S;refine z ?_;refine z ?_;refine zq ?_;exact qj sd rfl (Zm _) rfl (S.blk (i:=6) rfl) rfl rfl rfl rfl (ae S)
   ·obtain rfl:k=T:=om;rcases fv (q≠(n1:Nat))with O|O
    ·skip;(iterate 3 refine z ?_);refine zf ?_;refine zc ?_;refine eX rfl ?_;refine zc ?_;refine pD ?_;repeat first|refine nC ?_|refine pE ?_
     show CW _ _ _ _ _ _;(iterate 3 refine z ?_);refine zt ?_;refine z ?_;refine Z1 6 S ?_;intro bE S;refine z ?_;refine z ?_;refine zq ?_;exact qj sd rfl (Zm _) rfl (S.blk (i:=6) rfl) rfl rfl rfl rfl (ae S)
    ·skip;(iterate 3 refine z ?_);refine zf ?_;refine zc ?_;refine eX rfl ?_;refine zc ?_;refine pD ?_;repeat first|refine nC ?_|refine pE ?_
     show CW _ _ _ _ _ _;(iterate 3 refine z ?_);refine zf ?_;refine z ?_;refine z ?_;refine Z1 6 S ?_;intro bF S;refine z ?_;refine z ?_;refine zq ?_;exact qj sd rfl (Zm _) rfl (S.blk (i:=6) rfl) rfl rfl rfl rfl ⟨_,_,_,_,_,_,_,_,_,rfl,S.out⟩
  ·have S:=St.tail S;repeat refine dm ?_
   refine dz ?_;refine dU (jx rfl) ?_;refine dU (ff (b:=true) rfl (f5.2 om)) ?_;first|refine eF ?_|(refine di ?_;show CW _ _ _ _ _ _)|refine di ?_
   repeat refine dm ?_
   refine jr rfl ?_;repeat refine dm ?_
   refine dz ?_;refine dH (fx sd rfl (Zm _) rfl (S.blk (i:=0) rfl) rfl rfl) ?_;refine Z1 1 S ?_;intro bG S;iterate 2 refine dU (jx rfl) ?_
   first|refine eF ?_|(refine di ?_;show CW _ _ _ _ _ _)|refine di ?_
   repeat refine dm ?_
   refine mJ ?_;repeat first|refine mL ?_|refine oq ?_
   exact qj sd rfl (Zm _) rfl (S.blk (i:=1) rfl) rfl rfl rfl rfl (ae S)
 ·skip;repeat refine dm ?_
  refine dz ?_;refine dU (jx rfl) ?_;refine dU (ff (b:=true) rfl (f5.2 om)) ?_;first|refine eF ?_|(refine di ?_;show CW _ _ _ _ _ _)|refine di ?_
  repeat refine dm ?_
  refine jr rfl ?_;repeat refine dm ?_
  refine dz ?_;refine dH (fx sd rfl (Zm _) rfl (S.blk (i:=0) rfl) rfl rfl) ?_;refine Z1 1 S ?_;intro bH S;iterate 2 refine dU (jx rfl) ?_
  first|refine eF ?_|(refine di ?_;show CW _ _ _ _ _ _)|refine di ?_
  repeat refine dm ?_
  refine mJ ?_;repeat first|refine mL ?_|refine oq ?_
  exact qj sd rfl (Zm _) rfl (S.blk (i:=1) rfl) rfl rfl rfl rfl (ae S)
end
end Go.Proofs.YtcalhocphkbbgaaGreatDoor
