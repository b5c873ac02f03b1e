/- hachuretop.WholeLevels: a part of the proof that the law returns true at every input; no condition of its own. -/
import Derived.Test.YtjfeklflkikapaaGreatDoorKR
import Derived.Test.YtjfeklflkikapaaGreatDoorKT
import Derived.Test.YtjfeklflkikapaaGreatDoorKW
set_option maxRecDepth 100000
set_option maxHeartbeats 16000000
set_option linter.unusedVariables false
set_option linter.unusedSimpArgs false
namespace Go.Proofs.YtjfeklflkikapaaGreatDoor
open Go.Proofs.Tryz Go.RowKit
variable{Q:(Nat->Value)->World->Prop}{fn:Func}{h:HA}{Y a:Int}{es:List (Int × Int)}{tl:List HA}{ks:List Nat}{l:List Value}{N b c cB gh gw i k m n p q rb:Nat}{F X:Nat->Prop}{e:Nat->Value}{op:Op}{hi x:Operand}{A A2 B:Option Addr}{d:Option Tmp}{P:Program}{G:Prop}{t:TypeId}{u v1 v2 v3:Value}{R:Value->World->Prop}{W w w' wq:World}
def Ua(l m:List Int):Bool:=(Bt l).toList==(Bt m).toList
def Ub(d:List Int):Nat->Int
 |0=>0
 |i+1=>bits .or .u64 (Ub d i) (IntKind.u64.wrap (IntKind.u64.wrap (d.getD i 0)*2^(min ((8*i:Nat):Int).toNat IntKind.u64.bits)))
def Jz(l:List Int)(jF k:Nat):Int:=if jF+k<=l.length then IntKind.i64.wrap (Ub ((l.drop jF).take k) k)else 0
def JA(l:List Int)(jF k:Nat):Nat:=if jF+k<=l.length then jF+k else jF
theorem NL(n:Int):-9223372036854775808<=IntKind.i64.wrap n/\IntKind.i64.wrap n<=9223372036854775807:=by rw[oY];omega
theorem CF{t u x y:Tmp}{O:Value}(h1:fz (e t)=some v1)(h2:fz (e u)=some v2)(S:fz (e x)=some v3)(U:fz (e y)=some O)(V:R (.tuple #[v1,v2,v3,O]) w):QF P #[.tmp t,.tmp u,.tmp x,.tmp y] R .ret e w :=
 ⟨_,λfn v Z z=>by
  have D:=z t;have I:=z u;have J:=z x;have L:=z y;rw[m9 h1]at D;rw[m9 h2]at I;rw[m9 S]at J;rw[m9 U]at L;have h:=show(results fn v).run P w=.ok (.tuple #[v.getD t undef,v.getD u undef,v.getD x undef,v.getD y undef]) w by simp[results,Z]
  rw[h,D,I,J,L],V⟩
section
variable{l m:List Int}
theorem Ie(v:Rd W A (f9 l))(y:Rd W B (f9 m)):Fn prog 197 [.slice A l.length c,.slice B m.length cB] W (dp (.bool (Ua l m)) W):=by
 have S:=St.start W;refine zI func197 ?_;refine zg ?_;refine dH (BZ dg dv fk rfl (v.gr S.out)) ?_;refine zg ?_;refine dH (BZ dg dv fk rfl (y.gr S.out)) ?_;refine cq (yu rfl rfl rfl) ?_;exact zZ
theorem NM(U:l.length<=c)(y:Rd W A (f9 l))(D:Rd W B (f9 m)):Fn prog 201 [.slice A l.length c,.slice B m.length cB] W (dp (.bool (decide (m.length<=l.length)&&Ua (l.take m.length) m)) W):=by
 rcases cr (m.length<=l.length)with h|h
 ·have L:Rd W A (f9 (l.take m.length)):=by rw[<-tK];exact y.tk _
  have I:(l.take m.length).length=m.length:=by rw[d7];omega
  have J:=λW y D=>Ie (W:=W) (A:=A) (B:=B) (c:=c) (cB:=cB) (l:=l.take m.length) (m:=m) y D;rw[I]at J;rw[cF h,tR];have S:=St.start W;refine zI func201 ?_;refine zg ?_;refine dr rfl ?_;refine cq (jb (n:=(m.length:Int)) dg gJ rfl rfl om om) ?_;rw[b7];refine z ?_;refine dr rfl ?_;refine eY rfl (J W (L.gr S.out) (D.gr S.out)) ?_;rintro _ O ⟨rfl,v⟩;have S:=S.gr v;exact zZ
 ·rw[cC h,nz];have S:=St.start W;refine zI func201 ?_;exact zZ
theorem Wl(jF n:Nat)(U:jF<=l.length)(hn:1<=n/\n<=8)(V:l.length<=c)(hm:l.length<=1099511627776)(O:Rd W A (f9 l)) :
  Fn prog 256 [.slice A l.length c,ii jF,ii n] W (dp (.tuple #[.int .u64 (if jF+n<=l.length then Ub ((l.drop jF).take n) n else 0),ii (if jF+n<=l.length then jF+n else 0:Nat),ii (if jF+n<=l.length then 0 else 14)]) W):=by
 rcases cr (jF+n<=l.length)with h|h
 ·rw[a7 h,a7 h,a7 h];have y:Rd W (uA A (jF*1) (c-jF)) (f9 ((l.drop jF).take n)):=by rw[<-tK];exact(O.off8 om V).tk n
  have Z:((l.drop jF).take n).length=n:=by rw[d7,i8];omega
  have I:(jF:Int)+n=((jF+n:Nat):Int):=om;generalize v:uA A (jF*1) (c-jF)=A2 at y;generalize (l.drop jF).take n=d at *;have S:=St.start W;refine zI func256 ?_;refine zg ?_;rw[I];refine cq (Gb dg gJ rfl rfl rfl om om) ?_;rw[v,iw];refine zg ?_
  refine dl (λm e w=>∃i:Nat,i+m=n/\SL e [(1,ii jF),(2,ii n),(9,.int .u64 (Ub d i)),(41,.slice A2 n (c-jF)),(42,ii n),(43,ii i)]/\St No W w []) n
   ⟨0,om,sl,S⟩ ?_
  clear S;rintro m e w ⟨i,hi,D,S⟩;rw[D.fold];rcases cr (i<n)with z|z
  ·have J:dO A2:=y.someA (by rw[m4];omega)
   have hg:(f9 d)[(i:Int).toNat * 1]?=some (.int .u8 (d.getD i 0)):=by
    rw[Cx (show i<d.length by omega)];rw[cO,ct (show i<d.length by omega)];rfl
   have L:(8:Int)*i=((8*i:Nat):Int):=om;refine zT (y.gr S.out) hg ?_;refine zg ?_;refine cq (dY (ks:=.u8) (n:=d.getD i 0) (kd:=.u64) dv dU rfl rfl) ?_;refine zg ?_;rw[L];refine cq (vz rfl rfl om rfl) ?_;refine cq (gR (op:=.or) rfl rfl rfl) ?_;refine zg ?_;exact⟨m-1,om,i+1,om,sl,S⟩
  ·obtain rfl:i=n:=om;refine zg ?_;rw[I];exact zZ
 ·rw[a8 h,a8 h,a8 h];have S:=St.start W;refine zI func256 ?_;exact zZ
end
section
variable{jF:Nat}{l m:List Int}
theorem pR(I:jF<=l.length)(U:1<=k/\k<=8)(O:l.length<=c)(V:l.length<=1099511627776)(y:Rd w A (f9 l))(S:St F W w (.blk rb 331 [.slice A l.length c,ii jF]::tl)) :
  Fn prog (202) [pt rb,ii k] w (λv w'=>v=ii (Jz l jF k)/\St F W w' (.blk rb 331 [.slice A l.length c,ii (JA l jF k)]::tl)):=by
 have z:=λw y=>Wl (W:=w) (A:=A) (c:=c) (l:=l) jF k I U O V y;unfold Jz JA;rcases cr (jF+k<=l.length)with h|h
 ·rw[a7 h,a7 h];rw[a7 h,a7 h,a7 h]at z;generalize Ub ((l.drop jF).take k) k=u at *;refine zI func202 ?_;refine zD [0,1,2,3,4,5,6,7,8,9,10,11,12,13,14,15,16] [] ?_;refine zP (λwq J=>z wq (y.gr J)) ?_;refine zE ?_;intro L D S;refine zS ?_;intro Z S;refine cq (dY (ks:=.u64) (n:=u) (kd:=.i64) dU cw rfl rfl) ?_;refine zX ?_;exact⟨rfl,S⟩
 ·rw[a8 h,a8 h];rw[a8 h,a8 h,a8 h]at z;refine zI func202 ?_;refine zD [0,1,2,3,4,5,6,7,8,9,10,11,12,13,14,15,16] [] ?_;refine zP (λwq J=>z wq (y.gr J)) ?_;refine zE ?_;intro L D S;refine cq (dY (ks:=.u64) (n:=0) (m:=0) (kd:=.i64) dU cw rfl rfl) ?_;refine zX ?_;exact⟨rfl,S⟩
end
section
variable{l:List Int}{n m:Int}
theorem JB(z:-9223372036854775808<=n/\n<=9223372036854775807)(y:-9223372036854775808<=m/\m<=9223372036854775807)(v:¬((1<=n/\n<=1024)/\1<=m/\m<=1024)):Fn prog 128 [.agg #[ii 0,ii 0,ii 0,ii 0],ii n,ii m] W (dp (ii 3) W):=by
 by_cases h1:n=-9223372036854775808
 ·exact wu 0 0 0 0 n m z y (.inl h1)
 ·by_cases h2:m=-9223372036854775808
  ·exact wu 0 0 0 0 n m z y (.inr ⟨h1,h2⟩)
  ·have:=jW 0 0 0 0 n m om om W
   have e:dF 0 0 0 0 n m=3:=by
    unfold dF fL;rw[a7];simp;omega
   rwa[e]at this
theorem Er(D:-9223372036854775808<=n/\n<=9223372036854775807)(z:-9223372036854775808<=m/\m<=9223372036854775807)(v:¬((1<=n/\n<=1024)/\1<=m/\m<=1024)):Fn prog 203 [ii n,ii m] W (dp (.tuple #[ii 0,ii 3]) W):=by
 have S:=St.start W;refine zI func203 ?_;refine zC (JB (W:=W) D z v) ?_;intro I y S;exact zZ
theorem NN(D:-9223372036854775808<=n/\n<=9223372036854775807)(z:-9223372036854775808<=m/\m<=9223372036854775807)(v:¬((1<=n/\n<=1024)/\1<=m/\m<=1024)):Fn prog 204 [ii n,ii m] W (dp (.tuple #[ii 0,ii 3]) W):=by
 have S:=St.start W;refine zI func204 ?_;refine zC (Er (W:=W) D z v) ?_;intro I y S;exact zZ
def ES(a:Int)(es:List (Int×Int)):Prop:=∀i x,es[i]?=some x->x.1=a+((es.take i).map Prod.snd).sum/\1<=x.2/\x.2<=1048576
theorem Ld(a:Int):ES a []:=λi x h=>by cases h
theorem If{x:Int×Int}(h:ES a es)(h1:x.1=a+(es.map Prod.snd).sum)(h2:1<=x.2/\x.2<=1048576):ES a (es++[x]):=λi y v=>by
 rcases qG i es.length with hi|hi|hi
 ·rw[gt hi]at v;rw[lg om];exact h i y v
 ·subst hi;rw[fU (cN _),j8]at v;injection v with v;subst v;rw[pX];exact⟨h1,h2⟩
 ·rw[dZ (by simp;omega)]at v;cases v
def AI(W:World)(v:Value)(w':World):Prop:=∃(X Y:Int)(B:Option Addr)(nB cB:Nat)(e:Int)(Q:List HA),v=.tuple #[ii X,ii Y,.slice B nB cB,ii e]/\St No W w' Q /\
 (e=0->∃(gw gh:Nat)(es:List (Int×Int)),X=gw/\Y=gh/\(1<=gw/\gw<=1024)/\(1<=gh/\gh<=1024)/\nB=cU gw*cU gh/\es.length=nB/\ES (13+cU gw*cU gh*8:Nat) es/\Q=[.row 94 2 B nB cB (eT es)])
theorem AI.no{X e:Int}(v:e≠0)(G:Gr W w):AI W (.tuple #[ii X,ii Y,.slice none 0 0,ii e]) w:=⟨X,Y,none,0,0,e,[],rfl,(St.start W).gr G,λh=>absurd h v⟩
theorem CG{a:Nat}(h:a<=l.length):JA l a k<=l.length:=by unfold JA;split<;>omega
theorem Wm(hc:l.length<=c)(hm:l.length<=1099511627776)(hA:Rd W A (f9 l)):Fn prog 132 [.slice A l.length c] W (AI W):=by
 have S:=St.start W
 rcases cr (l.length<13)with h13|h13
 ·skip
  refine zI func132 ?_
  refine zX ?_
  exact(.no (by decide) S.out)
 ·have hd5:5<=l.length:=om
  have hpr:=λw B(hA:Rd w A (f9 l))hB=>NM (W:=w) (A:=A) (B:=B) (c:=c) (cB:=5) (l:=l) (m:=[72,65,67,72,1]) hc hA hB
  generalize (decide ([(72:Int),65,67,72,1].length<=l.length)&&Ua (l.take [(72:Int),65,67,72,1].length) [72,65,67,72,1])=pr at hpr
  cases pr
  ·skip
   refine zI func132 ?_
   refine zg ?_
   refine xQ S dg dv gJ nE rfl rfl rfl rfl rfl (λ_=>rfl) ?_
   intro A5 w5 g5 hR5 S
   skip
   refine zC (hpr w5 _ (hA.gr S.out) hR5) ?_
   intro w1_ g1_ S
   refine zX ?_
   exact(.no (by decide) S.out)
  ·obtain⟨X,hX⟩:∃X,X=IntKind.i64.wrap (Jz l 5 2+1):=⟨_,rfl⟩
   obtain⟨Y,hY⟩:∃Y,Y=IntKind.i64.wrap (Jz l (JA l 5 2) 2+1):=⟨_,rfl⟩
   have hXr:=NL (Jz l 5 2+1)
   have hYr:=NL (Jz l (JA l 5 2) 2+1)
   rw[<-hX]at hXr
   rw[<-hY]at hYr
   have ha1:=CG (k:=2) hd5
   have ha2:=CG (k:=2) ha1
   rcases cr ((1<=X/\X<=1024)/\1<=Y/\Y<=1024)with hg|hg
   ·obtain⟨gw,rfl⟩:=cJ (show 0<=X by omega)
    obtain⟨gh,rfl⟩:=cJ (show 0<=Y by omega)
    have hgw:1<=gw/\gw<=1024:=om
    have hgh:1<=gh/\gh<=1024:=om
    have hti:=λW=>DD (W:=W) hgw hgh
    have hsi:=λW=>KX (W:=W) hgw hgh
    have hmm:cU gw*cU gh<=64*64:=cE (jS hgw.2) (jS hgh.2)
    have ha3:=CG (k:=4) ha2
    have hfin:∀{w:World}{B:Option Addr}{cB:Nat}{es:List (Int×Int)},es.length=cU gw*cU gh->ES (13+cU gw*cU gh*8:Nat) es->St No W w [.row 94 2 B (cU gw*cU gh) cB (eT es)]->AI W (.tuple #[ii gw,ii gh,.slice B (cU gw*cU gh) cB,ii 0]) w:=λh1 h2 h3=>⟨_,_,_,_,_,_,_,rfl,h3,λ_=>⟨gw,gh,_,rfl,rfl,hgw,hgh,rfl,h1,h2,rfl⟩⟩
    generalize cU gw*cU gh=N at *
    rcases cr (Jz l (JA l (JA l 5 2) 2) 4=(N:Nat))with hv3|hv3
    ·rcases cr (l.length<13+N*8)with hsh|hsh
     ·skip
      refine zI func132 ?_
      refine zg ?_
      refine xQ S dg dv gJ nE rfl rfl rfl rfl rfl (λ_=>rfl) ?_
      intro A5 w5 g5 hR5 S
      skip
      refine zC (hpr w5 _ (hA.gr S.out) hR5) ?_
      intro w1_ g1_ S
      refine yA ?_
      intro _ _ S
      refine zK (pR (k:=2) hd5 (by decide) hc hm (hA.gr S.out) S) ?_
      rintro _ w4_ ⟨rfl,S⟩
      refine cq (nO rfl rfl hX.symm) ?_
      refine zK (pR (k:=2) ha1 (by decide) hc hm (hA.gr S.out) S) ?_
      rintro _ w5_ ⟨rfl,S⟩
      refine cq (nO rfl rfl hY.symm) ?_
      refine zC (hti _) ?_
      intro w6_ g6_ S
      refine zC (hsi _) ?_
      intro w7_ g7_ S
      refine zK (pR (k:=4) ha2 (by decide) hc hm (hA.gr S.out) S) ?_
      rintro _ w8_ ⟨rfl,S⟩
      refine yX ?_
      exact(.no (by decide) S.out)
     ·skip
      refine zI func132 ?_
      refine zg ?_
      refine xQ S dg dv gJ nE rfl rfl rfl rfl rfl (λ_=>rfl) ?_
      intro A5 w5 g5 hR5 S
      skip
      refine zC (hpr w5 _ (hA.gr S.out) hR5) ?_
      intro w1_ g1_ S
      refine yA ?_
      intro b_rd _ S
      refine zK (pR (k:=2) hd5 (by decide) hc hm (hA.gr S.out) S) ?_
      rintro _ w4_ ⟨rfl,S⟩
      refine cq (nO rfl rfl hX.symm) ?_
      refine zK (pR (k:=2) ha1 (by decide) hc hm (hA.gr S.out) S) ?_
      rintro _ w5_ ⟨rfl,S⟩
      refine cq (nO rfl rfl hY.symm) ?_
      refine zC (hti _) ?_
      intro w6_ g6_ S
      refine zC (hsi _) ?_
      intro w7_ g7_ S
      refine zK (pR (k:=4) ha2 (by decide) hc hm (hA.gr S.out) S) ?_
      rintro _ w8_ ⟨rfl,S⟩
      refine z ?_
      refine cq (ff (b:=false) rfl (eo.2 hv3)) ?_
      refine zg ?_
      have S:=(S.pushNil 94 2).pick 2 [1,0] rfl rfl rfl
      refine dl (λm e w=>∃(i p:Nat)(q:Int)(es:List (Int×Int))(B:Option Addr)(cB:Nat),i+m=N/\p<=l.length/\es.length=i/\q=(13+N*8:Nat)+(es.map Prod.snd).sum/\((13+N*8:Nat)<=q/\q<=(13+N*8:Nat)+(i:Int)*1048576)/\ES (13+N*8:Nat) es /\
        SL e [(6,pt b_rd),(7,ii gw),(8,ii gh),(13,.slice B i cB),(14,ii q),(62,ii N),(63,ii i)] /\
        St No W w [.blk b_rd 331 [.slice A l.length c,ii p],.row 94 2 B i cB (eT es)]) N
       ⟨0,_,_,[],none,0,om,ha3,rfl,by simp,om,Ld _,⟨rfl,rfl,rfl,rfl,rfl,rfl,rfl,trivial⟩,S⟩ ?_
      clear S
      rintro m e w ⟨i,p,q,es,B,cB,hi,hp,hes,hq,hqr,hch,hsl,S⟩
      rw[hsl.fold]
      rcases cr (i<N)with hlt|hlt
      ·have hp1:=CG (k:=4) hp
       have hp2:=CG (k:=4) hp1
       obtain⟨v1,hv1e⟩:∃v,v=Jz l p 4:=⟨_,rfl⟩
       obtain⟨v2,hv2e⟩:∃v,v=Jz l (JA l p 4) 4:=⟨_,rfl⟩
       have hd1:=λw(L:List HA)S hA=>pR (F:=No) (W:=W) (w:=w) (tl:=L) (A:=A) (c:=c) (l:=l) (rb:=b_rd) (k:=4) hp (by decide) hc hm hA S
       have hd2:=λw(L:List HA)S hA=>pR (F:=No) (W:=W) (w:=w) (tl:=L) (A:=A) (c:=c) (l:=l) (rb:=b_rd) (k:=4) hp1 (by decide) hc hm hA S
       rw[<-hv1e]at hd1
       rw[<-hv2e]at hd2
       rcases cr (v1=q/\1<=v2/\v2<=1048576)with hok|hok
       ·obtain⟨rfl,h1,h2⟩:=hok
        refine zK (hd1 w _ S (hA.gr S.out)) ?_
        rintro _ w9_ ⟨rfl,S⟩
        refine zK (hd2 _ _ S (hA.gr S.out)) ?_
        rintro _ w10_ ⟨rfl,S⟩
        refine zN ?_
        intro b_x w12_ g12_ S
        refine zS ?_
        intro w13_ S
        refine yb S ?_
        intro A_on w15_ g15_ S sa_on
        refine fM (i:=3) S rfl (λh=>rfl) nq DC rfl rfl rfl rfl (by simp) om (S.rd (i:=0) rfl) rfl om ?_
        intro A_o2 c_o2 w16_ S sa_o
        refine zg ?_
        have S:=S.drop 2
        rw[wr]at S
        have hsum:((es++[(v1,v2)]).map Prod.snd).sum=(es.map Prod.snd).sum+v2:=by simp
        exact⟨m-1,om,i+1,_,v1+v2,es++[(v1,v2)],A_o2,c_o2,om,hp2,by simp[hes],by rw[hsum];omega,om,If hch hq ⟨h1,h2⟩,⟨rfl,rfl,rfl,rfl,rfl,rfl,ie om,trivial⟩,S⟩
       ·rcases cr (v1=q)with h1|h1
        ·rcases cr (v2<1)with h2|h2
         ·skip
          refine zK (hd1 w _ S (hA.gr S.out)) ?_
          rintro _ w17_ ⟨rfl,S⟩
          refine zK (hd2 _ _ S (hA.gr S.out)) ?_
          rintro _ w18_ ⟨rfl,S⟩
          refine zN ?_
          intro b_x w20_ g20_ S
          refine zS ?_
          intro w21_ S
          exact CF rfl rfl rfl rfl (.no (by decide) S.out)
         ·skip
          refine zK (hd1 w _ S (hA.gr S.out)) ?_
          rintro _ w22_ ⟨rfl,S⟩
          refine zK (hd2 _ _ S (hA.gr S.out)) ?_
          rintro _ w23_ ⟨rfl,S⟩
          refine zN ?_
          intro b_x w25_ g25_ S
          refine zS ?_
          intro w26_ S
          exact CF rfl rfl rfl rfl (.no (by decide) S.out)
        ·skip
         refine zK (hd1 w _ S (hA.gr S.out)) ?_
         rintro _ w27_ ⟨rfl,S⟩
         refine zK (hd2 _ _ S (hA.gr S.out)) ?_
         rintro _ w28_ ⟨rfl,S⟩
         refine zN ?_
         intro b_x w30_ g30_ S
         refine zS ?_
         intro w31_ S
         exact CF rfl rfl rfl rfl (.no (by decide) S.out)
      ·obtain rfl:i=N:=om
       refine zX ?_
       exact(hfin hes hch (S.drop 1))
    ·skip
     refine zI func132 ?_
     refine zg ?_
     refine xQ S dg dv gJ nE rfl rfl rfl rfl rfl (λ_=>rfl) ?_
     intro A5 w5 g5 hR5 S
     skip
     refine zC (hpr w5 _ (hA.gr S.out) hR5) ?_
     intro w1_ g1_ S
     refine zN ?_
     intro b_rd w3_ g3_ S
     refine zK (pR (k:=2) hd5 (by decide) hc hm (hA.gr S.out) S) ?_
     rintro _ w4_ ⟨rfl,S⟩
     refine cq (nO rfl rfl hX.symm) ?_
     refine zK (pR (k:=2) ha1 (by decide) hc hm (hA.gr S.out) S) ?_
     rintro _ w5_ ⟨rfl,S⟩
     refine cq (nO rfl rfl hY.symm) ?_
     refine zC (hti _) ?_
     intro w6_ g6_ S
     refine zC (hsi _) ?_
     intro w7_ g7_ S
     refine zK (pR (k:=4) ha2 (by decide) hc hm (hA.gr S.out) S) ?_
     rintro _ w8_ ⟨rfl,S⟩
     refine z ?_
     refine cq (ff (b:=true) rfl (f5.2 hv3)) ?_
     refine zX ?_
     exact(.no (by decide) S.out)
   ·skip
    refine zI func132 ?_
    refine zg ?_
    refine xQ S dg dv gJ nE rfl rfl rfl rfl rfl (λ_=>rfl) ?_
    intro A5 w5 g5 hR5 S
    skip
    refine zC (hpr w5 _ (hA.gr S.out) hR5) ?_
    intro w1_ g1_ S
    refine zN ?_
    intro b_rd w3_ g3_ S
    refine zK (pR (k:=2) hd5 (by decide) hc hm (hA.gr S.out) S) ?_
    rintro _ w4_ ⟨rfl,S⟩
    refine cq (nO rfl rfl hX.symm) ?_
    refine zK (pR (k:=2) ha1 (by decide) hc hm (hA.gr S.out) S) ?_
    rintro _ w5_ ⟨rfl,S⟩
    refine cq (nO rfl rfl hY.symm) ?_
    refine zC (Er (W:=_) hXr hYr hg) ?_
    intro w6_ g6_ S
    refine zC (NN (W:=_) hXr hYr hg) ?_
    intro w7_ g7_ S
    refine zX ?_
    exact(.no (by decide) S.out)
end
end Go.Proofs.YtjfeklflkikapaaGreatDoor
