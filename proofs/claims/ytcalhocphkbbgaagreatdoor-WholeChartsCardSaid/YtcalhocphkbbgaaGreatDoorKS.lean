/- A part of the proof that hachuretop.WholeCharts and hachuretop.WholeWater returns true at every input; no condition. -/
import Derived.Test.YtcalhocphkbbgaaGreatDoorKN
import Derived.Test.YtcalhocphkbbgaaGreatDoorKR
set_option maxRecDepth 100000
set_option maxHeartbeats 16000000
set_option linter.unusedVariables false
set_option linter.unusedSimpArgs false
namespace Go.Proofs.YtcalhocphkbbgaaGreatDoor
open Go.Proofs.Tryz Go.RowKit
variable{Q:(Nat->Value)->World->Prop}{fn:Func}{f:FuncId}{h:HA}{X0 X1 Y Y0 Y1 a:Int}{es:List (Int × Int)}{K:List (Nat × Value)->Act->Prop}{ls:List BR}{T tl:List HA}{ks:List Nat}{l l2:List Value}{N b c c2 cB cK g gh gw i j k kind lh m n p q rb x0 x1 y0 y1:Nat}{cc:Nat->Int}{bs:Nat->Nat}{R':Nat->Nat->Bool}{Rs:Nat->Option Nat}{F X:Nat->Prop}{e:Nat->Value}{op:Op}{hi lo x:Operand}{A A2 B B2:Option Addr}{d:Option Tmp}{P:Program}{G:Prop}{s:lT}{t:TypeId}{u v1 v2 v3:Value}{R:Value->World->Prop}{W w w' wq:World}
def Ua(l m:List Int):Bool:=(Bt l).toList==(Bt m).toList
def Ub(d:List Int):Nat->Int
 |0=>0
 |i+1=>bits .or .u64 (Ub d i) (IntKind.u64.wrap (IntKind.u64.wrap (d.getD i 0)*2^(min ((8*i:Nat):Int).toNat IntKind.u64.bits)))
def Jz(l:List Int)(at_ k:Nat):Int:=if at_+k<=l.length then IntKind.i64.wrap (Ub ((l.drop at_).take k) k)else 0
def JA(l:List Int)(at_ k:Nat):Nat:=if at_+k<=l.length then at_+k else at_
theorem NL(n:Int):-9223372036854775808<=IntKind.i64.wrap n/\IntKind.i64.wrap n<=9223372036854775807:=by rw[oY];omega
theorem CF{t u x y:Tmp}{O:Value}(h1:fz (e t)=some v1)(h2:fz (e u)=some v2)(S:fz (e x)=some v3)(U:fz (e y)=some O)(V:R (.tuple #[v1,v2,v3,O]) w):QF P #[.tmp t,.tmp u,.tmp x,.tmp y] R .ret e w :=
 ⟨_,λfn v Z z=>by
  have D:=z t;have I:=z u;have J:=z x;have L:=z y;rw[m9 h1]at D;rw[m9 h2]at I;rw[m9 S]at J;rw[m9 U]at L;have h:=show(results fn v).run P w=.ok (.tuple #[v.getD t undef,v.getD u undef,v.getD x undef,v.getD y undef]) w by simp[results,Z]
  rw[h,D,I,J,L],V⟩
section
variable{l m:List Int}
theorem Ie(v:Rd W A (f9 l))(y:Rd W B (f9 m)):Fn prog 205 [.slice A l.length c,.slice B m.length cB] W (dp (.bool (Ua l m)) W):=by
 have S:=St.start W;refine zI func205 ?_;refine zg ?_;refine dH (BZ fR dv fk rfl (v.gr S.out)) ?_;refine zg ?_;refine dH (BZ fR dv fk rfl (y.gr S.out)) ?_;refine dU (yu rfl rfl rfl) ?_;exact zZ
theorem NM(U:l.length<=c)(y:Rd W A (f9 l))(D:Rd W B (f9 m)):Fn prog 209 [.slice A l.length c,.slice B m.length cB] W (dp (.bool (decide (m.length<=l.length)&&Ua (l.take m.length) m)) W):=by
 rcases fv (m.length<=l.length)with h|h
 ·have L:Rd W A (f9 (l.take m.length)):=by rw[<-tK];exact y.tk _
  have I:(l.take m.length).length=m.length:=by rw[d7];omega
  have J:=λW y D=>Ie (W:=W) (A:=A) (B:=B) (c:=c) (cB:=cB) (l:=l.take m.length) (m:=m) y D;rw[I]at J;rw[fD h,tR];have S:=St.start W;refine zI func209 ?_;refine zg ?_;refine dr rfl ?_;refine dU (jb (n:=(m.length:Int)) fR gJ rfl rfl om om) ?_;rw[b7];refine z ?_;refine dr rfl ?_;refine eY rfl (J W (L.gr S.out) (D.gr S.out)) ?_;rintro _ O ⟨rfl,v⟩;have S:=S.gr v;exact zZ
 ·rw[iO h,nz];have S:=St.start W;refine zI func209 ?_;exact zZ
theorem Wl(at_ n:Nat)(U:at_<=l.length)(hn:1<=n/\n<=8)(V:l.length<=c)(hm:l.length<=1099511627776)(O:Rd W A (f9 l)) :
  Fn prog 264 [.slice A l.length c,ii at_,ii n] W (dp (.tuple #[.int .u64 (if at_+n<=l.length then Ub ((l.drop at_).take n) n else 0),ii (if at_+n<=l.length then at_+n else 0:Nat),ii (if at_+n<=l.length then 0 else 14)]) W):=by
 rcases fv (at_+n<=l.length)with h|h
 ·rw[a7 h,a7 h,a7 h];have y:Rd W (uA A (at_*1) (c-at_)) (f9 ((l.drop at_).take n)):=by rw[<-tK];exact(O.off8 om V).tk n
  have Z:((l.drop at_).take n).length=n:=by rw[d7,i8];omega
  have I:(at_:Int)+n=((at_+n:Nat):Int):=om;generalize v:uA A (at_*1) (c-at_)=A2 at y;generalize (l.drop at_).take n=d at *;have S:=St.start W;refine zI func264 ?_;refine zg ?_;rw[I];refine dU (Gb fR gJ rfl rfl rfl om om) ?_;rw[v,iw];refine zg ?_
  refine dl (λm e w=>∃i:Nat,i+m=n/\SL e [(1,ii at_),(2,ii n),(9,.int .u64 (Ub d i)),(41,.slice A2 n (c-at_)),(42,ii n),(43,ii i)]/\St No W w []) n
   ⟨0,om,sl,S⟩ ?_
  clear S;rintro m e w ⟨i,hi,D,S⟩;rw[D.fold];rcases fv (i<n)with z|z
  ·have J:dO A2:=y.someA (by rw[m4];omega)
   have hg:(f9 d)[(i:Int).toNat * 1]?=some (.int .u8 (d.getD i 0)):=by
    rw[Cx (show i<d.length by omega)];rw[cO,fw (show i<d.length by omega)];rfl
   have L:(8:Int)*i=((8*i:Nat):Int):=om;refine zT (y.gr S.out) hg ?_;refine zg ?_;refine Y9 (n:=d.getD i 0) rfl rfl ?_;refine zg ?_;rw[L];refine dU (vz rfl rfl om rfl) ?_;refine dU (gR (op:=.or) rfl rfl rfl) ?_;refine zg ?_;exact⟨m-1,om,i+1,om,sl,S⟩
  ·obtain rfl:i=n:=om;refine zg ?_;rw[I];exact zZ
 ·rw[a8 h,a8 h,a8 h];have S:=St.start W;refine zI func264 ?_;exact zZ
end
section
variable{at_:Nat}{l m:List Int}
theorem pR(I:at_<=l.length)(U:1<=k/\k<=8)(O:l.length<=c)(V:l.length<=1099511627776)(y:Rd w A (f9 l))(S:St F W w (.blk rb 338 [.slice A l.length c,ii at_]::tl)) :
  Fn prog (210) [pt rb,ii k] w (λv w'=>v=ii (Jz l at_ k)/\St F W w' (.blk rb 338 [.slice A l.length c,ii (JA l at_ k)]::tl)):=by
 have z:=λw y=>Wl (W:=w) (A:=A) (c:=c) (l:=l) at_ k I U O V y;unfold Jz JA;rcases fv (at_+k<=l.length)with h|h
 ·rw[a7 h,a7 h];rw[a7 h,a7 h,a7 h]at z;generalize Ub ((l.drop at_).take k) k=u at *;refine zI func210 ?_;refine zD [0,1,2,3,4,5,6,7,8,9,10,11,12,13,14,15,16] [] ?_;refine zP (λwq J=>z wq (y.gr J)) ?_;refine zE ?_;intro L D S;refine zS ?_;intro Z S;refine Y9 (n:=u) rfl rfl ?_;refine zX ?_;exact⟨rfl,S⟩
 ·rw[a8 h,a8 h];rw[a8 h,a8 h,a8 h]at z;refine zI func210 ?_;refine zD [0,1,2,3,4,5,6,7,8,9,10,11,12,13,14,15,16] [] ?_;refine zP (λwq J=>z wq (y.gr J)) ?_;refine zE ?_;intro L D S;refine Y9 (n:=0) (m:=0) rfl rfl ?_;refine zX ?_;exact⟨rfl,S⟩
end
section
variable{l:List Int}{n m:Int}
theorem JB(z:-9223372036854775808<=n/\n<=9223372036854775807)(y:-9223372036854775808<=m/\m<=9223372036854775807)(v:¬((1<=n/\n<=1024)/\1<=m/\m<=1024)):Fn prog 134 [.agg #[ii 0,ii 0,ii 0,ii 0],ii n,ii m] W (dp (ii 3) W):=by
 by_cases h1:n=-9223372036854775808
 ·exact wu 0 0 0 0 n m z y (.inl h1)
 ·by_cases h2:m=-9223372036854775808
  ·exact wu 0 0 0 0 n m z y (.inr ⟨h1,h2⟩)
  ·have:=jW 0 0 0 0 n m om om W
   have e:dF 0 0 0 0 n m=3:=by
    unfold dF fL;rw[a7];simp;omega
   rwa[e]at this
theorem Er(D:-9223372036854775808<=n/\n<=9223372036854775807)(z:-9223372036854775808<=m/\m<=9223372036854775807)(v:¬((1<=n/\n<=1024)/\1<=m/\m<=1024)):Fn prog 211 [ii n,ii m] W (dp (.tuple #[ii 0,ii 3]) W):=by
 have S:=St.start W;refine zI func211 ?_;refine zC (JB (W:=W) D z v) ?_;intro I y S;exact zZ
theorem NN(D:-9223372036854775808<=n/\n<=9223372036854775807)(z:-9223372036854775808<=m/\m<=9223372036854775807)(v:¬((1<=n/\n<=1024)/\1<=m/\m<=1024)):Fn prog 212 [ii n,ii m] W (dp (.tuple #[ii 0,ii 3]) W):=by
 have S:=St.start W;refine zI func212 ?_;refine zC (Er (W:=W) D z v) ?_;intro I y S;exact zZ
def ES(a:Int)(es:List (Int×Int)):Prop:=∀i x,es[i]?=some x->x.1=a+((es.take i).map Prod.snd).sum/\1<=x.2/\x.2<=1048576
theorem Ld(a:Int):ES a []:=λi x h=>by cases h
theorem If{x:Int×Int}(h:ES a es)(h1:x.1=a+(es.map Prod.snd).sum)(h2:1<=x.2/\x.2<=1048576):ES a (es++[x]):=λi y v=>by
 rcases qG i es.length with hi|hi|hi
 ·rw[gt hi]at v;rw[lg om];exact h i y v
 ·subst hi;rw[fU (fK _),j8]at v;injection v with v;subst v;rw[pX];exact⟨h1,h2⟩
 ·rw[dZ (by simp;omega)]at v;cases v
def AI(W:World)(v:Value)(w':World):Prop:=∃(X Y:Int)(B:Option Addr)(nB cB:Nat)(e:Int)(Q:List HA),v=.tuple #[ii X,ii Y,.slice B nB cB,ii e]/\St No W w' Q /\
 (e=0->∃(gw gh:Nat)(es:List (Int×Int)),X=gw/\Y=gh/\(1<=gw/\gw<=1024)/\(1<=gh/\gh<=1024)/\nB=cU gw*cU gh/\es.length=nB/\ES (13+cU gw*cU gh*8:Nat) es/\Q=[.row 107 2 B nB cB (eT es)])
theorem AI.no{X e:Int}(v:e≠0)(G:Gr W w):AI W (.tuple #[ii X,ii Y,.slice none 0 0,ii e]) w:=⟨X,Y,none,0,0,e,[],rfl,(St.start W).gr G,λh=>absurd h v⟩
theorem CG{a:Nat}(h:a<=l.length):JA l a k<=l.length:=by unfold JA;split<;>omega
theorem Wm(hc:l.length<=c)(hm:l.length<=1099511627776)(hA:Rd W A (f9 l)):Fn prog 138 [.slice A l.length c] W (AI W):=by
 have S:=St.start W
 rcases fv (l.length<13)with h13|h13
 ·skip
  refine zI func138 ?_
  refine zX ?_
  exact(.no (by decide) S.out)
 ·have hd5:5<=l.length:=om
  have hpr:=λw B(hA:Rd w A (f9 l))hB=>NM (W:=w) (A:=A) (B:=B) (c:=c) (cB:=5) (l:=l) (m:=[72,65,67,72,1]) hc hA hB
  generalize (decide ([(72:Int),65,67,72,1].length<=l.length)&&Ua (l.take [(72:Int),65,67,72,1].length) [72,65,67,72,1])=pr at hpr
  cases pr
  ·skip
   refine zI func138 ?_
   refine zg ?_
   refine xQ S fR dv gJ nE rfl rfl rfl rfl rfl (λ_=>rfl) ?_
   intro A5 w5 g5 hR5 S
   skip
   refine zC (hpr w5 _ (hA.gr S.out) hR5) ?_
   intro w1_ g1_ S
   refine zX ?_
   exact(.no (by decide) S.out)
  ·obtain⟨X,hX⟩:∃X,X=IntKind.i64.wrap (Jz l 5 2+1):=⟨_,rfl⟩
   obtain⟨Y,hY⟩:∃Y,Y=IntKind.i64.wrap (Jz l (JA l 5 2) 2+1):=⟨_,rfl⟩
   have hXr:=NL (Jz l 5 2+1)
   have hYr:=NL (Jz l (JA l 5 2) 2+1)
   rw[<-hX]at hXr
   rw[<-hY]at hYr
   have ha1:=CG (k:=2) hd5
   have ha2:=CG (k:=2) ha1
   rcases fv ((1<=X/\X<=1024)/\1<=Y/\Y<=1024)with hg|hg
   ·obtain⟨gw,rfl⟩:=cJ (show 0<=X by omega)
    obtain⟨gh,rfl⟩:=cJ (show 0<=Y by omega)
    have hgw:1<=gw/\gw<=1024:=om
    have hgh:1<=gh/\gh<=1024:=om
    have hti:=λW=>DD (W:=W) hgw hgh
    have hsi:=λW=>KX (W:=W) hgw hgh
    have hmm:cU gw*cU gh<=64*64:=fy (jS hgw.2) (jS hgh.2)
    have ha3:=CG (k:=4) ha2
    have hfin:∀{w:World}{B:Option Addr}{cB:Nat}{es:List (Int×Int)},es.length=cU gw*cU gh->ES (13+cU gw*cU gh*8:Nat) es->St No W w [.row 107 2 B (cU gw*cU gh) cB (eT es)]->AI W (.tuple #[ii gw,ii gh,.slice B (cU gw*cU gh) cB,ii 0]) w:=λh1 h2 h3=>⟨_,_,_,_,_,_,_,rfl,h3,λ_=>⟨gw,gh,_,rfl,rfl,hgw,hgh,rfl,h1,h2,rfl⟩⟩
    generalize cU gw*cU gh=N at *
    rcases fv (Jz l (JA l (JA l 5 2) 2) 4=(N:Nat))with hv3|hv3
    ·rcases fv (l.length<13+N*8)with hsh|hsh
     ·skip
      refine zI func138 ?_
      refine zg ?_
      refine xQ S fR dv gJ nE rfl rfl rfl rfl rfl (λ_=>rfl) ?_
      intro A5 w5 g5 hR5 S
      skip
      refine zC (hpr w5 _ (hA.gr S.out) hR5) ?_
      intro w1_ g1_ S
      refine yA ?_
      intro _ _ S
      refine zK (pR (k:=2) hd5 (by decide) hc hm (hA.gr S.out) S) ?_
      rintro _ w4_ ⟨rfl,S⟩
      refine dU (nO rfl rfl hX.symm) ?_
      refine zK (pR (k:=2) ha1 (by decide) hc hm (hA.gr S.out) S) ?_
      rintro _ w5_ ⟨rfl,S⟩
      refine dU (nO rfl rfl hY.symm) ?_
      refine zC (hti _) ?_
      intro w6_ g6_ S
      refine zC (hsi _) ?_
      intro w7_ g7_ S
      refine zK (pR (k:=4) ha2 (by decide) hc hm (hA.gr S.out) S) ?_
      rintro _ w8_ ⟨rfl,S⟩
      refine yX ?_
      exact(.no (by decide) S.out)
     ·skip
      refine zI func138 ?_
      refine zg ?_
      refine xQ S fR dv gJ nE rfl rfl rfl rfl rfl (λ_=>rfl) ?_
      intro A5 w5 g5 hR5 S
      skip
      refine zC (hpr w5 _ (hA.gr S.out) hR5) ?_
      intro w1_ g1_ S
      refine yA ?_
      intro b_rd _ S
      refine zK (pR (k:=2) hd5 (by decide) hc hm (hA.gr S.out) S) ?_
      rintro _ w4_ ⟨rfl,S⟩
      refine dU (nO rfl rfl hX.symm) ?_
      refine zK (pR (k:=2) ha1 (by decide) hc hm (hA.gr S.out) S) ?_
      rintro _ w5_ ⟨rfl,S⟩
      refine dU (nO rfl rfl hY.symm) ?_
      refine zC (hti _) ?_
      intro w6_ g6_ S
      refine zC (hsi _) ?_
      intro w7_ g7_ S
      refine zK (pR (k:=4) ha2 (by decide) hc hm (hA.gr S.out) S) ?_
      rintro _ w8_ ⟨rfl,S⟩
      refine z ?_
      refine dU (ff (b:=false) rfl (eo.2 hv3)) ?_
      refine zg ?_
      have S:=(S.pushNil 107 2).pick 2 [1,0] rfl rfl rfl
      refine dl (λm e w=>∃(i p:Nat)(q:Int)(es:List (Int×Int))(B:Option Addr)(cB:Nat),i+m=N/\p<=l.length/\es.length=i/\q=(13+N*8:Nat)+(es.map Prod.snd).sum/\((13+N*8:Nat)<=q/\q<=(13+N*8:Nat)+(i:Int)*1048576)/\ES (13+N*8:Nat) es /\
        SL e [(6,pt b_rd),(7,ii gw),(8,ii gh),(13,.slice B i cB),(14,ii q),(62,ii N),(63,ii i)] /\
        St No W w [.blk b_rd 338 [.slice A l.length c,ii p],.row 107 2 B i cB (eT es)]) N
       ⟨0,_,_,[],none,0,om,ha3,rfl,by simp,om,Ld _,⟨rfl,rfl,rfl,rfl,rfl,rfl,rfl,trivial⟩,S⟩ ?_
      clear S
      rintro m e w ⟨i,p,q,es,B,cB,hi,hp,hes,hq,hqr,hch,hsl,S⟩
      rw[hsl.fold]
      rcases fv (i<N)with hlt|hlt
      ·have hp1:=CG (k:=4) hp
       have hp2:=CG (k:=4) hp1
       obtain⟨v1,hv1e⟩:∃v,v=Jz l p 4:=⟨_,rfl⟩
       obtain⟨v2,hv2e⟩:∃v,v=Jz l (JA l p 4) 4:=⟨_,rfl⟩
       have hd1:=λw(L:List HA)S hA=>pR (F:=No) (W:=W) (w:=w) (tl:=L) (A:=A) (c:=c) (l:=l) (rb:=b_rd) (k:=4) hp (by decide) hc hm hA S
       have hd2:=λw(L:List HA)S hA=>pR (F:=No) (W:=W) (w:=w) (tl:=L) (A:=A) (c:=c) (l:=l) (rb:=b_rd) (k:=4) hp1 (by decide) hc hm hA S
       rw[<-hv1e]at hd1
       rw[<-hv2e]at hd2
       rcases fv (v1=q/\1<=v2/\v2<=1048576)with hok|hok
       ·obtain⟨rfl,h1,h2⟩:=hok
        refine zK (hd1 w _ S (hA.gr S.out)) ?_
        rintro _ w9_ ⟨rfl,S⟩
        refine zK (hd2 _ _ S (hA.gr S.out)) ?_
        rintro _ w10_ ⟨rfl,S⟩
        refine zN ?_
        intro b_x w12_ g12_ S
        refine zS ?_
        intro w13_ S
        refine yb S ?_
        intro A_on w15_ g15_ S sa_on
        refine ZP 3 0 S ?_
        intro A_o2 c_o2 w16_ S sa_o
        refine zg ?_
        have S:=S.drop 2
        rw[wr]at S
        have hsum:((es++[(v1,v2)]).map Prod.snd).sum=(es.map Prod.snd).sum+v2:=by simp
        exact⟨m-1,om,i+1,_,v1+v2,es++[(v1,v2)],A_o2,c_o2,om,hp2,by simp[hes],by rw[hsum];omega,om,If hch hq ⟨h1,h2⟩,⟨rfl,rfl,rfl,rfl,rfl,rfl,ie om,trivial⟩,S⟩
       ·rcases fv (v1=q)with h1|h1
        ·rcases fv (v2<1)with h2|h2
         ·skip
          refine zK (hd1 w _ S (hA.gr S.out)) ?_
          rintro _ w17_ ⟨rfl,S⟩
          refine zK (hd2 _ _ S (hA.gr S.out)) ?_
          rintro _ w18_ ⟨rfl,S⟩
          refine zN ?_
          intro b_x w20_ g20_ S
          refine zS ?_
          intro w21_ S
          exact CF rfl rfl rfl rfl (.no (by decide) S.out)
         ·skip
          refine zK (hd1 w _ S (hA.gr S.out)) ?_
          rintro _ w22_ ⟨rfl,S⟩
          refine zK (hd2 _ _ S (hA.gr S.out)) ?_
          rintro _ w23_ ⟨rfl,S⟩
          refine zN ?_
          intro b_x w25_ g25_ S
          refine zS ?_
          intro w26_ S
          exact CF rfl rfl rfl rfl (.no (by decide) S.out)
        ·skip
         refine zK (hd1 w _ S (hA.gr S.out)) ?_
         rintro _ w27_ ⟨rfl,S⟩
         refine zK (hd2 _ _ S (hA.gr S.out)) ?_
         rintro _ w28_ ⟨rfl,S⟩
         refine zN ?_
         intro b_x w30_ g30_ S
         refine zS ?_
         intro w31_ S
         exact CF rfl rfl rfl rfl (.no (by decide) S.out)
      ·obtain rfl:i=N:=om
       refine zX ?_
       exact(hfin hes hch (S.drop 1))
    ·skip
     refine zI func138 ?_
     refine zg ?_
     refine xQ S fR dv gJ nE rfl rfl rfl rfl rfl (λ_=>rfl) ?_
     intro A5 w5 g5 hR5 S
     skip
     refine zC (hpr w5 _ (hA.gr S.out) hR5) ?_
     intro w1_ g1_ S
     refine zN ?_
     intro b_rd w3_ g3_ S
     refine zK (pR (k:=2) hd5 (by decide) hc hm (hA.gr S.out) S) ?_
     rintro _ w4_ ⟨rfl,S⟩
     refine dU (nO rfl rfl hX.symm) ?_
     refine zK (pR (k:=2) ha1 (by decide) hc hm (hA.gr S.out) S) ?_
     rintro _ w5_ ⟨rfl,S⟩
     refine dU (nO rfl rfl hY.symm) ?_
     refine zC (hti _) ?_
     intro w6_ g6_ S
     refine zC (hsi _) ?_
     intro w7_ g7_ S
     refine zK (pR (k:=4) ha2 (by decide) hc hm (hA.gr S.out) S) ?_
     rintro _ w8_ ⟨rfl,S⟩
     refine z ?_
     refine dU (ff (b:=true) rfl (f5.2 hv3)) ?_
     refine zX ?_
     exact(.no (by decide) S.out)
   ·skip
    refine zI func138 ?_
    refine zg ?_
    refine xQ S fR dv gJ nE rfl rfl rfl rfl rfl (λ_=>rfl) ?_
    intro A5 w5 g5 hR5 S
    skip
    refine zC (hpr w5 _ (hA.gr S.out) hR5) ?_
    intro w1_ g1_ S
    refine zN ?_
    intro b_rd w3_ g3_ S
    refine zK (pR (k:=2) hd5 (by decide) hc hm (hA.gr S.out) S) ?_
    rintro _ w4_ ⟨rfl,S⟩
    refine dU (nO rfl rfl hX.symm) ?_
    refine zK (pR (k:=2) ha1 (by decide) hc hm (hA.gr S.out) S) ?_
    rintro _ w5_ ⟨rfl,S⟩
    refine dU (nO rfl rfl hY.symm) ?_
    refine zC (Er (W:=_) hXr hYr hg) ?_
    intro w6_ g6_ S
    refine zC (NN (W:=_) hXr hYr hg) ?_
    intro w7_ g7_ S
    refine zX ?_
    exact(.no (by decide) S.out)
end
def Gs(f:Nat->Nat):Nat->Nat
 |0=>0
 |k+1=>if k=0\/f k<f (Gs f k)then k else Gs f k
theorem NR(V:List Int)(w:Nat):zu V w=Gs (λk=>tN 0 (mp k V w)) 3:=by
 unfold zu;simp only[Gs];simp
section
variable{w h:Nat}{V:List Int}
theorem vM.rests(y:1<=w)(v:vM V):vR (mp kind V w):=λx z=>by
 have:=Kz (kind:=kind) y v x z;omega
theorem Ro(z:1<=w)(y:vM V)(I:V.length<=256):tN 0 (mp kind V w)<=3840:=by
 have v:=Dv (B:=5) (mp kind V w) 0 (λx D=>by have:=wP (vM.rests z y x D);exact us 4 _ om) om (by rw[pU];omega);rw[a7 rfl,pU]at v;omega
theorem BM(y:1<=w/\w<=16)(v:1<=h/\h<=16):Fn prog 203 [ii w,ii h] W (dp (.bool true) W):=by
 have S:=St.start W;refine zI func203 ?_;exact zZ
theorem Gt(O:1<=w/\w<=16)(hh:1<=h/\h<=16)(L:V.length=w*h)(hV:vM V)(I:Rd W A (cY V)):Fn prog 272 [.slice A V.length c,ii w,ii h] W (dp (ii 0) W):=by
 have hm:w*h<=16*16:=fy O.2 hh.2;have J:(w:Int)*h=((V.length:Nat):Int):=by rw[L];push_cast;rfl
 have hr:=λW I=>BL (W:=W) (A:=A) (c:=c) (w:=w) (V:=V) 0 om O.1 (by rw[L,kJ]) om hV I;have S:=St.start W;refine zI func272 ?_;iterate 5 refine z ?_
 refine dU (fh rfl (by rw[J];omega)) ?_;rw[J];refine zK (hr _ (I.gr S.out)) ?_;rintro _ aa ⟨U,Z,rfl,v,y,D⟩;have S:=S.pushRow v y D;exact zZ
theorem Rp(J:1<=w/\w<=16)(hh:1<=h/\h<=16)(hl:V.length=w*h)(hV:vM V)(z:Rd W A (cY V)):Fn prog 224 [.slice A V.length c,ii w,ii h] W (dp (.tuple #[ii (zu V w),ii 0]) W):=by
 have hm:w*h<=16*16:=fy J.2 hh.2;have hr:=λW k hk z=>BL (W:=W) (A:=A) (c:=c) (w:=w) (V:=V) k hk J.1 (by rw[hl,kJ]) om hV z;have aa:=λW A c k z=>NP (W:=W) (A:=A) (c:=c) (V:=mp k V w) (by rw[pU];omega) (vM.rests J.1 hV) z;have hf:∀k,tN 0 (mp k V w)<=3840:=λk=>Ro J.1 hV om;rw[NR];generalize ah:(λk=>tN 0 (mp k V w))=f at *;have Z:∀k,tN 0 (mp k V w)=f k:=λk=>by rw[<-ah]
 have S:=St.start W;refine zI func224 ?_;refine zC (BM J hh) ?_;intro ap aj S;refine zC (Gt (W:=_) (c:=c) J hh hl hV (z.gr S.out)) ?_;intro aq ak S;refine zg ?_
 refine dl (λm e w'=>∃k:Nat,k+m=3/\SL e [(0,.slice A V.length c),(1,ii w),(9,ii (Gs f k)),(10,ii ((if k=0 then 0 else f (Gs f k):Nat):Int)),(26,ii k)]/\St No W w' []) 3
  ⟨0,rfl,sl,S⟩ ?_
 clear S;rintro m e w2 ⟨k,hk,ai,S⟩;rw[ai.fold];by_cases ao:k<3
 ·have I:=Z k;have ae:=hf k;have ag:=hf (Gs f k);have D:=λW A c z=>aa W A c k z;rw[pU,I]at D;rw[I]at ae;rw[Z]at ag;by_cases h0:k=0
  ·subst h0;refine zK (hr _ 0 om (z.gr S.out)) ?_;rintro _ ar ⟨L,O,rfl,v,y,ab⟩;have S:=S.pushRow v y ab;refine zC (D _ _ _ (S.rd (i:=0) rfl)) ?_;intro au al S;refine zg ?_;exact⟨2,om,1,rfl,sl,S.drop 1⟩
  ·by_cases h1:f k<f (Gs f k)
   ·have U:Gs f (k+1)=k:=a7 (.inr h1);rw[a8 h0];refine zK (hr _ k om (z.gr S.out)) ?_;rintro _ av ⟨L,O,rfl,v,y,ac⟩;have S:=S.pushRow v y ac;refine zC (D _ _ _ (S.rd (i:=0) rfl)) ?_;intro aw am S;refine zg ?_;exact⟨m-1,om,k+1,om,⟨rfl,rfl,ie (by rw[U]),ie (by rw[a8 om,U]),rfl,trivial⟩,S.drop 1⟩
   ·have U:Gs f (k+1)=Gs f k:=a8 (by rintro (h|h);exact h0 h;exact h1 h);rw[a8 h0];refine zK (hr _ k om (z.gr S.out)) ?_;rintro _ az ⟨L,O,rfl,v,y,ad⟩;have S:=S.pushRow v y ad;refine zC (D _ _ _ (S.rd (i:=0) rfl)) ?_;intro aA an S;refine zg ?_;exact⟨m-1,om,k+1,om,⟨rfl,rfl,ie (by rw[U]),ie (by rw[a8 om,U]),rfl,trivial⟩,S.drop 1⟩
 ·obtain rfl:k=3:=om;exact zZ
theorem Ud(kind:Nat)(hk:kind<=2)(D:1<=w/\w<=16)(Z:1<=h/\h<=16)(hl:V.length=w*h)(O:vM V)(v:Rd W A (cY V)) :
  Fn prog 228 [ii kind,.slice A V.length c,ii w,ii h] W (Cv (λs=>.tuple #[s,ii 0]) (1+tN 0 (mp kind V w)) W):=by
 have hm:w*h<=16*16:=fy D.2 Z.2;have hr:=λW v=>BL (W:=W) (A:=A) (c:=c) (w:=w) (V:=V) kind hk D.1 (by rw[hl,kJ]) om O v;have hp:=λW A c B v hB=>NQ (W:=W) (A:=A) (c:=c) (V:=mp kind V w) (B:=B) (cB:=1) (l:=[(kind:Int)]) (by rw[pU];omega) (vM.rests D.1 O) v (by simp) hB;rw[pU]at hp;have hc:IntKind.u8.wrap (kind:Int)=kind:=by rw[gD];omega
 have S:=St.start W;refine zI func228 ?_;refine zC (BM D Z) ?_;intro ak ag S;refine zC (yz kind 1 0 hk om om) ?_;intro al ah S;refine zC (Gt (W:=_) (c:=c) D Z hl O (v.gr S.out)) ?_;intro am ai S;refine zK (hr _ (v.gr S.out)) ?_;rintro _ an ⟨ad,ae,rfl,y,z,I⟩;have S:=S.pushRow y z I;refine zg ?_;refine Y9 (n:=kind) (m:=kind) rfl hc ?_;refine yb S ?_;intro ac ao aj S ab;refine zK (hp _ _ _ _ (S.rd (i:=1) rfl) (S.rd (i:=0) rfl)) ?_;rintro _ ap ⟨l2,aa,A2,c2,rfl,L,U,J⟩;have S:=S.pushRow L U J;refine zX ?_;exact⟨l2,aa,S.retNew (i:=0) (mk:=λs=>.tuple #[s,ii 0]) rfl⟩
end
def PN(n:Nat)(T:List Int->Prop)(W:World)(v:Value)(w':World):Prop:=∃(B:Option Addr)(nB cB:Nat)(x e:Int)(Q:List HA),v=.tuple #[.slice B nB cB,ii x,ii e]/\St No W w' Q/\(e=0->nB=n/\∃R:List Int,R.length=n/\T R/\Q=[.row 2 1 B n cB (cY R)])
def Yn(n:Nat)(T:List Int->Prop)(W:World)(v:Value)(w':World):Prop:=∃(B:Option Addr)(nB cB:Nat)(e:Int)(Q:List HA),v=.tuple #[.slice B nB cB,ii e]/\St No W w' Q/\(e=0->nB=n/\∃R:List Int,R.length=n/\T R/\Q=[.row 2 1 B n cB (cY R)])
section
variable{w:Nat}{R:List Int}{l:List Int}
theorem Rq(x:Int):Fn prog 269 [ii x] W (dp (.bool (iL x)) W):=by
 have h:iL x=decide (-2147483648<=x/\x<=2147483647):=by unfold iL;simp
 rw[h];rcases fv (x < -2147483648)with h1|h1
 ·rw[iO om];have S:=St.start W;refine zI func269 ?_;exact zZ
 ·rcases fv (x<=2147483647)with h2|h2
  ·rw[fD om];have S:=St.start W;refine zI func269 ?_;exact zZ
  ·rw[iO om];have S:=St.start W;refine zI func269 ?_;exact zZ
theorem Le(kind:Int):Fn prog 213 [ii kind,ii 1,ii 0] W (dp (.bool (decide (0<=kind/\kind<=2))) W):=by
 rcases fv (kind<0)with h1|h1
 ·rw[iO om];have S:=St.start W;refine zI func213 ?_;exact zZ
 ·rcases fv (kind<=2)with h2|h2
  ·rw[fD om];have S:=St.start W;refine zI func213 ?_;refine z ?_;refine z ?_;refine zt ?_;refine z ?_;refine z ?_;refine zt ?_;(iterate 3 refine z ?_);refine zt ?_;(iterate 3 refine z ?_);refine zt ?_;iterate 4 refine z ?_
   refine dr rfl ?_;exact zZ
  ·rw[iO om];have S:=St.start W;refine zI func213 ?_;exact zZ
theorem vM.set{V:List Int}(h:vM V){x:Int}(v:-2147483648<=x/\x<=2147483647):vM (V.set i x):=λy z=>by
 rcases List.mem_or_eq_of_mem_set z with h1|h1
 ·exact h y h1
 ·rw[h1];exact v
theorem NS(kind:Nat)(hk:kind<=2)(hw:1<=w)(hn:R.length%w=0)(h0:0<R.length)(hl:R.length<=1048576)(L:Rd W A (cY R)) :
  Fn prog 215 [ii kind,.slice A R.length c,ii w] W (λv w'=>(∃e:Int,e≠0/\v=.tuple #[.slice none 0 0,ii e]/\Gr W w') \/
   (∃(V:List Int)(B:Option Addr)(cB:Nat),V.length=R.length/\vM V/\v=.tuple #[.slice B R.length cB,ii 0]/\St No W w' [.row 2 1 B R.length cB (cY V)])):=by
 have O:∀{i:Nat},i<R.length->(cY R)[(i:Int).toNat * 1]?=some (ii (R.getD i 0)):=λh=>by rw[cG,b7];exact gc (kr h)
 have ac:=λW=>yz (W:=W) kind w R.length hk hw hn;generalize hN:R.length=N at *;have ae:dO A:=L.someA (by rw[gn];omega);refine yI func215 ?_;refine zC (ac W) ?_;intro an ah S;refine zg ?_;refine nD fZ jR rfl rfl rfl (n:=N) (c:=N) om om om om S ?_;intro y ao ai S ag;refine zg ?_
 refine dl (λm e w'=>∃(i:Nat)(V:List Int),i+m=N/\V.length=N/\vM V/\SL e [(0,ii kind),(2,ii w),(8,.slice y N N),(20,.slice A N c),(21,ii N),(22,ii i)]/\St No W w' [.row 2 1 y N N (cY V)]) N
  ⟨0,List.replicate N 0,om,by simp,(λx hx=>by rw[mQ hx];decide),sl,by rw[show cY (List.replicate N 0)=List.replicate N (ii 0)by simp[cY]];exact S⟩ ?_
 clear S;rintro m e w2 ⟨i,V,hi,D,hV,ad,S⟩;rw[ad.fold];rcases fv (i<N)with Z|Z
 ·have hg:=O Z;have al:=I8 (kind:=kind) (w:=w) (i:=i) (V:=V) hw om hV;have J:=λW L=>Gq (W:=W) (A:=y) (c:=N) (w:=w) (V:=V) kind i hk hw om om hV L;rw[D]at J;generalize R.getD i 0=r at *;generalize gN kind (λj=>V.getD j 0) w i=g at *;have U:(cY V).length=N:=by rw[gn,D]
  rcases fv (4294967295<r)with h1|h1
  ·skip;refine yX ?_;exact(.inl ⟨7,by decide,rfl,S.out⟩)
  ·rcases fv (r < -4294967295)with h2|h2
   ·skip;refine yX ?_;exact(.inl ⟨7,by decide,rfl,S.out⟩)
   ·have aa:(cY V).set ((i:Int).toNat * 1) (ii (g+r))=cY (V.set i (g+r)):=by rw[cG,b7];unfold cY;rw[uO]
    have am:(cY (V.set i (g+r)))[(i:Int).toNat * 1]?=some (ii (g+r)):=by
     rw[cG,b7];exact gc (by rw[lv om])
    have I:=λW=>Rq (W:=W) (g+r);rcases hb:iL (g+r)with _|_
    ·rw[hb]at I;refine zT (L.gr S.out) hg ?_;refine zC (J w2 (S.rd (i:=0) rfl)) ?_;intro ap aj S;refine zg ?_;refine jk (i:=0) S rfl (cR _) rfl rfl rfl rfl (by rw[U];omega) rfl ?_;intro aq S;refine z ?_;refine z ?_;rw[aa]at S;refine EO I ?_;intro _ S;refine zX ?_;exact(.inl ⟨7,by decide,rfl,S.out⟩)
    ·rw[hb]at I;have ab:-2147483648<=g+r/\g+r<=2147483647:=by unfold iL at hb;simpa using hb
     refine zT (L.gr S.out) hg ?_;refine zC (J w2 (S.rd (i:=0) rfl)) ?_;intro ar ak S;refine zg ?_;refine jk (i:=0) S rfl (cR _) rfl rfl rfl rfl (by rw[U];omega) rfl ?_;intro au S;refine z ?_;refine z ?_;rw[aa]at S;refine EO I ?_;intro _ S;refine zg ?_;exact⟨m-1,om,i+1,V.set i (g+r),om,by rw[pe,D],hV.set ab,sl,S⟩
 ·skip;refine zX ?_;exact(.inr ⟨V,y,N,D,hV,rfl,S⟩)
theorem NT{h:Nat}(hw:1<=w/\w<=16)(hh:1<=h/\h<=16)(hc:l.length<=c)(hm:l.length<=1099511627776)(J:Rd W A (f9 l)) :
  Fn prog 141 [.slice A l.length c,ii w,ii h] W (λv w'=>(∃e:Int,e≠0/\v=.tuple #[.slice none 0 0,ii 0,ii e]/\Gr W w') \/
   (∃(V:List Int)(B:Option Addr)(cB:Nat)(kd:Int),V.length=w*h/\vM V/\v=.tuple #[.slice B (w*h) cB,ii kd,ii 0]/\St No W w' [.row 2 1 B (w*h) cB (cY V)])):=by
 have Z:=λW=>BM (W:=W) hw hh;have ap:w*h<=16*16:=fy hw.2 hh.2;have ao:1*1<=w*h:=fy hw.1 hh.1
 have ah:=λW h0 J=>(Nq (W:=W) (A:=A) (c:=c) (l:=l) 1 (w*h) h0 om hc hm J).mono (R':=PN (w*h) (λ_=>True) W) λv w' hr=>by
  rcases hr with⟨e,he,hv,g⟩|⟨R,B,cB,nx,hR,hv,S⟩
  ·exact⟨_,_,_,_,_,[],hv,(St.start W).gr g,λh=>absurd h he⟩
  ·exact⟨_,_,_,_,_,_,hv,S,λ_=>⟨rfl,R,hR,trivial,rfl⟩⟩
 have ag:w*h%w=0:=kJ w h
 have ae:=λW B cB(R:List Int)kind hk hR h0 hl J=>(NS (W:=W) (A:=B) (c:=cB) (w:=w) (R:=R) kind hk hw.1 hR h0 hl J).mono (R':=Yn R.length vM W) λv w' hr=>by
  rcases hr with⟨e,he,hv,g⟩|⟨V,B,cB,hV,O,hv,S⟩
  ·exact⟨_,_,_,_,[],hv,(St.start W).gr g,λh=>absurd h he⟩
  ·exact⟨_,_,_,_,_,hv,S,λ_=>⟨rfl,V,hV,O,rfl⟩⟩
 have ab:(w:Int)*h=((w*h:Nat):Int):=by push_cast;rfl
 generalize w*h=N at *;have S:=St.start W;refine zI func141 ?_;rcases fv (l.length=0)with h0|h0
 ·skip;refine zC (Z W) ?_;intro ar aj S;refine zX ?_;exact(.inl ⟨14,by decide,rfl,S.out⟩)
 ·have hg:(f9 l)[(0:Int).toNat * 1]?=some (.int .u8 (l[0]'om)):=Cx (i:=0) om;generalize l[0]'om=b at hg;have ai:dO A:=J.someA (by rw[m4];omega);have I:=λW=>Le (W:=W) (IntKind.i64.wrap b);generalize aa:IntKind.i64.wrap b=kd at *;rcases fv (0<=kd/\kd<=2)with hk|hk
  ·rw[fD hk]at I;obtain⟨kind,rfl⟩:=cJ hk.1;refine zC (Z W) ?_;intro au ak S;refine zT (J.gr S.out) hg ?_;refine Y9 (n:=b) (m:=(kind:Nat)) rfl aa ?_;refine zC (I _) ?_;intro av al S;iterate 4 refine z ?_
   refine dU (fh rfl (by rw[ab];omega)) ?_;rw[ab];refine zK (ah _ om (J.gr S.out)) ?_;rintro _ aw ⟨B,nB,cB,nx,e1,Q,rfl,S2,hQ⟩;have S:=S.app S2;iterate 7 refine z ?_
   refine ze ?_;rcases fv (e1=0)with y|y
   ·obtain⟨rfl,R,hR,-,rfl⟩:=hQ y;have L:=λW=>ae W B cB R kind om (by rw[hR];exact ag) om om;rw[hR]at L;subst y;rcases fv (nx=(l.length:Nat))with U|U
    ·skip;repeat refine dm ?_
     refine dz ?_;refine dU (jx rfl) ?_;refine dU (ff (b:=true) rfl (fX.2 om)) ?_;refine dU (jx rfl) ?_;first|refine eD rfl ?_|(refine dr rfl ?_;refine dU (jx rfl) ?_)
     first|refine eD rfl ?_|(refine dr rfl ?_;refine dU (jx rfl) ?_)
     first|refine eD rfl ?_|(refine dr rfl ?_;refine dU (p6 fR rfl) ?_)
     refine dr rfl ?_;refine dU (ff (b:=false) rfl (eo.2 U)) ?_;refine zK (L _ (S.rd (i:=0) rfl)) ?_;rintro _ az ⟨B2,aq,ac,e2,Q2,rfl,S2,ad⟩;have S:=S.app S2;iterate 5 refine z ?_
     refine ze ?_;rcases fv (e2=0)with D|D
     ·obtain⟨rfl,V,hV,O,rfl⟩:=ad D;subst D;refine zX ?_;exact(.inr ⟨V,B2,ac,_,hV,O,rfl,S.sub (.cons_cons _ (.cons _ .slnil))⟩)
     ·skip;repeat refine dm ?_
      refine dz ?_;refine dU (jx rfl) ?_;refine dU (ff (b:=true) rfl (f5.2 om)) ?_;first|refine eF ?_|(refine di ?_;show CW _ _ _ _ _ _)|refine di ?_
      repeat refine dm ?_
      refine jr rfl ?_;repeat refine dm ?_
      refine dz ?_;iterate 4 refine dU (jx rfl) ?_
      first|refine eF ?_|(refine di ?_;show CW _ _ _ _ _ _)|refine di ?_
      repeat refine dm ?_
      refine mJ ?_;repeat first|refine mL ?_|refine oq ?_
      exact tE rfl rfl rfl (.inl ⟨e2,D,rfl,S.out⟩)
    ·skip;repeat refine dm ?_
     refine dz ?_;refine dU (jx rfl) ?_;refine dU (ff (b:=true) rfl (fX.2 om)) ?_;refine dU (jx rfl) ?_;first|refine eD rfl ?_|(refine dr rfl ?_;refine dU (jx rfl) ?_)
     first|refine eD rfl ?_|(refine dr rfl ?_;refine dU (jx rfl) ?_)
     first|refine eD rfl ?_|(refine dr rfl ?_;refine dU (p6 fR rfl) ?_)
     refine dr rfl ?_;refine dU (ff (b:=true) rfl (f5.2 U)) ?_;refine zX ?_;exact(.inl ⟨13,by decide,rfl,S.out⟩)
   ·skip;refine zg ?_;exact tE rfl rfl rfl (.inl ⟨e1,y,rfl,S.out⟩)
  ·rw[iO hk]at I;refine zC (Z W) ?_;intro aA am S;refine zT (J.gr S.out) hg ?_;refine Y9 (n:=b) (m:=kd) rfl aa ?_;refine zC (I _) ?_;intro aB an S;refine zX ?_;exact(.inl ⟨13,by decide,rfl,S.out⟩)
end
section
variable{K:Option Addr}{cap:Nat}{v:Int}
theorem Lf(x0 y0 x1 y1:Nat)(O:x0<=x1/\x1<1024)(U:y0<=y1/\y1<1024):Fn prog 140 [.agg #[ii x0,ii y0,ii x1,ii y1]] W (dp (.tuple #[ii (x1+1-x0:Nat),ii (y1+1-y0:Nat)]) W):=by
 have y:(x1:Int)-x0+1=((x1+1-x0:Nat):Int):=om;have z:(y1:Int)-y0+1=((y1+1-y0:Nat):Int):=om;have S:=St.start W;refine zI func140 ?_;refine zN ?_;intro v J D S;refine zD [0,1,2,3,4,5,6,7,8,9,10,11,12,13] [] ?_;rw[y];refine zQ ?_;rw[z];refine zE ?_;intro L I S;exact nd rfl rfl ⟨rfl,S.out⟩
structure Xn(gw gh:Nat)(W:World)(p:Nat)(V:List Int)(k:Nat)(tw th X0 Y0 X1 Y1:Nat):Prop where
 hw:1<=tw/\tw<=16
 hh:1<=th/\th<=16
 val:∀w,Gr W w->Fn prog 47 [pt p,.agg #[ii X0,ii Y0,ii X1,ii Y1]] w (jc (λs=>.tuple #[s,ii 0]) 2 1 (th*tw) (cY V) w)
 len:V.length=tw*th
 may:vM V
 siz:∀w,Fn prog 140 [.agg #[ii X0,ii Y0,ii X1,ii Y1]] w (dp (.tuple #[ii tw,ii th]) w)
 cel:((FZ gw gh).drop ((k:Int).toNat * 4)).take 4=[ii X0,ii Y0,ii X1,ii Y1]
def CI(gw gh:Nat)(cc:Nat->Int)(k:Nat):List Int:=fi gw cc (uI gw k) (vL gw k) (fQ gw (k%cU gw)) (fQ gh (k/cU gw))
theorem Ue(O:vB (dw gw gh cc))(z:k<cU gh*cU gw)(y:eJ W p gw gh cc A cap bs Rs):∃X0 Y0 X1 Y1,Xn gw gh W p (CI gw gh cc k) k (fQ gw (k%cU gw)) (fQ gh (k/cU gw)) X0 Y0 X1 Y1:=by
 have D:=y.sw;have Z:=y.sh;have hi:k%cU gw<cU gw:=dt _ (kQ D.1);have U:k/cU gw<cU gh:=cS (by rw[cD];exact z);have v:=F0 (gh:=gh) D.1 z;have S:=Jj (gh:=gh) D.1 z;have I:=mA hi;have J:=mA U;refine⟨uI gw k,vL gw k,z8 gw k,Aa gw gh k,I,J,λw g=>?_,by unfold CI;rw[lE,cD],λx V=>?_,λw=>?_,S⟩
 ·have h:=iz (W:=w) (uI gw k) (vL gw k) (z8 gw k) (Aa gw gh k) ⟨v.1.1,v.1.2.1⟩ ⟨v.2.1,v.2.2.1⟩ (y.gr g);rw[v.1.2.2,v.2.2.2]at h;exact h
 ·have L:=wN (x0:=uI gw k) (y0:=vL gw k) (x1:=z8 gw k) (y1:=Aa gw gh k) O v.1.2.1 v.2.2.1;rw[v.1.2.2,v.2.2.2]at L;have h:=L x V;unfold iL at h;simpa using h
 ·have h:=Lf (W:=w) (uI gw k) (vL gw k) (z8 gw k) (Aa gw gh k) ⟨v.1.1,om⟩ ⟨v.2.1,om⟩;rw[v.1.2.2,v.2.2.2]at h;exact h
theorem DI(hB:vB (dw gw gh cc))(hG:eJ W p gw gh cc A cap bs Rs) :
  Fn prog 147 [pt p] W (λu w'=>∃ks:List Nat,ks.length=cU gh*cU gw/\(∀k∈ks,k<=2)/\jc (λs=>.tuple #[s,ii 0]) 3 1 ks.length (cY (ks.map λx:Nat=>(x:Int))) W u w'):=by
 have h1:=jS hG.sw.2;have h2:=jS hG.sh.2;have hm:cU gh*cU gw<=64*64:=fy h2 h1;have ah:=λk(hk:k<cU gh*cU gw)=>Ue (W:=W) hB hk hG;have ai:=λw(g:Gr W w)=>xN (hG.gr g);obtain⟨n,hn⟩:∃n,cU gh*cU gw=n:=⟨_,rfl⟩;rw[hn]at hm ah ai;rw[hn];have S:=St.start W;refine zI func147 ?_;refine zK (ai W S.out) ?_;rintro _ aI ⟨v,y,rfl,J,O,am⟩;have S:=S.pushRow J O am;refine zg ?_;have S:=S.pushNil 3 1
 refine dl (λm e w=>∃(k:Nat)(ks:List Nat)(D:Option Addr)(I:Nat),k+m=n/\ks.length=k/\(∀k∈ks,k<=2)/\SL e [(0,pt p),(4,.slice D k I),(16,.slice v n y),(17,ii n),(18,ii k)] /\
   St No W w [.row 3 1 D k I (cY (ks.map λx:Nat=>(x:Int))),.row 43 4 v n y (FZ gw gh)]) n
  ⟨0,[],none,0,om,rfl,(λk h=>by cases h),sl,S⟩ ?_
 clear S;rintro m e w ⟨k,ks,D,I,hk,ae,z,au,S⟩;rw[au.fold];by_cases ar:k<n
 ·have aw:dO v:=(S.row (i:=1) rfl).someA om;obtain⟨X0,Y0,X1,Y1,hT⟩:=ah k ar;obtain⟨av,aq,aj,ab,ao,ag,ad⟩:=hT;have ap:=(QC (CI gw gh cc k) (fQ gw (k%cU gw))).1;have hV:∀q∈ks++[zu (CI gw gh cc k) (fQ gw (k%cU gw))],q<=2:=λq hq=>(ez.1 hq).elim (z q) λh=>by rw[dM.1 h];exact ap
  have ac:=λW A c hA=>Rp (W:=W) (A:=A) (c:=c) (w:=fQ gw (k%cU gw)) (h:=fQ gh (k/cU gw)) (V:=CI gw gh cc k) av aq ab ao hA;rw[ab,cD]at ac;generalize fQ gw (k%cU gw)=tw at *;generalize fQ gh (k/cU gw)=th at *;generalize zu (CI gw gh cc k) tw=bk at *;generalize CI gw gh cc k=Vt at *;refine zg ?_;refine ZU (S.rd (i:=1) rfl) ad ?_;refine zN ?_;intro aD aJ aE S;refine zS ?_;intro aK S;refine zK (aj _ S.out) ?_;rintro _ aL ⟨az,aA,rfl,L,U,an⟩;have S:=S.pushRow L U an;refine zC (ag _) ?_;intro aM aF S;refine zC (ac _ _ _ (S.rd (i:=0) rfl)) ?_;intro aN aG S;refine zg ?_;refine yb S ?_;intro al aO aH S ak;refine ZP 3 0 S ?_;intro Z aa aC S aB;refine zg ?_;have S:=S.sub (.cons _ (.cons _ (.cons _ (.cons_cons _ (.cons_cons _ .slnil)))));have es:cY (ks.map λx:Nat=>(x:Int))++[ii (bk:Nat)]=cY ((ks++[bk]).map λx:Nat=>(x:Int)):=by simp[cY]
  rw[es]at S;exact⟨m-1,om,k+1,ks++[bk],Z,aa,om,by simp[ae],hV,sl,S⟩
 ·obtain rfl:k=n:=om;subst ae;refine zX ?_;exact⟨ks,rfl,z,S.retNew (i:=0) (mk:=λs=>.tuple #[s,ii 0]) rfl⟩
end
def HA.brs(ls:List BR):HA:=⟨λg=>∃q∈ls,jv q.A g,λw=>∀q∈ls,gH w 5 1 q.A q.l.length q.c (f9 q.l),λ_ _ h _ hR q hq=>(hR q hq).keep (λg hg=>h g ⟨q,hq,hg⟩),λ_ hR g⟨q,hq,hg⟩=>(hR q hq).lt hg⟩
section
variable{L:List HA}{l:List Int}
theorem St.brs0(S:St F W w L):St F W w (.brs []::L):=S.push (Gr.refl w) (h:=.brs []) (λq v=>by cases v) (λg⟨q,v,_⟩=>by cases v)
theorem St.brsPush(S:St F W w (.row 5 1 A l.length c (f9 l)::.brs ls::L)):St F W w (.brs (ls++[⟨A,c,l⟩])::L) :=
 S.two (λh1 h2 q v=>(ez.1 v).elim (h2 q) (λh=>by rw[dM.1 h];exact h1)) (λg⟨q,v,hg⟩=>(ez.1 v).elim (λh=>.inr ⟨q,h,hg⟩) (λh=>by rw[dM.1 h]at hg;exact .inl hg))
theorem St.brsRd(S:St F W w L)(hi:gi L i=some (.brs ls)){q:BR}(v:q∈ls):Rd w q.A (f9 q.l):=(S.ok hi q v).rd
end
section
variable{K:Option Addr}{cap:Nat}{v:Int}
theorem UX{B:Nat}(h:∀q∈ls,q.l.length<=B):(mj ls).length<=B*ls.length:=by
 induction ls with
 |nil=>simp[mj]
 |cons q r ih =>
  have h1:=h q (by simp);have h2:=ih (λx v=>h x (cW _ v));unfold mj at h2 ⊢;rw[fe,cP,fc,nk];omega
theorem Sn(v:0<ls.length)(h:∀q∈ls,1<=q.l.length):0<(mj ls).length:=by
 cases ls with
 |nil=>simp at v
 |cons q r =>
  have:=h q (by simp);unfold mj;rw[fe,cP];omega
theorem So(k:Nat)(y:k<=2):Fn prog 227 [ii k] W (dp (.bool false) W):=by
 have S:=St.start W;refine zI func227 ?_;refine zC (yz k 1 0 y om om) ?_;intro z v S;exact zZ
theorem UY(D:∀k∈ks,k<=2)(Z:ks.length<=1048576)(J:Rd W K (cY (ks.map λx:Nat=>(x:Int)))):Fn prog 277 [.slice K ks.length cK,.func (.func 227) #[] #[]] W (dp (ii (-1)) W):=by
 have v:∀j(L:j<ks.length),(cY (ks.map λx:Nat=>(x:Int)))[(j:Int).toNat * 1]?=some (ii (ks[j]:Nat)):=λj L=>by
  rw[cG,b7];exact gc (by rw[da,fw L];rfl)
 have S:=St.start W;refine zI func277 ?_;refine zg ?_
 refine dl (λm e w=>∃i:Nat,i+m=ks.length/\SL e [(0,.slice K ks.length cK),(1,.func (.func 227) #[] #[]),(7,ii ks.length),(8,ii i)]/\St No W w []) ks.length
  ⟨0,om,sl,S⟩ ?_
 clear S;rintro m e w ⟨i,hi,I,S⟩;rw[I.fold];by_cases y:i<ks.length
 ·have O:dO K:=J.someA (by rw[gn,eP];omega);have U:=v i y;have h2:=D _ (fY y);generalize ks[i]=k at *;refine zT (J.gr S.out) U ?_;refine ju rfl rfl (So k h2) ?_;rintro _ V ⟨rfl,z⟩;have S:=S.gr z;refine zg ?_;exact⟨m-1,om,i+1,om,sl,S⟩
 ·skip;exact zZ
theorem UZ(v:∀k∈ks,k<=2)(D:ks.length<=1048576)(z:Rd W K (cY (ks.map λx:Nat=>(x:Int)))):Fn prog 226 [.slice K ks.length cK,.func (.func 227) #[] #[]] W (dp (.bool false) W):=by
 have S:=St.start W;refine zI func226 ?_;refine zC (UY (cK:=cK) v D (z.gr S.out)) ?_;intro I y S;exact zZ
theorem U0{V:List Int}{w h:Nat}(v:1<=w/\w<=16)(D:1<=h/\h<=16)(L:V.length=w*h)(y:vM V):tN 0 (mp q V w)<=3840:=by
 have O:w*h<=16*16:=fy v.2 D.2;have I:=y.rests (kind:=q) v.1;have:=Dv (B:=5) (mp q V w) 0 (λx J=>(PL (z:=0) om (I x J)).2) om (by rw[pU];omega);rw[pU]at this;simp only[a7]at this;omega
theorem It(hT:jX W)(hB:vB (dw gw gh cc))(bk:ks.length=cU gh*cU gw)(aS:∀k∈ks,k<=2)(hK:Rd W K (cY (ks.map λx:Nat=>(x:Int))))(L:eJ W p gw gh cc A cap bs Rs) :
  Fn prog 149 [pt p,.slice K ks.length cK] W (λu w'=>∃lb:List Int,lb.length<=17+3849*(cU gh*cU gw)/\jc (λs=>.tuple #[s,ii 0]) 5 1 lb.length (f9 lb) W u w'):=by
 have h1:=jS L.sw.2;have h2:=jS L.sh.2;have br:=kQ L.sw.1;have bt:=kQ L.sh.1;have hm:cU gh*cU gw<=64*64:=fy h2 h1;have bq:1*1<=cU gh*cU gw:=fy bt br;have aX:=λk(hk:k<cU gh*cU gw)=>Ue (W:=W) hB hk L;have aY:=λw(g:Gr W w)=>xN (L.gr g);have aM:=λw(g:Gr W w)=>UZ (cK:=cK) aS om (hK.gr g)
 have aQ:∀j(hj:j<ks.length),(cY (ks.map λx:Nat=>(x:Int)))[(j:Int).toNat * 1]?=some (ii (ks[j]:Nat)):=λj hj=>by
  rw[cG,b7];exact gc (by rw[da,fw hj];rfl)
 have ao:=λw(ls:List Nat)B cB h3 h4 h5=>Wc (W:=w) (gw:=gw) (gh:=gh) (ls:=ls) (B:=B) (cB:=cB) L.sw L.sh h3 h4 h5;have an:cU gw*cU gh=cU gh*cU gw:=cD _ _;rw[an]at ao;obtain⟨n,hn⟩:∃n,cU gh*cU gw=n:=⟨_,rfl⟩;rw[hn]at hm bq aX aY bk ao;rw[hn];have bL:dO K:=hK.someA (by rw[gn,eP];omega);have S:=St.start W;refine zI func149 ?_;refine zK (aY W S.out) ?_;rintro _ cj ⟨y,U,rfl,ak,ar,be⟩;have S:=S.pushRow ak ar be;refine zC (aM _ S.out) ?_;intro ck ce S;refine zg ?_;have S:=(S.brs0.pushNil 37 1).pushNil 2 1;refine zg ?_
 refine dl (λm e w=>∃(k:Nat)(ls:List BR)(ad ab:Option Addr)(ah ae:Nat),k+m=n/\ls.length=k/\(∀q∈ls,1<=q.l.length/\q.l.length<=3841) /\
   SL e [(0,pt p),(1,.slice K ks.length cK),(7,.slice ad k ah),(8,.slice ab k ae),(35,.slice y n U),(36,ii n),(37,ii k)] /\
   St No W w [.row 2 1 ad k ah (cY ((ls.map λq=>q.l.length).map λx:Nat=>(x:Int))),.row 37 1 ab k ae (yO ls),.brs ls,.row 43 4 y n U (FZ gw gh)]) n
  ⟨0,[],none,none,0,0,om,rfl,(λq h=>by cases h),sl,S⟩ ?_
 clear S;rintro m e w ⟨k,ls,ad,ab,ah,ae,hk,aU,D,bu,S⟩;rw[bu.fold];by_cases bp:k<n
 ·have bB:dO y:=(S.row (i:=3) rfl).someA om;obtain⟨X0,Y0,X1,Y1,bh⟩:=aX k bp;obtain⟨ba,aR,aZ,am,aJ,aW,aL⟩:=bh;have aT:k<ks.length:=om;have g1:=aQ k aT;have bv:=aS _ (fY aT);have ci:=U0 (q:=ks[k]) ba aR am aJ;have aV:=λW A c q hA D=>Ud (W:=W) (A:=A) (c:=c) (w:=fQ gw (k%cU gw)) (h:=fQ gh (k/cU gw)) (V:=CI gw gh cc k) q D ba aR am aJ hA;rw[am,cD (fQ gw (k%cU gw))]at aV;generalize ks[k]=kd at *;generalize fQ gw (k%cU gw)=tw at *;generalize fQ gh (k/cU gw)=th at *;generalize CI gw gh cc k=Vt at *;refine zg ?_;refine ZU (S.rd (i:=3) rfl) aL ?_;refine zN ?_;intro bZ cl cg S;refine zS ?_;intro cm S;refine zK (aZ _ S.out) ?_;rintro _ cn ⟨bF,bG,rfl,al,au,bf⟩;have S:=S.pushRow al au bf;refine zC (aW _) ?_;intro co ch S;refine zT (hK.gr S.out) g1 ?_;refine zK (aV _ _ _ kd (S.rd (i:=0) rfl) bv) ?_;rintro _ cp ⟨lb,bl,I,J,rfl,aG,aN,bg⟩;have S:=S.pushRow aG aN bg;refine zg ?_;rw[<-bl]at S ⊢;have bm:1<=lb.length/\lb.length<=3841:=om;refine zg ?_;refine yb S ?_;intro bc bO bH S bb;refine ZP 4 0 S ?_;intro aw aB bP S bN;refine zg ?_;refine yb S ?_;intro bE bQ bI S bA;refine ZP 6 0 S ?_;intro av az bR S bM;refine zg ?_;have S:=(S.pick 9 [2,7,5,6,8,0,1,3,4] rfl rfl rfl).brsPush;have S:=(S.pick 8 [1,2,0,3,4,5,6,7] rfl rfl rfl).sub (List.take_sublist 4 _);have e1:cY ((ls.map λq=>q.l.length).map λx:Nat=>(x:Int))++[ii (lb.length:Nat)]=cY (((ls++[(⟨I,J,lb⟩:BR)]).map λq:BR=>q.l.length).map λx:Nat=>(x:Int)):=by simp[cY]
  have e2:yO ls++[.slice I lb.length J]=yO (ls++[(⟨I,J,lb⟩:BR)]):=by simp[yO,BR.v]
  rw[e1,e2]at S;exact⟨m-1,om,k+1,ls++[(⟨I,J,lb⟩:BR)],aw,av,aB,az,om,by simp[aU],(λq h=>(ez.1 h).elim (D q) (λh=>by rw[dM.1 h];exact bm)),sl,S⟩
 ·obtain rfl:k=n:=om;subst aU;have bi:=UX (ls:=ls) (B:=3841) (λq h=>(D q h).2);have Z:=λw B cB h5=>ao w (ls.map λq=>q.l.length) B cB (λx hx=>by obtain⟨q,h,rfl⟩:=fC.1 hx;have:=D q h;omega) (by rw[eP]) h5;rw[eP]at Z;refine zC (mC p gw gh _ w (L.top.gr S.out)) ?_;intro bS bJ S;refine zK (Z _ _ _ (S.rd (i:=0) rfl)) ?_;rintro _ bT ⟨lh,bn,ac,ag,rfl,aH,aO,aC⟩;have S:=S.pushRow aH aO aC;refine zg ?_;rw[<-bn]at S ⊢;refine zK (BH (ls:=ls) (S.rd (i:=2) rfl) (λq h=>⟨(D q h).1,S.brsRd (i:=3) rfl h⟩) om om om) ?_;rintro _ bU ⟨v,z,rfl,ai,ap,aD⟩;have S:=S.pushRow ai ap aD;refine yb S ?_;intro bD bV bK S bz;have aa:0<(mj ls).length:=Sn om (λq h=>(D q h).1);generalize aK:mj ls=O at S aa ⊢;rw[aK]at bi;refine zK (BH (ls:=[⟨ac,ag,lh⟩,⟨v,z,O⟩]) (cB:=2) (W6 rfl (S.rd (i:=0) rfl)) (λq D=>by simp only[dy,gM,lr]at D;rcases D with rfl|rfl;exact⟨by dsimp only;omega,S.rd (i:=2) rfl⟩;exact⟨aa,S.rd (i:=1) rfl⟩) (by simp) (by simp) (by simp[mj];omega)) ?_;rintro _ bW ⟨bC,aA,rfl,aj,aq,aE⟩;have S:=S.pushRow aj aq aE;have bj:(mj [(⟨ac,ag,lh⟩:BR),(⟨v,z,O⟩:BR)]).length=lh.length+O.length:=by simp[mj]
  generalize mj [(⟨ac,ag,lh⟩:BR),(⟨v,z,O⟩:BR)]=bw at S bj ⊢;refine zK (Nn (c:=aA) (l:=bw) (hT.gr S.out) om om (S.rd (i:=0) rfl)) ?_;rintro _ bX ⟨lo,bo,bY,ca,rfl,aI,aP,aF⟩;have S:=S.pushRow aI aP aF;refine zg ?_;rw[<-bo]at S ⊢;exact nd rfl rfl ⟨lo,om,S.retNew (i:=0) (mk:=λs=>.tuple #[s,ii 0]) rfl⟩
end
end Go.Proofs.YtcalhocphkbbgaaGreatDoor
