/- A part of the proof that hachuretop.WholeCharts and hachuretop.WholeWater returns true at every input; no condition. -/
import Derived.Test.YtcalhocphkbbgaaGreatDoorKZ
import Derived.Test.YtcalhocphkbbgaaGreatDoorKZA
set_option maxRecDepth 100000
set_option maxHeartbeats 16000000
set_option linter.unusedVariables false
set_option linter.unusedSimpArgs false
namespace Go.Proofs.YtcalhocphkbbgaaGreatDoor
open Go.Proofs.Tryz Go.RowKit
variable{Q:(Nat->Value)->World->Prop}{af:Array Edge}{f:FuncId}{h:HA}{a e0:Int}{σ:List (Nat × Value)}{ls:List BR}{M T:List HA}{hd ks:List Nat}{l xs:List Value}{N b c cb g gh gw i j k k' m n q sb x0 x1 y0 y1:Nat}{cc:Nat->Int}{bs:Nat->Nat}{e:Nat->Value}{o:m5}{hi lo x:Operand}{A B p0:Option Addr}{d:Option Tmp}{P:Program}{G:Prop}{r:Rc}{s s':lT}{t t' ty:TypeId}{u v1:Value}{W w w' wq:World}{C:World->Prop}
section
variable{xs:List (Int × Int)}{a b:Int × Int}{v:Int}
theorem abm(h:tO xs=true)(v:xs[i]?=some b):wv xs i b=true:=by
 unfold tO at h;rw[cM,dh]at h;have:=h.2 i (dJ.2 (dq.1 v).1);rw[v]at this;exact this
theorem S0(h:tO xs=true)(v:xs[k]?=some a)(y:xs[k+1]?=some b):a.1<b.1:=by
 have:=abm h y;unfold wv at this;simp only[cM,v,hZ,d9]at this;omega
theorem abC(h:tO xs=true)(y:xs[k]?=some a):∀(n:Nat)(b:Int×Int),xs[k+n+1]?=some b->a.1<b.1/\a.2≠b.2:=by
 intro n
 have h1:∀n b,xs[k+n+1]?=some b->a.1<b.1:=by
  intro n;induction n with
  |zero=>intro b v;exact S0 h y v
  |succ n ih =>
   intro b v;have I:=(dq.1 v).1;have z:xs[k+n+1]?=some xs[k+n+1]:=fw om;have:=ih _ z;have:=S0 h z (show xs[k+n+1+1]?=some b from v);omega
 intro b v;refine⟨h1 n b v,λe=>?_⟩;have:=abm h v;unfold wv at this;simp only[cM,hZ]at this;have h2:=this.2.2.2;rw[nU]at h2;have D:(xs.take (k+n+1))[k]?=some a:=by rw[fJ,a7 om];exact y
 exact h2 a (dD D) (by rw[cT];exact e)
theorem abI(hi:xs[i]?=some b)(h1:iL b.1=true)(h2:qk b.2=true)(z:∀k a,k<i->xs[k]?=some a->a.1<b.1/\a.2≠b.2):wv xs i b=true:=by
 have J:=(dq.1 hi).1;unfold wv;rw[cM,cM,cM,cT];refine⟨(u0 _).1 h1,h2,?_,?_⟩
 ·cases i with
  |zero=>rfl
  |succ j =>
   have D:xs[j]?=some xs[j]:=fw om;have:=(z j _ om D).1;simp only[D,hZ,d9];omega
 ·rw[hZ,nU];intro a I e;obtain⟨k,v⟩:=jI I;rw[fJ]at v;split at v
  ·rename_i y;exact(z k a y v).2 (qp e)
  ·cases v
theorem O1(v:Int):∀(l:List (Int×Int))(z:Int),(∀c∈l,¬c.1<=v)->l.foldl (λa b=>if b.1<=v then b.2 else a) z=z
 |[],z,_=>rfl
 |c::l,z,h=>by
  rw[pK,a8 (h c eB)]
  exact O1 v l z λd hd=>h d (cW _ hd)
theorem abn(hi:xs[i]?=some b)(y:b.1<=v\/i=0)(J:∀j c,i<j->xs[j]?=some c->¬c.1<=v):GB xs v=b.2:=by
 have L:=(dq.1 hi).1
 have e:xs=xs.take i++b::xs.drop (i+1):=by
  have h1:xs[i]=b:=(dq.1 hi).2;rw[<-h1,List.getElem_cons_drop,lV]
 have hd:∀c∈xs.drop (i+1),¬c.1<=v:=λc I=>by
  obtain⟨k,D⟩:=jI I;rw[jD]at D;exact J _ c om D
 rcases y with y|rfl
 ·unfold GB;generalize (xs.headD (0,0)).2=z;rw[e,nT,pK,a7 y,O1 v _ _ hd]
 ·cases xs with
  |nil=>cases hi
  |cons c r =>
   cases hi
   unfold GB;show(b::r).foldl (λa b=>if b.1<=v then b.2 else a) b.2=b.2;rw[pK,ite_self];exact O1 v r _ hd
end
section
variable{xs:List (Int × Int)}
theorem abt(r:Int):Fn prog 26 [.int .i32 r] W (dp (.bool (qk r)) W):=by
 rcases fv (r=44\/r=58\/r=173)with h|h
 ·have y:qk r=false:=by unfold qk E8;rw[fD om];rfl
  rw[y];have S:=St.start W;rcases h with rfl|rfl|rfl
  all_goals
   refine zI func26 ?_;exact zZ
 ·have D:r≠44:=om;have I:r≠58:=om;have z:r≠173:=om;have v:r<33\/(33<=r/\r<=126)\/(126<r/\r<161)\/(161<=r/\r<55296)\/(55296<=r/\r<=57343)\/(57343<r/\r<=65532)\/65532<r:=om
  have y:qk r=decide ((33<=r/\r<=126)\/(161<=r/\r<55296)\/(57343<r/\r<=65532)):=by
   unfold qk E8;rw[iq];simp;omega
  rw[y];clear y;have S:=St.start W;rcases v with v|v|v|v|v|v|v
  all_goals
   refine zI func26 ?_;refine zg ?_;first|refine dU (qA (B:=true) rfl rfl (fD om)) ?_|refine dU (qA (B:=false) rfl rfl (iO om)) ?_
   refine zg ?_;try (refine dr rfl ?_;(first|refine dU (uz (B:=true) rfl rfl (fD om)) ?_|refine dU (uz (B:=false) rfl rfl (iO om)) ?_))
   refine zg ?_;try (refine dr rfl ?_;(first|refine dU (qA (B:=true) rfl rfl (fD om)) ?_|refine dU (qA (B:=false) rfl rfl (iO om)) ?_))
   refine zg ?_;try (refine dr rfl ?_;(first|refine dU (uz (B:=true) rfl rfl (fD om)) ?_|refine dU (uz (B:=false) rfl rfl (iO om)) ?_))
   refine zg ?_;try (refine dr rfl ?_;(first|refine dU (qA (B:=true) rfl rfl (fD om)) ?_|refine dU (qA (B:=false) rfl rfl (iO om)) ?_))
   refine zg ?_;try (refine dr rfl ?_;(first|refine dU (uz (B:=true) rfl rfl (fD om)) ?_|refine dU (uz (B:=false) rfl rfl (iO om)) ?_))
   refine zX ?_;exact⟨by simp<;>omega,S.out⟩
theorem YC(hn:n=xs.length)(aw:n<=c)(av:n<=9223372036854775807)(D:Rd W A (kI xs)):Fn prog 14 [.slice A n c] W (dp (.bool (tO xs)) W):=by
 subst hn;rcases fv (1<=xs.length/\xs.length<=12)with hl|hl
 ·have al:dO A:=D.someA (by rw[Ar];omega);have S:=St.start W;refine zI func14 ?_;refine zg ?_
  refine dl (λm e w=>∃i:Nat,i+m=xs.length/\SL e [(0,.slice A xs.length c),(3,ii i)]/\(∀j b,j<i->xs[j]?=some b->wv xs j b=true)/\St No W w []) xs.length
   ⟨0,om,sl,λj b hj=>by omega,S⟩ ?_
  clear S;rintro m e w ⟨i,hi,ab,U,S⟩;rw[ab.fold];rcases fv (i<xs.length)with ac|ac
  ·obtain⟨⟨f,s⟩,hx⟩:∃x,xs[i]?=some x:=⟨xs[i],fw ac⟩;have hf:(kI xs)[(i:Int).toNat * 2+0]?=some (ii f):=by rw[b7];exact LH hx
   have hs:(kI xs)[(i:Int).toNat * 2+1]?=some (.int .i32 s):=by rw[b7];exact qe (f:=λb:Int×Int=>[ii b.1,.int .i32 b.2]) (m:=2) (λ_=>rfl) hx (by decide)
   have I:=λw=>Pf f w;have L:=λw=>abt (W:=w) s;cases hm:iL f
   ·rw[hm]at I
    have v:tO xs=false:=Uy hx (by
     unfold wv;rw[iO (λh=>by rw[(u0 f).2 h]at hm;cases hm)]
     rfl)
    rw[v];refine zT (D.gr S.out) hf ?_;refine zC (I w) ?_;intro az am S;exact zZ
   ·rw[hm]at I;cases hg:qk s
    ·rw[hg]at L
     have v:tO xs=false:=Uy hx (by
      unfold wv;rw[hg,nz,Bool.and_false])
     rw[v];refine zT (D.gr S.out) hf ?_;refine zC (I w) ?_;intro aj an S;(iterate 4 refine z ?_);refine zx ?_;refine z ?_;first|refine eD rfl ?_|(refine dr rfl ?_;refine dH (eI fV rfl rfl (D.gr S.out) hs) ?_)
     refine dr rfl ?_;refine eY rfl (L aj) ?_;rintro _ aA ⟨rfl,ae⟩;have S:=S.gr ae;exact zZ
    ·rw[hg]at L;refine zT (D.gr S.out) hf ?_;refine zC (I w) ?_;intro ak ao S;(iterate 4 refine z ?_);refine zx ?_;refine z ?_;first|refine eD rfl ?_|(refine dr rfl ?_;refine dH (eI fV rfl rfl (D.gr S.out) hs) ?_)
     refine dr rfl ?_;refine eY rfl (L ak) ?_;rintro _ aB ⟨rfl,ag⟩;have S:=S.gr ag;refine zg ?_
     refine dl (λm e w=>∃k:Nat,k+m=i/\SL e [(0,.slice A xs.length c),(3,ii i),(4,ii k)]/\(∀k' a,k'<k->xs[k']?=some a->a.1<f/\a.2≠s)/\St No W w []) i
      ⟨0,om,sl,λk' a hk=>by omega,S⟩ ?_
     clear S;rintro m2 e w ⟨k,hk,ab,Z,S⟩;rw[ab.fold];rcases fv (k<i)with ai|ai
     ·obtain⟨⟨f',s'⟩,O⟩:∃x,xs[k]?=some x:=⟨xs[k],fw om⟩;have aa:(kI xs)[(k:Int).toNat * 2+0]?=some (ii f'):=by rw[b7];exact LH O
      have ad:(kI xs)[(k:Int).toNat * 2+1]?=some (.int .i32 s'):=by rw[b7];exact qe (f:=λb:Int×Int=>[ii b.1,.int .i32 b.2]) (m:=2) (λ_=>rfl) O (by decide)
      have V:¬(f'<f/\s'≠s)->tO xs=false:=λh=>by
       cases hb:tO xs
       ·rfl
       ·obtain⟨d,rfl⟩:∃d,i=k+d+1:=⟨i-k-1,om⟩;exact absurd (abC hb O d _ hx) h
      have ah:(f'<f/\s'≠s)->∀k' a,k'<k+1->xs[k']?=some a->a.1<f/\a.2≠s:=λh k' a au ha=>by
       rcases eV k' k with h2|h2
       ·exact Z k' a h2 ha
       ·obtain rfl:k'=k:=om;rw[O]at ha;cases ha
        exact h
      have J:f<=f'\/(f'<f/\s'=s)\/(f'<f/\s'≠s):=om;rcases J with J|J|J
      ·rw[V om];refine zD [0,1,2,3,4,5,6,7,8,9,10,11,12,13,14,15,16,17,18,19,20,21,22,23] [] ?_;refine zO (λwq y=>(D.gr (S.gr y).out)) aa ?_;refine zO (λwq y=>(D.gr (S.gr y).out)) hf ?_;refine zE ?_;intro aC ap S;exact ir rfl ⟨rfl,S.out⟩
      ·rw[V om];refine zD [0,1,2,3,4,5,6,7,8,9,10,11,12,13,14,15,16,17,18,19,20,21,22,23] [] ?_;refine zO (λwq y=>(D.gr (S.gr y).out)) aa ?_;refine zO (λwq y=>(D.gr (S.gr y).out)) hf ?_;refine zQ ?_;try (refine fO rfl ?_;refine fo (λwq y=>eI fV rfl rfl (D.gr (S.gr y).out) ad) ?_)
       refine zQ ?_;try (refine fO rfl ?_;refine fo (λwq y=>eI fV rfl rfl (D.gr (S.gr y).out) hs) ?_)
       refine zE ?_;intro aD aq S;exact ir rfl ⟨rfl,S.out⟩
      ·skip;refine zD [0,1,2,3,4,5,6,7,8,9,10,11,12,13,14,15,16,17,18,19,20,21,22,23] [] ?_;refine zO (λwq y=>(D.gr (S.gr y).out)) aa ?_;refine zO (λwq y=>(D.gr (S.gr y).out)) hf ?_;refine zQ ?_;try (refine fO rfl ?_;refine fo (λwq y=>eI fV rfl rfl (D.gr (S.gr y).out) ad) ?_)
       refine zQ ?_;try (refine fO rfl ?_;refine fo (λwq y=>eI fV rfl rfl (D.gr (S.gr y).out) hs) ?_)
       refine zE ?_;intro aE ar S;exact⟨m2-1,om,k+1,om,sl,ah J,S⟩
     ·obtain rfl:k=i:=om;refine zg ?_;refine⟨m-1,om,k+1,om,sl,λj b hj hb=>?_,S⟩;rcases eV j k with h2|h2
      ·exact U j b h2 hb
      ·obtain rfl:j=k:=om;rw[hx]at hb;cases hb
       exact abI hx hm hg Z
  ·have v:tO xs=true:=RT om om λj b hj hb=>U j b om hb;rw[v];exact zZ
 ·have v:tO xs=false:=by unfold tO;rw[iO hl];rfl
  rw[v];have J:xs.length=0\/(1<=xs.length/\12<xs.length):=om;rcases J with J|J
  all_goals
   have S:=St.start W;refine zI func14 ?_;exact zZ
theorem abD(v:Int)(hn:n=xs.length)(aa:n<=9223372036854775807)(h0:1<=xs.length)(z:Rd W A (kI xs)):Fn prog 16 [.slice A n c,ii v] W (dp (.int .i32 (GB xs v)) W):=by
 subst hn;have Z:dO A:=z.someA (by rw[Ar];omega);have e1:((xs.length:Nat):Int)-1=((xs.length-1:Nat):Int):=om;have S:=St.start W;refine zI func16 ?_;refine zg ?_;rw[e1];refine zg ?_
 refine dl (λm e w=>∃i:Nat,i=m/\i<xs.length/\SL e [(0,.slice A xs.length c),(1,ii v),(5,ii i)]/\(∀j b,i<j->xs[j]?=some b->¬b.1<=v)/\St No W w []) (xs.length-1)
  ⟨xs.length-1,rfl,om,sl,λj b hj D=>by have:=(dq.1 D).1;omega,S⟩ ?_
 clear S;rintro m e w ⟨i,rfl,J,L,y,S⟩;rw[L.fold];obtain⟨⟨f,s⟩,I⟩:∃x,xs[i]?=some x:=⟨xs[i],fw J⟩;have U:(kI xs)[(i:Int).toNat * 2+0]?=some (ii f):=by rw[b7];exact LH I
 have V:(kI xs)[(i:Int).toNat * 2+1]?=some (.int .i32 s):=by rw[b7];exact qe (f:=λb:Int×Int=>[ii b.1,.int .i32 b.2]) (m:=2) (λ_=>rfl) I (by decide)
 rcases iZ i with rfl|hi
 ·rw[abn I (.inr rfl) y];refine zT (z.gr S.out) V ?_;exact zZ
 ·rcases fv (f<=v)with O|O
  ·rw[abn I (.inl O) y];refine zT (z.gr S.out) U ?_;refine zT (z.gr S.out) V ?_;exact zZ
  ·skip;refine zT (z.gr S.out) U ?_;refine zg ?_;refine⟨i-1,om,i-1,rfl,om,sl,λj b hj D=>?_,S⟩;rcases eV i j with h2|h2
   ·exact y j b h2 D
   ·obtain rfl:j=i:=om;rw[I]at D;cases D
    exact O
theorem abh(r:Int)(I:qk r=true):Fn prog 15 [.int .i32 r] W (jc id 5 1 (lJ r).length (f9 (lJ r)) W):=by
 have J:33<=r/\r<=65532:=by
  unfold qk at I;simp only[cM,cT]at I;omega
 unfold lJ;rcases fv (r<128)with h1|h1
 ·rw[a7 h1];have S:=St.start W;refine zI func15 ?_;refine zg ?_;first|refine dU (uz (B:=true) rfl rfl (fD om)) ?_|refine dU (uz (B:=false) rfl rfl (iO om)) ?_
  refine zg ?_;refine dU (dY (ks:=.i32) (n:=r) (kd:=.u8) (m:=r) fV dv rfl (pH _ om)) ?_;refine yb S ?_;intro y D z S v;refine zX ?_;exact(S.retNew (i:=0) rfl)
 ·rw[a8 h1];rcases fv (r<2048)with h2|h2
  ·rw[a7 h2];have S:=St.start W;refine zI func15 ?_;refine zg ?_;first|refine dU (uz (B:=true) rfl rfl (fD om)) ?_|refine dU (uz (B:=false) rfl rfl (iO om)) ?_
   refine zg ?_;first|refine dU (uz (B:=true) rfl rfl (fD om)) ?_|refine dU (uz (B:=false) rfl rfl (iO om)) ?_
   refine zg ?_;refine dU (wR rfl rfl om om (wg _ om)) ?_;refine dU (nO rfl rfl (wg _ om)) ?_;refine dU (dY (ks:=.i32) (kd:=.u8) fV dv rfl (pH _ om)) ?_;refine zg ?_;refine dU (wQ rfl rfl om om) ?_;refine dU (nO rfl rfl (wg _ om)) ?_;refine dU (dY (ks:=.i32) (kd:=.u8) fV dv rfl (pH _ om)) ?_;refine yb S ?_;intro y D z S v;refine zX ?_;exact(S.retNew (i:=0) rfl)
  ·rw[a8 h2];have S:=St.start W;refine zI func15 ?_;refine zg ?_;first|refine dU (uz (B:=true) rfl rfl (fD om)) ?_|refine dU (uz (B:=false) rfl rfl (iO om)) ?_
   refine zg ?_;first|refine dU (uz (B:=true) rfl rfl (fD om)) ?_|refine dU (uz (B:=false) rfl rfl (iO om)) ?_
   refine zg ?_;refine dU (wR rfl rfl om om (wg _ om)) ?_;refine dU (nO rfl rfl (wg _ om)) ?_;refine dU (dY (ks:=.i32) (kd:=.u8) fV dv rfl (pH _ om)) ?_;refine zg ?_;refine dU (wR rfl rfl om om (wg _ om)) ?_;refine dU (wQ rfl rfl om om) ?_;refine dU (nO rfl rfl (wg _ om)) ?_;refine dU (dY (ks:=.i32) (kd:=.u8) fV dv rfl (pH _ om)) ?_;refine zg ?_;refine dU (wQ rfl rfl om om) ?_;refine dU (nO rfl rfl (wg _ om)) ?_;refine dU (dY (ks:=.i32) (kd:=.u8) fV dv rfl (pH _ om)) ?_;refine yb S ?_;intro y D z S v;refine zX ?_;exact(S.retNew (i:=0) rfl)
end
section
variable{ps:String}
theorem abo{y:Operand}{a b:ByteArray}(z:ev e x=.string a)(D:ev e y=.string b)(h:a.size+b.size<=9223372036854775807):iE P e ⟨d,.binOp .add t x y t',ty,ps,af,none⟩ (.string (a++b)):=by
 intro w
 have h2:¬(((a.size+b.size:Nat):Int)>IntKind.i64.max):=by
  rw[show IntKind.i64.max=9223372036854775807 from rfl];omega
 have v:(Op.stringOp .add a b).run P w=.ok (.string (a++b)) w:=by
  unfold Op.stringOp;dsimp only;rw[a8 h2];rfl
 simp[gd,execOp,z,D,eqGuard,binOp,v]
end
theorem S4(a b:List Int):Io a++Io b=Io (a++b):=uc (by
 rw[ByteArray.data_append];simp[Io,DS])
theorem O2(a:List Int):(Io a).size=a.length:=by simp[Io,DS,ByteArray.size]
theorem WT(a:List Int):Bt a=Io a:=uc (by
 have h:=SY a;rw[ByteArray.toList_eq]at h;rw[<-iB,h];rfl)
section
variable{Q N:List HA}{xs:List (Int × Int)}
theorem abw(x0 y0 x1 y1:Nat)(z:xs.length<=c)(y:xs.length<=9223372036854775807)(D:Rd W B (kI xs))(I:tO xs=true)(J:x0<=x1/\x1<s.gw)(O:y0<=y1/\y1<s.gh)(S:St No W w (N++((s.L++Q)++T))) :
  Fn prog 9 [pt s.sb,.agg #[ii 27,ii x0,ii y0,ii x1,ii y1,ii 0,ii 0,ii 0,ii 0,ii 0,ii 0,.slice none 0 0,.slice none 0 0,.slice B xs.length c]] w
   (λv w'=>∃A c,v=gZ.v { code:=0,lines:=⟨A,y1+1-y0,c⟩ }/\St No W w' (.row 9 1 A (y1+1-y0) c (yD xs (fi s.gw s.cc x0 y0 (x1+1-x0) (y1+1-y0)) (x1+1-x0) (y1+1-y0))::(N++((s.L++Q)++T)))) :=
 (tj (o:=⟨27,x0,y0,x1,y1,0,0,0,0,0,0,.nil,.nil,⟨B,xs.length,c⟩⟩) rfl false AS (UW (M:=Q) (λw L S=>D.gr S.out) rfl z y I J O ⟨rfl,rfl,rfl,rfl,rfl⟩) (St.mid S)).mono λv w'⟨q,hv,S'⟩=>⟨q.1,q.2,hv,St.mid1 S'⟩
theorem abi(x0 y0 x1 y1:Nat)(z:xs.length<=c)(y:xs.length<=9223372036854775807)(D:Rd W B (kI xs))(I:tO xs=false)(J:x0<=x1/\x1<s.gw)(O:y0<=y1/\y1<s.gh)(S:St No W w (N++((s.L++Q)++T))) :
  Fn prog 9 [pt s.sb,.agg #[ii 27,ii x0,ii y0,ii x1,ii y1,ii 0,ii 0,ii 0,ii 0,ii 0,ii 0,.slice none 0 0,.slice none 0 0,.slice B xs.length c]] w
   (λv w'=>v=gZ.v { code:=13 }/\St No W w' (N++((s.L++Q)++T))) :=
 (tj (o:=⟨27,x0,y0,x1,y1,0,0,0,0,0,0,.nil,.nil,⟨B,xs.length,c⟩⟩) rfl false AS (Sm (M:=Q) (λw L S=>D.gr S.out) rfl z y I J O ⟨rfl,rfl,rfl,rfl,rfl⟩) (St.mid S)).mono λv w'⟨_,hv,S'⟩=>⟨hv,St.mid S'⟩
theorem abj(x0 y0 x1 y1:Int)(n:Nat)(y:dF x0 y0 x1 y1 s.gw s.gh≠0)(S:St No W w (N++((s.L++Q)++T))) :
  Fn prog 9 [pt s.sb,.agg #[ii 27,ii x0,ii y0,ii x1,ii y1,ii 0,ii 0,ii 0,ii 0,ii 0,ii 0,.slice none 0 0,.slice none 0 0,.slice B n c]] w
   (λv w'=>v=gZ.v { code:=dF x0 y0 x1 y1 s.gw s.gh }/\St No W w' (N++((s.L++Q)++T))) :=
 (tj (o:=⟨27,x0,y0,x1,y1,0,0,0,0,0,0,.nil,.nil,⟨B,n,c⟩⟩) rfl false AS (Ou (M:=Q) y rfl) (St.mid S)).mono λv w'⟨_,hv,S'⟩=>⟨hv,St.mid S'⟩
end
theorem aaP(x0 y0 x1 y1 gw gh:Nat)(I:1<=gw/\gw<=1024)(D:1<=gh/\gh<=1024)(J:x0<=x1/\x1<gw)(L:y0<=y1/\y1<gh)(W:World):Fn prog 24 [.agg #[ii x0,ii y0,ii x1,ii y1],ii gw,ii gh] W (dp (ii 0) W):=by
 have S:=St.start W;refine zI func24 ?_;refine zN ?_;intro v z y S;exact zZ
structure aaL(V:List Int)(gw x0 y0 x1 y1 y x:Nat)(L:List Int):Prop where
 of:∀v∈L,∃a b,nh x0 y0 x1 y1 a b/\Bx V gw a b=v
 all:∀a b,nh x0 y0 x1 y1 a b->(b<y\/(b=y/\a<x))->Bx V gw a b∈L
theorem aaL.push{V:List Int}{y x:Nat}{L:List Int}(h:aaL V gw x0 y0 x1 y1 y x L)(I:nh x0 y0 x1 y1 x y):aaL V gw x0 y0 x1 y1 y (x+1) (L++[Bx V gw x y]):=by
 refine⟨λv z=>?_,λa b D J=>?_⟩
 ·rcases ez.1 z with z|z
  ·exact h.of v z
  ·exact⟨x,y,I,(dM.1 z).symm⟩
 ·by_cases e:b=y/\a=x
  ·obtain⟨rfl,rfl⟩:=e;exact lW _ (dM.2 rfl)
  ·exact f6 _ (h.all a b D om)
def dW(L:List Int)(lo hi:Int):Prop:=(∀v∈L,lo<=v/\v<=hi)/\lo∈L/\hi∈L
theorem dW.push{L:List Int}{lo hi D y v:Int}(h:dW L lo hi)(I:D=min lo v)(J:y=max hi v):dW (L++[v]) D y:=by
 obtain⟨h1,h2,O⟩:=h;refine⟨λu z=>?_,?_,?_⟩
 ·rcases ez.1 z with z|z
  ·have:=h1 u z;omega
  ·rw[dM.1 z];omega
 ·by_cases e:lo<=v
  ·rw[I,(om:min lo v=lo)];exact f6 _ h2
  ·rw[I,(om:min lo v=v)];exact lW _ (dM.2 rfl)
 ·by_cases e:v<=hi
  ·rw[J,(om:max hi v=hi)];exact f6 _ O
  ·rw[J,(om:max hi v=v)];exact lW _ (dM.2 rfl)
def VCz(W:World)(L:List HA)(Q:List Int->Prop)(σ:List Value)(wq:World):Prop:=match σ with
 |[]=>St No W wq L
 |[v]=>∃l A c,v=.tuple #[.slice A l.length c,ii 0]/\Q l/\St No W wq (.row 2 1 A l.length c (cY l)::L)
 |_=>False
section
variable{L:List HA}{Q:List Int->Prop}{σ:List Value}
theorem VCz.gr(h:VCz W L Q σ w)(g:Gr w w'):VCz W L Q σ w':=by
 match σ,h with
 |[],h=>exact St.gr (show St No W w L from h) g
 |[v],⟨l,A,c,e,q,S⟩=>exact⟨l,A,c,e,q,S.gr g⟩
theorem VCz.blk(h:VCz W L Q σ w){t:Nat}(hi:gi L i=some (.blk b t l)):eL w b t l:=by
 match σ,h with
 |[],h=>exact St.blk (show St No W w L from h) hi
 |[v],⟨_,_,_,e,q,S⟩=>exact S.blk (i:=i+1) hi
theorem VCz.out(h:VCz W L Q [] w):Gr W w:=St.out (show St No W w L from h)
theorem VCz.step(h:VCz W L Q [] w)(v:Value)(w':World)(D:∃L:List Int,Q L/\jc (λs=>.tuple #[s,ii 0]) 2 1 L.length (cY L) w v w'):VCz W L Q [v] w':=by
 obtain⟨l,q,A,c,rfl,z,y,g⟩:=D;exact⟨l,A,c,rfl,q,St.pushRow (show St No W w L from h) z y g⟩
end
def aaz(V:List Int)(gw x0 y0 x1 y1:Nat):List Int:=fi gw (λj=>V.getD j 0) x0 y0 (x1+1-x0) (y1+1-y0)
theorem aa5(V:List Int)(gw x0 y0 x1 y1:Nat):(aaz V gw x0 y0 x1 y1).length=(y1+1-y0)*(x1+1-x0):=lE _ _ _ _ _ _
section
variable{cap:Nat}{V:List Int}
theorem aaQ(x0 y0 x1 y1:Nat)(hw:1<=gw/\gw<=1024)(hh:1<=gh/\gh<=1024)(hx:x0<=x1/\x1<gw)(hy:y0<=y1/\y1<gh)(hV:V.length=gw*gh)(hA:Rd W A (cY V)) :
  Fn prog 13 [aaC gw gh A (gw*gh) cap,.agg #[ii x0,ii y0,ii x1,ii y1]] W
  (jc (λs=>.tuple #[s,ii 0]) 2 1 (aaz V gw x0 y0 x1 y1).length (cY (aaz V gw x0 y0 x1 y1)) W):=by
 have an:=λw=>aaP x0 y0 x1 y1 gw gh hw hh hx hy w;have hm:1<=gw*gh/\gw*gh<=1024*1024:=⟨fy hw.1 hh.1,fy hw.2 hh.2⟩;obtain⟨U,am⟩:∃U,U=x1+1-x0:=⟨_,rfl⟩;have ao:dO A:=hA.someA (by rw[gn];omega);unfold aaC;have S:=St.start W;refine zI func13 ?_;refine zN ?_;intro I aI aq S;refine zN ?_;intro J aJ ar S;refine zC (an _) ?_;intro aK au S;refine zg ?_;refine mv fZ cR S ?_;intro v aL av S ah;refine zg ?_
 refine dl (λm e w=>∃(y:Nat)(L:List Int)(v:Option Addr)(D:Nat),y+m=y1+1/\y0<=y/\L.length=(y-y0)*U/\L=fi gw (λj=>V.getD j 0) x0 y0 U (y-y0)/\SL e [(2,pt I),(3,pt J),(7,.slice v L.length D),(8,ii y)] /\
  St No W w [.row 2 1 v L.length D (cY L),.blk J 43 [ii x0,ii y0,ii x1,ii y1],.blk I 31 [ii gw,ii gh,.slice A (gw*gh) cap]]) (y1+1-y0)
  ⟨y0,[],v,_,om,fK _,by simp,by rw[j8];rfl,sl,S⟩ ?_
 clear S;rintro m e w ⟨y,L,v,D,aG,aF,Z,O,ab,S⟩;rw[ab.fold];by_cases aH:y<=y1
 ·have hq:(y-y0+1)*U<=1024*1024:=fy om om;rw[cX,<-Z]at hq;obtain⟨q,ag⟩:∃q,q=L.length:=⟨_,rfl⟩;refine zg ?_
  refine dl (λm e w=>∃(x:Nat)(L:List Int)(v:Option Addr)(D:Nat),x+m=x1+1/\x0<=x/\L.length=q+(x-x0)/\L=fi gw (λj=>V.getD j 0) x0 y0 U (y-y0)++vV gw (λj=>V.getD j 0) x0 y (x-x0)/\SL e [(2,pt I),(3,pt J),(7,.slice v L.length D),(8,ii y),(9,ii x)] /\
   St No W w [.row 2 1 v L.length D (cY L),.blk J 43 [ii x0,ii y0,ii x1,ii y1],.blk I 31 [ii gw,ii gh,.slice A (gw*gh) cap]]) (x1+1-x0)
   ⟨x0,L,v,D,om,fK _,om,by rw[j8,<-O];exact(fG L).symm,sl,S⟩ ?_
  rw[<-ag]at hq;rw[<-ag]at Z;clear S O;rintro m2 e w ⟨x,L,v,D,aD,aC,az,O,ab,S⟩;rw[ab.fold];by_cases aE:x<=x1
  ·have aB:y*gw+x<gw*gh:=by
    have:=cI gw (show y+1<=gh by omega);rw[cX,cD gh]at this;omega
   have e1:(y:Int)*(gw:Int)=((y*gw:Nat):Int):=by push_cast;rfl
   have aa:L++[V.getD (y*gw+x) 0]=fi gw (λj=>V.getD j 0) x0 y0 U (y-y0)++vV gw (λj=>V.getD j 0) x0 y (x+1-x0):=by
    rw[O,cL,(om:x+1-x0=(x-x0)+1),MJ,(om:x0+(x-x0)=x)]
   generalize y*gw=yg at *;have ae:(cY V)[((yg:Int)+(x:Int)).toNat * 1]?=some (ii (V.getD (yg+x) 0)):=by rw[cG,(om:((yg:Int)+(x:Int)).toNat=yg+x)];exact gc (kr om)
   (iterate 3 refine z ?_);refine zt ?_;iterate 6 refine z ?_
   refine dU (fh rfl (by rw[e1];omega)) ?_;rw[e1];refine zT (hA.gr S.out) ae ?_;refine yb S ?_;intro aj aM aw S ai;refine fM (i:=1) S rfl (λh=>rfl) fZ jR rfl rfl rfl rfl (by simp) om (S.rd (i:=0) rfl) rfl om ?_;intro ac ad ap S ah;refine zg ?_;have S:=S.sub (.cons _ (.cons_cons _ (.cons_cons _ (.cons_cons _ (.slnil)))));refine⟨m2-1,om,x+1,L++[V.getD (yg+x) 0],ac,ad,om,om,by simp;omega,aa,⟨rfl,rfl,?_,rfl,ie om,trivial⟩,?_⟩
   ·rw[cP];rfl
   ·rw[cP,<-Qo];exact S
  ·have ak:x-x0=U:=om;rw[ak]at O;refine zg ?_;exact⟨m-1,om,y+1,L,v,D,om,om,by rw[(om:y+1-y0=(y-y0)+1),cX];omega,by rw[(om:y+1-y0=(y-y0)+1),yZ,(om:y0+(y-y0)=y)];exact O,sl,S⟩
 ·have ey:y=y1+1:=om;rw[ey]at O Z;have aA:(y1+1-y0)*U<=1024*1024:=fy om om;rw[am]at O;have al:aaz V gw x0 y0 x1 y1=L:=O.symm;rw[al];refine zX ?_;exact(S.retNew (i:=0) (mk:=λs=>.tuple #[s,ii 0]) rfl)
end
theorem aaH(x0 y0 x1 y1:Int)(z:1≤gw∧gw≤1024)(y:1≤gh∧gh≤1024) :
    (dF x0 y0 x1 y1 gw gh=4∧(x0<0∨(0≤x0∧gw≤x0)∨((0≤x0∧x0<gw)∧x1<0)∨((0≤x0∧x0<gw)∧0≤x1∧gw≤x1)∨((0≤x0∧x0<gw)∧(0≤x1∧x1<gw)∧y0<0)∨((0≤x0∧x0<gw)∧(0≤x1∧x1<gw)∧0≤y0∧gh≤y0)∨((0≤x0∧x0<gw)∧(0≤x1∧x1<gw)∧(0≤y0∧y0<gh)∧y1<0)∨((0≤x0∧x0<gw)∧(0≤x1∧x1<gw)∧(0≤y0∧y0<gh)∧0≤y1∧gh≤y1))) ∨
    (dF x0 y0 x1 y1 gw gh=5∧((0≤x0∧x0<gw)∧(0≤x1∧x1<gw)∧(0≤y0∧y0<gh)∧0≤y1∧y1<gh)∧(x1<x0∨(x0≤x1∧y1<y0))) ∨
    (dF x0 y0 x1 y1 gw gh=0∧((0≤x0∧x0<gw)∧(0≤x1∧x1<gw)∧(0≤y0∧y0<gh)∧0≤y1∧y1<gh)∧x0≤x1∧y0≤y1):=by
  have U:fL ((gw:Int)-1) 1024=true:=by simp[fL];omega
  have V:fL ((gh:Int)-1) 1024=true:=by simp[fL];omega
  have v:∀(a:Int)(n:Nat),1≤n→(fL a n=true↔0≤a∧a<n):=λa n Z=>by simp[fL];try omega
  unfold dF;simp only[U,V,Bool.not_true,Bool.or_self,m7,pW];cases D:fL x0 gw with
  |false =>
    have:¬(0≤x0∧x0<gw):=λh=>by rw[(v x0 gw z.1).2 h]at D;cases D
    exact .inl ⟨rfl,by omega⟩
  |true =>
    have J:=(v x0 gw z.1).1 D;cases h1:fL x1 gw with
    |false =>
      have:¬(0≤x1∧x1<gw):=λh=>by rw[(v x1 gw z.1).2 h]at h1;cases h1
      exact .inl ⟨rfl,by omega⟩
    |true =>
      have L:=(v x1 gw z.1).1 h1;cases h2:fL y0 gh with
      |false =>
        have:¬(0≤y0∧y0<gh):=λh=>by rw[(v y0 gh y.1).2 h]at h2;cases h2
        exact .inl ⟨rfl,by omega⟩
      |true =>
        have O:=(v y0 gh y.1).1 h2;cases I:fL y1 gh with
        |false =>
          have:¬(0≤y1∧y1<gh):=λh=>by rw[(v y1 gh y.1).2 h]at I;cases I
          exact .inl ⟨rfl,by omega⟩
        |true =>
          have S:=(v y1 gh y.1).1 I;rcases fv (x1<x0∨y1<y0)with h|h
          · exact .inr (.inl ⟨a7 h,⟨J,L,O,S⟩,by omega⟩)
          · exact .inr (.inr ⟨a8 h,⟨J,L,O,S⟩,by omega⟩)
theorem aaE(x0 y0 x1 y1:Int)(I:1<=gw/\gw<=1024)(D:1<=gh/\gh<=1024):Fn prog 24 [.agg #[ii x0,ii y0,ii x1,ii y1],ii gw,ii gh] W (dp (ii (dF x0 y0 x1 y1 gw gh)) W):=by
 rcases aaH x0 y0 x1 y1 I D with⟨e,h⟩|⟨e,h,h2⟩|⟨e,h,h2⟩
 all_goals rw[e]
 ·rcases h with h|h|h|h|h|h|h|h
  all_goals
   have S:=St.start W;refine zI func24 ?_;refine zN ?_;intro v z y S;exact zZ
 ·rcases h2 with h2|h2
  all_goals
   have S:=St.start W;refine zI func24 ?_;refine zN ?_;intro v z y S;exact zZ
 ·skip;have S:=St.start W;refine zI func24 ?_;refine zN ?_;intro v z y S;exact zZ
theorem aba(z:x1<gw)(D:y1<gh):aaz (dw gw gh cc) gw x0 y0 x1 y1=fi gw cc x0 y0 (x1+1-x0) (y1+1-y0):=by
 unfold aaz;refine Jw (gh:=gh) ?_ z D;refine List.ext_getElem (by rw[qf,qf]) λi h1 h2=>?_;rw[qf]at h1;have v:=mF gw gh (λj=>(dw gw gh cc).getD j 0) i;have y:=mF gw gh cc i;rw[a7 h1]at v y;rw[cO,fw (by rw[qf];exact h1)]at v y;exact v.trans (by rw[mF,a7 h1];exact y.symm)
theorem aaM(x0 y0 x1 y1:Int)(n:Nat)(U:1<=gw/\gw<=1024)(L:1<=gh/\gh<=1024)(O:dF x0 y0 x1 y1 gw gh≠0) :
  Fn prog 13 [aaC gw gh A n c,.agg #[ii x0,ii y0,ii x1,ii y1]] W (dp (.tuple #[.slice none 0 0,ii (dF x0 y0 x1 y1 gw gh)]) W):=by
 have v:=λw=>aaE (W:=w) x0 y0 x1 y1 U L;generalize dF x0 y0 x1 y1 gw gh=e at *;unfold aaC;have S:=St.start W;refine zI func13 ?_;refine zN ?_;intro y V D S;refine zN ?_;intro z Z I S;refine zC (v _) ?_;intro aa J S;exact zZ
theorem QE(os:List m5)(x0 y0 x1 y1:Int)(xs:List (Int×Int))(aA:xs.length<=cb)(al:xs.length<=9223372036854775807)(hG:GL W)(hT:jX W)(ao:∀o∈os,wV W o)(hA:Rd W A (G0 os))(hB:Rd W B (kI xs)) :
  Fn prog 4 [.slice A os.length c,.agg #[ii x0,ii y0,ii x1,ii y1],.slice B xs.length cb] W (dp (.bool true) W):=by
 have S:=St.start W;refine zI func4 ?_;refine zN ?_;intro I bZ bR S;refine zC (SX (hG.gr S.out)) ?_;intro ca bS S;refine z ?_;refine zc ?_;refine eX rfl ?_;refine zc ?_;refine gO ?_;try show CW _ _ _ _ _ _
 have aG:40<xs.length\/xs.length<=40:=om;repeat refine dm ?_
 refine gP (M:=λe w=>∃D:Bool,SL e [(0,.slice A os.length c),(2,.slice B xs.length cb),(4,pt I),(25,.bool D)]/\(D=false->os.length<=30/\∀o∈os,C5 o)/\St No W w [.blk I 43 [ii x0,ii y0,ii x1,ii y1]]) ?_ ?_
 ·rcases aG with h1|h1
  all_goals
   refine zK (XL os (λo ho=>(ao o ho).gr S.out) (hA.gr S.out)) ?_;rintro _ ce ⟨b,rfl,aS,hb⟩;have S:=S.gr aS;refine zg ?_;refine O8 21 rfl (λh9=>?_) (λh9=>?_)
   ·first|refine eD rfl ?_|(refine dr rfl ?_;refine dU (jx rfl) ?_)
    refine zg ?_;exact⟨_,sl,(by first|exact λ_=>hb h9|(intro h;cases h)),S⟩
   ·first|refine eD rfl ?_|(refine dr rfl ?_;refine dU (jx rfl) ?_)
    refine zg ?_;exact⟨_,sl,(by first|exact λ_=>hb h9|(intro h;cases h)),S⟩
 ·rintro e w2 ⟨D,ah,hD,S⟩;rw[ah.fold];rcases D with _|_
  ·obtain⟨aL,aY⟩:=hD rfl;refine zK (Xz os aL (hT.gr S.out) (λo ho=>((ao o ho).gr S.out).ok (aY o ho)) (hA.gr S.out)) ?_;rintro _ cg ⟨sb,rfl,hS⟩;replace hS:=xV.baseL S hS;refine zg ?_;rcases hS with⟨p0,S⟩|⟨s,Q,be,aT,S⟩
   ·skip;refine zK (OQ S) ?_;rintro _ ch ⟨rfl,S⟩;refine zN ?_;intro aR ci bT S;refine zS ?_;intro cj S;refine zC (SK (o:=⟨27,x0,y0,x1,y1,0,0,0,0,0,0,.nil,.nil,⟨B,xs.length,cb⟩⟩) ⟨by dsimp only;decide,by dsimp only;decide,by dsimp only;decide⟩ (St.swap S)) ?_;intro bu bj S;refine zN ?_;intro J bv bk S;refine zS ?_;intro bw S;refine zC (Me (S.blk (i:=2) rfl)) ?_;intro bz bl S;exact zZ
   ·subst be;have hw:=(S.grid (i:=1) rfl).sw;have hh:=(S.grid (i:=1) rfl).sh;have aV:s.V.length=s.gw*s.gh:=qf _ _ _;have hm:s.gw*s.gh<=1024*1024:=fy hw.2 hh.2;replace S:St No W _ ([.blk I 43 [ii x0,ii y0,ii x1,ii y1]]++((s.L++Q)++[])):=St.mid (C:=[]) S;refine zK (Vn aT (St.mid (A:=[_]) S)) ?_;rintro _ bA ⟨ac,aj,rfl,S⟩;replace S:=St.mid1 (B:=[_]) (C:=[]) S;refine zN ?_;intro aR bB bm S;refine zS ?_;intro bC S;have am:=λ(w:World)(h:Rd w B (kI xs))=>YC (W:=w) (c:=cb) rfl aA al h;rcases fv (dF x0 y0 x1 y1 s.gw s.gh=0)with an|an
    ·obtain⟨⟨O,V,U,v1⟩,hr,e0,e1,e2,e3⟩:=nP an;dsimp only at e0 e1 e2 e3;subst e0 e1 e2 e3;have hx:O<=U/\U<s.gw:=hr.1;have hy:V<=v1/\v1<s.gh:=hr.2;have ai:=λ(w:World)(ac:Option Addr)(aj:Nat)(h:Rd w ac (cY s.V))=>aaQ (W:=w) (A:=ac) (cap:=aj) O V U v1 hw hh hx hy aV h;unfold aaC at ai;cases hl:tO xs
     ·rw[hl]at am;have ab:=λ{N T:List HA}{w:World}(S:St No W w (N++((s.L++Q)++T)))=>abi (B:=B) (c:=cb) O V U v1 aA al hB hl hx hy S;refine zK (ab (N:=[_,_,_]) (T:=[]) S) ?_;rintro _ bD ⟨rfl,S⟩;refine zN ?_;intro J bE bn S;refine zS ?_;intro bF S;dsimp only[gZ.cs,Sv.v,Sv.nil]at S;refine zK (ai _ _ _ (S.rd (i:=2) rfl)) ?_;rintro _ aP ⟨aa,ad,rfl,ae,ag,aB⟩;have S:=S.pushRow ae ag aB;iterate 6 refine z ?_
      first|refine dU (ff (b:=true) rfl (fX.2 om)) ?_|refine dU (ff (b:=false) rfl (et.2 om)) ?_|refine dU (jx rfl) ?_
      refine z ?_;refine z ?_;refine dr rfl ?_;refine eY rfl (am aP (hB.gr S.out)) ?_;rintro _ bG ⟨rfl,aC⟩;have S:=S.gr aC;exact zZ
     ·rw[hl]at am;have aI:aaz s.V s.gw O V U v1=fi s.gw s.cc O V (U+1-O) (v1+1-V):=aba hx.2 hy.2;have hL:=aa5 s.V s.gw O V U v1
      have h0:1<=xs.length:=by
       unfold tO at hl;simp only[cM,cT]at hl;exact hl.1.1
      have ba:=λ(z:Int)(w:World)(h:Rd w B (kI xs))=>abD (W:=w) (c:=cb) z rfl al h0 h;have aW:=λ(z:Int)(w:World)=>abh (W:=w) (GB xs z) (Ip hl z);have ab:=λ{N T:List HA}{w:World}(S:St No W w (N++((s.L++Q)++T)))=>abw (B:=B) (c:=cb) O V U v1 aA al hB hl hx hy S;rw[<-aI]at ab;have bU:(v1+1-V)*(U+1-O)<=1024*1024:=fy om om;generalize aaz s.V s.gw O V U v1=L at *;clear aI;generalize bY:U+1-O=Z at *;generalize bV:v1+1-V=ht at *
      have aw:∀j,j<ht->(yD xs L Z ht)[((j:Nat):Int).toNat * 1]?=some (.string (WA xs L Z j)):=λj hj=>by
       rw[cG,b7];unfold yD;rw[da,eu hj];rfl
      have bf:∀j,(WA xs L Z j).size<=3*1048576:=λj=>by
       unfold WA;rw[O2];have h1:=GC xs ((L.drop (j*Z)).take Z);have h2:=List.length_take_le Z (L.drop (j*Z));omega
      have ap:∀n,(Io (yC xs (L.take n))).size<=3*1048576:=λn=>by
       rw[O2];have h1:=GC xs (L.take n);have h2:=List.length_take_le' n L;omega
      have az:∀j,Io (yC xs (L.take (j*Z)))++WA xs L Z j=Io (yC xs (L.take ((j+1)*Z))):=λj=>by
       unfold WA;rw[S4,iI,kR,List.take_add];unfold yC;rw[kZ]
      generalize yD xs L Z ht=ls at *;refine zK (ab (N:=[_,_,_]) (T:=[]) S) ?_;rintro _ bH ⟨v,y,rfl,S⟩;refine zN ?_;intro J bI bo S;refine zS ?_;intro bJ S;dsimp only[gZ.cs,Sv.v,Sv.nil]at S;refine zK (ai _ _ _ (S.rd (i:=3) rfl)) ?_;rintro _ aQ ⟨aa,ad,rfl,ae,ag,aD⟩;have S:=S.pushRow ae ag aD;iterate 6 refine z ?_
      first|refine dU (ff (b:=true) rfl (fX.2 om)) ?_|refine dU (ff (b:=false) rfl (et.2 om)) ?_|refine dU (jx rfl) ?_
      refine z ?_;refine z ?_;refine dr rfl ?_;refine eY rfl (am aQ (hB.gr S.out)) ?_;rintro _ bK ⟨rfl,aE⟩;have S:=S.gr aE;refine zg ?_;replace S:=S.sub (show List.Sublist [HA.row 2 1 aa L.length ad (cY L),.blk J 40 [ii 0,ii 0,.bool false,ii 0,ii 0,.slice none 0 0,.slice none 0 0,.slice none 0 0,.slice none 0 0,.slice v ht y],.row 9 1 v ht y ls,.blk I 43 [ii O,ii V,ii U,ii v1]] _ from .cons_cons _ (.cons_cons _ (.cons_cons _ (.cons _ (.cons _ (.cons_cons _ (rC _)))))))
      refine dl (λm e w=>∃(i:Nat)(D:ByteArray),i+m=L.length/\SL e [(2,.slice B xs.length cb),(4,pt I),(10,pt J),(11,.slice aa L.length ad),(13,.string D),(14,ii i)]/\D=Io (yC xs (L.take i))/\St No W w [.row 2 1 aa L.length ad (cY L),.blk J 40 [ii 0,ii 0,.bool false,ii 0,ii 0,.slice none 0 0,.slice none 0 0,.slice none 0 0,.slice none 0 0,.slice v ht y],.row 9 1 v ht y ls,.blk I 43 [ii O,ii V,ii U,ii v1]]) L.length
       ⟨0,_,om,sl,rfl,S⟩ ?_
      clear S;rintro m e w ⟨i,D,hi,ah,ak,S⟩;rw[ah.fold];rcases fv (i<L.length)with av|av
      ·have bt:dO aa:=(S.row (i:=0) rfl).someA om;have aJ:(cY L)[(i:Int).toNat * 1]?=some (ii (L.getD i 0)):=by rw[cG,b7];exact gc (kr av)
       have aO:=ba (L.getD i 0);have aH:=aW (L.getD i 0);have bW:=(BO (GB xs (L.getD i 0))).2;have bc:=ap i;rw[<-ak]at bc
       have aZ:D++Bt (lJ (GB xs (L.getD i 0)))=Io (yC xs (L.take (i+1))):=by
        rw[ak,WT,S4,<-LJ,cO,fw av,Option.getD_some,List.take_append_getElem]
       generalize GB xs (L.getD i 0)=rn at *;(iterate 3 refine z ?_);refine zt ?_;(iterate 4 refine z ?_);refine zx ?_;refine dH (eI iY rfl rfl (S.rd (i:=0) rfl) aJ) ?_;refine zC (aO w (hB.gr S.out)) ?_;intro bL bp S;refine zK (aH _) ?_;rintro _ bM ⟨bh,bi,rfl,ar,au,aF⟩;have S:=S.pushRow ar au aF;refine dH (BZ (bs:=lJ rn) fR dv fk rfl (S.rd (i:=0) rfl)) ?_;refine dU (abo rfl rfl (by rw[WT,O2];omega)) ?_;refine zg ?_;exact⟨m-1,om,i+1,_,om,sl,aZ,S.drop 1⟩
      ·obtain rfl:i=L.length:=om;rw[i6]at ak;refine zg ?_
       refine dl (λm e w=>∃(j:Nat)(G:ByteArray),j+m=ht/\SL e [(4,pt I),(10,pt J),(13,.string D),(15,.string G),(16,ii j)]/\G=Io (yC xs (L.take (j*Z)))/\St No W w [.row 2 1 aa L.length ad (cY L),.blk J 40 [ii 0,ii 0,.bool false,ii 0,ii 0,.slice none 0 0,.slice none 0 0,.slice none 0 0,.slice none 0 0,.slice v ht y],.row 9 1 v ht y ls,.blk I 43 [ii O,ii V,ii U,ii v1]]) ht
        ⟨0,_,om,sl,by rw[iD];rfl,S⟩ ?_
       clear S;rintro m e w ⟨j,G,hj,ah,aq,S⟩;rw[ah.fold];rcases fv (j<ht)with aK|aK
       ·have bg:dO v:=(S.row (i:=2) rfl).someA om;have aX:=aw j aK;have bX:=bf j;have bb:=ap (j*Z);rw[<-aq]at bb;have aM:=az j;rw[<-aq]at aM;generalize WA xs L Z j=lj at *;(iterate 4 refine z ?_);refine zt ?_;(iterate 4 refine z ?_);refine zx ?_;refine dH (eI fk rfl rfl (S.rd (i:=2) rfl) aX) ?_;refine dU (abo rfl rfl om) ?_;refine zg ?_;exact⟨m-1,om,j+1,_,om,sl,aM,S⟩
       ·obtain rfl:j=ht:=om;have aU:G=D:=by rw[aq,ak,fN om]
        subst aU;(iterate 4 refine z ?_);refine zf ?_;refine zc ?_;refine eX rfl ?_;refine zc ?_;refine pD ?_;repeat first|refine nC ?_|refine pE ?_
        show CW _ _ _ _ _ _;refine z ?_;refine z ?_;first|refine dU (ff (b:=true) rfl (fX.2 om)) ?_|refine dU (ff (b:=false) rfl (et.2 om)) ?_|refine dU (jx rfl) ?_
        (iterate 8 refine z ?_);(iterate 2 refine zr ?_);refine zt ?_;iterate 4 refine z ?_
        refine dr rfl ?_;refine dU (yu (B:=true) rfl rfl (fE _)) ?_;exact zZ
    ·have aN:=λ(w:World)(ac:Option Addr)(aj:Nat)=>aaM (W:=w) (A:=ac) (c:=aj) x0 y0 x1 y1 (s.gw*s.gh) hw hh an;unfold aaC at aN;have ab:=λ{N T:List HA}{w:World}(S:St No W w (N++((s.L++Q)++T)))=>abj (B:=B) (c:=cb) x0 y0 x1 y1 xs.length an S;generalize dF x0 y0 x1 y1 s.gw s.gh=qe at *;refine zK (ab (N:=[_,_,_]) (T:=[]) S) ?_;rintro _ bN ⟨rfl,S⟩;refine zN ?_;intro J bO bq S;refine zS ?_;intro bP S;dsimp only[gZ.cs,Sv.v,Sv.nil]at S;refine zC (aN _ _ _) ?_;intro bQ br S;exact zZ
  ·skip;exact zZ
end Go.Proofs.YtcalhocphkbbgaaGreatDoor
