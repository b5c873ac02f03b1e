/- A part of the proof that hachuretop.WholeCharts and hachuretop.WholeWater returns true at every input; no condition. -/
import Derived.Test.YtcalhocphkbbgaaGreatDoorKP
import Derived.Lib.UnsafeStr
import Derived.Test.YtcalhocphkbbgaaGreatDoorKN
set_option maxRecDepth 100000
set_option maxHeartbeats 16000000
set_option linter.unusedVariables false
set_option linter.unusedSimpArgs false
namespace Go.Proofs.YtcalhocphkbbgaaGreatDoor
open Go.Proofs.Tryz Go.RowKit
variable{Q:(Nat->Value)->World->Prop}{af:Array Edge}{ops:Array Oper}{f:FuncId}{h h':HA}{a:Int}{tl:List HA}{l xs:List Value}{b c c2 el g i j k m n p:Nat}{c':Nat->Int}{F F':Nat->Prop}{e:Nat->Value}{op:Op}{hi x:Operand}{A A2 B:Option Addr}{d:Option Tmp}{P:Program}{r:Rc}{t t' ty:TypeId}{u:Value}{W w w':World}
def wv(xs:List (Int×Int))(i:Nat)(b:Int×Int):Bool :=
 decide (-2147483648<=b.1/\b.1<=2147483647)&&(qk b.2&&(!(match i with|0=>false|j+1=>(match xs[j]? with|some a=>decide (b.1<=a.1)|none=>false))&&!((xs.take i).any λa=>decide (a.2=b.2))))
def tO(xs:List (Int×Int)):Bool:=decide (1<=xs.length/\xs.length<=12)&&(List.range xs.length).all λi=>match xs[i]? with|some b=>wv xs i b|none=>true
theorem Uy{xs:List (Int×Int)}{b:Int×Int}(v:xs[i]?=some b)(h:wv xs i b=false):tO xs=false:=by
 unfold tO;rw[il];right;rw[List.all_eq_false];refine⟨i,dJ.2 (dq.1 v).1,?_⟩;rw[v];simp[h]
theorem RT{xs:List (Int×Int)}(h1:¬xs.length<1)(h2:¬12<xs.length)(y:∀i b,i<xs.length->xs[i]?=some b->wv xs i b=true):tO xs=true:=by
 unfold tO;rw[cM,dh];refine⟨fD om,λi hi=>?_⟩;have v:=dJ.1 hi;rw[fw v];exact y i _ v (fw v)
theorem CO:∀(xs:List (Int×Int))(k:Nat),kI (xs.take k)=(kI xs).take (k*2)
 |[],k=>by simp[kI]
 |x::r,0=>by simp[kI]
 |x::r,k+1=>by
  have h:=CO r k
  rw[po,cX];show _::_::kI (r.take k)=_::_::(kI r).take (k*2);rw[h]
theorem Rd.takeB{xs:List (Int×Int)}(h:Rd w A (kI xs))(k:Nat):Rd w A (kI (xs.take k)):=by
 rw[CO];rcases h with h|⟨b,o,z,D,I⟩
 ·rw[h];exact .inl (List.take_nil)
 ·refine .inr ⟨b,o,z,D,λj v y=>I j v ?_⟩;rw[fJ]at y;split at y
  ·exact y
  ·cases y
theorem GA{xs:List (Int×Int)}{x:Int×Int}(h:xs[k]?=some x):((kI xs).drop (k*2)).take 2=[ii x.1,.int .i32 x.2]:=lG (f:=λb:Int×Int=>[ii b.1,.int .i32 b.2]) (λ_=>rfl) h
theorem LH{xs:List (Int×Int)}{x:Int×Int}(h:xs[k]?=some x):(kI xs)[k*2+0]?=some (ii x.1):=qe (f:=λb:Int×Int=>[ii b.1,.int .i32 b.2]) (m:=2) (λ_=>rfl) h (by decide)
section
variable{xs:List (Int × Int)}
theorem DR(hn:n=xs.length)(ba:n<=c)(aZ:n<=9223372036854775807)(I:Rd W A (kI xs)):Fn prog 150 [.slice A n c] W (dp (.bool (tO xs)) W):=by
 subst hn;have S:=St.start W;rcases fv (xs.length<1)with h0|h0
 ·have hl:tO xs=false:=by unfold tO;rw[iO om];rfl
  rw[hl];refine zI func150 ?_;exact zZ
 rcases fv (12<xs.length)with ag|ag
 ·have hl:tO xs=false:=by unfold tO;rw[iO om];rfl
  rw[hl];refine zI func150 ?_;exact zZ
 have aA:dO A:=I.someA (by rw[Ar];omega);refine zI func150 ?_;refine zg ?_
 refine dl (λm e w=>∃k:Nat,k+m=xs.length/\SL e [(0,.slice A xs.length c),(14,.slice A xs.length c),(15,ii xs.length),(16,ii k)]/\(∀i b,i<k->xs[i]?=some b->wv xs i b=true)/\St No W w []) xs.length
  ⟨0,om,sl,λi b hi=>by omega,S⟩ ?_
 clear S;rintro m e w ⟨k,aY,aj,hI,S⟩;rw[aj.fold];rcases fv (k<xs.length)with hk|hk
 ·obtain⟨⟨f,s⟩,U⟩:∃x,xs[k]?=some x:=⟨xs[k],fw hk⟩;have ak:=GA U;have D:((kI xs).drop ((k:Int).toNat * 2)).take 2=[ii f,.int .i32 s]:=by rw[b7];exact ak
  have O:=λh=>Uy U (by unfold wv;exact h);rcases fv (f < -2147483648)with h1|h1
  ·rw[O (by rw[iO om];rfl)];refine zg ?_;refine ZU (I.gr S.out) D ?_;refine zN ?_;intro v bb aV S;refine zS ?_;intro bc S;refine dU (jb (n:=(k:Int)) iG nq rfl rfl om om) ?_;rw[b7];exact zZ
  ·rcases fv (2147483647<f)with h2|h2
   ·rw[O (by rw[iO om];rfl)];refine zg ?_;refine ZU (I.gr S.out) D ?_;refine zN ?_;intro v be aW S;refine zS ?_;intro bf S;refine dU (jb (n:=(k:Int)) iG nq rfl rfl om om) ?_;rw[b7];exact zZ
   ·have L:decide (-2147483648<=f/\f<=2147483647)=true:=fD om;rcases qn (qk s)with J|J
    ·rcases k with _|j
     ·skip;refine zg ?_;refine ZU (I.gr S.out) D ?_;refine zN ?_;intro v bg aX S;refine zS ?_;intro bh S;refine dU (jb (n:=((0:Nat):Int)) iG nq rfl rfl om om) ?_;rw[b7];(iterate 3 refine z ?_);refine zf ?_;(iterate 3 refine z ?_);refine zf ?_;refine z ?_;refine z ?_;refine dr rfl ?_;refine dU (du mg rfl je rfl rfl) ?_;refine dr rfl ?_;refine z ?_;refine dr rfl ?_;refine eY rfl (Aq s) ?_;rintro _ aB ⟨rfl,aa⟩;have S:=S.gr aa;refine dr rfl ?_;refine zg ?_;rw[J];refine zF [0,1,2,3,4,5,6,7,8,9,10,11,12,13] [] ?_;intro aC al S;refine zC (vT (xs:=[]) A 0 c (234) [pt v] rfl om (λx:Int×Int=>decide (x.2=s)) _ (.inl rfl) (λx U=>by cases U)) ?_;intro aD am S;refine zg ?_
      exact⟨m-1,om,1,om,sl,λi y hi Z=>by
       obtain rfl:i=0:=om;rw[U]at Z;cases Z
       unfold wv;rw[L,J];rfl,S.drop 1⟩
     ·obtain⟨⟨pf,ps⟩,hp⟩:∃y,xs[j]?=some y:=⟨xs[j],fw om⟩;have ai:=LH hp;have e1:((j+1:Nat):Int)-1=(j:Nat):=om;have V:(kI xs)[(j:Int).toNat * 2+0]?=some (ii pf):=by rw[b7];exact ai
      rcases fv (f<=pf)with h4|h4
      ·rw[O (by rw[L,J];dsimp only;rw[hp];simp[h4])];refine zg ?_;refine ZU (I.gr S.out) D ?_;refine zN ?_;intro v aE an S;refine zS ?_;intro aF S;refine dU (jb (n:=((j+1:Nat):Int)) iG nq rfl rfl om om) ?_;rw[b7];(iterate 3 refine z ?_);refine zf ?_;(iterate 3 refine z ?_);refine zf ?_;refine z ?_;refine z ?_;refine dr rfl ?_;refine dU (du mg rfl je rfl rfl) ?_;refine dr rfl ?_;refine z ?_;refine dr rfl ?_;refine eY rfl (Aq s) ?_;rintro _ aG ⟨rfl,ab⟩;have S:=S.gr ab;refine dr rfl ?_;refine zg ?_;rw[J];refine zD [0,1,2,3,4,5,6,7,8,9,10,11,12,13] [] ?_;rw[e1];refine zQ ?_;try (refine fO rfl ?_;refine fo (λwq hq=>eI iY rfl rfl (I.gr (S.gr hq).out) V) ?_)
       refine zE ?_;intro aH ao S;exact ir rfl ⟨rfl,S.out⟩
      ·rcases qn ((xs.take (j+1)).any λa=>decide (a.2=s))with h5|h5
       ·rw[O (by rw[L,J,h5];dsimp only;rw[hp];simp)];refine zg ?_;refine ZU (I.gr S.out) D ?_;refine zN ?_;intro v aI ap S;refine zS ?_;intro aJ S;refine dU (jb (n:=((j+1:Nat):Int)) iG nq rfl rfl om om) ?_;rw[b7];(iterate 3 refine z ?_);refine zf ?_;(iterate 3 refine z ?_);refine zf ?_;refine z ?_;refine z ?_;refine dr rfl ?_;refine dU (du mg rfl je rfl rfl) ?_;refine dr rfl ?_;refine z ?_;refine dr rfl ?_;refine eY rfl (Aq s) ?_;rintro _ aK ⟨rfl,ac⟩;have S:=S.gr ac;refine dr rfl ?_;refine zg ?_;rw[J];refine zD [0,1,2,3,4,5,6,7,8,9,10,11,12,13] [] ?_;rw[e1];refine zQ ?_;try (refine fO rfl ?_;refine fo (λwq hq=>eI iY rfl rfl (I.gr (S.gr hq).out) V) ?_)
        refine zE ?_;intro aL aq S;refine zC (vT (xs:=xs.take (j+1)) A (j+1) c (234) [pt v] (by rw[d7];omega) om (λx:Int×Int=>decide (x.2=s)) _ ((I.takeB (j+1)).gr S.out) (λx U w' g=>Gz x.1 x.2 f s ((S.blk (i:=0) rfl).gr g))) ?_;intro aM ar S;rw[h5];exact zZ
       ·have ah:wv xs (j+1) (f,s)=true:=by unfold wv;rw[L,J,h5];dsimp only;rw[hp];simp[h4]
        refine zg ?_;refine ZU (I.gr S.out) D ?_;refine zN ?_;intro v aN au S;refine zS ?_;intro aO S;refine dU (jb (n:=((j+1:Nat):Int)) iG nq rfl rfl om om) ?_;rw[b7];(iterate 3 refine z ?_);refine zf ?_;(iterate 3 refine z ?_);refine zf ?_;refine z ?_;refine z ?_;refine dr rfl ?_;refine dU (du mg rfl je rfl rfl) ?_;refine dr rfl ?_;refine z ?_;refine dr rfl ?_;refine eY rfl (Aq s) ?_;rintro _ aP ⟨rfl,ad⟩;have S:=S.gr ad;refine dr rfl ?_;refine zg ?_;rw[J];refine zD [0,1,2,3,4,5,6,7,8,9,10,11,12,13] [] ?_;rw[e1];refine zQ ?_;try (refine fO rfl ?_;refine fo (λwq hq=>eI iY rfl rfl (I.gr (S.gr hq).out) V) ?_)
        refine zE ?_;intro aQ av S;refine zC (vT (xs:=xs.take (j+1)) A (j+1) c (234) [pt v] (by rw[d7];omega) om (λx:Int×Int=>decide (x.2=s)) _ ((I.takeB (j+1)).gr S.out) (λx U w' g=>Gz x.1 x.2 f s ((S.blk (i:=0) rfl).gr g))) ?_;intro aR aw S;rw[h5];refine zg ?_
        exact⟨m-1,om,j+1+1,om,sl,λi y hi Z=>by
         rcases fv (i=j+1)with e|e
         ·subst e;rw[U]at Z;cases Z
          exact ah
         ·exact hI i y om Z,S.drop 1⟩
    ·rw[O (by rw[L,J];rfl)];refine zg ?_;refine ZU (I.gr S.out) D ?_;refine zN ?_;intro v aS az S;refine zS ?_;intro aT S;refine dU (jb (n:=(k:Int)) iG nq rfl rfl om om) ?_;rw[b7];(iterate 3 refine z ?_);refine zf ?_;(iterate 3 refine z ?_);refine zf ?_;refine z ?_;refine z ?_;refine dr rfl ?_;refine dU (du mg rfl je rfl rfl) ?_;refine dr rfl ?_;refine z ?_;refine dr rfl ?_;refine eY rfl (Aq s) ?_;rintro _ aU ⟨rfl,ae⟩;have S:=S.gr ae;refine dr rfl ?_;refine zg ?_;rw[J];exact zZ
 ·obtain rfl:k=xs.length:=om;rw[RT h0 ag hI];exact zZ
def GB(xs:List (Int×Int))(v:Int):Int:=xs.foldl (λa b=>if b.1<=v then b.2 else a) (xs.headD (0,0)).2
theorem Xt(v:Int)(hn:n=xs.length)(ab:n<=c)(aa:n<=9223372036854775807)(D:Rd W A (kI xs))(O:tO xs=true):Fn prog 151 [.slice A n c,ii v] W (dp (.tuple #[.int .i32 (GB xs v),ii 0]) W):=by
 have h0:1<=xs.length:=by
  unfold tO at O;simp only[cM,cT]at O;exact O.1.1
 have I:=λw=>DR (W:=w) (A:=A) hn ab aa;rw[O]at I;subst hn;have ad:dO A:=D.someA (by rw[Ar];omega);obtain⟨⟨f0,s0⟩,z⟩:∃x,xs[0]?=some x:=⟨xs[0],fw h0⟩
 have V:(xs.headD (0,0)).2=s0:=by
  cases xs with
  |nil=>cases z
  |cons x r=>injection z with h;rw[h];rfl
 have Z:(kI xs)[0*2+1]?=some (.int .i32 s0):=qe (f:=λb:Int×Int=>[ii b.1,.int .i32 b.2]) (m:=2) (λ_=>rfl) z (by decide);have S:=St.start W;refine zI func151 ?_;refine zC (I W (D.gr S.out)) ?_;intro ak ag S;refine zT (D.gr S.out) Z ?_;refine zg ?_
 refine dl (λm e w=>∃k:Nat,k+m=xs.length/\SL e [(1,ii v),(6,.int .i32 ((xs.take k).foldl (λa b=>if b.1<=v then b.2 else a) (xs.headD (0,0)).2)),(16,.slice A xs.length c),(17,ii xs.length),(18,ii k)]/\St No W w []) xs.length
  ⟨0,om,⟨rfl,ie V.symm,rfl,rfl,rfl,trivial⟩,S⟩ ?_
 clear S;rintro m e w ⟨k,aj,J,S⟩;rw[J.fold];rcases fv (k<xs.length)with hk|hk
 ·obtain⟨⟨f,s⟩,hx⟩:∃x,xs[k]?=some x:=⟨xs[k],fw hk⟩;have ac:=GA hx;have L:((kI xs).drop ((k:Int).toNat * 2)).take 2=[ii f,.int .i32 s]:=by rw[b7];exact ac
  have y:(xs.take (k+1)).foldl (λa b=>if b.1<=v then b.2 else a) (xs.headD (0,0)).2=if f<=v then s else(xs.take k).foldl (λa b=>if b.1<=v then b.2 else a) (xs.headD (0,0)).2:=by
   rw[kK,hx,Option.toList_some,nT];rfl
  generalize (xs.take k).foldl (λa b=>if b.1<=v then b.2 else a) (xs.headD (0,0)).2=ae at *;rcases fv (f<=v)with h1|h1
  ·rw[a7 h1]at y;refine zg ?_;refine ZU (D.gr S.out) L ?_;refine zN ?_;intro U al ah S;refine zS ?_;intro am S;exact⟨m-1,om,k+1,om,⟨rfl,ie y.symm,rfl,rfl,ie om,trivial⟩,S.drop 1⟩
  ·rw[a8 h1]at y;refine zg ?_;refine ZU (D.gr S.out) L ?_;refine zN ?_;intro U an ai S;refine zS ?_;intro ao S;exact⟨m-1,om,k+1,om,⟨rfl,ie y.symm,rfl,rfl,ie om,trivial⟩,S.drop 1⟩
 ·obtain rfl:k=xs.length:=om;rw[i6]at J ⊢;exact zZ
end
def lJ(r:Int):List Int:=if r<128 then [r]else if r<2048 then [192+r/64,128+r%64]else [224+r/4096,128+r/64%64,128+r%64]
def DS(l:List Int):List UInt8:=l.map λn=>n.toNat.toUInt8
def Io(l:List Int):ByteArray:=⟨(DS l).toArray⟩
def Uz(l:List Int):Prop:=∀n∈l,0<=n/\n<256
theorem N3{n:Int}(h:0<=n/\n<256):((n.toNat.toUInt8).toNat:Int)=n:=by
 have h1:n.toNat<256:=om;rw[show n.toNat.toUInt8.toNat=n.toNat%256 from rfl,dT h1];omega
theorem UA{r:Int}(h:qk r=true):Uz (lJ r):=by
 have h2:33<=r/\r<=65532:=by
  unfold qk at h;simp only[cM,cT]at h;omega
 unfold lJ;intro n v;split at v
 ·simp only[dM]at v;omega
 ·split at v<;>simp only[dy,gM,lr]at v<;>omega
theorem RU(r:Int):lJ r≠[]:=by
 unfold lJ;split
 ·simp
 ·split<;>simp
theorem BO(r:Int):1<=(lJ r).length/\(lJ r).length<=3:=by
 unfold lJ;split
 ·simp
 ·split<;>simp
theorem Xu:∀x:Fin 32,bits .or .u8 192 (x.val:Nat)=192+(x.val:Nat):=by decide
theorem Xv:∀x:Fin 16,bits .or .u8 224 (x.val:Nat)=224+(x.val:Nat):=by decide
theorem Xw:∀x:Fin 64,bits .or .u8 128 (x.val:Nat)=128+(x.val:Nat):=by decide
theorem Xx:∀x:Fin 256,bits .and .u8 (x.val:Nat) 63=((x.val%64:Nat):Int):=by decide+kernel
theorem Wx{x:Int}(h:0<=x/\x<32):bits .or .u8 192 x=192+x:=by
 obtain⟨n,rfl⟩:=cJ h.1;exact Xu ⟨n,om⟩
theorem PX{x:Int}(h:0<=x/\x<16):bits .or .u8 224 x=224+x:=by
 obtain⟨n,rfl⟩:=cJ h.1;exact Xv ⟨n,om⟩
theorem CP{x:Int}(h:0<=x/\x<64):bits .or .u8 128 x=128+x:=by
 obtain⟨n,rfl⟩:=cJ h.1;exact Xw ⟨n,om⟩
theorem CQ{x:Int}(h:0<=x/\x<256):bits .and .u8 x 63=x%64:=by
 obtain⟨n,rfl⟩:=cJ h.1;exact(Xx ⟨n,om⟩).trans (by push_cast;rfl)
section
variable{rest:List Oper}{ps:String}{L:List HA}
theorem Wy{o:Nat}(y:ev e x=.slice (some ⟨b,o,none⟩) n c)(v:c≠0):iE P e ⟨d,.call ⟨.builtin .unsafeSliceData,#[x],#[t]⟩,ty,ps,af,none⟩ (.pointer (some ⟨b,o,none⟩)):=by
 intro w;have h:=Lib.run_unsafeSliceData_row (P:=P) (w:=w) #[t] ty ⟨b,o,none⟩ n c v;simp[gd,execOp,y,resolve,invoke,builtin,h]
theorem St.gone(S:St F W w L)(z:h.own g)(y:St F W w (h::L))(k:Fr (λb=>b=g) w w'):St F W w' L :=
 (y.set (i:=0) (h':=.row 0 1 none 0 0 []) rfl rfl k (λb v=>.inl (v▸z)) (gH.nil _ _ _) (λb v=>by cases v)).drop 1
theorem Wz{p n:Operand}{pt Z:Nat}{l:List Int}(S:St F W w (.row el 1 A l.length c (f9 l)::L))(hu:P.underlying pt=some (.pointer el))(hc:P.cellsOf el=1)(hp:ev e p=.pointer A)(D:ev e n=ii l.length)(h0:l≠[])(hb:Uz l)(hm:l.length<=9223372036854775807)(hr:∀w',St F W w' L->RW P ops Q rest (fI e d (.string (Io l))) w'):RW P ops Q (⟨d,.call ⟨.builtin .unsafeString,#[p,n],#[pt,Z]⟩,ty,ps,af,none⟩::rest) e w:=by
 rcases (S.row (i:=0) rfl).form with⟨_,I,_⟩|⟨g,cs,rfl,hB,aa,I,ht,_⟩
 ·exact absurd (gj I) h0
 ·rw[cG]at I ht;have z:(DS l).length=l.length:=eP ..;have V:w.shape? g=some (el,c):=by simp[World.shape?,show w.heap[g]?=_ from hB,I]
  have y:∀j x,(DS l)[j]?=some x->w.cell? ((⟨g,0,none⟩:Addr).add j)=some (.int .u8 x.toNat):=λj x O=>by
   unfold DS at O;rw[da]at O;obtain⟨n,D,rfl⟩:=fl.1 O;have U:j<l.length:=(dq.1 D).1
   have J:cs[j]?=some (.int .u8 n):=by
    have:(cs.take l.length)[j]?=some (.int .u8 n):=by rw[ht];unfold f9;rw[da,D];rfl
    rwa[fJ,a7 U]at this
   have h2:=N3 (hb n (dD D));rw[h2];rw[js];simp[World.cell?,show w.heap[g]?=_ from hB,J]
  have v:=Lib.run_unsafeString_row (P:=P) (w:=w) pt Z ty el hu hc g c V (DS l) (λh=>h0 (by simpa [DS]using h)) om om y;rw[z]at v
  have hw:(execOp (ev e) ⟨d,.call ⟨.builtin .unsafeString,#[p,n],#[pt,Z]⟩,ty,ps,af,none⟩).run P w=.ok (.value (.string (Io l))) (w.freeze ⟨g,0,none⟩ l.length):=by
   simp[execOp,resolve,invoke,builtin,hp,D,v,Io]
  refine wZ hw (hr _ ((S.drop 1).gone (g:=g) rfl S ?_));unfold World.freeze;split
  ·exact Fr.refl _ _
  ·exact⟨rfl,rfl,rfl,by simp,λk _ hk=>by
    simp only[sL];rw[a8 (λe=>hk e.symm)]⟩
end
section
variable{p:Option Addr}{l:List Int}{v:Value}
theorem JJ(L:p=none\/p=some ⟨b,0,none⟩)(S:St F W w (.blk b 269 [.pointer p,v]::tl)) :
  Fn prog (235) [pt b] w (λu w'=>u=.tuple #[]/\St F W w' (.blk b 269 [pt b,v]::tl)):=by
 have y:=S.blk (i:=0) rfl;have I:w.cell? ⟨b,0,none⟩=some (.pointer p):=by simp[World.cell?,show w.heap[b]?=_ from y]
 rcases L with rfl|rfl
 ·refine jM (by kernel_rfl) ((Any.Builder_copyCheck_fresh (ρ:=Pw) { Px with } Py.toX72 b w I (by simp[World.shape?,show w.heap[b]?=_ from y];rfl) (by simp[World.frozen?,show w.heap[b]?=_ from y])).mono λe w'⟨z,hw⟩=>⟨z,?_⟩);subst hw;refine S.set (i:=0) (F':=λg=>g=b) rfl rfl ⟨rfl,rfl,rfl,by simp[World.setCell],λk _ J=>Below.heap_setCell _ _ _ _ (λe=>J e)⟩ (λg D=>.inl D) ?_ (λg D=>.inl D);show(w.setCell _ _).heap[b]?=_;simp[World.setCell,sL,show w.heap[b]?=_ from y]
 ·exact jM (by kernel_rfl) ((Any.Builder_copyCheck_used (ρ:=Pw) { Px with } Py.toX72 b w I).mono λe w'⟨z,hw⟩=>⟨z,hw▸S⟩)
theorem AM(l m:List Int):f9 l++f9 m=f9 (l++m):=by unfold f9;rw[fq]
theorem xS{ps:String}{y:Operand}{k:IntKind}{b:Int}{B:Bool}(z:ev e x=.int k a)(D:ev e y=.int k b)(v:decide (a<=b)=B):iE P e ⟨d,.binOp .leq t x y t',ty,ps,af,none⟩ (.bool B):=by
 intro w;subst v;simp[gd,execOp,z,D,eqGuard,binOp,Op.intCmp]
theorem RX{r:Int}(hs:qk r=true)(h7:128<=r)(hl:l.length<=1099511627776)(S:St F W w (.row 5 1 A l.length c (f9 l)::tl)) :
  Fn prog 284 [.slice A l.length c,.int .i32 r] w (λv w'=>∃A' c',v=.slice A' (l++lJ r).length c'/\St F W w' (.row 5 1 A' (l++lJ r).length c' (f9 (l++lJ r))::tl)):=by
 have h2:33<=r/\r<=65532/\¬(55296<=r/\r<=57343):=by
  unfold qk E8 at hs;simp only[cM,cT,hZ,d9]at hs;omega
 have e6:r/2^6=r/64:=rfl;have e12:r/2^12=r/4096:=rfl;rcases fv (r<2048)with h3|h3
 ·have hz:lJ r=[192+r/64,128+r%64]:=by unfold lJ;rw[a8 om,a7 h3]
  rw[hz];refine zI func284 ?_;refine zg ?_;refine Y9 (n:=r) (m:=r) rfl (by rw[j3]<;>omega) ?_;refine zg ?_;refine dU (xS (B:=true) rfl rfl (fD om)) ?_;refine zg ?_;refine dU (rT (k:=6) rfl rfl (by decide) om) ?_;rw[e6];refine Y9 (n:=r/64) (m:=r/64) rfl (by rw[gD]<;>omega) ?_;refine dU (gR (op:=.or) rfl rfl rfl) ?_;rw[Wx om];refine zg ?_;refine Y9 (n:=r) (m:=r%256) rfl (by rw[gD]<;>omega) ?_;refine dU (gR (op:=.and) rfl rfl rfl) ?_;rw[CQ om,(om:r%256%64=r%64)];refine dU (gR (op:=.or) rfl rfl rfl) ?_;rw[CP om];refine yb S ?_;intro A_q w2_ g2_ S sa_q;refine ZP 1 0 S ?_;intro A_p3 c_p3 w3_ S sa_p;refine zg ?_;have S:=S.sub (.cons _ (.cons_cons _ (cQ _)));rw[show [Value.int .u8 (192+r/64),.int .u8 (128+r%64)]=f9 [192+r/64,128+r%64]from rfl,AM]at S;exact ir rfl ⟨_,_,by rw[cP];rfl,by rw[cP];exact S⟩
 ·have hz:lJ r=[224+r/4096,128+r/64%64,128+r%64]:=by unfold lJ;rw[a8 om,a8 h3]
  rw[hz];rcases fv (r<55296)with h4|h4
  ·skip;refine zI func284 ?_;refine zg ?_;refine Y9 (n:=r) (m:=r) rfl (by rw[j3]<;>omega) ?_;refine zg ?_;refine dU (xS (B:=false) rfl rfl (iO om)) ?_;refine zg ?_;refine dU (uz (B:=true) rfl rfl (fD om)) ?_;refine zg ?_;refine dU (rT (k:=12) rfl rfl (by decide) om) ?_;rw[e12];refine Y9 (n:=r/4096) (m:=r/4096) rfl (by rw[gD]<;>omega) ?_;refine dU (gR (op:=.or) rfl rfl rfl) ?_;rw[PX om];refine zg ?_;refine dU (rT (k:=6) rfl rfl (by decide) om) ?_;rw[e6];refine Y9 (n:=r/64) (m:=r/64%256) rfl (by rw[gD]<;>omega) ?_;refine dU (gR (op:=.and) rfl rfl rfl) ?_;rw[CQ om,(om:r/64%256%64=r/64%64)];refine dU (gR (op:=.or) rfl rfl rfl) ?_;rw[CP om];refine zg ?_;refine Y9 (n:=r) (m:=r%256) rfl (by rw[gD]<;>omega) ?_;refine dU (gR (op:=.and) rfl rfl rfl) ?_;rw[CQ om,(om:r%256%64=r%64)];refine dU (gR (op:=.or) rfl rfl rfl) ?_;rw[CP om];refine yb S ?_;intro A_q w2_ g2_ S sa_q;refine ZP 1 0 S ?_;intro A_p3 c_p3 w3_ S sa_p;refine zg ?_;have S:=S.sub (.cons _ (.cons_cons _ (cQ _)));rw[show [Value.int .u8 (224+r/4096),.int .u8 (128+r/64%64),.int .u8 (128+r%64)]=f9 [224+r/4096,128+r/64%64,128+r%64]from rfl,AM]at S;exact ir rfl ⟨_,_,by rw[cP];rfl,by rw[cP];exact S⟩
  ·skip;refine zI func284 ?_;refine zg ?_;refine Y9 (n:=r) (m:=r) rfl (by rw[j3]<;>omega) ?_;refine zg ?_;refine dU (xS (B:=false) rfl rfl (iO om)) ?_;refine zg ?_;refine dU (uz (B:=false) rfl rfl (iO om)) ?_;refine zg ?_;refine dU (uz (B:=true) rfl rfl (fD om)) ?_;refine zg ?_;refine dr rfl ?_;refine dU (xS (B:=true) rfl rfl (fD om)) ?_;refine zg ?_;refine dU (rT (k:=12) rfl rfl (by decide) om) ?_;rw[e12];refine Y9 (n:=r/4096) (m:=r/4096) rfl (by rw[gD]<;>omega) ?_;refine dU (gR (op:=.or) rfl rfl rfl) ?_;rw[PX om];refine zg ?_;refine dU (rT (k:=6) rfl rfl (by decide) om) ?_;rw[e6];refine Y9 (n:=r/64) (m:=r/64%256) rfl (by rw[gD]<;>omega) ?_;refine dU (gR (op:=.and) rfl rfl rfl) ?_;rw[CQ om,(om:r/64%256%64=r/64%64)];refine dU (gR (op:=.or) rfl rfl rfl) ?_;rw[CP om];refine zg ?_;refine Y9 (n:=r) (m:=r%256) rfl (by rw[gD]<;>omega) ?_;refine dU (gR (op:=.and) rfl rfl rfl) ?_;rw[CQ om,(om:r%256%64=r%64)];refine dU (gR (op:=.or) rfl rfl rfl) ?_;rw[CP om];refine yb S ?_;intro A_q w2_ g2_ S sa_q;refine ZP 1 0 S ?_;intro A_p3 c_p3 w3_ S sa_p;refine zg ?_;have S:=S.sub (.cons _ (.cons_cons _ (cQ _)));rw[show [Value.int .u8 (224+r/4096),.int .u8 (128+r/64%64),.int .u8 (128+r%64)]=f9 [224+r/4096,128+r/64%64,128+r%64]from rfl,AM]at S;exact ir rfl ⟨_,_,by rw[cP];rfl,by rw[cP];exact S⟩
theorem UB{r:Int}(y:qk r=true)(Z:l.length<=1099511627776)(S:St F W w (.row 5 1 A l.length c (f9 l)::tl)) :
  Fn prog 236 [.slice A l.length c,.int .i32 r] w (λv w'=>∃z c',v=.slice z (l++lJ r).length c'/\St F W w' (.row 5 1 z (l++lJ r).length c' (f9 (l++lJ r))::tl)):=by
 have h2:33<=r/\r<=65532:=by
  unfold qk at y;simp only[cM,cT]at y;omega
 rcases fv (r<128)with J|J
 ·have hz:lJ r=[r]:=by unfold lJ;rw[a7 J]
  rw[hz];refine zI func236 ?_;refine zg ?_;refine Y9 (n:=r) (m:=r) rfl (by rw[j3]<;>omega) ?_;refine dU (xS (B:=true) rfl rfl (fD om)) ?_;refine zg ?_;refine Y9 (n:=r) (m:=r) rfl (by rw[gD]<;>omega) ?_;refine yb S ?_;intro U ab V S O;refine ZP 1 0 S ?_;intro D I ac S L;refine zg ?_;have S:=S.sub (.cons _ (.cons_cons _ (cQ _)));rw[show [Value.int .u8 r]=f9 [r]from rfl,AM]at S;exact ir rfl ⟨_,_,by rw[cP];rfl,by rw[cP];exact S⟩
 ·skip;refine zI func236 ?_;refine zg ?_;refine Y9 (n:=r) (m:=r) rfl (by rw[j3]<;>omega) ?_;refine dU (xS (B:=false) rfl rfl (iO om)) ?_;refine zK (RX y om Z S) ?_;rintro _ aa ⟨A2,c2,rfl,S⟩;refine zX ?_;exact⟨_,_,rfl,S⟩
theorem LI{r:Int}(J:qk r=true)(I:p=none\/p=some ⟨b,0,none⟩)(z:l.length<=1099511627776)(S:St F W w (.blk b 269 [.pointer p,.slice A l.length c]::.row 5 1 A l.length c (f9 l)::tl)) :
  Fn prog (152) [pt b,.int .i32 r] w (λv w'=>(∃n:Int,v=.tuple #[ii n,.nilIface])/\∃y c',St F W w' (.blk b 269 [pt b,.slice y (l++lJ r).length c']::.row 5 1 y (l++lJ r).length c' (f9 (l++lJ r))::tl)):=by
 have D:=BO r;refine zI func152 ?_;refine zK (JJ I S) ?_;rintro _ L ⟨rfl,S⟩;refine zK (UB J z (S.pick 2 [1,0] rfl rfl rfl)) ?_;rintro _ O ⟨A2,c2,rfl,S⟩;have S:=S.pick 2 [1,0] rfl rfl rfl;refine zS ?_;intro U S;refine dU (fh rfl (by rw[cP];omega)) ?_;refine zX ?_;exact⟨⟨_,rfl⟩,_,_,S⟩
theorem RY(S:St F W w (.blk b 269 [.pointer p,.slice A n c]::tl)) :
  Fn prog (154) [pt b] w (λv w'=>v=.tuple #[]/\St F W w' (.blk b 269 [.pointer none,.slice none 0 0]::tl)):=by
 refine zI func154 ?_;iterate 3 refine z ?_
 refine iy (i:=0) S rfl (sizeOf267 _) rfl rfl rfl rfl rfl rfl ?_;intro y S;iterate 3 refine z ?_
 refine iy (i:=0) S rfl (nr _) rfl rfl rfl rfl rfl rfl ?_;intro D S;refine ze ?_;exact na ⟨rfl,S⟩
theorem N4(y:l≠[])(J:Uz l)(O:l.length<=1099511627776)(S:St F W w (.blk b 269 [.pointer p,.slice A l.length c]::.row 5 1 A l.length c (f9 l)::tl)) :
  Fn prog (153) [pt b] w (λv w'=>v=.string (Io l)/\St F W w' (.blk b 269 [.pointer p,.slice A l.length c]::tl)):=by
 obtain⟨g,D,z⟩:∃g,A=some ⟨g,0,none⟩/\c≠0:=by
  rcases (S.row (i:=1) rfl).form with⟨_,h,_⟩|⟨g,cs,h,_,U,_⟩
  ·exact absurd (gj h) y
  ·exact⟨g,h,λh=>y (gj om)⟩
 refine zI func153 ?_;refine zD [0,1,2,3,4,5,6,7,8,9] [10,11] ?_;rw[D];refine eO (Wy rfl z) ?_;rw[<-D];refine zE ?_;intro L I S;refine Wz (S.pick 2 [1,0] rfl rfl rfl) underlying367 (by kernel_rfl) rfl rfl y J om ?_;intro V S;refine zX ?_;exact⟨rfl,S⟩
end
end Go.Proofs.YtcalhocphkbbgaaGreatDoor
