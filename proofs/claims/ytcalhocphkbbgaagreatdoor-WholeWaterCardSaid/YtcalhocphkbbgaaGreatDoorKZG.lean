/- A part of the proof that hachuretop.WholeCharts and hachuretop.WholeWater returns true at every input; no condition. -/
import Derived.Test.YtcalhocphkbbgaaGreatDoorKZ
import Derived.Test.YtcalhocphkbbgaaGreatDoorKZA
set_option maxRecDepth 100000
set_option maxHeartbeats 16000000
set_option linter.unusedVariables false
set_option linter.unusedSimpArgs false
namespace Go.Proofs.YtcalhocphkbbgaaGreatDoor
open Go.Proofs.Tryz Go.RowKit
variable{Q:(Nat->Value)->World->Prop}{h h':HA}{X0 X1 Y Y0 Y1 a ax ay:Int}{M T:List HA}{hd:List Nat}{l:List Value}{N b c gh gw i j k m n p q sb:Nat}{X:Nat->Prop}{e:Nat->Value}{o:m5}{hi x:Operand}{A B g0 p0:Option Addr}{d:Option Tmp}{r':RG}{r:Rc}{s:lT}{t:TypeId}{u v1 vq:Value}{W w w' wq:World}{C:World->Prop}
section
variable{Q N:List HA}
theorem aby(i k:Nat)(hi:i<s.gw*s.gh)(y:k<s.gw*s.gh)(z:FF (kW s.gw s.V) i k)(S:St No W w (N++((s.L++Q)++T))) :
  Fn prog 9 [pt s.sb,.agg #[ii 15,ii 0,ii 0,ii 0,ii 0,ii (i%s.gw:Nat),ii (i/s.gw:Nat),ii 0,ii 0,ii 0,ii 0,.slice none 0 0,.slice none 0 0,.slice none 0 0]] w
   (λv w'=>∃A c,v=gZ.v { code:=0,ax:=(xx (kW s.gw s.V) k i%s.gw:Nat),ay:=(xx (kW s.gw s.V) k i/s.gw:Nat),cells:=⟨A,k+1,c⟩ }/\St No W w' (.row 24 2 A (k+1) c (eT ((zp (kW s.gw s.V) i k).map (cz s.gw)))::(N++((s.L++Q)++T)))) :=
 (tj (o:=⟨15,0,0,0,0,(i%s.gw:Nat),(i/s.gw:Nat),0,0,0,0,.nil,.nil,.nil⟩) rfl true (wt (by dsimp only;decide) (by dsimp only;decide)) (Vh (M:=Q) i k hi y z ⟨rfl,rfl,rfl⟩) (St.mid S)).mono λv w'⟨q,hv,S'⟩=>⟨q.1,q.2,hv,St.mid1 S'⟩
theorem abk(ax ay:Int)(y:mD s.gw s.gh (ax,ay)=false)(S:St No W w (N++((s.L++Q)++T))) :
  Fn prog 9 [pt s.sb,.agg #[ii 15,ii 0,ii 0,ii 0,ii 0,ii ax,ii ay,ii 0,ii 0,ii 0,ii 0,.slice none 0 0,.slice none 0 0,.slice none 0 0]] w
   (λv w'=>v=gZ.v { code:=4 }/\St No W w' (N++((s.L++Q)++T))) :=
 (tj (o:=⟨15,0,0,0,0,ax,ay,0,0,0,0,.nil,.nil,.nil⟩) rfl true (wt (by dsimp only;decide) (by dsimp only;decide)) (ON (M:=Q) y rfl) (St.mid S)).mono λv w'⟨_,hv,S'⟩=>⟨hv,St.mid S'⟩
theorem abz(i j:Nat)(y:s.ok)(hi:i<s.gw*s.gh)(z:j<s.gw*s.gh)(S:St No W w (N++((s.L++Q)++T))) :
  Fn prog 9 [pt s.sb,.agg #[ii 16,ii 0,ii 0,ii 0,ii 0,ii (i%s.gw:Nat),ii (i/s.gw:Nat),ii (j%s.gw:Nat),ii (j/s.gw:Nat),ii 0,ii 0,.slice none 0 0,.slice none 0 0,.slice none 0 0]] w
   (λv w'=>∃q:dV s.gw s.V i j,v=q.rep.v/\St No W w' (q.row::(N++((s.L++Q)++T)))) :=
 (tj (o:=⟨16,0,0,0,0,(i%s.gw:Nat),(i/s.gw:Nat),(j%s.gw:Nat),(j/s.gw:Nat),0,0,.nil,.nil,.nil⟩) rfl true (wt (by dsimp only;decide) (by dsimp only;decide)) (SG (M:=Q) i j y hi z ⟨rfl,rfl,rfl,rfl,rfl⟩) (St.mid S)).mono λv w'⟨q,hv,S'⟩=>⟨q,hv,St.mid1 S'⟩
end
theorem abp(V:List Int):∀(l:List Nat)(i:Nat),V.getD (yh V i l) 0<=V.getD i 0/\∀n∈l,V.getD (yh V i l) 0<=V.getD n 0
 |[],i=>⟨ij _,λ_ h=>nomatch h⟩
 |n::l,i=>by
  have h1:=abp V l (if V.getD n 0<V.getD i 0 then n else i)
  have h2:V.getD (if V.getD n 0<V.getD i 0 then n else i) 0<=V.getD i 0/\V.getD (if V.getD n 0<V.getD i 0 then n else i) 0<=V.getD n 0:=by split<;>omega
  have e:yh V i (n::l)=yh V (if V.getD n 0<V.getD i 0 then n else i) l:=rfl;rw[e];refine⟨by have:=h1.1;omega,λm v=>?_⟩;rcases dy.1 v with rfl|v
  ·have:=h1.1;omega
  ·exact h1.2 m v
theorem abA(v:0<gw)(h:qx gw i j):(j/gw=i/gw/\(j%gw+1=i%gw\/i%gw+1=j%gw))\/(j%gw=i%gw/\(j/gw+1=i/gw\/i/gw+1=j/gw)):=by
 have y:∀n,0<(n+1)%gw->(n+1)%gw=n%gw+1/\(n+1)/gw=n/gw:=λn h=>by
  have e:=Qz (i:=n) v
  have h1:(n+1)%gw=n%gw+1:=by
   rw[e]at h ⊢;split at h
   ·omega
   ·rename_i h2;rw[a8 h2]
  have a:=dP n gw;have b:=dP (n+1) gw;rw[h1]at b;exact⟨h1,Nat.eq_of_mul_eq_mul_left v om⟩
 rcases h with⟨rfl,h⟩|⟨rfl,h⟩|rfl|rfl
 ·have:=y j h;omega
 ·have:=y i h;omega
 ·rw[Nat.add_mod_right,Nat.add_div_right _ v];omega
 ·rw[Nat.add_mod_right,Nat.add_div_right _ v];omega
section
variable{a:Nat}{V:List Int}{d:Nat->Int}
theorem Sp(v:0<gw)(z:V.length=gw*gh)(hi:i<gw*gh)(h:kW gw V i≠i):qx gw i (kW gw V i)/\V.getD (kW gw V i) 0<V.getD i 0:=by
 rcases FD V (qg gw V.length i) i with h1|⟨h1,h2⟩
 ·exact absurd h1 h
 ·rw[z]at h1;have y:=(tC v hi).1 h1;rw[<-z]at y;exact⟨y.2,h2⟩
theorem abu(v:0<gw)(y:V.length=gw*gh)(hi:i<gw*gh)(z:j<gw*gh)(D:qx gw i j):V.getD (kW gw V i) 0<=V.getD j 0 :=
 (abp V _ i).2 j (by rw[y];exact(tC v hi).2 ⟨z,D⟩)
theorem abG(v:0<gw)(z:V.length=gw*gh)(hd:lZ gw V b d)(Z:a<gw*gh)(D:FF (kW gw V) a k)(hb:xx (kW gw V) k a=b):d a<=k+V.getD a 0-V.getD b 0:=by
 have y:=(FG v z).itr_lt Z
 have I:∀m,m<=k->d (xx (kW gw V) (k-m) a)<=m+V.getD (xx (kW gw V) (k-m) a) 0-V.getD b 0:=by
  intro m;induction m with
  |zero=>intro _;rw[Nat.sub_zero,hb,hd.zero];omega
  |succ m ih =>
   intro hm;have h1:=ih om;have h2:=D.1 (k-(m+1)) om;rw[(om:k-(m+1)+1=k-m)]at h2
   have O:xx (kW gw V) (k-m) a=kW gw V (xx (kW gw V) (k-(m+1)) a):=by
    rw[(om:k-m=k-(m+1)+1)];rfl
   have J:=y (k-(m+1));have L:=y (k-m);rw[O]at h1 h2 L;generalize xx (kW gw V) (k-(m+1)) a=x at *;obtain⟨S,h5⟩:=Sp v z J h2;have U:=hd.le (kW gw V x) x (by rw[z];exact L) (by rw[z];exact J) S.symm;unfold st at U;omega
 have:=I k (fK _);rw[j8]at this;exact this
end
section
variable{V:List Int}{t u:Int}{r:Nat->Nat}
theorem I2.adj(h:I2 gw V t r)(a:Km gw V t i j):r i=r j:=by
 obtain⟨hi,z,v,y,s⟩:=a;rcases s with⟨e,p⟩|⟨e,p⟩|e|e
 ·have:=h.left i hi v p (by rw[(om:i-1=j)];exact y);rwa[(om:i-1=j)]at this
 ·have:=h.left j z y p (by rw[(om:j-1=i)];exact v);rw[(om:j-1=i)]at this;exact this.symm
 ·have:=h.up i hi v om (by rw[(om:i-gw=j)];exact y);rwa[(om:i-gw=j)]at this
 ·have:=h.up j z y om (by rw[(om:j-gw=i)];exact v);rw[(om:j-gw=i)]at this;exact this.symm
theorem I2.same(h:I2 gw V t r)(c:uL gw V t i j):r i=r j:=by
 induction c with
 |refl=>rfl
 |step a _ ih=>exact(h.adj a).trans ih
theorem I2.uniq{r':Nat->Nat}(h:I2 gw V t r)(h':I2 gw V t r')(hi:i<V.length):r i=r' i:=by
 have h1:=h'.same (h.conn i hi);have h2:=h.same (h'.conn i hi);have v:=h'.le (r i) (by have:=h.le i hi;omega);have y:=h.le (r' i) (by have:=h'.le i hi;omega);omega
theorem I2.isRoot (h : I2 gw V t r) {i : Nat} (hi : i < V.length) (hv : t ≤ V.getD i 0) : rh V t r (r i) = true := by
  unfold rh
  simp only [cM, cT]
  exact ⟨(h.conn i hi).ge hv, h.idem i hi⟩
theorem abl(z:0<gw)(S:k<gw*gh){c:Int×Int}(D:c∈NW gw gh (k%gw:Nat) (k/gw:Nat)):mD gw gh c=true/\qx gw k (c.2.toNat * gw+c.1.toNat):=by
 unfold NW at D;obtain⟨h1,h2⟩:=sS.1 D;refine⟨h2,?_⟩;have v:=jT.1 h2;have U:k%gw<gw:=dt _ z;have J:k/gw*gw+k%gw=k:=by rw[cD];exact dP _ _
 unfold sq at h1;generalize I:k%gw=X at *;generalize O:k/gw=Y at *;simp only[dy,gM,lr]at h1;unfold qx;rw[I];rcases h1 with rfl|rfl|rfl|rfl
 ·dsimp only at v ⊢;have e:((Y:Int)-1).toNat=Y-1:=om;have y:1<=Y:=om;rw[e,b7,Nat.sub_mul,kR];have:gw<=Y*gw:=Nat.le_mul_of_pos_left _ y;omega
 ·dsimp only at v ⊢;rw[b7];omega
 ·dsimp only at v ⊢;rw[b7];have e:Y*gw+((X:Int)+1).toNat=k+1:=om
  have L:(k+1)%gw=X+1:=by
   rw[<-e,(om:((X:Int)+1).toNat=X+1),j9,dT om]
  rw[e];exact .inr (.inl ⟨rfl,om⟩)
 ·dsimp only at v ⊢;have e:((Y:Int)+1).toNat=Y+1:=om;rw[e,b7,cX];omega
end
structure abM(gw gh:Nat)(V:List Int)(i k:Nat)(z:Nat->Nat)(L:List (Int×Int)):Prop where
 z0:z 0=i
 lt:∀j,z j<gw*gh
 len:L.length=k+1
 at_:∀j,j<=k->L[j]?=some (((z j%gw:Nat):Int),((z j/gw:Nat):Int))
 step:∀p,p+1<=k->qx gw (z p) (z (p+1))/\V.getD (z (p+1)) 0<V.getD (z p) 0
 low:∀j,j<gw*gh->qx gw (z k) j->V.getD (z k) 0<=V.getD j 0
 cost:∀d,lZ gw V (z k) d->d i<=k+V.getD i 0-V.getD (z k) 0
theorem abB{V:List Int}(v:0<gw)(z:V.length=gw*gh)(hi:i<gw*gh)(y:FF (kW gw V) i k):abM gw gh V i k (λj=>xx (kW gw V) j i) ((zp (kW gw V) i k).map (cz gw)) where
 z0:=rfl
 lt:=(FG v z).itr_lt hi;len:=by rw[eP,abs]
 at_:=λj D=>by rw[da,QB om];rfl
 step:=λp J=>by
  have h:=y.1 p om;exact Sp v z ((FG v z).itr_lt hi p) h
 low:=λj D I=>by
  have h:=abu v z ((FG v z).itr_lt hi k) D I;have h2:kW gw V (xx (kW gw V) k i)=xx (kW gw V) k i:=y.2;rwa[h2]at h
 cost:=λd hd=>abG v z hd hi y rfl
theorem SZ(os:List m5)(ax ay:Int)(hG:GL W)(hT:jX W)(ao:∀o∈os,wV W o)(hA:Rd W A (G0 os)) :
  Fn prog 3 [.slice A os.length c,.agg #[ii ax,ii ay]] W (dp (.bool true) W):=by
 have S:=St.start W;refine zI func3 ?_;refine zN ?_;intro ac cw cg S;refine zC (SX (hG.gr S.out)) ?_;intro cA ch S;refine zK (XL os (λo ho=>(ao o ho).gr S.out) (hA.gr S.out)) ?_;rintro _ cC ⟨b,rfl,ba,hb⟩;have S:=S.gr ba;refine zB ?_ ?_
 ·intro hf;exact zZ
 ·intro hf;obtain⟨aL,bg⟩:=hb (by simpa using hf);refine zK (Xz os aL (hT.gr S.out) (λo ho=>((ao o ho).gr S.out).ok (bg o ho)) (hA.gr S.out)) ?_;rintro _ cD ⟨sb,rfl,hS⟩;replace hS:=xV.baseL S hS;refine zg ?_;rcases hS with⟨p0,S⟩|⟨s,Q,bk,aG,S⟩
  ·skip;refine zK (OQ S) ?_;rintro _ cE ⟨rfl,S⟩;refine zN ?_;intro ad cF ci S;refine zS ?_;intro cG S;refine zC (SK (o:=⟨15,0,0,0,0,ax,ay,0,0,0,0,.nil,.nil,.nil⟩) ⟨by dsimp only;decide,by dsimp only;decide,by dsimp only;decide⟩ (St.swap S)) ?_;intro bG bp S;refine zN ?_;intro ab bH bq S;refine zS ?_;intro bI S;refine zC (Me (S.blk (i:=2) rfl)) ?_;intro bJ br S;exact zZ
  ·subst bk;have hw:=(S.grid (i:=1) rfl).sw;have hh:=(S.grid (i:=1) rfl).sh;have aN:=aG.ok;have ae:s.V.length=s.gw*s.gh:=qf _ _ _;have hm:s.gw*s.gh<=1024*1024:=fy hw.2 hh.2;replace S:St No W _ ([.blk ac 24 [ii ax,ii ay]]++((s.L++Q)++[])):=St.mid (C:=[]) S;refine zK (Vn aG (St.mid (A:=[_]) S)) ?_;rintro _ bK ⟨I,J,rfl,S⟩;replace S:=St.mid1 (B:=[_]) (C:=[]) S;refine zN ?_;intro ad bL bt S;refine zS ?_;intro bM S;cases av:mD s.gw s.gh (ax,ay)
   ·have aH:=λ(w:World)(I:Option Addr)(J:Nat)(x y:Int)(h:Rd w I (cY s.V))=>abd (W:=w) (c:=J) x y ae hm h;have bb:LS s.gw s.gh ax ay=4:=by unfold LS;rw[av];rfl
    unfold aaC at aH;refine zK (abk (N:=[_,_,_]) (T:=[]) ax ay av S) ?_;rintro _ bN ⟨rfl,S⟩;refine zN ?_;intro ab bO bu S;refine zS ?_;intro bP S;dsimp only[gZ.cs,Sv.v,Sv.nil]at S;refine zC (aH _ _ _ ax ay (S.rd (i:=2) rfl)) ?_;intro bQ bv S;rw[bb];exact zZ
   ·obtain⟨i,hi,rfl,rfl⟩:=JU av;obtain⟨k,aP,aK⟩:=(FG (V:=s.V) hw.1 ae).stop hi;have D:=abB hw.1 ae hi aP;have ah:=λ(j:Nat)(hj:j<s.gw*s.gh)(w:World)(I:Option Addr)(J:Nat)(h:Rd w I (cY s.V))=>abE (W:=w) (c:=J) hj ae hm h;have am:=λ{N T:List HA}{w:World}(S:St No W w (N++((s.L++Q)++T)))=>aby i k hi aK aP S;have aC:=λ(j:Nat)(hj:j<s.gw*s.gh){N T:List HA}{w:World}(S:St No W w (N++((s.L++Q)++T)))=>abz i j aN hi hj S;generalize cj:(zp (kW s.gw s.V) i k).map (cz s.gw)=L at *;generalize bl:(λj=>xx (kW s.gw s.V) j i)=z at *;have bm:xx (kW s.gw s.V) k i=z k:=by rw[<-bl]
    rw[bm]at am;have aS:=D.z0;have hB:=aN.hB;have cn:k<1048576:=fg aK hm;have ck:=D.len;have aa:∀j,j<=k->((eT L).drop (((j:Nat):Int).toNat * 2)).take 2=[ii (z j%s.gw:Nat),ii (z j/s.gw:Nat)]:=λj hj=>by rw[b7];exact mS (D.at_ j hj)
    have ak:∀j,j<=k->(eT L)[((j:Nat):Int).toNat * 2+0]?=some (ii (z j%s.gw:Nat)):=λj hj=>by rw[b7];exact Qv (D.at_ j hj)
    have al:∀j,j<=k->(eT L)[((j:Nat):Int).toNat * 2+1]?=some (ii (z j/s.gw:Nat)):=λj hj=>by rw[b7];exact Qw (D.at_ j hj)
    have bf:((k+1:Nat):Int)-1=((k:Nat):Int):=om;have au:=aa 0 (ib _);have aJ:=aa k (fK _);rw[aS]at au;refine zK (am (N:=[_,_,_]) (T:=[]) S) ?_;rintro _ bR ⟨O,Z,rfl,S⟩;refine zN ?_;intro ab bS bw S;refine zS ?_;intro bT S;dsimp only[gZ.cs,Sv.v,Sv.nil]at S;have U:dO O:=(S.row (i:=1) rfl).someA om;refine zD [0,1,2,3,4,5,6,7,8,9,10,11,12,13,14,15,16,17,18,19,20,21,22,23,24] [] ?_;try (refine fO rfl ?_;refine fo (λwq v=>fb xa rfl (jy _) rfl ((S.gr v).rd (i:=1) rfl) au rfl rfl) ?_)
    refine zQ ?_;refine fO rfl ?_;refine eO (Qg (r:=false) rfl rfl (by rw[fD ⟨rfl,rfl⟩];rfl)) ?_;refine zQ ?_;rw[bf];refine zQ ?_;try (refine fO rfl ?_;refine fo (λwq v=>fb xa rfl (jy _) rfl ((S.gr v).rd (i:=1) rfl) aJ rfl rfl) ?_)
    refine zQ ?_;refine fO rfl ?_;refine eO (Qg (r:=false) rfl rfl (by rw[fD ⟨rfl,rfl⟩];rfl)) ?_;refine eO (jx rfl) ?_;refine vZ ?_;intro bU aE;have S:=S.gr aE;first|refine eF ?_|(refine di ?_;show CW _ _ _ _ _ _)|refine di ?_
    repeat refine dm ?_
    refine eX rfl ?_;repeat refine dm ?_
    refine gO ?_;try show CW _ _ _ _ _ _
    repeat refine dm ?_
    refine dz ?_;refine dU (jx rfl) ?_;first|refine eF ?_|(refine di ?_;show CW _ _ _ _ _ _)|refine di ?_
    repeat refine dm ?_
    refine dz ?_;refine dU (jx rfl) ?_;first|refine eF ?_|(refine di ?_;show CW _ _ _ _ _ _)|refine di ?_
    have aj:∀j,-2147483648<=s.V.getD (z j) 0/\s.V.getD (z j) 0<=2147483647:=λj=>hB _;repeat refine dm ?_
    refine gP (M:=λe w=>SL e [(3,pt ac),(5,pt s.sb),(6,pt ad),(8,pt ab),(11,ii (k+s.V.getD i 0-s.V.getD (z k) 0))]/\St No W w (.blk ab 40 [ii 0,ii 0,.bool false,ii (z k%s.gw:Nat),ii (z k/s.gw:Nat),.slice O (k+1) Z,.slice none 0 0,.slice none 0 0,.slice none 0 0,.slice none 0 0]::.row 24 2 O (k+1) Z (eT L)::.blk ad 31 [ii s.gw,ii s.gh,.slice I (s.gw*s.gh) J]::.row 2 1 I (s.gw*s.gh) J (cY s.V)::.blk ac 24 [ii (i%s.gw:Nat),ii (i/s.gw:Nat)]::((s.L++Q)++[]))) ?_ ?_
    ·skip;refine zg ?_
     refine dl (λmm e w=>∃p:Nat,p+mm=k/\SL e [(3,pt ac),(5,pt s.sb),(6,pt ad),(8,pt ab),(11,ii (p+s.V.getD i 0-s.V.getD (z p) 0)),(12,ii (p+1:Nat))]/\St No W w (.blk ab 40 [ii 0,ii 0,.bool false,ii (z k%s.gw:Nat),ii (z k/s.gw:Nat),.slice O (k+1) Z,.slice none 0 0,.slice none 0 0,.slice none 0 0,.slice none 0 0]::.row 24 2 O (k+1) Z (eT L)::.blk ad 31 [ii s.gw,ii s.gh,.slice I (s.gw*s.gh) J]::.row 2 1 I (s.gw*s.gh) J (cY s.V)::.blk ac 24 [ii (i%s.gw:Nat),ii (i/s.gw:Nat)]::((s.L++Q)++[]))) k
      ⟨0,om,⟨rfl,rfl,rfl,rfl,ie (by rw[aS];omega),rfl,trivial⟩,S⟩ ?_
     clear S;rintro mm e w ⟨p,hp,ai,S⟩;rw[ai.fold];rcases fv (p<k)with bj|bj
     ·obtain⟨aO,cq⟩:=D.step p om;have cr:=abA hw.1 aO;have aA:((p+1:Nat):Int)-1=((p:Nat):Int):=om;have U:dO O:=(S.row (i:=1) rfl).someA om;have aY:=ak (p+1) om;have aW:=ak p om;have aZ:=al (p+1) om;have aX:=al p om;have g1:=aa (p+1) om;have g0:=aa p om;have m1:=ah (z (p+1)) (D.lt _);have m0:=ah (z p) (D.lt _);have ct:=aj (p+1);have cs:=aj p;have bn:=hB i;have cH:=dt (z p) hw.1;have cI:=dt (z (p+1)) hw.1;have cL:z p/s.gw<s.gh:=cS (D.lt _);have cM:z (p+1)/s.gw<s.gh:=cS (D.lt _);clear ak al aa ah aj am aC aO;generalize z p%s.gw=X0 at *;generalize z (p+1)%s.gw=X1 at *;generalize z p/s.gw=Y0 at *;generalize z (p+1)/s.gw=Y1 at *;generalize s.V.getD (z p) 0=v0 at *;generalize aQ:s.V.getD (z (p+1)) 0=v1 at *;have hd:((X1:Int)-X0=1/\(Y1:Int)-Y0=0)\/((X1:Int)-X0=-1/\(Y1:Int)-Y0=0)\/((X1:Int)-X0=0/\(Y1:Int)-Y0=1)\/((X1:Int)-X0=0/\(Y1:Int)-Y0=-1):=om;rcases hd with⟨d1,d2⟩|⟨d1,d2⟩|⟨d1,d2⟩|⟨d1,d2⟩
      all_goals
       repeat refine dm ?_
       refine dz ?_;refine dU (jx rfl) ?_;refine dU (du jw rfl sV rfl rfl) ?_;refine dH (cV ki rfl rfl (S.blk (i:=0) rfl) rfl) ?_;refine dU (p6 ki rfl) ?_;refine dU (ff (b:=true) rfl (fD om)) ?_;first|refine eF ?_|(refine di ?_;show CW _ _ _ _ _ _)|refine di ?_
       repeat refine dm ?_
       refine jr rfl ?_;repeat refine dm ?_
       refine gO ?_;try show CW _ _ _ _ _ _
       repeat refine dm ?_
       refine k0 ?_;repeat refine dm ?_
       refine pF (C:=λwq=>Gr w wq) [0,1,2,3,4,5,6,7,8,9,10,11,12,13,14,15,16,17,18,19,20,21,22,23,24,25,26,27,28,29] [] (by kernel_rfl) (by kernel_rfl) (Gr.drew _) ?_;simp only[iS,dK,dR];refine eO (du jw rfl sV rfl rfl) ?_;refine fo (λwq v=>cV ki rfl rfl ((S.gr v).blk (i:=0) rfl) rfl) ?_;refine eO (jx rfl) ?_;refine eO (sj ki jy rfl rfl U om om) ?_;refine eO (Pb xa rfl cR rfl rfl U) ?_;refine zO (λwq v=>((S.gr v).rd (i:=1) rfl)) aY ?_;refine y ?_;refine fo (λwq v=>cV ki rfl rfl ((S.gr v).blk (i:=0) rfl) rfl) ?_;refine y ?_;refine yr ?_;rw[aA];refine zO (λwq v=>((S.gr v).rd (i:=1) rfl)) aW ?_;refine yr ?_;rw[d1];refine eO (du jw rfl sV rfl rfl) ?_;refine fo (λwq v=>cV ki rfl rfl ((S.gr v).blk (i:=0) rfl) rfl) ?_;refine eO (jx rfl) ?_;refine eO (sj ki jy rfl rfl U om om) ?_;refine eO (Pb xa rfl cR rfl rfl U) ?_;refine fo (λwq v=>eI iY rfl rfl ((S.gr v).rd (i:=1) rfl) aZ) ?_;refine y ?_;refine fo (λwq v=>cV ki rfl rfl ((S.gr v).blk (i:=0) rfl) rfl) ?_;refine y ?_;refine yr ?_;rw[aA];refine zO (λwq v=>((S.gr v).rd (i:=1) rfl)) aX ?_;refine zQ ?_;rw[d2];refine zE ?_;intro aU bz S;refine zc ?_;refine pF (C:=λwq=>Gr aU wq) [0,1,2,3,4,5,6,7,8,9,10,11,12] [] (by kernel_rfl) (by kernel_rfl) (Gr.drew _) ?_;simp only[iS,dK,dR];refine fo (λwq v=>fx sd rfl (Zm _) rfl ((S.gr v).blk (i:=2) rfl) rfl rfl) ?_;refine y ?_;refine fo (λwq v=>cV ki rfl rfl ((S.gr v).blk (i:=0) rfl) rfl) ?_;refine y ?_;refine yr ?_;rw[aA];refine zQ ?_;refine fo (λwq v=>fb xa rfl (jy _) rfl ((S.gr v).rd (i:=1) rfl) g0 rfl rfl) ?_;refine zP (λwq v=>m0 wq _ _ (St.rd (S.gr v) (i:=3) rfl)) ?_;refine zE ?_;intro aV bA S;refine zc ?_;refine pF (C:=λwq=>Gr aV wq) [0,1,2,3,4,5,6,7,8,9,10,11] [] (by kernel_rfl) (by kernel_rfl) (Gr.drew _) ?_;simp only[iS,dK,dR];refine fo (λwq v=>fx sd rfl (Zm _) rfl ((S.gr v).blk (i:=2) rfl) rfl rfl) ?_;refine y ?_;refine fo (λwq v=>cV ki rfl rfl ((S.gr v).blk (i:=0) rfl) rfl) ?_;refine y ?_;refine yx ?_;refine fo (λwq v=>fb xa rfl (jy _) rfl ((S.gr v).rd (i:=1) rfl) g1 rfl rfl) ?_;refine zP (λwq v=>m1 wq _ _ (St.rd (S.gr v) (i:=3) rfl)) ?_;refine zE ?_;intro bV bB S;exact⟨mm-1,om,p+1,om,⟨rfl,rfl,rfl,rfl,ie (by rw[aQ];omega),ie om,trivial⟩,S⟩
     ·obtain rfl:p=k:=om;repeat refine dm ?_
      refine dz ?_;refine dU (jx rfl) ?_;refine dU (du jw rfl sV rfl rfl) ?_;refine dH (cV ki rfl rfl (S.blk (i:=0) rfl) rfl) ?_;refine dU (p6 ki rfl) ?_;refine dU (ff (b:=false) rfl (iO om)) ?_;first|refine eF ?_|(refine di ?_;show CW _ _ _ _ _ _)|refine di ?_
      repeat refine dm ?_
      refine eX rfl ?_;repeat refine dm ?_
      refine pD ?_;repeat first|refine nC ?_|refine pE ?_
      exact⟨sl,S⟩
    ·rintro e w3 ⟨ai,S⟩;rw[ai.fold];have mk:=ah (z k) (D.lt k);have cJ:=dt (z k) hw.1;have cN:z k/s.gw<s.gh:=cS (D.lt k);have aR:∀n:Nat,n<=1048576->(-1<=(n:Int)/\(n:Int)<=1048576):=λn h=>by omega
     have az:=λ(w:World)(I:Option Addr)(J:Nat)(h:Rd w I (cY s.V))=>abv (W:=w) (cap:=J) (z k%s.gw:Nat) (z k/s.gw:Nat) (aR _ om) (aR _ om) ae hm h;have bi:∀d∈NW s.gw s.gh (z k%s.gw:Nat) (z k/s.gw:Nat),mD s.gw s.gh d=true/\qx s.gw (z k) (d.2.toNat * s.gw+d.1.toNat):=λd hd=>abl hw.1 (D.lt k) hd;have aw:=λ(d:Int×Int)(hd:mD s.gw s.gh d=true)(w:World)(I:Option Addr)(J:Nat)(h:Rd w I (cY s.V))=>abe (W:=w) (cap:=J) d.1 d.2 hd ae hm h;have cl:(NW s.gw s.gh (z k%s.gw:Nat) (z k/s.gw:Nat)).length<=4:=nY _ _;have aT:=λ{N T:List HA}{w:World}(S:St No W w (N++((s.L++Q)++T)))=>aC (z k) (D.lt k) S;have aq:=D.cost;have aM:=D.low;have bn:=hB i;have cv:=aj k;rw[ae]at az aw;unfold aaC at az aw;clear ak al aa ah aj am aC au aJ;generalize NW s.gw s.gh (z k%s.gw:Nat) (z k/s.gw:Nat)=NZ at *;refine zC (mk w3 _ _ (St.rd S (i:=3) rfl)) ?_;intro bW bC S;refine zK (az _ _ _ (St.rd S (i:=3) rfl)) ?_;rintro _ bX ⟨ag,an,rfl,ap,ar,aF⟩;have S:=S.pushRow ap ar aF;refine zg ?_
     refine dl (λmm e w=>∃q:Nat,q+mm=NZ.length/\SL e [(3,pt ac),(5,pt s.sb),(6,pt ad),(8,pt ab),(11,ii (k+s.V.getD i 0-s.V.getD (z k) 0)),(19,ii (s.V.getD (z k) 0)),(21,.slice ag NZ.length an),(22,ii q)]/\St No W w (.row 24 2 ag NZ.length an (eT NZ)::(.blk ab 40 [ii 0,ii 0,.bool false,ii (z k%s.gw:Nat),ii (z k/s.gw:Nat),.slice O (k+1) Z,.slice none 0 0,.slice none 0 0,.slice none 0 0,.slice none 0 0]::.row 24 2 O (k+1) Z (eT L)::.blk ad 31 [ii s.gw,ii s.gh,.slice I (s.gw*s.gh) J]::.row 2 1 I (s.gw*s.gh) J (cY s.V)::.blk ac 24 [ii (i%s.gw:Nat),ii (i/s.gw:Nat)]::((s.L++Q)++[])))) NZ.length
      ⟨0,om,sl,S⟩ ?_
     clear S;rintro mm e w ⟨q,v,ai,S⟩;rw[ai.fold];rcases fv (q<NZ.length)with aB|aB
     ·have aD:dO ag:=(S.row (i:=0) rfl).someA om;obtain⟨aI,bc⟩:=bi _ (fY aB);have be:((eT NZ).drop (((q:Nat):Int).toNat * 2)).take 2=[ii NZ[q].1,ii NZ[q].2]:=by rw[b7];exact mS (fw aB)
      have bh:=aw _ aI;have cm:=jT.1 aI;generalize NZ[q]=d at *
      have co:=aM (d.2.toNat * s.gw+d.1.toNat) (by
       obtain⟨h1,h2,h3,h4⟩:=aa1 (gw:=s.gw) (gh:=s.gh) (x:=d.1) (y:=d.2) om om;exact h4) bc
      generalize s.V.getD (d.2.toNat * s.gw+d.1.toNat) 0=vq at *;repeat refine dm ?_
      refine dz ?_;iterate 2 refine dU (jx rfl) ?_
      refine dU (p6 ki rfl) ?_;refine dU (ff (b:=true) rfl (fD om)) ?_;first|refine eF ?_|(refine di ?_;show CW _ _ _ _ _ _)|refine di ?_
      repeat refine dm ?_
      refine jr rfl ?_;repeat refine dm ?_
      refine gO ?_;try show CW _ _ _ _ _ _
      repeat refine dm ?_
      refine k0 ?_;repeat refine dm ?_
      refine pF (C:=λwq=>Gr w wq) [0,1,2,3,4,5,6,7,8,9,10] [] (by kernel_rfl) (by kernel_rfl) (Gr.drew _) ?_;simp only[iS,dK,dR];refine fo (λwq v=>fx sd rfl (Zm _) rfl ((S.gr v).blk (i:=3) rfl) rfl rfl) ?_;iterate 2 refine eO (jx rfl) ?_
      refine eO (sj ki jy rfl rfl aD om om) ?_;refine fo (λwq v=>fb xa rfl (jy _) rfl ((S.gr v).rd (i:=0) rfl) be rfl rfl) ?_;refine zP (λwq v=>bh wq _ _ (St.rd (S.gr v) (i:=4) rfl)) ?_;refine zE ?_;intro bY bD S;exact⟨mm-1,om,q+1,om,sl,S⟩
     ·skip;repeat refine dm ?_
      refine dz ?_;iterate 2 refine dU (jx rfl) ?_
      refine dU (p6 ki rfl) ?_;refine dU (ff (b:=false) rfl (iO om)) ?_;first|refine eF ?_|(refine di ?_;show CW _ _ _ _ _ _)|refine di ?_
      repeat refine dm ?_
      refine eX rfl ?_;repeat refine dm ?_
      refine pD ?_;repeat first|refine nC ?_|refine pE ?_
      show CW _ _ _ _ _ _;repeat refine dm ?_
      refine dz ?_;refine dU (jx rfl) ?_;refine dH (fx xa rfl (jy _) rfl (S.blk (i:=5) rfl) rfl rfl) ?_;refine dU (du jw rfl jy rfl rfl) ?_;refine dH (fx xa rfl (jy _) rfl (S.blk (i:=1) rfl) rfl rfl) ?_;refine dU (kL (pl:=[(0,1),(1,4),(5,2),(7,2),(9,1),(10,1),(11,1),(12,1),(13,1)]) eE zeroValue46 (λw=>by kernel_rfl) rfl rfl) ?_;refine eY rfl (aT (N:=[_,_,_,_,_,_]) (T:=[]) S) ?_;rintro _ bZ ⟨qr,rfl,S⟩;refine zN ?_;intro bo ca bE S;refine d8 (i:=0) S rfl (sizeOf40 _) rfl rfl rfl rfl rfl rfl ?_;intro ce S;refine ze ?_;have cp:=aq qr.d qr.hd;have bF:=qr.hn;dsimp only[dV.rep,gZ.cs,Sv.v,Sv.nil]at S;generalize qr.n=nn at *;repeat refine dm ?_
      refine dz ?_;refine dU (du jw rfl sizeOf34 rfl rfl) ?_;refine dH (cV underlying34 rfl rfl (S.blk (i:=0) rfl) rfl) ?_;refine dU (ff (b:=true) rfl (fX.2 om)) ?_;refine dU (jx rfl) ?_;first|refine eD rfl ?_|(refine dr rfl ?_;refine dU (du jw rfl cR rfl rfl) ?_)
      first|refine eD rfl ?_|(refine dr rfl ?_;refine dH (cV iY rfl rfl (S.blk (i:=0) rfl) rfl) ?_)
      first|refine eD rfl ?_|(refine dr rfl ?_;refine dU (jx rfl) ?_)
      first|refine eD rfl ?_|(refine dr rfl ?_;refine dU (ff (b:=true) rfl (fD om)) ?_)
      iterate 2 refine dU (jx rfl) ?_
      first|refine eF ?_|(refine di ?_;show CW _ _ _ _ _ _)|refine di ?_
      repeat refine dm ?_
      refine mJ ?_;repeat first|refine mL ?_|refine oq ?_
      exact ir rfl ⟨rfl,S.out⟩
end Go.Proofs.YtcalhocphkbbgaaGreatDoor
