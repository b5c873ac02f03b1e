/- hachuretop.WholeLevels: a part of the proof that the law returns true at every input; no condition of its own. -/
import Derived.Test.YtjfeklflkikapaaGreatDoorKI
import Derived.Test.YtjfeklflkikapaaGreatDoorKH
set_option maxRecDepth 100000
set_option maxHeartbeats 16000000
set_option linter.unusedVariables false
set_option linter.unusedSimpArgs false
namespace Go.Proofs.YtjfeklflkikapaaGreatDoor
open Go.Proofs.Tryz Go.RowKit
variable{Q:(Nat->Value)->World->Prop}{af:Array Edge}{f:FuncId}{h h':HA}{Y a a':Int}{M:List HA}{hd ks:List Nat}{l l':List Value}{b c c1 c2 g gh gw i j k m n p p2 pb q x0 x1 y0 y1:Nat}{cc:Nat->Int}{bs:Nat->Nat}{Rs:Nat->Option Nat}{e:Nat->Value}{hi lo x:Operand}{A A1 A2 B:Option Addr}{d:Option Tmp}{P:Program}{r':RG}{α β:Type}{t t' ty:TypeId}{u:Value}{R:Value->World->Prop}{W w w' wq:World}
structure RV where
 x0:Int
 y0:Int
 x1:Int
 y1:Int
 deriving DecidableEq
def RV.cells(r:RV):List Value:=[ii r.x0,ii r.y0,ii r.x1,ii r.y1]
def wK(a b:RV):RV:=⟨min a.x0 b.x0,min a.y0 b.y0,max a.x1 b.x1,max a.y1 b.y1⟩
def wL(gw i:Nat):RV:=⟨(i%gw:Nat),(i/gw:Nat),(i%gw:Nat),(i/gw:Nat)⟩
structure PV where
 lab:Int
 area:Int
 x:Int
 y:Int
 box:RV
 deriving DecidableEq
def PV.cells(p:PV):List Value:=[ii p.lab,ii p.area,ii p.x,ii p.y,ii p.box.x0,ii p.box.y0,ii p.box.x1,ii p.box.y1]
def ko(l:List PV):List Value:=l.flatMap PV.cells
theorem za(l:List PV):(ko l).length=l.length*8:=lF (f:=PV.cells) (λ_=>rfl) l
def RV.right(r:RV):Prop:=0<=r.x0/\r.x0<=r.x1/\r.x1<1024/\0<=r.y0/\r.y0<=r.y1/\r.y1<1024
theorem I1{a b:RV}(v:a.right)(y:b.right):(wK a b).right:=by
 unfold RV.right wK at*;dsimp only;omega
theorem yd(y:1<=gw/\gw<=1024)(v:gh<=1024)(hi:i<gw*gh):(wL gw i).right:=by
 have h1:i%gw<gw:=dt _ om;have h2:i/gw<gh:=cS hi;unfold RV.right wL;dsimp only;generalize i%gw=p at *;generalize i/gw=q at *;omega
theorem VN(a b:RV)(ha:a.right)(hb:b.right)(W:World):Fn prog 116 [.agg #[ii a.x0,ii a.y0,ii a.x1,ii a.y1],.agg #[ii b.x0,ii b.y0,ii b.x1,ii b.y1]] W
  (dp (.agg #[ii (wK a b).x0,ii (wK a b).y0,ii (wK a b).x1,ii (wK a b).y1]) W):=by
 have v:nb a.x0 a.y0 a.x1 a.y1=true:=(lO _ _ _ _).2 ha;have y:nb b.x0 b.y0 b.x1 b.y1=true:=(lO _ _ _ _).2 hb;have S:=St.start W;refine zI func116 ?_;refine zN ?_;intro D ab L S;refine zN ?_;intro I ac O S;refine zN ?_;intro z ad U S;refine zC (mz _ _ _ _ _) ?_;intro ae V S;rw[v];refine zC (mz _ _ _ _ _) ?_;intro ag Z S;rw[v];refine zC (mz _ _ _ _ _) ?_;intro ah aa S;rw[y];refine zS ?_;intro J S;exact rA S ⟨rfl,S.out⟩
theorem ye{f:α->List β}(v:∀a,(f a).length=m):∀{l:List α}{k:Nat}{a a':α}{d:Nat}{cs:List β},l[k]?=some a->d+cs.length<=m->f a'=(f a).take d++cs++(f a).drop (d+cs.length) ->
  (l.flatMap f).take (k*m+d)++cs++(l.flatMap f).drop (k*m+d+cs.length)=(l.set k a').flatMap f
 |[],k,a,a',d,cs,h,_,_=>by cases h
 |b::l,0,a,a',d,cs,h,hd,e=>by
  obtain rfl:b=a:=by simpa using h
  have y:=v b;simp only[iD,eH,fe,List.set_cons_zero];rw[lg om,nW om,e];simp only[cL]
 |b::l,k+1,a,a',d,cs,h,hd,e=>by
  have ih:=ye v (l:=l) (k:=k) (a:=a) (a':=a') (d:=d) (cs:=cs) (by simpa using h) hd e;have y:=v b;simp only[fe,List.set_cons_succ];rw[<-ih,cX,(om:k*m+m+d=m+(k*m+d)),(om:m+(k*m+d)+cs.length=m+(k*m+d+cs.length))];rw[jB,List.drop_append,y];rw[fN om,nv om];simp only[(om:m+(k*m+d)-m=k*m+d),(om:m+(k*m+d+cs.length)-m=k*m+d+cs.length),jL,cL]
theorem Qy{α:Type}{l:List α}{v:α}(h:k<l.length):l.set k v=l.take k++[v]++l.drop (k+1):=by
 rw[List.set_eq_take_append_cons_drop,a7 h];simp
theorem Ce{p:Nat->Bool}(y:q<k)(v:p q=true):((List.range k).filter p)[((List.range q).filter p).length]?=some q:=by
 have e:k=q+(1+(k-q-1)):=om;rw[e,pY,ix,fU (cN _),j8,ka 1,rz];simp[v]
structure I2(gw:Nat)(V:List Int)(t:Int)(r:Nat->Nat):Prop where
 le:∀i,i<V.length->r i<=i
 idem:∀i,i<V.length->r (r i)=r i
 conn:∀i,i<V.length->uL gw V t i (r i)
 left:∀i,i<V.length->t<=V.getD i 0->0<i%gw->t<=V.getD (i-1) 0->r i=r (i-1)
 up:∀i,i<V.length->t<=V.getD i 0->gw<=i->t<=V.getD (i-gw) 0->r i=r (i-gw)
theorem xn.roots{V:List Int}{t:Int}{f:Nat->Nat}(h:xn gw V t V.length f):I2 gw V t (eR f) :=
 ⟨λi _=>AB f i,λi _=>Kk f i,h.conn,h.left,h.up⟩
theorem uL.ge{V:List Int}{t:Int}(h:uL gw V t i j)(hi:t<=V.getD i 0):t<=V.getD j 0:=by
 induction h with
 |refl=>exact hi
 |step a _ ih=>exact ih a.2.2.2.1
def rh(V:List Int)(t:Int)(r:Nat->Nat)(q:Nat):Bool:=decide (t<=V.getD q 0)&&decide (r q=q)
def uq(V:List Int)(t:Int)(r:Nat->Nat)(k:Nat):List Nat:=(List.range k).filter (rh V t r)
def lQ(V:List Int)(t:Int)(r:Nat->Nat)(k:Nat):Nat:=(uq V t r k).length
def sN(V:List Int)(t:Int)(r:Nat->Nat)(i:Nat):Nat:=if t<=V.getD i 0 then lQ V t r (r i)+1 else 0
def Ba(V:List Int)(t:Int)(r:Nat->Nat)(q i:Nat):Bool:=decide (t<=V.getD i 0)&&decide (r i=q)
def rP(V:List Int)(t:Int)(r:Nat->Nat)(q k:Nat):List Nat:=(List.range k).filter (Ba V t r q)
def jY(gw:Nat)(V:List Int)(t:Int)(r:Nat->Nat)(k q:Nat):PV :=
 ⟨(lQ V t r q+1:Nat),((rP V t r q k).length:Nat),(q%gw:Nat),(q/gw:Nat),(rP V t r q k).foldl (λb i=>wK b (wL gw i)) (wL gw q)⟩
def j4(gw:Nat)(V:List Int)(t:Int)(r:Nat->Nat)(k:Nat):List PV:=(uq V t r k).map (jY gw V t r k)
theorem sx(V:List Int)(t:Int)(r:Nat->Nat)(k:Nat):uq V t r (k+1)=if rh V t r k then uq V t r k++[k]else uq V t r k:=by
 unfold uq;rw[eG,ix];by_cases h:rh V t r k=true
 ·rw[a7 h];simp[h]
 ·rw[a8 h];simp[h]
theorem Bb(V:List Int)(t:Int)(r:Nat->Nat)(q k:Nat):rP V t r q (k+1)=if Ba V t r q k then rP V t r q k++[k]else rP V t r q k:=by
 unfold rP;rw[eG,ix];by_cases h:Ba V t r q k=true
 ·rw[a7 h];simp[h]
 ·rw[a8 h];simp[h]
theorem yf{V:List Int}{t:Int}{r:Nat->Nat}(h:Ba V t r q k=false):jY gw V t r (k+1) q=jY gw V t r k q:=by
 unfold jY;rw[Bb,a8 (by simp[h])]
theorem Kn{V:List Int}{t:Int}{r:Nat->Nat}(h:Ba V t r q k=true) :
  jY gw V t r (k+1) q={ jY gw V t r k q with area:=(jY gw V t r k q).area+1,box:=wK (jY gw V t r k q).box (wL gw k) }:=by
 unfold jY;rw[Bb,a7 h,nT,cP];simp
theorem Ko{V:List Int}{t:Int}{r:Nat->Nat}:q∈uq V t r k↔q<k/\rh V t r q=true:=by unfold uq;rw[sS,dJ]
theorem Hh(V:List Int)(t:Int)(r:Nat->Nat)(k:Nat):(uq V t r k).Nodup:=List.Pairwise.filter _ List.nodup_range
theorem Cf(V:List Int)(t:Int)(r:Nat->Nat)(k:Nat):lQ V t r k<=k:=by
 unfold lQ uq;exact dE (nY _ _) (by simp)
theorem Fy{β:Type}[DecidableEq α]{l:List α}{f g:α->β}{q:α}(I:l.Nodup)(v:l[k]?=some q)(h:∀x∈l,x≠q->g x=f x):(l.map f).set k (g q)=l.map g:=by
 apply gG;intro i;rw[gl];have y:=(dq.1 v).1;by_cases e:k=i
 ·subst e;rw[a7 rfl,eP,a7 y,da,v];rfl
 ·rw[a8 e,da,da];cases hi:l[i]? with
  |none=>rfl
  |some x =>
   have J:=dD hi
   have z:x≠q:=by
    rintro rfl;have D:=(dq.1 hi).1;have h1:=(dq.1 hi).2;have h2:=(dq.1 v).2;exact e ((List.getElem_inj I).1 (h2.trans h1.symm))
   simp only[ku,h x J z]
theorem I3{V:List Int}{t:Int}{r:Nat->Nat}(y:∀i,i<=k->r i<=i)(I:t<=V.getD k 0)(D:r k=k) :
  j4 gw V t r (k+1)=j4 gw V t r k++[jY gw V t r (k+1) k]/\jY gw V t r k k=⟨(lQ V t r k+1:Nat),0,(k%gw:Nat),(k/gw:Nat),wL gw k⟩:=by
 have v:rh V t r k=true:=by unfold rh;simp only[cM,cT];exact⟨I,D⟩
 constructor
 ·unfold j4;rw[sx,a7 v,fq,i7];congr 1;refine eQ λq z=>yf ?_;have:=(Ko.1 z).1;unfold Ba;simp only[il,d9];right;omega
 ·have:rP V t r k k=[]:=by
   unfold rP;rw[nu];intro i hi;have:=y i (by have:=dJ.1 hi;omega);have:=dJ.1 hi;unfold Ba;simp only[cM,cT];omega
  unfold jY;rw[this];rfl
theorem Hi{V:List Int}{t:Int}{r:Nat->Nat}(O:r k=q)(L:q<k)(I:r q=q)(J:t<=V.getD q 0) :
  j4 gw V t r (k+1)=(j4 gw V t r k).set (lQ V t r q) (jY gw V t r (k+1) q)/\(j4 gw V t r k)[lQ V t r q]?=some (jY gw V t r k q):=by
 have y:rh V t r q=true:=by unfold rh;simp only[cM,cT];exact⟨J,I⟩
 have z:rh V t r k=false:=by unfold rh;simp only[il,d9];right;omega
 have v:(uq V t r k)[lQ V t r q]?=some q:=Ce L y;constructor
 ·unfold j4;rw[sx,a8 (by simp[z])];symm;refine Fy (Hh _ _ _ _) v λx S D=>yf ?_;unfold Ba;simp only[il,d9];right;rw[O];exact λe=>D e.symm
 ·unfold j4;rw[da,v];rfl
theorem Hj{V:List Int}{t:Int}{r:Nat->Nat}(v:¬t<=V.getD k 0):j4 gw V t r (k+1)=j4 gw V t r k:=by
 unfold j4;rw[sx,a8 (by unfold rh;simp only[cM,cT];exact λh=>v h.1)];refine eQ λq _=>yf ?_;unfold Ba;simp only[il,d9];exact .inl v
theorem Hk{V:List Int}{t:Int}{r:Nat->Nat}(J:1<=gw/\gw<=1024)(D:gh<=1024)(z:V.length=gw*gh)(O:k<=V.length)(L:q<V.length):(jY gw V t r k q).box.right:=by
 unfold jY
 have y:∀(l:List Nat)(b:RV),(∀i∈l,i<V.length)->b.right->(l.foldl (λb i=>wK b (wL gw i)) b).right:=by
  intro l;induction l with
  |nil=>intro b _ v;exact v
  |cons a l ih=>intro b I v;exact ih _ (λi hi=>I i (cW _ hi)) (I1 v (yd J D (z▸I a (by simp))))
 refine y _ _ (λi hi=>?_) (yd J D (z▸L));unfold rP at hi;have:=dJ.1 (sS.1 hi).1;omega
theorem Cg(n:Nat):List.replicate n (ii 0)=fB n (λ_=>0):=by
 symm;rw[n3];refine⟨lP _ _,λv y=>?_⟩;obtain⟨i,_,rfl⟩:=fC.1 y;rfl
theorem Eh{l:List PV}{a a':PV}{d:Nat}{cs:List Value}(h:l[k]?=some a)(hd:d+cs.length<=8)(e:a'.cells=a.cells.take d++cs++a.cells.drop (d+cs.length)) :
  (ko l).take (k*8+d)++cs++(ko l).drop (k*8+d+cs.length)=ko (l.set k a'):=ye (f:=PV.cells) (λ_=>rfl) h hd e
theorem Kp{l:List PV}{a:PV}(h:l[k]?=some a)(v:j<8):(ko l)[k*8+j]?=a.cells[j]?:=qe (f:=PV.cells) (m:=8) (λ_=>rfl) h v
theorem Kq{l:List PV}{a:PV}(h:l[k]?=some a):((ko l).drop (k*8+4)).take 4=a.box.cells:=by
 have:=qF (f:=PV.cells) (m:=8) (λ_=>rfl) l k a 4 4 h om;exact this
def Tv(gw gh:Nat)(V:List Int)(t:Int)(W:World)(v:Value)(w':World):Prop:=∃r,I2 gw V t r/\∃A1 c1 A2 c2,v=.tuple #[.slice A1 V.length c1,.slice A2 (lQ V t r V.length) c2,ii 0] /\
 gH w' 2 1 A1 V.length c1 (fB V.length (sN V t r))/\gH w' 223 8 A2 (lQ V t r V.length) c2 (ko (j4 gw V t r V.length))/\tr W A1/\tr W A2/\Gr W w'
section
variable{cap:Nat}
theorem I4(t:Int)(hG:eJ W p gw gh cc A cap bs Rs) :
  Fn prog 52 [pt p,ii t] W (Tv gw gh (dw gw gh cc) t W):=by
 have hw:=hG.sw;have hh:=hG.sh;have ao:=qf gw gh cc;have hm:1<=gw*gh/\gw*gh<=1024*1024:=⟨cE hw.1 hh.1,cE hw.2 hh.2⟩;have bE:gw<=gw*gh:=eS _ om;have ap:=Tt hG;rw[<-ao]at ap;have aK:(dw gw gh cc).length=gw*gh:=ao;generalize dw gw gh cc=V at *;have aP:∀i,i<V.length->(cY V)[(i:Int).toNat * 1]?=some (ii (V.getD i 0)):=λi hi=>by rw[cG,b7];exact gc (kr hi)
 have S:=St.start W;refine zI func52 ?_;refine zK (ap) ?_;rintro _ ca ⟨I,U,rfl,aj,av,be⟩;have S:=S.pushRow aj av be;refine zN ?_;intro al ce bT S;refine zS ?_;intro cg S;refine zK (VM (W:=_) t gh hw.1 om om om (S.rd (i:=1) rfl)) ?_;rintro _ ch ⟨f0,aM,ag,ai,rfl,an,aN,bf⟩;have S:=S.pushRow an aN bf;refine zg ?_;refine nD dk jR rfl rfl rfl (n:=V.length) (c:=V.length) om om om om S ?_;intro ah cj bU S bG;refine zg ?_;have ak:=aM.roots;have au:=aM.ok;generalize bv:eR f0=r at *;have bF:dO ag:=an.someA om;have bw:dO I:=aj.someA om;rw[Cg]at S;have S:=S.pushNil 223 8
 refine dl (λm e w=>∃(k:Nat)(f:Nat->Nat)(y:Option Addr)(D:Nat),k+m=V.length/\SL e [(1,ii t),(7,pt al),(9,.slice ag V.length ai),(10,.slice ah V.length V.length),(11,.slice y (lQ V t r k) D),(34,.slice I V.length U),(35,ii V.length),(36,ii k)]/\Dp V.length f/\(∀j,j<V.length->eR f j=r j) /\
  St No W w [.row 223 8 y (lQ V t r k) D (ko (j4 gw V t r k)),.row 2 1 ah V.length V.length (fB V.length λj=>if j<k then sN V t r j else 0),.row 3 1 ag V.length ai (fB V.length f),.blk al 215 [ii gw,ii gh,.slice I V.length U],.row 2 1 I V.length U (cY V)]) V.length
  ⟨0,f0,none,0,om,sl,au,λj _=>by rw[bv],by
   have e1:(fB V.length λj=>if j<0 then sN V t r j else 0)=fB V.length (λ_=>0):=lq λi _=>rfl;rw[e1];exact S⟩ ?_
 rintro m e w ⟨k,f,y,D,hk,aE,hf,aw,S⟩;rw[aE.fold];have bD:=Cf V t r k;refine zB ?_ ?_
 ·intro hc;have ab:k<V.length:=om;have bq:=aP k ab;refine z ?_;refine zx ?_;refine dH (eI cw rfl rfl (S.rd (i:=4) rfl) bq) ?_;refine zB ?_ ?_
  ·intro J;refine zg ?_;have ad:¬t<=V.getD k 0:=om;have aR:sN V t r k=0:=a8 ad
   have L:lQ V t r (k+1)=lQ V t r k:=by
    unfold lQ;rw[sx,a8];unfold rh;simp only[cM,cT];exact λh=>ad h.1
   refine⟨m-1,om,k+1,f,y,D,om,⟨rfl,rfl,rfl,rfl,by rw[L];rfl,rfl,rfl,ie om,trivial⟩,hf,aw,?_⟩
   have e1:(fB V.length λj=>if j<k+1 then sN V t r j else 0)=fB V.length (λj=>if j<k then sN V t r j else 0):=lq λi _=>by
    by_cases e:i=k
    ·subst e;rw[a7 om,a8 om,aR]
    ·by_cases h:i<k
     ·rw[a7 om,a7 h]
     ·rw[a8 om,a8 h]
   rw[L,Hj ad,e1];exact S
  ·intro J;have aF:=yd hw hh.2 (aK▸ab);have bZ:=ak.le k ab;have aV:t<=V.getD (r k) 0:=(ak.conn k ab).ge J;have aq:=ak.idem k ab;refine zC (Tu (W:=w) k gh V.length hw.1 om) ?_;intro ck bV S;refine zN ?_;intro ba bH bz S;refine zS ?_;intro bI S;refine zN ?_;intro am bJ bA S;refine zS ?_;intro bK S;refine zK (I0 k om ab hf (S.row (i:=4) rfl)) ?_;rintro _ bL ⟨rfl,f1,bm,bu,bi,bg⟩;have S:=S.set (i:=4) (h':=.row 3 1 ag V.length ai (fB V.length f1)) rfl rfl bg (λg h=>.inl h) bi (λg h=>.inl h);rw[aw k ab];refine z ?_;refine ze ?_;have aO:∀j,j<V.length->eR f1 j=r j:=λj hj=>(bu j hj).trans (aw j hj);have ac:sN V t r k=lQ V t r (r k)+1:=a7 J;have az:sN V t r (r k)=lQ V t r (r k)+1:=by unfold sN;rw[a7 aV,aq]
   have bX:=Cf V t r (r k);have aa:(j4 gw V t r k).length=lQ V t r k:=by unfold j4 lQ;rw[eP]
   repeat refine dm ?_
   refine dz ?_;iterate 3 refine cq (cH rfl) ?_
   first|refine eF ?_|(refine di ?_;show CW _ _ _ _ _ _)|refine di ?_
   repeat refine dm ?_
   refine gP (M:=λe w=>∃(O:List PV)(y:Option Addr)(D:Nat),O.length=lQ V t r (k+1)/\O[lQ V t r (r k)]?=some (jY gw V t r k (r k))/\O.set (lQ V t r (r k)) (jY gw V t r (k+1) (r k))=j4 gw V t r (k+1)/\SL e [(1,ii t),(7,pt al),(9,.slice ag V.length ai),(10,.slice ah V.length V.length),(12,ii k),(14,pt ba),(15,pt am),(16,ii (r k:Nat)),(34,.slice I V.length U),(35,ii V.length),(36,ii k),(11,.slice y (lQ V t r (k+1)) D)]/\St No W w [.blk am 43 (wL gw k).cells,.row 223 8 y (lQ V t r (k+1)) D (ko O),.row 2 1 ah V.length V.length (fB V.length λj=>if j<k\/(j=k/\r k=k)then sN V t r j else 0),.row 3 1 ag V.length ai (fB V.length f1),.blk al 215 [ii gw,ii gh,.slice I V.length U],.row 2 1 I V.length U (cY V)]) ?_ ?_
   ·skip;refine zB ?_ ?_
    ·intro aD;have v:r k=k:=om;obtain⟨aS,bt⟩:=I3 (gw:=gw) (V:=V) (t:=t) (r:=r) (k:=k) (λi hi=>ak.le i om) J v
     have L:lQ V t r (k+1)=lQ V t r k+1:=by
      unfold lQ;rw[sx,a7]
      ·simp
      unfold rh;simp only[cM,cT];exact⟨J,v⟩
     refine zg ?_;refine yb S ?_;intro aZ bM bB S aY;refine fM (i:=3) S rfl (λh=>rfl) pK MC rfl rfl rfl rfl (by simp) om (S.rd (i:=0) rfl) rfl om ?_;intro aG aH bN S ae;refine zg ?_;refine jk (i:=4) S rfl (cR _) rfl rfl rfl rfl (by rw[lP];omega) rfl ?_;intro bO S;refine ze ?_;refine⟨j4 gw V t r k++[jY gw V t r k k],aG,aH,by rw[cP,aa,L];rfl,?_,?_,⟨rfl,rfl,rfl,rfl,rfl,rfl,rfl,rfl,rfl,rfl,rfl,by rw[L];rfl,trivial⟩,?_⟩
     ·rw[v,fU om,aa,j8];rfl
     ·rw[v,aS,kp _ _ om,aa,j8];rfl
     ·have S:=S.sub (.cons _ (.cons_cons _ (.cons _ (.cons_cons _ (.cons_cons _ (.cons_cons _ (.cons_cons _ (.cons_cons _ .slnil))))))));rw[cG,b7,tH]at S
      have e1:(fB V.length λj=>if j<k\/(j=k/\r k=k)then sN V t r j else 0)=fB V.length (tc (λj=>if j<k then sN V t r j else 0) k (lQ V t r k+1)):=lq λi _=>by
       by_cases e:i=k
       ·subst e;rw[pO,a7 (.inr ⟨rfl,v⟩),ac,v]
       ·rw[pP e];by_cases h:i<k
        ·rw[a7 (.inl h),a7 h]
        ·rw[a8 (λh2=>h2.elim h (λh3=>e h3.1)),a8 h]
      have e2:ko (j4 gw V t r k++[jY gw V t r k k])=ko (j4 gw V t r k)++(jY gw V t r k k).cells:=by simp[ko]
      rw[e1,L,e2,bt];exact S
    ·intro aD;have v:r k≠k:=om;have br:r k<k:=om;obtain⟨aB,bk⟩:=Hi (gw:=gw) (V:=V) (t:=t) (r:=r) (k:=k) rfl br aq aV
     have L:lQ V t r (k+1)=lQ V t r k:=by
      unfold lQ;rw[sx,a8];unfold rh;simp only[cM,cT];exact λh=>v h.2
     refine zg ?_;refine⟨j4 gw V t r k,y,D,by rw[L,aa],bk,aB.symm,⟨rfl,rfl,rfl,rfl,rfl,rfl,rfl,rfl,rfl,rfl,rfl,by rw[L];rfl,trivial⟩,?_⟩;have S:=S.sub (.cons_cons _ (.cons _ (.cons_cons _ (.cons_cons _ (.cons_cons _ (.cons_cons _ (.cons_cons _ .slnil)))))))
     have e1:(fB V.length λj=>if j<k\/(j=k/\r k=k)then sN V t r j else 0)=fB V.length (λj=>if j<k then sN V t r j else 0):=lq λi _=>by
      by_cases h:i<k
      ·rw[a7 (.inl h),a7 h]
      ·rw[a8 (λh2=>h2.elim h (λh3=>v h3.2)),a8 h]
     rw[e1,L];exact S
   ·rintro e2 w2 ⟨O,y,D,bW,ar,bh,aE,S⟩;rw[aE.fold];have aU:r k<V.length:=om
    have bn:(fB V.length λj=>if j<k\/(j=k/\r k=k)then sN V t r j else 0)[((r k:Nat):Int).toNat * 1]?=some (ii (sN V t r k:Nat)):=by
     rw[cG,b7,pT aU,a7 ((eV (r k) k).imp id (λh=>⟨om,om⟩)),az,ac]
    have bo:(fB V.length λj=>if j<k+1 then sN V t r j else 0)[(k:Int).toNat * 1]?=some (ii (sN V t r k:Nat)):=by
     rw[cG,b7,pT ab,a7 om]
    have e1:fB V.length (tc (λj=>if j<k\/(j=k/\r k=k)then sN V t r j else 0) k (sN V t r k))=fB V.length (λj=>if j<k+1 then sN V t r j else 0):=lq λi _=>by
     by_cases e:i=k
     ·subst e;rw[pO,a7 om]
     ·rw[pP e];by_cases h:i<k
      ·rw[a7 (.inl h),a7 om]
      ·rw[a8 (λh2=>h2.elim h (λh3=>e h3.1)),a8 om]
    have aQ:=(dq.1 ar).1;have ae:dO y:=(S.row (i:=1) rfl).someA om;have aI:((sN V t r k:Nat):Int)-1=((lQ V t r (r k):Nat):Int):=by rw[ac];omega
    have bp:(ko O)[((lQ V t r (r k):Nat):Int).toNat * 8+1]?=some (ii (jY gw V t r k (r k)).area):=by rw[b7,Kp ar om];rfl
    have aX:=Cf V t r (k+1);(iterate 4 refine z ?_);refine zx ?_;refine dH (eI cw rfl rfl (S.rd (i:=2) rfl) bn) ?_;refine zg ?_;refine jk (i:=2) S rfl (cR _) rfl rfl rfl rfl (by rw[lP];omega) rfl ?_;intro bP S;rw[cG,b7,tH,e1]at S;(iterate 3 refine z ?_);refine zx ?_;refine dH (eI cw rfl rfl (S.rd (i:=2) rfl) bo) ?_;refine zr ?_;rw[aI];refine cq (sj pK sizeOf223 rfl rfl ae om om) ?_;refine cq (cH rfl) ?_;first|refine eF ?_|(refine di ?_;show CW _ _ _ _ _ _)|refine di ?_
    have bl:=Hk (gw:=gw) (gh:=gh) (V:=V) (t:=t) (r:=r) (k:=k) (q:=r k) hw hh.2 aK om aU
    have bj:(jY gw V t r k (r k)).area<=1048576:=by
     have:(rP V t r (r k) k).length<=k:=dE (nY _ _) (by simp);show(((rP V t r (r k) k).length:Nat):Int)<=_;omega
    have aW:0<=(jY gw V t r k (r k)).area:=m6 _;have aT:=Kn (gw:=gw) (V:=V) (t:=t) (r:=r) (k:=k) (q:=r k) (by unfold Ba;simp[J]<;>exact J);generalize bY:jY gw V t r k (r k)=pa at *;generalize lQ V t r (r k)=Z at *;obtain⟨pb,aC⟩:∃pb:PV,pb={ pa with area:=pa.area+1 }:=⟨_,rfl⟩
    have bb:((ko O).set ((Z:Int).toNat * 8+1) (ii (pa.area+1)))=ko (O.set Z pb):=by
     rw[b7,Qy (by rw[za];omega)];exact Eh (d:=1) (cs:=[ii (pa.area+1)]) ar (by simp) (by rw[aC];rfl)
    have aJ:(O.set Z pb)[Z]?=some pb:=by rw[gl,a7 rfl,a7 aQ]
    have aL:((ko (O.set Z pb)).drop ((Z:Int).toNat * 8+4)).take 4=[ii pa.box.x0,ii pa.box.y0,ii pa.box.x1,ii pa.box.y1]:=by
     rw[b7,Kq aJ,aC];rfl
    have aA:(ko (O.set Z pb)).length=O.length*8:=by rw[za,pe]
    have bc:(ko (O.set Z pb)).take ((Z:Int).toNat * 8+4)++(wK pa.box (wL gw k)).cells++(ko (O.set Z pb)).drop ((Z:Int).toNat * 8+4+4)=ko (O.set Z (jY gw V t r (k+1) (r k))):=by
     have:=Eh (l:=O.set Z pb) (k:=Z) (a:=pb) (a':=jY gw V t r (k+1) (r k)) (d:=4) (cs:=(wK pa.box (wL gw k)).cells) aJ (by simp[RV.cells]) (by rw[aT,aC];rfl);rw[List.set_set]at this;rw[b7];exact this
    repeat refine dm ?_
    refine dz ?_;refine cq (cH rfl) ?_;refine cq (Pc rfl ae) ?_;refine cq (Pb oH rfl cR rfl rfl ae) ?_;refine dH (eI cw rfl rfl (S.rd (i:=1) rfl) bp) ?_;refine zg ?_;refine jk (i:=1) S rfl (cR _) rfl rfl rfl rfl (show(Z:Int).toNat * 8+1<(ko O).length by rw[za];omega) rfl ?_;intro bQ S;have S:=S.as_ (i:=1) (h':=.row 223 8 y (lQ V t r (k+1)) D (ko (O.set Z pb))) rfl rfl (λh=>h.congr bb) (λg h=>h);refine zD [0,1,2,3,4,5,6] [7,8,9] ?_;refine fo (λwq hq=>fb dL rfl (dV _) rfl ((S.gr hq).rd (i:=1) rfl) aL rfl rfl) ?_;refine zP (λwq hq=>VN pa.box (wL gw k) bl aF wq) ?_;refine zE ?_;intro bR bC S;refine tF (i:=1) S rfl (dV _) rfl rfl rfl rfl (show(Z:Int).toNat * 8+4+4<=(ko (O.set Z pb)).length by rw[aA];omega) rfl rfl ?_;intro bS S;have S:=S.as_ (i:=1) (h':=.row 223 8 y (lQ V t r (k+1)) D (ko (O.set Z (jY gw V t r (k+1) (r k))))) rfl rfl (λh=>h.congr bc) (λg h=>h);refine zg ?_;rw[bh]at S;exact⟨m-1,om,k+1,f1,y,D,om,sl,bm,aO,S.sub (.cons _ (.cons_cons _ (.cons_cons _ (.cons_cons _ (.cons_cons _ (.cons_cons _ .slnil))))))⟩
 ·intro hc;refine zg ?_;obtain rfl:k=V.length:=om;refine tE rfl rfl rfl ⟨r,ak,ah,V.length,y,D,rfl,(S.row (i:=1) rfl).congr (lq λi hi=>a7 hi),S.row (i:=0) rfl,iC.fresh S (i:=1) rfl,iC.fresh S (i:=0) rfl,S.out⟩
end
section
variable{ps:String}
theorem Tw{y:Operand}{k:IntKind}(v:ev e x=.int .u64 a)(z:ev e y=.int k 8)(D:0<=a):iE P e ⟨d,.binOp .shr t x y t',ty,ps,af,none⟩ (.int .u64 (a/256)):=by
 intro w
 have h:(binOp .shr t (.int .u64 a) (.int k 8)).run P w=.ok (.int .u64 (a/256)) w:=by
  have:a.fdiv 256=a/256:=jp _ om;simp[binOp,Op.shift,IntKind.bits,this]
 simp[gd,execOp,v,z,eqGuard,h]
end
def td(n:Nat):Nat:=if n=0 then 0 else Nat.log2 n+1
theorem Kr(h:256<=n):td n=td (n/256)+8:=by
 unfold td;rw[a8 om,a8 om]
 have h1:Nat.log2 n=Nat.log2 (n/256)+8:=by
  rw[kY n,a7 om,kY (n/2),a7 om,kY (n/2/2),a7 om,kY (n/2/2/2),a7 om,kY (n/2/2/2/2),a7 om,
   kY (n/2/2/2/2/2),a7 om,kY (n/2/2/2/2/2/2),a7 om,kY (n/2/2/2/2/2/2/2),a7 om]
  rw[(om:n/2/2/2/2/2/2/2/2=n/256)]
 omega
theorem Ks(n:Nat)(L:n<=1024):Fn prog 254 [.int .u64 n] W (dp (ii (td n:Nat)) W):=by
 have y:∀m:Nat,m<256->td m<=8:=by decide+kernel
 by_cases D:n<256
 ·have v:=y n D;have S:=St.start W;refine zI func254 ?_;refine zg ?_;refine cq (s9 (B:=false) rfl rfl (cC om)) ?_;refine zg ?_;refine cq (s9 (B:=false) rfl rfl (cC om)) ?_;refine zg ?_;refine cq (s9 (B:=false) rfl rfl (cC om)) ?_;refine zg ?_;refine cq (dY (ks:=.u64) (n:=n) (kd:=.u8) (m:=n) dU dv rfl (by rw[gD];omega)) ?_;refine cq (wk (b:=UInt8.ofNat (td n)) fk rfl rfl om ?_) ?_
  ·rw[b7];clear v S;revert n;intro n _ D;revert n;decide+kernel
  refine cq (dY (ks:=.u8) (n:=((UInt8.ofNat (td n)).toNat:Int)) (kd:=.i64) (m:=(td n:Nat)) dv dB rfl (by rw[show(UInt8.ofNat (td n)).toNat=td n by simp;omega];exact gC _ om)) ?_;refine zX ?_;exact⟨ie om,S.out⟩
 ·have z:=Kr (n:=n) om;have v:=y (n/256) om;have I:(n:Int)/256=((n/256:Nat):Int):=om;obtain⟨q,J⟩:∃q,q=n/256:=⟨_,rfl⟩;rw[<-J]at z v I;have D:q<256:=om;have S:=St.start W;refine zI func254 ?_;refine zg ?_;refine cq (s9 (B:=false) rfl rfl (cC om)) ?_;refine zg ?_;refine cq (s9 (B:=false) rfl rfl (cC om)) ?_;refine zg ?_;refine cq (s9 (B:=true) rfl rfl (cF om)) ?_;refine zg ?_;refine cq (Tw rfl rfl om) ?_;rw[I];refine zg ?_;refine cq (dY (ks:=.u64) (n:=q) (kd:=.u8) (m:=q) dU dv rfl (by rw[gD];omega)) ?_;refine cq (wk (b:=UInt8.ofNat (td q)) fk rfl rfl om ?_) ?_
  ·rw[b7];clear v S z J I;revert q;intro q D;revert q;decide+kernel
  refine cq (dY (ks:=.u8) (n:=((UInt8.ofNat (td q)).toNat:Int)) (kd:=.i64) (m:=(td q:Nat)) dv dB rfl (by rw[show(UInt8.ofNat (td q)).toNat=td q by simp;omega];exact gC _ om)) ?_;refine zX ?_;exact⟨ie om,S.out⟩
theorem Ph(n:Nat)(h1:1<=n)(y:n<=1024):Fn prog 213 [ii n] W (dp (ii (Nat.log2 n:Nat)) W):=by
 have D:td n=Nat.log2 n+1:=a8 om;have I:=Nat.log2_le_self n;have S:=St.start W;refine zI func213 ?_;refine zg ?_;refine cq (dY cw dU rfl (re _ om)) ?_;refine zC (Ks n y) ?_;intro z v S;refine zX ?_;exact⟨ie om,S.out⟩
def wm(V:List Int)(gw:Nat):Nat->Nat->Nat->RG
 |0,x,y=>⟨V.getD (y*gw+x) 0,V.getD (y*gw+x) 0⟩
 |k+1,x,y=>mE (mE (wm V gw k x y) (wm V gw k (x+2^k) y)) (mE (wm V gw k x (y+2^k)) (wm V gw k (x+2^k) (y+2^k)))
structure vH(v:Nat->Nat->Int)(P:Nat->Nat->Prop)(r:RG):Prop where
 all:∀x y,P x y->r.lo<=v x y/\v x y<=r.hi
 lo:∃x y,P x y/\v x y=r.lo
 hi:∃x y,P x y/\v x y=r.hi
theorem vH.uniq{v:Nat->Nat->Int}{P:Nat->Nat->Prop}{r:RG}(h:vH v P r)(h':vH v P r'):r=r':=by
 obtain⟨x1,y1,y,e1⟩:=h.lo;obtain⟨J,S,p2,e2⟩:=h.hi;obtain⟨L,U,z,e3⟩:=h'.lo;obtain⟨O,V,D,e4⟩:=h'.hi;have Z:=h'.all x1 y1 y;have a2:=h'.all J S p2;have a3:=h.all L U z;have a4:=h.all O V D;obtain⟨l,u⟩:=r;obtain⟨l',I⟩:=r';dsimp only at *;rw[(om:l=l'),(om:u=I)]
theorem vH.join{v:Nat->Nat->Int}{P Q R:Nat->Nat->Prop}{a b:RG}(h:vH v P a)(h':vH v Q b)(D:∀x y,R x y↔P x y\/Q x y):vH v R (mE a b):=by
 refine⟨λx y I=>?_,?_,?_⟩
 ·unfold mE;dsimp only;rcases (D x y).1 I with p|q
  ·have:=h.all x y p;omega
  ·have:=h'.all x y q;omega
 ·unfold mE;dsimp only;rcases me a.lo b.lo with e|e
  ·obtain⟨x,y,p,z⟩:=h.lo;exact⟨x,y,(D x y).2 (.inl p),by rw[z];omega⟩
  ·obtain⟨x,y,p,z⟩:=h'.lo;exact⟨x,y,(D x y).2 (.inr p),by rw[z];omega⟩
 ·unfold mE;dsimp only;rcases me a.hi b.hi with e|e
  ·obtain⟨x,y,p,z⟩:=h'.hi;exact⟨x,y,(D x y).2 (.inr p),by rw[z];omega⟩
  ·obtain⟨x,y,p,z⟩:=h.hi;exact⟨x,y,(D x y).2 (.inl p),by rw[z];omega⟩
def Bx(V:List Int)(gw:Nat)(x y:Nat):Int:=V.getD (y*gw+x) 0
def nh(x0 y0 x1 y1:Nat):Nat->Nat->Prop:=λx y=>(x0<=x/\x<=x1)/\y0<=y/\y<=y1
theorem Ch(V:List Int)(gw:Nat):∀k x y,vH (Bx V gw) (nh x y (x+2^k-1) (y+2^k-1)) (wm V gw k x y)
 |0,x,y=>by
  refine⟨λJ L h=>?_,⟨x,y,?_,rfl⟩,⟨x,y,?_,rfl⟩⟩
  ·unfold nh at h
   simp only[kX]at h
   obtain rfl:J=x:=om
   obtain rfl:L=y:=om;exact⟨ij _,ij _⟩
  ·unfold nh;simp
  ·unfold nh;simp
 |k+1,x,y=>by
  have O:0<2^k:=mT k;have e:2^(k+1)=2*2^k:=by rw[gb,cD]
  have h1:=Ch V gw k x y;have h2:=Ch V gw k (x+2^k) y;have D:=Ch V gw k x (y+2^k);have I:=Ch V gw k (x+2^k) (y+2^k);have v:=h1.join (R:=nh x y (x+2^(k+1)-1) (y+2^k-1)) h2 (λa b=>by unfold nh;omega);have z:=D.join (R:=nh x (y+2^k) (x+2^(k+1)-1) (y+2^(k+1)-1)) I (λa b=>by unfold nh;omega);exact v.join z (λa b=>by unfold nh;omega)
def f7(gw k:Nat):Nat:=gw+1-2^k
def tf(V:List Int)(gw gh k:Nat):List RG:=(List.range (f7 gw k*f7 gh k)).map λi=>wm V gw k (i%f7 gw k) (i/f7 gw k)
theorem Dq(V:List Int)(gw gh k:Nat):(tf V gw gh k).length=f7 gw k*f7 gh k:=by simp[tf]
theorem zj(V:List Int){x y:Nat}(z:x<f7 gw k)(D:y<f7 gh k):(tf V gw gh k)[y*f7 gw k+x]?=some (wm V gw k x y):=by
 have h1:=jo (Y:=y) z
 have v:y*f7 gw k+x<f7 gw k*f7 gh k:=by
  have:=cI (f7 gw k) (show y+1<=f7 gh k from D);rw[cX,cD (f7 gh k)]at this;omega
 unfold tf;rw[da,eu v,ku,h1.1,h1.2]
end Go.Proofs.YtjfeklflkikapaaGreatDoor
