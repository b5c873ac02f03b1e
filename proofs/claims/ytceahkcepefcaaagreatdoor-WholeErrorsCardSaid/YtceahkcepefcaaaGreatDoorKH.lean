/- A part of the proof that hachuretop.WholeErrors returns true at every input; no condition. -/
import Derived.Test.YtceahkcepefcaaaGreatDoorKG
set_option maxRecDepth 100000
set_option maxHeartbeats 16000000
set_option linter.unusedVariables false
set_option linter.unusedSimpArgs false
namespace Go.Proofs.YtceahkcepefcaaaGreatDoor
open Go.Proofs.Tryz Go.RowKit
variable{Q:(Nat->Value)->World->Prop}{af:Array Edge}{f:FuncId}{h h':HA}{Y a a' d':Int}{M:List HA}{V':List Int}{hd:List Nat}{l l':List Value}{b c c1 c2 cx cy el g gh gw i j k k' kind m n p p2 pb q tb x0 x1 y0 y1:Nat}{cc:Nat->Int}{bs ns:Nat->Nat}{As:Nat->Option Addr}{Rs:Nat->Option Nat}{e:Nat->Value}{hi lo x:Operand}{A A1 A2 B l0:Option Addr}{d:Option Tmp}{P:Program}{α β:Type}{dd:TypeDesc}{t t' ty:TypeId}{u v1:Value}{R:Value->World->Prop}{W w w' wq:World}{C:World->Prop}
section
variable{ps:String}
theorem s9{y:Operand}{b:Int}{B:Bool}(z:ev e x=.int .u64 a)(D:ev e y=.int .u64 b)(v:decide (a>=b)=B):iE P e ⟨d,.binOp .geq t x y t',ty,ps,af,none⟩ (.bool B):=by
 intro w;subst v;simp[gd,execOp,z,D,eqGuard,binOp,Op.intCmp]
theorem vz{y:Operand}{k kd:IntKind}{b c:Int}(z:ev e x=.int k a)(D:ev e y=.int kd b)(I:0<=b)(v:k.wrap (a*2^(min b.toNat k.bits))=c):iE P e ⟨d,.binOp .shl t x y t',ty,ps,af,none⟩ (.int k c):=by
 intro w;subst v;have h1:¬b<0:=om;simp[gd,execOp,z,D,eqGuard,binOp,Op.shift,h1]
theorem wk{i:Operand}{s:ByteArray}{kd:IntKind}{n:Int}{b:UInt8}(z:P.underlying t=some .string)(D:ev e x=.string s)(hi:ev e i=.int kd n)(v:0<=n)(y:s[n.toNat]?=some b):iE P e ⟨d,.index t x i,ty,ps,af,none⟩ (.int .u8 b.toNat):=by
 intro w;simp[gd,execOp,D,hi,Instr.index,asIntOf,dS z,v,y]
end
structure RG where
 lo:Int
 hi:Int
variable{r':RG}
def RG.cells(r:RG):List Value:=[ii r.lo,ii r.hi]
def mE(a b:RG):RG:=⟨min a.lo b.lo,max a.hi b.hi⟩
theorem Fx(a b:RG)(W:World):Fn prog 219 [.agg a.cells.toArray,.agg b.cells.toArray] W (dp (.agg (mE a b).cells.toArray) W):=by
 unfold RG.cells;have S:=St.start W;refine zI func219 ?_;refine zN ?_;intro y L D S;refine zN ?_;intro z O I S;refine zN ?_;intro v U J S;refine zS ?_;intro V S;exact rA S ⟨rfl,S.out⟩
def mY(l:List RG):List Value:=l.flatMap RG.cells
theorem Do(l:List RG):(mY l).length=l.length*2:=lF (f:=RG.cells) (λ_=>rfl) l
theorem Cd:∀{l:List RG}{k:Nat}{r:RG},l[k]?=some r->((mY l).drop (k*2)).take 2=r.cells
 |[],k,r,h=>by cases h
 |r'::l,0,r,h=>by
  obtain rfl:r'=r:=by simpa using h
  rfl
 |r'::l,k+1,r,h=>by
  have ih:=Cd (l:=l) (k:=k) (r:=r) (by simpa using h);unfold mY at *;rw[fe,cX,<-ih];rfl
theorem HG(tb ns cs k v nc cc x y right z:Nat)(As V:Option Addr)(v0 v1:Value)(U:List Value)(l:List RG)(a b:RG)(W:World)(hT:eL W tb 343 [v0,v1,.slice As ns cs])(hS:Rd W As U)(hk:k<ns)(ac:(U.drop (k*2)).take 2=[ii v,.slice V nc cc])(Z:Rd W V (mY l))(am:l.length=nc)(I:v<=1048576)(hx:x<=1048576)(hy:y<=1048576)(hr:right<=1048576)(hb:z<=1048576)(ha:l[y*v+x]?=some a)(J:l[(y+z)*v+x+right]?=some b) :
  Fn prog 220 [pt tb,ii k,ii x,ii y,ii right,ii z] W (dp (.agg (mE a b).cells.toArray) W):=by
 have hi:=(dq.1 ha).1;have hj:=(dq.1 J).1;have ag:dO As:=hS.someA (by rcases U with _|⟨u,U⟩<;>simp_all);have ae:dO V:=Z.someA (by rw[Do];omega);have m1:y*v<=1048576*1048576:=cE hy I;have m2:(y+z)*v<=2097152*1048576:=cE om I;have e1:(y:Int)*v=((y*v:Nat):Int):=by push_cast;rfl
 have e2:((y:Int)+z)*v=(((y+z)*v:Nat):Int):=by push_cast;rfl
 have aa:=Cd ha;have ab:=Cd J;generalize y*v=p at *;generalize (y+z)*v=q at *;have L:((mY l).drop (((p:Int)+x).toNat * 2)).take 2=[ii a.lo,ii a.hi]:=by rw[(om:((p:Int)+x).toNat=p+x)];exact aa
 have O:((mY l).drop (((q:Int)+x+right).toNat * 2)).take 2=[ii b.lo,ii b.hi]:=by rw[(om:((q:Int)+x+right).toNat=q+x+right)];exact ab
 have S:=St.start W;refine zI func220 ?_;refine zN ?_;intro ah an aj S;refine zL (hT.gr S.out) ?_;refine zg ?_;refine ZU (hS.gr S.out) ac ?_;refine zN ?_;intro ai ao ak S;refine zS ?_;intro ad S;refine pF (C:=λwq=>Gr ad wq) [0,1,2,3,4,5,6,7,8,9,10,11,12,13,14,15,16,17,18,19,20,21,22,23] [24,25] (by kernel_rfl) (by kernel_rfl) (Gr.drew _) ?_;simp only[iS,dK,dR];refine eO (du Ze rfl ZS rfl rfl) ?_;refine fo (λwq D=>cV YZ rfl rfl ((S.gr D).blk (i:=0) rfl) rfl) ?_;refine eO (cH rfl) ?_;refine eO (du Ze rfl cR rfl rfl) ?_;refine fo (λwq D=>cV cw rfl rfl ((S.gr D).blk (i:=0) rfl) rfl) ?_;refine eO (fh rfl (by rw[e1];omega)) ?_;rw[e1];refine zQ ?_;refine fo (λwq D=>fb YQ rfl (YS _) rfl (Z.gr (S.gr D).out) L rfl rfl) ?_;refine eO (du Ze rfl ZS rfl rfl) ?_;refine fo (λwq D=>cV YZ rfl rfl ((S.gr D).blk (i:=0) rfl) rfl) ?_;iterate 2 refine eO (cH rfl) ?_
 refine eO (fh rfl om) ?_;refine eO (du Ze rfl cR rfl rfl) ?_;refine fo (λwq D=>cV cw rfl rfl ((S.gr D).blk (i:=0) rfl) rfl) ?_;refine eO (fh rfl (by rw[e2];omega)) ?_;rw[e2];refine zQ ?_;refine fo (λwq D=>fb YQ rfl (YS _) rfl (Z.gr (S.gr D).out) O rfl rfl) ?_;refine zE ?_;intro ap al S;refine zC (Fx a b _) ?_;refine zS ?_;intro aq S;exact rA S ⟨rfl,S.out⟩
structure RV where
 x0:Int
 y0:Int
 x1:Int
 y1:Int
 deriving DecidableEq
def RV.cells(r:RV):List Value:=[ii r.x0,ii r.y0,ii r.x1,ii r.y1]
def wK(a b:RV):RV:=⟨min a.x0 b.x0,min a.y0 b.y0,max a.x1 b.x1,max a.y1 b.y1⟩
def wL(gw i:Nat):RV:=⟨(i%gw:Nat),(i/gw:Nat),(i%gw:Nat),(i/gw:Nat)⟩
structure PV where
 lab:Int
 area:Int
 x:Int
 y:Int
 box:RV
 deriving DecidableEq
def PV.cells(p:PV):List Value:=[ii p.lab,ii p.area,ii p.x,ii p.y,ii p.box.x0,ii p.box.y0,ii p.box.x1,ii p.box.y1]
def ko(l:List PV):List Value:=l.flatMap PV.cells
theorem za(l:List PV):(ko l).length=l.length*8:=lF (f:=PV.cells) (λ_=>rfl) l
def RV.right(r:RV):Prop:=0<=r.x0/\r.x0<=r.x1/\r.x1<1024/\0<=r.y0/\r.y0<=r.y1/\r.y1<1024
theorem I1{a b:RV}(v:a.right)(y:b.right):(wK a b).right:=by
 unfold RV.right wK at*;dsimp only;omega
theorem yd(y:1<=gw/\gw<=1024)(v:gh<=1024)(hi:i<gw*gh):(wL gw i).right:=by
 have h1:i%gw<gw:=dt _ om;have h2:i/gw<gh:=cS hi;unfold RV.right wL;dsimp only;generalize i%gw=p at *;generalize i/gw=q at *;omega
theorem VN(a b:RV)(ha:a.right)(hb:b.right)(W:World):Fn prog 119 [.agg #[ii a.x0,ii a.y0,ii a.x1,ii a.y1],.agg #[ii b.x0,ii b.y0,ii b.x1,ii b.y1]] W
  (dp (.agg #[ii (wK a b).x0,ii (wK a b).y0,ii (wK a b).x1,ii (wK a b).y1]) W):=by
 have v:nb a.x0 a.y0 a.x1 a.y1=true:=(lO _ _ _ _).2 ha;have y:nb b.x0 b.y0 b.x1 b.y1=true:=(lO _ _ _ _).2 hb;have S:=St.start W;refine zI func119 ?_;refine zN ?_;intro D ab L S;refine zN ?_;intro I ac O S;refine zN ?_;intro z ad U S;refine zC (mz _ _ _ _ _) ?_;intro ae V S;rw[v];refine zC (mz _ _ _ _ _) ?_;intro ag Z S;rw[v];refine zC (mz _ _ _ _ _) ?_;intro ah aa S;rw[y];refine zS ?_;intro J S;exact rA S ⟨rfl,S.out⟩
theorem ye{f:α->List β}(v:∀a,(f a).length=m):∀{l:List α}{k:Nat}{a a':α}{d:Nat}{cs:List β},l[k]?=some a->d+cs.length<=m->f a'=(f a).take d++cs++(f a).drop (d+cs.length) ->
  (l.flatMap f).take (k*m+d)++cs++(l.flatMap f).drop (k*m+d+cs.length)=(l.set k a').flatMap f
 |[],k,a,a',d,cs,h,_,_=>by cases h
 |b::l,0,a,a',d,cs,h,hd,e=>by
  obtain rfl:b=a:=by simpa using h
  have y:=v b;simp only[iD,eH,fe,List.set_cons_zero];rw[lg om,nW om,e];simp only[cL]
 |b::l,k+1,a,a',d,cs,h,hd,e=>by
  have ih:=ye v (l:=l) (k:=k) (a:=a) (a':=a') (d:=d) (cs:=cs) (by simpa using h) hd e;have y:=v b;simp only[fe,List.set_cons_succ];rw[<-ih,cX,(om:k*m+m+d=m+(k*m+d)),(om:m+(k*m+d)+cs.length=m+(k*m+d+cs.length))];rw[jB,List.drop_append,y];rw[fN om,nv om];simp only[(om:m+(k*m+d)-m=k*m+d),(om:m+(k*m+d+cs.length)-m=k*m+d+cs.length),jL,cL]
theorem Qy{α:Type}{l:List α}{v:α}(h:k<l.length):l.set k v=l.take k++[v]++l.drop (k+1):=by
 rw[List.set_eq_take_append_cons_drop,a7 h];simp
theorem Ce{p:Nat->Bool}(y:q<k)(v:p q=true):((List.range k).filter p)[((List.range q).filter p).length]?=some q:=by
 have e:k=q+(1+(k-q-1)):=om;rw[e,pY,ix,fU (cN _),j8,ka 1,rz];simp[v]
structure I2(gw:Nat)(V:List Int)(t:Int)(r:Nat->Nat):Prop where
 le:∀i,i<V.length->r i<=i
 idem:∀i,i<V.length->r (r i)=r i
 conn:∀i,i<V.length->uL gw V t i (r i)
 left:∀i,i<V.length->t<=V.getD i 0->0<i%gw->t<=V.getD (i-1) 0->r i=r (i-1)
 up:∀i,i<V.length->t<=V.getD i 0->gw<=i->t<=V.getD (i-gw) 0->r i=r (i-gw)
theorem xn.roots{V:List Int}{t:Int}{f:Nat->Nat}(h:xn gw V t V.length f):I2 gw V t (eR f) :=
 ⟨λi _=>AB f i,λi _=>Kk f i,h.conn,h.left,h.up⟩
theorem uL.ge{V:List Int}{t:Int}(h:uL gw V t i j)(hi:t<=V.getD i 0):t<=V.getD j 0:=by
 induction h with
 |refl=>exact hi
 |step a _ ih=>exact ih a.2.2.2.1
def rh(V:List Int)(t:Int)(r:Nat->Nat)(q:Nat):Bool:=decide (t<=V.getD q 0)&&decide (r q=q)
def uq(V:List Int)(t:Int)(r:Nat->Nat)(k:Nat):List Nat:=(List.range k).filter (rh V t r)
def lQ(V:List Int)(t:Int)(r:Nat->Nat)(k:Nat):Nat:=(uq V t r k).length
def sN(V:List Int)(t:Int)(r:Nat->Nat)(i:Nat):Nat:=if t<=V.getD i 0 then lQ V t r (r i)+1 else 0
def Ba(V:List Int)(t:Int)(r:Nat->Nat)(q i:Nat):Bool:=decide (t<=V.getD i 0)&&decide (r i=q)
def rP(V:List Int)(t:Int)(r:Nat->Nat)(q k:Nat):List Nat:=(List.range k).filter (Ba V t r q)
def jY(gw:Nat)(V:List Int)(t:Int)(r:Nat->Nat)(k q:Nat):PV :=
 ⟨(lQ V t r q+1:Nat),((rP V t r q k).length:Nat),(q%gw:Nat),(q/gw:Nat),(rP V t r q k).foldl (λb i=>wK b (wL gw i)) (wL gw q)⟩
def j4(gw:Nat)(V:List Int)(t:Int)(r:Nat->Nat)(k:Nat):List PV:=(uq V t r k).map (jY gw V t r k)
theorem sx(V:List Int)(t:Int)(r:Nat->Nat)(k:Nat):uq V t r (k+1)=if rh V t r k then uq V t r k++[k]else uq V t r k:=by
 unfold uq;rw[eG,ix];by_cases h:rh V t r k=true
 ·rw[a7 h];simp[h]
 ·rw[a8 h];simp[h]
theorem Bb(V:List Int)(t:Int)(r:Nat->Nat)(q k:Nat):rP V t r q (k+1)=if Ba V t r q k then rP V t r q k++[k]else rP V t r q k:=by
 unfold rP;rw[eG,ix];by_cases h:Ba V t r q k=true
 ·rw[a7 h];simp[h]
 ·rw[a8 h];simp[h]
theorem yf{V:List Int}{t:Int}{r:Nat->Nat}(h:Ba V t r q k=false):jY gw V t r (k+1) q=jY gw V t r k q:=by
 unfold jY;rw[Bb,a8 (by simp[h])]
theorem Kn{V:List Int}{t:Int}{r:Nat->Nat}(h:Ba V t r q k=true) :
  jY gw V t r (k+1) q={ jY gw V t r k q with area:=(jY gw V t r k q).area+1,box:=wK (jY gw V t r k q).box (wL gw k) }:=by
 unfold jY;rw[Bb,a7 h,nT,cP];simp
theorem Ko{V:List Int}{t:Int}{r:Nat->Nat}:q∈uq V t r k↔q<k/\rh V t r q=true:=by unfold uq;rw[sS,dJ]
theorem Hh(V:List Int)(t:Int)(r:Nat->Nat)(k:Nat):(uq V t r k).Nodup:=List.Pairwise.filter _ List.nodup_range
theorem Cf(V:List Int)(t:Int)(r:Nat->Nat)(k:Nat):lQ V t r k<=k:=by
 unfold lQ uq;exact dE (nY _ _) (by simp)
theorem Fy{β:Type}[DecidableEq α]{l:List α}{f g:α->β}{q:α}(I:l.Nodup)(v:l[k]?=some q)(h:∀x∈l,x≠q->g x=f x):(l.map f).set k (g q)=l.map g:=by
 apply gG;intro i;rw[gl];have y:=(dq.1 v).1;by_cases e:k=i
 ·subst e;rw[a7 rfl,eP,a7 y,da,v];rfl
 ·rw[a8 e,da,da];cases hi:l[i]? with
  |none=>rfl
  |some x =>
   have J:=dD hi
   have z:x≠q:=by
    rintro rfl;have D:=(dq.1 hi).1;have h1:=(dq.1 hi).2;have h2:=(dq.1 v).2;exact e ((List.getElem_inj I).1 (h2.trans h1.symm))
   simp only[ku,h x J z]
theorem I3{V:List Int}{t:Int}{r:Nat->Nat}(y:∀i,i<=k->r i<=i)(I:t<=V.getD k 0)(D:r k=k) :
  j4 gw V t r (k+1)=j4 gw V t r k++[jY gw V t r (k+1) k]/\jY gw V t r k k=⟨(lQ V t r k+1:Nat),0,(k%gw:Nat),(k/gw:Nat),wL gw k⟩:=by
 have v:rh V t r k=true:=by unfold rh;simp only[cM,cT];exact⟨I,D⟩
 constructor
 ·unfold j4;rw[sx,a7 v,fq,i7];congr 1;refine eQ λq z=>yf ?_;have:=(Ko.1 z).1;unfold Ba;simp only[il,d9];right;omega
 ·have:rP V t r k k=[]:=by
   unfold rP;rw[nu];intro i hi;have:=y i (by have:=dJ.1 hi;omega);have:=dJ.1 hi;unfold Ba;simp only[cM,cT];omega
  unfold jY;rw[this];rfl
theorem Hi{V:List Int}{t:Int}{r:Nat->Nat}(O:r k=q)(L:q<k)(I:r q=q)(J:t<=V.getD q 0) :
  j4 gw V t r (k+1)=(j4 gw V t r k).set (lQ V t r q) (jY gw V t r (k+1) q)/\(j4 gw V t r k)[lQ V t r q]?=some (jY gw V t r k q):=by
 have y:rh V t r q=true:=by unfold rh;simp only[cM,cT];exact⟨J,I⟩
 have z:rh V t r k=false:=by unfold rh;simp only[il,d9];right;omega
 have v:(uq V t r k)[lQ V t r q]?=some q:=Ce L y;constructor
 ·unfold j4;rw[sx,a8 (by simp[z])];symm;refine Fy (Hh _ _ _ _) v λx S D=>yf ?_;unfold Ba;simp only[il,d9];right;rw[O];exact λe=>D e.symm
 ·unfold j4;rw[da,v];rfl
theorem Hj{V:List Int}{t:Int}{r:Nat->Nat}(v:¬t<=V.getD k 0):j4 gw V t r (k+1)=j4 gw V t r k:=by
 unfold j4;rw[sx,a8 (by unfold rh;simp only[cM,cT];exact λh=>v h.1)];refine eQ λq _=>yf ?_;unfold Ba;simp only[il,d9];exact .inl v
theorem Hk{V:List Int}{t:Int}{r:Nat->Nat}(J:1<=gw/\gw<=1024)(D:gh<=1024)(z:V.length=gw*gh)(O:k<=V.length)(L:q<V.length):(jY gw V t r k q).box.right:=by
 unfold jY
 have y:∀(l:List Nat)(b:RV),(∀i∈l,i<V.length)->b.right->(l.foldl (λb i=>wK b (wL gw i)) b).right:=by
  intro l;induction l with
  |nil=>intro b _ v;exact v
  |cons a l ih=>intro b I v;exact ih _ (λi hi=>I i (cW _ hi)) (I1 v (yd J D (z▸I a (by simp))))
 refine y _ _ (λi hi=>?_) (yd J D (z▸L));unfold rP at hi;have:=dJ.1 (sS.1 hi).1;omega
theorem Cg(n:Nat):List.replicate n (ii 0)=fB n (λ_=>0):=by
 symm;rw[n3];refine⟨lP _ _,λv y=>?_⟩;obtain⟨i,_,rfl⟩:=fC.1 y;rfl
theorem Eh{l:List PV}{a a':PV}{d:Nat}{cs:List Value}(h:l[k]?=some a)(hd:d+cs.length<=8)(e:a'.cells=a.cells.take d++cs++a.cells.drop (d+cs.length)) :
  (ko l).take (k*8+d)++cs++(ko l).drop (k*8+d+cs.length)=ko (l.set k a'):=ye (f:=PV.cells) (λ_=>rfl) h hd e
theorem Kp{l:List PV}{a:PV}(h:l[k]?=some a)(v:j<8):(ko l)[k*8+j]?=a.cells[j]?:=qe (f:=PV.cells) (m:=8) (λ_=>rfl) h v
theorem Kq{l:List PV}{a:PV}(h:l[k]?=some a):((ko l).drop (k*8+4)).take 4=a.box.cells:=by
 have:=qF (f:=PV.cells) (m:=8) (λ_=>rfl) l k a 4 4 h om;exact this
def aa2(gw gh:Nat)(V:List Int)(t:Int)(W:World)(v:Value)(w':World):Prop:=∃r,I2 gw V t r/\∃A1 c1 A2 c2,v=.tuple #[.slice A1 V.length c1,.slice A2 (lQ V t r V.length) c2,ii 0] /\
 St No W w' [.row 223 8 A2 (lQ V t r V.length) c2 (ko (j4 gw V t r V.length)),.row 2 1 A1 V.length c1 (fB V.length (sN V t r))]
section
variable{cap:Nat}
theorem aaN(t:Int)(hG:eJ W p gw gh cc A cap bs Rs) :
  Fn prog 57 [pt p,ii t] W (aa2 gw gh (dw gw gh cc) t W):=by
 have hw:=hG.sw;have hh:=hG.sh;have ao:=qf gw gh cc;have hm:1<=gw*gh/\gw*gh<=1024*1024:=⟨cE hw.1 hh.1,cE hw.2 hh.2⟩;have bE:gw<=gw*gh:=eS _ om;have ap:=Tt hG;rw[<-ao]at ap;have aK:(dw gw gh cc).length=gw*gh:=ao;generalize dw gw gh cc=V at *;have aP:∀i,i<V.length->(cY V)[(i:Int).toNat * 1]?=some (ii (V.getD i 0)):=λi hi=>by rw[cG,b7];exact gc (kr hi)
 have S:=St.start W;refine zI func57 ?_;refine zK (ap) ?_;rintro _ ca ⟨I,U,rfl,aj,av,be⟩;have S:=S.pushRow aj av be;refine zN ?_;intro al ce bT S;refine zS ?_;intro cg S;refine zK (VM (W:=_) t gh hw.1 om om om (S.rd (i:=1) rfl)) ?_;rintro _ ch ⟨f0,aM,ag,ai,rfl,an,aN,bf⟩;have S:=S.pushRow an aN bf;refine zg ?_;refine nD dk jR rfl rfl rfl (n:=V.length) (c:=V.length) om om om om S ?_;intro ah cj bU S bG;refine zg ?_;have ak:=aM.roots;have au:=aM.ok;generalize bv:eR f0=r at *;have bF:dO ag:=an.someA om;have bw:dO I:=aj.someA om;rw[Cg]at S;have S:=S.pushNil 223 8
 refine dl (λm e w=>∃(k:Nat)(f:Nat->Nat)(y:Option Addr)(D:Nat),k+m=V.length/\SL e [(1,ii t),(7,pt al),(9,.slice ag V.length ai),(10,.slice ah V.length V.length),(11,.slice y (lQ V t r k) D),(34,.slice I V.length U),(35,ii V.length),(36,ii k)]/\Dp V.length f/\(∀j,j<V.length->eR f j=r j) /\
  St No W w [.row 223 8 y (lQ V t r k) D (ko (j4 gw V t r k)),.row 2 1 ah V.length V.length (fB V.length λj=>if j<k then sN V t r j else 0),.row 3 1 ag V.length ai (fB V.length f),.blk al 215 [ii gw,ii gh,.slice I V.length U],.row 2 1 I V.length U (cY V)]) V.length
  ⟨0,f0,none,0,om,sl,au,λj _=>by rw[bv],by
   have e1:(fB V.length λj=>if j<0 then sN V t r j else 0)=fB V.length (λ_=>0):=lq λi _=>rfl;rw[e1];exact S⟩ ?_
 rintro m e w ⟨k,f,y,D,hk,aE,hf,aw,S⟩;rw[aE.fold];have bD:=Cf V t r k;refine zB ?_ ?_
 ·intro hc;have ab:k<V.length:=om;have bq:=aP k ab;refine z ?_;refine zx ?_;refine dH (eI cw rfl rfl (S.rd (i:=4) rfl) bq) ?_;refine zB ?_ ?_
  ·intro J;refine zg ?_;have ad:¬t<=V.getD k 0:=om;have aR:sN V t r k=0:=a8 ad
   have L:lQ V t r (k+1)=lQ V t r k:=by
    unfold lQ;rw[sx,a8];unfold rh;simp only[cM,cT];exact λh=>ad h.1
   refine⟨m-1,om,k+1,f,y,D,om,⟨rfl,rfl,rfl,rfl,by rw[L];rfl,rfl,rfl,ie om,trivial⟩,hf,aw,?_⟩
   have e1:(fB V.length λj=>if j<k+1 then sN V t r j else 0)=fB V.length (λj=>if j<k then sN V t r j else 0):=lq λi _=>by
    by_cases e:i=k
    ·subst e;rw[a7 om,a8 om,aR]
    ·by_cases h:i<k
     ·rw[a7 om,a7 h]
     ·rw[a8 om,a8 h]
   rw[L,Hj ad,e1];exact S
  ·intro J;have aF:=yd hw hh.2 (aK▸ab);have bZ:=ak.le k ab;have aV:t<=V.getD (r k) 0:=(ak.conn k ab).ge J;have aq:=ak.idem k ab;refine zC (Tu (W:=w) k gh V.length hw.1 om) ?_;intro ck bV S;refine zN ?_;intro ba bH bz S;refine zS ?_;intro bI S;refine zN ?_;intro am bJ bA S;refine zS ?_;intro bK S;refine zK (I0 k om ab hf (S.row (i:=4) rfl)) ?_;rintro _ bL ⟨rfl,f1,bm,bu,bi,bg⟩;have S:=S.set (i:=4) (h':=.row 3 1 ag V.length ai (fB V.length f1)) rfl rfl bg (λg h=>.inl h) bi (λg h=>.inl h);rw[aw k ab];refine z ?_;refine ze ?_;have aO:∀j,j<V.length->eR f1 j=r j:=λj hj=>(bu j hj).trans (aw j hj);have ac:sN V t r k=lQ V t r (r k)+1:=a7 J;have az:sN V t r (r k)=lQ V t r (r k)+1:=by unfold sN;rw[a7 aV,aq]
   have bX:=Cf V t r (r k);have aa:(j4 gw V t r k).length=lQ V t r k:=by unfold j4 lQ;rw[eP]
   repeat refine dm ?_
   refine dz ?_;iterate 3 refine cq (cH rfl) ?_
   first|refine eF ?_|(refine di ?_;show CW _ _ _ _ _ _)|refine di ?_
   repeat refine dm ?_
   refine gP (M:=λe w=>∃(O:List PV)(y:Option Addr)(D:Nat),O.length=lQ V t r (k+1)/\O[lQ V t r (r k)]?=some (jY gw V t r k (r k))/\O.set (lQ V t r (r k)) (jY gw V t r (k+1) (r k))=j4 gw V t r (k+1)/\SL e [(1,ii t),(7,pt al),(9,.slice ag V.length ai),(10,.slice ah V.length V.length),(12,ii k),(14,pt ba),(15,pt am),(16,ii (r k:Nat)),(34,.slice I V.length U),(35,ii V.length),(36,ii k),(11,.slice y (lQ V t r (k+1)) D)]/\St No W w [.blk am 24 (wL gw k).cells,.row 223 8 y (lQ V t r (k+1)) D (ko O),.row 2 1 ah V.length V.length (fB V.length λj=>if j<k\/(j=k/\r k=k)then sN V t r j else 0),.row 3 1 ag V.length ai (fB V.length f1),.blk al 215 [ii gw,ii gh,.slice I V.length U],.row 2 1 I V.length U (cY V)]) ?_ ?_
   ·skip;refine zB ?_ ?_
    ·intro aD;have v:r k=k:=om;obtain⟨aS,bt⟩:=I3 (gw:=gw) (V:=V) (t:=t) (r:=r) (k:=k) (λi hi=>ak.le i om) J v
     have L:lQ V t r (k+1)=lQ V t r k+1:=by
      unfold lQ;rw[sx,a7]
      ·simp
      unfold rh;simp only[cM,cT];exact⟨J,v⟩
     refine zg ?_;refine yb S ?_;intro aZ bM bB S aY;refine fM (i:=3) S rfl (λh=>rfl) dL MC rfl rfl rfl rfl (by simp) om (S.rd (i:=0) rfl) rfl om ?_;intro aG aH bN S ae;refine zg ?_;refine jk (i:=4) S rfl (cR _) rfl rfl rfl rfl (by rw[lP];omega) rfl ?_;intro bO S;refine ze ?_;refine⟨j4 gw V t r k++[jY gw V t r k k],aG,aH,by rw[cP,aa,L];rfl,?_,?_,⟨rfl,rfl,rfl,rfl,rfl,rfl,rfl,rfl,rfl,rfl,rfl,by rw[L];rfl,trivial⟩,?_⟩
     ·rw[v,fU om,aa,j8];rfl
     ·rw[v,aS,kp _ _ om,aa,j8];rfl
     ·have S:=S.sub (.cons _ (.cons_cons _ (.cons _ (.cons_cons _ (.cons_cons _ (.cons_cons _ (.cons_cons _ (.cons_cons _ .slnil))))))));rw[cG,b7,tH]at S
      have e1:(fB V.length λj=>if j<k\/(j=k/\r k=k)then sN V t r j else 0)=fB V.length (tc (λj=>if j<k then sN V t r j else 0) k (lQ V t r k+1)):=lq λi _=>by
       by_cases e:i=k
       ·subst e;rw[pO,a7 (.inr ⟨rfl,v⟩),ac,v]
       ·rw[pP e];by_cases h:i<k
        ·rw[a7 (.inl h),a7 h]
        ·rw[a8 (λh2=>h2.elim h (λh3=>e h3.1)),a8 h]
      have e2:ko (j4 gw V t r k++[jY gw V t r k k])=ko (j4 gw V t r k)++(jY gw V t r k k).cells:=by simp[ko]
      rw[e1,L,e2,bt];exact S
    ·intro aD;have v:r k≠k:=om;have br:r k<k:=om;obtain⟨aB,bk⟩:=Hi (gw:=gw) (V:=V) (t:=t) (r:=r) (k:=k) rfl br aq aV
     have L:lQ V t r (k+1)=lQ V t r k:=by
      unfold lQ;rw[sx,a8];unfold rh;simp only[cM,cT];exact λh=>v h.2
     refine zg ?_;refine⟨j4 gw V t r k,y,D,by rw[L,aa],bk,aB.symm,⟨rfl,rfl,rfl,rfl,rfl,rfl,rfl,rfl,rfl,rfl,rfl,by rw[L];rfl,trivial⟩,?_⟩;have S:=S.sub (.cons_cons _ (.cons _ (.cons_cons _ (.cons_cons _ (.cons_cons _ (.cons_cons _ (.cons_cons _ .slnil)))))))
     have e1:(fB V.length λj=>if j<k\/(j=k/\r k=k)then sN V t r j else 0)=fB V.length (λj=>if j<k then sN V t r j else 0):=lq λi _=>by
      by_cases h:i<k
      ·rw[a7 (.inl h),a7 h]
      ·rw[a8 (λh2=>h2.elim h (λh3=>v h3.2)),a8 h]
     rw[e1,L];exact S
   ·rintro e2 w2 ⟨O,y,D,bW,ar,bh,aE,S⟩;rw[aE.fold];have aU:r k<V.length:=om
    have bn:(fB V.length λj=>if j<k\/(j=k/\r k=k)then sN V t r j else 0)[((r k:Nat):Int).toNat * 1]?=some (ii (sN V t r k:Nat)):=by
     rw[cG,b7,pT aU,a7 ((eV (r k) k).imp id (λh=>⟨om,om⟩)),az,ac]
    have bo:(fB V.length λj=>if j<k+1 then sN V t r j else 0)[(k:Int).toNat * 1]?=some (ii (sN V t r k:Nat)):=by
     rw[cG,b7,pT ab,a7 om]
    have e1:fB V.length (tc (λj=>if j<k\/(j=k/\r k=k)then sN V t r j else 0) k (sN V t r k))=fB V.length (λj=>if j<k+1 then sN V t r j else 0):=lq λi _=>by
     by_cases e:i=k
     ·subst e;rw[pO,a7 om]
     ·rw[pP e];by_cases h:i<k
      ·rw[a7 (.inl h),a7 om]
      ·rw[a8 (λh2=>h2.elim h (λh3=>e h3.1)),a8 om]
    have aQ:=(dq.1 ar).1;have ae:dO y:=(S.row (i:=1) rfl).someA om;have aI:((sN V t r k:Nat):Int)-1=((lQ V t r (r k):Nat):Int):=by rw[ac];omega
    have bp:(ko O)[((lQ V t r (r k):Nat):Int).toNat * 8+1]?=some (ii (jY gw V t r k (r k)).area):=by rw[b7,Kp ar om];rfl
    have aX:=Cf V t r (k+1);(iterate 4 refine z ?_);refine zx ?_;refine dH (eI cw rfl rfl (S.rd (i:=2) rfl) bn) ?_;refine zg ?_;refine jk (i:=2) S rfl (cR _) rfl rfl rfl rfl (by rw[lP];omega) rfl ?_;intro bP S;rw[cG,b7,tH,e1]at S;(iterate 3 refine z ?_);refine zx ?_;refine dH (eI cw rfl rfl (S.rd (i:=2) rfl) bo) ?_;refine zr ?_;rw[aI];refine cq (sj dL sizeOf223 rfl rfl ae om om) ?_;refine cq (cH rfl) ?_;first|refine eF ?_|(refine di ?_;show CW _ _ _ _ _ _)|refine di ?_
    have bl:=Hk (gw:=gw) (gh:=gh) (V:=V) (t:=t) (r:=r) (k:=k) (q:=r k) hw hh.2 aK om aU
    have bj:(jY gw V t r k (r k)).area<=1048576:=by
     have:(rP V t r (r k) k).length<=k:=dE (nY _ _) (by simp);show(((rP V t r (r k) k).length:Nat):Int)<=_;omega
    have aW:0<=(jY gw V t r k (r k)).area:=m6 _;have aT:=Kn (gw:=gw) (V:=V) (t:=t) (r:=r) (k:=k) (q:=r k) (by unfold Ba;simp[J]<;>exact J);generalize bY:jY gw V t r k (r k)=pa at *;generalize lQ V t r (r k)=Z at *;obtain⟨pb,aC⟩:∃pb:PV,pb={ pa with area:=pa.area+1 }:=⟨_,rfl⟩
    have bb:((ko O).set ((Z:Int).toNat * 8+1) (ii (pa.area+1)))=ko (O.set Z pb):=by
     rw[b7,Qy (by rw[za];omega)];exact Eh (d:=1) (cs:=[ii (pa.area+1)]) ar (by simp) (by rw[aC];rfl)
    have aJ:(O.set Z pb)[Z]?=some pb:=by rw[gl,a7 rfl,a7 aQ]
    have aL:((ko (O.set Z pb)).drop ((Z:Int).toNat * 8+4)).take 4=[ii pa.box.x0,ii pa.box.y0,ii pa.box.x1,ii pa.box.y1]:=by
     rw[b7,Kq aJ,aC];rfl
    have aA:(ko (O.set Z pb)).length=O.length*8:=by rw[za,pe]
    have bc:(ko (O.set Z pb)).take ((Z:Int).toNat * 8+4)++(wK pa.box (wL gw k)).cells++(ko (O.set Z pb)).drop ((Z:Int).toNat * 8+4+4)=ko (O.set Z (jY gw V t r (k+1) (r k))):=by
     have:=Eh (l:=O.set Z pb) (k:=Z) (a:=pb) (a':=jY gw V t r (k+1) (r k)) (d:=4) (cs:=(wK pa.box (wL gw k)).cells) aJ (by simp[RV.cells]) (by rw[aT,aC];rfl);rw[List.set_set]at this;rw[b7];exact this
    repeat refine dm ?_
    refine dz ?_;refine cq (cH rfl) ?_;refine cq (Pc rfl ae) ?_;refine cq (Pb oH rfl cR rfl rfl ae) ?_;refine dH (eI cw rfl rfl (S.rd (i:=1) rfl) bp) ?_;refine zg ?_;refine jk (i:=1) S rfl (cR _) rfl rfl rfl rfl (show(Z:Int).toNat * 8+1<(ko O).length by rw[za];omega) rfl ?_;intro bQ S;have S:=S.as_ (i:=1) (h':=.row 223 8 y (lQ V t r (k+1)) D (ko (O.set Z pb))) rfl rfl (λh=>h.congr bb) (λg h=>h);refine zD [0,1,2,3,4,5,6] [7,8,9] ?_;refine fo (λwq hq=>fb xa rfl (yr _) rfl ((S.gr hq).rd (i:=1) rfl) aL rfl rfl) ?_;refine zP (λwq hq=>VN pa.box (wL gw k) bl aF wq) ?_;refine zE ?_;intro bR bC S;refine tF (i:=1) S rfl (yr _) rfl rfl rfl rfl (show(Z:Int).toNat * 8+4+4<=(ko (O.set Z pb)).length by rw[aA];omega) rfl rfl ?_;intro bS S;have S:=S.as_ (i:=1) (h':=.row 223 8 y (lQ V t r (k+1)) D (ko (O.set Z (jY gw V t r (k+1) (r k))))) rfl rfl (λh=>h.congr bc) (λg h=>h);refine zg ?_;rw[bh]at S;exact⟨m-1,om,k+1,f1,y,D,om,sl,bm,aO,S.sub (.cons _ (.cons_cons _ (.cons_cons _ (.cons_cons _ (.cons_cons _ (.cons_cons _ .slnil))))))⟩
 ·intro hc;refine zg ?_;obtain rfl:k=V.length:=om;have S:=S.as_ (i:=1) (h':=.row 2 1 ah V.length V.length (fB V.length (sN V t r))) rfl rfl (λh=>h.congr (lq λi hi=>a7 hi)) (λg h=>h);exact tE rfl rfl rfl ⟨r,ak,ah,V.length,y,D,rfl,S.sub (.cons_cons _ (.cons_cons _ (.cons _ (.cons _ (.cons _ .slnil)))))⟩
end
section
variable{ps:String}
theorem Tw{y:Operand}{k:IntKind}(v:ev e x=.int .u64 a)(z:ev e y=.int k 8)(D:0<=a):iE P e ⟨d,.binOp .shr t x y t',ty,ps,af,none⟩ (.int .u64 (a/256)):=by
 intro w
 have h:(binOp .shr t (.int .u64 a) (.int k 8)).run P w=.ok (.int .u64 (a/256)) w:=by
  have:a.fdiv 256=a/256:=jp _ om;simp[binOp,Op.shift,IntKind.bits,this]
 simp[gd,execOp,v,z,eqGuard,h]
end
def td(n:Nat):Nat:=if n=0 then 0 else Nat.log2 n+1
theorem Kr(h:256<=n):td n=td (n/256)+8:=by
 unfold td;rw[a8 om,a8 om]
 have h1:Nat.log2 n=Nat.log2 (n/256)+8:=by
  rw[kY n,a7 om,kY (n/2),a7 om,kY (n/2/2),a7 om,kY (n/2/2/2),a7 om,kY (n/2/2/2/2),a7 om,
   kY (n/2/2/2/2/2),a7 om,kY (n/2/2/2/2/2/2),a7 om,kY (n/2/2/2/2/2/2/2),a7 om]
  rw[(om:n/2/2/2/2/2/2/2/2=n/256)]
 omega
theorem Ks(n:Nat)(L:n<=1024):Fn prog 259 [.int .u64 n] W (dp (ii (td n:Nat)) W):=by
 have y:∀m:Nat,m<256->td m<=8:=by decide+kernel
 by_cases D:n<256
 ·have v:=y n D;have S:=St.start W;refine zI func259 ?_;refine zg ?_;refine cq (s9 (B:=false) rfl rfl (cC om)) ?_;refine zg ?_;refine cq (s9 (B:=false) rfl rfl (cC om)) ?_;refine zg ?_;refine cq (s9 (B:=false) rfl rfl (cC om)) ?_;refine zg ?_;refine Y9 (n:=n) (m:=n) rfl (by rw[gD];omega) ?_;refine cq (wk (b:=UInt8.ofNat (td n)) fk rfl rfl om ?_) ?_
  ·rw[b7];clear v S;revert n;intro n _ D;revert n;decide+kernel
  refine Y9 (n:=((UInt8.ofNat (td n)).toNat:Int)) (m:=(td n:Nat)) rfl (by rw[show(UInt8.ofNat (td n)).toNat=td n by simp;omega];exact gC _ om) ?_;refine zX ?_;exact⟨ie om,S.out⟩
 ·have z:=Kr (n:=n) om;have v:=y (n/256) om;have I:(n:Int)/256=((n/256:Nat):Int):=om;obtain⟨q,J⟩:∃q,q=n/256:=⟨_,rfl⟩;rw[<-J]at z v I;have D:q<256:=om;have S:=St.start W;refine zI func259 ?_;refine zg ?_;refine cq (s9 (B:=false) rfl rfl (cC om)) ?_;refine zg ?_;refine cq (s9 (B:=false) rfl rfl (cC om)) ?_;refine zg ?_;refine cq (s9 (B:=true) rfl rfl (cF om)) ?_;refine zg ?_;refine cq (Tw rfl rfl om) ?_;rw[I];refine zg ?_;refine Y9 (n:=q) (m:=q) rfl (by rw[gD];omega) ?_;refine cq (wk (b:=UInt8.ofNat (td q)) fk rfl rfl om ?_) ?_
  ·rw[b7];clear v S z J I;revert q;intro q D;revert q;decide+kernel
  refine Y9 (n:=((UInt8.ofNat (td q)).toNat:Int)) (m:=(td q:Nat)) rfl (by rw[show(UInt8.ofNat (td q)).toNat=td q by simp;omega];exact gC _ om) ?_;refine zX ?_;exact⟨ie om,S.out⟩
theorem Ph(n:Nat)(h1:1<=n)(y:n<=1024):Fn prog 218 [ii n] W (dp (ii (Nat.log2 n:Nat)) W):=by
 have D:td n=Nat.log2 n+1:=a8 om;have I:=Nat.log2_le_self n;have S:=St.start W;refine zI func218 ?_;refine zg ?_;refine Y9 rfl (re _ om) ?_;refine zC (Ks n y) ?_;intro z v S;refine zX ?_;exact⟨ie om,S.out⟩
def wm(V:List Int)(gw:Nat):Nat->Nat->Nat->RG
 |0,x,y=>⟨V.getD (y*gw+x) 0,V.getD (y*gw+x) 0⟩
 |k+1,x,y=>mE (mE (wm V gw k x y) (wm V gw k (x+2^k) y)) (mE (wm V gw k x (y+2^k)) (wm V gw k (x+2^k) (y+2^k)))
structure vH(v:Nat->Nat->Int)(P:Nat->Nat->Prop)(r:RG):Prop where
 all:∀x y,P x y->r.lo<=v x y/\v x y<=r.hi
 lo:∃x y,P x y/\v x y=r.lo
 hi:∃x y,P x y/\v x y=r.hi
theorem vH.uniq{v:Nat->Nat->Int}{P:Nat->Nat->Prop}{r:RG}(h:vH v P r)(h':vH v P r'):r=r':=by
 obtain⟨x1,y1,y,e1⟩:=h.lo;obtain⟨J,S,p2,e2⟩:=h.hi;obtain⟨L,U,z,e3⟩:=h'.lo;obtain⟨O,V,D,e4⟩:=h'.hi;have Z:=h'.all x1 y1 y;have a2:=h'.all J S p2;have a3:=h.all L U z;have a4:=h.all O V D;obtain⟨l,u⟩:=r;obtain⟨l',I⟩:=r';dsimp only at *;rw[(om:l=l'),(om:u=I)]
theorem vH.join{v:Nat->Nat->Int}{P Q R:Nat->Nat->Prop}{a b:RG}(h:vH v P a)(h':vH v Q b)(D:∀x y,R x y↔P x y\/Q x y):vH v R (mE a b):=by
 refine⟨λx y I=>?_,?_,?_⟩
 ·unfold mE;dsimp only;rcases (D x y).1 I with p|q
  ·have:=h.all x y p;omega
  ·have:=h'.all x y q;omega
 ·unfold mE;dsimp only;rcases me a.lo b.lo with e|e
  ·obtain⟨x,y,p,z⟩:=h.lo;exact⟨x,y,(D x y).2 (.inl p),by rw[z];omega⟩
  ·obtain⟨x,y,p,z⟩:=h'.lo;exact⟨x,y,(D x y).2 (.inr p),by rw[z];omega⟩
 ·unfold mE;dsimp only;rcases me a.hi b.hi with e|e
  ·obtain⟨x,y,p,z⟩:=h'.hi;exact⟨x,y,(D x y).2 (.inr p),by rw[z];omega⟩
  ·obtain⟨x,y,p,z⟩:=h.hi;exact⟨x,y,(D x y).2 (.inl p),by rw[z];omega⟩
def Bx(V:List Int)(gw:Nat)(x y:Nat):Int:=V.getD (y*gw+x) 0
def nh(x0 y0 x1 y1:Nat):Nat->Nat->Prop:=λx y=>(x0<=x/\x<=x1)/\y0<=y/\y<=y1
theorem Ch(V:List Int)(gw:Nat):∀k x y,vH (Bx V gw) (nh x y (x+2^k-1) (y+2^k-1)) (wm V gw k x y)
 |0,x,y=>by
  refine⟨λJ L h=>?_,⟨x,y,?_,rfl⟩,⟨x,y,?_,rfl⟩⟩
  ·unfold nh at h
   simp only[kX]at h
   obtain rfl:J=x:=om
   obtain rfl:L=y:=om;exact⟨ij _,ij _⟩
  ·unfold nh;simp
  ·unfold nh;simp
 |k+1,x,y=>by
  have O:0<2^k:=mT k;have e:2^(k+1)=2*2^k:=by rw[gb,cD]
  have h1:=Ch V gw k x y;have h2:=Ch V gw k (x+2^k) y;have D:=Ch V gw k x (y+2^k);have I:=Ch V gw k (x+2^k) (y+2^k);have v:=h1.join (R:=nh x y (x+2^(k+1)-1) (y+2^k-1)) h2 (λa b=>by unfold nh;omega);have z:=D.join (R:=nh x (y+2^k) (x+2^(k+1)-1) (y+2^(k+1)-1)) I (λa b=>by unfold nh;omega);exact v.join z (λa b=>by unfold nh;omega)
def f7(gw k:Nat):Nat:=gw+1-2^k
def tf(V:List Int)(gw gh k:Nat):List RG:=(List.range (f7 gw k*f7 gh k)).map λi=>wm V gw k (i%f7 gw k) (i/f7 gw k)
theorem Dq(V:List Int)(gw gh k:Nat):(tf V gw gh k).length=f7 gw k*f7 gh k:=by simp[tf]
theorem zj(V:List Int){x y:Nat}(z:x<f7 gw k)(D:y<f7 gh k):(tf V gw gh k)[y*f7 gw k+x]?=some (wm V gw k x y):=by
 have h1:=jo (Y:=y) z
 have v:y*f7 gw k+x<f7 gw k*f7 gh k:=by
  have:=cI (f7 gw k) (show y+1<=f7 gh k from D);rw[cX,cD (f7 gh k)]at this;omega
 unfold tf;rw[da,eu v,ku,h1.1,h1.2]
def dG(n k:Nat):Nat:=(n-1)/2^k+1
theorem iR(h:1<=n):dG n 0=n:=by simp[dG];omega
theorem Dr(n k:Nat):dG n (k+1)=(dG n k-1)/2+1:=by
 unfold dG;rw[eA,gb,gv]
theorem tg(n k:Nat):1<=dG n k:=Nat.le_add_left 1 _
theorem oZ(k:Nat)(h:1<=n):dG n k<=n:=by
 have:=sR (n-1) (2^k);unfold dG;generalize (n-1)/2^k=q at *;omega
theorem sy(k:Nat)(h:c<n):c/2^k<dG n k:=by
 have:=ji (c:=2^k) (show c<=n-1 by omega);unfold dG;omega
theorem qz{x:Nat}(h:x<dG n (k+1)):2*x<dG n k:=by
 rw[Dr]at h;have:=tg n k;omega
def wn(f:Nat->Nat->RG)(w h x y:Nat):Nat->RG
 |0=>f (2*x) (2*y)
 |i+1=>if 2*x+i%2<w/\2*y+i/2<h then mE (wn f w h x y i) (f (2*x+i%2) (2*y+i/2))else wn f w h x y i
theorem By{f g:Nat->Nat->RG}{w h x y:Nat}(hx:2*x<w)(hy:2*y<h)(he:∀u d,u/2=x->d/2=y->u<w->d<h->f u d=g u d):∀i,i<=4->wn f w h x y i=wn g w h x y i
 |0,_=>he _ _ om om hx hy
 |i+1,hi=>by
  unfold wn
  rw[By hx hy he i om]
  split
  ·rename_i hc
   rw[he _ _ om om hc.1 hc.2]
  ·rfl
theorem Kt{f:Nat->Nat->RG}{w h x y:Nat}:∀n i,i<n->2*x+i%2<w->2*y+i/2<h->(wn f w h x y n).lo<=(f (2*x+i%2) (2*y+i/2)).lo/\(f (2*x+i%2) (2*y+i/2)).hi<=(wn f w h x y n).hi
 |n+1,i,hi,h1,h2=>by
  unfold wn
  by_cases e:i=n
  ·subst e
   rw[a7 ⟨h1,h2⟩]
   unfold mE
   exact⟨Int.min_le_right _ _,Int.le_max_right _ _⟩
  ·have ih:=Kt (f:=f) n i om h1 h2
   split
   ·unfold mE;exact⟨uP (Int.min_le_left _ _) ih.1,uP ih.2 (Int.le_max_left _ _)⟩
   ·exact ih
theorem HH{f:Nat->Nat->RG}{w h x y:Nat}(O:2*x<w)(S:2*y<h):∀n,n<=4->(∃u d,u/2=x/\d/2=y/\u<w/\d<h/\(wn f w h x y n).lo=(f u d).lo)/\∃u d,u/2=x/\d/2=y/\u<w/\d<h/\(wn f w h x y n).hi=(f u d).hi
 |0,_=>⟨⟨2*x,2*y,om,om,O,S,rfl⟩,⟨2*x,2*y,om,om,O,S,rfl⟩⟩
 |n+1,hn=>by
  obtain⟨⟨u,d,h1,h2,U,V,Z⟩,⟨u',d',v,z,D,I,J⟩⟩:=HH (f:=f) O S n om
  unfold wn;split
  ·rename_i L;unfold mE;constructor
   ·rcases me (wn f w h x y n).lo (f (2*x+n%2) (2*y+n/2)).lo with h|h
    ·exact⟨u,d,h1,h2,U,V,by show min _ _=_;rw[Int.min_eq_left h,Z]⟩
    ·exact⟨2*x+n%2,2*y+n/2,om,om,L.1,L.2,by show min _ _=_;rw[Int.min_eq_right h]⟩
   ·rcases me (f (2*x+n%2) (2*y+n/2)).hi (wn f w h x y n).hi with h|h
    ·exact⟨u',d',v,z,D,I,by show max _ _=_;rw[Int.max_eq_left h,J]⟩
    ·exact⟨2*x+n%2,2*y+n/2,om,om,L.1,L.2,by show max _ _=_;rw[Int.max_eq_right h]⟩
  ·exact⟨⟨u,d,h1,h2,U,V,Z⟩,⟨u',d',v,z,D,I,J⟩⟩
def pm(gw gh:Nat)(V:List Int):Nat->Nat->Nat->RG
 |0,x,y=>⟨V.getD (y*gw+x) 0,V.getD (y*gw+x) 0⟩
 |k+1,x,y=>wn (pm gw gh V k) (dG gw k) (dG gh k) x y 4
section
variable{V:List Int}
theorem I5(v:cx<gw)(z:cy<gh):∀k,(pm gw gh V k (cx/2^k) (cy/2^k)).lo<=V.getD (cy*gw+cx) 0/\V.getD (cy*gw+cx) 0<=(pm gw gh V k (cx/2^k) (cy/2^k)).hi
 |0=>by simp[pm]
 |k+1=>by
  have ih:=I5 v z k
  have h1:=sy k v;have h2:=sy k z;have D:cx/2^(k+1)=cx/2^k/2:=by rw[gb,gv]
  have I:cy/2^(k+1)=cy/2^k/2:=by rw[gb,gv]
  rw[D,I];generalize cx/2^k=a at *;generalize cy/2^k=b at *;show(wn (pm gw gh V k) (dG gw k) (dG gh k) (a/2) (b/2) 4).lo<=_/\_<=(wn (pm gw gh V k) (dG gw k) (dG gh k) (a/2) (b/2) 4).hi;have J:2*(a/2)+(a%2+2*(b%2))%2=a:=om;have L:2*(b/2)+(a%2+2*(b%2))/2=b:=om;have:=Kt (f:=pm gw gh V k) (w:=dG gw k) (h:=dG gh k) (x:=a/2) (y:=b/2) 4 (a%2+2*(b%2)) om om om;rw[J,L]at this;omega
theorem Ci(hw:1<=gw)(hh:1<=gh):∀(k x y:Nat),x<dG gw k->y<dG gh k->(∃cx cy,cx<gw/\cy<gh/\cx/2^k=x/\cy/2^k=y/\(pm gw gh V k x y).lo=V.getD (cy*gw+cx) 0)/\∃cx cy,cx<gw/\cy<gh/\cx/2^k=x/\cy/2^k=y/\(pm gw gh V k x y).hi=V.getD (cy*gw+cx) 0
 |0,x,y,hx,hy=>by
  rw[iR hw]at hx
  rw[iR hh]at hy
  exact⟨⟨x,y,hx,hy,by simp,by simp,rfl⟩,⟨x,y,hx,hy,by simp,by simp,rfl⟩⟩
 |k+1,x,y,hx,hy=>by
  obtain⟨⟨u,d,h1,h2,h3,h4,h5⟩,⟨u',d',U,Z,aa,ab,ac⟩⟩:=HH (f:=pm gw gh V k) (qz hx) (qz hy) 4 (cN _)
  obtain⟨⟨cx,cy,a1,a2,a3,a4,a5⟩,_⟩:=Ci hw hh k u d h3 h4;obtain⟨_,⟨O,S,z,D,I,J,L⟩⟩:=Ci hw hh k u' d' aa ab;have v:∀c,c/2^(k+1)=c/2^k/2:=λc=>by rw[gb,gv]
  exact⟨⟨cx,cy,a1,a2,by rw[v,a3,h1],by rw[v,a4,h2],h5.trans a5⟩,⟨O,S,z,D,by rw[v,I,U],by rw[v,J,Z],ac.trans L⟩⟩
theorem Ku:∀(k x y:Nat),x<dG gw k->y<dG gh k->(∀cx cy,cx<gw->cy<gh->cx/2^k=x->cy/2^k=y->V.getD (cy*gw+cx) 0=V'.getD (cy*gw+cx) 0)->1<=gw->1<=gh->pm gw gh V k x y=pm gw gh V' k x y
 |0,x,y,hx,hy,h,hw,hh=>by
  rw[iR hw]at hx
  rw[iR hh]at hy
  have:=h x y hx hy (by simp) (by simp)
  unfold pm;rw[this]
 |k+1,x,y,hx,hy,h,hw,hh=>By (qz hx) (qz hy) (λu d h1 h2 I J=>Ku k u d I J (λcx cy v a2 z D=>h cx cy v a2 (by rw[gb,<-gv,z,h1]) (by rw[gb,<-gv,D,h2])) hw hh) 4 (cN _)
end
section
variable{ps:String}
theorem Ck{el:TypeId}{len:Nat}{v:List (Nat×Operand)}{z:Value}{l0:List Value}(O:P.underlying t=some (.array len el))(L:∀w,(sizeOf el).run P w=.ok k w)(S:∀w,(zeroValue t).run P w=.ok z w)(h1:yS (λi=>some (i*k,k)) z.cells.toList (yQ e v)=some l0)(h2:lj l0=some l):iE P e ⟨d,.build t v.toArray,ty,ps,af,none⟩ (.agg l.toArray):=by
 intro w;have D:=mK h2;subst D;have y:=v8 h1;have I:(z.cells.toList).toArray=z.cells:=by simp
 rw[I]at y;have J:(v.map λp=>(p.1,ev e p.2))=yQ e v:=EY e v;simp[gd,execOp,Instr.build,S,dS O,L,J,y]
theorem rR{el:TypeId}{i:Operand}{len:Nat}{kd:IntKind}{n:Int}{cs:List Value}(z:P.underlying t=some (.array len el))(hd:P.underlying el=some dd)(J:∀w,(sizeOf el).run P w=.ok k w)(y:sM dd=true)(I:ev e x=.agg cs.toArray)(hi:ev e i=.int kd n)(v:0<=n)(h1:n<len)(D:(cs.drop (n.toNat * k)).take k=l):iE P e ⟨d,.index t x i,ty,ps,af,none⟩ (.agg l.toArray):=by
 intro w;simp[gd,execOp,I,hi,Instr.index,asIntOf,dS z,J,v,h1,part,si hd,y];exact D
end
def FC(gw n i:Nat):Nat->Bool
 |0=>decide (gw<=i)
 |1=>decide (0<i%gw)
 |2=>decide (i%gw+1<gw)
 |_=>decide (i+gw<n)
def Hm(gw i:Nat):Nat->Int
 |0=>(i:Int)-gw
 |1=>(i:Int)-1
 |2=>(i:Int)+1
 |_=>(i:Int)+gw
def Ky(gw n i:Nat):Nat->List Nat
 |0=>if gw<=i then [i-gw]else []
 |1=>if 0<i%gw then [i-1]else []
 |2=>if i%gw+1<gw then [i+1]else []
 |_=>if i+gw<n then [i+gw]else []
def Cl(gw n i:Nat):Nat->List Nat
 |0=>[]
 |k+1=>Cl gw n i k++Ky gw n i k
theorem MP(gw n i:Nat):Cl gw n i 4=qg gw n i:=by
 simp only[Cl,Ky,qg,jL]
theorem QA(v:0<gw)(hi:i<gw*gh)(k:Nat)(y:k<4) :
  (FC gw (gw*gh) i k=true/\∃a,Hm gw i k=(a:Nat)/\a<gw*gh/\Ky gw (gw*gh) i k=[a])\/(FC gw (gw*gh) i k=false/\Ky gw (gw*gh) i k=[]):=by
 have z:=Kv (gh:=gh) v hi
 have D:0<i%gw->1<=i:=λh=>by
  rcases iZ i with h1|h1
  ·subst h1;simp at h
  ·exact h1
 match k,y with
 |0,_ =>
  by_cases h:gw<=i
  ·exact .inl ⟨cF h,i-gw,by simp only[Hm];omega,om,a7 h⟩
  ·exact .inr ⟨cC h,a8 h⟩
 |1,_ =>
  by_cases h:0<i%gw
  ·exact .inl ⟨cF h,i-1,by have:=D h;simp only[Hm];omega,om,a7 h⟩
  ·exact .inr ⟨cC h,a8 h⟩
 |2,_ =>
  by_cases h:i%gw+1<gw
  ·exact .inl ⟨cF h,i+1,by simp only[Hm];omega,z h,a7 h⟩
  ·exact .inr ⟨cC h,a8 h⟩
 |3,_ =>
  by_cases h:i+gw<gw*gh
  ·exact .inl ⟨cF h,i+gw,by simp only[Hm];omega,h,a7 h⟩
  ·exact .inr ⟨cC h,a8 h⟩
def Tz(gw n i:Nat):List Value:=[.bool (FC gw n i 0),ii (Hm gw i 0),.bool (FC gw n i 1),ii (Hm gw i 1),.bool (FC gw n i 2),ii (Hm gw i 2),.bool (FC gw n i 3),ii (Hm gw i 3)]
theorem MQ(k:Nat)(v:k<4):((Tz gw n i).drop ((k:Int).toNat * 2)).take 2=[.bool (FC gw n i k),ii (Hm gw i k)]:=by
 match k,v with
 |0,_=>rfl
 |1,_=>rfl
 |2,_=>rfl
 |3,_=>rfl
def yh(V:List Int)(i:Nat)(l:List Nat):Nat:=l.foldl (λb n=>if V.getD n 0<V.getD b 0 then n else b) i
theorem TA(V:List Int)(i:Nat)(l r:List Nat):yh V i (l++r)=yh V (yh V i l) r:=nT
theorem FD(V:List Int):∀(l:List Nat)(i:Nat),yh V i l=i\/(yh V i l∈l/\V.getD (yh V i l) 0<V.getD i 0)
 |[],i=>.inl rfl
 |n::l,i=>by
  show yh V (if V.getD n 0<V.getD i 0 then n else i) l=i\/_
  have ih:=FD V l
  have e:yh V i (n::l)=yh V (if V.getD n 0<V.getD i 0 then n else i) l:=rfl;rw[e];by_cases h:V.getD n 0<V.getD i 0
  ·rw[a7 h];rcases ih n with h1|⟨h1,h2⟩
   ·rw[h1];exact .inr ⟨eB,h⟩
   ·exact .inr ⟨cW _ h1,om⟩
  ·rw[a8 h];rcases ih i with h1|⟨h1,h2⟩
   ·exact .inl h1
   ·exact .inr ⟨cW _ h1,h2⟩
def kW(gw:Nat)(V:List Int)(i:Nat):Nat:=yh V i (qg gw V.length i)
theorem Cm{V:List Int}(v:0<gw)(y:V.length=gw*gh)(hi:i<gw*gh):kW gw V i=i\/(kW gw V i<gw*gh/\V.getD (kW gw V i) 0<V.getD i 0):=by
 rcases FD V (qg gw V.length i) i with h|⟨h1,h2⟩
 ·exact .inl h
 ·rw[y]at h1;refine .inr ⟨?_,h2⟩;have:=((tC v hi).1 h1).1;unfold kW;rw[y];exact this
theorem HI{V:List Int}(v:0<gw)(y:V.length=gw*gh)(hi:i<gw*gh):kW gw V i<gw*gh:=by
 rcases Cm v y hi with h|h
 ·rw[h];exact hi
 ·exact h.1
def xx(f:Nat->Nat):Nat->Nat->Nat
 |0,i=>i
 |k+1,i=>f (xx f k i)
theorem zn(f:Nat->Nat):∀k i,xx f (k+1) i=xx f k (f i)
 |0,i=>rfl
 |k+1,i=>congrArg f (zn f k i)
structure FE(n:Nat)(v:Nat->Int)(f:Nat->Nat):Prop where
 lt:∀i,i<n->f i<n
 fall:∀i,i<n->f i=i\/v (f i)<v i
def FF(f:Nat->Nat)(c k:Nat):Prop:=(∀j,j<k->xx f (j+1) c≠xx f j c)/\xx f (k+1) c=xx f k c
section
variable{v:Nat->Int}{f:Nat->Nat}
theorem FF.uniq(h:FF f c k)(h':FF f c k'):k=k':=by
 rcases qG k k' with e|e|e
 ·exact absurd h.2 (h'.1 k e)
 ·exact e
 ·exact absurd h'.2 (h.1 k' e)
theorem FE.itr_lt(h:FE n v f)(hc:c<n):∀k,xx f k c<n
 |0=>hc
 |k+1=>h.lt _ (h.itr_lt hc k)
theorem FE.stops(h:FE n v f):∀(r c:Nat),c<n->zk n v c<=r->∃k,FF f c k/\k<=r
 |r,c,hc,hr=>by
  rcases h.fall c hc with e|e
  ·exact⟨0,⟨λj D=>by omega,e⟩,ib _⟩
  ·have h1:=zm (n:=n) (d:=v) (i:=f c) (j:=c) (h.lt c hc) e
   cases r with
   |zero=>omega
   |succ r =>
    obtain⟨k,y,I⟩:=h.stops r (f c) (h.lt c hc) om;refine⟨k+1,⟨λj D=>?_,?_⟩,om⟩
    ·cases j with
     |zero=>show f c≠c;intro z;rw[z]at e;omega
     |succ j=>rw[zn f (j+1) c,zn f j c];exact y.1 j om
    ·rw[zn f (k+1) c,zn f k c];exact y.2
theorem FE.stop(h:FE n v f)(y:c<n):∃k,FF f c k/\k<n:=by
 obtain⟨k,h1,h2⟩:=h.stops _ c y (cN _);have:=AD (n:=n) (d:=v) y;exact⟨k,h1,om⟩
def zp(f:Nat->Nat)(c k:Nat):List Nat:=(List.range (k+1)).map λj=>xx f j c
theorem MR:zp f c (k+1)=zp f c k++[xx f (k+1) c]:=by
 unfold zp;rw[eG,fq];rfl
theorem QB(h:j<k+1):(zp f c k)[j]?=some (xx f j c):=by simp[zp,h]
theorem MS:(zp f c k)[k]?=some (xx f k c):=QB (Nat.lt_succ_self k)
end
theorem FG{V:List Int}(v:0<gw)(y:V.length=gw*gh):FE (gw*gh) (λi=>V.getD i 0) (kW gw V) :=
 ⟨λi hi=>HI v y hi,λi hi=>(Cm v y hi).imp id (λh=>h.2)⟩
def ur(u:Nat):Nat:=if u<128 then 1 else 1+ur (u/128)
 termination_by u
 decreasing_by omega
theorem vI{u:Nat}(h:u<128):ur u=1:=by rw[ur,a7 h]
theorem yj{u:Nat}(h:128<=u):ur u=1+ur (u/128):=by rw[ur,a8 om]
theorem us:∀(k u:Nat),u<128^(k+1)->ur u<=k+1
 |0,u,h=>by rw[vI om];omega
 |k+1,u,h=>by
  by_cases h1:u<128
  ·rw[vI h1];omega
  ·rw[yj om]
   have:=us k (u/128) (cS (by rw[gb,cD]at h;exact h))
   omega
theorem Dt(u:Nat):1<=ur u:=by
 by_cases h1:u<128
 ·rw[vI h1];omega
 ·rw[yj om];omega
def sW(n:Int):Nat:=if 0<=n then(2*n).toNat else(-2*n-1).toNat
def Du(z:Nat):Nat:=if z=0 then 0 else 1+ur (z-1)
def tN:Nat->List Int->Nat
 |z,[]=>Du z
 |z,x::r=>if x=0 then tN (z+1) r else Du z+ur (sW x)+tN 0 r
theorem VO{z:Nat}{l:List Int}(h:∀x r,l=x::r->x≠0):tN z l=Du z+tN 0 l:=by
 cases l with
 |nil=>simp[tN,Du]
 |cons x r =>
  have:=h x r rfl;rw[tN,a8 this,tN,a8 this];simp[Du];omega
theorem TB{l:List Int}(h:i<l.length)(v:l.getD i 0=0)(z:Nat):tN z (l.drop i)=tN (z+1) (l.drop (i+1)):=by
 rw[dX h];have:l[i]=0:=by rw[cO,ct h]at v;exact v
 rw[tN,a7 this]
theorem TC{l:List Int}(h:i<l.length)(v:l.getD i 0≠0):tN 0 (l.drop i)=ur (sW (l.getD i 0))+tN 0 (l.drop (i+1)):=by
 rw[dX h];have e:l.getD i 0=l[i]:=by rw[cO,ct h];rfl
 rw[e]at v ⊢;rw[tN,a8 v];simp[Du]
theorem Dv{B:Nat}:∀(l:List Int)(z:Nat),(∀x∈l,ur (sW x)<=B)->2<=B->z+l.length<=16384->tN z l<=(if z=0 then 0 else 3)+3*B*l.length
 |[],z,_,_,hz=>by
  unfold tN Du
  split
  ·simp
  ·have:=us 1 (z-1) (by simp at hz;omega)
   simp;omega
 |x::r,z,h,hB,hz=>by
  simp only[fc]at hz;have e:3*B*(x::r).length=3*B*r.length+3*B:=by rw[fc,nk]
  rw[e];unfold tN;split
  ·have ih:=Dv r (z+1) (λy v=>h y (cW _ v)) hB om;rw[a8 om]at ih;generalize 3*B*r.length=q at *;split<;>omega
  ·have ih:=Dv r 0 (λy v=>h y (cW _ v)) hB om;have I:=h x (by simp);rw[a7 rfl]at ih
   have D:Du z<=if z=0 then 0 else 3:=by
    unfold Du;split
    ·omega
    ·have:=us 1 (z-1) om;omega
   generalize 3*B*r.length=q at *;generalize Du z=p at *;split at D<;>simp_all<;>omega
def gN(kind:Nat)(c:Nat->Int)(w i:Nat):Int :=
 if kind=0 then 0 else if kind=1\/i<w\/i%w=0 then(if i=0 then 0 else if i%w=0 then c (i-w)else c (i-1))
 else min (max (c (i-1)+c (i-w)-c (i-w-1)) (min (c (i-1)) (c (i-w)))) (max (c (i-1)) (c (i-w)))
def mp(kind:Nat)(V:List Int)(w:Nat):List Int:=(List.range V.length).map λi=>V.getD i 0-gN kind (λj=>V.getD j 0) w i
theorem pU(kind:Nat)(V:List Int)(w:Nat):(mp kind V w).length=V.length:=by simp[mp]
theorem I8{w:Nat}{V:List Int}(D:1<=w)(hi:i<V.length)(v:∀x∈V,-2147483648<=x/\x<=2147483647):-2147483648<=gN kind (λj=>V.getD j 0) w i/\gN kind (λj=>V.getD j 0) w i<=2147483647:=by
 have h:∀j,j<=i->-2147483648<=V.getD j 0/\V.getD j 0<=2147483647:=λj y=>by
  refine v _ ?_;rw[cO,ct om];exact fY _
 have h1:=h (i-1) om;have h2:=h (i-w) om;unfold gN;split
 ·omega
 ·split
  ·split
   ·omega
   ·split
    ·exact h2
    ·exact h1
  ·dsimp only;generalize V.getD (i-w-1) 0=z;omega
theorem Kz{w:Nat}{V:List Int}(y:1<=w)(v:∀x∈V,-2147483648<=x/\x<=2147483647):∀x∈mp kind V w,-4294967295<=x/\x<=4294967295:=by
 intro x z;obtain⟨i,hi,rfl⟩:=fC.1 z;have hi:=dJ.1 hi;have h1:=I8 (kind:=kind) y hi v
 have h2:-2147483648<=V.getD i 0/\V.getD i 0<=2147483647:=by
  refine v _ ?_;rw[cO,ct hi];exact fY _
 omega
def zu(V:List Int)(w:Nat):Nat :=
 let f:=λk=>tN 0 (mp k V w)
 let b1:=if f 1<f 0 then 1 else 0
 if f 2<f b1 then 2 else b1
theorem QC(V:List Int)(w:Nat):zu V w<=2/\tN 0 (mp (zu V w) V w)<=tN 0 (mp 1 V w):=by
 unfold zu;dsimp only;split<;>split<;>constructor<;>omega
section
variable{ps:String}
theorem FH{y:Operand}{a:Nat}{kd:IntKind}(v:ev e x=ii a)(z:ev e y=.int kd k)(D:k<=64):iE P e ⟨d,.binOp .shr t x y t',ty,ps,af,none⟩ (ii ((a/2^k:Nat):Int)):=by
 intro w
 have h:(binOp .shr t (ii a) (.int kd k)).run P w=.ok (ii ((a/2^k:Nat):Int)) w:=by
  have h1:min (k:Int).toNat 64=k:=by rw[b7];omega
  have h2:¬(k:Int)<0:=om
  have:(a:Int).fdiv (2^k)=((a/2^k:Nat):Int):=by
   rw[jp _ (Int.le_of_lt (Int.pow_pos om))];push_cast;rfl
  simp only[b7]at h1;simp[binOp,Op.shift,IntKind.bits,this,h1,h2]
 simp[gd,execOp,v,z,eqGuard,h]
theorem Cn{y:Operand}{a:Nat}{kd:IntKind}(z:ev e x=ii a)(D:ev e y=.int kd k)(I:k<=64)(v:a*2^k<9223372036854775808):iE P e ⟨d,.binOp .shl t x y t',ty,ps,af,none⟩ (ii ((a*2^k:Nat):Int)):=by
 refine vz z D om ?_;have h1:min (k:Int).toNat IntKind.i64.bits=k:=by rw[b7];show min k 64=k;omega
 rw[h1,show(a:Int)*2^k=((a*2^k:Nat):Int)by push_cast;rfl];exact gC _ om
end
def fW(gw gh:Nat):Nat:=td (max gw gh-1)+1
theorem FJ:∀n:Nat,n<1024->td n<=10:=by decide+kernel
theorem lI(y:gw<=1024)(v:gh<=1024):1<=fW gw gh/\fW gw gh<=11:=by
 unfold fW;by_cases h:max gw gh-1<1024
 ·have:=FJ _ h;omega
 ·omega
theorem QD(v:k<=10):2^k<=1024:=fP om v
theorem TD:∀n:Nat,n<1024->n<2^td n:=by decide+kernel
theorem KA(y:n<=m)(v:m<=1024)(h1:1<=n):dG n (td (m-1))=1:=by
 have:=TD (m-1) om;unfold dG;rw[ee om]
theorem Bz(V:1<=gw/\gw<=1024)(U:1<=gh/\gh<=1024):Fn prog 193 [ii gw,ii gh] W (dp (.tuple #[ii (fW gw gh),ii 0]) W):=by
 have y:dF 0 0 0 0 gw gh=0:=gW om om om om;have O:=FJ (max gw gh-1) om;have D:max (gw:Int) gh-1=((max gw gh-1:Nat):Int):=om;have S:=St.start W;refine zI func193 ?_;refine z ?_;refine z ?_;refine zs ?_;refine cq (kL (pl:=[(0,1),(1,1),(2,1),(3,1)]) xa Ac (λw=>by kernel_rfl) rfl rfl) ?_;refine z ?_;refine z ?_;refine eY rfl (jW _ _ _ _ _ _ om om W) ?_;rintro _ J ⟨rfl,v⟩;have S:=S.gr v;rw[y];refine zg ?_;rw[D];refine Y9 (n:=((max gw gh-1:Nat):Int)) (m:=((max gw gh-1:Nat):Int)) rfl (re _ om) ?_;refine zC (Ks (W:=_) (max gw gh-1) om) ?_;intro L I S;refine zX ?_;exact⟨by unfold fW;rfl,S.out⟩
theorem KB(n k:Nat)(D:1<=n/\n<=1024)(I:k<=10):Fn prog 194 [ii n,ii k] W (dp (ii (dG n k)) W):=by
 have y:(n:Int)-1=((n-1:Nat):Int):=om;have z:=oZ k D.1;have v:(((n-1)/2^k:Nat):Int)+1=(dG n k:Nat):=rfl;have S:=St.start W;refine zI func194 ?_;refine zg ?_;rw[y];refine zg ?_;refine cq (FH rfl rfl om) ?_;refine cq (fh rfl (by rw[v];omega)) ?_;rw[v];exact zZ
theorem xL(k:Nat)(y:1<=gw/\gw<=1024)(v:1<=gh/\gh<=1024)(U:k<fW gw gh):Fn prog 127 [ii gw,ii gh,ii k] W (dp (.tuple #[ii (dG gw k),ii (dG gh k),ii 0]) W):=by
 have V:=lI y.2 v.2;have S:=St.start W;refine zI func127 ?_;refine zC (Bz y v) ?_;intro J z S;refine zC (KB gw k y om) ?_;intro L D S;refine zC (KB gh k v om) ?_;intro O I S;exact zZ
theorem Dw(k x y:Nat)(L:1<=gw/\gw<=1024)(I:1<=gh/\gh<=1024)(J:k<fW gw gh)(V:x<dG gw k)(Z:y<dG gh k):Fn prog 198 [ii gw,ii gh,ii k,.agg #[ii x,ii y]] W (dp (ii 0) W):=by
 have S:=St.start W;refine zI func198 ?_;refine zN ?_;intro v O z S;refine zC (xL k L I J) ?_;intro U D S;exact zZ
theorem Co(k x y:Nat)(I:1<=gw/\gw<=1024)(D:1<=gh/\gh<=1024)(hk:k<fW gw gh)(hx:x<dG gw k)(hy:y<dG gh k):Fn prog 129 [ii gw,ii gh,ii k,.agg #[ii x,ii y]] W
  (dp (.tuple #[.agg #[ii (x*2^k:Nat),ii (y*2^k:Nat),ii ((min ((x+1)*2^k) gw-1:Nat):Int),ii ((min ((y+1)*2^k) gh-1:Nat):Int)],ii 0]) W):=by
 have hl:=lI I.2 D.2;have z:=QD (k:=k) om;have v:0<2^k:=ic om;have ad:=oZ k I.1;have ae:=oZ k D.1;have b1:x*2^k<=1024*1024:=cE om z;have b2:y*2^k<=1024*1024:=cE om z;have b3:(x+1)*2^k<=1024*1024:=cE om z;have b4:(y+1)*2^k<=1024*1024:=cE om z;have c3:1<=(x+1)*2^k:=cE (show 1<=x+1 by omega) v;have c4:1<=(y+1)*2^k:=cE (show 1<=y+1 by omega) v;have V:(x:Int)+1=((x+1:Nat):Int):=rfl;have Z:(y:Int)+1=((y+1:Nat):Int):=rfl;have J:min (((x+1)*2^k:Nat):Int) gw-1=((min ((x+1)*2^k) gw-1:Nat):Int):=om;have L:min (((y+1)*2^k:Nat):Int) gh-1=((min ((y+1)*2^k) gh-1:Nat):Int):=om;have S:=St.start W;refine zI func129 ?_;refine zN ?_;intro O ag aa S;refine zN ?_;intro U ah ab S;refine zC (Dw k x y I D hk hx hy) ?_;intro ai ac S;refine zD [0,1,2,3,4,5,6,7,8,9,10,11,12,13,14,15,16,17,18,19,20,21,22,23] [24,25,26] ?_;refine eO (Cn rfl rfl om om) ?_;refine zQ ?_;refine eO (Cn rfl rfl om om) ?_;refine zQ ?_;rw[V];refine zQ ?_;refine eO (Cn rfl rfl om om) ?_;iterate 2 refine eO (cH rfl) ?_
 refine eO (fh rfl (by rw[J];omega)) ?_;rw[J];refine zQ ?_;rw[Z];refine zQ ?_;refine eO (Cn rfl rfl om om) ?_;iterate 2 refine eO (cH rfl) ?_
 refine eO (fh rfl (by rw[L];omega)) ?_;rw[L];refine zE ?_;refine zS ?_;intro aj S;exact pG S ⟨rfl,S.out⟩
theorem HJ(k x y:Nat)(z:1<=gw/\gw<=1024)(v:1<=gh/\gh<=1024)(V:k<fW gw gh)(Z:x<gw)(hy:y<gh):Fn prog 254 [ii gw,ii gh,ii k,.agg #[ii x,ii y]] W
  (dp (.tuple #[.agg #[ii (x/2^k:Nat),ii (y/2^k:Nat)],ii 0]) W):=by
 have hl:=lI z.2 v.2;have S:=St.start W;refine zI func254 ?_;refine zN ?_;intro D aa J S;refine zN ?_;intro I ab L S;refine zC (xL k z v V) ?_;intro ac O S;refine zC (Dw 0 x y z v om (by rw[iR z.1];exact Z) (by rw[iR v.1];exact hy)) ?_;intro ad U S;refine zD [0,1,2,3,4,5,6,7] [8,9,10] ?_;refine eO (FH rfl rfl om) ?_;refine zQ ?_;refine eO (FH rfl rfl om) ?_;refine zE ?_;refine zS ?_;intro ae S;exact pG S ⟨rfl,S.out⟩
end Go.Proofs.YtceahkcepefcaaaGreatDoor
