/- A part of the proof that hachuretop.WholeCharts and hachuretop.WholeWater returns true at every input; no condition. -/
import Derived.Test.YtcalhocphkbbgaaGreatDoorKU
import Derived.Test.YtcalhocphkbbgaaGreatDoorKV
import Derived.Test.YtcalhocphkbbgaaGreatDoorKT
set_option maxRecDepth 100000
set_option maxHeartbeats 16000000
set_option linter.unusedVariables false
set_option linter.unusedSimpArgs false
namespace Go.Proofs.YtcalhocphkbbgaaGreatDoor
open Go.Proofs.Tryz Go.RowKit
variable{Q:(Nat->Value)->World->Prop}{af:Array Edge}{tys:Array TypeId}{bd:Code}{f fdo:FuncId}{h h':HA}{X0 X1 Y Y0 Y1 a ax ay bx e0 now stamp:Int}{σ:List (Nat × Value)}{ls:List BR}{L' L0 M T tl:List HA}{V' V1 V2:List Int}{hd:List Nat}{args:List Operand}{l l2 vs xs:List Value}{b c c1 c2 dn g gh gw i j k k1 k2 kb lc m n p q sb sn t2 tb x0 x1 y0 y1:Nat}{cc:Nat->Int}{bs:Nat->Nat}{As:Nat->Option Addr}{Rs Rs2:Nat->Option Nat}{F X:Nat->Prop}{e:Nat->Value}{op:Op}{o:m5}{hi x:Operand}{A A1 A2 B gp lA lp ov pp:Option Addr}{d:Option Tmp}{G:Prop}{r:Rc}{s s':lT}{α:Type}{t ty:TypeId}{u:Value}{R:Value->World->Prop}{W w w' wq:World}{C:World->Prop}
def gZ.told(r:gZ)(e:Int):gZ:=if e=0 then r else { code:=e }
def vY(ov:Option Addr)(now:Int)(gw gh:Nat)(V:List Int)(M:List HA):Prop:=(ov=none/\M=[])\/∃sn st V0,ov=some ⟨sn,0,none⟩/\Ob sn st gw gh V0 M/\vB V0/\st<=now/\(st=now->V0=V)
section
variable{yb cap:Nat}{V:List Int}{r:gZ}
theorem o4(e:Int):Fn prog 56 [r.v,ii e] W (dp (r.told e).v W):=by
 unfold gZ.told;by_cases v:e=0
 ·rw[a7 v,v];exact vE
 ·rw[a8 v];have S:=St.start W;refine zI func56 ?_;refine zN ?_;intro y J D S;refine zN ?_;intro z L I S;refine zS ?_;intro O S;exact rA S ⟨rfl,S.out⟩
theorem WG(x y:Int)(v:eJ W p gw gh cc A cap bs Rs):Fn prog 50 [pt p,.agg #[ii x,ii y]] W (dp (.tuple #[ii (if mD gw gh (x,y)=true then cc (y.toNat * gw+x.toNat)else 0),ii (LS gw gh x y)]) W):=by
 unfold LS;by_cases h:mD gw gh (x,y)=true
 ·rw[a7 h,a7 h];have hi:=jT.1 h;dsimp only at hi;obtain⟨X,z⟩:=cJ hi.1;obtain⟨Y,D⟩:=cJ hi.2.2.1;subst z D;exact MI X Y om om v
 ·rw[a8 h,a8 h];exact Fq x y (λI=>h (jT.2 (by dsimp only;omega))) v
theorem Ot(x0 y0 x1 y1:Int)(O:vB V)(L:1<=gw/\gw<=1024)(J:1<=gh/\gh<=1024)(I:iM W yb gw gh V) :
  Fn prog 52 [pt yb,.agg #[ii x0,ii y0,ii x1,ii y1]] W (λu w'=>∃(z:Int)(x y:Nat),u=.tuple #[ii z,.agg #[ii x,ii y],ii (dF x0 y0 x1 y1 gw gh)]/\(dF x0 y0 x1 y1 gw gh=0->CY gw V ⟨x0.toNat,y0.toNat,x1.toNat,y1.toNat⟩ z x y)/\Gr W w'):=by
 by_cases v:dF x0 y0 x1 y1 gw gh=0
 ·rw[v];obtain⟨r,S,rfl,rfl,rfl,rfl⟩:=nP v;exact(Sh O L J S I).mono λu w'⟨z,x,y,D,h,g⟩=>⟨z,x,y,D,λ_=>h,g⟩
 ·exact(LP x0 y0 x1 y1 L J v I).mono λu w'⟨D,g⟩=>⟨0,0,0,D,λh=>absurd h v,g⟩
theorem Sk(x0 y0 x1 y1:Int)(O:vB V)(L:1<=gw/\gw<=1024)(J:1<=gh/\gh<=1024)(I:iM W yb gw gh V) :
  Fn prog 53 [pt yb,.agg #[ii x0,ii y0,ii x1,ii y1]] W (λu w'=>∃(z:Int)(x y:Nat),u=.tuple #[ii z,.agg #[ii x,ii y],ii (dF x0 y0 x1 y1 gw gh)]/\(dF x0 y0 x1 y1 gw gh=0->E9 gw V ⟨x0.toNat,y0.toNat,x1.toNat,y1.toNat⟩ z x y)/\Gr W w'):=by
 by_cases v:dF x0 y0 x1 y1 gw gh=0
 ·rw[v];obtain⟨r,S,rfl,rfl,rfl,rfl⟩:=nP v;exact(UJ O L J S I).mono λu w'⟨z,x,y,D,h,g⟩=>⟨z,x,y,D,λ_=>h,g⟩
 ·exact(Ol x0 y0 x1 y1 L J v I).mono λu w'⟨D,g⟩=>⟨0,0,0,D,λh=>absurd h v,g⟩
end
theorem lT.pyrAtG(S:St F W w (s.L++tl)):iM w s.yb s.gw s.gh s.V:=⟨s.lA,s.lc,s.As,s.cs,S.blk (i:=5) rfl,S.rd (i:=6) rfl,λk v=>(S.prow (i:=7) rfl v).rd⟩
theorem St.backG{A B:List HA}{k:HA}(S:St F W w (k::(A++(B++tl)))):St F W w ((A++B)++(k::tl)):=by
 rw[<-cL]at S;exact S.perm_ ef.symm
theorem St.forthG{A B:List HA}{k:HA}(S:St F W w ((A++B)++(k::tl))):St F W w (k::(A++(B++tl))):=by
 have:=S.perm_ ef;rwa[cL]at this
theorem CX.ok9{A:List HA}{σ:List Value}{R:Prop}(z:CX F W (h::A) 0 h' σ w)(y:St F W w A->R):R:=by
 cases σ with
 |nil=>exact y (St.drop (show St F W w _ from z) 1)
 |cons v r=>obtain⟨L',e,S⟩:=z;cases e;exact y (S.drop 1)
theorem PZ(V:o.k=6):pQ F W (s.L++M) s.sb o true (48) (λ_:Unit=>(({ code:=0,n:=if mD s.gw s.gh (o.ax,o.ay)=true then s.cc (o.ay.toNat * s.gw+o.ax.toNat)else 0 }:gZ).told (LS s.gw s.gh o.ax o.ay))) (λ_=>s.L++M):=by
 intro kb tl w S;replace S:=St.forthG S;obtain⟨ok,ai,ak,aj,al,v,y,ag,ah,n,m,vs,bs,bd⟩:=o;dsimp only at V;subst V;replace S:St F W w (.blk kb 3 [ii 6]::(s.L++(M++tl))):=S;have O:=λw G=>WG (W:=w) (gw:=s.gw) (gh:=s.gh) (cc:=s.cc) (p:=s.p) (A:=s.A) (cap:=s.cap) (bs:=s.bs) (Rs:=s.Rs) v y G;dsimp only;generalize (if mD s.gw s.gh (v,y)=true then s.cc (y.toNat * s.gw+v.toNat)else 0)=z at *;generalize LS s.gw s.gh v y=e at *;refine zI func48 ?_;refine zN ?_;intro U an ab S;refine zN ?_;intro I ao ac S;refine zN ?_;intro J ap ad S;refine zC (pj (S.blk (i:=6) rfl)) ?_;intro aq ae S;refine zH (C:=(CX _ _ _ 0 (.blk J 40 [ii 0,ii z,.bool false,ii 0,ii 0,.slice none 0 0,.slice none 0 0,.slice none 0 0,.slice none 0 0,.slice none 0 0]))) [11] [0,1,2,3,4,5,6,7,8,9,10,11] [12] (CX.start (S.gr (Gr.drew _))) ?_;refine zV (λτ wq D=>(D.blk (j:=4) (by decide) rfl)) ?_;refine zV (λτ wq D=>(D.blk (j:=2) (by decide) rfl)) ?_;refine jH rfl rfl (λτ wq D=>(O wq (show eJ wq _ _ _ _ _ _ _ _ from D.ok (j:=5) (by decide) rfl)).mono (λ_ _⟨hv,hg⟩=>⟨hv,D.gr hg⟩)) ?_;refine zR ?_;refine de rfl rfl (λwq D=>Ak D rfl (cR _) rfl rfl rfl rfl rfl rfl rfl) ?_;rintro am ar _;refine zY ?_;rintro au ⟨aa,L,S⟩;obtain rfl:=Option.some.inj L;refine zC (o4 (r:={ code:=0,n:=z }) e) ?_;refine zS ?_;intro Z S;exact rA S ⟨(),rfl,St.backG (S.drop 3)⟩
theorem vY.at_{V:List Int}(h:vY ov now gw gh V M):∃b,∀{F:Nat->Prop}{W w:World}{A B tl:List HA},St F W w (A++(B++(M++tl)))->DU w ov now gw gh V b:=by
 rcases h with⟨rfl,_⟩|⟨sn,st,v,rfl,z,y,_,D⟩
 ·exact⟨false,λ_=>.inl ⟨rfl,rfl⟩⟩
 ·exact⟨decide (st=now),λS=>.inr ⟨sn,st,v,rfl,z.at_ (St.tail (St.tail S)),y,D,rfl⟩⟩
theorem WH(Z:s.ok)(hM:vY s.ov s.stamp s.gw s.gh s.V M)(hk:o.k=7):pQ F W (s.L++M) s.sb o true (48) (λ_:Unit=>(({ code:=0,n:=GG s.V s.gw s.gh o.x0 o.y0 o.x1 o.y1 }:gZ).told (dF o.x0 o.y0 o.x1 o.y1 s.gw s.gh))) (λ_=>s.L++M):=by
 intro kb tl w S;obtain⟨b,hO⟩:=hM.at_;replace S:=St.forthG S;obtain⟨ok,y,I,D,J,ai,aj,ak,al,n,m,vs,bs,bd⟩:=o;dsimp only at hk;subst hk;replace S:St F W w (.blk kb 3 [ii 7]::(s.L++(M++tl))):=S;have V:=λw z h1 h2 h3 h4=>UH (W:=w) (z:=z) (ov:=s.ov) (lb:=s.lb) (p:=s.p) (tb:=s.tb) (now:=s.stamp) (gw:=s.gw) (gh:=s.gh) (cc:=s.cc) (A:=s.A) (cap:=s.cap) (bs:=s.bs) (Rs:=s.Rs) (b:=b) y I D J Z.hB h1 h2 h3 h4;dsimp only;generalize GG s.V s.gw s.gh y I D J=z at *;generalize dF y I D J s.gw s.gh=e at *;refine zI func48 ?_;refine zN ?_;intro aa an ad S;refine zN ?_;intro L ao ae S;refine zN ?_;intro O ap ag S;refine zC (pj (S.blk (i:=6) rfl)) ?_;intro aq ah S;refine zH (C:=(CX _ _ _ 0 (.blk O 40 [ii 0,ii z,.bool false,ii 0,ii 0,.slice none 0 0,.slice none 0 0,.slice none 0 0,.slice none 0 0,.slice none 0 0]))) [20] [0,1,2,3,4,5,6,7,8,9,10,11,12,13,14,15,16,17,18,19,20] [21] (CX.start (S.gr (Gr.drew _))) ?_;refine zV (λτ wq v=>(v.blk (j:=4) (by decide) rfl)) ?_;refine zV (λτ wq v=>(v.blk (j:=4) (by decide) rfl)) ?_;refine zV (λτ wq v=>(v.blk (j:=4) (by decide) rfl)) ?_;refine zV (λτ wq v=>(v.blk (j:=2) (by decide) rfl)) ?_;refine jH rfl rfl (λτ wq v=>(V wq _ (v.ok9 (λS=>hO (A:=[_,_,_]) (B:=s.L) (tl:=tl) S)) (v.blk (j:=6) (by decide) rfl) (show eJ wq _ _ _ _ _ _ _ _ from v.ok (j:=5) (by decide) rfl) ⟨s.A1,s.c1,v.blk (j:=7) (by decide) rfl,(show gH wq _ _ _ _ _ _ from v.ok (j:=8) (by decide) rfl).rd⟩).mono (λ_ _⟨hv,hg⟩=>⟨hv,v.gr hg⟩)) ?_;refine zR ?_;refine de rfl rfl (λwq v=>Ak v rfl (cR _) rfl rfl rfl rfl rfl rfl rfl) ?_;rintro am ar _;refine zY ?_;rintro au ⟨ac,U,S⟩;obtain rfl:=Option.some.inj U;refine zC (o4 (r:={ code:=0,n:=z }) e) ?_;refine zS ?_;intro ab S;exact rA S ⟨(),rfl,St.backG (S.drop 3)⟩
theorem P1(U:s.ok)(hk:o.k=8):pQ F W (s.L++M) s.sb o true (48) (λq:{ q:Int×Nat×Nat//dF o.x0 o.y0 o.x1 o.y1 s.gw s.gh=0->CY s.gw s.V ⟨o.x0.toNat,o.y0.toNat,o.x1.toNat,o.y1.toNat⟩ q.1 q.2.1 q.2.2 }=>({ code:=0,n:=q.1.1,ax:=q.1.2.1,ay:=q.1.2.2 }:gZ).told (dF o.x0 o.y0 o.x1 o.y1 s.gw s.gh)) (λ_=>s.L++M):=by
 intro kb tl w S;replace S:=St.forthG S;obtain⟨ok,v,I,D,J,aj,ak,al,am,n,m,vs,bs,bd⟩:=o;dsimp only at hk;subst hk;replace S:St F W w (.blk kb 3 [ii 8]::(s.L++(M++tl))):=S;have Z:=(S.grid (i:=2) rfl).sw;have O:=(S.grid (i:=2) rfl).sh;have V:∀{w A},St F W w (A++(s.L++(M++tl)))->iM w s.yb s.gw s.gh s.V:=λS=>lT.pyrAtG (St.tail S);refine zI func48 ?_;refine zN ?_;intro aa an ae S;refine zN ?_;intro L ao ag S;refine zN ?_;intro ad ap ah S;refine zC (pj (S.blk (i:=6) rfl)) ?_;intro aq ai S;refine zK (Ot v I D J U.hB Z O (V (A:=[_,_,_,_]) S)) ?_;rintro _ ar ⟨z,x,y,rfl,hL,g9⟩;have S:=S.gr g9;refine zS ?_;intro ab S;refine zC (o4 (r:={ code:=0,n:=z,ax:=x,ay:=y }) (dF v I D J s.gw s.gh)) ?_;refine zS ?_;intro ac S;exact rA S ⟨⟨(z,x,y),hL⟩,rfl,St.backG (S.drop 3)⟩
theorem P2(U:s.ok)(hk:o.k=9):pQ F W (s.L++M) s.sb o true (48) (λq:{ q:Int×Nat×Nat//dF o.x0 o.y0 o.x1 o.y1 s.gw s.gh=0->E9 s.gw s.V ⟨o.x0.toNat,o.y0.toNat,o.x1.toNat,o.y1.toNat⟩ q.1 q.2.1 q.2.2 }=>({ code:=0,n:=q.1.1,ax:=q.1.2.1,ay:=q.1.2.2 }:gZ).told (dF o.x0 o.y0 o.x1 o.y1 s.gw s.gh)) (λ_=>s.L++M):=by
 intro kb tl w S;replace S:=St.forthG S;obtain⟨ok,v,I,D,J,aj,ak,al,am,n,m,vs,bs,bd⟩:=o;dsimp only at hk;subst hk;replace S:St F W w (.blk kb 3 [ii 9]::(s.L++(M++tl))):=S;have Z:=(S.grid (i:=2) rfl).sw;have O:=(S.grid (i:=2) rfl).sh;have V:∀{w A},St F W w (A++(s.L++(M++tl)))->iM w s.yb s.gw s.gh s.V:=λS=>lT.pyrAtG (St.tail S);refine zI func48 ?_;refine zN ?_;intro aa an ae S;refine zN ?_;intro L ao ag S;refine zN ?_;intro ad ap ah S;refine zC (pj (S.blk (i:=6) rfl)) ?_;intro aq ai S;refine zK (Sk v I D J U.hB Z O (V (A:=[_,_,_,_]) S)) ?_;rintro _ ar ⟨z,x,y,rfl,hL,g9⟩;have S:=S.gr g9;refine zS ?_;intro ab S;refine zC (o4 (r:={ code:=0,n:=z,ax:=x,ay:=y }) (dF v I D J s.gw s.gh)) ?_;refine zS ?_;intro ac S;exact rA S ⟨⟨(z,x,y),hL⟩,rfl,St.backG (S.drop 3)⟩
theorem UU(Z:o.k=10):pQ F W (s.L++M) s.sb o true (48) (λq:Int=>({ code:=0,n:=q }:gZ).told (dF o.x0 o.y0 o.x1 o.y1 s.gw s.gh)) (λ_=>s.L++M):=by
 intro kb tl w S;replace S:=St.forthG S;obtain⟨ok,v,z,y,D,ai,aj,ak,al,n,m,vs,bs,bd⟩:=o;dsimp only at Z;subst Z;replace S:St F W w (.blk kb 3 [ii 10]::(s.L++(M++tl))):=S;have O:=(S.grid (i:=2) rfl).sw;have J:=(S.grid (i:=2) rfl).sh;have L:∀{w A},St F W w (A++(s.L++(M++tl)))->iM w s.yb s.gw s.gh s.V:=λS=>lT.pyrAtG (St.tail S);refine zI func48 ?_;refine zN ?_;intro U am ac S;refine zN ?_;intro I an ad S;refine zN ?_;intro ab ao ae S;refine zC (pj (S.blk (i:=6) rfl)) ?_;intro ap ag S;refine zK (Im v z y D n O J (L (A:=[_,_,_,_]) S)) ?_;rintro _ aq ⟨V,rfl,ah,g9⟩;have S:=S.gr g9;refine zS ?_;intro ar S;refine zC (o4 (r:={ code:=0,n:=(V:Nat) }) (dF v z y D s.gw s.gh)) ?_;refine zS ?_;intro aa S;exact rA S ⟨((V:Nat):Int),rfl,St.backG (S.drop 3)⟩
theorem UV(O:s.ok)(hk:o.k=11):pQ F W (s.L++M) s.sb o true (48) (λq:Int=>({ code:=0,n:=q }:gZ).told (PR o.x0 o.y0 o.x1 o.y1 s.gw s.gh o.n)) (λ_=>s.L++M):=by
 intro kb tl w S;replace S:=St.forthG S;obtain⟨ok,v,D,y,I,ah,ai,aj,ak,n,m,vs,bs,bd⟩:=o;dsimp only at hk;subst hk;replace S:St F W w (.blk kb 3 [ii 11]::(s.L++(M++tl))):=S;have V:=(S.grid (i:=2) rfl).sw;have L:=(S.grid (i:=2) rfl).sh;have U:∀{w A},St F W w (A++(s.L++(M++tl)))->iM w s.yb s.gw s.gh s.V:=λS=>lT.pyrAtG (St.tail S);refine zI func48 ?_;refine zN ?_;intro Z al ac S;refine zN ?_;intro J am ad S;refine zN ?_;intro ab an ae S;refine zC (pj (S.blk (i:=6) rfl)) ?_;intro ao ag S;refine zK (Wo v D y I n O.hB V L (U (A:=[_,_,_,_]) S)) ?_;rintro _ ap ⟨z,rfl,g9⟩;have S:=S.gr g9;refine zS ?_;intro aq S;refine zC (o4 (r:={ code:=0,n:=z }) (PR v D y I s.gw s.gh n)) ?_;refine zS ?_;intro aa S;exact rA S ⟨z,rfl,St.backG (S.drop 3)⟩
section
variable{xs:List (Int × Int)}
theorem UW(U:∀w L,St F W w L->Rd w o.bd.A (kI xs))(V:o.bd.n=xs.length)(ab:o.bd.n<=o.bd.c)(aa:o.bd.n<=9223372036854775807)(hl:tO xs=true)(hx:x0<=x1/\x1<s.gw)(hy:y0<=y1/\y1<s.gh)(ho:o.k=27/\o.x0=x0/\o.y0=y0/\o.x1=x1/\o.y1=y1) :
  pQ F W (s.L++M) s.sb o false (74) (λq:Option Addr×Nat=>{ code:=0,lines:=⟨q.1,y1+1-y0,q.2⟩:gZ }) (λq=>.row 9 1 q.1 (y1+1-y0) q.2 (yD xs (fi s.gw s.cc x0 y0 (x1+1-x0) (y1+1-y0)) (x1+1-x0) (y1+1-y0))::(s.L++M)):=by
 intro kb tl w S;obtain⟨ok,aj,al,ak,am,ax,ay,bx,ag,n,m,vs,bs,⟨bA,bn,bc⟩⟩:=o;dsimp only at *;obtain⟨rfl,rfl,rfl,rfl,rfl⟩:=ho;have Z:=λw hB G=>WB (W:=w) (B:=bA) (p:=s.p) (gw:=s.gw) (gh:=s.gh) (cc:=s.cc) (A:=s.A) (cap:=s.cap) (bs:=s.bs) (Rs:=s.Rs) hx hy V ab aa hB hl G;generalize yD xs (fi s.gw s.cc x0 y0 (x1+1-x0) (y1+1-y0)) (x1+1-x0) (y1+1-y0)=ls at *;generalize y1+1-y0=ht at *;refine zI func74 ?_;refine zN ?_;intro ad ao ah S;refine zN ?_;intro I ap ai S;refine zH (C:=(λσ wq=>CN _ _ _ (λv h=>∃A c,v=.tuple #[.slice A ht c,ii 0]/\h=.row 9 1 A ht c ls) wq σ)) [8] [0,1,2,3,4,5,6,7,8,9,10,11,12,13] [] (S.gr (Gr.drew _)) ?_;refine zV (λτ wq y=>((CN.st y).blk (i:=2) rfl)) ?_;refine zV (λτ wq y=>((CN.st y).blk (i:=1) rfl)) ?_;refine zV (λτ wq y=>((CN.st y).blk (i:=1) rfl)) ?_;refine de rfl rfl (λwq y=>l4 rfl ((Z wq (U _ _ (CN.st y)) (St.grid (CN.st y) (i:=3) rfl)).mono (λv w2⟨A,c,hv,hR,hf,g⟩=>⟨_,⟨A,c,hv,rfl⟩,St.pushRow (CN.st y) hR hf g⟩))) ?_;rintro an ar ⟨O,⟨z,D,rfl,rfl⟩,_⟩;refine zY ?_;rintro au ⟨O,⟨ac,ae,J,rfl⟩,S⟩;cases J
 refine zC (vE (r:={ code:=0,lines:=⟨z,ht,D⟩ })) ?_;refine zS ?_;intro aq S;exact rA S ⟨(z,D),rfl,S.sub (.cons_cons _ (.cons _ (.cons _ (cQ _))))⟩
theorem Sm(y:∀w L,St F W w L->Rd w o.bd.A (kI xs))(z:o.bd.n=xs.length)(J:o.bd.n<=o.bd.c)(I:o.bd.n<=9223372036854775807)(hl:tO xs=false)(hx:x0<=x1/\x1<s.gw)(hy:y0<=y1/\y1<s.gh)(ho:o.k=27/\o.x0=x0/\o.y0=y0/\o.x1=x1/\o.y1=y1) :
  pQ F W (s.L++M) s.sb o false (74) (λ_:Unit=>{ code:=13:gZ }) (λ_=>s.L++M):=by
 intro kb tl w S;obtain⟨ok,ad,ag,ae,ah,ax,ay,bx,Z,n,m,vs,bs,⟨V,bn,bc⟩⟩:=o;dsimp only at *;obtain⟨rfl,rfl,rfl,rfl,rfl⟩:=ho;have D:=λw hB G=>LK (W:=w) (B:=V) (p:=s.p) (gw:=s.gw) (gh:=s.gh) (cc:=s.cc) (A:=s.A) (cap:=s.cap) (bs:=s.bs) (Rs:=s.Rs) hx hy z J I hB hl G;refine zI func74 ?_;refine zN ?_;intro O ai aa S;refine zN ?_;intro v aj ab S;refine zD [0,1,2,3,4,5,6,7,8,9,10,11,12,13] [] ?_;refine zP (λwq U=>D wq (y _ _ (S.gr U)) (St.grid (S.gr U) (i:=3) rfl)) ?_;refine zE ?_;intro ak ac S;refine zC (o4 (r:={ code:=0 }) 13) ?_;refine zS ?_;intro al S;exact rA S ⟨(),rfl,S.drop 2⟩
theorem Ou(I:dF o.x0 o.y0 o.x1 o.y1 s.gw s.gh≠0)(ho:o.k=27) :
  pQ F W (s.L++M) s.sb o false (74) (λ_:Unit=>{ code:=dF o.x0 o.y0 o.x1 o.y1 s.gw s.gh:gZ }) (λ_=>s.L++M):=by
 intro kb tl w S;obtain⟨ok,v,z,y,D,ax,ay,bx,aa,n,m,vs,bs,⟨Z,bn,bc⟩⟩:=o;dsimp only at *;subst ho;have O:=λw G=>RZ (W:=w) (B:=Z) (n:=bn) (c:=bc) (p:=s.p) (gw:=s.gw) (gh:=s.gh) (cc:=s.cc) (A:=s.A) (cap:=s.cap) (bs:=s.bs) (Rs:=s.Rs) I G;have J:=λw=>o4 (W:=w) (r:={ code:=0 }) (dF v z y D s.gw s.gh);have U:({ code:=0 }:gZ).told (dF v z y D s.gw s.gh)={ code:=dF v z y D s.gw s.gh }:=by unfold gZ.told;rw[a8 I]
 rw[U]at J;generalize dF v z y D s.gw s.gh=e at *;refine zI func74 ?_;refine zN ?_;intro V ae ab S;refine zN ?_;intro L ag ac S;refine zD [0,1,2,3,4,5,6,7,8,9,10,11,12,13] [] ?_;refine zP (λwq hq=>O wq (St.grid (S.gr hq) (i:=3) rfl)) ?_;refine zE ?_;intro ah ad S;refine zC (J _) ?_;refine zS ?_;intro ai S;exact rA S ⟨(),rfl,S.drop 2⟩
end
def Ew(F:Nat->Prop)(W:World)(Q:List HA)(B:Option Addr)(V:List Int):Prop:=∀w,Fr F W w->(∀h∈Q,h.ok w)->Rd w B (cY V)
theorem Ew.of{Q:List HA}{V:List Int}(h:(.row 2 1 B n k (cY V))∈Q):Ew F W Q B V:=λw _ v=>(show gH w 2 1 B n k (cY V)from v _ h).rd
def sE(F:Nat->Prop)(W:World)(L:List HA)(p:Nat)(o:m5)(c:Bool)(f:FuncId)(X0 Y0 X1 Y1 e0:Int)(V:List Int):Prop :=
 ∀kb tl w,St F W w (L++(.blk kb 3 [ii o.k]::tl))->Fn prog f ([pt p,o.v]++(if c then [pt kb]else [])) w
  (λv w'=>∃B cp Q1,v=.tuple #[.agg #[ii X0,ii Y0,ii X1,ii Y1],.slice B V.length cp,ii e0]/\(e0=0->Ew F W (Q1++L) B V)/\St F W w' (Q1++(L++(.blk kb 3 [ii o.k]::tl))))
def ET(gw gh:Nat)(X0 Y0 X1 Y1:Int)(V:List Int):Int:=if dF X0 Y0 X1 Y1 gw gh=0 then sX ((Y1.toNat+1-Y0.toNat)*(X1.toNat+1-X0.toNat)) V else dF X0 Y0 X1 Y1 gw gh
def DX(s s':lT)(e:Int)(c2:Nat->Int):Prop:=(e≠0/\s'=s)\/(e=0/\CE s s' c2)
theorem Oz{V:List Int}(h:sX n V=0):∀v∈V,iL v=true:=by
 intro v z;unfold sX at h;split at h
 ·cases h
 ·split at h
  ·cases h
  ·rename_i h2;cases y:iL v with
   |true=>rfl
   |false=>exact absurd (jZ.2 ⟨v,z,by rw[y];rfl⟩) h2
theorem OA{V:List Int}(h:sX n V=0):V.length=n:=by
 unfold sX at h;split at h
 ·cases h
 ·rename_i h2;exact fH.1 h2
section
variable{V:List Int}
theorem C3{L:List HA}{O U t1 t:Nat}{Z z:List Value}{cs:Value->List Value}{ps:String}{y D:Operand}(hf:sE F W L p o true f X0 Y0 X1 Y1 e0 V)(hq:rp F W (.blk O t1 Z::.blk U t2 l2::(L++(.blk kb 3 [ii o.k]::tl))) 6 j k t z cs (λv I=>∃B J,v=.tuple #[.agg #[ii X0,ii Y0,ii X1,ii Y1],.slice B V.length J,ii e0]/\(e0=0->Ew F W (I++L) B V)) σ wq)(hi:σ.lookup 6=none)(hk:σ.lookup k=none)(aa:(j==6)=false)(ab:(k==6)=false)(hx:ev e x=iT true f kb)(h1:ev e y=pt p)(h2:ev e D=o.v) :
  gI prog e ⟨d,.call ⟨.value x,#[y,D],tys⟩,ty,ps,af,none⟩ wq (λv w'=>rp F W (.blk O t1 Z::.blk U t2 l2::(L++(.blk kb 3 [ii o.k]::tl))) 6 j k t z cs (λv I=>∃B J,v=.tuple #[.agg #[ii X0,ii Y0,ii X1,ii Y1],.slice B V.length J,ii e0]/\(e0=0->Ew F W (I++L) B V)) ((6,v)::σ) w'):=by
 obtain⟨Q,S,hm⟩:=rp.call hq hi hk aa ab;have S:St F W wq ((Q++[.blk O t1 Z,.blk U t2 l2])++(L++(.blk kb 3 [ii o.k]::tl))):=by rw[cL];exact S
 refine Ri (first:=[]) (cap:=[pt kb]) (vs:=[pt p,o.v]) (args:=[y,D]) hx (by rw[iJ,iJ,h1,h2];rfl) ((hf kb _ _ (St.under S)).mono λv w'⟨B,J,I,hv,hr,S'⟩=>hm v I w' ⟨B,J,hv,hr⟩ ?_);refine S'.perm_ (lY I ?_);refine(lY L (ef (l₁:=Q++[.blk O t1 Z,.blk U t2 l2]) (a:=.blk kb 3 [ii o.k]) (l₂:=tl)).symm).trans ?_;rw[<-cL];refine(ft.append_right _).trans ?_;rw[cL,cL];exact List.Perm.refl _
theorem LW(Z:s.ok)(aZ:0<=s.stamp/\s.stamp<1000)(hl:s.l.length<40)(aw:e0=dF X0 Y0 X1 Y1 s.gw s.gh)(al:V.length<=9223372036854775807)(hf:sE F W (s.L++M) s.p o true f X0 Y0 X1 Y1 e0 V)(S:St F W w ((s.L++M)++(.blk kb 3 [ii o.k]::tl))) :
  Fn prog (389) [iT true f kb,pt s.sb,o.v] w (λv w'=>∃s':lT,v=({ code:=ET s.gw s.gh X0 Y0 X1 Y1 V }:gZ).v/\(s'.ok/\DX s s' (ET s.gw s.gh X0 Y0 X1 Y1 V) (im s.gw V X0.toNat Y0.toNat X1.toNat Y1.toNat s.cc))/\St F W w' ((s'.L++M)++(.blk kb 3 [ii o.k]::tl))):=by
 obtain⟨sb,p,cap,pp,lb,tb,yb,gw,gh,done,A,A1,lA,pA,ov,c1,lc,pc,bs,Rs,cc,As,cs,l,stamp⟩:=s;obtain⟨L,hL⟩:∃L:List HA,lT.L ⟨sb,p,cap,pp,lb,tb,yb,gw,gh,done,A,A1,lA,pA,ov,c1,lc,pc,bs,Rs,cc,As,cs,l,stamp⟩=L:=⟨_,rfl⟩;have aS:∀X,gi (L++M++X) 0=some (.blk sb 73 [pt p,pt lb,.pointer ov,ii stamp,pt pp]):=λX=>by rw[<-hL];rfl
 dsimp only at *;rw[hL]at hf S;refine zI func389 ?_;refine yA ?_;intro I D _ S;refine gP (M:=λe w=>∃(Q1:List HA)(B:Option Addr)(cp ad:Nat),SL e [(1,pt sb),(6,pt D),(7,pt ad),(8,.slice B V.length cp),(9,ii e0)]/\(e0=0->Ew F W (Q1++(L++M)) B V)/\St F W w (.blk ad 43 [ii X0,ii Y0,ii X1,ii Y1]::(Q1++(.blk D 40 [ii 0,ii 0,.bool false,ii 0,ii 0,.slice none 0 0,.slice none 0 0,.slice none 0 0,.slice none 0 0,.slice none 0 0]::.blk I 46 o.cs::(L++M++(.blk kb 3 [ii o.k]::tl)))))) ?_ ?_
 ·skip;refine zc ?_;refine nI (C:=(rp F W _ 6 11 12 43 [ii 0,ii 0,ii 0,ii 0] (λ_=>[ii X0,ii Y0,ii X1,ii Y1]) (λv Q1=>∃B cp,v=.tuple #[.agg #[ii X0,ii Y0,ii X1,ii Y1],.slice B V.length cp,ii e0]/\(e0=0->Ew F W (Q1++(L++M)) B V)))) [6,11,12] (.one 0 (.one 1 (.one 2 (.one 3 (.one 4 (.one 5 (.two 6 (.one 7 (.one 8 (.one 9 (.one 10 (.one 11 (.one 12 (.one 13 .nil))))))) 11 (.one 6 (.one 7 (.one 8 (.one 9 (.one 10 (.one 12 (.one 13 .nil)))))))))))))) [14] (by kernel_rfl) (by kernel_rfl) (rp.start (S.gr (Gr.drew _))) ?_;simp only[qK,iS,dK,dR];refine jK ?_;refine oX rfl (jx rfl) ?_;refine mo ?_;refine jK ?_;refine oX rfl (jx rfl) ?_;refine mo ?_;refine jK ?_;refine oX rfl (jx rfl) ?_;refine mo ?_;refine jK ?_;refine oX rfl (du Zz rfl sizeOf47 rfl rfl) ?_;refine mo ?_;refine jK ?_;refine xh rfl (λτ wq z=>cV kO rfl rfl (((rp.st z).drop 2).blk (i:=0) (aS _)) rfl) ?_;refine zU (λτ wq z=>((rp.st z).blk (i:=1) rfl)) ?_;refine zW ?_;refine nf ?_ ?_
  ·refine dC rfl rfl (λwq z=>C3 hf z rfl rfl rfl rfl rfl rfl rfl) ?_;rintro v6 w6 h6;obtain⟨_,B,cp,rfl,_⟩:=h6.val rfl;refine zW ?_;refine dC rfl rfl (λwq z=>sB z rfl rfl rfl rfl gE rfl) ?_;rintro aB aD ab;obtain⟨ar,rfl⟩:=ab.adr rfl;refine zW ?_;refine dC rfl rfl (λwq z=>sC z rfl rfl rfl rfl rfl (fS _) rfl rfl rfl rfl rfl) ?_;rintro aC aE av;refine zW ?_;refine jm ?_;rintro wz hz;obtain⟨Q1,⟨B,cp,e1,hm⟩,S⟩:=hz.fin rfl rfl rfl;cases e1
   refine zg ?_;exact⟨Q1,_,_,_,sl,hm,S⟩
  ·refine dC rfl rfl (λwq z=>sB z rfl rfl rfl rfl gE rfl) ?_;rintro aB aD ab;obtain⟨ar,rfl⟩:=ab.adr rfl;refine zW ?_;refine dC rfl rfl (λwq z=>C3 hf z rfl rfl rfl rfl rfl rfl rfl) ?_;rintro v6 w6 h6;obtain⟨_,B,cp,rfl,_⟩:=h6.val rfl;refine zW ?_;refine dC rfl rfl (λwq z=>sC z rfl rfl rfl rfl rfl (fS _) rfl rfl rfl rfl rfl) ?_;rintro aC aE av;refine zW ?_;refine jm ?_;rintro wz hz;obtain⟨Q1,⟨B,cp,e1,hm⟩,S⟩:=hz.fin rfl rfl rfl;cases e1
   refine zg ?_;exact⟨Q1,_,_,_,sl,hm,S⟩
 ·rintro e w1 ⟨Q1,B,cp,ad,aY,hm,S⟩;rw[aY.fold];rcases fv (e0≠0)with O|O
  ·have J:ET gw gh X0 Y0 X1 Y1 V=e0:=by unfold ET;rw[<-aw,a8 O]
   have S:St F W w1 (.blk D 40 [ii 0,ii 0,.bool false,ii 0,ii 0,.slice none 0 0,.slice none 0 0,.slice none 0 0,.slice none 0 0,.slice none 0 0]::(L++M++(.blk kb 3 [ii o.k]::tl))) :=
    (St.tail (S.drop 1)).sub (.cons_cons _ (.cons _ (cQ _)))
   refine yA ?_;intro _ S;refine rA S ⟨⟨sb,p,cap,pp,lb,tb,yb,gw,gh,done,A,A1,lA,pA,ov,c1,lc,pc,bs,Rs,cc,As,cs,l,stamp⟩,by rw[J];rfl,⟨Z,.inl ⟨by rw[J];exact O,rfl⟩⟩,?_⟩;rw[hL];exact S.drop 1
  ·replace O:=fH.1 O;obtain⟨rr,aA,rfl,rfl,rfl,rfl⟩:=nP (aw.symm.trans O);obtain⟨x0,y0,x1,y1⟩:=rr;have hx:x0<=x1/\x1<gw:=aA.1;have hy:y0<=y1/\y1<gh:=aA.2;clear aA;dsimp only at *;simp only[b7]at *;have J:ET gw gh x0 y0 x1 y1 V=sX ((y1+1-y0)*(x1+1-x0)) V:=by unfold ET;rw[a7 (aw.symm.trans O)];simp only[b7]
   rw[J];replace hm:=hm O;subst O
   have S:St F W w1 (.blk ad 43 [ii x0,ii y0,ii x1,ii y1]::.blk D 40 [ii 0,ii 0,.bool false,ii 0,ii 0,.slice none 0 0,.slice none 0 0,.slice none 0 0,.slice none 0 0,.slice none 0 0]::(L++((Q1++[.blk I 46 o.cs])++(M++(.blk kb 3 [ii o.k]::tl))))):=by
    refine S.perm_ (pZ _ (ef.trans (pZ _ ?_)));rw[show Q1++.blk I 46 o.cs::(L++M++(.blk kb 3 [ii o.k]::tl))=(Q1++[.blk I 46 o.cs])++(L++(M++(.blk kb 3 [ii o.k]::tl)))by simp[cL],<-cL,<-cL L];exact ft.append_right _
   have ak:∀{wq:World}{Y:List HA},St F W wq (Y++(.blk ad 43 [ii x0,ii y0,ii x1,ii y1]::.blk D 40 [ii 0,ii 0,.bool false,ii 0,ii 0,.slice none 0 0,.slice none 0 0,.slice none 0 0,.slice none 0 0,.slice none 0 0]::(L++((Q1++[.blk I 46 o.cs])++(M++(.blk kb 3 [ii o.k]::tl))))))->Rd wq B (cY V):=λS=>hm _ S.fr λh hh=>(S.sep.mem (lW _ (by
    simp only[ez,dy]at hh ⊢;rcases hh with h|h|h
    ·simp[h]
    ·simp[h]
    ·simp[h]))).1
   have am:∀X,gi (L++X) 0=some (.blk sb 73 [pt p,pt lb,.pointer ov,ii stamp,pt pp]):=λX=>by rw[<-hL];rfl
   have ah:∀X,gi (L++X) 1=some (.grid p gw gh cc A cap bs Rs):=λX=>by rw[<-hL];rfl
   rcases fv (sX ((y1+1-y0)*(x1+1-x0)) V≠0)with aa|aa
   ·have ao:=λw G(hB:Rd w B (cY V))=>Rw (W:=w) (gw:=gw) (gh:=gh) (c:=cc) (p:=p) (A:=A) (cap:=cap) (bs:=bs) (Rs:=Rs) cp hx hy al aa G hB;generalize sX ((y1+1-y0)*(x1+1-x0)) V=e1 at *;unfold tD at ao;refine zH (C:=(CA _ _ _ 253 [ii 0,ii 0,ii 0,ii 0,.slice none 0 0,.slice none 0 0] [ii 0,ii 0,ii 0,ii 0,.slice none 0 0,.slice none 0 0])) [10,11] [0,1,2,3,4,5,6,7,8,9,10,11] [12] (CA.start (S.gr (Gr.drew _))) ?_;refine zV (λτ wq z=>((z.st.drop 2).blk (i:=0) (am _))) ?_;refine zV (λτ wq z=>(z.st.blk (i:=0) rfl)) ?_;refine zR ?_;refine jH rfl rfl (λτ wq z=>(ao wq ((z.st.drop 2).grid (i:=1) (ah _)) (ak (Y:=[]) z.st)).mono (λ_ _⟨hv,hg⟩=>⟨hv,z.gr hg⟩)) ?_;refine zR ?_;refine de rfl rfl (λwq z=>kG z p7 rfl) ?_;rintro bq bt ⟨ac,rfl,_⟩;refine de rfl rfl (λwq z=>kH z (nV _) rfl rfl rfl rfl rfl) ?_;rintro br bu _;refine zY ?_;rintro bv bc;obtain⟨aP,au,S⟩:=bc.fin;cases au
    refine yA ?_;intro _ S;refine rA S ⟨⟨sb,p,cap,pp,lb,tb,yb,gw,gh,done,A,A1,lA,pA,ov,c1,lc,pc,bs,Rs,cc,As,cs,l,stamp⟩,rfl,⟨Z,.inl ⟨aa,rfl⟩⟩,?_⟩;rw[hL,cL];exact(S.drop 3).sub (iQ (cQ _) (iP _ _))
   ·replace aa:=fH.1 aa;have al:V.length=(y1+1-y0)*(x1+1-x0):=OA aa;have aj:∀v∈V,iL v=true:=Oz aa;refine yA ?_;rw[aa];refine gP (M:=λe w=>∃(v:Value)(Q2:List HA)(ac:Nat),Xk gw gh cc (im gw V x0 y0 x1 y1 cc) v Q2/\SL e [(1,pt sb),(6,pt D),(9,ii 0),(10,pt ac)]/\St F W w (.blk ac 253 (Yk v)::(Q2++(.blk ad 43 [ii x0,ii y0,ii x1,ii y1]::.blk D 40 [ii 0,ii 0,.bool false,ii 0,ii 0,.slice none 0 0,.slice none 0 0,.slice none 0 0,.slice none 0 0,.slice none 0 0]::(L++((Q1++[.blk I 46 o.cs])++(M++(.blk kb 3 [ii o.k]::tl)))))))) ?_ ?_
    ·skip;refine zc ?_;refine nI (C:=(rp F W _ 6 10 11 253 [ii 0,ii 0,ii 0,ii 0,.slice none 0 0,.slice none 0 0] Yk (Xk gw gh cc (im gw V x0 y0 x1 y1 cc)))) [6,10,11] (.one 0 (.one 1 (.one 2 (.one 3 (.one 4 (.one 5 (.two 6 (.one 7 (.one 8 (.one 9 (.one 10 (.one 11 .nil))))) 10 (.one 6 (.one 7 (.one 8 (.one 9 (.one 11 .nil)))))))))))) [12] (by kernel_rfl) (by kernel_rfl) (rp.start (S.gr (Gr.drew _))) ?_;simp only[qK,iS,dK,dR];refine jK ?_;refine oX rfl (jx rfl) ?_;refine mo ?_;refine jK ?_;refine oX rfl (jx rfl) ?_;refine mo ?_;refine jK ?_;refine oX rfl (du Zz rfl sizeOf47 rfl rfl) ?_;refine mo ?_;refine jK ?_;refine xh rfl (λτ wq z=>cV kO rfl rfl (((rp.st z).drop 2).blk (i:=0) (am _)) rfl) ?_;refine zU (λτ wq z=>((rp.st z).blk (i:=0) rfl)) ?_;refine zW ?_;refine nf ?_ ?_
     ·refine dC rfl rfl (λwq z=>Eo z rfl rfl rfl rfl rfl (λS=>(Pq cp hx hy al aj ((S.drop 2).grid (i:=1) (ah _)) (ak (Y:=[]) S)).mono λ_ _ h=>h.parts)) ?_;rintro v6 w6 h6;obtain⟨_,a6,b6,d6,e6,C1,n6,k1,C2,k2,rfl,_⟩:=h6.val rfl;refine zW ?_;refine dC rfl rfl (λwq z=>sB z rfl rfl rfl rfl p7 rfl) ?_;rintro aB aD ab;obtain⟨ar,rfl⟩:=ab.adr rfl;refine zW ?_;refine dC rfl rfl (λwq z=>sC z rfl rfl rfl rfl rfl (nV _) rfl rfl rfl rfl rfl) ?_;rintro aC aE av;refine zW ?_;refine jm ?_;rintro wz hz;obtain⟨Q2,ai,S⟩:=hz.fin rfl rfl rfl;refine zg ?_;exact⟨_,Q2,_,ai,sl,S⟩
     ·refine dC rfl rfl (λwq z=>sB z rfl rfl rfl rfl p7 rfl) ?_;rintro aB aD ab;obtain⟨ar,rfl⟩:=ab.adr rfl;refine zW ?_;refine dC rfl rfl (λwq z=>Eo z rfl rfl rfl rfl rfl (λS=>(Pq cp hx hy al aj ((S.drop 2).grid (i:=1) (ah _)) (ak (Y:=[]) S)).mono λ_ _ h=>h.parts)) ?_;rintro v6 w6 h6;obtain⟨_,a6,b6,d6,e6,C1,n6,k1,C2,k2,rfl,_⟩:=h6.val rfl;refine zW ?_;refine dC rfl rfl (λwq z=>sC z rfl rfl rfl rfl rfl (nV _) rfl rfl rfl rfl rfl) ?_;rintro aC aE av;refine zW ?_;refine jm ?_;rintro wz hz;obtain⟨Q2,ai,S⟩:=hz.fin rfl rfl rfl;refine zg ?_;exact⟨_,Q2,_,ai,sl,S⟩
    ·rintro e w2 ⟨v,Q2,ac,ai,aM,S⟩;rw[aM.fold];subst hL;obtain⟨a,b,d,e6,C1,n6,k1,C2,k2,rfl,hc⟩:=ai;have ap:=yw (x0:=x0) (y0:=y0) (x1:=x1) (y1:=y1) (u9 aj) Z.hB;rcases hc with⟨aV,rfl,rfl,rfl,rfl,rfl,rfl,rfl,rfl,rfl,rfl⟩|⟨a,b,d,U,ae,ag,bn,aH,rfl,rfl,rfl,rfl,rfl,rfl⟩
     ·have an:dw gw gh cc=dw gw gh (im gw V x0 y0 x1 y1 cc):=Ib λi hi=>by
       obtain⟨x,y,ba,bb,rfl⟩:=K3 hi;exact aV x y ba bb
      refine zF [0,1,2,3,4] [5] ?_;intro bi bf S;refine zC (NA) ?_;intro bj bg S;refine zC (NB) ?_;refine yA ?_;intro _ S;refine rA S ⟨⟨sb,p,cap,pp,lb,tb,yb,gw,gh,done,A,A1,lA,pA,ov,c1,lc,pc,bs,Rs,cc,As,cs,l,stamp⟩,rfl,⟨Z,.inr ⟨rfl,rfl,rfl,rfl,rfl,an,.inl ⟨rfl,rfl,rfl,an⟩⟩⟩,?_⟩;rw[cL];exact(S.drop 3).sub (iQ (cQ _) (iP _ _))
     ·have az:=Ep (gh:=gh) aH;have aK:=wN (x0:=a) (y0:=b) Z.hB ae.2 ag.2;have aL:=wN (x0:=a) (y0:=b) ap ae.2 ag.2;have aI:=lE gw cc a b (d+1-a) (U+1-b);have aJ:=lE gw (im gw V x0 y0 x1 y1 cc) a b (d+1-a) (U+1-b);have bp:1<=gw/\gw<=1024:=(S.grid (i:=6) rfl).sw;have bo:1<=gh/\gh<=1024:=(S.grid (i:=6) rfl).sh;have aT:d<gw:=ae.2;have aU:U<gh:=ag.2;have aq:vB (dw gw gh (im gw (fi gw (im gw V x0 y0 x1 y1 cc) a b (d+1-a) (U+1-b)) a b d U cc)):=by rw[az];exact ap
      have hP:∀w',Rd w' C1 (cY (fi gw cc a b (d+1-a) (U+1-b)))->Rd w' C2 (cY (fi gw (im gw V x0 y0 x1 y1 cc) a b (d+1-a) (U+1-b)))->uM w' a b d U ((U+1-b)*(d+1-a)) k1 k2 C1 C2 (fi gw cc a b (d+1-a) (U+1-b)) (fi gw (im gw V x0 y0 x1 y1 cc) a b (d+1-a) (U+1-b)):=λw' r1 r2 =>
       ⟨⟨ae.1,om⟩,⟨ag.1,om⟩,rfl,aI,aJ,aK,aL,r1,r2⟩
      have aW:∀x:lS,x.x0=a->x.y0=b->x.x1=d->x.y1=U->x.V1=fi gw cc a b (d+1-a) (U+1-b)->x.V2=fi gw (im gw V x0 y0 x1 y1 cc) a b (d+1-a) (U+1-b)->DA gw gh x:=λx e1 e2 e3 e4 e5 e6=>by
       refine⟨by rw[e1,e3];exact ae,by rw[e2,e4];exact ag,?_,?_,by rw[e5];exact aK,by rw[e6];exact aL⟩
       ·rw[e5,e1,e2,e3,e4];exact aI
       ·rw[e6,e1,e2,e3,e4];exact aJ
      refine zF [0,1,2,3,4] [5] ?_;intro bk bh S;refine zK (Wf Z.hd hl (hP _ (S.rd (i:=2) rfl) (S.rd (i:=1) rfl)) (S.pick 16 [13,14,15,0,1,2,3,4,5,6,7,8,9,10,11,12] rfl rfl rfl)) ?_;rintro _ bl ⟨rfl,x,aN,aO,e1,e2,e3,e4,e5,e6,S⟩;have hX:DA gw gh x:=aW x e1 e2 e3 e4 e5 e6;have aG:∀y∈l.take done++[x],DA gw gh y:=λy hy=>(ez.1 hy).elim (λh=>Z.hg y (jj h)) (λh=>by rw[dM.1 h];exact hX);have S:=S.pick 16 [3,4,5,6,7,8,9,10,11,12,13,14,15,0,1,2] rfl rfl rfl;refine zK (GQ (s:=⟨sb,p,cap,pp,lb,tb,yb,gw,gh,(l.take done++[x]).length,A,A1,lA,aN,ov,c1,lc,aO,bs,Rs,cc,As,cs,l.take done++[x],stamp⟩) ⟨Z.hB,fK _,aG⟩ aZ (hP _ (S.rd (i:=2) rfl) (S.rd (i:=1) rfl)) ae.2 ag.2 aq (S.pick 16 [5,6,7,8,9,10,11,12,13,14,15,1,2,0,3,4] rfl rfl rfl)) ?_;rintro _ bm ⟨rfl,be,A2,aQ,Rs2,aR,aF,_,S⟩;obtain rfl:aR=im gw (fi gw (im gw V x0 y0 x1 y1 cc) a b (d+1-a) (U+1-b)) a b d U cc:=aF.elim id (λh=>absurd rfl h.2);have S:=S.pick 16 [13,11,12,14,15,0,1,2,3,4,5,6,7,8,9,10] rfl rfl rfl;refine yA ?_;intro _ S
      refine rA S ⟨⟨sb,p,cap,pp,lb,be,yb,gw,gh,(l.take done++[x]).length,A,A2,lA,aN,ov,aQ,lc,aO,bs,Rs2,im gw (fi gw (im gw V x0 y0 x1 y1 cc) a b (d+1-a) (U+1-b)) a b d U cc,As,cs,l.take done++[x],stamp+1⟩,rfl,
       ⟨⟨aq,fK _,aG⟩,.inr ⟨rfl,rfl,rfl,rfl,rfl,az,.inr ⟨rfl,x,rfl,rfl,hX,by rw[e5,e1,e2,e3,e4],by rw[e6,e1,e2,e3,e4];exact Jw az.symm aT aU,λu v hu hv aX=>by rw[e1,e2,e3,e4];exact aH u v hu hv aX⟩⟩⟩,?_⟩
      rw[cL];exact(S.drop 5).sub (iQ (cQ _) (iP _ _))
end
def LX(n:Int):Int:=max (min n 1099511627776) (-1099511627776)
def C4(k n v:Int):Int:=LX n+(if k=5 then v else 0)
theorem Sr{V:List Int}{f:Int->Int}(h:i<V.length):(cY ((V.take i).map f++V.drop i)).set i (ii (f (V.getD i 0)))=cY ((V.take (i+1)).map f++V.drop (i+1)):=by
 unfold cY;rw[<-uO,kp _ _ (by rw[eP,d7];omega),eP,d7,io om,j8,dX h,List.set_cons_zero,ip h];simp only[fq,iJ,List.map_nil,cL,List.cons_append,jL,cO,fw h,Option.getD_some]
section
variable{V:List Int}
theorem GR(al:s.ok)(hx:x0<=x1/\x1<s.gw)(hy:y0<=y1/\y1<s.gh)(ho:(o.k=2/\o.ax=x0/\o.ay=y0/\x1=x0/\y1=y0)\/((o.k=3\/o.k=5)/\o.x0=x0/\o.y0=y0/\o.x1=x1/\o.y1=y1)) :
  sE F W (s.L++M) s.p o true (46) x0 y0 x1 y1 0 ((fi s.gw s.cc x0 y0 (x1+1-x0) (y1+1-y0)).map (C4 o.k o.n)):=by
 intro kb tl w S;have S:=S.perm_ ef;obtain⟨ok,aA,aC,aB,aD,ax,ay,bx,aa,n,m,vs,bs,bd⟩:=o;dsimp only at ho;refine zI func46 ?_;refine zN ?_;intro y aE ao S;refine zN ?_;intro J aF ap S;iterate 4 refine z ?_
 refine zc ?_;refine gP (M:=λe w=>SL e [(0,pt s.p),(2,pt kb),(4,pt y),(5,pt J)]/\St F W w (.blk J 43 [ii 0,ii 0,ii 0,ii 0]::.blk y 46 (m5.cs ⟨ok,x0,y0,x1,y1,ax,ay,bx,aa,n,m,vs,bs,bd⟩)::.blk kb 3 [ii ok]::(s.L++M++tl))) ?_ ?_
 ·rcases ho with⟨rfl,rfl,rfl,rfl,rfl⟩|⟨rfl|rfl,rfl,rfl,rfl,rfl⟩
  ·skip;refine zS ?_;intro aG S;exact⟨sl,S⟩
  ·skip;refine zg ?_;exact⟨sl,S⟩
  ·skip;refine zg ?_;exact⟨sl,S⟩
 ·rintro e w1 ⟨am,S⟩;rw[am.fold];have au:ok≠4:=om;refine zK (iz x0 y0 x1 y1 hx hy (S.grid (i:=4) rfl)) ?_;rintro _ aH ⟨D,I,rfl,ab,ad,ak⟩;have S:=S.pushRow ab ad ak;refine zg ?_;have aj:=lE s.gw s.cc x0 y0 (x1+1-x0) (y1+1-y0)
  have av:(y1+1-y0)*(x1+1-x0)<=1024*1024:=by
   have h1:=(S.grid (i:=5) rfl).sw;have h2:=(S.grid (i:=5) rfl).sh;exact fy om om
  have aq:-1099511627776<=LX n/\LX n<=1099511627776:=by unfold LX;omega
  have ag:=wN (x0:=x0) (y0:=y0) al.hB hx.2 hy.2;generalize fi s.gw s.cc x0 y0 (x1+1-x0) (y1+1-y0)=v at *;generalize (y1+1-y0)*(x1+1-x0)=O at *
  refine dl (λmm e w=>∃i:Nat,i+mm=O/\SL e [(2,pt kb),(4,pt y),(5,pt J),(8,.slice D O I),(9,ii 0),(42,.slice D O I),(43,ii O),(44,ii i)] /\
   St F W w (.row 2 1 D O I (cY ((v.take i).map (C4 ok n)++v.drop i))::.blk J 43 [ii 0,ii 0,ii 0,ii 0]::.blk y 46 (m5.cs ⟨ok,x0,y0,x1,y1,ax,ay,bx,aa,n,m,vs,bs,bd⟩)::.blk kb 3 [ii ok]::(s.L++M++tl))) O
   ⟨0,om,sl,S⟩ ?_
  clear S;rintro mm e w2 ⟨i,hi,ah,S⟩;rw[ah.fold];by_cases ar:i<O
  ·have U:(cY ((v.take i).map (C4 ok n)++v.drop i))[(i:Int).toNat * 1]?=some (ii (v.getD i 0)):=by
    rw[cG,b7];refine gc ?_;have ae:((v.take i).map (C4 ok n)).length=i:=by rw[eP,d7];omega
    rw[fU (by rw[ae];exact fK _),ae,j8,jD,eW];exact kr om
   have an:dO D:=(S.row (i:=0) rfl).someA om;have Z:(cY ((v.take i).map (C4 ok n)++v.drop i)).length=O:=by rw[gn,cP,eP,d7,i8,aj];omega
   have ai:=Sr (V:=v) (f:=C4 ok n) (i:=i) om
   have az:-2147483648<=v.getD i 0/\v.getD i 0<=2147483647:=by
    have h:=ag _ (fY (show i<v.length by omega));rw[cO,fw (show i<v.length by omega)];unfold iL at h;simpa using h
   have L:C4 ok n (v.getD i 0)=LX n+(if ok=5 then v.getD i 0 else 0):=rfl;have ac:LX n=max (min n 1099511627776) (-1099511627776):=rfl;generalize aw:v.getD i 0=vi at *;by_cases h5:ok=5
   ·rw[a7 h5]at L;refine zT (S.rd (i:=0) rfl) U ?_;(iterate 3 refine z ?_);refine zf ?_;(iterate 7 refine z ?_);refine zr ?_;rw[<-ac,<-L];refine zg ?_;refine jk (i:=0) S rfl (cR _) rfl rfl rfl rfl (by rw[Z];omega) rfl ?_;intro aI S;refine zg ?_;simp only[b7,cG]at S;rw[ai]at S;exact⟨mm-1,om,i+1,om,sl,S⟩
   ·rw[a8 h5]at L;refine zT (S.rd (i:=0) rfl) U ?_;(iterate 3 refine z ?_);refine zt ?_;(iterate 8 refine z ?_);refine zr ?_;rw[<-ac,<-L];refine zg ?_;refine jk (i:=0) S rfl (cR _) rfl rfl rfl rfl (by rw[Z];omega) rfl ?_;intro aJ S;refine zg ?_;simp only[b7,cG]at S;rw[ai]at S;exact⟨mm-1,om,i+1,om,sl,S⟩
  ·obtain rfl:i=O:=om;rw[nv om,fG,fN om]at S;refine zf ?_;refine zc ?_;refine eX rfl ?_;refine zc ?_;refine pD ?_;repeat first|refine nC ?_|refine pE ?_
   show CW _ _ _ _ _ _;iterate 4 refine z ?_
   refine Z1 1 S ?_;intro aK S;refine z ?_;refine z ?_;refine zq ?_;refine qj dL rfl (fS _) rfl (S.blk (i:=1) rfl) rfl rfl rfl rfl ?_;refine⟨D,I,[.row 2 1 D i I (cY (v.map (C4 ok n)))],?_,?_,?_⟩
   ·rw[eP,aj]
   ·exact λ_=>Ew.of (f6 _ (dM.2 rfl))
   ·exact(S.sub (.cons_cons _ (.cons _ (.cons _ (cQ _))))).perm_ (pZ _ ef.symm)
theorem Ss(I:dF X0 Y0 X1 Y1 s.gw s.gh≠0)(U:(o.k=2/\X0=o.ax/\Y0=o.ay/\X1=o.ax/\Y1=o.ay)\/((o.k=3\/o.k=5)/\X0=o.x0/\Y0=o.y0/\X1=o.x1/\Y1=o.y1)) :
  sE F W (s.L++M) s.p o true (46) X0 Y0 X1 Y1 (dF X0 Y0 X1 Y1 s.gw s.gh) []:=by
 intro kb tl w S;have S:=S.perm_ ef;obtain⟨ok,ac,ae,ad,ag,ax,ay,bx,D,n,m,vs,bs,bd⟩:=o;dsimp only at U;have L:=λw G=>yB (W:=w) (gw:=s.gw) (gh:=s.gh) (c:=s.cc) (p:=s.p) (A:=s.A) (cap:=s.cap) (bs:=s.bs) (Rs:=s.Rs) X0 Y0 X1 Y1 I G;generalize dF X0 Y0 X1 Y1 s.gw s.gh=e0 at *;refine zI func46 ?_;refine zN ?_;intro v ah V S;refine zN ?_;intro y ai Z S;iterate 4 refine z ?_
 refine zc ?_;refine gP (M:=λe w=>SL e [(0,pt s.p),(2,pt kb),(4,pt v),(5,pt y)]/\St F W w (.blk y 43 [ii 0,ii 0,ii 0,ii 0]::.blk v 46 (m5.cs ⟨ok,X0,Y0,X1,Y1,ax,ay,bx,D,n,m,vs,bs,bd⟩)::.blk kb 3 [ii ok]::(s.L++M++tl))) ?_ ?_
 ·rcases U with⟨rfl,rfl,rfl,rfl,rfl⟩|⟨rfl|rfl,rfl,rfl,rfl,rfl⟩
  ·skip;refine zS ?_;intro aj S;exact⟨sl,S⟩
  ·skip;refine zg ?_;exact⟨sl,S⟩
  ·skip;refine zg ?_;exact⟨sl,S⟩
 ·rintro e w1 ⟨O,S⟩;rw[O.fold];have ab:ok≠4:=om;refine zC (L w1 (S.grid (i:=4) rfl)) ?_;intro ak aa S;refine zg ?_;refine dl (λmm e w=>SL e [(5,pt y),(4,pt v),(8,.slice none 0 0),(9,ii e0),(43,ii 0),(44,ii 0)]/\St F W w (.blk y 43 [ii 0,ii 0,ii 0,ii 0]::.blk v 46 (m5.cs ⟨ok,X0,Y0,X1,Y1,ax,ay,bx,D,n,m,vs,bs,bd⟩)::.blk kb 3 [ii ok]::(s.L++M++tl))) 0 ⟨sl,S⟩ ?_;clear S;rintro mm e w2 ⟨J,S⟩;rw[J.fold];refine zf ?_;refine zc ?_;refine eX rfl ?_;refine zc ?_;refine pD ?_;repeat first|refine nC ?_|refine pE ?_
  show CW _ _ _ _ _ _;iterate 4 refine z ?_
  refine Z1 0 S ?_;intro al S;refine z ?_;refine z ?_;refine zq ?_;refine qj dL rfl (fS _) rfl (S.blk (i:=0) rfl) rfl rfl rfl rfl ?_;exact⟨none,0,[],rfl,λh=>absurd h I,(S.drop 2).perm_ ef.symm⟩
theorem Iu(ho:o.k=4)(hv:o.vs.n=V.length)(hm:∀w,Fr F W w->(∀h∈s.L++M,h.ok w)->Rd w o.vs.A (cY V)) :
  sE F W (s.L++M) s.p o true (46) o.x0 o.y0 o.x1 o.y1 (dF o.x0 o.y0 o.x1 o.y1 s.gw s.gh) V:=by
 intro kb tl w S;have S:=S.perm_ ef;obtain⟨ok,z,I,D,J,ax,ay,bx,O,n,m,⟨Z,vn,vc⟩,bs,bd⟩:=o;dsimp only at ho hv hm;subst ho;dsimp only;have S:St F W w (.blk kb 3 [ii 4]::(s.L++M++tl)):=S;rcases fv (dF z I D J s.gw s.gh=0)with U|U
 ·rw[U];obtain⟨⟨x0,y0,x1,y1⟩,hr,rfl,rfl,rfl,rfl⟩:=nP U;have hx:x0<=x1/\x1<s.gw:=hr.1;have hy:y0<=y1/\y1<s.gh:=hr.2;clear hr;dsimp only at *;refine zI func46 ?_;refine zN ?_;intro v al ag S;refine zN ?_;intro L am ah S;refine zK (iz x0 y0 x1 y1 hx hy (S.grid (i:=4) rfl)) ?_;rintro _ an ⟨aa,ab,rfl,ad,ae,ac⟩;have S:=S.pushRow ad ae ac;refine zH (C:=(yy F W (.row 2 1 aa ((y1+1-y0)*(x1+1-x0)) ab (cY (fi s.gw s.cc x0 y0 (x1+1-x0) (y1+1-y0)))::.blk L 43 [ii 0,ii 0,ii 0,ii 0]::.blk v 46 (m5.cs ⟨4,x0,y0,x1,y1,ax,ay,bx,O,n,m,⟨Z,vn,vc⟩,bs,bd⟩)::.blk kb 3 [ii 4]::(s.L++M++tl)) (.row 2 1 aa ((y1+1-y0)*(x1+1-x0)) ab (cY (fi s.gw s.cc x0 y0 (x1+1-x0) (y1+1-y0)))::.blk L 43 [ii x0,ii y0,ii x1,ii y1]::.blk v 46 (m5.cs ⟨4,x0,y0,x1,y1,ax,ay,bx,O,n,m,⟨Z,vn,vc⟩,bs,bd⟩)::.blk kb 3 [ii 4]::(s.L++M++tl)))) [5] [0,1,2,3,4,5,6] [7] (yy.start (S.gr (Gr.drew _))) ?_;refine zV (λτ wq y=>(y.blk (i:=2) rfl rfl)) ?_;refine zV (λτ wq y=>(y.blk (i:=2) rfl rfl)) ?_;refine zR ?_;refine de rfl rfl (λwq y=>Aj (i:=1) y rfl (fS _) rfl rfl rfl rfl rfl rfl (λw' S'=>S')) ?_;rintro aj ak _;refine zY ?_;rintro wz hz;have S:St F W wz _:=hz;refine zg ?_;refine qj dL rfl (fS _) rfl (S.blk (i:=1) rfl) rfl rfl rfl rfl ?_;exact⟨Z,vc,[],by rw[<-hv],λ_ w hF y=>hm w hF y,(S.drop 3).perm_ ef.symm⟩
 ·have ai:=λw G=>yB (W:=w) (gw:=s.gw) (gh:=s.gh) (c:=s.cc) (p:=s.p) (A:=s.A) (cap:=s.cap) (bs:=s.bs) (Rs:=s.Rs) z I D J U G;generalize dF z I D J s.gw s.gh=e0 at *;refine zI func46 ?_;refine zN ?_;intro v al ag S;refine zN ?_;intro L am ah S;refine zC (ai _ (S.grid (i:=4) rfl)) ?_;intro an ac S;refine zH (C:=(yy F W (.blk L 43 [ii 0,ii 0,ii 0,ii 0]::.blk v 46 (m5.cs ⟨4,z,I,D,J,ax,ay,bx,O,n,m,⟨Z,vn,vc⟩,bs,bd⟩)::.blk kb 3 [ii 4]::(s.L++M++tl)) (.blk L 43 [ii z,ii I,ii D,ii J]::.blk v 46 (m5.cs ⟨4,z,I,D,J,ax,ay,bx,O,n,m,⟨Z,vn,vc⟩,bs,bd⟩)::.blk kb 3 [ii 4]::(s.L++M++tl)))) [5] [0,1,2,3,4,5,6] [7] (yy.start (S.gr (Gr.drew _))) ?_;refine zV (λτ wq y=>(y.blk (i:=1) rfl rfl)) ?_;refine zV (λτ wq y=>(y.blk (i:=1) rfl rfl)) ?_;refine zR ?_;refine de rfl rfl (λwq y=>Aj (i:=0) y rfl (fS _) rfl rfl rfl rfl rfl rfl (λw' S'=>S')) ?_;rintro aj ak _;refine zY ?_;rintro wz hz;have S:St F W wz _:=hz;refine zg ?_;refine qj dL rfl (fS _) rfl (S.blk (i:=0) rfl) rfl rfl rfl rfl ?_;exact⟨Z,vc,[],by rw[<-hv],λ_ w hF y=>hm w hF y,(S.drop 2).perm_ ef.symm⟩
end
theorem OC(J:s.ok):pQ F W (s.L++M) s.sb o false (71) (λ_:{ q:Nat×List HA//Ob q.1 s.stamp s.gw s.gh s.V q.2 }=>gZ.fine) (λq=>{ s with ov:=some ⟨q.1.1,0,none⟩ }.L++(q.1.2++M)):=by
 intro kb tl w S;refine zI func71 ?_;refine zN ?_;intro y ac V S;refine zN ?_;intro z ad Z S;refine zH (C:=(Wi F W (.blk z 40 [ii 0,ii 0,.bool false,ii 0,ii 0,.slice none 0 0,.slice none 0 0,.slice none 0 0,.slice none 0 0,.slice none 0 0]::.blk y 46 o.cs::(s.L++M++(.blk kb 3 [ii o.k]::tl))) (λv Q=>∃sn,v=.tuple #[pt sn,ii 0]/\Ob sn s.stamp s.gw s.gh s.V Q) (λv=>.blk z 40 [ii 0,ii 0,.bool false,ii 0,ii 0,.slice none 0 0,.slice none 0 0,.slice none 0 0,.slice none 0 0,.slice none 0 0]::.blk y 46 o.cs::({ s with ov:=W7 v }.L++M++(.blk kb 3 [ii o.k]::tl))))) [9,15] [0,1,2,3,4,5,6,7,8,9,10,11,12,13,14,15] [] (S.gr (Gr.drew _)) ?_;refine qo rfl (λτ wq D=>D.ok (λS=>cV kO rfl rfl (S.blk (i:=2) rfl) rfl) (λv S=>cV kO rfl rfl (S.blk (i:=2) rfl) rfl)) ?_;refine zR ?_;refine qo rfl (λτ wq D=>D.ok (λS=>cV iY rfl rfl (S.blk (i:=2) rfl) rfl) (λv S=>cV iY rfl rfl (S.blk (i:=2) rfl) rfl)) ?_;refine de rfl rfl (λwq D=>l4 rfl ((UI J.hB (St.grid (show St F W wq _ from D) (i:=3) rfl)).mono λv w'⟨sn,Q,hv,hQ,S2⟩=>⟨_,⟨sn,hv,hQ⟩,St.app D S2⟩)) ?_;rintro v9 w9 ⟨_,⟨I,rfl,_⟩,_⟩;refine zR ?_;refine de rfl rfl (λwq D=>(show ∃Q,_/\St F W wq (Q++_)from D).elim λQ h=>BJ (i:=2) (St.mid (B:=[_,_,_]) h.2) rfl (sizeOf70 _) rfl rfl rfl rfl rfl rfl (λw' O=>⟨Q,h.1,St.mid (A:=[_,_,_]) O⟩)) ?_;rintro aa ab _;refine zY ?_;rintro wz ⟨Q,⟨sn,U,L⟩,S⟩;refine zg ?_;cases U
 have S:=St.mid (A:=Q) (B:=[_,_]) S;refine zS ?_;intro ae S;refine rA S ⟨⟨(I,Q),L⟩,rfl,?_⟩;rw[cL,cL];refine St.mid (A:=Q) (B:=lT.L { s with ov:=some ⟨I,0,none⟩ }) ?_;rw[<-cL (lT.L _)];exact S.drop 2
section
variable{V:List Int}
theorem L4:Fn prog 34 [ii 26] W (λv w'=>∃kb,v=.iface 146 (iT false (70) kb)/\St No W w' [.blk kb 3 [ii 26]]):=by
 have S:=St.start W;refine zI func34 ?_;refine zN ?_;intro y D z S;refine zg ?_;refine dU (jn Fk rfl rfl) ?_;refine zX ?_;exact⟨_,rfl,S⟩
theorem DY:xz 26 146 false (70):=by
 intro W;have S:=St.start W;refine zI func22 ?_;refine zK (L4) ?_;rintro _ y ⟨kb,rfl,v⟩;have S:=S.app v;refine zX ?_;exact⟨_,rfl,S⟩
theorem Ex(J:s.sb=sb)(D:xz o.k 117 true f)(I:s.ok)(L:0<=s.stamp/\s.stamp<1000)(U:s.l.length<40)(z:e0=dF X0 Y0 X1 Y1 s.gw s.gh)(y:V.length<=9223372036854775807)(O:sE F W (s.L++M) s.p o true f X0 Y0 X1 Y1 e0 V)(S:St F W w ((s.L++M)++tl)) :
  Fn prog 9 [pt sb,o.v] w (λv w'=>∃s':lT,v=({ code:=ET s.gw s.gh X0 Y0 X1 Y1 V }:gZ).v/\(s'.ok/\DX s s' (ET s.gw s.gh X0 Y0 X1 Y1 V) (im s.gw V X0.toNat Y0.toNat X1.toNat Y1.toNat s.cc))/\St F W w' ((s'.L++M)++tl)):=by
 subst J
 have hd:=Gi (F:=F) (W:=W) (w:=w) (L0:=s.rest++M) (tl:=tl) (α:={ s':lT//s'.ok/\DX s s' (ET s.gw s.gh X0 Y0 X1 Y1 V) (im s.gw V X0.toNat Y0.toNat X1.toNat Y1.toNat s.cc) }) (V:=λ_=>{ code:=ET s.gw s.gh X0 Y0 X1 Y1 V }) (Lx:=λx=>x.1.L++M) (o:=o) (t:=117) (f:=f) (sb:=s.sb) (gp:=some ⟨s.p,0,none⟩) (lp:=some ⟨s.lb,0,none⟩) (op:=s.ov) (pp:=some ⟨s.pp,0,none⟩) (stamp:=s.stamp) (fdo:=389)
  false true (λ_=>⟨_,rfl⟩) D (by kernel_rfl) (by kernel_rfl) (by kernel_rfl) underlying117 rfl
  (λkb Z w' S=>(LW I L U z y O S).mono λv aa⟨s',hv,hi,S'⟩=>⟨⟨s',hi⟩,hv,S'⟩) S
 exact hd.mono λv w'⟨x,hv,S'⟩=>⟨x.1,hv,x.2,S'⟩
theorem AR{α:Type}{Vr:α->gZ}{Lx:α->List HA}(I:s.sb=sb)(D:xz o.k 146 false f)(z:∀kb y w',St F W w' (s.L++y)->Fn prog (415) [iT false f kb,pt s.sb,o.v] w' (λv J=>∃x,v=(Vr x).v/\St F W J (Lx x++y)))(S:St F W w (s.L++T)) :
  Fn prog 9 [pt sb,o.v] w (λv w'=>∃x,v=(Vr x).v/\St F W w' (Lx x++T)):=by
 subst I
 exact Gi (F:=F) (W:=W) (w:=w) (L0:=s.rest) (tl:=T) (V:=Vr) (Lx:=Lx) (o:=o) (t:=146) (f:=f) (sb:=s.sb) (gp:=some ⟨s.p,0,none⟩) (lp:=some ⟨s.lb,0,none⟩) (op:=s.ov) (pp:=some ⟨s.pp,0,none⟩) (stamp:=s.stamp) (fdo:=415)
  false false (λ_=>⟨_,rfl⟩) D (by kernel_rfl) (by kernel_rfl) (by kernel_rfl) Fk rfl (λkb y w' S=>z kb _ w' S) S
theorem GT(D:s.sb=sb)(V:o.k=25)(z:s.ok)(L:0<=s.stamp/\s.stamp<1000)(hl:s.l.length<1000)(S:St F W w (s.L++T)) :
  Fn prog 9 [pt sb,o.v] w (λv w'=>∃s':lT,((s.done=0/\s'=s/\v=({ code:=15 }:gZ).v)\/(v=gZ.fine.v/\s'.ok/\∃x dn,s.done=dn+1/\s.l[dn]?=some x/\LY s s' x x.V2 x.V1 dn))/\St F W w' (s'.L++T)):=by
 rcases iZ s.done with I|I
 ·exact(AR (α:=Unit) (Vr:=λ_=>{ code:=15 }) (Lx:=λ_=>s.L) D (V▸DH) (λkb O w' S=>(L3 I S).mono λv U⟨y,S'⟩=>⟨(),y,S'⟩) S).mono λv w'⟨_,y,S'⟩=>⟨s,.inl ⟨I,rfl,y⟩,S'⟩
 ·obtain⟨dn,hd⟩:∃dn,s.done=dn+1:=⟨s.done-1,om⟩;have J:dn<s.l.length:=by have:=z.hd;omega
  have Z:=fw J;exact(AR (α:={ s':lT//s'.ok/\LY s s' _ _ _ dn }) (Vr:=λ_=>gZ.fine) (Lx:=λq=>q.1.L) D (V▸DH) (λkb O w' S=>(OB z L hl hd Z S).mono λv U⟨s',y,hi,S'⟩=>⟨⟨s',hi⟩,y,S'⟩) S).mono λv w'⟨q,y,S'⟩=>⟨q.1,.inr ⟨y,q.2.1,_,dn,hd,Z,q.2.2⟩,S'⟩
theorem OD(D:s.sb=sb)(V:o.k=26)(z:s.ok)(L:0<=s.stamp/\s.stamp<1000)(hl:s.l.length<1000)(S:St F W w (s.L++T)) :
  Fn prog 9 [pt sb,o.v] w (λv w'=>∃s':lT,((s.done=s.l.length/\s'=s/\v=({ code:=15 }:gZ).v)\/(v=gZ.fine.v/\s'.ok/\∃x,s.l[s.done]?=some x/\LY s s' x x.V1 x.V2 (s.done+1)))/\St F W w' (s'.L++T)):=by
 rcases fv (s.done=s.l.length)with I|I
 ·exact(AR (α:=Unit) (Vr:=λ_=>{ code:=15 }) (Lx:=λ_=>s.L) D (V▸DY) (λkb O w' S=>(JQ I S).mono λv U⟨y,S'⟩=>⟨(),y,S'⟩) S).mono λv w'⟨_,y,S'⟩=>⟨s,.inl ⟨I,rfl,y⟩,S'⟩
 ·have J:s.done<s.l.length:=by have:=z.hd;omega
  have Z:=fw J;exact(AR (α:={ s':lT//s'.ok/\LY s s' _ _ _ (s.done+1) }) (Vr:=λ_=>gZ.fine) (Lx:=λq=>q.1.L) D (V▸DY) (λkb O w' S=>(LZ z L hl rfl Z S).mono λv U⟨s',y,hi,S'⟩=>⟨⟨s',hi⟩,y,S'⟩) S).mono λv w'⟨q,y,S'⟩=>⟨q.1,.inr ⟨y,q.2.1,_,Z,q.2.2⟩,S'⟩
theorem vY.turned(h:vY ov now gw gh V M):vY ov (now+1) gw gh V' M:=by
 rcases h with⟨h1,h2⟩|⟨sn,st,v,h1,h2,y,z,D⟩
 ·exact .inl ⟨h1,h2⟩
 ·exact .inr ⟨sn,st,v,h1,h2,y,om,λh=>absurd h om⟩
theorem vY.painted{c2:Nat->Int}(h:vY s.ov s.stamp s.gw s.gh s.V M)(v:CE s s' c2):vY s'.ov s'.stamp s'.gw s'.gh s'.V M:=by
 rw[v.ov,v.gw,v.gh,v.V];rcases v.ch with⟨h1,_,_,h2⟩|⟨h1,_⟩
 ·rw[h1,<-h2];exact h
 ·rw[h1];exact h.turned
theorem vY.stepped{x:lS}(h:vY s.ov s.stamp s.gw s.gh s.V M)(v:LY s s' x V1 V2 dn):vY s'.ov s'.stamp s'.gw s'.gh s'.V M:=by
 rw[v.ov,v.gw,v.gh,v.st];exact h.turned
theorem vY.frozen{Q:List HA}(v:vB V)(h:Ob sn now gw gh V Q):vY (some ⟨sn,0,none⟩) now gw gh V Q:=.inr ⟨sn,now,V,rfl,h,v,ij _,λ_=>rfl⟩
end
section
variable{V:List Int}
theorem Mi(y:V.length=n)(z:∀v∈V,iL v=true):sX n V=0:=by
 unfold sX
 rw[a8 (by simpa using y),a8 (by
  intro h;obtain⟨v,D,h⟩:=jZ.1 h;rw[z v D]at h;cases h)]
theorem Ay(O:s.sb=sb)(J:xz o.k 117 true f)(L:s.ok)(U:0<=s.stamp/\s.stamp<1000)(hl:s.l.length<40)(hx:x0<=x1/\x1<s.gw)(hy:y0<=y1/\y1<s.gh)(y:V.length=(y1+1-y0)*(x1+1-x0))(z:∀v∈V,iL v=true)(Z:sE F W (s.L++M) s.p o true f x0 y0 x1 y1 0 V)(S:St F W w ((s.L++M)++tl)) :
  Fn prog 9 [pt sb,o.v] w (λv w'=>∃s':lT,v=gZ.fine.v/\(s'.ok/\CE s s' (im s.gw V x0 y0 x1 y1 s.cc))/\St F W w' ((s'.L++M)++tl)):=by
 have hw:=(S.grid (i:=1) rfl).sw;have hh:=(S.grid (i:=1) rfl).sh;have I:dF (x0:Int) y0 x1 y1 s.gw s.gh=0:=gW om om om om
 have D:ET s.gw s.gh x0 y0 x1 y1 V=0:=by
  unfold ET;rw[a7 I];simp only[b7];exact Mi y z
 have aa:V.length<=1024*1024:=y▸fy om om;refine(Ex O J L U hl I.symm om Z S).mono λv w'⟨s',hv,⟨h1,h2⟩,S'⟩=>⟨s',by rw[hv,D];rfl,⟨h1,?_⟩,S'⟩;rcases h2 with⟨h,_⟩|⟨_,h⟩
 ·exact absurd D h
 ·simpa only[b7]using h
theorem ST(D:o.k=4)(v:o.x0=x0/\o.y0=y0/\o.x1=x1/\o.y1=y1)(y:dF (x0:Int) y0 x1 y1 s.gw s.gh=0)(I:o.vs.n=V.length)(z:∀w,Fr F W w->(∀h∈s.L++M,h.ok w)->Rd w o.vs.A (cY V)) :
  sE F W (s.L++M) s.p o true (46) x0 y0 x1 y1 0 V:=by
 have:=Iu D I z;rwa[v.1,v.2.1,v.2.2.1,v.2.2.2,y]at this
theorem OR{x:lS}(J:s.sb=sb)(U:o.k=25)(I:s.ok)(L:0<=s.stamp/\s.stamp<1000)(V:s.l.length<1000)(hd:s.done=dn+1)(hx:s.l[dn]?=some x)(h2:fi s.gw s.cc x.x0 x.y0 (x.x1+1-x.x0) (x.y1+1-x.y0)=x.V2)(S:St F W w (s.L++T)) :
  Fn prog 9 [pt sb,o.v] w (λv w'=>∃s':lT,v=gZ.fine.v/\(s'.ok/\s'.sb=s.sb/\s'.gw=s.gw/\s'.gh=s.gh/\s'.ov=s.ov/\s'.V=dw s.gw s.gh (im s.gw x.V1 x.x0 x.y0 x.x1 x.y1 s.cc)/\s'.stamp=s.stamp+1)/\St F W w' (s'.L++T)):=by
 refine(GT J U I L V S).mono λv w'⟨s',h,S'⟩=>?_;rcases h with⟨h,_⟩|⟨Z,h1,x',D,O,z,y⟩
 ·omega
 ·obtain rfl:dn=D:=om;rw[hx]at z;cases z
  refine⟨s',Z,⟨h1,y.sb,y.gw,y.gh,y.ov,?_,y.st⟩,S'⟩;rcases y.cc with h|⟨_,h⟩
  ·show dw s'.gw s'.gh s'.cc=_;rw[y.gw,y.gh,h]
  ·exact absurd h2 h
end
theorem OS{c2:Nat->Int}{x:lS}(z:CE s s' c2)(h1:x.V1=fi s.gw s.cc x.x0 x.y0 (x.x1+1-x.x0) (x.y1+1-x.y0))(v:∀a b,a<s.gw->b<s.gh->s.cc (b*s.gw+a)≠c2 (b*s.gw+a)->(x.x0<=a/\a<=x.x1)/\x.y0<=b/\b<=x.y1):dw s'.gw s'.gh (im s'.gw x.V1 x.x0 x.y0 x.x1 x.y1 s'.cc)=s.V:=by
 have D:dw s'.gw s'.gh s'.cc=dw s.gw s.gh c2:=z.V;rw[z.gw,z.gh]at D ⊢;rw[h1];refine Ep λa b I J y=>v a b I J λe=>y ?_
 have hi:b*s.gw+a<s.gw*s.gh:=by
  have h1:=cI s.gw (show b+1<=s.gh by omega);rw[cX,cD s.gh]at h1;omega
 rw[e];exact DG D hi
theorem St.nil1{L:List HA}(S:St F W w (L++T)):St F W w ((L++[])++T):=by rw[fG];exact S
theorem St.nil2{L:List HA}(S:St F W w ((L++[])++T)):St F W w (L++T):=by rw[fG]at S;exact S
theorem St.asc{A B C:List HA}(S:St F W w ((A++B)++C)):St F W w (A++(B++C)):=by rw[<-cL];exact S
theorem St.csa{A B C:List HA}(S:St F W w (A++(B++C))):St F W w ((A++B)++C):=by rw[cL];exact S
theorem OU:Fn prog 27 [] W (dp (.bool true) W):=by
 have S:=St.start W;refine zI func27 ?_;refine zK (Gk) ?_;rintro _ bz ⟨sb,pp,rfl,S2⟩;have S:=S.app S2;refine zN ?_;intro aK bA bq S;refine zS ?_;intro bB S;refine zK (Eq (o:=⟨1,0,0,0,0,0,0,0,0,2,1,.nil,.nil,.nil⟩) (gw:=2) (gh:=1) rfl (by decide) (by decide) rfl rfl (S.pick 3 [1,0,2] rfl rfl rfl)) ?_;rintro _ bC ⟨s1,rfl,⟨ai,al,aa,Z,be,aL,ap,bv,bf⟩,S⟩;refine zg ?_;have S:=S.mid (A:=s1.L) (B:=[_]);refine zK (Ay (s:=s1) (M:=[]) (o:=⟨2,0,0,0,0,0,0,0,0,5,0,.nil,.nil,.nil⟩) (x0:=0) (y0:=0) (x1:=0) (y1:=0) (V:=(fi s1.gw s1.cc 0 0 (0+1-0) (0+1-0)).map (C4 2 5)) al (wO (by decide) (by decide)) ai om (by rw[ap];decide) om om (by rw[eP,lE]) (by simp[iL,C4,LX];omega) (GR ai om om (.inl ⟨rfl,rfl,rfl,rfl,rfl⟩)) (S.mid (A:=[_]) (B:=s1.L)).nil1) ?_;rintro _ bD ⟨z,rfl,⟨J,O⟩,S⟩;have S:=S.nil2.mid (A:=z.L) (B:=[_]);refine ze ?_;have am:z.sb=sb:=O.sb.trans al;have ad:z.gw=2:=O.gw.trans aa;have aA:z.gh=1:=O.gh.trans Z;have bg:0<=z.stamp/\z.stamp<=1:=by rcases O.ch with⟨h,_⟩|⟨h,_⟩<;>omega
 have aT:z.l.length<=1:=by
  rcases O.ch with⟨_,h,_⟩|⟨_,x,h,_⟩
  ·rw[h,ap];simp
  ·rw[h,ap];simp
 refine zK (tj (s:=z) (M:=[]) (o:=⟨18,0,0,0,0,0,0,0,0,0,0,.nil,.nil,.nil⟩) am false Ai (NI J) (S.mid (A:=[_]) (B:=z.L)).nil1) ?_;rintro _ bE ⟨⟨⟨sn,Q⟩,aV⟩,rfl,S⟩;have S:=S.mid (B:=[_]);refine ze ?_;obtain⟨tb,q,Ao,co,Fs,au,hQ⟩:=aV;dsimp only at hQ S;rw[fG]at S
 have aN:s1.cc 1=0:=by
  have h:dw s1.gw s1.gh s1.cc=dw 2 1 (λ_=>0):=aL;rw[aa,Z]at h;exact DG h (by decide)
 have av:z.V=[5,0]:=by
  rw[O.V,aa,Z];show [(5:Int),s1.cc 1]=[5,0];rw[aN]
 obtain⟨y,I⟩:∃y:lT,{ z with ov:=some ⟨sn,0,none⟩ }=y:=⟨_,rfl⟩;have an:y.sb=sb:=by rw[<-I];exact am
 have ae:y.gw=2:=by rw[<-I];exact ad
 have ac:y.gh=1:=by rw[<-I];exact aA
 have aw:y.V=[5,0]:=by rw[<-I];exact av
 have bh:y.stamp=z.stamp:=by rw[<-I]
 have bw:y.l.length<=1:=by rw[<-I];exact aT
 have aG:y.ov=some ⟨sn,0,none⟩:=by rw[<-I]
 have aj:y.ok:=by rw[<-I];exact⟨J.hB,J.hd,J.hg⟩
 rw[I]at S;refine zK (Ay (s:=y) (M:=Q) (o:=⟨3,0,0,1,0,0,0,0,0,1,0,.nil,.nil,.nil⟩) (x0:=0) (y0:=0) (x1:=1) (y1:=0) (V:=(fi y.gw y.cc 0 0 (1+1-0) (0+1-0)).map (C4 3 1)) an (wO (by decide) (by decide)) aj om om om om (by rw[eP,lE]) (by simp[iL,C4,LX];omega) (GR aj om om (.inr ⟨.inl rfl,rfl,rfl,rfl,rfl⟩)) (S.mid (A:=[_]) (B:=y.L++Q))) ?_;rintro _ bF ⟨L,rfl,⟨aD,D⟩,S⟩;have S:=S.mid (A:=L.L++Q) (B:=[_]);refine ze ?_;have ab:L.sb=sb:=D.sb.trans an;have ag:L.gw=2:=D.gw.trans ae;have aB:L.gh=1:=D.gh.trans ac;have ak:L.ov=some ⟨sn,0,none⟩:=D.ov.trans aG
 have aO:L.stamp=y.stamp+1/\∃x:lS,L.l=y.l.take y.done++[x]/\L.done=L.l.length/\DA y.gw y.gh x/\x.V1=fi y.gw y.cc x.x0 x.y0 (x.x1+1-x.x0) (x.y1+1-x.y0)/\x.V2=fi y.gw L.cc x.x0 x.y0 (x.x1+1-x.x0) (x.y1+1-x.y0) /\
   ∀a b,a<y.gw->b<y.gh->y.cc (b*y.gw+a)≠im y.gw ((fi y.gw y.cc 0 0 (1+1-0) (0+1-0)).map (C4 3 1)) 0 0 1 0 y.cc (b*y.gw+a)->(x.x0<=a/\a<=x.x1)/\x.y0<=b/\b<=x.y1:=by
  rcases D.ch with⟨_,_,_,h⟩|h
  ·exfalso;rw[aw,ae,ac]at h;have h:[(5:Int),0]=[1,1]:=h;cases h
  ·exact h
 obtain⟨bi,x,aq,aP,hX,aX,aY,aS⟩:=aO;have ao:eL _ sb 73 L.top:=ab▸S.blk (i:=1) rfl;unfold lT.top at ao;rw[ak]at ao;subst hQ;have bt:DA L.gw L.gh x:=by rw[D.gw,D.gh];exact hX
 have aF:uv z.V z.gw 0 0 1 0=5:=by rw[av,ad];rfl
 have bu:1<=x.V1.length:=by
  have h1:=hX.hx;have h2:=hX.hy;rw[hX.l1];exact fy (show 1<=x.y1+1-x.y0 by omega) (show 1<=x.x1+1-x.x0 by omega)
 refine zC (((Rl (o:=⟨20,0,0,1,0,0,0,0,0,0,0,.nil,.nil,.nil⟩) (V:=z.V) (gw:=z.gw) (gh:=z.gh) (x0:=0) (y0:=0) (x1:=1) (y1:=0) rfl J.hB om om om om ⟨rfl,rfl,rfl,rfl⟩ (S.blk (i:=12) rfl) (S.drop 13).areaAt ao).mono λv w'⟨hv,hg⟩=>(show v=gZ.v { code:=0,n:=5 }/\Gr _ w' from ⟨by rw[hv,aF],hg⟩))) ?_;intro bG br S;refine zN ?_;intro aZ bk bb S;refine zS ?_;intro bl S;refine zK (OR (s:=L) (x:=x) (o:=⟨25,0,0,0,0,0,0,0,0,0,0,.nil,.nil,.nil⟩) (dn:=(y.l.take y.done).length) ab rfl aD om (by rw[aq,cP,d7];simp;omega) (by rw[aP,aq,cP];rfl) (by rw[aq,fU (fK _),j8];rfl) (by rw[D.gw];exact aY.symm) (S.mid (A:=[_,_]) (B:=L.L++_)).asc) ?_;rintro _ bm ⟨U,rfl,⟨aE,aI,ah,aC,aH,aM,bj⟩,S⟩;have S:=S.csa.mid (A:=U.L++_) (B:=[_,_]);refine ze ?_;have az:U.V=[5,0]:=(aM.trans (OS D aX aS)).trans aw;have aJ:uv U.V U.gw 0 0 1 0=5:=by rw[az,ah,ag];rfl
 have aR:U.gw=2:=ah.trans ag;have aQ:U.gh=1:=aC.trans aB;have aU:z.stamp≠U.stamp:=om;have ar:U.ov=some ⟨sn,0,none⟩:=aH.trans ak;have aW:=λw TL(S:St No W w ((U.L++(.blk sn 258 [ii z.stamp,pt tb,pt q]::BB tb z.gw z.gh z.V Ao co Fs au))++TL))=>(tj (s:=U) (o:=⟨7,0,0,1,0,0,0,0,0,0,0,.nil,.nil,.nil⟩) (aI.trans ab) true (rV (by decide) (by decide)) (PG (x0:=0) (y0:=0) (x1:=1) (y1:=0) aE om om (λw tl S=>.inr ⟨sn,z.stamp,_,_,ar,aU,S.blk (i:=11) rfl⟩) ⟨rfl,rfl,rfl,rfl,rfl⟩) S).mono λv w'⟨_,hv,S⟩=>(show v=gZ.v { code:=0,n:=5 }/\St No W w' ((U.L++(HA.blk sn 258 [ii z.stamp,pt tb,pt q]::BB tb z.gw z.gh z.V Ao co Fs au))++TL)from ⟨by rw[hv];show gZ.v _=_;rw[aJ],S⟩);refine zK (aW _ _ (S.mid (A:=[_,_]) (B:=U.L++_))) ?_;rintro _ bn ⟨rfl,S⟩;have S:=S.mid (A:=U.L++_) (B:=[_,_]);refine zN ?_;intro ba bo bc S;refine zS ?_;intro bp S;exact ir rfl ⟨rfl,S.out⟩
end Go.Proofs.YtcalhocphkbbgaaGreatDoor
