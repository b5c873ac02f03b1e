/- A part of the proof that hachuretop.WholeCharts and hachuretop.WholeWater returns true at every input; no condition. -/
import Derived.Test.YtcalhocphkbbgaaGreatDoorKW
set_option maxRecDepth 100000
set_option maxHeartbeats 16000000
set_option linter.unusedVariables false
set_option linter.unusedSimpArgs false
namespace Go.Proofs.YtcalhocphkbbgaaGreatDoor
open Go.Proofs.Tryz Go.RowKit
variable{Q:(Nat->Value)->World->Prop}{af:Array Edge}{fs:Array Field}{tys:Array TypeId}{bd:Code}{fd:Field}{f fdo:FuncId}{h:HA}{X0 X1 Y Y0 Y1 a ax ay bx e0 stamp:Int}{kc kn:IntKind}{σ:List (Nat × Value)}{K:List (Nat × Value)->Act->Prop}{L' L0 M T tl:List HA}{V1 V2:List Int}{hd ks:List Nat}{args:List Operand}{l vs xs:List Value}{N b b' bytes c c1 cK dn g gh gw i j k k1 kb lc m n p p2 pb q sb sn tb x0 x1 y0 y1:Nat}{cc:Nat->Int}{bs bs2:Nat->Nat}{R':Nat->Nat->Bool}{As:Nat->Option Addr}{Rs Rs2:Nat->Option Nat}{F X:Nat->Prop}{e:Nat->Value}{op:Op}{o:m5}{hi x:Operand}{A A1 A2 B g0 gp l0 lA lp o0 ov p0 pp:Option Addr}{d:Option Tmp}{P:Program}{G:Prop}{r:Rc}{s s':lT}{name:String}{α:Type}{dd:TypeDesc}{t ts ty:TypeId}{u v2:Value}{W w w' wq:World}{C:World->Prop}
section
variable{st0:Int}{l:List Int}
theorem Ux(V:jX w)(D:o.bs.n=l.length)(z:o.bs.n<=o.bs.c)(Z:l.length<=1073741824)(y:Rd w o.bs.A (f9 l)):Fn prog 67 [o.v] w (Gw (λg e=>.tuple #[g,ii e]) w):=by
 obtain⟨ok,aa,ac,ab,ad,ax,ay,bx,L,n,m,vs,⟨bA,bn,bc⟩,bd⟩:=o;dsimp only at D z y;subst D;have S:=St.start w;refine zI func67 ?_;refine zN ?_;intro v ae O S;refine zK (Uk (V.gr S.out) z Z (y.gr S.out)) ?_;rintro _ ag ⟨kA,kn,kc,gp,e,Q,rfl,I,U⟩;have S:=S.app I;refine zg ?_;refine nd rfl rfl ⟨gp,e,Q,rfl,?_,U⟩;have J:=S.sub (L':=Q) (by simp);exact J
def Yo(F:Nat->Prop)(W:World)(sb:Nat)(Z T:List HA)(v:Value)(w':World):Prop :=
 (v=({ code:=10 }:gZ).v/\St F W w' (Z++T))\/∃s':lT,v=gZ.fine.v/\(s'.ok/\s'.sb=sb/\s'.ov=none/\s'.l=[]/\s'.done=0/\s'.stamp=0)/\St F W w' (s'.L++T)
theorem LE(hf:∀w L,St F W w L->Fn prog f [o.v] w (Gw (λg e=>.tuple #[g,ii e]) w))(S:St F W w (.blk sb 73 [.pointer g0,.pointer l0,.pointer o0,ii st0,.pointer p0]::T)) :
  Fn prog (412) [iT false f kb,pt sb,o.v] w (Yo F W sb [.blk sb 73 [.pointer g0,.pointer l0,.pointer o0,ii st0,.pointer p0]] T):=by
 obtain⟨ok,ad,ag,ae,ah,ax,ay,bx,aa,n,m,vs,bs,bd⟩:=o;unfold iT;refine zI func412 ?_;refine zN ?_;intro O ai ab S;refine zN ?_;intro U aj ac S;refine zg ?_;refine ju rfl rfl (hf _ _ S) ?_;rintro _ ak ⟨gp,e,Q,rfl,v,D⟩;have S:=S.app v;refine zg ?_;rcases D with I|⟨I,p,gw,gh,cap,cc,A2,bs2,Rs2,J,y,D⟩
 ·subst I;have S:=St.mid (A:=Q) (B:=[_,_,_]) S;refine zS ?_;intro al S;exact rA S (.inl ⟨rfl,(S.drop 2).sub (.cons_cons _ (iP _ _))⟩)
 ·subst I;subst J;subst D;refine zK (DF y (S.grid (i:=0) rfl)) ?_;rintro _ am ⟨lb,tb,A1,c1,pb,lA,lc,As,cs,rfl,v⟩;have S:=(S.app v);refine zK (yt) ?_;rintro _ an ⟨pp,rfl,v⟩;have S:=S.app v;refine dU (kL (pl:=[(0,1),(1,1),(2,1),(3,1),(4,1)]) Zz ZC (λw=>by kernel_rfl) rfl rfl) ?_;refine z ?_;refine Z1 10 S ?_;intro ao S;refine z ?_;refine dU (kL (pl:=[(0,1),(1,1),(2,1),(3,2),(5,1),(6,1),(7,1),(8,1),(9,1)]) jw pI (λw=>by kernel_rfl) rfl rfl) ?_;refine Z1 8 S ?_;intro V S;refine zq ?_;have Z:=((S.pushNil 253 6).pts0).pick 13 [10,11,12,9,3,4,5,6,7,8,2,1,0] rfl rfl rfl;exact rA S (.inr ⟨⟨sb,p,cap,pp,lb,tb,pb,gw,gh,0,A2,A1,lA,none,none,c1,lc,0,bs2,Rs2,cc,As,cs,[],0⟩,rfl,⟨⟨y,fK _,λx hx=>by cases hx⟩,rfl,rfl,rfl,rfl,rfl⟩,Z.drop 2⟩)
theorem LG:Fn prog 34 [ii 24] W (λv w'=>∃kb,v=.iface 141 (iT false (67) kb)/\St No W w' [.blk kb 3 [ii 24]]):=by
 have S:=St.start W;refine zI func34 ?_;refine zN ?_;intro y D z S;refine zg ?_;refine dU (jn aaj rfl rfl) ?_;refine zX ?_;exact⟨_,rfl,S⟩
theorem RP:xz 24 141 false (67):=by
 intro W;have S:=St.start W;refine zI func22 ?_;refine zK (LG) ?_;rintro _ y ⟨kb,rfl,v⟩;have S:=S.app v;refine zX ?_;exact⟨_,rfl,S⟩
theorem RR(I:o.k=24)(D:∀w L,St F W w L->Fn prog (67) [o.v] w (Gw (λg e=>.tuple #[g,ii e]) w))(S:St F W w (.blk sb 73 [.pointer g0,.pointer l0,.pointer o0,ii st0,.pointer p0]::T)) :
  Fn prog 9 [pt sb,o.v] w (Yo F W sb [.blk sb 73 [.pointer g0,.pointer l0,.pointer o0,ii st0,.pointer p0]] T):=by
 have hd:=Gi (F:=F) (W:=W) (w:=w) (L0:=[]) (tl:=T) (α:=Option { s':lT//s'.ok/\s'.sb=sb/\s'.ov=none/\s'.l=[]/\s'.done=0/\s'.stamp=0 }) (V:=λx=>match x with|none=>{ code:=10 }|some _=>gZ.fine) (Lx:=λx=>match x with|none=>[.blk sb 73 [.pointer g0,.pointer l0,.pointer o0,ii st0,.pointer p0]]|some s'=>s'.1.L) (o:=o) (t:=141) (f:=67) (sb:=sb) (lp:=l0) (op:=o0) (pp:=p0) (gp:=g0) (stamp:=st0) (fdo:=412)
  true false (λh=>by cases h) (I▸RP) (by kernel_rfl) (by kernel_rfl) (by kernel_rfl) aaj rfl
  (λkb J w' S=>(LE D S).mono λv O h=>by
   rcases h with⟨z,y⟩|⟨s',z,hi,y⟩
   ·exact⟨none,z,y⟩
   ·exact⟨some ⟨s',hi⟩,z,y⟩) S
 exact hd.mono λv w'⟨x,z,y⟩=>by
  cases x with
  |none=>exact .inl ⟨z,y⟩
  |some s'=>exact .inr ⟨s'.1,z,s'.2,y⟩
end
theorem LU(hT:∀w L,St F W w L->jX w)(U:s.ok)(ho:o.k=23/\o.n=3) :
  pQ F W (s.L++M) s.sb o false (73) (λq:{ q:Sv//q.n<=17+3849*(cU s.gh*cU s.gw) }=>{ code:=0,bytes:=q.1:gZ }) (λ_=>s.L++M):=by
 intro kb tl w S;have ad:=λw G=>DI (W:=w) (gw:=s.gw) (gh:=s.gh) (cc:=s.cc) (p:=s.p) (A:=s.A) (cap:=s.cap) (bs:=s.bs) (Rs:=s.Rs) U.hB G;have ah:=λw(ks:List Nat)K cK hH h1 h2 hK G=>It (W:=w) (ks:=ks) (K:=K) (cK:=cK) (gw:=s.gw) (gh:=s.gh) (cc:=s.cc) (p:=s.p) (A:=s.A) (cap:=s.cap) (bs:=s.bs) (Rs:=s.Rs) hH U.hB h1 h2 hK G;obtain⟨ok,am,ao,an,ap,ax,ay,bx,aj,n,m,vs,bs,bd⟩:=o;dsimp only at ho;obtain⟨rfl,rfl⟩:=ho;refine zI func73 ?_;refine zN ?_;intro ai aq ak S;refine zN ?_;intro Z ar al S;refine zK (ad _ (S.grid (i:=3) rfl)) ?_;rintro _ au ⟨ks,ae,I,V,aa,rfl,D,O,ab⟩;have S:=S.pushRow D O ab;refine zg ?_;dsimp only;refine zK (ah _ ks V aa (hT _ _ S) ae I (S.rd (i:=0) rfl) (S.grid (i:=4) rfl)) ?_;rintro _ av ⟨lb,ag,v,y,rfl,z,J,ac⟩;have S:=S.pushRow z J ac;refine zC (vE (r:={ code:=0,bytes:=⟨v,lb.length,y⟩ })) ?_;refine zS ?_;intro aw S;exact rA S ⟨⟨⟨v,lb.length,y⟩,ag⟩,rfl,S.drop 4⟩
theorem Ov(L:s.ok)(ho:o.k=23/\o.n≠3/\(o.n<0\/2<o.n)) :
  pQ F W (s.L++M) s.sb o false (73) (λ_:Unit=>{ code:=11:gZ }) (λ_=>s.L++M):=by
 intro kb tl w S;have I:=λw G=>DI (W:=w) (gw:=s.gw) (gh:=s.gh) (cc:=s.cc) (p:=s.p) (A:=s.A) (cap:=s.cap) (bs:=s.bs) (Rs:=s.Rs) L.hB G;obtain⟨-,h3,J⟩:=ho;rcases J with J|J
 all_goals
  refine zI func73 ?_;refine zN ?_;intro O ad aa S;refine zN ?_;intro z ae ab S;refine zK (I _ (S.grid (i:=3) rfl)) ?_;rintro _ ag ⟨ks,ac,U,V,Z,rfl,v,y,D⟩;have S:=S.pushRow v y D;refine zS ?_;intro ah S;exact rA S ⟨(),rfl,S.drop 3⟩
theorem U1:(prog.info? 3).map (λi=>(i.zero,i.size,i.bytes))=some (some (ii 0),1,8):=by kernel_rfl
theorem GM(g:Nat)(v:Value)(n:Nat)(hn:1<=n/\n<=4096)(hv:v.oneCell'=true)(W:World)(D:eL W g 3 [v]) :
  Fn prog 148 [.slice (some ⟨g,0,none⟩) 1 1,ii n] W
   (λr w'=>∃b,r=.slice (some ⟨b,0,none⟩) n n/\W.heap.size<=b/\eL w' b 3 (List.replicate n v)/\Gr W w'):=by
 have y:=Gr.refl W;refine zI func148 ?_;refine zg ?_;refine Y9 rfl (re _ om) ?_;refine zg ?_;refine Y9 rfl (re _ om) ?_;refine zK (Tk n om om _) ?_;rintro _ Z ⟨rfl,g1⟩;have D:=D.gr g1;have y:=y.trans g1;refine zg ?_;refine dU (EZ rfl rfl (b:=false) (iO om)) ?_;refine zg ?_;refine dr rfl ?_;refine dU (EZ rfl rfl (b:=false) (iO om)) ?_;refine zg ?_;refine Y9 rfl (gC _ om) ?_;try have S:=D.lt
 try have S:=y.le
 refine tW (Hy iF U1 rfl rfl rfl (n:=n) (c:=n) om om om om) ?_;intro am J al aa;have D:=D.gr J;have y:=y.trans J;refine zg ?_;have ag:=y.le;have ak:=D.lt;refine zg ?_;refine J3 iF fa rfl rfl aa D (n:=1) om rfl rfl (by simp;omega) (by simpa using hv) ?_;intro w3 g3 s3 b3;refine zg ?_;have y:=y.store g3 om;refine zg ?_
 refine dl (λm e w=>∃k:Nat,1<=k/\k<=n/\k+m=n/\SL e [(7,.slice (some ⟨Z.heap.size,0,none⟩) n n),(8,ii k)]/\(∃l,eL w Z.heap.size 3 l/\l.length=n/\∀i,i<k->l[i]?=some v)/\Gr W w) (n-1)
  ⟨1,om,om,om,sl,⟨_,b3,by simp;omega,λi hi=>(by rw[(om:i=0)];simp)⟩,y⟩ ?_
 rintro m e w ⟨k,ah,ai,aj,ad,⟨l,hL,ae,U⟩,hg⟩;rw[ad.fold];iterate 3 refine z ?_
 first|refine dU (ff (b:=true) rfl (fD om)) ?_|refine dU (ff (b:=false) rfl (iO om)) ?_|refine dU (jx rfl) ?_
 refine zc ?_;refine tV rfl (λhc=>?_) (λhc=>?_)
 ·refine gO ?_;try show CW _ _ _ _ _ _
  have O:k<n:=by simp at hc;omega
  have I:∀u,u∈l.take k->u=v:=λu V=>by
   obtain⟨i,hi,rfl⟩:=gK.1 V;have ab:i<k:=by simp at hi;omega
   have:=U i ab;rw[List.getElem_take];rw[fw om]at this;exact Option.some.inj this
  refine zH (C:=(λσ wq=>match σ with|[]=>wq=w.drew|v0::_=>v0=ii (min k (n-k):Nat)/\w.grownBy wq (some Z.heap.size)/\eL wq Z.heap.size 3 (l.take k++l.take (min k (n-k))++l.drop (k+min k (n-k))))) [7] [0,1,2,3,4,5,6,7,8,9] [] rfl ?_;refine ot rfl (D6 iF fa rfl rfl om om om) ?_;refine zR ?_;refine ot rfl (jb iF fa rfl rfl om om) ?_;refine de rfl rfl (λwq hq=>?_) ?_
  ·subst hq;refine Te (Fd iF fa rfl rfl hL.drew hL.drew (n:=min k (n-k)) (by simp) rfl (by simp;omega) om (λu V=>by rw[I u (by simp only[dR,cG]at V;exact(pu l (Nat.min_le_left _ _)) V)];exact hv)) ?_;rintro w' ⟨h2,h3,h4⟩;exact⟨rfl,⟨h2.os,h2.tape,h2.output,h2.size,h2.block⟩,by simpa using h4⟩
  rintro v0 an ⟨rfl,gq,bq⟩;refine zY ?_;rintro w4 ⟨_,g4,b4⟩;refine ze ?_;refine⟨m-min k (n-k),om,k+min k (n-k),om,om,om,sl,⟨_,b4,by simp;omega,λi hi=>?_⟩,?_⟩
  ·by_cases L:i<k
   ·rw[cL,gt (by simp;omega)];simp[L,U i L]
   ·rw[cL,fU (by simp;omega),gt (by simp;omega)];simp only[d7];rw[fJ,a7 om];exact U _ om
  ·exact hg.store g4 om
 ·refine pD ?_;show CW _ _ _ _ _ _;refine z ?_;refine z ?_;refine ze ?_;have O:k=n:=by simp at hc;omega
  subst O
  have ac:l=List.replicate k v:=by
   apply gG;intro i;by_cases hi:i<k
   ·rw[U i hi];simp[hi]
   ·rw[dZ om];simp[hi]
  subst ac;exact mJ (ir rfl ⟨_,rfl,g1.le,hL,hg⟩)
def YL:List Value:=[ii 0,ii 0,.bool false,ii 0,ii 0,.slice none 0 0,.slice none 0 0,.slice none 0 0,.slice none 0 0,.slice none 0 0]
def yR(F:Nat->Prop)(W:World)(L:List HA)(i j:Nat)(t:TypeId)(l:List Value)(T:Value->List HA->Prop)(σ:List (Nat×Value))(w:World):Prop :=
 ∃Q1 Q2,(match σ.lookup i with|none=>Q1=[]|some v=>T v Q1)/\(match σ.lookup j with|none=>Q2=[]|some u=>∃b,u=.slice (some ⟨b,0,none⟩) 1 1/\Q2=[.blk b t l])/\St F W w (Q2++(Q1++L))
section
variable{L:List HA}{T:Value->List HA->Prop}
theorem yR.start(S:St F W w L):yR F W L i j t l T [] w:=⟨[],[],rfl,rfl,S⟩
theorem yR.st(h:yR F W L i j t l T σ w):St F W w L:=by
 obtain⟨v,y,_,_,S⟩:=h;have:=S.drop (y++v).length;rwa[<-cL,jE]at this
theorem yR.val{v:Value}(h:yR F W L i j t l T σ w)(hi:σ.lookup i=some v):∃Q,T v Q:=by
 obtain⟨y,z,h1,_,_⟩:=h;rw[hi]at h1;exact⟨y,h1⟩
theorem yR.adr(h:yR F W L i j t l T σ w)(y:σ.lookup j=some u):∃b,u=.slice (some ⟨b,0,none⟩) 1 1:=by
 obtain⟨z,D,_,h2,_⟩:=h;rw[y]at h2;obtain⟨b,v,_⟩:=h2;exact⟨b,v⟩
theorem yR.fin{v:Value}(h:yR F W L i j t l T σ w)(hi:σ.lookup i=some v)(z:σ.lookup j=some (.slice (some ⟨b,0,none⟩) 1 1)):∃Q,T v Q/\St F W w (.blk b t l::(Q++L)):=by
 obtain⟨y,D,h1,h2,S⟩:=h;rw[hi]at h1;rw[z]at h2;obtain⟨b',e,rfl⟩:=h2;cases e
 exact⟨y,h1,S⟩
section
variable{ps:String}
theorem Ev(h:yR F W L i j t l T σ w)(hi:σ.lookup i=none)(y:(j==i)=false)(J:lj (args.map (ev e))=some vs)(I:St F W w L->Fn P f vs w (λv w'=>∃Q,T v Q/\St No w w' Q)):gI P e ⟨d,.call ⟨.value (.func f),args.toArray,tys⟩,ty,ps,af,none⟩ w (λv w'=>yR F W L i j t l T ((i,v)::σ) w'):=by
 have z:=h.st;obtain⟨O,D,h1,h2,S⟩:=h;rw[hi]at h1;subst h1;refine l4 J ((I z).mono λv w'⟨Q,hT,S2⟩=>⟨Q,D,?_,?_,St.mid (S.app S2)⟩)
 ·simp only[cZ,fE];exact hT
 ·simp only[cZ,y]at h2 ⊢;exact h2
theorem GN{k:TypeId}{y:List (Nat×Operand)}{z:Value}{l0:List Value}(h:yR F W L i j t l T σ w)(Z:σ.lookup j=none)(D:(i==j)=false)(hu:P.underlying ts=some (.slice t))(hs:∀w,(sizeOf t).run P w=.ok k w)(hz:∀w,(zeroValue t).run P w=.ok z w)(hk:z.cells.toList.length=k)(I:Nat.beq (1*k) 0=false)(hn:Nat.ble (1*k) 16777216=true)(h1:yS (λi=>some (i*k,k)) ((List.replicate 1 z.cells.toList).flatten) (yQ e y)=some l0)(h2:lj l0=some l):gI P e ⟨d,.buildSlice ts 1 y.toArray,ty,ps,af,none⟩ w (λv w'=>yR F W L i j t l T ((j,v)::σ) w'):=by
 obtain⟨O,Q2,V,J,S⟩:=h;rw[Z]at J;subst J;refine gu rfl (yY (mu hu hs hz hk I hn h1 h2) S (λw' g U=>⟨O,[.blk w.heap.size t l],?_,?_,U⟩))
 ·simp only[cZ,D];exact V
 ·simp only[cZ,fE];exact⟨_,rfl,rfl⟩
end
end
theorem Ow(hT:∀w L,St F W w L->jX w)(ai:s.ok)(U:Nat)(ar:U<=2)(ho:o.k=23/\o.n=U) :
  pQ F W (s.L++M) s.sb o false (73) (λq:{ q:Sv//q.n<=17+3849*(cU s.gh*cU s.gw) }=>{ code:=0,bytes:=q.1:gZ }) (λ_=>s.L++M):=by
 intro kb tl w S;have aq:=λw G=>DI (W:=w) (gw:=s.gw) (gh:=s.gh) (cc:=s.cc) (p:=s.p) (A:=s.A) (cap:=s.cap) (bs:=s.bs) (Rs:=s.Rs) ai.hB G;have av:=λw(ks:List Nat)K cK hH h1 h2 hK G=>It (W:=w) (ks:=ks) (K:=K) (cK:=cK) (gw:=s.gw) (gh:=s.gh) (cc:=s.cc) (p:=s.p) (A:=s.A) (cap:=s.cap) (bs:=s.bs) (Rs:=s.Rs) hH ai.hB h1 h2 hK G;obtain⟨-,hn⟩:=ho;have aj:=λw G=>(xN (W:=w) (gw:=s.gw) (gh:=s.gh) (cc:=s.cc) (p:=s.p) (A:=s.A) (cap:=s.cap) (bs:=s.bs) (Rs:=s.Rs) G).mono (R':=λv w'=>∃Q,(∃A c,v=.slice A (cU s.gh*cU s.gw) c/\Q=[.row 43 4 A (cU s.gh*cU s.gw) c (FZ s.gw s.gh)])/\St No w w' Q) λv w'⟨A,c,hv,h2,h4,g⟩=>⟨_,⟨A,c,hv,rfl⟩,(St.start w).pushRow h2 h4 g⟩;have ak:=(S.grid (i:=1) rfl).sw;have ae:=(S.grid (i:=1) rfl).sh;have ah:1<=cU s.gh*cU s.gw/\cU s.gh*cU s.gw<=4096:=⟨fy (kQ ae.1) (kQ ak.1),fy (jS ae.2) (jS ak.2)⟩;have ag:∀k∈List.replicate (cU s.gh*cU s.gw) U,k<=2:=λk hk=>by rw[mQ hk];exact ar
 generalize hN:cU s.gh*cU s.gw=N at *;refine zI func73 ?_;refine zN ?_;intro Z aJ aG S;refine zN ?_;intro y aK aH S;refine zK (aq _ (S.grid (i:=3) rfl)) ?_;rintro _ aL ⟨ks,aI,aA,aE,aF,rfl,az,aB,al⟩;have S:=S.gr al;(iterate 7 refine z ?_);refine zt ?_;refine zc ?_;refine gP (M:=λe w=>∃J:Nat,SL e [(0,pt s.sb),(4,pt y),(5,.slice (some ⟨J,0,none⟩) N N)]/\eL w J 3 (List.replicate N (ii o.n))/\St F W w (.blk y 40 YL::.blk Z 46 o.cs::(s.L++M++(.blk kb 3 [ii o.k]::tl)))) ?_ ?_
 ·skip;refine z ?_;refine z ?_;first|refine dU (ff (b:=true) rfl (fD om)) ?_|refine dU (ff (b:=false) rfl (iO om)) ?_|refine dU (jx rfl) ?_
  refine z ?_;refine dr rfl ?_;refine z ?_;refine dr rfl ?_;refine z ?_;refine dr rfl ?_;refine zg ?_;refine nI (C:=(yR F W _ 7 2 3 [ii o.n] (λv Q=>∃A c,v=.slice A N c/\Q=[.row 43 4 A N c (FZ s.gw s.gh)]))) [2,7] (.one 0 (.one 1 (.one 3 (.one 4 (.one 5 (.one 6 (.two 2 (.one 7 (.one 8 .nil)) 7 (.one 8 (.one 2 .nil))))))))) [9,10] (by kernel_rfl) (by kernel_rfl) (yR.start (S.gr (Gr.drew _))) ?_;simp only[qK,iS,dK,dR];refine jK ?_;refine oX rfl (du eE rfl cR rfl rfl) ?_;refine mo ?_;refine jK ?_;refine xh rfl (λτ wq I=>cV iY rfl rfl ((yR.st I).blk (i:=1) rfl) rfl) ?_;refine zU (λτ wq I=>((yR.st I).blk (i:=2) rfl)) ?_;refine zW ?_;refine nf ?_ ?_
  ·refine dC rfl rfl (λwq I=>GN I rfl rfl iF fa tY rfl rfl rfl rfl rfl) ?_;rintro v2 w2 h2;obtain⟨b2,rfl⟩:=h2.adr rfl;refine zW ?_;refine dC rfl rfl (λwq I=>Ev I rfl rfl rfl (λS=>aj wq (S.grid (i:=3) rfl))) ?_;rintro v7 w7 h7;obtain⟨_,A7,c7,rfl,_⟩:=h7.val rfl;refine zW ?_;refine jm ?_;rintro wz hz;obtain⟨_,⟨_,_,e1,rfl⟩,S⟩:=hz.fin rfl rfl;cases e1
   refine zK (GM b2 (ii o.n) N ah rfl _ (S.blk (i:=0) rfl)) ?_;rintro _ aM ⟨J,rfl,ap,D,am⟩;have S:=S.gr am;refine zg ?_;exact⟨J,sl,D,S.drop 2⟩
  ·refine dC rfl rfl (λwq I=>Ev I rfl rfl rfl (λS=>aj wq (S.grid (i:=3) rfl))) ?_;rintro v7 w7 h7;obtain⟨_,A7,c7,rfl,_⟩:=h7.val rfl;refine zW ?_;refine dC rfl rfl (λwq I=>GN I rfl rfl iF fa tY rfl rfl rfl rfl rfl) ?_;rintro v2 w2 h2;obtain⟨b2,rfl⟩:=h2.adr rfl;refine zW ?_;refine jm ?_;rintro wz hz;obtain⟨_,⟨_,_,e1,rfl⟩,S⟩:=hz.fin rfl rfl;cases e1
   refine zK (GM b2 (ii o.n) N ah rfl _ (S.blk (i:=0) rfl)) ?_;rintro _ aN ⟨J,rfl,ap,D,an⟩;have S:=S.gr an;refine zg ?_;exact⟨J,sl,D,S.drop 2⟩
 ·rintro e w9 ⟨J,aw,D,S⟩;rw[aw.fold]
  have ao:Rd w9 (some ⟨J,0,none⟩) (cY ((List.replicate N U).map λx:Nat=>(x:Int))):=by
   have h:cY ((List.replicate N U).map λx:Nat=>(x:Int))=List.replicate N (ii o.n):=by simp[cY,hn]
   rw[h];exact(gH.of_blk (k:=1) (n:=N) D (by simp) (by unfold maxLen;omega)).rd
  have O:=λw h1 h2 h3 h4=>av w (List.replicate N U) (some ⟨J,0,none⟩) N h1 h2 ag h3 h4;rw[lX]at O;refine zK (O w9 (hT _ _ S) rfl ao (S.grid (i:=3) rfl)) ?_;rintro _ aC ⟨lb,au,V,aa,rfl,ac,ad,ab⟩;have S:=S.pushRow ac ad ab;refine zC (vE (r:={ code:=0,bytes:=⟨V,lb.length,aa⟩ })) ?_;refine zS ?_;intro aD S;exact rA S ⟨⟨⟨V,lb.length,aa⟩,au⟩,rfl,S.drop 3⟩
noncomputable def Iv(k:Int)(V:List Int)(gw gh:Nat)(x0 y0 x1 y1:Int):Int:=if k=20 then GG V gw gh x0 y0 x1 y1 else if k=21 then(JL V gw gh x0 y0 x1 y1).lo else(JL V gw gh x0 y0 x1 y1).hi
section
variable{k:Int}{V:List Int}{st:Int}
theorem OE(I:20<=k/\k<=22):Fn prog 34 [ii k] W (λv w'=>∃kb,v=.iface 153 (iT true (77) kb)/\St No W w' [.blk kb 3 [ii k]]):=by
 have S:=St.start W;refine zI func34 ?_;refine zN ?_;intro y D z S;refine zg ?_;refine dU (jn YQ rfl rfl) ?_;refine zX ?_;exact⟨_,rfl,S⟩
theorem GU(y:20<=k/\k<=22):xz k 153 true (77):=by
 intro W;have S:=St.start W;refine zI func22 ?_;refine zK (OE y) ?_;rintro _ z ⟨kb,rfl,v⟩;have S:=S.app v;refine zX ?_;exact⟨_,rfl,S⟩
theorem WI(hk:20<=k/\k<=22)(hB:vB V)(hw:1<=gw/\gw<=1024)(hh:1<=gh/\gh<=1024)(hS:rl W sn stamp gw gh V)(v:eL W kb 3 [ii k]) :
  Fn prog 77 [pt sn,o.v,pt kb] W (dp (.tuple #[ii (Iv k V gw gh o.x0 o.y0 o.x1 o.y1),ii (dF o.x0 o.y0 o.x1 o.y1 gw gh)]) W):=by
 obtain⟨ok,y,I,D,J,ax,ay,bx,ai,n,m,vs,bs,bd⟩:=o;dsimp only;have ae:=λw(g:Gr W w)=>Iq y I D J hB hw hh (hS.gr g);have aa:=λw(g:Gr W w)=>Og y I D J hw hh (hS.gr g);unfold Iv;generalize dF y I D J gw gh=e at *;generalize GG V gw gh y I D J=z at *;generalize JL V gw gh y I D J=rg at *;have S:=St.start W;have h3:k=20\/k=21\/k=22:=om;rcases h3 with rfl|rfl|rfl
 ·skip;refine zI func77 ?_;refine zN ?_;intro L ab U S;refine zL (v.gr S.out) ?_;refine zC (ae _ S.out) ?_;intro ac Z S;exact zZ
 ·skip;refine zI func77 ?_;refine zN ?_;intro L ab U S;refine zL (v.gr S.out) ?_;refine zC (aa _ S.out) ?_;intro ac Z S;refine zN ?_;intro O ag ad S;refine Z1 0 S ?_;intro ah S;refine dU (jx rfl) ?_;first|refine eF ?_|(refine di ?_;show CW _ _ _ _ _ _)|refine di ?_
  repeat refine dm ?_
  refine dz ?_;refine dH (cV dB rfl rfl (v.gr S.out) rfl) ?_;exact zZ
 ·skip;refine zI func77 ?_;refine zN ?_;intro L ab U S;refine zL (v.gr S.out) ?_;refine zC (aa _ S.out) ?_;intro ac Z S;refine zN ?_;intro O ag ad S;refine Z1 0 S ?_;intro ah S;refine dU (jx rfl) ?_;first|refine eF ?_|(refine di ?_;show CW _ _ _ _ _ _)|refine di ?_
  repeat refine dm ?_
  refine dz ?_;refine dH (cV dB rfl rfl (v.gr S.out) rfl) ?_;exact zZ
theorem Su(hk:20<=k/\k<=22)(Z:vB V)(hw:1<=gw/\gw<=1024)(hh:1<=gh/\gh<=1024)(hS:rl W sn stamp gw gh V)(D:eL W kb 3 [ii k])(y:eL W sb 73 [.pointer g0,.pointer l0,pt sn,ii st,.pointer p0]) :
  Fn prog (416) [iT true (77) kb,pt sb,o.v] W (dp (({ code:=0,n:=Iv k V gw gh o.x0 o.y0 o.x1 o.y1 }:gZ).told (dF o.x0 o.y0 o.x1 o.y1 gw gh)).v W):=by
 have hf:=λw(g:Gr W w)=>WI (o:=o) hk Z hw hh (hS.gr g) (D.gr g);generalize dF o.x0 o.y0 o.x1 o.y1 gw gh=e at *;generalize Iv k V gw gh o.x0 o.y0 o.x1 o.y1=z at *;unfold iT;have S:=St.start W;refine zI func416 ?_;refine zN ?_;intro I aa L S;refine zN ?_;intro J ab O S;refine zD [0,1,2,3,4,5,6,7,8,9,10,11] [] ?_;refine zM (λwq v=>(y.gr (S.gr v).out)) ?_;refine zQ ?_;refine Hw rfl rfl (λwq v=>(hf wq (S.gr v).out).mono (λ_ _⟨hv,hg⟩=>⟨hv,v.trans hg⟩)) ?_;refine zE ?_;intro ac U S;refine zC (o4 (r:={ code:=0,n:=z }) e) ?_;refine zS ?_;intro ad S;exact rA S ⟨rfl,S.out⟩
theorem OF(v:eL W sb 73 [.pointer g0,.pointer l0,.pointer none,ii st,.pointer p0]):Fn prog (417) [iT true (77) kb,pt sb] W (dp (.bool false) W):=by
 unfold iT;have S:=St.start W;refine zI func417 ?_;iterate 4 refine z ?_
 refine dH (cV jl rfl rfl (v.gr S.out) rfl) ?_;refine dU (uS jl rfl rfl) ?_;exact zZ
theorem U3(L:20<=o.k/\o.k<=22)(hB:vB V)(hw:1<=gw/\gw<=1024)(hh:1<=gh/\gh<=1024)(hS:rl W sn stamp gw gh V)(v:eL W sb 73 [pt g,.pointer l0,pt sn,ii st,.pointer p0]) :
  Fn prog 9 [pt sb,o.v] W (dp (({ code:=0,n:=Iv o.k V gw gh o.x0 o.y0 o.x1 o.y1 }:gZ).told (dF o.x0 o.y0 o.x1 o.y1 gw gh)).v W):=by
 have hd:=λkb w(g:Gr W w)hkb=>Su (o:=o) (kb:=kb) L hB hw hh (hS.gr g) hkb (v.gr g);have D:=λw=>GU L w;generalize ({ code:=0,n:=Iv o.k V gw gh o.x0 o.y0 o.x1 o.y1 }:gZ).told (dF o.x0 o.y0 o.x1 o.y1 gw gh)=ag at *;obtain⟨ok,ab,ad,ac,ae,ax,ay,bx,U,n,m,vs,bs,bd⟩:=o;dsimp only at *;unfold iT at *;have S:=St.start W;refine zI func9 ?_;refine zN ?_;intro I ah Z S;refine zN ?_;intro J ai aa S;refine zK (D _) ?_;rintro _ aj ⟨kb,rfl,O⟩;have S:=S.app O;refine zg ?_;refine dU (vO k9 rfl) ?_;refine zg ?_;refine dU (kF (b:=false) mh rfl (by kernel_rfl) mP) ?_;refine zg ?_;refine dU (kF (b:=true) p8 rfl (by kernel_rfl) qE) ?_;refine zg ?_;refine dr rfl ?_;refine o8 rfl (rU (by kernel_rfl) YQ rfl) rfl (La (kb:=kb) (v.gr S.out)) ?_;rintro _ ak ⟨rfl,y⟩;have S:=S.gr y;refine zg ?_;refine o8 rfl (rU (by kernel_rfl) YQ rfl) rfl (hd kb _ S.out (S.blk (i:=0) rfl)) ?_;rintro _ al ⟨rfl,z⟩;have S:=S.gr z;refine zS ?_;intro am S;exact rA S ⟨rfl,S.out⟩
theorem OG(V:20<=o.k/\o.k<=22)(y:eL W sb 73 [pt g,.pointer l0,.pointer none,ii st,.pointer p0]) :
  Fn prog 9 [pt sb,o.v] W (dp ({ code:=15 }:gZ).v W):=by
 have z:=λw=>GU V w;obtain⟨ok,Z,ab,aa,ac,ax,ay,bx,L,n,m,vs,bs,bd⟩:=o;dsimp only at *;unfold iT at *;have S:=St.start W;refine zI func9 ?_;refine zN ?_;intro D ad O S;refine zN ?_;intro I ae U S;refine zK (z _) ?_;rintro _ ag ⟨kb,rfl,J⟩;have S:=S.app J;refine zg ?_;refine dU (vO k9 rfl) ?_;refine zg ?_;refine dU (kF (b:=false) mh rfl (by kernel_rfl) mP) ?_;refine zg ?_;refine dU (kF (b:=true) p8 rfl (by kernel_rfl) qE) ?_;refine zg ?_;refine dr rfl ?_;refine o8 rfl (rU (by kernel_rfl) YQ rfl) rfl (OF (kb:=kb) (y.gr S.out)) ?_;rintro _ ah ⟨rfl,v⟩;have S:=S.gr v;refine zS ?_;intro ai S;exact rA S ⟨rfl,S.out⟩
end
theorem Ey(z:(P.info? t).map (λi=>(i.methods.find? (λm=>m.name==name)).map (λm=>(m.path,m.func)))=some (some (#[⟨t,0,false⟩],some (f,false))))(U:P.underlying t=some (.struct fs))(O:fs[0]?=some fd)(S:fd.offset=0)(v:P.underlying fd.type=some dd)(hd:Ny dd=true)(y:sM dd=false):(method (n+1) t (.agg #[u]) name).run P w=.ok (f,u) w:=by
 obtain⟨i,hi,h1⟩:=fl.1 z;obtain⟨m,z,h2⟩:=fl.1 h1;injection h2 with h3 h4;have I:=dS U w;have J:=dS v w;have D:=si v w;rw[y]at D
 have L:(follow [⟨t,0,false⟩] t (.val (.agg #[u]))).run P w=.ok (fd.type,.val u) w:=by
  simp[follow,I,O,part,D,S]
 rw[method];simp[typeInfo,hi,z,h3,h4,L];cases dd<;>first|(cases hd;done)|simp[receiverAt,J,Place.get]
def JR:Value:=.agg #[.func (.func 76) #[] #[]]
section
variable{st:Int}{z:Value}
theorem L5:Fn prog 34 [ii 19] W (λv w'=>v=.iface 155 JR/\Gr W w'):=by
 unfold JR;have S:=St.start W;refine zI func34 ?_;refine zN ?_;intro y D z S;refine zg ?_;refine dU (jn qZ rfl rfl) ?_;exact zZ
theorem DZ:Fn prog 22 [ii 19] W (λv w'=>v=.iface 155 JR/\Gr W w'):=by
 have z:=λw=>L5 (W:=w);unfold JR at *;have S:=St.start W;refine zI func22 ?_;refine zC (z _) ?_;intro D y S;exact zZ
theorem Iw(b:Bool)(v:eL W sb 73 [.pointer g0,.pointer l0,.pointer o0,ii st,.pointer p0])(y:b=o0.isSome):Fn prog (417) [.func (.func 76) #[] #[],pt sb] W (dp (.bool b) W):=by
 cases o0 with
 |none =>
  cases y
  have S:=St.start W;refine zI func417 ?_;iterate 4 refine z ?_
  refine dH (cV jl rfl rfl (v.gr S.out) rfl) ?_;refine dU (uS jl rfl rfl) ?_;exact zZ
 |some a =>
  cases y
  have S:=St.start W;refine zI func417 ?_;iterate 4 refine z ?_
  refine dH (cV jl rfl rfl (v.gr S.out) rfl) ?_;refine dU (uS jl rfl rfl) ?_;exact zZ
theorem Sw(S:St F W w (.blk sb 73 [.pointer g0,.pointer l0,.pointer o0,ii st,.pointer p0]::T)) :
  Fn prog (418) [JR,pt sb,o.v] w (λv w'=>v=gZ.fine.v/\St F W w' (.blk sb 73 [.pointer g0,.pointer l0,.pointer none,ii st,.pointer p0]::T)):=by
 unfold JR;refine zI func418 ?_;refine zN ?_;intro D O I S;refine zN ?_;intro y U J S;refine zN ?_;intro z V L S;refine zS ?_;intro Z S;exact rA S ⟨rfl,S.drop 3⟩
theorem Sx(O:o.k=19)(S:St F W w (.blk sb 73 [pt g,.pointer l0,pt sn,ii st,.pointer p0]::T)) :
  Fn prog 9 [pt sb,o.v] w (λv w'=>v=gZ.fine.v/\St F W w' (.blk sb 73 [pt g,.pointer l0,.pointer none,ii st,.pointer p0]::T)):=by
 have I:=λw=>DZ (W:=w);have z:=λw T S=>Sw (F:=F) (W:=W) (w:=w) (T:=T) (o:=o) (sb:=sb) (g0:=some ⟨g,0,none⟩) (l0:=l0) (o0:=some ⟨sn,0,none⟩) (st:=st) (p0:=p0) S;have D:=λw h=>Iw (W:=w) (sb:=sb) (g0:=some ⟨g,0,none⟩) (l0:=l0) (o0:=some ⟨sn,0,none⟩) (st:=st) (p0:=p0) true h rfl;obtain⟨ok,ab,ad,ac,ae,ax,ay,bx,U,n,m,vs,bs,bd⟩:=o;dsimp only at O;subst O;unfold JR at *;refine zI func9 ?_;refine zN ?_;intro J ag V S;refine zN ?_;intro L ah Z S;refine zC (I _) ?_;intro ai aa S;refine zg ?_;refine dU (vO k9 rfl) ?_;refine zg ?_;refine dU (kF (b:=false) mh rfl (by kernel_rfl) mP) ?_;refine zg ?_;refine dU (kF (b:=true) p8 rfl (by kernel_rfl) qE) ?_;refine zg ?_;refine dr rfl ?_;refine o8 rfl (Ey (by kernel_rfl) qZ rfl rfl YQ rfl rfl) rfl (D _ (S.blk (i:=2) rfl)) ?_;rintro _ aj ⟨rfl,y⟩;have S:=S.gr y;refine zg ?_;refine o8 rfl (rU (by kernel_rfl) qZ rfl) rfl (z _ _ (S.pick 3 [2,0,1] rfl rfl rfl)) ?_;rintro _ ak ⟨rfl,S⟩;have S:=S.pick 3 [1,2,0] rfl rfl rfl;refine zS ?_;intro al S;exact rA S ⟨rfl,S.drop 2⟩
theorem L6(L:o.k=19)(S:St F W w (.blk sb 73 [pt g,.pointer l0,.pointer none,ii st,.pointer p0]::T)) :
  Fn prog 9 [pt sb,o.v] w (λv w'=>v=({ code:=15 }:gZ).v/\St F W w' (.blk sb 73 [pt g,.pointer l0,.pointer none,ii st,.pointer p0]::T)):=by
 have D:=λw=>DZ (W:=w);have z:=λw h=>Iw (W:=w) (sb:=sb) (g0:=some ⟨g,0,none⟩) (l0:=l0) (o0:=none) (st:=st) (p0:=p0) false h rfl;obtain⟨ok,aa,ac,ab,ad,ax,ay,bx,O,n,m,vs,bs,bd⟩:=o;dsimp only at L;subst L;unfold JR at *;refine zI func9 ?_;refine zN ?_;intro I ae U S;refine zN ?_;intro J ag V S;refine zC (D _) ?_;intro ah Z S;refine zg ?_;refine dU (vO k9 rfl) ?_;refine zg ?_;refine dU (kF (b:=false) mh rfl (by kernel_rfl) mP) ?_;refine zg ?_;refine dU (kF (b:=true) p8 rfl (by kernel_rfl) qE) ?_;refine zg ?_;refine dr rfl ?_;refine o8 rfl (Ey (by kernel_rfl) qZ rfl rfl YQ rfl rfl) rfl (z _ (S.blk (i:=2) rfl)) ?_;rintro _ ai ⟨rfl,y⟩;have S:=S.gr y;refine zS ?_;intro aj S;exact rA S ⟨rfl,S.drop 2⟩
end
def BQ(gw gh:Nat)(ax ay ha hb n:Int):Int:=if pk gw gh ax ay ha ax ay hb=0 then(if n<0\/1024<n then 9 else 0)else pk gw gh ax ay ha ax ay hb
section
variable{yb:Nat}{V:List Int}
theorem L8(ax ay I J n:Int)(hB:vB V)(U:1<=gw/\gw<=1024)(hh:1<=gh/\gh<=1024)(hP:iM W yb gw gh V) :
  Fn prog 116 [pt yb,.agg #[ii ax,ii ay],ii I,ii J,ii n] W
   (λu w'=>∃r:Rc,u=.tuple #[.agg r.cells.toArray,ii (BQ gw gh ax ay I J n)]/\(BQ gw gh ax ay I J n=0->r.ok gw gh)/\Gr W w'):=by
 have z:=λw(g:Gr W w)=>(At ax ay I ax ay J hB U hh (hP.gr g)).mono (R':=λu w'=>∃D ox oy,u=.tuple #[.bool D,.agg #[ii ox,ii oy],ii (pk gw gh ax ay I ax ay J)]/\Gr w w') λu w'⟨a,b,c,h1,_,h2⟩=>⟨a,b,c,h1,h2⟩;unfold BQ;by_cases L:pk gw gh ax ay I ax ay J=0
 ·rw[a7 L]
  have an:mD gw gh (ax,ay)=true:=by
   unfold pk at L;cases h:mD gw gh (ax,ay)with
   |true=>rfl
   |false=>rw[h]at L;simp at L
  rw[L]at z;have hi:=jT.1 an;dsimp only at hi;obtain⟨X,hX⟩:=cJ hi.1;obtain⟨Y,hY⟩:=cJ hi.2.2.1;subst hX hY;have ae:X<gw:=om;have h1:=(jo (Y:=Y) ae).1;have h2:=(jo (Y:=Y) ae).2
  have O:Y*gw+X<gw*gh:=by
   have:=eZ gw (show Y+1<=gh by omega);rw[lL,cG,cD gw Y]at this;omega
  by_cases hn:n<0\/1024<n
  ·rw[a7 hn];have v:=λw=>JC (W:=w) (gw:=gw) (gh:=gh) (Y*gw+X) n U hh O hn;rw[h1,h2]at v;have S:=St.start W;refine zI func116 ?_;refine zN ?_;intro Z ah ab S;refine zN ?_;intro y ai ac S;refine zK (z _ S.out) ?_;rintro _ aj ⟨D,ox,oy,rfl,g9⟩;have S:=S.gr g9;refine zN ?_;intro aa ak ad S;refine zS ?_;intro ap S;refine zC (tJ U hh (hP.gr S.out)) ?_;intro al am S;refine zC (v _) ?_;intro ar aq S;refine zS ?_;intro ag S;exact pG S ⟨⟨0,0,0,0⟩,rfl,(λh=>by cases h),S.out⟩
  ·rw[a8 hn];obtain⟨q,rfl⟩:=cJ (show 0<=n by omega);have v:=λw=>Rr (W:=w) (gw:=gw) (gh:=gh) (Y*gw+X) q U hh O om;have ao:=Ug (n:=q) U.1 O;rw[h1,h2]at v;generalize Lj gw gh (Y*gw+X) q=wi at *;unfold Li.val at v;have S:=St.start W;refine zI func116 ?_;refine zN ?_;intro Z ah ab S;refine zN ?_;intro y ai ac S;refine zK (z _ S.out) ?_;rintro _ aj ⟨D,ox,oy,rfl,g9⟩;have S:=S.gr g9;refine zN ?_;intro aa ak ad S;refine zS ?_;intro ap S;refine zC (tJ U hh (hP.gr S.out)) ?_;intro al am S;refine zC (v _) ?_;refine zS ?_;intro ag S;exact pG S ⟨⟨wi.x0,wi.y0,wi.x1,wi.y1⟩,rfl,λ_=>ao,S.out⟩
 ·rw[a8 L];generalize pk gw gh ax ay I ax ay J=e at *;have S:=St.start W;refine zI func116 ?_;refine zN ?_;intro Z ah ab S;refine zN ?_;intro y ai ac S;refine zK (z _ S.out) ?_;rintro _ aj ⟨D,ox,oy,rfl,g9⟩;have S:=S.gr g9;refine zN ?_;intro aa ak ad S;refine zS ?_;intro al S;exact pG S ⟨⟨0,0,0,0⟩,rfl,(λh=>absurd h L),S.out⟩
theorem SC(ax ay L O n:Int)(hB:vB V)(hw:1<=gw/\gw<=1024)(hh:1<=gh/\gh<=1024)(hP:iM W yb gw gh V) :
  Fn prog 59 [pt yb,.agg #[ii ax,ii ay],ii L,ii O,ii n] W
   (λu w'=>∃A k c,u=.tuple #[.slice A k c,ii (BQ gw gh ax ay L O n)]/\k<=1048576/\Gr W w'):=by
 have ae:=λw(g:Gr W w)=>L8 ax ay L O n hB hw hh (hP.gr g);have am:=λw(g:Gr W w)x y=>(At ax ay L x y O hB hw hh (hP.gr g)).mono (R':=λu w'=>∃J ox oy e,u=.tuple #[.bool J,.agg #[ii ox,ii oy],ii e]/\Gr w w') λu w'⟨a,b,c,h1,_,h2⟩=>⟨a,b,c,_,h1,h2⟩;generalize BQ gw gh ax ay L O n=e at *;by_cases he:e=0
 ·subst he;have S:=St.start W;refine zI func59 ?_;refine zN ?_;intro z ao ai S;refine zK (ae _ S.out) ?_;rintro _ ap ⟨r,rfl,U,g9⟩;have S:=S.gr g9;refine zN ?_;intro D aq aj S;refine zS ?_;intro ar S;have U:=U rfl;obtain⟨cc,al,aL,aM⟩:=Rc.area_le U hw.2 hh.2;have ab:=λw=>qc r.x0 r.y0 r.x1 r.y1 (by obtain⟨⟨a1,a2⟩,a3,a4⟩:=U;omega) w;have ad:=λw(i:Int)h1 h2=>Bw r.x0 r.y0 r.x1 r.y1 i (by obtain⟨⟨a1,a2⟩,a3,a4⟩:=U;omega) h1 h2 w;rw[al]at ab ad;replace S:St No W _ [.blk D 43 [ii r.x0,ii r.y0,ii r.x1,ii r.y1],.blk z 24 [ii ax,ii ay]]:=S;refine zC (ab _) ?_;intro aO aJ S;refine zg ?_;have S:=S.pushNil 24 2
  refine dl (λm e w=>∃(i k:Nat)(v:Option Addr)(I:Nat)(xs:List Value),i+m=cc/\k<=i/\SL e [(0,pt yb),(2,ii L),(3,ii O),(6,pt z),(12,pt D),(14,.slice v k I),(34,ii cc),(35,ii i)] /\
    St No W w [.row 24 2 v k I xs,.blk D 43 [ii r.x0,ii r.y0,ii r.x1,ii r.y1],.blk z 24 [ii ax,ii ay]]) cc
   ⟨0,0,none,0,[],by omega,fK _,sl,S⟩ ?_
  clear S;rintro m e w ⟨i,k,v,I,xs,hi,hk,an,S⟩;rw[an.fold];by_cases aN:i<cc
  ·have ak:=λw=>ad w i (by omega) (by omega);generalize (r.x0:Int)+(i:Int)%((r.x1:Int)-r.x0+1)=X2 at *;generalize (r.y0:Int)+(i:Int)/((r.x1:Int)-r.x0+1)=Y2 at *;have ac:=λw g=>am w g X2 Y2;refine zC (ak w) ?_;intro aP aK S;refine zN ?_;intro aH aA au S;refine zS ?_;intro aB S;refine zK (ac _ S.out) ?_;rintro _ aC ⟨J,ox,oy,e9,rfl,g9⟩;have S:=S.gr g9;refine zN ?_;intro aI aD av S;refine zS ?_;intro aE S;cases J
   ·skip;refine zg ?_;exact⟨m-1,by omega,i+1,k,v,I,xs,by omega,by omega,sl,S.drop 2⟩
   ·skip;refine zg ?_;refine Mv ki jy Ac rfl rfl rfl rfl rfl rfl S ?_;intro ah aF aw S ag;refine ZP 3 0 S ?_;intro Z aa aG S az;refine zg ?_;have S:=S.sub (.cons _ (.cons _ (.cons _ (.cons_cons _ (.cons_cons _ (.cons_cons _ .slnil))))));exact⟨m-1,by omega,i+1,k+1,Z,aa,_,by omega,by omega,sl,S⟩
  ·skip;refine zX ?_;exact⟨_,_,_,rfl,by omega,S.out⟩
 ·skip;have S:=St.start W;refine zI func59 ?_;refine zN ?_;intro z ao ai S;refine zK (ae _ S.out) ?_;rintro _ ap ⟨r,rfl,U,g9⟩;have S:=S.gr g9;refine zN ?_;intro D aq aj S;refine zS ?_;intro ar S;exact nd rfl rfl ⟨_,_,_,rfl,by omega,S.out⟩
end
theorem Vd:Fn prog 64 [.pointer none] W (dp (.agg #[ii 0,ii 0,ii 0,ii 0]) W):=by
 have S:=St.start W;refine zI func64 ?_;refine zN ?_;intro v z y S;refine zS ?_;intro D S;exact rA S ⟨rfl,S.out⟩
theorem SE:Fn prog 21 [.pointer none] W (dp (.tuple #[ii 0,ii 0]) W):=by
 have S:=St.start W;refine zI func21 ?_;exact zZ
theorem Ve(x0 y0 x1 y1:Int):Fn prog 93 [.pointer none,.agg #[ii x0,ii y0,ii x1,ii y1]] W (dp (ii 1) W):=by
 have S:=St.start W;refine zI func93 ?_;refine zN ?_;intro v z y S;exact zZ
theorem Vf(x0 y0 x1 y1:Int):Fn prog 47 [.pointer none,.agg #[ii x0,ii y0,ii x1,ii y1]] W (dp (.tuple #[.slice none 0 0,ii 1]) W):=by
 have S:=St.start W;refine zI func47 ?_;refine zN ?_;intro v D y S;refine zC (Ve (W:=_) _ _ _ _) ?_;intro I z S;exact zZ
theorem St.lev{a b c d e k:HA}{A B:List HA}(S:St F W w (a::b::c::d::e::k::(A++(B++tl)))):St F W w (k::((a::A)++(B++tl))):=(S.sub (.cons_cons _ (.cons _ (.cons _ (.cons _ (.cons _ (cQ _))))))).swap
theorem SF(hok:s.ok)(hk:o.k=12) :
  pQ F W (s.L++M) s.sb o true (57) (λq:{ q:Bool×Int×Int//JN s.gw s.gh s.V o.ax o.ay o.n o.bx o.by_ o.m q.1 q.2.1 q.2.2 }=>({ code:=0,yes:=q.1.1,ax:=q.1.2.1,ay:=q.1.2.2 }:gZ).told (pk s.gw s.gh o.ax o.ay o.n o.bx o.by_ o.m)) (λ_=>s.L++M):=by
 intro kb tl w S;replace S:=St.forthG S;obtain⟨ok,ox0,oy0,ox1,oy1,oax,oay,obx,oby,n,m,vs,bs,bd⟩:=o;dsimp only at hk;subst hk;replace S:St F W w (.blk kb 3 [ii 12]::(s.L++(M++tl))):=S;have hw1:=(S.grid (i:=2) rfl).sw;have hh1:=(S.grid (i:=2) rfl).sh;have hpy:∀{w A},St F W w (A++(s.L++(M++tl)))->iM w s.yb s.gw s.gh s.V:=λS=>lT.pyrAtG (St.tail S);refine zI func57 ?_;refine zN ?_;intro b_op w2_ g2_ S;refine zN ?_;intro b_out w4_ g4_ S;refine zN ?_;intro b_r w6_ g6_ S;refine zC (pj (S.blk (i:=6) rfl)) ?_;intro w7_ g7_ S;refine zK (At oax oay n obx oby m hok.hB hw1 hh1 (hpy (A:=[_,_,_,_]) S)) ?_;rintro _ w8_ ⟨yes,qx,qy,rfl,hq,g9⟩;have S:=S.gr g9;refine zS ?_;intro w10_ S;refine zC (o4 (r:={ code:=0,yes:=yes,ax:=qx,ay:=qy }) (pk s.gw s.gh oax oay n obx oby m)) ?_;refine zS ?_;intro w12_ S;exact rA S ⟨⟨(yes,qx,qy),hq⟩,rfl,St.backG (S.drop 3)⟩
theorem Vg(J:s.ok)(hk:o.k=13) :
  pQ F W (s.L++M) s.sb o true (57) (λq:Sv=>({ code:=0,n:=(q.n:Nat),cells:=q }:gZ).told (BQ s.gw s.gh o.ax o.ay o.n o.m o.bx)) (λ_=>s.L++M):=by
 intro kb tl w S;replace S:=St.forthG S;obtain⟨ok,ak,am,al,an,v,y,z,aj,n,m,vs,bs,bd⟩:=o;dsimp only at hk;subst hk;replace S:St F W w (.blk kb 3 [ii 13]::(s.L++(M++tl))):=S;have O:=(S.grid (i:=2) rfl).sw;have I:=(S.grid (i:=2) rfl).sh;have L:∀{w A},St F W w (A++(s.L++(M++tl)))->iM w s.yb s.gw s.gh s.V:=λS=>lT.pyrAtG (St.tail S);refine zI func57 ?_;refine zN ?_;intro Z ao ad S;refine zN ?_;intro D ap ae S;refine zN ?_;intro ac aq ag S;refine zC (pj (S.blk (i:=6) rfl)) ?_;intro ar ah S;refine zK (SC v y n m z J.hB O I (L (A:=[_,_,_,_]) S)) ?_;rintro _ au ⟨V,U,c9,rfl,ai,g9⟩;have S:=S.gr g9;refine zS ?_;intro aa S;refine zC (o4 (r:={ code:=0,n:=(U:Nat),cells:=⟨V,U,c9⟩ }) (BQ s.gw s.gh v y n m z)) ?_;refine zS ?_;intro ab S;exact rA S ⟨⟨V,U,c9⟩,rfl,St.backG (S.drop 3)⟩
theorem Vh(i k:Nat)(hi:i<s.gw*s.gh)(J:k<s.gw*s.gh)(ag:FF (kW s.gw s.V) i k)(ho:o.k=15/\o.ax=(i%s.gw:Nat)/\o.ay=(i/s.gw:Nat)) :
  pQ F W (s.L++M) s.sb o true (57) (λq:Option Addr×Nat=>{ code:=0,ax:=(xx (kW s.gw s.V) k i%s.gw:Nat),ay:=(xx (kW s.gw s.V) k i/s.gw:Nat),cells:=⟨q.1,k+1,q.2⟩:gZ }) (λq=>.row 24 2 q.1 (k+1) q.2 (eT ((zp (kW s.gw s.V) i k).map (cz s.gw)))::(s.L++M)):=by
 intro kb tl w S;replace S:=St.forthG S;obtain⟨ok,aa,ac,ab,ad,aq,ar,V,Z,n,m,vs,bs,bd⟩:=o;dsimp only at ho;obtain⟨rfl,rfl,rfl⟩:=ho;replace S:St F W w (.blk kb 3 [ii 15]::(s.L++(M++tl))):=S;have ah:=(S.grid (i:=2) rfl).sw;have ae:=(S.grid (i:=2) rfl).sh;have O:=mS (da (f:=cz s.gw)▸(by rw[MS];rfl):((zp (kW s.gw s.V) i k).map (cz s.gw))[k]?=some (cz s.gw (xx (kW s.gw s.V) k i)));generalize ai:(zp (kW s.gw s.V) i k).map (cz s.gw)=wl at *;have L:=λw G=>(WN (W:=w) (gw:=s.gw) (gh:=s.gh) (cc:=s.cc) (p:=s.p) (A:=s.A) (cap:=s.cap) (bs:=s.bs) (Rs:=s.Rs) i k hi J ag G).mono (R':=λv w'=>∃Q,(∃A c,v=.tuple #[.slice A (k+1) c,ii 0]/\Q=[.row 24 2 A (k+1) c (eT wl)])/\St No w w' Q) λv w'⟨A,c,hv,h2,h4,g⟩=>⟨_,⟨A,c,hv,rfl⟩,(St.start w).pushRow (ai▸h2) h4 g⟩;dsimp only[cz]at O;generalize ((xx (kW s.gw s.V) k i%s.gw:Nat):Int)=Xl at *;generalize ((xx (kW s.gw s.V) k i/s.gw:Nat):Int)=Yl at *;have U:((eT wl).drop ((((k+1:Nat):Int)-1).toNat * 2)).take 2=[ii Xl,ii Yl]:=by rw[(om:(((k+1:Nat):Int)-1).toNat=k)];exact O
 have ap:k<1048576:=fg J (fy ah.2 ae.2);generalize ((i%s.gw:Nat):Int)=X at *;generalize ((i/s.gw:Nat):Int)=Y at *;refine zI func57 ?_;refine zN ?_;intro z aw al S;refine zN ?_;intro y az am S;refine zN ?_;intro I aA an S;refine zC (pj (S.blk (i:=6) rfl)) ?_;intro aB ao S;refine zH (C:=(o9 F W (.blk y 40 uJ::.blk z 46 (m5.cs ⟨15,aa,ac,ab,ad,X,Y,V,Z,n,m,vs,bs,bd⟩)::.blk kb 3 [ii 15]::(s.L++(M++tl))) I 40 (λk v=>match k with|0=>uJ|_=>uJ.set 5 (Bj v 0)) (λv Q=>∃A c,v=.tuple #[.slice A (k+1) c,ii 0]/\Q=[.row 24 2 A (k+1) c (eT wl)]))) [6,11] [0,1,2,3,4,5,6,7,8,9,10,11] [12] (o9.start (S.gr (Gr.drew _))) ?_;refine zV (λτ wq D=>((o9.st D).blk (i:=3) rfl)) ?_;refine zV (λτ wq D=>((o9.st D).blk (i:=1) rfl)) ?_;refine de rfl rfl (λwq D=>wU D (λ_=>rfl) rfl (λS=>L wq (S.grid (i:=4) rfl))) ?_;rintro v6 w6 ⟨_,⟨A1,c1,rfl,_⟩,_⟩;refine zR ?_;refine de rfl rfl (λwq D=>rX (k:=0) D rfl rfl (sV _) rfl rfl rfl rfl rfl rfl) ?_;rintro au av _;refine zY ?_;rintro wz hz;obtain⟨_,⟨_,_,e2,rfl⟩,S⟩:=o9.fin (k:=1) hz rfl rfl;cases e2
 replace S:St F W wz (.row 24 2 A1 (k+1) c1 (eT wl)::.blk I 40 (uJ.set 5 (.slice A1 (k+1) c1))::.blk y 40 uJ::.blk z 46 (m5.cs ⟨15,aa,ac,ab,ad,X,Y,V,Z,n,m,vs,bs,bd⟩)::.blk kb 3 [ii 15]::(s.L++(M++tl))):=S;refine zg ?_;have aj:dO A1:=(S.row (i:=0) rfl).someA om;refine zg ?_;refine ZU (S.rd (i:=0) rfl) U ?_;refine zS ?_;intro aC S;refine zC (vE (r:={ code:=0,ax:=Xl,ay:=Yl,cells:=⟨A1,k+1,c1⟩ })) ?_;refine zS ?_;intro ak S;exact rA S ⟨(A1,c1),rfl,St.backG (A:=_::s.L) (St.regBack S)⟩
structure dV(gw:Nat)(V:List Int)(a b:Nat)where
 d:Nat->Int
 A:Option Addr
 c:Nat
 k:Nat
 n:Int
 hd:lZ gw V b d
 hn:n=d a
 hk:k=(ri gw V d b a).length
def dV.rep{gw a b:Nat}{V:List Int}(q:dV gw V a b):gZ:={ code:=0,n:=q.n,cells:=⟨q.A,q.k,q.c⟩ }
def dV.row{gw a b:Nat}{V:List Int}(q:dV gw V a b):HA:=.row 24 2 q.A q.k q.c (eT ((ri gw V q.d b a).map (cz gw)))
def fm(gw:Nat)(V:List Int)(a b:Nat)(v:Value)(Q:List HA):Prop:=∃n A k c,v=.tuple #[ii n,.slice A k c,ii 0]/\∃d,lZ gw V b d/\n=d a/\k=(ri gw V d b a).length/\Q=[.row 24 2 A k c (eT ((ri gw V d b a).map (cz gw)))]
theorem SG(a b:Nat)(ab:s.ok)(ha:a<s.gw*s.gh)(hb:b<s.gw*s.gh)(ho:o.k=16/\o.ax=(a%s.gw:Nat)/\o.ay=(a/s.gw:Nat)/\o.bx=(b%s.gw:Nat)/\o.by_=(b/s.gw:Nat)) :
  pQ F W (s.L++M) s.sb o true (57) (λq:dV s.gw s.V a b=>q.rep) (λq=>q.row::(s.L++M)):=by
 intro kb tl w S;replace S:=St.forthG S;obtain⟨ok,L,U,O,V,ak,al,am,an,n,m,vs,bs,bd⟩:=o;dsimp only at ho;obtain⟨rfl,rfl,rfl,rfl,rfl⟩:=ho;replace S:St F W w (.blk kb 3 [ii 16]::(s.L++(M++tl))):=S;have aj:=(S.grid (i:=2) rfl).sw;have ai:=(S.grid (i:=2) rfl).sh;have J:=λw G=>(U9 (W:=w) (gw:=s.gw) (gh:=s.gh) (cc:=s.cc) (p:=s.p) (A:=s.A) (cap:=s.cap) (bs:=s.bs) (Rs:=s.Rs) a b ha hb ab.hB G).mono (R':=λv w'=>∃Q,fm s.gw s.V a b v Q/\St No w w' Q) λu w'⟨d,hd,A,c,hv,h2,h4,g⟩=>⟨_,⟨_,A,_,c,hv,d,hd,rfl,rfl,rfl⟩,(St.start w).pushRow h2 h4 g⟩;generalize ((a%s.gw:Nat):Int)=X at *;generalize ((a/s.gw:Nat):Int)=Y at *;generalize ((b%s.gw:Nat):Int)=X2 at *;generalize ((b/s.gw:Nat):Int)=Y2 at *;refine zI func57 ?_;refine zN ?_;intro D au ad S;refine zN ?_;intro y av ae S;refine zN ?_;intro I aw ag S;refine zC (pj (S.blk (i:=6) rfl)) ?_;intro az ah S;refine zH (C:=(o9 F W (.blk y 40 uJ::.blk D 46 (m5.cs ⟨16,L,U,O,V,X,Y,X2,Y2,n,m,vs,bs,bd⟩)::.blk kb 3 [ii 16]::(s.L++(M++tl))) I 40 (λk v=>match k with|0=>uJ|1=>uJ.set 1 (Bj v 0)|_=>(uJ.set 1 (Bj v 0)).set 5 (Bj v 1)) (fm s.gw s.V a b))) [8,14,16] [0,1,2,3,4,5,6,7,8,9,10,11,12,13,14,15,16] [17] (o9.start (S.gr (Gr.drew _))) ?_;refine zV (λτ wq z=>((o9.st z).blk (i:=3) rfl)) ?_;refine zV (λτ wq z=>((o9.st z).blk (i:=1) rfl)) ?_;refine zV (λτ wq z=>((o9.st z).blk (i:=1) rfl)) ?_;refine de rfl rfl (λwq z=>wU z (λ_=>rfl) rfl (λS=>J wq (S.grid (i:=4) rfl))) ?_;rintro v6 w6 ⟨_,⟨n1,A1,k1,c1,rfl,_⟩,_⟩;refine zR ?_;refine de rfl rfl (λwq z=>rX (k:=0) z rfl rfl (cR _) rfl rfl rfl rfl rfl rfl) ?_;rintro ao aq _;refine zR ?_;refine de rfl rfl (λwq z=>rX (k:=1) z rfl rfl (sV _) rfl rfl rfl rfl rfl rfl) ?_;rintro ap ar _;refine zY ?_;rintro wz hz;obtain⟨_,⟨_,_,_,_,e2,d,hd,aa,Z,rfl⟩,S⟩:=o9.fin (k:=2) hz rfl rfl;cases e2
 replace S:St F W wz (.row 24 2 A1 k1 c1 (eT ((ri s.gw s.V d b a).map (cz s.gw)))::.blk I 40 ((uJ.set 1 (ii n1)).set 5 (.slice A1 k1 c1))::.blk y 40 uJ::.blk D 46 (m5.cs ⟨16,L,U,O,V,X,Y,X2,Y2,n,m,vs,bs,bd⟩)::.blk kb 3 [ii 16]::(s.L++(M++tl))):=S;refine zC (vE (r:={ code:=0,n:=n1,cells:=⟨A1,k1,c1⟩ })) ?_;refine zS ?_;intro ac S;exact rA S ⟨⟨d,A1,c1,k1,n1,hd,aa,Z⟩,rfl,St.backG (A:=_::s.L) (St.regBack S)⟩
theorem ON(J:mD s.gw s.gh (o.ax,o.ay)=false)(hk:o.k=15) :
  pQ F W (s.L++M) s.sb o true (57) (λ_:Unit=>{ code:=4:gZ }) (λ_=>s.L++M):=by
 intro kb tl w S;replace S:=St.forthG S;obtain⟨ok,aj,al,ak,am,L,O,ah,ai,n,m,vs,bs,bd⟩:=o;dsimp only at *;subst hk;replace S:St F W w (.blk kb 3 [ii 15]::(s.L++(M++tl))):=S;have ag:=(S.grid (i:=2) rfl).sw;have ae:=(S.grid (i:=2) rfl).sh;have y:=λw G=>SB (W:=w) (gw:=s.gw) (gh:=s.gh) (cc:=s.cc) (p:=s.p) (A:=s.A) (cap:=s.cap) (bs:=s.bs) (Rs:=s.Rs) L O J G;refine zI func57 ?_;refine zN ?_;intro U ao aa S;refine zN ?_;intro z ap ab S;refine zN ?_;intro D aq ac S;refine zC (pj (S.blk (i:=6) rfl)) ?_;intro ar ad S;refine zH (C:=(CX _ _ _ 0 (.blk D 40 uJ))) [11] [0,1,2,3,4,5,6,7,8,9,10,11] [12] (CX.start (S.gr (Gr.drew _))) ?_;refine zV (λτ wq v=>(v.blk (j:=4) (by decide) rfl)) ?_;refine zV (λτ wq v=>(v.blk (j:=2) (by decide) rfl)) ?_;refine jH rfl rfl (λτ wq v=>(y wq (show eJ wq _ _ _ _ _ _ _ _ from v.ok (j:=5) (by decide) rfl)).mono (λ_ _⟨hv,hg⟩=>⟨hv,v.gr hg⟩)) ?_;refine zR ?_;refine de rfl rfl (λwq v=>Ak v rfl (sV _) rfl rfl rfl rfl rfl rfl rfl) ?_;rintro an au _;refine zY ?_;rintro av ⟨Z,I,S⟩;obtain rfl:=Option.some.inj I;refine zC (o4 (r:={ code:=0 }) 4) ?_;refine zS ?_;intro V S;exact rA S ⟨(),rfl,St.backG (S.drop 3)⟩
theorem EE(ad:mD s.gw s.gh (o.ax,o.ay)=false\/mD s.gw s.gh (o.bx,o.by_)=false)(hk:o.k=16) :
  pQ F W (s.L++M) s.sb o true (57) (λ_:Unit=>{ code:=4:gZ }) (λ_=>s.L++M):=by
 intro kb tl w S;replace S:=St.forthG S;obtain⟨ok,Z,ab,aa,ac,I,J,L,O,n,m,vs,bs,bd⟩:=o;dsimp only at *;subst hk;replace S:St F W w (.blk kb 3 [ii 16]::(s.L++(M++tl))):=S;have al:=(S.grid (i:=2) rfl).sw;have ak:=(S.grid (i:=2) rfl).sh;have V:=λw G=>(OJ (W:=w) (gw:=s.gw) (gh:=s.gh) (cc:=s.cc) (p:=s.p) (A:=s.A) (cap:=s.cap) (bs:=s.bs) (Rs:=s.Rs) I J L O G ad).mono (R':=λv w'=>∃Q,(v=.tuple #[ii 0,.slice none 0 0,ii 4]/\Q=[])/\St No w w' Q) λv w'⟨hv,g⟩=>⟨[],⟨hv,rfl⟩,(St.start w).gr g⟩;refine zI func57 ?_;refine zN ?_;intro D aq ag S;refine zN ?_;intro y ar ah S;refine zN ?_;intro U au ai S;refine zC (pj (S.blk (i:=6) rfl)) ?_;intro av aj S;refine zH (C:=(o9 F W (.blk y 40 uJ::.blk D 46 (m5.cs ⟨16,Z,ab,aa,ac,I,J,L,O,n,m,vs,bs,bd⟩)::.blk kb 3 [ii 16]::(s.L++(M++tl))) U 40 (λk v=>match k with|0=>uJ|1=>uJ.set 1 (Bj v 0)|_=>(uJ.set 1 (Bj v 0)).set 5 (Bj v 1)) (λv Q=>v=.tuple #[ii 0,.slice none 0 0,ii 4]/\Q=[]))) [8,14,16] [0,1,2,3,4,5,6,7,8,9,10,11,12,13,14,15,16] [17] (o9.start (S.gr (Gr.drew _))) ?_;refine zV (λτ wq z=>((o9.st z).blk (i:=3) rfl)) ?_;refine zV (λτ wq z=>((o9.st z).blk (i:=1) rfl)) ?_;refine zV (λτ wq z=>((o9.st z).blk (i:=1) rfl)) ?_;refine de rfl rfl (λwq z=>wU z (λ_=>rfl) rfl (λS=>V wq (S.grid (i:=4) rfl))) ?_;rintro v6 w6 ⟨_,⟨rfl,_⟩,_⟩;refine zR ?_;refine de rfl rfl (λwq z=>rX (k:=0) z rfl rfl (cR _) rfl rfl rfl rfl rfl rfl) ?_;rintro am ao _;refine zR ?_;refine de rfl rfl (λwq z=>rX (k:=1) z rfl rfl (sV _) rfl rfl rfl rfl rfl rfl) ?_;rintro an ap _;refine zY ?_;rintro wz hz;obtain⟨_,⟨_,rfl⟩,S⟩:=o9.fin (k:=2) hz rfl rfl;replace S:St F W wz (.blk U 40 uJ::.blk y 40 uJ::.blk D 46 (m5.cs ⟨16,Z,ab,aa,ac,I,J,L,O,n,m,vs,bs,bd⟩)::.blk kb 3 [ii 16]::(s.L++(M++tl))):=S;refine zC (o4 (r:={ code:=0 }) 4) ?_;refine zS ?_;intro ae S;exact rA S ⟨(),rfl,St.backG (S.drop 3)⟩
theorem EF(v:¬((0<=o.n/\o.n<fW s.gw s.gh)/\(o.m=0\/o.m=1\/o.m=2)))(hk:o.k=17) :
  pQ F W (s.L++M) s.sb o true (57) (λ_:Unit=>{ code:=11:gZ }) (λ_=>s.L++M):=by
 intro kb tl w S;replace S:=St.forthG S;obtain⟨ok,al,an,am,ao,ah,ai,aj,ak,n,m,vs,bs,bd⟩:=o;dsimp only at *;subst hk;replace S:St F W w (.blk kb 3 [ii 17]::(s.L++(M++tl))):=S;have ag:=(S.grid (i:=2) rfl).sw;have ae:=(S.grid (i:=2) rfl).sh;have y:=λw G=>Mb (W:=w) (gw:=s.gw) (gh:=s.gh) (cc:=s.cc) (p:=s.p) (A:=s.A) (cap:=s.cap) (bs:=s.bs) (Rs:=s.Rs) n m v G;refine zI func57 ?_;refine zN ?_;intro D ap Z S;refine zN ?_;intro z aq aa S;refine zN ?_;intro V ar ab S;refine zC (pj (S.blk (i:=6) rfl)) ?_;intro au ac S;refine zD [0,1,2,3,4,5,6,7,8,9,10,11,12,13] [] ?_;refine zP (λwq hq=>y wq ((S.gr hq).grid (i:=5) rfl)) ?_;refine zE ?_;intro av ad S;refine zC (SE (W:=_)) ?_;refine zS ?_;intro J S;refine zC (Vd (W:=_)) ?_;intro L I S;refine zC (Vf (W:=_) _ _ _ _) ?_;refine zS ?_;intro O S;refine zC (o4 (r:={ code:=0 }) 11) ?_;refine zS ?_;intro U S;exact rA S ⟨(),rfl,St.backG (S.drop 3)⟩
theorem IB(y z:Nat)(aq:s.ok)(ap:y<fW s.gw s.gh)(ao:z<=2)(hk:o.k=17/\o.n=y/\o.m=z) :
  pQ F W (s.L++M) s.sb o true (57) (λq:Option Addr×Nat=>{ code:=0,ax:=(dG s.gw y:Nat),ay:=(dG s.gh y:Nat),values:=⟨q.1,dG s.gw y*dG s.gh y,q.2⟩:gZ }) (λq=>.row 2 1 q.1 (dG s.gw y*dG s.gh y) q.2 (cY (dw (dG s.gw y) (dG s.gh y) (λi=>((List.range (dG s.gw y*dG s.gh y)).map (EU s.gw s.gh s.cc y z)).getD i 0)))::(s.L++M)):=by
 intro kb tl w S;replace S:=St.forthG S;obtain⟨ok,aj,al,ak,am,ae,ag,ah,ai,n,m,vs,bs,bd⟩:=o;dsimp only at *;obtain⟨rfl,rfl,rfl⟩:=hk;replace S:St F W w (.blk kb 3 [ii 17]::(s.L++(M++tl))):=S;have aI:=(S.grid (i:=2) rfl).sw;have aH:=(S.grid (i:=2) rfl).sh;have I:=λw G=>SD (W:=w) (gw:=s.gw) (gh:=s.gh) (cc:=s.cc) (p:=s.p) (A:=s.A) (cap:=s.cap) (bs:=s.bs) (Rs:=s.Rs) y z ap ao aq.hB G;try dsimp only
 generalize (λi=>((List.range (dG s.gw y*dG s.gh y)).map (EU s.gw s.gh s.cc y z)).getD i 0)=U at *;generalize dG s.gw y=V at *;generalize dG s.gh y=Z at *;replace I:=λw G=>(I w G).mono (R':=λv w'=>∃Q,(∃p2 B bc bs2 Rs2,v=.tuple #[pt p2,ii 0]/\Q=[.grid p2 V Z U B bc bs2 Rs2])/\St No w w' Q) λv w'⟨p2,B,bc,bs2,Rs2,hv,hG2,hf2,g⟩=>⟨_,⟨p2,B,bc,bs2,Rs2,hv,rfl⟩,(St.start w).pushGrid hG2 hf2 g⟩;refine zI func57 ?_;refine zN ?_;intro L aJ aC S;refine zN ?_;intro D aK aD S;refine zN ?_;intro ac aL aE S;refine zC (pj (S.blk (i:=6) rfl)) ?_;intro aM aF S;refine zH (C:=(o9 F W (.blk D 40 uJ::.blk L 46 (m5.cs ⟨17,aj,al,ak,am,ae,ag,ah,ai,y,z,vs,bs,bd⟩)::.blk kb 3 [ii 17]::(s.L++(M++tl))) ac 40 (λk v=>uJ) (λv Q=>∃p2 B bc bs2 Rs2,v=.tuple #[pt p2,ii 0]/\Q=[.grid p2 V Z U B bc bs2 Rs2]))) [8] [0,1,2,3,4,5,6,7,8,9,10,11,12] [13] (o9.start (S.gr (Gr.drew _))) ?_;refine zV (λτ wq hq=>((o9.st hq).blk (i:=3) rfl)) ?_;refine zV (λτ wq hq=>((o9.st hq).blk (i:=1) rfl)) ?_;refine zV (λτ wq hq=>((o9.st hq).blk (i:=1) rfl)) ?_;refine de rfl rfl (λwq hq=>wU hq (λ_=>rfl) rfl (λS=>I wq (S.grid (i:=4) rfl))) ?_;rintro v6 w6 ⟨_,⟨p2,B,bc,bs2,Rs2,rfl,_⟩,_⟩;refine zY ?_;rintro wz hz;obtain⟨_,⟨_,_,_,_,_,e2,rfl⟩,S⟩:=o9.fin (k:=0) hz rfl rfl;cases e2
 replace S:St F W wz (.grid p2 V Z U _ _ _ _::.blk ac 40 uJ::.blk D 40 uJ::.blk L 46 (m5.cs ⟨17,aj,al,ak,am,ae,ag,ah,ai,y,z,vs,bs,bd⟩)::.blk kb 3 [ii 17]::(s.L++(M++tl))):=S;refine zg ?_;have aG:=(S.grid (i:=0) rfl).top;have ar:=(S.grid (i:=0) rfl).sw;have an:=(S.grid (i:=0) rfl).sh;refine zC (mC p2 V Z _ wz ((S.grid (i:=0) rfl).top)) ?_;refine zS ?_;intro av S;refine zC (uo p2 V Z ar.2 an.2 _ _ ((S.grid (i:=0) rfl).top)) ?_;intro aw au S;refine zK (FU (S.grid (i:=0) rfl) _ (Gr.refl _)) ?_;rintro _ az ⟨J,O,rfl,aa,ab,ad⟩;have S:=S.pushRow aa ab ad;refine zS ?_;intro aA S;refine zC (vE (r:={ code:=0,ax:=(V:Nat),ay:=(Z:Nat),values:=⟨J,V*Z,O⟩ })) ?_;refine zS ?_;intro aB S;exact rA S ⟨(J,O),rfl,St.backG (A:=_::s.L) (St.lev S)⟩
theorem JU{x y:Int}(h:mD gw gh (x,y)=true):∃i,i<gw*gh/\x=(i%gw:Nat)/\y=(i/gw:Nat):=by
 have v:=jT.1 h;dsimp only at v;obtain⟨a,rfl⟩:=cJ v.1;obtain⟨b,rfl⟩:=cJ v.2.2.1;have z:=jo (gw:=gw) (X:=a) (Y:=b) om;have h1:(b+1)*gw<=gh*gw:=cI _ om;rw[cX,cD gh]at h1;exact⟨b*gw+a,om,by rw[z.1],by rw[z.2]⟩
structure Bk(j:Nat)(s:lT)(Q:List HA):Prop where
 ok:s.ok
 q:vY s.ov s.stamp s.gw s.gh s.V Q
 st:0<=s.stamp/\s.stamp<=j
 ln:s.l.length<=j
theorem Bk.le{Q:List HA}(h:Bk i s Q)(v:i<=j):Bk j s Q:=⟨h.ok,h.q,⟨h.st.1,by have:=h.st.2;omega⟩,dE h.ln v⟩
def WQ(sb:Nat)(p0:Option Addr):HA:=.blk sb 73 [.pointer none,.pointer none,.pointer none,ii 0,.pointer p0]
def xV(sb j:Nat)(W w:World)(tl:List HA):Prop:=(∃p0,St No W w (WQ sb p0::tl))\/∃s Q,s.sb=sb/\Bk j s Q/\St No W w ((s.L++Q)++tl)
def GY(sb j:Nat)(W:World)(tl:List HA):Value->World->Prop:=λv w'=>∃r:gZ,v=r.v/\xV sb j W w' tl
structure IC(W:World)(o:m5):Prop where
 n:-9223372036854775808<=o.n/\o.n<=9223372036854775807
 m:-9223372036854775808<=o.m/\o.m<=9223372036854775807
 vs:∃V:List Int,o.vs.n=V.length/\V.length<=9223372036854775807/\Rd W o.vs.A (cY V)
 bs:∃l:List Int,o.bs.n=l.length/\o.bs.n<=o.bs.c/\l.length<=1073741824/\Rd W o.bs.A (f9 l)
 bd:∃xs:List (Int×Int),o.bd.n=xs.length/\o.bd.n<=o.bd.c/\o.bd.n<=9223372036854775807/\Rd W o.bd.A (kI xs)
theorem Mc:Fn prog 34 [ii 27] W (λv w'=>∃kb,v=.iface 119 (iT false (74) kb)/\St No W w' [.blk kb 3 [ii 27]]):=by
 have S:=St.start W;refine zI func34 ?_;refine zN ?_;intro y D z S;refine zg ?_;refine dU (jn ou rfl rfl) ?_;refine zX ?_;exact⟨_,rfl,S⟩
theorem AS:xz 27 119 false (74):=by
 intro W;have S:=St.start W;refine zI func22 ?_;refine zK (Mc) ?_;rintro _ y ⟨kb,rfl,v⟩;have S:=S.app v;refine zX ?_;exact⟨_,rfl,S⟩
section
variable{st:Int}
theorem OO(D:o.k=19)(U:eL W sb 73 [.pointer none,.pointer l0,.pointer o0,ii st,.pointer p0]) :
  Fn prog 9 [pt sb,o.v] W (dp ({ code:=2 }:gZ).v W):=by
 have v:=λw=>DZ (W:=w);obtain⟨ok,V,aa,Z,ab,ax,ay,bx,I,n,m,vs,bs,bd⟩:=o;dsimp only at D;subst D;unfold JR at *;have S:=St.start W;refine zI func9 ?_;refine zN ?_;intro y ac J S;refine zN ?_;intro z ad L S;refine zC (v _) ?_;intro ae O S;refine zg ?_;refine dU (vO k9 rfl) ?_;refine zg ?_;refine dU (kF (b:=false) mh rfl (by kernel_rfl) mP) ?_;refine zS ?_;intro ag S;exact rA S ⟨rfl,S.out⟩
end
section
variable{Q:List HA}
theorem kt{α:Type}{Vr:α->gZ}{Lx:α->List HA}(y:s.sb=sb)(D:Bk j s Q)(c:Bool)(z:xz o.k 119 c f)(J:pQ No W (s.L++Q) s.sb o c f Vr Lx)(I:∀x,(s.L++Q).Sublist (Lx x))(S:St No W w ((s.L++Q)++tl)) :
  Fn prog 9 [pt sb,o.v] w (GY sb (j+1) W tl) :=
 (tj y c z J S).mono λv w'⟨x,hv,S'⟩=>⟨_,hv,.inr ⟨s,Q,y,D.le (lM j),S'.sub ((I x).append (cQ _))⟩⟩
theorem Vi(y:s.sb=sb)(z:Bk j s Q)(D:6<=o.k/\o.k<=11)(S:St No W w ((s.L++Q)++tl)):Fn prog 9 [pt sb,o.v] w (GY sb (j+1) W tl):=by
 have v:=rV D.1 D.2;have I:o.k=6\/o.k=7\/o.k=8\/o.k=9\/o.k=10\/o.k=11:=om;rcases I with h|h|h|h|h|h
 ·exact kt y z true v (PZ h) (λ_=>cQ _) S
 ·exact kt y z true v (WH z.ok z.q h) (λ_=>cQ _) S
 ·exact kt y z true v (P1 z.ok h) (λ_=>cQ _) S
 ·exact kt y z true v (P2 z.ok h) (λ_=>cQ _) S
 ·exact kt y z true v (UU h) (λ_=>cQ _) S
 ·exact kt y z true v (UV z.ok h) (λ_=>cQ _) S
theorem Vj(y:s.sb=sb)(z:Bk j s Q)(hk:12<=o.k/\o.k<=17)(S:St No W w ((s.L++Q)++tl)):Fn prog 9 [pt sb,o.v] w (GY sb (j+1) W tl):=by
 have v:=wt hk.1 hk.2;have hw:=(S.grid (i:=1) rfl).sw;have hh:=(S.grid (i:=1) rfl).sh;have D:s.V.length=s.gw*s.gh:=qf _ _ _;have h6:o.k=12\/o.k=13\/o.k=14\/o.k=15\/o.k=16\/o.k=17:=om;rcases h6 with h|h|h|h|h|h
 ·exact kt y z true v (SF z.ok h) (λ_=>cQ _) S
 ·exact kt y z true v (Vg z.ok h) (λ_=>cQ _) S
 ·exact kt y z true v (Vb o.n (by rw[D];exact fy hw.2 hh.2) ⟨h,rfl⟩) (λ_=>.cons _ (.cons _ (cQ _))) S
 ·cases hi:mD s.gw s.gh (o.ax,o.ay)
  ·exact kt y z true v (ON hi h) (λ_=>cQ _) S
  ·obtain⟨i,I,hx,hy⟩:=JU hi;obtain⟨k,U,aa⟩:=(FG (V:=s.V) hw.1 D).stop I;exact kt y z true v (Vh i k I aa U ⟨h,hx,hy⟩) (λ_=>.cons _ (cQ _)) S
 ·cases hi:mD s.gw s.gh (o.ax,o.ay)
  ·exact kt y z true v (EE (.inl hi) h) (λ_=>cQ _) S
  ·cases J:mD s.gw s.gh (o.bx,o.by_)
   ·exact kt y z true v (EE (.inr J) h) (λ_=>cQ _) S
   ·obtain⟨a,ha,hx,hy⟩:=JU hi;obtain⟨b,hb,ac,ad⟩:=JU J;exact kt y z true v (SG a b z.ok ha hb ⟨h,hx,hy,ac,ad⟩) (λ_=>.cons _ (cQ _)) S
 ·rcases fv ((0<=o.n/\o.n<fW s.gw s.gh)/\(o.m=0\/o.m=1\/o.m=2))with L|L
  ·obtain⟨kk,Z⟩:=cJ L.1.1;obtain⟨ab,O⟩:=cJ (show 0<=o.m by omega);exact kt y z true v (IB kk ab z.ok om om ⟨h,Z,O⟩) (λ_=>.cons _ (cQ _)) S
  ·exact kt y z true v (EF L h) (λ_=>cQ _) S
theorem SI(hT:jX W)(z:s.sb=sb)(y:Bk j s Q)(Z:IC W o)(hk:o.k=18\/o.k=23\/o.k=27)(S:St No W w ((s.L++Q)++tl)):Fn prog 9 [pt sb,o.v] w (GY sb (j+1) W tl):=by
 have O:∀w L,St No W w L->jX w:=λw L S=>hT.gr S.out;rcases hk with h|h|h
 ·refine(tj z false (h▸Ai) (OC y.ok) S).mono λv w'⟨q,hv,S'⟩=>⟨_,hv,.inr ⟨{ s with ov:=some ⟨q.1.1,0,none⟩ },q.1.2,z,⟨⟨y.ok.hB,y.ok.hd,y.ok.hg⟩,vY.frozen y.ok.hB q.2,⟨y.st.1,show s.stamp<=_ by have:=y.st.2;omega⟩,Nat.le_succ_of_le y.ln⟩,?_⟩⟩;refine S'.sub (iQ ?_ (cQ _));exact iQ (cQ _) (List.sublist_append_left _ _)
 ·rcases fv (o.n=3)with I|I
  ·exact kt z y false (h▸AH) (LU O y.ok ⟨h,I⟩) (λ_=>cQ _) S
  ·rcases fv (o.n<0\/2<o.n)with J|J
   ·exact kt z y false (h▸AH) (Ov y.ok ⟨h,I,J⟩) (λ_=>cQ _) S
   ·obtain⟨kk,V⟩:=cJ (show 0<=o.n by omega);exact kt z y false (h▸AH) (Ow O y.ok kk om ⟨h,V⟩) (λ_=>cQ _) S
 ·obtain⟨xs,h1,h2,I,J⟩:=Z.bd;rcases fv (dF o.x0 o.y0 o.x1 o.y1 s.gw s.gh=0)with D|D
  ·obtain⟨⟨x0,y0,x1,y1⟩,U,e0,e1,e2,e3⟩:=nP D;cases hl:tO xs
   ·exact kt z y false (h▸AS) (Sm (λw L S=>J.gr S.out) h1 h2 I hl U.1 U.2 ⟨h,e0,e1,e2,e3⟩) (λ_=>cQ _) S
   ·exact kt z y false (h▸AS) (UW (λw L S=>J.gr S.out) h1 h2 I hl U.1 U.2 ⟨h,e0,e1,e2,e3⟩) (λ_=>.cons _ (cQ _)) S
  ·exact kt z y false (h▸AS) (Ou D h) (λ_=>cQ _) S
theorem OP(J:s.sb=sb)(z:Bk j s Q)(hj:j<40)(ab:IC W o)(hk:2<=o.k/\o.k<=5)(S:St No W w ((s.L++Q)++tl)):Fn prog 9 [pt sb,o.v] w (GY sb (j+1) W tl):=by
 have aa:=wO hk.1 hk.2;have ac:0<=s.stamp/\s.stamp<1000:=by have:=z.st;omega
 have Z:s.l.length<40:=by have:=z.ln;omega
 have ad:=(z.ok).hd;have hw:=(S.grid (i:=1) rfl).sw;have hh:=(S.grid (i:=1) rfl).sh
 have L:∀{X0 Y0 X1 Y1:Int}{V:List Int},V.length<=9223372036854775807->sE No W (s.L++Q) s.p o true (46) X0 Y0 X1 Y1 (dF X0 Y0 X1 Y1 s.gw s.gh) V->Fn prog 9 [pt sb,o.v] w (GY sb (j+1) W tl):=λU hp =>
  (Ex J aa z.ok ac Z rfl U hp S).mono λv w'⟨s',hv,⟨hok,D⟩,S'⟩=>by
   refine⟨_,hv,.inr ⟨s',Q,?_,?_,S'⟩⟩
   ·rcases D with⟨_,rfl⟩|⟨_,D⟩
    ·exact J
    ·exact D.sb.trans J
   ·rcases D with⟨_,rfl⟩|⟨_,D⟩
    ·exact z.le (lM j)
    ·refine⟨hok,z.q.painted D,?_,?_⟩
     ·have:=z.st;rcases D.ch with⟨h1,_⟩|⟨h1,_⟩<;>omega
     ·have:=z.ln;rcases D.ch with⟨_,h1,_⟩|⟨_,x,h1,_⟩
      ·rw[h1];omega
      ·rw[h1,cP,d7,iV];omega
 have I:∀{X0 Y0 X1 Y1:Int},((o.k=2/\X0=o.ax/\Y0=o.ay/\X1=o.ax/\Y1=o.ay)\/((o.k=3\/o.k=5)/\X0=o.x0/\Y0=o.y0/\X1=o.x1/\Y1=o.y1))->Fn prog 9 [pt sb,o.v] w (GY sb (j+1) W tl):=λ{X0 Y0 X1 Y1}ho=>by
  rcases fv (dF X0 Y0 X1 Y1 s.gw s.gh=0)with y|y
  ·obtain⟨⟨x0,y0,x1,y1⟩,hr,rfl,rfl,rfl,rfl⟩:=nP y;have hx:x0<=x1/\x1<s.gw:=hr.1;have hy:y0<=y1/\y1<s.gh:=hr.2;dsimp only at y ho;refine L (X0:=x0) (Y0:=y0) (X1:=x1) (Y1:=y1) (V:=(fi s.gw s.cc x0 y0 (x1+1-x0) (y1+1-y0)).map (C4 o.k o.n)) ?_ ?_
   ·rw[eP,lE];exact dE (fy (show y1+1-y0<=1024 by omega) (show x1+1-x0<=1024 by omega)) (by decide)
   ·rw[y];refine GR z.ok hx hy ?_;rcases ho with⟨h,h1,h2,O,h4⟩|⟨h,h1,h2,O,h4⟩
    ·exact .inl ⟨h,h1.symm,h2.symm,om,om⟩
    ·exact .inr ⟨h,h1.symm,h2.symm,O.symm,h4.symm⟩
  ·exact L (by simp) (Ss y ho)
 have h6:o.k=2\/o.k=3\/o.k=4\/o.k=5:=om;rcases h6 with h|h|h|h
 ·exact I (.inl ⟨h,rfl,rfl,rfl,rfl⟩)
 ·exact I (.inr ⟨.inl h,rfl,rfl,rfl,rfl⟩)
 ·obtain⟨V,h1,h2,O⟩:=ab.vs;exact L h2 (Iu h h1 λw hF _=>O.gr (hF.gr λ_ h=>h.elim))
 ·exact I (.inr ⟨.inr h,rfl,rfl,rfl,rfl⟩)
theorem SJ(y:s.sb=sb)(I:Bk j s Q)(Z:j<40)(V:o.k=25\/o.k=26)(S:St No W w ((s.L++Q)++tl)):Fn prog 9 [pt sb,o.v] w (GY sb (j+1) W tl):=by
 have O:0<=s.stamp/\s.stamp<1000:=by have:=I.st;omega
 have L:s.l.length<1000:=by have:=I.ln;omega
 rw[cL]at S;have U:∀{s':lT}{x:lS}{V1 V2:List Int}{dn:Nat},s'.ok->LY s s' x V1 V2 dn->Bk (j+1) s' Q:=λz J=>⟨z,I.q.stepped J,by have:=I.st;rw[J.st];omega,by rw[J.l];exact Nat.le_succ_of_le I.ln⟩;rcases V with h|h
 ·refine(GT y h I.ok O L S).mono λv w'⟨s',D,S'⟩=>?_;rw[<-cL]at S';rcases D with⟨_,rfl,D⟩|⟨D,z,x,dn,_,_,J⟩
  ·exact⟨_,D,.inr ⟨s',Q,y,I.le (lM j),S'⟩⟩
  ·exact⟨_,D,.inr ⟨s',Q,J.sb.trans y,U z J,S'⟩⟩
 ·refine(OD y h I.ok O L S).mono λv w'⟨s',D,S'⟩=>?_;rw[<-cL]at S';rcases D with⟨_,rfl,D⟩|⟨D,z,x,_,J⟩
  ·exact⟨_,D,.inr ⟨s',Q,y,I.le (lM j),S'⟩⟩
  ·exact⟨_,D,.inr ⟨s',Q,J.sb.trans y,U z J,S'⟩⟩
theorem Vk(O:s.sb=sb)(I:Bk j s Q)(hk:19<=o.k/\o.k<=22)(S:St No W w ((s.L++Q)++tl)):Fn prog 9 [pt sb,o.v] w (GY sb (j+1) W tl):=by
 have Z:=(S.grid (i:=1) rfl).sw;have V:=(S.grid (i:=1) rfl).sh;subst O;have L:eL w s.sb 73 [pt s.p,pt s.lb,.pointer s.ov,ii s.stamp,pt s.pp]:=S.blk (i:=0) rfl;have y:=I.le (lM j);have J:St No W w (.blk s.sb 73 [pt s.p,pt s.lb,.pointer s.ov,ii s.stamp,pt s.pp]::(s.rest++Q++tl)):=S;rcases I.q with⟨h1,rfl⟩|⟨sn,st,V0,h1,h2,U,_,_⟩
 ·rw[h1]at L J;rcases fv (o.k=19)with z|z
  ·exact(L6 z J).mono λv w'⟨D,S'⟩=>⟨_,D,.inr ⟨s,[],rfl,y,by rw[<-h1]at S';exact S'⟩⟩
  ·exact(OG om L).mono λv w'⟨D,g⟩=>⟨_,D,.inr ⟨s,[],rfl,y,S.gr g⟩⟩
 ·rw[h1]at L J;rcases fv (o.k=19)with z|z
  ·exact(Sx z J).mono λv w'⟨D,S'⟩=>⟨_,D,.inr ⟨{ s with ov:=none },[],rfl,⟨⟨I.ok.hB,I.ok.hd,I.ok.hg⟩,.inl ⟨rfl,rfl⟩,y.st,y.ln⟩,S'.sub (.cons_cons _ (iQ (iQ (cQ _) (rC _)) (cQ _)))⟩⟩
  ·exact(U3 om U Z V (h2.at_ (T:=tl) (St.tail (Q:=s.L) (by rw[cL]at S;exact S))) L).mono λv w'⟨D,g⟩=>⟨_,D,.inr ⟨s,Q,rfl,y,S.gr g⟩⟩
theorem GZ{Z:Int}(hT:jX W)(J:IC W o)(O:o.k=1\/o.k=24)(I:∀w',St No W w' (.blk sb 73 [.pointer g0,.pointer l0,.pointer o0,ii Z,.pointer p0]::T)->xV sb (j+1) W w' tl)(aa:tl.Sublist T)(S:St No W w (.blk sb 73 [.pointer g0,.pointer l0,.pointer o0,ii Z,.pointer p0]::T)):Fn prog 9 [pt sb,o.v] w (GY sb (j+1) W tl):=by
 have D:∀{s':lT}{w':World},s'.ok->s'.sb=sb->s'.ov=none->s'.l=[]->s'.stamp=0->St No W w' (s'.L++T)->xV sb (j+1) W w' tl:=λ{s' w'}h1 h2 U V h5 z =>
  .inr ⟨s',[],h2,⟨h1,.inl ⟨U,rfl⟩,by rw[h5];omega,by rw[V];exact ib _⟩,z.sub (by rw[fG];exact iQ (cQ _) aa)⟩
 rcases O with O|O
 ·rcases fv ((1<=o.n/\o.n<=1024)/\1<=o.m/\o.m<=1024)with hg|hg
  ·obtain⟨gw,ac⟩:=cJ (show 0<=o.n by omega);obtain⟨gh,ab⟩:=cJ (show 0<=o.m by omega);exact(NK (O▸Ah) (u9 (λv y=>by unfold dw at y;obtain⟨_,_,rfl⟩:=fC.1 y;rfl)) (λw=>Id (W:=w) (gw:=gw) (gh:=gh) om om ac ab) S).mono λv w'⟨s',y,⟨h1,h2,_,_,U,_,V,_,h5⟩,z⟩=>⟨_,y,D h1 h2 U V h5 z⟩
  ·exact(Jy (by decide) (O▸Ah) (λw=>Lb (W:=w) J.n J.m hg) S).mono λv w'⟨y,z⟩=>⟨_,y,I w' z⟩
 ·obtain⟨l,h1,h2,U,V⟩:=J.bs;refine(RR O (λw L S=>Ux (hT.gr S.out) h1 h2 U (V.gr S.out)) S).mono λv w' h=>?_;rcases h with⟨y,z⟩|⟨s',y,⟨e1,e2,e3,e4,_,e5⟩,z⟩
  ·exact⟨_,y,I w' z⟩
  ·exact⟨_,y,D e1 e2 e3 e4 e5 z⟩
theorem SK(D:2<=o.k/\o.k<=27/\o.k≠24)(S:St No W w (WQ sb p0::tl)):Fn prog 9 [pt sb,o.v] w (dp ({ code:=2 }:gZ).v w):=by
 have y:eL w sb 73 [.pointer none,.pointer none,.pointer none,ii 0,.pointer p0]:=S.blk (i:=0) rfl;rcases fv (o.k<=5)with h|h
 ·exact sD true (wO D.1 h) (by kernel_rfl) y
 rcases fv (o.k<=11)with h1|h1
 ·exact sD true (rV om h1) (by kernel_rfl) y
 rcases fv (o.k<=17)with h2|h2
 ·exact sD true (wt om h2) (by kernel_rfl) y
 rcases fv (20<=o.k/\o.k<=22)with z|z
 ·exact sD true (GU z) (by kernel_rfl) y
 have v:o.k=18\/o.k=19\/o.k=23\/o.k=25\/o.k=26\/o.k=27:=om;rcases v with v|v|v|v|v|v
 ·exact sD false (v▸Ai) (by kernel_rfl) y
 ·exact OO v y
 ·exact sD false (v▸AH) (by kernel_rfl) y
 ·exact sD false (v▸DH) (by kernel_rfl) y
 ·exact sD false (v▸DY) (by kernel_rfl) y
 ·exact sD false (v▸AS) (by kernel_rfl) y
theorem Xy(O:jX W)(D:IC W o)(Z:j<40)(h:xV sb j W w tl):Fn prog 9 [pt sb,o.v] w (GY sb (j+1) W tl):=by
 have J:∀{w'},Gr w w'->xV sb (j+1) W w' tl:=λg=>by
  rcases h with⟨p0,S⟩|⟨s,Q,h1,h2,S⟩
  ·exact .inl ⟨p0,S.gr g⟩
  ·exact .inr ⟨s,Q,h1,h2.le (lM j),S.gr g⟩
 rcases fv (o.k<1\/27<o.k)with hk|hk
 ·exact(U2 hk).mono λv w'⟨U,g⟩=>⟨_,U,J g⟩
 rcases h with⟨p0,S⟩|⟨s,Q,y,I,S⟩
 ·rcases fv (o.k=1\/o.k=24)with z|z
  ·exact GZ O D z (λw' L=>.inl ⟨p0,L⟩) (cQ _) S
  ·exact(SK om S).mono λv w'⟨U,g⟩=>⟨_,U,J g⟩
 ·rcases fv (o.k=1\/o.k=24)with z|z
  ·subst y;exact GZ (T:=s.rest++Q++tl) O D z (λw' L=>.inr ⟨s,Q,rfl,I.le (lM j),L⟩) (iP _ _) S
  rcases fv (o.k<=5)with h|h
  ·exact OP y I Z D om S
  rcases fv (o.k<=11)with h1|h1
  ·exact Vi y I om S
  rcases fv (o.k<=17)with h2|h2
  ·exact Vj y I om S
  rcases fv (o.k=18\/o.k=23\/o.k=27)with V|V
  ·exact SI O y I D V S
  rcases fv (o.k<=22)with h4|h4
  ·exact Vk y I om S
  ·exact SJ y I Z om S
end
end Go.Proofs.YtcalhocphkbbgaaGreatDoor
