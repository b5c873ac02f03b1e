/- A part of the proof that hachuretop.WholeErrors returns true at every input; no condition. -/
import Derived.Test.YtceahkcepefcaaaGreatDoorKP
import Derived.Test.YtceahkcepefcaaaGreatDoorKR
set_option maxRecDepth 100000
set_option maxHeartbeats 16000000
set_option linter.unusedVariables false
set_option linter.unusedSimpArgs false
namespace Go.Proofs.YtceahkcepefcaaaGreatDoor
open Go.Proofs.Tryz Go.RowKit
variable{Q:(Nat->Value)->World->Prop}{af:Array Edge}{tys:Array TypeId}{bd:Code}{f:FuncId}{h:HA}{X0 X1 Y0 Y1 a ax ay bx:Int}{σ:List (Nat × Value)}{K:List (Nat × Value)->Act->Prop}{ls:List BR}{L' L0 M T tl:List HA}{hd ks:List Nat}{args:List Operand}{l vs:List Value}{N b b' bytes c c1 c2 cB cK g gh gw i j k kb kind lh m n p q:Nat}{cc:Nat->Int}{bs:Nat->Nat}{R':Nat->Nat->Bool}{Rs:Nat->Option Nat}{F:Nat->Prop}{e:Nat->Value}{o:m5}{hi lo x:Operand}{A A1 A2 B l0:Option Addr}{d:Option Tmp}{P:Program}{G:Prop}{r:Rc}{s:lT}{t ts ty:TypeId}{u v2:Value}{W w w' wq:World}{C:World->Prop}
def HA.brs(ls:List BR):HA:=⟨λg=>∃q∈ls,jv q.A g,λw=>∀q∈ls,gH w 5 1 q.A q.l.length q.c (f9 q.l),λ_ _ h _ hR q hq=>(hR q hq).keep (λg hg=>h g ⟨q,hq,hg⟩),λ_ hR g⟨q,hq,hg⟩=>(hR q hq).lt hg⟩
section
variable{L:List HA}{l:List Int}
theorem St.brs0(S:St F W w L):St F W w (.brs []::L):=S.push (Gr.refl w) (h:=.brs []) (λq v=>by cases v) (λg⟨q,v,_⟩=>by cases v)
theorem St.brsPush(S:St F W w (.row 5 1 A l.length c (f9 l)::.brs ls::L)):St F W w (.brs (ls++[⟨A,c,l⟩])::L) :=
 S.two (λh1 h2 q v=>(ez.1 v).elim (h2 q) (λh=>by rw[dM.1 h];exact h1)) (λg⟨q,v,hg⟩=>(ez.1 v).elim (λh=>.inr ⟨q,h,hg⟩) (λh=>by rw[dM.1 h]at hg;exact .inl hg))
theorem St.brsRd(S:St F W w L)(hi:gi L i=some (.brs ls)){q:BR}(v:q∈ls):Rd w q.A (f9 q.l):=(S.ok hi q v).rd
end
section
variable{K:Option Addr}{cap:Nat}{v:Int}
theorem UX{B:Nat}(h:∀q∈ls,q.l.length<=B):(mj ls).length<=B*ls.length:=by
 induction ls with
 |nil=>simp[mj]
 |cons q r ih =>
  have h1:=h q (by simp);have h2:=ih (λx v=>h x (cW _ v));unfold mj at h2 ⊢;rw[fe,cP,fc,nk];omega
theorem Sn(v:0<ls.length)(h:∀q∈ls,1<=q.l.length):0<(mj ls).length:=by
 cases ls with
 |nil=>simp at v
 |cons q r =>
  have:=h q (by simp);unfold mj;rw[fe,cP];omega
theorem So(k:Nat)(y:k<=2):Fn prog 224 [ii k] W (dp (.bool false) W):=by
 have S:=St.start W;refine zI func224 ?_;refine zC (yz k 1 0 y om om) ?_;intro z v S;exact zZ
theorem UY(D:∀k∈ks,k<=2)(Z:ks.length<=1048576)(J:Rd W K (cY (ks.map λx:Nat=>(x:Int)))):Fn prog 274 [.slice K ks.length cK,.func (.func 224) #[] #[]] W (dp (ii (-1)) W):=by
 have v:∀j(L:j<ks.length),(cY (ks.map λx:Nat=>(x:Int)))[(j:Int).toNat * 1]?=some (ii (ks[j]:Nat)):=λj L=>by
  rw[cG,b7];exact gc (by rw[da,ct L];rfl)
 have S:=St.start W;refine zI func274 ?_;refine zg ?_
 refine dl (λm e w=>∃i:Nat,i+m=ks.length/\SL e [(0,.slice K ks.length cK),(1,.func (.func 224) #[] #[]),(7,ii ks.length),(8,ii i)]/\St No W w []) ks.length
  ⟨0,om,sl,S⟩ ?_
 clear S;rintro m e w ⟨i,hi,I,S⟩;rw[I.fold];by_cases y:i<ks.length
 ·have O:dO K:=J.someA (by rw[gn,eP];omega);have U:=v i y;have h2:=D _ (fY y);generalize ks[i]=k at *;refine zT (J.gr S.out) U ?_;refine ju rfl rfl (So k h2) ?_;rintro _ V ⟨rfl,z⟩;have S:=S.gr z;refine zg ?_;exact⟨m-1,om,i+1,om,sl,S⟩
 ·skip;exact zZ
theorem UZ(v:∀k∈ks,k<=2)(D:ks.length<=1048576)(z:Rd W K (cY (ks.map λx:Nat=>(x:Int)))):Fn prog 223 [.slice K ks.length cK,.func (.func 224) #[] #[]] W (dp (.bool false) W):=by
 have S:=St.start W;refine zI func223 ?_;refine zC (UY (cK:=cK) v D (z.gr S.out)) ?_;intro I y S;exact zZ
theorem U0{V:List Int}{w h:Nat}(v:1<=w/\w<=16)(D:1<=h/\h<=16)(L:V.length=w*h)(y:vM V):tN 0 (mp q V w)<=3840:=by
 have O:w*h<=16*16:=cE v.2 D.2;have I:=y.rests (kind:=q) v.1;have:=Dv (B:=5) (mp q V w) 0 (λx J=>(PL (z:=0) om (I x J)).2) om (by rw[pU];omega);rw[pU]at this;simp only[a7]at this;omega
theorem It(hT:jX W)(hB:vB (dw gw gh cc))(bk:ks.length=cU gh*cU gw)(aS:∀k∈ks,k<=2)(hK:Rd W K (cY (ks.map λx:Nat=>(x:Int))))(L:eJ W p gw gh cc A cap bs Rs) :
  Fn prog 146 [pt p,.slice K ks.length cK] W (λu w'=>∃lb:List Int,lb.length<=17+3849*(cU gh*cU gw)/\jc (λs=>.tuple #[s,ii 0]) 5 1 lb.length (f9 lb) W u w'):=by
 have h1:=jS L.sw.2;have h2:=jS L.sh.2;have br:=kQ L.sw.1;have bt:=kQ L.sh.1;have hm:cU gh*cU gw<=64*64:=cE h2 h1;have bq:1*1<=cU gh*cU gw:=cE bt br;have aX:=λk(hk:k<cU gh*cU gw)=>Ue (W:=W) hB hk L;have aY:=λw(g:Gr W w)=>xN (L.gr g);have aM:=λw(g:Gr W w)=>UZ (cK:=cK) aS om (hK.gr g)
 have aQ:∀j(hj:j<ks.length),(cY (ks.map λx:Nat=>(x:Int)))[(j:Int).toNat * 1]?=some (ii (ks[j]:Nat)):=λj hj=>by
  rw[cG,b7];exact gc (by rw[da,ct hj];rfl)
 have ao:=λw(ls:List Nat)B cB h3 h4 h5=>Wc (W:=w) (gw:=gw) (gh:=gh) (ls:=ls) (B:=B) (cB:=cB) L.sw L.sh h3 h4 h5;have an:cU gw*cU gh=cU gh*cU gw:=cD _ _;rw[an]at ao;obtain⟨n,hn⟩:∃n,cU gh*cU gw=n:=⟨_,rfl⟩;rw[hn]at hm bq aX aY bk ao;rw[hn];have bL:dO K:=hK.someA (by rw[gn,eP];omega);have S:=St.start W;refine zI func146 ?_;refine zK (aY W S.out) ?_;rintro _ cj ⟨y,U,rfl,ak,ar,be⟩;have S:=S.pushRow ak ar be;refine zC (aM _ S.out) ?_;intro ck ce S;refine zg ?_;have S:=(S.brs0.pushNil 28 1).pushNil 2 1;refine zg ?_
 refine dl (λm e w=>∃(k:Nat)(ls:List BR)(ad ab:Option Addr)(ah ae:Nat),k+m=n/\ls.length=k/\(∀q∈ls,1<=q.l.length/\q.l.length<=3841) /\
   SL e [(0,pt p),(1,.slice K ks.length cK),(7,.slice ad k ah),(8,.slice ab k ae),(35,.slice y n U),(36,ii n),(37,ii k)] /\
   St No W w [.row 2 1 ad k ah (cY ((ls.map λq=>q.l.length).map λx:Nat=>(x:Int))),.row 28 1 ab k ae (yO ls),.brs ls,.row 24 4 y n U (FZ gw gh)]) n
  ⟨0,[],none,none,0,0,om,rfl,(λq h=>by cases h),sl,S⟩ ?_
 clear S;rintro m e w ⟨k,ls,ad,ab,ah,ae,hk,aU,D,bu,S⟩;rw[bu.fold];by_cases bp:k<n
 ·have bB:dO y:=(S.row (i:=3) rfl).someA om;obtain⟨X0,Y0,X1,Y1,bh⟩:=aX k bp;obtain⟨ba,aR,aZ,am,aJ,aW,aL⟩:=bh;have aT:k<ks.length:=om;have g1:=aQ k aT;have bv:=aS _ (fY aT);have ci:=U0 (q:=ks[k]) ba aR am aJ;have aV:=λW A c q hA D=>Ud (W:=W) (A:=A) (c:=c) (w:=fQ gw (k%cU gw)) (h:=fQ gh (k/cU gw)) (V:=CI gw gh cc k) q D ba aR am aJ hA;rw[am,cD (fQ gw (k%cU gw))]at aV;generalize ks[k]=kd at *;generalize fQ gw (k%cU gw)=tw at *;generalize fQ gh (k/cU gw)=th at *;generalize CI gw gh cc k=Vt at *;refine zg ?_;refine ZU (S.rd (i:=3) rfl) aL ?_;refine zN ?_;intro bZ cl cg S;refine zS ?_;intro cm S;refine zK (aZ _ S.out) ?_;rintro _ cn ⟨bF,bG,rfl,al,au,bf⟩;have S:=S.pushRow al au bf;refine zC (aW _) ?_;intro co ch S;refine zT (hK.gr S.out) g1 ?_;refine zK (aV _ _ _ kd (S.rd (i:=0) rfl) bv) ?_;rintro _ cp ⟨lb,bl,I,J,rfl,aG,aN,bg⟩;have S:=S.pushRow aG aN bg;refine zg ?_;rw[<-bl]at S ⊢;have bm:1<=lb.length/\lb.length<=3841:=om;refine zg ?_;refine yb S ?_;intro bc bO bH S bb;refine ZP 4 0 S ?_;intro aw aB bP S bN;refine zg ?_;refine yb S ?_;intro bE bQ bI S bA;refine ZP 6 0 S ?_;intro av az bR S bM;refine zg ?_;have S:=(S.pick 9 [2,7,5,6,8,0,1,3,4] rfl rfl rfl).brsPush;have S:=(S.pick 8 [1,2,0,3,4,5,6,7] rfl rfl rfl).sub (List.take_sublist 4 _);have e1:cY ((ls.map λq=>q.l.length).map λx:Nat=>(x:Int))++[ii (lb.length:Nat)]=cY (((ls++[(⟨I,J,lb⟩:BR)]).map λq:BR=>q.l.length).map λx:Nat=>(x:Int)):=by simp[cY]
  have e2:yO ls++[.slice I lb.length J]=yO (ls++[(⟨I,J,lb⟩:BR)]):=by simp[yO,BR.v]
  rw[e1,e2]at S;exact⟨m-1,om,k+1,ls++[(⟨I,J,lb⟩:BR)],aw,av,aB,az,om,by simp[aU],(λq h=>(ez.1 h).elim (D q) (λh=>by rw[dM.1 h];exact bm)),sl,S⟩
 ·obtain rfl:k=n:=om;subst aU;have bi:=UX (ls:=ls) (B:=3841) (λq h=>(D q h).2);have Z:=λw B cB h5=>ao w (ls.map λq=>q.l.length) B cB (λx hx=>by obtain⟨q,h,rfl⟩:=fC.1 hx;have:=D q h;omega) (by rw[eP]) h5;rw[eP]at Z;refine zC (mC p gw gh _ w (L.top.gr S.out)) ?_;intro bS bJ S;refine zK (Z _ _ _ (S.rd (i:=0) rfl)) ?_;rintro _ bT ⟨lh,bn,ac,ag,rfl,aH,aO,aC⟩;have S:=S.pushRow aH aO aC;refine zg ?_;rw[<-bn]at S ⊢;refine zK (BH (ls:=ls) (S.rd (i:=2) rfl) (λq h=>⟨(D q h).1,S.brsRd (i:=3) rfl h⟩) om om om) ?_;rintro _ bU ⟨v,z,rfl,ai,ap,aD⟩;have S:=S.pushRow ai ap aD;refine yb S ?_;intro bD bV bK S bz;have aa:0<(mj ls).length:=Sn om (λq h=>(D q h).1);generalize aK:mj ls=O at S aa ⊢;rw[aK]at bi;refine zK (BH (ls:=[⟨ac,ag,lh⟩,⟨v,z,O⟩]) (cB:=2) (W6 rfl (S.rd (i:=0) rfl)) (λq D=>by simp only[dy,gM,lr]at D;rcases D with rfl|rfl;exact⟨by dsimp only;omega,S.rd (i:=2) rfl⟩;exact⟨aa,S.rd (i:=1) rfl⟩) (by simp) (by simp) (by simp[mj];omega)) ?_;rintro _ bW ⟨bC,aA,rfl,aj,aq,aE⟩;have S:=S.pushRow aj aq aE;have bj:(mj [(⟨ac,ag,lh⟩:BR),(⟨v,z,O⟩:BR)]).length=lh.length+O.length:=by simp[mj]
  generalize mj [(⟨ac,ag,lh⟩:BR),(⟨v,z,O⟩:BR)]=bw at S bj ⊢;refine zK (Nn (c:=aA) (l:=bw) (hT.gr S.out) om om (S.rd (i:=0) rfl)) ?_;rintro _ bX ⟨lo,bo,bY,ca,rfl,aI,aP,aF⟩;have S:=S.pushRow aI aP aF;refine zg ?_;rw[<-bo]at S ⊢;exact nd rfl rfl ⟨lo,om,S.retNew (i:=0) (mk:=λs=>.tuple #[s,ii 0]) rfl⟩
end
theorem LU(hT:∀w L,St F W w L->jX w)(U:s.ok)(ho:o.k=23/\o.n=3) :
  pQ F W (s.L++M) s.sb o false (70) (λq:{ q:Sv//q.n<=17+3849*(cU s.gh*cU s.gw) }=>{ code:=0,bytes:=q.1:gZ }) (λ_=>s.L++M):=by
 intro kb tl w S;have ad:=λw G=>DI (W:=w) (gw:=s.gw) (gh:=s.gh) (cc:=s.cc) (p:=s.p) (A:=s.A) (cap:=s.cap) (bs:=s.bs) (Rs:=s.Rs) U.hB G;have ah:=λw(ks:List Nat)K cK hH h1 h2 hK G=>It (W:=w) (ks:=ks) (K:=K) (cK:=cK) (gw:=s.gw) (gh:=s.gh) (cc:=s.cc) (p:=s.p) (A:=s.A) (cap:=s.cap) (bs:=s.bs) (Rs:=s.Rs) hH U.hB h1 h2 hK G;obtain⟨ok,am,ao,an,ap,ax,ay,bx,aj,n,m,vs,bs,bd⟩:=o;dsimp only at ho;obtain⟨rfl,rfl⟩:=ho;refine zI func70 ?_;refine zN ?_;intro ai aq ak S;refine zN ?_;intro Z ar al S;refine zK (ad _ (S.grid (i:=3) rfl)) ?_;rintro _ au ⟨ks,ae,I,V,aa,rfl,D,O,ab⟩;have S:=S.pushRow D O ab;refine zg ?_;dsimp only;refine zK (ah _ ks V aa (hT _ _ S) ae I (S.rd (i:=0) rfl) (S.grid (i:=4) rfl)) ?_;rintro _ av ⟨lb,ag,v,y,rfl,z,J,ac⟩;have S:=S.pushRow z J ac;refine zC (vE (r:={ code:=0,bytes:=⟨v,lb.length,y⟩ })) ?_;refine zS ?_;intro aw S;exact rA S ⟨⟨⟨v,lb.length,y⟩,ag⟩,rfl,S.drop 4⟩
theorem Ov(L:s.ok)(ho:o.k=23/\o.n≠3/\(o.n<0\/2<o.n)) :
  pQ F W (s.L++M) s.sb o false (70) (λ_:Unit=>{ code:=11:gZ }) (λ_=>s.L++M):=by
 intro kb tl w S;have I:=λw G=>DI (W:=w) (gw:=s.gw) (gh:=s.gh) (cc:=s.cc) (p:=s.p) (A:=s.A) (cap:=s.cap) (bs:=s.bs) (Rs:=s.Rs) L.hB G;obtain⟨-,h3,J⟩:=ho;rcases J with J|J
 all_goals
  refine zI func70 ?_;refine zN ?_;intro O ad aa S;refine zN ?_;intro z ae ab S;refine zK (I _ (S.grid (i:=3) rfl)) ?_;rintro _ ag ⟨ks,ac,U,V,Z,rfl,v,y,D⟩;have S:=S.pushRow v y D;refine zS ?_;intro ah S;exact rA S ⟨(),rfl,S.drop 3⟩
theorem U1:(prog.info? 3).map (λi=>(i.zero,i.size,i.bytes))=some (some (ii 0),1,8):=by kernel_rfl
theorem GM(g:Nat)(v:Value)(n:Nat)(hn:1<=n/\n<=4096)(hv:v.oneCell'=true)(W:World)(D:eL W g 3 [v]) :
  Fn prog 145 [.slice (some ⟨g,0,none⟩) 1 1,ii n] W
   (λr w'=>∃b,r=.slice (some ⟨b,0,none⟩) n n/\W.heap.size<=b/\eL w' b 3 (List.replicate n v)/\Gr W w'):=by
 have y:=Gr.refl W;refine zI func145 ?_;refine zg ?_;refine Y9 rfl (re _ om) ?_;refine zg ?_;refine Y9 rfl (re _ om) ?_;refine zK (Tk n om om _) ?_;rintro _ Z ⟨rfl,g1⟩;have D:=D.gr g1;have y:=y.trans g1;refine zg ?_;refine cq (EZ rfl rfl (b:=false) (cC om)) ?_;refine zg ?_;refine dr rfl ?_;refine cq (EZ rfl rfl (b:=false) (cC om)) ?_;refine zg ?_;refine Y9 rfl (gC _ om) ?_;try have S:=D.lt
 try have S:=y.le
 refine tW (Hy YR U1 rfl rfl rfl (n:=n) (c:=n) om om om om) ?_;intro am J al aa;have D:=D.gr J;have y:=y.trans J;refine zg ?_;have ag:=y.le;have ak:=D.lt;refine zg ?_;refine J3 YR fa rfl rfl aa D (n:=1) om rfl rfl (by simp;omega) (by simpa using hv) ?_;intro w3 g3 s3 b3;refine zg ?_;have y:=y.store g3 om;refine zg ?_
 refine dl (λm e w=>∃k:Nat,1<=k/\k<=n/\k+m=n/\SL e [(7,.slice (some ⟨Z.heap.size,0,none⟩) n n),(8,ii k)]/\(∃l,eL w Z.heap.size 3 l/\l.length=n/\∀i,i<k->l[i]?=some v)/\Gr W w) (n-1)
  ⟨1,om,om,om,sl,⟨_,b3,by simp;omega,λi hi=>(by rw[(om:i=0)];simp)⟩,y⟩ ?_
 rintro m e w ⟨k,ah,ai,aj,ad,⟨l,hL,ae,U⟩,hg⟩;rw[ad.fold];iterate 3 refine z ?_
 first|refine cq (ff (b:=true) rfl (cF om)) ?_|refine cq (ff (b:=false) rfl (cC om)) ?_|refine cq (cH rfl) ?_
 refine zc ?_;refine tV rfl (λhc=>?_) (λhc=>?_)
 ·refine gO ?_;try show CW _ _ _ _ _ _
  have O:k<n:=by simp at hc;omega
  have I:∀u,u∈l.take k->u=v:=λu V=>by
   obtain⟨i,hi,rfl⟩:=gK.1 V;have ab:i<k:=by simp at hi;omega
   have:=U i ab;rw[List.getElem_take];rw[ct om]at this;exact Option.some.inj this
  refine zH (C:=(λσ wq=>match σ with|[]=>wq=w.drew|v0::_=>v0=ii (min k (n-k):Nat)/\w.grownBy wq (some Z.heap.size)/\eL wq Z.heap.size 3 (l.take k++l.take (min k (n-k))++l.drop (k+min k (n-k))))) [7] [0,1,2,3,4,5,6,7,8,9] [] rfl ?_;refine ot rfl (D6 YR fa rfl rfl om om om) ?_;refine zR ?_;refine ot rfl (jb YR fa rfl rfl om om) ?_;refine de rfl rfl (λwq hq=>?_) ?_
  ·subst hq;refine Te (Fd YR fa rfl rfl hL.drew hL.drew (n:=min k (n-k)) (by simp) rfl (by simp;omega) om (λu V=>by rw[I u (by simp only[dR,cG]at V;exact(pu l (Nat.min_le_left _ _)) V)];exact hv)) ?_;rintro w' ⟨h2,h3,h4⟩;exact⟨rfl,⟨h2.os,h2.tape,h2.output,h2.size,h2.block⟩,by simpa using h4⟩
  rintro v0 an ⟨rfl,gq,bq⟩;refine zY ?_;rintro w4 ⟨_,g4,b4⟩;refine ze ?_;refine⟨m-min k (n-k),om,k+min k (n-k),om,om,om,sl,⟨_,b4,by simp;omega,λi hi=>?_⟩,?_⟩
  ·by_cases L:i<k
   ·rw[cL,gt (by simp;omega)];simp[L,U i L]
   ·rw[cL,fU (by simp;omega),gt (by simp;omega)];simp only[d7];rw[fJ,a7 om];exact U _ om
  ·exact hg.store g4 om
 ·refine pD ?_;show CW _ _ _ _ _ _;refine z ?_;refine z ?_;refine ze ?_;have O:k=n:=by simp at hc;omega
  subst O
  have ac:l=List.replicate k v:=by
   apply gG;intro i;by_cases hi:i<k
   ·rw[U i hi];simp[hi]
   ·rw[dZ om];simp[hi]
  subst ac;exact mJ (ir rfl ⟨_,rfl,g1.le,hL,hg⟩)
def YL:List Value:=[ii 0,ii 0,.bool false,ii 0,ii 0,.slice none 0 0,.slice none 0 0,.slice none 0 0,.slice none 0 0,.slice none 0 0]
def yR(F:Nat->Prop)(W:World)(L:List HA)(i j:Nat)(t:TypeId)(l:List Value)(T:Value->List HA->Prop)(σ:List (Nat×Value))(w:World):Prop :=
 ∃Q1 Q2,(match σ.lookup i with|none=>Q1=[]|some v=>T v Q1)/\(match σ.lookup j with|none=>Q2=[]|some u=>∃b,u=.slice (some ⟨b,0,none⟩) 1 1/\Q2=[.blk b t l])/\St F W w (Q2++(Q1++L))
section
variable{L:List HA}{T:Value->List HA->Prop}
theorem yR.start(S:St F W w L):yR F W L i j t l T [] w:=⟨[],[],rfl,rfl,S⟩
theorem yR.st(h:yR F W L i j t l T σ w):St F W w L:=by
 obtain⟨v,y,_,_,S⟩:=h;have:=S.drop (y++v).length;rwa[<-cL,jE]at this
theorem yR.val{v:Value}(h:yR F W L i j t l T σ w)(hi:σ.lookup i=some v):∃Q,T v Q:=by
 obtain⟨y,z,h1,_,_⟩:=h;rw[hi]at h1;exact⟨y,h1⟩
theorem yR.adr(h:yR F W L i j t l T σ w)(y:σ.lookup j=some u):∃b,u=.slice (some ⟨b,0,none⟩) 1 1:=by
 obtain⟨z,D,_,h2,_⟩:=h;rw[y]at h2;obtain⟨b,v,_⟩:=h2;exact⟨b,v⟩
theorem yR.fin{v:Value}(h:yR F W L i j t l T σ w)(hi:σ.lookup i=some v)(z:σ.lookup j=some (.slice (some ⟨b,0,none⟩) 1 1)):∃Q,T v Q/\St F W w (.blk b t l::(Q++L)):=by
 obtain⟨y,D,h1,h2,S⟩:=h;rw[hi]at h1;rw[z]at h2;obtain⟨b',e,rfl⟩:=h2;cases e
 exact⟨y,h1,S⟩
section
variable{ps:String}
theorem Ev(h:yR F W L i j t l T σ w)(hi:σ.lookup i=none)(y:(j==i)=false)(J:lj (args.map (ev e))=some vs)(I:St F W w L->Fn P f vs w (λv w'=>∃Q,T v Q/\St No w w' Q)):gI P e ⟨d,.call ⟨.value (.func f),args.toArray,tys⟩,ty,ps,af,none⟩ w (λv w'=>yR F W L i j t l T ((i,v)::σ) w'):=by
 have z:=h.st;obtain⟨O,D,h1,h2,S⟩:=h;rw[hi]at h1;subst h1;refine l4 J ((I z).mono λv w'⟨Q,hT,S2⟩=>⟨Q,D,?_,?_,St.mid (S.app S2)⟩)
 ·simp only[cZ,fE];exact hT
 ·simp only[cZ,y]at h2 ⊢;exact h2
theorem GN{k:TypeId}{y:List (Nat×Operand)}{z:Value}{l0:List Value}(h:yR F W L i j t l T σ w)(Z:σ.lookup j=none)(D:(i==j)=false)(hu:P.underlying ts=some (.slice t))(hs:∀w,(sizeOf t).run P w=.ok k w)(hz:∀w,(zeroValue t).run P w=.ok z w)(hk:z.cells.toList.length=k)(I:Nat.beq (1*k) 0=false)(hn:Nat.ble (1*k) 16777216=true)(h1:yS (λi=>some (i*k,k)) ((List.replicate 1 z.cells.toList).flatten) (yQ e y)=some l0)(h2:lj l0=some l):gI P e ⟨d,.buildSlice ts 1 y.toArray,ty,ps,af,none⟩ w (λv w'=>yR F W L i j t l T ((j,v)::σ) w'):=by
 obtain⟨O,Q2,V,J,S⟩:=h;rw[Z]at J;subst J;refine gu rfl (yY (mu hu hs hz hk I hn h1 h2) S (λw' g U=>⟨O,[.blk w.heap.size t l],?_,?_,U⟩))
 ·simp only[cZ,D];exact V
 ·simp only[cZ,fE];exact⟨_,rfl,rfl⟩
end
end
theorem Ow(hT:∀w L,St F W w L->jX w)(ai:s.ok)(U:Nat)(ar:U<=2)(ho:o.k=23/\o.n=U) :
  pQ F W (s.L++M) s.sb o false (70) (λq:{ q:Sv//q.n<=17+3849*(cU s.gh*cU s.gw) }=>{ code:=0,bytes:=q.1:gZ }) (λ_=>s.L++M):=by
 intro kb tl w S;have aq:=λw G=>DI (W:=w) (gw:=s.gw) (gh:=s.gh) (cc:=s.cc) (p:=s.p) (A:=s.A) (cap:=s.cap) (bs:=s.bs) (Rs:=s.Rs) ai.hB G;have av:=λw(ks:List Nat)K cK hH h1 h2 hK G=>It (W:=w) (ks:=ks) (K:=K) (cK:=cK) (gw:=s.gw) (gh:=s.gh) (cc:=s.cc) (p:=s.p) (A:=s.A) (cap:=s.cap) (bs:=s.bs) (Rs:=s.Rs) hH ai.hB h1 h2 hK G;obtain⟨-,hn⟩:=ho;have aj:=λw G=>(xN (W:=w) (gw:=s.gw) (gh:=s.gh) (cc:=s.cc) (p:=s.p) (A:=s.A) (cap:=s.cap) (bs:=s.bs) (Rs:=s.Rs) G).mono (R':=λv w'=>∃Q,(∃A c,v=.slice A (cU s.gh*cU s.gw) c/\Q=[.row 24 4 A (cU s.gh*cU s.gw) c (FZ s.gw s.gh)])/\St No w w' Q) λv w'⟨A,c,hv,h2,h4,g⟩=>⟨_,⟨A,c,hv,rfl⟩,(St.start w).pushRow h2 h4 g⟩;have ak:=(S.grid (i:=1) rfl).sw;have ae:=(S.grid (i:=1) rfl).sh;have ah:1<=cU s.gh*cU s.gw/\cU s.gh*cU s.gw<=4096:=⟨cE (kQ ae.1) (kQ ak.1),cE (jS ae.2) (jS ak.2)⟩;have ag:∀k∈List.replicate (cU s.gh*cU s.gw) U,k<=2:=λk hk=>by rw[mQ hk];exact ar
 generalize hN:cU s.gh*cU s.gw=N at *;refine zI func70 ?_;refine zN ?_;intro Z aJ aG S;refine zN ?_;intro y aK aH S;refine zK (aq _ (S.grid (i:=3) rfl)) ?_;rintro _ aL ⟨ks,aI,aA,aE,aF,rfl,az,aB,al⟩;have S:=S.gr al;(iterate 7 refine z ?_);refine zt ?_;refine zc ?_;refine gP (M:=λe w=>∃J:Nat,SL e [(0,pt s.sb),(4,pt y),(5,.slice (some ⟨J,0,none⟩) N N)]/\eL w J 3 (List.replicate N (ii o.n))/\St F W w (.blk y 46 YL::.blk Z 31 o.cs::(s.L++M++(.blk kb 3 [ii o.k]::tl)))) ?_ ?_
 ·skip;refine z ?_;refine z ?_;first|refine cq (ff (b:=true) rfl (cF om)) ?_|refine cq (ff (b:=false) rfl (cC om)) ?_|refine cq (cH rfl) ?_
  refine z ?_;refine dr rfl ?_;refine z ?_;refine dr rfl ?_;refine z ?_;refine dr rfl ?_;refine zg ?_;refine nI (C:=(yR F W _ 7 2 3 [ii o.n] (λv Q=>∃A c,v=.slice A N c/\Q=[.row 24 4 A N c (FZ s.gw s.gh)]))) [2,7] (.one 0 (.one 1 (.one 3 (.one 4 (.one 5 (.one 6 (.two 2 (.one 7 (.one 8 .nil)) 7 (.one 8 (.one 2 .nil))))))))) [9,10] (by kernel_rfl) (by kernel_rfl) (yR.start (S.gr (Gr.drew _))) ?_;simp only[qK,iS,dK,dR];refine jK ?_;refine oX rfl (du sd rfl cR rfl rfl) ?_;refine mo ?_;refine jK ?_;refine xh rfl (λτ wq I=>cV cw rfl rfl ((yR.st I).blk (i:=1) rfl) rfl) ?_;refine zU (λτ wq I=>((yR.st I).blk (i:=2) rfl)) ?_;refine zW ?_;refine nf ?_ ?_
  ·refine dC rfl rfl (λwq I=>GN I rfl rfl YR fa tY rfl rfl rfl rfl rfl) ?_;rintro v2 w2 h2;obtain⟨b2,rfl⟩:=h2.adr rfl;refine zW ?_;refine dC rfl rfl (λwq I=>Ev I rfl rfl rfl (λS=>aj wq (S.grid (i:=3) rfl))) ?_;rintro v7 w7 h7;obtain⟨_,A7,c7,rfl,_⟩:=h7.val rfl;refine zW ?_;refine jm ?_;rintro wz hz;obtain⟨_,⟨_,_,e1,rfl⟩,S⟩:=hz.fin rfl rfl;cases e1
   refine zK (GM b2 (ii o.n) N ah rfl _ (S.blk (i:=0) rfl)) ?_;rintro _ aM ⟨J,rfl,ap,D,am⟩;have S:=S.gr am;refine zg ?_;exact⟨J,sl,D,S.drop 2⟩
  ·refine dC rfl rfl (λwq I=>Ev I rfl rfl rfl (λS=>aj wq (S.grid (i:=3) rfl))) ?_;rintro v7 w7 h7;obtain⟨_,A7,c7,rfl,_⟩:=h7.val rfl;refine zW ?_;refine dC rfl rfl (λwq I=>GN I rfl rfl YR fa tY rfl rfl rfl rfl rfl) ?_;rintro v2 w2 h2;obtain⟨b2,rfl⟩:=h2.adr rfl;refine zW ?_;refine jm ?_;rintro wz hz;obtain⟨_,⟨_,_,e1,rfl⟩,S⟩:=hz.fin rfl rfl;cases e1
   refine zK (GM b2 (ii o.n) N ah rfl _ (S.blk (i:=0) rfl)) ?_;rintro _ aN ⟨J,rfl,ap,D,an⟩;have S:=S.gr an;refine zg ?_;exact⟨J,sl,D,S.drop 2⟩
 ·rintro e w9 ⟨J,aw,D,S⟩;rw[aw.fold]
  have ao:Rd w9 (some ⟨J,0,none⟩) (cY ((List.replicate N U).map λx:Nat=>(x:Int))):=by
   have h:cY ((List.replicate N U).map λx:Nat=>(x:Int))=List.replicate N (ii o.n):=by simp[cY,hn]
   rw[h];exact(gH.of_blk (k:=1) (n:=N) D (by simp) (by unfold maxLen;omega)).rd
  have O:=λw h1 h2 h3 h4=>av w (List.replicate N U) (some ⟨J,0,none⟩) N h1 h2 ag h3 h4;rw[lX]at O;refine zK (O w9 (hT _ _ S) rfl ao (S.grid (i:=3) rfl)) ?_;rintro _ aC ⟨lb,au,V,aa,rfl,ac,ad,ab⟩;have S:=S.pushRow ac ad ab;refine zC (vE (r:={ code:=0,bytes:=⟨V,lb.length,aa⟩ })) ?_;refine zS ?_;intro aD S;exact rA S ⟨⟨⟨V,lb.length,aa⟩,au⟩,rfl,S.drop 3⟩
section
variable{cap:Nat}
theorem OJ(ax ay bx y:Int)(hG:eJ W p gw gh cc A cap bs Rs)(D:mD gw gh (ax,ay)=false\/mD gw gh (bx,y)=false):Fn prog 59 [pt p,.agg #[ii ax,ii ay],.agg #[ii bx,ii y]] W (dp (.tuple #[ii 0,.slice none 0 0,ii 4]) W):=by
 have z:[(ax,ay),(bx,y)].all (mD gw gh)=false:=by rcases D with h|h<;>simp[h]
 have S:=St.start W;refine zI func59 ?_;refine zN ?_;intro O ae Z S;refine zN ?_;intro U ag aa S;refine zg ?_;refine yb S ?_;intro J ah ab S I;refine zC (((TY (W:=_) [(ax,ay),(bx,y)] (by simp) (hG.gr S.out) (S.rd (i:=0) rfl)).mono (λv w' h=>h.2 z))) ?_;intro ai ac S;refine zN ?_;intro V aj ad S;refine zS ?_;intro L S;exact tE rfl rfl rfl ⟨rfl,S.out⟩
theorem U9(a b:Nat)(ha:a<gw*gh)(hb:b<gw*gh)(hB:vB (dw gw gh cc))(hG:eJ W p gw gh cc A cap bs Rs) :
  Fn prog 59 [pt p,.agg #[ii (a%gw:Nat),ii (a/gw:Nat)],.agg #[ii (b%gw:Nat),ii (b/gw:Nat)]] W
  (λv w'=>∃d,lZ gw (dw gw gh cc) b d/\jc (λs=>.tuple #[ii (d a),s,ii 0]) 26 2 (ri gw (dw gw gh cc) d b a).length (eT ((ri gw (dw gw gh cc) d b a).map (cz gw))) W v w'):=by
 have hw:=hG.sw;have hh:=hG.sh;have hn:gw*gh<=1024*1024:=cE hw.2 hh.2;have hV:=qf gw gh cc;have aF:=TH (gh:=gh) (show 0<gw by omega) ha;have aG:=TH (gh:=gh) (show 0<gw by omega) hb;have aQ:[cz gw a,cz gw b].all (mD gw gh)=true:=by simp[aF,aG]
 have av:∀(D:Option Addr)(I a:Nat)(w:World),a<gw*gh->Rd w D (cY (dw gw gh cc))->Fn prog 123 [.agg #[ii gw,.slice D (gw*gh) I],ii a] w (λv w'=>∃d,lZ gw (dw gw gh cc) a d/\jc id 2 1 (gw*gh) (fj (gw*gh) d) w v w'):=λD I a w ha h=>by
  have:=SA (gw:=gw) (gh:=gh) (c:=I) (V:=dw gw gh cc) a hw hh hV ha hB h;rw[hV]at this;exact this
 have an:∀(D:Option Addr)(I x y:Nat)(w:World),x<gw*gh->y<gw*gh->Rd w D (cY (dw gw gh cc))->Fn prog 125 [.agg #[ii gw,.slice D (gw*gh) I],ii x,ii y] w (dp (ii (st (dw gw gh cc) x y)) w):=λD I x y w hx hy h=>by
  have:=KC (gw:=gw) (c:=I) (V:=dw gw gh cc) x y om om hB h;rw[hV]at this;exact this
 refine yI func59 ?_;refine yA ?_;intro _ _ _ S;refine yb S ?_;intro aY bC bt S aX;refine zK (((TY (W:=_) [cz gw a,cz gw b] (by simp) (hG.gr S.out) (S.rd (i:=0) rfl)).mono (λv w' h=>h.1 aQ))) ?_;rintro _ bD ⟨D,I,ab,ad,rfl,hv,aP,aT,aO,hd,aN⟩;have S:=S.push2 aN (h1:=.row 2 1 D _ I _) (h2:=.row 3 1 ab _ ad _) hv aT aP aO hd;refine zN ?_;intro ak bE bu S;refine zS ?_;intro bj S;have aJ:lR ([cz gw a,cz gw b].map (CD gw))=[ii (a:Nat),ii (b:Nat)]:=by simp[lR,CD,VS]
 rw[aJ]at S;have ap:dO ab:=(S.row (i:=2) rfl).someA (by simp);refine zD [0,1,2,3] [4,5] ?_;refine eO (sj YR fa rfl rfl ap om (by simp)) ?_;refine fo (λwq hq=>eI dB rfl rfl ((S.gr hq).rd (i:=2) rfl) rfl) ?_;refine zE ?_;intro bk aZ S;refine zK (av _ _ b _ hb (S.row (i:=1) rfl).rd) ?_;rintro _ w4 ⟨d,L,O,Z,rfl,hR,hF,g4⟩;have S:=S.pushRow hR hF g4;refine zg ?_;refine yb S ?_;intro J bl ba S ar;refine zg ?_;refine cq (sj YR fa rfl rfl ap om (by simp)) ?_;refine dH (eI dB rfl rfl (S.rd (i:=4) rfl) rfl) ?_;refine zg ?_;have ag:[]++ri gw (dw gw gh cc) d b a=ri gw (dw gw gh cc) d b a:=rfl;have aj:=AD (d:=d) ha;generalize dw gw gh cc=V at *;have S:=S.sub (L':=[.row 26 2 J 1 1 (eT ((([]:List Nat)++[a]).map (cz gw))),.row 2 1 O (gw*gh) Z (fj (gw*gh) d),.blk ak 231 [ii gw,.slice D (gw*gh) I],.row 2 1 D (gw*gh) I (cY V),.row 3 1 ab 2 ad [ii (a:Nat),ii (b:Nat)]]) (.cons_cons _ (.cons_cons _ (.cons_cons _ (.cons_cons _ (.cons_cons _ (.cons _ (.cons _ (.cons _ .slnil))))))))
 refine dl (λm e w=>∃(pre:List Nat)(i:Nat)(J:Option Addr)(ac:Nat),(d i).toNat=m/\i<gw*gh/\pre++ri gw V d b i=ri gw V d b a/\zk (gw*gh) d i+pre.length+1<=gw*gh /\
  SL e [(9,pt ak),(10,.slice ab 2 ad),(12,.slice O (gw*gh) Z),(13,.slice J (pre.length+1) ac),(14,ii i)] /\
  St No W w [.row 26 2 J (pre.length+1) ac (eT ((pre++[i]).map (cz gw))),.row 2 1 O (gw*gh) Z (fj (gw*gh) d),.blk ak 231 [ii gw,.slice D (gw*gh) I],.row 2 1 D (gw*gh) I (cY V),.row 3 1 ab 2 ad [ii (a:Nat),ii (b:Nat)]]) (d a).toNat
  ⟨[],a,J,1,rfl,ha,ag,aj,sl,S⟩ ?_
 clear S ag aj;rintro m e w ⟨pre,i,J,ac,rfl,hi,aa,aU,aB,S⟩;rw[aB.fold];have ao:dO O:=(S.row (i:=1) rfl).someA om;refine z ?_;refine z ?_;refine zx ?_;refine dH (eI dB rfl rfl (S.rd (i:=4) rfl) rfl) ?_;refine zB ?_ ?_
 ·intro az;obtain⟨p1,U,hL,aS,bA,ai,aV⟩:=Ds (show 0<gw by omega) hV L hi az;have aI:=Fz gw V.length i;rw[I7 (show 0<gw by omega) hV L hi az]at aa;have bh:=sA V i (qh gw V d i);have bz:=L.nn (qh gw V d i) om;have bB:=zm (n:=gw*gh) (d:=d) (i:=qh gw V d i) (j:=i) ai om;generalize qh gw V d i=nx at *;refine zK (FK (W:=w) (A:=D) (c:=I) i (gw*gh) ⟨hw.1,om⟩ hi om) ?_;rintro _ bm ⟨ae,ah,rfl,al,am,aE⟩;have S:=S.pushRow al am aE;refine zg ?_;rw[hV]at hL aI;rw[hL]at S aI ⊢;have aK:dO ae:=(S.row (i:=0) rfl).someA (by show 0<(p1++nx::U).length;rw[cP,fc];omega)
  refine dl (λm2 e w=>∃k:Nat,k+m2=p1.length/\SL e [(9,pt ak),(10,.slice ab 2 ad),(12,.slice O (gw*gh) Z),(13,.slice J (pre.length+1) ac),(14,ii i),(46,.slice ae (p1++nx::U).length ah),(47,ii (p1++nx::U).length),(48,ii k)] /\
   St No W w [.row 3 1 ae (p1++nx::U).length ah (lR (p1++nx::U)),.row 26 2 J (pre.length+1) ac (eT ((pre++[i]).map (cz gw))),.row 2 1 O (gw*gh) Z (fj (gw*gh) d),.blk ak 231 [ii gw,.slice D (gw*gh) I],.row 2 1 D (gw*gh) I (cY V),.row 3 1 ab 2 ad [ii (a:Nat),ii (b:Nat)]]) p1.length
   ⟨0,om,sl,S⟩ ?_
  clear S;rintro m2 e w ⟨k,hk,aB,S⟩;rw[aB.fold];have bg:(p1++nx::U).length=p1.length+1+U.length:=by simp;omega
  have aA:∀y,y∈p1++nx::U->y<gw*gh:=λy hy=>by rw[<-hL]at hy;exact((tC om hi).1 hy).1
  by_cases aH:k<p1.length
  ·obtain⟨y,hy⟩:∃y,p1[k]?=some y:=⟨_,ct aH⟩;have aq:(p1++nx::U)[k]?=some y:=by rw[gt aH];exact hy
   have au:=aA y (dD aq);have bw:=aS y (dD hy);have aW:=E2 hB i y;have bi:=sA V i y;have bv:=L.nn y om;have aw:=L.bound hB y om;have aR:=AD (d:=d) au;rw[hV]at aw;refine zt ?_;refine zx ?_;refine dH (eI dB rfl rfl (S.rd (i:=0) rfl) (BA aq)) ?_;refine zD [0,1,2,3,4,5,6,7,8,9,10,11,12,13] [] ?_;refine fo (λwq hq=>eI cw rfl rfl ((S.gr hq).rd (i:=2) rfl) (jg om)) ?_;refine zP (λwq hq=>an D I i y wq om au ((S.gr hq).rd (i:=4) rfl)) ?_;refine eO (fh rfl (by unfold u7 at*;omega)) ?_;iterate 2 refine eO (cH rfl) ?_
   refine eO (sj dk cR rfl rfl ao om om) ?_;refine fo (λwq hq=>eI cw rfl rfl ((S.gr hq).rd (i:=2) rfl) (jg om)) ?_;refine zE ?_;intro bn bb S;exact⟨m2-1,om,k+1,om,sl,S⟩
  ·obtain rfl:k=p1.length:=om;have aq:(p1++nx::U)[p1.length]?=some nx:=by rw[fU (cN _)];simp
   have aw:=L.bound hB nx om;have aR:=AD (d:=d) ai;have aW:=E2 hB i nx;rw[hV]at aw;refine zt ?_;refine zx ?_;refine dH (eI dB rfl rfl (S.rd (i:=0) rfl) (BA aq)) ?_;refine zD [0,1,2,3,4,5,6,7,8,9,10,11,12,13] [] ?_;refine fo (λwq hq=>eI cw rfl rfl ((S.gr hq).rd (i:=2) rfl) (jg om)) ?_;refine zP (λwq hq=>an D I i nx wq om ai ((S.gr hq).rd (i:=4) rfl)) ?_;refine eO (fh rfl (by unfold u7 at*;omega)) ?_;refine y ?_;refine y ?_;refine yx ?_;refine fo (λwq hq=>eI cw rfl rfl ((S.gr hq).rd (i:=2) rfl) (jg om)) ?_;refine zE ?_;intro bo bc S;refine zC (Xd (W:=_) (A:=D) (c:=I) nx (gw*gh) hw.1 om) ?_;intro bp be S;refine yb S ?_;intro aM bq bf S aL;refine ZP 2 0 S ?_;intro aC aD br S ar;refine zg ?_;have e1:eT ((pre++[i]).map (cz gw))++[ii (nx%gw:Nat),ii (nx/gw:Nat)]=eT ((pre++[i]++[nx]).map (cz gw)):=by simp[eT,cz]
   have S:=S.sub (.cons _ (.cons _ (.cons_cons _ (.cons_cons _ (.cons_cons _ (.cons_cons _ (.cons_cons _ .slnil)))))));rw[e1]at S;refine⟨_,om,pre++[i],nx,_,_,rfl,ai,by rw[cL];exact aa,by rw[cP,iV];omega,⟨rfl,rfl,rfl,se (by simp) rfl,rfl,trivial⟩,?_⟩;rw[cP,iV];exact S
 ·intro az;obtain rfl:i=b:=om;rw[I6 L]at aa;have hl:(ri gw V d i a).length=pre.length+1:=by rw[<-aa];simp
  refine zc ?_;refine pD ?_;repeat first|refine nC ?_|refine pE ?_
  show CW _ _ _ _ _ _;refine z ?_;refine z ?_;refine zx ?_;refine dH (eI dB rfl rfl (S.rd (i:=4) rfl) rfl) ?_;refine zx ?_;refine dH (eI cw rfl rfl (S.rd (i:=1) rfl) (jg om)) ?_;refine zg ?_;rw[aa]at S;refine tE rfl rfl rfl ⟨d,L,?_⟩;rw[hl];exact S.retNew (i:=0) (mk:=λs=>.tuple #[ii (d a),s,ii 0]) rfl
end
def Bj(v:Value)(i:Nat):Value:=match v with
 |.tuple a=>a.toList.getD i undef
 |_=>undef
def o9(F:Nat->Prop)(W:World)(L0:List HA)(b t:Nat)(cs:Nat->Value->List Value)(T:Value->List HA->Prop)(σ:List Value)(w:World):Prop:=match σ.getLast? with
 |none=>St F W w (.blk b t (cs 0 undef)::L0)
 |some v=>∃Q,T v Q/\St F W w (Q++(.blk b t (cs (σ.length-1) v)::L0))
section
variable{t:Nat}{cs:Nat->Value->List Value}{T:Value->List HA->Prop}{σ:List Value}
theorem o9.start(S:St F W w (.blk b t (cs 0 undef)::L0)):o9 F W L0 b t cs T [] w:=S
theorem o9.st(h:o9 F W L0 b t cs T σ w):St F W w L0:=by
 unfold o9 at h;split at h
 ·exact h.drop 1
 ·obtain⟨Q,_,S⟩:=h;exact S.tail.drop 1
section
variable{ps:String}
theorem wU(h:o9 F W L0 b t cs T [] w)(z:∀v,cs 0 v=cs 0 undef)(I:lj (args.map (ev e))=some vs)(D:St F W w L0->Fn P f vs w (λv w'=>∃Q,T v Q/\St No w w' Q)):gI P e ⟨d,.call ⟨.value (.func f),args.toArray,tys⟩,ty,ps,af,none⟩ w (λv w'=>o9 F W L0 b t cs T [v] w'):=by
 have S:St F W w (.blk b t (cs 0 undef)::L0):=h
 exact l4 I ((D (S.drop 1)).mono λv w'⟨y,hT,S2⟩=>⟨y,hT,by
  show St F W w' (y++(.blk b t (cs 0 v)::L0));rw[z];exact S.app S2⟩)
theorem rX{o O:Nat}{v x:Value}{p y:Operand}(h:o9 F W L0 b t cs T σ w)(L:σ.getLast?=some v)(J:σ.length=k+1)(hz:(sizeOf O).run P w=.ok 1 w)(Z:ev e p=.pointer (some ⟨b,o,none⟩))(hy:fz (ev e y)=some x)(hv:x.oneCell'=true)(D:x.cells=#[x])(hu:(cs k v)[o]?=some u)(hs:(cs k v).set o x=cs (k+1) v):gI P e ⟨d,.store O p y,ty,ps,af,none⟩ w (λu w'=>o9 F W L0 b t cs T (u::σ) w'):=by
 unfold o9 at h;rw[L,J,eA]at h;obtain⟨Q,V,S⟩:=h;have U:St F W w (.blk b t (cs k v)::(Q++L0)):=St.mid (B:=[_]) S
 have I:∀(u:Value)(w':World),St F W w' (HA.blk b t ((cs k v).set o x)::(Q++L0))->o9 F W L0 b t cs T (u::σ) w':=λu w' z=>by
  unfold o9;rw[List.getLast?_cons,L,fc,J,eA];refine⟨Q,V,?_⟩;rw[hs]at z;exact St.mid (A:=[_]) z
 exact gu rfl (iy (i:=0) U rfl hz Z hy hv D hu rfl (λw' z=>I _ w' z))
theorem o9.fin{v:Value}(h:o9 F W L0 b t cs T σ w)(z:σ.getLast?=some v)(y:σ.length=k+1):∃Q,T v Q/\St F W w (Q++(.blk b t (cs k v)::L0)):=by
 unfold o9 at h;rw[z,y,eA]at h;exact h
end
end
section
variable{v:Int}
theorem St.back{A B:List HA}{k:HA}(S:St F W w (k::(A++(B++tl)))):St F W w ((A++B)++(k::tl)):=by
 rw[<-cL]at S;exact S.perm_ ef.symm
theorem St.forth{A B:List HA}{k:HA}(S:St F W w ((A++B)++(k::tl))):St F W w (k::(A++(B++tl))):=by
 have:=S.perm_ ef;rwa[cL]at this
theorem St.regBack{a b c d k:HA}{A B:List HA}(S:St F W w (a::b::c::d::k::(A++(B++tl)))):St F W w (k::((a::A)++(B++tl))):=(S.sub (.cons_cons _ (.cons _ (.cons _ (.cons _ (cQ _)))))).swap
def uJ:List Value:=[ii 0,ii 0,.bool false,ii 0,ii 0,.slice none 0 0,.slice none 0 0,.slice none 0 0,.slice none 0 0,.slice none 0 0]
structure Va(gw gh:Nat)(V:List Int)(t:Int)where
 r:Nat->Nat
 A1:Option Addr
 c1:Nat
 A2:Option Addr
 c2:Nat
 n:Nat
 hr:I2 gw V t r
 hn:n=lQ V t r V.length
def Va.rep{gw gh:Nat}{V:List Int}{t:Int}(q:Va gw gh V t):gZ:={ code:=0,n:=q.n,values:=⟨q.A1,V.length,q.c1⟩,parts:=⟨q.A2,q.n,q.c2⟩ }
def Va.labs{gw gh:Nat}{V:List Int}{t:Int}(q:Va gw gh V t):HA:=.row 2 1 q.A1 V.length q.c1 (fB V.length (sN V t q.r))
def Va.row{gw gh:Nat}{V:List Int}{t:Int}(q:Va gw gh V t):HA:=.row 223 8 q.A2 q.n q.c2 (ko (j4 gw V t q.r V.length))
def Yq(gw gh:Nat)(V:List Int)(t:Int)(v:Value)(Q:List HA):Prop:=∃A1 c1 A2 c2 n,v=.tuple #[.slice A1 V.length c1,.slice A2 n c2,ii 0]/\∃r,I2 gw V t r/\n=lQ V t r V.length/\Q=[.row 223 8 A2 n c2 (ko (j4 gw V t r V.length)),.row 2 1 A1 V.length c1 (fB V.length (sN V t r))]
theorem Vb(t:Int)(hV:s.V.length<=1048576)(ho:o.k=14/\o.n=t) :
  pQ F W (s.L++M) s.sb o true (54) (λq:Va s.gw s.gh s.V t=>q.rep) (λq=>q.row::q.labs::(s.L++M)):=by
 intro kb tl w S;replace S:=St.forth S;obtain⟨ok,ab,ad,ac,ae,U,V,Z,aa,n,m,vs,bs,bd⟩:=o;dsimp only at ho;obtain⟨rfl,rfl⟩:=ho;replace S:St F W w (.blk kb 3 [ii 14]::(s.L++(M++tl))):=S;have ao:=(S.grid (i:=2) rfl).sw;have al:=(S.grid (i:=2) rfl).sh;have O:=λw G=>(aaN (W:=w) (gw:=s.gw) (gh:=s.gh) (cc:=s.cc) (p:=s.p) (A:=s.A) (cap:=s.cap) (bs:=s.bs) (Rs:=s.Rs) n G).mono (R':=λv w'=>∃Q,Yq s.gw s.gh s.V n v Q/\St No w w' Q) λv w'⟨r,hr,A1,c1,A2,c2,hv,S⟩=>⟨_,⟨A1,c1,A2,c2,_,hv,r,hr,rfl,rfl⟩,S⟩;refine zI func54 ?_;refine zN ?_;intro D av ah S;refine zN ?_;intro y aw ai S;refine zN ?_;intro J az aj S;refine zC (pj (S.blk (i:=6) rfl)) ?_;intro aA ak S;refine zH (C:=(o9 F W (.blk y 46 uJ::.blk D 31 (m5.cs ⟨14,ab,ad,ac,ae,U,V,Z,aa,n,m,vs,bs,bd⟩)::.blk kb 3 [ii 14]::(s.L++(M++tl))) J 46 (λk v=>match k with|0=>uJ|1=>uJ.set 6 (Bj v 0)|_=>(uJ.set 6 (Bj v 0)).set 7 (Bj v 1)) (Yq s.gw s.gh s.V n))) [6,12,14] [0,1,2,3,4,5,6,7,8,9,10,11,12,13,14] [15] (o9.start (S.gr (Gr.drew _))) ?_;refine zV (λτ wq z=>((o9.st z).blk (i:=3) rfl)) ?_;refine zV (λτ wq z=>((o9.st z).blk (i:=1) rfl)) ?_;refine de rfl rfl (λwq z=>wU z (λ_=>rfl) rfl (λS=>O wq (S.grid (i:=4) rfl))) ?_;rintro v6 w6 ⟨_,⟨A1,c1,A2,c2,I,rfl,r6,_,an,_⟩,_⟩;refine zR ?_;refine de rfl rfl (λwq z=>rX (k:=0) z rfl rfl (iO _) rfl rfl rfl rfl rfl rfl) ?_;rintro ap ar _;refine zR ?_;refine de rfl rfl (λwq z=>rX (k:=1) z rfl rfl (sizeOf43 _) rfl rfl rfl rfl rfl rfl) ?_;rintro aq au _;refine zY ?_;rintro wz hz;obtain⟨_,⟨_,_,_,_,_,e2,r,hr,L,rfl⟩,S⟩:=o9.fin (k:=2) hz rfl rfl;cases e2
 replace S:St F W wz (.row 223 8 A2 I c2 (ko (j4 s.gw s.V n r s.V.length))::.row 2 1 A1 s.V.length c1 (fB s.V.length (sN s.V n r))::.blk J 46 ((uJ.set 6 (.slice A1 s.V.length c1)).set 7 (.slice A2 I c2))::.blk y 46 uJ::.blk D 31 (m5.cs ⟨14,ab,ad,ac,ae,U,V,Z,aa,n,m,vs,bs,bd⟩)::.blk kb 3 [ii 14]::(s.L++(M++tl))):=S;refine zg ?_;have am:I<=s.V.length:=by rw[L];exact Cf _ _ _ _
 refine zS ?_;intro aB S;refine zC (vE (r:={ code:=0,n:=(I:Nat),values:=⟨A1,s.V.length,c1⟩,parts:=⟨A2,I,c2⟩ })) ?_;refine zS ?_;intro ag S;exact rA S ⟨⟨r,A1,c1,A2,c2,I,hr,L⟩,rfl,St.back (A:=_::_::s.L) (St.perm (S.sub (.cons_cons _ (.cons_cons _ (.cons _ (.cons _ (.cons _ (cQ _))))))) (ef (l₁:=[_,_])))⟩
end
end Go.Proofs.YtceahkcepefcaaaGreatDoor
