/- A part of the proof that hachuretop.WholeErrors returns true at every input; no condition. -/
import Derived.Test.YtceahkcepefcaaaGreatDoorKO
import Derived.Test.YtceahkcepefcaaaGreatDoorKM
import Derived.Test.YtceahkcepefcaaaGreatDoorKQ
set_option maxRecDepth 100000
set_option maxHeartbeats 16000000
set_option linter.unusedVariables false
set_option linter.unusedSimpArgs false
namespace Go.Proofs.YtceahkcepefcaaaGreatDoor
open Go.Proofs.Tryz Go.RowKit
variable{Q:(Nat->Value)->World->Prop}{want:Array (String × TypeId)}{af:Array Edge}{bd:Code}{fd:Field}{fn:Func}{f fdo:FuncId}{h h':HA}{Y a ax ay bx e0 stamp:Int}{es:List (Int × Int)}{σ:List (Nat × Value)}{L' L0 L1 M T tl:List HA}{hd:List Nat}{caps l l' l2 vs:List Value}{N b b' by_ c c1 cB cap2 cb cf cx cy fid g gh gw i j k k1 k2 kb lc m n n' p pb q rb sb sn tb x0 x1 xb y0 y1:Nat}{sp:Nat->Bool}{c' cc:Nat->Int}{bs bs2:Nat->Nat}{As:Nat->Option Addr}{Rs2:Nat->Option Nat}{F X:Nat->Prop}{e:Nat->Value}{op:Op}{o:m5}{hi lo x:Operand}{A A1 A2 B B1 B2 g0 gp l0 lA lp o0 ov p0 pp:Option Addr}{d:Option Tmp}{P:Program}{G:Prop}{r':RG}{r:Rc}{s s':lT}{α:Type}{t ty:TypeId}{u v1 v2 v3 zv:Value}{R:Value->World->Prop}{W w w' wq:World}{C:World->Prop}
theorem yy.gr{L:List HA}{σ:List Value}(h:yy F W L L1 σ w)(g:Gr w w'):yy F W L L1 σ w':=by
 cases σ with
 |nil=>exact St.gr h g
 |cons v σ=>exact St.gr h g
theorem yy.both{L:List HA}{σ:List Value}(n:Nat)(h:yy F W L L1 σ w)(y:L.drop n=T)(h1:L1.drop n=T):St F W w T:=by
 cases σ with
 |nil=>exact y▸St.drop (show St F W w L from h) n
 |cons v σ=>exact h1▸St.drop (show St F W w L1 from h) n
theorem BJ{ps:String}{L:List HA}{tb:TypeId}{y:Operand}{o:Nat}{v:Value}(S:St F W w L)(hi:gi L i=some (.blk b tb l))(hz:(sizeOf t).run P w=.ok 1 w)(V:ev e x=.pointer (some ⟨b,o,none⟩))(Z:fz (ev e y)=some v)(U:v.oneCell'=true)(z:v.cells=#[v])(I:l[o]?=some u)(O:j7 L i (.blk b tb (l.set o v))=some L')(J:∀w',St F W w' L'->R undef w'):gI P e ⟨d,.store t x y,ty,ps,af,none⟩ w R :=
 gu rfl (iy S hi hz V Z U z I O (λw' D=>J w' D))
theorem PG(O:s.ok)(hx:x0<=x1/\x1<s.gw)(hy:y0<=y1/\y1<s.gh)(J:∀w tl,St F W w (s.L++M++tl)->yv w s.stamp s.ov)(V:o.k=7/\o.x0=x0/\o.y0=y0/\o.x1=x1/\o.y1=y1) :
  pQ F W (s.L++M) s.sb o true (45) (λ_:Unit=>{ code:=0,n:=uv s.V s.gw x0 y0 x1 y1:gZ }) (λ_=>s.L++M):=by
 intro kb tl w S;have S:=S.perm_ ef;obtain⟨ok,ae,ah,ag,ai,ax,ay,bx,I,n,m,vs,bs,bd⟩:=o;dsimp only at V;obtain⟨rfl,rfl,rfl,rfl,rfl⟩:=V;have S:St F W w (.blk kb 3 [ii 7]::(s.L++M++tl)):=S;have U:=(S.grid (i:=2) rfl).sw;have L:=(S.grid (i:=2) rfl).sh;refine zI func45 ?_;refine zN ?_;intro z al aa S;refine zN ?_;intro y am ab S;refine zN ?_;intro D an ac S;refine zC (pj (S.blk (i:=6) rfl)) ?_;intro ao ad S;refine zH (C:=(yy F W (.blk D 46 [ii 0,ii 0,.bool false,ii 0,ii 0,.slice none 0 0,.slice none 0 0,.slice none 0 0,.slice none 0 0,.slice none 0 0]::.blk y 46 [ii 0,ii 0,.bool false,ii 0,ii 0,.slice none 0 0,.slice none 0 0,.slice none 0 0,.slice none 0 0,.slice none 0 0]::.blk z 31 (m5.cs ⟨7,x0,y0,x1,y1,ax,ay,bx,I,n,m,vs,bs,bd⟩)::.blk kb 3 [ii 7]::(s.L++M++tl)) (.blk D 46 [ii 0,ii (uv s.V s.gw x0 y0 x1 y1),.bool false,ii 0,ii 0,.slice none 0 0,.slice none 0 0,.slice none 0 0,.slice none 0 0,.slice none 0 0]::.blk y 46 [ii 0,ii 0,.bool false,ii 0,ii 0,.slice none 0 0,.slice none 0 0,.slice none 0 0,.slice none 0 0,.slice none 0 0]::.blk z 31 (m5.cs ⟨7,x0,y0,x1,y1,ax,ay,bx,I,n,m,vs,bs,bd⟩)::.blk kb 3 [ii 7]::(s.L++M++tl)))) [20] [0,1,2,3,4,5,6,7,8,9,10,11,12,13,14,15,16,17,18,19,20] [21] (yy.start (S.gr (Gr.drew _))) ?_;refine zV (λτ wq v=>(v.blk (i:=4) rfl rfl)) ?_;refine zV (λτ wq v=>(v.blk (i:=4) rfl rfl)) ?_;refine zV (λτ wq v=>(v.blk (i:=4) rfl rfl)) ?_;refine zV (λτ wq v=>(v.blk (i:=2) rfl rfl)) ?_;refine jH rfl rfl (λτ wq v=>(We (W:=wq) x0 y0 x1 y1 O.hB U L hx hy (J wq tl (v.both 4 rfl rfl)) (v.blk (i:=6) rfl rfl) ⟨s.A1,s.c1,v.blk (i:=7) rfl rfl,(show gH wq _ _ _ _ _ _ from v.ok (i:=8) rfl rfl).rd⟩).mono (λ_ _⟨hv,hg⟩=>⟨hv,v.gr hg⟩)) ?_;refine zR ?_;refine de rfl rfl (λwq v=>BJ (i:=0) v rfl (cR _) rfl rfl rfl rfl rfl rfl (λw' S'=>S')) ?_;rintro aj ak _;refine zY ?_;rintro wz hz;have S:St F W wz _:=hz;refine zC (vE (r:={ code:=0,n:=uv s.V s.gw x0 y0 x1 y1 })) ?_;refine zS ?_;intro Z S;exact rA S ⟨(),rfl,(S.drop 3).perm_ ef.symm⟩
def Wi(F:Nat->Prop)(W:World)(L:List HA)(T:Value->List HA->Prop)(L':Value->List HA)(σ:List Value)(w:World):Prop:=match σ with
 |[]=>St F W w L
 |[v]=>∃Q,T v Q/\St F W w (Q++L)
 |_::v::_=>∃Q,T v Q/\St F W w (Q++L' v)
theorem St.tail{Q L:List HA}(S:St F W w (Q++L)):St F W w L:=by
 have:=S.drop Q.length;rwa[jE]at this
theorem Wi.ok{L:List HA}{T:Value->List HA->Prop}{L':Value->List HA}{σ:List Value}(h:Wi F W L T L' σ w){R:Prop}(y:St F W w L->R)(h1:∀v,St F W w (L' v)->R):R:=by
 match σ,h with
 |[],h=>exact y h
 |[v],⟨Q,_,S⟩=>exact y S.tail
 |_::v::_,⟨Q,_,S⟩=>exact h1 v S.tail
def Ym(sn:Nat)(stamp:Int)(gw gh:Nat)(V:List Int)(Q:List HA):Prop:=∃tb q Ao co As cs,Q=.blk sn 253 [ii stamp,pt tb,pt q]::BB tb gw gh V Ao co As cs
def W7:Value->Option Addr
 |.tuple a=>match a.toList with
  |.pointer p::_=>p
  |_=>none
 |_=>none
theorem NI(J:s.ok):pQ F W (s.L++M) s.sb o false (68) (λ_:{ q:Nat×List HA//Ym q.1 s.stamp s.gw s.gh s.V q.2 }=>gZ.fine) (λq=>{ s with ov:=some ⟨q.1.1,0,none⟩ }.L++(q.1.2++M)):=by
 intro kb tl w S;refine zI func68 ?_;refine zN ?_;intro y ac V S;refine zN ?_;intro z ad Z S;refine zH (C:=(Wi F W (.blk z 46 [ii 0,ii 0,.bool false,ii 0,ii 0,.slice none 0 0,.slice none 0 0,.slice none 0 0,.slice none 0 0,.slice none 0 0]::.blk y 31 o.cs::(s.L++M++(.blk kb 3 [ii o.k]::tl))) (λv Q=>∃sn,v=.tuple #[pt sn,ii 0]/\Ym sn s.stamp s.gw s.gh s.V Q) (λv=>.blk z 46 [ii 0,ii 0,.bool false,ii 0,ii 0,.slice none 0 0,.slice none 0 0,.slice none 0 0,.slice none 0 0,.slice none 0 0]::.blk y 31 o.cs::({ s with ov:=W7 v }.L++M++(.blk kb 3 [ii o.k]::tl))))) [9,15] [0,1,2,3,4,5,6,7,8,9,10,11,12,13,14,15] [] (S.gr (Gr.drew _)) ?_;refine qo rfl (λτ wq D=>D.ok (λS=>cV Y5 rfl rfl (S.blk (i:=2) rfl) rfl) (λv S=>cV Y5 rfl rfl (S.blk (i:=2) rfl) rfl)) ?_;refine zR ?_;refine qo rfl (λτ wq D=>D.ok (λS=>cV cw rfl rfl (S.blk (i:=2) rfl) rfl) (λv S=>cV cw rfl rfl (S.blk (i:=2) rfl) rfl)) ?_;refine de rfl rfl (λwq D=>l4 rfl ((Wd J.hB (St.grid (show St F W wq _ from D) (i:=3) rfl)).mono λv w'⟨sn,tb,q,Ao,co,As,cs,hv,S2⟩=>⟨_,⟨sn,hv,tb,q,Ao,co,As,cs,rfl⟩,St.app D S2⟩)) ?_;rintro v9 w9 ⟨_,⟨I,rfl,_⟩,_⟩;refine zR ?_;refine de rfl rfl (λwq D=>(show ∃Q,_/\St F W wq (Q++_)from D).elim λQ h=>BJ (i:=2) (St.mid (B:=[_,_,_]) h.2) rfl (sizeOf68 _) rfl rfl rfl rfl rfl rfl (λw' O=>⟨Q,h.1,St.mid (A:=[_,_,_]) O⟩)) ?_;rintro aa ab _;refine zY ?_;rintro wz ⟨Q,⟨sn,U,L⟩,S⟩;refine zg ?_;cases U
 have S:=St.mid (A:=Q) (B:=[_,_]) S;refine zS ?_;intro ae S;refine rA S ⟨⟨(I,Q),L⟩,rfl,?_⟩;rw[cL,cL];refine St.mid (A:=Q) (B:=lT.L { s with ov:=some ⟨I,0,none⟩ }) ?_;rw[<-cL (lT.L _)];exact S.drop 2
section
variable{V:List Int}{z:Value}{st:Int}
theorem Wj(O:vB V)(hw:1<=gw/\gw<=1024)(Z:1<=gh/\gh<=1024)(hx:x0<=x1/\x1<gw)(hy:y0<=y1/\y1<gh)(y:o.x0=x0/\o.y0=y0/\o.x1=x1/\o.y1=y1)(U:eL W sn 253 [ii stamp,pt tb,z])(L:rj W tb gw gh V)(hk:eL W kb 3 [ii 20]) :
  Fn prog 74 [pt sn,o.v,pt kb] W (dp (.tuple #[ii (uv V gw x0 y0 x1 y1),ii 0]) W):=by
 obtain⟨ok,aa,ac,ab,ad,ax,ay,bx,D,n,m,vs,bs,bd⟩:=o;dsimp only at y;obtain⟨rfl,rfl,rfl,rfl⟩:=y;have S:=St.start W;refine zI func74 ?_;refine zN ?_;intro v ae I S;refine zL (hk.gr S.out) ?_;refine zC (T0 x0 y0 x1 y1 O hw Z hx hy (U.gr S.out) (L.gr S.out)) ?_;intro ag J S;exact zZ
theorem La(v:eL W sb 71 [.pointer g0,.pointer l0,pt sn,ii st,.pointer p0]):Fn prog (414) [iT true (74) kb,pt sb] W (dp (.bool true) W):=by
 unfold iT;have S:=St.start W;refine zI func414 ?_;iterate 4 refine z ?_
 refine dH (cV YU rfl rfl (v.gr S.out) rfl) ?_;refine cq (uS YU rfl rfl) ?_;exact zZ
theorem T9(Z:vB V)(hw:1<=gw/\gw<=1024)(hh:1<=gh/\gh<=1024)(hx:x0<=x1/\x1<gw)(hy:y0<=y1/\y1<gh)(ho:o.x0=x0/\o.y0=y0/\o.x1=x1/\o.y1=y1)(hS:eL W sn 253 [ii stamp,pt tb,z])(U:rj W tb gw gh V)(hk:eL W kb 3 [ii 20])(y:eL W sb 71 [.pointer g0,.pointer l0,pt sn,ii st,.pointer p0]) :
  Fn prog (413) [iT true (74) kb,pt sb,o.v] W (dp ({ code:=0,n:=uv V gw x0 y0 x1 y1 }:gZ).v W):=by
 have hf:=λw(g:Gr W w)=>Wj Z hw hh hx hy ho (hS.gr g) (U.gr g) (hk.gr g);unfold iT;have S:=St.start W;refine zI func413 ?_;refine zN ?_;intro D aa J S;refine zN ?_;intro I ab L S;refine zD [0,1,2,3,4,5,6,7,8,9,10,11] [] ?_;refine zM (λwq v=>(y.gr (S.gr v).out)) ?_;refine zQ ?_;refine Hw rfl rfl (λwq v=>(hf wq (S.gr v).out).mono (λ_ _⟨hv,hg⟩=>⟨hv,v.trans hg⟩)) ?_;refine zE ?_;intro ac O S;refine zC (vE (r:={ code:=0,n:=uv V gw x0 y0 x1 y1 })) ?_;refine zS ?_;intro ad S;exact rA S ⟨rfl,S.out⟩
theorem Rl(O:o.k=20)(hB:vB V)(hw:1<=gw/\gw<=1024)(hh:1<=gh/\gh<=1024)(hx:x0<=x1/\x1<gw)(hy:y0<=y1/\y1<gh)(ho:o.x0=x0/\o.y0=y0/\o.x1=x1/\o.y1=y1)(hS:eL W sn 253 [ii stamp,pt tb,z])(hA:rj W tb gw gh V)(v:eL W sb 71 [pt g,.pointer l0,pt sn,ii st,.pointer p0]) :
  Fn prog 9 [pt sb,o.v] W (dp ({ code:=0,n:=uv V gw x0 y0 x1 y1 }:gZ).v W):=by
 have hd:=λkb w(g:Gr W w)hkb=>T9 (kb:=kb) hB hw hh hx hy ho (hS.gr g) (hA.gr g) hkb (v.gr g);have I:=λw=>K8 w;obtain⟨ok,ac,ae,ad,ag,ax,ay,bx,Z,n,m,vs,bs,bd⟩:=o;dsimp only at O;subst O;unfold iT at *;have S:=St.start W;refine zI func9 ?_;refine zN ?_;intro J ah aa S;refine zN ?_;intro L ai ab S;refine zK (I _) ?_;rintro _ aj ⟨kb,rfl,U⟩;have S:=S.app U;refine zg ?_;refine cq (vO Zb rfl) ?_;refine zg ?_;refine cq (kF (b:=false) Zi rfl (by kernel_rfl) Zn) ?_;refine zg ?_;refine cq (kF (b:=true) Zz rfl (by kernel_rfl) ZC) ?_;refine zg ?_;refine dr rfl ?_;refine o8 rfl (rU (by kernel_rfl) oT rfl) rfl (La (kb:=kb) (v.gr S.out)) ?_;rintro _ ak ⟨rfl,y⟩;have S:=S.gr y;refine zg ?_;refine o8 rfl (rU (by kernel_rfl) oT rfl) rfl (hd kb _ S.out (S.blk (i:=0) rfl)) ?_;rintro _ al ⟨rfl,D⟩;have S:=S.gr D;refine zS ?_;intro am S;exact rA S ⟨rfl,S.out⟩
end
section
variable{st0:Int}
theorem Gk:Fn prog 19 [] W (λv w'=>∃sb pp,v=pt sb/\St No W w' [.blk sb 71 [.pointer none,.pointer none,.pointer none,ii 0,pt pp],.blk pp 110 [.slice none 0 0,ii 0]]):=by
 have S:=St.start W;refine zI func19 ?_;refine zK (yt) ?_;rintro _ I ⟨pp,rfl,z⟩;have S:=S.app z;refine zN ?_;intro y J D S;refine zX ?_;exact⟨_,_,rfl,S⟩
theorem Id(Z:1<=gw/\gw<=1024)(V:1<=gh/\gh<=1024)(L:o.n=gw)(J:o.m=gh):Fn prog 62 [o.v] W (qw (λv=>.tuple #[v,ii 0]) gw gh (λ_=>0) W):=by
 obtain⟨ok,aa,ac,ab,ad,ax,ay,bx,O,n,m,vs,bs,bd⟩:=o;dsimp only at L J;subst L J;have S:=St.start W;refine zI func62 ?_;refine zN ?_;intro I ae U S;refine zK (IZ gw gh 0 Z V (by decide) _) ?_;rintro _ ag ⟨q,A2,cap2,bs2,Rs2,rfl,z,D,y⟩;have S:=S.pushGrid z D y;refine zX ?_;exact(S.retGrid (i:=0) rfl)
theorem NJ(hw:1<=gw/\gw<=1024)(hh:1<=gh/\gh<=1024)(hn:o.n=gw)(hm:o.m=gh)(S:St F W w (.blk sb 71 [.pointer g0,.pointer l0,.pointer o0,ii st0,.pointer p0]::T)) :
  Fn prog (409) [iT false (62) kb,pt sb,o.v] w (λv w'=>∃s':lT,v=gZ.fine.v/\(s'.ok/\s'.sb=sb/\s'.gw=gw/\s'.gh=gh/\s'.ov=none/\s'.V=dw gw gh (λ_=>0)/\s'.l=[]/\s'.done=0/\s'.stamp=0)/\St F W w' (s'.L++T)):=by
 obtain⟨ok,U,Z,V,aa,ax,ay,bx,I,n,m,vs,bs,bd⟩:=o;have y:vB (dw gw gh λ_=>0):=FL λ_ _=>by decide
 unfold iT;refine zI func409 ?_;refine zN ?_;intro ab ag ad S;refine zN ?_;intro ac ah ae S;refine zg ?_;refine ju rfl rfl (Id (gw:=gw) (gh:=gh) (o:=⟨ok,U,Z,V,aa,ax,ay,bx,I,n,m,vs,bs,bd⟩) hw hh hn hm) ?_;rintro _ ai ⟨q,A2,cap2,bs2,Rs2,rfl,L,O,J⟩;have S:=S.pushGrid L O J;refine zK (DF y (S.grid (i:=0) rfl)) ?_;rintro _ aj ⟨lb,tb,A1,c1,pb,lA,lc,As,cs,rfl,D⟩;have S:=(S.app D);refine zK (yt) ?_;rintro _ ak ⟨pp,rfl,D⟩;have S:=S.app D;refine cq (kL (pl:=[(0,1),(1,1),(2,1),(3,1),(4,1)]) YY aaa (λw=>by kernel_rfl) rfl rfl) ?_;refine z ?_;refine Z1 10 S ?_;intro al S;refine z ?_;refine cq (kL (pl:=[(0,1),(1,1),(2,1),(3,2),(5,1),(6,1),(7,1),(8,1),(9,1)]) eE Zx (λw=>by kernel_rfl) rfl rfl) ?_;refine Z1 8 S ?_;intro am S;refine zq ?_;have S1:=((S.pushNil 248 6).pts0).pick 13 [10,11,12,9,3,4,5,6,7,8,2,1,0] rfl rfl rfl;exact rA S ⟨⟨sb,q,cap2,pp,lb,tb,pb,gw,gh,0,A2,A1,lA,none,none,c1,lc,0,bs2,Rs2,λ_=>0,As,cs,[],0⟩,rfl,⟨⟨y,cN _,λx hx=>by cases hx⟩,rfl,rfl,rfl,rfl,rfl,rfl,rfl,rfl⟩,S1.drop 2⟩
end
section
variable{V:List Int}
theorem Eq(z:o.k=1)(J:1<=gw/\gw<=1024)(y:1<=gh/\gh<=1024)(I:o.n=gw)(D:o.m=gh)(S:St F W w (.blk sb 71 [.pointer none,.pointer none,.pointer none,ii 0,.pointer p0]::T)) :
  Fn prog 9 [pt sb,o.v] w (λv w'=>∃s':lT,v=gZ.fine.v/\(s'.ok/\s'.sb=sb/\s'.gw=gw/\s'.gh=gh/\s'.ov=none/\s'.V=dw gw gh (λ_=>0)/\s'.l=[]/\s'.done=0/\s'.stamp=0)/\St F W w' (s'.L++T)):=by
 have hd:=Gi (F:=F) (W:=W) (w:=w) (L0:=[]) (tl:=T) (α:={ s':lT//s'.ok/\s'.sb=sb/\s'.gw=gw/\s'.gh=gh/\s'.ov=none/\s'.V=dw gw gh (λ_=>0)/\s'.l=[]/\s'.done=0/\s'.stamp=0 }) (V:=λ_=>gZ.fine) (Lx:=λx=>x.1.L) (o:=o) (t:=136) (f:=62) (sb:=sb) (lp:=none) (op:=none) (pp:=p0) (gp:=none) (stamp:=0) (fdo:=409)
  true false (λh=>by cases h) (z▸Ah) (by kernel_rfl) (by kernel_rfl) (by kernel_rfl) Zs rfl
  (λkb L w' S=>(NJ J y I D S).mono λv O⟨s',hv,hi,S'⟩=>⟨⟨s',hi⟩,hv,S'⟩) S
 exact hd.mono λv w'⟨x,hv,S'⟩=>⟨x.1,hv,x.2,S'⟩
theorem tj{α:Type}{Vr:α->gZ}{Lx:α->List HA}(z:s.sb=sb)(c:Bool)(y:xz o.k 114 c f)(D:pQ F W (s.L++M) s.sb o c f Vr Lx)(S:St F W w ((s.L++M)++tl)) :
  Fn prog 9 [pt sb,o.v] w (λv w'=>∃x,v=(Vr x).v/\St F W w' (Lx x++tl)):=by
 subst z
 exact Gi (F:=F) (W:=W) (w:=w) (L0:=s.rest++M) (tl:=tl) (V:=Vr) (Lx:=Lx) (o:=o) (t:=114) (f:=f) (sb:=s.sb) (gp:=some ⟨s.p,0,none⟩) (lp:=some ⟨s.lb,0,none⟩) (op:=s.ov) (pp:=some ⟨s.pp,0,none⟩) (stamp:=s.stamp) (fdo:=407)
  false c (λ_=>⟨_,rfl⟩) y (by kernel_rfl) (by kernel_rfl) (by kernel_rfl) Zt rfl (λkb I w' S=>T5 c D S) S
end
section
variable{st0:Int}
theorem Gl(n e:Int):Fn prog 186 [ii n,ii e] W (dp (.bool (fL n e)) W):=by
 have S:=St.start W;unfold fL;have v:n<0\/(0<=n/\n<e)\/(0<=n/\¬n<e):=om;rcases v with h|h|h
 all_goals
  refine zI func186 ?_;refine zX ?_;exact⟨by simp[*]<;>omega,S.out⟩
theorem wu(x0 y0 x1 y1 n m:Int)(hn:-9223372036854775808<=n/\n<=9223372036854775807)(hm:-9223372036854775808<=m/\m<=9223372036854775807)(h:n=-9223372036854775808\/(¬n=-9223372036854775808/\m=-9223372036854775808)) :
  Fn prog 131 [.agg #[ii x0,ii y0,ii x1,ii y1],ii n,ii m] W (dp (ii 3) W):=by
 have Z:fL (IntKind.i64.wrap (-9223372036854775808-1)) 1024=false:=by decide
 have L:∀w,Fn prog 186 [ii (IntKind.i64.wrap (-9223372036854775808-1)),ii 1024] w (dp (.bool false) w):=λw=>by
  have:=Gl (W:=w) (IntKind.i64.wrap (-9223372036854775808-1)) 1024;rwa[Z]at this
 have v:=λw=>Gl (W:=w) (n-1) 1024;rcases h with rfl|⟨h,rfl⟩
 ·skip;have S:=St.start W;refine zI func131 ?_;refine zN ?_;intro y O D S;refine zC (L _) ?_;intro U I S;exact zZ
 ·cases J:fL (n-1) 1024
  ·rw[J]at v;have S:=St.start W;refine zI func131 ?_;refine zN ?_;intro y O D S;refine zC (v _) ?_;intro U I S;exact zZ
  ·rw[J]at v;have S:=St.start W;refine zI func131 ?_;refine zN ?_;intro y O D S;refine zC (v _) ?_;intro U I S;refine zg ?_;refine dr rfl ?_;refine z ?_;refine dr rfl ?_;refine zC (L _) ?_;intro aa V S;refine dr rfl ?_;exact zZ
theorem Rm(n m:Int)(J:-9223372036854775808<=n/\n<=9223372036854775807)(I:-9223372036854775808<=m/\m<=9223372036854775807)(D:¬((1<=n/\n<=1024)/\1<=m/\m<=1024)):Fn prog 63 [ii n,ii m,ii 0] W (dp (.tuple #[.pointer none,ii 3]) W):=by
 have v:∀w,Fn prog 131 [.agg #[ii 0,ii 0,ii 0,ii 0],ii n,ii m] w (dp (ii 3) w):=λw=>by
  by_cases h1:n=-9223372036854775808
  ·exact wu 0 0 0 0 n m J I (.inl h1)
  ·by_cases h2:m=-9223372036854775808
   ·exact wu 0 0 0 0 n m J I (.inr ⟨h1,h2⟩)
   ·have:=jW 0 0 0 0 n m om om w
    have e:dF 0 0 0 0 n m=3:=by
     unfold dF fL;rw[a7];simp;omega
    rwa[e]at this
 have S:=St.start W;refine zI func63 ?_;iterate 6 refine z ?_
 refine cq (kL (pl:=[(0,1),(1,1),(2,1),(3,1)]) xa Ac (λw=>by kernel_rfl) rfl rfl) ?_;refine kq (jV Ac rfl) S ?_;intro y U L S;refine zS ?_;intro V S;refine zC (v _) ?_;intro Z O S;exact zZ
theorem Lb(D:-9223372036854775808<=o.n/\o.n<=9223372036854775807)(z:-9223372036854775808<=o.m/\o.m<=9223372036854775807)(v:¬((1<=o.n/\o.n<=1024)/\1<=o.m/\o.m<=1024)):Fn prog 62 [o.v] W (dp (.tuple #[.pointer none,ii 3]) W):=by
 obtain⟨ok,O,V,U,Z,ax,ay,bx,I,n,m,vs,bs,bd⟩:=o;dsimp only at D z v;have S:=St.start W;refine zI func62 ?_;refine zN ?_;intro y aa J S;refine zC (Rm (W:=_) n m D z v) ?_;intro ab L S;exact zZ
theorem Lc(y:vB (dw gw gh cc))(hf:∀w,Fn prog f [o.v] w (qw (λv=>.tuple #[v,ii 0]) gw gh cc w))(S:St F W w (.blk sb 71 [.pointer g0,.pointer l0,.pointer o0,ii st0,.pointer p0]::T)) :
  Fn prog (409) [iT false f kb,pt sb,o.v] w (λv w'=>∃s':lT,v=gZ.fine.v/\(s'.ok/\s'.sb=sb/\s'.gw=gw/\s'.gh=gh/\s'.ov=none/\s'.V=dw gw gh cc/\s'.l=[]/\s'.done=0/\s'.stamp=0)/\St F W w' (s'.L++T)):=by
 obtain⟨ok,ac,ae,ad,ag,ax,ay,bx,Z,n,m,vs,bs,bd⟩:=o;unfold iT;refine zI func409 ?_;refine zN ?_;intro O ah aa S;refine zN ?_;intro U ai ab S;refine zg ?_;refine ju rfl rfl (hf _) ?_;rintro _ aj ⟨q,A2,cap2,bs2,Rs2,rfl,J,L,I⟩;have S:=S.pushGrid J L I;refine zK (DF y (S.grid (i:=0) rfl)) ?_;rintro _ ak ⟨lb,tb,A1,c1,pb,lA,lc,As,cs,rfl,D⟩;have S:=(S.app D);refine zK (yt) ?_;rintro _ al ⟨pp,rfl,D⟩;have S:=S.app D;refine cq (kL (pl:=[(0,1),(1,1),(2,1),(3,1),(4,1)]) YY aaa (λw=>by kernel_rfl) rfl rfl) ?_;refine z ?_;refine Z1 10 S ?_;intro am S;refine z ?_;refine cq (kL (pl:=[(0,1),(1,1),(2,1),(3,2),(5,1),(6,1),(7,1),(8,1),(9,1)]) eE Zx (λw=>by kernel_rfl) rfl rfl) ?_;refine Z1 8 S ?_;intro an S;refine zq ?_;have V:=((S.pushNil 248 6).pts0).pick 13 [10,11,12,9,3,4,5,6,7,8,2,1,0] rfl rfl rfl;exact rA S ⟨⟨sb,q,cap2,pp,lb,tb,pb,gw,gh,0,A2,A1,lA,none,none,c1,lc,0,bs2,Rs2,cc,As,cs,[],0⟩,rfl,⟨⟨y,cN _,λx hx=>by cases hx⟩,rfl,rfl,rfl,rfl,rfl,rfl,rfl,rfl⟩,V.drop 2⟩
theorem Jx(he:e0≠0)(O:∀w,Fn prog f [o.v] w (dp (.tuple #[.pointer none,ii e0]) w))(S:St F W w (.blk sb 71 [.pointer g0,.pointer l0,.pointer o0,ii st0,.pointer p0]::T)) :
  Fn prog (409) [iT false f kb,pt sb,o.v] w (λv w'=>v=({ code:=e0 }:gZ).v/\St F W w' (.blk sb 71 [.pointer g0,.pointer l0,.pointer o0,ii st0,.pointer p0]::T)):=by
 obtain⟨ok,U,Z,V,aa,ax,ay,bx,I,n,m,vs,bs,bd⟩:=o;unfold iT;refine zI func409 ?_;refine zN ?_;intro z ab J S;refine zN ?_;intro D ac L S;refine zg ?_;refine ju rfl rfl (O _) ?_;rintro _ ad ⟨rfl,y⟩;have S:=S.gr y;refine zS ?_;intro ae S;exact rA S ⟨rfl,S.drop 2⟩
theorem NK(y:xz o.k 136 false f)(z:vB (dw gw gh cc))(D:∀w,Fn prog f [o.v] w (qw (λv=>.tuple #[v,ii 0]) gw gh cc w))(S:St F W w (.blk sb 71 [.pointer g0,.pointer l0,.pointer o0,ii st0,.pointer p0]::T)) :
  Fn prog 9 [pt sb,o.v] w (λv w'=>∃s':lT,v=gZ.fine.v/\(s'.ok/\s'.sb=sb/\s'.gw=gw/\s'.gh=gh/\s'.ov=none/\s'.V=dw gw gh cc/\s'.l=[]/\s'.done=0/\s'.stamp=0)/\St F W w' (s'.L++T)):=by
 have hd:=Gi (F:=F) (W:=W) (w:=w) (L0:=[]) (tl:=T) (α:={ s':lT//s'.ok/\s'.sb=sb/\s'.gw=gw/\s'.gh=gh/\s'.ov=none/\s'.V=dw gw gh cc/\s'.l=[]/\s'.done=0/\s'.stamp=0 }) (V:=λ_=>gZ.fine) (Lx:=λx=>x.1.L) (o:=o) (t:=136) (f:=f) (sb:=sb) (lp:=l0) (op:=o0) (pp:=p0) (gp:=g0) (stamp:=st0) (fdo:=409)
  true false (λh=>by cases h) y (by kernel_rfl) (by kernel_rfl) (by kernel_rfl) Zs rfl
  (λkb I w' S=>(Lc z D S).mono λv J⟨s',hv,hi,S'⟩=>⟨⟨s',hi⟩,hv,S'⟩) S
 exact hd.mono λv w'⟨x,hv,S'⟩=>⟨x.1,hv,x.2,S'⟩
theorem Jy(D:e0≠0)(y:xz o.k 136 false f)(I:∀w,Fn prog f [o.v] w (dp (.tuple #[.pointer none,ii e0]) w))(S:St F W w (.blk sb 71 [.pointer g0,.pointer l0,.pointer o0,ii st0,.pointer p0]::T)) :
  Fn prog 9 [pt sb,o.v] w (λv w'=>v=({ code:=e0 }:gZ).v/\St F W w' (.blk sb 71 [.pointer g0,.pointer l0,.pointer o0,ii st0,.pointer p0]::T)):=by
 have hd:=Gi (F:=F) (W:=W) (w:=w) (L0:=[]) (tl:=T) (α:=Unit) (V:=λ_=>{ code:=e0 }) (Lx:=λx=>[.blk sb 71 [.pointer g0,.pointer l0,.pointer o0,ii st0,.pointer p0]]) (o:=o) (t:=136) (f:=f) (sb:=sb) (lp:=l0) (op:=o0) (pp:=p0) (gp:=g0) (stamp:=st0) (fdo:=409)
  true false (λh=>by cases h) y (by kernel_rfl) (by kernel_rfl) (by kernel_rfl) Zs rfl
  (λkb J w' S=>(Jx D I S).mono λv L⟨z,S'⟩=>⟨(),z,S'⟩) S
 exact hd.mono λv w'⟨x,z,S'⟩=>⟨z,S'⟩
end
def Ua(l m:List Int):Bool:=(Bt l).toList==(Bt m).toList
def Ub(d:List Int):Nat->Int
 |0=>0
 |i+1=>bits .or .u64 (Ub d i) (IntKind.u64.wrap (IntKind.u64.wrap (d.getD i 0)*2^(min ((8*i:Nat):Int).toNat IntKind.u64.bits)))
def Jz(l:List Int)(jF k:Nat):Int:=if jF+k<=l.length then IntKind.i64.wrap (Ub ((l.drop jF).take k) k)else 0
def JA(l:List Int)(jF k:Nat):Nat:=if jF+k<=l.length then jF+k else jF
theorem NL(n:Int):-9223372036854775808<=IntKind.i64.wrap n/\IntKind.i64.wrap n<=9223372036854775807:=by rw[oY];omega
theorem CF{t u x y:Tmp}{O:Value}(h1:fz (e t)=some v1)(h2:fz (e u)=some v2)(S:fz (e x)=some v3)(U:fz (e y)=some O)(V:R (.tuple #[v1,v2,v3,O]) w):QF P #[.tmp t,.tmp u,.tmp x,.tmp y] R .ret e w :=
 ⟨_,λfn v Z z=>by
  have D:=z t;have I:=z u;have J:=z x;have L:=z y;rw[m9 h1]at D;rw[m9 h2]at I;rw[m9 S]at J;rw[m9 U]at L;have h:=show(results fn v).run P w=.ok (.tuple #[v.getD t undef,v.getD u undef,v.getD x undef,v.getD y undef]) w by simp[results,Z]
  rw[h,D,I,J,L],V⟩
section
variable{l m:List Int}
theorem Ie(v:Rd W A (f9 l))(y:Rd W B (f9 m)):Fn prog 202 [.slice A l.length c,.slice B m.length cB] W (dp (.bool (Ua l m)) W):=by
 have S:=St.start W;refine zI func202 ?_;refine zg ?_;refine dH (BZ q8 dv fk rfl (v.gr S.out)) ?_;refine zg ?_;refine dH (BZ q8 dv fk rfl (y.gr S.out)) ?_;refine cq (yu rfl rfl rfl) ?_;exact zZ
theorem NM(U:l.length<=c)(y:Rd W A (f9 l))(D:Rd W B (f9 m)):Fn prog 206 [.slice A l.length c,.slice B m.length cB] W (dp (.bool (decide (m.length<=l.length)&&Ua (l.take m.length) m)) W):=by
 rcases cr (m.length<=l.length)with h|h
 ·have L:Rd W A (f9 (l.take m.length)):=by rw[<-tK];exact y.tk _
  have I:(l.take m.length).length=m.length:=by rw[d7];omega
  have J:=λW y D=>Ie (W:=W) (A:=A) (B:=B) (c:=c) (cB:=cB) (l:=l.take m.length) (m:=m) y D;rw[I]at J;rw[cF h,tR];have S:=St.start W;refine zI func206 ?_;refine zg ?_;refine dr rfl ?_;refine cq (jb (n:=(m.length:Int)) q8 gJ rfl rfl om om) ?_;rw[b7];refine z ?_;refine dr rfl ?_;refine eY rfl (J W (L.gr S.out) (D.gr S.out)) ?_;rintro _ O ⟨rfl,v⟩;have S:=S.gr v;exact zZ
 ·rw[cC h,nz];have S:=St.start W;refine zI func206 ?_;exact zZ
theorem Wl(jF n:Nat)(U:jF<=l.length)(hn:1<=n/\n<=8)(V:l.length<=c)(hm:l.length<=1099511627776)(O:Rd W A (f9 l)) :
  Fn prog 261 [.slice A l.length c,ii jF,ii n] W (dp (.tuple #[.int .u64 (if jF+n<=l.length then Ub ((l.drop jF).take n) n else 0),ii (if jF+n<=l.length then jF+n else 0:Nat),ii (if jF+n<=l.length then 0 else 14)]) W):=by
 rcases cr (jF+n<=l.length)with h|h
 ·rw[a7 h,a7 h,a7 h];have y:Rd W (uA A (jF*1) (c-jF)) (f9 ((l.drop jF).take n)):=by rw[<-tK];exact(O.off8 om V).tk n
  have Z:((l.drop jF).take n).length=n:=by rw[d7,i8];omega
  have I:(jF:Int)+n=((jF+n:Nat):Int):=om;generalize v:uA A (jF*1) (c-jF)=A2 at y;generalize (l.drop jF).take n=d at *;have S:=St.start W;refine zI func261 ?_;refine zg ?_;rw[I];refine cq (Gb q8 gJ rfl rfl rfl om om) ?_;rw[v,iw];refine zg ?_
  refine dl (λm e w=>∃i:Nat,i+m=n/\SL e [(1,ii jF),(2,ii n),(9,.int .u64 (Ub d i)),(41,.slice A2 n (c-jF)),(42,ii n),(43,ii i)]/\St No W w []) n
   ⟨0,om,sl,S⟩ ?_
  clear S;rintro m e w ⟨i,hi,D,S⟩;rw[D.fold];rcases cr (i<n)with z|z
  ·have J:dO A2:=y.someA (by rw[m4];omega)
   have hg:(f9 d)[(i:Int).toNat * 1]?=some (.int .u8 (d.getD i 0)):=by
    rw[Cx (show i<d.length by omega)];rw[cO,ct (show i<d.length by omega)];rfl
   have L:(8:Int)*i=((8*i:Nat):Int):=om;refine zT (y.gr S.out) hg ?_;refine zg ?_;refine Y9 (n:=d.getD i 0) rfl rfl ?_;refine zg ?_;rw[L];refine cq (vz rfl rfl om rfl) ?_;refine cq (gR (op:=.or) rfl rfl rfl) ?_;refine zg ?_;exact⟨m-1,om,i+1,om,sl,S⟩
  ·obtain rfl:i=n:=om;refine zg ?_;rw[I];exact zZ
 ·rw[a8 h,a8 h,a8 h];have S:=St.start W;refine zI func261 ?_;exact zZ
end
section
variable{jF:Nat}{l m:List Int}
theorem pR(I:jF<=l.length)(U:1<=k/\k<=8)(O:l.length<=c)(V:l.length<=1099511627776)(y:Rd w A (f9 l))(S:St F W w (.blk rb 334 [.slice A l.length c,ii jF]::tl)) :
  Fn prog (207) [pt rb,ii k] w (λv w'=>v=ii (Jz l jF k)/\St F W w' (.blk rb 334 [.slice A l.length c,ii (JA l jF k)]::tl)):=by
 have z:=λw y=>Wl (W:=w) (A:=A) (c:=c) (l:=l) jF k I U O V y;unfold Jz JA;rcases cr (jF+k<=l.length)with h|h
 ·rw[a7 h,a7 h];rw[a7 h,a7 h,a7 h]at z;generalize Ub ((l.drop jF).take k) k=u at *;refine zI func207 ?_;refine zD [0,1,2,3,4,5,6,7,8,9,10,11,12,13,14,15,16] [] ?_;refine zP (λwq J=>z wq (y.gr J)) ?_;refine zE ?_;intro L D S;refine zS ?_;intro Z S;refine Y9 (n:=u) rfl rfl ?_;refine zX ?_;exact⟨rfl,S⟩
 ·rw[a8 h,a8 h];rw[a8 h,a8 h,a8 h]at z;refine zI func207 ?_;refine zD [0,1,2,3,4,5,6,7,8,9,10,11,12,13,14,15,16] [] ?_;refine zP (λwq J=>z wq (y.gr J)) ?_;refine zE ?_;intro L D S;refine Y9 (n:=0) (m:=0) rfl rfl ?_;refine zX ?_;exact⟨rfl,S⟩
end
section
variable{l:List Int}{n m:Int}
theorem JB(z:-9223372036854775808<=n/\n<=9223372036854775807)(y:-9223372036854775808<=m/\m<=9223372036854775807)(v:¬((1<=n/\n<=1024)/\1<=m/\m<=1024)):Fn prog 131 [.agg #[ii 0,ii 0,ii 0,ii 0],ii n,ii m] W (dp (ii 3) W):=by
 by_cases h1:n=-9223372036854775808
 ·exact wu 0 0 0 0 n m z y (.inl h1)
 ·by_cases h2:m=-9223372036854775808
  ·exact wu 0 0 0 0 n m z y (.inr ⟨h1,h2⟩)
  ·have:=jW 0 0 0 0 n m om om W
   have e:dF 0 0 0 0 n m=3:=by
    unfold dF fL;rw[a7];simp;omega
   rwa[e]at this
theorem Er(D:-9223372036854775808<=n/\n<=9223372036854775807)(z:-9223372036854775808<=m/\m<=9223372036854775807)(v:¬((1<=n/\n<=1024)/\1<=m/\m<=1024)):Fn prog 208 [ii n,ii m] W (dp (.tuple #[ii 0,ii 3]) W):=by
 have S:=St.start W;refine zI func208 ?_;refine zC (JB (W:=W) D z v) ?_;intro I y S;exact zZ
theorem NN(D:-9223372036854775808<=n/\n<=9223372036854775807)(z:-9223372036854775808<=m/\m<=9223372036854775807)(v:¬((1<=n/\n<=1024)/\1<=m/\m<=1024)):Fn prog 209 [ii n,ii m] W (dp (.tuple #[ii 0,ii 3]) W):=by
 have S:=St.start W;refine zI func209 ?_;refine zC (Er (W:=W) D z v) ?_;intro I y S;exact zZ
def ES(a:Int)(es:List (Int×Int)):Prop:=∀i x,es[i]?=some x->x.1=a+((es.take i).map Prod.snd).sum/\1<=x.2/\x.2<=1048576
theorem Ld(a:Int):ES a []:=λi x h=>by cases h
theorem If{x:Int×Int}(h:ES a es)(h1:x.1=a+(es.map Prod.snd).sum)(h2:1<=x.2/\x.2<=1048576):ES a (es++[x]):=λi y v=>by
 rcases qG i es.length with hi|hi|hi
 ·rw[gt hi]at v;rw[lg om];exact h i y v
 ·subst hi;rw[fU (cN _),j8]at v;injection v with v;subst v;rw[pX];exact⟨h1,h2⟩
 ·rw[dZ (by simp;omega)]at v;cases v
def AI(W:World)(v:Value)(w':World):Prop:=∃(X Y:Int)(B:Option Addr)(nB cB:Nat)(e:Int)(Q:List HA),v=.tuple #[ii X,ii Y,.slice B nB cB,ii e]/\St No W w' Q /\
 (e=0->∃(gw gh:Nat)(es:List (Int×Int)),X=gw/\Y=gh/\(1<=gw/\gw<=1024)/\(1<=gh/\gh<=1024)/\nB=cU gw*cU gh/\es.length=nB/\ES (13+cU gw*cU gh*8:Nat) es/\Q=[.row 102 2 B nB cB (eT es)])
theorem AI.no{X e:Int}(v:e≠0)(G:Gr W w):AI W (.tuple #[ii X,ii Y,.slice none 0 0,ii e]) w:=⟨X,Y,none,0,0,e,[],rfl,(St.start W).gr G,λh=>absurd h v⟩
theorem CG{a:Nat}(h:a<=l.length):JA l a k<=l.length:=by unfold JA;split<;>omega
theorem Wm(hc:l.length<=c)(hm:l.length<=1099511627776)(hA:Rd W A (f9 l)):Fn prog 135 [.slice A l.length c] W (AI W):=by
 have S:=St.start W
 rcases cr (l.length<13)with h13|h13
 ·skip
  refine zI func135 ?_
  refine zX ?_
  exact(.no (by decide) S.out)
 ·have hd5:5<=l.length:=om
  have hpr:=λw B(hA:Rd w A (f9 l))hB=>NM (W:=w) (A:=A) (B:=B) (c:=c) (cB:=5) (l:=l) (m:=[72,65,67,72,1]) hc hA hB
  generalize (decide ([(72:Int),65,67,72,1].length<=l.length)&&Ua (l.take [(72:Int),65,67,72,1].length) [72,65,67,72,1])=pr at hpr
  cases pr
  ·skip
   refine zI func135 ?_
   refine zg ?_
   refine xQ S q8 dv gJ nE rfl rfl rfl rfl rfl (λ_=>rfl) ?_
   intro A5 w5 g5 hR5 S
   skip
   refine zC (hpr w5 _ (hA.gr S.out) hR5) ?_
   intro w1_ g1_ S
   refine zX ?_
   exact(.no (by decide) S.out)
  ·obtain⟨X,hX⟩:∃X,X=IntKind.i64.wrap (Jz l 5 2+1):=⟨_,rfl⟩
   obtain⟨Y,hY⟩:∃Y,Y=IntKind.i64.wrap (Jz l (JA l 5 2) 2+1):=⟨_,rfl⟩
   have hXr:=NL (Jz l 5 2+1)
   have hYr:=NL (Jz l (JA l 5 2) 2+1)
   rw[<-hX]at hXr
   rw[<-hY]at hYr
   have ha1:=CG (k:=2) hd5
   have ha2:=CG (k:=2) ha1
   rcases cr ((1<=X/\X<=1024)/\1<=Y/\Y<=1024)with hg|hg
   ·obtain⟨gw,rfl⟩:=cJ (show 0<=X by omega)
    obtain⟨gh,rfl⟩:=cJ (show 0<=Y by omega)
    have hgw:1<=gw/\gw<=1024:=om
    have hgh:1<=gh/\gh<=1024:=om
    have hti:=λW=>DD (W:=W) hgw hgh
    have hsi:=λW=>KX (W:=W) hgw hgh
    have hmm:cU gw*cU gh<=64*64:=cE (jS hgw.2) (jS hgh.2)
    have ha3:=CG (k:=4) ha2
    have hfin:∀{w:World}{B:Option Addr}{cB:Nat}{es:List (Int×Int)},es.length=cU gw*cU gh->ES (13+cU gw*cU gh*8:Nat) es->St No W w [.row 102 2 B (cU gw*cU gh) cB (eT es)]->AI W (.tuple #[ii gw,ii gh,.slice B (cU gw*cU gh) cB,ii 0]) w:=λh1 h2 h3=>⟨_,_,_,_,_,_,_,rfl,h3,λ_=>⟨gw,gh,_,rfl,rfl,hgw,hgh,rfl,h1,h2,rfl⟩⟩
    generalize cU gw*cU gh=N at *
    rcases cr (Jz l (JA l (JA l 5 2) 2) 4=(N:Nat))with hv3|hv3
    ·rcases cr (l.length<13+N*8)with hsh|hsh
     ·skip
      refine zI func135 ?_
      refine zg ?_
      refine xQ S q8 dv gJ nE rfl rfl rfl rfl rfl (λ_=>rfl) ?_
      intro A5 w5 g5 hR5 S
      skip
      refine zC (hpr w5 _ (hA.gr S.out) hR5) ?_
      intro w1_ g1_ S
      refine yA ?_
      intro _ _ S
      refine zK (pR (k:=2) hd5 (by decide) hc hm (hA.gr S.out) S) ?_
      rintro _ w4_ ⟨rfl,S⟩
      refine cq (nO rfl rfl hX.symm) ?_
      refine zK (pR (k:=2) ha1 (by decide) hc hm (hA.gr S.out) S) ?_
      rintro _ w5_ ⟨rfl,S⟩
      refine cq (nO rfl rfl hY.symm) ?_
      refine zC (hti _) ?_
      intro w6_ g6_ S
      refine zC (hsi _) ?_
      intro w7_ g7_ S
      refine zK (pR (k:=4) ha2 (by decide) hc hm (hA.gr S.out) S) ?_
      rintro _ w8_ ⟨rfl,S⟩
      refine yX ?_
      exact(.no (by decide) S.out)
     ·skip
      refine zI func135 ?_
      refine zg ?_
      refine xQ S q8 dv gJ nE rfl rfl rfl rfl rfl (λ_=>rfl) ?_
      intro A5 w5 g5 hR5 S
      skip
      refine zC (hpr w5 _ (hA.gr S.out) hR5) ?_
      intro w1_ g1_ S
      refine yA ?_
      intro b_rd _ S
      refine zK (pR (k:=2) hd5 (by decide) hc hm (hA.gr S.out) S) ?_
      rintro _ w4_ ⟨rfl,S⟩
      refine cq (nO rfl rfl hX.symm) ?_
      refine zK (pR (k:=2) ha1 (by decide) hc hm (hA.gr S.out) S) ?_
      rintro _ w5_ ⟨rfl,S⟩
      refine cq (nO rfl rfl hY.symm) ?_
      refine zC (hti _) ?_
      intro w6_ g6_ S
      refine zC (hsi _) ?_
      intro w7_ g7_ S
      refine zK (pR (k:=4) ha2 (by decide) hc hm (hA.gr S.out) S) ?_
      rintro _ w8_ ⟨rfl,S⟩
      refine z ?_
      refine cq (ff (b:=false) rfl (eo.2 hv3)) ?_
      refine zg ?_
      have S:=(S.pushNil 102 2).pick 2 [1,0] rfl rfl rfl
      refine dl (λm e w=>∃(i p:Nat)(q:Int)(es:List (Int×Int))(B:Option Addr)(cB:Nat),i+m=N/\p<=l.length/\es.length=i/\q=(13+N*8:Nat)+(es.map Prod.snd).sum/\((13+N*8:Nat)<=q/\q<=(13+N*8:Nat)+(i:Int)*1048576)/\ES (13+N*8:Nat) es /\
        SL e [(6,pt b_rd),(7,ii gw),(8,ii gh),(13,.slice B i cB),(14,ii q),(62,ii N),(63,ii i)] /\
        St No W w [.blk b_rd 334 [.slice A l.length c,ii p],.row 102 2 B i cB (eT es)]) N
       ⟨0,_,_,[],none,0,om,ha3,rfl,by simp,om,Ld _,⟨rfl,rfl,rfl,rfl,rfl,rfl,rfl,trivial⟩,S⟩ ?_
      clear S
      rintro m e w ⟨i,p,q,es,B,cB,hi,hp,hes,hq,hqr,hch,hsl,S⟩
      rw[hsl.fold]
      rcases cr (i<N)with hlt|hlt
      ·have hp1:=CG (k:=4) hp
       have hp2:=CG (k:=4) hp1
       obtain⟨v1,hv1e⟩:∃v,v=Jz l p 4:=⟨_,rfl⟩
       obtain⟨v2,hv2e⟩:∃v,v=Jz l (JA l p 4) 4:=⟨_,rfl⟩
       have hd1:=λw(L:List HA)S hA=>pR (F:=No) (W:=W) (w:=w) (tl:=L) (A:=A) (c:=c) (l:=l) (rb:=b_rd) (k:=4) hp (by decide) hc hm hA S
       have hd2:=λw(L:List HA)S hA=>pR (F:=No) (W:=W) (w:=w) (tl:=L) (A:=A) (c:=c) (l:=l) (rb:=b_rd) (k:=4) hp1 (by decide) hc hm hA S
       rw[<-hv1e]at hd1
       rw[<-hv2e]at hd2
       rcases cr (v1=q/\1<=v2/\v2<=1048576)with hok|hok
       ·obtain⟨rfl,h1,h2⟩:=hok
        refine zK (hd1 w _ S (hA.gr S.out)) ?_
        rintro _ w9_ ⟨rfl,S⟩
        refine zK (hd2 _ _ S (hA.gr S.out)) ?_
        rintro _ w10_ ⟨rfl,S⟩
        refine zN ?_
        intro b_x w12_ g12_ S
        refine zS ?_
        intro w13_ S
        refine yb S ?_
        intro A_on w15_ g15_ S sa_on
        refine ZP 3 0 S ?_
        intro A_o2 c_o2 w16_ S sa_o
        refine zg ?_
        have S:=S.drop 2
        rw[wr]at S
        have hsum:((es++[(v1,v2)]).map Prod.snd).sum=(es.map Prod.snd).sum+v2:=by simp
        exact⟨m-1,om,i+1,_,v1+v2,es++[(v1,v2)],A_o2,c_o2,om,hp2,by simp[hes],by rw[hsum];omega,om,If hch hq ⟨h1,h2⟩,⟨rfl,rfl,rfl,rfl,rfl,rfl,ie om,trivial⟩,S⟩
       ·rcases cr (v1=q)with h1|h1
        ·rcases cr (v2<1)with h2|h2
         ·skip
          refine zK (hd1 w _ S (hA.gr S.out)) ?_
          rintro _ w17_ ⟨rfl,S⟩
          refine zK (hd2 _ _ S (hA.gr S.out)) ?_
          rintro _ w18_ ⟨rfl,S⟩
          refine zN ?_
          intro b_x w20_ g20_ S
          refine zS ?_
          intro w21_ S
          exact CF rfl rfl rfl rfl (.no (by decide) S.out)
         ·skip
          refine zK (hd1 w _ S (hA.gr S.out)) ?_
          rintro _ w22_ ⟨rfl,S⟩
          refine zK (hd2 _ _ S (hA.gr S.out)) ?_
          rintro _ w23_ ⟨rfl,S⟩
          refine zN ?_
          intro b_x w25_ g25_ S
          refine zS ?_
          intro w26_ S
          exact CF rfl rfl rfl rfl (.no (by decide) S.out)
        ·skip
         refine zK (hd1 w _ S (hA.gr S.out)) ?_
         rintro _ w27_ ⟨rfl,S⟩
         refine zK (hd2 _ _ S (hA.gr S.out)) ?_
         rintro _ w28_ ⟨rfl,S⟩
         refine zN ?_
         intro b_x w30_ g30_ S
         refine zS ?_
         intro w31_ S
         exact CF rfl rfl rfl rfl (.no (by decide) S.out)
      ·obtain rfl:i=N:=om
       refine zX ?_
       exact(hfin hes hch (S.drop 1))
    ·skip
     refine zI func135 ?_
     refine zg ?_
     refine xQ S q8 dv gJ nE rfl rfl rfl rfl rfl (λ_=>rfl) ?_
     intro A5 w5 g5 hR5 S
     skip
     refine zC (hpr w5 _ (hA.gr S.out) hR5) ?_
     intro w1_ g1_ S
     refine zN ?_
     intro b_rd w3_ g3_ S
     refine zK (pR (k:=2) hd5 (by decide) hc hm (hA.gr S.out) S) ?_
     rintro _ w4_ ⟨rfl,S⟩
     refine cq (nO rfl rfl hX.symm) ?_
     refine zK (pR (k:=2) ha1 (by decide) hc hm (hA.gr S.out) S) ?_
     rintro _ w5_ ⟨rfl,S⟩
     refine cq (nO rfl rfl hY.symm) ?_
     refine zC (hti _) ?_
     intro w6_ g6_ S
     refine zC (hsi _) ?_
     intro w7_ g7_ S
     refine zK (pR (k:=4) ha2 (by decide) hc hm (hA.gr S.out) S) ?_
     rintro _ w8_ ⟨rfl,S⟩
     refine z ?_
     refine cq (ff (b:=true) rfl (f5.2 hv3)) ?_
     refine zX ?_
     exact(.no (by decide) S.out)
   ·skip
    refine zI func135 ?_
    refine zg ?_
    refine xQ S q8 dv gJ nE rfl rfl rfl rfl rfl (λ_=>rfl) ?_
    intro A5 w5 g5 hR5 S
    skip
    refine zC (hpr w5 _ (hA.gr S.out) hR5) ?_
    intro w1_ g1_ S
    refine zN ?_
    intro b_rd w3_ g3_ S
    refine zK (pR (k:=2) hd5 (by decide) hc hm (hA.gr S.out) S) ?_
    rintro _ w4_ ⟨rfl,S⟩
    refine cq (nO rfl rfl hX.symm) ?_
    refine zK (pR (k:=2) ha1 (by decide) hc hm (hA.gr S.out) S) ?_
    rintro _ w5_ ⟨rfl,S⟩
    refine cq (nO rfl rfl hY.symm) ?_
    refine zC (Er (W:=_) hXr hYr hg) ?_
    intro w6_ g6_ S
    refine zC (NN (W:=_) hXr hYr hg) ?_
    intro w7_ g7_ S
    refine zX ?_
    exact(.no (by decide) S.out)
end
def GH(a b c d:Int):Bool:=decide (b<d)||(decide (b=d)&&decide (a<c))
def JM(gw:Nat)(V:List Int)(r:Rc)(want:RG->Bool)(bx by_:Nat)(B:Bool):Prop :=
 (B=true->r.has bx by_/\want ⟨V.getD (by_*gw+bx) 0,V.getD (by_*gw+bx) 0⟩=true)/\∀x y,r.has x y->want ⟨V.getD (y*gw+x) 0,V.getD (y*gw+x) 0⟩=true->B=true/\(by_<y\/(by_=y/\bx<=x))
structure FI(gw gh:Nat)(V:List Int)(r:Rc)(want:RG->Bool)(l:List Nd)(bx by_:Nat)(B:Bool):Prop where
 st:∀n∈l,n.ok gw gh/\(n.span gw gh).both r=true
 good:B=true->r.has bx by_/\want ⟨V.getD (by_*gw+bx) 0,V.getD (by_*gw+bx) 0⟩=true
 cov:∀x y,r.has x y->want ⟨V.getD (y*gw+x) 0,V.getD (y*gw+x) 0⟩=true->(B=true/\(by_<y\/(by_=y/\bx<=x)))\/∃n∈l,(n.span gw gh).has x y
def W9(want:RG->Bool):Prop:=∀v z,v.lo<=z->z<=v.hi->want ⟨z,z⟩=true->want v=true
section
variable{V:List Int}{want:RG->Bool}{l l':List Nd}{bx:Nat}{B:Bool}{n:Nd}
theorem FI.skip(h:FI gw gh V r want (l++[n]) bx by_ B)(O:∀x y,r.has x y->(n.span gw gh).has x y->want ⟨V.getD (y*gw+x) 0,V.getD (y*gw+x) 0⟩=true->B=true/\(by_<y\/(by_=y/\bx<=x))):FI gw gh V r want l bx by_ B:=by
 refine⟨λm z=>h.st m (f6 _ z),h.good,λx y I J=>?_⟩;rcases h.cov x y I J with L|⟨m,z,D⟩
 ·exact .inl L
 ·rcases ez.1 z with v|v
  ·exact .inr ⟨m,v,D⟩
  ·obtain rfl:=dM.1 v;exact .inl (O x y I D J)
theorem FI.skip1(h:FI gw gh V r want (l++[n]) bx by_ B)(I:r.ok gw gh)(D:W9 want)(v:want (n.rg gw gh V)=false):FI gw gh V r want l bx by_ B:=h.skip λx y z J L=>by
 have:=I.cell z;have:=Nd.rg_all (V:=V) this.1 this.2 J;rw[D _ _ this.1 this.2 L]at v;cases v
theorem Rc.meet_le{a b:Rc}{x y:Nat}(h1:a.has x y)(h2:b.has x y):(a.meet b).x0<=x/\(a.meet b).y0<=y:=by
 unfold Rc.has at *;unfold Rc.meet;dsimp only;omega
theorem FI.skip2(h:FI gw gh V r want (l++[n]) bx by_ B)(z:B=true)(v:GH ((n.span gw gh).meet r).x0 ((n.span gw gh).meet r).y0 bx by_=false):FI gw gh V r want l bx by_ B:=h.skip λx y D I J=>⟨z,by
 have:=Rc.meet_le I D;generalize (n.span gw gh).meet r=m at *;unfold GH at v;rw[Bool.or_eq_false_iff,il,d9,d9,d9]at v;omega⟩
theorem FI.kids(h:FI gw gh V r want (l++[n]) bx by_ B)(z:n.k≠0)(O:r.ok gw gh)(Z:1<=gw)(U:1<=gh)(h1:∀n'∈l',n'∈l\/(Gv gw gh n n'/\(n'.span gw gh).both r=true))(h2:∀n'∈l,n'∈l')(S:∀n',Gv gw gh n n'->(n'.span gw gh).both r=true->n'∈l'):FI gw gh V r want l' bx by_ B:=by
 obtain⟨k,x,y⟩:=n;obtain⟨k,rfl⟩:∃j,k=j+1:=⟨k-1,by dsimp only at z;omega⟩;refine⟨λm L=>?_,h.good,λcx cy J hx=>?_⟩
 ·rcases h1 m L with v|⟨v,D⟩
  ·exact h.st m (f6 _ v)
  ·exact⟨v.2.2.2,D⟩
 ·rcases h.cov cx cy J hx with v|⟨m,L,v⟩
  ·exact .inl v
  ·rcases ez.1 L with D|D
   ·exact .inr ⟨m,h2 m D,v⟩
   ·obtain rfl:=dM.1 D;have I:=O.cell J;have z:=PQ (h.st _ (by simp)).1 I.1 I.2 v;exact .inr ⟨_,S _ z.1 ((Rc.both_iff (Nd.span_ok Z U z.1.2.2.2) O).2 ⟨cx,cy,z.2,J⟩),z.2⟩
theorem Nd.span_zero{x y:Nat}(h:Nd.ok ⟨0,x,y⟩ gw gh):Nd.span gw gh ⟨0,x,y⟩=⟨x,y,x,y⟩:=by
 obtain⟨_,h1,h2⟩:=h;dsimp only at h1 h2;unfold dG at h1 h2;rw[kX,ig]at h1 h2;show Rc.mk (x*2^0) (y*2^0) (min ((x+1)*2^0) gw-1) (min ((y+1)*2^0) gh-1)=_;rw[kX,cG,cG,cG,cG,(om:min (x+1) gw-1=x),(om:min (y+1) gh-1=y)]
theorem FI.hit(h:FI gw gh V r want (l++[n]) bx by_ B)(hr:r.ok gw gh)(Z:n.k=0)(hw:want (n.rg gw gh V)=true)(v:B=false\/GH ((n.span gw gh).meet r).x0 ((n.span gw gh).meet r).y0 bx by_=true):FI gw gh V r want l ((n.span gw gh).meet r).x0 ((n.span gw gh).meet r).y0 true:=by
 have O:=h.st n (by simp);obtain⟨k,x,y⟩:=n;dsimp only at Z;subst Z;have S:=Nd.span_zero O.1;have z:=O.2;rw[S]at z v ⊢
 have D:(Rc.mk x y x y).meet r=⟨x,y,min x r.x1,min y r.y1⟩/\r.has x y:=by
  unfold Rc.both at z;rw[cT]at z;unfold Rc.meet Rc.has;dsimp only at z ⊢;exact⟨by rw[(om:max x r.x0=x),(om:max y r.y0=y)],om⟩
 rw[D.1]at v ⊢;dsimp only at v hw ⊢;refine⟨λm L=>h.st m (f6 _ L),λ_=>⟨D.2,hw⟩,λcx cy hc hx=>?_⟩;rcases h.cov cx cy hc hx with⟨U,I⟩|⟨m,L,I⟩
 ·refine .inl ⟨rfl,?_⟩;rcases v with v|v
  ·rw[v]at U;cases U
  ·unfold GH at v;simp only[ky,cM,cT]at v;omega
 ·rcases ez.1 L with J|J
  ·exact .inr ⟨m,J,I⟩
  ·obtain rfl:=dM.1 J;rw[Nd.span_zero O.1]at I;obtain⟨⟨a,b⟩,c,d⟩:=I;dsimp only at a b c d;exact .inl ⟨rfl,om⟩
theorem FI.done(h:FI gw gh V r want [] bx by_ B):JM gw V r want bx by_ B:=⟨h.good,λx y v D=>(h.cov x y v D).elim id λ⟨_,z,_⟩=>by cases z⟩
end
section
variable{yb t:Nat}{V:List Int}{lc:List Value}{want:RG->Bool}
theorem Oh(a b c d:Int):Fn prog 177 [.agg #[ii a,ii b],.agg #[ii c,ii d]] W (dp (.bool (GH a b c d)) W):=by
 unfold GH;have S:=St.start W;rcases Int.lt_trichotomy b d with h|h|h
 ·rw[cF h,Bool.true_or];refine zI func177 ?_;refine zN ?_;intro v I z S;refine zN ?_;intro y J D S;exact zZ
 ·subst h;rw[cC (Int.lt_irrefl b),tS,cF rfl,tR];by_cases h2:a<c
  all_goals
   refine zI func177 ?_;refine zN ?_;intro v I z S;refine zN ?_;intro y J D S;refine zX ?_;exact⟨by simp[h2],S.out⟩
 ·rw[cC (show ¬b<d by omega),tS,cC (show ¬b=d by omega),nz];refine zI func177 ?_;refine zN ?_;intro v I z S;refine zN ?_;intro y J D S;exact zZ
theorem FI.start(D:1<=gw/\gw<=1024)(v:1<=gh/\gh<=1024)(z:r.ok gw gh):FI gw gh V r want [Bg gw gh] 0 0 false :=
 ⟨(RI.start (V:=V) D v z).st,λh=>(by cases h),λx y I _=>.inr ⟨_,dM.2 rfl,by have:=z.cell I;exact AK D v this.1 this.2⟩⟩
theorem Ir(hw:1<=gw/\gw<=1024)(hh:1<=gh/\gh<=1024)(hr:r.ok gw gh)(al:∀(v:RG)w,eL w cb t lc->Fn prog f [.agg #[ii v.lo,ii v.hi],pt cb] w (dp (.bool (want v)) w))(aN:W9 want)(hP:iM W yb gw gh V)(hH:SH W gw gh sb yb r (.blk cb t lc::T) [Bg gw gh] w):Fn prog 100 [pt sb,.func (.func f) #[] #[pt cb]] w
   (λu w'=>∃(bx by_:Nat)(B:Bool),u=.tuple #[.agg #[ii bx,ii by_],.bool B]/\JM gw V r want bx by_ B/\St No W w' (.blk cb t lc::T)):=by
 have bv:=lI hw.2 hh.2;have aF:=fP (n:=5) om (show fW gw gh-1<=10 by omega);have ak:=FI.start (V:=V) (want:=want) hw hh hr;obtain⟨y,D,S⟩:=hH;refine zI func100 ?_;refine yA ?_;intro J I _ S;refine zK (AJ (l:=[Bg gw gh]) hw hh (λn hn=>(ak.st n hn).1) (by show 1<=1000000000;omega) hP ⟨y,D,S.pick 5 [2,3,0,1,4] rfl rfl rfl⟩) ?_;rintro _ bB ⟨a,v,B,l',rfl,O,y,D,S⟩;have S:=S.pick 5 [2,3,0,1,4] rfl rfl rfl;refine zN ?_;intro am bC bu S;refine zN ?_;intro ap aZ aS S;refine zS ?_;intro ba S;have S:=S.pick 7 [4,5,1,0,2,3,6] rfl rfl rfl
 refine dl (λm e w=>∃(l l':List Nd)(a:Nat->Int)(v:RG)(bx by_:Nat)(B fd:Bool)(b8 b9:Nat),Xo gw gh V l a v B l'/\FI gw gh V r want l bx by_ fd/\(rW l<=m/\m<=9765625) /\
  SL e [(0,pt sb),(1,.func (.func f) #[] #[pt cb]),(4,pt J),(6,pt I),(7,.bool fd),(8,pt b8),(9,pt b9),(10,.bool B)] /\
  SH W gw gh sb yb r (.blk b8 292 (Wn a)::.blk b9 153 [ii v.lo,ii v.hi]::.blk I 26 [ii bx,ii by_]::.blk J 26 [ii 0,ii 0]::.blk cb t lc::T) l' w) (5^(fW gw gh-1))
  ⟨_,l',a,v,0,0,B,false,am,ap,O,ak,⟨by rw[xR];exact cN _,aF⟩,sl,y,D,S⟩ ?_
 clear S O ak;rintro m e w ⟨l,l',a,v,bx,by_,B,fd,b8,b9,O,hI,hm,aj,y,D,S⟩;rw[aj.fold];rcases O with⟨rfl,rfl,rfl⟩|⟨rfl,n,rfl,ha,rfl⟩
 ·skip;refine yA ?_;intro _ S;exact pG S ⟨bx,by_,fd,rfl,hI.done,S.drop 6⟩
 ·have hn:=hI.st n (by simp);have hs:=Nd.span_ok hw.1 hh.1 hn.1;have aE:=λw=>E6 (W:=w) (n.span gw gh) r (hs.far hw.2 hh.2) (hr.far hw.2 hh.2);have aO:(n.span gw gh).mt r=[ii ((n.span gw gh).meet r).x0,ii ((n.span gw gh).meet r).y0,ii ((n.span gw gh).meet r).x1,ii ((n.span gw gh).meet r).y1]:=by unfold Rc.mt;rw[a7 hn.2];rfl
  have U:n.cells gw gh=[ii n.k,ii n.x,ii n.y,ii (n.span gw gh).x0,ii (n.span gw gh).y0,ii (n.span gw gh).x1,ii (n.span gw gh).y1]:=rfl;have aP:=DL l' [n];rw[xR]at aP;have aW:=wC l';have bz:=ic (a:=5) (n:=n.k) om;have aa:=λw h=>al (n.rg gw gh V) w h;have ad:=λw=>Oh (W:=w) ((n.span gw gh).meet r).x0 ((n.span gw gh).meet r).y0 bx by_;obtain⟨B2,ag⟩:∃B2,GH ((n.span gw gh).meet r).x0 ((n.span gw gh).meet r).y0 bx by_=B2:=⟨_,rfl⟩;obtain⟨B1,ae⟩:∃B1,want (n.rg gw gh V)=B1:=⟨_,rfl⟩;rw[aO]at aE;rw[ha,U]at S;rw[ae]at aa;rw[ag]at ad;have Z:(B1=false\/(fd=true/\B2=false))->FI gw gh V r want l' bx by_ fd:=λh=>h.elim (λe=>hI.skip1 hr aN (ae.trans e)) (λe=>hI.skip2 e.1 (ag.trans e.2));have aB:n.k=0->B1=true->(fd=false\/B2=true)->FI gw gh V r want l' ((n.span gw gh).meet r).x0 ((n.span gw gh).meet r).y0 true:=λhk e h=>hI.hit hr hk (ae.trans e) (h.imp id (ag.trans ·));have aD:=λhk T w hH=>Ru (W:=W) (w:=w) (sb:=sb) (T:=T) n hk hw hh hn.1 hr (show rW l'<=100000000 by omega) hP hH;have ai:=λhk l2 h1 h2 h3=>hI.kids (l':=l2) hk hr hw.1 hh.1 h1 h2 h3;generalize bw:(n.span gw gh).meet r=mm at *;generalize bA:n.span gw gh=sp at *;refine z ?_;refine zc ?_;refine jr rfl ?_;refine zc ?_;refine gO ?_;try show CW _ _ _ _ _ _
  refine zc ?_;refine k0 ?_;refine zc ?_;refine IP (C:=(CA _ _ _ 24 [ii 0,ii 0,ii 0,ii 0] [ii mm.x0,ii mm.y0,ii mm.x1,ii mm.y1])) [10,11] [0,1,2,3,4,5,6,7,8,9,10,11] [12] (by kernel_rfl) (by kernel_rfl) (CA.start (S.gr (Gr.drew _))) ?_;simp only[kz,iS,dK,dR];refine ot rfl (du Y3 rfl yr rfl rfl) ?_;refine qo rfl (λτ wq hq=>fx xa rfl (yr _) rfl (hq.st.blk (i:=2) rfl) rfl rfl) ?_;refine ot rfl (cH rfl) ?_;refine ot rfl (cH rfl) ?_;refine ot rfl (du ZF rfl yr rfl rfl) ?_;refine qo rfl (λτ wq hq=>fx xa rfl (yr _) rfl (hq.st.blk (i:=0) rfl) rfl rfl) ?_;refine jH rfl rfl (λτ wq hq=>(aE wq).mono (λ_ _⟨hv,hg⟩=>⟨hv,hq.gr hg⟩)) ?_;refine ot rfl (cH rfl) ?_;refine ot rfl (cH rfl) ?_;refine ot rfl (cH rfl) ?_;refine de rfl rfl (λwq hq=>kG hq Ac rfl) ?_;rintro aX bp ⟨bt,rfl,_⟩;refine de rfl rfl (λwq hq=>kH hq (yr _) rfl rfl rfl rfl rfl) ?_;rintro aY bq _;refine IO ?_;rintro br aH;obtain⟨aR,aq,S⟩:=aH.fin;cases aq
  refine cq (cH rfl) ?_;first|refine eF ?_|(refine di ?_;show CW _ _ _ _ _ _)|refine di ?_
  repeat refine dm ?_
  refine dz ?_;refine cq (du xa rfl cR rfl rfl) ?_;refine dH (cV cw rfl rfl (S.blk (i:=0) rfl) rfl) ?_;refine cq (du xa rfl cR rfl rfl) ?_;refine dH (cV cw rfl rfl (S.blk (i:=0) rfl) rfl) ?_;refine cq (kL (pl:=[(0,1),(1,1)]) q9 Za (λw=>by kernel_rfl) rfl rfl) ?_;refine kq (jV Za rfl) S ?_;intro aQ bb aT S;refine Z1 0 S ?_;intro L S;first|refine eF ?_|(refine di ?_;show CW _ _ _ _ _ _)|refine di ?_
  repeat refine dm ?_
  refine T6 (M:=λe w=>∃(l2:List Nd)(ab ac:Nat)(f2:Bool),FI gw gh V r want l2 ab ac f2/\rW l2<m/\SL e [(0,pt sb),(1,.func (.func f) #[] #[pt cb]),(4,pt J),(6,pt I),(7,.bool f2),(8,pt b8),(9,pt b9)]/\SH W gw gh sb yb r (.blk b8 292 (n.cells gw gh)::.blk b9 153 [ii (n.rg gw gh V).lo,ii (n.rg gw gh V).hi]::.blk I 26 [ii ab,ii ac]::.blk J 26 [ii 0,ii 0]::.blk cb t lc::T) l2 w) ?_ ?_
  ·cases B1
   ·skip;refine z ?_;refine z ?_;refine ju rfl rfl (aa L (S.blk (i:=8) rfl)) ?_;rintro _ bc ⟨rfl,ar⟩;have S:=S.gr ar;refine zg ?_;rw[<-U]at S;exact⟨l',bx,by_,fd,Z (.inl rfl),om,sl,y,D,S.drop 2⟩
   ·by_cases aG:fd=true/\B2=false
    ·obtain⟨rfl,rfl⟩:=aG;refine z ?_;refine z ?_;refine ju rfl rfl (aa L (S.blk (i:=8) rfl)) ?_;rintro _ aI ⟨rfl,au⟩;have S:=S.gr au;iterate 6 refine z ?_
     refine dr rfl ?_;refine eY rfl (ad aI) ?_;rintro _ be ⟨rfl,av⟩;have S:=S.gr av;refine zg ?_;rw[<-U]at S;exact⟨l',bx,by_,true,Z (.inr ⟨rfl,rfl⟩),om,sl,y,D,S.drop 2⟩
    ·have ah:fd=false\/(fd=true/\B2=true):=by
      cases fd<;>cases B2<;>simp at aG ⊢
     by_cases hk:n.k=0
     ·have aJ:=aB hk rfl (ah.imp id And.right);rcases ah with rfl|⟨rfl,rfl⟩
      all_goals
       refine z ?_;refine z ?_;refine ju rfl rfl (aa L (S.blk (i:=8) rfl)) ?_;rintro _ bf ⟨rfl,aw⟩;have S:=S.gr aw;iterate 6 refine z ?_
       first|refine eD rfl ?_|(refine dr rfl ?_;refine eY rfl (ad _) ?_;rintro _ w9 ⟨rfl,g9⟩;have S:=S.gr g9)
       (iterate 6 refine z ?_);refine zf ?_;refine z ?_;refine z ?_;refine Z1 6 S ?_;intro bg S;refine z ?_;refine ze ?_;rw[<-U]at S;exact⟨l',mm.x0,mm.y0,true,aJ,om,sl,y,D,S.drop 2⟩
     ·have aK:=aD hk;have aC:=ai hk;rw[<-U]at S;rcases ah with rfl|⟨rfl,rfl⟩
      all_goals
       refine z ?_;refine z ?_;refine ju rfl rfl (aa L (S.blk (i:=8) rfl)) ?_;rintro _ bh ⟨rfl,az⟩;have S:=S.gr az;iterate 6 refine z ?_
       first|refine eD rfl ?_|(refine dr rfl ?_;refine eY rfl (ad _) ?_;rintro _ w9 ⟨rfl,g9⟩;have S:=S.gr g9)
       (iterate 6 refine z ?_);refine zt ?_;iterate 3 refine z ?_
       refine eY rfl (aK _ _ ⟨y,D,S.drop 2⟩) ?_;rintro _ bi ⟨rfl,l2,⟨y,D,S⟩,k1,k2,k3,k4⟩;refine ze ?_;exact⟨l2,bx,by_,_,aC l2 k1 k2 k3,om,sl,y,D,S⟩
  ·rintro e w ⟨l2,ab,ac,f2,aA,aM,aj,y,D,S⟩;refine zg ?_;rw[aj.fold];have aL:=wC l2;repeat refine dm ?_
   refine dz ?_;refine dH (fx Y3 rfl (Zg _) rfl (S.blk (i:=2) rfl) rfl rfl) ?_;refine dH (fx YQ rfl (YS _) rfl (S.blk (i:=3) rfl) rfl rfl) ?_;first|refine eF ?_|(refine di ?_;show CW _ _ _ _ _ _)|refine di ?_
   repeat refine dm ?_
   refine dz ?_;refine kq (jV ZJ rfl) S ?_;intro an bj aU S;refine zS ?_;intro bk S;refine zN ?_;intro ao bl aV S;refine zS ?_;intro bm S;refine zK (AJ (l:=l2) hw hh (λn hn=>(aA.st n hn).1) om hP ⟨y,D,S.pick 4 [2,3,1,0] rfl rfl rfl⟩) ?_;rintro _ bn ⟨a,v,B,l3,rfl,O,y,D,S⟩;have S:=S.pick 4 [3,2,0,1] rfl rfl rfl;refine zS ?_;intro bo S;have S:=(S.pick 9 [4,5,2,3,1,0,6,7,8] rfl rfl rfl).drop 2;exact⟨rW l2,aM,l2,l3,a,v,ab,ac,B,f2,an,ao,O,aA,⟨cN _,om⟩,sl,y,D,S⟩
def CY(gw:Nat)(V:List Int)(r:Rc)(z:Int)(x y:Nat):Prop:=(r.has x y/\V.getD (y*gw+x) 0=z)/\∀x' y',r.has x' y'->z<=V.getD (y'*gw+x') 0/\(V.getD (y'*gw+x') 0=z->y<y'\/(y=y'/\x<=x'))
def E9(gw:Nat)(V:List Int)(r:Rc)(z:Int)(x y:Nat):Prop:=(r.has x y/\V.getD (y*gw+x) 0=z)/\∀x' y',r.has x' y'->V.getD (y'*gw+x') 0<=z/\(V.getD (y'*gw+x') 0=z->y<y'\/(y=y'/\x<=x'))
theorem Oi(u v a b:Int)(D:eL W cb 153 [ii a,ii b]):Fn prog 101 [.agg #[ii u,ii v],pt cb] W (dp (.bool (decide (u<=a))) W):=by
 have S:=St.start W;refine zI func101 ?_;refine zN ?_;intro y I z S;refine zL (D.gr S.out) ?_;exact zZ
theorem Oj(u v a:Int)(D:eL W cb 2 [ii a]):Fn prog 178 [.agg #[ii u,ii v],pt cb] W (dp (.bool (decide (v>=a))) W):=by
 have S:=St.start W;refine zI func178 ?_;refine zN ?_;intro y I z S;refine zL (D.gr S.out) ?_;exact zZ
theorem LP(x0 y0 x1 y1:Int)(hw:1<=gw/\gw<=1024)(hh:1<=gh/\gh<=1024)(y:dF x0 y0 x1 y1 gw gh≠0)(Z:iM W yb gw gh V) :
  Fn prog 49 [pt yb,.agg #[ii x0,ii y0,ii x1,ii y1]] W (dp (.tuple #[ii 0,.agg #[ii 0,ii 0],ii (dF x0 y0 x1 y1 gw gh)]) W):=by
 have v:=λw=>An (W:=w) (V:=V) (yb:=yb) x0 y0 x1 y1 hw hh y;generalize dF x0 y0 x1 y1 gw gh=e at *;have S:=St.start W;refine zI func49 ?_;refine zN ?_;intro D aa J S;refine zN ?_;intro z ab L S;refine zC (v _ (Z.gr S.out)) ?_;intro ac O S;refine zN ?_;intro I ad U S;refine zS ?_;intro ae S;exact tm q9 rfl (ya _) rfl (S.blk (i:=1) rfl) rfl rfl rfl rfl ⟨rfl,S.out⟩
theorem Sh(hB:vB V)(hw:1<=gw/\gw<=1024)(hh:1<=gh/\gh<=1024)(hr:r.ok gw gh)(Z:iM W yb gw gh V) :
  Fn prog 49 [pt yb,.agg r.cells.toArray] W (λu w'=>∃(z:Int)(x y:Nat),u=.tuple #[ii z,.agg #[ii x,ii y],ii 0]/\CY gw V r z x y/\Gr W w'):=by
 have aa:=λw(g:Gr W w)=>DM hw hh hr (Z.gr g);have ac:=λw(g:Gr W w)=>DN hB hw hh hr (Z.gr g);unfold Rc.cells at *;have S:=St.start W;refine zI func49 ?_;refine zN ?_;intro al aq an S;refine zN ?_;intro ak ar ao S;refine zK (ac _ S.out) ?_;rintro _ au ⟨D,rfl,hR,g9⟩;have S:=S.gr g9;refine zN ?_;intro am av ap S;refine zS ?_;intro aw S;refine zK (aa _ S.out) ?_;rintro _ az ⟨sb,rfl,J,L,S2⟩;have S:=S.app S2;refine zK (Ir (want:=λv=>decide (v.lo<=D.lo)) hw hh hr (λv w h=>Oi v.lo v.hi D.lo D.hi h) (λv z h1 h2 h3=>by rw[cT]at h3 ⊢;exact uP h1 h3) Z ⟨J,L,S⟩) ?_;rintro _ ae ⟨x,y,B,rfl,U,S⟩;refine zN ?_;intro aj ag ad S;refine zS ?_;intro ah S;refine zF [0,1,2,3] [4,5] ?_;refine zS ?_;intro ai S;obtain⟨h1,⟨u1,u2,hu,hv⟩,_⟩:=hR;have O:=U.2 u1 u2 hu (by rw[cT];exact r9 hv);have I:=U.1 O.1;rw[cT]at I;have ab:=h1 _ _ I.1;have hz:V.getD (y*gw+x) 0=D.lo:=Int.le_antisymm I.2 ab.1;exact tm q9 rfl (ya _) rfl (S.blk (i:=2) rfl) rfl rfl rfl rfl ⟨D.lo,x,y,rfl,⟨⟨I.1,hz⟩,λx' y' hc=>⟨(h1 x' y' hc).1,λe=>(U.2 x' y' hc (by rw[cT];exact r9 e)).2⟩⟩,S.out⟩
theorem Ok(z:Int)(hw:1<=gw/\gw<=1024)(Z:1<=gh/\gh<=1024)(hr:r.ok gw gh)(U:iM W yb gw gh V) :
  Fn prog 102 [pt yb,.agg r.cells.toArray,ii z] W (λu w'=>∃(x y:Nat)(B:Bool),u=.tuple #[.agg #[ii x,ii y],.bool B,ii 0]/\JM gw V r (λv=>decide (v.hi>=z)) x y B/\Gr W w'):=by
 have J:=λw(g:Gr W w)=>DM hw Z hr (U.gr g);unfold Rc.cells at *;have S:=St.start W;refine zI func102 ?_;refine zN ?_;intro ae ak ah S;refine zN ?_;intro ag al ai S;refine zN ?_;intro ad am aj S;refine zK (J _ S.out) ?_;rintro _ an ⟨sb,rfl,D,I,S2⟩;have S:=S.app S2;refine zK (Ir (want:=λv=>decide (v.hi>=z)) hw Z hr (λv w h=>Oj v.lo v.hi z h) (λv z' h1 h2 O=>by rw[cT]at O ⊢;dsimp only at O ⊢;omega) U ⟨D,I,S.pick 5 [0,1,3,2,4] rfl rfl rfl⟩) ?_;rintro _ ao ⟨x,y,B,rfl,hF,S⟩;refine zN ?_;intro ac aa L S;refine zS ?_;intro ab S;exact qj q9 rfl (ya _) rfl (S.blk (i:=2) rfl) rfl rfl rfl rfl ⟨x,y,B,rfl,hF,S.out⟩
theorem Ol(x0 y0 x1 y1:Int)(hw:1<=gw/\gw<=1024)(hh:1<=gh/\gh<=1024)(y:dF x0 y0 x1 y1 gw gh≠0)(Z:iM W yb gw gh V) :
  Fn prog 50 [pt yb,.agg #[ii x0,ii y0,ii x1,ii y1]] W (dp (.tuple #[ii 0,.agg #[ii 0,ii 0],ii (dF x0 y0 x1 y1 gw gh)]) W):=by
 have v:=λw=>An (W:=w) (V:=V) (yb:=yb) x0 y0 x1 y1 hw hh y;generalize dF x0 y0 x1 y1 gw gh=e at *;have S:=St.start W;refine zI func50 ?_;refine zN ?_;intro D aa J S;refine zN ?_;intro z ab L S;refine zC (v _ (Z.gr S.out)) ?_;intro ac O S;refine zN ?_;intro I ad U S;refine zS ?_;intro ae S;exact tm q9 rfl (ya _) rfl (S.blk (i:=1) rfl) rfl rfl rfl rfl ⟨rfl,S.out⟩
theorem UJ(hB:vB V)(hw:1<=gw/\gw<=1024)(hh:1<=gh/\gh<=1024)(hr:r.ok gw gh)(hP:iM W yb gw gh V) :
  Fn prog 50 [pt yb,.agg r.cells.toArray] W (λu w'=>∃(z:Int)(x y:Nat),u=.tuple #[ii z,.agg #[ii x,ii y],ii 0]/\E9 gw V r z x y/\Gr W w'):=by
 have O:=λw z(g:Gr W w)=>Ok (W:=w) z hw hh hr (hP.gr g);have Z:=λw(g:Gr W w)=>DN hB hw hh hr (hP.gr g);unfold Rc.cells at *;have S:=St.start W;refine zI func50 ?_;refine zN ?_;intro ah am aj S;refine zN ?_;intro ag an ak S;refine zK (Z _ S.out) ?_;rintro _ ao ⟨v,rfl,hR,g9⟩;have S:=S.gr g9;refine zN ?_;intro ai ap al S;refine zS ?_;intro aq S;refine zK (O _ v.hi S.out) ?_;rintro _ ar ⟨x,y,B,rfl,L,I⟩;have S:=S.gr I;refine zN ?_;intro ae ab aa S;refine zS ?_;intro ac S;refine zF [0,1,2,3] [4,5] ?_;refine zS ?_;intro ad S;obtain⟨h1,_,⟨u1,u2,hu,hv⟩⟩:=hR;have J:=L.2 u1 u2 hu (by rw[cT];exact r9 hv.symm);have D:=L.1 J.1;rw[cT]at D;have U:=h1 _ _ D.1;have hz:V.getD (y*gw+x) 0=v.hi:=Int.le_antisymm U.2 D.2;exact tm q9 rfl (ya _) rfl (S.blk (i:=2) rfl) rfl rfl rfl rfl ⟨v.hi,x,y,rfl,⟨⟨D.1,hz⟩,λx' y' hc=>⟨(h1 x' y' hc).2,λe=>(L.2 x' y' hc (by rw[cT];exact r9 e.symm)).2⟩⟩,S.out⟩
end
def xU(N M i:Nat):Nat:=(2*(M*i)+N)/(2*N)
def rm(ax ay:Int)(r:TX)(i:Nat):Int×Int:=(ax+i*r.ux+xU r.n.toNat r.m.toNat i*r.vx,ay+i*r.uy+xU r.n.toNat r.m.toNat i*r.vy)
def vX(ax ay bx cy:Int):List (Int×Int):=(List.range ((jh ax ay bx cy).n.toNat+1)).map (rm ax ay (jh ax ay bx cy))
theorem UK{M rest:Nat}(h:rest+2*(N*j)=N+2*(M*i))(v:rest<2*N):xU N M i=j:=by
 unfold xU;rw[show 2*(M*i)+N=rest+2*N*j by rw[oc];omega,Nat.add_mul_div_left _ _ om,ee v,eH]
theorem Om(N M:Nat):xU N M 0=0:=by
 unfold xU;rcases iZ N with rfl|h
 ·simp
 ·exact ee om
theorem On(ax ay bx cy:Int)(hg:gw<=1024/\gh<=1024)(ha:mD gw gh (ax,ay)=true)(hb:mD gw gh (bx,cy)=true) :
  Fn prog 181 [.agg #[ii ax,ii ay],.agg #[ii bx,ii cy]] W (jc (λs=>.tuple #[s,ii 0]) 26 2 ((jh ax ay bx cy).n.toNat+1) (eT (vX ax ay bx cy)) W):=by
 have au:=jT.1 ha;have av:=jT.1 hb;dsimp only at au av;have ab:=λw=>Rh (W:=w) ax ay bx cy om om om om;have an:=λw=>KW (W:=w) ax ay bx cy om om om om;unfold vX;obtain⟨r,hr⟩:∃r,jh ax ay bx cy=r:=⟨_,rfl⟩;obtain⟨N,M,eN,eM,aX,hN,hd,am⟩:=Js ha hb hr;rw[hr]at ab an ⊢;have ae:∀i:Nat,rm ax ay r i=(ax+i*r.ux+xU N M i*r.vx,ay+i*r.uy+xU N M i*r.vy):=λi=>by unfold rm;rw[eN,eM,b7,b7]
 obtain⟨f,hf⟩:∃f,rm ax ay r=f:=⟨_,rfl⟩;rw[hf]at ae ⊢;obtain⟨n,m,L,O,V,Z⟩:=r;dsimp only at *;subst eN eM;rw[b7];have aA:f 0=(ax,ay):=by rw[ae,Om];simp
 have S:=St.start W;refine zI func181 ?_;refine zN ?_;intro ah bc aS S;refine zN ?_;intro ap be aT S;refine zC (ab _) ?_;intro bf aU S;refine zC (an _) ?_;intro bg aV S;refine zN ?_;intro aa bh aW S;refine Z1 0 S ?_;intro bi S;refine z ?_;refine yb S ?_;intro v aI aE S D;refine cq (cH rfl) ?_;first|refine eF ?_|(refine di ?_;show CW _ _ _ _ _ _)|refine di ?_
 repeat refine dm ?_
 refine dz ?_;iterate 2 refine cq (cH rfl) ?_
 first|refine eF ?_|(refine di ?_;show CW _ _ _ _ _ _)|refine di ?_
 repeat refine dm ?_
 refine dz ?_;iterate 2 refine cq (cH rfl) ?_
 first|refine eF ?_|(refine di ?_;show CW _ _ _ _ _ _)|refine di ?_
 repeat refine dm ?_
 refine k0 ?_;repeat refine dm ?_
 refine dl (λm e w=>∃(i j rest:Nat)(v:Option Addr)(y:Nat),i+m=N/\j<=M/\rest+2*(N*j)=N+2*(M*i)/\(rest<2*N\/N=0) /\
   SL e [(2,pt ah),(6,ii N),(8,pt aa),(9,.slice v (i+1) y),(10,ii rest),(26,ii N),(27,ii i)] /\
   St No W w [.row 26 2 v (i+1) y (eT ((List.range (i+1)).map f)),.blk aa 391 [ii N,ii M,ii L,ii O,ii V,ii Z],.blk ap 26 [ii bx,ii cy],.blk ah 26 [ii (ax+i*L+j*V),ii (ay+i*O+j*Z)]]) N
  ⟨0,0,N,v,1,om,om,om,om,sl,by simpa [eT,aA]using S⟩ ?_
 clear S;rintro m e w ⟨i,j,rest,v,y,hi,hj,ag,ba,aD,S⟩;rw[aD.fold];by_cases al:i<N
 ·have aC:M*(i+1)<=M*N:=eZ _ al;rw[nk]at aC;have aw:=jT.1 (am i j om hj);have az:=jT.1 (am (i+1) j al hj);dsimp only at aw az;have aZ:M*(i+1)=M*i+M:=nk M i;have aY:N*(j+1)=N*j+N:=nk N j
  have bb:rest<=4096*1024:=by
   have h1:M*i<=1024*1024:=cE om om;omega
  have ex:ax+(i:Int)*L+j*V+L=ax+((i+1:Nat):Int)*L+j*V:=by rw[Int.natCast_add,j6];omega
  have ey:ay+(i:Int)*O+j*Z+O=ay+((i+1:Nat):Int)*O+j*Z:=by rw[Int.natCast_add,j6];omega
  have ac:∀(j' r':Nat),r'+2*(N*j')=N+2*(M*(i+1))->r'<2*N->eT ((List.range (i+1)).map f)++[ii (ax+((i+1:Nat):Int)*L+j'*V),ii (ay+((i+1:Nat):Int)*O+j'*Z)]=eT ((List.range (i+1+1)).map f):=λj' r' h1 h2=>by
   rw[wr,eG (n:=i+1),fq,i7,ae (i+1),UK h1 h2]
  by_cases aH:2*N<=rest+2*M
  ·have aB:j+1<=M:=by
    rcases eV j M with h|h
    ·exact h
    ·exfalso;have e:j=M:=om;subst e;rw[cD N j]at ag;omega
   have aq:ax+((i+1:Nat):Int)*L+j*V+V=ax+((i+1:Nat):Int)*L+((j+1:Nat):Int)*V:=by rw[show((j+1:Nat):Int)=(j:Int)+1 from rfl,j6 (j:Int)];omega
   have ar:ay+((i+1:Nat):Int)*O+j*Z+Z=ay+((i+1:Nat):Int)*O+((j+1:Nat):Int)*Z:=by rw[show((j+1:Nat):Int)=(j:Int)+1 from rfl,j6 (j:Int)];omega
   have er:(rest:Int)+2*(M:Int)-2*(N:Int)=((rest+2*M-2*N:Nat):Int):=om;refine zt ?_;iterate 3 refine z ?_
   refine eY rfl (Ge (W:=w) _ _ L O om om om om) ?_;rintro _ aJ ⟨rfl,ai⟩;have S:=S.gr ai;rw[ex,ey];refine Z1 3 S ?_;intro ao S;(iterate 3 refine z ?_);(iterate 2 refine zr ?_);(iterate 3 refine z ?_);refine zr ?_;refine zt ?_;refine z ?_;refine z ?_;iterate 2 refine zr ?_
   rw[er];refine cq (cH rfl) ?_;first|refine eF ?_|(refine di ?_;show CW _ _ _ _ _ _)|refine di ?_
   repeat refine dm ?_
   refine dz ?_;refine dH (fx q9 rfl (ya _) rfl (S.blk (i:=3) rfl) rfl rfl) ?_;refine cq (du Y6 rfl ya rfl rfl) ?_;refine dH (fx q9 rfl (ya _) rfl (S.blk (i:=1) rfl) rfl rfl) ?_;refine eY rfl (Ge (W:=ao) _ _ V Z om om om om) ?_;rintro _ aK ⟨rfl,aj⟩;have S:=S.gr aj;rw[aq,ar];refine zS ?_;intro aL S;refine yb S ?_;intro ad aM aF S U;refine ZP 1 0 S ?_;intro I J aN S D;refine zg ?_;have S:=S.drop 1;rw[ac (j+1) (rest+2*M-2*N) om om]at S;exact⟨m-1,om,i+1,j+1,rest+2*M-2*N,I,J,om,aB,om,om,sl,S⟩
  ·have er:(rest:Int)+2*(M:Int)=((rest+2*M:Nat):Int):=om;refine zt ?_;iterate 3 refine z ?_
   refine eY rfl (Ge (W:=w) _ _ L O om om om om) ?_;rintro _ aO ⟨rfl,ak⟩;have S:=S.gr ak;rw[ex,ey];refine zS ?_;intro aP S;rw[er];refine zg ?_;refine yb S ?_;intro ad aQ aG S U;refine ZP 1 0 S ?_;intro I J aR S D;refine zg ?_;have S:=S.drop 1;rw[ac j (rest+2*M) om om]at S;exact⟨m-1,om,i+1,j,rest+2*M,I,J,om,hj,om,om,sl,S⟩
 ·obtain rfl:i=N:=om;refine zX ?_;exact(S.retNew (i:=0) (mk:=λs=>.tuple #[s,ii 0]) rfl)
theorem UL(z a b i n:Int)(hz:-17179869184<=z/\z<=17179869184)(U:-17179869184<=a/\a<=17179869184)(V:-17179869184<=b/\b<=17179869184)(Z:1<=n/\n<=1024)(hi:0<=i/\i<=n):Fn prog 112 [ii z,ii a,ii b,ii i,ii n] W (dp (.tuple #[.bool (decide ((z-a)*n>(b-a)*i)),ii 0]) W):=by
 have h1:-35184372088832<=(z-a)*n/\(z-a)*n<=35184372088832:=by
  have h2:=fu (show z-a<=34359738368 by omega) (show 0<=n by omega);have I:=fu (show -34359738368<=z-a by omega) (show 0<=n by omega);omega
 have h2:-35184372088832<=(b-a)*i/\(b-a)*i<=35184372088832:=by
  have h2:=fu (show b-a<=34359738368 by omega) (show 0<=i by omega);have I:=fu (show -34359738368<=b-a by omega) (show 0<=i by omega);omega
 have S:=St.start W;refine zI func112 ?_;refine zC (Gf z om) ?_;intro J D S;iterate 2 refine cq (cH rfl) ?_
 first|refine eD rfl ?_|(refine dr rfl ?_;refine cq (cH rfl) ?_)
 refine dr rfl ?_;refine eY rfl (Gf a om) ?_;rintro _ L ⟨rfl,v⟩;have S:=S.gr v;first|refine eD rfl ?_|(refine dr rfl ?_;refine cq (cH rfl) ?_)
 iterate 2 refine cq (cH rfl) ?_
 first|refine eD rfl ?_|(refine dr rfl ?_;refine cq (cH rfl) ?_)
 refine dr rfl ?_;refine eY rfl (Gf b om) ?_;rintro _ O ⟨rfl,y⟩;have S:=S.gr y;exact zZ
theorem Et(ax ay bx cy:Int):((jh ax ay bx cy).uy=0/\(jh ax ay bx cy).vx=0/\((jh ax ay bx cy).ux=1\/(jh ax ay bx cy).ux=-1)/\((jh ax ay bx cy).vy=1\/(jh ax ay bx cy).vy=-1)) \/
  ((jh ax ay bx cy).ux=0/\(jh ax ay bx cy).vy=0/\((jh ax ay bx cy).uy=1\/(jh ax ay bx cy).uy=-1)/\((jh ax ay bx cy).vx=1\/(jh ax ay bx cy).vx=-1)):=by
 have h1:=xP (bx-ax);have h2:=xP (cy-ay);unfold jh;split
 ·exact .inr ⟨rfl,rfl,by dsimp only;omega,by dsimp only;omega⟩
 ·exact .inl ⟨rfl,rfl,by dsimp only;omega,by dsimp only;omega⟩
theorem GI{M:Nat}(h:i<=j):xU N M i<=xU N M j:=by
 have:=eZ M h;exact ji om
theorem AN{s:Int}(v:s=1\/s=-1){a:Nat}(h1:a<=b)(h2:b<=c)(z:Int):((z+a*s<=z+b*s/\z+b*s<=z+c*s)\/(z+c*s<=z+b*s/\z+b*s<=z+a*s)):=by
 rcases v with rfl|rfl<;>omega
theorem UM(ax ay bx cy:Int)(h1:i<=j)(h2:j<=k){x0 y0 x1 y1:Int}(hi:Be x0 y0 x1 y1 (rm ax ay (jh ax ay bx cy) i).1 (rm ax ay (jh ax ay bx cy) i).2=true)(I:Be x0 y0 x1 y1 (rm ax ay (jh ax ay bx cy) k).1 (rm ax ay (jh ax ay bx cy) k).2=true) :
  Be x0 y0 x1 y1 (rm ax ay (jh ax ay bx cy) j).1 (rm ax ay (jh ax ay bx cy) j).2=true:=by
 unfold Be rm at *;simp only[cM,cT]at *;have J:=GI (N:=(jh ax ay bx cy).n.toNat) (M:=(jh ax ay bx cy).m.toNat) h1;have L:=GI (N:=(jh ax ay bx cy).n.toNat) (M:=(jh ax ay bx cy).m.toNat) h2;generalize xU (jh ax ay bx cy).n.toNat (jh ax ay bx cy).m.toNat=q at *;rcases Et ax ay bx cy with⟨v,y,z,D⟩|⟨v,y,z,D⟩
 ·have O:=AN z h1 h2 ax;have S:=AN D J L ay;simp only[v,y,r5,sf]at hi I ⊢;omega
 ·have O:=AN z h1 h2 ay;have S:=AN D J L ax;simp only[v,y,r5,sf]at hi I ⊢;omega
theorem UN(ax ay bx cy:Int)(h:rm ax ay (jh ax ay bx cy) i=rm ax ay (jh ax ay bx cy) j):i=j:=by
 unfold rm at h;simp only[Prod.mk.injEq]at h;rcases Et ax ay bx cy with⟨v,y,z,D⟩|⟨v,y,z,D⟩
 ·rw[v,y]at h;simp only[r5,sf]at h;rcases z with e|e<;>rw[e]at h<;>omega
 ·rw[v,y]at h;simp only[r5,sf]at h;rcases z with e|e<;>rw[e]at h<;>omega
theorem AO(ax ay bx cy:Int):(vX ax ay bx cy).length=(jh ax ay bx cy).n.toNat+1:=by simp[vX]
theorem UO{cy:Int}(h:i<(vX ax ay bx cy).length):(vX ax ay bx cy)[i]?=some (rm ax ay (jh ax ay bx cy) i):=by
 rw[AO]at h;unfold vX;rw[da,eu h];rfl
theorem UP{cy:Int}(J:mD gw gh (ax,ay)=true)(L:mD gw gh (bx,cy)=true):(∀i,i<(vX ax ay bx cy).length->mD gw gh (rm ax ay (jh ax ay bx cy) i)=true)/\((jh ax ay bx cy).n.toNat<gw\/(jh ax ay bx cy).n.toNat<gh):=by
 obtain⟨N,M,y,z,D,I,hd,v⟩:=Js J L rfl;rw[AO,y,b7];refine⟨λi hi=>?_,I⟩;unfold rm;rw[y,z,b7,b7];refine v i (xU N M i) om ?_;unfold xU;rcases iZ N with rfl|O
 ·simp
 ·have:=eZ M (show i<=N by omega);have e:(M+1)*(2*N)=2*(M*N)+2*N:=by rw[cX,Nat.mul_left_comm]
  rw[Nat.le_iff_lt_add_one,sH om,e];omega
structure Bh(w:World)(xb yb gw gh:Nat)(V:List Int)(l:List (Int×Int)):Prop where
 blk:∃lA lc,eL w xb 205 [pt yb,ii gw,ii gh,.slice lA l.length lc]/\Rd w lA (eT l)
 pyr:iM w yb gw gh V
 hin:∀(i:Nat)(c:Int×Int),l[i]?=some c->mD gw gh c=true
 hw:1<=gw/\gw<=1024
 hh:1<=gh/\gh<=1024
 len:l.length<=1024
def yF(gw:Nat)(V:List Int)(c:Int×Int):Int:=V.getD (c.2.toNat * gw+c.1.toNat) 0
def DV(gw gh:Nat)(V:List Int)(k:Nat)(c:Int×Int):Int:=(pm gw gh V k (c.1.toNat/2^k) (c.2.toNat/2^k)).hi
section
variable{yb:Nat}{V:List Int}{l:List (Int × Int)}
theorem Bh.gr(h:Bh W xb yb gw gh V l)(g:Gr W w'):Bh w' xb yb gw gh V l:=by
 obtain⟨⟨lA,lc,h1,h2⟩,v,y,z,D,I⟩:=h;exact⟨⟨lA,lc,h1.gr g,h2.gr g⟩,v.gr g,y,z,D,I⟩
theorem Bh.cell(h:Bh W xb yb gw gh V l){c:Int×Int}(hi:l[i]?=some c):∃x y:Nat,c=((x:Int),(y:Int))/\x<gw/\y<gh:=by
 have v:=jT.1 (h.hin i c hi);obtain⟨x,z⟩:=cJ v.1;obtain⟨y,D⟩:=cJ v.2.2.1;exact⟨x,y,Prod.ext z D,om,om⟩
theorem Is(i:Nat){c:Int×Int}(L:l[i]?=some c)(h:Bh W xb yb gw gh V l):Fn prog (109) [pt xb,ii i] W (dp (ii (yF gw V c)) W):=by
 obtain⟨x,y,rfl,hx,hy⟩:=h.cell L;have hi:=(dq.1 L).1;have aa:=h.len;have ac:=lI h.hw.2 h.hh.2;have J:=λw(g:Gr W w)=>Cr 0 x y h.hw h.hh om (by rw[iR h.hw.1];exact hx) (by rw[iR h.hh.1];exact hy) (h.pyr.gr g);have e0:(pm gw gh V 0 x y).cells=[ii (V.getD (y*gw+x) 0),ii (V.getD (y*gw+x) 0)]:=rfl;rw[e0]at J;show Fn _ _ _ _ (dp (ii (V.getD (y*gw+x) 0)) W);generalize V.getD (y*gw+x) 0=z at *;obtain⟨lA,lc,hX,hL⟩:=h.blk;have U:dO lA:=hL.someA (by rw[xl];omega);have I:((eT l).drop ((i:Int).toNat * 2)).take 2=[ii x,ii y]:=by rw[b7];exact mS L
 have S:=St.start W;refine zI func109 ?_;refine zH (C:=(CA _ _ _ 153 [ii 0,ii 0] [ii z,ii z])) [15,16] [0,1,2,3,4,5,6,7,8,9,10,11,12,13,14,15,16] [17] (CA.start (S.gr (Gr.drew _))) ?_;refine zV (λτ wq v=>(hX.gr v.st.out)) ?_;refine zV (λτ wq v=>(hX.gr v.st.out)) ?_;refine zR ?_;refine qo rfl (λτ wq v=>fb q9 rfl (ya _) rfl (hL.gr v.st.out) I rfl rfl) ?_;refine jH rfl rfl (λτ wq v=>(J wq v.st.out).mono (λ_ _⟨hv,hg⟩=>⟨hv,v.gr hg⟩)) ?_;refine zR ?_;refine de rfl rfl (λwq v=>kG v Zo rfl) ?_;rintro ad ag ⟨ab,rfl,_⟩;refine de rfl rfl (λwq v=>kH v (YS _) rfl rfl rfl rfl rfl) ?_;rintro ae ah _;refine zY ?_;rintro ai O;obtain⟨Z,D,S⟩:=O.fin;cases D
 exact zZ
theorem Oo(k i:Nat){c:Int×Int}(hk:k<fW gw gh)(U:l[i]?=some c)(h:Bh W xb yb gw gh V l):Fn prog (183) [pt xb,ii k,ii i] W (dp (ii (DV gw gh V k c)) W):=by
 obtain⟨x,y,rfl,hx,hy⟩:=h.cell U;have hi:=(dq.1 U).1;have ag:=h.len;have aj:=lI h.hw.2 h.hh.2;have O:=λw=>HJ (W:=w) k x y h.hw h.hh hk hx hy;have J:=λw(g:Gr W w)=>Cr k (x/2^k) (y/2^k) h.hw h.hh hk (sy k hx) (sy k hy) (h.pyr.gr g);have Z:DV gw gh V k (x,y)=(pm gw gh V k (x/2^k) (y/2^k)).hi:=rfl;rw[Z];generalize pm gw gh V k (x/2^k) (y/2^k)=rg at *;generalize x/2^k=X at *;generalize y/2^k=Y at *;unfold RG.cells at J;obtain⟨lA,lc,L,hL⟩:=h.blk;have ac:dO lA:=hL.someA (by rw[xl];omega);have I:((eT l).drop ((i:Int).toNat * 2)).take 2=[ii x,ii y]:=by rw[b7];exact mS U
 have S:=St.start W;refine zI func183 ?_;refine zH (C:=(CA _ _ _ 26 [ii 0,ii 0] [ii X,ii Y])) [20,21] [0,1,2,3,4,5,6,7,8,9,10,11,12,13,14,15,16,17,18,19,20,21] [22] (CA.start (S.gr (Gr.drew _))) ?_;refine zV (λτ wq v=>(L.gr v.st.out)) ?_;refine zV (λτ wq v=>(L.gr v.st.out)) ?_;refine zV (λτ wq v=>(L.gr v.st.out)) ?_;refine zR ?_;refine qo rfl (λτ wq v=>fb q9 rfl (ya _) rfl (hL.gr v.st.out) I rfl rfl) ?_;refine jH rfl rfl (λτ wq v=>(O wq).mono (λ_ _⟨hv,hg⟩=>⟨hv,v.gr hg⟩)) ?_;refine zR ?_;refine de rfl rfl (λwq v=>kG v Za rfl) ?_;rintro ak ao ⟨ah,rfl,_⟩;refine de rfl rfl (λwq v=>kH v (ya _) rfl rfl rfl rfl rfl) ?_;rintro am aq _;refine zY ?_;rintro au aa;obtain⟨ad,z,S⟩:=aa.fin;cases z
 refine zH (C:=(CA _ _ _ 153 [ii 0,ii 0] [ii rg.lo,ii rg.hi])) [10,11] [0,1,2,3,4,5,6,7,8,9,10,11] [12] (CA.start (S.gr (Gr.drew _))) ?_;refine zV (λτ wq v=>(L.gr v.st.out)) ?_;refine zV (λτ wq v=>(v.st.blk (i:=0) rfl)) ?_;refine jH rfl rfl (λτ wq v=>(J wq v.st.out).mono (λ_ _⟨hv,hg⟩=>⟨hv,v.gr hg⟩)) ?_;refine zR ?_;refine de rfl rfl (λwq v=>kG v Zo rfl) ?_;rintro al ap ⟨ai,rfl,_⟩;refine de rfl rfl (λwq v=>kH v (YS _) rfl rfl rfl rfl rfl) ?_;rintro an ar _;refine zY ?_;rintro av ab;obtain⟨ae,D,S⟩:=ab.fin;cases D
 exact zZ
theorem LQ(k s t:Nat){c:Int×Int}(hk:k<fW gw gh)(an:s<=t)(ht:t<l.length)(hc:l[s]?=some c)(h:Bh W xb yb gw gh V l):Fn prog (182) [pt xb,ii k,ii s,ii t] W
  (λu w'=>∃p:Nat,u=ii p/\s<=p/\p<=t/\(∀d,l[p]?=some d->d.1.toNat/2^k=c.1.toNat/2^k/\d.2.toNat/2^k=c.2.toNat/2^k)/\Gr W w'):=by
 obtain⟨x,y,rfl,hx,hy⟩:=h.cell hc;have av:=h.len;have hw:=h.hw;have hh:=h.hh;have aC:=lI hw.2 hh.2;have hn:Nd.ok ⟨k,x/2^k,y/2^k⟩ gw gh:=⟨hk,sy k hx,sy k hy⟩;have ah:=λw=>HJ (W:=w) k x y hw hh hk hx hy;have ag:∀w,Fn prog 129 [ii gw,ii gh,ii k,.agg #[ii (x/2^k:Nat),ii (y/2^k:Nat)]] w (dp (.tuple #[.agg (Nd.span gw gh ⟨k,x/2^k,y/2^k⟩).cells.toArray,ii 0]) w):=λw=>Co (W:=w) k (x/2^k) (y/2^k) hw hh hk hn.2.1 hn.2.2;have am:=Nd.span_ok hw.1 hh.1 hn;have U:=λ{i d}(hi:l[i]?=some d)=>h.cell hi;have J:∀{u v:Nat},u<gw->v<gh->((Nd.span gw gh ⟨k,x/2^k,y/2^k⟩).has u v↔u/2^k=x/2^k/\v/2^k=y/2^k):=λhu hv=>Nd.has hu hv;have Z:=(J hx hy).2 ⟨rfl,rfl⟩;show Fn _ _ _ _ (λu w'=>∃p:Nat,u=ii p/\s<=p/\p<=t/\(∀d,l[p]?=some d->d.1.toNat/2^k=x/2^k/\d.2.toNat/2^k=y/2^k)/\Gr W w');generalize Nd.span gw gh ⟨k,x/2^k,y/2^k⟩=sp at *;generalize x/2^k=X at *;generalize y/2^k=Y at *;have hr:nb (sp.x0:Int) sp.y0 sp.x1 sp.y1=true:=(lO _ _ _ _).2 (by obtain⟨⟨a1,a2⟩,a3,a4⟩:=am;omega);unfold Rc.cells at ag;obtain⟨lA,lc,O,hL⟩:=h.blk;have aq:dO lA:=hL.someA (by rw[xl];omega);have ae:((eT l).drop ((s:Int).toNat * 2)).take 2=[ii x,ii y]:=by rw[b7];exact mS hc
 have S:=St.start W;refine zI func182 ?_;refine zH (C:=(CA _ _ _ 26 [ii 0,ii 0] [ii X,ii Y])) [20,21] [0,1,2,3,4,5,6,7,8,9,10,11,12,13,14,15,16,17,18,19,20,21] [22] (CA.start (S.gr (Gr.drew _))) ?_;refine zV (λτ wq z=>(O.gr z.st.out)) ?_;refine zV (λτ wq z=>(O.gr z.st.out)) ?_;refine zV (λτ wq z=>(O.gr z.st.out)) ?_;refine zR ?_;refine qo rfl (λτ wq z=>fb q9 rfl (ya _) rfl (hL.gr z.st.out) ae rfl rfl) ?_;refine jH rfl rfl (λτ wq z=>(ah wq).mono (λ_ _⟨hv,hg⟩=>⟨hv,z.gr hg⟩)) ?_;refine zR ?_;refine de rfl rfl (λwq z=>kG z Za rfl) ?_;rintro aD aJ ⟨aw,rfl,_⟩;refine de rfl rfl (λwq z=>kH z (ya _) rfl rfl rfl rfl rfl) ?_;rintro aF aL _;refine zY ?_;rintro aN ao;obtain⟨ar,ab,S⟩:=ao.fin;cases ab
 refine zH (C:=(CA _ _ _ 24 [ii 0,ii 0,ii 0,ii 0] [ii sp.x0,ii sp.y0,ii sp.x1,ii sp.y1])) [14,15] [0,1,2,3,4,5,6,7,8,9,10,11,12,13,14,15] [16] (CA.start (S.gr (Gr.drew _))) ?_;refine zV (λτ wq z=>(O.gr z.st.out)) ?_;refine zV (λτ wq z=>(O.gr z.st.out)) ?_;refine zV (λτ wq z=>(z.st.blk (i:=0) rfl)) ?_;refine jH rfl rfl (λτ wq z=>(ag wq).mono (λ_ _⟨hv,hg⟩=>⟨hv,z.gr hg⟩)) ?_;refine zR ?_;refine de rfl rfl (λwq z=>kG z Ac rfl) ?_;rintro aE aK ⟨aa,rfl,_⟩;refine de rfl rfl (λwq z=>kH z (yr _) rfl rfl rfl rfl rfl) ?_;rintro aG aM _;refine zY ?_;rintro aO ap;obtain⟨au,ac,S⟩:=ap.fin;cases ac
 refine zg ?_
 refine dl (λm e w=>∃lo hi:Nat,m=hi-lo/\s<=lo/\lo<=hi/\hi<=t/\(∀d,l[lo]?=some d->d.1.toNat/2^k=X/\d.2.toNat/2^k=Y)/\SL e [(0,pt xb),(11,pt aa),(13,ii lo),(14,ii hi)]/\St No W w [.blk aa 24 [ii sp.x0,ii sp.y0,ii sp.x1,ii sp.y1]]) (t-s)
  ⟨s,t,rfl,om,an,om,λd hd=>(by rw[hc]at hd;cases hd;exact(J hx hy).1 Z),sl,S.sub (.cons_cons _ (.cons _ .slnil))⟩ ?_
 clear S;rintro m e w ⟨lo,hi,rfl,h1,h2,h3,h4,al,S⟩;rw[al.fold];by_cases aB:lo<hi
 ·have em:((lo:Int)+hi+1)/2=(((lo+hi+1)/2:Nat):Int):=om;obtain⟨D,hm⟩:∃q,q=(lo+hi+1)/2:=⟨_,rfl⟩;rw[<-hm]at em;obtain⟨d,hd⟩:∃d,l[D]?=some d:=⟨_,ct om⟩;obtain⟨cx,cy,rfl,ai,aj⟩:=U hd;have I:((eT l).drop ((D:Int).toNat * 2)).take 2=[ii cx,ii cy]:=by rw[b7];exact mS hd
  have L:=λw=>Wb (W:=w) sp.x0 sp.y0 sp.x1 sp.y1 cx cy hr;cases hb:Be sp.x0 sp.y0 sp.x1 sp.y1 cx cy with
  |true =>
   rw[hb]at L;unfold Be at hb;simp only[cM,cT]at hb;have ak:=(J ai aj).1 (by unfold Rc.has;omega);refine zg ?_;rw[em];refine zD [0,1,2,3,4,5,6,7,8] [] ?_;refine zM (λwq z=>(O.gr (S.gr z).out)) ?_;refine zQ ?_;refine fo (λwq z=>fb q9 rfl (ya _) rfl (hL.gr (S.gr z).out) I rfl rfl) ?_;refine zP (λwq z=>L wq) ?_;refine zE ?_;intro aH az S;exact⟨hi-D,om,D,hi,rfl,om,om,om,λd' ad=>(by rw[hd]at ad;cases ad;exact ak),sl,S⟩
  |false =>
   rw[hb]at L;have e2:(D:Int)-1=((D-1:Nat):Int):=om;refine zg ?_;rw[em];refine zD [0,1,2,3,4,5,6,7,8] [] ?_;refine zM (λwq z=>(O.gr (S.gr z).out)) ?_;refine zQ ?_;refine fo (λwq z=>fb q9 rfl (ya _) rfl (hL.gr (S.gr z).out) I rfl rfl) ?_;refine zP (λwq z=>L wq) ?_;refine zE ?_;intro aI aA S;rw[e2];refine zg ?_;exact⟨D-1-lo,om,lo,D-1,rfl,om,om,om,h4,sl,S⟩
 ·skip;refine zX ?_;exact⟨lo,rfl,h1,om,h4,S.out⟩
end
def tP(F:Nat->Prop)(W:World)(L:List HA)(i j k:Nat)(t:TypeId)(z x:Value)(σ:List (Nat×Value))(w:World):Prop :=
 ∃Q1 Q2,(match σ.lookup i with|none=>Q1=[]|some u=>∃b,u=.pointer (some ⟨b,0,none⟩)/\Q1=[.blk b t [if (σ.lookup k).isSome then x else z]])/\(match σ.lookup j with|none=>Q2=[]|some u=>∃b,u=.pointer (some ⟨b,0,none⟩)/\Q2=[.blk b t [z]])/\St F W w (Q1++(Q2++L))
theorem tP.mid_{A B C:List HA}(S:St F W w (A++(B++C))):St F W w (B++(A++C)):=by
 refine S.perm_ ?_;rw[<-cL,<-cL];exact ft.append_right C
section
variable{L:List HA}{z x:Value}
theorem tP.start(S:St F W w L):tP F W L i j k t z x [] w:=⟨[],[],rfl,rfl,S⟩
theorem tP.st(h:tP F W L i j k t z x σ w):St F W w L:=by
 obtain⟨v,y,_,_,S⟩:=h;have:=S.drop (v++y).length;rwa[<-cL,jE]at this
theorem tP.gr(h:tP F W L i j k t z x σ w)(g:Gr w w'):tP F W L i j k t z x σ w':=by
 obtain⟨v,y,h1,h2,S⟩:=h;exact⟨v,y,h1,h2,S.gr g⟩
section
variable{ps:String}
theorem CZ(h:tP F W L i j k t z x σ w)(hi:σ.lookup i=none)(J:σ.lookup k=none)(y:(j==i)=false)(D:(k==i)=false)(U:∀w,(zeroValue t).run P w=.ok zv w)(O:zv.cells.toList=[z]):gI P e ⟨d,.alloc t,ty,ps,af,none⟩ w (λv w'=>tP F W L i j k t z x ((i,v)::σ) w'):=by
 obtain⟨V,I,h1,h2,S⟩:=h;rw[hi]at h1;subst h1;refine gu rfl (kq (jV U O) S (λb w' g S=>⟨[.blk b t [z]],I,?_,?_,S⟩))
 ·simp only[cZ,fE,D,J];exact⟨b,rfl,rfl⟩
 ·simp only[cZ,y];exact h2
theorem C0(h:tP F W L i j k t z x σ w)(J:σ.lookup j=none)(y:(i==j)=false)(D:(k==j)=false)(U:∀w,(zeroValue t).run P w=.ok zv w)(O:zv.cells.toList=[z]):gI P e ⟨d,.alloc t,ty,ps,af,none⟩ w (λv w'=>tP F W L i j k t z x ((j,v)::σ) w'):=by
 obtain⟨I,V,h1,h2,S⟩:=h;rw[J]at h2;subst h2;refine gu rfl (kq (jV U O) S (λb w' g S=>⟨I,[.blk b t [z]],?_,?_,tP.mid_ (A:=[_]) S⟩))
 ·simp only[cZ,y,D];exact h1
 ·simp only[cZ,fE];exact⟨b,rfl,rfl⟩
theorem Eu{p y:Operand}(h:tP F W L i j k t z x σ w)(hi:σ.lookup i=some (pt b))(V:σ.lookup k=none)(v:(i==k)=false)(D:(j==k)=false)(hz:(sizeOf t).run P w=.ok 1 w)(Z:ev e p=pt b)(hy:fz (ev e y)=some x)(hv:x.oneCell'=true)(I:x.cells=#[x]) :
  gI P e ⟨d,.store t p y,ty,ps,af,none⟩ w (λu w'=>tP F W L i j k t z x ((k,u)::σ) w'):=by
 obtain⟨Q1,J,h1,h2,S⟩:=h;rw[hi,V]at h1;obtain⟨b',U,rfl⟩:=h1;cases U
 refine gu rfl (iy (i:=0) S rfl hz Z hy hv I rfl rfl (λw' O=>⟨[.blk b t [x]],J,?_,?_,O⟩))
 ·simp only[cZ,v,hi,fE];exact⟨b,rfl,rfl⟩
 ·simp only[cZ,D];exact h2
end
theorem tP.ia(h:tP F W L i j k t z x σ w)(hi:σ.lookup i=some u):∃b,u=pt b:=by
 obtain⟨v,y,h1,h2,S⟩:=h;rw[hi]at h1;obtain⟨b,e,_⟩:=h1;exact⟨b,e⟩
theorem tP.ja(h:tP F W L i j k t z x σ w)(v:σ.lookup j=some u):∃b,u=pt b:=by
 obtain⟨y,D,h1,h2,S⟩:=h;rw[v]at h2;obtain⟨b,e,_⟩:=h2;exact⟨b,e⟩
theorem tP.fin(h:tP F W L i j k t z x σ w)(hi:σ.lookup i=some (pt b))(D:σ.lookup j=some (pt c))(I:(σ.lookup k).isSome=true):St F W w (.blk b t [x]::.blk c t [z]::L):=by
 obtain⟨J,O,h1,h2,S⟩:=h;rw[hi,I]at h1;rw[D]at h2;obtain⟨b',v,rfl⟩:=h1;obtain⟨c',y,rfl⟩:=h2;cases v
 cases y
 exact S
end
def GJ(k:Nat)(c d:Int×Int):Prop:=d.1.toNat/2^k=c.1.toNat/2^k/\d.2.toNat/2^k=c.2.toNat/2^k
def AP(f t:Nat)(hide:Nat->Bool)(r:Int):Prop:=(r=-1/\∀i,f<=i->i<=t->hide i=false)\/∃i:Nat,r=i/\(f<=i/\i<=t)/\hide i=true/\∀j,f<=j->j<i->hide j=false
theorem AP.uniq{f t:Nat}{hide:Nat->Bool}{r r':Int}(h:AP f t hide r)(h':AP f t hide r'):r=r':=by
 rcases h with⟨rfl,h⟩|⟨i,rfl,h1,h2,D⟩
 ·rcases h' with⟨rfl,_⟩|⟨j,rfl,y,v,z⟩
  ·rfl
  ·rw[h j y.1 y.2]at v;cases v
 ·rcases h' with⟨rfl,h'⟩|⟨j,rfl,y,v,z⟩
  ·rw[h' i h1.1 h1.2]at h2;cases h2
  ·rcases qG i j with e|e|e
   ·rw[z i h1.1 e]at h2;cases h2
   ·rw[e]
   ·rw[D j y.1 e]at v;cases v
section
variable{yb:Nat}{V:List Int}{l:List (Int × Int)}
theorem UQ(v:vB V)(D:1<=gw)(z:1<=gh){c:Int×Int}(y:mD gw gh c=true):-2147483648<=DV gw gh V k c/\DV gw gh V k c<=2147483647:=by
 have h:=jT.1 y;obtain⟨_,⟨cx,cy,_,_,_,_,e⟩⟩:=Ci (V:=V) D z k (c.1.toNat/2^k) (c.2.toNat/2^k) (sy k om) (sy k om);unfold DV;rw[e];exact v _
theorem WF{c d:Int×Int}(hd:mD gw gh d=true)(h:GJ k c d):yF gw V d<=DV gw gh V k c:=by
 have h1:=jT.1 hd;have:=(I5 (V:=V) (cx:=d.1.toNat) (cy:=d.2.toNat) (gw:=gw) (gh:=gh) om om k).2;unfold DV yF;rw[<-h.1,<-h.2];exact this
theorem Si(c:Int×Int):DV gw gh V 0 c=yF gw V c:=by
 unfold DV yF;rw[kX,ig,ig];rfl
theorem LR{hide:Nat->Bool}{may:Int->Nat->Nat->Bool}{cf:Nat->Int×Int}(f t:Nat)(hft:f<=t+1)(ht:t<l.length)(hB:vB V)(h:Bh W xb yb gw gh V l)(hl:∀i,i<l.length->l[i]?=some (cf i))(hcv:∀k i j p:Nat,i<=j->j<=p->p<l.length->GJ k (cf i) (cf p)->GJ k (cf i) (cf j))(hinj:∀i j,cf i=cf j->i=j)(hf:∀w,Gr W w->∀(z:Int)(i j:Nat),(-2147483648<=z/\z<=2147483647)->i<=t->j<=t->Fn prog fid ([]++[ii z,ii i,ii j]++caps) w (dp (.bool (may z i j)) w))(hs:∀(z:Int)(i j x:Nat),i<=x->x<=j->yF gw V (cf x)<=z->hide x=true->may z i j=true)(he:∀i,may (yF gw V (cf i)) i i=hide i) :
  Fn prog (110) [pt xb,ii f,ii t,.func (.func fid) (([]:List Value).toArray) caps.toArray] W (λu w'=>∃r:Int,u=ii r/\AP f t hide r/\Gr W w'):=by
 have hlen:=h.len;have hw:=h.hw;have hh:=h.hh;have hlv:=lI hw.2 hh.2;obtain⟨lA,lc,hX,hL⟩:=h.blk;have S:=St.start W;refine zI func110 ?_;refine zg ?_
 refine dl (λm e w=>∃i k:Nat,m=(t+1-i)*12+k/\f<=i/\i<=t+1/\k<fW gw gh/\(∀j,f<=j->j<i->hide j=false)/\SL e [(0,pt xb),(1,ii i),(2,ii t),(3,.func (.func fid) (([]:List Value).toArray) caps.toArray),(9,ii k)]/\St No W w []) ((t+1-f)*12+0)
  ⟨f,0,rfl,cN _,hft,om,λj h1 h2=>by omega,sl,S⟩ ?_
 clear S;rintro m e w ⟨i,k,rfl,h1,h2,h3,hno,hsl,S⟩;rw[hsl.fold];by_cases hi:i<=t
 ·have hli:=hl i om;have hgi:=h.hin i _ hli;have hmb:=UQ (V:=V) hB hw.1 hh.1 (k:=k) hgi;refine zK (LQ k i t h3 hi ht hli (h.gr S.out)) ?_;rintro _ w1_ ⟨p,rfl,hp1,hp2,hp3,g1_⟩;have S:=S.gr g1_;refine zg ?_;have hpc:=hp3 _ (hl p om);have hms:=hs (DV gw gh V k (cf i)) i p;have hall:∀x,i<=x->x<=p->yF gw V (cf x)<=DV gw gh V k (cf i):=λx a b=>WF (h.hin x _ (hl x om)) (hcv k i x p a b om hpc)
  have hzero:k=0->p=i/\DV gw gh V k (cf i)=yF gw V (cf i):=λe=>by
   subst e;have hgp:=jT.1 (h.hin p _ (hl p om));have hgi:=jT.1 hgi;have hpc:(cf p).1.toNat/2^0=(cf i).1.toNat/2^0/\(cf p).2.toNat/2^0=(cf i).2.toNat/2^0:=hpc;rw[kX,ig,ig,ig,ig]at hpc;exact⟨hinj _ _ (Prod.ext om om),Si _⟩
  have hff:=hf;have hmost:=λw(g:Gr W w)=>Oo k i h3 hli (h.gr g);generalize DV gw gh V k (cf i)=z at *;have ek:min ((k:Int)+1) (((fW gw gh:Nat):Int)-1)=((min (k+1) (fW gw gh-1):Nat):Int):=om;have hfz:=λw(g:Gr W w)=>hf w g z i p hmb hi hp2;cases hm:may z i p with
  |false =>
   rw[hm]at hfz
   have hno2:∀x,f<=x->x<p+1->hide x=false:=λx a b=>by
    rcases eV x i with c|c
    ·exact hno x a c
    ·cases hx:hide x with
     |false=>rfl
     |true=>rw[hms x c om (hall x c om) hx]at hm;cases hm
   refine zC (hmost _ S.out) ?_;intro w2_ g2_ S;refine zg ?_;refine ju rfl rfl (hfz w2_ S.out) ?_;rintro _ w3_ ⟨rfl,g3_⟩;have S:=S.gr g3_;refine zL (hX.gr S.out) ?_;refine zC (zA (h.pyr.gr S.out)) ?_;intro w4_ g4_ S;refine zg ?_;rw[ek];refine zg ?_;exact⟨(t+1-(p+1))*12+min (k+1) (fW gw gh-1),om,p+1,_,rfl,om,om,om,hno2,sl,S⟩
  |true =>
   rw[hm]at hfz;by_cases hk:k=0
   ·obtain⟨rfl,hz⟩:=hzero hk;rw[hz,he]at hm;refine zC (hmost _ S.out) ?_;intro w5_ g5_ S;refine zg ?_;refine ju rfl rfl (hfz w5_ S.out) ?_;rintro _ w6_ ⟨rfl,g6_⟩;have S:=S.gr g6_;refine zX ?_;exact⟨_,rfl,.inr ⟨p,rfl,⟨h1,hi⟩,hm,hno⟩,S.out⟩
   ·have e2:(k:Int)-1=((k-1:Nat):Int):=om;refine zC (hmost _ S.out) ?_;intro w7_ g7_ S;refine zg ?_;refine ju rfl rfl (hfz w7_ S.out) ?_;rintro _ w8_ ⟨rfl,g8_⟩;have S:=S.gr g8_;refine zg ?_;rw[e2];refine zg ?_;exact⟨(t+1-i)*12+(k-1),om,i,k-1,rfl,h1,h2,om,hno,sl,S⟩
 ·skip;refine zX ?_;exact⟨-1,rfl,.inl ⟨rfl,λj a b=>hno j a om⟩,S.out⟩
end
end Go.Proofs.YtceahkcepefcaaaGreatDoor
