/- A part of the proof that hachuretop.WholeErrors returns true at every input; no condition. -/
import Derived.Test.YtceahkcepefcaaaGreatDoorKT
import Derived.Test.YtceahkcepefcaaaGreatDoorKX
set_option maxRecDepth 100000
set_option maxHeartbeats 16000000
set_option linter.unusedVariables false
set_option linter.unusedSimpArgs false
namespace Go.Proofs.YtceahkcepefcaaaGreatDoor
open Go.Proofs.Tryz Go.RowKit
variable{Q:(Nat->Value)->World->Prop}{fs:Array Field}{rs:Array ResultVar}{bd:Code}{Q':Exit->Act->World->Prop}{fd:Field}{f fdo:FuncId}{h h':HA}{X0 X1 Y Y0 Y1 a ax ay bx e0 stamp:Int}{kc kn:IntKind}{es:List (Int × Int)}{σ:List (Nat × Value)}{K:List (Nat × Value)->Act->Prop}{L' L0 M T tl:List HA}{V' V1 V2:List Int}{hd ks:List Nat}{l l2 vs xs:List Value}{N b c c1 c2 cB cK dn g gh gw i j k k' kb lc m n p p2 pb q sb sn tb x0 x1 y0 y1:Nat}{c' cc:Nat->Int}{bs bs2:Nat->Nat}{As:Nat->Option Addr}{Rs2:Nat->Option Nat}{F X:Nat->Prop}{e:Nat->Value}{op:Op}{o:m5}{hi x:Operand}{A A1 A2 B B2 g0 gp l0 lA lp o0 ov p0 pp:Option Addr}{P:Program}{r:Rc}{s s':lT}{name:String}{α:Type}{dd:TypeDesc}{t:TypeId}{u:Value}{R2:Value->Prop}{R:Value->World->Prop}{W w w' w0 wq:World}{C:World->Prop}
section
variable{st0:Int}{l:List Int}
theorem Ux(V:jX w)(D:o.bs.n=l.length)(z:o.bs.n<=o.bs.c)(Z:l.length<=1073741824)(y:Rd w o.bs.A (f9 l)):Fn prog 64 [o.v] w (Gw (λg e=>.tuple #[g,ii e]) w):=by
 obtain⟨ok,aa,ac,ab,ad,ax,ay,bx,L,n,m,vs,⟨bA,bn,bc⟩,bd⟩:=o;dsimp only at D z y;subst D;have S:=St.start w;refine zI func64 ?_;refine zN ?_;intro v ae O S;refine zK (Uk (V.gr S.out) z Z (y.gr S.out)) ?_;rintro _ ag ⟨kA,kn,kc,gp,e,Q,rfl,I,U⟩;have S:=S.app I;refine zg ?_;refine nd rfl rfl ⟨gp,e,Q,rfl,?_,U⟩;have J:=S.sub (L':=Q) (by simp);exact J
def Yo(F:Nat->Prop)(W:World)(sb:Nat)(Z T:List HA)(v:Value)(w':World):Prop :=
 (v=({ code:=10 }:gZ).v/\St F W w' (Z++T))\/∃s':lT,v=gZ.fine.v/\(s'.ok/\s'.sb=sb/\s'.ov=none/\s'.l=[]/\s'.done=0/\s'.stamp=0)/\St F W w' (s'.L++T)
theorem LE(hf:∀w L,St F W w L->Fn prog f [o.v] w (Gw (λg e=>.tuple #[g,ii e]) w))(S:St F W w (.blk sb 71 [.pointer g0,.pointer l0,.pointer o0,ii st0,.pointer p0]::T)) :
  Fn prog (409) [iT false f kb,pt sb,o.v] w (Yo F W sb [.blk sb 71 [.pointer g0,.pointer l0,.pointer o0,ii st0,.pointer p0]] T):=by
 obtain⟨ok,ad,ag,ae,ah,ax,ay,bx,aa,n,m,vs,bs,bd⟩:=o;unfold iT;refine zI func409 ?_;refine zN ?_;intro O ai ab S;refine zN ?_;intro U aj ac S;refine zg ?_;refine ju rfl rfl (hf _ _ S) ?_;rintro _ ak ⟨gp,e,Q,rfl,v,D⟩;have S:=S.app v;refine zg ?_;rcases D with I|⟨I,p,gw,gh,cap,cc,A2,bs2,Rs2,J,y,D⟩
 ·subst I;have S:=St.mid (A:=Q) (B:=[_,_,_]) S;refine zS ?_;intro al S;exact rA S (.inl ⟨rfl,(S.drop 2).sub (.cons_cons _ (iP _ _))⟩)
 ·subst I;subst J;subst D;refine zK (DF y (S.grid (i:=0) rfl)) ?_;rintro _ am ⟨lb,tb,A1,c1,pb,lA,lc,As,cs,rfl,v⟩;have S:=(S.app v);refine zK (yt) ?_;rintro _ an ⟨pp,rfl,v⟩;have S:=S.app v;refine cq (kL (pl:=[(0,1),(1,1),(2,1),(3,1),(4,1)]) YY aaa (λw=>by kernel_rfl) rfl rfl) ?_;refine z ?_;refine Z1 10 S ?_;intro ao S;refine z ?_;refine cq (kL (pl:=[(0,1),(1,1),(2,1),(3,2),(5,1),(6,1),(7,1),(8,1),(9,1)]) eE Zx (λw=>by kernel_rfl) rfl rfl) ?_;refine Z1 8 S ?_;intro V S;refine zq ?_;have Z:=((S.pushNil 248 6).pts0).pick 13 [10,11,12,9,3,4,5,6,7,8,2,1,0] rfl rfl rfl;exact rA S (.inr ⟨⟨sb,p,cap,pp,lb,tb,pb,gw,gh,0,A2,A1,lA,none,none,c1,lc,0,bs2,Rs2,cc,As,cs,[],0⟩,rfl,⟨⟨y,cN _,λx hx=>by cases hx⟩,rfl,rfl,rfl,rfl,rfl⟩,Z.drop 2⟩)
theorem LG:Fn prog 31 [ii 24] W (λv w'=>∃kb,v=.iface 136 (iT false (64) kb)/\St No W w' [.blk kb 3 [ii 24]]):=by
 have S:=St.start W;refine zI func31 ?_;refine zN ?_;intro y D z S;refine zg ?_;refine cq (jn Zs rfl rfl) ?_;refine zX ?_;exact⟨_,rfl,S⟩
theorem RP:xz 24 136 false (64):=by
 intro W;have S:=St.start W;refine zI func21 ?_;refine zK (LG) ?_;rintro _ y ⟨kb,rfl,v⟩;have S:=S.app v;refine zX ?_;exact⟨_,rfl,S⟩
theorem RR(I:o.k=24)(D:∀w L,St F W w L->Fn prog (64) [o.v] w (Gw (λg e=>.tuple #[g,ii e]) w))(S:St F W w (.blk sb 71 [.pointer g0,.pointer l0,.pointer o0,ii st0,.pointer p0]::T)) :
  Fn prog 9 [pt sb,o.v] w (Yo F W sb [.blk sb 71 [.pointer g0,.pointer l0,.pointer o0,ii st0,.pointer p0]] T):=by
 have hd:=Gi (F:=F) (W:=W) (w:=w) (L0:=[]) (tl:=T) (α:=Option { s':lT//s'.ok/\s'.sb=sb/\s'.ov=none/\s'.l=[]/\s'.done=0/\s'.stamp=0 }) (V:=λx=>match x with|none=>{ code:=10 }|some _=>gZ.fine) (Lx:=λx=>match x with|none=>[.blk sb 71 [.pointer g0,.pointer l0,.pointer o0,ii st0,.pointer p0]]|some s'=>s'.1.L) (o:=o) (t:=136) (f:=64) (sb:=sb) (lp:=l0) (op:=o0) (pp:=p0) (gp:=g0) (stamp:=st0) (fdo:=409)
  true false (λh=>by cases h) (I▸RP) (by kernel_rfl) (by kernel_rfl) (by kernel_rfl) Zs rfl
  (λkb J w' S=>(LE D S).mono λv O h=>by
   rcases h with⟨z,y⟩|⟨s',z,hi,y⟩
   ·exact⟨none,z,y⟩
   ·exact⟨some ⟨s',hi⟩,z,y⟩) S
 exact hd.mono λv w'⟨x,z,y⟩=>by
  cases x with
  |none=>exact .inl ⟨z,y⟩
  |some s'=>exact .inr ⟨s'.1,z,s'.2,y⟩
end
noncomputable def Iv(k:Int)(V:List Int)(gw gh:Nat)(x0 y0 x1 y1:Int):Int:=if k=20 then GG V gw gh x0 y0 x1 y1 else if k=21 then(JL V gw gh x0 y0 x1 y1).lo else(JL V gw gh x0 y0 x1 y1).hi
section
variable{k:Int}{V:List Int}{st:Int}
theorem OE(I:20<=k/\k<=22):Fn prog 31 [ii k] W (λv w'=>∃kb,v=.iface 148 (iT true (74) kb)/\St No W w' [.blk kb 3 [ii k]]):=by
 have S:=St.start W;refine zI func31 ?_;refine zN ?_;intro y D z S;refine zg ?_;refine cq (jn oT rfl rfl) ?_;refine zX ?_;exact⟨_,rfl,S⟩
theorem GU(y:20<=k/\k<=22):xz k 148 true (74):=by
 intro W;have S:=St.start W;refine zI func21 ?_;refine zK (OE y) ?_;rintro _ z ⟨kb,rfl,v⟩;have S:=S.app v;refine zX ?_;exact⟨_,rfl,S⟩
theorem WI(hk:20<=k/\k<=22)(hB:vB V)(hw:1<=gw/\gw<=1024)(hh:1<=gh/\gh<=1024)(hS:rl W sn stamp gw gh V)(v:eL W kb 3 [ii k]) :
  Fn prog 74 [pt sn,o.v,pt kb] W (dp (.tuple #[ii (Iv k V gw gh o.x0 o.y0 o.x1 o.y1),ii (dF o.x0 o.y0 o.x1 o.y1 gw gh)]) W):=by
 obtain⟨ok,y,I,D,J,ax,ay,bx,ai,n,m,vs,bs,bd⟩:=o;dsimp only;have ae:=λw(g:Gr W w)=>Iq y I D J hB hw hh (hS.gr g);have aa:=λw(g:Gr W w)=>Og y I D J hw hh (hS.gr g);unfold Iv;generalize dF y I D J gw gh=e at *;generalize GG V gw gh y I D J=z at *;generalize JL V gw gh y I D J=rg at *;have S:=St.start W;have h3:k=20\/k=21\/k=22:=om;rcases h3 with rfl|rfl|rfl
 ·skip;refine zI func74 ?_;refine zN ?_;intro L ab U S;refine zL (v.gr S.out) ?_;refine zC (ae _ S.out) ?_;intro ac Z S;exact zZ
 ·skip;refine zI func74 ?_;refine zN ?_;intro L ab U S;refine zL (v.gr S.out) ?_;refine zC (aa _ S.out) ?_;intro ac Z S;refine zN ?_;intro O ag ad S;refine Z1 0 S ?_;intro ah S;refine cq (cH rfl) ?_;first|refine eF ?_|(refine di ?_;show CW _ _ _ _ _ _)|refine di ?_
  repeat refine dm ?_
  refine dz ?_;refine dH (cV dB rfl rfl (v.gr S.out) rfl) ?_;exact zZ
 ·skip;refine zI func74 ?_;refine zN ?_;intro L ab U S;refine zL (v.gr S.out) ?_;refine zC (aa _ S.out) ?_;intro ac Z S;refine zN ?_;intro O ag ad S;refine Z1 0 S ?_;intro ah S;refine cq (cH rfl) ?_;first|refine eF ?_|(refine di ?_;show CW _ _ _ _ _ _)|refine di ?_
  repeat refine dm ?_
  refine dz ?_;refine dH (cV dB rfl rfl (v.gr S.out) rfl) ?_;exact zZ
theorem Su(hk:20<=k/\k<=22)(Z:vB V)(hw:1<=gw/\gw<=1024)(hh:1<=gh/\gh<=1024)(hS:rl W sn stamp gw gh V)(D:eL W kb 3 [ii k])(y:eL W sb 71 [.pointer g0,.pointer l0,pt sn,ii st,.pointer p0]) :
  Fn prog (413) [iT true (74) kb,pt sb,o.v] W (dp (({ code:=0,n:=Iv k V gw gh o.x0 o.y0 o.x1 o.y1 }:gZ).told (dF o.x0 o.y0 o.x1 o.y1 gw gh)).v W):=by
 have hf:=λw(g:Gr W w)=>WI (o:=o) hk Z hw hh (hS.gr g) (D.gr g);generalize dF o.x0 o.y0 o.x1 o.y1 gw gh=e at *;generalize Iv k V gw gh o.x0 o.y0 o.x1 o.y1=z at *;unfold iT;have S:=St.start W;refine zI func413 ?_;refine zN ?_;intro I aa L S;refine zN ?_;intro J ab O S;refine zD [0,1,2,3,4,5,6,7,8,9,10,11] [] ?_;refine zM (λwq v=>(y.gr (S.gr v).out)) ?_;refine zQ ?_;refine Hw rfl rfl (λwq v=>(hf wq (S.gr v).out).mono (λ_ _⟨hv,hg⟩=>⟨hv,v.trans hg⟩)) ?_;refine zE ?_;intro ac U S;refine zC (o4 (r:={ code:=0,n:=z }) e) ?_;refine zS ?_;intro ad S;exact rA S ⟨rfl,S.out⟩
theorem OF(v:eL W sb 71 [.pointer g0,.pointer l0,.pointer none,ii st,.pointer p0]):Fn prog (414) [iT true (74) kb,pt sb] W (dp (.bool false) W):=by
 unfold iT;have S:=St.start W;refine zI func414 ?_;iterate 4 refine z ?_
 refine dH (cV YU rfl rfl (v.gr S.out) rfl) ?_;refine cq (uS YU rfl rfl) ?_;exact zZ
theorem U3(L:20<=o.k/\o.k<=22)(hB:vB V)(hw:1<=gw/\gw<=1024)(hh:1<=gh/\gh<=1024)(hS:rl W sn stamp gw gh V)(v:eL W sb 71 [pt g,.pointer l0,pt sn,ii st,.pointer p0]) :
  Fn prog 9 [pt sb,o.v] W (dp (({ code:=0,n:=Iv o.k V gw gh o.x0 o.y0 o.x1 o.y1 }:gZ).told (dF o.x0 o.y0 o.x1 o.y1 gw gh)).v W):=by
 have hd:=λkb w(g:Gr W w)hkb=>Su (o:=o) (kb:=kb) L hB hw hh (hS.gr g) hkb (v.gr g);have D:=λw=>GU L w;generalize ({ code:=0,n:=Iv o.k V gw gh o.x0 o.y0 o.x1 o.y1 }:gZ).told (dF o.x0 o.y0 o.x1 o.y1 gw gh)=ag at *;obtain⟨ok,ab,ad,ac,ae,ax,ay,bx,U,n,m,vs,bs,bd⟩:=o;dsimp only at *;unfold iT at *;have S:=St.start W;refine zI func9 ?_;refine zN ?_;intro I ah Z S;refine zN ?_;intro J ai aa S;refine zK (D _) ?_;rintro _ aj ⟨kb,rfl,O⟩;have S:=S.app O;refine zg ?_;refine cq (vO Zb rfl) ?_;refine zg ?_;refine cq (kF (b:=false) Zi rfl (by kernel_rfl) Zn) ?_;refine zg ?_;refine cq (kF (b:=true) Zz rfl (by kernel_rfl) ZC) ?_;refine zg ?_;refine dr rfl ?_;refine o8 rfl (rU (by kernel_rfl) oT rfl) rfl (La (kb:=kb) (v.gr S.out)) ?_;rintro _ ak ⟨rfl,y⟩;have S:=S.gr y;refine zg ?_;refine o8 rfl (rU (by kernel_rfl) oT rfl) rfl (hd kb _ S.out (S.blk (i:=0) rfl)) ?_;rintro _ al ⟨rfl,z⟩;have S:=S.gr z;refine zS ?_;intro am S;exact rA S ⟨rfl,S.out⟩
theorem OG(V:20<=o.k/\o.k<=22)(y:eL W sb 71 [pt g,.pointer l0,.pointer none,ii st,.pointer p0]) :
  Fn prog 9 [pt sb,o.v] W (dp ({ code:=15 }:gZ).v W):=by
 have z:=λw=>GU V w;obtain⟨ok,Z,ab,aa,ac,ax,ay,bx,L,n,m,vs,bs,bd⟩:=o;dsimp only at *;unfold iT at *;have S:=St.start W;refine zI func9 ?_;refine zN ?_;intro D ad O S;refine zN ?_;intro I ae U S;refine zK (z _) ?_;rintro _ ag ⟨kb,rfl,J⟩;have S:=S.app J;refine zg ?_;refine cq (vO Zb rfl) ?_;refine zg ?_;refine cq (kF (b:=false) Zi rfl (by kernel_rfl) Zn) ?_;refine zg ?_;refine cq (kF (b:=true) Zz rfl (by kernel_rfl) ZC) ?_;refine zg ?_;refine dr rfl ?_;refine o8 rfl (rU (by kernel_rfl) oT rfl) rfl (OF (kb:=kb) (y.gr S.out)) ?_;rintro _ ah ⟨rfl,v⟩;have S:=S.gr v;refine zS ?_;intro ai S;exact rA S ⟨rfl,S.out⟩
end
theorem Ey(z:(P.info? t).map (λi=>(i.methods.find? (λm=>m.name==name)).map (λm=>(m.path,m.func)))=some (some (#[⟨t,0,false⟩],some (f,false))))(U:P.underlying t=some (.struct fs))(O:fs[0]?=some fd)(S:fd.offset=0)(v:P.underlying fd.type=some dd)(hd:Ny dd=true)(y:sM dd=false):(method (n+1) t (.agg #[u]) name).run P w=.ok (f,u) w:=by
 obtain⟨i,hi,h1⟩:=fl.1 z;obtain⟨m,z,h2⟩:=fl.1 h1;injection h2 with h3 h4;have I:=dS U w;have J:=dS v w;have D:=si v w;rw[y]at D
 have L:(follow [⟨t,0,false⟩] t (.val (.agg #[u]))).run P w=.ok (fd.type,.val u) w:=by
  simp[follow,I,O,part,D,S]
 rw[method];simp[typeInfo,hi,z,h3,h4,L];cases dd<;>first|(cases hd;done)|simp[receiverAt,J,Place.get]
def JR:Value:=.agg #[.func (.func 73) #[] #[]]
section
variable{st:Int}{z:Value}
theorem L5:Fn prog 31 [ii 19] W (λv w'=>v=.iface 150 JR/\Gr W w'):=by
 unfold JR;have S:=St.start W;refine zI func31 ?_;refine zN ?_;intro y D z S;refine zg ?_;refine cq (jn ZH rfl rfl) ?_;exact zZ
theorem DZ:Fn prog 21 [ii 19] W (λv w'=>v=.iface 150 JR/\Gr W w'):=by
 have z:=λw=>L5 (W:=w);unfold JR at *;have S:=St.start W;refine zI func21 ?_;refine zC (z _) ?_;intro D y S;exact zZ
theorem Iw(b:Bool)(v:eL W sb 71 [.pointer g0,.pointer l0,.pointer o0,ii st,.pointer p0])(y:b=o0.isSome):Fn prog (414) [.func (.func 73) #[] #[],pt sb] W (dp (.bool b) W):=by
 cases o0 with
 |none =>
  cases y
  have S:=St.start W;refine zI func414 ?_;iterate 4 refine z ?_
  refine dH (cV YU rfl rfl (v.gr S.out) rfl) ?_;refine cq (uS YU rfl rfl) ?_;exact zZ
 |some a =>
  cases y
  have S:=St.start W;refine zI func414 ?_;iterate 4 refine z ?_
  refine dH (cV YU rfl rfl (v.gr S.out) rfl) ?_;refine cq (uS YU rfl rfl) ?_;exact zZ
theorem Sw(S:St F W w (.blk sb 71 [.pointer g0,.pointer l0,.pointer o0,ii st,.pointer p0]::T)) :
  Fn prog (415) [JR,pt sb,o.v] w (λv w'=>v=gZ.fine.v/\St F W w' (.blk sb 71 [.pointer g0,.pointer l0,.pointer none,ii st,.pointer p0]::T)):=by
 unfold JR;refine zI func415 ?_;refine zN ?_;intro D O I S;refine zN ?_;intro y U J S;refine zN ?_;intro z V L S;refine zS ?_;intro Z S;exact rA S ⟨rfl,S.drop 3⟩
theorem Sx(O:o.k=19)(S:St F W w (.blk sb 71 [pt g,.pointer l0,pt sn,ii st,.pointer p0]::T)) :
  Fn prog 9 [pt sb,o.v] w (λv w'=>v=gZ.fine.v/\St F W w' (.blk sb 71 [pt g,.pointer l0,.pointer none,ii st,.pointer p0]::T)):=by
 have I:=λw=>DZ (W:=w);have z:=λw T S=>Sw (F:=F) (W:=W) (w:=w) (T:=T) (o:=o) (sb:=sb) (g0:=some ⟨g,0,none⟩) (l0:=l0) (o0:=some ⟨sn,0,none⟩) (st:=st) (p0:=p0) S;have D:=λw h=>Iw (W:=w) (sb:=sb) (g0:=some ⟨g,0,none⟩) (l0:=l0) (o0:=some ⟨sn,0,none⟩) (st:=st) (p0:=p0) true h rfl;obtain⟨ok,ab,ad,ac,ae,ax,ay,bx,U,n,m,vs,bs,bd⟩:=o;dsimp only at O;subst O;unfold JR at *;refine zI func9 ?_;refine zN ?_;intro J ag V S;refine zN ?_;intro L ah Z S;refine zC (I _) ?_;intro ai aa S;refine zg ?_;refine cq (vO Zb rfl) ?_;refine zg ?_;refine cq (kF (b:=false) Zi rfl (by kernel_rfl) Zn) ?_;refine zg ?_;refine cq (kF (b:=true) Zz rfl (by kernel_rfl) ZC) ?_;refine zg ?_;refine dr rfl ?_;refine o8 rfl (Ey (by kernel_rfl) ZH rfl rfl oT rfl rfl) rfl (D _ (S.blk (i:=2) rfl)) ?_;rintro _ aj ⟨rfl,y⟩;have S:=S.gr y;refine zg ?_;refine o8 rfl (rU (by kernel_rfl) ZH rfl) rfl (z _ _ (S.pick 3 [2,0,1] rfl rfl rfl)) ?_;rintro _ ak ⟨rfl,S⟩;have S:=S.pick 3 [1,2,0] rfl rfl rfl;refine zS ?_;intro al S;exact rA S ⟨rfl,S.drop 2⟩
theorem L6(L:o.k=19)(S:St F W w (.blk sb 71 [pt g,.pointer l0,.pointer none,ii st,.pointer p0]::T)) :
  Fn prog 9 [pt sb,o.v] w (λv w'=>v=({ code:=15 }:gZ).v/\St F W w' (.blk sb 71 [pt g,.pointer l0,.pointer none,ii st,.pointer p0]::T)):=by
 have D:=λw=>DZ (W:=w);have z:=λw h=>Iw (W:=w) (sb:=sb) (g0:=some ⟨g,0,none⟩) (l0:=l0) (o0:=none) (st:=st) (p0:=p0) false h rfl;obtain⟨ok,aa,ac,ab,ad,ax,ay,bx,O,n,m,vs,bs,bd⟩:=o;dsimp only at L;subst L;unfold JR at *;refine zI func9 ?_;refine zN ?_;intro I ae U S;refine zN ?_;intro J ag V S;refine zC (D _) ?_;intro ah Z S;refine zg ?_;refine cq (vO Zb rfl) ?_;refine zg ?_;refine cq (kF (b:=false) Zi rfl (by kernel_rfl) Zn) ?_;refine zg ?_;refine cq (kF (b:=true) Zz rfl (by kernel_rfl) ZC) ?_;refine zg ?_;refine dr rfl ?_;refine o8 rfl (Ey (by kernel_rfl) ZH rfl rfl oT rfl rfl) rfl (z _ (S.blk (i:=2) rfl)) ?_;rintro _ ai ⟨rfl,y⟩;have S:=S.gr y;refine zS ?_;intro aj S;exact rA S ⟨rfl,S.drop 2⟩
end
theorem JU{x y:Int}(h:mD gw gh (x,y)=true):∃i,i<gw*gh/\x=(i%gw:Nat)/\y=(i/gw:Nat):=by
 have v:=jT.1 h;dsimp only at v;obtain⟨a,rfl⟩:=cJ v.1;obtain⟨b,rfl⟩:=cJ v.2.2.1;have z:=jo (gw:=gw) (X:=a) (Y:=b) om;have h1:(b+1)*gw<=gh*gw:=cI _ om;rw[cX,cD gh]at h1;exact⟨b*gw+a,om,by rw[z.1],by rw[z.2]⟩
structure Bk(j:Nat)(s:lT)(Q:List HA):Prop where
 ok:s.ok
 q:vY s.ov s.stamp s.gw s.gh s.V Q
 st:0<=s.stamp/\s.stamp<=j
 ln:s.l.length<=j
theorem Bk.le{Q:List HA}(h:Bk i s Q)(v:i<=j):Bk j s Q:=⟨h.ok,h.q,⟨h.st.1,by have:=h.st.2;omega⟩,dE h.ln v⟩
def WQ(sb:Nat)(p0:Option Addr):HA:=.blk sb 71 [.pointer none,.pointer none,.pointer none,ii 0,.pointer p0]
def xV(sb j:Nat)(W w:World)(tl:List HA):Prop:=(∃p0,St No W w (WQ sb p0::tl))\/∃s Q,s.sb=sb/\Bk j s Q/\St No W w ((s.L++Q)++tl)
def GY(sb j:Nat)(W:World)(tl:List HA):Value->World->Prop:=λv w'=>∃r:gZ,v=r.v/\xV sb j W w' tl
structure IC(W:World)(o:m5):Prop where
 n:-9223372036854775808<=o.n/\o.n<=9223372036854775807
 m:-9223372036854775808<=o.m/\o.m<=9223372036854775807
 vs:∃V:List Int,o.vs.n=V.length/\V.length<=9223372036854775807/\Rd W o.vs.A (cY V)
 bs:∃l:List Int,o.bs.n=l.length/\o.bs.n<=o.bs.c/\l.length<=1073741824/\Rd W o.bs.A (f9 l)
 bd:∃xs:List (Int×Int),o.bd.n=xs.length/\o.bd.n<=o.bd.c/\o.bd.n<=9223372036854775807/\Rd W o.bd.A (kI xs)
theorem Mc:Fn prog 31 [ii 27] W (λv w'=>∃kb,v=.iface 114 (iT false (71) kb)/\St No W w' [.blk kb 3 [ii 27]]):=by
 have S:=St.start W;refine zI func31 ?_;refine zN ?_;intro y D z S;refine zg ?_;refine cq (jn Zt rfl rfl) ?_;refine zX ?_;exact⟨_,rfl,S⟩
theorem AS:xz 27 114 false (71):=by
 intro W;have S:=St.start W;refine zI func21 ?_;refine zK (Mc) ?_;rintro _ y ⟨kb,rfl,v⟩;have S:=S.app v;refine zX ?_;exact⟨_,rfl,S⟩
section
variable{st:Int}
theorem OO(D:o.k=19)(U:eL W sb 71 [.pointer none,.pointer l0,.pointer o0,ii st,.pointer p0]) :
  Fn prog 9 [pt sb,o.v] W (dp ({ code:=2 }:gZ).v W):=by
 have v:=λw=>DZ (W:=w);obtain⟨ok,V,aa,Z,ab,ax,ay,bx,I,n,m,vs,bs,bd⟩:=o;dsimp only at D;subst D;unfold JR at *;have S:=St.start W;refine zI func9 ?_;refine zN ?_;intro y ac J S;refine zN ?_;intro z ad L S;refine zC (v _) ?_;intro ae O S;refine zg ?_;refine cq (vO Zb rfl) ?_;refine zg ?_;refine cq (kF (b:=false) Zi rfl (by kernel_rfl) Zn) ?_;refine zS ?_;intro ag S;exact rA S ⟨rfl,S.out⟩
end
section
variable{Q:List HA}
theorem kt{α:Type}{Vr:α->gZ}{Lx:α->List HA}(y:s.sb=sb)(D:Bk j s Q)(c:Bool)(z:xz o.k 114 c f)(J:pQ No W (s.L++Q) s.sb o c f Vr Lx)(I:∀x,(s.L++Q).Sublist (Lx x))(S:St No W w ((s.L++Q)++tl)) :
  Fn prog 9 [pt sb,o.v] w (GY sb (j+1) W tl) :=
 (tj y c z J S).mono λv w'⟨x,hv,S'⟩=>⟨_,hv,.inr ⟨s,Q,y,D.le (lM j),S'.sub ((I x).append (cQ _))⟩⟩
theorem Vi(y:s.sb=sb)(z:Bk j s Q)(D:6<=o.k/\o.k<=11)(S:St No W w ((s.L++Q)++tl)):Fn prog 9 [pt sb,o.v] w (GY sb (j+1) W tl):=by
 have v:=rV D.1 D.2;have I:o.k=6\/o.k=7\/o.k=8\/o.k=9\/o.k=10\/o.k=11:=om;rcases I with h|h|h|h|h|h
 ·exact kt y z true v (PZ h) (λ_=>cQ _) S
 ·exact kt y z true v (WH z.ok z.q h) (λ_=>cQ _) S
 ·exact kt y z true v (P1 z.ok h) (λ_=>cQ _) S
 ·exact kt y z true v (P2 z.ok h) (λ_=>cQ _) S
 ·exact kt y z true v (UU h) (λ_=>cQ _) S
 ·exact kt y z true v (UV z.ok h) (λ_=>cQ _) S
theorem Vj(y:s.sb=sb)(z:Bk j s Q)(hk:12<=o.k/\o.k<=17)(S:St No W w ((s.L++Q)++tl)):Fn prog 9 [pt sb,o.v] w (GY sb (j+1) W tl):=by
 have v:=wt hk.1 hk.2;have hw:=(S.grid (i:=1) rfl).sw;have hh:=(S.grid (i:=1) rfl).sh;have D:s.V.length=s.gw*s.gh:=qf _ _ _;have h6:o.k=12\/o.k=13\/o.k=14\/o.k=15\/o.k=16\/o.k=17:=om;rcases h6 with h|h|h|h|h|h
 ·exact kt y z true v (SF z.ok h) (λ_=>cQ _) S
 ·exact kt y z true v (Vg z.ok h) (λ_=>cQ _) S
 ·exact kt y z true v (Vb o.n (by rw[D];exact cE hw.2 hh.2) ⟨h,rfl⟩) (λ_=>.cons _ (.cons _ (cQ _))) S
 ·cases hi:mD s.gw s.gh (o.ax,o.ay)
  ·exact kt y z true v (ON hi h) (λ_=>cQ _) S
  ·obtain⟨i,I,hx,hy⟩:=JU hi;obtain⟨k,U,aa⟩:=(FG (V:=s.V) hw.1 D).stop I;exact kt y z true v (Vh i k I aa U ⟨h,hx,hy⟩) (λ_=>.cons _ (cQ _)) S
 ·cases hi:mD s.gw s.gh (o.ax,o.ay)
  ·exact kt y z true v (EE (.inl hi) h) (λ_=>cQ _) S
  ·cases J:mD s.gw s.gh (o.bx,o.by_)
   ·exact kt y z true v (EE (.inr J) h) (λ_=>cQ _) S
   ·obtain⟨a,ha,hx,hy⟩:=JU hi;obtain⟨b,hb,ac,ad⟩:=JU J;exact kt y z true v (SG a b z.ok ha hb ⟨h,hx,hy,ac,ad⟩) (λ_=>.cons _ (cQ _)) S
 ·rcases cr ((0<=o.n/\o.n<fW s.gw s.gh)/\(o.m=0\/o.m=1\/o.m=2))with L|L
  ·obtain⟨kk,Z⟩:=cJ L.1.1;obtain⟨ab,O⟩:=cJ (show 0<=o.m by omega);exact kt y z true v (IB kk ab z.ok om om ⟨h,Z,O⟩) (λ_=>.cons _ (cQ _)) S
  ·exact kt y z true v (EF L h) (λ_=>cQ _) S
theorem SI(hT:jX W)(z:s.sb=sb)(y:Bk j s Q)(Z:IC W o)(hk:o.k=18\/o.k=23\/o.k=27)(S:St No W w ((s.L++Q)++tl)):Fn prog 9 [pt sb,o.v] w (GY sb (j+1) W tl):=by
 have O:∀w L,St No W w L->jX w:=λw L S=>hT.gr S.out;rcases hk with h|h|h
 ·refine(tj z false (h▸Ai) (OC y.ok) S).mono λv w'⟨q,hv,S'⟩=>⟨_,hv,.inr ⟨{ s with ov:=some ⟨q.1.1,0,none⟩ },q.1.2,z,⟨⟨y.ok.hB,y.ok.hd,y.ok.hg⟩,vY.frozen y.ok.hB q.2,⟨y.st.1,show s.stamp<=_ by have:=y.st.2;omega⟩,Nat.le_succ_of_le y.ln⟩,?_⟩⟩;refine S'.sub (iQ ?_ (cQ _));exact iQ (cQ _) (List.sublist_append_left _ _)
 ·rcases cr (o.n=3)with I|I
  ·exact kt z y false (h▸AH) (LU O y.ok ⟨h,I⟩) (λ_=>cQ _) S
  ·rcases cr (o.n<0\/2<o.n)with J|J
   ·exact kt z y false (h▸AH) (Ov y.ok ⟨h,I,J⟩) (λ_=>cQ _) S
   ·obtain⟨kk,V⟩:=cJ (show 0<=o.n by omega);exact kt z y false (h▸AH) (Ow O y.ok kk om ⟨h,V⟩) (λ_=>cQ _) S
 ·obtain⟨xs,h1,h2,I,J⟩:=Z.bd;rcases cr (dF o.x0 o.y0 o.x1 o.y1 s.gw s.gh=0)with D|D
  ·obtain⟨⟨x0,y0,x1,y1⟩,U,e0,e1,e2,e3⟩:=nP D;cases hl:tO xs
   ·exact kt z y false (h▸AS) (Sm (λw L S=>J.gr S.out) h1 h2 I hl U.1 U.2 ⟨h,e0,e1,e2,e3⟩) (λ_=>cQ _) S
   ·exact kt z y false (h▸AS) (UW (λw L S=>J.gr S.out) h1 h2 I hl U.1 U.2 ⟨h,e0,e1,e2,e3⟩) (λ_=>.cons _ (cQ _)) S
  ·exact kt z y false (h▸AS) (Ou D h) (λ_=>cQ _) S
theorem OP(J:s.sb=sb)(z:Bk j s Q)(hj:j<40)(ab:IC W o)(hk:2<=o.k/\o.k<=5)(S:St No W w ((s.L++Q)++tl)):Fn prog 9 [pt sb,o.v] w (GY sb (j+1) W tl):=by
 have aa:=wO hk.1 hk.2;have ac:0<=s.stamp/\s.stamp<1000:=by have:=z.st;omega
 have Z:s.l.length<40:=by have:=z.ln;omega
 have ad:=(z.ok).hd;have hw:=(S.grid (i:=1) rfl).sw;have hh:=(S.grid (i:=1) rfl).sh
 have L:∀{X0 Y0 X1 Y1:Int}{V:List Int},V.length<=9223372036854775807->sE No W (s.L++Q) s.p o true (43) X0 Y0 X1 Y1 (dF X0 Y0 X1 Y1 s.gw s.gh) V->Fn prog 9 [pt sb,o.v] w (GY sb (j+1) W tl):=λU hp =>
  (Ex J aa z.ok ac Z rfl U hp S).mono λv w'⟨s',hv,⟨hok,D⟩,S'⟩=>by
   refine⟨_,hv,.inr ⟨s',Q,?_,?_,S'⟩⟩
   ·rcases D with⟨_,rfl⟩|⟨_,D⟩
    ·exact J
    ·exact D.sb.trans J
   ·rcases D with⟨_,rfl⟩|⟨_,D⟩
    ·exact z.le (lM j)
    ·refine⟨hok,z.q.painted D,?_,?_⟩
     ·have:=z.st;rcases D.ch with⟨h1,_⟩|⟨h1,_⟩<;>omega
     ·have:=z.ln;rcases D.ch with⟨_,h1,_⟩|⟨_,x,h1,_⟩
      ·rw[h1];omega
      ·rw[h1,cP,d7,iV];omega
 have I:∀{X0 Y0 X1 Y1:Int},((o.k=2/\X0=o.ax/\Y0=o.ay/\X1=o.ax/\Y1=o.ay)\/((o.k=3\/o.k=5)/\X0=o.x0/\Y0=o.y0/\X1=o.x1/\Y1=o.y1))->Fn prog 9 [pt sb,o.v] w (GY sb (j+1) W tl):=λ{X0 Y0 X1 Y1}ho=>by
  rcases cr (dF X0 Y0 X1 Y1 s.gw s.gh=0)with y|y
  ·obtain⟨⟨x0,y0,x1,y1⟩,hr,rfl,rfl,rfl,rfl⟩:=nP y;have hx:x0<=x1/\x1<s.gw:=hr.1;have hy:y0<=y1/\y1<s.gh:=hr.2;dsimp only at y ho;refine L (X0:=x0) (Y0:=y0) (X1:=x1) (Y1:=y1) (V:=(fi s.gw s.cc x0 y0 (x1+1-x0) (y1+1-y0)).map (C4 o.k o.n)) ?_ ?_
   ·rw[eP,lE];exact dE (cE (show y1+1-y0<=1024 by omega) (show x1+1-x0<=1024 by omega)) (by decide)
   ·rw[y];refine GR z.ok hx hy ?_;rcases ho with⟨h,h1,h2,O,h4⟩|⟨h,h1,h2,O,h4⟩
    ·exact .inl ⟨h,h1.symm,h2.symm,om,om⟩
    ·exact .inr ⟨h,h1.symm,h2.symm,O.symm,h4.symm⟩
  ·exact L (by simp) (Ss y ho)
 have h6:o.k=2\/o.k=3\/o.k=4\/o.k=5:=om;rcases h6 with h|h|h|h
 ·exact I (.inl ⟨h,rfl,rfl,rfl,rfl⟩)
 ·exact I (.inr ⟨.inl h,rfl,rfl,rfl,rfl⟩)
 ·obtain⟨V,h1,h2,O⟩:=ab.vs;exact L h2 (Iu h h1 λw hF _=>O.gr (hF.gr λ_ h=>h.elim))
 ·exact I (.inr ⟨.inr h,rfl,rfl,rfl,rfl⟩)
theorem SJ(y:s.sb=sb)(I:Bk j s Q)(Z:j<40)(V:o.k=25\/o.k=26)(S:St No W w ((s.L++Q)++tl)):Fn prog 9 [pt sb,o.v] w (GY sb (j+1) W tl):=by
 have O:0<=s.stamp/\s.stamp<1000:=by have:=I.st;omega
 have L:s.l.length<1000:=by have:=I.ln;omega
 rw[cL]at S;have U:∀{s':lT}{x:lS}{V1 V2:List Int}{dn:Nat},s'.ok->LY s s' x V1 V2 dn->Bk (j+1) s' Q:=λz J=>⟨z,I.q.stepped J,by have:=I.st;rw[J.st];omega,by rw[J.l];exact Nat.le_succ_of_le I.ln⟩;rcases V with h|h
 ·refine(GT y h I.ok O L S).mono λv w'⟨s',D,S'⟩=>?_;rw[<-cL]at S';rcases D with⟨_,rfl,D⟩|⟨D,z,x,dn,_,_,J⟩
  ·exact⟨_,D,.inr ⟨s',Q,y,I.le (lM j),S'⟩⟩
  ·exact⟨_,D,.inr ⟨s',Q,J.sb.trans y,U z J,S'⟩⟩
 ·refine(OD y h I.ok O L S).mono λv w'⟨s',D,S'⟩=>?_;rw[<-cL]at S';rcases D with⟨_,rfl,D⟩|⟨D,z,x,_,J⟩
  ·exact⟨_,D,.inr ⟨s',Q,y,I.le (lM j),S'⟩⟩
  ·exact⟨_,D,.inr ⟨s',Q,J.sb.trans y,U z J,S'⟩⟩
theorem Vk(O:s.sb=sb)(I:Bk j s Q)(hk:19<=o.k/\o.k<=22)(S:St No W w ((s.L++Q)++tl)):Fn prog 9 [pt sb,o.v] w (GY sb (j+1) W tl):=by
 have Z:=(S.grid (i:=1) rfl).sw;have V:=(S.grid (i:=1) rfl).sh;subst O;have L:eL w s.sb 71 [pt s.p,pt s.lb,.pointer s.ov,ii s.stamp,pt s.pp]:=S.blk (i:=0) rfl;have y:=I.le (lM j);have J:St No W w (.blk s.sb 71 [pt s.p,pt s.lb,.pointer s.ov,ii s.stamp,pt s.pp]::(s.rest++Q++tl)):=S;rcases I.q with⟨h1,rfl⟩|⟨sn,st,V0,h1,h2,U,_,_⟩
 ·rw[h1]at L J;rcases cr (o.k=19)with z|z
  ·exact(L6 z J).mono λv w'⟨D,S'⟩=>⟨_,D,.inr ⟨s,[],rfl,y,by rw[<-h1]at S';exact S'⟩⟩
  ·exact(OG om L).mono λv w'⟨D,g⟩=>⟨_,D,.inr ⟨s,[],rfl,y,S.gr g⟩⟩
 ·rw[h1]at L J;rcases cr (o.k=19)with z|z
  ·exact(Sx z J).mono λv w'⟨D,S'⟩=>⟨_,D,.inr ⟨{ s with ov:=none },[],rfl,⟨⟨I.ok.hB,I.ok.hd,I.ok.hg⟩,.inl ⟨rfl,rfl⟩,y.st,y.ln⟩,S'.sub (.cons_cons _ (iQ (iQ (cQ _) (rC _)) (cQ _)))⟩⟩
  ·exact(U3 om U Z V (h2.at_ (T:=tl) (St.tail (Q:=s.L) (by rw[cL]at S;exact S))) L).mono λv w'⟨D,g⟩=>⟨_,D,.inr ⟨s,Q,rfl,y,S.gr g⟩⟩
theorem GZ{Z:Int}(hT:jX W)(J:IC W o)(O:o.k=1\/o.k=24)(I:∀w',St No W w' (.blk sb 71 [.pointer g0,.pointer l0,.pointer o0,ii Z,.pointer p0]::T)->xV sb (j+1) W w' tl)(aa:tl.Sublist T)(S:St No W w (.blk sb 71 [.pointer g0,.pointer l0,.pointer o0,ii Z,.pointer p0]::T)):Fn prog 9 [pt sb,o.v] w (GY sb (j+1) W tl):=by
 have D:∀{s':lT}{w':World},s'.ok->s'.sb=sb->s'.ov=none->s'.l=[]->s'.stamp=0->St No W w' (s'.L++T)->xV sb (j+1) W w' tl:=λ{s' w'}h1 h2 U V h5 z =>
  .inr ⟨s',[],h2,⟨h1,.inl ⟨U,rfl⟩,by rw[h5];omega,by rw[V];exact ib _⟩,z.sub (by rw[fG];exact iQ (cQ _) aa)⟩
 rcases O with O|O
 ·rcases cr ((1<=o.n/\o.n<=1024)/\1<=o.m/\o.m<=1024)with hg|hg
  ·obtain⟨gw,ac⟩:=cJ (show 0<=o.n by omega);obtain⟨gh,ab⟩:=cJ (show 0<=o.m by omega);exact(NK (O▸Ah) (u9 (λv y=>by unfold dw at y;obtain⟨_,_,rfl⟩:=fC.1 y;rfl)) (λw=>Id (W:=w) (gw:=gw) (gh:=gh) om om ac ab) S).mono λv w'⟨s',y,⟨h1,h2,_,_,U,_,V,_,h5⟩,z⟩=>⟨_,y,D h1 h2 U V h5 z⟩
  ·exact(Jy (by decide) (O▸Ah) (λw=>Lb (W:=w) J.n J.m hg) S).mono λv w'⟨y,z⟩=>⟨_,y,I w' z⟩
 ·obtain⟨l,h1,h2,U,V⟩:=J.bs;refine(RR O (λw L S=>Ux (hT.gr S.out) h1 h2 U (V.gr S.out)) S).mono λv w' h=>?_;rcases h with⟨y,z⟩|⟨s',y,⟨e1,e2,e3,e4,_,e5⟩,z⟩
  ·exact⟨_,y,I w' z⟩
  ·exact⟨_,y,D e1 e2 e3 e4 e5 z⟩
theorem SK(D:2<=o.k/\o.k<=27/\o.k≠24)(S:St No W w (WQ sb p0::tl)):Fn prog 9 [pt sb,o.v] w (dp ({ code:=2 }:gZ).v w):=by
 have y:eL w sb 71 [.pointer none,.pointer none,.pointer none,ii 0,.pointer p0]:=S.blk (i:=0) rfl;rcases cr (o.k<=5)with h|h
 ·exact sD true (wO D.1 h) (by kernel_rfl) y
 rcases cr (o.k<=11)with h1|h1
 ·exact sD true (rV om h1) (by kernel_rfl) y
 rcases cr (o.k<=17)with h2|h2
 ·exact sD true (wt om h2) (by kernel_rfl) y
 rcases cr (20<=o.k/\o.k<=22)with z|z
 ·exact sD true (GU z) (by kernel_rfl) y
 have v:o.k=18\/o.k=19\/o.k=23\/o.k=25\/o.k=26\/o.k=27:=om;rcases v with v|v|v|v|v|v
 ·exact sD false (v▸Ai) (by kernel_rfl) y
 ·exact OO v y
 ·exact sD false (v▸AH) (by kernel_rfl) y
 ·exact sD false (v▸DH) (by kernel_rfl) y
 ·exact sD false (v▸DY) (by kernel_rfl) y
 ·exact sD false (v▸AS) (by kernel_rfl) y
theorem Xy(O:jX W)(D:IC W o)(Z:j<40)(h:xV sb j W w tl):Fn prog 9 [pt sb,o.v] w (GY sb (j+1) W tl):=by
 have J:∀{w'},Gr w w'->xV sb (j+1) W w' tl:=λg=>by
  rcases h with⟨p0,S⟩|⟨s,Q,h1,h2,S⟩
  ·exact .inl ⟨p0,S.gr g⟩
  ·exact .inr ⟨s,Q,h1,h2.le (lM j),S.gr g⟩
 rcases cr (o.k<1\/27<o.k)with hk|hk
 ·exact(U2 hk).mono λv w'⟨U,g⟩=>⟨_,U,J g⟩
 rcases h with⟨p0,S⟩|⟨s,Q,y,I,S⟩
 ·rcases cr (o.k=1\/o.k=24)with z|z
  ·exact GZ O D z (λw' L=>.inl ⟨p0,L⟩) (cQ _) S
  ·exact(SK om S).mono λv w'⟨U,g⟩=>⟨_,U,J g⟩
 ·rcases cr (o.k=1\/o.k=24)with z|z
  ·subst y;exact GZ (T:=s.rest++Q++tl) O D z (λw' L=>.inr ⟨s,Q,rfl,I.le (lM j),L⟩) (iP _ _) S
  rcases cr (o.k<=5)with h|h
  ·exact OP y I Z D om S
  rcases cr (o.k<=11)with h1|h1
  ·exact Vi y I om S
  rcases cr (o.k<=17)with h2|h2
  ·exact Vj y I om S
  rcases cr (o.k=18\/o.k=23\/o.k=27)with V|V
  ·exact SI O y I D V S
  rcases cr (o.k<=22)with h4|h4
  ·exact Vk y I om S
  ·exact SJ y I Z om S
end
def aaB(s:lT)(o:m5)(V:List Int):List Int :=
 if o.k=4 then V else(fi s.gw s.cc o.x0.toNat o.y0.toNat (o.x1.toNat+1-o.x0.toNat) (o.y1.toNat+1-o.y0.toNat)).map (C4 o.k o.n)
def Y4(s:lT)(o:m5):Int :=
 if o.k=6\/o.k=15 then LS s.gw s.gh o.ax o.ay
 else if o.k=2 then(if LS s.gw s.gh o.ax o.ay≠0 then LS s.gw s.gh o.ax o.ay else if iL o.n then 0 else 7)
 else if o.k=16 then(if LS s.gw s.gh o.ax o.ay≠0 then LS s.gw s.gh o.ax o.ay else LS s.gw s.gh o.bx o.by_)
 else if o.k=12 then pk s.gw s.gh o.ax o.ay o.n o.bx o.by_ o.m
 else if o.k=13 then BQ s.gw s.gh o.ax o.ay o.n o.m o.bx
 else if o.k=14 then 0
 else dF o.x0 o.y0 o.x1 o.y1 s.gw s.gh
def ZB(s:lT)(o:m5)(V:List Int):Int :=
 if o.k=3 then(if iL o.n then 0 else 7)
 else if o.k=4 then sX ((o.y1.toNat+1-o.y0.toNat)*(o.x1.toNat+1-o.x0.toNat)) V
 else if o.k=5 then(if (aaB s o V).any (λv=>!iL v)then 7 else 0)
 else if o.k=11 then(if o.n<0\/o.n>=(o.x1-o.x0+1)*(o.y1-o.y0+1)then 11 else 0)
 else 0
def ZO(s:lT)(o:m5)(V:List Int):Int:=if Y4 s o=0 then ZB s o V else Y4 s o
theorem aaI(n:Int):iL (LX n)=iL n:=by
 rw[iq,u0,u0];unfold LX;omega
theorem aaW{α:Type}{l:List α}{p:α->Bool}{b:Bool}(h:l≠[])(v:∀x∈l,p x=b):l.any p=b:=by
 cases b with
 |false=>exact nU.2 λx y=>by rw[v x y];exact Bool.false_ne_true
 |true =>
  obtain⟨x,r,rfl⟩:=List.exists_cons_of_ne_nil h;exact jZ.2 ⟨x,eB,v x eB⟩
theorem aaK{x y:Int}(S:1<=gw/\gw<=1024)(O:1<=gh/\gh<=1024):dF x y x y gw gh=LS gw gh x y:=by
 unfold LS;rcases cr (mD gw gh (x,y)=true)with h|h
 ·rw[a7 h];have h2:=jT.1 h;exact IT om om ⟨h2.1,h2.2.1⟩ ⟨h2.2.2.1,h2.2.2.2⟩
 ·rw[a8 h];rcases cr (dF x y x y gw gh=0)with h2|h2
  ·obtain⟨r,D,v,z,J,L⟩:=nP h2;exact absurd (jT.2 ⟨om,by have:=D.1;omega,om,by have:=D.2;omega⟩) h
  ·unfold dF at *;have v:fL ((gw:Int)-1) 1024=true:=by simp[fL];omega
   have z:fL ((gh:Int)-1) 1024=true:=by simp[fL];omega
   simp only[v,z,Bool.not_true,aaq,m7,pW]at *;split at h2
   ·rename_i I;rw[a7 I]
   ·exfalso;rw[a8 om]at h2;exact h2 rfl
section
variable{V:List Int}
theorem aa9(z:o.k=3\/o.k=5):ET s.gw s.gh o.x0 o.y0 o.x1 o.y1 (aaB s o V)=ZO s o V:=by
 have h1:Y4 s o=dF o.x0 o.y0 o.x1 o.y1 s.gw s.gh:=by
  unfold Y4;rw[a8 om,a8 om,a8 om,a8 om,a8 om,a8 om]
 unfold ET ZO;rw[h1];rcases cr (dF o.x0 o.y0 o.x1 o.y1 s.gw s.gh=0)with v|v
 ·rw[a7 v,a7 v];obtain⟨r,L,e0,O,S,U⟩:=nP v
  have I:aaB s o V≠[]:=by
   intro h;have D:(aaB s o V).length=0:=by rw[h];rfl
   unfold aaB at D;rw[a8 om,eP,lE]at D;have:=L.1;have:=L.2;have Z:0<(o.y1.toNat+1-o.y0.toNat)*(o.x1.toNat+1-o.x0.toNat):=j5 om om;omega
  have D:(aaB s o V).length=(o.y1.toNat+1-o.y0.toNat)*(o.x1.toNat+1-o.x0.toNat):=by
   unfold aaB;rw[a8 om,eP,lE]
  unfold sX ZB;rw[a8 (by rw[D];exact λh=>h rfl)];rcases z with z|z
  ·rw[a7 z,aaW (b:=!iL o.n) I (λx J=>by
    unfold aaB at J;rw[a8 om]at J;obtain⟨y,_,rfl⟩:=fC.1 J;unfold C4;rw[a8 om,sf,aaI])]
   cases iL o.n<;>rfl
  ·rw[a8 (show ¬o.k=3 by omega),a8 (show ¬o.k=4 by omega),a7 z]
 ·rw[a8 v,a8 v]
theorem aa3(v:o.k=4):ET s.gw s.gh o.x0 o.y0 o.x1 o.y1 V=ZO s o V:=by
 have h1:Y4 s o=dF o.x0 o.y0 o.x1 o.y1 s.gw s.gh:=by
  unfold Y4;rw[a8 om,a8 om,a8 om,a8 om,a8 om,a8 om]
 unfold ET ZO ZB;rw[h1,a8 (show ¬o.k=3 by omega),a7 v]
theorem aaZ{v:Int}(I:o.k=2)(J:1<=s.gw/\s.gw<=1024)(D:1<=s.gh/\s.gh<=1024):ET s.gw s.gh o.ax o.ay o.ax o.ay [C4 2 o.n v]=ZO s o V:=by
 have h1:Y4 s o=if LS s.gw s.gh o.ax o.ay≠0 then LS s.gw s.gh o.ax o.ay else if iL o.n then 0 else 7:=by
  unfold Y4;rw[a8 om,a7 I]
 have h2:ZB s o V=0:=by
  unfold ZB;rw[a8 om,a8 om,a8 om,a8 om]
 unfold ET ZO;rw[h1,h2,aaK J D];rcases cr (LS s.gw s.gh o.ax o.ay=0)with h|h
 ·have y:(if LS s.gw s.gh o.ax o.ay≠0 then LS s.gw s.gh o.ax o.ay else if iL o.n then(0:Int)else 7)=if iL o.n then 0 else 7:=a8 (λh'=>h' h);rw[a7 h,y];unfold sX;rw[a8 (by rw[iw,iw];exact λh=>h rfl)];have z:C4 2 o.n v=LX o.n:=by unfold C4;rw[a8 (by decide),sf]
  rw[z];simp only[aad,List.any_nil,Bool.or_false,aaI];cases iL o.n<;>rfl
 ·have y:(if LS s.gw s.gh o.ax o.ay≠0 then LS s.gw s.gh o.ax o.ay else if iL o.n then(0:Int)else 7)=LS s.gw s.gh o.ax o.ay:=a7 h;rw[a8 h,y,a8 h]
end
section
variable{Q:List HA}{V:List Int}
def aaJ(sb j:Nat)(W:World)(tl:List HA)(e:Int):Value->World->Prop:=λv w'=>∃r:gZ,v=r.v/\r.code=e/\xV sb j W w' tl
theorem Z3(r:gZ)(e:Int)(h:r.code=0):(r.told e).code=e:=by
 unfold gZ.told;split
 ·rename_i h2;rw[h,h2]
 ·rfl
theorem Zw{α:Type}{Vr:α->gZ}{Lx:α->List HA}{e:Int}(y:s.sb=sb)(D:Bk j s Q)(z:xz o.k 114 true f)(L:pQ No W (s.L++Q) s.sb o true f Vr Lx)(I:∀x,(s.L++Q).Sublist (Lx x))(J:∀x,(Vr x).code=e)(S:St No W w ((s.L++Q)++tl)) :
  Fn prog 9 [pt sb,o.v] w (aaJ sb (j+1) W tl e) :=
 (tj y true z L S).mono λv w'⟨x,hv,S'⟩=>⟨_,hv,J x,.inr ⟨s,Q,y,D.le (lM j),S'.sub ((I x).append (cQ _))⟩⟩
theorem aa4(y:s.sb=sb)(D:Bk j s Q)(hk:6<=o.k/\o.k<=16)(S:St No W w ((s.L++Q)++tl)):Fn prog 9 [pt sb,o.v] w (aaJ sb (j+1) W tl (ZO s o V)):=by
 have hw:=(S.grid (i:=1) rfl).sw;have hh:=(S.grid (i:=1) rfl).sh;have I:s.V.length=s.gw*s.gh:=qf _ _ _
 have h2:o.k≠11->ZO s o V=Y4 s o:=λh=>by
  have:ZB s o V=0:=by
   unfold ZB;rw[a8 om,a8 om,a8 om,a8 h]
  unfold ZO;split
  ·rename_i U;rw[this,U]
  ·rfl
 have z:(7<=o.k/\o.k<=11)->Y4 s o=dF o.x0 o.y0 o.x1 o.y1 s.gw s.gh:=λh=>by
  unfold Y4;rw[a8 om,a8 om,a8 om,a8 om,a8 om,a8 om]
 have J:(o.k=6\/o.k=15)->Y4 s o=LS s.gw s.gh o.ax o.ay:=λh=>by unfold Y4;rw[a7 h]
 have h6:o.k=6\/o.k=7\/o.k=8\/o.k=9\/o.k=10\/o.k=11\/o.k=12\/o.k=13\/o.k=14\/o.k=15\/o.k=16:=om;rcases h6 with h|h|h|h|h|h|h|h|h|h|h
 ·have v:=rV (k:=o.k) om om;exact Zw y D v (PZ h) (λ_=>cQ _) (λ_=>by rw[Z3 _ _ rfl,h2 om,J (.inl h)]) S
 ·have v:=rV (k:=o.k) om om;exact Zw y D v (WH D.ok D.q h) (λ_=>cQ _) (λ_=>by rw[Z3 _ _ rfl,h2 om,z om]) S
 ·have v:=rV (k:=o.k) om om;exact Zw y D v (P1 D.ok h) (λ_=>cQ _) (λ_=>by rw[Z3 _ _ rfl,h2 om,z om]) S
 ·have v:=rV (k:=o.k) om om;exact Zw y D v (P2 D.ok h) (λ_=>cQ _) (λ_=>by rw[Z3 _ _ rfl,h2 om,z om]) S
 ·have v:=rV (k:=o.k) om om;exact Zw y D v (UU h) (λ_=>cQ _) (λ_=>by rw[Z3 _ _ rfl,h2 om,z om]) S
 ·have v:=rV (k:=o.k) om om;refine Zw y D v (UV D.ok h) (λ_=>cQ _) (λ_=>?_) S;rw[Z3 _ _ rfl];unfold ZO PR ZB;rw[z om,a8 (show ¬o.k=3 by omega),a8 (show ¬o.k=4 by omega),a8 (show ¬o.k=5 by omega),a7 h];rcases cr (dF o.x0 o.y0 o.x1 o.y1 s.gw s.gh=0)with z|z
  ·rw[a8 (λh=>h z),a7 z]
  ·rw[a7 z,a8 z]
 ·have v:=wt (k:=o.k) om om
  exact Zw y D v (SF D.ok h) (λ_=>cQ _) (λ_=>by
   rw[Z3 _ _ rfl,h2 om];unfold Y4;rw[a8 om,a8 om,a8 om,a7 h]) S
 ·have v:=wt (k:=o.k) om om
  exact Zw y D v (Vg D.ok h) (λ_=>cQ _) (λ_=>by
   rw[Z3 _ _ rfl,h2 om];unfold Y4;rw[a8 om,a8 om,a8 om,a8 om,a7 h]) S
 ·have v:=wt (k:=o.k) om om
  exact Zw y D v (Vb o.n (by rw[I];exact cE hw.2 hh.2) ⟨h,rfl⟩) (λ_=>.cons _ (.cons _ (cQ _))) (λ_=>by
   rw[h2 om];unfold Y4;rw[a8 om,a8 om,a8 om,a8 om,a8 om,a7 h];rfl) S
 ·have v:=wt (k:=o.k) om om;rw[h2 om,J (.inr h)];unfold LS;cases hi:mD s.gw s.gh (o.ax,o.ay)
  ·exact Zw y D v (ON hi h) (λ_=>cQ _) (λ_=>rfl) S
  ·obtain⟨i,L,hx,hy⟩:=JU hi;obtain⟨k,Z,aa⟩:=(FG (V:=s.V) hw.1 I).stop L;exact Zw y D v (Vh i k L aa Z ⟨h,hx,hy⟩) (λ_=>.cons _ (cQ _)) (λ_=>rfl) S
 ·have v:=wt (k:=o.k) om om
  have U:Y4 s o=if LS s.gw s.gh o.ax o.ay≠0 then LS s.gw s.gh o.ax o.ay else LS s.gw s.gh o.bx o.by_:=by
   unfold Y4;rw[a8 om,a8 om,a7 h]
  rw[h2 om,U];unfold LS;cases hi:mD s.gw s.gh (o.ax,o.ay)
  ·exact Zw y D v (EE (.inl hi) h) (λ_=>cQ _) (λ_=>rfl) S
  ·cases O:mD s.gw s.gh (o.bx,o.by_)
   ·exact Zw y D v (EE (.inr O) h) (λ_=>cQ _) (λ_=>rfl) S
   ·obtain⟨a,ha,hx,hy⟩:=JU hi;obtain⟨b,hb,ab,ac⟩:=JU O;exact Zw y D v (SG a b D.ok ha hb ⟨h,hx,hy,ab,ac⟩) (λ_=>.cons _ (cQ _)) (λ_=>rfl) S
theorem aaO(U:s.sb=sb)(D:Bk j s Q)(hj:j<40)(ah:o.vs.n=V.length)(ai:V.length<=9223372036854775807)(aj:Rd W o.vs.A (cY V))(hk:2<=o.k/\o.k<=5)(S:St No W w ((s.L++Q)++tl)):Fn prog 9 [pt sb,o.v] w (aaJ sb (j+1) W tl (ZO s o V)):=by
 have ae:=wO hk.1 hk.2;have ag:0<=s.stamp/\s.stamp<1000:=by have:=D.st;omega
 have ac:s.l.length<40:=by have:=D.ln;omega
 have hw:=(S.grid (i:=1) rfl).sw;have hh:=(S.grid (i:=1) rfl).sh
 have z:∀{X0 Y0 X1 Y1:Int}{V2:List Int},V2.length<=9223372036854775807->ET s.gw s.gh X0 Y0 X1 Y1 V2=ZO s o V->sE No W (s.L++Q) s.p o true (43) X0 Y0 X1 Y1 (dF X0 Y0 X1 Y1 s.gw s.gh) V2->Fn prog 9 [pt sb,o.v] w (aaJ sb (j+1) W tl (ZO s o V)):=λab he hp =>
  (Ex U ae D.ok ag ac rfl ab hp S).mono λv w'⟨s',hv,⟨hok,J⟩,S'⟩=>by
   refine⟨_,hv,he,.inr ⟨s',Q,?_,?_,S'⟩⟩
   ·rcases J with⟨_,rfl⟩|⟨_,J⟩
    ·exact U
    ·exact J.sb.trans U
   ·rcases J with⟨_,rfl⟩|⟨_,J⟩
    ·exact D.le (lM j)
    ·refine⟨hok,D.q.painted J,?_,?_⟩
     ·have:=D.st;rcases J.ch with⟨h1,_⟩|⟨h1,_⟩<;>omega
     ·have:=D.ln;rcases J.ch with⟨_,h1,_⟩|⟨_,x,h1,_⟩
      ·rw[h1];omega
      ·rw[h1,cP,d7,iV];omega
 have h6:o.k=2\/o.k=3\/o.k=4\/o.k=5:=om
 have ad:∀{e:Int},o.k≠2->dF o.x0 o.y0 o.x1 o.y1 s.gw s.gh≠0->ET s.gw s.gh o.x0 o.y0 o.x1 o.y1 []=ZO s o V:=λh2 y=>by
  have h1:Y4 s o=dF o.x0 o.y0 o.x1 o.y1 s.gw s.gh:=by
   unfold Y4;rw[a8 om,a8 om,a8 om,a8 om,a8 om,a8 om]
  unfold ET ZO;rw[a8 y,h1,a8 y]
 have aa:(o.k=3\/o.k=5)->Fn prog 9 [pt sb,o.v] w (aaJ sb (j+1) W tl (ZO s o V)):=λho=>by
  rcases cr (dF o.x0 o.y0 o.x1 o.y1 s.gw s.gh=0)with y|y
  ·have I:=aa9 (s:=s) (V:=V) ho;obtain⟨⟨x0,y0,x1,y1⟩,hr,e0,O,Z,e3⟩:=nP y;have hx:x0<=x1/\x1<s.gw:=hr.1;have hy:y0<=y1/\y1<s.gh:=hr.2
   have hn:aaB s o V=(fi s.gw s.cc x0 y0 (x1+1-x0) (y1+1-y0)).map (C4 o.k o.n):=by
    unfold aaB;rw[a8 om,e0,O,Z,e3];rfl
   rw[hn]at I;refine z ?_ I ?_
   ·rw[eP,lE];exact dE (cE (show y1+1-y0<=1024 by omega) (show x1+1-x0<=1024 by omega)) (by decide)
   ·rw[y,e0,O,Z,e3];exact GR D.ok hx hy (.inr ⟨ho,e0,O,Z,e3⟩)
  ·exact z (by simp) (ad (e:=0) om y) (Ss y (.inr ⟨ho,rfl,rfl,rfl,rfl⟩))
 rcases h6 with h|h|h|h
 ·rcases cr (dF o.ax o.ay o.ax o.ay s.gw s.gh=0)with y|y
  ·have I:=λv=>aaZ (s:=s) (V:=V) (v:=v) h hw hh;obtain⟨⟨x0,y0,x1,y1⟩,hr,e0,O,Z,e3⟩:=nP y;have hx:x0<=x1/\x1<s.gw:=hr.1;have hy:y0<=y1/\y1<s.gh:=hr.2;dsimp only at e0 O Z e3;obtain rfl:x1=x0:=om;obtain rfl:y1=y0:=om
   have hn:[C4 2 o.n (s.cc (y1*s.gw+x1))]=(fi s.gw s.cc x1 y1 (x1+1-x1) (y1+1-y1)).map (C4 o.k o.n):=by
    rw[iw,iw,h];rfl
   have L:=I (s.cc (y1*s.gw+x1));rw[hn]at L;refine z ?_ L ?_
   ·rw[eP,lE];exact dE (cE (show y1+1-y1<=1024 by omega) (show x1+1-x1<=1024 by omega)) (by decide)
   ·rw[y,e0,O];exact GR D.ok hx hy (.inl ⟨h,e0,O,rfl,rfl⟩)
  ·refine z (V2:=[]) (by simp) ?_ (Ss y (.inl ⟨h,rfl,rfl,rfl,rfl⟩));have h1:=aaZ (s:=s) (V:=V) (v:=0) h hw hh;unfold ET at *;rw[a8 y]at *;exact h1
 ·exact aa (.inl h)
 ·exact z ai (aa3 h) (Iu h ah λw hF _=>aj.gr (hF.gr λ_ h=>h.elim))
 ·exact aa (.inr h)
theorem abc(v:s.sb=sb)(I:Bk j s Q)(L:j<40)(y:o.vs.n=V.length)(z:V.length<=9223372036854775807)(D:Rd W o.vs.A (cY V))(J:2<=o.k/\o.k<=16)(S:St No W w ((s.L++Q)++tl)):Fn prog 9 [pt sb,o.v] w (aaJ sb (j+1) W tl (ZO s o V)):=by
 rcases cr (o.k<=5)with h|h
 ·exact aaO v I L y z D ⟨J.1,h⟩ S
 ·exact aa4 v I ⟨om,J.2⟩ S
end
section
variable{l:List Int}
theorem RM(r:Rc)(O:1<=gw/\gw<=1024)(L:1<=gh/\gh<=1024)(D:r.ok gw gh):Fn prog 40 [.agg #[ii r.x0,ii r.y0,ii r.x1,ii r.y1]] W (dp (.tuple #[ii ((r.x1:Int)-r.x0+1),ii ((r.y1:Int)-r.y0+1)]) W):=by
 obtain⟨x0,y0,x1,y1⟩:=r;obtain⟨U,V⟩:=D;dsimp only at *;have S:=St.start W;refine zI func40 ?_;refine zN ?_;intro v I y S;refine zF [0,1,2,3,4,5,6,7,8,9,10,11,12,13] [] ?_;intro J z S;exact nd rfl rfl ⟨rfl,S.out⟩
def PW(W:World)(v:Value)(w':World):Prop:=∃(x y:Int)(B K:Option Addr)(nB cB nK cK:Nat)(b:Bool),v=.tuple #[.agg #[ii x,ii y,.slice B nB cB],.slice K nK cK,.bool b]/\Gr W w'
theorem RN(hc:l.length<=c)(hm:l.length<=1099511627776)(hA:Rd W A (f9 l)):Fn prog 26 [.slice A l.length c] W (PW W):=by
 have ae:∀{w:World}{L:List HA},St No W w L->PW W (.tuple #[.agg #[ii 0,ii 0,.slice none 0 0],.slice none 0 0,.bool false]) w:=λS=>⟨0,0,none,none,0,0,0,0,false,rfl,S.out⟩;refine yI func26 ?_;refine yA ?_;intro J U _ S;refine zK (Ur hc hm (hA.gr S.out)) ?_;rintro _ bX ⟨B,nB,cB,e1,rfl,aI,aK⟩;have S:=S.gr aI;iterate 5 refine z ?_
 refine ze ?_;rcases cr (e1=0)with an|an
 ·obtain⟨h4,rfl,rfl,rfl⟩:=aK an;subst an;have aw:Rd W B (f9 (l.take (l.length-4))):=by rw[<-tK];exact hA.tk _
  have aq:(l.take (l.length-4)).length=l.length-4:=by rw[d7];omega
  have aB:=λw hA=>RL (W:=w) (A:=B) (c:=cB) (l:=l.take (l.length-4)) (by rw[aq];omega) (by rw[aq];omega) hA;rw[aq]at aB;have bM:l.length-4<=cB:=om;generalize l.take (l.length-4)=l1 at *;generalize l.length-4=n1 at *;refine zK (aB _ (aw.gr S.out)) ?_;rintro _ bY ⟨X,Y,B2,bQ,ac,e2,Q2,rfl,S2,aL⟩;have S:=S.app S2;iterate 9 refine z ?_
  refine ze ?_;rcases cr (e2=0)with ao|ao
  ·obtain⟨gw,gh,es,rfl,rfl,hw,hh,rfl,aQ,ah,rfl⟩:=aL ao;subst ao;have bo:1<=cU gh*cU gw:=cE (kQ hh.1) (kQ hw.1);have aT:cU gw*cU gh<=64*64:=cE (jS hw.2) (jS hh.2);have am:cU gw*cU gh=cU gh*cU gw:=cD _ _;have aU:=λw=>Uw (W:=w) hw hh;have aY:=λw A c=>RH (W:=w) (A:=A) (c:=c) (gw*gh) hw hh;have aV:=λw A c(V:List Int)B cB(r:Rc)(L:List Int)hr hV hL hA hB=>RJ (W:=w) (A:=A) (c:=c) (V:=V) (B:=B) (r:=r) (L:=L) cB hw hh hr hV hL hA hB;rw[am]at aQ ah S aT ⊢;have bP:=Lr ah;have az:=λk(y:Int×Int)=>PT (k:=k) (x:=y) ah;have aP:∀(k:Nat)(y:Int×Int),es[k]?=some y->(13:Int)<=y.1/\1<=y.2:=λk y h=>⟨by have:=(az k y h).1;omega,(ah k y h).2.1⟩;generalize (es.map Prod.snd).sum=bS at *;generalize gw*gh=N at *;have bK:13+cU gh*cU gw*8<=40000:=om;generalize 13+cU gh*cU gw*8=bg at *;generalize hT:cU gh*cU gw=T at *;refine yK aU ?_;rintro _ bZ ⟨D,I,V,hV,rfl,S2⟩;have S:=S.app S2;refine zN ?_;intro aa bp bh S;refine zS ?_;intro bq S;refine zK (aY _ _ _) ?_;rintro _ br ⟨B3,ad,rs,bO,aW,rfl,S2⟩;have S:=S.app S2;refine zg ?_;refine mv YR fa S ?_;intro Z bt bi S aG;refine zg ?_;have S:=S.pick 4 [2,3,0,1] rfl rfl rfl
   refine dl (λmm e w=>∃(k:Nat)(q:Int)(D:Option Addr)(I:Nat)(V:List Int)(Z:Option Addr)(ab:Nat)(ks:List Value),k+mm=T/\V.length=N/\SL e [(2,pt J),(5,pt U),(6,.slice B n1 cB),(10,.slice B2 T ac),(12,pt aa),(14,.slice B3 T ad),(15,.slice Z k ab),(16,ii q),(17,ii k)]/\St No W w [.blk aa 38 [ii gw,ii gh,.slice D N I],.row 2 1 D N I (cY V),.row 3 1 Z k ab ks,.row 24 4 B3 T ad (DP rs),.row 102 2 B2 T ac (eT es),.blk U 38 [ii 0,ii 0,.slice none 0 0],.blk J 38 [ii 0,ii 0,.slice none 0 0]]) T
    ⟨0,0,D,I,V,_,_,[],om,hV,sl,S⟩ ?_
   clear S hV;rintro mm e w ⟨k,q,D,I,V,Z,ab,ks,hk,hV,ar,S⟩;rw[ar.fold];rcases cr (k<T)with aS|aS
   ·obtain⟨⟨xi,ni⟩,hy⟩:∃y,es[k]?=some y:=⟨es[k],ct om⟩;obtain⟨r,hr⟩:∃r,rs[k]?=some r:=⟨rs[k],ct om⟩;have aZ:=az k _ hy;have ba:=aP k _ hy;have ag:(eT es)[(k:Int).toNat * 2+0]?=some (ii xi):=by rw[b7];exact Qv hy
    have ai:(eT es)[(k:Int).toNat * 2+1]?=some (ii ni):=by rw[b7];exact Qw hy
    have aF:=aW r (dD hr);have aX:=λw=>RM (W:=w) r hw hh aF;dsimp only at aZ ba;have bb:dO B2:=(S.row (i:=4) rfl).someA om;have be:dO B3:=(S.row (i:=3) rfl).someA om;obtain⟨pi,rfl⟩:=cJ (show 0<=xi by omega);obtain⟨qi,rfl⟩:=cJ (show 0<=ni by omega);have al:(pi:Int)+(qi:Nat)=((pi+qi:Nat):Int):=om;have bN:pi+qi<=5000000000:=om;rcases cr (((pi+qi:Nat):Int)>(n1:Nat))with aR|aR
    ·skip;refine zD [0,1,2,3,4,5,6,7,8,9,10,11,12,13] [] ?_;refine zO (λwq O=>((S.gr O).rd (i:=4) rfl)) ag ?_;refine zO (λwq O=>((S.gr O).rd (i:=4) rfl)) ai ?_;refine zQ ?_;rw[al];refine zE ?_;intro bu bj S;refine z ?_;refine Z1 6 S ?_;intro bv S;refine yA ?_;exact qj gT rfl (YX _) rfl (S.blk (i:=6) rfl) rfl rfl rfl rfl (ae S)
    ·have bL:n1<=cB:=om;have hD:Rd W (uA B (pi*1) (cB-pi)) (f9 ((l1.drop pi).take qi)):=by rw[<-tK];exact(aw.off8 om om).tk qi
     have aA:((l1.drop pi).take qi).length=qi:=by rw[d7,i8];omega
     have aj:=λw' hA=>RD (W:=w') (A:=uA B (pi*1) (cB-pi)) (c:=cB-pi) (l:=(l1.drop pi).take qi) ((r.x1:Int)-r.x0+1) ((r.y1:Int)-r.y0+1) (by rw[aA];omega) hA;rw[aA]at aj;generalize (l1.drop pi).take qi=l2 at *;generalize aJ:uA B (pi*1) (cB-pi)=A3 at *;have aE:=Wt hr;refine zD [0,1,2,3,4,5,6,7,8,9,10,11,12,13] [] ?_;refine zO (λwq O=>((S.gr O).rd (i:=4) rfl)) ag ?_;refine zO (λwq O=>((S.gr O).rd (i:=4) rfl)) ai ?_;refine zQ ?_;rw[al];refine zE ?_;intro bw bk S;refine ZU (S.rd (i:=3) rfl) aE ?_;refine zC (aX _) ?_;intro bz bl S;refine zH (C:=(uB No W [.blk aa 38 [ii gw,ii gh,.slice D N I],.row 2 1 D N I (cY V),.row 3 1 Z k ab ks,.row 24 4 B3 T ad (DP rs),.row 102 2 B2 T ac (eT es),.blk U 38 [ii 0,ii 0,.slice none 0 0],.blk J 38 [ii 0,ii 0,.slice none 0 0]] (λσ Q=>match σ with|[]=>Q=[]|v::_=>∃(B:Option Addr)(nB cB:Nat)(x e:Int),v=.tuple #[.slice B nB cB,ii x,ii e]/\(e=0->∃R:List Int,R.length=nB/\R.length<=1048576/\Q=[.row 2 1 B nB cB (cY R)])))) [20] [0,1,2,3,4,5,6,7,8,9,10,11,12,13,14,15,16,17,18,19,20,21,22,23,24,25,26,27] [] (uB.start rfl (S.gr (Gr.drew _))) ?_;refine qo rfl (λτ wq O=>eI cw rfl rfl ((uB.st O).rd (i:=4) rfl) ag) ?_;refine zR ?_;refine qo rfl (λτ wq O=>eI cw rfl rfl ((uB.st O).rd (i:=4) rfl) ag) ?_;refine zR ?_;refine qo rfl (λτ wq O=>eI cw rfl rfl ((uB.st O).rd (i:=4) rfl) ai) ?_;refine zR ?_;rw[al];refine ot rfl (Gb q8 gJ rfl rfl rfl om om) ?_;rw[aJ,iw];refine zR ?_;refine de rfl rfl (λwq O=>vh O rfl (λQ hQ S=>by cases hQ;exact(aj _ (hD.gr S.out)).mono λv w'⟨B,nB,cB,x,e,Q',hv,S2,hQ'⟩=>⟨Q',⟨B,nB,cB,x,e,hv,hQ'⟩,S.app S2⟩)) ?_;rintro bU bW ⟨bI,⟨B5,bR,ak,x5,e5,rfl,_⟩,_⟩;refine zY ?_;rintro wz hz;refine ze ?_;obtain⟨Q5,⟨_,_,_,_,_,e_,aM⟩,S⟩:=hz;cases e_
     rcases cr (e5=0)with ap|ap
     ·obtain⟨R5,rfl,bJ,rfl⟩:=aM ap;subst ap;have S:=S.pick 2 [1,0] rfl rfl rfl;have aD:=λw(S:St No W w (.row 2 1 B5 R5.length ak (cY R5)::[.row 2 1 D N I (cY V),.row 3 1 Z k ab ks,.row 24 4 B3 T ad (DP rs),.row 102 2 B2 T ac (eT es),.blk U 38 [ii 0,ii 0,.slice none 0 0],.blk J 38 [ii 0,ii 0,.slice none 0 0]]))=>aV w D I V B5 ak r R5 aF hV om (S.rd (i:=1) rfl) (S.rd (i:=0) rfl);refine z ?_;refine zf ?_;refine zc ?_;refine eX rfl ?_;refine zc ?_;refine gO ?_;try show CW _ _ _ _ _ _
      refine zc ?_;refine gP (M:=λe w=>∃(A2:Option Addr)(c2:Nat)(V2:List Int),V2.length=N/\SL e [(2,pt J),(5,pt U),(6,.slice B n1 cB),(10,.slice B2 T ac),(12,pt aa),(14,.slice B3 T ad),(15,.slice Z k ab),(16,ii q),(17,ii k),(21,ii x5)]/\St No W w [.blk aa 38 [ii gw,ii gh,.slice A2 N c2],.row 2 1 A2 N c2 (cY V2),.row 3 1 Z k ab ks,.row 24 4 B3 T ad (DP rs),.row 102 2 B2 T ac (eT es),.blk U 38 [ii 0,ii 0,.slice none 0 0],.blk J 38 [ii 0,ii 0,.slice none 0 0]]) ?_ ?_
      ·skip;refine zH (C:=(uB No W (.row 2 1 B5 R5.length ak (cY R5)::[.row 2 1 D N I (cY V),.row 3 1 Z k ab ks,.row 24 4 B3 T ad (DP rs),.row 102 2 B2 T ac (eT es),.blk U 38 [ii 0,ii 0,.slice none 0 0],.blk J 38 [ii 0,ii 0,.slice none 0 0]]) (λσ Q=>match σ with|[]=>Q=[.blk aa 38 [ii gw,ii gh,.slice D N I]]|[v]=>v=.agg #[ii gw,ii gh,.slice D N I]/\Q=[.blk aa 38 [ii gw,ii gh,.slice D N I]]|[v,_]=>∃(A':Option Addr)(c':Nat)(V':List Int)(e:Int)(R:List HA),v=.tuple #[.agg #[ii gw,ii gh,.slice A' N c'],ii e]/\V'.length=N/\(R=[]/\A'=D/\c'=I/\V'=V\/R=[.row 2 1 A' N c' (cY V')])/\Q=R++[.blk aa 38 [ii gw,ii gh,.slice D N I]]|_::v::_=>∃(A':Option Addr)(c':Nat)(V':List Int)(e:Int)(R:List HA),v=.tuple #[.agg #[ii gw,ii gh,.slice A' N c'],ii e]/\V'.length=N/\(R=[]/\A'=D/\c'=I/\V'=V\/R=[.row 2 1 A' N c' (cY V')])/\Q=R++[.blk aa 38 [ii gw,ii gh,.slice A' N c']]))) [0,6,10] [1,2,3,4,5,0,6,7,8,9,10] [] ⟨_,rfl,S.gr (Gr.drew _)⟩ ?_;refine qo rfl (λτ wq O=>fb xa rfl (yr _) rfl ((uB.st O).rd (i:=3) rfl) aE rfl rfl) ?_;refine zR ?_;refine de rfl rfl (λwq O=>?_) ?_
       ·obtain⟨Q,hQ,S⟩:=O;cases hQ;exact gu rfl (dH (fx gT rfl (YX _) rfl (S.blk (i:=0) rfl) rfl rfl) ⟨_,⟨rfl,rfl⟩,S⟩)
       rintro v0 w0 ⟨Q0,⟨rfl,_⟩,_⟩;refine de rfl rfl (λwq O=>vh O rfl (λQ hQ S=>?_)) ?_
       ·obtain⟨_,rfl⟩:=hQ;exact(aD _ (S.drop 1)).mono λv w'⟨A',c',V',e,Q',hl,hv,S2,hQ'⟩=>⟨_,⟨A',c',V',e,Q',hv,hl,hQ'.imp (λh=>⟨h.1,h.2.1,h.2.2.1,h.2.2.2⟩) (λh=>h),rfl⟩,by rw[cL];exact S.app S2⟩
       rintro v6 w6 ⟨Q6,⟨A6,c6,V6,e6,R6,rfl,_⟩,_⟩;refine zR ?_;refine de rfl rfl (λwq O=>?_) ?_
       ·obtain⟨Q,⟨A',c',V',e,R,hv,hl,hR,rfl⟩,S⟩:=O;cases hv;exact hR.elim (λ⟨h0,h1,h2,h3⟩=>by subst h0;exact gu rfl (d8 (i:=0) S rfl (YX _) rfl rfl rfl rfl rfl rfl (λw' S'=>⟨_,⟨_,_,_,_,[],rfl,hl,.inl ⟨rfl,h1,h2,h3⟩,rfl⟩,S'⟩))) (λh=>by subst h;exact gu rfl (d8 (i:=1) S rfl (YX _) rfl rfl rfl rfl rfl rfl (λw' S'=>⟨_,⟨_,_,_,_,[_],rfl,hl,.inr rfl,rfl⟩,S'⟩)))
       rintro bT bV _;refine zY ?_;rintro wz hz;refine ze ?_;obtain⟨_,⟨A2,c2,V2,_,R2,aH,aC,aN,rfl⟩,S⟩:=hz;cases aH
       rcases aN with⟨rfl,rfl,rfl,rfl⟩|rfl
       ·exact⟨_,_,_,aC,sl,S.sub (.cons_cons _ (.cons _ (cQ _)))⟩
       ·exact⟨_,_,_,aC,sl,(S.pick 2 [1,0] rfl rfl rfl).sub (.cons_cons _ (.cons_cons _ (.cons _ (.cons _ (cQ _)))))⟩
      ·rintro e w8 ⟨A2,c2,V2,aO,ar,S⟩;rw[ar.fold];refine zg ?_;refine yb S ?_;intro bf bA bm S bc;refine ZP 3 0 S ?_;intro au av bB S aG;refine zD [0,1,2,3,4,5,6,7,8,9,10,11] [] ?_;refine zO (λwq O=>((S.gr O).rd (i:=5) rfl)) ag ?_;refine zO (λwq O=>((S.gr O).rd (i:=5) rfl)) ai ?_;refine zE ?_;intro bC bn S;exact⟨mm-1,om,k+1,_,A2,c2,V2,au,av,_,om,aO,sl,S.drop 1⟩
     ·have S:=St.tail S;refine z ?_;refine zt ?_;refine z ?_;refine Z1 6 S ?_;intro bD S;refine z ?_;refine z ?_;refine zq ?_;exact qj gT rfl (YX _) rfl (S.blk (i:=6) rfl) rfl rfl rfl rfl (ae S)
   ·obtain rfl:k=T:=om;rcases cr (q≠(n1:Nat))with O|O
    ·skip;(iterate 3 refine z ?_);refine zf ?_;refine zc ?_;refine eX rfl ?_;refine zc ?_;refine pD ?_;repeat first|refine nC ?_|refine pE ?_
     show CW _ _ _ _ _ _;(iterate 3 refine z ?_);refine zt ?_;refine z ?_;refine Z1 6 S ?_;intro bE S;refine z ?_;refine z ?_;refine zq ?_;exact qj gT rfl (YX _) rfl (S.blk (i:=6) rfl) rfl rfl rfl rfl (ae S)
    ·skip;(iterate 3 refine z ?_);refine zf ?_;refine zc ?_;refine eX rfl ?_;refine zc ?_;refine pD ?_;repeat first|refine nC ?_|refine pE ?_
     show CW _ _ _ _ _ _;(iterate 3 refine z ?_);refine zf ?_;refine z ?_;refine z ?_;refine Z1 6 S ?_;intro bF S;refine z ?_;refine z ?_;refine zq ?_;exact qj gT rfl (YX _) rfl (S.blk (i:=6) rfl) rfl rfl rfl rfl ⟨_,_,_,_,_,_,_,_,_,rfl,S.out⟩
  ·have S:=St.tail S;repeat refine dm ?_
   refine dz ?_;refine cq (cH rfl) ?_;refine cq (ff (b:=true) rfl (f5.2 om)) ?_;first|refine eF ?_|(refine di ?_;show CW _ _ _ _ _ _)|refine di ?_
   repeat refine dm ?_
   refine jr rfl ?_;repeat refine dm ?_
   refine dz ?_;refine dH (fx gT rfl (YX _) rfl (S.blk (i:=0) rfl) rfl rfl) ?_;refine Z1 1 S ?_;intro bG S;iterate 2 refine cq (cH rfl) ?_
   first|refine eF ?_|(refine di ?_;show CW _ _ _ _ _ _)|refine di ?_
   repeat refine dm ?_
   refine mJ ?_;repeat first|refine mL ?_|refine oq ?_
   exact qj gT rfl (YX _) rfl (S.blk (i:=1) rfl) rfl rfl rfl rfl (ae S)
 ·skip;repeat refine dm ?_
  refine dz ?_;refine cq (cH rfl) ?_;refine cq (ff (b:=true) rfl (f5.2 om)) ?_;first|refine eF ?_|(refine di ?_;show CW _ _ _ _ _ _)|refine di ?_
  repeat refine dm ?_
  refine jr rfl ?_;repeat refine dm ?_
  refine dz ?_;refine dH (fx gT rfl (YX _) rfl (S.blk (i:=0) rfl) rfl rfl) ?_;refine Z1 1 S ?_;intro bH S;iterate 2 refine cq (cH rfl) ?_
  first|refine eF ?_|(refine di ?_;show CW _ _ _ _ _ _)|refine di ?_
  repeat refine dm ?_
  refine mJ ?_;repeat first|refine mL ?_|refine oq ?_
  exact qj gT rfl (YX _) rfl (S.blk (i:=1) rfl) rfl rfl rfl rfl (ae S)
end
structure wV(W:World)(o:m5):Prop where
 n:-9223372036854775808<=o.n/\o.n<=9223372036854775807
 m:-9223372036854775808<=o.m/\o.m<=9223372036854775807
 vs:∃V:List Int,o.vs.n=V.length/\Rd W o.vs.A (cY V)
 bs:∃l:List Int,o.bs.n=l.length/\o.bs.n<=o.bs.c/\Rd W o.bs.A (f9 l)
 bd:∃xs:List (Int×Int),o.bd.n=xs.length/\o.bd.n<=o.bd.c/\Rd W o.bd.A (kI xs)
theorem wV.gr(h:wV W o)(g:Gr W w):wV w o:=by
 obtain⟨V,h1,h2⟩:=h.vs;obtain⟨l,v,y,z⟩:=h.bs;obtain⟨xs,D,I,J⟩:=h.bd;exact⟨h.n,h.m,⟨V,h1,h2.gr g⟩,⟨l,v,y,z.gr g⟩,⟨xs,D,I,J.gr g⟩⟩
def C5(o:m5):Prop:=o.vs.n<=500/\o.bs.n<=2000/\o.bd.n<=40
theorem wV.ok(h:wV W o)(L:C5 o):IC W o:=by
 obtain⟨V,h1,h2⟩:=h.vs;obtain⟨l,v,y,z⟩:=h.bs;obtain⟨xs,D,I,J⟩:=h.bd;obtain⟨O,l2,S⟩:=L;exact⟨h.n,h.m,⟨V,h1,om,h2⟩,⟨l,v,y,om,z⟩,⟨xs,D,I,om,J⟩⟩
def G0(os:List m5):List Value:=os.flatMap m5.cs
theorem Md{os:List m5}(h:os[k]?=some o):((G0 os).drop ((k:Int).toNat * 14)).take 14=o.cs:=by
 rw[b7];exact lG (f:=m5.cs) (λ_=>rfl) h
theorem ID(os:List m5):(G0 os).length=os.length*14:=lF (f:=m5.cs) (λ_=>rfl) os
theorem Vl(os:List m5)(z:Nat)(au:z<=1000)(ab:∀o∈os,wV W o)(hA:Rd W A (G0 os)) :
  Fn prog 18 [.slice A os.length c,ii z] W (λv w'=>∃b,v=.bool b/\Gr W w'/\(b=false->os.length<=z/\∀o∈os,C5 o)):=by
 have D:∀{w:World}{L:List HA},St No W w L->∃b,(.bool true:Value)=.bool b/\Gr W w/\(b=false->os.length<=z/\∀o∈os,C5 o):=λS=>⟨true,rfl,S.out,λh=>by cases h⟩;generalize hN:os.length=N at *;have S:=St.start W;refine zI func18 ?_;rcases cr ((N:Int)>z)with ae|ae
 ·skip;refine zX ?_;exact(D S)
 ·skip;refine zg ?_
  refine dl (λk e w=>∃i:Nat,i+k=N/\(∀j o,j<i->os[j]?=some o->C5 o)/\SL e [(0,.slice A N c),(5,ii i)]/\St No W w []) N
   ⟨0,om,(λj o h=>absurd h om),sl,S⟩ ?_
  clear S;rintro k e w ⟨i,hi,Z,I,S⟩;rw[I.fold];rcases cr (i<N)with ag|ag
  ·obtain⟨o,ho⟩:∃o,os[i]?=some o:=⟨os[i],ct om⟩;have ah:=Md ho;have hr:=ab o (dD ho);obtain⟨b8,O,U,V⟩:=hr.bs;have am:dO A:=hA.someA (by rw[ID];omega)
   have y:C5 o->∀j q,j<i+1->os[j]?=some q->C5 q:=λh j q hj hq=>by
    rcases eV j i with h1|h1
    ·exact Z j q h1 hq
    ·obtain rfl:j=i:=om;rw[ho]at hq;injection hq with hq;exact hq▸h
   clear hr;obtain⟨k',ai,ak,aj,al,ax,ay,bx,ac,n,m,⟨vA,vn,vc⟩,⟨bA,bn,bc⟩,⟨dA,dn,dc⟩⟩:=o;unfold C5 at y;dsimp only at O U V y;subst O;refine zg ?_;refine ZU (hA.gr S.out) ah ?_;refine zN ?_;intro J aB ao S;refine Z1 0 S ?_;intro aC S;refine ze ?_;rcases cr ((vn:Int)>500)with h1|h1
   ·skip;refine yA ?_;exact ir rfl (D S)
   ·rcases cr ((b8.length:Int)>2000)with h2|h2
    ·skip;repeat refine dm ?_
     refine dz ?_;refine cq (du sd rfl iO rfl rfl) ?_;refine dH (cV dk rfl rfl (S.blk (i:=0) rfl) rfl) ?_;refine cq (p6 dk rfl) ?_;refine cq (ff (b:=false) rfl (cC om)) ?_;refine cq (cH rfl) ?_;first|refine eD rfl ?_|(refine dr rfl ?_;refine cq (du sd rfl Zq rfl rfl) ?_)
     first|refine eD rfl ?_|(refine dr rfl ?_;refine dH (cV q8 rfl rfl (S.blk (i:=0) rfl) rfl) ?_)
     first|refine eD rfl ?_|(refine dr rfl ?_;refine cq (p6 q8 rfl) ?_)
     first|refine eD rfl ?_|(refine dr rfl ?_;refine cq (ff (b:=true) rfl (cF om)) ?_)
     iterate 2 refine cq (cH rfl) ?_
     first|refine eD rfl ?_|(refine dr rfl ?_;refine cq (du sd rfl sizeOf29 rfl rfl) ?_)
     first|refine eD rfl ?_|(refine dr rfl ?_;refine dH (cV fZ rfl rfl (S.blk (i:=0) rfl) rfl) ?_)
     first|refine eD rfl ?_|(refine dr rfl ?_;refine cq (p6 fZ rfl) ?_)
     first|refine eD rfl ?_|(refine dr rfl ?_;(first|refine cq (ff (b:=true) rfl (cF om)) ?_|refine cq (ff (b:=false) rfl (cC om)) ?_|refine cq (cH rfl) ?_))
     refine cq (cH rfl) ?_;first|refine eF ?_|(refine di ?_;show CW _ _ _ _ _ _)|refine di ?_
     repeat refine dm ?_
     refine jr rfl ?_;repeat refine dm ?_
     refine dz ?_;refine cq (cH rfl) ?_;first|refine eF ?_|(refine di ?_;show CW _ _ _ _ _ _)|refine di ?_
     repeat refine dm ?_
     refine mJ ?_;repeat first|refine mL ?_|refine oq ?_
     exact ir rfl (D S)
    ·rcases cr ((dn:Int)>40)with h3|h3
     ·skip;refine yA ?_;exact ir rfl (D S)
     ·replace y:=y ⟨om,om,om⟩;have hl:=λw=>RN (W:=w) (A:=bA) (c:=bc) (l:=b8) U om;obtain⟨p,hp⟩:∃p,IntKind.i64.wrap (n*m)=p:=⟨_,rfl⟩;repeat refine dm ?_
      refine dz ?_;refine cq (du sd rfl iO rfl rfl) ?_;refine dH (cV dk rfl rfl (S.blk (i:=0) rfl) rfl) ?_;refine cq (p6 dk rfl) ?_;refine cq (ff (b:=false) rfl (cC om)) ?_;refine cq (cH rfl) ?_;first|refine eD rfl ?_|(refine dr rfl ?_;refine cq (du sd rfl Zq rfl rfl) ?_)
      first|refine eD rfl ?_|(refine dr rfl ?_;refine dH (cV q8 rfl rfl (S.blk (i:=0) rfl) rfl) ?_)
      first|refine eD rfl ?_|(refine dr rfl ?_;refine cq (p6 q8 rfl) ?_)
      first|refine eD rfl ?_|(refine dr rfl ?_;refine cq (ff (b:=false) rfl (cC om)) ?_)
      iterate 2 refine cq (cH rfl) ?_
      first|refine eD rfl ?_|(refine dr rfl ?_;refine cq (du sd rfl sizeOf29 rfl rfl) ?_)
      first|refine eD rfl ?_|(refine dr rfl ?_;refine dH (cV fZ rfl rfl (S.blk (i:=0) rfl) rfl) ?_)
      first|refine eD rfl ?_|(refine dr rfl ?_;refine cq (p6 fZ rfl) ?_)
      first|refine eD rfl ?_|(refine dr rfl ?_;refine cq (ff (b:=false) rfl (cC om)) ?_)
      refine cq (cH rfl) ?_;first|refine eF ?_|(refine di ?_;show CW _ _ _ _ _ _)|refine di ?_
      repeat refine dm ?_
      refine eX rfl ?_;repeat refine dm ?_
      refine gO ?_;try show CW _ _ _ _ _ _
      repeat refine dm ?_
      refine gP (M:=λe w=>∃B:Bool,SL e [(0,.slice A N c),(5,ii i),(6,pt J),(70,.bool B)]/\St No W w [.blk J 31 [ii k',ii ai,ii ak,ii aj,ii al,ii ax,ii ay,ii bx,ii ac,ii n,ii m,.slice vA vn vc,.slice bA b8.length bc,.slice dA dn dc]]) ?_ ?_
      ·by_cases hk:k'=1
       ·by_cases av:n>0
        ·by_cases aq:m>0
         ·by_cases aw:n<=1024
          ·by_cases ar:m<=1024
           ·by_cases az:p>300
            all_goals
             refine yA ?_;exact⟨_,sl,S⟩
           ·skip;refine zg ?_;exact⟨_,sl,S⟩
          ·skip;refine zg ?_;exact⟨_,sl,S⟩
         ·skip;refine zg ?_;exact⟨_,sl,S⟩
        ·skip;refine zg ?_;exact⟨_,sl,S⟩
       ·skip;refine zg ?_;exact⟨_,sl,S⟩
      ·rintro e w3 ⟨B9,I,S⟩;rw[I.fold];rcases B9 with _|_
       ·skip;refine zc ?_;refine eX rfl ?_;refine zc ?_;refine gO ?_;try show CW _ _ _ _ _ _
        rcases cr (k'=24)with hk|hk
        ·skip;repeat refine dm ?_
         refine dz ?_;refine cq (du sd rfl fa rfl rfl) ?_;refine dH (cV dB rfl rfl (S.blk (i:=0) rfl) rfl) ?_;refine cq (ff (b:=true) rfl (fX.2 om)) ?_;first|refine eF ?_|(refine di ?_;show CW _ _ _ _ _ _)|refine di ?_
         repeat refine dm ?_
         refine jr rfl ?_;repeat refine dm ?_
         refine dz ?_;refine cq (du sd rfl Zq rfl rfl) ?_;refine dH (cV q8 rfl rfl (S.blk (i:=0) rfl) rfl) ?_;refine eY rfl (hl w3 (V.gr S.out)) ?_;rintro _ aD ⟨X,Y,B,K,nB,cB,nK,cK,b,rfl,ad⟩;have S:=S.gr ad;refine zN ?_;intro an aE ap S;refine zS ?_;intro aF S;obtain⟨p2,aa⟩:∃p,IntKind.i64.wrap (X*Y)=p:=⟨_,rfl⟩;rcases b with _|_
         ·skip;refine zg ?_;exact⟨k-1,om,i+1,om,y,sl,S.drop 2⟩
         ·by_cases aA:p2>300
          ·skip;refine zg ?_;refine dr rfl ?_;refine cq (wS rfl rfl aa) ?_;refine zX ?_;exact(D S)
          ·skip;refine zg ?_;refine dr rfl ?_;refine cq (wS rfl rfl aa) ?_;refine zg ?_;exact⟨k-1,om,i+1,om,y,sl,S.drop 2⟩
        ·skip;repeat refine dm ?_
         refine dz ?_;refine cq (du sd rfl fa rfl rfl) ?_;refine dH (cV dB rfl rfl (S.blk (i:=0) rfl) rfl) ?_;refine cq (ff (b:=false) rfl (et.2 om)) ?_;first|refine eF ?_|(refine di ?_;show CW _ _ _ _ _ _)|refine di ?_
         repeat refine dm ?_
         refine eX rfl ?_;repeat refine dm ?_
         refine gO ?_;try show CW _ _ _ _ _ _
         repeat refine dm ?_
         refine dz ?_;refine cq (cH rfl) ?_;refine cq (fh rfl om) ?_;refine cq (cH rfl) ?_;first|refine eF ?_|(refine di ?_;show CW _ _ _ _ _ _)|refine di ?_
         exact⟨k-1,om,i+1,om,y,sl,S.drop 1⟩
       ·skip;refine zX ?_;exact(D S)
  ·obtain rfl:i=N:=om;refine zX ?_
   exact⟨false,rfl,S.out,λ_=>⟨om,λo ho=>by
    obtain⟨j,hj,rfl⟩:=gK.1 ho;exact Z j _ om (ct hj)⟩⟩
end Go.Proofs.YtceahkcepefcaaaGreatDoor
