/- A part of the proof that hachuretop.WholeErrors returns true at every input; no condition. -/
import Derived.Test.YtceahkcepefcaaaGreatDoorKU
import Derived.Test.YtceahkcepefcaaaGreatDoorKW
import Derived.Test.YtceahkcepefcaaaGreatDoorKV
set_option maxRecDepth 100000
set_option maxHeartbeats 16000000
set_option linter.unusedVariables false
set_option linter.unusedSimpArgs false
namespace Go.Proofs.YtceahkcepefcaaaGreatDoor
open Go.Proofs.Tryz Go.RowKit
variable{Q:(Nat->Value)->World->Prop}{bd:Code}{f fdo:FuncId}{h:HA}{X0 X1 Y Y0 Y1 a ax ay e0 now stamp:Int}{L0 M T tl:List HA}{V' V1 V2:List Int}{hd:List Nat}{vs xs:List Value}{b c c1 c2 dn g gh gw i j k k1 kb m n p p2 q sb sn tb x0 x1 y0 y1:Nat}{cc:Nat->Int}{bs bs2:Nat->Nat}{R':Nat->Nat->Bool}{Rs Rs2:Nat->Option Nat}{F X:Nat->Prop}{e:Nat->Value}{op:Op}{o:m5}{hi x:Operand}{A A1 B gp lp ov pp:Option Addr}{d:Option Tmp}{G:Prop}{r:Rc}{s s':lT}{α:Type}{t:TypeId}{u:Value}{W w w' wq:World}{C:World->Prop}
theorem OC(J:s.ok):pQ F W (s.L++M) s.sb o false (68) (λ_:{ q:Nat×List HA//Ob q.1 s.stamp s.gw s.gh s.V q.2 }=>gZ.fine) (λq=>{ s with ov:=some ⟨q.1.1,0,none⟩ }.L++(q.1.2++M)):=by
 intro kb tl w S;refine zI func68 ?_;refine zN ?_;intro y ac V S;refine zN ?_;intro z ad Z S;refine zH (C:=(Wi F W (.blk z 46 [ii 0,ii 0,.bool false,ii 0,ii 0,.slice none 0 0,.slice none 0 0,.slice none 0 0,.slice none 0 0,.slice none 0 0]::.blk y 31 o.cs::(s.L++M++(.blk kb 3 [ii o.k]::tl))) (λv Q=>∃sn,v=.tuple #[pt sn,ii 0]/\Ob sn s.stamp s.gw s.gh s.V Q) (λv=>.blk z 46 [ii 0,ii 0,.bool false,ii 0,ii 0,.slice none 0 0,.slice none 0 0,.slice none 0 0,.slice none 0 0,.slice none 0 0]::.blk y 31 o.cs::({ s with ov:=W7 v }.L++M++(.blk kb 3 [ii o.k]::tl))))) [9,15] [0,1,2,3,4,5,6,7,8,9,10,11,12,13,14,15] [] (S.gr (Gr.drew _)) ?_;refine qo rfl (λτ wq D=>D.ok (λS=>cV Y5 rfl rfl (S.blk (i:=2) rfl) rfl) (λv S=>cV Y5 rfl rfl (S.blk (i:=2) rfl) rfl)) ?_;refine zR ?_;refine qo rfl (λτ wq D=>D.ok (λS=>cV cw rfl rfl (S.blk (i:=2) rfl) rfl) (λv S=>cV cw rfl rfl (S.blk (i:=2) rfl) rfl)) ?_;refine de rfl rfl (λwq D=>l4 rfl ((UI J.hB (St.grid (show St F W wq _ from D) (i:=3) rfl)).mono λv w'⟨sn,Q,hv,hQ,S2⟩=>⟨_,⟨sn,hv,hQ⟩,St.app D S2⟩)) ?_;rintro v9 w9 ⟨_,⟨I,rfl,_⟩,_⟩;refine zR ?_;refine de rfl rfl (λwq D=>(show ∃Q,_/\St F W wq (Q++_)from D).elim λQ h=>BJ (i:=2) (St.mid (B:=[_,_,_]) h.2) rfl (sizeOf68 _) rfl rfl rfl rfl rfl rfl (λw' O=>⟨Q,h.1,St.mid (A:=[_,_,_]) O⟩)) ?_;rintro aa ab _;refine zY ?_;rintro wz ⟨Q,⟨sn,U,L⟩,S⟩;refine zg ?_;cases U
 have S:=St.mid (A:=Q) (B:=[_,_]) S;refine zS ?_;intro ae S;refine rA S ⟨⟨(I,Q),L⟩,rfl,?_⟩;rw[cL,cL];refine St.mid (A:=Q) (B:=lT.L { s with ov:=some ⟨I,0,none⟩ }) ?_;rw[<-cL (lT.L _)];exact S.drop 2
section
variable{V:List Int}
theorem L4:Fn prog 31 [ii 26] W (λv w'=>∃kb,v=.iface 141 (iT false (67) kb)/\St No W w' [.blk kb 3 [ii 26]]):=by
 have S:=St.start W;refine zI func31 ?_;refine zN ?_;intro y D z S;refine zg ?_;refine cq (jn aaj rfl rfl) ?_;refine zX ?_;exact⟨_,rfl,S⟩
theorem DY:xz 26 141 false (67):=by
 intro W;have S:=St.start W;refine zI func21 ?_;refine zK (L4) ?_;rintro _ y ⟨kb,rfl,v⟩;have S:=S.app v;refine zX ?_;exact⟨_,rfl,S⟩
theorem Ex(J:s.sb=sb)(D:xz o.k 112 true f)(I:s.ok)(L:0<=s.stamp/\s.stamp<1000)(U:s.l.length<40)(z:e0=dF X0 Y0 X1 Y1 s.gw s.gh)(y:V.length<=9223372036854775807)(O:sE F W (s.L++M) s.p o true f X0 Y0 X1 Y1 e0 V)(S:St F W w ((s.L++M)++tl)) :
  Fn prog 9 [pt sb,o.v] w (λv w'=>∃s':lT,v=({ code:=ET s.gw s.gh X0 Y0 X1 Y1 V }:gZ).v/\(s'.ok/\DX s s' (ET s.gw s.gh X0 Y0 X1 Y1 V) (im s.gw V X0.toNat Y0.toNat X1.toNat Y1.toNat s.cc))/\St F W w' ((s'.L++M)++tl)):=by
 subst J
 have hd:=Gi (F:=F) (W:=W) (w:=w) (L0:=s.rest++M) (tl:=tl) (α:={ s':lT//s'.ok/\DX s s' (ET s.gw s.gh X0 Y0 X1 Y1 V) (im s.gw V X0.toNat Y0.toNat X1.toNat Y1.toNat s.cc) }) (V:=λ_=>{ code:=ET s.gw s.gh X0 Y0 X1 Y1 V }) (Lx:=λx=>x.1.L++M) (o:=o) (t:=112) (f:=f) (sb:=s.sb) (gp:=some ⟨s.p,0,none⟩) (lp:=some ⟨s.lb,0,none⟩) (op:=s.ov) (pp:=some ⟨s.pp,0,none⟩) (stamp:=s.stamp) (fdo:=386)
  false true (λ_=>⟨_,rfl⟩) D (by kernel_rfl) (by kernel_rfl) (by kernel_rfl) underlying112 rfl
  (λkb Z w' S=>(LW I L U z y O S).mono λv aa⟨s',hv,hi,S'⟩=>⟨⟨s',hi⟩,hv,S'⟩) S
 exact hd.mono λv w'⟨x,hv,S'⟩=>⟨x.1,hv,x.2,S'⟩
theorem AR{α:Type}{Vr:α->gZ}{Lx:α->List HA}(I:s.sb=sb)(D:xz o.k 141 false f)(z:∀kb y w',St F W w' (s.L++y)->Fn prog (412) [iT false f kb,pt s.sb,o.v] w' (λv J=>∃x,v=(Vr x).v/\St F W J (Lx x++y)))(S:St F W w (s.L++T)) :
  Fn prog 9 [pt sb,o.v] w (λv w'=>∃x,v=(Vr x).v/\St F W w' (Lx x++T)):=by
 subst I
 exact Gi (F:=F) (W:=W) (w:=w) (L0:=s.rest) (tl:=T) (V:=Vr) (Lx:=Lx) (o:=o) (t:=141) (f:=f) (sb:=s.sb) (gp:=some ⟨s.p,0,none⟩) (lp:=some ⟨s.lb,0,none⟩) (op:=s.ov) (pp:=some ⟨s.pp,0,none⟩) (stamp:=s.stamp) (fdo:=412)
  false false (λ_=>⟨_,rfl⟩) D (by kernel_rfl) (by kernel_rfl) (by kernel_rfl) aaj rfl (λkb y w' S=>z kb _ w' S) S
theorem GT(D:s.sb=sb)(V:o.k=25)(z:s.ok)(L:0<=s.stamp/\s.stamp<1000)(hl:s.l.length<1000)(S:St F W w (s.L++T)) :
  Fn prog 9 [pt sb,o.v] w (λv w'=>∃s':lT,((s.done=0/\s'=s/\v=({ code:=15 }:gZ).v)\/(v=gZ.fine.v/\s'.ok/\∃x dn,s.done=dn+1/\s.l[dn]?=some x/\LY s s' x x.V2 x.V1 dn))/\St F W w' (s'.L++T)):=by
 rcases iZ s.done with I|I
 ·exact(AR (α:=Unit) (Vr:=λ_=>{ code:=15 }) (Lx:=λ_=>s.L) D (V▸DH) (λkb O w' S=>(L3 I S).mono λv U⟨y,S'⟩=>⟨(),y,S'⟩) S).mono λv w'⟨_,y,S'⟩=>⟨s,.inl ⟨I,rfl,y⟩,S'⟩
 ·obtain⟨dn,hd⟩:∃dn,s.done=dn+1:=⟨s.done-1,om⟩;have J:dn<s.l.length:=by have:=z.hd;omega
  have Z:=ct J;exact(AR (α:={ s':lT//s'.ok/\LY s s' _ _ _ dn }) (Vr:=λ_=>gZ.fine) (Lx:=λq=>q.1.L) D (V▸DH) (λkb O w' S=>(OB z L hl hd Z S).mono λv U⟨s',y,hi,S'⟩=>⟨⟨s',hi⟩,y,S'⟩) S).mono λv w'⟨q,y,S'⟩=>⟨q.1,.inr ⟨y,q.2.1,_,dn,hd,Z,q.2.2⟩,S'⟩
theorem OD(D:s.sb=sb)(V:o.k=26)(z:s.ok)(L:0<=s.stamp/\s.stamp<1000)(hl:s.l.length<1000)(S:St F W w (s.L++T)) :
  Fn prog 9 [pt sb,o.v] w (λv w'=>∃s':lT,((s.done=s.l.length/\s'=s/\v=({ code:=15 }:gZ).v)\/(v=gZ.fine.v/\s'.ok/\∃x,s.l[s.done]?=some x/\LY s s' x x.V1 x.V2 (s.done+1)))/\St F W w' (s'.L++T)):=by
 rcases cr (s.done=s.l.length)with I|I
 ·exact(AR (α:=Unit) (Vr:=λ_=>{ code:=15 }) (Lx:=λ_=>s.L) D (V▸DY) (λkb O w' S=>(JQ I S).mono λv U⟨y,S'⟩=>⟨(),y,S'⟩) S).mono λv w'⟨_,y,S'⟩=>⟨s,.inl ⟨I,rfl,y⟩,S'⟩
 ·have J:s.done<s.l.length:=by have:=z.hd;omega
  have Z:=ct J;exact(AR (α:={ s':lT//s'.ok/\LY s s' _ _ _ (s.done+1) }) (Vr:=λ_=>gZ.fine) (Lx:=λq=>q.1.L) D (V▸DY) (λkb O w' S=>(LZ z L hl rfl Z S).mono λv U⟨s',y,hi,S'⟩=>⟨⟨s',hi⟩,y,S'⟩) S).mono λv w'⟨q,y,S'⟩=>⟨q.1,.inr ⟨y,q.2.1,_,Z,q.2.2⟩,S'⟩
theorem vY.turned(h:vY ov now gw gh V M):vY ov (now+1) gw gh V' M:=by
 rcases h with⟨h1,h2⟩|⟨sn,st,v,h1,h2,y,z,D⟩
 ·exact .inl ⟨h1,h2⟩
 ·exact .inr ⟨sn,st,v,h1,h2,y,om,λh=>absurd h om⟩
theorem vY.painted{c2:Nat->Int}(h:vY s.ov s.stamp s.gw s.gh s.V M)(v:CE s s' c2):vY s'.ov s'.stamp s'.gw s'.gh s'.V M:=by
 rw[v.ov,v.gw,v.gh,v.V];rcases v.ch with⟨h1,_,_,h2⟩|⟨h1,_⟩
 ·rw[h1,<-h2];exact h
 ·rw[h1];exact h.turned
theorem vY.stepped{x:lS}(h:vY s.ov s.stamp s.gw s.gh s.V M)(v:LY s s' x V1 V2 dn):vY s'.ov s'.stamp s'.gw s'.gh s'.V M:=by
 rw[v.ov,v.gw,v.gh,v.st];exact h.turned
theorem vY.frozen{Q:List HA}(v:vB V)(h:Ob sn now gw gh V Q):vY (some ⟨sn,0,none⟩) now gw gh V Q:=.inr ⟨sn,now,V,rfl,h,v,ij _,λ_=>rfl⟩
end
def BQ(gw gh:Nat)(ax ay ha hb n:Int):Int:=if pk gw gh ax ay ha ax ay hb=0 then(if n<0\/1024<n then 9 else 0)else pk gw gh ax ay ha ax ay hb
section
variable{yb:Nat}{V:List Int}
theorem L8(ax ay I J n:Int)(hB:vB V)(U:1<=gw/\gw<=1024)(hh:1<=gh/\gh<=1024)(hP:iM W yb gw gh V) :
  Fn prog 113 [pt yb,.agg #[ii ax,ii ay],ii I,ii J,ii n] W
   (λu w'=>∃r:Rc,u=.tuple #[.agg r.cells.toArray,ii (BQ gw gh ax ay I J n)]/\(BQ gw gh ax ay I J n=0->r.ok gw gh)/\Gr W w'):=by
 have z:=λw(g:Gr W w)=>(At ax ay I ax ay J hB U hh (hP.gr g)).mono (R':=λu w'=>∃D ox oy,u=.tuple #[.bool D,.agg #[ii ox,ii oy],ii (pk gw gh ax ay I ax ay J)]/\Gr w w') λu w'⟨a,b,c,h1,_,h2⟩=>⟨a,b,c,h1,h2⟩;unfold BQ;by_cases L:pk gw gh ax ay I ax ay J=0
 ·rw[a7 L]
  have an:mD gw gh (ax,ay)=true:=by
   unfold pk at L;cases h:mD gw gh (ax,ay)with
   |true=>rfl
   |false=>rw[h]at L;simp at L
  rw[L]at z;have hi:=jT.1 an;dsimp only at hi;obtain⟨X,hX⟩:=cJ hi.1;obtain⟨Y,hY⟩:=cJ hi.2.2.1;subst hX hY;have ae:X<gw:=om;have h1:=(jo (Y:=Y) ae).1;have h2:=(jo (Y:=Y) ae).2
  have O:Y*gw+X<gw*gh:=by
   have:=eZ gw (show Y+1<=gh by omega);rw[lL,cG,cD gw Y]at this;omega
  by_cases hn:n<0\/1024<n
  ·rw[a7 hn];have v:=λw=>JC (W:=w) (gw:=gw) (gh:=gh) (Y*gw+X) n U hh O hn;rw[h1,h2]at v;have S:=St.start W;refine zI func113 ?_;refine zN ?_;intro Z ah ab S;refine zN ?_;intro y ai ac S;refine zK (z _ S.out) ?_;rintro _ aj ⟨D,ox,oy,rfl,g9⟩;have S:=S.gr g9;refine zN ?_;intro aa ak ad S;refine zS ?_;intro ap S;refine zC (tJ U hh (hP.gr S.out)) ?_;intro al am S;refine zC (v _) ?_;intro ar aq S;refine zS ?_;intro ag S;exact pG S ⟨⟨0,0,0,0⟩,rfl,(λh=>by cases h),S.out⟩
  ·rw[a8 hn];obtain⟨q,rfl⟩:=cJ (show 0<=n by omega);have v:=λw=>Rr (W:=w) (gw:=gw) (gh:=gh) (Y*gw+X) q U hh O om;have ao:=Ug (n:=q) U.1 O;rw[h1,h2]at v;generalize Lj gw gh (Y*gw+X) q=wi at *;unfold Li.val at v;have S:=St.start W;refine zI func113 ?_;refine zN ?_;intro Z ah ab S;refine zN ?_;intro y ai ac S;refine zK (z _ S.out) ?_;rintro _ aj ⟨D,ox,oy,rfl,g9⟩;have S:=S.gr g9;refine zN ?_;intro aa ak ad S;refine zS ?_;intro ap S;refine zC (tJ U hh (hP.gr S.out)) ?_;intro al am S;refine zC (v _) ?_;refine zS ?_;intro ag S;exact pG S ⟨⟨wi.x0,wi.y0,wi.x1,wi.y1⟩,rfl,λ_=>ao,S.out⟩
 ·rw[a8 L];generalize pk gw gh ax ay I ax ay J=e at *;have S:=St.start W;refine zI func113 ?_;refine zN ?_;intro Z ah ab S;refine zN ?_;intro y ai ac S;refine zK (z _ S.out) ?_;rintro _ aj ⟨D,ox,oy,rfl,g9⟩;have S:=S.gr g9;refine zN ?_;intro aa ak ad S;refine zS ?_;intro al S;exact pG S ⟨⟨0,0,0,0⟩,rfl,(λh=>absurd h L),S.out⟩
theorem SC(ax ay L O n:Int)(hB:vB V)(hw:1<=gw/\gw<=1024)(hh:1<=gh/\gh<=1024)(hP:iM W yb gw gh V) :
  Fn prog 56 [pt yb,.agg #[ii ax,ii ay],ii L,ii O,ii n] W
   (λu w'=>∃A k c,u=.tuple #[.slice A k c,ii (BQ gw gh ax ay L O n)]/\k<=1048576/\Gr W w'):=by
 have ae:=λw(g:Gr W w)=>L8 ax ay L O n hB hw hh (hP.gr g);have am:=λw(g:Gr W w)x y=>(At ax ay L x y O hB hw hh (hP.gr g)).mono (R':=λu w'=>∃J ox oy e,u=.tuple #[.bool J,.agg #[ii ox,ii oy],ii e]/\Gr w w') λu w'⟨a,b,c,h1,_,h2⟩=>⟨a,b,c,_,h1,h2⟩;generalize BQ gw gh ax ay L O n=e at *;by_cases he:e=0
 ·subst he;have S:=St.start W;refine zI func56 ?_;refine zN ?_;intro z ao ai S;refine zK (ae _ S.out) ?_;rintro _ ap ⟨r,rfl,U,g9⟩;have S:=S.gr g9;refine zN ?_;intro D aq aj S;refine zS ?_;intro ar S;have U:=U rfl;obtain⟨cc,al,aL,aM⟩:=Rc.area_le U hw.2 hh.2;have ab:=λw=>qc r.x0 r.y0 r.x1 r.y1 (by obtain⟨⟨a1,a2⟩,a3,a4⟩:=U;omega) w;have ad:=λw(i:Int)h1 h2=>Bw r.x0 r.y0 r.x1 r.y1 i (by obtain⟨⟨a1,a2⟩,a3,a4⟩:=U;omega) h1 h2 w;rw[al]at ab ad;replace S:St No W _ [.blk D 24 [ii r.x0,ii r.y0,ii r.x1,ii r.y1],.blk z 26 [ii ax,ii ay]]:=S;refine zC (ab _) ?_;intro aO aJ S;refine zg ?_;have S:=S.pushNil 26 2
  refine dl (λm e w=>∃(i k:Nat)(v:Option Addr)(I:Nat)(xs:List Value),i+m=cc/\k<=i/\SL e [(0,pt yb),(2,ii L),(3,ii O),(6,pt z),(12,pt D),(14,.slice v k I),(34,ii cc),(35,ii i)] /\
    St No W w [.row 26 2 v k I xs,.blk D 24 [ii r.x0,ii r.y0,ii r.x1,ii r.y1],.blk z 26 [ii ax,ii ay]]) cc
   ⟨0,0,none,0,[],by omega,cN _,sl,S⟩ ?_
  clear S;rintro m e w ⟨i,k,v,I,xs,hi,hk,an,S⟩;rw[an.fold];by_cases aN:i<cc
  ·have ak:=λw=>ad w i (by omega) (by omega);generalize (r.x0:Int)+(i:Int)%((r.x1:Int)-r.x0+1)=X2 at *;generalize (r.y0:Int)+(i:Int)/((r.x1:Int)-r.x0+1)=Y2 at *;have ac:=λw g=>am w g X2 Y2;refine zC (ak w) ?_;intro aP aK S;refine zN ?_;intro aH aA au S;refine zS ?_;intro aB S;refine zK (ac _ S.out) ?_;rintro _ aC ⟨J,ox,oy,e9,rfl,g9⟩;have S:=S.gr g9;refine zN ?_;intro aI aD av S;refine zS ?_;intro aE S;cases J
   ·skip;refine zg ?_;exact⟨m-1,by omega,i+1,k,v,I,xs,by omega,by omega,sl,S.drop 2⟩
   ·skip;refine zg ?_;refine Mv ZK ya Za rfl rfl rfl rfl rfl rfl S ?_;intro ah aF aw S ag;refine ZP 3 0 S ?_;intro Z aa aG S az;refine zg ?_;have S:=S.sub (.cons _ (.cons _ (.cons _ (.cons_cons _ (.cons_cons _ (.cons_cons _ .slnil))))));exact⟨m-1,by omega,i+1,k+1,Z,aa,_,by omega,by omega,sl,S⟩
  ·skip;refine zX ?_;exact⟨_,_,_,rfl,by omega,S.out⟩
 ·skip;have S:=St.start W;refine zI func56 ?_;refine zN ?_;intro z ao ai S;refine zK (ae _ S.out) ?_;rintro _ ap ⟨r,rfl,U,g9⟩;have S:=S.gr g9;refine zN ?_;intro D aq aj S;refine zS ?_;intro ar S;exact nd rfl rfl ⟨_,_,_,rfl,by omega,S.out⟩
end
theorem Vd:Fn prog 61 [.pointer none] W (dp (.agg #[ii 0,ii 0,ii 0,ii 0]) W):=by
 have S:=St.start W;refine zI func61 ?_;refine zN ?_;intro v z y S;refine zS ?_;intro D S;exact rA S ⟨rfl,S.out⟩
theorem SE:Fn prog 20 [.pointer none] W (dp (.tuple #[ii 0,ii 0]) W):=by
 have S:=St.start W;refine zI func20 ?_;exact zZ
theorem Ve(x0 y0 x1 y1:Int):Fn prog 90 [.pointer none,.agg #[ii x0,ii y0,ii x1,ii y1]] W (dp (ii 1) W):=by
 have S:=St.start W;refine zI func90 ?_;refine zN ?_;intro v z y S;exact zZ
theorem Vf(x0 y0 x1 y1:Int):Fn prog 44 [.pointer none,.agg #[ii x0,ii y0,ii x1,ii y1]] W (dp (.tuple #[.slice none 0 0,ii 1]) W):=by
 have S:=St.start W;refine zI func44 ?_;refine zN ?_;intro v D y S;refine zC (Ve (W:=_) _ _ _ _) ?_;intro I z S;exact zZ
theorem St.lev{a b c d e k:HA}{A B:List HA}(S:St F W w (a::b::c::d::e::k::(A++(B++tl)))):St F W w (k::((a::A)++(B++tl))):=(S.sub (.cons_cons _ (.cons _ (.cons _ (.cons _ (.cons _ (cQ _))))))).swap
theorem SF(hok:s.ok)(hk:o.k=12) :
  pQ F W (s.L++M) s.sb o true (54) (λq:{ q:Bool×Int×Int//JN s.gw s.gh s.V o.ax o.ay o.n o.bx o.by_ o.m q.1 q.2.1 q.2.2 }=>({ code:=0,yes:=q.1.1,ax:=q.1.2.1,ay:=q.1.2.2 }:gZ).told (pk s.gw s.gh o.ax o.ay o.n o.bx o.by_ o.m)) (λ_=>s.L++M):=by
 intro kb tl w S;replace S:=St.forthG S;obtain⟨ok,ox0,oy0,ox1,oy1,oax,oay,obx,oby,n,m,vs,bs,bd⟩:=o;dsimp only at hk;subst hk;replace S:St F W w (.blk kb 3 [ii 12]::(s.L++(M++tl))):=S;have hw1:=(S.grid (i:=2) rfl).sw;have hh1:=(S.grid (i:=2) rfl).sh;have hpy:∀{w A},St F W w (A++(s.L++(M++tl)))->iM w s.yb s.gw s.gh s.V:=λS=>lT.pyrAtG (St.tail S);refine zI func54 ?_;refine zN ?_;intro b_op w2_ g2_ S;refine zN ?_;intro b_out w4_ g4_ S;refine zN ?_;intro b_r w6_ g6_ S;refine zC (pj (S.blk (i:=6) rfl)) ?_;intro w7_ g7_ S;refine zK (At oax oay n obx oby m hok.hB hw1 hh1 (hpy (A:=[_,_,_,_]) S)) ?_;rintro _ w8_ ⟨yes,qx,qy,rfl,hq,g9⟩;have S:=S.gr g9;refine zS ?_;intro w10_ S;refine zC (o4 (r:={ code:=0,yes:=yes,ax:=qx,ay:=qy }) (pk s.gw s.gh oax oay n obx oby m)) ?_;refine zS ?_;intro w12_ S;exact rA S ⟨⟨(yes,qx,qy),hq⟩,rfl,St.backG (S.drop 3)⟩
theorem Vg(J:s.ok)(hk:o.k=13) :
  pQ F W (s.L++M) s.sb o true (54) (λq:Sv=>({ code:=0,n:=(q.n:Nat),cells:=q }:gZ).told (BQ s.gw s.gh o.ax o.ay o.n o.m o.bx)) (λ_=>s.L++M):=by
 intro kb tl w S;replace S:=St.forthG S;obtain⟨ok,ak,am,al,an,v,y,z,aj,n,m,vs,bs,bd⟩:=o;dsimp only at hk;subst hk;replace S:St F W w (.blk kb 3 [ii 13]::(s.L++(M++tl))):=S;have O:=(S.grid (i:=2) rfl).sw;have I:=(S.grid (i:=2) rfl).sh;have L:∀{w A},St F W w (A++(s.L++(M++tl)))->iM w s.yb s.gw s.gh s.V:=λS=>lT.pyrAtG (St.tail S);refine zI func54 ?_;refine zN ?_;intro Z ao ad S;refine zN ?_;intro D ap ae S;refine zN ?_;intro ac aq ag S;refine zC (pj (S.blk (i:=6) rfl)) ?_;intro ar ah S;refine zK (SC v y n m z J.hB O I (L (A:=[_,_,_,_]) S)) ?_;rintro _ au ⟨V,U,c9,rfl,ai,g9⟩;have S:=S.gr g9;refine zS ?_;intro aa S;refine zC (o4 (r:={ code:=0,n:=(U:Nat),cells:=⟨V,U,c9⟩ }) (BQ s.gw s.gh v y n m z)) ?_;refine zS ?_;intro ab S;exact rA S ⟨⟨V,U,c9⟩,rfl,St.backG (S.drop 3)⟩
theorem Vh(i k:Nat)(hi:i<s.gw*s.gh)(J:k<s.gw*s.gh)(ag:FF (kW s.gw s.V) i k)(ho:o.k=15/\o.ax=(i%s.gw:Nat)/\o.ay=(i/s.gw:Nat)) :
  pQ F W (s.L++M) s.sb o true (54) (λq:Option Addr×Nat=>{ code:=0,ax:=(xx (kW s.gw s.V) k i%s.gw:Nat),ay:=(xx (kW s.gw s.V) k i/s.gw:Nat),cells:=⟨q.1,k+1,q.2⟩:gZ }) (λq=>.row 26 2 q.1 (k+1) q.2 (eT ((zp (kW s.gw s.V) i k).map (cz s.gw)))::(s.L++M)):=by
 intro kb tl w S;replace S:=St.forthG S;obtain⟨ok,aa,ac,ab,ad,aq,ar,V,Z,n,m,vs,bs,bd⟩:=o;dsimp only at ho;obtain⟨rfl,rfl,rfl⟩:=ho;replace S:St F W w (.blk kb 3 [ii 15]::(s.L++(M++tl))):=S;have ah:=(S.grid (i:=2) rfl).sw;have ae:=(S.grid (i:=2) rfl).sh;have O:=mS (da (f:=cz s.gw)▸(by rw[MS];rfl):((zp (kW s.gw s.V) i k).map (cz s.gw))[k]?=some (cz s.gw (xx (kW s.gw s.V) k i)));generalize ai:(zp (kW s.gw s.V) i k).map (cz s.gw)=wl at *;have L:=λw G=>(WN (W:=w) (gw:=s.gw) (gh:=s.gh) (cc:=s.cc) (p:=s.p) (A:=s.A) (cap:=s.cap) (bs:=s.bs) (Rs:=s.Rs) i k hi J ag G).mono (R':=λv w'=>∃Q,(∃A c,v=.tuple #[.slice A (k+1) c,ii 0]/\Q=[.row 26 2 A (k+1) c (eT wl)])/\St No w w' Q) λv w'⟨A,c,hv,h2,h4,g⟩=>⟨_,⟨A,c,hv,rfl⟩,(St.start w).pushRow (ai▸h2) h4 g⟩;dsimp only[cz]at O;generalize ((xx (kW s.gw s.V) k i%s.gw:Nat):Int)=Xl at *;generalize ((xx (kW s.gw s.V) k i/s.gw:Nat):Int)=Yl at *;have U:((eT wl).drop ((((k+1:Nat):Int)-1).toNat * 2)).take 2=[ii Xl,ii Yl]:=by rw[(om:(((k+1:Nat):Int)-1).toNat=k)];exact O
 have ap:k<1048576:=fg J (cE ah.2 ae.2);generalize ((i%s.gw:Nat):Int)=X at *;generalize ((i/s.gw:Nat):Int)=Y at *;refine zI func54 ?_;refine zN ?_;intro z aw al S;refine zN ?_;intro y az am S;refine zN ?_;intro I aA an S;refine zC (pj (S.blk (i:=6) rfl)) ?_;intro aB ao S;refine zH (C:=(o9 F W (.blk y 46 uJ::.blk z 31 (m5.cs ⟨15,aa,ac,ab,ad,X,Y,V,Z,n,m,vs,bs,bd⟩)::.blk kb 3 [ii 15]::(s.L++(M++tl))) I 46 (λk v=>match k with|0=>uJ|_=>uJ.set 5 (Bj v 0)) (λv Q=>∃A c,v=.tuple #[.slice A (k+1) c,ii 0]/\Q=[.row 26 2 A (k+1) c (eT wl)]))) [6,11] [0,1,2,3,4,5,6,7,8,9,10,11] [12] (o9.start (S.gr (Gr.drew _))) ?_;refine zV (λτ wq D=>((o9.st D).blk (i:=3) rfl)) ?_;refine zV (λτ wq D=>((o9.st D).blk (i:=1) rfl)) ?_;refine de rfl rfl (λwq D=>wU D (λ_=>rfl) rfl (λS=>L wq (S.grid (i:=4) rfl))) ?_;rintro v6 w6 ⟨_,⟨A1,c1,rfl,_⟩,_⟩;refine zR ?_;refine de rfl rfl (λwq D=>rX (k:=0) D rfl rfl (ZL _) rfl rfl rfl rfl rfl rfl) ?_;rintro au av _;refine zY ?_;rintro wz hz;obtain⟨_,⟨_,_,e2,rfl⟩,S⟩:=o9.fin (k:=1) hz rfl rfl;cases e2
 replace S:St F W wz (.row 26 2 A1 (k+1) c1 (eT wl)::.blk I 46 (uJ.set 5 (.slice A1 (k+1) c1))::.blk y 46 uJ::.blk z 31 (m5.cs ⟨15,aa,ac,ab,ad,X,Y,V,Z,n,m,vs,bs,bd⟩)::.blk kb 3 [ii 15]::(s.L++(M++tl))):=S;refine zg ?_;have aj:dO A1:=(S.row (i:=0) rfl).someA om;refine zg ?_;refine ZU (S.rd (i:=0) rfl) U ?_;refine zS ?_;intro aC S;refine zC (vE (r:={ code:=0,ax:=Xl,ay:=Yl,cells:=⟨A1,k+1,c1⟩ })) ?_;refine zS ?_;intro ak S;exact rA S ⟨(A1,c1),rfl,St.backG (A:=_::s.L) (St.regBack S)⟩
structure dV(gw:Nat)(V:List Int)(a b:Nat)where
 d:Nat->Int
 A:Option Addr
 c:Nat
 k:Nat
 n:Int
 hd:lZ gw V b d
 hn:n=d a
 hk:k=(ri gw V d b a).length
def dV.rep{gw a b:Nat}{V:List Int}(q:dV gw V a b):gZ:={ code:=0,n:=q.n,cells:=⟨q.A,q.k,q.c⟩ }
def dV.row{gw a b:Nat}{V:List Int}(q:dV gw V a b):HA:=.row 26 2 q.A q.k q.c (eT ((ri gw V q.d b a).map (cz gw)))
def fm(gw:Nat)(V:List Int)(a b:Nat)(v:Value)(Q:List HA):Prop:=∃n A k c,v=.tuple #[ii n,.slice A k c,ii 0]/\∃d,lZ gw V b d/\n=d a/\k=(ri gw V d b a).length/\Q=[.row 26 2 A k c (eT ((ri gw V d b a).map (cz gw)))]
theorem SG(a b:Nat)(ab:s.ok)(ha:a<s.gw*s.gh)(hb:b<s.gw*s.gh)(ho:o.k=16/\o.ax=(a%s.gw:Nat)/\o.ay=(a/s.gw:Nat)/\o.bx=(b%s.gw:Nat)/\o.by_=(b/s.gw:Nat)) :
  pQ F W (s.L++M) s.sb o true (54) (λq:dV s.gw s.V a b=>q.rep) (λq=>q.row::(s.L++M)):=by
 intro kb tl w S;replace S:=St.forthG S;obtain⟨ok,L,U,O,V,ak,al,am,an,n,m,vs,bs,bd⟩:=o;dsimp only at ho;obtain⟨rfl,rfl,rfl,rfl,rfl⟩:=ho;replace S:St F W w (.blk kb 3 [ii 16]::(s.L++(M++tl))):=S;have aj:=(S.grid (i:=2) rfl).sw;have ai:=(S.grid (i:=2) rfl).sh;have J:=λw G=>(U9 (W:=w) (gw:=s.gw) (gh:=s.gh) (cc:=s.cc) (p:=s.p) (A:=s.A) (cap:=s.cap) (bs:=s.bs) (Rs:=s.Rs) a b ha hb ab.hB G).mono (R':=λv w'=>∃Q,fm s.gw s.V a b v Q/\St No w w' Q) λu w'⟨d,hd,A,c,hv,h2,h4,g⟩=>⟨_,⟨_,A,_,c,hv,d,hd,rfl,rfl,rfl⟩,(St.start w).pushRow h2 h4 g⟩;generalize ((a%s.gw:Nat):Int)=X at *;generalize ((a/s.gw:Nat):Int)=Y at *;generalize ((b%s.gw:Nat):Int)=X2 at *;generalize ((b/s.gw:Nat):Int)=Y2 at *;refine zI func54 ?_;refine zN ?_;intro D au ad S;refine zN ?_;intro y av ae S;refine zN ?_;intro I aw ag S;refine zC (pj (S.blk (i:=6) rfl)) ?_;intro az ah S;refine zH (C:=(o9 F W (.blk y 46 uJ::.blk D 31 (m5.cs ⟨16,L,U,O,V,X,Y,X2,Y2,n,m,vs,bs,bd⟩)::.blk kb 3 [ii 16]::(s.L++(M++tl))) I 46 (λk v=>match k with|0=>uJ|1=>uJ.set 1 (Bj v 0)|_=>(uJ.set 1 (Bj v 0)).set 5 (Bj v 1)) (fm s.gw s.V a b))) [8,14,16] [0,1,2,3,4,5,6,7,8,9,10,11,12,13,14,15,16] [17] (o9.start (S.gr (Gr.drew _))) ?_;refine zV (λτ wq z=>((o9.st z).blk (i:=3) rfl)) ?_;refine zV (λτ wq z=>((o9.st z).blk (i:=1) rfl)) ?_;refine zV (λτ wq z=>((o9.st z).blk (i:=1) rfl)) ?_;refine de rfl rfl (λwq z=>wU z (λ_=>rfl) rfl (λS=>J wq (S.grid (i:=4) rfl))) ?_;rintro v6 w6 ⟨_,⟨n1,A1,k1,c1,rfl,_⟩,_⟩;refine zR ?_;refine de rfl rfl (λwq z=>rX (k:=0) z rfl rfl (cR _) rfl rfl rfl rfl rfl rfl) ?_;rintro ao aq _;refine zR ?_;refine de rfl rfl (λwq z=>rX (k:=1) z rfl rfl (ZL _) rfl rfl rfl rfl rfl rfl) ?_;rintro ap ar _;refine zY ?_;rintro wz hz;obtain⟨_,⟨_,_,_,_,e2,d,hd,aa,Z,rfl⟩,S⟩:=o9.fin (k:=2) hz rfl rfl;cases e2
 replace S:St F W wz (.row 26 2 A1 k1 c1 (eT ((ri s.gw s.V d b a).map (cz s.gw)))::.blk I 46 ((uJ.set 1 (ii n1)).set 5 (.slice A1 k1 c1))::.blk y 46 uJ::.blk D 31 (m5.cs ⟨16,L,U,O,V,X,Y,X2,Y2,n,m,vs,bs,bd⟩)::.blk kb 3 [ii 16]::(s.L++(M++tl))):=S;refine zC (vE (r:={ code:=0,n:=n1,cells:=⟨A1,k1,c1⟩ })) ?_;refine zS ?_;intro ac S;exact rA S ⟨⟨d,A1,c1,k1,n1,hd,aa,Z⟩,rfl,St.backG (A:=_::s.L) (St.regBack S)⟩
theorem ON(J:mD s.gw s.gh (o.ax,o.ay)=false)(hk:o.k=15) :
  pQ F W (s.L++M) s.sb o true (54) (λ_:Unit=>{ code:=4:gZ }) (λ_=>s.L++M):=by
 intro kb tl w S;replace S:=St.forthG S;obtain⟨ok,aj,al,ak,am,L,O,ah,ai,n,m,vs,bs,bd⟩:=o;dsimp only at *;subst hk;replace S:St F W w (.blk kb 3 [ii 15]::(s.L++(M++tl))):=S;have ag:=(S.grid (i:=2) rfl).sw;have ae:=(S.grid (i:=2) rfl).sh;have y:=λw G=>SB (W:=w) (gw:=s.gw) (gh:=s.gh) (cc:=s.cc) (p:=s.p) (A:=s.A) (cap:=s.cap) (bs:=s.bs) (Rs:=s.Rs) L O J G;refine zI func54 ?_;refine zN ?_;intro U ao aa S;refine zN ?_;intro z ap ab S;refine zN ?_;intro D aq ac S;refine zC (pj (S.blk (i:=6) rfl)) ?_;intro ar ad S;refine zH (C:=(CX _ _ _ 0 (.blk D 46 uJ))) [11] [0,1,2,3,4,5,6,7,8,9,10,11] [12] (CX.start (S.gr (Gr.drew _))) ?_;refine zV (λτ wq v=>(v.blk (j:=4) (by decide) rfl)) ?_;refine zV (λτ wq v=>(v.blk (j:=2) (by decide) rfl)) ?_;refine jH rfl rfl (λτ wq v=>(y wq (show eJ wq _ _ _ _ _ _ _ _ from v.ok (j:=5) (by decide) rfl)).mono (λ_ _⟨hv,hg⟩=>⟨hv,v.gr hg⟩)) ?_;refine zR ?_;refine de rfl rfl (λwq v=>Ak v rfl (ZL _) rfl rfl rfl rfl rfl rfl rfl) ?_;rintro an au _;refine zY ?_;rintro av ⟨Z,I,S⟩;obtain rfl:=Option.some.inj I;refine zC (o4 (r:={ code:=0 }) 4) ?_;refine zS ?_;intro V S;exact rA S ⟨(),rfl,St.backG (S.drop 3)⟩
theorem EE(ad:mD s.gw s.gh (o.ax,o.ay)=false\/mD s.gw s.gh (o.bx,o.by_)=false)(hk:o.k=16) :
  pQ F W (s.L++M) s.sb o true (54) (λ_:Unit=>{ code:=4:gZ }) (λ_=>s.L++M):=by
 intro kb tl w S;replace S:=St.forthG S;obtain⟨ok,Z,ab,aa,ac,I,J,L,O,n,m,vs,bs,bd⟩:=o;dsimp only at *;subst hk;replace S:St F W w (.blk kb 3 [ii 16]::(s.L++(M++tl))):=S;have al:=(S.grid (i:=2) rfl).sw;have ak:=(S.grid (i:=2) rfl).sh;have V:=λw G=>(OJ (W:=w) (gw:=s.gw) (gh:=s.gh) (cc:=s.cc) (p:=s.p) (A:=s.A) (cap:=s.cap) (bs:=s.bs) (Rs:=s.Rs) I J L O G ad).mono (R':=λv w'=>∃Q,(v=.tuple #[ii 0,.slice none 0 0,ii 4]/\Q=[])/\St No w w' Q) λv w'⟨hv,g⟩=>⟨[],⟨hv,rfl⟩,(St.start w).gr g⟩;refine zI func54 ?_;refine zN ?_;intro D aq ag S;refine zN ?_;intro y ar ah S;refine zN ?_;intro U au ai S;refine zC (pj (S.blk (i:=6) rfl)) ?_;intro av aj S;refine zH (C:=(o9 F W (.blk y 46 uJ::.blk D 31 (m5.cs ⟨16,Z,ab,aa,ac,I,J,L,O,n,m,vs,bs,bd⟩)::.blk kb 3 [ii 16]::(s.L++(M++tl))) U 46 (λk v=>match k with|0=>uJ|1=>uJ.set 1 (Bj v 0)|_=>(uJ.set 1 (Bj v 0)).set 5 (Bj v 1)) (λv Q=>v=.tuple #[ii 0,.slice none 0 0,ii 4]/\Q=[]))) [8,14,16] [0,1,2,3,4,5,6,7,8,9,10,11,12,13,14,15,16] [17] (o9.start (S.gr (Gr.drew _))) ?_;refine zV (λτ wq z=>((o9.st z).blk (i:=3) rfl)) ?_;refine zV (λτ wq z=>((o9.st z).blk (i:=1) rfl)) ?_;refine zV (λτ wq z=>((o9.st z).blk (i:=1) rfl)) ?_;refine de rfl rfl (λwq z=>wU z (λ_=>rfl) rfl (λS=>V wq (S.grid (i:=4) rfl))) ?_;rintro v6 w6 ⟨_,⟨rfl,_⟩,_⟩;refine zR ?_;refine de rfl rfl (λwq z=>rX (k:=0) z rfl rfl (cR _) rfl rfl rfl rfl rfl rfl) ?_;rintro am ao _;refine zR ?_;refine de rfl rfl (λwq z=>rX (k:=1) z rfl rfl (ZL _) rfl rfl rfl rfl rfl rfl) ?_;rintro an ap _;refine zY ?_;rintro wz hz;obtain⟨_,⟨_,rfl⟩,S⟩:=o9.fin (k:=2) hz rfl rfl;replace S:St F W wz (.blk U 46 uJ::.blk y 46 uJ::.blk D 31 (m5.cs ⟨16,Z,ab,aa,ac,I,J,L,O,n,m,vs,bs,bd⟩)::.blk kb 3 [ii 16]::(s.L++(M++tl))):=S;refine zC (o4 (r:={ code:=0 }) 4) ?_;refine zS ?_;intro ae S;exact rA S ⟨(),rfl,St.backG (S.drop 3)⟩
theorem EF(v:¬((0<=o.n/\o.n<fW s.gw s.gh)/\(o.m=0\/o.m=1\/o.m=2)))(hk:o.k=17) :
  pQ F W (s.L++M) s.sb o true (54) (λ_:Unit=>{ code:=11:gZ }) (λ_=>s.L++M):=by
 intro kb tl w S;replace S:=St.forthG S;obtain⟨ok,al,an,am,ao,ah,ai,aj,ak,n,m,vs,bs,bd⟩:=o;dsimp only at *;subst hk;replace S:St F W w (.blk kb 3 [ii 17]::(s.L++(M++tl))):=S;have ag:=(S.grid (i:=2) rfl).sw;have ae:=(S.grid (i:=2) rfl).sh;have y:=λw G=>Mb (W:=w) (gw:=s.gw) (gh:=s.gh) (cc:=s.cc) (p:=s.p) (A:=s.A) (cap:=s.cap) (bs:=s.bs) (Rs:=s.Rs) n m v G;refine zI func54 ?_;refine zN ?_;intro D ap Z S;refine zN ?_;intro z aq aa S;refine zN ?_;intro V ar ab S;refine zC (pj (S.blk (i:=6) rfl)) ?_;intro au ac S;refine zD [0,1,2,3,4,5,6,7,8,9,10,11,12,13] [] ?_;refine zP (λwq hq=>y wq ((S.gr hq).grid (i:=5) rfl)) ?_;refine zE ?_;intro av ad S;refine zC (SE (W:=_)) ?_;refine zS ?_;intro J S;refine zC (Vd (W:=_)) ?_;intro L I S;refine zC (Vf (W:=_) _ _ _ _) ?_;refine zS ?_;intro O S;refine zC (o4 (r:={ code:=0 }) 11) ?_;refine zS ?_;intro U S;exact rA S ⟨(),rfl,St.backG (S.drop 3)⟩
theorem IB(y z:Nat)(aq:s.ok)(ap:y<fW s.gw s.gh)(ao:z<=2)(hk:o.k=17/\o.n=y/\o.m=z) :
  pQ F W (s.L++M) s.sb o true (54) (λq:Option Addr×Nat=>{ code:=0,ax:=(dG s.gw y:Nat),ay:=(dG s.gh y:Nat),values:=⟨q.1,dG s.gw y*dG s.gh y,q.2⟩:gZ }) (λq=>.row 2 1 q.1 (dG s.gw y*dG s.gh y) q.2 (cY (dw (dG s.gw y) (dG s.gh y) (λi=>((List.range (dG s.gw y*dG s.gh y)).map (EU s.gw s.gh s.cc y z)).getD i 0)))::(s.L++M)):=by
 intro kb tl w S;replace S:=St.forthG S;obtain⟨ok,aj,al,ak,am,ae,ag,ah,ai,n,m,vs,bs,bd⟩:=o;dsimp only at *;obtain⟨rfl,rfl,rfl⟩:=hk;replace S:St F W w (.blk kb 3 [ii 17]::(s.L++(M++tl))):=S;have aI:=(S.grid (i:=2) rfl).sw;have aH:=(S.grid (i:=2) rfl).sh;have I:=λw G=>SD (W:=w) (gw:=s.gw) (gh:=s.gh) (cc:=s.cc) (p:=s.p) (A:=s.A) (cap:=s.cap) (bs:=s.bs) (Rs:=s.Rs) y z ap ao aq.hB G;try dsimp only
 generalize (λi=>((List.range (dG s.gw y*dG s.gh y)).map (EU s.gw s.gh s.cc y z)).getD i 0)=U at *;generalize dG s.gw y=V at *;generalize dG s.gh y=Z at *;replace I:=λw G=>(I w G).mono (R':=λv w'=>∃Q,(∃p2 B bc bs2 Rs2,v=.tuple #[pt p2,ii 0]/\Q=[.grid p2 V Z U B bc bs2 Rs2])/\St No w w' Q) λv w'⟨p2,B,bc,bs2,Rs2,hv,hG2,hf2,g⟩=>⟨_,⟨p2,B,bc,bs2,Rs2,hv,rfl⟩,(St.start w).pushGrid hG2 hf2 g⟩;refine zI func54 ?_;refine zN ?_;intro L aJ aC S;refine zN ?_;intro D aK aD S;refine zN ?_;intro ac aL aE S;refine zC (pj (S.blk (i:=6) rfl)) ?_;intro aM aF S;refine zH (C:=(o9 F W (.blk D 46 uJ::.blk L 31 (m5.cs ⟨17,aj,al,ak,am,ae,ag,ah,ai,y,z,vs,bs,bd⟩)::.blk kb 3 [ii 17]::(s.L++(M++tl))) ac 46 (λk v=>uJ) (λv Q=>∃p2 B bc bs2 Rs2,v=.tuple #[pt p2,ii 0]/\Q=[.grid p2 V Z U B bc bs2 Rs2]))) [8] [0,1,2,3,4,5,6,7,8,9,10,11,12] [13] (o9.start (S.gr (Gr.drew _))) ?_;refine zV (λτ wq hq=>((o9.st hq).blk (i:=3) rfl)) ?_;refine zV (λτ wq hq=>((o9.st hq).blk (i:=1) rfl)) ?_;refine zV (λτ wq hq=>((o9.st hq).blk (i:=1) rfl)) ?_;refine de rfl rfl (λwq hq=>wU hq (λ_=>rfl) rfl (λS=>I wq (S.grid (i:=4) rfl))) ?_;rintro v6 w6 ⟨_,⟨p2,B,bc,bs2,Rs2,rfl,_⟩,_⟩;refine zY ?_;rintro wz hz;obtain⟨_,⟨_,_,_,_,_,e2,rfl⟩,S⟩:=o9.fin (k:=0) hz rfl rfl;cases e2
 replace S:St F W wz (.grid p2 V Z U _ _ _ _::.blk ac 46 uJ::.blk D 46 uJ::.blk L 31 (m5.cs ⟨17,aj,al,ak,am,ae,ag,ah,ai,y,z,vs,bs,bd⟩)::.blk kb 3 [ii 17]::(s.L++(M++tl))):=S;refine zg ?_;have aG:=(S.grid (i:=0) rfl).top;have ar:=(S.grid (i:=0) rfl).sw;have an:=(S.grid (i:=0) rfl).sh;refine zC (mC p2 V Z _ wz ((S.grid (i:=0) rfl).top)) ?_;refine zS ?_;intro av S;refine zC (uo p2 V Z ar.2 an.2 _ _ ((S.grid (i:=0) rfl).top)) ?_;intro aw au S;refine zK (FU (S.grid (i:=0) rfl) _ (Gr.refl _)) ?_;rintro _ az ⟨J,O,rfl,aa,ab,ad⟩;have S:=S.pushRow aa ab ad;refine zS ?_;intro aA S;refine zC (vE (r:={ code:=0,ax:=(V:Nat),ay:=(Z:Nat),values:=⟨J,V*Z,O⟩ })) ?_;refine zS ?_;intro aB S;exact rA S ⟨(J,O),rfl,St.backG (A:=_::s.L) (St.lev S)⟩
section
variable{V:List Int}
theorem Mi(y:V.length=n)(z:∀v∈V,iL v=true):sX n V=0:=by
 unfold sX
 rw[a8 (by simpa using y),a8 (by
  intro h;obtain⟨v,D,h⟩:=jZ.1 h;rw[z v D]at h;cases h)]
theorem Ay(O:s.sb=sb)(J:xz o.k 112 true f)(L:s.ok)(U:0<=s.stamp/\s.stamp<1000)(hl:s.l.length<40)(hx:x0<=x1/\x1<s.gw)(hy:y0<=y1/\y1<s.gh)(y:V.length=(y1+1-y0)*(x1+1-x0))(z:∀v∈V,iL v=true)(Z:sE F W (s.L++M) s.p o true f x0 y0 x1 y1 0 V)(S:St F W w ((s.L++M)++tl)) :
  Fn prog 9 [pt sb,o.v] w (λv w'=>∃s':lT,v=gZ.fine.v/\(s'.ok/\CE s s' (im s.gw V x0 y0 x1 y1 s.cc))/\St F W w' ((s'.L++M)++tl)):=by
 have hw:=(S.grid (i:=1) rfl).sw;have hh:=(S.grid (i:=1) rfl).sh;have I:dF (x0:Int) y0 x1 y1 s.gw s.gh=0:=gW om om om om
 have D:ET s.gw s.gh x0 y0 x1 y1 V=0:=by
  unfold ET;rw[a7 I];simp only[b7];exact Mi y z
 have aa:V.length<=1024*1024:=y▸cE om om;refine(Ex O J L U hl I.symm om Z S).mono λv w'⟨s',hv,⟨h1,h2⟩,S'⟩=>⟨s',by rw[hv,D];rfl,⟨h1,?_⟩,S'⟩;rcases h2 with⟨h,_⟩|⟨_,h⟩
 ·exact absurd D h
 ·simpa only[b7]using h
theorem ST(D:o.k=4)(v:o.x0=x0/\o.y0=y0/\o.x1=x1/\o.y1=y1)(y:dF (x0:Int) y0 x1 y1 s.gw s.gh=0)(I:o.vs.n=V.length)(z:∀w,Fr F W w->(∀h∈s.L++M,h.ok w)->Rd w o.vs.A (cY V)) :
  sE F W (s.L++M) s.p o true (43) x0 y0 x1 y1 0 V:=by
 have:=Iu D I z;rwa[v.1,v.2.1,v.2.2.1,v.2.2.2,y]at this
theorem OR{x:lS}(J:s.sb=sb)(U:o.k=25)(I:s.ok)(L:0<=s.stamp/\s.stamp<1000)(V:s.l.length<1000)(hd:s.done=dn+1)(hx:s.l[dn]?=some x)(h2:fi s.gw s.cc x.x0 x.y0 (x.x1+1-x.x0) (x.y1+1-x.y0)=x.V2)(S:St F W w (s.L++T)) :
  Fn prog 9 [pt sb,o.v] w (λv w'=>∃s':lT,v=gZ.fine.v/\(s'.ok/\s'.sb=s.sb/\s'.gw=s.gw/\s'.gh=s.gh/\s'.ov=s.ov/\s'.V=dw s.gw s.gh (im s.gw x.V1 x.x0 x.y0 x.x1 x.y1 s.cc)/\s'.stamp=s.stamp+1)/\St F W w' (s'.L++T)):=by
 refine(GT J U I L V S).mono λv w'⟨s',h,S'⟩=>?_;rcases h with⟨h,_⟩|⟨Z,h1,x',D,O,z,y⟩
 ·omega
 ·obtain rfl:dn=D:=om;rw[hx]at z;cases z
  refine⟨s',Z,⟨h1,y.sb,y.gw,y.gh,y.ov,?_,y.st⟩,S'⟩;rcases y.cc with h|⟨_,h⟩
  ·show dw s'.gw s'.gh s'.cc=_;rw[y.gw,y.gh,h]
  ·exact absurd h2 h
end
theorem OS{c2:Nat->Int}{x:lS}(z:CE s s' c2)(h1:x.V1=fi s.gw s.cc x.x0 x.y0 (x.x1+1-x.x0) (x.y1+1-x.y0))(v:∀a b,a<s.gw->b<s.gh->s.cc (b*s.gw+a)≠c2 (b*s.gw+a)->(x.x0<=a/\a<=x.x1)/\x.y0<=b/\b<=x.y1):dw s'.gw s'.gh (im s'.gw x.V1 x.x0 x.y0 x.x1 x.y1 s'.cc)=s.V:=by
 have D:dw s'.gw s'.gh s'.cc=dw s.gw s.gh c2:=z.V;rw[z.gw,z.gh]at D ⊢;rw[h1];refine Ep λa b I J y=>v a b I J λe=>y ?_
 have hi:b*s.gw+a<s.gw*s.gh:=by
  have h1:=cI s.gw (show b+1<=s.gh by omega);rw[cX,cD s.gh]at h1;omega
 rw[e];exact DG D hi
theorem St.nil1{L:List HA}(S:St F W w (L++T)):St F W w ((L++[])++T):=by rw[fG];exact S
theorem St.nil2{L:List HA}(S:St F W w ((L++[])++T)):St F W w (L++T):=by rw[fG]at S;exact S
theorem St.asc{A B C:List HA}(S:St F W w ((A++B)++C)):St F W w (A++(B++C)):=by rw[<-cL];exact S
theorem St.csa{A B C:List HA}(S:St F W w (A++(B++C))):St F W w ((A++B)++C):=by rw[cL];exact S
theorem OU:Fn prog 24 [] W (dp (.bool true) W):=by
 have S:=St.start W;refine zI func24 ?_;refine zK (Gk) ?_;rintro _ bz ⟨sb,pp,rfl,S2⟩;have S:=S.app S2;refine zN ?_;intro aK bA bq S;refine zS ?_;intro bB S;refine zK (Eq (o:=⟨1,0,0,0,0,0,0,0,0,2,1,.nil,.nil,.nil⟩) (gw:=2) (gh:=1) rfl (by decide) (by decide) rfl rfl (S.pick 3 [1,0,2] rfl rfl rfl)) ?_;rintro _ bC ⟨s1,rfl,⟨ai,al,aa,Z,be,aL,ap,bv,bf⟩,S⟩;refine zg ?_;have S:=S.mid (A:=s1.L) (B:=[_]);refine zK (Ay (s:=s1) (M:=[]) (o:=⟨2,0,0,0,0,0,0,0,0,5,0,.nil,.nil,.nil⟩) (x0:=0) (y0:=0) (x1:=0) (y1:=0) (V:=(fi s1.gw s1.cc 0 0 (0+1-0) (0+1-0)).map (C4 2 5)) al (wO (by decide) (by decide)) ai om (by rw[ap];decide) om om (by rw[eP,lE]) (by simp[iL,C4,LX];omega) (GR ai om om (.inl ⟨rfl,rfl,rfl,rfl,rfl⟩)) (S.mid (A:=[_]) (B:=s1.L)).nil1) ?_;rintro _ bD ⟨z,rfl,⟨J,O⟩,S⟩;have S:=S.nil2.mid (A:=z.L) (B:=[_]);refine ze ?_;have am:z.sb=sb:=O.sb.trans al;have ad:z.gw=2:=O.gw.trans aa;have aA:z.gh=1:=O.gh.trans Z;have bg:0<=z.stamp/\z.stamp<=1:=by rcases O.ch with⟨h,_⟩|⟨h,_⟩<;>omega
 have aT:z.l.length<=1:=by
  rcases O.ch with⟨_,h,_⟩|⟨_,x,h,_⟩
  ·rw[h,ap];simp
  ·rw[h,ap];simp
 refine zK (tj (s:=z) (M:=[]) (o:=⟨18,0,0,0,0,0,0,0,0,0,0,.nil,.nil,.nil⟩) am false Ai (NI J) (S.mid (A:=[_]) (B:=z.L)).nil1) ?_;rintro _ bE ⟨⟨⟨sn,Q⟩,aV⟩,rfl,S⟩;have S:=S.mid (B:=[_]);refine ze ?_;obtain⟨tb,q,Ao,co,Fs,au,hQ⟩:=aV;dsimp only at hQ S;rw[fG]at S
 have aN:s1.cc 1=0:=by
  have h:dw s1.gw s1.gh s1.cc=dw 2 1 (λ_=>0):=aL;rw[aa,Z]at h;exact DG h (by decide)
 have av:z.V=[5,0]:=by
  rw[O.V,aa,Z];show [(5:Int),s1.cc 1]=[5,0];rw[aN]
 obtain⟨y,I⟩:∃y:lT,{ z with ov:=some ⟨sn,0,none⟩ }=y:=⟨_,rfl⟩;have an:y.sb=sb:=by rw[<-I];exact am
 have ae:y.gw=2:=by rw[<-I];exact ad
 have ac:y.gh=1:=by rw[<-I];exact aA
 have aw:y.V=[5,0]:=by rw[<-I];exact av
 have bh:y.stamp=z.stamp:=by rw[<-I]
 have bw:y.l.length<=1:=by rw[<-I];exact aT
 have aG:y.ov=some ⟨sn,0,none⟩:=by rw[<-I]
 have aj:y.ok:=by rw[<-I];exact⟨J.hB,J.hd,J.hg⟩
 rw[I]at S;refine zK (Ay (s:=y) (M:=Q) (o:=⟨3,0,0,1,0,0,0,0,0,1,0,.nil,.nil,.nil⟩) (x0:=0) (y0:=0) (x1:=1) (y1:=0) (V:=(fi y.gw y.cc 0 0 (1+1-0) (0+1-0)).map (C4 3 1)) an (wO (by decide) (by decide)) aj om om om om (by rw[eP,lE]) (by simp[iL,C4,LX];omega) (GR aj om om (.inr ⟨.inl rfl,rfl,rfl,rfl,rfl⟩)) (S.mid (A:=[_]) (B:=y.L++Q))) ?_;rintro _ bF ⟨L,rfl,⟨aD,D⟩,S⟩;have S:=S.mid (A:=L.L++Q) (B:=[_]);refine ze ?_;have ab:L.sb=sb:=D.sb.trans an;have ag:L.gw=2:=D.gw.trans ae;have aB:L.gh=1:=D.gh.trans ac;have ak:L.ov=some ⟨sn,0,none⟩:=D.ov.trans aG
 have aO:L.stamp=y.stamp+1/\∃x:lS,L.l=y.l.take y.done++[x]/\L.done=L.l.length/\DA y.gw y.gh x/\x.V1=fi y.gw y.cc x.x0 x.y0 (x.x1+1-x.x0) (x.y1+1-x.y0)/\x.V2=fi y.gw L.cc x.x0 x.y0 (x.x1+1-x.x0) (x.y1+1-x.y0) /\
   ∀a b,a<y.gw->b<y.gh->y.cc (b*y.gw+a)≠im y.gw ((fi y.gw y.cc 0 0 (1+1-0) (0+1-0)).map (C4 3 1)) 0 0 1 0 y.cc (b*y.gw+a)->(x.x0<=a/\a<=x.x1)/\x.y0<=b/\b<=x.y1:=by
  rcases D.ch with⟨_,_,_,h⟩|h
  ·exfalso;rw[aw,ae,ac]at h;have h:[(5:Int),0]=[1,1]:=h;cases h
  ·exact h
 obtain⟨bi,x,aq,aP,hX,aX,aY,aS⟩:=aO;have ao:eL _ sb 71 L.top:=ab▸S.blk (i:=1) rfl;unfold lT.top at ao;rw[ak]at ao;subst hQ;have bt:DA L.gw L.gh x:=by rw[D.gw,D.gh];exact hX
 have aF:uv z.V z.gw 0 0 1 0=5:=by rw[av,ad];rfl
 have bu:1<=x.V1.length:=by
  have h1:=hX.hx;have h2:=hX.hy;rw[hX.l1];exact cE (show 1<=x.y1+1-x.y0 by omega) (show 1<=x.x1+1-x.x0 by omega)
 refine zC (((Rl (o:=⟨20,0,0,1,0,0,0,0,0,0,0,.nil,.nil,.nil⟩) (V:=z.V) (gw:=z.gw) (gh:=z.gh) (x0:=0) (y0:=0) (x1:=1) (y1:=0) rfl J.hB om om om om ⟨rfl,rfl,rfl,rfl⟩ (S.blk (i:=12) rfl) (S.drop 13).areaAt ao).mono λv w'⟨hv,hg⟩=>(show v=gZ.v { code:=0,n:=5 }/\Gr _ w' from ⟨by rw[hv,aF],hg⟩))) ?_;intro bG br S;refine zN ?_;intro aZ bk bb S;refine zS ?_;intro bl S;refine zK (OR (s:=L) (x:=x) (o:=⟨25,0,0,0,0,0,0,0,0,0,0,.nil,.nil,.nil⟩) (dn:=(y.l.take y.done).length) ab rfl aD om (by rw[aq,cP,d7];simp;omega) (by rw[aP,aq,cP];rfl) (by rw[aq,fU (cN _),j8];rfl) (by rw[D.gw];exact aY.symm) (S.mid (A:=[_,_]) (B:=L.L++_)).asc) ?_;rintro _ bm ⟨U,rfl,⟨aE,aI,ah,aC,aH,aM,bj⟩,S⟩;have S:=S.csa.mid (A:=U.L++_) (B:=[_,_]);refine ze ?_;have az:U.V=[5,0]:=(aM.trans (OS D aX aS)).trans aw;have aJ:uv U.V U.gw 0 0 1 0=5:=by rw[az,ah,ag];rfl
 have aR:U.gw=2:=ah.trans ag;have aQ:U.gh=1:=aC.trans aB;have aU:z.stamp≠U.stamp:=om;have ar:U.ov=some ⟨sn,0,none⟩:=aH.trans ak;have aW:=λw TL(S:St No W w ((U.L++(.blk sn 253 [ii z.stamp,pt tb,pt q]::BB tb z.gw z.gh z.V Ao co Fs au))++TL))=>(tj (s:=U) (o:=⟨7,0,0,1,0,0,0,0,0,0,0,.nil,.nil,.nil⟩) (aI.trans ab) true (rV (by decide) (by decide)) (PG (x0:=0) (y0:=0) (x1:=1) (y1:=0) aE om om (λw tl S=>.inr ⟨sn,z.stamp,_,_,ar,aU,S.blk (i:=11) rfl⟩) ⟨rfl,rfl,rfl,rfl,rfl⟩) S).mono λv w'⟨_,hv,S⟩=>(show v=gZ.v { code:=0,n:=5 }/\St No W w' ((U.L++(HA.blk sn 253 [ii z.stamp,pt tb,pt q]::BB tb z.gw z.gh z.V Ao co Fs au))++TL)from ⟨by rw[hv];show gZ.v _=_;rw[aJ],S⟩);refine zK (aW _ _ (S.mid (A:=[_,_]) (B:=U.L++_))) ?_;rintro _ bn ⟨rfl,S⟩;have S:=S.mid (A:=U.L++_) (B:=[_,_]);refine zN ?_;intro ba bo bc S;refine zS ?_;intro bp S;exact ir rfl ⟨rfl,S.out⟩
end Go.Proofs.YtceahkcepefcaaaGreatDoor
