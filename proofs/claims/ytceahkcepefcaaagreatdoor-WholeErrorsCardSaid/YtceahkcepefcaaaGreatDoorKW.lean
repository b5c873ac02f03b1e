/- A part of the proof that hachuretop.WholeErrors returns true at every input; no condition. -/
import Derived.Test.YtceahkcepefcaaaGreatDoorKR
import Derived.Test.YtceahkcepefcaaaGreatDoorKS
set_option maxRecDepth 100000
set_option maxHeartbeats 16000000
set_option linter.unusedVariables false
set_option linter.unusedSimpArgs false
namespace Go.Proofs.YtceahkcepefcaaaGreatDoor
open Go.Proofs.Tryz Go.RowKit
variable{Q:(Nat->Value)->World->Prop}{af:Array Edge}{tys:Array TypeId}{bd:Code}{f:FuncId}{h h':HA}{X0 X1 Y Y0 Y1 a ax ay bx e0 stamp:Int}{σ:List (Nat × Value)}{L' M T tl:List HA}{V1 V2:List Int}{hd:List Nat}{args:List Operand}{l l2 vs:List Value}{b c c1 c2 dn g gh gw i j k k1 k2 kb lc m n p pb sb t2 tb x0 x1 y0 y1:Nat}{c0 cc:Nat->Int}{bs:Nat->Nat}{As:Nat->Option Addr}{Rs Rs2:Nat->Option Nat}{F X:Nat->Prop}{e:Nat->Value}{o:m5}{hi x:Operand}{A A1 A2 B B1 B2 lA ov pp:Option Addr}{d:Option Tmp}{G:Prop}{r:Rc}{s s':lT}{t ty:TypeId}{u:Value}{W w w' wq:World}{C:World->Prop}
section
variable{cap lb:Nat}{cs:Nat->Nat}{L:List HA}
theorem LV(U:vB (dw gw gh c0))(L:vB (dw gw gh cc))(D:x0<=x1/\x1<gw)(I:y0<=y1/\y1<gh)(O:∀x y,x<gw->y<gh->¬((x0<=x/\x<=x1)/\y0<=y/\y<=y1)->c0 (y*gw+x)=cc (y*gw+x))(S:St F W w (.grid p gw gh cc A cap bs Rs::.blk lb 183 [pt p,pt tb,pt pb] ::
   .blk pb 308 [.slice lA (fW gw gh) lc]::.row 388 3 lA (fW gw gh) lc (ut (fW gw gh) gw gh As cs)::.pfam 153 2 (fW gw gh) As (mG gw gh) cs (wX gw gh (dw gw gh c0)) ::
   .blk tb 289 [ii gw,ii gh,.slice A1 ((gh+1)*(gw+1)) c1]::.row 2 1 A1 ((gh+1)*(gw+1)) c1 (fj ((gh+1)*(gw+1)) (lk gw (dw gw gh c0)))::tl)) :
  Fn prog 395 [pt lb,.agg #[ii x0,ii y0,ii x1,ii y1]] w (λv w'=>∃tb A1 c1,v=ii 0 /\
   St F W w' (.grid p gw gh cc A cap bs Rs::.blk lb 183 [pt p,pt tb,pt pb] ::
   .blk pb 308 [.slice lA (fW gw gh) lc]::.row 388 3 lA (fW gw gh) lc (ut (fW gw gh) gw gh As cs)::.pfam 153 2 (fW gw gh) As (mG gw gh) cs (wX gw gh (dw gw gh cc)) ::
   .blk tb 289 [ii gw,ii gh,.slice A1 ((gh+1)*(gw+1)) c1]::.row 2 1 A1 ((gh+1)*(gw+1)) c1 (fj ((gh+1)*(gw+1)) (lk gw (dw gw gh cc)))::tl)):=by
 by_cases z:gw*gh<8*((y1+1-y0)*(x1+1-x0))
 ·refine(Nv L D I z (λx y D I V=>?_) S).mono λv w'⟨tb,A1,c1,J,S⟩=>⟨tb,A1,c1,J,(S.pick 9 [7,8,2,3,4,5,6,0,1] rfl rfl rfl).drop 2⟩;rw[mF,mF,O x y D I V]
 ·exact(LN U L D I z O S).mono λv w'⟨J,S⟩=>⟨_,_,_,J,S⟩
theorem GO(hi:gi L i=some h)(h':HA):∃L',j7 L i h'=some L':=by
 induction L generalizing i with
 |nil=>cases hi
 |cons a r ih =>
  cases i with
  |zero=>exact⟨_,rfl⟩
  |succ i =>
   obtain⟨L',e⟩:=ih (i:=i) hi;exact⟨a::L',by show(match j7 r i h' with|some s=>some (a::s)|none=>none)=_;rw[e]⟩
theorem GP:∀{L L':List HA}{i:Nat}{h:HA},gi L i=some h->j7 L i h=some L'->L'=L
 |[],_,_,_,hi,_=>by cases hi
 |a::r,L',0,h,hi,v=>by cases hi;cases v;rfl
 |a::r,L',i+1,h,hi,v=>by
  obtain⟨s,e⟩:=GO (L:=r) (i:=i) hi h
  have:=GP (L:=r) hi e;subst this;have v:(match j7 s i h with|some s=>some (a::s)|none=>none)=some L':=v;rw[e]at v;exact(Option.some.inj v).symm
theorem Oy(U:x1<gw)(V:y1<gh)(S:St F W w L)(hi:gi L i=some (.grid p gw gh cc A cap bs Rs))(Z:uM w x0 y0 x1 y1 n k1 k2 B1 B2 V1 V2)(J:∀g,jv B2 g->¬lH (cU gw*cU gh) p A bs Rs g) :
  Fn prog 394 [pt p,vg x0 y0 x1 y1 n k1 k2 B1 B2] w (λv w'=>∃c2 Rs2 y,(c2=im gw V2 x0 y0 x1 y1 cc\/(c2=cc/\fi gw cc x0 y0 (x1+1-x0) (y1+1-y0)≠V1))/\j7 L i (.grid p gw gh c2 A cap bs Rs2)=some y/\St F W w' y):=by
 refine(Q8 U V (S.grid hi) Z J).mono λv w' h=>?_;rcases h with⟨_,_,Rs2,D,z,I⟩|⟨O,_,g⟩
 ·obtain⟨y,e⟩:=GO hi (.grid p gw gh (im gw V2 x0 y0 x1 y1 cc) A cap bs Rs2);exact⟨_,Rs2,y,.inl rfl,e,S.set hi e z (λg h=>.inl h) D I⟩
 ·obtain⟨y,e⟩:=GO hi (.grid p gw gh cc A cap bs Rs);obtain rfl:y=L:=GP hi e;exact⟨_,Rs,y,.inr ⟨rfl,O⟩,e,S.gr g⟩
theorem GQ(J:s.ok)(U:0<=s.stamp/\s.stamp<1000)(L:uM w x0 y0 x1 y1 n k1 k2 B1 B2 V1 V2)(O:x1<s.gw)(V:y1<s.gh)(hB:vB (dw s.gw s.gh (im s.gw V2 x0 y0 x1 y1 s.cc)))(S:St F W w (s.L++(.row 2 1 B2 n k2 (cY V2)::.row 2 1 B1 n k1 (cY V1)::tl))) :
  Fn prog 389 [pt s.sb,vg x0 y0 x1 y1 n k1 k2 B1 B2] w (λv w'=>v=.tuple #[]/\∃tb A1 c1 Rs c2,(c2=im s.gw V2 x0 y0 x1 y1 s.cc\/(c2=s.cc/\fi s.gw s.cc x0 y0 (x1+1-x0) (y1+1-y0)≠V1))/\vB (dw s.gw s.gh c2) /\
   St F W w' ({ s with tb:=tb,A1:=A1,c1:=c1,Rs:=Rs,cc:=c2,stamp:=s.stamp+1 }.L++(.row 2 1 B2 n k2 (cY V2)::.row 2 1 B1 n k1 (cY V1)::tl))):=by
 have h0:=J.hB;clear J;obtain⟨sb,p,cap,pp,lb,tb,yb,gw,gh,done,A,A1,lA,pA,ov,c1,lc,pc,bs,Rs,cc,As,cs,l,stamp⟩:=s;have hn:=L.pos;have aa:0<=stamp/\stamp<1000:=U;unfold vg;refine zI func389 ?_;refine zN ?_;intro Z ah ac S;refine zF [0,1,2,3,4] [5] ?_;intro ai ad S;refine zK (Oy (i:=2) O V S rfl { L with r1:=S.rd (i:=13) rfl,r2:=S.rd (i:=12) rfl } (λg h2 h3=>S.sep.ap (i:=2) (j:=12) rfl rfl rfl g h3 h2)) ?_;rintro _ aj ⟨c2,Rs2,L2,D,e2,S⟩;obtain rfl:=Option.some.inj e2;have I:vB (dw gw gh c2):=D.elim (λe=>e▸hB) (λe=>e.1▸h0);refine zF [0,1,2,3,4,5] [6] ?_;intro ak ae S;refine zK (LV (c0:=cc) (cc:=c2) h0 I ⟨L.hx.1,O⟩ ⟨L.hy.1,V⟩ (λx y O V hn=>D.elim (λe=>e▸(En O hn).symm) (λe=>by rw[e.1])) (S.pick 14 [2,3,6,7,8,4,5,0,1,9,10,11,12,13] rfl rfl rfl)) ?_;rintro _ al ⟨ag,A2,ab,rfl,S⟩;have S:=S.pick 14 [7,8,0,1,5,6,2,3,4,9,10,11,12,13] rfl rfl rfl;(iterate 4 refine z ?_);refine zr ?_;refine z ?_;refine z ?_;refine iy (i:=1) S rfl (cR _) rfl rfl rfl rfl rfl rfl ?_;intro w9 S;refine ze ?_;exact na ⟨rfl,_,_,_,_,_,D,I,S.drop 1⟩
end
def Ew(F:Nat->Prop)(W:World)(Q:List HA)(B:Option Addr)(V:List Int):Prop:=∀w,Fr F W w->(∀h∈Q,h.ok w)->Rd w B (cY V)
theorem Ew.of{Q:List HA}{V:List Int}(h:(.row 2 1 B n k (cY V))∈Q):Ew F W Q B V:=λw _ v=>(show gH w 2 1 B n k (cY V)from v _ h).rd
def sE(F:Nat->Prop)(W:World)(L:List HA)(p:Nat)(o:m5)(c:Bool)(f:FuncId)(X0 Y0 X1 Y1 e0:Int)(V:List Int):Prop :=
 ∀kb tl w,St F W w (L++(.blk kb 3 [ii o.k]::tl))->Fn prog f ([pt p,o.v]++(if c then [pt kb]else [])) w
  (λv w'=>∃B cp Q1,v=.tuple #[.agg #[ii X0,ii Y0,ii X1,ii Y1],.slice B V.length cp,ii e0]/\(e0=0->Ew F W (Q1++L) B V)/\St F W w' (Q1++(L++(.blk kb 3 [ii o.k]::tl))))
def ET(gw gh:Nat)(X0 Y0 X1 Y1:Int)(V:List Int):Int:=if dF X0 Y0 X1 Y1 gw gh=0 then sX ((Y1.toNat+1-Y0.toNat)*(X1.toNat+1-X0.toNat)) V else dF X0 Y0 X1 Y1 gw gh
def DX(s s':lT)(e:Int)(c2:Nat->Int):Prop:=(e≠0/\s'=s)\/(e=0/\CE s s' c2)
theorem Oz{V:List Int}(h:sX n V=0):∀v∈V,iL v=true:=by
 intro v z;unfold sX at h;split at h
 ·cases h
 ·split at h
  ·cases h
  ·rename_i h2;cases y:iL v with
   |true=>rfl
   |false=>exact absurd (jZ.2 ⟨v,z,by rw[y];rfl⟩) h2
theorem OA{V:List Int}(h:sX n V=0):V.length=n:=by
 unfold sX at h;split at h
 ·cases h
 ·rename_i h2;exact fH.1 h2
section
variable{V:List Int}
theorem C3{L:List HA}{O U t1 t:Nat}{Z z:List Value}{cs:Value->List Value}{ps:String}{y D:Operand}(hf:sE F W L p o true f X0 Y0 X1 Y1 e0 V)(hq:rp F W (.blk O t1 Z::.blk U t2 l2::(L++(.blk kb 3 [ii o.k]::tl))) 6 j k t z cs (λv I=>∃B J,v=.tuple #[.agg #[ii X0,ii Y0,ii X1,ii Y1],.slice B V.length J,ii e0]/\(e0=0->Ew F W (I++L) B V)) σ wq)(hi:σ.lookup 6=none)(hk:σ.lookup k=none)(aa:(j==6)=false)(ab:(k==6)=false)(hx:ev e x=iT true f kb)(h1:ev e y=pt p)(h2:ev e D=o.v) :
  gI prog e ⟨d,.call ⟨.value x,#[y,D],tys⟩,ty,ps,af,none⟩ wq (λv w'=>rp F W (.blk O t1 Z::.blk U t2 l2::(L++(.blk kb 3 [ii o.k]::tl))) 6 j k t z cs (λv I=>∃B J,v=.tuple #[.agg #[ii X0,ii Y0,ii X1,ii Y1],.slice B V.length J,ii e0]/\(e0=0->Ew F W (I++L) B V)) ((6,v)::σ) w'):=by
 obtain⟨Q,S,hm⟩:=rp.call hq hi hk aa ab;have S:St F W wq ((Q++[.blk O t1 Z,.blk U t2 l2])++(L++(.blk kb 3 [ii o.k]::tl))):=by rw[cL];exact S
 refine Ri (first:=[]) (cap:=[pt kb]) (vs:=[pt p,o.v]) (args:=[y,D]) hx (by rw[iJ,iJ,h1,h2];rfl) ((hf kb _ _ (St.under S)).mono λv w'⟨B,J,I,hv,hr,S'⟩=>hm v I w' ⟨B,J,hv,hr⟩ ?_);refine S'.perm_ (lY I ?_);refine(lY L (ef (l₁:=Q++[.blk O t1 Z,.blk U t2 l2]) (a:=.blk kb 3 [ii o.k]) (l₂:=tl)).symm).trans ?_;rw[<-cL];refine(ft.append_right _).trans ?_;rw[cL,cL];exact List.Perm.refl _
theorem LW(Z:s.ok)(aZ:0<=s.stamp/\s.stamp<1000)(hl:s.l.length<40)(aw:e0=dF X0 Y0 X1 Y1 s.gw s.gh)(al:V.length<=9223372036854775807)(hf:sE F W (s.L++M) s.p o true f X0 Y0 X1 Y1 e0 V)(S:St F W w ((s.L++M)++(.blk kb 3 [ii o.k]::tl))) :
  Fn prog (386) [iT true f kb,pt s.sb,o.v] w (λv w'=>∃s':lT,v=({ code:=ET s.gw s.gh X0 Y0 X1 Y1 V }:gZ).v/\(s'.ok/\DX s s' (ET s.gw s.gh X0 Y0 X1 Y1 V) (im s.gw V X0.toNat Y0.toNat X1.toNat Y1.toNat s.cc))/\St F W w' ((s'.L++M)++(.blk kb 3 [ii o.k]::tl))):=by
 obtain⟨sb,p,cap,pp,lb,tb,yb,gw,gh,done,A,A1,lA,pA,ov,c1,lc,pc,bs,Rs,cc,As,cs,l,stamp⟩:=s;obtain⟨L,hL⟩:∃L:List HA,lT.L ⟨sb,p,cap,pp,lb,tb,yb,gw,gh,done,A,A1,lA,pA,ov,c1,lc,pc,bs,Rs,cc,As,cs,l,stamp⟩=L:=⟨_,rfl⟩;have aS:∀X,gi (L++M++X) 0=some (.blk sb 71 [pt p,pt lb,.pointer ov,ii stamp,pt pp]):=λX=>by rw[<-hL];rfl
 dsimp only at *;rw[hL]at hf S;refine zI func386 ?_;refine yA ?_;intro I D _ S;refine gP (M:=λe w=>∃(Q1:List HA)(B:Option Addr)(cp ad:Nat),SL e [(1,pt sb),(6,pt D),(7,pt ad),(8,.slice B V.length cp),(9,ii e0)]/\(e0=0->Ew F W (Q1++(L++M)) B V)/\St F W w (.blk ad 24 [ii X0,ii Y0,ii X1,ii Y1]::(Q1++(.blk D 46 [ii 0,ii 0,.bool false,ii 0,ii 0,.slice none 0 0,.slice none 0 0,.slice none 0 0,.slice none 0 0,.slice none 0 0]::.blk I 31 o.cs::(L++M++(.blk kb 3 [ii o.k]::tl)))))) ?_ ?_
 ·skip;refine zc ?_;refine nI (C:=(rp F W _ 6 11 12 24 [ii 0,ii 0,ii 0,ii 0] (λ_=>[ii X0,ii Y0,ii X1,ii Y1]) (λv Q1=>∃B cp,v=.tuple #[.agg #[ii X0,ii Y0,ii X1,ii Y1],.slice B V.length cp,ii e0]/\(e0=0->Ew F W (Q1++(L++M)) B V)))) [6,11,12] (.one 0 (.one 1 (.one 2 (.one 3 (.one 4 (.one 5 (.two 6 (.one 7 (.one 8 (.one 9 (.one 10 (.one 11 (.one 12 (.one 13 .nil))))))) 11 (.one 6 (.one 7 (.one 8 (.one 9 (.one 10 (.one 12 (.one 13 .nil)))))))))))))) [14] (by kernel_rfl) (by kernel_rfl) (rp.start (S.gr (Gr.drew _))) ?_;simp only[qK,iS,dK,dR];refine jK ?_;refine oX rfl (cH rfl) ?_;refine mo ?_;refine jK ?_;refine oX rfl (cH rfl) ?_;refine mo ?_;refine jK ?_;refine oX rfl (cH rfl) ?_;refine mo ?_;refine jK ?_;refine oX rfl (du YY rfl sizeOf48 rfl rfl) ?_;refine mo ?_;refine jK ?_;refine xh rfl (λτ wq z=>cV Y5 rfl rfl (((rp.st z).drop 2).blk (i:=0) (aS _)) rfl) ?_;refine zU (λτ wq z=>((rp.st z).blk (i:=1) rfl)) ?_;refine zW ?_;refine nf ?_ ?_
  ·refine dC rfl rfl (λwq z=>C3 hf z rfl rfl rfl rfl rfl rfl rfl) ?_;rintro v6 w6 h6;obtain⟨_,B,cp,rfl,_⟩:=h6.val rfl;refine zW ?_;refine dC rfl rfl (λwq z=>sB z rfl rfl rfl rfl Ac rfl) ?_;rintro aB aD ab;obtain⟨ar,rfl⟩:=ab.adr rfl;refine zW ?_;refine dC rfl rfl (λwq z=>sC z rfl rfl rfl rfl rfl (yr _) rfl rfl rfl rfl rfl) ?_;rintro aC aE av;refine zW ?_;refine jm ?_;rintro wz hz;obtain⟨Q1,⟨B,cp,e1,hm⟩,S⟩:=hz.fin rfl rfl rfl;cases e1
   refine zg ?_;exact⟨Q1,_,_,_,sl,hm,S⟩
  ·refine dC rfl rfl (λwq z=>sB z rfl rfl rfl rfl Ac rfl) ?_;rintro aB aD ab;obtain⟨ar,rfl⟩:=ab.adr rfl;refine zW ?_;refine dC rfl rfl (λwq z=>C3 hf z rfl rfl rfl rfl rfl rfl rfl) ?_;rintro v6 w6 h6;obtain⟨_,B,cp,rfl,_⟩:=h6.val rfl;refine zW ?_;refine dC rfl rfl (λwq z=>sC z rfl rfl rfl rfl rfl (yr _) rfl rfl rfl rfl rfl) ?_;rintro aC aE av;refine zW ?_;refine jm ?_;rintro wz hz;obtain⟨Q1,⟨B,cp,e1,hm⟩,S⟩:=hz.fin rfl rfl rfl;cases e1
   refine zg ?_;exact⟨Q1,_,_,_,sl,hm,S⟩
 ·rintro e w1 ⟨Q1,B,cp,ad,aY,hm,S⟩;rw[aY.fold];rcases cr (e0≠0)with O|O
  ·have J:ET gw gh X0 Y0 X1 Y1 V=e0:=by unfold ET;rw[<-aw,a8 O]
   have S:St F W w1 (.blk D 46 [ii 0,ii 0,.bool false,ii 0,ii 0,.slice none 0 0,.slice none 0 0,.slice none 0 0,.slice none 0 0,.slice none 0 0]::(L++M++(.blk kb 3 [ii o.k]::tl))) :=
    (St.tail (S.drop 1)).sub (.cons_cons _ (.cons _ (cQ _)))
   refine yA ?_;intro _ S;refine rA S ⟨⟨sb,p,cap,pp,lb,tb,yb,gw,gh,done,A,A1,lA,pA,ov,c1,lc,pc,bs,Rs,cc,As,cs,l,stamp⟩,by rw[J];rfl,⟨Z,.inl ⟨by rw[J];exact O,rfl⟩⟩,?_⟩;rw[hL];exact S.drop 1
  ·replace O:=fH.1 O;obtain⟨rr,aA,rfl,rfl,rfl,rfl⟩:=nP (aw.symm.trans O);obtain⟨x0,y0,x1,y1⟩:=rr;have hx:x0<=x1/\x1<gw:=aA.1;have hy:y0<=y1/\y1<gh:=aA.2;clear aA;dsimp only at *;simp only[b7]at *;have J:ET gw gh x0 y0 x1 y1 V=sX ((y1+1-y0)*(x1+1-x0)) V:=by unfold ET;rw[a7 (aw.symm.trans O)];simp only[b7]
   rw[J];replace hm:=hm O;subst O
   have S:St F W w1 (.blk ad 24 [ii x0,ii y0,ii x1,ii y1]::.blk D 46 [ii 0,ii 0,.bool false,ii 0,ii 0,.slice none 0 0,.slice none 0 0,.slice none 0 0,.slice none 0 0,.slice none 0 0]::(L++((Q1++[.blk I 31 o.cs])++(M++(.blk kb 3 [ii o.k]::tl))))):=by
    refine S.perm_ (pZ _ (ef.trans (pZ _ ?_)));rw[show Q1++.blk I 31 o.cs::(L++M++(.blk kb 3 [ii o.k]::tl))=(Q1++[.blk I 31 o.cs])++(L++(M++(.blk kb 3 [ii o.k]::tl)))by simp[cL],<-cL,<-cL L];exact ft.append_right _
   have ak:∀{wq:World}{Y:List HA},St F W wq (Y++(.blk ad 24 [ii x0,ii y0,ii x1,ii y1]::.blk D 46 [ii 0,ii 0,.bool false,ii 0,ii 0,.slice none 0 0,.slice none 0 0,.slice none 0 0,.slice none 0 0,.slice none 0 0]::(L++((Q1++[.blk I 31 o.cs])++(M++(.blk kb 3 [ii o.k]::tl))))))->Rd wq B (cY V):=λS=>hm _ S.fr λh hh=>(S.sep.mem (lW _ (by
    simp only[ez,dy]at hh ⊢;rcases hh with h|h|h
    ·simp[h]
    ·simp[h]
    ·simp[h]))).1
   have am:∀X,gi (L++X) 0=some (.blk sb 71 [pt p,pt lb,.pointer ov,ii stamp,pt pp]):=λX=>by rw[<-hL];rfl
   have ah:∀X,gi (L++X) 1=some (.grid p gw gh cc A cap bs Rs):=λX=>by rw[<-hL];rfl
   rcases cr (sX ((y1+1-y0)*(x1+1-x0)) V≠0)with aa|aa
   ·have ao:=λw G(hB:Rd w B (cY V))=>Rw (W:=w) (gw:=gw) (gh:=gh) (c:=cc) (p:=p) (A:=A) (cap:=cap) (bs:=bs) (Rs:=Rs) cp hx hy al aa G hB;generalize sX ((y1+1-y0)*(x1+1-x0)) V=e1 at *;unfold tD at ao;refine zH (C:=(CA _ _ _ 248 [ii 0,ii 0,ii 0,ii 0,.slice none 0 0,.slice none 0 0] [ii 0,ii 0,ii 0,ii 0,.slice none 0 0,.slice none 0 0])) [10,11] [0,1,2,3,4,5,6,7,8,9,10,11] [12] (CA.start (S.gr (Gr.drew _))) ?_;refine zV (λτ wq z=>((z.st.drop 2).blk (i:=0) (am _))) ?_;refine zV (λτ wq z=>(z.st.blk (i:=0) rfl)) ?_;refine zR ?_;refine jH rfl rfl (λτ wq z=>(ao wq ((z.st.drop 2).grid (i:=1) (ah _)) (ak (Y:=[]) z.st)).mono (λ_ _⟨hv,hg⟩=>⟨hv,z.gr hg⟩)) ?_;refine zR ?_;refine de rfl rfl (λwq z=>kG z nm rfl) ?_;rintro bq bt ⟨ac,rfl,_⟩;refine de rfl rfl (λwq z=>kH z (kP _) rfl rfl rfl rfl rfl) ?_;rintro br bu _;refine zY ?_;rintro bv bc;obtain⟨aP,au,S⟩:=bc.fin;cases au
    refine yA ?_;intro _ S;refine rA S ⟨⟨sb,p,cap,pp,lb,tb,yb,gw,gh,done,A,A1,lA,pA,ov,c1,lc,pc,bs,Rs,cc,As,cs,l,stamp⟩,rfl,⟨Z,.inl ⟨aa,rfl⟩⟩,?_⟩;rw[hL,cL];exact(S.drop 3).sub (iQ (cQ _) (iP _ _))
   ·replace aa:=fH.1 aa;have al:V.length=(y1+1-y0)*(x1+1-x0):=OA aa;have aj:∀v∈V,iL v=true:=Oz aa;refine yA ?_;rw[aa];refine gP (M:=λe w=>∃(v:Value)(Q2:List HA)(ac:Nat),Xk gw gh cc (im gw V x0 y0 x1 y1 cc) v Q2/\SL e [(1,pt sb),(6,pt D),(9,ii 0),(10,pt ac)]/\St F W w (.blk ac 248 (Yk v)::(Q2++(.blk ad 24 [ii x0,ii y0,ii x1,ii y1]::.blk D 46 [ii 0,ii 0,.bool false,ii 0,ii 0,.slice none 0 0,.slice none 0 0,.slice none 0 0,.slice none 0 0,.slice none 0 0]::(L++((Q1++[.blk I 31 o.cs])++(M++(.blk kb 3 [ii o.k]::tl)))))))) ?_ ?_
    ·skip;refine zc ?_;refine nI (C:=(rp F W _ 6 10 11 248 [ii 0,ii 0,ii 0,ii 0,.slice none 0 0,.slice none 0 0] Yk (Xk gw gh cc (im gw V x0 y0 x1 y1 cc)))) [6,10,11] (.one 0 (.one 1 (.one 2 (.one 3 (.one 4 (.one 5 (.two 6 (.one 7 (.one 8 (.one 9 (.one 10 (.one 11 .nil))))) 10 (.one 6 (.one 7 (.one 8 (.one 9 (.one 11 .nil)))))))))))) [12] (by kernel_rfl) (by kernel_rfl) (rp.start (S.gr (Gr.drew _))) ?_;simp only[qK,iS,dK,dR];refine jK ?_;refine oX rfl (cH rfl) ?_;refine mo ?_;refine jK ?_;refine oX rfl (cH rfl) ?_;refine mo ?_;refine jK ?_;refine oX rfl (du YY rfl sizeOf48 rfl rfl) ?_;refine mo ?_;refine jK ?_;refine xh rfl (λτ wq z=>cV Y5 rfl rfl (((rp.st z).drop 2).blk (i:=0) (am _)) rfl) ?_;refine zU (λτ wq z=>((rp.st z).blk (i:=0) rfl)) ?_;refine zW ?_;refine nf ?_ ?_
     ·refine dC rfl rfl (λwq z=>Eo z rfl rfl rfl rfl rfl (λS=>(Pq cp hx hy al aj ((S.drop 2).grid (i:=1) (ah _)) (ak (Y:=[]) S)).mono λ_ _ h=>h.parts)) ?_;rintro v6 w6 h6;obtain⟨_,a6,b6,d6,e6,C1,n6,k1,C2,k2,rfl,_⟩:=h6.val rfl;refine zW ?_;refine dC rfl rfl (λwq z=>sB z rfl rfl rfl rfl nm rfl) ?_;rintro aB aD ab;obtain⟨ar,rfl⟩:=ab.adr rfl;refine zW ?_;refine dC rfl rfl (λwq z=>sC z rfl rfl rfl rfl rfl (kP _) rfl rfl rfl rfl rfl) ?_;rintro aC aE av;refine zW ?_;refine jm ?_;rintro wz hz;obtain⟨Q2,ai,S⟩:=hz.fin rfl rfl rfl;refine zg ?_;exact⟨_,Q2,_,ai,sl,S⟩
     ·refine dC rfl rfl (λwq z=>sB z rfl rfl rfl rfl nm rfl) ?_;rintro aB aD ab;obtain⟨ar,rfl⟩:=ab.adr rfl;refine zW ?_;refine dC rfl rfl (λwq z=>Eo z rfl rfl rfl rfl rfl (λS=>(Pq cp hx hy al aj ((S.drop 2).grid (i:=1) (ah _)) (ak (Y:=[]) S)).mono λ_ _ h=>h.parts)) ?_;rintro v6 w6 h6;obtain⟨_,a6,b6,d6,e6,C1,n6,k1,C2,k2,rfl,_⟩:=h6.val rfl;refine zW ?_;refine dC rfl rfl (λwq z=>sC z rfl rfl rfl rfl rfl (kP _) rfl rfl rfl rfl rfl) ?_;rintro aC aE av;refine zW ?_;refine jm ?_;rintro wz hz;obtain⟨Q2,ai,S⟩:=hz.fin rfl rfl rfl;refine zg ?_;exact⟨_,Q2,_,ai,sl,S⟩
    ·rintro e w2 ⟨v,Q2,ac,ai,aM,S⟩;rw[aM.fold];subst hL;obtain⟨a,b,d,e6,C1,n6,k1,C2,k2,rfl,hc⟩:=ai;have ap:=yw (x0:=x0) (y0:=y0) (x1:=x1) (y1:=y1) (u9 aj) Z.hB;rcases hc with⟨aV,rfl,rfl,rfl,rfl,rfl,rfl,rfl,rfl,rfl,rfl⟩|⟨a,b,d,U,ae,ag,bn,aH,rfl,rfl,rfl,rfl,rfl,rfl⟩
     ·have an:dw gw gh cc=dw gw gh (im gw V x0 y0 x1 y1 cc):=Ib λi hi=>by
       obtain⟨x,y,ba,bb,rfl⟩:=K3 hi;exact aV x y ba bb
      refine zF [0,1,2,3,4] [5] ?_;intro bi bf S;refine zC (NA) ?_;intro bj bg S;refine zC (NB) ?_;refine yA ?_;intro _ S;refine rA S ⟨⟨sb,p,cap,pp,lb,tb,yb,gw,gh,done,A,A1,lA,pA,ov,c1,lc,pc,bs,Rs,cc,As,cs,l,stamp⟩,rfl,⟨Z,.inr ⟨rfl,rfl,rfl,rfl,rfl,an,.inl ⟨rfl,rfl,rfl,an⟩⟩⟩,?_⟩;rw[cL];exact(S.drop 3).sub (iQ (cQ _) (iP _ _))
     ·have az:=Ep (gh:=gh) aH;have aK:=wN (x0:=a) (y0:=b) Z.hB ae.2 ag.2;have aL:=wN (x0:=a) (y0:=b) ap ae.2 ag.2;have aI:=lE gw cc a b (d+1-a) (U+1-b);have aJ:=lE gw (im gw V x0 y0 x1 y1 cc) a b (d+1-a) (U+1-b);have bp:1<=gw/\gw<=1024:=(S.grid (i:=6) rfl).sw;have bo:1<=gh/\gh<=1024:=(S.grid (i:=6) rfl).sh;have aT:d<gw:=ae.2;have aU:U<gh:=ag.2;have aq:vB (dw gw gh (im gw (fi gw (im gw V x0 y0 x1 y1 cc) a b (d+1-a) (U+1-b)) a b d U cc)):=by rw[az];exact ap
      have hP:∀w',Rd w' C1 (cY (fi gw cc a b (d+1-a) (U+1-b)))->Rd w' C2 (cY (fi gw (im gw V x0 y0 x1 y1 cc) a b (d+1-a) (U+1-b)))->uM w' a b d U ((U+1-b)*(d+1-a)) k1 k2 C1 C2 (fi gw cc a b (d+1-a) (U+1-b)) (fi gw (im gw V x0 y0 x1 y1 cc) a b (d+1-a) (U+1-b)):=λw' r1 r2 =>
       ⟨⟨ae.1,om⟩,⟨ag.1,om⟩,rfl,aI,aJ,aK,aL,r1,r2⟩
      have aW:∀x:lS,x.x0=a->x.y0=b->x.x1=d->x.y1=U->x.V1=fi gw cc a b (d+1-a) (U+1-b)->x.V2=fi gw (im gw V x0 y0 x1 y1 cc) a b (d+1-a) (U+1-b)->DA gw gh x:=λx e1 e2 e3 e4 e5 e6=>by
       refine⟨by rw[e1,e3];exact ae,by rw[e2,e4];exact ag,?_,?_,by rw[e5];exact aK,by rw[e6];exact aL⟩
       ·rw[e5,e1,e2,e3,e4];exact aI
       ·rw[e6,e1,e2,e3,e4];exact aJ
      refine zF [0,1,2,3,4] [5] ?_;intro bk bh S;refine zK (Wf Z.hd hl (hP _ (S.rd (i:=2) rfl) (S.rd (i:=1) rfl)) (S.pick 16 [13,14,15,0,1,2,3,4,5,6,7,8,9,10,11,12] rfl rfl rfl)) ?_;rintro _ bl ⟨rfl,x,aN,aO,e1,e2,e3,e4,e5,e6,S⟩;have hX:DA gw gh x:=aW x e1 e2 e3 e4 e5 e6;have aG:∀y∈l.take done++[x],DA gw gh y:=λy hy=>(ez.1 hy).elim (λh=>Z.hg y (jj h)) (λh=>by rw[dM.1 h];exact hX);have S:=S.pick 16 [3,4,5,6,7,8,9,10,11,12,13,14,15,0,1,2] rfl rfl rfl;refine zK (GQ (s:=⟨sb,p,cap,pp,lb,tb,yb,gw,gh,(l.take done++[x]).length,A,A1,lA,aN,ov,c1,lc,aO,bs,Rs,cc,As,cs,l.take done++[x],stamp⟩) ⟨Z.hB,cN _,aG⟩ aZ (hP _ (S.rd (i:=2) rfl) (S.rd (i:=1) rfl)) ae.2 ag.2 aq (S.pick 16 [5,6,7,8,9,10,11,12,13,14,15,1,2,0,3,4] rfl rfl rfl)) ?_;rintro _ bm ⟨rfl,be,A2,aQ,Rs2,aR,aF,_,S⟩;obtain rfl:aR=im gw (fi gw (im gw V x0 y0 x1 y1 cc) a b (d+1-a) (U+1-b)) a b d U cc:=aF.elim id (λh=>absurd rfl h.2);have S:=S.pick 16 [13,11,12,14,15,0,1,2,3,4,5,6,7,8,9,10] rfl rfl rfl;refine yA ?_;intro _ S
      refine rA S ⟨⟨sb,p,cap,pp,lb,be,yb,gw,gh,(l.take done++[x]).length,A,A2,lA,aN,ov,aQ,lc,aO,bs,Rs2,im gw (fi gw (im gw V x0 y0 x1 y1 cc) a b (d+1-a) (U+1-b)) a b d U cc,As,cs,l.take done++[x],stamp+1⟩,rfl,
       ⟨⟨aq,cN _,aG⟩,.inr ⟨rfl,rfl,rfl,rfl,rfl,az,.inr ⟨rfl,x,rfl,rfl,hX,by rw[e5,e1,e2,e3,e4],by rw[e6,e1,e2,e3,e4];exact Jw az.symm aT aU,λu v hu hv aX=>by rw[e1,e2,e3,e4];exact aH u v hu hv aX⟩⟩⟩,?_⟩
      rw[cL];exact(S.drop 5).sub (iQ (cQ _) (iP _ _))
end
def LX(n:Int):Int:=max (min n 1099511627776) (-1099511627776)
def C4(k n v:Int):Int:=LX n+(if k=5 then v else 0)
theorem Sr{V:List Int}{f:Int->Int}(h:i<V.length):(cY ((V.take i).map f++V.drop i)).set i (ii (f (V.getD i 0)))=cY ((V.take (i+1)).map f++V.drop (i+1)):=by
 unfold cY;rw[<-uO,kp _ _ (by rw[eP,d7];omega),eP,d7,io om,j8,dX h,List.set_cons_zero,ip h];simp only[fq,iJ,List.map_nil,cL,List.cons_append,jL,cO,ct h,Option.getD_some]
section
variable{V:List Int}
theorem GR(al:s.ok)(hx:x0<=x1/\x1<s.gw)(hy:y0<=y1/\y1<s.gh)(ho:(o.k=2/\o.ax=x0/\o.ay=y0/\x1=x0/\y1=y0)\/((o.k=3\/o.k=5)/\o.x0=x0/\o.y0=y0/\o.x1=x1/\o.y1=y1)) :
  sE F W (s.L++M) s.p o true (43) x0 y0 x1 y1 0 ((fi s.gw s.cc x0 y0 (x1+1-x0) (y1+1-y0)).map (C4 o.k o.n)):=by
 intro kb tl w S;have S:=S.perm_ ef;obtain⟨ok,aA,aC,aB,aD,ax,ay,bx,aa,n,m,vs,bs,bd⟩:=o;dsimp only at ho;refine zI func43 ?_;refine zN ?_;intro y aE ao S;refine zN ?_;intro J aF ap S;iterate 4 refine z ?_
 refine zc ?_;refine gP (M:=λe w=>SL e [(0,pt s.p),(2,pt kb),(4,pt y),(5,pt J)]/\St F W w (.blk J 24 [ii 0,ii 0,ii 0,ii 0]::.blk y 31 (m5.cs ⟨ok,x0,y0,x1,y1,ax,ay,bx,aa,n,m,vs,bs,bd⟩)::.blk kb 3 [ii ok]::(s.L++M++tl))) ?_ ?_
 ·rcases ho with⟨rfl,rfl,rfl,rfl,rfl⟩|⟨rfl|rfl,rfl,rfl,rfl,rfl⟩
  ·skip;refine zS ?_;intro aG S;exact⟨sl,S⟩
  ·skip;refine zg ?_;exact⟨sl,S⟩
  ·skip;refine zg ?_;exact⟨sl,S⟩
 ·rintro e w1 ⟨am,S⟩;rw[am.fold];have au:ok≠4:=om;refine zK (iz x0 y0 x1 y1 hx hy (S.grid (i:=4) rfl)) ?_;rintro _ aH ⟨D,I,rfl,ab,ad,ak⟩;have S:=S.pushRow ab ad ak;refine zg ?_;have aj:=lE s.gw s.cc x0 y0 (x1+1-x0) (y1+1-y0)
  have av:(y1+1-y0)*(x1+1-x0)<=1024*1024:=by
   have h1:=(S.grid (i:=5) rfl).sw;have h2:=(S.grid (i:=5) rfl).sh;exact cE om om
  have aq:-1099511627776<=LX n/\LX n<=1099511627776:=by unfold LX;omega
  have ag:=wN (x0:=x0) (y0:=y0) al.hB hx.2 hy.2;generalize fi s.gw s.cc x0 y0 (x1+1-x0) (y1+1-y0)=v at *;generalize (y1+1-y0)*(x1+1-x0)=O at *
  refine dl (λmm e w=>∃i:Nat,i+mm=O/\SL e [(2,pt kb),(4,pt y),(5,pt J),(8,.slice D O I),(9,ii 0),(42,.slice D O I),(43,ii O),(44,ii i)] /\
   St F W w (.row 2 1 D O I (cY ((v.take i).map (C4 ok n)++v.drop i))::.blk J 24 [ii 0,ii 0,ii 0,ii 0]::.blk y 31 (m5.cs ⟨ok,x0,y0,x1,y1,ax,ay,bx,aa,n,m,vs,bs,bd⟩)::.blk kb 3 [ii ok]::(s.L++M++tl))) O
   ⟨0,om,sl,S⟩ ?_
  clear S;rintro mm e w2 ⟨i,hi,ah,S⟩;rw[ah.fold];by_cases ar:i<O
  ·have U:(cY ((v.take i).map (C4 ok n)++v.drop i))[(i:Int).toNat * 1]?=some (ii (v.getD i 0)):=by
    rw[cG,b7];refine gc ?_;have ae:((v.take i).map (C4 ok n)).length=i:=by rw[eP,d7];omega
    rw[fU (by rw[ae];exact cN _),ae,j8,jD,eW];exact kr om
   have an:dO D:=(S.row (i:=0) rfl).someA om;have Z:(cY ((v.take i).map (C4 ok n)++v.drop i)).length=O:=by rw[gn,cP,eP,d7,i8,aj];omega
   have ai:=Sr (V:=v) (f:=C4 ok n) (i:=i) om
   have az:-2147483648<=v.getD i 0/\v.getD i 0<=2147483647:=by
    have h:=ag _ (fY (show i<v.length by omega));rw[cO,ct (show i<v.length by omega)];unfold iL at h;simpa using h
   have L:C4 ok n (v.getD i 0)=LX n+(if ok=5 then v.getD i 0 else 0):=rfl;have ac:LX n=max (min n 1099511627776) (-1099511627776):=rfl;generalize aw:v.getD i 0=vi at *;by_cases h5:ok=5
   ·rw[a7 h5]at L;refine zT (S.rd (i:=0) rfl) U ?_;(iterate 3 refine z ?_);refine zf ?_;(iterate 7 refine z ?_);refine zr ?_;rw[<-ac,<-L];refine zg ?_;refine jk (i:=0) S rfl (cR _) rfl rfl rfl rfl (by rw[Z];omega) rfl ?_;intro aI S;refine zg ?_;simp only[b7,cG]at S;rw[ai]at S;exact⟨mm-1,om,i+1,om,sl,S⟩
   ·rw[a8 h5]at L;refine zT (S.rd (i:=0) rfl) U ?_;(iterate 3 refine z ?_);refine zt ?_;(iterate 8 refine z ?_);refine zr ?_;rw[<-ac,<-L];refine zg ?_;refine jk (i:=0) S rfl (cR _) rfl rfl rfl rfl (by rw[Z];omega) rfl ?_;intro aJ S;refine zg ?_;simp only[b7,cG]at S;rw[ai]at S;exact⟨mm-1,om,i+1,om,sl,S⟩
  ·obtain rfl:i=O:=om;rw[nv om,fG,fN om]at S;refine zf ?_;refine zc ?_;refine eX rfl ?_;refine zc ?_;refine pD ?_;repeat first|refine nC ?_|refine pE ?_
   show CW _ _ _ _ _ _;iterate 4 refine z ?_
   refine Z1 1 S ?_;intro aK S;refine z ?_;refine z ?_;refine zq ?_;refine qj xa rfl (yr _) rfl (S.blk (i:=1) rfl) rfl rfl rfl rfl ?_;refine⟨D,I,[.row 2 1 D i I (cY (v.map (C4 ok n)))],?_,?_,?_⟩
   ·rw[eP,aj]
   ·exact λ_=>Ew.of (f6 _ (dM.2 rfl))
   ·exact(S.sub (.cons_cons _ (.cons _ (.cons _ (cQ _))))).perm_ (pZ _ ef.symm)
theorem Ss(I:dF X0 Y0 X1 Y1 s.gw s.gh≠0)(U:(o.k=2/\X0=o.ax/\Y0=o.ay/\X1=o.ax/\Y1=o.ay)\/((o.k=3\/o.k=5)/\X0=o.x0/\Y0=o.y0/\X1=o.x1/\Y1=o.y1)) :
  sE F W (s.L++M) s.p o true (43) X0 Y0 X1 Y1 (dF X0 Y0 X1 Y1 s.gw s.gh) []:=by
 intro kb tl w S;have S:=S.perm_ ef;obtain⟨ok,ac,ae,ad,ag,ax,ay,bx,D,n,m,vs,bs,bd⟩:=o;dsimp only at U;have L:=λw G=>yB (W:=w) (gw:=s.gw) (gh:=s.gh) (c:=s.cc) (p:=s.p) (A:=s.A) (cap:=s.cap) (bs:=s.bs) (Rs:=s.Rs) X0 Y0 X1 Y1 I G;generalize dF X0 Y0 X1 Y1 s.gw s.gh=e0 at *;refine zI func43 ?_;refine zN ?_;intro v ah V S;refine zN ?_;intro y ai Z S;iterate 4 refine z ?_
 refine zc ?_;refine gP (M:=λe w=>SL e [(0,pt s.p),(2,pt kb),(4,pt v),(5,pt y)]/\St F W w (.blk y 24 [ii 0,ii 0,ii 0,ii 0]::.blk v 31 (m5.cs ⟨ok,X0,Y0,X1,Y1,ax,ay,bx,D,n,m,vs,bs,bd⟩)::.blk kb 3 [ii ok]::(s.L++M++tl))) ?_ ?_
 ·rcases U with⟨rfl,rfl,rfl,rfl,rfl⟩|⟨rfl|rfl,rfl,rfl,rfl,rfl⟩
  ·skip;refine zS ?_;intro aj S;exact⟨sl,S⟩
  ·skip;refine zg ?_;exact⟨sl,S⟩
  ·skip;refine zg ?_;exact⟨sl,S⟩
 ·rintro e w1 ⟨O,S⟩;rw[O.fold];have ab:ok≠4:=om;refine zC (L w1 (S.grid (i:=4) rfl)) ?_;intro ak aa S;refine zg ?_;refine dl (λmm e w=>SL e [(5,pt y),(4,pt v),(8,.slice none 0 0),(9,ii e0),(43,ii 0),(44,ii 0)]/\St F W w (.blk y 24 [ii 0,ii 0,ii 0,ii 0]::.blk v 31 (m5.cs ⟨ok,X0,Y0,X1,Y1,ax,ay,bx,D,n,m,vs,bs,bd⟩)::.blk kb 3 [ii ok]::(s.L++M++tl))) 0 ⟨sl,S⟩ ?_;clear S;rintro mm e w2 ⟨J,S⟩;rw[J.fold];refine zf ?_;refine zc ?_;refine eX rfl ?_;refine zc ?_;refine pD ?_;repeat first|refine nC ?_|refine pE ?_
  show CW _ _ _ _ _ _;iterate 4 refine z ?_
  refine Z1 0 S ?_;intro al S;refine z ?_;refine z ?_;refine zq ?_;refine qj xa rfl (yr _) rfl (S.blk (i:=0) rfl) rfl rfl rfl rfl ?_;exact⟨none,0,[],rfl,λh=>absurd h I,(S.drop 2).perm_ ef.symm⟩
theorem Iu(ho:o.k=4)(hv:o.vs.n=V.length)(hm:∀w,Fr F W w->(∀h∈s.L++M,h.ok w)->Rd w o.vs.A (cY V)) :
  sE F W (s.L++M) s.p o true (43) o.x0 o.y0 o.x1 o.y1 (dF o.x0 o.y0 o.x1 o.y1 s.gw s.gh) V:=by
 intro kb tl w S;have S:=S.perm_ ef;obtain⟨ok,z,I,D,J,ax,ay,bx,O,n,m,⟨Z,vn,vc⟩,bs,bd⟩:=o;dsimp only at ho hv hm;subst ho;dsimp only;have S:St F W w (.blk kb 3 [ii 4]::(s.L++M++tl)):=S;rcases cr (dF z I D J s.gw s.gh=0)with U|U
 ·rw[U];obtain⟨⟨x0,y0,x1,y1⟩,hr,rfl,rfl,rfl,rfl⟩:=nP U;have hx:x0<=x1/\x1<s.gw:=hr.1;have hy:y0<=y1/\y1<s.gh:=hr.2;clear hr;dsimp only at *;refine zI func43 ?_;refine zN ?_;intro v al ag S;refine zN ?_;intro L am ah S;refine zK (iz x0 y0 x1 y1 hx hy (S.grid (i:=4) rfl)) ?_;rintro _ an ⟨aa,ab,rfl,ad,ae,ac⟩;have S:=S.pushRow ad ae ac;refine zH (C:=(yy F W (.row 2 1 aa ((y1+1-y0)*(x1+1-x0)) ab (cY (fi s.gw s.cc x0 y0 (x1+1-x0) (y1+1-y0)))::.blk L 24 [ii 0,ii 0,ii 0,ii 0]::.blk v 31 (m5.cs ⟨4,x0,y0,x1,y1,ax,ay,bx,O,n,m,⟨Z,vn,vc⟩,bs,bd⟩)::.blk kb 3 [ii 4]::(s.L++M++tl)) (.row 2 1 aa ((y1+1-y0)*(x1+1-x0)) ab (cY (fi s.gw s.cc x0 y0 (x1+1-x0) (y1+1-y0)))::.blk L 24 [ii x0,ii y0,ii x1,ii y1]::.blk v 31 (m5.cs ⟨4,x0,y0,x1,y1,ax,ay,bx,O,n,m,⟨Z,vn,vc⟩,bs,bd⟩)::.blk kb 3 [ii 4]::(s.L++M++tl)))) [5] [0,1,2,3,4,5,6] [7] (yy.start (S.gr (Gr.drew _))) ?_;refine zV (λτ wq y=>(y.blk (i:=2) rfl rfl)) ?_;refine zV (λτ wq y=>(y.blk (i:=2) rfl rfl)) ?_;refine zR ?_;refine de rfl rfl (λwq y=>Aj (i:=1) y rfl (yr _) rfl rfl rfl rfl rfl rfl (λw' S'=>S')) ?_;rintro aj ak _;refine zY ?_;rintro wz hz;have S:St F W wz _:=hz;refine zg ?_;refine qj xa rfl (yr _) rfl (S.blk (i:=1) rfl) rfl rfl rfl rfl ?_;exact⟨Z,vc,[],by rw[<-hv],λ_ w hF y=>hm w hF y,(S.drop 3).perm_ ef.symm⟩
 ·have ai:=λw G=>yB (W:=w) (gw:=s.gw) (gh:=s.gh) (c:=s.cc) (p:=s.p) (A:=s.A) (cap:=s.cap) (bs:=s.bs) (Rs:=s.Rs) z I D J U G;generalize dF z I D J s.gw s.gh=e0 at *;refine zI func43 ?_;refine zN ?_;intro v al ag S;refine zN ?_;intro L am ah S;refine zC (ai _ (S.grid (i:=4) rfl)) ?_;intro an ac S;refine zH (C:=(yy F W (.blk L 24 [ii 0,ii 0,ii 0,ii 0]::.blk v 31 (m5.cs ⟨4,z,I,D,J,ax,ay,bx,O,n,m,⟨Z,vn,vc⟩,bs,bd⟩)::.blk kb 3 [ii 4]::(s.L++M++tl)) (.blk L 24 [ii z,ii I,ii D,ii J]::.blk v 31 (m5.cs ⟨4,z,I,D,J,ax,ay,bx,O,n,m,⟨Z,vn,vc⟩,bs,bd⟩)::.blk kb 3 [ii 4]::(s.L++M++tl)))) [5] [0,1,2,3,4,5,6] [7] (yy.start (S.gr (Gr.drew _))) ?_;refine zV (λτ wq y=>(y.blk (i:=1) rfl rfl)) ?_;refine zV (λτ wq y=>(y.blk (i:=1) rfl rfl)) ?_;refine zR ?_;refine de rfl rfl (λwq y=>Aj (i:=0) y rfl (yr _) rfl rfl rfl rfl rfl rfl (λw' S'=>S')) ?_;rintro aj ak _;refine zY ?_;rintro wz hz;have S:St F W wz _:=hz;refine zg ?_;refine qj xa rfl (yr _) rfl (S.blk (i:=0) rfl) rfl rfl rfl rfl ?_;exact⟨Z,vc,[],by rw[<-hv],λ_ w hF y=>hm w hF y,(S.drop 2).perm_ ef.symm⟩
end
section
variable{done:Nat}{l:List lS}
theorem Ht(z:eL W pb 110 [.slice A n c,ii 0]):Fn prog 66 [pt pb] W (dp (.tuple #[tD,ii 15]) W):=by
 unfold tD;have S:=St.start W;refine zI func66 ?_;refine zN ?_;intro v D y S;refine zL (z.gr S.out) ?_;refine zS ?_;intro I S;exact pG S ⟨rfl,S.out⟩
theorem GS(y:eL W pb 110 [.slice A n c,ii n]):Fn prog 67 [pt pb] W (dp (.tuple #[tD,ii 15]) W):=by
 unfold tD;have S:=St.start W;refine zI func67 ?_;refine zN ?_;intro z I D S;refine zD [0,1,2,3,4,5,6,7,8,9,10] [] ?_;refine zM (λwq v=>(y.gr (S.gr v).out)) ?_;refine zM (λwq v=>(y.gr (S.gr v).out)) ?_;refine zE ?_;refine zS ?_;intro J S;exact pG S ⟨rfl,S.out⟩
theorem JP{x:lS}(L:gw<=1024)(J:gh<=1024)(hd:done+1<=l.length)(hl:l.length<1000)(U:l[done]?=some x)(D:DA gw gh x)(S:St F W w (.blk pb 110 [.slice lA l.length lc,ii (done:Nat)]::.row 248 6 lA l.length lc (l.flatMap lS.cells)::.pts l::tl)) :
  Fn prog 67 [pt pb] w (λv w'=>∃A1 c1 A2 c2,v=.tuple #[vg x.x0 x.y0 x.x1 x.y1 x.V1.length c1 c2 A1 A2,ii 0] /\
   St F W w' (.row 2 1 A2 x.V1.length c2 (cY x.V2)::.row 2 1 A1 x.V1.length c1 (cY x.V1)::.blk pb 110 [.slice lA l.length lc,ii (done+1:Nat)]::.row 248 6 lA l.length lc (l.flatMap lS.cells)::.pts l::tl)):=by
 have V:dO lA:=(S.row (i:=1) rfl).someA om;have z:x.V2.length=x.V1.length:=by rw[D.l1,D.l2]
 have O:x.cells=[ii x.x0,ii x.y0,ii x.x1,ii x.y1,.slice x.B1 x.V1.length x.k1,.slice x.B2 x.V1.length x.k2]:=by unfold lS.cells;rw[z]
 have y:=PF U;rw[O]at y;have e1:((done:Nat):Int)+1=(done+1:Nat):=om;have e2:((done+1:Nat):Int)-1=(done:Nat):=om;have I:=λwq(h:x.ok wq)=>Pr (D.ptok (n:=x.V1.length) (k1:=x.k1) (k2:=x.k2) L J rfl rfl rfl h);unfold vg at *;refine zI func67 ?_;refine zN ?_;intro aa ae ab S;refine zF [0,1,2,3,4,5,6,7,8,9,10] [] ?_;intro ag ac S;rw[e1];refine zS ?_;intro ah S;refine zD [0,1,2,3,4,5,6,7,8] [9,10,11,12,13] ?_;rw[e2];refine zE ?_;intro ai ad S;refine ZU (S.rd (i:=2) rfl) y ?_;refine zK (I _ ((S.ok (i:=3) (h:=.pts l) rfl) x (dD U))) ?_;rintro _ aj ⟨A1,c1,A2,c2,rfl,Z⟩;have S:=S.app Z;refine zS ?_;intro ak S;refine pG S ⟨A1,c1,A2,c2,rfl,S.sub (.cons_cons _ (.cons_cons _ (.cons _ (cQ _))))⟩
end
structure LY(s s':lT)(x:lS)(V1 V2:List Int)(dn:Nat):Prop where
 sb:s'.sb=s.sb
 gw:s'.gw=s.gw
 gh:s'.gh=s.gh
 ov:s'.ov=s.ov
 l:s'.l=s.l
 st:s'.stamp=s.stamp+1
 dn:s'.done=dn
 cc:s'.cc=im s.gw V2 x.x0 x.y0 x.x1 x.y1 s.cc\/(s'.cc=s.cc/\fi s.gw s.cc x.x0 x.y0 (x.x1+1-x.x0) (x.y1+1-x.y0)≠V1)
theorem OB{x:lS}(z:s.ok)(aa:0<=s.stamp/\s.stamp<1000)(hl:s.l.length<1000)(hd:s.done=dn+1)(hx:s.l[dn]?=some x)(S:St F W w (s.L++T)) :
  Fn prog (412) [iT false (66) kb,pt s.sb,o.v] w (λv w'=>∃s':lT,v=gZ.fine.v/\(s'.ok/\LY s s' x x.V2 x.V1 (dn))/\St F W w' (s'.L++T)):=by
 obtain⟨sb,p,cap,pp,lb,tb,yb,gw,gh,done,A,A1,lA,pA,ov,c1,lc,pc,bs,Rs,cc,As,cs,l,stamp⟩:=s;dsimp only at *;subst hd;have y:DA gw gh x:=z.hg x (dD hx);have ac:1<=gw/\gw<=1024:=(S.grid (i:=1) rfl).sw;have Z:1<=gh/\gh<=1024:=(S.grid (i:=1) rfl).sh;have L:x.V2.length=x.V1.length:=by rw[y.l1,y.l2]
 have hP:∀w' A1 A2 c1 c2,Rd w' A1 (cY x.V2)->Rd w' A2 (cY x.V1)->uM w' x.x0 x.y0 x.x1 x.y1 x.V1.length c1 c2 A1 A2 x.V2 x.V1:=λw' A1 A2 c1 c2 r1 r2=>⟨⟨y.hx.1,by have:=y.hx;omega⟩,⟨y.hy.1,by have:=y.hy;omega⟩,y.l1,L,rfl,y.m2,y.m1,r1,r2⟩;have I:dn+1<=l.length:=z.hd;have O:=yw (x0:=x.x0) (y0:=x.y0) (x1:=x.x1) (y1:=x.y1) (u9 y.m1) z.hB;have J:dn<=l.length:=Nat.le_of_succ_le I;unfold iT;refine zI func412 ?_;refine zN ?_;intro ae am aj S;refine zN ?_;intro ah an ak S;refine zg ?_;refine ju rfl rfl (K1 ac.2 Z.2 I hl hx y (S.pick 13 [10,11,12,0,1,2,3,4,5,6,7,8,9] rfl rfl rfl)) ?_;rintro _ ao ⟨B1,k1,B2,k2,rfl,S⟩;have S:=S.pick 15 [0,1,5,6,7,8,9,10,11,12,13,14,2,3,4] rfl rfl rfl;refine zN ?_;intro ag ap al S;refine zS ?_;intro aq S;refine zK (GQ (s:=⟨sb,p,cap,pp,lb,tb,yb,gw,gh,dn,A,A1,lA,pA,ov,c1,lc,pc,bs,Rs,cc,As,cs,l,stamp⟩) ⟨z.hB,J,z.hg⟩ aa (hP _ _ _ _ _ (S.rd (i:=2) rfl) (S.rd (i:=1) rfl)) y.hx.2 y.hy.2 O (S.pick 16 [5,6,7,8,9,10,11,12,13,14,15,1,2,0,3,4] rfl rfl rfl)) ?_;rintro _ ar ⟨rfl,ad,A2,U,Rs2,V,D,ab,S⟩;have S:=S.pick 16 [13,11,12,14,15,0,1,2,3,4,5,6,7,8,9,10] rfl rfl rfl;refine zS ?_;intro ai S;exact rA S ⟨⟨sb,p,cap,pp,lb,ad,yb,gw,gh,dn,A,A2,lA,pA,ov,U,lc,pc,bs,Rs2,V,As,cs,l,stamp+1⟩,rfl,⟨⟨ab,J,z.hg⟩,rfl,rfl,rfl,rfl,rfl,rfl,rfl,D⟩,S.drop 5⟩
theorem LZ{x:lS}(z:s.ok)(aa:0<=s.stamp/\s.stamp<1000)(hl:s.l.length<1000)(hd:s.done=dn)(hx:s.l[dn]?=some x)(S:St F W w (s.L++T)) :
  Fn prog (412) [iT false (67) kb,pt s.sb,o.v] w (λv w'=>∃s':lT,v=gZ.fine.v/\(s'.ok/\LY s s' x x.V1 x.V2 (dn+1))/\St F W w' (s'.L++T)):=by
 obtain⟨sb,p,cap,pp,lb,tb,yb,gw,gh,done,A,A1,lA,pA,ov,c1,lc,pc,bs,Rs,cc,As,cs,l,stamp⟩:=s;dsimp only at *;replace hd:=hd.symm;subst hd;have y:DA gw gh x:=z.hg x (dD hx);have ac:1<=gw/\gw<=1024:=(S.grid (i:=1) rfl).sw;have Z:1<=gh/\gh<=1024:=(S.grid (i:=1) rfl).sh;have L:x.V2.length=x.V1.length:=by rw[y.l1,y.l2]
 have hP:∀w' A1 A2 c1 c2,Rd w' A1 (cY x.V1)->Rd w' A2 (cY x.V2)->uM w' x.x0 x.y0 x.x1 x.y1 x.V1.length c1 c2 A1 A2 x.V1 x.V2:=λw' A1 A2 c1 c2 r1 r2=>⟨⟨y.hx.1,by have:=y.hx;omega⟩,⟨y.hy.1,by have:=y.hy;omega⟩,y.l1,rfl,L,y.m1,y.m2,r1,r2⟩;have I:dn+1<=l.length:=(dq.1 hx).1;have O:=yw (x0:=x.x0) (y0:=x.y0) (x1:=x.x1) (y1:=x.y1) (u9 y.m2) z.hB;have J:dn+1<=l.length:=I;unfold iT;refine zI func412 ?_;refine zN ?_;intro ae am aj S;refine zN ?_;intro ah an ak S;refine zg ?_;refine ju rfl rfl (JP ac.2 Z.2 I hl hx y (S.pick 13 [10,11,12,0,1,2,3,4,5,6,7,8,9] rfl rfl rfl)) ?_;rintro _ ao ⟨B1,k1,B2,k2,rfl,S⟩;have S:=S.pick 15 [0,1,5,6,7,8,9,10,11,12,13,14,2,3,4] rfl rfl rfl;refine zN ?_;intro ag ap al S;refine zS ?_;intro aq S;refine zK (GQ (s:=⟨sb,p,cap,pp,lb,tb,yb,gw,gh,dn+1,A,A1,lA,pA,ov,c1,lc,pc,bs,Rs,cc,As,cs,l,stamp⟩) ⟨z.hB,J,z.hg⟩ aa (hP _ _ _ _ _ (S.rd (i:=2) rfl) (S.rd (i:=1) rfl)) y.hx.2 y.hy.2 O (S.pick 16 [5,6,7,8,9,10,11,12,13,14,15,1,2,0,3,4] rfl rfl rfl)) ?_;rintro _ ar ⟨rfl,ad,A2,U,Rs2,V,D,ab,S⟩;have S:=S.pick 16 [13,11,12,14,15,0,1,2,3,4,5,6,7,8,9,10] rfl rfl rfl;refine zS ?_;intro ai S;exact rA S ⟨⟨sb,p,cap,pp,lb,ad,yb,gw,gh,dn+1,A,A2,lA,pA,ov,U,lc,pc,bs,Rs2,V,As,cs,l,stamp+1⟩,rfl,⟨⟨ab,J,z.hg⟩,rfl,rfl,rfl,rfl,rfl,rfl,rfl,D⟩,S.drop 5⟩
theorem L3(hd:s.done=0)(S:St F W w (s.L++T)) :
  Fn prog (412) [iT false (66) kb,pt s.sb,o.v] w (λv w'=>v=({ code:=15 }:gZ).v/\St F W w' (s.L++T)):=by
 obtain⟨sb,p,cap,pp,lb,tb,yb,gw,gh,done,A,A1,lA,pA,ov,c1,lc,pc,bs,Rs,cc,As,cs,l,stamp⟩:=s;dsimp only at *;subst hd;unfold iT;refine zI func412 ?_;refine zN ?_;intro D V L S;refine zN ?_;intro J z O S;refine zg ?_;refine ju rfl rfl (Ht (W:=z) (S.blk (i:=10) rfl)) ?_;rintro _ Z ⟨rfl,y⟩;have S:=S.gr y;refine zN ?_;intro I aa U S;refine zS ?_;intro ab S;exact rA S ⟨rfl,S.drop 3⟩
theorem JQ(hd:s.done=s.l.length)(S:St F W w (s.L++T)) :
  Fn prog (412) [iT false (67) kb,pt s.sb,o.v] w (λv w'=>v=({ code:=15 }:gZ).v/\St F W w' (s.L++T)):=by
 obtain⟨sb,p,cap,pp,lb,tb,yb,gw,gh,done,A,A1,lA,pA,ov,c1,lc,pc,bs,Rs,cc,As,cs,l,stamp⟩:=s;dsimp only at *;subst hd;unfold iT;refine zI func412 ?_;refine zN ?_;intro D V L S;refine zN ?_;intro J z O S;refine zg ?_;refine ju rfl rfl (GS (W:=z) (S.blk (i:=10) rfl)) ?_;rintro _ Z ⟨rfl,y⟩;have S:=S.gr y;refine zN ?_;intro I aa U S;refine zS ?_;intro ab S;exact rA S ⟨rfl,S.drop 3⟩
end Go.Proofs.YtceahkcepefcaaaGreatDoor
