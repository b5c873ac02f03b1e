/- A part of the proof that hachuretop.WholeErrors returns true at every input; no condition. -/
import Derived.Test.YtceahkcepefcaaaGreatDoorKK
import Derived.Test.YtceahkcepefcaaaGreatDoorKN
set_option maxRecDepth 100000
set_option maxHeartbeats 16000000
set_option linter.unusedVariables false
set_option linter.unusedSimpArgs false
namespace Go.Proofs.YtceahkcepefcaaaGreatDoor
open Go.Proofs.Tryz Go.RowKit
variable{Q:(Nat->Value)->World->Prop}{want:Array (String × TypeId)}{af:Array Edge}{tys:Array TypeId}{bd:Code}{f fdo:FuncId}{h h':HA}{Y a ax ay bx stamp:Int}{σ:List (Nat × Value)}{L0 T tl:List HA}{V1 V2:List Int}{hd:List Nat}{args:List Operand}{l vs xs τ:List Value}{b b' by_ bytes c c1 c2 g gh gw i j k k1 k2 kb lc m n p pb sb tb x0 x1 y0 y1:Nat}{c' cc:Nat->Int}{bs:Nat->Nat}{As:Nat->Option Addr}{Rs:Nat->Option Nat}{F X:Nat->Prop}{e:Nat->Value}{op:Op}{hi x:Operand}{A A1 A2 B B1 B2 gp l0 lA lp o0 ov p0 pp:Option Addr}{d:Option Tmp}{P:Program}{G:Prop}{name:String}{α:Type}{dd:TypeDesc}{t t' ts ty:TypeId}{u zv:Value}{R:Value->World->Prop}{W w w' wq:World}{C:World->Prop}
def vW(F:Nat->Prop)(W:World)(pb:Nat)(lA:Option Addr)(l:List lS)(lc done:Nat)(x0 y0 x1 y1:Nat)(V1 V2:List Int)(tl:List HA)(wq:World):List Value->Prop
 |[]=>St F W wq (.blk pb 110 [.slice lA l.length lc,ii done]::.row 248 6 lA l.length lc (l.flatMap lS.cells)::tl)
 |[m]=>∃A1 c1 A2 c2,m=vg x0 y0 x1 y1 V1.length c1 c2 A1 A2/\St F W wq (.row 2 1 A2 V1.length c2 (cY V2)::.row 2 1 A1 V1.length c1 (cY V1)::.blk pb 110 [.slice lA l.length lc,ii done]::.row 248 6 lA l.length lc (l.flatMap lS.cells)::tl)
 |[b,m]=>∃A1 c1 A2 c2 A3,m=vg x0 y0 x1 y1 V1.length c1 c2 A1 A2/\b=.slice A3 1 1/\St F W wq (.row 248 6 A3 1 1 [ii x0,ii y0,ii x1,ii y1,.slice A1 V1.length c1,.slice A2 V1.length c2]::.row 2 1 A2 V1.length c2 (cY V2)::.row 2 1 A1 V1.length c1 (cY V1)::.blk pb 110 [.slice lA l.length lc,ii done]::.row 248 6 lA l.length lc (l.flatMap lS.cells)::tl)
 |[u,b,m]=>∃A1 c1 A2 c2 A4 c4,m=vg x0 y0 x1 y1 V1.length c1 c2 A1 A2/\u=.slice A4 (done+1) c4/\St F W wq (.row 2 1 A2 V1.length c2 (cY V2)::.row 2 1 A1 V1.length c1 (cY V1)::.blk pb 110 [.slice lA l.length lc,ii done]::.row 248 6 A4 (done+1) c4 ((l.take done).flatMap lS.cells++[ii x0,ii y0,ii x1,ii y1,.slice A1 V1.length c1,.slice A2 V1.length c2])::tl)
 |_=>False
section
variable{done:Nat}{l:List lS}
theorem vW.blkp:∀{τ:List Value},vW F W pb lA l lc done x0 y0 x1 y1 V1 V2 tl wq τ->eL wq pb 110 [.slice lA l.length lc,ii done]
 |[],h=>St.blk (i:=0) h rfl
 |[m],⟨_,_,_,_,_,S⟩=>S.blk (i:=2) rfl
 |[b,m],⟨_,_,_,_,_,_,_,S⟩=>S.blk (i:=3) rfl
 |[u,b,m],⟨_,_,_,_,_,_,_,_,S⟩=>S.blk (i:=2) rfl
theorem vW.okt{x:HA}(hx:gi tl j=some x):∀{τ:List Value},vW F W pb lA l lc done x0 y0 x1 y1 V1 V2 tl wq τ->x.ok wq
 |[],h=>St.ok (i:=j+2) h hx
 |[m],⟨_,_,_,_,_,S⟩=>S.ok (i:=j+4) hx
 |[b,m],⟨_,_,_,_,_,_,_,S⟩=>S.ok (i:=j+5) hx
 |[u,b,m],⟨_,_,_,_,_,_,_,_,S⟩=>S.ok (i:=j+4) hx
theorem vW.grow(g:Gr wq w'):∀{τ:List Value},vW F W pb lA l lc done x0 y0 x1 y1 V1 V2 tl wq τ->vW F W pb lA l lc done x0 y0 x1 y1 V1 V2 tl w' τ
 |[],h=>St.gr h g
 |[m],⟨a,b,c,d,e,S⟩=>⟨a,b,c,d,e,S.gr g⟩
 |[b,m],⟨a,b',c,d,e,f,h,S⟩=>⟨a,b',c,d,e,f,h,S.gr g⟩
 |[u,b,m],⟨a,b',c,d,e,f,h,i,S⟩=>⟨a,b',c,d,e,f,h,i,S.gr g⟩
variable{ps:String}
theorem Jv{v:Value}{y:List (Nat×Operand)}{z:Value}{l0 r:List Value}(J:vW F W pb lA l lc done x0 y0 x1 y1 V1 V2 tl wq [v])(U:P.underlying t=some (.slice 248))(O:∀w,(sizeOf 248).run P w=.ok 6 w)(V:∀w,(zeroValue 248).run P w=.ok z w)(I:z.cells.toList.length=6)(h1:yS (λi=>some (i*6,6)) ((List.replicate 1 z.cells.toList).flatten) (yQ e y)=some l0)(h2:lj l0=some r)(Z:Nat.beq r.length 6=true)(L:∀A1 c1 A2 c2,v=vg x0 y0 x1 y1 V1.length c1 c2 A1 A2->r=[ii x0,ii y0,ii x1,ii y1,.slice A1 V1.length c1,.slice A2 V1.length c2]) :
  gI P e ⟨d,.buildSlice t 1 y.toArray,ty,ps,af,none⟩ wq (λb w'=>Gr wq w'/\vW F W pb lA l lc done x0 y0 x1 y1 V1 V2 tl w' [b,v]):=by
 obtain⟨A1,c1,A2,c2,rfl,S⟩:=J;obtain rfl:=L A1 c1 A2 c2 rfl;refine AY (mu U O V I rfl rfl h1 h2) ?_;refine⟨Gr.alloc _ _,A1,c1,A2,c2,_,rfl,rfl,S.push (Gr.alloc _ _) (h:=.row 248 6 (some ⟨wq.heap.size,0,none⟩) 1 1 _) (gH.of_blk (eL.new _ _ _) rfl (by unfold maxLen;omega)) (λg D=>?_)⟩;have:wq.heap.size=g:=by injection D
 omega
theorem Nw{s:Operand}{t:Nat}{z b v:Value}(hq:vW F W pb lA l lc done x0 y0 x1 y1 V1 V2 tl wq [b,v])(hd:done<=l.length)(hl:l.length<=1000)(hu:P.underlying t=some (.slice 248))(hI:(P.info? 248).map (λi=>(i.zero,i.size,i.bytes))=some (some z,6,bytes))(hz:Nat.beq z.cells.size 6=true)(hs:ev e s=.slice lA done done)(Z:ev e x=b)(hb:(done+1)*(bytes+1)<=140737488355328) :
  gI P e ⟨d,.call ⟨.builtin .append,#[s,x],#[t,t]⟩,ty,ps,af,none⟩ wq (λu w'=>Gr wq w'/\vW F W pb lA l lc done x0 y0 x1 y1 V1 V2 tl w' [u,b,v]):=by
 obtain⟨A1,c1,A2,c2,A3,rfl,rfl,S⟩:=hq;have O:=(S.row (i:=0) rfl).rd;have D:=S.row (i:=4) rfl;have y:=D.take hd;rw[H2]at y
 have V:lA=none->done=0:=λh=>by
  rcases D.form with⟨_,h0,_⟩|⟨g,r,h2,_⟩
  ·omega
  ·rw[h]at h2;cases h2
 obtain⟨g,c',w',L,J,I,U⟩:=Ek (d:=d) (ty:=ty) (ps:=ps) (af:=af) (e:=e) (m:=1) (xs:=(l.take done).flatMap lS.cells) hu hI hz hs Z (by rw[TO,d7,io hd]) y.rd V (by rfl) om om O rfl hb;refine AY L ⟨I,A1,c1,A2,c2,_,c',rfl,rfl,?_⟩;have S:=S.drop 1
 exact S.set (i:=3) (h':=.row 248 6 (some ⟨g,0,none⟩) (done+1) c' _) rfl rfl (Fr.of_gr (F:=λ_=>False) I) (λ_ h=>h.elim) J (λx Z=>.inr (by
  have h3:g=x:=by injection Z
  subst h3;exact U))
theorem Nx:(prog.info? 248).map (λi=>(i.zero,i.size,i.bytes))=some (some (.agg #[ii 0,ii 0,ii 0,ii 0,.slice none 0 0,.slice none 0 0]),6,80):=by kernel_rfl
theorem Wf(hd:done<=l.length)(hl:l.length<40)(hP:uM w x0 y0 x1 y1 n k1 k2 B1 B2 V1 V2)(S:St F W w (.blk pb 110 [.slice lA l.length lc,ii done]::.row 248 6 lA l.length lc (l.flatMap lS.cells)::.pts l::tl)) :
  Fn prog 388 [pt pb,vg x0 y0 x1 y1 n k1 k2 B1 B2] w (λv w'=>v=ii 0/\∃(x:lS)(lA':Option Addr)(lc':Nat),x.x0=x0/\x.y0=y0/\x.x1=x1/\x.y1=y1/\x.V1=V1/\x.V2=V2 /\
   St F W w' (.blk pb 110 [.slice lA' (l.take done++[x]).length lc',ii (l.take done++[x]).length]::.row 248 6 lA' (l.take done++[x]).length lc' ((l.take done++[x]).flatMap lS.cells)::.pts (l.take done++[x])::tl)):=by
 have hn:=hP.pos;have ab:=λw'(g:Gr w w')=>H1 (hP.gr g);have ak:=(S.row (i:=1) rfl).cap;have h1:=S.blk (i:=0) rfl;have Z:=hP;obtain rfl:=hP.l1;unfold vg at ab ⊢;have S1:=S;clear S;have G:=Gr.refl w;have S:=St.start w;refine zI func388 ?_;refine zN ?_;intro I al ai S;refine zC (ab _ S.out) ?_;intro V aj S;refine zg ?_;have ac:uM V x0 y0 x1 y1 V1.length k1 k2 B1 B2 V1 V2:=Z.gr S.out;have S:=(S1.app S).perm_ (xo _ _ _ _).symm;have ad:(done:Int).toNat=done:=b7 done;have J:=λwq(g:Gr V wq)=>Pr (ac.gr g);unfold vg at J;refine zH (C:=(λσ wq=>Gr V wq/\vW F W pb lA l lc done x0 y0 x1 y1 V1 V2 (.blk I 248 [ii x0,ii y0,ii x1,ii y1,.slice B1 V1.length k1,.slice B2 V1.length k2]::.pts l::tl) wq σ)) [12,13,14] [0,1,2,3,4,5,6,7,8,9,10,11,12,13,14] [15,16,17] ⟨Gr.drew _,S.gr (Gr.drew _)⟩ ?_;refine zV (λτ wq D=>(vW.blkp D.2)) ?_;refine zV (λτ wq D=>(vW.blkp D.2)) ?_;refine ot rfl (jb (n:=(done:Nat)) Zu kP rfl rfl om om) ?_;rw[ad];refine jH rfl rfl (λτ wq D=>(TP (W:=wq) om).mono (λ_ _⟨hv,hg⟩=>⟨hv,D.1.trans hg,vW.grow hg D.2⟩)) ?_;refine zV (λτ wq D=>(vW.okt (j:=0) rfl D.2)) ?_;refine de rfl rfl (λwq D=>l4 rfl ((J wq D.1).mono (λv w'⟨A1,c1,A2,c2,hv,S2⟩=>⟨D.1.trans S2.out,A1,c1,A2,c2,hv,St.app D.2 S2⟩))) ?_;rintro v4 w4 ⟨_,A1,c1,A2,c2,rfl,_⟩;refine de rfl rfl (λwq D=>xp (Jv D.2 Zu kP nm rfl rfl rfl rfl (λA1 c1 A2 c2 h=>by unfold vg at h;cases h;rfl)) (λ_ _ h=>⟨D.1.trans h.1,h.2⟩)) ?_;rintro v5 w5 ⟨_,_,_,_,_,A5,_,rfl,_⟩;refine de rfl rfl (λwq D=>xp (Nw D.2 hd om Zu Nx rfl rfl rfl om) (λ_ _ h=>⟨D.1.trans h.1,h.2⟩)) ?_;rintro v6 w6 ⟨_,_,_,_,_,O,U,_,rfl,_⟩;refine zY ?_;rintro w8 ⟨g8,A1,c1,A2,c2,A4,c4,e8,f8,S⟩;cases e8
 cases f8
 refine z ?_;refine z ?_;refine iy (i:=2) S rfl (sizeOf108 _) rfl rfl rfl rfl rfl rfl ?_;intro w9 S;refine ze ?_;have aa:=Z.l2;obtain⟨x,L⟩:∃x:lS,x=⟨x0,y0,x1,y1,A1,c1,A2,c2,V1,V2⟩:=⟨_,rfl⟩;have ah:([ii x0,ii y0,ii x1,ii y1,.slice A1 V1.length c1,.slice A2 V1.length c2]:List Value)=x.cells:=by rw[L];unfold lS.cells;rw[aa]
 have ae:(l.take done).flatMap lS.cells++x.cells=(l.take done++[x]).flatMap lS.cells:=by rw[kZ];simp
 have ag:(l.take done++[x]).length=done+1:=by rw[cP,d7,io hd];rfl
 have S:St F W w9 (.row 2 1 x.B2 x.V2.length x.k2 (cY x.V2)::.row 2 1 x.B1 x.V1.length x.k1 (cY x.V1)::.blk pb 110 [.slice O (done+1) U,ii done]::.row 248 6 O (done+1) U ((l.take done++[x]).flatMap lS.cells)::.blk I 248 [ii x0,ii y0,ii x1,ii y1,.slice B1 V1.length k1,.slice B2 V1.length k2]::.pts l::tl):=by
  rw[<-ae,<-ah,L];show St F W w9 (.row 2 1 A2 V2.length c2 (cY V2)::_);rw[aa];exact S
 have S:=S.pts1
 have S:=S.perm_ (show(HA.pts [x]::.blk pb 110 [.slice O (done+1) U,ii done]::.row 248 6 O (done+1) U ((l.take done++[x]).flatMap lS.cells)::.blk I 248 [ii x0,ii y0,ii x1,ii y1,.slice B1 V1.length k1,.slice B2 V1.length k2]::.pts l::tl).Perm
  (.pts [x]::.pts l::.blk pb 110 [.slice O (done+1) U,ii done]::.row 248 6 O (done+1) U ((l.take done++[x]).flatMap lS.cells)::.blk I 248 [ii x0,ii y0,ii x1,ii y1,.slice B1 V1.length k1,.slice B2 V1.length k2]::tl)from .cons _ (ef (l₁:=[_,_,_])))
 have S:=S.ptsApp;have S:=S.as_ (i:=0) (h':=.pts (l.take done++[x])) rfl rfl (λh y hy=>h y ((ez.1 hy).elim (λh=>f6 _ (jj h)) (lW _))) (λg⟨y,hy,hg⟩=>⟨y,(ez.1 hy).elim (λh=>f6 _ (jj h)) (lW _),hg⟩);(iterate 5 refine z ?_);refine zf ?_;iterate 8 refine z ?_
 refine iy (i:=1) S rfl (fa _) rfl rfl rfl rfl rfl rfl ?_;intro am S;refine z ?_;refine zq ?_;refine ir rfl ⟨rfl,x,O,U,by rw[L],by rw[L],by rw[L],by rw[L],by rw[L],by rw[L],?_⟩;rw[ag];have S:=S.perm_ ((ef (l₁:=[_,_]) (a:=HA.pts (l.take done++[x])) (l₂:=_)).symm);exact S.sub (.cons_cons _ (.cons_cons _ (.cons_cons _ (.cons _ (cQ tl)))))
theorem PF{x:lS}(h:l[j]?=some x):((l.flatMap lS.cells).drop ((j:Int).toNat * 6)).take 6=x.cells:=by
 rw[b7];exact lG (f:=lS.cells) (λ_=>rfl) h
theorem K1{x:lS}(L:gw<=1024)(J:gh<=1024)(hd:done+1<=l.length)(hl:l.length<1000)(U:l[done]?=some x)(D:DA gw gh x)(S:St F W w (.blk pb 110 [.slice lA l.length lc,ii (done+1:Nat)]::.row 248 6 lA l.length lc (l.flatMap lS.cells)::.pts l::tl)) :
  Fn prog 66 [pt pb] w (λv w'=>∃A1 c1 A2 c2,v=.tuple #[vg x.x0 x.y0 x.x1 x.y1 x.V1.length c1 c2 A1 A2,ii 0] /\
   St F W w' (.row 2 1 A2 x.V1.length c2 (cY x.V1)::.row 2 1 A1 x.V1.length c1 (cY x.V2)::.blk pb 110 [.slice lA l.length lc,ii done]::.row 248 6 lA l.length lc (l.flatMap lS.cells)::.pts l::tl)):=by
 have V:dO lA:=(S.row (i:=1) rfl).someA om;have z:x.V2.length=x.V1.length:=by rw[D.l1,D.l2]
 have O:x.cells=[ii x.x0,ii x.y0,ii x.x1,ii x.y1,.slice x.B1 x.V1.length x.k1,.slice x.B2 x.V1.length x.k2]:=by unfold lS.cells;rw[z]
 have y:=PF U;rw[O]at y;have e1:((done+1:Nat):Int)-1=(done:Nat):=om;have I:=λwq(h:x.ok wq)=>F3 (D.ptok (n:=x.V1.length) (k1:=x.k1) (k2:=x.k2) L J rfl rfl rfl h);unfold vg at *;refine zI func66 ?_;refine zN ?_;intro aa ad ab S;refine zg ?_;rw[e1];refine zS ?_;intro ae S;refine zF [0,1,2,3,4,5,6,7] [8,9,10,11,12] ?_;intro ag ac S;refine ZU (S.rd (i:=2) rfl) y ?_;refine zK (I _ ((S.ok (i:=3) (h:=.pts l) rfl) x (dD U))) ?_;rintro _ ah ⟨A1,c1,A2,c2,rfl,Z⟩;have S:=S.app Z;refine zS ?_;intro ai S;refine pG S ⟨A1,c1,A2,c2,rfl,S.sub (.cons_cons _ (.cons_cons _ (.cons _ (cQ _))))⟩
end
def Ny(dd:TypeDesc):Bool:=match dd with|.pointer _=>false|_=>true
section
variable{ps:String}
theorem rU(v:(P.info? t).map (λi=>(i.methods.find? (λm=>m.name==name)).map (λm=>(m.path,m.func)))=some (some (#[],some (f,false))))(y:P.underlying t=some dd)(hd:Ny dd=true):(method (n+1) t u name).run P w=.ok (f,u) w:=by
 obtain⟨i,hi,h1⟩:=fl.1 v;obtain⟨m,v,h2⟩:=fl.1 h1;injection h2 with h3 h4;rw[method];cases dd<;>first|(cases hd;done)|simp[typeInfo,hi,v,h3,h4,follow,receiverAt,dS y,Place.get]
def Ae(want:Array (String×TypeId))(got:Array Method):List (String×TypeId):=want.toList.filter λ(name,sig)=>!got.any λm=>m.name==name&&m.sig==sig
theorem Em{l:List String}(h:Instr.least l=none):l=[]:=by
 cases l with
 |nil=>rfl
 |cons a l=>cases h
theorem Bf{got:Array Method}:Instr.missingMethod want got=none↔(Ae want got).isEmpty=true:=by
 unfold Instr.missingMethod;show(Instr.least (((Ae want got).map (·.1)).partition (·.contains (Char.ofNat 46))).2<|>Instr.least ((((Ae want got).map (·.1)).partition (·.contains (Char.ofNat 46))).1.map λid=>(id.splitOn ".").getLastD id))=none↔_;generalize Ae want got=l;rw[List.partition_eq_filter_filter];constructor
 ·intro h
  have h1:Instr.least (List.filter (not∘λx=>x.contains (Char.ofNat 46)) (l.map (·.1)))=none:=by
   cases e:Instr.least (List.filter (not∘λx=>x.contains (Char.ofNat 46)) (l.map (·.1)))with
   |none=>rfl
   |some s=>simp only[e]at h;cases h
  simp only[h1]at h;have h2:Instr.least (List.map (λid=>(id.splitOn ".").getLastD id) (List.filter (λx=>x.contains (Char.ofNat 46)) (l.map (·.1))))=none:=h;have h3:=Em h1;have h4:=List.map_eq_nil_iff.1 (Em h2);cases l with
  |nil=>rfl
  |cons a l =>
   exfalso;have h5:=nu.1 h3 a.1 (by simp);have h6:=nu.1 h4 a.1 (by simp);apply h5;show(!(a.1.contains (Char.ofNat 46)))=true;revert h6;cases a.1.contains (Char.ofNat 46)<;>simp
 ·intro h;rw[List.isEmpty_iff.1 h];rfl
theorem kF{v:Value}{b:Bool}(y:P.underlying t=some (.interface want))(z:ev e x=.iface t' v)(D:(P.info? t').map (λi=>(Ae want i.methods).isEmpty)=some b)(I:∀w,(zeroValue t).run P w=.ok .nilIface w) :
  iE P e ⟨d,.typeAssert x ts t true,ty,ps,af,none⟩ (.tuple #[if b then .iface t' v else .nilIface,.bool b]):=by
 obtain⟨i,hi,h1⟩:=fl.1 D;intro w;cases b with
 |true =>
  have:=Bf.2 h1;simp[gd,execOp,z,Instr.typeAssert,dS y,typeInfo,hi,this]
 |false =>
  cases h:Instr.missingMethod want i.methods with
  |none=>rw[Bf.1 h]at h1;cases h1
  |some m=>simp[gd,execOp,z,Instr.typeAssert,dS y,typeInfo,hi,h,I]
theorem vO{y:TypeId}{v:Value}(I:P.underlying t=some (.interface want))(J:ev e x=.iface y v):iE P e ⟨d,.binOp .eql t x (.const .nilIface) t',ty,ps,af,none⟩ (.bool false):=by
 intro w;have h2:ev e (.const .nilIface)=.nilIface:=rfl
 have z:∀n:Nat,(Op.equalIn (n+1) t (.iface y v) .nilIface).run P w=.ok false w:=λn=>by
  unfold Op.equalIn;simp[dS I]
 have D:(Op.equal t (.iface y v) .nilIface).run P w=.ok false w:=z 9999;simp[gd,execOp,J,h2,eqGuard,binOp,D]
end
structure Sv where
 A:Option Addr
 n:Nat
 c:Nat
def Sv.v(s:Sv):Value:=.slice s.A s.n s.c
def Sv.nil:Sv:=⟨none,0,0⟩
structure m5 where
 k:Int
 x0:Int
 y0:Int
 x1:Int
 y1:Int
 ax:Int
 ay:Int
 bx:Int
 by_:Int
 n:Int
 m:Int
 vs:Sv
 bs:Sv
 bd:Sv
variable{o:m5}
def m5.cs(o:m5):List Value:=[ii o.k,ii o.x0,ii o.y0,ii o.x1,ii o.y1,ii o.ax,ii o.ay,ii o.bx,ii o.by_,ii o.n,ii o.m,o.vs.v,o.bs.v,o.bd.v]
def m5.v(o:m5):Value:=.agg #[ii o.k,ii o.x0,ii o.y0,ii o.x1,ii o.y1,ii o.ax,ii o.ay,ii o.bx,ii o.by_,ii o.n,ii o.m,o.vs.v,o.bs.v,o.bd.v]
structure gZ where
 code:Int
 n:Int:=0
 yes:Bool:=false
 ax:Int:=0
 ay:Int:=0
 cells:Sv:=.nil
 values:Sv:=.nil
 parts:Sv:=.nil
 bytes:Sv:=.nil
 lines:Sv:=.nil
def gZ.cs(r:gZ):List Value:=[ii r.code,ii r.n,.bool r.yes,ii r.ax,ii r.ay,r.cells.v,r.values.v,r.parts.v,r.bytes.v,r.lines.v]
def gZ.v(r:gZ):Value:=.agg #[ii r.code,ii r.n,.bool r.yes,ii r.ax,ii r.ay,r.cells.v,r.values.v,r.parts.v,r.bytes.v,r.lines.v]
theorem St.mid{A B C:List HA}(S:St F W w (A++(B++C))):St F W w (B++(A++C)):=by
 refine S.perm_ ?_;rw[<-cL,<-cL];exact ft.append_right C
def iT(c:Bool)(f:FuncId)(kb:Nat):Value:=.func (.func f) #[] (if c then #[pt kb]else #[])
section
variable{Lx:α->List HA}{V:α->gZ}{op:Option Addr}
def xz(k:Int)(t:TypeId)(c:Bool)(f:FuncId):Prop:=∀w,Fn prog 21 [ii k] w (λv w'=>∃kb,v=.iface t (iT c f kb)/\St No w w' [.blk kb 3 [ii k]])
theorem Gi(b1 c:Bool)(hgp:b1=false->∃a,gp=some a)(hof:xz o.k t c f)(hI1:(prog.info? t).map (λi=>(Ae #[("hachure/store.bare",1),("hachure/store.do",76)] i.methods).isEmpty)=some b1)(hI2:(prog.info? t).map (λi=>(Ae #[("hachure/store.do",76),("hachure/store.needs",75)] i.methods).isEmpty)=some false)(hm:(prog.info? t).map (λi=>(i.methods.find? (λm=>m.name == "hachure/store.do")).map (λm=>(m.path,m.func)))=some (some (#[],some (fdo,false))))(hut:prog.underlying t=some dd)(hdd:Ny dd=true)(hdo:∀kb tl' w',St F W w' (.blk sb 71 [.pointer gp,.pointer lp,.pointer op,ii stamp,.pointer pp]::L0++(.blk kb 3 [ii o.k]::tl')) ->
   Fn prog fdo [iT c f kb,pt sb,o.v] w' (λv w''=>∃x,v=(V x).v/\St F W w'' (Lx x++(.blk kb 3 [ii o.k]::tl'))))(S:St F W w (.blk sb 71 [.pointer gp,.pointer lp,.pointer op,ii stamp,.pointer pp]::L0++tl)) :
  Fn prog 9 [pt sb,o.v] w (λv w'=>∃x,v=(V x).v/\St F W w' (Lx x++tl)):=by
 cases b1
 obtain⟨ga,rfl⟩:=hgp rfl;all_goals cases c
 all_goals
  refine zI func9 ?_;refine zN ?_;intro b_op w2_ g2_ S;refine zN ?_;intro b_rp w4_ g4_ S;refine zK (hof _) ?_;rintro _ w5_ ⟨kb,rfl,S2⟩;have S:=S.app S2;refine zg ?_;refine cq (vO Zb rfl) ?_;refine zg ?_;refine cq (kF Zi rfl hI1 Zn) ?_;refine zg ?_;refine cq (kF Zz rfl hI2 ZC) ?_;refine zg ?_;refine o8 rfl (rU hm hut hdd) rfl (hdo kb _ _ (St.mid (A:=[_,_,_]) S)) ?_;rintro _ w6_ ⟨x,rfl,S⟩;have S:=St.mid (B:=[_,_,_]) S;refine zS ?_;intro w7_ S;exact rA S ⟨x,rfl,S.sub (iP [_,_,_] _)⟩
end
theorem St.under{A L:List HA}{k:HA}(S:St F W w (A++(L++(k::tl)))):St F W w (L++(k::(A++tl))) :=
 (S.mid).perm_ (lY L (ef (l₁:=A) (a:=k) (l₂:=tl)))
theorem St.over{A L:List HA}{k:HA}(S:St F W w (L++(k::(A++tl)))):St F W w (A++(L++(k::tl))) :=
 St.mid (S.perm_ (lY L (ef (l₁:=A) (a:=k) (l₂:=tl)).symm))
section
variable{L:List HA}{Lx:α->List HA}{V:α->gZ}{r:gZ}
theorem vE:Fn prog 53 [r.v,ii 0] W (dp r.v W):=by
 have S:=St.start W;refine zI func53 ?_;refine zN ?_;intro v I z S;refine zN ?_;intro y J D S;refine zS ?_;intro L S;exact rA S ⟨rfl,S.out⟩
def pQ(F:Nat->Prop)(W:World)(L:List HA)(sb:Nat)(o:m5)(c:Bool)(f:FuncId){α:Type}(V:α->gZ)(Lx:α->List HA):Prop :=
 ∀kb tl w,St F W w (L++(.blk kb 3 [ii o.k]::tl))->Fn prog f ([pt sb,o.v]++(if c then [pt kb]else [])) w
  (λv w''=>∃x,v=(V x).v/\St F W w'' (Lx x++(.blk kb 3 [ii o.k]::tl)))
theorem T5(c:Bool)(O:pQ F W L sb o c f V Lx)(S:St F W w (L++(.blk kb 3 [ii o.k]::tl))) :
  Fn prog (407) [iT c f kb,pt sb,o.v] w (λv y=>∃x,v=(V x).v/\St F W y (Lx x++(.blk kb 3 [ii o.k]::tl))):=by
 cases c
 all_goals
  unfold iT;simp only[m7,rq,pW];refine zI func407 ?_;refine zN ?_;intro z U I S;refine zN ?_;intro D Z J S;refine zg ?_;refine ju rfl rfl (O kb _ _ (St.under (A:=[_,_]) S)) ?_;rintro _ aa ⟨x,rfl,S⟩;have S:=St.over (A:=[_,_]) S;refine zS ?_;intro ab S;exact rA S ⟨x,rfl,S.drop 2⟩
end
theorem iC.ap:∀{L:List HA}{i j:Nat}{a b:HA},iC X w L->gi L i=some a->gi L j=some b->Nat.blt i j=true->∀g,a.own g->¬b.own g
 |[],_,_,_,_,_,h,_,_=>by cases h
 |h::r,0,0,_,_,_,_,_,hl=>by cases hl
 |h::r,0,j+1,a,b,S,hi,hj,_=>λg hg=>by
  injection hi with hi
  subst hi
  exact S.2.1 g hg b (Dh (L:=r) (i:=j) hj)
 |h::r,i+1,0,_,_,_,_,_,hl=>by cases hl
 |h::r,i+1,j+1,a,b,S,hi,hj,hl=>iC.ap (L:=r) (i:=i) (j:=j) S.2.2 hi hj hl
structure lT where
 sb:Nat
 p:Nat
 cap:Nat
 pp:Nat
 lb:Nat
 tb:Nat
 yb:Nat
 gw:Nat
 gh:Nat
 done:Nat
 A:Option Addr
 A1:Option Addr
 lA:Option Addr
 pA:Option Addr
 ov:Option Addr
 c1:Nat
 lc:Nat
 pc:Nat
 bs:Nat->Nat
 Rs:Nat->Option Nat
 cc:Nat->Int
 As:Nat->Option Addr
 cs:Nat->Nat
 l:List lS
 stamp:Int
variable{s s':lT}
def lT.top(s:lT):List Value:=[pt s.p,pt s.lb,.pointer s.ov,ii s.stamp,pt s.pp]
def lT.V(s:lT):List Int:=dw s.gw s.gh s.cc
def lT.rest(s:lT):List HA:=[.grid s.p s.gw s.gh s.cc s.A s.cap s.bs s.Rs,
 .blk s.lb 183 [pt s.p,pt s.tb,pt s.yb],
 .blk s.tb 289 [ii s.gw,ii s.gh,.slice s.A1 ((s.gh+1)*(s.gw+1)) s.c1],.row 2 1 s.A1 ((s.gh+1)*(s.gw+1)) s.c1 (fj ((s.gh+1)*(s.gw+1)) (lk s.gw s.V)),
 .blk s.yb 308 [.slice s.lA (fW s.gw s.gh) s.lc],.row 388 3 s.lA (fW s.gw s.gh) s.lc (ut (fW s.gw s.gh) s.gw s.gh s.As s.cs),.pfam 153 2 (fW s.gw s.gh) s.As (mG s.gw s.gh) s.cs (wX s.gw s.gh s.V),
 .blk s.pp 110 [.slice s.pA s.l.length s.pc,ii s.done],.row 248 6 s.pA s.l.length s.pc (s.l.flatMap lS.cells),.pts s.l]
def lT.L(s:lT):List HA:=.blk s.sb 71 s.top::s.rest
structure lT.ok(s:lT):Prop where
 hB:vB s.V
 hd:s.done<=s.l.length
 hg:∀x∈s.l,DA s.gw s.gh x
theorem En{V:List Int}{x y:Nat}{c:Nat->Int}(v:x<gw)(h:¬((x0<=x/\x<=x1)/\y0<=y/\y<=y1)):im gw V x0 y0 x1 y1 c (y*gw+x)=c (y*gw+x):=by
 have h1:=(jo (Y:=y) v).1;have h2:=(jo (Y:=y) v).2;unfold im;rw[h1,h2,a8 h]
def rp(F:Nat->Prop)(W:World)(L:List HA)(i j k:Nat)(t:TypeId)(z:List Value)(cs:Value->List Value)(T:Value->List HA->Prop)(σ:List (Nat×Value))(w:World):Prop :=
 ∃Q1 Q2,(match σ.lookup i with|none=>Q1=[]|some v=>T v Q1)/\(match σ.lookup j with|none=>Q2=[]|some u=>∃b,u=.pointer (some ⟨b,0,none⟩)/\Q2=[.blk b t (if (σ.lookup k).isSome then cs ((σ.lookup i).getD undef)else z)])/\St F W w (Q2++(Q1++L))
section
variable{L:List HA}{z:List Value}{cs:Value->List Value}{T:Value->List HA->Prop}
theorem rp.start(S:St F W w L):rp F W L i j k t z cs T [] w:=⟨[],[],rfl,rfl,S⟩
theorem rp.st(h:rp F W L i j k t z cs T σ w):St F W w L:=by
 obtain⟨v,y,_,_,S⟩:=h;have:=S.drop (y++v).length;rwa[<-cL,jE]at this
section
variable{ps:String}
theorem Ri{first cap:List Value}(I:ev e x=.func (.func f) first.toArray cap.toArray)(D:lj (args.map (ev e))=some vs)(y:Fn P f (first++vs++cap) w R) :
  gI P e ⟨d,.call ⟨.value x,args.toArray,tys⟩,ty,ps,af,none⟩ w R:=by
 have z:=mK D
 have v:(execOp (ev e) ⟨d,.call ⟨.value x,args.toArray,tys⟩,ty,ps,af,none⟩).run P w=.ok (.enter f (first++vs++cap).toArray) w:=by
  simp[execOp,resolve,I,Deferred.ofValue,invoke,z,iX y.1]
 unfold gI;rw[v];exact y.2
theorem rp.call(h:rp F W L i j k t z cs T σ w)(hi:σ.lookup i=none)(V:σ.lookup k=none)(D:(j==i)=false)(I:(k==i)=false):∃Q,St F W w (Q++L)/\∀v y w',T v y->St F W w' (y++(Q++L))->rp F W L i j k t z cs T ((i,v)::σ) w':=by
 obtain⟨y,J,h1,h2,S⟩:=h;rw[hi]at h1;subst h1;refine⟨J,S,λv y w' U O=>⟨y,J,?_,?_,O.mid⟩⟩
 ·simp only[cZ,fE];exact U
 ·simp only[cZ,D,I,V]at h2 ⊢;exact h2
theorem Eo(h:rp F W L i j k t z cs T σ w)(hi:σ.lookup i=none)(O:σ.lookup k=none)(y:(j==i)=false)(D:(k==i)=false)(V:lj (args.map (ev e))=some vs)(J:St F W w L->Fn P f vs w (λv w'=>∃Q,T v Q/\St No w w' Q)):gI P e ⟨d,.call ⟨.value (.func f),args.toArray,tys⟩,ty,ps,af,none⟩ w (λv w'=>rp F W L i j k t z cs T ((i,v)::σ) w'):=by
 obtain⟨Q,S,U⟩:=rp.call h hi O y D;exact l4 V ((J h.st).mono λv w'⟨I,hT,S2⟩=>U v I w' hT (S.app S2))
theorem sB(h:rp F W L i j k t z cs T σ w)(J:σ.lookup j=none)(O:σ.lookup k=none)(y:(i==j)=false)(D:(k==j)=false)(V:∀w,(zeroValue t).run P w=.ok zv w)(U:zv.cells.toList=z):gI P e ⟨d,.alloc t,ty,ps,af,none⟩ w (λv w'=>rp F W L i j k t z cs T ((j,v)::σ) w'):=by
 obtain⟨I,Z,h1,h2,S⟩:=h;rw[J]at h2;subst h2;refine gu rfl (kq (jV V U) S (λb w' g S=>⟨I,[.blk b t z],?_,?_,S⟩))
 ·simp only[cZ,y];exact h1
 ·simp only[cZ,fE,D,O];exact⟨b,rfl,rfl⟩
theorem sC{v:Value}{y:Operand}(h:rp F W L i j k t z cs T σ w)(hi:σ.lookup i=some v)(O:σ.lookup j=some (pt b))(hk:σ.lookup k=none)(D:(i==k)=false)(I:(j==k)=false)(hz:(sizeOf t).run P w=.ok n w)(hx:ev e x=pt b)(hy:ev e y=.agg (cs v).toArray)(hn:(cs v).length=n)(J:lj (z.take 0++cs v++z.drop (0+n))=some (cs v))(ho:(((cs v).all λv=>v.oneCell')&&Nat.ble (0+n) z.length)=true):gI P e ⟨d,.store t x y,ty,ps,af,none⟩ w (λu w'=>rp F W L i j k t z cs T ((k,u)::σ) w'):=by
 obtain⟨U,Q2,h1,h2,S⟩:=h;rw[hi]at h1;rw[O,hk,hi]at h2;obtain⟨b',Z,rfl⟩:=h2;cases Z
 refine gu rfl (d8 (i:=0) S rfl hz hx hy hn J ho rfl (λw' V=>⟨U,[.blk b t (cs v)],?_,?_,V⟩))
 ·simp only[cZ,D,hi];exact h1
 ·simp only[cZ,I,O,fE,D,hi];exact⟨b,rfl,rfl⟩
theorem rp.fin{v:Value}(h:rp F W L i j k t z cs T σ w)(hi:σ.lookup i=some v)(I:σ.lookup j=some (pt b))(J:(σ.lookup k).isSome=true):∃y,T v y/\St F W w (.blk b t (cs v)::(y++L)):=by
 obtain⟨y,O,h1,h2,S⟩:=h;rw[hi]at h1;rw[I,J,hi]at h2;obtain⟨b',D,rfl⟩:=h2;cases D
 exact⟨y,h1,S⟩
theorem rp.val{v:Value}(h:rp F W L i j k t z cs T σ w)(hi:σ.lookup i=some v):∃y,T v y:=by
 obtain⟨y,D,h1,h2,S⟩:=h;rw[hi]at h1;exact⟨y,h1⟩
theorem rp.adr(h:rp F W L i j k t z cs T σ w)(v:σ.lookup j=some u):∃b,u=pt b:=by
 obtain⟨y,D,h1,h2,S⟩:=h;rw[v]at h2;obtain⟨b,e,_⟩:=h2;exact⟨b,e⟩
end
end
section
variable{c2:Nat->Int}{V:List Int}
theorem Ib{c d:Nat->Int}(h:∀i,i<gw*gh->c i=d i):dw gw gh c=dw gw gh d:=eQ λi hi=>h i (dJ.1 hi)
theorem DG{c d:Nat->Int}(h:dw gw gh c=dw gw gh d)(hi:i<gw*gh):c i=d i:=by
 have:=congrArg (λl=>l[i]?) h;simpa [dw,hi]using this
theorem Ic(v:vB (dw gw gh cc))(hi:i<gw*gh):-2147483648<=cc i/\cc i<=2147483647:=by
 have:=v i;unfold dw at this;rw[cO,da,eu hi]at this;exact this
theorem K2{v:Int}(h:-2147483648<=v/\v<=2147483647):iL v=true:=by
 unfold iL;simp[h.1,h.2]
theorem wN(D:vB (dw gw gh cc))(I:x1<gw)(J:y1<gh):∀v∈fi gw cc x0 y0 (x1+1-x0) (y1+1-y0),iL v=true:=by
 intro v y;unfold fi vV at y;obtain⟨j,z,y⟩:=og.1 y;obtain⟨i,hi,rfl⟩:=fC.1 y;have z:=dJ.1 z;have hi:=dJ.1 hi;have h1:=cI gw (show y0+j+1<=gh by omega);rw[cX,cD gh]at h1;exact K2 (Ic D om)
theorem Nz{x y:Nat}(v:x<gw)(h1:x0<=x/\x<=x1)(h2:y0<=y/\y<=y1):im gw V x0 y0 x1 y1 cc (y*gw+x)=V.getD ((y-y0)*(x1+1-x0)+(x-x0)) 0:=by
 have z:=(jo (Y:=y) v).1;have a2:=(jo (Y:=y) v).2;unfold im;rw[z,a2,a7 ⟨h1,h2⟩]
theorem K3(hi:i<gw*gh):∃x y,x<gw/\y<gh/\i=y*gw+x:=by
 have v:0<gw:=fT λe=>by rw[e,iD]at hi;omega
 refine⟨i%gw,i/gw,dt _ v,cS hi,?_⟩;rw[cD];exact(dP i gw).symm
theorem yw(y:vB V)(v:vB (dw gw gh cc)):vB (dw gw gh (im gw V x0 y0 x1 y1 cc)):=FL λi hi=>by
 unfold im;split
 ·exact y _
 ·exact Ic v hi
theorem Jw(h:dw gw gh cc=dw gw gh c2)(y:x1<gw)(z:y1<gh):fi gw cc x0 y0 (x1+1-x0) (y1+1-y0)=fi gw c2 x0 y0 (x1+1-x0) (y1+1-y0):=by
 unfold fi vV
 have e:∀j∈List.range (y1+1-y0),(List.range (x1+1-x0)).map (λi=>cc ((y0+j)*gw+(x0+i)))=(List.range (x1+1-x0)).map (λi=>c2 ((y0+j)*gw+(x0+i))):=λj v=>eQ λi hi=>by
  have v:=dJ.1 v;have hi:=dJ.1 hi;have h1:=cI gw (show y0+j+1<=gh by omega);rw[cX,cD gh]at h1;exact DG h om
 rw[iA,iA];exact congrArg List.flatten (eQ e)
theorem Ep(z:∀x y,x<gw->y<gh->cc (y*gw+x)≠c2 (y*gw+x)->(x0<=x/\x<=x1)/\y0<=y/\y<=y1):dw gw gh (im gw (fi gw c2 x0 y0 (x1+1-x0) (y1+1-y0)) x0 y0 x1 y1 cc)=dw gw gh c2:=Ib λi hi=>by
 obtain⟨x,y,D,J,rfl⟩:=K3 hi;by_cases h:(x0<=x/\x<=x1)/\y0<=y/\y<=y1
 ·rw[Nz D h.1 h.2]
  have v:(y-y0)*(x1+1-x0)+(x-x0)<(y1+1-y0)*(x1+1-x0):=by
   have:=cI (x1+1-x0) (show y-y0+1<=y1+1-y0 by omega);rw[cX]at this;omega
  have I:=jo (gw:=x1+1-x0) (X:=x-x0) (Y:=y-y0) om;rw[cO,yp om v,I.1,I.2,(om:y0+(y-y0)=y),(om:x0+(x-x0)=x)];rfl
 ·rw[En D h];rcases Int.decEq (cc (y*gw+x)) (c2 (y*gw+x))with h'|h'
  ·exact(h (z x y D J h')).elim
  ·exact h'
end
theorem NA:Fn prog 388 [pt pb,tD] W (dp (ii 0) W):=by
 have D:=λw=>Jm (W:=w);unfold tD at *;have S:=St.start W;refine zI func388 ?_;refine zN ?_;intro v I y S;refine zC (D _) ?_;intro J z S;exact zZ
theorem NB:Fn prog 389 [pt sb,tD] W (dp (.tuple #[]) W):=by
 unfold tD;have S:=St.start W;refine zI func389 ?_;refine zN ?_;intro v z y S;refine zg ?_;exact W3 ⟨rfl,S.out⟩
def gZ.fine:gZ:={ code:=0 }
def Xk(gw gh:Nat)(cc c2:Nat->Int)(v:Value)(Q:List HA):Prop:=∃(a b d e:Int)(A1:Option Addr)(n k1:Nat)(A2:Option Addr)(k2:Nat),v=.tuple #[.agg #[ii a,ii b,ii d,ii e,.slice A1 n k1,.slice A2 n k2],ii 0] /\
 (((∀x y,x<gw->y<gh->cc (y*gw+x)=c2 (y*gw+x))/\Q=[]/\a=0/\b=0/\d=0/\e=0/\A1=none/\n=0/\k1=0/\A2=none/\k2=0) \/
  ∃x0 y0 x1 y1:Nat,(x0<=x1/\x1<gw)/\(y0<=y1/\y1<gh)/\(∃x y,x<gw/\y<gh/\cc (y*gw+x)≠c2 (y*gw+x))/\(∀x y,x<gw->y<gh->cc (y*gw+x)≠c2 (y*gw+x)->(x0<=x/\x<=x1)/\y0<=y/\y<=y1)/\a=x0/\b=y0/\d=x1/\e=y1/\n=(y1+1-y0)*(x1+1-x0) /\
   Q=[.row 2 1 A2 n k2 (cY (fi gw c2 x0 y0 (x1+1-x0) (y1+1-y0))),.row 2 1 A1 n k1 (cY (fi gw cc x0 y0 (x1+1-x0) (y1+1-y0)))])
theorem E5.parts{c2:Nat->Int}{v:Value}:E5 gw gh cc c2 W v w'->∃Q,Xk gw gh cc c2 v Q/\St No W w' Q:=λ⟨a,b,d,e,A1,n,k1,A2,k2,Q,y,S,h⟩=>⟨Q,⟨a,b,d,e,A1,n,k1,A2,k2,y,h⟩,S⟩
def Yk:Value->List Value
 |.tuple a=>match a.toList with
  |.agg l::_=>l.toList
  |_=>[]
 |_=>[]
structure CE(s s':lT)(c2:Nat->Int):Prop where
 sb:s'.sb=s.sb
 gw:s'.gw=s.gw
 gh:s'.gh=s.gh
 ov:s'.ov=s.ov
 V:s'.V=dw s.gw s.gh c2
 ch:(s'.stamp=s.stamp/\s'.l=s.l/\s'.done=s.done/\s.V=dw s.gw s.gh c2)\/(s'.stamp=s.stamp+1/\∃x:lS,s'.l=s.l.take s.done++[x]/\s'.done=s'.l.length/\DA s.gw s.gh x/\x.V1=fi s.gw s.cc x.x0 x.y0 (x.x1+1-x.x0) (x.y1+1-x.y0)/\x.V2=fi s.gw s'.cc x.x0 x.y0 (x.x1+1-x.x0) (x.y1+1-x.y0) /\
  ∀a b,a<s.gw->b<s.gh->s.cc (b*s.gw+a)≠c2 (b*s.gw+a)->(x.x0<=a/\a<=x.x1)/\x.y0<=b/\b<=x.y1)
section
variable{k:Int}
theorem K4:Fn prog 28 [ii k] W (λv w'=>∃kb,v=.iface 112 (iT true (43) kb)/\St No W w' [.blk kb 3 [ii k]]):=by
 have S:=St.start W;refine zI func28 ?_;refine zN ?_;intro y D z S;refine zg ?_;refine cq (jn underlying112 rfl rfl) ?_;refine zX ?_;exact⟨_,rfl,S⟩
theorem NC:Fn prog 29 [ii k] W (λv w'=>∃kb,v=.iface 114 (iT true (45) kb)/\St No W w' [.blk kb 3 [ii k]]):=by
 have S:=St.start W;refine zI func29 ?_;refine zN ?_;intro y D z S;refine zg ?_;refine cq (jn Zt rfl rfl) ?_;refine zX ?_;exact⟨_,rfl,S⟩
theorem K5:Fn prog 30 [ii k] W (λv w'=>∃kb,v=.iface 114 (iT true (54) kb)/\St No W w' [.blk kb 3 [ii k]]):=by
 have S:=St.start W;refine zI func30 ?_;refine zN ?_;intro y D z S;refine zg ?_;refine cq (jn Zt rfl rfl) ?_;refine zX ?_;exact⟨_,rfl,S⟩
theorem wO(h1:2<=k)(h2:k<=5):xz k 112 true (43):=by
 intro W;have S:=St.start W;refine zI func21 ?_;refine zK (K4) ?_;rintro _ y ⟨kb,rfl,v⟩;have S:=S.app v;refine zX ?_;exact⟨_,rfl,S⟩
theorem rV(h1:6<=k)(h2:k<=11):xz k 114 true (45):=by
 intro W;have S:=St.start W;refine zI func21 ?_;refine zK (NC) ?_;rintro _ y ⟨kb,rfl,v⟩;have S:=S.app v;refine zX ?_;exact⟨_,rfl,S⟩
theorem wt(h1:12<=k)(h2:k<=17):xz k 114 true (54):=by
 intro W;have S:=St.start W;refine zI func21 ?_;refine zK (K5) ?_;rintro _ y ⟨kb,rfl,v⟩;have S:=S.app v;refine zX ?_;exact⟨_,rfl,S⟩
theorem Hq:Fn prog 31 [ii 1] W (λv w'=>∃kb,v=.iface 136 (iT false (62) kb)/\St No W w' [.blk kb 3 [ii 1]]):=by
 have S:=St.start W;refine zI func31 ?_;refine zN ?_;intro y D z S;refine zg ?_;refine cq (jn Zs rfl rfl) ?_;refine zX ?_;exact⟨_,rfl,S⟩
theorem Ah:xz 1 136 false (62):=by
 intro W;have S:=St.start W;refine zI func21 ?_;refine zK (Hq) ?_;rintro _ y ⟨kb,rfl,v⟩;have S:=S.app v;refine zX ?_;exact⟨_,rfl,S⟩
theorem K6:Fn prog 31 [ii 25] W (λv w'=>∃kb,v=.iface 141 (iT false (66) kb)/\St No W w' [.blk kb 3 [ii 25]]):=by
 have S:=St.start W;refine zI func31 ?_;refine zN ?_;intro y D z S;refine zg ?_;refine cq (jn aaj rfl rfl) ?_;refine zX ?_;exact⟨_,rfl,S⟩
theorem DH:xz 25 141 false (66):=by
 intro W;have S:=St.start W;refine zI func21 ?_;refine zK (K6) ?_;rintro _ y ⟨kb,rfl,v⟩;have S:=S.app v;refine zX ?_;exact⟨_,rfl,S⟩
theorem Hr:Fn prog 31 [ii 18] W (λv w'=>∃kb,v=.iface 114 (iT false (68) kb)/\St No W w' [.blk kb 3 [ii 18]]):=by
 have S:=St.start W;refine zI func31 ?_;refine zN ?_;intro y D z S;refine zg ?_;refine cq (jn Zt rfl rfl) ?_;refine zX ?_;exact⟨_,rfl,S⟩
theorem Ai:xz 18 114 false (68):=by
 intro W;have S:=St.start W;refine zI func21 ?_;refine zK (Hr) ?_;rintro _ y ⟨kb,rfl,v⟩;have S:=S.app v;refine zX ?_;exact⟨_,rfl,S⟩
theorem K7:Fn prog 31 [ii 23] W (λv w'=>∃kb,v=.iface 114 (iT false (70) kb)/\St No W w' [.blk kb 3 [ii 23]]):=by
 have S:=St.start W;refine zI func31 ?_;refine zN ?_;intro y D z S;refine zg ?_;refine cq (jn Zt rfl rfl) ?_;refine zX ?_;exact⟨_,rfl,S⟩
theorem AH:xz 23 114 false (70):=by
 intro W;have S:=St.start W;refine zI func21 ?_;refine zK (K7) ?_;rintro _ y ⟨kb,rfl,v⟩;have S:=S.app v;refine zX ?_;exact⟨_,rfl,S⟩
theorem Hs:Fn prog 31 [ii 20] W (λv w'=>∃kb,v=.iface 148 (iT true (74) kb)/\St No W w' [.blk kb 3 [ii 20]]):=by
 have S:=St.start W;refine zI func31 ?_;refine zN ?_;intro y D z S;refine zg ?_;refine cq (jn oT rfl rfl) ?_;refine zX ?_;exact⟨_,rfl,S⟩
theorem K8:xz 20 148 true (74):=by
 intro W;have S:=St.start W;refine zI func21 ?_;refine zK (Hs) ?_;rintro _ y ⟨kb,rfl,v⟩;have S:=S.app v;refine zX ?_;exact⟨_,rfl,S⟩
end
theorem Ox{ps:String}(z:P.underlying t=some (.interface want))(D:ev e x=.nilIface):iE P e ⟨d,.binOp .eql t x (.const .nilIface) t',ty,ps,af,none⟩ (.bool true):=by
 intro w;have h2:ev e (.const .nilIface)=.nilIface:=rfl
 have v:∀n:Nat,(Op.equalIn (n+1) t .nilIface .nilIface).run P w=.ok true w:=λn=>by
  unfold Op.equalIn;simp[dS z]
 have y:(Op.equal t .nilIface .nilIface).run P w=.ok true w:=v 9999;simp[gd,execOp,D,h2,eqGuard,binOp,y]
section
variable{st:Int}{k:Int}
theorem Sq(v:k<1\/27<k):Fn prog 21 [ii k] W (dp .nilIface W):=by
 have S:=St.start W;rcases v with v|v
 all_goals
  refine zI func21 ?_;exact zZ
theorem U2(O:o.k<1\/27<o.k):Fn prog 9 [pt sb,o.v] W (dp ({ code:=11 }:gZ).v W):=by
 have v:=λw=>Sq (W:=w) O;obtain⟨ok,U,Z,V,aa,ax,ay,bx,D,n,m,vs,bs,bd⟩:=o;dsimp only at *;have S:=St.start W;refine zI func9 ?_;refine zN ?_;intro y ab I S;refine zN ?_;intro z ac J S;refine zC (v _) ?_;intro ad L S;refine zg ?_;refine cq (Ox Zb rfl) ?_;refine zS ?_;intro ae S;exact rA S ⟨rfl,S.out⟩
theorem sD(c:Bool)(hof:xz o.k t c f)(hI1:(prog.info? t).map (λi=>(Ae #[("hachure/store.bare",1),("hachure/store.do",76)] i.methods).isEmpty)=some false)(hSb:eL W sb 71 [.pointer none,.pointer l0,.pointer o0,ii st,.pointer p0]) :
  Fn prog 9 [pt sb,o.v] W (dp ({ code:=2 }:gZ).v W):=by
 obtain⟨ok,ox0,oy0,ox1,oy1,ax,ay,bx,by',n,m,vs,bs,bd⟩:=o;dsimp only at *;have S:=St.start W;refine zI func9 ?_;refine zN ?_;intro b_op w2_ g2_ S;refine zN ?_;intro b_rp w4_ g4_ S;refine zK (hof _) ?_;rintro _ w5_ ⟨kb,rfl,S2⟩;have S:=S.app S2;refine zg ?_;refine cq (vO Zb rfl) ?_;refine zg ?_;refine cq (kF (b:=false) Zi rfl hI1 Zn) ?_;refine zS ?_;intro w6_ S;exact rA S ⟨rfl,S.out⟩
end
end Go.Proofs.YtceahkcepefcaaaGreatDoor
