/- A part of the proof that hachuretop.WholeCharts and hachuretop.WholeWater returns true at every input; no condition. -/
import Derived.Test.YtcalhocphkbbgaaGreatDoorKL
import Derived.Test.YtcalhocphkbbgaaGreatDoorKO
set_option maxRecDepth 100000
set_option maxHeartbeats 16000000
set_option linter.unusedVariables false
set_option linter.unusedSimpArgs false
namespace Go.Proofs.YtcalhocphkbbgaaGreatDoor
open Go.Proofs.Tryz Go.RowKit
variable{Q:(Nat->Value)->World->Prop}{want:Array (String × TypeId)}{af:Array Edge}{tys:Array TypeId}{bd:Code}{f fdo:FuncId}{h h':HA}{Y a ax ay bx e0 stamp:Int}{σ:List (Nat × Value)}{L' L0 L1 M T tl:List HA}{V1 V2:List Int}{hd:List Nat}{args:List Operand}{l vs xs τ:List Value}{b b' by_ bytes c c1 c2 cap2 g gh gw i j k k1 k2 kb lc m n p pb q sb sn tb x0 x1 y0 y1:Nat}{c' cc:Nat->Int}{bs bs2:Nat->Nat}{As:Nat->Option Addr}{Rs Rs2:Nat->Option Nat}{F X:Nat->Prop}{e:Nat->Value}{op:Op}{hi x:Operand}{A A1 A2 B B1 B2 g0 gp l0 lA lp o0 ov p0 pp:Option Addr}{d:Option Tmp}{P:Program}{G:Prop}{name:String}{α:Type}{dd:TypeDesc}{t t' ts ty:TypeId}{u zv:Value}{R:Value->World->Prop}{W w w' wq:World}{C:World->Prop}
def vW(F:Nat->Prop)(W:World)(pb:Nat)(lA:Option Addr)(l:List lS)(lc done:Nat)(x0 y0 x1 y1:Nat)(V1 V2:List Int)(tl:List HA)(wq:World):List Value->Prop
 |[]=>St F W wq (.blk pb 115 [.slice lA l.length lc,ii done]::.row 253 6 lA l.length lc (l.flatMap lS.cells)::tl)
 |[m]=>∃A1 c1 A2 c2,m=vg x0 y0 x1 y1 V1.length c1 c2 A1 A2/\St F W wq (.row 2 1 A2 V1.length c2 (cY V2)::.row 2 1 A1 V1.length c1 (cY V1)::.blk pb 115 [.slice lA l.length lc,ii done]::.row 253 6 lA l.length lc (l.flatMap lS.cells)::tl)
 |[b,m]=>∃A1 c1 A2 c2 A3,m=vg x0 y0 x1 y1 V1.length c1 c2 A1 A2/\b=.slice A3 1 1/\St F W wq (.row 253 6 A3 1 1 [ii x0,ii y0,ii x1,ii y1,.slice A1 V1.length c1,.slice A2 V1.length c2]::.row 2 1 A2 V1.length c2 (cY V2)::.row 2 1 A1 V1.length c1 (cY V1)::.blk pb 115 [.slice lA l.length lc,ii done]::.row 253 6 lA l.length lc (l.flatMap lS.cells)::tl)
 |[u,b,m]=>∃A1 c1 A2 c2 A4 c4,m=vg x0 y0 x1 y1 V1.length c1 c2 A1 A2/\u=.slice A4 (done+1) c4/\St F W wq (.row 2 1 A2 V1.length c2 (cY V2)::.row 2 1 A1 V1.length c1 (cY V1)::.blk pb 115 [.slice lA l.length lc,ii done]::.row 253 6 A4 (done+1) c4 ((l.take done).flatMap lS.cells++[ii x0,ii y0,ii x1,ii y1,.slice A1 V1.length c1,.slice A2 V1.length c2])::tl)
 |_=>False
section
variable{done:Nat}{l:List lS}
theorem vW.blkp:∀{τ:List Value},vW F W pb lA l lc done x0 y0 x1 y1 V1 V2 tl wq τ->eL wq pb 115 [.slice lA l.length lc,ii done]
 |[],h=>St.blk (i:=0) h rfl
 |[m],⟨_,_,_,_,_,S⟩=>S.blk (i:=2) rfl
 |[b,m],⟨_,_,_,_,_,_,_,S⟩=>S.blk (i:=3) rfl
 |[u,b,m],⟨_,_,_,_,_,_,_,_,S⟩=>S.blk (i:=2) rfl
theorem vW.okt{x:HA}(hx:gi tl j=some x):∀{τ:List Value},vW F W pb lA l lc done x0 y0 x1 y1 V1 V2 tl wq τ->x.ok wq
 |[],h=>St.ok (i:=j+2) h hx
 |[m],⟨_,_,_,_,_,S⟩=>S.ok (i:=j+4) hx
 |[b,m],⟨_,_,_,_,_,_,_,S⟩=>S.ok (i:=j+5) hx
 |[u,b,m],⟨_,_,_,_,_,_,_,_,S⟩=>S.ok (i:=j+4) hx
theorem vW.grow(g:Gr wq w'):∀{τ:List Value},vW F W pb lA l lc done x0 y0 x1 y1 V1 V2 tl wq τ->vW F W pb lA l lc done x0 y0 x1 y1 V1 V2 tl w' τ
 |[],h=>St.gr h g
 |[m],⟨a,b,c,d,e,S⟩=>⟨a,b,c,d,e,S.gr g⟩
 |[b,m],⟨a,b',c,d,e,f,h,S⟩=>⟨a,b',c,d,e,f,h,S.gr g⟩
 |[u,b,m],⟨a,b',c,d,e,f,h,i,S⟩=>⟨a,b',c,d,e,f,h,i,S.gr g⟩
variable{ps:String}
theorem Jv{v:Value}{y:List (Nat×Operand)}{z:Value}{l0 r:List Value}(J:vW F W pb lA l lc done x0 y0 x1 y1 V1 V2 tl wq [v])(U:P.underlying t=some (.slice 253))(O:∀w,(sizeOf 253).run P w=.ok 6 w)(V:∀w,(zeroValue 253).run P w=.ok z w)(I:z.cells.toList.length=6)(h1:yS (λi=>some (i*6,6)) ((List.replicate 1 z.cells.toList).flatten) (yQ e y)=some l0)(h2:lj l0=some r)(Z:Nat.beq r.length 6=true)(L:∀A1 c1 A2 c2,v=vg x0 y0 x1 y1 V1.length c1 c2 A1 A2->r=[ii x0,ii y0,ii x1,ii y1,.slice A1 V1.length c1,.slice A2 V1.length c2]) :
  gI P e ⟨d,.buildSlice t 1 y.toArray,ty,ps,af,none⟩ wq (λb w'=>Gr wq w'/\vW F W pb lA l lc done x0 y0 x1 y1 V1 V2 tl w' [b,v]):=by
 obtain⟨A1,c1,A2,c2,rfl,S⟩:=J;obtain rfl:=L A1 c1 A2 c2 rfl;refine AY (mu U O V I rfl rfl h1 h2) ?_;refine⟨Gr.alloc _ _,A1,c1,A2,c2,_,rfl,rfl,S.push (Gr.alloc _ _) (h:=.row 253 6 (some ⟨wq.heap.size,0,none⟩) 1 1 _) (gH.of_blk (eL.new _ _ _) rfl (by unfold maxLen;omega)) (λg D=>?_)⟩;have:wq.heap.size=g:=by injection D
 omega
theorem Nw{s:Operand}{t:Nat}{z b v:Value}(hq:vW F W pb lA l lc done x0 y0 x1 y1 V1 V2 tl wq [b,v])(hd:done<=l.length)(hl:l.length<=1000)(hu:P.underlying t=some (.slice 253))(hI:(P.info? 253).map (λi=>(i.zero,i.size,i.bytes))=some (some z,6,bytes))(hz:Nat.beq z.cells.size 6=true)(hs:ev e s=.slice lA done done)(Z:ev e x=b)(hb:(done+1)*(bytes+1)<=140737488355328) :
  gI P e ⟨d,.call ⟨.builtin .append,#[s,x],#[t,t]⟩,ty,ps,af,none⟩ wq (λu w'=>Gr wq w'/\vW F W pb lA l lc done x0 y0 x1 y1 V1 V2 tl w' [u,b,v]):=by
 obtain⟨A1,c1,A2,c2,A3,rfl,rfl,S⟩:=hq;have O:=(S.row (i:=0) rfl).rd;have D:=S.row (i:=4) rfl;have y:=D.take hd;rw[H2]at y
 have V:lA=none->done=0:=λh=>by
  rcases D.form with⟨_,h0,_⟩|⟨g,r,h2,_⟩
  ·omega
  ·rw[h]at h2;cases h2
 obtain⟨g,c',w',L,J,I,U⟩:=Ek (d:=d) (ty:=ty) (ps:=ps) (af:=af) (e:=e) (m:=1) (xs:=(l.take done).flatMap lS.cells) hu hI hz hs Z (by rw[TO,d7,io hd]) y.rd V (by rfl) om om O rfl hb;refine AY L ⟨I,A1,c1,A2,c2,_,c',rfl,rfl,?_⟩;have S:=S.drop 1
 exact S.set (i:=3) (h':=.row 253 6 (some ⟨g,0,none⟩) (done+1) c' _) rfl rfl (Fr.of_gr (F:=λ_=>False) I) (λ_ h=>h.elim) J (λx Z=>.inr (by
  have h3:g=x:=by injection Z
  subst h3;exact U))
theorem X5:(prog.info? 253).map (λi=>(i.zero,i.size,i.bytes))=some (some (.agg #[ii 0,ii 0,ii 0,ii 0,.slice none 0 0,.slice none 0 0]),6,80):=by kernel_rfl
theorem Wf(hd:done<=l.length)(hl:l.length<40)(hP:uM w x0 y0 x1 y1 n k1 k2 B1 B2 V1 V2)(S:St F W w (.blk pb 115 [.slice lA l.length lc,ii done]::.row 253 6 lA l.length lc (l.flatMap lS.cells)::.pts l::tl)) :
  Fn prog 391 [pt pb,vg x0 y0 x1 y1 n k1 k2 B1 B2] w (λv w'=>v=ii 0/\∃(x:lS)(lA':Option Addr)(lc':Nat),x.x0=x0/\x.y0=y0/\x.x1=x1/\x.y1=y1/\x.V1=V1/\x.V2=V2 /\
   St F W w' (.blk pb 115 [.slice lA' (l.take done++[x]).length lc',ii (l.take done++[x]).length]::.row 253 6 lA' (l.take done++[x]).length lc' ((l.take done++[x]).flatMap lS.cells)::.pts (l.take done++[x])::tl)):=by
 have hn:=hP.pos;have ab:=λw'(g:Gr w w')=>H1 (hP.gr g);have ak:=(S.row (i:=1) rfl).cap;have h1:=S.blk (i:=0) rfl;have Z:=hP;obtain rfl:=hP.l1;unfold vg at ab ⊢;have S1:=S;clear S;have G:=Gr.refl w;have S:=St.start w;refine zI func391 ?_;refine zN ?_;intro I al ai S;refine zC (ab _ S.out) ?_;intro V aj S;refine zg ?_;have ac:uM V x0 y0 x1 y1 V1.length k1 k2 B1 B2 V1 V2:=Z.gr S.out;have S:=(S1.app S).perm_ (xo _ _ _ _).symm;have ad:(done:Int).toNat=done:=b7 done;have J:=λwq(g:Gr V wq)=>Pr (ac.gr g);unfold vg at J;refine zH (C:=(λσ wq=>Gr V wq/\vW F W pb lA l lc done x0 y0 x1 y1 V1 V2 (.blk I 253 [ii x0,ii y0,ii x1,ii y1,.slice B1 V1.length k1,.slice B2 V1.length k2]::.pts l::tl) wq σ)) [12,13,14] [0,1,2,3,4,5,6,7,8,9,10,11,12,13,14] [15,16,17] ⟨Gr.drew _,S.gr (Gr.drew _)⟩ ?_;refine zV (λτ wq D=>(vW.blkp D.2)) ?_;refine zV (λτ wq D=>(vW.blkp D.2)) ?_;refine ot rfl (jb (n:=(done:Nat)) oz nV rfl rfl om om) ?_;rw[ad];refine jH rfl rfl (λτ wq D=>(TP (W:=wq) om).mono (λ_ _⟨hv,hg⟩=>⟨hv,D.1.trans hg,vW.grow hg D.2⟩)) ?_;refine zV (λτ wq D=>(vW.okt (j:=0) rfl D.2)) ?_;refine de rfl rfl (λwq D=>l4 rfl ((J wq D.1).mono (λv w'⟨A1,c1,A2,c2,hv,S2⟩=>⟨D.1.trans S2.out,A1,c1,A2,c2,hv,St.app D.2 S2⟩))) ?_;rintro v4 w4 ⟨_,A1,c1,A2,c2,rfl,_⟩;refine de rfl rfl (λwq D=>xp (Jv D.2 oz nV p7 rfl rfl rfl rfl (λA1 c1 A2 c2 h=>by unfold vg at h;cases h;rfl)) (λ_ _ h=>⟨D.1.trans h.1,h.2⟩)) ?_;rintro v5 w5 ⟨_,_,_,_,_,A5,_,rfl,_⟩;refine de rfl rfl (λwq D=>xp (Nw D.2 hd om oz X5 rfl rfl rfl om) (λ_ _ h=>⟨D.1.trans h.1,h.2⟩)) ?_;rintro v6 w6 ⟨_,_,_,_,_,O,U,_,rfl,_⟩;refine zY ?_;rintro w8 ⟨g8,A1,c1,A2,c2,A4,c4,e8,f8,S⟩;cases e8
 cases f8
 refine z ?_;refine z ?_;refine iy (i:=2) S rfl (sizeOf113 _) rfl rfl rfl rfl rfl rfl ?_;intro w9 S;refine ze ?_;have aa:=Z.l2;obtain⟨x,L⟩:∃x:lS,x=⟨x0,y0,x1,y1,A1,c1,A2,c2,V1,V2⟩:=⟨_,rfl⟩;have ah:([ii x0,ii y0,ii x1,ii y1,.slice A1 V1.length c1,.slice A2 V1.length c2]:List Value)=x.cells:=by rw[L];unfold lS.cells;rw[aa]
 have ae:(l.take done).flatMap lS.cells++x.cells=(l.take done++[x]).flatMap lS.cells:=by rw[kZ];simp
 have ag:(l.take done++[x]).length=done+1:=by rw[cP,d7,io hd];rfl
 have S:St F W w9 (.row 2 1 x.B2 x.V2.length x.k2 (cY x.V2)::.row 2 1 x.B1 x.V1.length x.k1 (cY x.V1)::.blk pb 115 [.slice O (done+1) U,ii done]::.row 253 6 O (done+1) U ((l.take done++[x]).flatMap lS.cells)::.blk I 253 [ii x0,ii y0,ii x1,ii y1,.slice B1 V1.length k1,.slice B2 V1.length k2]::.pts l::tl):=by
  rw[<-ae,<-ah,L];show St F W w9 (.row 2 1 A2 V2.length c2 (cY V2)::_);rw[aa];exact S
 have S:=S.pts1
 have S:=S.perm_ (show(HA.pts [x]::.blk pb 115 [.slice O (done+1) U,ii done]::.row 253 6 O (done+1) U ((l.take done++[x]).flatMap lS.cells)::.blk I 253 [ii x0,ii y0,ii x1,ii y1,.slice B1 V1.length k1,.slice B2 V1.length k2]::.pts l::tl).Perm
  (.pts [x]::.pts l::.blk pb 115 [.slice O (done+1) U,ii done]::.row 253 6 O (done+1) U ((l.take done++[x]).flatMap lS.cells)::.blk I 253 [ii x0,ii y0,ii x1,ii y1,.slice B1 V1.length k1,.slice B2 V1.length k2]::tl)from .cons _ (ef (l₁:=[_,_,_])))
 have S:=S.ptsApp;have S:=S.as_ (i:=0) (h':=.pts (l.take done++[x])) rfl rfl (λh y hy=>h y ((ez.1 hy).elim (λh=>f6 _ (jj h)) (lW _))) (λg⟨y,hy,hg⟩=>⟨y,(ez.1 hy).elim (λh=>f6 _ (jj h)) (lW _),hg⟩);(iterate 5 refine z ?_);refine zf ?_;iterate 8 refine z ?_
 refine iy (i:=1) S rfl (fa _) rfl rfl rfl rfl rfl rfl ?_;intro am S;refine z ?_;refine zq ?_;refine ir rfl ⟨rfl,x,O,U,by rw[L],by rw[L],by rw[L],by rw[L],by rw[L],by rw[L],?_⟩;rw[ag];have S:=S.perm_ ((ef (l₁:=[_,_]) (a:=HA.pts (l.take done++[x])) (l₂:=_)).symm);exact S.sub (.cons_cons _ (.cons_cons _ (.cons_cons _ (.cons _ (cQ tl)))))
theorem PF{x:lS}(h:l[j]?=some x):((l.flatMap lS.cells).drop ((j:Int).toNat * 6)).take 6=x.cells:=by
 rw[b7];exact lG (f:=lS.cells) (λ_=>rfl) h
theorem K1{x:lS}(L:gw<=1024)(J:gh<=1024)(hd:done+1<=l.length)(hl:l.length<1000)(U:l[done]?=some x)(D:DA gw gh x)(S:St F W w (.blk pb 115 [.slice lA l.length lc,ii (done+1:Nat)]::.row 253 6 lA l.length lc (l.flatMap lS.cells)::.pts l::tl)) :
  Fn prog 69 [pt pb] w (λv w'=>∃A1 c1 A2 c2,v=.tuple #[vg x.x0 x.y0 x.x1 x.y1 x.V1.length c1 c2 A1 A2,ii 0] /\
   St F W w' (.row 2 1 A2 x.V1.length c2 (cY x.V1)::.row 2 1 A1 x.V1.length c1 (cY x.V2)::.blk pb 115 [.slice lA l.length lc,ii done]::.row 253 6 lA l.length lc (l.flatMap lS.cells)::.pts l::tl)):=by
 have V:dO lA:=(S.row (i:=1) rfl).someA om;have z:x.V2.length=x.V1.length:=by rw[D.l1,D.l2]
 have O:x.cells=[ii x.x0,ii x.y0,ii x.x1,ii x.y1,.slice x.B1 x.V1.length x.k1,.slice x.B2 x.V1.length x.k2]:=by unfold lS.cells;rw[z]
 have y:=PF U;rw[O]at y;have e1:((done+1:Nat):Int)-1=(done:Nat):=om;have I:=λwq(h:x.ok wq)=>F3 (D.ptok (n:=x.V1.length) (k1:=x.k1) (k2:=x.k2) L J rfl rfl rfl h);unfold vg at *;refine zI func69 ?_;refine zN ?_;intro aa ad ab S;refine zg ?_;rw[e1];refine zS ?_;intro ae S;refine zF [0,1,2,3,4,5,6,7] [8,9,10,11,12] ?_;intro ag ac S;refine ZU (S.rd (i:=2) rfl) y ?_;refine zK (I _ ((S.ok (i:=3) (h:=.pts l) rfl) x (dD U))) ?_;rintro _ ah ⟨A1,c1,A2,c2,rfl,Z⟩;have S:=S.app Z;refine zS ?_;intro ai S;refine pG S ⟨A1,c1,A2,c2,rfl,S.sub (.cons_cons _ (.cons_cons _ (.cons _ (cQ _))))⟩
end
def Ny(dd:TypeDesc):Bool:=match dd with|.pointer _=>false|_=>true
section
variable{ps:String}
theorem rU(v:(P.info? t).map (λi=>(i.methods.find? (λm=>m.name==name)).map (λm=>(m.path,m.func)))=some (some (#[],some (f,false))))(y:P.underlying t=some dd)(hd:Ny dd=true):(method (n+1) t u name).run P w=.ok (f,u) w:=by
 obtain⟨i,hi,h1⟩:=fl.1 v;obtain⟨m,v,h2⟩:=fl.1 h1;injection h2 with h3 h4;rw[method];cases dd<;>first|(cases hd;done)|simp[typeInfo,hi,v,h3,h4,follow,receiverAt,dS y,Place.get]
def Ae(want:Array (String×TypeId))(got:Array Method):List (String×TypeId):=want.toList.filter λ(name,sig)=>!got.any λm=>m.name==name&&m.sig==sig
theorem Em{l:List String}(h:Instr.least l=none):l=[]:=by
 cases l with
 |nil=>rfl
 |cons a l=>cases h
theorem Bf{got:Array Method}:Instr.missingMethod want got=none↔(Ae want got).isEmpty=true:=by
 unfold Instr.missingMethod;show(Instr.least (((Ae want got).map (·.1)).partition (·.contains (Char.ofNat 46))).2<|>Instr.least ((((Ae want got).map (·.1)).partition (·.contains (Char.ofNat 46))).1.map λid=>(id.splitOn ".").getLastD id))=none↔_;generalize Ae want got=l;rw[List.partition_eq_filter_filter];constructor
 ·intro h
  have h1:Instr.least (List.filter (not∘λx=>x.contains (Char.ofNat 46)) (l.map (·.1)))=none:=by
   cases e:Instr.least (List.filter (not∘λx=>x.contains (Char.ofNat 46)) (l.map (·.1)))with
   |none=>rfl
   |some s=>simp only[e]at h;cases h
  simp only[h1]at h;have h2:Instr.least (List.map (λid=>(id.splitOn ".").getLastD id) (List.filter (λx=>x.contains (Char.ofNat 46)) (l.map (·.1))))=none:=h;have h3:=Em h1;have h4:=List.map_eq_nil_iff.1 (Em h2);cases l with
  |nil=>rfl
  |cons a l =>
   exfalso;have h5:=nu.1 h3 a.1 (by simp);have h6:=nu.1 h4 a.1 (by simp);apply h5;show(!(a.1.contains (Char.ofNat 46)))=true;revert h6;cases a.1.contains (Char.ofNat 46)<;>simp
 ·intro h;rw[List.isEmpty_iff.1 h];rfl
theorem kF{v:Value}{b:Bool}(y:P.underlying t=some (.interface want))(z:ev e x=.iface t' v)(D:(P.info? t').map (λi=>(Ae want i.methods).isEmpty)=some b)(I:∀w,(zeroValue t).run P w=.ok .nilIface w) :
  iE P e ⟨d,.typeAssert x ts t true,ty,ps,af,none⟩ (.tuple #[if b then .iface t' v else .nilIface,.bool b]):=by
 obtain⟨i,hi,h1⟩:=fl.1 D;intro w;cases b with
 |true =>
  have:=Bf.2 h1;simp[gd,execOp,z,Instr.typeAssert,dS y,typeInfo,hi,this]
 |false =>
  cases h:Instr.missingMethod want i.methods with
  |none=>rw[Bf.1 h]at h1;cases h1
  |some m=>simp[gd,execOp,z,Instr.typeAssert,dS y,typeInfo,hi,h,I]
theorem vO{y:TypeId}{v:Value}(I:P.underlying t=some (.interface want))(J:ev e x=.iface y v):iE P e ⟨d,.binOp .eql t x (.const .nilIface) t',ty,ps,af,none⟩ (.bool false):=by
 intro w;have h2:ev e (.const .nilIface)=.nilIface:=rfl
 have z:∀n:Nat,(Op.equalIn (n+1) t (.iface y v) .nilIface).run P w=.ok false w:=λn=>by
  unfold Op.equalIn;simp[dS I]
 have D:(Op.equal t (.iface y v) .nilIface).run P w=.ok false w:=z 9999;simp[gd,execOp,J,h2,eqGuard,binOp,D]
end
structure Sv where
 A:Option Addr
 n:Nat
 c:Nat
def Sv.v(s:Sv):Value:=.slice s.A s.n s.c
def Sv.nil:Sv:=⟨none,0,0⟩
structure m5 where
 k:Int
 x0:Int
 y0:Int
 x1:Int
 y1:Int
 ax:Int
 ay:Int
 bx:Int
 by_:Int
 n:Int
 m:Int
 vs:Sv
 bs:Sv
 bd:Sv
variable{o:m5}
def m5.cs(o:m5):List Value:=[ii o.k,ii o.x0,ii o.y0,ii o.x1,ii o.y1,ii o.ax,ii o.ay,ii o.bx,ii o.by_,ii o.n,ii o.m,o.vs.v,o.bs.v,o.bd.v]
def m5.v(o:m5):Value:=.agg #[ii o.k,ii o.x0,ii o.y0,ii o.x1,ii o.y1,ii o.ax,ii o.ay,ii o.bx,ii o.by_,ii o.n,ii o.m,o.vs.v,o.bs.v,o.bd.v]
structure gZ where
 code:Int
 n:Int:=0
 yes:Bool:=false
 ax:Int:=0
 ay:Int:=0
 cells:Sv:=.nil
 values:Sv:=.nil
 parts:Sv:=.nil
 bytes:Sv:=.nil
 lines:Sv:=.nil
def gZ.cs(r:gZ):List Value:=[ii r.code,ii r.n,.bool r.yes,ii r.ax,ii r.ay,r.cells.v,r.values.v,r.parts.v,r.bytes.v,r.lines.v]
def gZ.v(r:gZ):Value:=.agg #[ii r.code,ii r.n,.bool r.yes,ii r.ax,ii r.ay,r.cells.v,r.values.v,r.parts.v,r.bytes.v,r.lines.v]
theorem St.mid{A B C:List HA}(S:St F W w (A++(B++C))):St F W w (B++(A++C)):=by
 refine S.perm_ ?_;rw[<-cL,<-cL];exact ft.append_right C
def iT(c:Bool)(f:FuncId)(kb:Nat):Value:=.func (.func f) #[] (if c then #[pt kb]else #[])
section
variable{Lx:α->List HA}{V:α->gZ}{op:Option Addr}
def xz(k:Int)(t:TypeId)(c:Bool)(f:FuncId):Prop:=∀w,Fn prog 22 [ii k] w (λv w'=>∃kb,v=.iface t (iT c f kb)/\St No w w' [.blk kb 3 [ii k]])
theorem Gi(b1 c:Bool)(hgp:b1=false->∃a,gp=some a)(hof:xz o.k t c f)(hI1:(prog.info? t).map (λi=>(Ae #[("hachure/store.bare",1),("hachure/store.do",78)] i.methods).isEmpty)=some b1)(hI2:(prog.info? t).map (λi=>(Ae #[("hachure/store.do",78),("hachure/store.needs",77)] i.methods).isEmpty)=some false)(hm:(prog.info? t).map (λi=>(i.methods.find? (λm=>m.name == "hachure/store.do")).map (λm=>(m.path,m.func)))=some (some (#[],some (fdo,false))))(hut:prog.underlying t=some dd)(hdd:Ny dd=true)(hdo:∀kb tl' w',St F W w' (.blk sb 73 [.pointer gp,.pointer lp,.pointer op,ii stamp,.pointer pp]::L0++(.blk kb 3 [ii o.k]::tl')) ->
   Fn prog fdo [iT c f kb,pt sb,o.v] w' (λv w''=>∃x,v=(V x).v/\St F W w'' (Lx x++(.blk kb 3 [ii o.k]::tl'))))(S:St F W w (.blk sb 73 [.pointer gp,.pointer lp,.pointer op,ii stamp,.pointer pp]::L0++tl)) :
  Fn prog 9 [pt sb,o.v] w (λv w'=>∃x,v=(V x).v/\St F W w' (Lx x++tl)):=by
 cases b1
 obtain⟨ga,rfl⟩:=hgp rfl;all_goals cases c
 all_goals
  refine zI func9 ?_;refine zN ?_;intro b_op w2_ g2_ S;refine zN ?_;intro b_rp w4_ g4_ S;refine zK (hof _) ?_;rintro _ w5_ ⟨kb,rfl,S2⟩;have S:=S.app S2;refine zg ?_;refine dU (vO k9 rfl) ?_;refine zg ?_;refine dU (kF mh rfl hI1 mP) ?_;refine zg ?_;refine dU (kF p8 rfl hI2 qE) ?_;refine zg ?_;refine o8 rfl (rU hm hut hdd) rfl (hdo kb _ _ (St.mid (A:=[_,_,_]) S)) ?_;rintro _ w6_ ⟨x,rfl,S⟩;have S:=St.mid (B:=[_,_,_]) S;refine zS ?_;intro w7_ S;exact rA S ⟨x,rfl,S.sub (iP [_,_,_] _)⟩
end
theorem St.under{A L:List HA}{k:HA}(S:St F W w (A++(L++(k::tl)))):St F W w (L++(k::(A++tl))) :=
 (S.mid).perm_ (lY L (ef (l₁:=A) (a:=k) (l₂:=tl)))
theorem St.over{A L:List HA}{k:HA}(S:St F W w (L++(k::(A++tl)))):St F W w (A++(L++(k::tl))) :=
 St.mid (S.perm_ (lY L (ef (l₁:=A) (a:=k) (l₂:=tl)).symm))
section
variable{L:List HA}{Lx:α->List HA}{V:α->gZ}{r:gZ}
theorem vE:Fn prog 56 [r.v,ii 0] W (dp r.v W):=by
 have S:=St.start W;refine zI func56 ?_;refine zN ?_;intro v I z S;refine zN ?_;intro y J D S;refine zS ?_;intro L S;exact rA S ⟨rfl,S.out⟩
def pQ(F:Nat->Prop)(W:World)(L:List HA)(sb:Nat)(o:m5)(c:Bool)(f:FuncId){α:Type}(V:α->gZ)(Lx:α->List HA):Prop :=
 ∀kb tl w,St F W w (L++(.blk kb 3 [ii o.k]::tl))->Fn prog f ([pt sb,o.v]++(if c then [pt kb]else [])) w
  (λv w''=>∃x,v=(V x).v/\St F W w'' (Lx x++(.blk kb 3 [ii o.k]::tl)))
theorem T5(c:Bool)(O:pQ F W L sb o c f V Lx)(S:St F W w (L++(.blk kb 3 [ii o.k]::tl))) :
  Fn prog (410) [iT c f kb,pt sb,o.v] w (λv y=>∃x,v=(V x).v/\St F W y (Lx x++(.blk kb 3 [ii o.k]::tl))):=by
 cases c
 all_goals
  unfold iT;simp only[m7,rq,pW];refine zI func410 ?_;refine zN ?_;intro z U I S;refine zN ?_;intro D Z J S;refine zg ?_;refine ju rfl rfl (O kb _ _ (St.under (A:=[_,_]) S)) ?_;rintro _ aa ⟨x,rfl,S⟩;have S:=St.over (A:=[_,_]) S;refine zS ?_;intro ab S;exact rA S ⟨x,rfl,S.drop 2⟩
end
theorem iC.ap:∀{L:List HA}{i j:Nat}{a b:HA},iC X w L->gi L i=some a->gi L j=some b->Nat.blt i j=true->∀g,a.own g->¬b.own g
 |[],_,_,_,_,_,h,_,_=>by cases h
 |h::r,0,0,_,_,_,_,_,hl=>by cases hl
 |h::r,0,j+1,a,b,S,hi,hj,_=>λg hg=>by
  injection hi with hi
  subst hi
  exact S.2.1 g hg b (Dh (L:=r) (i:=j) hj)
 |h::r,i+1,0,_,_,_,_,_,hl=>by cases hl
 |h::r,i+1,j+1,a,b,S,hi,hj,hl=>iC.ap (L:=r) (i:=i) (j:=j) S.2.2 hi hj hl
structure lT where
 sb:Nat
 p:Nat
 cap:Nat
 pp:Nat
 lb:Nat
 tb:Nat
 yb:Nat
 gw:Nat
 gh:Nat
 done:Nat
 A:Option Addr
 A1:Option Addr
 lA:Option Addr
 pA:Option Addr
 ov:Option Addr
 c1:Nat
 lc:Nat
 pc:Nat
 bs:Nat->Nat
 Rs:Nat->Option Nat
 cc:Nat->Int
 As:Nat->Option Addr
 cs:Nat->Nat
 l:List lS
 stamp:Int
variable{s s':lT}
def lT.top(s:lT):List Value:=[pt s.p,pt s.lb,.pointer s.ov,ii s.stamp,pt s.pp]
def lT.V(s:lT):List Int:=dw s.gw s.gh s.cc
def lT.rest(s:lT):List HA:=[.grid s.p s.gw s.gh s.cc s.A s.cap s.bs s.Rs,
 .blk s.lb 188 [pt s.p,pt s.tb,pt s.yb],
 .blk s.tb 293 [ii s.gw,ii s.gh,.slice s.A1 ((s.gh+1)*(s.gw+1)) s.c1],.row 2 1 s.A1 ((s.gh+1)*(s.gw+1)) s.c1 (fj ((s.gh+1)*(s.gw+1)) (lk s.gw s.V)),
 .blk s.yb 312 [.slice s.lA (fW s.gw s.gh) s.lc],.row 389 3 s.lA (fW s.gw s.gh) s.lc (ut (fW s.gw s.gh) s.gw s.gh s.As s.cs),.pfam 158 2 (fW s.gw s.gh) s.As (mG s.gw s.gh) s.cs (wX s.gw s.gh s.V),
 .blk s.pp 115 [.slice s.pA s.l.length s.pc,ii s.done],.row 253 6 s.pA s.l.length s.pc (s.l.flatMap lS.cells),.pts s.l]
def lT.L(s:lT):List HA:=.blk s.sb 73 s.top::s.rest
structure lT.ok(s:lT):Prop where
 hB:vB s.V
 hd:s.done<=s.l.length
 hg:∀x∈s.l,DA s.gw s.gh x
theorem En{V:List Int}{x y:Nat}{c:Nat->Int}(v:x<gw)(h:¬((x0<=x/\x<=x1)/\y0<=y/\y<=y1)):im gw V x0 y0 x1 y1 c (y*gw+x)=c (y*gw+x):=by
 have h1:=(jo (Y:=y) v).1;have h2:=(jo (Y:=y) v).2;unfold im;rw[h1,h2,a8 h]
def rp(F:Nat->Prop)(W:World)(L:List HA)(i j k:Nat)(t:TypeId)(z:List Value)(cs:Value->List Value)(T:Value->List HA->Prop)(σ:List (Nat×Value))(w:World):Prop :=
 ∃Q1 Q2,(match σ.lookup i with|none=>Q1=[]|some v=>T v Q1)/\(match σ.lookup j with|none=>Q2=[]|some u=>∃b,u=.pointer (some ⟨b,0,none⟩)/\Q2=[.blk b t (if (σ.lookup k).isSome then cs ((σ.lookup i).getD undef)else z)])/\St F W w (Q2++(Q1++L))
section
variable{L:List HA}{z:List Value}{cs:Value->List Value}{T:Value->List HA->Prop}
theorem rp.start(S:St F W w L):rp F W L i j k t z cs T [] w:=⟨[],[],rfl,rfl,S⟩
theorem rp.st(h:rp F W L i j k t z cs T σ w):St F W w L:=by
 obtain⟨v,y,_,_,S⟩:=h;have:=S.drop (y++v).length;rwa[<-cL,jE]at this
section
variable{ps:String}
theorem Ri{first cap:List Value}(I:ev e x=.func (.func f) first.toArray cap.toArray)(D:lj (args.map (ev e))=some vs)(y:Fn P f (first++vs++cap) w R) :
  gI P e ⟨d,.call ⟨.value x,args.toArray,tys⟩,ty,ps,af,none⟩ w R:=by
 have z:=mK D
 have v:(execOp (ev e) ⟨d,.call ⟨.value x,args.toArray,tys⟩,ty,ps,af,none⟩).run P w=.ok (.enter f (first++vs++cap).toArray) w:=by
  simp[execOp,resolve,I,Deferred.ofValue,invoke,z,iX y.1]
 unfold gI;rw[v];exact y.2
theorem rp.call(h:rp F W L i j k t z cs T σ w)(hi:σ.lookup i=none)(V:σ.lookup k=none)(D:(j==i)=false)(I:(k==i)=false):∃Q,St F W w (Q++L)/\∀v y w',T v y->St F W w' (y++(Q++L))->rp F W L i j k t z cs T ((i,v)::σ) w':=by
 obtain⟨y,J,h1,h2,S⟩:=h;rw[hi]at h1;subst h1;refine⟨J,S,λv y w' U O=>⟨y,J,?_,?_,O.mid⟩⟩
 ·simp only[cZ,fE];exact U
 ·simp only[cZ,D,I,V]at h2 ⊢;exact h2
theorem Eo(h:rp F W L i j k t z cs T σ w)(hi:σ.lookup i=none)(O:σ.lookup k=none)(y:(j==i)=false)(D:(k==i)=false)(V:lj (args.map (ev e))=some vs)(J:St F W w L->Fn P f vs w (λv w'=>∃Q,T v Q/\St No w w' Q)):gI P e ⟨d,.call ⟨.value (.func f),args.toArray,tys⟩,ty,ps,af,none⟩ w (λv w'=>rp F W L i j k t z cs T ((i,v)::σ) w'):=by
 obtain⟨Q,S,U⟩:=rp.call h hi O y D;exact l4 V ((J h.st).mono λv w'⟨I,hT,S2⟩=>U v I w' hT (S.app S2))
theorem sB(h:rp F W L i j k t z cs T σ w)(J:σ.lookup j=none)(O:σ.lookup k=none)(y:(i==j)=false)(D:(k==j)=false)(V:∀w,(zeroValue t).run P w=.ok zv w)(U:zv.cells.toList=z):gI P e ⟨d,.alloc t,ty,ps,af,none⟩ w (λv w'=>rp F W L i j k t z cs T ((j,v)::σ) w'):=by
 obtain⟨I,Z,h1,h2,S⟩:=h;rw[J]at h2;subst h2;refine gu rfl (kq (jV V U) S (λb w' g S=>⟨I,[.blk b t z],?_,?_,S⟩))
 ·simp only[cZ,y];exact h1
 ·simp only[cZ,fE,D,O];exact⟨b,rfl,rfl⟩
theorem sC{v:Value}{y:Operand}(h:rp F W L i j k t z cs T σ w)(hi:σ.lookup i=some v)(O:σ.lookup j=some (pt b))(hk:σ.lookup k=none)(D:(i==k)=false)(I:(j==k)=false)(hz:(sizeOf t).run P w=.ok n w)(hx:ev e x=pt b)(hy:ev e y=.agg (cs v).toArray)(hn:(cs v).length=n)(J:lj (z.take 0++cs v++z.drop (0+n))=some (cs v))(ho:(((cs v).all λv=>v.oneCell')&&Nat.ble (0+n) z.length)=true):gI P e ⟨d,.store t x y,ty,ps,af,none⟩ w (λu w'=>rp F W L i j k t z cs T ((k,u)::σ) w'):=by
 obtain⟨U,Q2,h1,h2,S⟩:=h;rw[hi]at h1;rw[O,hk,hi]at h2;obtain⟨b',Z,rfl⟩:=h2;cases Z
 refine gu rfl (d8 (i:=0) S rfl hz hx hy hn J ho rfl (λw' V=>⟨U,[.blk b t (cs v)],?_,?_,V⟩))
 ·simp only[cZ,D,hi];exact h1
 ·simp only[cZ,I,O,fE,D,hi];exact⟨b,rfl,rfl⟩
theorem rp.fin{v:Value}(h:rp F W L i j k t z cs T σ w)(hi:σ.lookup i=some v)(I:σ.lookup j=some (pt b))(J:(σ.lookup k).isSome=true):∃y,T v y/\St F W w (.blk b t (cs v)::(y++L)):=by
 obtain⟨y,O,h1,h2,S⟩:=h;rw[hi]at h1;rw[I,J,hi]at h2;obtain⟨b',D,rfl⟩:=h2;cases D
 exact⟨y,h1,S⟩
theorem rp.val{v:Value}(h:rp F W L i j k t z cs T σ w)(hi:σ.lookup i=some v):∃y,T v y:=by
 obtain⟨y,D,h1,h2,S⟩:=h;rw[hi]at h1;exact⟨y,h1⟩
theorem rp.adr(h:rp F W L i j k t z cs T σ w)(v:σ.lookup j=some u):∃b,u=pt b:=by
 obtain⟨y,D,h1,h2,S⟩:=h;rw[v]at h2;obtain⟨b,e,_⟩:=h2;exact⟨b,e⟩
end
end
section
variable{c2:Nat->Int}{V:List Int}
theorem Ib{c d:Nat->Int}(h:∀i,i<gw*gh->c i=d i):dw gw gh c=dw gw gh d:=eQ λi hi=>h i (dJ.1 hi)
theorem DG{c d:Nat->Int}(h:dw gw gh c=dw gw gh d)(hi:i<gw*gh):c i=d i:=by
 have:=congrArg (λl=>l[i]?) h;simpa [dw,hi]using this
theorem Ic(v:vB (dw gw gh cc))(hi:i<gw*gh):-2147483648<=cc i/\cc i<=2147483647:=by
 have:=v i;unfold dw at this;rw[cO,da,eu hi]at this;exact this
theorem K2{v:Int}(h:-2147483648<=v/\v<=2147483647):iL v=true:=by
 unfold iL;simp[h.1,h.2]
theorem wN(D:vB (dw gw gh cc))(I:x1<gw)(J:y1<gh):∀v∈fi gw cc x0 y0 (x1+1-x0) (y1+1-y0),iL v=true:=by
 intro v y;unfold fi vV at y;obtain⟨j,z,y⟩:=og.1 y;obtain⟨i,hi,rfl⟩:=fC.1 y;have z:=dJ.1 z;have hi:=dJ.1 hi;have h1:=cI gw (show y0+j+1<=gh by omega);rw[cX,cD gh]at h1;exact K2 (Ic D om)
theorem Nz{x y:Nat}(v:x<gw)(h1:x0<=x/\x<=x1)(h2:y0<=y/\y<=y1):im gw V x0 y0 x1 y1 cc (y*gw+x)=V.getD ((y-y0)*(x1+1-x0)+(x-x0)) 0:=by
 have z:=(jo (Y:=y) v).1;have a2:=(jo (Y:=y) v).2;unfold im;rw[z,a2,a7 ⟨h1,h2⟩]
theorem K3(hi:i<gw*gh):∃x y,x<gw/\y<gh/\i=y*gw+x:=by
 have v:0<gw:=fT λe=>by rw[e,iD]at hi;omega
 refine⟨i%gw,i/gw,dt _ v,cS hi,?_⟩;rw[cD];exact(dP i gw).symm
theorem yw(y:vB V)(v:vB (dw gw gh cc)):vB (dw gw gh (im gw V x0 y0 x1 y1 cc)):=FL λi hi=>by
 unfold im;split
 ·exact y _
 ·exact Ic v hi
theorem Jw(h:dw gw gh cc=dw gw gh c2)(y:x1<gw)(z:y1<gh):fi gw cc x0 y0 (x1+1-x0) (y1+1-y0)=fi gw c2 x0 y0 (x1+1-x0) (y1+1-y0):=by
 unfold fi vV
 have e:∀j∈List.range (y1+1-y0),(List.range (x1+1-x0)).map (λi=>cc ((y0+j)*gw+(x0+i)))=(List.range (x1+1-x0)).map (λi=>c2 ((y0+j)*gw+(x0+i))):=λj v=>eQ λi hi=>by
  have v:=dJ.1 v;have hi:=dJ.1 hi;have h1:=cI gw (show y0+j+1<=gh by omega);rw[cX,cD gh]at h1;exact DG h om
 rw[iA,iA];exact congrArg List.flatten (eQ e)
theorem Ep(z:∀x y,x<gw->y<gh->cc (y*gw+x)≠c2 (y*gw+x)->(x0<=x/\x<=x1)/\y0<=y/\y<=y1):dw gw gh (im gw (fi gw c2 x0 y0 (x1+1-x0) (y1+1-y0)) x0 y0 x1 y1 cc)=dw gw gh c2:=Ib λi hi=>by
 obtain⟨x,y,D,J,rfl⟩:=K3 hi;by_cases h:(x0<=x/\x<=x1)/\y0<=y/\y<=y1
 ·rw[Nz D h.1 h.2]
  have v:(y-y0)*(x1+1-x0)+(x-x0)<(y1+1-y0)*(x1+1-x0):=by
   have:=cI (x1+1-x0) (show y-y0+1<=y1+1-y0 by omega);rw[cX]at this;omega
  have I:=jo (gw:=x1+1-x0) (X:=x-x0) (Y:=y-y0) om;rw[cO,yp om v,I.1,I.2,(om:y0+(y-y0)=y),(om:x0+(x-x0)=x)];rfl
 ·rw[En D h];rcases Int.decEq (cc (y*gw+x)) (c2 (y*gw+x))with h'|h'
  ·exact(h (z x y D J h')).elim
  ·exact h'
end
theorem NA:Fn prog 391 [pt pb,tD] W (dp (ii 0) W):=by
 have D:=λw=>Jm (W:=w);unfold tD at *;have S:=St.start W;refine zI func391 ?_;refine zN ?_;intro v I y S;refine zC (D _) ?_;intro J z S;exact zZ
theorem NB:Fn prog 392 [pt sb,tD] W (dp (.tuple #[]) W):=by
 unfold tD;have S:=St.start W;refine zI func392 ?_;refine zN ?_;intro v z y S;refine zg ?_;exact W3 ⟨rfl,S.out⟩
def gZ.fine:gZ:={ code:=0 }
def Xk(gw gh:Nat)(cc c2:Nat->Int)(v:Value)(Q:List HA):Prop:=∃(a b d e:Int)(A1:Option Addr)(n k1:Nat)(A2:Option Addr)(k2:Nat),v=.tuple #[.agg #[ii a,ii b,ii d,ii e,.slice A1 n k1,.slice A2 n k2],ii 0] /\
 (((∀x y,x<gw->y<gh->cc (y*gw+x)=c2 (y*gw+x))/\Q=[]/\a=0/\b=0/\d=0/\e=0/\A1=none/\n=0/\k1=0/\A2=none/\k2=0) \/
  ∃x0 y0 x1 y1:Nat,(x0<=x1/\x1<gw)/\(y0<=y1/\y1<gh)/\(∃x y,x<gw/\y<gh/\cc (y*gw+x)≠c2 (y*gw+x))/\(∀x y,x<gw->y<gh->cc (y*gw+x)≠c2 (y*gw+x)->(x0<=x/\x<=x1)/\y0<=y/\y<=y1)/\a=x0/\b=y0/\d=x1/\e=y1/\n=(y1+1-y0)*(x1+1-x0) /\
   Q=[.row 2 1 A2 n k2 (cY (fi gw c2 x0 y0 (x1+1-x0) (y1+1-y0))),.row 2 1 A1 n k1 (cY (fi gw cc x0 y0 (x1+1-x0) (y1+1-y0)))])
theorem E5.parts{c2:Nat->Int}{v:Value}:E5 gw gh cc c2 W v w'->∃Q,Xk gw gh cc c2 v Q/\St No W w' Q:=λ⟨a,b,d,e,A1,n,k1,A2,k2,Q,y,S,h⟩=>⟨Q,⟨a,b,d,e,A1,n,k1,A2,k2,y,h⟩,S⟩
def Yk:Value->List Value
 |.tuple a=>match a.toList with
  |.agg l::_=>l.toList
  |_=>[]
 |_=>[]
structure CE(s s':lT)(c2:Nat->Int):Prop where
 sb:s'.sb=s.sb
 gw:s'.gw=s.gw
 gh:s'.gh=s.gh
 ov:s'.ov=s.ov
 V:s'.V=dw s.gw s.gh c2
 ch:(s'.stamp=s.stamp/\s'.l=s.l/\s'.done=s.done/\s.V=dw s.gw s.gh c2)\/(s'.stamp=s.stamp+1/\∃x:lS,s'.l=s.l.take s.done++[x]/\s'.done=s'.l.length/\DA s.gw s.gh x/\x.V1=fi s.gw s.cc x.x0 x.y0 (x.x1+1-x.x0) (x.y1+1-x.y0)/\x.V2=fi s.gw s'.cc x.x0 x.y0 (x.x1+1-x.x0) (x.y1+1-x.y0) /\
  ∀a b,a<s.gw->b<s.gh->s.cc (b*s.gw+a)≠c2 (b*s.gw+a)->(x.x0<=a/\a<=x.x1)/\x.y0<=b/\b<=x.y1)
section
variable{k:Int}
theorem K4:Fn prog 31 [ii k] W (λv w'=>∃kb,v=.iface 117 (iT true (46) kb)/\St No W w' [.blk kb 3 [ii k]]):=by
 have S:=St.start W;refine zI func31 ?_;refine zN ?_;intro y D z S;refine zg ?_;refine dU (jn underlying117 rfl rfl) ?_;refine zX ?_;exact⟨_,rfl,S⟩
theorem NC:Fn prog 32 [ii k] W (λv w'=>∃kb,v=.iface 119 (iT true (48) kb)/\St No W w' [.blk kb 3 [ii k]]):=by
 have S:=St.start W;refine zI func32 ?_;refine zN ?_;intro y D z S;refine zg ?_;refine dU (jn ou rfl rfl) ?_;refine zX ?_;exact⟨_,rfl,S⟩
theorem K5:Fn prog 33 [ii k] W (λv w'=>∃kb,v=.iface 119 (iT true (57) kb)/\St No W w' [.blk kb 3 [ii k]]):=by
 have S:=St.start W;refine zI func33 ?_;refine zN ?_;intro y D z S;refine zg ?_;refine dU (jn ou rfl rfl) ?_;refine zX ?_;exact⟨_,rfl,S⟩
theorem wO(h1:2<=k)(h2:k<=5):xz k 117 true (46):=by
 intro W;have S:=St.start W;refine zI func22 ?_;refine zK (K4) ?_;rintro _ y ⟨kb,rfl,v⟩;have S:=S.app v;refine zX ?_;exact⟨_,rfl,S⟩
theorem rV(h1:6<=k)(h2:k<=11):xz k 119 true (48):=by
 intro W;have S:=St.start W;refine zI func22 ?_;refine zK (NC) ?_;rintro _ y ⟨kb,rfl,v⟩;have S:=S.app v;refine zX ?_;exact⟨_,rfl,S⟩
theorem wt(h1:12<=k)(h2:k<=17):xz k 119 true (57):=by
 intro W;have S:=St.start W;refine zI func22 ?_;refine zK (K5) ?_;rintro _ y ⟨kb,rfl,v⟩;have S:=S.app v;refine zX ?_;exact⟨_,rfl,S⟩
theorem Hq:Fn prog 34 [ii 1] W (λv w'=>∃kb,v=.iface 141 (iT false (65) kb)/\St No W w' [.blk kb 3 [ii 1]]):=by
 have S:=St.start W;refine zI func34 ?_;refine zN ?_;intro y D z S;refine zg ?_;refine dU (jn aaj rfl rfl) ?_;refine zX ?_;exact⟨_,rfl,S⟩
theorem Ah:xz 1 141 false (65):=by
 intro W;have S:=St.start W;refine zI func22 ?_;refine zK (Hq) ?_;rintro _ y ⟨kb,rfl,v⟩;have S:=S.app v;refine zX ?_;exact⟨_,rfl,S⟩
theorem K6:Fn prog 34 [ii 25] W (λv w'=>∃kb,v=.iface 146 (iT false (69) kb)/\St No W w' [.blk kb 3 [ii 25]]):=by
 have S:=St.start W;refine zI func34 ?_;refine zN ?_;intro y D z S;refine zg ?_;refine dU (jn Fk rfl rfl) ?_;refine zX ?_;exact⟨_,rfl,S⟩
theorem DH:xz 25 146 false (69):=by
 intro W;have S:=St.start W;refine zI func22 ?_;refine zK (K6) ?_;rintro _ y ⟨kb,rfl,v⟩;have S:=S.app v;refine zX ?_;exact⟨_,rfl,S⟩
theorem Hr:Fn prog 34 [ii 18] W (λv w'=>∃kb,v=.iface 119 (iT false (71) kb)/\St No W w' [.blk kb 3 [ii 18]]):=by
 have S:=St.start W;refine zI func34 ?_;refine zN ?_;intro y D z S;refine zg ?_;refine dU (jn ou rfl rfl) ?_;refine zX ?_;exact⟨_,rfl,S⟩
theorem Ai:xz 18 119 false (71):=by
 intro W;have S:=St.start W;refine zI func22 ?_;refine zK (Hr) ?_;rintro _ y ⟨kb,rfl,v⟩;have S:=S.app v;refine zX ?_;exact⟨_,rfl,S⟩
theorem K7:Fn prog 34 [ii 23] W (λv w'=>∃kb,v=.iface 119 (iT false (73) kb)/\St No W w' [.blk kb 3 [ii 23]]):=by
 have S:=St.start W;refine zI func34 ?_;refine zN ?_;intro y D z S;refine zg ?_;refine dU (jn ou rfl rfl) ?_;refine zX ?_;exact⟨_,rfl,S⟩
theorem AH:xz 23 119 false (73):=by
 intro W;have S:=St.start W;refine zI func22 ?_;refine zK (K7) ?_;rintro _ y ⟨kb,rfl,v⟩;have S:=S.app v;refine zX ?_;exact⟨_,rfl,S⟩
theorem Hs:Fn prog 34 [ii 20] W (λv w'=>∃kb,v=.iface 153 (iT true (77) kb)/\St No W w' [.blk kb 3 [ii 20]]):=by
 have S:=St.start W;refine zI func34 ?_;refine zN ?_;intro y D z S;refine zg ?_;refine dU (jn YQ rfl rfl) ?_;refine zX ?_;exact⟨_,rfl,S⟩
theorem K8:xz 20 153 true (77):=by
 intro W;have S:=St.start W;refine zI func22 ?_;refine zK (Hs) ?_;rintro _ y ⟨kb,rfl,v⟩;have S:=S.app v;refine zX ?_;exact⟨_,rfl,S⟩
end
theorem yy.gr{L:List HA}{σ:List Value}(h:yy F W L L1 σ w)(g:Gr w w'):yy F W L L1 σ w':=by
 cases σ with
 |nil=>exact St.gr h g
 |cons v σ=>exact St.gr h g
theorem yy.both{L:List HA}{σ:List Value}(n:Nat)(h:yy F W L L1 σ w)(y:L.drop n=T)(h1:L1.drop n=T):St F W w T:=by
 cases σ with
 |nil=>exact y▸St.drop (show St F W w L from h) n
 |cons v σ=>exact h1▸St.drop (show St F W w L1 from h) n
theorem BJ{ps:String}{L:List HA}{tb:TypeId}{y:Operand}{o:Nat}{v:Value}(S:St F W w L)(hi:gi L i=some (.blk b tb l))(hz:(sizeOf t).run P w=.ok 1 w)(V:ev e x=.pointer (some ⟨b,o,none⟩))(Z:fz (ev e y)=some v)(U:v.oneCell'=true)(z:v.cells=#[v])(I:l[o]?=some u)(O:j7 L i (.blk b tb (l.set o v))=some L')(J:∀w',St F W w' L'->R undef w'):gI P e ⟨d,.store t x y,ty,ps,af,none⟩ w R :=
 gu rfl (iy S hi hz V Z U z I O (λw' D=>J w' D))
theorem PG(O:s.ok)(hx:x0<=x1/\x1<s.gw)(hy:y0<=y1/\y1<s.gh)(J:∀w tl,St F W w (s.L++M++tl)->yv w s.stamp s.ov)(V:o.k=7/\o.x0=x0/\o.y0=y0/\o.x1=x1/\o.y1=y1) :
  pQ F W (s.L++M) s.sb o true (48) (λ_:Unit=>{ code:=0,n:=uv s.V s.gw x0 y0 x1 y1:gZ }) (λ_=>s.L++M):=by
 intro kb tl w S;have S:=S.perm_ ef;obtain⟨ok,ae,ah,ag,ai,ax,ay,bx,I,n,m,vs,bs,bd⟩:=o;dsimp only at V;obtain⟨rfl,rfl,rfl,rfl,rfl⟩:=V;have S:St F W w (.blk kb 3 [ii 7]::(s.L++M++tl)):=S;have U:=(S.grid (i:=2) rfl).sw;have L:=(S.grid (i:=2) rfl).sh;refine zI func48 ?_;refine zN ?_;intro z al aa S;refine zN ?_;intro y am ab S;refine zN ?_;intro D an ac S;refine zC (pj (S.blk (i:=6) rfl)) ?_;intro ao ad S;refine zH (C:=(yy F W (.blk D 40 [ii 0,ii 0,.bool false,ii 0,ii 0,.slice none 0 0,.slice none 0 0,.slice none 0 0,.slice none 0 0,.slice none 0 0]::.blk y 40 [ii 0,ii 0,.bool false,ii 0,ii 0,.slice none 0 0,.slice none 0 0,.slice none 0 0,.slice none 0 0,.slice none 0 0]::.blk z 46 (m5.cs ⟨7,x0,y0,x1,y1,ax,ay,bx,I,n,m,vs,bs,bd⟩)::.blk kb 3 [ii 7]::(s.L++M++tl)) (.blk D 40 [ii 0,ii (uv s.V s.gw x0 y0 x1 y1),.bool false,ii 0,ii 0,.slice none 0 0,.slice none 0 0,.slice none 0 0,.slice none 0 0,.slice none 0 0]::.blk y 40 [ii 0,ii 0,.bool false,ii 0,ii 0,.slice none 0 0,.slice none 0 0,.slice none 0 0,.slice none 0 0,.slice none 0 0]::.blk z 46 (m5.cs ⟨7,x0,y0,x1,y1,ax,ay,bx,I,n,m,vs,bs,bd⟩)::.blk kb 3 [ii 7]::(s.L++M++tl)))) [20] [0,1,2,3,4,5,6,7,8,9,10,11,12,13,14,15,16,17,18,19,20] [21] (yy.start (S.gr (Gr.drew _))) ?_;refine zV (λτ wq v=>(v.blk (i:=4) rfl rfl)) ?_;refine zV (λτ wq v=>(v.blk (i:=4) rfl rfl)) ?_;refine zV (λτ wq v=>(v.blk (i:=4) rfl rfl)) ?_;refine zV (λτ wq v=>(v.blk (i:=2) rfl rfl)) ?_;refine jH rfl rfl (λτ wq v=>(We (W:=wq) x0 y0 x1 y1 O.hB U L hx hy (J wq tl (v.both 4 rfl rfl)) (v.blk (i:=6) rfl rfl) ⟨s.A1,s.c1,v.blk (i:=7) rfl rfl,(show gH wq _ _ _ _ _ _ from v.ok (i:=8) rfl rfl).rd⟩).mono (λ_ _⟨hv,hg⟩=>⟨hv,v.gr hg⟩)) ?_;refine zR ?_;refine de rfl rfl (λwq v=>BJ (i:=0) v rfl (cR _) rfl rfl rfl rfl rfl rfl (λw' S'=>S')) ?_;rintro aj ak _;refine zY ?_;rintro wz hz;have S:St F W wz _:=hz;refine zC (vE (r:={ code:=0,n:=uv s.V s.gw x0 y0 x1 y1 })) ?_;refine zS ?_;intro Z S;exact rA S ⟨(),rfl,(S.drop 3).perm_ ef.symm⟩
def Wi(F:Nat->Prop)(W:World)(L:List HA)(T:Value->List HA->Prop)(L':Value->List HA)(σ:List Value)(w:World):Prop:=match σ with
 |[]=>St F W w L
 |[v]=>∃Q,T v Q/\St F W w (Q++L)
 |_::v::_=>∃Q,T v Q/\St F W w (Q++L' v)
theorem St.tail{Q L:List HA}(S:St F W w (Q++L)):St F W w L:=by
 have:=S.drop Q.length;rwa[jE]at this
theorem Wi.ok{L:List HA}{T:Value->List HA->Prop}{L':Value->List HA}{σ:List Value}(h:Wi F W L T L' σ w){R:Prop}(y:St F W w L->R)(h1:∀v,St F W w (L' v)->R):R:=by
 match σ,h with
 |[],h=>exact y h
 |[v],⟨Q,_,S⟩=>exact y S.tail
 |_::v::_,⟨Q,_,S⟩=>exact h1 v S.tail
def Ym(sn:Nat)(stamp:Int)(gw gh:Nat)(V:List Int)(Q:List HA):Prop:=∃tb q Ao co As cs,Q=.blk sn 258 [ii stamp,pt tb,pt q]::BB tb gw gh V Ao co As cs
def W7:Value->Option Addr
 |.tuple a=>match a.toList with
  |.pointer p::_=>p
  |_=>none
 |_=>none
theorem NI(J:s.ok):pQ F W (s.L++M) s.sb o false (71) (λ_:{ q:Nat×List HA//Ym q.1 s.stamp s.gw s.gh s.V q.2 }=>gZ.fine) (λq=>{ s with ov:=some ⟨q.1.1,0,none⟩ }.L++(q.1.2++M)):=by
 intro kb tl w S;refine zI func71 ?_;refine zN ?_;intro y ac V S;refine zN ?_;intro z ad Z S;refine zH (C:=(Wi F W (.blk z 40 [ii 0,ii 0,.bool false,ii 0,ii 0,.slice none 0 0,.slice none 0 0,.slice none 0 0,.slice none 0 0,.slice none 0 0]::.blk y 46 o.cs::(s.L++M++(.blk kb 3 [ii o.k]::tl))) (λv Q=>∃sn,v=.tuple #[pt sn,ii 0]/\Ym sn s.stamp s.gw s.gh s.V Q) (λv=>.blk z 40 [ii 0,ii 0,.bool false,ii 0,ii 0,.slice none 0 0,.slice none 0 0,.slice none 0 0,.slice none 0 0,.slice none 0 0]::.blk y 46 o.cs::({ s with ov:=W7 v }.L++M++(.blk kb 3 [ii o.k]::tl))))) [9,15] [0,1,2,3,4,5,6,7,8,9,10,11,12,13,14,15] [] (S.gr (Gr.drew _)) ?_;refine qo rfl (λτ wq D=>D.ok (λS=>cV kO rfl rfl (S.blk (i:=2) rfl) rfl) (λv S=>cV kO rfl rfl (S.blk (i:=2) rfl) rfl)) ?_;refine zR ?_;refine qo rfl (λτ wq D=>D.ok (λS=>cV iY rfl rfl (S.blk (i:=2) rfl) rfl) (λv S=>cV iY rfl rfl (S.blk (i:=2) rfl) rfl)) ?_;refine de rfl rfl (λwq D=>l4 rfl ((Wd J.hB (St.grid (show St F W wq _ from D) (i:=3) rfl)).mono λv w'⟨sn,tb,q,Ao,co,As,cs,hv,S2⟩=>⟨_,⟨sn,hv,tb,q,Ao,co,As,cs,rfl⟩,St.app D S2⟩)) ?_;rintro v9 w9 ⟨_,⟨I,rfl,_⟩,_⟩;refine zR ?_;refine de rfl rfl (λwq D=>(show ∃Q,_/\St F W wq (Q++_)from D).elim λQ h=>BJ (i:=2) (St.mid (B:=[_,_,_]) h.2) rfl (sizeOf70 _) rfl rfl rfl rfl rfl rfl (λw' O=>⟨Q,h.1,St.mid (A:=[_,_,_]) O⟩)) ?_;rintro aa ab _;refine zY ?_;rintro wz ⟨Q,⟨sn,U,L⟩,S⟩;refine zg ?_;cases U
 have S:=St.mid (A:=Q) (B:=[_,_]) S;refine zS ?_;intro ae S;refine rA S ⟨⟨(I,Q),L⟩,rfl,?_⟩;rw[cL,cL];refine St.mid (A:=Q) (B:=lT.L { s with ov:=some ⟨I,0,none⟩ }) ?_;rw[<-cL (lT.L _)];exact S.drop 2
section
variable{V:List Int}{z:Value}{st:Int}
theorem Wj(O:vB V)(hw:1<=gw/\gw<=1024)(Z:1<=gh/\gh<=1024)(hx:x0<=x1/\x1<gw)(hy:y0<=y1/\y1<gh)(y:o.x0=x0/\o.y0=y0/\o.x1=x1/\o.y1=y1)(U:eL W sn 258 [ii stamp,pt tb,z])(L:rj W tb gw gh V)(hk:eL W kb 3 [ii 20]) :
  Fn prog 77 [pt sn,o.v,pt kb] W (dp (.tuple #[ii (uv V gw x0 y0 x1 y1),ii 0]) W):=by
 obtain⟨ok,aa,ac,ab,ad,ax,ay,bx,D,n,m,vs,bs,bd⟩:=o;dsimp only at y;obtain⟨rfl,rfl,rfl,rfl⟩:=y;have S:=St.start W;refine zI func77 ?_;refine zN ?_;intro v ae I S;refine zL (hk.gr S.out) ?_;refine zC (T0 x0 y0 x1 y1 O hw Z hx hy (U.gr S.out) (L.gr S.out)) ?_;intro ag J S;exact zZ
theorem La(v:eL W sb 73 [.pointer g0,.pointer l0,pt sn,ii st,.pointer p0]):Fn prog (417) [iT true (77) kb,pt sb] W (dp (.bool true) W):=by
 unfold iT;have S:=St.start W;refine zI func417 ?_;iterate 4 refine z ?_
 refine dH (cV jl rfl rfl (v.gr S.out) rfl) ?_;refine dU (uS jl rfl rfl) ?_;exact zZ
theorem T9(Z:vB V)(hw:1<=gw/\gw<=1024)(hh:1<=gh/\gh<=1024)(hx:x0<=x1/\x1<gw)(hy:y0<=y1/\y1<gh)(ho:o.x0=x0/\o.y0=y0/\o.x1=x1/\o.y1=y1)(hS:eL W sn 258 [ii stamp,pt tb,z])(U:rj W tb gw gh V)(hk:eL W kb 3 [ii 20])(y:eL W sb 73 [.pointer g0,.pointer l0,pt sn,ii st,.pointer p0]) :
  Fn prog (416) [iT true (77) kb,pt sb,o.v] W (dp ({ code:=0,n:=uv V gw x0 y0 x1 y1 }:gZ).v W):=by
 have hf:=λw(g:Gr W w)=>Wj Z hw hh hx hy ho (hS.gr g) (U.gr g) (hk.gr g);unfold iT;have S:=St.start W;refine zI func416 ?_;refine zN ?_;intro D aa J S;refine zN ?_;intro I ab L S;refine zD [0,1,2,3,4,5,6,7,8,9,10,11] [] ?_;refine zM (λwq v=>(y.gr (S.gr v).out)) ?_;refine zQ ?_;refine Hw rfl rfl (λwq v=>(hf wq (S.gr v).out).mono (λ_ _⟨hv,hg⟩=>⟨hv,v.trans hg⟩)) ?_;refine zE ?_;intro ac O S;refine zC (vE (r:={ code:=0,n:=uv V gw x0 y0 x1 y1 })) ?_;refine zS ?_;intro ad S;exact rA S ⟨rfl,S.out⟩
theorem Rl(O:o.k=20)(hB:vB V)(hw:1<=gw/\gw<=1024)(hh:1<=gh/\gh<=1024)(hx:x0<=x1/\x1<gw)(hy:y0<=y1/\y1<gh)(ho:o.x0=x0/\o.y0=y0/\o.x1=x1/\o.y1=y1)(hS:eL W sn 258 [ii stamp,pt tb,z])(hA:rj W tb gw gh V)(v:eL W sb 73 [pt g,.pointer l0,pt sn,ii st,.pointer p0]) :
  Fn prog 9 [pt sb,o.v] W (dp ({ code:=0,n:=uv V gw x0 y0 x1 y1 }:gZ).v W):=by
 have hd:=λkb w(g:Gr W w)hkb=>T9 (kb:=kb) hB hw hh hx hy ho (hS.gr g) (hA.gr g) hkb (v.gr g);have I:=λw=>K8 w;obtain⟨ok,ac,ae,ad,ag,ax,ay,bx,Z,n,m,vs,bs,bd⟩:=o;dsimp only at O;subst O;unfold iT at *;have S:=St.start W;refine zI func9 ?_;refine zN ?_;intro J ah aa S;refine zN ?_;intro L ai ab S;refine zK (I _) ?_;rintro _ aj ⟨kb,rfl,U⟩;have S:=S.app U;refine zg ?_;refine dU (vO k9 rfl) ?_;refine zg ?_;refine dU (kF (b:=false) mh rfl (by kernel_rfl) mP) ?_;refine zg ?_;refine dU (kF (b:=true) p8 rfl (by kernel_rfl) qE) ?_;refine zg ?_;refine dr rfl ?_;refine o8 rfl (rU (by kernel_rfl) YQ rfl) rfl (La (kb:=kb) (v.gr S.out)) ?_;rintro _ ak ⟨rfl,y⟩;have S:=S.gr y;refine zg ?_;refine o8 rfl (rU (by kernel_rfl) YQ rfl) rfl (hd kb _ S.out (S.blk (i:=0) rfl)) ?_;rintro _ al ⟨rfl,D⟩;have S:=S.gr D;refine zS ?_;intro am S;exact rA S ⟨rfl,S.out⟩
end
section
variable{st0:Int}
theorem Gk:Fn prog 20 [] W (λv w'=>∃sb pp,v=pt sb/\St No W w' [.blk sb 73 [.pointer none,.pointer none,.pointer none,ii 0,pt pp],.blk pp 115 [.slice none 0 0,ii 0]]):=by
 have S:=St.start W;refine zI func20 ?_;refine zK (yt) ?_;rintro _ I ⟨pp,rfl,z⟩;have S:=S.app z;refine zN ?_;intro y J D S;refine zX ?_;exact⟨_,_,rfl,S⟩
theorem Id(Z:1<=gw/\gw<=1024)(V:1<=gh/\gh<=1024)(L:o.n=gw)(J:o.m=gh):Fn prog 65 [o.v] W (qw (λv=>.tuple #[v,ii 0]) gw gh (λ_=>0) W):=by
 obtain⟨ok,aa,ac,ab,ad,ax,ay,bx,O,n,m,vs,bs,bd⟩:=o;dsimp only at L J;subst L J;have S:=St.start W;refine zI func65 ?_;refine zN ?_;intro I ae U S;refine zK (IZ gw gh 0 Z V (by decide) _) ?_;rintro _ ag ⟨q,A2,cap2,bs2,Rs2,rfl,z,D,y⟩;have S:=S.pushGrid z D y;refine zX ?_;exact(S.retGrid (i:=0) rfl)
theorem NJ(hw:1<=gw/\gw<=1024)(hh:1<=gh/\gh<=1024)(hn:o.n=gw)(hm:o.m=gh)(S:St F W w (.blk sb 73 [.pointer g0,.pointer l0,.pointer o0,ii st0,.pointer p0]::T)) :
  Fn prog (412) [iT false (65) kb,pt sb,o.v] w (λv w'=>∃s':lT,v=gZ.fine.v/\(s'.ok/\s'.sb=sb/\s'.gw=gw/\s'.gh=gh/\s'.ov=none/\s'.V=dw gw gh (λ_=>0)/\s'.l=[]/\s'.done=0/\s'.stamp=0)/\St F W w' (s'.L++T)):=by
 obtain⟨ok,U,Z,V,aa,ax,ay,bx,I,n,m,vs,bs,bd⟩:=o;have y:vB (dw gw gh λ_=>0):=FL λ_ _=>by decide
 unfold iT;refine zI func412 ?_;refine zN ?_;intro ab ag ad S;refine zN ?_;intro ac ah ae S;refine zg ?_;refine ju rfl rfl (Id (gw:=gw) (gh:=gh) (o:=⟨ok,U,Z,V,aa,ax,ay,bx,I,n,m,vs,bs,bd⟩) hw hh hn hm) ?_;rintro _ ai ⟨q,A2,cap2,bs2,Rs2,rfl,L,O,J⟩;have S:=S.pushGrid L O J;refine zK (DF y (S.grid (i:=0) rfl)) ?_;rintro _ aj ⟨lb,tb,A1,c1,pb,lA,lc,As,cs,rfl,D⟩;have S:=(S.app D);refine zK (yt) ?_;rintro _ ak ⟨pp,rfl,D⟩;have S:=S.app D;refine dU (kL (pl:=[(0,1),(1,1),(2,1),(3,1),(4,1)]) Zz ZC (λw=>by kernel_rfl) rfl rfl) ?_;refine z ?_;refine Z1 10 S ?_;intro al S;refine z ?_;refine dU (kL (pl:=[(0,1),(1,1),(2,1),(3,2),(5,1),(6,1),(7,1),(8,1),(9,1)]) jw pI (λw=>by kernel_rfl) rfl rfl) ?_;refine Z1 8 S ?_;intro am S;refine zq ?_;have S1:=((S.pushNil 253 6).pts0).pick 13 [10,11,12,9,3,4,5,6,7,8,2,1,0] rfl rfl rfl;exact rA S ⟨⟨sb,q,cap2,pp,lb,tb,pb,gw,gh,0,A2,A1,lA,none,none,c1,lc,0,bs2,Rs2,λ_=>0,As,cs,[],0⟩,rfl,⟨⟨y,fK _,λx hx=>by cases hx⟩,rfl,rfl,rfl,rfl,rfl,rfl,rfl,rfl⟩,S1.drop 2⟩
end
section
variable{V:List Int}
theorem Eq(z:o.k=1)(J:1<=gw/\gw<=1024)(y:1<=gh/\gh<=1024)(I:o.n=gw)(D:o.m=gh)(S:St F W w (.blk sb 73 [.pointer none,.pointer none,.pointer none,ii 0,.pointer p0]::T)) :
  Fn prog 9 [pt sb,o.v] w (λv w'=>∃s':lT,v=gZ.fine.v/\(s'.ok/\s'.sb=sb/\s'.gw=gw/\s'.gh=gh/\s'.ov=none/\s'.V=dw gw gh (λ_=>0)/\s'.l=[]/\s'.done=0/\s'.stamp=0)/\St F W w' (s'.L++T)):=by
 have hd:=Gi (F:=F) (W:=W) (w:=w) (L0:=[]) (tl:=T) (α:={ s':lT//s'.ok/\s'.sb=sb/\s'.gw=gw/\s'.gh=gh/\s'.ov=none/\s'.V=dw gw gh (λ_=>0)/\s'.l=[]/\s'.done=0/\s'.stamp=0 }) (V:=λ_=>gZ.fine) (Lx:=λx=>x.1.L) (o:=o) (t:=141) (f:=65) (sb:=sb) (lp:=none) (op:=none) (pp:=p0) (gp:=none) (stamp:=0) (fdo:=412)
  true false (λh=>by cases h) (z▸Ah) (by kernel_rfl) (by kernel_rfl) (by kernel_rfl) aaj rfl
  (λkb L w' S=>(NJ J y I D S).mono λv O⟨s',hv,hi,S'⟩=>⟨⟨s',hi⟩,hv,S'⟩) S
 exact hd.mono λv w'⟨x,hv,S'⟩=>⟨x.1,hv,x.2,S'⟩
theorem tj{α:Type}{Vr:α->gZ}{Lx:α->List HA}(z:s.sb=sb)(c:Bool)(y:xz o.k 119 c f)(D:pQ F W (s.L++M) s.sb o c f Vr Lx)(S:St F W w ((s.L++M)++tl)) :
  Fn prog 9 [pt sb,o.v] w (λv w'=>∃x,v=(Vr x).v/\St F W w' (Lx x++tl)):=by
 subst z
 exact Gi (F:=F) (W:=W) (w:=w) (L0:=s.rest++M) (tl:=tl) (V:=Vr) (Lx:=Lx) (o:=o) (t:=119) (f:=f) (sb:=s.sb) (gp:=some ⟨s.p,0,none⟩) (lp:=some ⟨s.lb,0,none⟩) (op:=s.ov) (pp:=some ⟨s.pp,0,none⟩) (stamp:=s.stamp) (fdo:=410)
  false c (λ_=>⟨_,rfl⟩) y (by kernel_rfl) (by kernel_rfl) (by kernel_rfl) ou rfl (λkb I w' S=>T5 c D S) S
end
section
variable{st0:Int}
theorem Gl(n e:Int):Fn prog 189 [ii n,ii e] W (dp (.bool (fL n e)) W):=by
 have S:=St.start W;unfold fL;have v:n<0\/(0<=n/\n<e)\/(0<=n/\¬n<e):=om;rcases v with h|h|h
 all_goals
  refine zI func189 ?_;refine zX ?_;exact⟨by simp[*]<;>omega,S.out⟩
theorem wu(x0 y0 x1 y1 n m:Int)(hn:-9223372036854775808<=n/\n<=9223372036854775807)(hm:-9223372036854775808<=m/\m<=9223372036854775807)(h:n=-9223372036854775808\/(¬n=-9223372036854775808/\m=-9223372036854775808)) :
  Fn prog 134 [.agg #[ii x0,ii y0,ii x1,ii y1],ii n,ii m] W (dp (ii 3) W):=by
 have Z:fL (IntKind.i64.wrap (-9223372036854775808-1)) 1024=false:=by decide
 have L:∀w,Fn prog 189 [ii (IntKind.i64.wrap (-9223372036854775808-1)),ii 1024] w (dp (.bool false) w):=λw=>by
  have:=Gl (W:=w) (IntKind.i64.wrap (-9223372036854775808-1)) 1024;rwa[Z]at this
 have v:=λw=>Gl (W:=w) (n-1) 1024;rcases h with rfl|⟨h,rfl⟩
 ·skip;have S:=St.start W;refine zI func134 ?_;refine zN ?_;intro y O D S;refine zC (L _) ?_;intro U I S;exact zZ
 ·cases J:fL (n-1) 1024
  ·rw[J]at v;have S:=St.start W;refine zI func134 ?_;refine zN ?_;intro y O D S;refine zC (v _) ?_;intro U I S;exact zZ
  ·rw[J]at v;have S:=St.start W;refine zI func134 ?_;refine zN ?_;intro y O D S;refine zC (v _) ?_;intro U I S;refine zg ?_;refine dr rfl ?_;refine z ?_;refine dr rfl ?_;refine zC (L _) ?_;intro aa V S;refine dr rfl ?_;exact zZ
theorem Rm(n m:Int)(J:-9223372036854775808<=n/\n<=9223372036854775807)(I:-9223372036854775808<=m/\m<=9223372036854775807)(D:¬((1<=n/\n<=1024)/\1<=m/\m<=1024)):Fn prog 66 [ii n,ii m,ii 0] W (dp (.tuple #[.pointer none,ii 3]) W):=by
 have v:∀w,Fn prog 134 [.agg #[ii 0,ii 0,ii 0,ii 0],ii n,ii m] w (dp (ii 3) w):=λw=>by
  by_cases h1:n=-9223372036854775808
  ·exact wu 0 0 0 0 n m J I (.inl h1)
  ·by_cases h2:m=-9223372036854775808
   ·exact wu 0 0 0 0 n m J I (.inr ⟨h1,h2⟩)
   ·have:=jW 0 0 0 0 n m om om w
    have e:dF 0 0 0 0 n m=3:=by
     unfold dF fL;rw[a7];simp;omega
    rwa[e]at this
 have S:=St.start W;refine zI func66 ?_;iterate 6 refine z ?_
 refine dU (kL (pl:=[(0,1),(1,1),(2,1),(3,1)]) dL gE (λw=>by kernel_rfl) rfl rfl) ?_;refine kq (jV gE rfl) S ?_;intro y U L S;refine zS ?_;intro V S;refine zC (v _) ?_;intro Z O S;exact zZ
theorem Lb(D:-9223372036854775808<=o.n/\o.n<=9223372036854775807)(z:-9223372036854775808<=o.m/\o.m<=9223372036854775807)(v:¬((1<=o.n/\o.n<=1024)/\1<=o.m/\o.m<=1024)):Fn prog 65 [o.v] W (dp (.tuple #[.pointer none,ii 3]) W):=by
 obtain⟨ok,O,V,U,Z,ax,ay,bx,I,n,m,vs,bs,bd⟩:=o;dsimp only at D z v;have S:=St.start W;refine zI func65 ?_;refine zN ?_;intro y aa J S;refine zC (Rm (W:=_) n m D z v) ?_;intro ab L S;exact zZ
theorem Lc(y:vB (dw gw gh cc))(hf:∀w,Fn prog f [o.v] w (qw (λv=>.tuple #[v,ii 0]) gw gh cc w))(S:St F W w (.blk sb 73 [.pointer g0,.pointer l0,.pointer o0,ii st0,.pointer p0]::T)) :
  Fn prog (412) [iT false f kb,pt sb,o.v] w (λv w'=>∃s':lT,v=gZ.fine.v/\(s'.ok/\s'.sb=sb/\s'.gw=gw/\s'.gh=gh/\s'.ov=none/\s'.V=dw gw gh cc/\s'.l=[]/\s'.done=0/\s'.stamp=0)/\St F W w' (s'.L++T)):=by
 obtain⟨ok,ac,ae,ad,ag,ax,ay,bx,Z,n,m,vs,bs,bd⟩:=o;unfold iT;refine zI func412 ?_;refine zN ?_;intro O ah aa S;refine zN ?_;intro U ai ab S;refine zg ?_;refine ju rfl rfl (hf _) ?_;rintro _ aj ⟨q,A2,cap2,bs2,Rs2,rfl,J,L,I⟩;have S:=S.pushGrid J L I;refine zK (DF y (S.grid (i:=0) rfl)) ?_;rintro _ ak ⟨lb,tb,A1,c1,pb,lA,lc,As,cs,rfl,D⟩;have S:=(S.app D);refine zK (yt) ?_;rintro _ al ⟨pp,rfl,D⟩;have S:=S.app D;refine dU (kL (pl:=[(0,1),(1,1),(2,1),(3,1),(4,1)]) Zz ZC (λw=>by kernel_rfl) rfl rfl) ?_;refine z ?_;refine Z1 10 S ?_;intro am S;refine z ?_;refine dU (kL (pl:=[(0,1),(1,1),(2,1),(3,2),(5,1),(6,1),(7,1),(8,1),(9,1)]) jw pI (λw=>by kernel_rfl) rfl rfl) ?_;refine Z1 8 S ?_;intro an S;refine zq ?_;have V:=((S.pushNil 253 6).pts0).pick 13 [10,11,12,9,3,4,5,6,7,8,2,1,0] rfl rfl rfl;exact rA S ⟨⟨sb,q,cap2,pp,lb,tb,pb,gw,gh,0,A2,A1,lA,none,none,c1,lc,0,bs2,Rs2,cc,As,cs,[],0⟩,rfl,⟨⟨y,fK _,λx hx=>by cases hx⟩,rfl,rfl,rfl,rfl,rfl,rfl,rfl,rfl⟩,V.drop 2⟩
theorem Jx(he:e0≠0)(O:∀w,Fn prog f [o.v] w (dp (.tuple #[.pointer none,ii e0]) w))(S:St F W w (.blk sb 73 [.pointer g0,.pointer l0,.pointer o0,ii st0,.pointer p0]::T)) :
  Fn prog (412) [iT false f kb,pt sb,o.v] w (λv w'=>v=({ code:=e0 }:gZ).v/\St F W w' (.blk sb 73 [.pointer g0,.pointer l0,.pointer o0,ii st0,.pointer p0]::T)):=by
 obtain⟨ok,U,Z,V,aa,ax,ay,bx,I,n,m,vs,bs,bd⟩:=o;unfold iT;refine zI func412 ?_;refine zN ?_;intro z ab J S;refine zN ?_;intro D ac L S;refine zg ?_;refine ju rfl rfl (O _) ?_;rintro _ ad ⟨rfl,y⟩;have S:=S.gr y;refine zS ?_;intro ae S;exact rA S ⟨rfl,S.drop 2⟩
theorem NK(y:xz o.k 141 false f)(z:vB (dw gw gh cc))(D:∀w,Fn prog f [o.v] w (qw (λv=>.tuple #[v,ii 0]) gw gh cc w))(S:St F W w (.blk sb 73 [.pointer g0,.pointer l0,.pointer o0,ii st0,.pointer p0]::T)) :
  Fn prog 9 [pt sb,o.v] w (λv w'=>∃s':lT,v=gZ.fine.v/\(s'.ok/\s'.sb=sb/\s'.gw=gw/\s'.gh=gh/\s'.ov=none/\s'.V=dw gw gh cc/\s'.l=[]/\s'.done=0/\s'.stamp=0)/\St F W w' (s'.L++T)):=by
 have hd:=Gi (F:=F) (W:=W) (w:=w) (L0:=[]) (tl:=T) (α:={ s':lT//s'.ok/\s'.sb=sb/\s'.gw=gw/\s'.gh=gh/\s'.ov=none/\s'.V=dw gw gh cc/\s'.l=[]/\s'.done=0/\s'.stamp=0 }) (V:=λ_=>gZ.fine) (Lx:=λx=>x.1.L) (o:=o) (t:=141) (f:=f) (sb:=sb) (lp:=l0) (op:=o0) (pp:=p0) (gp:=g0) (stamp:=st0) (fdo:=412)
  true false (λh=>by cases h) y (by kernel_rfl) (by kernel_rfl) (by kernel_rfl) aaj rfl
  (λkb I w' S=>(Lc z D S).mono λv J⟨s',hv,hi,S'⟩=>⟨⟨s',hi⟩,hv,S'⟩) S
 exact hd.mono λv w'⟨x,hv,S'⟩=>⟨x.1,hv,x.2,S'⟩
theorem Jy(D:e0≠0)(y:xz o.k 141 false f)(I:∀w,Fn prog f [o.v] w (dp (.tuple #[.pointer none,ii e0]) w))(S:St F W w (.blk sb 73 [.pointer g0,.pointer l0,.pointer o0,ii st0,.pointer p0]::T)) :
  Fn prog 9 [pt sb,o.v] w (λv w'=>v=({ code:=e0 }:gZ).v/\St F W w' (.blk sb 73 [.pointer g0,.pointer l0,.pointer o0,ii st0,.pointer p0]::T)):=by
 have hd:=Gi (F:=F) (W:=W) (w:=w) (L0:=[]) (tl:=T) (α:=Unit) (V:=λ_=>{ code:=e0 }) (Lx:=λx=>[.blk sb 73 [.pointer g0,.pointer l0,.pointer o0,ii st0,.pointer p0]]) (o:=o) (t:=141) (f:=f) (sb:=sb) (lp:=l0) (op:=o0) (pp:=p0) (gp:=g0) (stamp:=st0) (fdo:=412)
  true false (λh=>by cases h) y (by kernel_rfl) (by kernel_rfl) (by kernel_rfl) aaj rfl
  (λkb J w' S=>(Jx D I S).mono λv L⟨z,S'⟩=>⟨(),z,S'⟩) S
 exact hd.mono λv w'⟨x,z,S'⟩=>⟨z,S'⟩
end
theorem Ox{ps:String}(z:P.underlying t=some (.interface want))(D:ev e x=.nilIface):iE P e ⟨d,.binOp .eql t x (.const .nilIface) t',ty,ps,af,none⟩ (.bool true):=by
 intro w;have h2:ev e (.const .nilIface)=.nilIface:=rfl
 have v:∀n:Nat,(Op.equalIn (n+1) t .nilIface .nilIface).run P w=.ok true w:=λn=>by
  unfold Op.equalIn;simp[dS z]
 have y:(Op.equal t .nilIface .nilIface).run P w=.ok true w:=v 9999;simp[gd,execOp,D,h2,eqGuard,binOp,y]
section
variable{st:Int}{k:Int}
theorem Sq(v:k<1\/27<k):Fn prog 22 [ii k] W (dp .nilIface W):=by
 have S:=St.start W;rcases v with v|v
 all_goals
  refine zI func22 ?_;exact zZ
theorem U2(O:o.k<1\/27<o.k):Fn prog 9 [pt sb,o.v] W (dp ({ code:=11 }:gZ).v W):=by
 have v:=λw=>Sq (W:=w) O;obtain⟨ok,U,Z,V,aa,ax,ay,bx,D,n,m,vs,bs,bd⟩:=o;dsimp only at *;have S:=St.start W;refine zI func9 ?_;refine zN ?_;intro y ab I S;refine zN ?_;intro z ac J S;refine zC (v _) ?_;intro ad L S;refine zg ?_;refine dU (Ox k9 rfl) ?_;refine zS ?_;intro ae S;exact rA S ⟨rfl,S.out⟩
theorem sD(c:Bool)(hof:xz o.k t c f)(hI1:(prog.info? t).map (λi=>(Ae #[("hachure/store.bare",1),("hachure/store.do",78)] i.methods).isEmpty)=some false)(hSb:eL W sb 73 [.pointer none,.pointer l0,.pointer o0,ii st,.pointer p0]) :
  Fn prog 9 [pt sb,o.v] W (dp ({ code:=2 }:gZ).v W):=by
 obtain⟨ok,ox0,oy0,ox1,oy1,ax,ay,bx,by',n,m,vs,bs,bd⟩:=o;dsimp only at *;have S:=St.start W;refine zI func9 ?_;refine zN ?_;intro b_op w2_ g2_ S;refine zN ?_;intro b_rp w4_ g4_ S;refine zK (hof _) ?_;rintro _ w5_ ⟨kb,rfl,S2⟩;have S:=S.app S2;refine zg ?_;refine dU (vO k9 rfl) ?_;refine zg ?_;refine dU (kF (b:=false) mh rfl hI1 mP) ?_;refine zS ?_;intro w6_ S;exact rA S ⟨rfl,S.out⟩
end
end Go.Proofs.YtcalhocphkbbgaaGreatDoor
