/- hachuretop.WholeLevels: a part of the proof that the law returns true at every input; no condition of its own. -/
import Derived.Test.YtjfeklflkikapaaGreatDoorKB
set_option maxRecDepth 100000
set_option maxHeartbeats 16000000
set_option linter.unusedVariables false
set_option linter.unusedSimpArgs false
namespace Go.Proofs.YtjfeklflkikapaaGreatDoor
open Go.Proofs.Tryz Go.RowKit
variable{Qq:(Nat->Value)->Prop}{Q:(Nat->Value)->World->Prop}{af:Array Edge}{fs:Array Field}{ops:Array Oper}{fd:Field}{f:FuncId}{a:Int}{kc kl:IntKind}{hd:List Nat}{l l' xs ys:List Value}{b b' bytes c c2 cur el g i j k m n p q tb:Nat}{c':Nat->Int}{o':Nat->Nat}{F F' X:Nat->Prop}{e:Nat->Value}{op:Op}{hi x:Operand}{A B l0:Option Addr}{d:Option Tmp}{P:Program}{G G' G1:Prop}{dd:TypeDesc}{t t' te ty:TypeId}{u:Value}{W w w':World}{C:World->Prop}
def jF(A:Option Addr)(n:Nat):Option Addr:=A.map λa=>⟨a.block,a.off+n,a.spot⟩
def dO(A:Option Addr):Prop:=∃b o,A=some ⟨b,o,none⟩
theorem pS(b o:Nat):dO (some ⟨b,o,none⟩):=⟨b,o,rfl⟩
theorem yW(b o n:Nat):jF (some ⟨b,o,none⟩) n=some ⟨b,o+n,none⟩:=rfl
def jv(A:Option Addr)(g:Nat):Prop:=A.map (·.block)=some g
theorem B0{o:Nat}{s:Option Nat}(h:jv (some ⟨g,o,s⟩) b):g=b:=by injection h
theorem Rd.someA(h:Rd w A xs)(v:0<xs.length):dO A:=by
 rcases h with rfl|⟨b,o,rfl,_⟩
 ·simp at v
 ·exact⟨b,o,rfl⟩
theorem Rd.cell{o:Nat}(h:Rd w A xs)(D:A=some ⟨b,o,none⟩){v:Value}(z:xs[j]?=some v):w.cell? ⟨b,o+j,none⟩=some v:=by
 rcases h with rfl|⟨b',o',y,_,I⟩
 ·cases z
 ·simp_all
def gH(w:World)(el k:Nat)(A:Option Addr)(n c:Nat)(xs:List Value):Prop:=w.ownsRow 0 el k (.slice A n c) n xs
theorem gH.len(h:gH w el k A n c xs):xs.length=n*k:=h.1
theorem gH.nil(w:World)(el k:Nat):gH w el k none 0 0 []:=World.ownsRow_nil _ _ _ _
theorem gH.form(h:gH w el k A n c xs):(A=none/\n=0/\c=0/\xs=[])\/∃g l,A=some ⟨g,0,none⟩/\eL w g el l/\n<=c/\l.length=c*k/\l.take (n*k)=xs/\c<=maxLen:=by
 obtain⟨L,h⟩:=h;rcases h with⟨z,h2⟩|⟨g,cap,cur,z,_,D,v,I,y,J⟩
 ·simp_all
 ·injection z with h3 h4 h5;subst h3;subst h5;exact .inr ⟨g,cur.toList,rfl,by unfold eL;simpa using D,v,by simpa using y,J,I⟩
theorem gH.mk_(D:eL w g el l)(y:n<=c)(v:l.length=c*k)(z:l.take (n*k)=xs)(I:c<=maxLen):gH w el k (some ⟨g,0,none⟩) n c xs:=by
 refine⟨?_,.inr ⟨g,c,l.toArray,rfl,ib _,D,y,I,by simpa using v,by simpa using z⟩⟩;rw[<-z,d7,v,io (cI _ y)]
theorem gH.keep(h:gH w el k A n c xs)(y:∀g,jv A g->w'.heap[g]?=w.heap[g]?):gH w' el k A n c xs:=by
 rcases h.form with⟨rfl,rfl,rfl,rfl⟩|⟨g,l,rfl,v,I,z,J,D⟩
 ·exact gH.nil _ _ _
 ·exact gH.mk_ (v.keep (y g rfl)) I z J D
theorem gH.lt(h:gH w el k A n c xs)(v:jv A g):g<w.heap.size:=by
 rcases h.form with⟨rfl,_⟩|⟨y,l,rfl,z,_⟩
 ·cases v
 ·have v:y=g:=by injection v
  subst v;exact z.lt
theorem gH.rd(h:gH w el k A n c xs):Rd w A xs:=by
 rcases h.form with⟨rfl,rfl,rfl,rfl⟩|⟨g,l,rfl,y,J,D,L,I⟩
 ·exact .inl rfl
 ·refine .inr ⟨g,0,rfl,y.lt,λj v z=>?_⟩;refine y.cellv ?_;grind
theorem gH.gr(h:gH w el k A n c xs)(g:Gr w w'):gH w' el k A n c xs:=h.keep λb v=>g.block b (h.lt v)
theorem gH.someA(h:gH w el k A n c xs)(v:0<n):dO A:=by
 rcases h.form with⟨_,rfl,_⟩|⟨g,l,rfl,_⟩
 ·omega
 ·exact⟨g,0,rfl⟩
theorem gH.cap(h:gH w el k A n c xs):n<=c:=by
 rcases h.form with⟨_,rfl,rfl,_⟩|⟨g,l,rfl,_,v,_⟩
 ·omega
 ·exact v
theorem gH.congr(h:gH w el k A n c xs)(e:xs=ys):gH w el k A n c ys:=e▸h
theorem gH.take(h:gH w el k A n c xs)(D:m<=n):gH w el k A m c (xs.take (m*k)):=by
 rcases h.form with⟨rfl,rfl,rfl,rfl⟩|⟨g,l,rfl,y,J,z,I,v⟩
 ·simp_all
 ·refine gH.mk_ y om z ?_ v;rw[<-I,nt,io (cI _ D)]
theorem gH.of_blk(y:eL w g el l)(v:l.length=n*k)(z:n<=maxLen):gH w el k (some ⟨g,0,none⟩) n n l :=
 gH.mk_ y om v (by rw[<-v];exact i6) z
theorem gH.one{el:TypeId}{v:Value}(h:gH w el 1 A 1 1 [v]):∃g,A=some ⟨g,0,none⟩/\eL w g el [v]:=by
 rcases h.form with⟨_,h,_⟩|⟨g,l,rfl,y,_,z,D,_⟩
 ·cases h
 ·grind
structure HA where
 own:Nat->Prop
 ok:World->Prop
 st:∀w w':World,(∀g,own g->w'.heap[g]?=w.heap[g]?)->w.heap.size<=w'.heap.size->ok w->ok w'
 lt:∀w:World,ok w->∀g,own g->g<w.heap.size
variable{h h':HA}{L':List HA}
def HA.blk(b t:Nat)(l:List Value):HA:=⟨λg=>g=b,λw=>eL w b t l,λ_ _ h _ hB=>hB.keep (h b rfl),λ_ hB g hg=>hg▸hB.lt⟩
def HA.row(el k:Nat)(A:Option Addr)(n c:Nat)(xs:List Value):HA:=⟨jv A,λw=>gH w el k A n c xs,λ_ _ h _ hR=>hR.keep h,λ_ hR _ hg=>hR.lt hg⟩
def iC(X:Nat->Prop)(w:World):List HA->Prop
 |[]=>True
 |h::r=>(h.ok w/\∀g,h.own g->X g)/\(∀g,h.own g->∀h'∈r,¬h'.own g)/\iC X w r
structure St(F:Nat->Prop)(W w:World)(L:List HA):Prop where
 fr:Fr F W w
 sep:iC (λg=>F g\/W.heap.size<=g) w L
def No:Nat->Prop:=λ_=>False
def gi:List HA->Nat->Option HA
 |[],_=>none
 |h::_,0=>some h
 |_::r,i+1=>gi r i
def j7:List HA->Nat->HA->Option (List HA)
 |[],_,_=>none
 |_::r,0,x=>some (x::r)
 |a::r,i+1,x=>match j7 r i x with
  |some s=>some (a::s)
  |none=>none
section
variable{L:List HA}
theorem iC.get:∀{L:List HA}{i:Nat}{h:HA},iC X w L->gi L i=some h->h.ok w/\∀g,h.own g->X g
 |[],_,_,_,hi=>by cases hi
 |a::r,0,h,S,hi=>by injection hi with hi;subst hi;exact S.1
 |a::r,i+1,h,S,hi=>iC.get (L:=r) S.2.2 hi
theorem Dh:∀{L:List HA}{i:Nat}{h:HA},gi L i=some h->h∈L
 |[],_,_,hi=>by cases hi
 |a::r,0,h,hi=>by injection hi with hi;subst hi;simp
 |a::r,i+1,h,hi=>cW _ (Dh (L:=r) hi)
theorem iC.fr_:∀{L:List HA}{F:Nat->Prop},iC X w L->Fr F w w'->(∀g,F g->g<w.heap.size->∀h∈L,¬h.own g)->(∀h∈L,h.ok w')/\iC X w' L
 |[],_,_,_,_=>⟨λh v=>(by cases v),trivial⟩
 |a::r,F,S,k,hF=>by
  have h1:a.ok w':=a.st w w' (λg z=>k.block g (a.lt w S.1.1 g z) (λy=>hF g y (a.lt w S.1.1 g z) a (by simp) z)) k.size S.1.1
  have h2:=iC.fr_ S.2.2 k (λg y D h v=>hF g y D h (cW _ v));exact⟨λh v=>(dy.1 v).elim (λe=>e▸h1) (h2.1 h),⟨h1,S.1.2⟩,S.2.1,h2.2⟩
theorem iC.gr(S:iC X w L)(k:Gr w w'):iC X w' L:=(S.fr_ (F:=λ_=>False) (Fr.of_gr k) (λ_ h=>h.elim)).2
theorem iC.set:∀{L L':List HA}{i:Nat}{h h':HA}{F:Nat->Prop},iC X w L->gi L i=some h->j7 L i h'=some L'->Fr F w w'->(∀g,F g->h.own g\/w.heap.size<=g)->h'.ok w' ->
  (∀g,h'.own g->h.own g\/w.heap.size<=g)->(∀g,w.heap.size<=g->X g)->iC X w' L'/\(∀h1∈L',h1=h'\/h1∈L)
 |[],_,_,_,_,_,_,hi,_,_,_,_,_,_=>by cases hi
 |a::r,L',0,h,h',F,S,hi,hs,k,hF,ok,ho,hX=>by
  injection hi with hi
  subst hi
  injection hs with hs
  subst hs
  have h2:=iC.fr_ S.2.2 k (λg I V h y=>(hF g I).elim (λe=>S.2.1 g e h y) (λe=>by omega))
  refine⟨⟨⟨ok,λg v=>(ho g v).elim (S.1.2 g) (hX g)⟩,λg v h1 y z=>?_,h2.2⟩,λh1 y=>(dy.1 y).imp id (cW _)⟩
  have J:∃i,gi r i=some h1:=by
   clear h2 S;induction r with
   |nil=>cases y
   |cons b r ih=>exact(dy.1 y).elim (λe=>⟨0,by rw[e];rfl⟩) (λe=>(ih e).elim λi hi=>⟨i+1,hi⟩)
  obtain⟨i,hi⟩:=J;exact(ho g v).elim (λe=>S.2.1 g e h1 y z) (λe=>by have:=h1.lt w (iC.get S.2.2 hi).1 g z;omega)
 |a::r,L',i+1,h,h',F,S,hi,hs,k,hF,ok,ho,hX=>by
  have hi:gi r i=some h:=hi;simp only[j7]at hs;split at hs
  ·rename_i s O;injection hs with hs;subst hs;have ih:=iC.set S.2.2 hi O k hF ok ho hX;have U:=Dh hi;refine⟨⟨⟨(a.st w w' (λg v=>k.block g (a.lt w S.1.1 g v) (λI=>(hF g I).elim (λe=>S.2.1 g v h U e) (λe=>by have:=a.lt w S.1.1 g v;omega))) k.size S.1.1),S.1.2⟩,λg v h2 y D=>?_,ih.1⟩,λh2 y=>(dy.1 y).elim (λe=>.inr (e▸eB)) (λe=>(ih.2 h2 e).imp id (cW _))⟩;rcases ih.2 h2 y with rfl|e
   ·exact(ho g D).elim (S.2.1 g v h U) (λe=>by have:=a.lt w S.1.1 g v;omega)
   ·exact S.2.1 g v h2 e D
  ·cases hs
theorem St.start(W:World):St No W W []:=⟨Fr.refl _ _,trivial⟩
theorem St.start1(W:World)(h:HA)(ok:h.ok W):St h.own W W [h]:=⟨Fr.refl _ _,⟨ok,λ_=>.inl⟩,(λ_ _ _ v=>by cases v),trivial⟩
theorem St.gr(S:St F W w L)(k:Gr w w'):St F W w' L:=⟨S.fr.then_gr k,S.sep.gr k⟩
theorem St.out(S:St No W w L):Gr W w:=S.fr.gr (λ_ h=>h.elim)
theorem St.le(S:St F W w L):W.heap.size<=w.heap.size:=S.fr.size
theorem St.ok(S:St F W w L)(hi:gi L i=some h):h.ok w:=(S.sep.get hi).1
theorem St.blk(S:St F W w L){t:Nat}(hi:gi L i=some (.blk b t l)):eL w b t l:=S.ok hi
theorem St.row(S:St F W w L)(hi:gi L i=some (.row el k A n c xs)):gH w el k A n c xs:=S.ok hi
theorem St.rd(S:St F W w L)(hi:gi L i=some (.row el k A n c xs)):Rd w A xs:=(S.row hi).rd
theorem St.push(S:St F W w L)(k:Gr w w')(ok:h.ok w')(D:∀g,h.own g->w.heap.size<=g):St F W w' (h::L):=by
 have I:=S.sep.gr k;refine⟨S.fr.then_gr k,⟨ok,λg y=>.inr (dE S.le (D g y))⟩,λg y h1 v J=>?_,I⟩;have:=D g y
 have z:∀{L:List HA},iC (λg=>F g\/W.heap.size<=g) w L->h1∈L->h1.ok w:=by
  intro L;induction L with
  |nil=>intro _ v;cases v
  |cons b r ih=>intro S v;exact(dy.1 v).elim (λe=>e▸S.1.1) (ih S.2.2)
 have:=h1.lt w (z S.sep v) g J;omega
theorem St.push2(S:St F W w L){h1 h2:HA}(k:Gr w w')(v:h1.ok w')(J:h2.ok w')(D:∀g,h1.own g->w.heap.size<=g)(I:∀g,h2.own g->w.heap.size<=g)(hd:∀g,h1.own g->¬h2.own g):St F W w' (h1::h2::L):=by
 have y:=S.push k v D;refine⟨y.fr,⟨v,y.sep.1.2⟩,λg O h z=>?_,(S.push k J I).sep⟩;rcases dy.1 z with rfl|z
 ·simp_all
 ·exact y.sep.2.1 g O h z
theorem St.set(S:St F W w L)(hi:gi L i=some h)(J:j7 L i h'=some L')(k:Fr F' w w')(y:∀g,F' g->h.own g\/w.heap.size<=g)(ok:h'.ok w')(I:∀g,h'.own g->h.own g\/w.heap.size<=g):St F W w' L' :=
 ⟨⟨k.os.trans S.fr.os,k.tape.trans S.fr.tape,k.output.trans S.fr.output,dE S.le k.size,λg v z=>by
  refine(k.block g (fg v S.le) (λD=>?_)).trans (S.fr.block g v z);rcases y g D with e|e
  ·rcases (S.sep.get hi).2 g e with e|e
   ·exact z e
   ·omega
  ·have:=S.le;omega⟩,(S.sep.set hi J k y ok I (λg v=>.inr (dE S.le v))).1⟩
theorem St.setPush(S:St F W w L){h2:HA}(hi:gi L i=some h)(hs:j7 L i h'=some L')(k:Fr F' w w')(U:∀g,F' g->h.own g\/w.heap.size<=g)(ok:h'.ok w')(Z:∀g,h'.own g->h.own g\/w.heap.size<=g)(J:h2.ok w')(V:∀g,h2.own g->w.heap.size<=g)(hd:∀g,h2.own g->¬h'.own g):St F W w' (h2::L'):=by
 have O:=S.set hi hs k U ok Z;refine⟨O.fr,⟨J,λg v=>.inr (dE S.le (V g v))⟩,λg v h1 y D=>?_,O.sep⟩;rcases ((S.sep.set hi hs k U ok Z (λg v=>.inr (dE S.le v))).2) h1 y with rfl|z
 ·simp_all
 ·have I:∀{L:List HA},iC (λg=>F g\/W.heap.size<=g) w L->h1∈L->h1.ok w:=by
   intro L;induction L with
   |nil=>intro _ y;cases y
   |cons b r ih=>intro S y;exact(dy.1 y).elim (λe=>e▸S.1.1) (ih S.2.2)
  have:=h1.lt w (I S.sep z) g D;have:=V g v;omega
theorem St.swap{a b:HA}(S:St F W w (a::b::L)):St F W w (b::a::L) :=
 ⟨S.fr,S.sep.2.2.1,λg v h y=>(dy.1 y).elim (λe=>by subst e;exact λz=>S.sep.2.1 g z b (by simp) v) (S.sep.2.2.2.1 g v h),S.sep.1,λg v h y=>S.sep.2.1 g v h (cW _ y),S.sep.2.2.2.2⟩
theorem iC.old(S:St No W w L)(h:iC (λg=>No g\/W.heap.size<=g) w L):iC (λg=>F g\/W.heap.size<=g) w L/\∀h1∈L,∀g,h1.own g->W.heap.size<=g:=by
 clear S;induction L with
 |nil=>exact⟨trivial,λ_ y=>by cases y⟩
 |cons a r ih =>
  have ih:=ih h.2.2;have z:=λg v=>(h.1.2 g v).elim (λe=>e.elim) id;exact⟨⟨⟨h.1.1,λg v=>.inr (z g v)⟩,h.2.1,ih.1⟩,λh1 y=>(dy.1 y).elim (λe=>e▸z) (ih.2 h1)⟩
theorem St.own1(S:St No W w L)(h1:HA)(v:h1.ok W):St h1.own W w (h1::L):=by
 have z:=iC.old (F:=h1.own) S S.sep;refine⟨Fr.of_gr S.out,⟨h1.st W w (λg y=>S.out.block g (h1.lt W v g y)) S.le v,λg y=>.inl y⟩,λg y h D I=>?_,z.1⟩;have:=z.2 h D g I;have:=h1.lt W v g y;omega
theorem St.own2(S:St No W w L)(h1 h2:HA)(z:h1.ok W)(y:h2.ok W)(hd:∀g,h1.own g->¬h2.own g):St (λg=>h1.own g\/h2.own g) W w (h1::h2::L):=by
 have D:=iC.old (F:=λg=>h1.own g\/h2.own g) S S.sep
 have J:∀h:HA,h.ok W->∀g,h.own g->∀h'∈L,¬h'.own g:=λh ok g v h' I O=>by
  have:=D.2 h' I g O;have:=h.lt W ok g v;omega
 refine⟨Fr.of_gr S.out,⟨h1.st W w (λg v=>S.out.block g (h1.lt W z g v)) S.le z,λg v=>.inl (.inl v)⟩,λg v h I=>?_,⟨h2.st W w (λg v=>S.out.block g (h2.lt W y g v)) S.le y,λg v=>.inl (.inr v)⟩,J h2 y,D.1⟩;grind
theorem St.as_(S:St F W w L)(hi:gi L i=some h)(z:j7 L i h'=some L')(ok:h.ok w->h'.ok w)(y:∀g,h'.own g->h.own g):St F W w L' :=
 S.set hi z (Fr.refl No w) (λ_ h=>h.elim) (ok (S.ok hi)) (λg v=>.inl (y g v))
theorem St.drop(S:St F W w L)(n:Nat):St F W w (L.drop n):=by
 refine⟨S.fr,?_⟩;have h:=S.sep;clear S;induction n generalizing L with
 |zero=>simpa using h
 |succ n ih=>cases L with
  |nil=>trivial
  |cons a r=>exact ih h.2.2
theorem St.only(S:St F W w L)(hi:gi L i=some h):St F W w [h]:=⟨S.fr,S.sep.get hi,(λ_ _ _ v=>by cases v),trivial⟩
theorem iC.mem(S:iC X w L)(v:h∈L):h.ok w/\∀g,h.own g->X g:=by
 induction L with
 |nil=>cases v
 |cons b r ih=>exact(dy.1 v).elim (λe=>e▸S.1) (ih S.2.2)
theorem St.frw(S:St F W w L)(v:∀g,F g->F' g):St F' W w L:=by
 refine⟨S.fr.weak v,?_⟩;have h:=S.sep;clear S;induction L with
 |nil=>trivial
 |cons a r ih=>exact⟨⟨h.1.1,λg y=>(h.1.2 g y).imp (v g) id⟩,h.2.1,ih h.2.2⟩
end
section
variable{rest:List Oper}{L:List HA}
variable{ps:String}
theorem yY{v:Value}(h:(execOp (ev e) ⟨d,op,ty,ps,af,none⟩).run P w=.ok (.value v) (w.alloc (.cells l.toArray t)))(S:St F W w L)(z:∀w',Gr w w'->St F W w' (.blk w.heap.size t l::L)->RW P ops Q rest (fI e d v) w'):RW P ops Q (⟨d,op,ty,ps,af,none⟩::rest) e w :=
 wZ h (z _ (Gr.alloc _ _) (S.push (Gr.alloc _ _) (eL.new _ _ _) (λg y=>uN y.symm)))
theorem kq(h:(execOp (ev e) ⟨d,op,ty,ps,af,none⟩).run P w=.ok (.value (.pointer (some ⟨w.heap.size,0,none⟩))) (w.alloc (.cells l.toArray t)))(S:St F W w L)(y:∀b w',Gr w w'->St F W w' (.blk b t l::L)->RW P ops Q rest (fI e d (.pointer (some ⟨b,0,none⟩))) w'):RW P ops Q (⟨d,op,ty,ps,af,none⟩::rest) e w :=
 yY h S (λw' g v=>y _ w' g v)
theorem St.setBlk(S:St F W w L){t:Nat}(hi:gi L i=some (.blk b t l))(z:j7 L i (.blk b t l')=some L')(y:w.grownBy w' (some b))(v:eL w' b t l'):St F W w' L' :=
 S.set hi z (Fr.of_grown y (λg e=>by injection e with e;exact e.symm)) (λg e=>.inl e) v (λg e=>.inl e)
theorem iy{tb:TypeId}{y:Operand}{o:Nat}{v:Value}(S:St F W w L)(hi:gi L i=some (.blk b tb l))(hz:(sizeOf t).run P w=.ok 1 w)(Z:ev e x=.pointer (some ⟨b,o,none⟩))(hy:fz (ev e y)=some v)(V:v.oneCell'=true)(z:v.cells=#[v])(J:l[o]?=some u)(U:j7 L i (.blk b tb (l.set o v))=some L')(O:∀w',St F W w' L'->RW P ops Q rest (fI e d undef) w'):RW P ops Q (⟨d,.store t x y,ty,ps,af,none⟩::rest) e w :=
 Hv hz Z hy V z (S.blk hi) J λw' I _ D=>O w' (S.setBlk hi U I D)
theorem d8{tb:TypeId}{y:Operand}{o:Nat}{cs:List Value}(S:St F W w L)(hi:gi L i=some (.blk b tb l))(hz:(sizeOf t).run P w=.ok n w)(Z:ev e x=.pointer (some ⟨b,o,none⟩))(hy:ev e y=.agg cs.toArray)(J:cs.length=n)(z:lj (l.take o++cs++l.drop (o+n))=some l')(O:((cs.all λv=>v.oneCell')&&Nat.ble (o+n) l.length)=true)(V:j7 L i (.blk b tb l')=some L')(U:∀w',St F W w' L'->RW P ops Q rest (fI e d undef) w'):RW P ops Q (⟨d,.store t x y,ty,ps,af,none⟩::rest) e w :=
 Bq hz Z hy J (S.blk hi) z O λw' I _ D=>U w' (S.setBlk hi V I D)
theorem sj{el:TypeId}{i:Operand}{len cap:Nat}{kd:IntKind}{n:Int}(z:P.underlying t=some (.slice el))(I:∀w,(sizeOf el).run P w=.ok k w)(D:ev e x=.slice A len cap)(hi:ev e i=.int kd n)(y:dO A)(v:0<=n)(h1:n<len) :
  iE P e ⟨d,.indexAddr t x i,ty,ps,af,none⟩ (.pointer (jF A (n.toNat * k))):=by
 obtain⟨b,o,rfl⟩:=y;exact vo z I D hi v h1
theorem Pb{f:Nat}(D:P.underlying t=some (.struct fs))(y:fs[f]?=some fd)(J:∀w,(sizeOf fd.type).run P w=.ok n w)(z:Nat.beq n 0=false)(I:ev e x=.pointer (jF A m))(v:dO A) :
  iE P e ⟨d,.fieldAddr t x f,ty,ps,af,none⟩ (.pointer (jF A (m+fd.offset))):=by
 obtain⟨b,o,rfl⟩:=v;have:=du (d:=d) (ty:=ty) (ps:=ps) (af:=af) D y J z I;rwa[mI]at this
theorem Pc(y:ev e x=.pointer (jF A m))(v:dO A):iE P e ⟨d,.nilCheck x,ty,ps,af,none⟩ (.pointer (jF A m)):=by
 obtain⟨b,o,rfl⟩:=v;refine cH ?_;simp only[n7,y,yW]
theorem eI{v:Value}(D:P.underlying t=some dd)(hd:sM dd=false)(I:ev e x=.pointer (jF A m))(y:Rd w A xs)(z:xs[m]?=some v):gd P e ⟨d,.load t x,ty,ps,af,none⟩ w v:=by
 obtain⟨b,o,rfl⟩:=y.someA (by have:=(dq.1 z).1;omega);exact xE D hd I (y.cell rfl z)
theorem fb{cs:List Value}(L:P.underlying t=some dd)(hd:sM dd=true)(S:(sizeOf t).run P w=.ok n w)(O:ev e x=.pointer (jF A m))(y:Rd w A xs)(V:(xs.drop m).take n=cs)(I:cs.length=n)(z:Nat.blt 0 n=true) :
  gd P e ⟨d,.load t x,ty,ps,af,none⟩ w (.agg cs.toArray):=by
 have J:=eC z
 have D:0<xs.length:=by
  grind
 obtain⟨b,o,rfl⟩:=y.someA D;refine Dd L hd S O I λj v U=>?_;rw[mI];refine y.cell rfl ?_;grind
theorem jk{y:Operand}{v:Value}(S:St F W w L)(hi:gi L i=some (.row el k A n c xs))(hz:(sizeOf t).run P w=.ok 1 w)(hx:ev e x=.pointer (jF A j))(hy:fz (ev e y)=some v)(hv:v.oneCell'=true)(D:v.cells=#[v])(hj:j<xs.length)(hs:j7 L i (.row el k A n c (xs.set j v))=some L')(hr:∀w',St F W w' L'->RW P ops Q rest (fI e d undef) w'):RW P ops Q (⟨d,.store t x y,ty,ps,af,none⟩::rest) e w:=by
 have J:=S.row hi;rcases J.form with⟨rfl,rfl,rfl,rfl⟩|⟨g,l,rfl,Z,V,O,ht,hm⟩
 ·simp at hj
 ·have U:=J.len;have aa:n*k<=l.length:=by rw[O];exact cI _ V
  have I:ev e x=.pointer (some ⟨g,j,none⟩):=by rw[hx,yW,eH]
  refine Hv hz I hy hv D Z (ct om) λw' hg _ z=>hr w' ?_
  refine S.set hi hs (Fr.of_grown (F:=λb=>b=g) hg (λb e=>by injection e with e;exact e.symm)) (λb e=>.inl (by rw[e];rfl)) (gH.mk_ z V (by simpa using O) ?_ hm) (λb e=>.inl e);rw[qR,ht]
theorem tF{y:Operand}{s:Nat}{cs:List Value}(S:St F W w L)(hi:gi L i=some (.row el k A n c xs))(hz:(sizeOf t).run P w=.ok s w)(hx:ev e x=.pointer (jF A j))(hy:ev e y=.agg cs.toArray)(z:cs.length=s)(D:(cs.all λv=>v.oneCell')=true)(hj:j+s<=xs.length)(hs:j7 L i (.row el k A n c (xs.take j++cs++xs.drop (j+s)))=some L')(h0:Nat.blt 0 s=true)(hr:∀w',St F W w' L'->RW P ops Q rest (fI e d undef) w'):RW P ops Q (⟨d,.store t x y,ty,ps,af,none⟩::rest) e w:=by
 have V:=S.row hi;rcases V.form with⟨rfl,rfl,rfl,rfl⟩|⟨g,l,rfl,hB,hn,hl,ht,hm⟩
 ·simp_all
 ·have Z:=V.len;have ab:n*k<=l.length:=by rw[hl];exact cI _ hn
  obtain⟨w',O,J,aa,I⟩:=xt (P:=P) (o:=j) cs 0 w l hB (λu hu=>dh.1 D u hu) om;have h6:(Value.agg cs.toArray).cells=cs.toArray:=rfl;have U:ev e x=.pointer (some ⟨g,j,none⟩):=by rw[hx,yW,eH]
  refine O9 (w':=w') ?_ (hr w' ?_)
  ·simp[execOp,U,hy,Instr.storeAt,Instr.sureAddr,storeVar,hz,h6,z,O]
  ·refine S.set hi hs (Fr.of_grown (F:=λb=>b=g) J (λb e=>by injection e with e;exact e.symm)) (λb e=>.inl (by rw[e];rfl)) (gH.mk_ I hn ?_ ?_ hm) (λb e=>.inl e)
   ·simp;omega
   ·rw[eW,z,cL,jB,nt,ms om,jB,<-ht];rw[(fN (by simp;omega):(cs.take (n*k-(l.take j).length))=cs),(by simp;omega:n*k-(l.take j).length-cs.length=n*k-(j+s)),nt,io om,List.drop_take,<-cL]
theorem fM{s:Operand}{t:Nat}{z:Value}{f:HA->List HA}(S:St F W w L)(hi:gi L i=some (.row el k A n c xs))(hf:∀h,j7 L i h=some (f h))(V:P.underlying t=some (.slice el))(hI:(P.info? el).map (λi=>(i.zero,i.size,i.bytes))=some (some z,k,bytes))(hz:Nat.beq z.cells.size k=true)(hk:Nat.blt 0 k=true)(hs:ev e s=.slice A n c)(hx:ev e x=.slice B m c2)(hm:ys.length=m*k)(Z:0<m)(hR:Rd w B ys)(h1:(ys.all λv=>v.oneCell')=true)(hb:(n+m)*(bytes+1)<=140737488355328)(hr:∀D c' w',St F W w' (f (.row el k D (n+m) c' (xs++ys)))->dO D->RW P ops Q rest (fI e d (.slice D (n+m) c')) w') :
  RW P ops Q (⟨d,.call ⟨.builtin .append,#[s,x],#[t,t]⟩,ty,ps,af,none⟩::rest) e w:=by
 obtain⟨ae,I,ab,ac,ad⟩:=info_parts hI;have J:=eC hk;have aa:=eU hz;have ag:=dE (eS _ om) hb;obtain⟨b,o,rfl⟩:=hR.someA (by rw[hm];exact j5 Z J)
 obtain⟨v',w',U,ho,hg,_,O⟩:=run_append_own_at w 0 t ty el ae z k bytes V I ab ac ad aa J _ n xs (S.row hi) ⟨b,o,none⟩ m c2 ys hm
  (λj u V=>by rw[js];exact hR.cell rfl V) (λu V=>dh.1 h1 u V) (by unfold maxLen;omega) (dE (eZ _ om) hb) om
 obtain⟨D,c',rfl⟩:=wa.form ho;have y:gH w' el k D _ c' _:=ho;refine wZ (w':=w') ?_ (hr D c' w' ?_ (y.someA om))
 ·simp[execOp,resolve,invoke,builtin,hs,hx,U]
 ·refine S.set hi (hf _) (Fr.of_grown hg (λg e=>?_)) (λg e=>.inl e) y (λg e=>?_)
  ·cases A with
   |none=>cases e
   |some a=>exact e
  ·have e':(Value.slice D (n+m) c').ownBlock=some g:=by
    cases D with
    |none=>cases e
    |some a=>exact e
   rw[e']at O;rcases O with h|h
   ·left;cases A with
    |none=>cases h
    |some a=>exact h.symm
   ·simp_all
theorem Di{el:TypeId}{y:Operand}{z:Value}{m p:Int}(hu:P.underlying t=some (.slice el))(Z:(P.info? el).map (λi=>(i.zero,i.size,i.bytes))=some (some z,k,bytes))(V:Nat.beq z.cells.size k=true)(hx:ev e x=.int kl m)(hy:ev e y=.int kc p)(hm:m=(n:Nat))(hp:p=(c:Nat))(I:n<=c)(D:c*(bytes+1)<=140737488355328)(S:St F W w L)(hr:∀A w',Gr w w'->St F W w' (.row el k A n c (List.replicate n z.cells.toList).flatten::L)->dO A->RW P ops Q rest (fI e d (.slice A n c)) w') :
  RW P ops Q (⟨d,.makeSlice t x y,ty,ps,af,none⟩::rest) e w:=by
 have h:=Fe (w:=w) (d:=d) (ty:=ty) (ps:=ps) (af:=af) hu Z V hx hy hm hp I D;have O:=eU V;have aa:=dE (eS _ om) D;refine yY h S λw' g U=>hr _ w' g ?_ (pS _ _);have v:∀q:Nat,(List.replicate q z.cells.toList).flatten.length=q*k:=λq=>by simp[O]
 have J:gH w' el k (some ⟨w.heap.size,0,none⟩) n c (List.replicate n z.cells.toList).flatten:=by
  refine gH.mk_ (U.blk (i:=0) rfl) I (v c) ?_ (by unfold maxLen;omega);rw[(om:c=n+(c-n)),<-List.replicate_append_replicate,pw,List.take_left' (v n)]
 exact U.set (i:=0) rfl rfl (Fr.refl No w') (λ_ h=>h.elim) J (λb D=>.inl (by injection D with D;exact D.symm))
theorem nD{el:TypeId}{y:Operand}{z:Value}{m p:Int}(Z:P.underlying t=some (.slice el))(I:(P.info? el).map (λi=>(i.zero,i.size,i.bytes))=some (some z,1,bytes))(hz:z.cells=#[z])(hx:ev e x=.int kl m)(hy:ev e y=.int kc p)(O:m=(n:Nat))(U:p=(c:Nat))(v:n<=c)(J:c*(bytes+1)<=140737488355328)(S:St F W w L)(V:∀A w',Gr w w'->St F W w' (.row el 1 A n c (List.replicate n z)::L)->dO A->RW P ops Q rest (fI e d (.slice A n c)) w') :
  RW P ops Q (⟨d,.makeSlice t x y,ty,ps,af,none⟩::rest) e w:=by
 refine Di Z I (by rw[hz];rfl) hx hy O U v J S λA w' g S' D=>V A w' g ?_ D;simp_all
theorem Mv{el:TypeId}{v:List (Nat×Operand)}{z:Value}{l0:List Value}(hu:P.underlying t=some (.slice el))(hs:∀w,(sizeOf el).run P w=.ok k w)(hz:∀w,(zeroValue el).run P w=.ok z w)(Z:z.cells.toList.length=k)(y:Nat.beq (n*k) 0=false)(V:Nat.ble (n*k) 16777216=true)(h1:yS (λi=>some (i*k,k)) ((List.replicate n z.cells.toList).flatten) (yQ e v)=some l0)(h2:lj l0=some l)(hl:Nat.beq l.length (n*k)=true)(S:St F W w L)(hr:∀A w',Gr w w'->St F W w' (.row el k A n n l::L)->dO A->RW P ops Q rest (fI e d (.slice A n n)) w') :
  RW P ops Q (⟨d,.buildSlice t n v.toArray,ty,ps,af,none⟩::rest) e w:=by
 refine yY (mu hu hs hz Z y V h1 h2) S λw' g U=>hr _ w' g ?_ (pS _ _);have D:n*k≠0:=by intro h;rw[h]at y;cases y
 have O:0<k:=fT λh=>by rw[h]at D;simp at D
 have aa:n<=n*k:=eS _ O
 have I:gH w' el k (some ⟨w.heap.size,0,none⟩) n n l :=
  gH.of_blk (U.blk (i:=0) rfl) (eU hl) (by have:=eC V;unfold maxLen;omega)
 exact U.set (i:=0) rfl rfl (Fr.refl No w') (λ_ h=>h.elim) I (λb J=>.inl (by injection J with J;exact J.symm))
theorem mv{el:TypeId}(I:P.underlying t=some (.slice el))(D:∀w,(sizeOf el).run P w=.ok k w)(S:St F W w L)(z:∀A w',Gr w w'->St F W w' (.row el k A 0 0 []::L)->dO A->RW P ops Q rest (fI e d (.slice A 0 0)) w') :
  RW P ops Q (⟨d,.buildSlice t 0 #[],ty,ps,af,none⟩::rest) e w:=by
 refine yY (Mu I D) S λw' g y=>z _ w' g ?_ (pS _ _);exact y.set (i:=0) rfl rfl (Fr.refl No w') (λ_ h=>h.elim) (gH.of_blk (y.blk (i:=0) rfl) (by simp) om) (λb v=>.inl (by injection v with v;exact v.symm))
end
theorem iC.sub:∀{L' L:List HA},L'.Sublist L->iC X w L->iC X w L'
 |_,_,.slnil,_=>trivial
 |_,_,.cons _ h,S=>iC.sub h S.2.2
 |_,_,.cons_cons _ h,S=>⟨S.1,λg hg h' hh=>S.2.1 g hg h' (h.subset hh),iC.sub h S.2.2⟩
theorem St.sub{L:List HA}(S:St F W w L)(h:L'.Sublist L):St F W w L':=⟨S.fr,S.sep.sub h⟩
theorem St.pushNil{L:List HA}(S:St F W w L)(el k:Nat):St F W w (.row el k none 0 0 []::L) :=
 S.push (Gr.refl w) (gH.nil _ _ _) (λg v=>by cases v)
def tr(W:World)(A:Option Addr):Prop:=∀g,jv A g->W.heap.size<=g
def jc(mk:Value->Value)(el k n:Nat)(xs:List Value)(w:World):Value->World->Prop:=λv' w'=>∃A c,v'=mk (.slice A n c)/\gH w' el k A n c xs/\tr w A/\Gr w w'
theorem St.pushRow{L:List HA}(S:St F W w L)(v:gH w' el k A n c xs)(y:tr w A)(g:Gr w w'):St F W w' (.row el k A n c xs::L) :=
 S.push g v y
theorem iC.fresh{L:List HA}(S:St No W w L)(hi:gi L i=some (.row el k A n c xs)):tr W A:=λg v=>((S.sep.get hi).2 g v).elim (λh=>h.elim) id
theorem St.retNew{L:List HA}{mk:Value->Value}(S:St No W w L)(hi:gi L i=some (.row el k A n c xs)):jc mk el k n xs W (mk (.slice A n c)) w :=
 ⟨A,c,rfl,S.row hi,iC.fresh S hi,S.out⟩
theorem wI : ∀ (L : List HA) (i : Nat), gi L i = L[i]?
  | [], i => by simp [gi]
  | h :: r, 0 => rfl
  | h :: r, i + 1 => by simp [gi, wI r i]
class Sc (P : Program) (t : Nat) : Prop where h : ∃ dd, P.underlying t = some dd ∧ sM dd = false
class Ag (P : Program) (t : Nat) (n : outParam Nat) : Prop where h : (∃ dd, P.underlying t = some dd ∧ sM dd = true) ∧ (∀ w, (sizeOf t).run P w = .ok n w) ∧ Nat.blt 0 n = true
class Sl (P : Program) (t : Nat) (k : outParam Nat) : Prop where h : ∃ el, P.underlying t = some (.slice el) ∧ ∀ w, (sizeOf el).run P w = .ok k w
class Fl (P : Program) (t f : Nat) (o : outParam Nat) : Prop where h : ∃ fs fd n, P.underlying t = some (.struct fs) ∧ fs[f]? = some fd ∧ (∀ w, (sizeOf fd.type).run P w = .ok n w) ∧ Nat.beq n 0 = false ∧ fd.offset = o
class Pt (P : Program) (t : Nat) : Prop where h : ∃ te, P.underlying t = some (.pointer te)
section
variable{ps:String}
theorem oF {t f o k : Nat} {x : Operand} {b : Nat} [i : Fl P t f k] (hx : ev e x = .pointer (some ⟨b, o, none⟩)) : iE P e ⟨d, .fieldAddr t x f, ty, ps, af, none⟩ (.pointer (some ⟨b, o + k, none⟩)) := by
  obtain ⟨fs, fd, n, h1, h2, h3, h4, rfl⟩ := i.h
  exact du h1 h2 h3 h4 hx
theorem oG {t f k m : Nat} {x : Operand} {A : Option Addr} [i : Fl P t f k] (hx : ev e x = .pointer (jF A m)) (hA : dO A) : iE P e ⟨d, .fieldAddr t x f, ty, ps, af, none⟩ (.pointer (jF A (m + k))) := by
  obtain ⟨fs, fd, n, h1, h2, h3, h4, rfl⟩ := i.h
  exact Pb h1 h2 h3 h4 hx hA
theorem oI {t : Nat} {x i : Operand} {len cap k : Nat} {A : Option Addr} {kd : IntKind} {n : Int} [c : Sl P t k] (hx : ev e x = .slice A len cap) (hi : ev e i = .int kd n) (hA : dO A) (h0 : 0 ≤ n) (h1 : n < len) :
    iE P e ⟨d, .indexAddr t x i, ty, ps, af, none⟩ (.pointer (jF A (n.toNat * k))) := by
  obtain ⟨el, g1, g2⟩ := c.h
  exact sj g1 g2 hx hi hA h0 h1
theorem oL {t : Nat} {x : Operand} {A : Option Addr} {n c k : Nat} [i : Sl P t k] (hx : ev e x = .slice A n c) : iE P e ⟨d, .call ⟨.builtin .len, #[x], #[t]⟩, ty, ps, af, none⟩ (.int .i64 n) := by
  obtain ⟨el, g1, g2⟩ := i.h
  exact p6 g1 hx
theorem oN {t t' : Nat} {x : Operand} {a : Option Addr} {B : Bool} [i : Pt P t] (hx : ev e x = .pointer a) (hB : a.isNone = B) : iE P e ⟨d, .binOp .eql t x (.const (.pointer none)) t', ty, ps, af, none⟩ (.bool B) := by
  obtain ⟨te, g⟩ := i.h
  exact S9 g hx hB
theorem oW {o : BinOp} {t t' : TypeId} {x y : Operand} {n : Int} (h : n7 (ev e) (.binOp o t x y t') = some (.int .i64 (IntKind.i64.wrap n))) (hr : -9223372036854775808 ≤ n ∧ n ≤ 9223372036854775807) : iE P e ⟨d, .binOp o t x y t', ty, ps, af, none⟩ (.int .i64 n) := fh h hr
theorem oU {o : UnOp} {t : TypeId} {x : Operand} {n : Int} (h : n7 (ev e) (.unOp o t x) = some (.int .i64 (IntKind.i64.wrap n))) (hr : -9223372036854775808 ≤ n ∧ n ≤ 9223372036854775807) : iE P e ⟨d, .unOp o t x, ty, ps, af, none⟩ (.int .i64 n) := fh h hr
theorem oC {o : BinOp} {t t' : TypeId} {x y : Operand} {B : Bool} (b : Bool) (h : n7 (ev e) (.binOp o t x y t') = some (.bool B)) (hr : B = b) : iE P e ⟨d, .binOp o t x y t', ty, ps, af, none⟩ (.bool b) := ff h hr
section
variable{L:List HA}
theorem oB {t tb b o : Nat} {x : Operand} {v : Value} {l : List Value} [i : Sc P t] (hx : ev e x = .pointer (some ⟨b, o, none⟩)) (S : St F W w L) (hm : HA.blk b tb l ∈ L) (hl : l[o]? = some v) : gd P e ⟨d, .load t x, ty, ps, af, none⟩ w v := by
  obtain ⟨dd, g1, g2⟩ := i.h
  obtain ⟨j, hj⟩ := jI hm
  exact cV g1 g2 hx (S.blk (i := j) (by rw [wI]; exact hj)) hl
theorem oA {t tb b o n : Nat} {x : Operand} {cs l : List Value} [i : Ag P t n] (hx : ev e x = .pointer (some ⟨b, o, none⟩)) (S : St F W w L) (hm : HA.blk b tb l ∈ L) (hl : lj ((l.drop o).take n) = some cs) (hn : cs.length = n) : gd P e ⟨d, .load t x, ty, ps, af, none⟩ w (.agg cs.toArray) := by
  obtain ⟨⟨dd, g1, g2⟩, g3, _⟩ := i.h
  obtain ⟨j, hj⟩ := jI hm
  exact fx g1 g2 (g3 _) hx (S.blk (i := j) (by rw [wI]; exact hj)) hl hn
theorem oR {t el k n c m : Nat} {x : Operand} {v : Value} {A : Option Addr} {xs : List Value} [i : Sc P t] (hx : ev e x = .pointer (jF A m)) (S : St F W w L) (hm : HA.row el k A n c xs ∈ L) (hv : xs[m]? = some v) : gd P e ⟨d, .load t x, ty, ps, af, none⟩ w v := by
  obtain ⟨dd, g1, g2⟩ := i.h
  obtain ⟨j, hj⟩ := jI hm
  exact eI g1 g2 hx (S.rd (i := j) (by rw [wI]; exact hj)) hv
theorem oO {t m : Nat} {x : Operand} {v : Value} {A : Option Addr} {xs : List Value} [i : Sc P t] (hx : ev e x = .pointer (jF A m)) (hR : Rd w A xs) (hv : xs[m]? = some v) : gd P e ⟨d, .load t x, ty, ps, af, none⟩ w v := by
  obtain ⟨dd, g1, g2⟩ := i.h
  exact eI g1 g2 hx hR hv
end
end
section
variable{rest:List Oper}{ps:String}
theorem B4 {j : Nat} {b : Bool} (h : yE ops e j = some b) (f : G' → RW P ops Q (⟨d, op, ty, ps, af, none⟩ :: rest) e w) : G' → RW P ops Q (⟨d, op, ty, ps, af, some (j, b)⟩ :: rest) e w := fun k => dr h (f k)
theorem IR {j : Nat} {b : Bool} (h : yE ops e j = some b) (f : G' → RQ P ops C Qq (⟨d, op, ty, ps, af, none⟩ :: rest) e) : G' → RQ P ops C Qq (⟨d, op, ty, ps, af, some (j, b)⟩ :: rest) e := fun k => fO h (f k)
theorem zs (k : G') (h : G' → G := by
    (intro k
     repeat (first
       | with_reducible refine dm ?_
       | with_reducible refine dz ?_
       | (with_reducible refine eF ?_)
       | ((with_reducible refine gO ?_); try show CW _ _ _ _ _ _)
       | ((with_reducible refine eX ?hc ?_); case hc => rfl)
       | ((with_reducible refine jr ?hc ?_); case hc => rfl)
       | with_reducible refine k0 ?_
       | ((with_reducible refine di ?_); show CW _ _ _ _ _ _))
     exact k)) : G := h k
theorem zi (h : G' → RW P ops Q (⟨d, op, ty, ps, af, none⟩ :: rest) e w := by
    first
      | exact cq (by exact cH rfl)
      | exact cq (by exact oF rfl)
      | exact cq (by exact oL rfl)
      | exact cq (by exact oG rfl (by assumption))
      | exact dH (by exact oB rfl (by assumption) (by repeat (first | with_reducible exact eB | with_reducible refine cW _ ?_)) rfl)
      | exact dH (by exact oA rfl (by assumption) (by repeat (first | with_reducible exact eB | with_reducible refine cW _ ?_)) (by rfl) (by rfl))
      | exact cq (by exact oN rfl rfl)) : G' → RW P ops Q (⟨d, op, ty, ps, af, none⟩ :: rest) e w := h
theorem z (k : G') (h : G' → G := by
    (intro k
     repeat (first
       | with_reducible refine dm ?_
       | with_reducible refine dz ?_
       | (with_reducible refine eF ?_)
       | ((with_reducible refine gO ?_); try show CW _ _ _ _ _ _)
       | ((with_reducible refine eX ?hc ?_); case hc => rfl)
       | ((with_reducible refine jr ?hc ?_); case hc => rfl)
       | with_reducible refine k0 ?_
       | ((with_reducible refine di ?_); show CW _ _ _ _ _ _))
     revert k
     first
       | exact zi
       | exact eD (by rfl)
       | exact B4 (by rfl) zi)) : G := h k
theorem XY (h : G' → RW P ops Q (⟨d, op, ty, ps, af, none⟩ :: rest) e w := by
    first
      | exact cq (by exact oW rfl (by omega))
      | exact cq (by exact oU rfl (by omega))) : G' → RW P ops Q (⟨d, op, ty, ps, af, none⟩ :: rest) e w := h
theorem zr (k : G') (h : G' → G := by
    (intro k
     repeat (first
       | with_reducible refine dm ?_
       | with_reducible refine dz ?_
       | (with_reducible refine eF ?_)
       | ((with_reducible refine gO ?_); try show CW _ _ _ _ _ _)
       | ((with_reducible refine eX ?hc ?_); case hc => rfl)
       | ((with_reducible refine jr ?hc ?_); case hc => rfl)
       | with_reducible refine k0 ?_
       | ((with_reducible refine di ?_); show CW _ _ _ _ _ _))
     revert k
     first
       | exact XY
       | exact eD (by rfl)
       | exact B4 (by rfl) XY)) : G := h k
theorem XZ (h : G' → RW P ops Q (⟨d, op, ty, ps, af, none⟩ :: rest) e w := by
    first
      | exact cq (by exact oC true rfl (cF (by omega)))
      | exact cq (by exact oC true rfl (fX.2 (by omega)))
      | exact cq (by exact oC true rfl (f5.2 (by omega)))) : G' → RW P ops Q (⟨d, op, ty, ps, af, none⟩ :: rest) e w := h
theorem zt (k : G') (h : G' → G := by
    (intro k
     repeat (first
       | with_reducible refine dm ?_
       | with_reducible refine dz ?_
       | (with_reducible refine eF ?_)
       | ((with_reducible refine gO ?_); try show CW _ _ _ _ _ _)
       | ((with_reducible refine eX ?hc ?_); case hc => rfl)
       | ((with_reducible refine jr ?hc ?_); case hc => rfl)
       | with_reducible refine k0 ?_
       | ((with_reducible refine di ?_); show CW _ _ _ _ _ _))
     revert k
     first
       | exact XZ
       | exact eD (by rfl)
       | exact B4 (by rfl) XZ)) : G := h k
theorem X3 (h : G' → RW P ops Q (⟨d, op, ty, ps, af, none⟩ :: rest) e w := by
    first
      | exact cq (by exact oC false rfl (cC (by omega)))
      | exact cq (by exact oC false rfl (et.2 (by omega)))
      | exact cq (by exact oC false rfl (eo.2 (by omega)))) : G' → RW P ops Q (⟨d, op, ty, ps, af, none⟩ :: rest) e w := h
theorem zf (k : G') (h : G' → G := by
    (intro k
     repeat (first
       | with_reducible refine dm ?_
       | with_reducible refine dz ?_
       | (with_reducible refine eF ?_)
       | ((with_reducible refine gO ?_); try show CW _ _ _ _ _ _)
       | ((with_reducible refine eX ?hc ?_); case hc => rfl)
       | ((with_reducible refine jr ?hc ?_); case hc => rfl)
       | with_reducible refine k0 ?_
       | ((with_reducible refine di ?_); show CW _ _ _ _ _ _))
     revert k
     first
       | exact X3
       | exact eD (by rfl)
       | exact B4 (by rfl) X3)) : G := h k
theorem X4 (h : G' → RW P ops Q (⟨d, op, ty, ps, af, none⟩ :: rest) e w := by
    first
      | exact cq (by exact oI rfl rfl (by assumption) (by omega) (by omega))) : G' → RW P ops Q (⟨d, op, ty, ps, af, none⟩ :: rest) e w := h
theorem zx (k : G') (h : G' → G := by
    (intro k
     repeat (first
       | with_reducible refine dm ?_
       | with_reducible refine dz ?_
       | (with_reducible refine eF ?_)
       | ((with_reducible refine gO ?_); try show CW _ _ _ _ _ _)
       | ((with_reducible refine eX ?hc ?_); case hc => rfl)
       | ((with_reducible refine jr ?hc ?_); case hc => rfl)
       | with_reducible refine k0 ?_
       | ((with_reducible refine di ?_); show CW _ _ _ _ _ _))
     revert k
     first
       | exact X4
       | exact eD (by rfl)
       | exact B4 (by rfl) X4)) : G := h k
theorem yi (h : G' → RQ P ops C Qq (⟨d, op, ty, ps, af, none⟩ :: rest) e := by
    first
      | exact eO (by exact cH rfl)
      | exact eO (by exact oF rfl)
      | exact eO (by exact oL rfl)
      | exact eO (by exact oG rfl (by assumption))
      | exact eO (by exact oN rfl rfl)) : G' → RQ P ops C Qq (⟨d, op, ty, ps, af, none⟩ :: rest) e := h
theorem y (k : G') (h : G' → G := by
    first
      | exact yi
      | exact iN (by rfl)
      | exact IR (by rfl) yi) : G := h k
theorem X5 (h : G' → RQ P ops C Qq (⟨d, op, ty, ps, af, none⟩ :: rest) e := by
    first
      | exact eO (by exact oW rfl (by omega))
      | exact eO (by exact oU rfl (by omega))) : G' → RQ P ops C Qq (⟨d, op, ty, ps, af, none⟩ :: rest) e := h
theorem yr (k : G') (h : G' → G := by
    first
      | exact X5
      | exact iN (by rfl)
      | exact IR (by rfl) X5) : G := h k
theorem X6 (h : G' → RQ P ops C Qq (⟨d, op, ty, ps, af, none⟩ :: rest) e := by
    first
      | exact eO (by exact oI rfl rfl (by assumption) (by omega) (by omega))) : G' → RQ P ops C Qq (⟨d, op, ty, ps, af, none⟩ :: rest) e := h
theorem yx (k : G') (h : G' → G := by
    first
      | exact X6
      | exact iN (by rfl)
      | exact IR (by rfl) X6) : G := h k
end
abbrev ii (n : Int) : Value := .int .i64 n
abbrev pt (b : Nat) : Value := .pointer (some ⟨b, 0, none⟩)
structure tA (p : Prop) : Prop where
  h : p
section
variable{Q:Exit->(Nat->Value)->World->Prop}
theorem ze (k : G1) (h : G1 → G := by
    (intro k
     first | refine eF ?_ | (refine di ?_; show CW _ _ _ _ _ _) | refine di ?_
     exact k)) : G := h k
theorem zq (k : G1) (h : G1 → G := by
    (intro k
     repeat (first
       | with_reducible refine dm ?_
       | with_reducible refine dz ?_
       | (with_reducible refine eF ?_)
       | ((with_reducible refine gO ?_); try show CW _ _ _ _ _ _)
       | ((with_reducible refine eX ?hc ?_); case hc => rfl)
       | ((with_reducible refine jr ?hc ?_); case hc => rfl)
       | with_reducible refine k0 ?_
       | ((with_reducible refine di ?_); show CW _ _ _ _ _ _))
     refine mJ ?_
     repeat first | refine mL ?_ | refine oq ?_
     exact k)) : G := h k
theorem zc (k : G1) (h : G1 → G := by
    (intro k
     try (first | refine eF ?_ | (refine di ?_; show CW _ _ _ _ _ _) | refine di ?_)
     repeat refine dm ?_
     exact k)) : G := h k
end
end Go.Proofs.YtjfeklflkikapaaGreatDoor
