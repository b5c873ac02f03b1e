/- hachuretop.WholeFlat: a part of the proof that the law returns true at every input (Sep, Slab, Gen, Sq, Sqb); no condition of its own. -/
import Derived.Test.YtipnifjmhlcehaaGreatDoorKB
set_option linter.unusedVariables false
set_option linter.unusedSimpArgs false
set_option maxRecDepth 100000
set_option maxHeartbeats 16000000
namespace Go.Proofs.YtipnifjmhlcehaaGreatDoor
section
open Go.RowKit
def at_ (A:Option Addr) (n:Nat):Option Addr:=A.map fun a=>⟨a.block,a.off+n,a.spot⟩
def yH (A:Option Addr):Prop:=∃ b o,A=some ⟨b,o,none⟩
theorem uB (b o:Nat):yH (some ⟨b,o,none⟩):=⟨b,o,rfl⟩
theorem sA (b o n:Nat):at_ (some ⟨b,o,none⟩) n=some ⟨b,o+n,none⟩:=rfl
def kZ (A:Option Addr) (g:Nat):Prop:=A.map (·.block)=some g
theorem rZ {g o b:Nat} {s:Option Nat} (h:kZ (some ⟨g,o,s⟩) b):g=b:=by injection h
theorem Rd.someA {w:World} {A:Option Addr} {xs:List Value} (h:Rd w A xs) (hn:0 < xs.length):yH A:=by
 rcases h with rfl | ⟨b,o,rfl,_⟩
 ·simp at hn
 ·exact ⟨b,o,rfl⟩
theorem Rd.cell {w:World} {A:Option Addr} {xs:List Value} {b o:Nat} (h:Rd w A xs) (hA:A=some ⟨b,o,none⟩) {j:Nat} {v:Value} (hv:xs[j]?=some v):w.cell? ⟨b,o+j,none⟩=some v:=by
 rcases h with rfl | ⟨b',o',hA',_,hc⟩
 ·cases hv
 ·rw [hA] at hA'
  injection hA' with hA'
  injection hA' with h1 h2
  subst h1; subst h2
  exact hc j v hv
def Row (w:World) (el k:Nat) (A:Option Addr) (n c:Nat) (xs:List Value):Prop:=w.ownsRow 0 el k (.slice A n c) n xs
section
variable {w w' : World} {el k n c : Nat} {A : Option Addr} {xs : List Value}
theorem Row.len (h:Row w el k A n c xs):xs.length=n * k:=h.1
theorem Row.nil (w:World) (el k:Nat):Row w el k none 0 0 []:=World.ownsRow_nil _ _ _ _
theorem Row.form (h:Row w el k A n c xs):(A=none/\n=0/\c=0/\xs=[])\/∃ g l,A=some ⟨g,0,none⟩/\Blk w g el l/\n<=c/\l.length=c * k/\l.take (n * k)=xs/\c<=maxLen:=by
 obtain ⟨h0,h⟩:=h
 rcases h with ⟨hv,h2⟩ | ⟨g,cap,cur,hv,_,hh,hnc,hm,hsz,ht⟩
 ·injection hv with h3 h4 h5
  subst h3; subst h4; subst h5
  exact .inl ⟨rfl,rfl,rfl,List.eq_nil_of_length_eq_zero (by simpa using h0)⟩
 ·injection hv with h3 h4 h5
  subst h3; subst h5
  exact .inr ⟨g,cur.toList,rfl,by unfold Blk; simpa using hh,hnc,by simpa using hsz,ht,hm⟩
theorem Row.mk_ {g:Nat} {l:List Value} (hB:Blk w g el l) (hn:n<=c) (hl:l.length=c * k) (ht:l.take (n * k)=xs) (hm:c<=maxLen):Row w el k (some ⟨g,0,none⟩) n c xs:=by
 refine ⟨?_,.inr ⟨g,c,l.toArray,rfl,Nat.zero_le _,hB,hn,hm,by simpa using hl,by simpa using ht⟩⟩
 rw [<-ht,List.length_take,hl,Nat.min_eq_left (Nat.mul_le_mul_right _ hn)]
theorem Row.keep (h:Row w el k A n c xs) (hk:∀ g,kZ A g->w'.heap[g]?=w.heap[g]?):Row w' el k A n c xs:=by
 rcases h.form with ⟨rfl,rfl,rfl,rfl⟩ | ⟨g,l,rfl,hB,hn,hl,ht,hm⟩
 ·exact Row.nil _ _ _
 ·exact Row.mk_ (hB.keep (hk g rfl)) hn hl ht hm
theorem Row.lt (h:Row w el k A n c xs) {g:Nat} (hg:kZ A g):g < w.heap.size:=by
 rcases h.form with ⟨rfl,_⟩ | ⟨g',l,rfl,hB,_⟩
 ·cases hg
 ·have hg:g'=g:=by injection hg
  subst hg; exact hB.lt
theorem Row.rd (h:Row w el k A n c xs):Rd w A xs:=by
 rcases h.form with ⟨rfl,rfl,rfl,rfl⟩ | ⟨g,l,rfl,hB,hn,hl,ht,hm⟩
 ·exact .inl rfl
 ·refine .inr ⟨g,0,rfl,hB.lt,fun j v hj=>?_⟩
  rw [Nat.zero_add]
  refine hB.cellv ?_
  rw [<-ht,List.getElem?_take] at hj
  split at hj
  ·exact hj
  ·cases hj
theorem Row.gr (h:Row w el k A n c xs) (g:Gr w w'):Row w' el k A n c xs:=h.keep fun b hb=>g.block b (h.lt hb)
theorem Row.someA (h:Row w el k A n c xs) (hn:0 < n):yH A:=by
 rcases h.form with ⟨_,rfl,_⟩ | ⟨g,l,rfl,_⟩
 ·omega
 ·exact ⟨g,0,rfl⟩
theorem Row.cap (h:Row w el k A n c xs):n<=c:=by
 rcases h.form with ⟨_,rfl,rfl,_⟩ | ⟨g,l,rfl,_,hn,_⟩
 ·exact Nat.le_refl _
 ·exact hn
theorem Row.congr (h:Row w el k A n c xs) {ys:List Value} (e:xs=ys):Row w el k A n c ys:=e ▸ h
theorem Row.take (h:Row w el k A n c xs) {m:Nat} (hm:m<=n):Row w el k A m c (xs.take (m * k)):=by
 rcases h.form with ⟨rfl,rfl,rfl,rfl⟩ | ⟨g,l,rfl,hB,hn,hl,ht,hmx⟩
 ·obtain rfl:m=0:=by omega
  simpa using Row.nil _ _ _
 ·refine Row.mk_ hB (Nat.le_trans hm hn) hl ?_ hmx
  rw [<-ht,List.take_take,Nat.min_eq_left (Nat.mul_le_mul_right _ hm)]
theorem Row.of_blk {g:Nat} {l:List Value} (hB:Blk w g el l) (hl:l.length=n * k) (hm:n<=maxLen):Row w el k (some ⟨g,0,none⟩) n n l :=
 Row.mk_ hB (Nat.le_refl _) hl (by rw [<-hl]; exact List.take_length) hm
end
theorem Row.one {w:World} {el:TypeId} {A:Option Addr} {v:Value} (h:Row w el 1 A 1 1 [v]):∃ g,A=some ⟨g,0,none⟩/\Blk w g el [v]:=by
 rcases h.form with ⟨_,h,_⟩ | ⟨g,l,rfl,hB,_,hl,ht,_⟩
 ·cases h
 ·refine ⟨g,rfl,?_⟩
  have:l=[v]:=by rw [<-ht]; exact (List.take_of_length_le (by omega)).symm
  rwa [<-this]
structure HA where
 own:Nat->Prop
 ok:World->Prop
 st:∀ w w':World,(∀ g,own g->w'.heap[g]?=w.heap[g]?)->w.heap.size<=w'.heap.size->ok w->ok w'
 lt:∀ w:World,ok w->∀ g,own g->g < w.heap.size
def HA.blk (b t:Nat) (l:List Value):HA:=⟨fun g=>g=b,fun w=>Blk w b t l,fun _ _ h _ hB=>hB.keep (h b rfl),fun _ hB g hg=>hg ▸ hB.lt⟩
def HA.row (el k:Nat) (A:Option Addr) (n c:Nat) (xs:List Value):HA:=⟨kZ A,fun w=>Row w el k A n c xs,fun _ _ h _ hR=>hR.keep h,fun _ hR _ hg=>hR.lt hg⟩
def SepL (X:Nat->Prop) (w:World):List HA->Prop
 | []=>True
 | h::r=>(h.ok w/\∀ g,h.own g->X g)/\(∀ g,h.own g->∀ h' ∈ r,¬ h'.own g)/\SepL X w r
structure St (F:Nat->Prop) (W w:World) (L:List HA):Prop where
 fr:Fr F W w
 sep:SepL (fun g=>F g\/W.heap.size<=g) w L
def No:Nat->Prop:=fun _=>False
def qP:List HA->Nat->Option HA
 | [],_=>none
 | h::_,0=>some h
 | _::r,i+1=>qP r i
def zF:List HA->Nat->HA->Option (List HA)
 | [],_,_=>none
 | _::r,0,x=>some (x::r)
 | a::r,i+1,x=>match zF r i x with
  | some s=>some (a::s)
  | none=>none
section
variable {X F : Nat → Prop} {w w' W : World} {L L' : List HA}
theorem SepL.get:∀ {L:List HA} {i:Nat} {h:HA},SepL X w L->qP L i=some h->h.ok w/\∀ g,h.own g->X g
 | [],_,_,_,hi=>by cases hi
 | a::r,0,h,S,hi=>by injection hi with hi; subst hi; exact S.1
 | a::r,i+1,h,S,hi=>SepL.get (L:=r) S.2.2 hi
theorem mU:∀ {L:List HA} {i:Nat} {h:HA},qP L i=some h->h ∈ L
 | [],_,_,hi=>by cases hi
 | a::r,0,h,hi=>by injection hi with hi; subst hi; simp
 | a::r,i+1,h,hi=>List.mem_cons_of_mem _ (mU (L:=r) hi)
theorem SepL.fr_:∀ {L:List HA} {F:Nat->Prop},SepL X w L->Fr F w w'->(∀ g,F g->g < w.heap.size->∀ h ∈ L,¬ h.own g)->(∀ h ∈ L,h.ok w')/\SepL X w' L
 | [],_,_,_,_=>⟨fun h hh=>(by cases hh),trivial⟩
 | a::r,F,S,k,hF=>by
  have h1:a.ok w':=a.st w w' (fun g hg=>k.block g (a.lt w S.1.1 g hg) (fun hf=>hF g hf (a.lt w S.1.1 g hg) a (by simp) hg)) k.size S.1.1
  have h2:=SepL.fr_ (L:=r) S.2.2 k (fun g hf hl h hh=>hF g hf hl h (List.mem_cons_of_mem _ hh))
  exact ⟨fun h hh=>(List.mem_cons.1 hh).elim (fun e=>e ▸ h1) (h2.1 h),⟨h1,S.1.2⟩,S.2.1,h2.2⟩
theorem SepL.gr (S:SepL X w L) (k:Gr w w'):SepL X w' L:=(S.fr_ (F:=fun _=>False) (Fr.of_gr k) (fun _ h=>h.elim)).2
theorem SepL.set:∀ {L L':List HA} {i:Nat} {h h':HA} {F:Nat->Prop},SepL X w L->qP L i=some h->zF L i h'=some L'->Fr F w w'->(∀ g,F g->h.own g\/w.heap.size<=g)->h'.ok w' ->
  (∀ g,h'.own g->h.own g\/w.heap.size<=g)->(∀ g,w.heap.size<=g->X g)->SepL X w' L'/\(∀ h1 ∈ L',h1=h'\/h1 ∈ L)
 | [],_,_,_,_,_,_,hi,_,_,_,_,_,_=>by cases hi
 | a::r,L',0,h,h',F,S,hi,hs,k,hF,ok,ho,hX=>by
  injection hi with hi
  subst hi
  injection hs with hs
  subst hs
  have h2:=SepL.fr_ (L:=r) (F:=F) S.2.2 k (fun g hf hl h hh=>(hF g hf).elim (fun e=>S.2.1 g e h hh) (fun e=>by omega))
  refine ⟨⟨⟨ok,fun g hg=>(ho g hg).elim (S.1.2 g) (hX g)⟩,fun g hg h1 hh ho1=>?_,h2.2⟩,fun h1 hh=>(List.mem_cons.1 hh).imp id (List.mem_cons_of_mem _)⟩
  have hin:∃ i,qP r i=some h1:=by
   clear h2 S
   induction r with
   | nil=>cases hh
   | cons b r ih=>exact (List.mem_cons.1 hh).elim (fun e=>⟨0,by rw [e]; rfl⟩) (fun e=>(ih e).elim fun i hi=>⟨i+1,hi⟩)
  obtain ⟨i,hi⟩:=hin
  exact (ho g hg).elim (fun e=>S.2.1 g e h1 hh ho1) (fun e=>by have:=h1.lt w (SepL.get S.2.2 hi).1 g ho1; omega)
 | a::r,L',i+1,h,h',F,S,hi,hs,k,hF,ok,ho,hX=>by
  have hi:qP r i=some h:=hi
  simp only [zF] at hs
  split at hs
  ·rename_i s hs'
   injection hs with hs
   subst hs
   have ih:=SepL.set (L:=r) S.2.2 hi hs' k hF ok ho hX
   have hm:=mU hi
   have h1:a.ok w':=a.st w w' (fun g hg=>k.block g (a.lt w S.1.1 g hg) (fun hf=>(hF g hf).elim (fun e=>S.2.1 g hg h hm e) (fun e=>by have:=a.lt w S.1.1 g hg; omega))) k.size S.1.1
   refine ⟨⟨⟨h1,S.1.2⟩,fun g hg h2 hh ho2=>?_,ih.1⟩,fun h2 hh=>(List.mem_cons.1 hh).elim (fun e=>.inr (e ▸ List.mem_cons_self)) (fun e=>(ih.2 h2 e).imp id (List.mem_cons_of_mem _))⟩
   rcases ih.2 h2 hh with rfl | e
   ·exact (ho g ho2).elim (S.2.1 g hg h hm) (fun e=>by have:=a.lt w S.1.1 g hg; omega)
   ·exact S.2.1 g hg h2 e ho2
  ·cases hs
theorem St.start (W:World):St No W W []:=⟨Fr.refl _ _,trivial⟩
theorem St.start1 (W:World) (h:HA) (ok:h.ok W):St h.own W W [h]:=⟨Fr.refl _ _,⟨ok,fun _=>.inl⟩,(fun _ _ _ hh=>by cases hh),trivial⟩
theorem St.gr (S:St F W w L) (k:Gr w w'):St F W w' L:=⟨S.fr.then_gr k,S.sep.gr k⟩
theorem St.out (S:St No W w L):Gr W w:=S.fr.gr (fun _ h=>h.elim)
theorem St.le (S:St F W w L):W.heap.size<=w.heap.size:=S.fr.size
theorem St.ok (S:St F W w L) {i:Nat} {h:HA} (hi:qP L i=some h):h.ok w:=(S.sep.get hi).1
theorem St.blk (S:St F W w L) {i b t:Nat} {l:List Value} (hi:qP L i=some (.blk b t l)):Blk w b t l:=S.ok hi
theorem St.row (S:St F W w L) {i el k n c:Nat} {A:Option Addr} {xs:List Value} (hi:qP L i=some (.row el k A n c xs)):Row w el k A n c xs:=S.ok hi
theorem St.rd (S:St F W w L) {i el k n c:Nat} {A:Option Addr} {xs:List Value} (hi:qP L i=some (.row el k A n c xs)):Rd w A xs:=(S.row hi).rd
theorem St.push (S:St F W w L) {h:HA} (k:Gr w w') (ok:h.ok w') (hn:∀ g,h.own g->w.heap.size<=g):St F W w' (h::L):=by
 have S':=S.sep.gr k
 refine ⟨S.fr.then_gr k,⟨ok,fun g hg=>.inr (Nat.le_trans S.le (hn g hg))⟩,fun g hg h1 hh ho=>?_,S'⟩
 have:=hn g hg
 have hin:∀ {L:List HA},SepL (fun g=>F g\/W.heap.size<=g) w L->h1 ∈ L->h1.ok w:=by
  intro L
  induction L with
  | nil=>intro _ hh; cases hh
  | cons b r ih=>intro S hh; exact (List.mem_cons.1 hh).elim (fun e=>e ▸ S.1.1) (ih S.2.2)
 have:=h1.lt w (hin S.sep hh) g ho
 omega
theorem St.push2 (S:St F W w L) {h1 h2:HA} (k:Gr w w') (ok1:h1.ok w') (ok2:h2.ok w') (hn1:∀ g,h1.own g->w.heap.size<=g) (hn2:∀ g,h2.own g->w.heap.size<=g) (hd:∀ g,h1.own g->¬ h2.own g):St F W w' (h1::h2::L):=by
 have S1:=S.push k ok1 hn1
 have S2:=S.push k ok2 hn2
 refine ⟨S1.fr,⟨ok1,S1.sep.1.2⟩,fun g hg h hh=>?_,S2.sep⟩
 rcases List.mem_cons.1 hh with rfl | hh
 ·exact hd g hg
 ·exact S1.sep.2.1 g hg h hh
theorem St.set (S:St F W w L) {i:Nat} {h h':HA} {F':Nat->Prop} (hi:qP L i=some h) (hs:zF L i h'=some L') (k:Fr F' w w') (hF:∀ g,F' g->h.own g\/w.heap.size<=g) (ok:h'.ok w') (ho:∀ g,h'.own g->h.own g\/w.heap.size<=g):St F W w' L' :=
 ⟨⟨k.os.trans S.fr.os,k.tape.trans S.fr.tape,k.output.trans S.fr.output,Nat.le_trans S.le k.size,fun g hg hn=>by
  refine (k.block g (Nat.lt_of_lt_of_le hg S.le) (fun hf=>?_)).trans (S.fr.block g hg hn)
  rcases hF g hf with e | e
  ·rcases (S.sep.get hi).2 g e with e | e
   ·exact hn e
   ·omega
  ·have:=S.le; omega⟩,(S.sep.set hi hs k hF ok ho (fun g hg=>.inr (Nat.le_trans S.le hg))).1⟩
theorem St.setPush (S:St F W w L) {i:Nat} {h h' h2:HA} {F':Nat->Prop} (hi:qP L i=some h) (hs:zF L i h'=some L') (k:Fr F' w w') (hF:∀ g,F' g->h.own g\/w.heap.size<=g) (ok:h'.ok w') (ho:∀ g,h'.own g->h.own g\/w.heap.size<=g)
  (ok2:h2.ok w') (hn:∀ g,h2.own g->w.heap.size<=g) (hd:∀ g,h2.own g->¬ h'.own g):St F W w' (h2::L'):=by
 have S':=S.set hi hs k hF ok ho
 have hm:=(S.sep.set hi hs k hF ok ho (fun g hg=>.inr (Nat.le_trans S.le hg))).2
 refine ⟨S'.fr,⟨ok2,fun g hg=>.inr (Nat.le_trans S.le (hn g hg))⟩,fun g hg h1 hh ho1=>?_,S'.sep⟩
 rcases hm h1 hh with rfl | hin
 ·exact hd g hg ho1
 ·have key:∀ {L:List HA},SepL (fun g=>F g\/W.heap.size<=g) w L->h1 ∈ L->h1.ok w:=by
   intro L
   induction L with
   | nil=>intro _ hh; cases hh
   | cons b r ih=>intro S hh; exact (List.mem_cons.1 hh).elim (fun e=>e ▸ S.1.1) (ih S.2.2)
  have:=h1.lt w (key S.sep hin) g ho1
  have:=hn g hg
  omega
theorem St.swap {a b:HA} (S:St F W w (a::b::L)):St F W w (b::a::L) :=
 ⟨S.fr,S.sep.2.2.1,fun g hg h hh=>(List.mem_cons.1 hh).elim (fun e=>by subst e; exact fun ho=>S.sep.2.1 g ho b (by simp) hg) (S.sep.2.2.2.1 g hg h),S.sep.1,fun g hg h hh=>S.sep.2.1 g hg h (List.mem_cons_of_mem _ hh),S.sep.2.2.2.2⟩
theorem SepL.old {W w:World} {L:List HA} {F:Nat->Prop} (S:St No W w L) (h:SepL (fun g=>No g\/W.heap.size<=g) w L):SepL (fun g=>F g\/W.heap.size<=g) w L/\∀ h1 ∈ L,∀ g,h1.own g->W.heap.size<=g:=by
 clear S
 induction L with
 | nil=>exact ⟨trivial,fun _ hh=>by cases hh⟩
 | cons a r ih =>
  have ih:=ih h.2.2
  have ha:∀ g,a.own g->W.heap.size<=g:=fun g hg=>(h.1.2 g hg).elim (fun e=>e.elim) id
  exact ⟨⟨⟨h.1.1,fun g hg=>.inr (ha g hg)⟩,h.2.1,ih.1⟩,fun h1 hh=>(List.mem_cons.1 hh).elim (fun e=>e ▸ ha) (ih.2 h1)⟩
theorem St.own1 (S:St No W w L) (h1:HA) (ok1:h1.ok W):St h1.own W w (h1::L):=by
 have hL:=SepL.old (F:=h1.own) S S.sep
 have hb:∀ g,h1.own g->W.heap[g]?=W.heap[g]?:=fun _ _=>rfl
 refine ⟨Fr.of_gr S.out,⟨h1.st W w (fun g hg=>S.out.block g (h1.lt W ok1 g hg)) S.le ok1,fun g hg=>.inl hg⟩,fun g hg h hh ho=>?_,hL.1⟩
 have:=hL.2 h hh g ho
 have:=h1.lt W ok1 g hg
 omega
theorem St.own2 (S:St No W w L) (h1 h2:HA) (ok1:h1.ok W) (ok2:h2.ok W) (hd:∀ g,h1.own g->¬ h2.own g):St (fun g=>h1.own g\/h2.own g) W w (h1::h2::L):=by
 have hL:=SepL.old (F:=fun g=>h1.own g\/h2.own g) S S.sep
 have ap:∀ h:HA,h.ok W->∀ g,h.own g->∀ h' ∈ L,¬ h'.own g:=fun h ok g hg h' hh ho=>by
  have:=hL.2 h' hh g ho
  have:=h.lt W ok g hg
  omega
 refine ⟨Fr.of_gr S.out,⟨h1.st W w (fun g hg=>S.out.block g (h1.lt W ok1 g hg)) S.le ok1,fun g hg=>.inl (.inl hg)⟩,fun g hg h hh=>?_,⟨h2.st W w (fun g hg=>S.out.block g (h2.lt W ok2 g hg)) S.le ok2,fun g hg=>.inl (.inr hg)⟩,ap h2 ok2,hL.1⟩
 rcases List.mem_cons.1 hh with rfl | hh
 ·exact hd g hg
 ·exact ap h1 ok1 g hg h hh
theorem St.as_ (S:St F W w L) {i:Nat} {h h':HA} (hi:qP L i=some h) (hs:zF L i h'=some L') (ok:h.ok w->h'.ok w) (ho:∀ g,h'.own g->h.own g):St F W w L' :=
 S.set hi hs (Fr.refl No w) (fun _ h=>h.elim) (ok (S.ok hi)) (fun g hg=>.inl (ho g hg))
theorem St.drop (S:St F W w L) (n:Nat):St F W w (L.drop n):=by
 refine ⟨S.fr,?_⟩
 have h:=S.sep
 clear S
 induction n generalizing L with
 | zero=>simpa using h
 | succ n ih=>cases L with
  | nil=>trivial
  | cons a r=>exact ih h.2.2
theorem St.only (S:St F W w L) {i:Nat} {h:HA} (hi:qP L i=some h):St F W w [h]:=⟨S.fr,S.sep.get hi,(fun _ _ _ hh=>by cases hh),trivial⟩
theorem SepL.mem (S:SepL X w L) {h:HA} (hh:h ∈ L):h.ok w/\∀ g,h.own g->X g:=by
 induction L with
 | nil=>cases hh
 | cons b r ih=>exact (List.mem_cons.1 hh).elim (fun e=>e ▸ S.1) (ih S.2.2)
theorem St.frw {F':Nat->Prop} (S:St F W w L) (hF:∀ g,F g->F' g):St F' W w L:=by
 refine ⟨S.fr.weak hF,?_⟩
 have h:=S.sep
 clear S
 induction L with
 | nil=>trivial
 | cons a r ih=>exact ⟨⟨h.1.1,fun g hg=>(h.1.2 g hg).imp (hF g) id⟩,h.2.1,ih h.2.2⟩
end
section
variable {P : Program} {ops : Array Oper} {Q : (Nat → Value) → World → Prop} {e : Nat → Value} {w W : World} {rest : List Oper} {F : Nat → Prop} {L L' : List HA}
variable {d : Option Tmp} {ty : TypeId} {ps : String} {af : Array Edge}
theorem rW {op:Op} {v:Value} {l:List Value} {t:TypeId} (h:(execOp (ev e) ⟨d,op,ty,ps,af,none⟩).run P w=.ok (.value v) (w.alloc (.cells l.toArray t))) (S:St F W w L)
  (hr:∀ w',Gr w w'->St F W w' (.blk w.heap.size t l::L)->RW P ops Q rest (yU e d v) w'):RW P ops Q (⟨d,op,ty,ps,af,none⟩::rest) e w :=
 rQ h (hr _ (Gr.alloc _ _) (S.push (Gr.alloc _ _) (h:=.blk w.heap.size t l) (Blk.new _ _ _) (fun g hg=>Nat.le_of_eq hg.symm)))
theorem jF {op:Op} {l:List Value} {t:TypeId} (h:(execOp (ev e) ⟨d,op,ty,ps,af,none⟩).run P w=.ok (.value (.pointer (some ⟨w.heap.size,0,none⟩))) (w.alloc (.cells l.toArray t))) (S:St F W w L)
  (hr:∀ b w',Gr w w'->St F W w' (.blk b t l::L)->RW P ops Q rest (yU e d (.pointer (some ⟨b,0,none⟩))) w'):RW P ops Q (⟨d,op,ty,ps,af,none⟩::rest) e w :=
 rW h S (fun w' g S'=>hr _ w' g S')
theorem St.setBlk (S:St F W w L) {i b t:Nat} {l l':List Value} {w':World} (hi:qP L i=some (.blk b t l)) (hs:zF L i (.blk b t l')=some L') (hg:w.grownBy w' (some b)) (hB:Blk w' b t l'):St F W w' L' :=
 S.set hi hs (Fr.of_grown (F:=fun g=>g=b) hg (fun g e=>by injection e with e; exact e.symm)) (fun g e=>.inl e) hB (fun g e=>.inl e)
theorem j8 {i:Nat} {t tb:TypeId} {x y:Operand} {b o:Nat} {l:List Value} {v u:Value} (S:St F W w L) (hi:qP L i=some (.blk b tb l)) (hz:(sizeOf t).run P w=.ok 1 w) (hx:ev e x=.pointer (some ⟨b,o,none⟩)) (hy:fz (ev e y)=some v) (hv:v.oneCell'=true) (hvc:v.cells=#[v]) (hl:l[o]?=some u)
  (hs:zF L i (.blk b tb (l.set o v))=some L') (hr:∀ w',St F W w' L'->RW P ops Q rest (yU e d undef) w'):RW P ops Q (⟨d,.store t x y,ty,ps,af,none⟩::rest) e w :=
 jbR hz hx hy hv hvc (S.blk hi) hl fun w' hg _ hB=>hr w' (S.setBlk hi hs hg hB)
theorem jH {i:Nat} {t tb:TypeId} {x y:Operand} {b o n:Nat} {l cs l':List Value} (S:St F W w L) (hi:qP L i=some (.blk b tb l)) (hz:(sizeOf t).run P w=.ok n w) (hx:ev e x=.pointer (some ⟨b,o,none⟩)) (hy:ev e y=.agg cs.toArray) (hn:cs.length=n)
  (hl':fzl (l.take o ++ cs ++ l.drop (o+n))=some l') (ho:((cs.all fun v=>v.oneCell') && Nat.ble (o+n) l.length)=true)
  (hs:zF L i (.blk b tb l')=some L') (hr:∀ w',St F W w' L'->RW P ops Q rest (yU e d undef) w'):RW P ops Q (⟨d,.store t x y,ty,ps,af,none⟩::rest) e w :=
 sJ hz hx hy hn (S.blk hi) hl' ho fun w' hg _ hB=>hr w' (S.setBlk hi hs hg hB)
theorem kV {t el:TypeId} {x i:Operand} {len cap k:Nat} {A:Option Addr} {kd:IntKind} {n:Int} (hu:P.underlying t=some (.slice el)) (hz:∀ w,(sizeOf el).run P w=.ok k w) (hx:ev e x=.slice A len cap) (hi:ev e i=.int kd n) (hA:yH A) (h0:0<=n) (h1:n < len) :
  OpV P e ⟨d,.indexAddr t x i,ty,ps,af,none⟩ (.pointer (at_ A (n.toNat * k))):=by
 obtain ⟨b,o,rfl⟩:=hA
 exact zQ hu hz hx hi h0 h1
theorem jdr {t:TypeId} {x:Operand} {f m n:Nat} {A:Option Addr} {fs:Array Field} {fd:Field} (hu:P.underlying t=some (.struct fs)) (hf:fs[f]?=some fd) (hz:∀ w,(sizeOf fd.type).run P w=.ok n w) (hn:Nat.beq n 0=false) (hx:ev e x=.pointer (at_ A m)) (hA:yH A) :
  OpV P e ⟨d,.fieldAddr t x f,ty,ps,af,none⟩ (.pointer (at_ A (m+fd.offset))):=by
 obtain ⟨b,o,rfl⟩:=hA
 have:=jD (P:=P) (d:=d) (ty:=ty) (ps:=ps) (af:=af) hu hf hz hn hx
 rwa [Nat.add_assoc] at this
theorem jbb {x:Operand} {m:Nat} {A:Option Addr} (hx:ev e x=.pointer (at_ A m)) (hA:yH A):OpV P e ⟨d,.nilCheck x,ty,ps,af,none⟩ (.pointer (at_ A m)):=by
 obtain ⟨b,o,rfl⟩:=hA
 refine jA ?_
 simp only [zC,hx,sA]
theorem j7 {t:TypeId} {x:Operand} {m:Nat} {dd:TypeDesc} {v:Value} {A:Option Addr} {xs:List Value} (hu:P.underlying t=some dd) (hd:fL dd=false) (hx:ev e x=.pointer (at_ A m)) (hR:Rd w A xs) (hv:xs[m]?=some v):OpR P e ⟨d,.load t x,ty,ps,af,none⟩ w v:=by
 have hn:0 < xs.length:=by have:=(List.getElem?_eq_some_iff.1 hv).1; omega
 obtain ⟨b,o,rfl⟩:=hR.someA hn
 exact dW hu hd hx (hR.cell rfl hv)
theorem yY {t:TypeId} {x:Operand} {m n:Nat} {dd:TypeDesc} {cs:List Value} {A:Option Addr} {xs:List Value} (hu:P.underlying t=some dd) (hd:fL dd=true) (hz:(sizeOf t).run P w=.ok n w) (hx:ev e x=.pointer (at_ A m)) (hR:Rd w A xs) (hv:(xs.drop m).take n=cs) (hn:cs.length=n) (h0:Nat.blt 0 n=true) :
  OpR P e ⟨d,.load t x,ty,ps,af,none⟩ w (.agg cs.toArray):=by
 have hn0:0 < n:=Nat.le_of_ble_eq_true h0
 have hl:0 < xs.length:=by
  rcases Nat.lt_or_ge 0 xs.length with h | h
  ·exact h
  ·have:xs=[]:=List.eq_nil_of_length_eq_zero (by omega)
   subst this
   subst hv
   simp at hn
   omega
 obtain ⟨b,o,rfl⟩:=hR.someA hl
 refine nZ hu hd hz hx hn fun j v hj=>?_
 rw [Nat.add_assoc]
 refine hR.cell rfl ?_
 rw [<-hv,List.getElem?_take] at hj
 split at hj
 ·rwa [List.getElem?_drop] at hj
 ·cases hj
theorem qV {i:Nat} {t:TypeId} {x y:Operand} {el k n c j:Nat} {A:Option Addr} {xs:List Value} {v:Value} (S:St F W w L) (hi:qP L i=some (.row el k A n c xs)) (hz:(sizeOf t).run P w=.ok 1 w) (hx:ev e x=.pointer (at_ A j)) (hy:fz (ev e y)=some v) (hv:v.oneCell'=true) (hvc:v.cells=#[v]) (hj:j < xs.length)
  (hs:zF L i (.row el k A n c (xs.set j v))=some L') (hr:∀ w',St F W w' L'->RW P ops Q rest (yU e d undef) w'):RW P ops Q (⟨d,.store t x y,ty,ps,af,none⟩::rest) e w:=by
 have hR:=S.row hi
 rcases hR.form with ⟨rfl,rfl,rfl,rfl⟩ | ⟨g,l,rfl,hB,hn,hl,ht,hm⟩
 ·simp at hj
 ·have hlen:=hR.len
  have hnk:n * k<=l.length:=by rw [hl]; exact Nat.mul_le_mul_right _ hn
  have hx':ev e x=.pointer (some ⟨g,j,none⟩):=by rw [hx,sA,Nat.zero_add]
  refine jbR hz hx' hy hv hvc hB (u:=l[j]'(by omega)) (List.getElem?_eq_getElem (by omega)) fun w' hg _ hB'=>hr w' ?_
  refine S.set hi hs (Fr.of_grown (F:=fun b=>b=g) hg (fun b e=>by injection e with e; exact e.symm)) (fun b e=>.inl (by rw [e]; rfl)) (Row.mk_ hB' hn (by simpa using hl) ?_ hm) (fun b e=>.inl e)
  rw [List.take_set,ht]
theorem zZ {i:Nat} {t:TypeId} {x y:Operand} {el k n c j s:Nat} {A:Option Addr} {xs cs:List Value} (S:St F W w L) (hi:qP L i=some (.row el k A n c xs)) (hz:(sizeOf t).run P w=.ok s w) (hx:ev e x=.pointer (at_ A j)) (hy:ev e y=.agg cs.toArray) (hcs:cs.length=s) (hone:(cs.all fun v=>v.oneCell')=true) (hj:j+s<=xs.length)
  (hs:zF L i (.row el k A n c (xs.take j ++ cs ++ xs.drop (j+s)))=some L') (h0:Nat.blt 0 s=true) (hr:∀ w',St F W w' L'->RW P ops Q rest (yU e d undef) w'):RW P ops Q (⟨d,.store t x y,ty,ps,af,none⟩::rest) e w:=by
 have hs0:0 < s:=Nat.le_of_ble_eq_true h0
 have hR:=S.row hi
 rcases hR.form with ⟨rfl,rfl,rfl,rfl⟩ | ⟨g,l,rfl,hB,hn,hl,ht,hm⟩
 ·simp at hj; omega
 ·have hlen:=hR.len
  have hnk:n * k<=l.length:=by rw [hl]; exact Nat.mul_le_mul_right _ hn
  obtain ⟨w',hw',hg',hsz',hB'⟩:=gV (P:=P) (o:=j) cs 0 w l hB (fun u hu=>List.all_eq_true.1 hone u hu) (by omega)
  have h6:(Value.agg cs.toArray).cells=cs.toArray:=rfl
  have hx':ev e x=.pointer (some ⟨g,j,none⟩):=by rw [hx,sA,Nat.zero_add]
  refine jiH (w':=w') ?_ (hr w' ?_)
  ·simp [execOp,hx',hy,Instr.storeAt,Instr.sureAddr,storeVar,hz,h6,hcs,hw']
  ·refine S.set hi hs (Fr.of_grown (F:=fun b=>b=g) hg' (fun b e=>by injection e with e; exact e.symm)) (fun b e=>.inl (by rw [e]; rfl)) (Row.mk_ hB' hn ?_ ?_ hm) (fun b e=>.inl e)
   ·simp; omega
   ·rw [Nat.add_zero,hcs,List.append_assoc,List.take_append,List.take_take,Nat.min_eq_right (by omega),List.take_append,<-ht]
    have e1:(cs.take (n * k - (l.take j).length))=cs:=List.take_of_length_le (by simp; omega)
    have e2:n * k - (l.take j).length - cs.length=n * k - (j+s):=by simp; omega
    rw [e1,e2,List.take_take,Nat.min_eq_left (by omega),List.drop_take,<-List.append_assoc]
theorem qA {i:Nat} {s x:Operand} {t el bytes k n c m c2:Nat} {A B:Option Addr} {z:Value} {xs ys:List Value} {f:HA->List HA} (S:St F W w L) (hi:qP L i=some (.row el k A n c xs)) (hf:∀ h,zF L i h=some (f h))
  (hu:P.underlying t=some (.slice el)) (hI:(P.info? el).map (fun i=>(i.zero,i.size,i.bytes))=some (some z,k,bytes)) (hz:Nat.beq z.cells.size k=true) (hk:Nat.blt 0 k=true)
  (hs:ev e s=.slice A n c) (hx:ev e x=.slice B m c2) (hm:ys.length=m * k) (hm0:0 < m) (hR:Rd w B ys) (h1:(ys.all fun v=>v.oneCell')=true) (hb:(n+m) * (bytes+1)<=140737488355328)
  (hr:∀ A' c' w',St F W w' (f (.row el k A' (n+m) c' (xs ++ ys)))->yH A'->RW P ops Q rest (yU e d (.slice A' (n+m) c')) w') :
  RW P ops Q (⟨d,.call ⟨.builtin .append,#[s,x],#[t,t]⟩,ty,ps,af,none⟩::rest) e w:=by
 obtain ⟨inf,hinf,hz0,hz1,hz2⟩:=info_parts hI
 have hk0:0 < k:=Nat.le_of_ble_eq_true hk
 have hz':=Nat.eq_of_beq_eq_true hz
 have hb1:(n+m) * bytes<=140737488355328:=Nat.le_trans (Nat.mul_le_mul_left _ (by omega)) hb
 have hb2:n+m<=140737488355328:=Nat.le_trans (Nat.le_mul_of_pos_right _ (by omega)) hb
 have hRow:=S.row hi
 have hpos:0 < ys.length:=by rw [hm]; exact Nat.mul_pos hm0 hk0
 obtain ⟨b,o,rfl⟩:=hR.someA hpos
 obtain ⟨v',w',hrun,ho,hg,_,hob⟩:=run_append_own_at (P:=P) w 0 t ty el inf z k bytes hu hinf hz0 hz1 hz2 hz' hk0 (.slice A n c) n xs hRow ⟨b,o,none⟩ m c2 ys hm
  (fun j u hu=>by rw [kF]; exact hR.cell rfl hu) (fun u hu=>List.all_eq_true.1 h1 u hu) (by unfold maxLen; omega) hb1 (by omega)
 obtain ⟨A',c',rfl⟩:=Own.form ho
 have hRow':Row w' el k A' (n+m) c' (xs ++ ys):=ho
 refine rQ (v:=.slice A' (n+m) c') (w':=w') ?_ (hr A' c' w' ?_ (hRow'.someA (by omega)))
 ·simp [execOp,resolve,invoke,builtin,hs,hx,hrun]
 ·refine S.set hi (hf _) (Fr.of_grown (F:=fun g=>kZ A g) hg (fun g e=>?_)) (fun g e=>.inl e) hRow' (fun g e=>?_)
  ·cases A with
   | none=>cases e
   | some a=>exact e
  ·have e':(Value.slice A' (n+m) c').ownBlock=some g:=by
    cases A' with
    | none=>cases e
    | some a=>exact e
   rw [e'] at hob
   rcases hob with h | h
   ·left
    cases A with
    | none=>cases h
    | some a=>exact h.symm
   ·injection h with h; right; omega
theorem p5 {t el:TypeId} {x y:Operand} {k bytes n c:Nat} {kl kc:IntKind} {z:Value} {m p:Int} (hu:P.underlying t=some (.slice el)) (hI:(P.info? el).map (fun i=>(i.zero,i.size,i.bytes))=some (some z,k,bytes)) (hz:Nat.beq z.cells.size k=true)
  (hx:ev e x=.int kl m) (hy:ev e y=.int kc p) (hm:m=(n:Nat)) (hp:p=(c:Nat)) (hnc:n<=c) (hb:c * (bytes+1)<=140737488355328) (S:St F W w L)
  (hr:∀ A w',Gr w w'->St F W w' (.row el k A n c (List.replicate n z.cells.toList).flatten::L)->yH A->RW P ops Q rest (yU e d (.slice A n c)) w') :
  RW P ops Q (⟨d,.makeSlice t x y,ty,ps,af,none⟩::rest) e w:=by
 have h:=jbc (P:=P) (w:=w) (d:=d) (ty:=ty) (ps:=ps) (af:=af) (e:=e) hu hI hz hx hy hm hp hnc hb
 have hz':=Nat.eq_of_beq_eq_true hz
 have hb2:c<=140737488355328:=Nat.le_trans (Nat.le_mul_of_pos_right _ (by omega)) hb
 refine rW h S fun w' g S'=>hr _ w' g ?_ (uB _ _)
 have hlen:∀ q:Nat,(List.replicate q z.cells.toList).flatten.length=q * k:=fun q=>by simp [hz']
 have hrow:Row w' el k (some ⟨w.heap.size,0,none⟩) n c (List.replicate n z.cells.toList).flatten:=by
  refine Row.mk_ (S'.blk (i:=0) rfl) hnc (hlen c) ?_ (by unfold maxLen; omega)
  have e1:c=n+(c - n):=by omega
  rw [e1,<-List.replicate_append_replicate,List.flatten_append,List.take_left' (hlen n)]
 exact S'.set (i:=0) rfl rfl (Fr.refl No w') (fun _ h=>h.elim) hrow (fun b hb=>.inl (by injection hb with hb; exact hb.symm))
theorem vU {t el:TypeId} {x y:Operand} {bytes n c:Nat} {kl kc:IntKind} {z:Value} {m p:Int} (hu:P.underlying t=some (.slice el)) (hI:(P.info? el).map (fun i=>(i.zero,i.size,i.bytes))=some (some z,1,bytes)) (hz:z.cells=#[z])
  (hx:ev e x=.int kl m) (hy:ev e y=.int kc p) (hm:m=(n:Nat)) (hp:p=(c:Nat)) (hnc:n<=c) (hb:c * (bytes+1)<=140737488355328) (S:St F W w L)
  (hr:∀ A w',Gr w w'->St F W w' (.row el 1 A n c (List.replicate n z)::L)->yH A->RW P ops Q rest (yU e d (.slice A n c)) w') :
  RW P ops Q (⟨d,.makeSlice t x y,ty,ps,af,none⟩::rest) e w:=by
 refine p5 hu hI (by rw [hz]; rfl) hx hy hm hp hnc hb S fun A w' g S' hA=>hr A w' g ?_ hA
 have e2:z.cells.toList=[z]:=by rw [hz]
 rw [e2,jcE] at S'
 exact S'
theorem yF {t el : TypeId} {n k : Nat} {parts : List (Nat × Operand)} {z : Value} {l0 l : List Value} (hu : P.underlying t = some (.slice el)) (hs : ∀ w, (sizeOf el).run P w = .ok k w) (hz : ∀ w, (zeroValue el).run P w = .ok z w) (hk : z.cells.toList.length = k) (hk0 : Nat.beq (n * k) 0 = false) (hn : Nat.ble (n * k) 16777216 = true)
    (h1 : lay (fun i => some (i * k, k)) ((List.replicate n z.cells.toList).flatten) (evp e parts) = some l0) (h2 : fzl l0 = some l) (hl : Nat.beq l.length (n * k) = true) (S : St F W w L)
    (hr : ∀ A w', Gr w w' → St F W w' (.row el k A n n l :: L) → yH A → RW P ops Q rest (yU e d (.slice A n n)) w') :
    RW P ops Q (⟨d, .buildSlice t n parts.toArray, ty, ps, af, none⟩ :: rest) e w := by
  refine rW (k8 hu hs hz hk hk0 hn h1 h2) S fun w' g S' => hr _ w' g ?_ (uB _ _)
  have hnk : n * k ≠ 0 := by intro h; rw [h] at hk0; cases hk0
  have hk1 : 0 < k := by rcases Nat.eq_zero_or_pos k with h | h; · rw [h] at hnk; simp at hnk
                         · exact h
  have hle : n ≤ n * k := Nat.le_mul_of_pos_right _ hk1
  have hrow : Row w' el k (some ⟨w.heap.size, 0, none⟩) n n l :=
    Row.of_blk (S'.blk (i := 0) rfl) (Nat.eq_of_beq_eq_true hl) (by have := Nat.le_of_ble_eq_true hn; unfold maxLen; omega)
  exact S'.set (i := 0) rfl rfl (Fr.refl No w') (fun _ h => h.elim) hrow (fun b hb => .inl (by injection hb with hb; exact hb.symm))
theorem x9 {t el:TypeId} {k:Nat} (hu:P.underlying t=some (.slice el)) (hs:∀ w,(sizeOf el).run P w=.ok k w) (S:St F W w L)
  (hr:∀ A w',Gr w w'->St F W w' (.row el k A 0 0 []::L)->yH A->RW P ops Q rest (yU e d (.slice A 0 0)) w') :
  RW P ops Q (⟨d,.buildSlice t 0 #[],ty,ps,af,none⟩::rest) e w:=by
 refine rW (jfj hu hs) S fun w' g S'=>hr _ w' g ?_ (uB _ _)
 have hrow:Row w' el k (some ⟨w.heap.size,0,none⟩) 0 0 []:=Row.of_blk (S'.blk (i:=0) rfl) (by simp) (Nat.zero_le _)
 exact S'.set (i:=0) rfl rfl (Fr.refl No w') (fun _ h=>h.elim) hrow (fun b hb=>.inl (by injection hb with hb; exact hb.symm))
end
theorem SepL.sub {X:Nat->Prop} {w:World}:∀ {L' L:List HA},L'.Sublist L->SepL X w L->SepL X w L'
 | _,_,.slnil,_=>trivial
 | _,_,.cons _ h,S=>SepL.sub h S.2.2
 | _,_,.cons_cons _ h,S=>⟨S.1,fun g hg h' hh=>S.2.1 g hg h' (h.subset hh),SepL.sub h S.2.2⟩
theorem St.sub {F:Nat->Prop} {W w:World} {L L':List HA} (S:St F W w L) (h:L'.Sublist L):St F W w L':=⟨S.fr,S.sep.sub h⟩
theorem St.pushNil {F:Nat->Prop} {W w:World} {L:List HA} (S:St F W w L) (el k:Nat):St F W w (.row el k none 0 0 []::L) :=
 S.push (Gr.refl w) (h:=.row el k none 0 0 []) (Row.nil _ _ _) (fun g hg=>by cases hg)
def xS (W:World) (A:Option Addr):Prop:=∀ g,kZ A g->W.heap.size<=g
def qR (mk:Value->Value) (el k n:Nat) (xs:List Value) (w:World):Value->World->Prop:=fun v' w'=>∃ A c,v'=mk (.slice A n c)/\Row w' el k A n c xs/\xS w A/\Gr w w'
theorem St.pushRow {F:Nat->Prop} {W w w':World} {L:List HA} (S:St F W w L) {el k n c:Nat} {A:Option Addr} {xs:List Value} (hR:Row w' el k A n c xs) (hf:xS w A) (g:Gr w w'):St F W w' (.row el k A n c xs::L) :=
 S.push g (h:=.row el k A n c xs) hR hf
theorem SepL.fresh {W w:World} {i el k n c:Nat} {A:Option Addr} {xs:List Value} {L:List HA} (S:St No W w L) (hi:qP L i=some (.row el k A n c xs)):xS W A:=fun g hg=>((S.sep.get hi).2 g hg).elim (fun h=>h.elim) id
theorem St.retNew {W w:World} {i el k n c:Nat} {A:Option Addr} {xs:List Value} {L:List HA} {mk:Value->Value} (S:St No W w L) (hi:qP L i=some (.row el k A n c xs)):qR mk el k n xs W (mk (.slice A n c)) w :=
 ⟨A,c,rfl,S.row hi,SepL.fresh S hi,S.out⟩
end
section
open Go.RowKit
def kN (v:Int):Bool:=decide (-2147483648<=v) && decide (v<=2147483647)
theorem gO (v:Int):kN v=true ↔ -2147483648<=v/\v<=2147483647:=by simp [kN]
theorem fE (n:Int) (h:-2147483648<=n/\n<=2147483647):IntKind.i32.wrap n=n:=IntWalk.i32_in n h
theorem jco (v:Int) (W:World):Fn Tryz.prog 164 [.int .i64 v] W (yK (.bool (kN v)) W):=by
 refine kK Tryz.func164 rfl Tryz.results164 Tryz.ntmps164 (by kernel_rfl) (by kernel_rfl) ?_
 repeat refine jJ ?_
 refine jI ?_
 refine jE (jA rfl) ?_
 first | refine jR ?_ | (refine jG ?_; show CW _ _ _ _ _ _) | refine jG ?_
 repeat refine jJ ?_
 refine jI ?_
 refine jE (jA rfl) ?_
 first | refine jE (yP (b:=true) rfl (decide_eq_true (by omega))) ?_ | refine jE (yP (b:=false) rfl (decide_eq_false (by omega))) ?_ | refine jE (jA rfl) ?_
 refine jE (jA rfl) ?_
 refine jka 5 rfl (fun h=>?_) (fun h=>?_)
 ·first | refine jK rfl ?_ | (refine jQ rfl ?_; refine jE (jA rfl) ?_)
  first | refine jK rfl ?_ | (refine jQ rfl ?_; (first | refine jE (yP (b:=true) rfl (decide_eq_true (by omega))) ?_ | refine jE (yP (b:=false) rfl (decide_eq_false (by omega))) ?_ | refine jE (jA rfl) ?_))
  iterate 2 refine jE (jA rfl) ?_
  first | refine jR ?_ | (refine jG ?_; show CW _ _ _ _ _ _) | refine jG ?_
  exact kO (yD rfl ⟨be (by simp [kN] at h ⊢; omega),Gr.refl _⟩)
 ·first | refine jK rfl ?_ | (refine jQ rfl ?_; refine jE (jA rfl) ?_)
  first | refine jK rfl ?_ | (refine jQ rfl ?_; (first | refine jE (yP (b:=true) rfl (decide_eq_true (by omega))) ?_ | refine jE (yP (b:=false) rfl (decide_eq_false (by omega))) ?_ | refine jE (jA rfl) ?_))
  iterate 2 refine jE (jA rfl) ?_
  first | refine jR ?_ | (refine jG ?_; show CW _ _ _ _ _ _) | refine jG ?_
  exact kO (yD rfl ⟨be (by simp [kN] at h ⊢; omega),Gr.refl _⟩)
theorem jbE (w h:Int) (hw:1<=w/\w<=16) (hh:1<=h/\h<=16) (W:World):Fn Tryz.prog 163 [.int .i64 w,.int .i64 h] W (yK (.bool true) W):=by
 refine kK Tryz.func163 rfl Tryz.results163 Tryz.ntmps163 (by kernel_rfl) (by kernel_rfl) ?_
 repeat refine jJ ?_
 refine jI ?_
 refine jE (jA rfl) ?_
 first | refine jR ?_ | (refine jG ?_; show CW _ _ _ _ _ _) | refine jG ?_
 repeat refine jJ ?_
 refine jI ?_
 refine jE (jA rfl) ?_
 first | refine jE (yP (b:=true) rfl (decide_eq_true (by omega))) ?_ | refine jE (yP (b:=false) rfl (decide_eq_false (by omega))) ?_ | refine jE (jA rfl) ?_
 refine jE (jA rfl) ?_
 first | refine jK rfl ?_ | (refine jQ rfl ?_; refine jE (jA rfl) ?_)
 first | refine jK rfl ?_ | (refine jQ rfl ?_; (first | refine jE (yP (b:=true) rfl (decide_eq_true (by omega))) ?_ | refine jE (yP (b:=false) rfl (decide_eq_false (by omega))) ?_ | refine jE (jA rfl) ?_))
 iterate 2 refine jE (jA rfl) ?_
 first | refine jK rfl ?_ | (refine jQ rfl ?_; refine jE (jA rfl) ?_)
 first | refine jK rfl ?_ | (refine jQ rfl ?_; (first | refine jE (yP (b:=true) rfl (decide_eq_true (by omega))) ?_ | refine jE (yP (b:=false) rfl (decide_eq_false (by omega))) ?_ | refine jE (jA rfl) ?_))
 iterate 2 refine jE (jA rfl) ?_
 first | refine jK rfl ?_ | (refine jQ rfl ?_; refine jE (jA rfl) ?_)
 first | refine jK rfl ?_ | (refine jQ rfl ?_; (first | refine jE (yP (b:=true) rfl (decide_eq_true (by omega))) ?_ | refine jE (yP (b:=false) rfl (decide_eq_false (by omega))) ?_ | refine jE (jA rfl) ?_))
 iterate 2 refine jE (jA rfl) ?_
 first | refine jR ?_ | (refine jG ?_; show CW _ _ _ _ _ _) | refine jG ?_
 exact kO (yD rfl ⟨rfl,Gr.refl _⟩)
theorem jdX (x y:Int) (W:World):Fn Tryz.prog 130 [.agg #[.int .i64 x,.int .i64 y]] W (yK (.agg #[.int .i64 x,.int .i64 y,.int .i64 x,.int .i64 y]) W):=by
 refine kK Tryz.func130 rfl Tryz.results130 Tryz.ntmps130 (by kernel_rfl) (by kernel_rfl) ?_
 have G0:=Gr.refl W
 repeat refine jJ ?_
 refine jI ?_
 try have qb1_:=G0.le
 refine gA (jO rfl) ?_
 intro w1_ g1_ s1_ b1_
 have G0:=G0.trans g1_
 try have qb2_:=G0.le
 try have qb2_:=b1_.lt
 refine gA (jL Tryz.zeroValue27 rfl) ?_
 intro w2_ g2_ s2_ b2_
 have G0:=G0.trans g2_
 have b1_:=b1_.gr g2_
 first | refine jR ?_ | (refine jG ?_; show CW _ _ _ _ _ _) | refine jG ?_
 repeat refine jJ ?_
 refine jI ?_
 refine jE (jD Tryz.underlying23 rfl Tryz.sizeOf2 rfl rfl) ?_
 first | refine j3 (jB Tryz.underlying2 rfl rfl b2_ rfl) ?_ | refine j3 (jB Tryz.underlying2 rfl rfl b1_ rfl) ?_
 refine jE (jD Tryz.underlying23 rfl Tryz.sizeOf2 rfl rfl) ?_
 first | refine j3 (jB Tryz.underlying2 rfl rfl b2_ rfl) ?_ | refine j3 (jB Tryz.underlying2 rfl rfl b1_ rfl) ?_
 refine jE (jD Tryz.underlying23 rfl Tryz.sizeOf2 rfl rfl) ?_
 first | refine j3 (jB Tryz.underlying2 rfl rfl b2_ rfl) ?_ | refine j3 (jB Tryz.underlying2 rfl rfl b1_ rfl) ?_
 refine jE (jD Tryz.underlying23 rfl Tryz.sizeOf2 rfl rfl) ?_
 first | refine j3 (jB Tryz.underlying2 rfl rfl b2_ rfl) ?_ | refine j3 (jB Tryz.underlying2 rfl rfl b1_ rfl) ?_
 refine jE (jN (pl:=[(0,1),(1,1),(2,1),(3,1)]) Tryz.underlying27 Tryz.zeroValue27 (fun w=>by kernel_rfl) rfl rfl) ?_
 refine sJ (n:=4) (Tryz.sizeOf27 _) rfl rfl rfl b2_ rfl rfl ?_
 intro w3_ g3_ s3_ b3_
 have G0:=G0.store g3_ (by omega)
 have b1_:=b1_.grown g3_ (by first | (intro hh; simp only [Option.some.injEq] at hh; omega) | (intro hh; have:=Option.some.inj hh; omega) | exact fun hh=>absurd (Option.some.inj hh) (b1_.ne_ b2_ (by decide)))
 have b2_:=b3_
 first | refine jR ?_ | (refine jG ?_; show CW _ _ _ _ _ _) | refine jG ?_
 refine kO (v8 Tryz.underlying27 rfl (Tryz.sizeOf27 _) rfl b2_ rfl rfl ⟨rfl,G0⟩)
theorem gJ (b:Nat) (w h x0 y0 x1 y1:Int) (v:Value) (hw:1<=w/\w<=16) (hh:1<=h/\h<=16) (W:World) (hB:Blk W b 247 [.int .i64 w,.int .i64 h,v]) :
  Fn Tryz.prog 129 [.pointer (some ⟨b,0,none⟩),.agg #[.int .i64 x0,.int .i64 y0,.int .i64 x1,.int .i64 y1]] W (yK (.int .i64 (kD x0 y0 x1 y1 w h)) W):=by
 have G0:=Gr.refl W
 refine kK Tryz.func129 rfl Tryz.results129 Tryz.ntmps129 (by kernel_rfl) (by kernel_rfl) ?_
 repeat refine jJ ?_
 refine jI ?_
 try have qb1_:=hB.lt
 try have qb1_:=G0.le
 refine gA (jO rfl) ?_
 intro w1_ g1_ s1_ b1_
 have hB:=hB.gr g1_
 have G0:=G0.trans g1_
 refine jE (jA rfl) ?_
 first | refine jR ?_ | (refine jG ?_; show CW _ _ _ _ _ _) | refine jG ?_
 repeat refine jJ ?_
 refine jI ?_
 refine jE (jA rfl) ?_
 refine jE (gY Tryz.underlying133 rfl rfl) ?_
 first | refine jR ?_ | (refine jG ?_; show CW _ _ _ _ _ _) | refine jG ?_
 repeat refine jJ ?_
 refine jM rfl ?_
 refine j5 ?_
 try show CW _ _ _ _ _ _
 repeat refine jJ ?_
 refine yB (C:=fun wq=>Gr w1_ wq) [0,1,2,3,4,5,6,7,8,9,10] [] (by kernel_rfl) (by kernel_rfl) (Gr.drew _) ?_
 simp only [j6,List.drop_succ_cons,List.drop_zero]
 first | refine jV (fun wq hq=>jT Tryz.underlying27 rfl (Tryz.sizeOf27 _) rfl (b1_.gr hq) rfl rfl) ?_ | refine jV (fun wq hq=>jT Tryz.underlying27 rfl (Tryz.sizeOf27 _) rfl (hB.gr hq) rfl rfl) ?_
 iterate 2 refine jW (jA rfl) ?_
 refine jW (jD Tryz.underlying247 rfl Tryz.sizeOf2 rfl rfl) ?_
 first | refine jV (fun wq hq=>jB Tryz.underlying2 rfl rfl (b1_.gr hq) rfl) ?_ | refine jV (fun wq hq=>jB Tryz.underlying2 rfl rfl (hB.gr hq) rfl) ?_
 iterate 2 refine jW (jA rfl) ?_
 refine jW (jD Tryz.underlying247 rfl Tryz.sizeOf2 rfl rfl) ?_
 first | refine jV (fun wq hq=>jB Tryz.underlying2 rfl rfl (b1_.gr hq) rfl) ?_ | refine jV (fun wq hq=>jB Tryz.underlying2 rfl rfl (hB.gr hq) rfl) ?_
 refine y8 rfl (fun wq hq=>(zI x0 y0 x1 y1 w h (by omega) (by omega) wq).mono (fun _ _ ⟨hv,hg⟩=>⟨hv,hq.trans hg⟩)) ?_
 refine jW (jA rfl) ?_
 refine yJ ?_
 intro w2_ g2_
 have hB:=hB.gr g2_
 have G0:=G0.trans g2_
 have b1_:=b1_.gr g2_
 first | refine jR ?_ | (refine jG ?_; show CW _ _ _ _ _ _) | refine jG ?_
 refine kO (yD rfl ⟨rfl,G0⟩)
theorem jj3 (w h v:Int) (hw:1<=w/\w<=16) (hh:1<=h/\h<=16) (hv:-2147483648<=v/\v<=2147483647) (W:World):Fn Tryz.prog 104 [.int .i64 w,.int .i64 h,.int .i64 v] W
  (fun r w'=>∃ b,r=.tuple #[.pointer (some ⟨b,0,none⟩),.int .i64 0]/\W.heap.size<=b/\Blk w' b 247 [.int .i64 w,.int .i64 h,.iface 291 (.int .i32 v)]/\Gr W w'):=by
 have G0:=Gr.refl W
 refine kK Tryz.func104 rfl Tryz.results104 Tryz.ntmps104 (by kernel_rfl) (by kernel_rfl) ?_
 repeat refine jJ ?_
 refine jI ?_
 iterate 2 refine jE (jA rfl) ?_
 first | refine jR ?_ | (refine jG ?_; show CW _ _ _ _ _ _) | refine jG ?_
 repeat refine jJ ?_
 refine jS ?_
 repeat refine jJ ?_
 refine jI ?_
 refine jE (jA rfl) ?_
 first | refine jE (yP (b:=true) rfl (decide_eq_true (by omega))) ?_ | refine jE (yP (b:=false) rfl (decide_eq_false (by omega))) ?_ | refine jE (jA rfl) ?_
 refine jE (jA rfl) ?_
 first | refine jK rfl ?_ | (refine jQ rfl ?_; refine jE (jA rfl) ?_)
 first | refine jK rfl ?_ | (refine jQ rfl ?_; (first | refine jE (yP (b:=true) rfl (decide_eq_true (by omega))) ?_ | refine jE (yP (b:=false) rfl (decide_eq_false (by omega))) ?_ | refine jE (jA rfl) ?_))
 iterate 2 refine jE (jA rfl) ?_
 first | refine jK rfl ?_ | (refine jQ rfl ?_; refine jE (jA rfl) ?_)
 first | refine jK rfl ?_ | (refine jQ rfl ?_; (first | refine jE (yP (b:=true) rfl (decide_eq_true (by omega))) ?_ | refine jE (yP (b:=false) rfl (decide_eq_false (by omega))) ?_ | refine jE (jA rfl) ?_))
 iterate 2 refine jE (jA rfl) ?_
 first | refine jK rfl ?_ | (refine jQ rfl ?_; refine jE (jA rfl) ?_)
 first | refine jK rfl ?_ | (refine jQ rfl ?_; (first | refine jE (yP (b:=true) rfl (decide_eq_true (by omega))) ?_ | refine jE (yP (b:=false) rfl (decide_eq_false (by omega))) ?_ | refine jE (jA rfl) ?_))
 iterate 2 refine jE (jA rfl) ?_
 first | refine jK rfl ?_ | (refine jQ rfl ?_; refine jE (jA rfl) ?_)
 first | refine jK rfl ?_ | (refine jQ rfl ?_; refine jE (jA rfl) ?_)
 refine jQ rfl ?_
 refine jC rfl (jbE w h hw hh _) ?_
 rintro _ w1 ⟨rfl,g1⟩
 have G0:=G0.trans g1
 first | refine jK rfl ?_ | (refine jQ rfl ?_; refine jE (jA rfl) ?_)
 iterate 2 refine jE (jA rfl) ?_
 first | refine jR ?_ | (refine jG ?_; show CW _ _ _ _ _ _) | refine jG ?_
 repeat refine jJ ?_
 refine jM rfl ?_
 repeat refine jJ ?_
 refine jI ?_
 refine jE (jA rfl) ?_
 refine jC rfl (jco v _) ?_
 rintro _ w2 ⟨rfl,g2⟩
 have G0:=G0.trans g2
 iterate 2 refine jE (jA rfl) ?_
 first | refine jR ?_ | (refine jG ?_; show CW _ _ _ _ _ _) | refine jG ?_
 repeat refine jJ ?_
 refine jM (by rw [(gO v).2 hv]; rfl) ?_
 refine j5 ?_
 try show CW _ _ _ _ _ _
 repeat refine jJ ?_
 refine jI ?_
 iterate 3 refine jE (jA rfl) ?_
 refine jE (yR Tryz.underlying2 Tryz.underlying291 rfl (fE _ hv)) ?_
 refine jE (qU Tryz.underlying291 rfl rfl) ?_
 refine jE (jN (pl:=[(0,1),(1,1),(2,1)]) Tryz.underlying247 Tryz.zeroValue247 (fun w=>by kernel_rfl) rfl rfl) ?_
 try have qb1_:=G0.le
 refine gA (jO rfl) ?_
 intro w1_ g1_ s1_ b1_
 have G0:=G0.trans g1_
 iterate 2 refine jE (jA rfl) ?_
 first | refine jR ?_ | (refine jG ?_; show CW _ _ _ _ _ _) | refine jG ?_
 exact kO (kY rfl rfl ⟨_,rfl,by have:=G0.le; omega,b1_,G0⟩)
def kA (n:Nat) (c:Nat->Int):List Value:=(List.range n).map fun i=>.int .i32 (c i)
theorem zA (n:Nat) (c:Nat->Int):(kA n c).length=n:=by simp [kA]
theorem fJ {n:Nat} {c:Nat->Int} {i:Nat} (h:i < n):(kA n c)[i]?=some (.int .i32 (c i)):=by simp [kA,h]
theorem jdL {n:Nat} {c c':Nat->Int} {j:Nat} {v:Int} (h:∀ i,i < n->c' i=if i=j then v else c i):(kA n c).set j (.int .i32 v)=kA n c':=by
 apply List.ext_getElem?
 intro i
 rw [List.getElem?_set]
 by_cases hi:i < n
 ·rw [fJ (c:=c') hi,h i hi]
  by_cases hij:j=i
  ·subst hij; simp [zA,hi]
  ·rw [if_neg hij,fJ hi,if_neg (fun e=>hij e.symm)]
 ·rw [List.getElem?_eq_none (l:=kA n c') (by rw [zA]; omega),List.getElem?_eq_none (l:=kA n c) (by rw [zA]; omega)]
  split
  ·split
   ·rename_i h1 h2; rw [zA] at h2; omega
   ·rfl
  ·rfl
theorem xV {n:Nat} {c c':Nat->Int} (h:∀ i,i < n->c i=c' i):kA n c=kA n c':=by
 unfold kA
 exact List.map_congr_left fun i hi=>by rw [h i (List.mem_range.1 hi)]
theorem jbw {n:Nat} {c:Nat->Int} {x:Int} (h:∀ i,i < n->c i=x):kA n c=List.replicate n (.int .i32 x):=by
 rw [List.eq_replicate_iff]
 refine ⟨zA n c,fun v hv=>?_⟩
 obtain ⟨i,hi,rfl⟩:=List.mem_map.1 hv
 rw [h i (List.mem_range.1 hi)]
def SlabIs (w:World) (b:Nat) (R:Option Nat) (sw sh:Nat) (c:Nat->Int):Prop :=
 (∀ i,i < sw * sh->-2147483648<=c i/\c i<=2147483647)/\match R with
 | none=>∃ x:Int,Blk w b 247 [.int .i64 sw,.int .i64 sh,.iface 291 (.int .i32 x)]/\(-2147483648<=x/\x<=2147483647)/\∀ i,i < sw * sh->c i=x
 | some g=>∃ cap,Blk w b 247 [.int .i64 sw,.int .i64 sh,.iface 428 (.slice (some ⟨g,0,none⟩) (sw * sh) cap)]/\Row w 21 1 (some ⟨g,0,none⟩) (sw * sh) cap (kA (sw * sh) c)
theorem jfm (x : Value) (w : World) : (method (Tryz.prog.types.size + Made.depth) 291 x "hachure/slab.at").run Tryz.prog w = .ok (390, x) w := by kernel_rfl
theorem jdx (x : Value) (w : World) : (method (Tryz.prog.types.size + Made.depth) 428 x "hachure/slab.at").run Tryz.prog w = .ok (391, x) w := by kernel_rfl
theorem jhL (x i:Int) (hx:-2147483648<=x/\x<=2147483647) (W:World):Fn Tryz.prog 390 [.int .i32 x,.int .i64 i] W (yK (.int .i64 x) W):=by
 refine kK Tryz.func390 rfl Tryz.results390 Tryz.ntmps390 (by kernel_rfl) (by kernel_rfl) ?_
 repeat refine jJ ?_
 refine jI ?_
 refine jE (jA rfl) ?_
 first | refine jR ?_ | (refine jG ?_; show CW _ _ _ _ _ _) | refine jG ?_
 repeat refine jJ ?_
 refine jI ?_
 refine jE (jA rfl) ?_
 refine jE (yR Tryz.underlying291 Tryz.underlying2 rfl (IntWalk.i64_in _ (by omega))) ?_
 refine jE (jA rfl) ?_
 first | refine jR ?_ | (refine jG ?_; show CW _ _ _ _ _ _) | refine jG ?_
 exact kO (yD rfl ⟨rfl,Gr.refl _⟩)
theorem jeW (A:Option Addr) (n cap:Nat) (i x:Int) (l:List Value) (hx:-2147483648<=x/\x<=2147483647) (W:World) (hA:Rd W A l) (sa_A:yH A) (h0:0<=i) (h1:i < n) (hl:l[i.toNat]?=some (.int .i32 x)) :
  Fn Tryz.prog 391 [.slice A n cap,.int .i64 i] W (yK (.int .i64 x) W):=by
 have S:=St.start W
 refine kK Tryz.func391 rfl Tryz.results391 Tryz.ntmps391 (by kernel_rfl) (by kernel_rfl) ?_
 repeat refine jJ ?_
 refine jI ?_
 refine jE (jA rfl) ?_
 first | refine jR ?_ | (refine jG ?_; show CW _ _ _ _ _ _) | refine jG ?_
 repeat refine jJ ?_
 refine jI ?_
 iterate 2 refine jE (jA rfl) ?_
 refine jE (kV Tryz.underlying428 Tryz.sizeOf21 rfl rfl sa_A (by omega) (by omega)) ?_
 refine j3 (j7 Tryz.underlying21 rfl rfl (hA.gr S.out) (by simpa using hl)) ?_
 refine jE (yR Tryz.underlying21 Tryz.underlying2 rfl (IntWalk.i64_in _ (by omega))) ?_
 refine jE (jA rfl) ?_
 first | refine jR ?_ | (refine jG ?_; show CW _ _ _ _ _ _) | refine jG ?_
 repeat refine jJ ?_
 refine kO ?_
 repeat first | refine uT ?_ | refine xE ?_
 exact yD rfl ⟨rfl,S.out⟩
theorem jjy {sw sh:Nat} {x y:Int} (hx:0<=x/\x < sw) (hy:0<=y/\y < sh):0<=y * sw+x/\y * sw+x < sw * sh:=by
 obtain ⟨a,rfl⟩:=Int.eq_ofNat_of_zero_le hx.1
 obtain ⟨b,rfl⟩:=Int.eq_ofNat_of_zero_le hy.1
 have h1:b+1<=sh:=by omega
 have h2:(b+1) * sw<=sh * sw:=Nat.mul_le_mul_right _ h1
 have h3:a < sw:=by omega
 rw [Nat.succ_mul,Nat.mul_comm sh sw] at h2
 constructor
 ·have:0<=((b * sw+a:Nat):Int):=Int.natCast_nonneg _
  push_cast at this; exact this
 ·have h4:b * sw+a < sw * sh:=by omega
  have:((b * sw+a:Nat):Int) < ((sw * sh:Nat):Int):=by exact_mod_cast h4
  push_cast at this; exact this
theorem jbA {x y w h:Int} (hw:1<=w/\w<=1024) (hh:1<=h/\h<=1024) (hx:0<=x/\x < w) (hy:0<=y/\y < h):kD x y x y w h=0:=by
 have e1:yQ (w - 1) 1024=true:=by simp [yQ]; omega
 have e2:yQ (h - 1) 1024=true:=by simp [yQ]; omega
 have e3:yQ x w=true:=by simp [yQ]; omega
 have e4:yQ y h=true:=by simp [yQ]; omega
 simp [kD,e1,e2,e3,e4]
theorem jjL (b:Nat) (R:Option Nat) (sw sh:Nat) (c:Nat->Int) (x y:Int) (hw:1<=sw/\sw<=16) (hh:1<=sh/\sh<=16) (hx:0<=x/\x < sw) (hy:0<=y/\y < sh) (W:World) (hS:SlabIs W b R sw sh c) :
  Fn Tryz.prog 64 [.pointer (some ⟨b,0,none⟩),.agg #[.int .i64 x,.int .i64 y]] W (yK (.tuple #[.int .i64 (c (y * sw+x).toNat),.int .i64 0]) W):=by
 have hin:=jjy hx hy
 have hsz:sw * sh<=16 * 16:=Nat.mul_le_mul hw.2 hh.2
 have hyw:0<=y * sw/\y * sw<=256:=by
  constructor
  ·exact Int.mul_nonneg hy.1 (by omega)
  ·have:((sw * sh:Nat):Int)<=256:=by exact_mod_cast hsz
   push_cast at this; omega
 have hnat:(y * sw+x).toNat < sw * sh:=by
  have:((sw * sh:Nat):Int)=(sw:Int) * sh:=by push_cast; rfl
  omega
 have hwi:=jbA (w:=sw) (h:=sh) (by omega) (by omega) hx hy
 have G0:=Gr.refl W
 obtain ⟨hr,hS⟩:=hS
 have hrc:=hr _ hnat
 cases R with
 | none =>
  obtain ⟨v,hB,hv,hc⟩:=hS
  have hcv:=hc _ hnat
  refine kK Tryz.func64 rfl Tryz.results64 Tryz.ntmps64 (by kernel_rfl) (by kernel_rfl) ?_
  repeat refine jJ ?_
  refine jI ?_
  try have qb1_:=hB.lt
  try have qb1_:=G0.le
  refine gA (jO rfl) ?_
  intro w1_ g1_ s1_ b1_
  have hB:=hB.gr g1_
  have G0:=G0.trans g1_
  iterate 2 refine jE (jA rfl) ?_
  first | refine jR ?_ | (refine jG ?_; show CW _ _ _ _ _ _) | refine jG ?_
  repeat refine jJ ?_
  refine jI ?_
  refine jE (jA rfl) ?_
  first | refine j3 (jT Tryz.underlying23 rfl (Tryz.sizeOf23 _) rfl b1_ rfl rfl) ?_ | refine j3 (jT Tryz.underlying23 rfl (Tryz.sizeOf23 _) rfl hB rfl rfl) ?_
  refine jC rfl (jdX x y _) ?_
  rintro _ w1 ⟨rfl,g1⟩
  have hB:=hB.gr g1
  have G0:=G0.trans g1
  have b1_:=b1_.gr g1
  refine jC rfl (gJ b sw sh x y x y _ (by omega) (by omega) _ hB) ?_
  rintro _ w2 ⟨rfl,g2⟩
  have hB:=hB.gr g2
  have G0:=G0.trans g2
  have b1_:=b1_.gr g2
  refine jE (jA rfl) ?_
  first | refine jR ?_ | (refine jG ?_; show CW _ _ _ _ _ _) | refine jG ?_
  repeat refine jJ ?_
  refine jI ?_
  refine jE (jA rfl) ?_
  first | refine jE (yP (b:=true) rfl (bne_iff_ne.2 (by omega))) ?_ | refine jE (yP (b:=false) rfl (bne_eq_false_iff_eq.2 (by omega))) ?_ | refine jE (jA rfl) ?_
  first | refine jR ?_ | (refine jG ?_; show CW _ _ _ _ _ _) | refine jG ?_
  repeat refine jJ ?_
  refine jM (by rw [hwi]; rfl) ?_
  refine j5 ?_
  try show CW _ _ _ _ _ _
  repeat refine jJ ?_
  refine yB (C:=fun wq=>Gr w2 wq) [0,1,2,3,4,5,6,7,8,9,10,11,12,13,14,15,16,17,18] [] (by kernel_rfl) (by kernel_rfl) (Gr.drew _) ?_
  simp only [j6,List.drop_succ_cons,List.drop_zero]
  iterate 2 refine jW (jA rfl) ?_
  refine jW (jD Tryz.underlying247 rfl Tryz.sizeOf245 rfl rfl) ?_
  first | refine jV (fun wq hq=>jB Tryz.underlying245 rfl rfl (b1_.gr hq) rfl) ?_ | refine jV (fun wq hq=>jB Tryz.underlying245 rfl rfl (hB.gr hq) rfl) ?_
  refine jW (jD Tryz.underlying23 rfl Tryz.sizeOf2 rfl rfl) ?_
  first | refine jV (fun wq hq=>jB Tryz.underlying2 rfl rfl (b1_.gr hq) rfl) ?_ | refine jV (fun wq hq=>jB Tryz.underlying2 rfl rfl (hB.gr hq) rfl) ?_
  iterate 2 refine jW (jA rfl) ?_
  refine jW (jD Tryz.underlying247 rfl Tryz.sizeOf2 rfl rfl) ?_
  first | refine jV (fun wq hq=>jB Tryz.underlying2 rfl rfl (b1_.gr hq) rfl) ?_ | refine jV (fun wq hq=>jB Tryz.underlying2 rfl rfl (hB.gr hq) rfl) ?_
  refine jW (yI rfl (by omega)) ?_
  refine jW (jD Tryz.underlying23 rfl Tryz.sizeOf2 rfl rfl) ?_
  first | refine jV (fun wq hq=>jB Tryz.underlying2 rfl rfl (b1_.gr hq) rfl) ?_ | refine jV (fun wq hq=>jB Tryz.underlying2 rfl rfl (hB.gr hq) rfl) ?_
  refine jW (yI rfl (by omega)) ?_
  iterate 2 refine jW (jA rfl) ?_
  refine lY rfl (jfm _) rfl (fun wq hq=>(jhL v _ hv wq).mono (fun _ _ ⟨hv,hg⟩=>⟨hv,hq.trans hg⟩)) ?_
  iterate 2 refine jW (jA rfl) ?_
  refine yJ ?_
  intro w2_ g2_
  have hB:=hB.gr g2_
  have G0:=G0.trans g2_
  have b1_:=b1_.gr g2_
  first | refine jR ?_ | (refine jG ?_; show CW _ _ _ _ _ _) | refine jG ?_
  exact kO (kY rfl rfl ⟨by rw [hcv],G0⟩)
 | some g =>
  obtain ⟨cap,hB,hL⟩:=hS
  have hcv:=fJ (c:=c) hnat
  refine kK Tryz.func64 rfl Tryz.results64 Tryz.ntmps64 (by kernel_rfl) (by kernel_rfl) ?_
  repeat refine jJ ?_
  refine jI ?_
  try have qb1_:=hB.lt
  try have qb1_:=G0.le
  try have qb1_:=hL.lt
  refine gA (jO rfl) ?_
  intro w1_ g1_ s1_ b1_
  have hB:=hB.gr g1_
  have G0:=G0.trans g1_
  have hL:=hL.gr g1_
  iterate 2 refine jE (jA rfl) ?_
  first | refine jR ?_ | (refine jG ?_; show CW _ _ _ _ _ _) | refine jG ?_
  repeat refine jJ ?_
  refine jI ?_
  refine jE (jA rfl) ?_
  first | refine j3 (jT Tryz.underlying23 rfl (Tryz.sizeOf23 _) rfl b1_ rfl rfl) ?_ | refine j3 (jT Tryz.underlying23 rfl (Tryz.sizeOf23 _) rfl hL rfl rfl) ?_ | refine j3 (jT Tryz.underlying23 rfl (Tryz.sizeOf23 _) rfl hB rfl rfl) ?_
  refine jC rfl (jdX x y _) ?_
  rintro _ w1 ⟨rfl,g1⟩
  have hB:=hB.gr g1
  have G0:=G0.trans g1
  have hL:=hL.gr g1
  have b1_:=b1_.gr g1
  refine jC rfl (gJ b sw sh x y x y _ (by omega) (by omega) _ hB) ?_
  rintro _ w2 ⟨rfl,g2⟩
  have hB:=hB.gr g2
  have G0:=G0.trans g2
  have hL:=hL.gr g2
  have b1_:=b1_.gr g2
  refine jE (jA rfl) ?_
  first | refine jR ?_ | (refine jG ?_; show CW _ _ _ _ _ _) | refine jG ?_
  repeat refine jJ ?_
  refine jI ?_
  refine jE (jA rfl) ?_
  first | refine jE (yP (b:=true) rfl (bne_iff_ne.2 (by omega))) ?_ | refine jE (yP (b:=false) rfl (bne_eq_false_iff_eq.2 (by omega))) ?_ | refine jE (jA rfl) ?_
  first | refine jR ?_ | (refine jG ?_; show CW _ _ _ _ _ _) | refine jG ?_
  repeat refine jJ ?_
  refine jM (by rw [hwi]; rfl) ?_
  refine j5 ?_
  try show CW _ _ _ _ _ _
  repeat refine jJ ?_
  refine yB (C:=fun wq=>Gr w2 wq) [0,1,2,3,4,5,6,7,8,9,10,11,12,13,14,15,16,17,18] [] (by kernel_rfl) (by kernel_rfl) (Gr.drew _) ?_
  simp only [j6,List.drop_succ_cons,List.drop_zero]
  iterate 2 refine jW (jA rfl) ?_
  refine jW (jD Tryz.underlying247 rfl Tryz.sizeOf245 rfl rfl) ?_
  first | refine jV (fun wq hq=>jB Tryz.underlying245 rfl rfl (b1_.gr hq) rfl) ?_ | refine jV (fun wq hq=>jB Tryz.underlying245 rfl rfl (hL.gr hq) rfl) ?_ | refine jV (fun wq hq=>jB Tryz.underlying245 rfl rfl (hB.gr hq) rfl) ?_
  refine jW (jD Tryz.underlying23 rfl Tryz.sizeOf2 rfl rfl) ?_
  first | refine jV (fun wq hq=>jB Tryz.underlying2 rfl rfl (b1_.gr hq) rfl) ?_ | refine jV (fun wq hq=>jB Tryz.underlying2 rfl rfl (hL.gr hq) rfl) ?_ | refine jV (fun wq hq=>jB Tryz.underlying2 rfl rfl (hB.gr hq) rfl) ?_
  iterate 2 refine jW (jA rfl) ?_
  refine jW (jD Tryz.underlying247 rfl Tryz.sizeOf2 rfl rfl) ?_
  first | refine jV (fun wq hq=>jB Tryz.underlying2 rfl rfl (b1_.gr hq) rfl) ?_ | refine jV (fun wq hq=>jB Tryz.underlying2 rfl rfl (hL.gr hq) rfl) ?_ | refine jV (fun wq hq=>jB Tryz.underlying2 rfl rfl (hB.gr hq) rfl) ?_
  refine jW (yI rfl (by omega)) ?_
  refine jW (jD Tryz.underlying23 rfl Tryz.sizeOf2 rfl rfl) ?_
  first | refine jV (fun wq hq=>jB Tryz.underlying2 rfl rfl (b1_.gr hq) rfl) ?_ | refine jV (fun wq hq=>jB Tryz.underlying2 rfl rfl (hL.gr hq) rfl) ?_ | refine jV (fun wq hq=>jB Tryz.underlying2 rfl rfl (hB.gr hq) rfl) ?_
  refine jW (yI rfl (by omega)) ?_
  iterate 2 refine jW (jA rfl) ?_
  refine lY rfl (jdx _) rfl (fun wq hq=>(jeW _ _ cap _ _ _ hrc wq (hL.gr hq).rd (uB _ _) hin.1 (by push_cast; exact hin.2) hcv).mono (fun _ _ ⟨hv,hg⟩=>⟨hv,hq.trans hg⟩)) ?_
  iterate 2 refine jW (jA rfl) ?_
  refine yJ ?_
  intro w2_ g2_
  have hB:=hB.gr g2_
  have G0:=G0.trans g2_
  have hL:=hL.gr g2_
  have b1_:=b1_.gr g2_
  first | refine jR ?_ | (refine jG ?_; show CW _ _ _ _ _ _) | refine jG ?_
  exact kO (kY rfl rfl ⟨rfl,G0⟩)
end
section
open Go.RowKit
theorem jh8 (c:Int) (h0:0<=c) (h1:c < 4294967296):bits .and .u64 c 4294967295=c:=by
 rw [u64_and c 4294967295 h0 (by omega) (by omega) (by omega)]
 have:c.toNat &&& (4294967295:Int).toNat=c.toNat:=by
  have e:(4294967295:Int).toNat=2 ^ 32 - 1:=by decide
  rw [e,Nat.and_two_pow_sub_one_eq_mod]
  exact Nat.mod_eq_of_lt (by omega)
 rw [this]
 omega
section
variable {P : Program} {e : Nat → Value} {w : World} {d : Option Tmp} {ty : TypeId} {ps : String} {af : Array Edge}
theorem xP {op:BinOp} {t t':TypeId} {x y:Operand} {a b c:Int} (hx:ev e x=.int .u64 a) (hy:ev e y=.int .u64 b) (hop:(binOp op t (.int .u64 a) (.int .u64 b)).run P w=.ok (.int .u64 c) w):OpR P e ⟨d,.binOp op t x y t',ty,ps,af,none⟩ w (.int .u64 c):=by
 simp [OpR,execOp,hx,hy,eqGuard,hop]
theorem xJ {t:TypeId} {a b c:Int} (h:a * b=c) (hc:0<=c/\c < 18446744073709551616) (w:World):(binOp .mul t (.int .u64 a) (.int .u64 b)).run P w=.ok (.int .u64 c) w:=by
 have:IntKind.u64.wrap (a * b)=c:=by rw [h,IntKind.wrap_u64]; omega
 simp [binOp,Op.intArith,this]
theorem wP {t:TypeId} {a b c:Int} (h:a+b=c) (hc:0<=c/\c < 18446744073709551616) (w:World):(binOp .add t (.int .u64 a) (.int .u64 b)).run P w=.ok (.int .u64 c) w:=by
 have:IntKind.u64.wrap (a+b)=c:=by rw [h,IntKind.wrap_u64]; omega
 simp [binOp,Op.intArith,this]
theorem fZ {t:TypeId} {a:Int} (h0:0<=a) (h1:a < 4294967296) (w:World):(binOp .and t (.int .u64 a) (.int .u64 4294967295)).run P w=.ok (.int .u64 a) w:=by
 have:=jh8 a h0 h1
 simp only [binOp]
 have h2:(Op.intBits .and .u64 a 4294967295).run P w=.ok (.int .u64 (bits .and .u64 a 4294967295)) w:=rfl
 simp [h2,this]
theorem jbU {t:TypeId} {a:Int} (h0:0<=a) (h1:a < 4294967296) (w:World) (k:IntKind):(binOp .shr t (.int .u64 a) (.int k 32)).run P w=.ok (.int .u64 0) w:=by
 have:a.fdiv 4294967296=0:=by
  rw [Int.fdiv_eq_ediv_of_nonneg _ (by omega)]
  omega
 simp [binOp,Op.shift,IntKind.bits,this]
theorem nX {t t':TypeId} {x y:Operand} {a:Int} {k:IntKind} (hx:ev e x=.int .u64 a) (hy:ev e y=.int k 32) (h0:0<=a) (h1:a < 4294967296):OpR P e ⟨d,.binOp .shr t x y t',ty,ps,af,none⟩ w (.int .u64 0):=by
 simp [OpR,execOp,hx,hy,eqGuard,jbU h0 h1 w k]
theorem jhd {t t':TypeId} {x y:Operand} {a c:Int} {b:Bool} (hx:ev e x=.int .u64 a) (hy:ev e y=.int .u64 c) (hb:decide (a > c)=b):OpV P e ⟨d,.binOp .gtr t x y t',ty,ps,af,none⟩ (.bool b):=by
 intro w
 subst hb
 simp [OpR,execOp,hx,hy,eqGuard,binOp,Op.intCmp]
end
theorem ji6 (c:Int) (h0:0<=c) (h1:c < 4294967296) (W:World):Fn Tryz.prog 235 [.int .u64 1,.int .u64 c] W (yK (.tuple #[.int .u64 0,.int .u64 c]) W):=by
 refine kK Tryz.func235 rfl Tryz.results235 Tryz.ntmps235 (by kernel_rfl) (by kernel_rfl) ?_
 repeat refine jJ ?_
 refine jI ?_
 iterate 2 refine jE (jA rfl) ?_
 first | refine jR ?_ | (refine jG ?_; show CW _ _ _ _ _ _) | refine jG ?_
 repeat refine jJ ?_
 refine jI ?_
 refine jE (jA rfl) ?_
 refine j3 (xP rfl rfl (fZ (a:=1) (by omega) (by omega) _)) ?_
 refine jE (jA rfl) ?_
 first | refine jR ?_ | (refine jG ?_; show CW _ _ _ _ _ _) | refine jG ?_
 repeat refine jJ ?_
 refine jI ?_
 refine jE (jA rfl) ?_
 refine j3 (nX rfl rfl (by omega) (by omega)) ?_
 refine jE (jA rfl) ?_
 first | refine jR ?_ | (refine jG ?_; show CW _ _ _ _ _ _) | refine jG ?_
 repeat refine jJ ?_
 refine jI ?_
 refine jE (jA rfl) ?_
 refine j3 (xP rfl rfl (fZ h0 h1 _)) ?_
 refine jE (jA rfl) ?_
 first | refine jR ?_ | (refine jG ?_; show CW _ _ _ _ _ _) | refine jG ?_
 repeat refine jJ ?_
 refine jI ?_
 refine jE (jA rfl) ?_
 refine j3 (nX rfl rfl h0 h1) ?_
 refine jE (jA rfl) ?_
 first | refine jR ?_ | (refine jG ?_; show CW _ _ _ _ _ _) | refine jG ?_
 repeat refine jJ ?_
 refine jI ?_
 iterate 2 refine jE (jA rfl) ?_
 refine j3 (xP rfl rfl (xJ (c:=c) (by omega) (by omega) _)) ?_
 refine jE (jA rfl) ?_
 first | refine jR ?_ | (refine jG ?_; show CW _ _ _ _ _ _) | refine jG ?_
 repeat refine jJ ?_
 refine jI ?_
 iterate 2 refine jE (jA rfl) ?_
 refine j3 (xP rfl rfl (xJ (c:=0) (by omega) (by omega) _)) ?_
 refine jE (jA rfl) ?_
 refine j3 (nX rfl rfl h0 h1) ?_
 refine j3 (xP rfl rfl (wP (c:=0) (by omega) (by omega) _)) ?_
 refine jE (jA rfl) ?_
 first | refine jR ?_ | (refine jG ?_; show CW _ _ _ _ _ _) | refine jG ?_
 repeat refine jJ ?_
 refine jI ?_
 refine jE (jA rfl) ?_
 refine j3 (xP rfl rfl (fZ (a:=0) (by omega) (by omega) _)) ?_
 refine jE (jA rfl) ?_
 first | refine jR ?_ | (refine jG ?_; show CW _ _ _ _ _ _) | refine jG ?_
 repeat refine jJ ?_
 refine jI ?_
 refine jE (jA rfl) ?_
 refine j3 (nX rfl rfl (by omega) (by omega)) ?_
 refine jE (jA rfl) ?_
 first | refine jR ?_ | (refine jG ?_; show CW _ _ _ _ _ _) | refine jG ?_
 repeat refine jJ ?_
 refine jI ?_
 iterate 3 refine jE (jA rfl) ?_
 refine j3 (xP rfl rfl (xJ (c:=0) (by omega) (by omega) _)) ?_
 refine j3 (xP rfl rfl (wP (c:=0) (by omega) (by omega) _)) ?_
 refine jE (jA rfl) ?_
 first | refine jR ?_ | (refine jG ?_; show CW _ _ _ _ _ _) | refine jG ?_
 repeat refine jJ ?_
 refine jI ?_
 iterate 2 refine jE (jA rfl) ?_
 refine j3 (xP rfl rfl (xJ (c:=0) (by omega) (by omega) _)) ?_
 refine jE (jA rfl) ?_
 refine j3 (xP rfl rfl (wP (c:=0) (by omega) (by omega) _)) ?_
 refine jE (jA rfl) ?_
 refine j3 (nX rfl rfl (by omega) (by omega)) ?_
 refine j3 (xP rfl rfl (wP (c:=0) (by omega) (by omega) _)) ?_
 refine jE (jA rfl) ?_
 first | refine jR ?_ | (refine jG ?_; show CW _ _ _ _ _ _) | refine jG ?_
 repeat refine jJ ?_
 refine jI ?_
 iterate 2 refine jE (jA rfl) ?_
 refine j3 (xP rfl rfl (xJ (c:=c) (by omega) (by omega) _)) ?_
 refine jE (jA rfl) ?_
 first | refine jR ?_ | (refine jG ?_; show CW _ _ _ _ _ _) | refine jG ?_
 exact kO (kY rfl rfl ⟨rfl,Gr.refl _⟩)
theorem jk7 (c:Int) (h0:0<=c) (h1:c < 4294967296) (W:World):Fn Tryz.prog 185 [.int .u64 1,.int .u64 c] W (yK (.tuple #[.int .u64 0,.int .u64 c]) W):=by
 refine kK Tryz.func185 rfl Tryz.results185 Tryz.ntmps185 (by kernel_rfl) (by kernel_rfl) ?_
 repeat refine jJ ?_
 refine jI ?_
 iterate 2 refine jE (jA rfl) ?_
 first | refine jR ?_ | (refine jG ?_; show CW _ _ _ _ _ _) | refine jG ?_
 repeat refine jJ ?_
 refine jM rfl ?_
 refine j5 ?_
 try show CW _ _ _ _ _ _
 repeat refine jJ ?_
 refine jI ?_
 iterate 2 refine jE (jA rfl) ?_
 refine jC rfl (ji6 c h0 h1 _) ?_
 rintro _ w1 ⟨rfl,g1⟩
 iterate 5 refine jE (jA rfl) ?_
 first | refine jR ?_ | (refine jG ?_; show CW _ _ _ _ _ _) | refine jG ?_
 repeat refine jJ ?_
 refine jI ?_
 iterate 4 refine jE (jA rfl) ?_
 first | refine jR ?_ | (refine jG ?_; show CW _ _ _ _ _ _) | refine jG ?_
 exact kO (kY rfl rfl ⟨rfl,g1⟩)
theorem jhC:(Tryz.prog.info? 21).map (fun i=>(i.zero,i.size,i.bytes))=some (some (.int .i32 0),1,4):=by kernel_rfl
theorem sE (n:Int) (h:0<=n/\n < 18446744073709551616):IntKind.u64.wrap n=n:=by rw [IntKind.wrap_u64]; omega
theorem jgH (g:Nat) (v:Value) (n:Nat) (hn:1<=n/\n<=256) (hv:v.oneCell'=true) (W:World) (hB:Blk W g 21 [v]) :
  Fn Tryz.prog 284 [.slice (some ⟨g,0,none⟩) 1 1,.int .i64 n] W
   (fun r w'=>∃ b,r=.slice (some ⟨b,0,none⟩) n n/\W.heap.size<=b/\Blk w' b 21 (List.replicate n v)/\Gr W w'):=by
 have G0:=Gr.refl W
 refine kK Tryz.func284 rfl Tryz.results284 Tryz.ntmps284 (by kernel_rfl) (by kernel_rfl) ?_
 repeat refine jJ ?_
 refine jI ?_
 refine jE (jA rfl) ?_
 first | refine jR ?_ | (refine jG ?_; show CW _ _ _ _ _ _) | refine jG ?_
 repeat refine jJ ?_
 refine jI ?_
 refine jE (jA rfl) ?_
 first | refine jE (yP (b:=true) rfl (decide_eq_true (by omega))) ?_ | refine jE (yP (b:=false) rfl (decide_eq_false (by omega))) ?_ | refine jE (jA rfl) ?_
 first | refine jR ?_ | (refine jG ?_; show CW _ _ _ _ _ _) | refine jG ?_
 repeat refine jJ ?_
 refine jM rfl ?_
 refine j5 ?_
 try show CW _ _ _ _ _ _
 repeat refine jJ ?_
 refine jI ?_
 refine jE (jA rfl) ?_
 refine jE (gZ Tryz.underlying428 rfl) ?_
 refine jE (yR Tryz.underlying3 Tryz.underlying318 rfl (sE _ (by omega))) ?_
 refine jE (jA rfl) ?_
 refine jE (yR Tryz.underlying3 Tryz.underlying318 rfl (sE _ (by omega))) ?_
 refine jC rfl (jk7 n (by omega) (by omega) _) ?_
 rintro _ w1 ⟨rfl,g1⟩
 have hB:=hB.gr g1
 have G0:=G0.trans g1
 iterate 5 refine jE (jA rfl) ?_
 first | refine jR ?_ | (refine jG ?_; show CW _ _ _ _ _ _) | refine jG ?_
 repeat refine jJ ?_
 refine jI ?_
 refine jE (jA rfl) ?_
 refine jE (jhd rfl rfl (b:=false) (decide_eq_false (by omega))) ?_
 refine jE (jA rfl) ?_
 first | refine jK rfl ?_ | (refine jQ rfl ?_; refine jE (jA rfl) ?_)
 refine jQ rfl ?_
 refine jE (jhd rfl rfl (b:=false) (decide_eq_false (by omega))) ?_
 refine jE (jA rfl) ?_
 first | refine jR ?_ | (refine jG ?_; show CW _ _ _ _ _ _) | refine jG ?_
 repeat refine jJ ?_
 refine jM rfl ?_
 refine j5 ?_
 try show CW _ _ _ _ _ _
 repeat refine jJ ?_
 refine jI ?_
 refine jE (jA rfl) ?_
 refine jE (yR Tryz.underlying318 Tryz.underlying3 rfl (IntWalk.i64_in _ (by omega))) ?_
 try have qb1_:=hB.lt
 try have qb1_:=G0.le
 refine gA (jhh Tryz.underlying428 jhC rfl rfl rfl (n:=n) (c:=n) (by omega) (by omega) (by omega) (by omega)) ?_
 intro w1_ g1_ s1_ b1_
 have hB:=hB.gr g1_
 have G0:=G0.trans g1_
 refine jE (jA rfl) ?_
 first | refine jR ?_ | (refine jG ?_; show CW _ _ _ _ _ _) | refine jG ?_
 have hb1:=G0.le
 have hq1:=hB.lt
 repeat refine jJ ?_
 refine jI ?_
 iterate 2 refine jE (jA rfl) ?_
 refine jiJ Tryz.underlying428 Tryz.sizeOf21 rfl rfl b1_ hB (n:=1) (by omega) rfl rfl (by simp; omega) (by simpa using hv) ?_
 intro w3 g3 s3 b3
 refine jE (jA rfl) ?_
 first | refine jR ?_ | (refine jG ?_; show CW _ _ _ _ _ _) | refine jG ?_
 have G0:=G0.store g3 (by omega)
 repeat refine jJ ?_
 refine jS ?_
 refine j9 (fun m e w=>∃ k:Nat,1<=k/\k<=n/\k+m=n/\SL e [(7,.slice (some ⟨w1.heap.size,0,none⟩) n n),(8,.int .i64 k)]/\(∃ l,Blk w w1.heap.size 21 l/\l.length=n/\∀ i,i < k->l[i]?=some v)/\Gr W w) (n - 1)
  ⟨1,by omega,by omega,by omega,⟨rfl,rfl,trivial⟩,⟨_,b3,by simp; omega,fun i hi=>(by rw [show i=0 by omega]; simp)⟩,G0⟩ ?_
 rintro m e w ⟨k,hk1,hk2,hkm,hsl,⟨l,hL,hlen,hl⟩,hg⟩
 rw [hsl.fold]
 repeat refine jJ ?_
 refine jI ?_
 iterate 2 refine jE (jA rfl) ?_
 refine jE (gZ Tryz.underlying428 rfl) ?_
 first | refine jE (yP (b:=true) rfl (decide_eq_true (by omega))) ?_ | refine jE (yP (b:=false) rfl (decide_eq_false (by omega))) ?_ | refine jE (jA rfl) ?_
 first | refine jR ?_ | (refine jG ?_; show CW _ _ _ _ _ _) | refine jG ?_
 repeat refine jJ ?_
 refine xI rfl (fun hc=>?_) (fun hc=>?_)
 ·refine j5 ?_
  try show CW _ _ _ _ _ _
  have hkn:k < n:=by simp at hc; omega
  have hcell:∀ u,u ∈ l.take k->u=v:=fun u hu=>by
   obtain ⟨i,hi,rfl⟩:=List.mem_iff_getElem.1 hu
   have hi':i < k:=by simp at hi; omega
   have:=hl i hi'
   rw [List.getElem_take]
   rw [List.getElem?_eq_getElem (by omega)] at this
   exact Option.some.inj this
  repeat refine jJ ?_
  refine jS ?_
  repeat refine jJ ?_
  refine qQ (C:=(fun σ wq=>match σ with | []=>wq=w.drew | v0::_=>v0=.int .i64 (min k (n - k):Nat)/\w.grownBy wq (some w1.heap.size)/\Blk wq w1.heap.size 21 (l.take k ++ l.take (min k (n - k)) ++ l.drop (k+min k (n - k))))) [7] [0,1,2,3,4,5,6,7,8,9] [] (by kernel_rfl) (by kernel_rfl) rfl ?_
  simp only [yT,j6,List.drop_succ_cons,List.drop_zero]
  refine jX rfl (jA rfl) ?_
  refine jX rfl (jA rfl) ?_
  refine jX rfl (jA rfl) ?_
  refine jX rfl (jdp Tryz.underlying428 Tryz.sizeOf21 rfl rfl (by omega) (by omega) (by omega)) ?_
  refine jX rfl (jA rfl) ?_
  refine jX rfl (jA rfl) ?_
  refine jX rfl (wC Tryz.underlying428 Tryz.sizeOf21 rfl rfl (by omega) (by omega)) ?_
  refine jZ rfl rfl (fun wq hq=>?_) ?_
  ·subst hq; refine jkW (jeb Tryz.underlying428 Tryz.sizeOf21 rfl rfl hL.drew hL.drew (n:=min k (n - k)) (by simp) rfl (by simp; omega) (by omega) (fun u hu=>by rw [hcell u (by simp only [List.drop_zero,Nat.mul_one] at hu; exact (List.take_subset_take_left l (Nat.min_le_left _ _)) hu)]; exact hv)) ?_; rintro w' ⟨h2,h3,h4⟩; exact ⟨rfl,⟨h2.os,h2.tape,h2.output,h2.size,h2.block⟩,by simpa using h4⟩
  rintro v0 wq' ⟨rfl,gq,bq⟩
  refine jX rfl (yI rfl (by omega)) ?_
  refine jX rfl (jA rfl) ?_
  refine yV ?_
  rintro w4 ⟨_,g4,b4⟩
  first | refine jR ?_ | (refine jG ?_; show CW _ _ _ _ _ _) | refine jG ?_
  refine ⟨m - min k (n - k),by omega,k+min k (n - k),by omega,by omega,by omega,⟨rfl,ie (by omega),trivial⟩,⟨_,b4,by simp; omega,fun i hi=>?_⟩,?_⟩
  ·by_cases hik:i < k
   ·rw [List.append_assoc,List.getElem?_append_left (by simp; omega)]
    simp [hik,hl i hik]
   ·rw [List.append_assoc,List.getElem?_append_right (by simp; omega),List.getElem?_append_left (by simp; omega)]
    simp only [List.length_take]
    rw [List.getElem?_take,if_pos (by omega)]
    exact hl _ (by omega)
  ·exact hg.store g4 (by omega)
 ·refine jY ?_
  show CW _ _ _ _ _ _
  repeat refine jJ ?_
  refine jI ?_
  iterate 2 refine jE (jA rfl) ?_
  first | refine jR ?_ | (refine jG ?_; show CW _ _ _ _ _ _) | refine jG ?_
  have hkn:k=n:=by simp at hc; omega
  subst hkn
  have hle:l=List.replicate k v:=by
   apply List.ext_getElem?
   intro i
   by_cases hi:i < k
   ·rw [hl i hi]; simp [hi]
   ·rw [List.getElem?_eq_none (by omega)]; simp [hi]
  subst hle
  exact kO (yD rfl ⟨_,rfl,g1.le,hL,hg⟩)
end
section
open Go.RowKit
theorem pD : ∀ (L : List HA) (i : Nat), qP L i = L[i]?
  | [], i => by simp [qP]
  | h :: r, 0 => rfl
  | h :: r, i + 1 => by simp [qP, pD r i]
class Sc (P : Program) (t : Nat) : Prop where h : ∃ dd, P.underlying t = some dd ∧ fL dd = false
class Ag (P : Program) (t : Nat) (n : outParam Nat) : Prop where h : (∃ dd, P.underlying t = some dd ∧ fL dd = true) ∧ (∀ w, (sizeOf t).run P w = .ok n w) ∧ Nat.blt 0 n = true
class Sl (P : Program) (t : Nat) (k : outParam Nat) : Prop where h : ∃ el, P.underlying t = some (.slice el) ∧ ∀ w, (sizeOf el).run P w = .ok k w
class Fl (P : Program) (t f : Nat) (o : outParam Nat) : Prop where h : ∃ fs fd n, P.underlying t = some (.struct fs) ∧ fs[f]? = some fd ∧ (∀ w, (sizeOf fd.type).run P w = .ok n w) ∧ Nat.beq n 0 = false ∧ fd.offset = o
class Pt (P : Program) (t : Nat) : Prop where h : ∃ te, P.underlying t = some (.pointer te)
section
variable {P : Program} {e : Nat → Value} {w : World} {d : Option Tmp} {ty : TypeId} {ps : String} {af : Array Edge}
theorem oF {t f o k : Nat} {x : Operand} {b : Nat} [i : Fl P t f k] (hx : ev e x = .pointer (some ⟨b, o, none⟩)) : OpV P e ⟨d, .fieldAddr t x f, ty, ps, af, none⟩ (.pointer (some ⟨b, o + k, none⟩)) := by
  obtain ⟨fs, fd, n, h1, h2, h3, h4, rfl⟩ := i.h
  exact jD h1 h2 h3 h4 hx
theorem oG {t f k m : Nat} {x : Operand} {A : Option Addr} [i : Fl P t f k] (hx : ev e x = .pointer (at_ A m)) (hA : yH A) : OpV P e ⟨d, .fieldAddr t x f, ty, ps, af, none⟩ (.pointer (at_ A (m + k))) := by
  obtain ⟨fs, fd, n, h1, h2, h3, h4, rfl⟩ := i.h
  exact jdr h1 h2 h3 h4 hx hA
theorem oI {t : Nat} {x i : Operand} {len cap k : Nat} {A : Option Addr} {kd : IntKind} {n : Int} [c : Sl P t k] (hx : ev e x = .slice A len cap) (hi : ev e i = .int kd n) (hA : yH A) (h0 : 0 ≤ n) (h1 : n < len) :
    OpV P e ⟨d, .indexAddr t x i, ty, ps, af, none⟩ (.pointer (at_ A (n.toNat * k))) := by
  obtain ⟨el, g1, g2⟩ := c.h
  exact kV g1 g2 hx hi hA h0 h1
theorem oL {t : Nat} {x : Operand} {A : Option Addr} {n c k : Nat} [i : Sl P t k] (hx : ev e x = .slice A n c) : OpV P e ⟨d, .call ⟨.builtin .len, #[x], #[t]⟩, ty, ps, af, none⟩ (.int .i64 n) := by
  obtain ⟨el, g1, g2⟩ := i.h
  exact gZ g1 hx
theorem oN {t t' : Nat} {x : Operand} {a : Option Addr} {B : Bool} [i : Pt P t] (hx : ev e x = .pointer a) (hB : a.isNone = B) : OpV P e ⟨d, .binOp .eql t x (.const (.pointer none)) t', ty, ps, af, none⟩ (.bool B) := by
  obtain ⟨te, g⟩ := i.h
  exact gY g hx hB
theorem oW {o : BinOp} {t t' : TypeId} {x y : Operand} {n : Int} (h : zC (ev e) (.binOp o t x y t') = some (.int .i64 (IntKind.i64.wrap n))) (hr : -9223372036854775808 ≤ n ∧ n ≤ 9223372036854775807) : OpV P e ⟨d, .binOp o t x y t', ty, ps, af, none⟩ (.int .i64 n) := yI h hr
theorem oU {o : UnOp} {t : TypeId} {x : Operand} {n : Int} (h : zC (ev e) (.unOp o t x) = some (.int .i64 (IntKind.i64.wrap n))) (hr : -9223372036854775808 ≤ n ∧ n ≤ 9223372036854775807) : OpV P e ⟨d, .unOp o t x, ty, ps, af, none⟩ (.int .i64 n) := yI h hr
theorem oC {o : BinOp} {t t' : TypeId} {x y : Operand} {B : Bool} (b : Bool) (h : zC (ev e) (.binOp o t x y t') = some (.bool B)) (hr : B = b) : OpV P e ⟨d, .binOp o t x y t', ty, ps, af, none⟩ (.bool b) := yP h hr
section
variable {F : Nat → Prop} {W : World} {L : List HA}
theorem oB {t tb b o : Nat} {x : Operand} {v : Value} {l : List Value} [i : Sc P t] (hx : ev e x = .pointer (some ⟨b, o, none⟩)) (S : St F W w L) (hm : HA.blk b tb l ∈ L) (hl : l[o]? = some v) : OpR P e ⟨d, .load t x, ty, ps, af, none⟩ w v := by
  obtain ⟨dd, g1, g2⟩ := i.h
  obtain ⟨j, hj⟩ := List.getElem?_of_mem hm
  exact jB g1 g2 hx (S.blk (i := j) (by rw [pD]; exact hj)) hl
theorem oA {t tb b o n : Nat} {x : Operand} {cs l : List Value} [i : Ag P t n] (hx : ev e x = .pointer (some ⟨b, o, none⟩)) (S : St F W w L) (hm : HA.blk b tb l ∈ L) (hl : fzl ((l.drop o).take n) = some cs) (hn : cs.length = n) : OpR P e ⟨d, .load t x, ty, ps, af, none⟩ w (.agg cs.toArray) := by
  obtain ⟨⟨dd, g1, g2⟩, g3, _⟩ := i.h
  obtain ⟨j, hj⟩ := List.getElem?_of_mem hm
  exact jT g1 g2 (g3 _) hx (S.blk (i := j) (by rw [pD]; exact hj)) hl hn
theorem oR {t el k n c m : Nat} {x : Operand} {v : Value} {A : Option Addr} {xs : List Value} [i : Sc P t] (hx : ev e x = .pointer (at_ A m)) (S : St F W w L) (hm : HA.row el k A n c xs ∈ L) (hv : xs[m]? = some v) : OpR P e ⟨d, .load t x, ty, ps, af, none⟩ w v := by
  obtain ⟨dd, g1, g2⟩ := i.h
  obtain ⟨j, hj⟩ := List.getElem?_of_mem hm
  exact j7 g1 g2 hx (S.rd (i := j) (by rw [pD]; exact hj)) hv
theorem oO {t m : Nat} {x : Operand} {v : Value} {A : Option Addr} {xs : List Value} [i : Sc P t] (hx : ev e x = .pointer (at_ A m)) (hR : Rd w A xs) (hv : xs[m]? = some v) : OpR P e ⟨d, .load t x, ty, ps, af, none⟩ w v := by
  obtain ⟨dd, g1, g2⟩ := i.h
  exact j7 g1 g2 hx hR hv
end
end
section
variable {P : Program} {ops : Array Oper} {Q : (Nat → Value) → World → Prop} {C : World → Prop} {Qq : (Nat → Value) → Prop} {e : Nat → Value} {w : World} {rest : List Oper} {d : Option Tmp} {op : Op} {ty : TypeId} {ps : String} {af : Array Edge} {G G' : Prop}
theorem pZ {j : Nat} {b : Bool} (h : yE ops e j = some b) (f : G' → RW P ops Q (⟨d, op, ty, ps, af, none⟩ :: rest) e w) : G' → RW P ops Q (⟨d, op, ty, ps, af, some (j, b)⟩ :: rest) e w := fun k => jQ h (f k)
theorem p7 {j : Nat} {b : Bool} (h : yE ops e j = some b) (f : G' → RQ P ops C Qq (⟨d, op, ty, ps, af, none⟩ :: rest) e) : G' → RQ P ops C Qq (⟨d, op, ty, ps, af, some (j, b)⟩ :: rest) e := fun k => yG h (f k)
theorem zs (k : G') (h : G' → G := by
    (intro k
     repeat (first
       | with_reducible refine jJ ?_
       | with_reducible refine jI ?_
       | (with_reducible refine jR ?_)
       | ((with_reducible refine j5 ?_); try show CW _ _ _ _ _ _)
       | ((with_reducible refine jM ?hc ?_); case hc => rfl)
       | ((with_reducible refine yS ?hc ?_); case hc => rfl)
       | with_reducible refine jS ?_
       | ((with_reducible refine jG ?_); show CW _ _ _ _ _ _))
     exact k)) : G := h k
theorem zi (h : G' → RW P ops Q (⟨d, op, ty, ps, af, none⟩ :: rest) e w := by
    first
      | exact jE (by exact jA rfl)
      | exact jE (by exact oF rfl)
      | exact jE (by exact oL rfl)
      | exact jE (by exact oG rfl (by assumption))
      | exact j3 (by exact oB rfl (by assumption) (by repeat (first | with_reducible exact List.mem_cons_self | with_reducible refine List.mem_cons_of_mem _ ?_)) rfl)
      | exact j3 (by exact oA rfl (by assumption) (by repeat (first | with_reducible exact List.mem_cons_self | with_reducible refine List.mem_cons_of_mem _ ?_)) (by rfl) (by rfl))
      | exact jE (by exact oN rfl rfl)) : G' → RW P ops Q (⟨d, op, ty, ps, af, none⟩ :: rest) e w := h
theorem z (k : G') (h : G' → G := by
    (intro k
     repeat (first
       | with_reducible refine jJ ?_
       | with_reducible refine jI ?_
       | (with_reducible refine jR ?_)
       | ((with_reducible refine j5 ?_); try show CW _ _ _ _ _ _)
       | ((with_reducible refine jM ?hc ?_); case hc => rfl)
       | ((with_reducible refine yS ?hc ?_); case hc => rfl)
       | with_reducible refine jS ?_
       | ((with_reducible refine jG ?_); show CW _ _ _ _ _ _))
     revert k
     first
       | exact zi
       | exact jK (by rfl)
       | exact pZ (by rfl) zi)) : G := h k
theorem zir (h : G' → RW P ops Q (⟨d, op, ty, ps, af, none⟩ :: rest) e w := by
    first
      | exact jE (by exact oW rfl (by omega))
      | exact jE (by exact oU rfl (by omega))) : G' → RW P ops Q (⟨d, op, ty, ps, af, none⟩ :: rest) e w := h
theorem zr (k : G') (h : G' → G := by
    (intro k
     repeat (first
       | with_reducible refine jJ ?_
       | with_reducible refine jI ?_
       | (with_reducible refine jR ?_)
       | ((with_reducible refine j5 ?_); try show CW _ _ _ _ _ _)
       | ((with_reducible refine jM ?hc ?_); case hc => rfl)
       | ((with_reducible refine yS ?hc ?_); case hc => rfl)
       | with_reducible refine jS ?_
       | ((with_reducible refine jG ?_); show CW _ _ _ _ _ _))
     revert k
     first
       | exact zir
       | exact jK (by rfl)
       | exact pZ (by rfl) zir)) : G := h k
theorem zit (h : G' → RW P ops Q (⟨d, op, ty, ps, af, none⟩ :: rest) e w := by
    first
      | exact jE (by exact oC true rfl (decide_eq_true (by omega)))
      | exact jE (by exact oC true rfl (beq_iff_eq.2 (by omega)))
      | exact jE (by exact oC true rfl (bne_iff_ne.2 (by omega)))) : G' → RW P ops Q (⟨d, op, ty, ps, af, none⟩ :: rest) e w := h
theorem zt (k : G') (h : G' → G := by
    (intro k
     repeat (first
       | with_reducible refine jJ ?_
       | with_reducible refine jI ?_
       | (with_reducible refine jR ?_)
       | ((with_reducible refine j5 ?_); try show CW _ _ _ _ _ _)
       | ((with_reducible refine jM ?hc ?_); case hc => rfl)
       | ((with_reducible refine yS ?hc ?_); case hc => rfl)
       | with_reducible refine jS ?_
       | ((with_reducible refine jG ?_); show CW _ _ _ _ _ _))
     revert k
     first
       | exact zit
       | exact jK (by rfl)
       | exact pZ (by rfl) zit)) : G := h k
theorem zif (h : G' → RW P ops Q (⟨d, op, ty, ps, af, none⟩ :: rest) e w := by
    first
      | exact jE (by exact oC false rfl (decide_eq_false (by omega)))
      | exact jE (by exact oC false rfl (beq_eq_false_iff_ne.2 (by omega)))
      | exact jE (by exact oC false rfl (bne_eq_false_iff_eq.2 (by omega)))) : G' → RW P ops Q (⟨d, op, ty, ps, af, none⟩ :: rest) e w := h
theorem zf (k : G') (h : G' → G := by
    (intro k
     repeat (first
       | with_reducible refine jJ ?_
       | with_reducible refine jI ?_
       | (with_reducible refine jR ?_)
       | ((with_reducible refine j5 ?_); try show CW _ _ _ _ _ _)
       | ((with_reducible refine jM ?hc ?_); case hc => rfl)
       | ((with_reducible refine yS ?hc ?_); case hc => rfl)
       | with_reducible refine jS ?_
       | ((with_reducible refine jG ?_); show CW _ _ _ _ _ _))
     revert k
     first
       | exact zif
       | exact jK (by rfl)
       | exact pZ (by rfl) zif)) : G := h k
theorem zix (h : G' → RW P ops Q (⟨d, op, ty, ps, af, none⟩ :: rest) e w := by
    first
      | exact jE (by exact oI rfl rfl (by assumption) (by omega) (by omega))) : G' → RW P ops Q (⟨d, op, ty, ps, af, none⟩ :: rest) e w := h
theorem zx (k : G') (h : G' → G := by
    (intro k
     repeat (first
       | with_reducible refine jJ ?_
       | with_reducible refine jI ?_
       | (with_reducible refine jR ?_)
       | ((with_reducible refine j5 ?_); try show CW _ _ _ _ _ _)
       | ((with_reducible refine jM ?hc ?_); case hc => rfl)
       | ((with_reducible refine yS ?hc ?_); case hc => rfl)
       | with_reducible refine jS ?_
       | ((with_reducible refine jG ?_); show CW _ _ _ _ _ _))
     revert k
     first
       | exact zix
       | exact jK (by rfl)
       | exact pZ (by rfl) zix)) : G := h k
theorem yi (h : G' → RQ P ops C Qq (⟨d, op, ty, ps, af, none⟩ :: rest) e := by
    first
      | exact jW (by exact jA rfl)
      | exact jW (by exact oF rfl)
      | exact jW (by exact oL rfl)
      | exact jW (by exact oG rfl (by assumption))
      | exact jW (by exact oN rfl rfl)) : G' → RQ P ops C Qq (⟨d, op, ty, ps, af, none⟩ :: rest) e := h
theorem y (k : G') (h : G' → G := by
    first
      | exact yi
      | exact j0 (by rfl)
      | exact p7 (by rfl) yi) : G := h k
theorem yir (h : G' → RQ P ops C Qq (⟨d, op, ty, ps, af, none⟩ :: rest) e := by
    first
      | exact jW (by exact oW rfl (by omega))
      | exact jW (by exact oU rfl (by omega))) : G' → RQ P ops C Qq (⟨d, op, ty, ps, af, none⟩ :: rest) e := h
theorem yr (k : G') (h : G' → G := by
    first
      | exact yir
      | exact j0 (by rfl)
      | exact p7 (by rfl) yir) : G := h k
theorem yit (h : G' → RQ P ops C Qq (⟨d, op, ty, ps, af, none⟩ :: rest) e := by
    first
      | exact jW (by exact oC true rfl (decide_eq_true (by omega)))
      | exact jW (by exact oC true rfl (beq_iff_eq.2 (by omega)))
      | exact jW (by exact oC true rfl (bne_iff_ne.2 (by omega)))) : G' → RQ P ops C Qq (⟨d, op, ty, ps, af, none⟩ :: rest) e := h
theorem yt (k : G') (h : G' → G := by
    first
      | exact yit
      | exact j0 (by rfl)
      | exact p7 (by rfl) yit) : G := h k
theorem yif (h : G' → RQ P ops C Qq (⟨d, op, ty, ps, af, none⟩ :: rest) e := by
    first
      | exact jW (by exact oC false rfl (decide_eq_false (by omega)))
      | exact jW (by exact oC false rfl (beq_eq_false_iff_ne.2 (by omega)))
      | exact jW (by exact oC false rfl (bne_eq_false_iff_eq.2 (by omega)))) : G' → RQ P ops C Qq (⟨d, op, ty, ps, af, none⟩ :: rest) e := h
theorem yf (k : G') (h : G' → G := by
    first
      | exact yif
      | exact j0 (by rfl)
      | exact p7 (by rfl) yif) : G := h k
theorem yix (h : G' → RQ P ops C Qq (⟨d, op, ty, ps, af, none⟩ :: rest) e := by
    first
      | exact jW (by exact oI rfl rfl (by assumption) (by omega) (by omega))) : G' → RQ P ops C Qq (⟨d, op, ty, ps, af, none⟩ :: rest) e := h
theorem yx (k : G') (h : G' → G := by
    first
      | exact yix
      | exact j0 (by rfl)
      | exact p7 (by rfl) yix) : G := h k
end
end
section
open Go.RowKit
abbrev ii (n : Int) : Value := .int .i64 n
abbrev pt (b : Nat) : Value := .pointer (some ⟨b, 0, none⟩)
structure Hid (p : Prop) : Prop where
  h : p
section
variable {P : Program} {N : Nat} {Q : Exit → (Nat → Value) → World → Prop} {e : Nat → Value} {w : World} {G G1 G2 : Prop}
theorem ze (k : G1) (h : G1 → G := by
    (intro k
     first | refine jR ?_ | (refine jG ?_; show CW _ _ _ _ _ _) | refine jG ?_
     exact k)) : G := h k
theorem zq (k : G1) (h : G1 → G := by
    (intro k
     repeat (first
       | with_reducible refine jJ ?_
       | with_reducible refine jI ?_
       | (with_reducible refine jR ?_)
       | ((with_reducible refine j5 ?_); try show CW _ _ _ _ _ _)
       | ((with_reducible refine jM ?hc ?_); case hc => rfl)
       | ((with_reducible refine yS ?hc ?_); case hc => rfl)
       | with_reducible refine jS ?_
       | ((with_reducible refine jG ?_); show CW _ _ _ _ _ _))
     refine kO ?_
     repeat first | refine uT ?_ | refine xE ?_
     exact k)) : G := h k
theorem zc (k : G1) (h : G1 → G := by
    (intro k
     try (first | refine jR ?_ | (refine jG ?_; show CW _ _ _ _ _ _) | refine jG ?_)
     repeat refine jJ ?_
     exact k)) : G := h k
theorem zk (k1 : G1) (k2 : G2) (h : G1 → G2 → G := by
    (intro k1 k2
     repeat (first
       | with_reducible refine jJ ?_
       | with_reducible refine jI ?_
       | (with_reducible refine jR ?_)
       | ((with_reducible refine j5 ?_); try show CW _ _ _ _ _ _)
       | ((with_reducible refine jM ?hc ?_); case hc => rfl)
       | ((with_reducible refine yS ?hc ?_); case hc => rfl)
       | with_reducible refine jS ?_
       | ((with_reducible refine jG ?_); show CW _ _ _ _ _ _))
     refine xI rfl (fun hc => ?_) (fun hc => ?_)
     · try simp only [decide_eq_true_eq, decide_eq_false_iff_not, beq_iff_eq, bne_iff_ne, beq_eq_false_iff_ne, bne_eq_false_iff_eq, Bool.not_eq_true', Bool.not_eq_false', ne_eq, Decidable.not_not, Int.natCast_inj, Int.ofNat_lt, Int.ofNat_le, gt_iff_lt, ge_iff_le, Int.not_lt, Int.not_le] at hc
       revert hc
       exact k1
     · try simp only [decide_eq_true_eq, decide_eq_false_iff_not, beq_iff_eq, bne_iff_ne, beq_eq_false_iff_ne, bne_eq_false_iff_eq, Bool.not_eq_true', Bool.not_eq_false', ne_eq, Decidable.not_not, Int.natCast_inj, Int.ofNat_lt, Int.ofNat_le, gt_iff_lt, ge_iff_le, Int.not_lt, Int.not_le] at hc
       revert hc
       exact k2)) : G := h k1 k2
theorem zn {f : FuncId} {fn : Func} {c : Code} {args : List Value} {w : World} {R : Value → World → Prop} {rs : Array ResultVar} {N : Nat} (hf : P.funcs[f]? = some fn) (hr : fn.results = rs) (hN : fn.ntmps = N)
    (h : CW P N c (QF P rs R) (xN args) w) (hb : fn.body = some c := by rfl) (hcl : uP P f = true := by kernel_rfl) (hk : (q8 N c && Nat.ble args.length N) = true := by kernel_rfl) : Fn P f args w R := kK hf hb hr hN hcl hk h
end
end
end Go.Proofs.YtipnifjmhlcehaaGreatDoor
