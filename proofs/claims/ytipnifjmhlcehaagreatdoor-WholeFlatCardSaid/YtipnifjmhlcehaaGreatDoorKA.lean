/- hachuretop.WholeFlat: a part of the proof that the law returns true at every input (Grow, Two, Log, Ops, Mem, MemB, Step); no condition of its own. -/
import Derived.Test.YtipnifjmhlcehaaGreatDoorProg
import Derived.WalkKit
import Derived.WalkSpells
import Derived.WalkLawsBesides
import Derived.BigQuiet
import Derived.Deep.QuietTactic
import Derived.Lib.Hide
import Derived.Deep.RegionHeld3
import Derived.Deep.LoopGhost
import Derived.OrdersIn
import Derived.TacticsIn
import Derived.Maps.AppendAt
import Derived.Deep.AppendLies
set_option linter.unusedVariables false
set_option linter.unusedSimpArgs false
set_option maxRecDepth 100000
set_option maxHeartbeats 16000000
namespace Go.Proofs.YtipnifjmhlcehaaGreatDoor
section
open Go.RowKit
theorem jjT {W w1:World} (hb:Below W.heap.size W w1):(∀ b o,b < W.heap.size->w1.cell? ⟨b,o,none⟩=W.cell? ⟨b,o,none⟩)/\(∀ b o,b < W.heap.size->w1.frozen? ⟨b,o,none⟩=W.frozen? ⟨b,o,none⟩) :=
 ⟨fun b o h=>hb.cell (p:=⟨b,o,none⟩) h,fun b o h=>hb.frozen (p:=⟨b,o,none⟩) h⟩
def Grew (w:World):Type:={ w':World // Below w.heap.size w w' }
def Grew.at_ {w:World} (g:Grew w):World:=g.1
theorem Grew.below {w:World} (g:Grew w):Below w.heap.size w g.at_:=g.2
instance (w:World):Nonempty (Grew w):=⟨⟨w,Below.refl _ _⟩⟩
theorem pM {P:Program} {id:Nat} {Q:Exit->Act->World->Prop} {a:Act} {w:World} {l:List Oper} (hm:P.follows .mixedOrders=true) (hB:Region.lexB .any l.toArray=true)
  (h:wpQuiet P l.toArray (fun w'=>∃ g:Grew w,w'=g.at_) (fun a'=>∀ w',(∃ g:Grew w,w'=g.at_)->Q .normal a' w') l a):(Code.region id l.toArray true).wp P Q a w :=
 wp_region_quiet (C:=fun w'=>∃ g:Grew w,w'=g.at_) hm hB ⟨⟨w.drew,(Below.refl _ _).drew⟩,rfl⟩ (by simpa using h)
theorem pC {P:Program} {f:FuncId} {args:Array Value} {w:World} {g:Grew w} {v:Value}
  (h:Calls P f args g.at_ fun e w'=>e=.returned v/\Below g.at_.heap.size g.at_ w'):Calls P f args g.at_ fun e w''=>e=.returned v/\∃ g':Grew w,w''=g'.at_ :=
 h.mono fun _ w' ⟨he,hb⟩=>⟨he,⟨w',g.below.trans (hb.mono g.below.size)⟩,rfl⟩
theorem jcB {w:World} (g:Grew w) {b o:Nat} {v:Option Value} (hb:b < w.heap.size) (hv:w.cell? ⟨b,o,none⟩=v):g.at_.cell? ⟨b,o,none⟩=v:=(g.below.cell (p:=⟨b,o,none⟩) hb).trans hv
theorem sZ {V w:World} (g:Grew w) (hb:Below V.heap.size V w) {b o:Nat} {v:Option Value} (hv':b < V.heap.size) (hv:V.cell? ⟨b,o,none⟩=v):g.at_.cell? ⟨b,o,none⟩=v :=
 jcB g (Nat.lt_of_lt_of_le hv' hb.size) ((hb.cell (p:=⟨b,o,none⟩) hv').trans hv)
theorem jcA {V w:World} (g:Grew w) (hb:Below V.heap.size V w) {b o:Nat} {v:Bool} (hv':b < V.heap.size) (hv:V.frozen? ⟨b,o,none⟩=v):g.at_.frozen? ⟨b,o,none⟩=v :=
 (g.below.frozen (p:=⟨b,o,none⟩) (Nat.lt_of_lt_of_le hv' hb.size)).trans ((hb.frozen (p:=⟨b,o,none⟩) hv').trans hv)
end
section
open Go.RowKit
section
variable {P : Program} {ops : Array Oper} {C : World → Prop}
def dT (ops:Array Oper) (i:Nat):List Nat :=
 match ops[i]? with
 | some o=>(o.after.toList.filter (Region.binds .any)).map (·.on)
 | none=>[]
def uH (ops:Array Oper):Nat->Nat->List Nat
 | 0,_=>[]
 | f+1,i=>dT ops i ++ (dT ops i).flatMap (uH ops f)
def ClosedL (ops:Array Oper) (listed:Array Bool):Prop:=∀ i,listed.getD i false=true->∀ j ∈ dT ops i,listed.getD j false=true
theorem xL {listed:Array Bool} {i:Nat} (h:i ∈ Region.ready .any ops listed):∀ j ∈ dT ops i,listed.getD j false=true:=by
 obtain ⟨_,o,ho,hall⟩:=mem_ready.1 h
 intro j hj
 simp only [dT,ho,List.mem_map,List.mem_filter] at hj
 obtain ⟨e,⟨he,hb⟩,rfl⟩:=hj
 exact hall e (by simpa using he) hb
theorem xO {listed:Array Bool} (hc:ClosedL ops listed):∀ (f i:Nat),(∀ j ∈ dT ops i,listed.getD j false=true)->∀ j ∈ uH ops f i,listed.getD j false=true
 | 0,_,_,_,h=>by simp [uH] at h
 | f+1,i,hp,j,h=>by
  simp only [uH,List.mem_append,List.mem_flatMap] at h
  rcases h with h | ⟨k,hk,h⟩
  ·exact hp j h
  ·exact xO hc f k (hc k (hp k hk)) j h
theorem ClosedL.set {listed:Array Bool} {i:Nat} (hc:ClosedL ops listed) (hr:i ∈ Region.ready .any ops listed):ClosedL ops (listed.setIfInBounds i true):=by
 intro k hk j hj
 by_cases hik:i=k
 ·subst hik
  exact getD_set_true (xL hr j hj)
 ·rw [getD_set_ne false hik] at hk
  exact getD_set_true (hc k hk j hj)
def cC (P:Program) (ops:Array Oper) (C:World->Prop) (hd:List Nat) (L:Array Bool->Act->Prop):Nat->Array Bool->Act->Prop
 | 0,listed,a=>L listed a
 | f+1,listed,a=>Region.ready .any ops listed ≠ []/\∀ i ∈ Region.ready .any ops listed,i ∈ hd/\qOp P ops C i (cC P ops C hd L f (listed.setIfInBounds i true)) a
theorem gD {hd:List Nat} {L:Array Bool->Act->Prop} {Q':Exit->Act->World->Prop} {g:Nat} (hL:∀ listed a w,C w->L listed a->wpAny P .any ops Q' g listed a w) :
  ∀ (f:Nat) (listed:Array Bool) (a:Act) (w:World),C w->cC P ops C hd L f listed a->wpAny P .any ops Q' (f+g) listed a w
 | 0,listed,a,w,hw,h=>by rw [Nat.zero_add]; exact hL _ _ _ hw h
 | f+1,listed,a,w,hw,h=>by
  rw [show f+1+g=(f+g)+1 by omega]
  exact ⟨fun h0=>absurd h0 h.1,fun i hi=>wpOp_of_qOp hw (fun a' w' hw' h'=>gD hL f _ a' w' hw' h') (h.2 i hi).2⟩
theorem lJ {hd:List Nat} {L:Array Bool->Act->Prop} {i:Nat} {oi:Oper} {v:Value} (hi:ops[i]?=some oi)
  (hsel:∀ (j:Nat) (o:Oper) cs b,ops[j]?=some o->o.op ≠ .select cs b)
  (hhd:∀ (listed:Array Bool),ClosedL ops listed->listed.getD i true=false->∀ j ∈ Region.ready .any ops listed,j ∈ hd)
  (hdone:∀ listed a,L listed a->∀ j ∈ Region.ready .any ops listed,j ∉ hd) :
  ∀ (f:Nat) (listed:Array Bool) (a:Act),ClosedL ops listed ->
   (∀ j oj,ops[j]?=some oj->j ≠ i->listed.getD j true=false->(∀ e ∈ oj.after,Region.binds .any e=true->e.on ≠ i)->oi.apart ops oj=true) ->
   i ∈ Region.ready .any ops listed->YieldsIn P ops C oi v a ->
   cC P ops C hd L f (listed.setIfInBounds i true) (a.put oi.dst v)->cC P ops C hd L (f+1) listed a:=by
 intro f
 induction f with
 | zero =>
  intro listed a hcl _ hr hy H
  refine ⟨fun h=>(by rw [h] at hr; cases hr),fun j hj=>?_⟩
  have hjh:=hhd listed hcl (mem_ready.1 hr).1 j hj
  refine ⟨hjh,?_⟩
  by_cases hji:j=i
  ·subst hji; exact hy.qOp hi H
  ·exact absurd hjh (hdone _ _ H j (ready_mono hj hji))
 | succ f ih =>
  intro listed a hcl hfree hr hy H
  have hun:=(mem_ready.1 hr).1
  refine ⟨fun h=>(by rw [h] at hr; cases hr),fun j hj=>?_⟩
  refine ⟨hhd listed hcl hun j hj,?_⟩
  by_cases hji:j=i
  ·subst hji; exact hy.qOp hi H
  ·have h1:=(H.2 j (ready_mono hj hji)).2
   obtain ⟨hjun,oj,hoj,hall⟩:=mem_ready.1 hj
   have hnot:∀ e ∈ oj.after,Region.binds .any e=true->e.on ≠ i:=fun e he hb heq=>by
    have h2:=hall e he hb
    rw [heq] at h2
    rcases Nat.lt_or_ge i listed.size with h' | h'
    ·simp [h'] at hun h2; rw [hun] at h2; cases h2
    ·simp [Array.getElem?_eq_none h'] at h2
   have h2:=qOp_put hoj (hfree j oj hoj hji hjun hnot) (fun cs b=>hsel i oi cs b hi) (fun cs b=>hsel j oj cs b hoj) hy h1
   have hfree':∀ k ok,ops[k]?=some ok->k ≠ i->(listed.setIfInBounds j true).getD k true=false ->
     (∀ e ∈ ok.after,Region.binds .any e=true->e.on ≠ i)->oi.apart ops ok=true:=fun k ok hk hki hun' hno=>by
    refine hfree k ok hk hki ?_ hno
    by_cases hjk:j=k
    ·subst hjk; exact hjun
    ·rw [getD_set_ne true hjk] at hun'; exact hun'
   refine qOp_mono (fun a' h3=>ih (listed.setIfInBounds j true) a' (hcl.set hj) hfree' (ready_mono hr (Ne.symm hji)) h3.1 ?_) h2
   rw [Array.setIfInBounds_comm _ _ hji]
   exact h3.2
def kE (ops:Array Oper):List Nat->Array Bool->Bool
 | [],listed=>(Region.ready .any ops listed).isEmpty
 | t::tl,listed=>decide (Region.ready .any ops listed=[t]) && kE ops tl (listed.setIfInBounds t true)
def jcy (ops:Array Oper) (tl:List Nat):List Nat->Array Bool->Bool
 | [],listed=>kE ops tl listed
 | i::hd,listed=>(Region.ready .any ops listed).contains i && Region.free .any ops listed i && jcy ops tl hd (listed.setIfInBounds i true)
def sQ (ops:Array Oper) (hd tl:List Nat):Bool :=
 Region.noSelect ops && decide (hd.length+tl.length=ops.size) && ((List.range ops.size).all fun i=>hd.contains i || tl.contains i) &&
 (tl.all fun t=>hd.all fun i=>(uH ops ops.size t).contains i) && (tl.all fun t=>!hd.contains t) && jcy ops tl hd (Array.replicate ops.size false)
theorem cI {Q':Exit->Act->World->Prop}:∀ (tl:List Nat) (lt:List Oper) (listed:Array Bool) (a:Act) (w:World),tl.map (ops[·]?)=lt.map some->kE ops tl listed=true ->
  wpList P ops Q' lt a w->wpAny P .any ops Q' tl.length listed a w
 | [],lt,listed,a,w,hl,hB,h=>by
  have:lt=[]:=by cases lt with | nil=>rfl | cons=>simp at hl
  subst this
  exact ⟨by simpa [kE] using hB,h⟩
 | t::tl,[],listed,a,w,hl,hB,h=>by simp at hl
 | t::tl,o::lt,listed,a,w,hl,hB,h=>by
  simp only [List.map_cons,List.cons.injEq] at hl
  simp only [kE,Bool.and_eq_true,decide_eq_true_eq] at hB
  refine ⟨fun h1=>(by rw [hB.1] at h1; cases h1),fun i hi=>?_⟩
  rw [hB.1] at hi
  have hik:i=t:=by simpa using hi
  subst hik
  have hw:wpOp P ops Q' i (wpList P ops Q' lt) a w:=by unfold wpOp; simp only [hl.1]; exact h
  exact wpOp_mono (fun a' w' h'=>cI tl lt _ a' w' hl.2 hB.2 h') hw
theorem dG {hd tl:List Nat} {Lq:Act->Prop} (hsel:Region.noSelect ops=true)
  (hcov:∀ i,i < ops.size->i ∈ hd\/i ∈ tl) (hanc:∀ t ∈ tl,∀ i ∈ hd,i ∈ uH ops ops.size t) (hdis:∀ t ∈ tl,t ∉ hd) :
  ∀ (h:List Nat) (lh:List Oper) (listed:Array Bool) (a:Act),(∀ i ∈ h,i ∈ hd)->h.map (ops[·]?)=lh.map some->ClosedL ops listed->jcy ops tl h listed=true ->
   wpQuiet P ops C Lq lh a->cC P ops C hd (fun listed' a'=>kE ops tl listed'=true/\Lq a') h.length listed a
 | [],lh,listed,a,_,hl,_,hB,hq=>by
  have:lh=[]:=by cases lh with | nil=>rfl | cons=>simp at hl
  subst this
  exact ⟨by simpa [jcy] using hB,hq⟩
 | i::h,[],listed,a,_,hl,_,hB,hq=>by simp at hl
 | i::h,o::lh,listed,a,hin,hl,hcl,hB,hq=>by
  simp only [List.map_cons,List.cons.injEq] at hl
  have h0:ops[i]?=some o:=hl.1
  simp only [jcy,Bool.and_eq_true] at hB
  obtain ⟨⟨hr,hf⟩,hB'⟩:=hB
  have hr':i ∈ Region.ready .any ops listed:=by simpa using hr
  have hst:qOp P ops C i (wpQuiet P ops C Lq lh) a:=by unfold qOp; simp only [h0]; exact hq
  obtain ⟨v,hy,hK⟩:=yieldsIn_of_qOp h0 hst
  refine lJ h0 (Region.noSelect_spec hsel) ?_ ?_ h.length listed a hcl (Region.free_spec h0 hf) hr' hy
   (dG hsel hcov hanc hdis h lh _ _ (fun j hj=>hin j (List.mem_cons_of_mem _ hj)) hl.2 (hcl.set hr') hB' hK)
  ·intro listed' hcl' hun j hj
   obtain ⟨_,oj,hoj,_⟩:=mem_ready.1 hj
   have hjs:j < ops.size:=(Array.getElem?_eq_some_iff.1 hoj).1
   rcases hcov j hjs with hh | hh
   ·exact hh
   ·have hl1:=xO hcl' ops.size j (xL hj) i (hanc j hh i (hin i (by simp)))
    rcases Nat.lt_or_ge i listed'.size with h' | h'
    ·simp [h'] at hun hl1; rw [hun] at hl1; cases hl1
    ·simp [Array.getElem?_eq_none h'] at hl1
  ·intro listed' a' hL j hj hjh
   have hB:=hL.1
   cases htl:tl with
   | nil=>simp only [htl,kE,List.isEmpty_iff] at hB; rw [hB] at hj; cases hj
   | cons t tl' =>
    simp only [htl,kE,Bool.and_eq_true,decide_eq_true_eq] at hB
    rw [hB.1] at hj
    have:j=t:=by simpa using hj
    subst this
    exact hdis j (by simp [htl]) hjh
theorem lB {id:Nat} {Q:Exit->Act->World->Prop} {a:Act} {w:World} {l:List Oper} (hd tl:List Nat) (lh lt:List Oper) (hm:P.follows .mixedOrders=true)
  (hB:sQ l.toArray hd tl=true) (hh:hd.map (l.toArray[·]?)=lh.map some) (ht:tl.map (l.toArray[·]?)=lt.map some) (hC:C w.drew)
  (h:wpQuiet P l.toArray C (fun a'=>∀ w',C w'->wpList P l.toArray Q lt a' w') lh a):(Code.region id l.toArray true).wp P Q a w:=by
 simp only [sQ,Bool.and_eq_true,decide_eq_true_eq] at hB
 obtain ⟨⟨⟨⟨⟨hsel,hlen⟩,hcov⟩,hanc⟩,hdis⟩,hhd⟩:=hB
 have H:=dG (P:=P) (C:=C) (Lq:=fun a'=>∀ w',C w'->wpList P l.toArray Q lt a' w') (hd:=hd) (tl:=tl) hsel
  (fun i hi=>by have:=List.all_eq_true.1 hcov i (List.mem_range.2 hi); simpa using this)
  (fun t htl i hi=>by have:=List.all_eq_true.1 (List.all_eq_true.1 hanc t htl) i hi; simpa using this)
  (fun t htl=>by have:=List.all_eq_true.1 hdis t htl; simpa using this)
  hd lh (Array.replicate l.toArray.size false) a (fun _ hi=>hi) hh
  (fun i hi=>by
   have h0:∀ m j:Nat,(Array.replicate m false).getD j false=false:=fun m j=>by
    rcases Nat.lt_or_ge j m with h' | h'
    ·simp [h']
    ·simp [h']
   rw [h0] at hi
   cases hi) hhd h
 refine wp_region_any hm ?_
 have:=gD (Q':=Q) (g:=tl.length) (fun listed a' w' hw' hL=>cI tl lt listed a' w' ht hL.1 (hL.2 w' hw')) _ _ _ _ hC H
 rw [hlen] at this
 exact this
end
def j6 (l:List Oper):List Nat->List Oper
 | []=>[]
 | i::is=>match l.drop i with
  | o::_=>o::j6 l is
  | []=>j6 l is
theorem qJ (l:List Oper):∀ is:List Nat,(is.all fun i=>decide (i < l.length))=true->is.map (l.toArray[·]?)=(j6 l is).map some
 | [],_=>rfl
 | i::is,h=>by
  simp only [List.all_cons,Bool.and_eq_true,decide_eq_true_eq] at h
  simp only [j6,List.drop_eq_getElem_cons h.1,List.map_cons,qJ l is h.2]
  simp [h.1]
theorem cM {P:Program} {id:Nat} {Q:Exit->Act->World->Prop} {a:Act} {w:World} {l:List Oper} (hd tl:List Nat) (hm:P.follows .mixedOrders=true)
  (hB:(sQ l.toArray hd tl && (hd.all fun i=>decide (i < l.length)) && (tl.all fun i=>decide (i < l.length)))=true)
  (h:wpQuiet P l.toArray (fun w'=>∃ g:Grew w,w'=g.at_) (fun a'=>∀ w',(∃ g:Grew w,w'=g.at_)->wpList P l.toArray Q (j6 l tl) a' w') (j6 l hd) a):(Code.region id l.toArray true).wp P Q a w:=by
 simp only [Bool.and_eq_true] at hB
 exact lB (C:=fun w'=>∃ g:Grew w,w'=g.at_) hd tl _ _ hm hB.1.1 (qJ l hd hB.1.2) (qJ l tl hB.2) ⟨⟨w.drew,(Below.refl _ _).drew⟩,rfl⟩ h
end
section
open Go.RowKit
def upd (e:Nat->Value) (d:Nat) (v:Value):Nat->Value:=fun k=>match Nat.beq k d with
 | true=>v
 | false=>e k
def yU (e:Nat->Value) (d:Option Tmp) (v:Value):Nat->Value:=match d with
 | some d=>upd e d v
 | none=>e
def ev (e:Nat->Value):Operand->Value
 | .tmp t=>e t
 | .const v=>v
 | .global g=>.pointer (some ⟨g,0,none⟩)
 | .func f=>.func (.func f) #[] #[]
theorem cN (e:Nat->Value) (d:Nat) (v:Value) (k:Nat):upd e d v k=if k=d then v else e k:=by
 unfold upd
 by_cases h:k=d
 ·subst h; simp
 ·have:Nat.beq k d=false:=by
   cases hb:Nat.beq k d with
   | false=>rfl
   | true=>exact absurd (Nat.eq_of_beq_eq_true hb) h
  simp [this,h]
theorem pP {e:Nat->Value} {d:Nat} {v:Value} (h:e d=v):upd e d v=e:=by
 funext k
 rw [cN]
 split
 ·rename_i hk; subst hk; exact h.symm
 ·rfl
structure Rep (N:Nat) (df:List Deferred) (e:Nat->Value) (a:Act):Prop where
 defers:a.defers=df
 size:a.tmps.size=N
 get:∀ k,a.tmps.getD k undef=e k
def vE (N:Nat):Option Tmp->Bool
 | some d=>Nat.blt d N
 | none=>true
theorem Rep.eval {N:Nat} {df:List Deferred} {e:Nat->Value} {a:Act} (h:Rep N df e a):a.eval=ev e:=by
 funext x
 cases x <;> simp only [Act.eval,ev]
 exact h.get _
theorem Rep.put {N:Nat} {df:List Deferred} {e:Nat->Value} {a:Act} (h:Rep N df e a) {d:Option Tmp} (hd:vE N d=true) (v:Value):Rep N df (yU e d v) (a.put d v):=by
 cases d with
 | none=>exact h
 | some d =>
  have hd':d < N:=Nat.le_of_ble_eq_true hd
  refine ⟨h.defers,by simp [Act.put,h.size],fun k=>?_⟩
  show (a.tmps.setIfInBounds d v).getD k undef=upd e d v k
  rw [cN]
  have hs:=h.size
  by_cases hk:k=d
  ·subst hk
   simp [Array.getElem?_setIfInBounds,hs,hd']
  ·rw [if_neg hk,<-h.get k]
   simp only [Array.getD_eq_getD_getElem?,Array.getElem?_setIfInBounds,if_neg (Ne.symm hk)]
def yE (ops:Array Oper) (e:Nat->Value) (j:Nat):Option Bool :=
 match (ops[j]?).bind (·.dst) with
 | some d=>match e d with
  | .bool b=>some b
  | _=>none
 | none=>none
def wE (ops:Array Oper) (e:Nat->Value) (o:Oper):Bool :=
 match o.guard with
 | none=>true
 | some (j,b)=>yE ops e j == some b
theorem Rep.yielded {N:Nat} {df:List Deferred} {e:Nat->Value} {a:Act} (h:Rep N df e a) (ops:Array Oper) (j:Nat):yielded ops a.tmps j=yE ops e j:=by
 unfold Go.yielded yE
 cases hd:(ops[j]?).bind (·.dst) with
 | none=>rfl
 | some d =>
  simp only [Option.bind_some]
  have hg:=h.get d
  rw [<-hg]
  rcases Nat.lt_or_ge d a.tmps.size with hlt | hge
  ·simp [hlt]; cases a.tmps[d] <;> rfl
  ·simp [Array.getElem?_eq_none hge,undef]
theorem Rep.wanted {N:Nat} {df:List Deferred} {e:Nat->Value} {a:Act} (h:Rep N df e a) (ops:Array Oper) (o:Oper):Region.wanted o (Go.yielded ops a.tmps)=wE ops e o:=by
 unfold Region.wanted wE
 cases o.guard with
 | none=>rfl
 | some p=>obtain ⟨j,b⟩:=p; simp only [h.yielded]
def kX:Op->Bool
 | .defer _=>true
 | _=>false
def q8 (N:Nat):Code->Bool
 | .region _ ops _=>(ops.toList.all fun o=>vE N o.dst) && (ops.toList.all fun o=>!kX o.op)
 | .seq a b=>q8 N a && q8 N b
 | .cond _ a b=>q8 N a && q8 N b
 | .block _ c=>q8 N c
 | .loop c=>q8 N c
 | .scope c=>q8 N c
 | _=>true
def wF (ro:Option Nat):Fence:={ Fence.wide with round:=ro }
section
variable {P : Program} {ops : Array Oper} {Q : Exit → Act → World → Prop} {ro : Option Nat}
theorem jan {l:List Oper} (h:(l.all fun o=>!kX o.op)=true) {o:Oper} (ho:o ∈ l):∀ c,o.op ≠ .defer c:=fun c hc=>by
 have:=List.all_eq_true.1 h o ho
 rw [hc] at this
 cases this
theorem fB (h:(ops.toList.all fun o=>!kX o.op)=true) {i:Nat} {o:Oper} (ho:ops[i]?=some o):∀ c,o.op ≠ .defer c :=
 jan h (Array.mem_toList_iff.2 (Array.mem_of_getElem? ho))
theorem Oper.wpIn_of_wp {o:Oper} {a:Act} {w:World} {K:Act->World->Prop} (hd:∀ c,o.op ≠ .defer c) (h:o.wp P a w K Q):o.wpIn (wF ro) 0 P a w K Q:=by
 unfold Oper.wpIn
 refine ⟨fun _ _=>trivial,?_⟩
 rw [show (wF ro).round=ro from rfl,Oper.semAt_eq ro _ o hd]
 unfold Oper.wp at h
 generalize (execOp a.eval o).run P w=r at *
 cases r with
 | ok x w' =>
  cases x <;> simp only [Oper.upon] at h <;> simp only [Oper.uponIn] <;>
   first
    | exact h
    | exact h.elim
    | exact ⟨(fun h1=>by cases h1),(callsIn_wide (n:=0)).2 h⟩
    | skip
  case row row args =>
   refine ⟨(fun h1=>by cases h1),fun c cs _=>?_⟩
   obtain ⟨v,w2,hv,hs⟩:=h c cs
   exact ⟨v,w2,hv,stepsIn_wide.2 hs⟩
 | halt x w'=>cases x <;> simp only [Oper.upon] at h <;> simp only [Oper.uponIn] <;> first | exact h | exact h.elim
theorem vL {C:World->Prop} (hnd:(ops.toList.all fun o=>!kX o.op)=true) {hd:List Nat} {L:Array Bool->Act->Prop} {g:Nat} (hL:∀ listed a w,C w->L listed a->wpAnyIn (wF ro) 0 P .any ops Q g listed a w) :
  ∀ (f:Nat) (listed:Array Bool) (a:Act) (w:World),C w->cC P ops C hd L f listed a->wpAnyIn (wF ro) 0 P .any ops Q (f+g) listed a w
 | 0,listed,a,w,hw,h=>by rw [Nat.zero_add]; exact hL _ _ _ hw h
 | f+1,listed,a,w,hw,h=>by
  rw [show f+1+g=(f+g)+1 by omega]
  refine ⟨fun h0=>absurd h0 h.1,fun i hi=>?_⟩
  have hh:=(h.2 i hi).2
  unfold qOp at hh
  unfold wpOpIn
  split
  ·rename_i ho; simp only [ho] at hh; exact vL hnd hL f _ _ _ hw hh
  ·rename_i o ho
   simp only [ho] at hh
   split
   ·rename_i hwn; simp only [hwn,if_true] at hh; exact Oper.wpIn_of_wp (fB hnd ho) (Oper.wp_of_quiet hw (fun a' w' hw' h'=>vL hnd hL f _ a' w' hw' h') hh)
   ·rename_i hwn; simp only [hwn] at hh; exact ⟨fun _ _=>trivial,vL hnd hL f _ _ _ hw hh⟩
theorem k3:∀ (tl:List Nat) (lt:List Oper) (listed:Array Bool) (a:Act) (w:World),tl.map (ops[·]?)=lt.map some->kE ops tl listed=true ->
  wpListIn (wF ro) 0 P ops Q lt a w->wpAnyIn (wF ro) 0 P .any ops Q tl.length listed a w
 | [],lt,listed,a,w,hl,hB,h=>by
  have:lt=[]:=by cases lt with | nil=>rfl | cons=>simp at hl
  subst this
  exact ⟨by simpa [kE] using hB,h⟩
 | t::tl,[],listed,a,w,hl,hB,h=>by simp at hl
 | t::tl,o::lt,listed,a,w,hl,hB,h=>by
  simp only [List.map_cons,List.cons.injEq] at hl
  simp only [kE,Bool.and_eq_true,decide_eq_true_eq] at hB
  refine ⟨fun h1=>(by rw [hB.1] at h1; cases h1),fun i hi=>?_⟩
  rw [hB.1] at hi
  have hik:i=t:=by simpa using hi
  subst hik
  have hw:wpOpIn (wF ro) 0 P ops Q i (wpListIn (wF ro) 0 P ops Q lt) a w:=by unfold wpOpIn; simp only [hl.1]; exact h
  exact wpOpIn_mono (fun a' w' h'=>k3 tl lt _ a' w' hl.2 hB.2 h') hw
theorem pJ {C:World->Prop} {id:Nat} {a:Act} {w:World} {l:List Oper} (hd tl:List Nat) (lh lt:List Oper) (hnd:(l.all fun o=>!kX o.op)=true) (hm:P.follows .mixedOrders=true)
  (hB:sQ l.toArray hd tl=true) (hh:hd.map (l.toArray[·]?)=lh.map some) (ht:tl.map (l.toArray[·]?)=lt.map some) (hC:C w.drew)
  (h:wpQuiet P l.toArray C (fun a'=>∀ w',C w'->wpListIn (wF ro) 0 P l.toArray Q lt a' w') lh a):(Code.region id l.toArray true).wpIn (wF ro) 0 P Q a w:=by
 simp only [sQ,Bool.and_eq_true,decide_eq_true_eq] at hB
 obtain ⟨⟨⟨⟨⟨hsel,hlen⟩,hcov⟩,hanc⟩,hdis⟩,hhd⟩:=hB
 have H:=dG (P:=P) (C:=C) (Lq:=fun a'=>∀ w',C w'->wpListIn (wF ro) 0 P l.toArray Q lt a' w') (hd:=hd) (tl:=tl) hsel
  (fun i hi=>by have:=List.all_eq_true.1 hcov i (List.mem_range.2 hi); simpa using this)
  (fun t htl i hi=>by have:=List.all_eq_true.1 (List.all_eq_true.1 hanc t htl) i hi; simpa using this)
  (fun t htl=>by have:=List.all_eq_true.1 hdis t htl; simpa using this)
  hd lh (Array.replicate l.toArray.size false) a (fun _ hi=>hi) hh
  (fun i hi=>by
   have h0:∀ m j:Nat,(Array.replicate m false).getD j false=false:=fun m j=>by
    rcases Nat.lt_or_ge j m with h' | h'
    ·simp [h']
    ·simp [h']
   rw [h0] at hi
   cases hi) hhd h
 refine wpIn_region_any hm ?_
 have:=vL (Q:=Q) (ro:=ro) (by simpa using hnd) (g:=tl.length) (fun listed a' w' hw' hL=>k3 tl lt listed a' w' ht hL.1 (hL.2 w' hw')) _ _ _ _ hC H
 rw [hlen] at this
 exact this
theorem rP {F:Fence} {n:Nat} {a:Act} {w:World} {c:Code} (I:Nat->Act->World->Prop) (n₀:Nat) (h₀:I n₀ a w)
  (round:∀ k a w,I k a w->c.wpIn F n P (Exit.then (fun a' w'=>∃ k',k' < k/\I k' a' w') Q) a w):(Code.loop c).wpIn F n P Q a w:=by
 refine wpIn_loop (fun a w=>∃ n,I n a w) (fun a w=>leastOf (fun n=>I n a w)) ⟨n₀,h₀⟩ ?_
 intro a w hI
 refine wpIn_mono (round _ a w (leastOf_spec hI).1) ?_
 intro e a' w' hq
 cases e with
 | normal =>
  obtain ⟨n',hlt,hI'⟩:=hq
  exact show (∃ n,I n a' w')/\leastOf (fun n=>I n a' w') < leastOf (fun n=>I n a w) from ⟨⟨n',hI'⟩,Nat.lt_of_le_of_lt ((leastOf_spec ⟨n',hI'⟩).2 n' hI') hlt⟩
 | exit id=>exact hq
 | goto l=>exact hq
 | ret=>exact hq
 | panic ch=>exact hq
 | outgrown=>exact hq
end
def jdB:Op->Bool
 | .call _=>true
 | _=>false
def xQ (P:Program) (e:Nat->Value) (o:Oper) (w:World) (next:Value->World->Prop):Prop :=
 match (execOp (ev e) o).run P w with
 | .ok (.value v) w'=>next v w'
 | .ok .skip w'=>next undef w'
 | .ok (.enter f args) w'=>Calls P f args w' fun en w''=>∃ v,en=.returned v/\next v w''
 | .ok (.round l f tmps sg bd) w'=>jdB o.op=true/\RoundIn Fence.wide 0 P l f tmps sg bd w' fun en w''=>∃ v,en=.returned v/\next v w''
 | _=>False
def RW (P:Program) (ops:Array Oper) (Q:(Nat->Value)->World->Prop):List Oper->(Nat->Value)->World->Prop
 | [],e,w=>Q e w
 | o::rest,e,w=>if wE ops e o=true then xQ P e o w (fun v w'=>RW P ops Q rest (yU e o.dst v) w') else RW P ops Q rest (yU e o.dst undef) w
theorem Oper.wp_of_next {P:Program} {N:Nat} {df:List Deferred} {ro:Option Nat} {e:Nat->Value} {a:Act} (hr:Rep N df e a) {o:Oper} (hd:∀ c,o.op ≠ .defer c) {w:World} {next:Value->World->Prop} {K:Act->World->Prop} {Q:Exit->Act->World->Prop}
  (h:xQ P e o w next) (hK:∀ v w',next v w'->K (a.put o.dst v) w'):o.wpIn (wF ro) 0 P a w K Q:=by
 unfold Oper.wpIn
 refine ⟨fun _ _=>trivial,?_⟩
 rw [show (wF ro).round=ro from rfl,Oper.semAt_eq ro _ o hd,hr.eval]
 unfold xQ at h
 generalize (execOp (ev e) o).run P w=r at *
 cases r with
 | ok n w' =>
  cases n <;> simp only [Oper.uponIn] <;> first | exact h.elim | exact hK _ _ h | skip
  case enter f args =>
   exact ⟨(fun h1=>by cases h1),(callsIn_wide (n:=0)).2 (h.mono fun en w'' ⟨v,he,hn⟩=>by subst he; exact hK _ _ hn)⟩
  case round l f tmps sg bd =>
   exact ⟨(fun h1=>by cases h1),RoundIn.mono h.2 fun en w'' ⟨v,he,hn⟩=>by subst he; exact hK _ _ hn⟩
 | halt x w'=>exact h.elim
theorem k4 {P:Program} {ops:Array Oper} {N:Nat} {df:List Deferred} {ro:Option Nat} {Q:(Nat->Value)->World->Prop} {Q':Exit->Act->World->Prop} (hQ:∀ e a w,Rep N df e a->Q e w->Q' .normal a w) :
  ∀ (l:List Oper) (e:Nat->Value) (a:Act) (w:World),(l.all fun o=>vE N o.dst)=true->(l.all fun o=>!kX o.op)=true->Rep N df e a->RW P ops Q l e w->wpListIn (wF ro) 0 P ops Q' l a w
 | [],e,a,w,_,_,hr,h=>hQ e a w hr h
 | o::rest,e,a,w,hd,hf,hr,h=>by
  have hnd:=jan hf (List.mem_cons_self)
  simp only [List.all_cons,Bool.and_eq_true] at hd hf
  unfold wpListIn
  rw [hr.wanted]
  simp only [RW] at h
  split
  ·rename_i hw
   rw [if_pos hw] at h
   exact Oper.wp_of_next hr hnd h fun v w' hn=>k4 hQ rest _ _ _ hd.2 hf.2 (hr.put hd.1 v) hn
  ·rename_i hw
   rw [if_neg hw] at h
   exact ⟨fun _ _=>trivial,k4 hQ rest _ _ _ hd.2 hf.2 (hr.put hd.1 undef) h⟩
def jed (P:Program) (C:World->Prop) (e:Nat->Value) (o:Oper) (v:Value):Prop:=∀ w,C w ->
 match (execOp (ev e) o).run P w with
 | .ok (.value u) w'=>w'=w/\u=v
 | .ok .skip w'=>w'=w/\v=undef
 | .ok (.enter f args) w'=>w'=w/\Calls P f args w (fun en w''=>en=.returned v/\C w'')
 | _=>False
def RQ (P:Program) (ops:Array Oper) (C:World->Prop) (Q:(Nat->Value)->Prop):List Oper->(Nat->Value)->Prop
 | [],e=>Q e
 | o::rest,e=>if wE ops e o=true then ∃ v,jed P C e o v/\RQ P ops C Q rest (yU e o.dst v) else RQ P ops C Q rest (yU e o.dst undef)
theorem wY {P:Program} {ops:Array Oper} {C:World->Prop} {N:Nat} {df:List Deferred} {Q:(Nat->Value)->Prop} {Q':Act->Prop} (hQ:∀ e a,Rep N df e a->Q e->Q' a) :
  ∀ (l:List Oper) (e:Nat->Value) (a:Act),(l.all fun o=>vE N o.dst)=true->Rep N df e a->RQ P ops C Q l e->wpQuiet P ops C Q' l a
 | [],e,a,_,hr,h=>hQ e a hr h
 | o::rest,e,a,hd,hr,h=>by
  simp only [List.all_cons,Bool.and_eq_true] at hd
  unfold wpQuiet
  rw [hr.wanted]
  simp only [RQ] at h
  split
  ·rename_i hw
   rw [if_pos hw] at h
   obtain ⟨v,hq,hn⟩:=h
   refine ⟨v,fun w hw'=>?_,wY hQ rest _ _ hd.2 (hr.put hd.1 v) hn⟩
   have:=hq w hw'
   unfold Oper.quietAt
   rw [hr.eval]
   generalize (execOp (ev e) o).run P w=r at *
   cases r with
   | ok n w'=>cases n <;> first | exact this | exact this.elim
   | halt x w'=>exact this.elim
  ·rename_i hw
   rw [if_neg hw] at h
   exact wY hQ rest _ _ hd.2 (hr.put hd.1 undef) h
def jlN (N:Nat) (df:List Deferred) (Q:Exit->(Nat->Value)->World->Prop):Exit->Act->World->Prop:=fun x a w=>∃ e,Rep N df e a/\Q x e w
def CW (P:Program) (N:Nat) (c:Code) (Q:Exit->(Nat->Value)->World->Prop) (e:Nat->Value) (w:World):Prop :=
 q8 N c=true->∀ df a,Rep N df e a->∀ ro,c.wpIn (wF ro) 0 P (jlN N df Q) a w
def rA (next:(Nat->Value)->World->Prop) (Q:Exit->(Nat->Value)->World->Prop):Exit->(Nat->Value)->World->Prop
 | .normal,e,w=>next e w
 | x,e,w=>Q x e w
def InB (id:Nat) (Q:Exit->(Nat->Value)->World->Prop):Exit->(Nat->Value)->World->Prop
 | .exit id',e,w=>match Nat.beq id' id with
  | true=>Q .normal e w
  | false=>Q (.exit id') e w
 | x,e,w=>Q x e w
section
variable {P : Program} {N : Nat} {Q : Exit → (Nat → Value) → World → Prop} {e : Nat → Value} {w : World}
theorem CW.mono {c:Code} {Q':Exit->(Nat->Value)->World->Prop} (h:CW P N c Q e w) (hq:∀ x e w,Q x e w->Q' x e w):CW P N c Q' e w :=
 fun hc df a hr ro=>wpIn_mono (h hc df a hr ro) fun x a' w' ⟨e',hr',hQ⟩=>⟨e',hr',hq _ _ _ hQ⟩
theorem j5 (h:Q .normal e w):CW P N .skip Q e w:=fun _ df a hr ro=>wpIn_skip ⟨e,hr,h⟩
theorem jY {id:Nat} (h:Q (.exit id) e w):CW P N (.exit id) Q e w:=fun _ df a hr ro=>wpIn_exit ⟨e,hr,h⟩
theorem kO (h:Q .ret e w):CW P N .ret Q e w:=fun _ df a hr ro=>wpIn_ret ⟨e,hr,h⟩
theorem jJ {x y:Code} (h:CW P N x (rA (CW P N y Q) Q) e w):CW P N (.seq x y) Q e w:=fun hc df a hr ro=>by
 simp only [q8,Bool.and_eq_true] at hc
 refine wpIn_seq (wpIn_mono (h hc.1 df a hr ro) ?_)
 rintro x' a' w' ⟨e',hr',hq⟩
 cases x' <;> first | exact hq hc.2 df a' hr' ro | exact ⟨e',hr',hq⟩
theorem xI {c:Operand} {x y:Code} {t:Bool} (hc:ev e c=.bool t) (ht:t=true->CW P N x Q e w) (hf:t=false->CW P N y Q e w):CW P N (.cond c x y) Q e w:=fun hk df a hr ro=>by
 simp only [q8,Bool.and_eq_true] at hk
 exact wpIn_cond_split (by rw [hr.eval]; exact hc) (fun h=>ht h hk.1 df a hr ro) (fun h=>hf h hk.2 df a hr ro)
theorem yS {c:Operand} {x y:Code} (hc:ev e c=.bool true) (h:CW P N x Q e w):CW P N (.cond c x y) Q e w:=xI hc (fun _=>h) (fun h=>by cases h)
theorem jM {c:Operand} {x y:Code} (hc:ev e c=.bool false) (h:CW P N y Q e w):CW P N (.cond c x y) Q e w:=xI hc (fun h=>by cases h) (fun _=>h)
theorem jS {id:Nat} {c:Code} (h:CW P N c (InB id Q) e w):CW P N (.block id c) Q e w:=fun hk df a hr ro=>by
 refine wpIn_block (wpIn_mono (h hk df a hr ro) ?_)
 rintro x' a' w' ⟨e',hr',hq⟩
 cases x' with
 | exit id' =>
  show if id'=id then _ else _
  simp only [InB] at hq
  by_cases hid:id'=id
  ·subst hid
   rw [if_pos rfl]
   simp at hq
   exact ⟨e',hr',hq⟩
  ·have:Nat.beq id' id=false:=by
    cases hb:Nat.beq id' id with
    | false=>rfl
    | true=>exact absurd (Nat.eq_of_beq_eq_true hb) hid
   rw [if_neg hid]
   rw [this] at hq
   exact ⟨e',hr',hq⟩
 | _=>exact ⟨e',hr',hq⟩
theorem j9 {c:Code} (I:Nat->(Nat->Value)->World->Prop) (n:Nat) (h₀:I n e w)
  (round:∀ n e w,I n e w->CW P N c (rA (fun e' w'=>∃ n',n' < n/\I n' e' w') Q) e w):CW P N (.loop c) Q e w:=fun hk df a hr ro=>by
 refine rP (fun n a w=>∃ e,Rep N df e a/\I n e w) n ⟨e,hr,h₀⟩ ?_
 rintro n a w ⟨e,hr,hI⟩
 refine wpIn_mono (round n e w hI hk df a hr ro) ?_
 rintro x a' w' ⟨e',hr',hq⟩
 cases x with
 | normal =>
  obtain ⟨n',hlt,hI'⟩:=hq
  exact ⟨n',hlt,e',hr',hI'⟩
 | _=>exact ⟨e',hr',hq⟩
theorem jI {id:Nat} {l:List Oper} (h:RW P l.toArray (fun e w=>Q .normal e w) l e w):CW P N (.region id l.toArray false) Q e w:=fun hk df a hr ro=>by
 simp only [q8,Bool.and_eq_true] at hk
 exact wpIn_region_lit (k4 (fun e a w hr h=>⟨e,hr,h⟩) l e a w hk.1 hk.2 hr h)
theorem yB {C:World->Prop} {id:Nat} {l:List Oper} (hd tl:List Nat) (hm:P.follows .mixedOrders=true)
  (hB:(sQ l.toArray hd tl && (hd.all fun i=>decide (i < l.length)) && (tl.all fun i=>decide (i < l.length)))=true) (hC:C w.drew)
  (h:RQ P l.toArray C (fun e'=>∀ w',C w'->RW P l.toArray (fun e w=>Q .normal e w) (j6 l tl) e' w') (j6 l hd) e):CW P N (.region id l.toArray true) Q e w:=fun hk df a hr ro=>by
 simp only [Bool.and_eq_true] at hB
 simp only [q8,Bool.and_eq_true] at hk
 have hsub:∀ is:List Nat,(is.all fun i=>decide (i < l.length))=true->((j6 l is).all fun o=>vE N o.dst)=true:=fun is his=>by
  have h1:=qJ l is his
  refine List.all_eq_true.2 fun o ho=>?_
  have h2:some o ∈ (j6 l is).map some:=List.mem_map.2 ⟨o,ho,rfl⟩
  rw [<-h1] at h2
  obtain ⟨i,_,hi⟩:=List.mem_map.1 h2
  have h3:l[i]?=some o:=by simpa using hi
  exact List.all_eq_true.1 hk.1 o (List.mem_of_getElem? h3)
 have hsubd:∀ is:List Nat,(is.all fun i=>decide (i < l.length))=true->((j6 l is).all fun o=>!kX o.op)=true:=fun is his=>by
  have h1:=qJ l is his
  refine List.all_eq_true.2 fun o ho=>?_
  have h2:some o ∈ (j6 l is).map some:=List.mem_map.2 ⟨o,ho,rfl⟩
  rw [<-h1] at h2
  obtain ⟨i,_,hi⟩:=List.mem_map.1 h2
  have h3:l[i]?=some o:=by simpa using hi
  exact List.all_eq_true.1 hk.2 o (List.mem_of_getElem? h3)
 refine pJ (C:=C) hd tl _ _ hk.2 hm hB.1.1 (qJ l hd hB.1.2) (qJ l tl hB.2) hC ?_
 exact wY (fun e' a' hr' hq w' hw'=>k4 (fun e a w hr h=>⟨e,hr,h⟩) _ e' a' w' (hsub tl hB.2) (hsubd tl hB.2) hr' (hq w' hw')) _ e a (hsub hd hB.1.2) hr h
end
def uP (P:Program) (f:FuncId):Bool :=
 match P.funcs[f]? with
 | some fn => !(fn.name == "runtime.NumGoroutine") && fn.body.isSome
 | none=>false
def Fn (P:Program) (f:FuncId) (args:List Value) (w:World) (R:Value->World->Prop):Prop :=
 uP P f=true/\Calls P f args.toArray w fun en w'=>∃ v,en=.returned v/\R v w'
theorem Fn.mono {P:Program} {f:FuncId} {args:List Value} {w:World} {R R':Value->World->Prop} (h:Fn P f args w R) (hr:∀ v w',R v w'->R' v w'):Fn P f args w R' :=
 ⟨h.1,h.2.mono fun _ _ ⟨v,he,hR⟩=>⟨v,he,hr _ _ hR⟩⟩
theorem y5 {P:Program} {f:FuncId} (h:uP P f=true) (args:Array Value) (w:World):(callFunc f args).run P w=.ok (.enter f args) w:=by
 unfold uP at h
 unfold callFunc
 cases hf:P.funcs[f]? with
 | none=>rw [hf] at h; cases h
 | some fn =>
  rw [hf] at h
  simp only [Bool.and_eq_true,Bool.not_eq_true'] at h
  have h1 : fn.name ≠ "runtime.NumGoroutine" := by simpa using h.1
  have h2:fn.body ≠ none:=by cases hb:fn.body <;> simp_all
  simp [hf,h1,h2]
def xN (args:List Value):Nat->Value:=fun k=>args.getD k undef
def Res (P:Program) (R:Value->World->Prop) (rs:Array ResultVar) (e:Nat->Value) (w:World):Prop:=∃ v,(∀ (fn:Func) (tmps:Array Value),fn.results=rs->(∀ k,tmps.getD k undef=e k)->(results fn tmps).run P w=.ok v w)/\R v w
def QF (P:Program) (rs:Array ResultVar) (R:Value->World->Prop):Exit->(Nat->Value)->World->Prop
 | .normal,e,w | .ret,e,w=>Res P R rs e w
 | _,_,_=>False
theorem kK {P:Program} {f:FuncId} {fn:Func} {c:Code} {args:List Value} {w:World} {R:Value->World->Prop} {rs:Array ResultVar} {N:Nat}
  (hf:P.funcs[f]?=some fn) (hb:fn.body=some c) (hr:fn.results=rs) (hN:fn.ntmps=N) (hcl:uP P f=true) (hk:(q8 N c && Nat.ble args.length N)=true)
  (h:CW P N c (QF P rs R) (xN args) w):Fn P f args w R:=by
 simp only [Bool.and_eq_true] at hk
 have hle:args.length<=N:=Nat.le_of_ble_eq_true hk.2
 refine ⟨hcl,calls_of_wp hf hb ((wpIn_wide (n:=0)).1 ?_)⟩
 refine wpIn_mono (h hk.1 [] _ ⟨rfl,by simp [hN]; omega,fun k=>?_⟩ none) ?_
 ·simp only [xN,List.getD_eq_getElem?_getD,Array.getD_eq_getD_getElem?,Array.getElem?_append,List.size_toArray,List.getElem?_toArray,hN]
  split
  ·rfl
  ·rename_i hge
   rw [List.getElem?_eq_none (by omega)]
   simp only [Array.getElem?_replicate]
   split <;> rfl
 ·rintro x a' w' ⟨e',hr',hq⟩
  cases x <;> first | exact hq.elim | skip
  all_goals
   obtain ⟨v,hv,hR⟩:=hq
   exact ⟨hr'.defers,v,hv fn _ hr hr'.get,v,rfl,hR⟩
end
section
open Go.RowKit
def fz:Value->Option Value
 | .bool b=>some (.bool b)
 | .int k n=>some (.int k n)
 | .float k n=>some (.float k n)
 | .complex k a b=>some (.complex k a b)
 | .string s=>some (.string s)
 | .pointer a=>some (.pointer a)
 | .slice a n c=>some (.slice a n c)
 | .map r=>some (.map r)
 | .chan r=>some (.chan r)
 | .func f a b=>some (.func f a b)
 | .nilFunc=>some .nilFunc
 | .iface t v=>some (.iface t v)
 | .nilIface=>some .nilIface
 | .agg cs=>some (.agg cs)
 | .tuple vs=>some (.tuple vs)
theorem zU {v u:Value} (h:fz v=some u):v=u:=by cases v <;> (simp only [fz,Option.some.injEq] at h; exact h)
def fzl:List Value->Option (List Value)
 | []=>some []
 | v::r=>match fz v,fzl r with
  | some a,some b=>some (a::b)
  | _,_=>none
theorem vG:∀ {l m:List Value},fzl l=some m->l=m
 | [],m,h=>by simpa [fzl] using h
 | v::r,m,h=>by
  simp only [fzl] at h
  cases hv:fz v with
  | none=>rw [hv] at h; cases h
  | some a =>
   cases hr:fzl r with
   | none=>rw [hv,hr] at h; cases h
   | some b =>
    rw [hv,hr] at h
    simp only [Option.some.injEq] at h
    rw [<-h,zU hv,vG hr]
section
variable {P : Program} {e : Nat → Value} {w : World}
def OpR (P:Program) (e:Nat->Value) (o:Oper) (w:World) (v:Value):Prop:=(execOp (ev e) o).run P w=.ok (.value v) w
def OpV (P:Program) (e:Nat->Value) (o:Oper) (v:Value):Prop:=∀ w,OpR P e o w v
def jkP:BinOp->Value->Value->Option Value
 | .add,.int .i64 a,.int .i64 b=>some (.int .i64 (IntKind.i64.wrap (a+b)))
 | .sub,.int .i64 a,.int .i64 b=>some (.int .i64 (IntKind.i64.wrap (a - b)))
 | .mul,.int .i64 a,.int .i64 b=>some (.int .i64 (IntKind.i64.wrap (a * b)))
 | .lss,.int .i64 a,.int .i64 b=>some (.bool (decide (a < b)))
 | .leq,.int .i64 a,.int .i64 b=>some (.bool (decide (a<=b)))
 | .gtr,.int .i64 a,.int .i64 b=>some (.bool (decide (a > b)))
 | .geq,.int .i64 a,.int .i64 b=>some (.bool (decide (a >= b)))
 | .eql,.int .i64 a,.int .i64 b=>some (.bool (a == b))
 | .neq,.int .i64 a,.int .i64 b=>some (.bool (a != b))
 | .eql,.int .i32 a,.int .i32 b=>some (.bool (a == b))
 | .neq,.int .i32 a,.int .i32 b=>some (.bool (a != b))
 | .eql,.int .u8 a,.int .u8 b=>some (.bool (a == b))
 | .neq,.int .u8 a,.int .u8 b=>some (.bool (a != b))
 | .add,.int .u8 a,.int .u8 b=>some (.int .u8 (IntKind.u8.wrap (a+b)))
 | .lss,.int .u8 a,.int .u8 b=>some (.bool (decide (a < b)))
 | .gtr,.int .u8 a,.int .u8 b=>some (.bool (decide (a > b)))
 | .eql,.string a,.string b=>some (.bool (a.toList == b.toList))
 | .neq,.string a,.string b=>some (.bool (!(a.toList == b.toList)))
 | _,_,_=>none
def zC (ρ:Operand->Value):Op->Option Value
 | .move x=>fz (ρ x)
 | .assign x=>fz (ρ x)
 | .pick c a b=>match ρ c with
  | .bool true=>fz (ρ a)
  | .bool false=>fz (ρ b)
  | _=>none
 | .binOp op _ x y _=>jkP op (ρ x) (ρ y)
 | .unOp .not _ x=>match ρ x with
  | .bool b=>some (.bool (!b))
  | _=>none
 | .unOp .neg _ x=>match ρ x with
  | .int .i64 n=>some (.int .i64 (IntKind.i64.wrap (0 - n)))
  | _=>none
 | .nilCheck x=>match ρ x with
  | .pointer (some a)=>some (.pointer (some a))
  | .func (.func f) a b=>some (.func (.func f) a b)
  | .iface t v=>some (.iface t v)
  | _=>none
 | .extract x i=>match ρ x with
  | .tuple vs=>match vs.toList[i]? with
   | some v=>fz v
   | none=>none
  | _=>none
 | .makeFunc f a b=>match fzl (a.toList.map ρ),fzl (b.toList.map ρ) with
  | some x,some y=>some (.func f x.toArray y.toArray)
  | _,_=>none
 | .call ⟨.builtin .max,args,_⟩=>match args.toList.map ρ with
  | [.int .i64 a,.int .i64 b]=>some (.int .i64 (max a b))
  | _=>none
 | .call ⟨.builtin .min,args,_⟩=>match args.toList.map ρ with
  | [.int .i64 a,.int .i64 b]=>some (.int .i64 (min a b))
  | _=>none
 | _=>none
theorem jh1 {op:BinOp} {t:TypeId} {x y:Operand} {a b v:Value} (h:jkP op a b=some v):(do eqGuard op t x y a b; binOp op t a b:Sem Value).run P w=.ok v w:=by
 unfold jkP at h
 split at h <;> first | (cases h; done) | (simp only [Option.some.injEq] at h; subst h) <;> (simp [eqGuard,binOp,Op.intArith,Op.intCmp,Op.stringOp])
theorem jkr (a b:Int):(if b > a then b else a)=max a b:=by rw [Int.max_def]; split <;> split <;> omega
theorem jkq (a b:Int):(if b < a then b else a)=min a b:=by rw [Int.min_def]; split <;> split <;> omega
theorem jA {o:Oper} {v:Value} (h:zC (ev e) o.op=some v):OpV P e o v:=by
 intro w
 unfold OpR execOp
 generalize ev e=ρ at h ⊢
 cases hop:o.op with
 | move x=>rw [hop] at h; simp only [zC] at h; simp [zU h]
 | assign x=>rw [hop] at h; simp only [zC] at h; simp [zU h]
 | pick c a b =>
  rw [hop] at h
  simp only [zC] at h
  split at h
  ·rename_i hc; simp [hc,asBool,zU h]
  ·rename_i hc; simp [hc,asBool,zU h]
  ·cases h
 | binOp op t x y t' =>
  rw [hop] at h
  simp only [zC] at h
  have:=jh1 (P:=P) (w:=w) (t:=t) (x:=x) (y:=y) h
  simp only [Sem.run_bind] at this ⊢
  rw [this]; rfl
 | unOp op t x =>
  rw [hop] at h
  cases op <;> simp only [zC] at h <;> first | (cases h; done) | skip
  all_goals
   split at h
   ·rename_i b hb
    simp only [Option.some.injEq] at h
    subst h
    simp [hb,Op.unary,Op.intArith]
   ·cases h
 | nilCheck x =>
  rw [hop] at h
  simp only [zC] at h
  split at h
  ·rename_i a ha; simp only [Option.some.injEq] at h; subst h; simp [ha]
  ·rename_i f a b ha; simp only [Option.some.injEq] at h; subst h; simp [ha]
  ·rename_i t v ha; simp only [Option.some.injEq] at h; subst h; simp [ha]
  ·cases h
 | extract x i =>
  rw [hop] at h
  simp only [zC] at h
  split at h
  ·rename_i vs hvs
   split at h
   ·rename_i u hu
    have hu':vs[i]?=some u:=by simpa using hu
    simp [hvs,Instr.extract,hu',zU h]
   ·cases h
  ·cases h
 | makeFunc f a b =>
  rw [hop] at h
  simp only [zC] at h
  split at h
  ·rename_i x y hx hy
   simp only [Option.some.injEq] at h
   subst h
   have h1:=vG hx
   have h2:=vG hy
   have e1:a.map ρ=x.toArray:=by rw [<-Array.toList_inj,Array.toList_map,h1]
   have e2:b.map ρ=y.toArray:=by rw [<-Array.toList_inj,Array.toList_map,h2]
   simp [Instr.makeFunc,e1,e2]
  ·cases h
 | call c =>
  rw [hop] at h
  obtain ⟨callee,args,tys⟩:=c
  cases callee with
  | value f=>simp [zC] at h
  | invoke r m=>simp [zC] at h
  | builtin b =>
   cases b <;> first | (simp only [zC,reduceCtorEq] at h; done) | skip
   all_goals
    simp only [zC] at h
    split at h
    ·rename_i a b hab
     simp only [Option.some.injEq] at h
     subst h
     have e1:args.map ρ=#[.int .i64 a,.int .i64 b]:=by
      rw [<-Array.toList_inj]; simpa using hab
     simp [resolve,invoke,builtin,e1,Builtin.max_,Builtin.min_,Builtin.max2,Builtin.min2,jkr,jkq]
    ·cases h
 | _=>rw [hop] at h; simp [zC] at h
end
end
section
open Go.RowKit
def Blk (w:World) (b:Nat) (t:TypeId) (l:List Value):Prop:=w.heap[b]?=some (.cells l.toArray t (0,0))
def Gr (w w':World):Prop:=Below w.heap.size w w'
section
variable {P : Program} {w w' : World} {b : Nat} {t : TypeId} {l : List Value}
theorem Blk.lt (h:Blk w b t l):b < w.heap.size:=by
 rcases Nat.lt_or_ge b w.heap.size with hlt | hge
 ·exact hlt
 ·unfold Blk at h; rw [Array.getElem?_eq_none hge] at h; cases h
theorem Blk.cell (h:Blk w b t l) (i:Nat):w.cell? ⟨b,i,none⟩=l[i]?:=by
 rw [cell_of_row w b i l.toArray t (0,0) h]; simp
theorem Blk.cellv (h:Blk w b t l) {i:Nat} {v:Value} (hv:l[i]?=some v):w.cell? ⟨b,i,none⟩=some v:=(h.cell i).trans hv
theorem Blk.free (h:Blk w b t l) (i:Nat):w.frozen? ⟨b,i,none⟩=false:=frozen_of_row w b i l.toArray t h
theorem Blk.keep (h:Blk w b t l) (hk:w'.heap[b]?=w.heap[b]?):Blk w' b t l:=hk.trans h
theorem Blk.below {B:Nat} (h:Blk w b t l) (hb:Below B w w') (hg:b < B):Blk w' b t l:=(hb.block b hg).trans h
theorem Blk.gr (h:Blk w b t l) (g:Gr w w'):Blk w' b t l:=h.below g h.lt
theorem Blk.grown {row:Option Nat} (h:Blk w b t l) (hb:w.grownBy w' row) (hg:some b ≠ row):Blk w' b t l:=(hb.block b h.lt hg).trans h
theorem Blk.drew (h:Blk w b t l):Blk w.drew b t l:=h
theorem Blk.inj {t':TypeId} {l':List Value} (h:Blk w b t l) (h':Blk w b t' l'):t=t'/\l=l':=by
 unfold Blk at h h'
 rw [h] at h'
 simp only [Option.some.injEq,Obj.cells.injEq] at h'
 exact ⟨h'.2.1,by simpa using h'.1⟩
theorem Blk.ne_ {b':Nat} {t':TypeId} {l':List Value} (h:Blk w b t l) (h':Blk w b' t' l') (hne:t ≠ t'):b ≠ b':=by
 rintro rfl; exact hne (h.inj h').1
theorem Gr.refl (w:World):Gr w w:=Below.refl _ _
theorem Gr.trans {a b c:World} (h:Gr a b) (k:Gr b c):Gr a c:=Below.trans h (Below.mono k h.size)
theorem Gr.drew (w:World):Gr w w.drew:=(Below.refl _ _).drew
theorem Gr.alloc (w:World) (o:Obj):Gr w (w.alloc o):=(Below.refl _ _).alloc (Nat.le_refl _) _
theorem Gr.le (h:Gr w w'):w.heap.size<=w'.heap.size:=h.size
theorem Gr.store {w0:World} {b:Nat} (h:Gr w0 w) (hg:w.grownBy w' (some b)) (hb:w0.heap.size<=b):Gr w0 w' :=
 Below.grown h hg h.size (fun k hk=>by injection hk with hk; omega)
theorem Gr.below {B:Nat} {w0:World} (h:Gr w0 w) (hb:Below B w w') (hB:w0.heap.size<=B):Gr w0 w':=Below.trans h (Below.mono hb hB)
theorem Gr.grown (h:Gr w w'):w.grownBy w' none:=⟨h.os,h.tape,h.output,h.size,fun k hk _=>h.block k hk⟩
theorem Gr.of_grown (h:w.grownBy w' none):Gr w w':=⟨h.os,h.tape,h.output,h.size,fun k hk=>h.block k hk (by simp)⟩
theorem Blk.new (w:World) (t:TypeId) (l:List Value):Blk (w.alloc (.cells l.toArray t)) w.heap.size t l:=heap_alloc_new w _
theorem Blk.set_ (h:Blk w b t l) (i:Nat) (v:Value):Blk (w.setCell ⟨b,i,none⟩ v) b t (l.set i v):=by
 unfold Blk
 rw [heap_setCell_same w b i l.toArray t v h]
 simp
theorem gC (w:World) (b i:Nat) (v:Value):w.grownBy (w.setCell ⟨b,i,none⟩ v) (some b) :=
 ⟨rfl,rfl,rfl,by simp,fun k _ hne=>heap_setCell_other w _ k v (fun e=>hne (by rw [e]))⟩
theorem bV {a b c:World} {row:Option Nat} (h:a.grownBy b row) (k:b.grownBy c row):a.grownBy c row :=
 ⟨k.os.trans h.os,k.tape.trans h.tape,k.output.trans h.output,Nat.le_trans h.size k.size,fun i hi hne=>(k.block i (Nat.lt_of_lt_of_le hi h.size) hne).trans (h.block i hi hne)⟩
end
section
variable {P : Program} {ops : Array Oper} {Q : (Nat → Value) → World → Prop} {e : Nat → Value} {w : World} {rest : List Oper}
theorem kF (b o n:Nat):(⟨b,o,none⟩:Addr).add n=⟨b,o+n,none⟩:=by
 unfold Addr.add
 split
 ·rename_i h; subst h; rfl
 ·rfl
theorem lM {o:Oper} (h:wE ops e o=true):RW P ops Q (o::rest) e w=xQ P e o w (fun v w'=>RW P ops Q rest (yU e o.dst v) w'):=by rw [RW]; exact if_pos h
theorem jlL {o:Oper} (h:wE ops e o=false):RW P ops Q (o::rest) e w=RW P ops Q rest (yU e o.dst undef) w:=by rw [RW]; exact if_neg (by simp [h])
theorem jf7 {C:World->Prop} {Qq:(Nat->Value)->Prop} {o:Oper} (h:wE ops e o=true):RQ P ops C Qq (o::rest) e=∃ v,jed P C e o v/\RQ P ops C Qq rest (yU e o.dst v):=by rw [RQ]; exact if_pos h
theorem jlM {C:World->Prop} {Qq:(Nat->Value)->Prop} {o:Oper} (h:wE ops e o=false):RQ P ops C Qq (o::rest) e=RQ P ops C Qq rest (yU e o.dst undef):=by rw [RQ]; exact if_neg (by simp [h])
theorem jG (h:Q e w):RW P ops Q [] e w:=h
theorem jQ {d:Option Tmp} {op:Op} {ty:TypeId} {ps:String} {af:Array Edge} {j:Nat} {b:Bool} (h:yE ops e j=some b) (hr:RW P ops Q (⟨d,op,ty,ps,af,none⟩::rest) e w):RW P ops Q (⟨d,op,ty,ps,af,some (j,b)⟩::rest) e w:=by
 rw [lM rfl] at hr
 rw [lM (by simp [wE,h])]
 exact hr
theorem jK {d:Option Tmp} {op:Op} {ty:TypeId} {ps:String} {af:Array Edge} {j:Nat} {b:Bool} (h:(yE ops e j == some b)=false) (hr:RW P ops Q rest (yU e d undef) w):RW P ops Q (⟨d,op,ty,ps,af,some (j,b)⟩::rest) e w:=by
 rw [jlL (by simp [wE,h])]
 exact hr
theorem jka {l:List Oper} (d:Nat) {B:Bool} (hB:e d=.bool B) (ht:B=true->RW P ops Q l (upd e d (.bool true)) w) (hf:B=false->RW P ops Q l (upd e d (.bool false)) w):RW P ops Q l e w:=by
 cases B
 ·have:=hf rfl; rwa [pP hB] at this
 ·have:=ht rfl; rwa [pP hB] at this
theorem j3 {d:Option Tmp} {op:Op} {ty:TypeId} {ps:String} {af:Array Edge} {v:Value} (h:OpR P e ⟨d,op,ty,ps,af,none⟩ w v) (hr:RW P ops Q rest (yU e d v) w):RW P ops Q (⟨d,op,ty,ps,af,none⟩::rest) e w:=by
 rw [lM rfl,xQ]
 unfold OpR at h
 rw [h]
 exact hr
theorem jE {d:Option Tmp} {op:Op} {ty:TypeId} {ps:String} {af:Array Edge} {v:Value} (h:OpV P e ⟨d,op,ty,ps,af,none⟩ v) (hr:RW P ops Q rest (yU e d v) w):RW P ops Q (⟨d,op,ty,ps,af,none⟩::rest) e w:=j3 (h w) hr
theorem rQ {d:Option Tmp} {op:Op} {ty:TypeId} {ps:String} {af:Array Edge} {v:Value} {w':World} (h:(execOp (ev e) ⟨d,op,ty,ps,af,none⟩).run P w=.ok (.value v) w') (hr:RW P ops Q rest (yU e d v) w'):RW P ops Q (⟨d,op,ty,ps,af,none⟩::rest) e w:=by
 rw [lM rfl,xQ]
 rw [h]
 exact hr
theorem jiH {d:Option Tmp} {op:Op} {ty:TypeId} {ps:String} {af:Array Edge} {w':World} (h:(execOp (ev e) ⟨d,op,ty,ps,af,none⟩).run P w=.ok .skip w') (hr:RW P ops Q rest (yU e d undef) w'):RW P ops Q (⟨d,op,ty,ps,af,none⟩::rest) e w:=by
 rw [lM rfl,xQ]
 rw [h]
 exact hr
theorem gA {d:Option Tmp} {op:Op} {ty:TypeId} {ps:String} {af:Array Edge} {v:Value} {l:List Value} {t:TypeId} (h:(execOp (ev e) ⟨d,op,ty,ps,af,none⟩).run P w=.ok (.value v) (w.alloc (.cells l.toArray t)))
  (hr:∀ w',Gr w w'->w'.heap.size=w.heap.size+1->Blk w' w.heap.size t l->RW P ops Q rest (yU e d v) w'):RW P ops Q (⟨d,op,ty,ps,af,none⟩::rest) e w :=
 rQ h (hr _ (Gr.alloc _ _) (by simp) (Blk.new _ _ _))
variable {C : World → Prop} {Qq : (Nat → Value) → Prop}
theorem yJ (h:Qq e):RQ P ops C Qq [] e:=h
theorem yG {d:Option Tmp} {op:Op} {ty:TypeId} {ps:String} {af:Array Edge} {j:Nat} {b:Bool} (h:yE ops e j=some b) (hr:RQ P ops C Qq (⟨d,op,ty,ps,af,none⟩::rest) e):RQ P ops C Qq (⟨d,op,ty,ps,af,some (j,b)⟩::rest) e:=by
 rw [jf7 rfl] at hr
 rw [jf7 (by simp [wE,h])]
 exact hr
theorem j0 {d:Option Tmp} {op:Op} {ty:TypeId} {ps:String} {af:Array Edge} {j:Nat} {b:Bool} (h:(yE ops e j == some b)=false) (hr:RQ P ops C Qq rest (yU e d undef)):RQ P ops C Qq (⟨d,op,ty,ps,af,some (j,b)⟩::rest) e:=by
 rw [jlM (by simp [wE,h])]
 exact hr
theorem jV {d:Option Tmp} {op:Op} {ty:TypeId} {ps:String} {af:Array Edge} {v:Value} (h:∀ w,C w->OpR P e ⟨d,op,ty,ps,af,none⟩ w v) (hr:RQ P ops C Qq rest (yU e d v)):RQ P ops C Qq (⟨d,op,ty,ps,af,none⟩::rest) e:=by
 rw [jf7 rfl]
 refine ⟨v,fun w hw=>?_,hr⟩
 have:=h w hw
 unfold OpR at this
 rw [this]
 exact ⟨rfl,rfl⟩
theorem jW {d:Option Tmp} {op:Op} {ty:TypeId} {ps:String} {af:Array Edge} {v:Value} (h:OpV P e ⟨d,op,ty,ps,af,none⟩ v) (hr:RQ P ops C Qq rest (yU e d v)):RQ P ops C Qq (⟨d,op,ty,ps,af,none⟩::rest) e:=jV (fun w _=>h w) hr
variable {d : Option Tmp} {ty : TypeId} {ps : String} {af : Array Edge}
theorem yI {op:Op} {n:Int} (h:zC (ev e) op=some (.int .i64 (IntKind.i64.wrap n))) (hr:-9223372036854775808<=n/\n<=9223372036854775807):OpV P e ⟨d,op,ty,ps,af,none⟩ (.int .i64 n):=by
 have:=jA (P:=P) (e:=e) (o:=⟨d,op,ty,ps,af,none⟩) h
 rwa [IntWalk.i64_in _ hr] at this
theorem yP {op:Op} {B b:Bool} (h:zC (ev e) op=some (.bool B)) (hr:B=b):OpV P e ⟨d,op,ty,ps,af,none⟩ (.bool b):=by
 subst hr; exact jA h
theorem vP {t t':TypeId} {x y:Operand} {a b:Int} (hx:ev e x=.int .i64 a) (hy:ev e y=.int .i64 b) (ha:0<=a/\a<=9223372036854775807) (hb:0 < b):OpV P e ⟨d,.binOp .quo t x y t',ty,ps,af,none⟩ (.int .i64 (a / b)):=by
 intro w
 have h1:a.tdiv b=a / b:=Int.tdiv_eq_ediv_of_nonneg ha.1
 have h2:a / b<=a:=Int.ediv_le_self _ ha.1
 have h3:0<=a / b:=Int.ediv_nonneg ha.1 (by omega)
 have h4:b ≠ 0:=by omega
 have h5:IntKind.i64.wrap (a / b)=a / b:=IntWalk.i64_in _ ⟨by omega,by omega⟩
 simp [OpR,execOp,hx,hy,eqGuard,binOp,Op.intDiv,h4,h1,h5]
theorem kU {t t':TypeId} {x y:Operand} {a b:Int} (hx:ev e x=.int .i64 a) (hy:ev e y=.int .i64 b) (ha:0<=a) (hb:0 < b):OpV P e ⟨d,.binOp .rem t x y t',ty,ps,af,none⟩ (.int .i64 (a % b)):=by
 intro w
 have h1:a.tmod b=a % b:=Int.tmod_eq_emod_of_nonneg ha
 have h4:b ≠ 0:=by omega
 simp [OpR,execOp,hx,hy,eqGuard,binOp,Op.intDiv,h4,h1]
def fL:TypeDesc->Bool
 | .struct _ | .array _ _=>true
 | _=>false
theorem xK {t:TypeId} {dd:TypeDesc} (hu:P.underlying t=some dd) (w:World):(isAgg t).run P w=.ok (fL dd) w:=by
 unfold isAgg
 simp [run_underlying hu]
 cases dd <;> rfl
theorem dW {t:TypeId} {x:Operand} {b o:Nat} {dd:TypeDesc} {v:Value} (hu:P.underlying t=some dd) (hd:fL dd=false) (hx:ev e x=.pointer (some ⟨b,o,none⟩)) (hc:w.cell? ⟨b,o,none⟩=some v):OpR P e ⟨d,.load t x,ty,ps,af,none⟩ w v:=by
 simp [OpR,execOp,hx,Instr.loadAt,Instr.sureAddr,loadVar,xK hu,hd,hc]
theorem jB {t tb:TypeId} {x:Operand} {b o:Nat} {dd:TypeDesc} {v:Value} {l:List Value} (hu:P.underlying t=some dd) (hd:fL dd=false) (hx:ev e x=.pointer (some ⟨b,o,none⟩)) (hB:Blk w b tb l) (hl:l[o]?=some v):OpR P e ⟨d,.load t x,ty,ps,af,none⟩ w v :=
 dW hu hd hx (hB.cellv hl)
theorem fM {a:Addr} {n:Nat} {cs:List Value} (hn:cs.length=n) (h:∀ j v,cs[j]?=some v->w.cell? (a.add j)=some v):(loadCells a n).run P w=.ok cs.toArray w:=by
 subst hn; exact run_loadCells_list (P:=P) w a cs h
theorem nZ {t:TypeId} {x:Operand} {b o n:Nat} {dd:TypeDesc} {cs:List Value} (hu:P.underlying t=some dd) (hd:fL dd=true) (hz:(sizeOf t).run P w=.ok n w) (hx:ev e x=.pointer (some ⟨b,o,none⟩)) (hn:cs.length=n)
  (hc:∀ j v,cs[j]?=some v->w.cell? ⟨b,o+j,none⟩=some v):OpR P e ⟨d,.load t x,ty,ps,af,none⟩ w (.agg cs.toArray):=by
 have h1:=fM (P:=P) (w:=w) (a:=⟨b,o,none⟩) hn (fun j v h=>by rw [kF]; exact hc j v h)
 simp [OpR,execOp,hx,Instr.loadAt,Instr.sureAddr,loadVar,xK hu,hd,hz,h1]
theorem jT {t tb:TypeId} {x:Operand} {b o n:Nat} {dd:TypeDesc} {cs l:List Value} (hu:P.underlying t=some dd) (hd:fL dd=true) (hz:(sizeOf t).run P w=.ok n w) (hx:ev e x=.pointer (some ⟨b,o,none⟩)) (hB:Blk w b tb l)
  (hl:fzl ((l.drop o).take n)=some cs) (hn:cs.length=n):OpR P e ⟨d,.load t x,ty,ps,af,none⟩ w (.agg cs.toArray) :=
 nZ hu hd hz hx hn fun j v h=>hB.cellv (by
  rw [<-vG hl] at h
  rw [List.getElem?_take] at h
  split at h
  ·rwa [List.getElem?_drop] at h
  ·cases h)
theorem jD {t:TypeId} {x:Operand} {f b o n:Nat} {fs:Array Field} {fd:Field} (hu:P.underlying t=some (.struct fs)) (hf:fs[f]?=some fd) (hz:∀ w,(sizeOf fd.type).run P w=.ok n w) (hn:Nat.beq n 0=false) (hx:ev e x=.pointer (some ⟨b,o,none⟩)) :
  OpV P e ⟨d,.fieldAddr t x f,ty,ps,af,none⟩ (.pointer (some ⟨b,o+fd.offset,none⟩)):=by
 intro w
 have h0:n ≠ 0:=by rintro rfl; cases hn
 simp [OpR,execOp,hx,Instr.fieldAt,Instr.sureAddr,run_underlying hu,hf,fieldPlace,hz,h0,kF]
theorem jhi {t:TypeId} {x:Operand} {f:Nat} {fs:Array Field} {fd:Field} {dd:TypeDesc} {cs:List Value} {v:Value} (hu:P.underlying t=some (.struct fs)) (hf:fs[f]?=some fd) (hd:P.underlying fd.type=some dd) (ha:fL dd=false) (hx:ev e x=.agg cs.toArray) (hv:cs[fd.offset]?=some v) :
  OpV P e ⟨d,.field t x f,ty,ps,af,none⟩ v:=by
 intro w
 simp [OpR,execOp,hx,Instr.field,asAgg,run_underlying hu,hf,part,xK hd,ha,hv]
theorem zQ {t el:TypeId} {x i:Operand} {b o len cap k:Nat} {kd:IntKind} {n:Int} (hu:P.underlying t=some (.slice el)) (hz:∀ w,(sizeOf el).run P w=.ok k w) (hx:ev e x=.slice (some ⟨b,o,none⟩) len cap) (hi:ev e i=.int kd n) (h0:0<=n) (h1:n < len) :
  OpV P e ⟨d,.indexAddr t x i,ty,ps,af,none⟩ (.pointer (some ⟨b,o+n.toNat * k,none⟩)):=by
 intro w
 simp [OpR,execOp,hx,hi,Instr.indexAt,asIntOf,run_underlying hu,hz,h0,h1,kF]
theorem gZ {t el:TypeId} {x:Operand} {A:Option Addr} {n c:Nat} (hu:P.underlying t=some (.slice el)) (hx:ev e x=.slice A n c):OpV P e ⟨d,.call ⟨.builtin .len,#[x],#[t]⟩,ty,ps,af,none⟩ (.int .i64 n):=by
 intro w
 simp [OpR,execOp,hx,resolve,invoke,builtin,Builtin.len_,run_underlying hu,goInt]
theorem yR {s t:TypeId} {x:Operand} {ks kd:IntKind} {n m:Int} {dd:TypeDesc} (hs:P.underlying s=some dd) (hd:P.underlying t=some (.int kd)) (hx:ev e x=.int ks n) (hm:kd.wrap n=m):OpV P e ⟨d,.convert s t x,ty,ps,af,none⟩ (.int kd m):=by
 intro w
 simp [OpR,execOp,hx,convert,run_underlying hs,run_underlying hd,Conv.intToInt,hm]
def jbk:TypeDesc->Bool
 | .interface _=>true
 | _=>false
theorem qU {t:TypeId} {x:Operand} {dd:TypeDesc} {v:Value} (hu:P.underlying t=some dd) (hd:jbk dd=false) (hx:fz (ev e x)=some v):OpV P e ⟨d,.makeInterface t x,ty,ps,af,none⟩ (.iface t v):=by
 intro w
 have:=zU hx
 subst this
 cases dd <;> first | (cases hd; done) | (simp [OpR,execOp,Instr.makeInterface,run_underlying hu])
theorem gY {t t' te:TypeId} {x:Operand} {a:Option Addr} {B:Bool} (hu:P.underlying t=some (.pointer te)) (hx:ev e x=.pointer a) (hB:a.isNone=B):OpV P e ⟨d,.binOp .eql t x (.const (.pointer none)) t',ty,ps,af,none⟩ (.bool B):=by
 intro w
 subst hB
 have h2:ev e (.const (.pointer none))=.pointer none:=rfl
 have h3:∀ n:Nat,(Op.equalIn (n+1) t (.pointer a) (.pointer none)).run P w=.ok a.isNone w:=fun n=>by
  unfold Op.equalIn
  cases a <;> simp [run_underlying hu]
 have h4:(Op.equal t (.pointer a) (.pointer none)).run P w=.ok a.isNone w:=h3 9999
 cases a <;> simp [OpR,execOp,hx,h2,eqGuard,binOp,h4]
theorem jO {t:TypeId} {x:Operand} {l:List Value} (hx:fzl (ev e x).cells.toList=some l):(execOp (ev e) ⟨d,.box t x,ty,ps,af,none⟩).run P w=.ok (.value (.pointer (some ⟨w.heap.size,0,none⟩))) (w.alloc (.cells l.toArray t)):=by
 have h:=vG hx
 have h':(ev e x).cells=l.toArray:=by rw [<-Array.toList_inj]; simpa using h
 simp [execOp,Instr.box,newVar,newRow,h']
theorem jL {t:TypeId} {z:Value} {l:List Value} (hz:∀ w,(zeroValue t).run P w=.ok z w) (hl:z.cells.toList=l):(execOp (ev e) ⟨d,.alloc t,ty,ps,af,none⟩).run P w=.ok (.value (.pointer (some ⟨w.heap.size,0,none⟩))) (w.alloc (.cells l.toArray t)):=by
 have h':z.cells=l.toArray:=by rw [<-Array.toList_inj]; simpa using hl
 simp [execOp,Instr.alloc,hz,newVar,newRow,h']
theorem jbR {t tb:TypeId} {x y:Operand} {b o:Nat} {l:List Value} {v u:Value} (hz:(sizeOf t).run P w=.ok 1 w) (hx:ev e x=.pointer (some ⟨b,o,none⟩)) (hy:fz (ev e y)=some v) (hv:v.oneCell'=true) (hvc:v.cells=#[v]) (hB:Blk w b tb l) (hl:l[o]?=some u)
  (hr:∀ w',w.grownBy w' (some b)->w'.heap.size=w.heap.size->Blk w' b tb (l.set o v)->RW P ops Q rest (yU e d undef) w'):RW P ops Q (⟨d,.store t x y,ty,ps,af,none⟩::rest) e w:=by
 have hy':=zU hy
 refine jiH (w':=w.setCell ⟨b,o,none⟩ v) ?_ (hr _ (gC _ _ _ _) (by simp) (hB.set_ o v))
 have hc:=hB.cellv hl
 have hf:=hB.free o
 have h1:=run_store P w ⟨b,o,none⟩ v .plain hv
 simp [execOp,hx,hy',hvc,Instr.storeAt,Instr.sureAddr,storeVar,hz,storeCells,h1,kF,stored,hc,hf]
end
end
section
open Go.RowKit
def lay:(Nat->Option (Nat × Nat))->List Value->List (Nat × Value)->Option (List Value)
 | _,cells,[]=>some cells
 | pl,cells,(i,v)::rest=>match pl i with
  | some (off,size)=>match Nat.beq v.cells.toList.length size,Nat.ble (off+size) cells.length with
   | true,true=>lay pl (cells.take off ++ v.cells.toList ++ cells.drop (off+size)) rest
   | _,_=>none
  | none=>none
theorem jfD (vs:List Value):∀ (k off:Nat) (cells:List Value),off+k+vs.length<=cells.length->((vs.zipIdx k).foldl (fun (cs:Array Value) (p:Value × Nat)=>cs.setIfInBounds (off+p.2) p.1) cells.toArray).toList=cells.take (off+k) ++ vs ++ cells.drop (off+k+vs.length):=by
 induction vs with
 | nil=>intro k off cells h; simp
 | cons v vs ih =>
  intro k off cells h
  simp only [List.length_cons] at h
  simp only [List.zipIdx_cons,List.foldl_cons,List.setIfInBounds_toArray]
  rw [ih (k+1) off _ (by simp; omega)]
  rw [List.take_set,List.drop_set_of_lt (by omega)]
  have h1:off+(k+1)=(off+k)+1:=by omega
  have h3:(cells.take (off+k+1)).set (off+k) v=cells.take (off+k) ++ [v]:=by
   rw [List.take_succ_eq_append_getElem (by omega),List.set_append_right _ _ (by simp; omega)]
   have h5:off+k - (cells.take (off+k)).length=0:=by simp; omega
   rw [h5]; rfl
  rw [h1,h3]
  have h4:off+k+1+vs.length=off+k+(vs.length+1):=by omega
  rw [h4]
  simp
theorem wV {pl:Nat->Option (Nat × Nat)}:∀ {parts:List (Nat × Value)} {cells l:List Value},lay pl cells parts=some l->Instr.fill pl cells.toArray parts=some l.toArray
 | [],cells,l,h=>by simp only [lay,Option.some.injEq] at h; subst h; rfl
 | (i,v)::rest,cells,l,h=>by
  simp only [lay] at h
  unfold Instr.fill
  cases hp:pl i with
  | none=>rw [hp] at h; cases h
  | some os =>
   obtain ⟨off,size⟩:=os
   rw [hp] at h
   simp only at h ⊢
   split at h
   ·rename_i h1 h2
    have h1:=Nat.eq_of_beq_eq_true h1
    have h2:=Nat.le_of_ble_eq_true h2
    have hs:v.cells.size=size:=by rw [<-h1]; simp
    have hnot:¬ (v.cells.size ≠ size\/off+v.cells.size > cells.toArray.size):=by simp [hs]; omega
    simp only [Bool.or_eq_true,decide_eq_true_eq,if_neg hnot]
    have hf:=jfD v.cells.toList 0 off cells (by rw [h1]; omega)
    have hz:v.cells.zipIdx=(v.cells.toList.zipIdx).toArray:=Array.toList_inj.1 (by rw [Array.toList_zipIdx])
    have e1:(v.cells.zipIdx.foldl (fun (cs:Array Value) (p:Value × Nat)=>cs.setIfInBounds (off+p.2) p.1) cells.toArray)=(cells.take off ++ v.cells.toList ++ cells.drop (off+size)).toArray:=by
     rw [hz,<-Array.foldl_toList,<-Array.toList_inj]
     simp only [Nat.add_zero] at hf
     rw [hf,h1]
    have e2:Array.foldl (fun (cs:Array Value) (x:Value × Nat)=>match x with | (c,j)=>cs.setIfInBounds (off+j) c) cells.toArray v.cells.zipIdx=(cells.take off ++ v.cells.toList ++ cells.drop (off+size)).toArray:=e1
    rw [e2]
    exact wV h
   ·cases h
section
variable {P : Program} {ops : Array Oper} {Q : (Nat → Value) → World → Prop} {e : Nat → Value} {w : World} {rest : List Oper}
variable {d : Option Tmp} {ty : TypeId} {ps : String} {af : Array Edge} {C : World → Prop} {Qq : (Nat → Value) → Prop}
def evp (e:Nat->Value):List (Nat × Operand)->List (Nat × Value)
 | []=>[]
 | (i,x)::r=>(i,ev e x)::evp e r
theorem jbs (e:Nat->Value):∀ parts:List (Nat × Operand),parts.map (fun p=>(p.1,ev e p.2))=evp e parts
 | []=>rfl
 | p::r=>by simp only [List.map_cons,evp,jbs e r]
theorem jN {t:TypeId} {parts:List (Nat × Operand)} {fs:Array Field} {z:Value} {pl:List (Nat × Nat)} {l0 l:List Value} (hu:P.underlying t=some (.struct fs)) (hz:∀ w,(zeroValue t).run P w=.ok z w)
  (hp:∀ w,(fs.mapM fun f=>(Prod.mk f.offset <$> sizeOf f.type:Sem (Nat × Nat))).run P w=.ok pl.toArray w)
  (h1:lay (fun i=>pl[i]?) z.cells.toList (evp e parts)=some l0) (h2:fzl l0=some l):OpV P e ⟨d,.build t parts.toArray,ty,ps,af,none⟩ (.agg l.toArray):=by
 intro w
 have h0:=vG h2
 subst h0
 have h3:=wV h1
 have h4:(z.cells.toList).toArray=z.cells:=by simp
 rw [h4] at h3
 have h5:(parts.map fun p=>(p.1,ev e p.2))=evp e parts:=jbs e parts
 have h6:(fun i:Nat=>(pl.toArray)[i]?)=fun i:Nat=>pl[i]?:=by funext i; simp
 simp [OpR,execOp,Instr.build,hz,run_underlying hu,hp,h5,h6,h3]
theorem k8 {t el:TypeId} {n k:Nat} {parts:List (Nat × Operand)} {z:Value} {l0 l:List Value} (hu:P.underlying t=some (.slice el)) (hs:∀ w,(sizeOf el).run P w=.ok k w) (hz:∀ w,(zeroValue el).run P w=.ok z w) (hk:z.cells.toList.length=k) (hk0:Nat.beq (n * k) 0=false) (hn:Nat.ble (n * k) 16777216=true)
  (h1:lay (fun i=>some (i * k,k)) ((List.replicate n z.cells.toList).flatten) (evp e parts)=some l0) (h2:fzl l0=some l) :
  (execOp (ev e) ⟨d,.buildSlice t n parts.toArray,ty,ps,af,none⟩).run P w=.ok (.value (.slice (some ⟨w.heap.size,0,none⟩) n n)) (w.alloc (.cells l.toArray el)):=by
 have h0:=vG h2
 subst h0
 have h3:=wV h1
 have hk1:n * k ≠ 0:=by intro h; rw [h] at hk0; cases hk0
 have hk2:¬ (n * k > 16777216):=by have:=Nat.le_of_ble_eq_true hn; omega
 have hz2:(z.cells.toList).toArray=z.cells:=by simp
 have hsz:z.cells.size=k:=by rw [<-hk]; simp
 have hrep:(Array.range (n * k)).map (fun i=>z.cells[i % z.cells.size]!)=((List.replicate n z.cells.toList).flatten).toArray:=by
  rw [<-Array.toList_inj]
  simp only [Array.toList_map,Array.toList_range]
  clear h1 h3 hk2 hk0 hn
  have key:∀ m:Nat,(List.range (m * k)).map (fun i=>z.cells[i % z.cells.size]!)=(List.replicate m z.cells.toList).flatten:=by
   intro m
   induction m with
   | zero=>simp
   | succ m ih =>
    rw [Nat.succ_mul,List.range_add,List.map_append,ih,List.replicate_succ',List.flatten_append]
    congr 1
    simp only [List.map_map,List.flatten_cons,List.flatten_nil,List.append_nil]
    apply List.ext_getElem?
    intro j
    by_cases hj:j < k
    ·have:(m * k+j) % k=j:=by rw [Nat.add_comm,Nat.add_mul_mod_self_right,Nat.mod_eq_of_lt hj]
     simp [hj,hsz,this]
    ·simp [hj,hsz]
  exact key n
 have h5:(parts.map fun p=>(p.1,ev e p.2))=evp e parts:=jbs e parts
 simp [execOp,Instr.buildSlice,run_underlying hu,hs,hz,hk1,hk2,hrep,h5,h3,newRow]
theorem jC {f:FuncId} {args:List Operand} {tys:Array TypeId} {vs:List Value} {R:Value->World->Prop} (hv:fzl (args.map (ev e))=some vs) (hc:Fn P f vs w R) (hr:∀ v w',R v w'->RW P ops Q rest (yU e d v) w') :
  RW P ops Q (⟨d,.call ⟨.value (.func f),args.toArray,tys⟩,ty,ps,af,none⟩::rest) e w:=by
 have h0:=vG hv
 rw [lM rfl,xQ]
 have hrun:(execOp (ev e) ⟨d,.call ⟨.value (.func f),args.toArray,tys⟩,ty,ps,af,none⟩).run P w=.ok (.enter f vs.toArray) w:=by
  have h1:ev e (.func f)=.func (.func f) #[] #[]:=rfl
  simp [execOp,resolve,h1,Deferred.ofValue,invoke,h0,y5 hc.1]
 rw [hrun]
 exact hc.2.mono fun en w' ⟨v,he,hR⟩=>⟨v,he,hr _ _ hR⟩
theorem zJ {f:FuncId} {x:Operand} {args:List Operand} {tys:Array TypeId} {first cap vs:List Value} {R:Value->World->Prop} (hx:ev e x=.func (.func f) first.toArray cap.toArray) (hv:fzl (args.map (ev e))=some vs) (hc:Fn P f (first ++ vs ++ cap) w R) (hr:∀ v w',R v w'->RW P ops Q rest (yU e d v) w') :
  RW P ops Q (⟨d,.call ⟨.value x,args.toArray,tys⟩,ty,ps,af,none⟩::rest) e w:=by
 have h0:=vG hv
 rw [lM rfl,xQ]
 have hrun:(execOp (ev e) ⟨d,.call ⟨.value x,args.toArray,tys⟩,ty,ps,af,none⟩).run P w=.ok (.enter f (first ++ vs ++ cap).toArray) w:=by
  simp [execOp,resolve,hx,Deferred.ofValue,invoke,h0,y5 hc.1]
 rw [hrun]
 exact hc.2.mono fun en w' ⟨v,he,hR⟩=>⟨v,he,hr _ _ hR⟩
theorem dR {f:FuncId} {x:Operand} {m:String} {args:List Operand} {tys:Array TypeId} {vs:List Value} {t:TypeId} {u rv:Value} {R:Value->World->Prop} (hx:ev e x=.iface t u) (hm:(method (P.types.size+Made.depth) t u m).run P w=.ok (f,rv) w)
  (hv:fzl (args.map (ev e))=some vs) (hc:Fn P f (rv::vs) w R) (hr:∀ v w',R v w'->RW P ops Q rest (yU e d v) w') :
  RW P ops Q (⟨d,.call ⟨.invoke x m,args.toArray,tys⟩,ty,ps,af,none⟩::rest) e w:=by
 have h0:=vG hv
 rw [lM rfl,xQ]
 have hrun:(execOp (ev e) ⟨d,.call ⟨.invoke x m,args.toArray,tys⟩,ty,ps,af,none⟩).run P w=.ok (.enter f (rv::vs).toArray) w:=by
  simp [execOp,resolve,hx,invoke,callMethod,hm,h0,y5 hc.1]
 rw [hrun]
 exact hc.2.mono fun en w' ⟨v,he,hR⟩=>⟨v,he,hr _ _ hR⟩
theorem y8 {f:FuncId} {args:List Operand} {tys:Array TypeId} {vs:List Value} {v:Value} (hv:fzl (args.map (ev e))=some vs) (hc:∀ w,C w->Fn P f vs w (fun v' w'=>v'=v/\C w')) (hr:RQ P ops C Qq rest (yU e d v)) :
  RQ P ops C Qq (⟨d,.call ⟨.value (.func f),args.toArray,tys⟩,ty,ps,af,none⟩::rest) e:=by
 have h0:=vG hv
 rw [jf7 rfl]
 refine ⟨v,fun w hw=>?_,hr⟩
 have hrun:(execOp (ev e) ⟨d,.call ⟨.value (.func f),args.toArray,tys⟩,ty,ps,af,none⟩).run P w=.ok (.enter f vs.toArray) w:=by
  have h1:ev e (.func f)=.func (.func f) #[] #[]:=rfl
  simp [execOp,resolve,h1,Deferred.ofValue,invoke,h0,y5 (hc w hw).1]
 rw [hrun]
 exact ⟨rfl,(hc w hw).2.mono fun en w' ⟨v',he,hv',hC'⟩=>by subst hv'; exact ⟨he,hC'⟩⟩
theorem jgy {f:FuncId} {x:Operand} {args:List Operand} {tys:Array TypeId} {first cap vs:List Value} {v:Value} (hx:ev e x=.func (.func f) first.toArray cap.toArray) (hv:fzl (args.map (ev e))=some vs) (hc:∀ w,C w->Fn P f (first ++ vs ++ cap) w (fun v' w'=>v'=v/\C w')) (hr:RQ P ops C Qq rest (yU e d v)) :
  RQ P ops C Qq (⟨d,.call ⟨.value x,args.toArray,tys⟩,ty,ps,af,none⟩::rest) e:=by
 have h0:=vG hv
 rw [jf7 rfl]
 refine ⟨v,fun w hw=>?_,hr⟩
 have hrun:(execOp (ev e) ⟨d,.call ⟨.value x,args.toArray,tys⟩,ty,ps,af,none⟩).run P w=.ok (.enter f (first ++ vs ++ cap).toArray) w:=by
  simp [execOp,resolve,hx,Deferred.ofValue,invoke,h0,y5 (hc w hw).1]
 rw [hrun]
 exact ⟨rfl,(hc w hw).2.mono fun en w' ⟨v',he,hv',hC'⟩=>by subst hv'; exact ⟨he,hC'⟩⟩
theorem lY {f:FuncId} {x:Operand} {m:String} {args:List Operand} {tys:Array TypeId} {vs:List Value} {t:TypeId} {u rv v:Value} (hx:ev e x=.iface t u) (hm:∀ w,(method (P.types.size+Made.depth) t u m).run P w=.ok (f,rv) w)
  (hv:fzl (args.map (ev e))=some vs) (hc:∀ w,C w->Fn P f (rv::vs) w (fun v' w'=>v'=v/\C w')) (hr:RQ P ops C Qq rest (yU e d v)) :
  RQ P ops C Qq (⟨d,.call ⟨.invoke x m,args.toArray,tys⟩,ty,ps,af,none⟩::rest) e:=by
 have h0:=vG hv
 rw [jf7 rfl]
 refine ⟨v,fun w hw=>?_,hr⟩
 have hrun:(execOp (ev e) ⟨d,.call ⟨.invoke x m,args.toArray,tys⟩,ty,ps,af,none⟩).run P w=.ok (.enter f (rv::vs).toArray) w:=by
  simp [execOp,resolve,hx,invoke,callMethod,hm,h0,y5 (hc w hw).1]
 rw [hrun]
 exact ⟨rfl,(hc w hw).2.mono fun en w' ⟨v',he,hv',hC'⟩=>by subst hv'; exact ⟨he,hC'⟩⟩
end
end
section
open Go.RowKit
section
variable {P : Program} {N : Nat} {Q : Exit → (Nat → Value) → World → Prop} {e : Nat → Value} {w : World} {ops : Array Oper} {rest : List Oper}
theorem jf6 {M M':(Nat->Value)->World->Prop} (h:∀ e w,M e w->M' e w):∀ x e w,rA M Q x e w->rA M' Q x e w:=by
 intro x e w hx
 cases x <;> first | exact h _ _ hx | exact hx
theorem qL {x:Code} {M':(Nat->Value)->World->Prop} (M:(Nat->Value)->World->Prop) (h1:CW P N x (rA M Q) e w) (h2:∀ e' w',M e' w'->M' e' w'):CW P N x (rA M' Q) e w:=h1.mono (jf6 h2)
theorem uT {M:(Nat->Value)->World->Prop} (h:Q .ret e w):rA M Q .ret e w:=h
theorem xE {k:Nat} (h:Q .ret e w):InB k Q .ret e w:=h
theorem jP {k:Nat} {M:(Nat->Value)->World->Prop} (h:Q (.exit k) e w):rA M Q (.exit k) e w:=h
theorem jU {k:Nat} (h:Q .normal e w):InB k Q (.exit k) e w:=by
 have hb:Nat.beq k k=true:=by simp
 simp only [InB,hb]
 exact h
theorem jR {next:(Nat->Value)->World->Prop} (h:next e w):RW P ops (fun e w=>rA next Q .normal e w) [] e w:=h
def SL (e:Nat->Value):List (Nat × Value)->Prop
 | []=>True
 | (k,v)::r=>e k=v/\SL e r
def jj8 (e:Nat->Value):List (Nat × Value)->Nat->Value
 | []=>e
 | (k,v)::r=>jj8 (upd e k v) r
theorem SL.fold:∀ {l:List (Nat × Value)},SL e l->e=jj8 e l
 | [],_=>rfl
 | (k,v)::r,h=>by
  show e=jj8 (upd e k v) r
  rw [pP h.1]
  exact SL.fold h.2
theorem ie {k:IntKind} {a b:Int} (h:a=b):Value.int k a=Value.int k b:=by rw [h]
theorem be {a b:Bool} (h:a=b):Value.bool a=Value.bool b:=by rw [h]
theorem se {A:Option Addr} {n c m k:Nat} (h:n=m) (h':c=k):Value.slice A n c=Value.slice A m k:=by rw [h,h']
theorem yD {t:Tmp} {v:Value} {R:Value->World->Prop} (h:fz (e t)=some v) (hR:R v w):QF P #[.tmp t] R .ret e w :=
 ⟨v,fun fn tmps hr hg=>by have h1:=hg t; rw [zU h] at h1; rw [results_tmp hr,h1],hR⟩
theorem kY {t u:Tmp} {v1 v2:Value} {R:Value->World->Prop} (h1:fz (e t)=some v1) (h2:fz (e u)=some v2) (hR:R (.tuple #[v1,v2]) w):QF P #[.tmp t,.tmp u] R .ret e w :=
 ⟨_,fun fn tmps hr hg=>by
  have g1:=hg t; have g2:=hg u
  rw [zU h1] at g1; rw [zU h2] at g2
  rw [results_tmp2 hr,g1,g2],hR⟩
theorem jeZ {t u x:Tmp} {v1 v2 v3:Value} {R:Value->World->Prop} (h1:fz (e t)=some v1) (h2:fz (e u)=some v2) (h3:fz (e x)=some v3) (hR:R (.tuple #[v1,v2,v3]) w):QF P #[.tmp t,.tmp u,.tmp x] R .ret e w :=
 ⟨_,fun fn tmps hr hg=>by
  have g1:=hg t; have g2:=hg u; have g3:=hg x
  rw [zU h1] at g1; rw [zU h2] at g2; rw [zU h3] at g3
  rw [results_tmp3 hr,g1,g2,g3],hR⟩
theorem jk0 {R:Value->World->Prop} (hR:R (.tuple #[]) w):QF P #[] R .ret e w:=⟨_,fun fn tmps hr _=>results_none hr _ _ _,hR⟩
theorem zN {R:Value->World->Prop} (hR:R (.tuple #[]) w):QF P #[] R .normal e w:=⟨_,fun fn tmps hr _=>results_none hr _ _ _,hR⟩
theorem k7 {t : TypeId} {a : Addr} {v : Value} {o : Oper} (h : OpR P (fun _ => .pointer (some a)) ⟨none, .load t (.tmp 0), 0, "", #[], none⟩ w v) : (loadVar t a).run P w = .ok v w := by
 simp only [OpR,execOp,Instr.loadAt,Instr.sureAddr,ev,Sem.run_bind,Sem.run_pure,Result.andThen_ok] at h
 cases hr:(loadVar t a).run P w with
 | ok u w'=>rw [hr] at h; simp only [Result.andThen_ok,Result.ok.injEq,Next.value.injEq] at h; rw [h.1,h.2]
 | halt x w'=>rw [hr] at h; cases h
theorem v8 {a:Tmp} {t tb:TypeId} {b o n:Nat} {dd:TypeDesc} {cs l:List Value} {R:Value->World->Prop} (hu:P.underlying t=some dd) (hd:fL dd=true) (hz:(sizeOf t).run P w=.ok n w) (hx:e a=.pointer (some ⟨b,o,none⟩)) (hB:Blk w b tb l)
  (hl:fzl ((l.drop o).take n)=some cs) (hn:cs.length=n) (hR:R (.agg cs.toArray) w):QF P #[.cell a t] R .ret e w :=
 ⟨_,fun fn tmps hr hg=>by
  have h1 := k7 (o := default) (jT (P := P) (d := none) (ty := 0) (ps := "") (af := #[]) (e := fun _ => .pointer (some ⟨b, o, none⟩)) (x := .tmp 0) hu hd hz rfl hB hl hn)
  have g1:=hg a
  rw [hx,Array.getD_eq_getD_getElem?] at g1
  simp [results,hr,g1,asAddr,h1],hR⟩
theorem wQ {a u:Tmp} {t tb:TypeId} {b o n:Nat} {dd:TypeDesc} {cs l:List Value} {v2:Value} {R:Value->World->Prop} (hu:P.underlying t=some dd) (hd:fL dd=true) (hz:(sizeOf t).run P w=.ok n w) (hx:e a=.pointer (some ⟨b,o,none⟩)) (hB:Blk w b tb l)
  (hl:fzl ((l.drop o).take n)=some cs) (hn:cs.length=n) (h2:fz (e u)=some v2) (hR:R (.tuple #[.agg cs.toArray,v2]) w):QF P #[.cell a t,.tmp u] R .ret e w :=
 ⟨_,fun fn tmps hr hg=>by
  have h1 := k7 (o := default) (jT (P := P) (d := none) (ty := 0) (ps := "") (af := #[]) (e := fun _ => .pointer (some ⟨b, o, none⟩)) (x := .tmp 0) hu hd hz rfl hB hl hn)
  have g1:=hg a
  have g2:=hg u
  rw [hx,Array.getD_eq_getD_getElem?] at g1
  rw [zU h2,Array.getD_eq_getD_getElem?] at g2
  simp [results,hr,g1,g2,asAddr,h1],hR⟩
theorem kG {f:FuncId} {args:List Value} {v:Value} {R:World->Prop} (hcl:uP P f=true) (h:Calls P f args.toArray w fun r w'=>r=.returned v/\R w'):Fn P f args w (fun v' w'=>v'=v/\R w') :=
 ⟨hcl,h.mono fun _ _ ⟨he,hR⟩=>⟨_,he,rfl,hR⟩⟩
theorem sJ {d:Option Tmp} {ty:TypeId} {ps:String} {af:Array Edge} {Q:(Nat->Value)->World->Prop} {t tb:TypeId} {x y:Operand} {b o n:Nat} {l cs l':List Value} (hz:(sizeOf t).run P w=.ok n w) (hx:ev e x=.pointer (some ⟨b,o,none⟩)) (hy:ev e y=.agg cs.toArray) (hn:cs.length=n) (hB:Blk w b tb l)
  (hl':fzl (l.take o ++ cs ++ l.drop (o+n))=some l') (ho:((cs.all fun v=>v.oneCell') && Nat.ble (o+n) l.length)=true)
  (hr:∀ w',w.grownBy w' (some b)->w'.heap.size=w.heap.size->Blk w' b tb l'->RW P ops Q rest (yU e d undef) w'):RW P ops Q (⟨d,.store t x y,ty,ps,af,none⟩::rest) e w:=by
 have hl:=vG hl'
 subst hl
 simp only [Bool.and_eq_true] at ho
 have hle:=Nat.le_of_ble_eq_true ho.2
 have key:∀ (vs:List Value) (i:Nat) (w:World) (l:List Value),Blk w b tb l->(∀ v ∈ vs,v.oneCell'=true)->o+i+vs.length<=l.length ->
   ∃ w',(storeCells ⟨b,o,none⟩ vs i).run P w=.ok () w'/\w.grownBy w' (some b)/\w'.heap.size=w.heap.size/\Blk w' b tb (l.take (o+i) ++ vs ++ l.drop (o+i+vs.length)):=by
  intro vs
  induction vs with
  | nil=>intro i w l hB _ hle; exact ⟨w,by simp [storeCells],World.grownBy.refl _ _,rfl,by simpa using hB⟩
  | cons v vs ih =>
   intro i w l hB hone hle
   simp only [List.length_cons] at hle
   have hv:=hone v (by simp)
   have hc:=hB.cellv (i:=o+i) (v:=l[o+i]'(by omega)) (List.getElem?_eq_getElem (by omega))
   have hf:=hB.free (o+i)
   have h1:=run_store P w ⟨b,o+i,none⟩ v .plain hv
   obtain ⟨w',hw',hg',hs',hB'⟩:=ih (i+1) _ _ (hB.set_ (o+i) v) (fun u hu=>hone u (List.mem_cons_of_mem _ hu)) (by simp; omega)
   refine ⟨w',?_,bV (gC w b (o+i) v) hg',by simpa using hs',?_⟩
   ·simp [storeCells,kF,h1,stored,hc,hf,hw']
   ·have e1:o+(i+1)=(o+i)+1:=by omega
    rw [e1] at hB'
    rw [List.take_set,List.drop_set_of_lt (by omega),List.take_succ_eq_append_getElem (by omega),List.set_append_right _ _ (by simp; omega)] at hB'
    have h5:o+i - (l.take (o+i)).length=0:=by simp; omega
    rw [h5] at hB'
    have e2:o+i+1+vs.length=o+i+(vs.length+1):=by omega
    rw [e2] at hB'
    simpa using hB'
 obtain ⟨w',hw',hg',hs',hB'⟩:=key cs 0 w l hB (fun v hv=>by have:=List.all_eq_true.1 ho.1 v hv; exact this) (by omega)
 refine jiH (w':=w') ?_ (hr w' hg' hs' (by simpa [hn] using hB'))
 have h6:(Value.agg cs.toArray).cells=cs.toArray:=rfl
 simp [execOp,hx,hy,Instr.storeAt,Instr.sureAddr,storeVar,hz,h6,hn,hw']
def Own (w:World) (base el size:Nat) (A:Option Addr) (n c:Nat) (xs:List Value):Prop:=w.ownsRow base el size (.slice A n c) n xs
theorem Own.nil (w:World) (base el size:Nat):Own w base el size none 0 0 []:=World.ownsRow_nil _ _ _ _
theorem Own.form {w:World} {base el size:Nat} {v:Value} {n:Nat} {xs:List Value} (h:w.ownsRow base el size v n xs):∃ A c,v=.slice A n c:=by
 rcases h.2 with ⟨rfl,rfl⟩ | ⟨g,cap,cur,rfl,_⟩
 ·exact ⟨_,_,rfl⟩
 ·exact ⟨_,_,rfl⟩
theorem Own.below {w w':World} {B base el size:Nat} {A:Option Addr} {n c:Nat} {xs:List Value} (h:Own w base el size A n c xs) (hb:Below B w w') (hB:∀ g o,A=some ⟨g,o,none⟩->g < B):Own w' base el size A n c xs:=by
 obtain ⟨h1,h2⟩:=h
 refine ⟨h1,?_⟩
 rcases h2 with h2 | ⟨g,cap,cur,hv,hg,hh,r⟩
 ·exact .inl h2
 ·refine .inr ⟨g,cap,cur,hv,hg,?_,r⟩
  injection hv with hA
  exact (hb.block g (hB g 0 hA)).trans hh
theorem Own.gr {w w':World} {base el size:Nat} {A:Option Addr} {n c:Nat} {xs:List Value} (h:Own w base el size A n c xs) (hb:Gr w w'):Own w' base el size A n c xs:=by
 refine h.below hb fun g o hA=>?_
 subst hA
 exact (h.lt g rfl).2
theorem Own.base {w:World} {base base' el size:Nat} {A:Option Addr} {n c:Nat} {xs:List Value} (h:Own w base el size A n c xs) (hb:base'<=base):Own w base' el size A n c xs:=by
 obtain ⟨h1,h2⟩:=h
 refine ⟨h1,?_⟩
 rcases h2 with h2 | ⟨g,cap,cur,hv,hg,r⟩
 ·exact Or.inl h2
 ·exact Or.inr ⟨g,cap,cur,hv,Nat.le_trans hb hg,r⟩
theorem Own.blk {w:World} {base el size:Nat} {A:Option Addr} {n c:Nat} {xs:List Value} (h:Own w base el size A n c xs) (hn:0 < n):∃ g l,A=some ⟨g,0,none⟩/\base<=g/\Blk w g el l/\l.length=c * size/\l.take (n * size)=xs/\n<=c:=by
 rcases h.2 with ⟨_,h2⟩ | ⟨g,cap,cur,hv,hg,hh,hnc,_,hsz,ht⟩
 ·omega
 ·injection hv with hA _ hc
  subst hA; subst hc
  exact ⟨g,cur.toList,rfl,hg,by unfold Blk; simpa using hh,by simpa using hsz,ht,hnc⟩
theorem jeR {d:Option Tmp} {ty:TypeId} {ps:String} {af:Array Edge} {Q:(Nat->Value)->World->Prop} {s x:Operand} {t el tb size bytes base n c m c2 g:Nat} {A:Option Addr} {z:Value} {xs l:List Value}
  (hu:P.underlying t=some (.slice el)) (hI:(P.info? el).map (fun i=>(i.zero,i.size,i.bytes))=some (some z,size,bytes)) (hz:Nat.beq z.cells.size size=true) (hs0:Nat.blt 0 size=true)
  (hs:ev e s=.slice A n c) (hown:Own w base el size A n c xs) (hx:ev e x=.slice (some ⟨g,0,none⟩) m c2) (hB:Blk w g tb l) (hl:l.length=m * size) (h1:(l.all fun v=>v.oneCell')=true)
  (hb:(n+m) * (bytes+1)<=140737488355328) (hbase:base<=w.heap.size)
  (hr:∀ A' c' w',Own w' base el size A' (n+m) c' (xs ++ l)->Below base w w'->w.grownBy w' (Value.slice A n c).ownBlock->RW P ops Q rest (yU e d (.slice A' (n+m) c')) w') :
  RW P ops Q (⟨d,.call ⟨.builtin .append,#[s,x],#[t,t]⟩,ty,ps,af,none⟩::rest) e w:=by
 obtain ⟨i,hi,hz0,hz1,hz2⟩:=info_parts hI
 have hz':=Nat.eq_of_beq_eq_true hz
 have hs':0 < size:=Nat.le_of_ble_eq_true hs0
 have hb1:(n+m) * bytes<=140737488355328:=Nat.le_trans (Nat.mul_le_mul_left _ (by omega)) hb
 have hb2:n+m<=140737488355328:=Nat.le_trans (Nat.le_mul_of_pos_right _ (by omega)) hb
 obtain ⟨v',w',hrun,ho,hg,_⟩:=run_append_own (P:=P) w base t ty el i z size bytes hu hi hz0 hz1 hz2 hz' hs' _ n xs hown ⟨g,0,none⟩ m c2 l hl
  (fun j u hu=>by rw [kF]; exact hB.cellv (by simpa using hu)) (fun u hu=>List.all_eq_true.1 h1 u hu) (by unfold maxLen; omega) hb1 hbase
 obtain ⟨A',c',rfl⟩:=Own.form ho
 refine rQ (v:=.slice A' (n+m) c') (w':=w') ?_ (hr A' c' w' ho ?_ hg)
 ·simp [execOp,resolve,invoke,builtin,hs,hx,hrun]
 ·exact (Below.refl _ _).grown hg hbase (fun k hk=>(hown.lt k hk).1)
end
end
end Go.Proofs.YtipnifjmhlcehaaGreatDoor
