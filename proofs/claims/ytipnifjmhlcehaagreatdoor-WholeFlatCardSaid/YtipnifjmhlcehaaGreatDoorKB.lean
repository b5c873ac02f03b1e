/- hachuretop.WholeFlat: a part of the proof that the law returns true at every input (Tri, MemC, Rect, Rect2, Rect3, R1, MemD); no condition of its own. -/
import Derived.Test.YtipnifjmhlcehaaGreatDoorKA
import Derived.Laws.BytesString
set_option linter.unusedVariables false
set_option linter.unusedSimpArgs false
set_option maxRecDepth 100000
set_option maxHeartbeats 16000000
namespace Go.Proofs.YtipnifjmhlcehaaGreatDoor
section
open Go.RowKit
section
variable {P : Program} {ops : Array Oper} {C : List Value → World → Prop} {sp : Nat → Bool}
def yZ (P:Program) (o:Oper) (a:Act) (w:World) (R:Value->World->Prop):Prop :=
 match (execOp a.eval o).run P w with
 | .ok (.value u) w'=>R u w'
 | .ok .skip w'=>R undef w'
 | .ok (.enter f args) w'=>Calls P f args w' fun en w''=>∃ v,en=.returned v/\R v w''
 | _=>False
theorem zH {o:Oper} {a:Act} {w:World} {R:Value->World->Prop} {K:Act->World->Prop} {Q:Exit->Act->World->Prop} (h:yZ P o a w R) (hK:∀ v w',R v w'->K (a.put o.dst v) w'):o.wp P a w K Q:=by
 unfold Oper.wp
 unfold yZ at h
 generalize (execOp a.eval o).run P w=r at *
 cases r with
 | ok n w' =>
  cases n <;> simp only [Oper.upon] <;> first | exact h.elim | exact hK _ _ h | skip
  case enter f args=>exact h.mono fun en w'' ⟨v,he,hn⟩=>by subst he; exact hK _ _ hn
 | halt x w'=>exact h.elim
def sOp (P:Program) (ops:Array Oper) (C:List Value->World->Prop) (sp:Nat->Bool) (i:Nat) (K:List Value->Act->Prop) (σ:List Value) (a:Act):Prop :=
 match ops[i]? with
 | none=>K σ a
 | some o =>
  if Region.wanted o (yielded ops a.tmps) then
   match sp i with
   | true=>(∀ w,C σ w->yZ P o a w fun v w'=>C (v::σ) w')/\∀ v w',C (v::σ) w'->K (v::σ) (a.put o.dst v)
   | false=>∃ v,(∀ τ w,C τ w->yZ P o a w fun u w'=>u=v/\C τ w')/\K σ (a.put o.dst v)
  else K σ (a.put o.dst undef)
theorem fY {i:Nat} {a:Act} {σ:List Value} {K K':List Value->Act->Prop} (h:∀ σ a,K σ a->K' σ a) (hh:sOp P ops C sp i K σ a):sOp P ops C sp i K' σ a:=by
 unfold sOp at *
 split
 ·rename_i ho; rw [ho] at hh; exact h _ _ hh
 ·rename_i o ho
  rw [ho] at hh
  dsimp only at hh
  split
  ·rename_i hw
   rw [if_pos hw] at hh
   cases hs:sp i with
   | true=>rw [hs] at hh; exact ⟨hh.1,fun v w' hv=>h _ _ (hh.2 v w' hv)⟩
   | false=>rw [hs] at hh; exact ⟨hh.choose,hh.choose_spec.1,h _ _ hh.choose_spec.2⟩
  ·rename_i hw; rw [if_neg hw] at hh; exact h _ _ hh
theorem fT {ro:Option Nat} (hnd:(ops.toList.all fun o=>!kX o.op)=true) {i:Nat} {a:Act} {σ:List Value} {w:World} {K:List Value->Act->Prop} {K':Act->World->Prop} {Q':Exit->Act->World->Prop} (hw:C σ w) (h:∀ σ a w',C σ w'->K σ a->K' a w') (hh:sOp P ops C sp i K σ a):wpOpIn (wF ro) 0 P ops Q' i K' a w:=by
 unfold sOp at hh
 unfold wpOpIn
 split
 ·rename_i ho; rw [ho] at hh; exact h _ _ _ hw hh
 ·rename_i o ho
  rw [ho] at hh
  dsimp only at hh
  split
  ·rename_i hwn
   rw [if_pos hwn] at hh
   refine Oper.wpIn_of_wp (fB hnd ho) ?_
   cases hs:sp i with
   | true=>rw [hs] at hh; exact zH (hh.1 w hw) fun v w' hv=>h _ _ _ hv (hh.2 v w' hv)
   | false =>
    rw [hs] at hh
    obtain ⟨v,h1,h2⟩:=hh
    exact zH (h1 σ w hw) fun u w' ⟨hu,hc⟩=>by subst hu; exact h _ _ _ hc h2
  ·rename_i hwn; rw [if_neg hwn] at hh; exact ⟨fun _ _=>trivial,h _ _ _ hw hh⟩
def vJ (P:Program) (ops:Array Oper) (C:List Value->World->Prop) (sp:Nat->Bool) (hd:List Nat) (L:Array Bool->List Value->Act->Prop):Nat->Array Bool->List Value->Act->Prop
 | 0,listed,σ,a=>L listed σ a
 | f+1,listed,σ,a=>Region.ready .any ops listed ≠ []/\∀ i ∈ Region.ready .any ops listed,i ∈ hd/\sOp P ops C sp i (vJ P ops C sp hd L f (listed.setIfInBounds i true)) σ a
theorem kP {ro:Option Nat} (hnd:(ops.toList.all fun o=>!kX o.op)=true) {hd:List Nat} {L:Array Bool->List Value->Act->Prop} {Q':Exit->Act->World->Prop} {g:Nat} (hL:∀ listed σ a w,C σ w->L listed σ a->wpAnyIn (wF ro) 0 P .any ops Q' g listed a w) :
  ∀ (f:Nat) (listed:Array Bool) (σ:List Value) (a:Act) (w:World),C σ w->vJ P ops C sp hd L f listed σ a->wpAnyIn (wF ro) 0 P .any ops Q' (f+g) listed a w
 | 0,listed,σ,a,w,hw,h=>by rw [Nat.zero_add]; exact hL _ _ _ _ hw h
 | f+1,listed,σ,a,w,hw,h=>by
  rw [show f+1+g=(f+g)+1 by omega]
  exact ⟨fun h0=>absurd h0 h.1,fun i hi=>fT hnd hw (fun σ a' w' hw' h'=>kP hnd hL f _ σ a' w' hw' h') (h.2 i hi).2⟩
def YieldsS (P:Program) (ops:Array Oper) (C:List Value->World->Prop) (o:Oper) (v:Value) (a:Act):Prop :=
 (Region.wanted o (yielded ops a.tmps)=true/\∀ τ w,C τ w->yZ P o a w fun u w'=>u=v/\C τ w') \/
 (Region.wanted o (yielded ops a.tmps)=false/\v=undef)
theorem YieldsS.sOp {i:Nat} {o:Oper} {v:Value} {a:Act} {σ:List Value} (hi:ops[i]?=some o) (hs:sp i=false) (hy:YieldsS P ops C o v a) {K:List Value->Act->Prop} (h:K σ (a.put o.dst v)):sOp P ops C sp i K σ a:=by
 unfold Go.Proofs.YtipnifjmhlcehaaGreatDoor.sOp
 rw [hi]
 dsimp only
 rcases hy with ⟨hw,hv⟩ | ⟨hw,rfl⟩
 ·rw [if_pos hw,hs]; exact ⟨v,hv,h⟩
 ·rw [if_neg (by simp [hw])]; exact h
theorem YieldsS.of_same {o:Oper} {v:Value} {a a':Act} (hy:YieldsS P ops C o v a) (he:execOp a'.eval o=execOp a.eval o)
  (hw:Region.wanted o (yielded ops a'.tmps)=Region.wanted o (yielded ops a.tmps)):YieldsS P ops C o v a':=by
 unfold YieldsS yZ at *
 rw [he,hw]
 exact hy
theorem jaP {j:Nat} {oi oj:Oper} {v:Value} {σ:List Value} (hj:ops[j]?=some oj) (hap:oi.apart ops oj=true)
  (hsi:∀ cs b,oi.op ≠ .select cs b) (hsj:∀ cs b,oj.op ≠ .select cs b) {K:List Value->Act->Prop} {a:Act}
  (hy:YieldsS P ops C oi v a) (h:sOp P ops C sp j K σ (a.put oi.dst v)) :
  sOp P ops C sp j (fun σ' a'=>YieldsS P ops C oi v a'/\K σ' (a'.put oi.dst v)) σ a:=by
 obtain ⟨h1,h2,h3⟩:=Oper.apart_spec hap
 have keep:∀ u,YieldsS P ops C oi v (a.put oj.dst u):=fun u=>hy.of_same (execOp_put oi hsi a oj.dst u h3) (wanted_put oi a oj.dst u h3)
 unfold sOp at *
 rw [hj] at h ⊢
 dsimp only at h ⊢
 rw [wanted_put oj a oi.dst v h1] at h
 split
 ·rename_i hw
  rw [if_pos hw] at h
  cases hs:sp j with
  | true =>
   rw [hs] at h
   refine ⟨fun w hC=>?_,fun u w' hC=>⟨keep u,by rw [<-Act.put_comm a v u h2]; exact h.2 u w' hC⟩⟩
   have:=h.1 w hC
   unfold yZ at *
   rwa [execOp_put oj hsj a oi.dst v h1] at this
  | false =>
   rw [hs] at h
   obtain ⟨u,hu,hn⟩:=h
   refine ⟨u,fun τ w hC=>?_,keep u,by rw [<-Act.put_comm a v u h2]; exact hn⟩
   have:=hu τ w hC
   unfold yZ at *
   rwa [execOp_put oj hsj a oi.dst v h1] at this
 ·rename_i hw
  rw [if_neg hw] at h
  exact ⟨keep _,by rw [<-Act.put_comm a v undef h2]; exact h⟩
theorem wU {hd:List Nat} {L:Array Bool->List Value->Act->Prop} {i:Nat} {oi:Oper} {v:Value} (hi:ops[i]?=some oi) (hspi:sp i=false)
  (hsel:∀ (j:Nat) (o:Oper) cs b,ops[j]?=some o->o.op ≠ .select cs b)
  (hhd:∀ (listed:Array Bool),ClosedL ops listed->listed.getD i true=false->∀ j ∈ Region.ready .any ops listed,j ∈ hd)
  (hdone:∀ listed σ a,L listed σ a->∀ j ∈ Region.ready .any ops listed,j ∉ hd) :
  ∀ (f:Nat) (listed:Array Bool) (σ:List Value) (a:Act),ClosedL ops listed ->
   (∀ j oj,ops[j]?=some oj->j ≠ i->listed.getD j true=false->(∀ e ∈ oj.after,Region.binds .any e=true->e.on ≠ i)->oi.apart ops oj=true) ->
   i ∈ Region.ready .any ops listed->YieldsS P ops C oi v a ->
   vJ P ops C sp hd L f (listed.setIfInBounds i true) σ (a.put oi.dst v)->vJ P ops C sp hd L (f+1) listed σ a:=by
 intro f
 induction f with
 | zero =>
  intro listed σ a hcl _ hr hy H
  refine ⟨fun h=>(by rw [h] at hr; cases hr),fun j hj=>?_⟩
  have hjh:=hhd listed hcl (mem_ready.1 hr).1 j hj
  refine ⟨hjh,?_⟩
  by_cases hji:j=i
  ·subst hji; exact hy.sOp hi hspi H
  ·exact absurd hjh (hdone _ _ _ H j (ready_mono hj hji))
 | succ f ih =>
  intro listed σ a hcl hfree hr hy H
  have hun:=(mem_ready.1 hr).1
  refine ⟨fun h=>(by rw [h] at hr; cases hr),fun j hj=>?_⟩
  refine ⟨hhd listed hcl hun j hj,?_⟩
  by_cases hji:j=i
  ·subst hji; exact hy.sOp hi hspi H
  ·have h1:=(H.2 j (ready_mono hj hji)).2
   obtain ⟨hjun,oj,hoj,hall⟩:=mem_ready.1 hj
   have hnot:∀ e ∈ oj.after,Region.binds .any e=true->e.on ≠ i:=fun e he hb heq=>by
    have h2:=hall e he hb
    rw [heq] at h2
    rcases Nat.lt_or_ge i listed.size with h' | h'
    ·simp [h'] at hun h2; rw [hun] at h2; cases h2
    ·simp [Array.getElem?_eq_none h'] at h2
   have h2:=jaP hoj (hfree j oj hoj hji hjun hnot) (fun cs b=>hsel i oi cs b hi) (fun cs b=>hsel j oj cs b hoj) hy h1
   have hfree':∀ k ok,ops[k]?=some ok->k ≠ i->(listed.setIfInBounds j true).getD k true=false ->
     (∀ e ∈ ok.after,Region.binds .any e=true->e.on ≠ i)->oi.apart ops ok=true:=fun k ok hk hki hun' hno=>by
    refine hfree k ok hk hki ?_ hno
    by_cases hjk:j=k
    ·subst hjk; exact hjun
    ·rw [getD_set_ne true hjk] at hun'; exact hun'
   refine fY (fun σ' a' h3=>ih (listed.setIfInBounds j true) σ' a' (hcl.set hj) hfree' (ready_mono hr (Ne.symm hji)) h3.1 ?_) h2
   rw [Array.setIfInBounds_comm _ _ hji]
   exact h3.2
def mR (ops:Array Oper) (sp:Nat->Bool) (tl:List Nat):List Nat->Array Bool->Bool
 | [],listed=>kE ops tl listed
 | i::hd,listed=>(match sp i with
  | true=>decide (Region.ready .any ops listed=[i])
  | false=>(Region.ready .any ops listed).contains i && Region.free .any ops listed i) && mR ops sp tl hd (listed.setIfInBounds i true)
def ja6 (ops:Array Oper) (sp:Nat->Bool) (hd tl:List Nat):Bool :=
 Region.noSelect ops && decide (hd.length+tl.length=ops.size) && ((List.range ops.size).all fun i=>hd.contains i || tl.contains i) &&
 (tl.all fun t=>hd.all fun i=>(uH ops ops.size t).contains i) && (tl.all fun t=>!hd.contains t) && mR ops sp tl hd (Array.replicate ops.size false)
def wpS (P:Program) (ops:Array Oper) (C:List Value->World->Prop) (sp:Nat->Bool) (Lq:List Value->Act->Prop):List (Nat × Oper)->List Value->Act->Prop
 | [],σ,a=>Lq σ a
 | (i,o)::rest,σ,a =>
  if Region.wanted o (yielded ops a.tmps) then
   match sp i with
   | true=>(∀ w,C σ w->yZ P o a w fun v w'=>C (v::σ) w')/\∀ v w',C (v::σ) w'->wpS P ops C sp Lq rest (v::σ) (a.put o.dst v)
   | false=>∃ v,(∀ τ w,C τ w->yZ P o a w fun u w'=>u=v/\C τ w')/\wpS P ops C sp Lq rest σ (a.put o.dst v)
  else wpS P ops C sp Lq rest σ (a.put o.dst undef)
theorem jau {hd tl:List Nat} {Lq:List Value->Act->Prop} (hsel:Region.noSelect ops=true)
  (hcov:∀ i,i < ops.size->i ∈ hd\/i ∈ tl) (hanc:∀ t ∈ tl,∀ i ∈ hd,i ∈ uH ops ops.size t) (hdis:∀ t ∈ tl,t ∉ hd) :
  ∀ (h:List Nat) (lh:List (Nat × Oper)) (listed:Array Bool) (σ:List Value) (a:Act),(∀ i ∈ h,i ∈ hd)->h.map (fun i=>(i,ops[i]?))=lh.map (fun p=>(p.1,some p.2))->ClosedL ops listed->mR ops sp tl h listed=true ->
   wpS P ops C sp Lq lh σ a->vJ P ops C sp hd (fun listed' σ' a'=>kE ops tl listed'=true/\Lq σ' a') h.length listed σ a
 | [],lh,listed,σ,a,_,hl,_,hB,hq=>by
  have:lh=[]:=by cases lh with | nil=>rfl | cons=>simp at hl
  subst this
  exact ⟨by simpa [mR] using hB,hq⟩
 | i::h,[],listed,σ,a,_,hl,_,hB,hq=>by simp at hl
 | i::h,(i',o)::lh,listed,σ,a,hin,hl,hcl,hB,hq=>by
  simp only [List.map_cons,List.cons.injEq,Prod.mk.injEq] at hl
  obtain ⟨⟨rfl,h0⟩,hl'⟩:=hl
  simp only [mR,Bool.and_eq_true] at hB
  obtain ⟨hr,hB'⟩:=hB
  have rec_:=jau (Lq:=Lq) hsel hcov hanc hdis h lh (listed.setIfInBounds i true)
  cases hs:sp i with
  | true =>
   rw [hs] at hr
   have hr':Region.ready .any ops listed=[i]:=by simpa using hr
   have hri:i ∈ Region.ready .any ops listed:=by rw [hr']; simp
   refine ⟨by rw [hr']; simp,fun j hj=>?_⟩
   rw [hr'] at hj
   obtain rfl:j=i:=by simpa using hj
   refine ⟨hin j (by simp),?_⟩
   unfold sOp
   rw [h0]
   dsimp only
   simp only [wpS,hs] at hq
   split
   ·rename_i hw
    rw [if_pos hw] at hq
    rw [hs]
    exact ⟨hq.1,fun v w' hv=>rec_ _ _ (fun k hk=>hin k (List.mem_cons_of_mem _ hk)) hl' (hcl.set hri) hB' (hq.2 v w' hv)⟩
   ·rename_i hw
    rw [if_neg hw] at hq
    exact rec_ _ _ (fun k hk=>hin k (List.mem_cons_of_mem _ hk)) hl' (hcl.set hri) hB' hq
  | false =>
   rw [hs] at hr
   simp only [Bool.and_eq_true] at hr
   have hr':i ∈ Region.ready .any ops listed:=by simpa using hr.1
   simp only [wpS,hs] at hq
   have hy:∃ v,YieldsS P ops C o v a/\wpS P ops C sp Lq lh σ (a.put o.dst v):=by
    by_cases hw:Region.wanted o (yielded ops a.tmps)=true
    ·rw [if_pos hw] at hq
     obtain ⟨v,h1,h2⟩:=hq
     exact ⟨v,.inl ⟨hw,h1⟩,h2⟩
    ·rw [if_neg hw] at hq
     exact ⟨undef,.inr ⟨by simpa using hw,rfl⟩,hq⟩
   obtain ⟨v,hy,hK⟩:=hy
   refine wU h0 hs (Region.noSelect_spec hsel) ?_ ?_ h.length listed σ a hcl (Region.free_spec h0 hr.2) hr' hy
    (rec_ _ _ (fun j hj=>hin j (List.mem_cons_of_mem _ hj)) hl' (hcl.set hr') hB' hK)
   ·intro listed' hcl' hun j hj
    obtain ⟨_,oj,hoj,_⟩:=mem_ready.1 hj
    have hjs:j < ops.size:=(Array.getElem?_eq_some_iff.1 hoj).1
    rcases hcov j hjs with hh | hh
    ·exact hh
    ·have hl1:=xO hcl' ops.size j (xL hj) i (hanc j hh i (hin i (by simp)))
     rcases Nat.lt_or_ge i listed'.size with h' | h'
     ·simp [h'] at hun hl1; rw [hun] at hl1; cases hl1
     ·simp [Array.getElem?_eq_none h'] at hl1
   ·intro listed' σ' a' hL j hj hjh
    have hB:=hL.1
    cases htl:tl with
    | nil=>simp only [htl,kE,List.isEmpty_iff] at hB; rw [hB] at hj; cases hj
    | cons t tl' =>
     simp only [htl,kE,Bool.and_eq_true,decide_eq_true_eq] at hB
     rw [hB.1] at hj
     have:j=t:=by simpa using hj
     subst this
     exact hdis j (by simp [htl]) hjh
theorem lC {ro:Option Nat} {id:Nat} {Q:Exit->Act->World->Prop} {a:Act} {w:World} {l:List Oper} (hd tl:List Nat) (lh:List (Nat × Oper)) (lt:List Oper) (hnd:(l.all fun o=>!kX o.op)=true) (hm:P.follows .mixedOrders=true)
  (hB:ja6 l.toArray sp hd tl=true) (hh:hd.map (fun i=>(i,l.toArray[i]?))=lh.map (fun p=>(p.1,some p.2))) (ht:tl.map (l.toArray[·]?)=lt.map some) (hC:C [] w.drew)
  (h:wpS P l.toArray C sp (fun σ a'=>∀ w',C σ w'->wpListIn (wF ro) 0 P l.toArray Q lt a' w') lh [] a):(Code.region id l.toArray true).wpIn (wF ro) 0 P Q a w:=by
 simp only [ja6,Bool.and_eq_true,decide_eq_true_eq] at hB
 obtain ⟨⟨⟨⟨⟨hsel,hlen⟩,hcov⟩,hanc⟩,hdis⟩,hhd⟩:=hB
 have H:=jau (P:=P) (C:=C) (sp:=sp) (Lq:=fun σ a'=>∀ w',C σ w'->wpListIn (wF ro) 0 P l.toArray Q lt a' w') (hd:=hd) (tl:=tl) hsel
  (fun i hi=>by have:=List.all_eq_true.1 hcov i (List.mem_range.2 hi); simpa using this)
  (fun t htl i hi=>by have:=List.all_eq_true.1 (List.all_eq_true.1 hanc t htl) i hi; simpa using this)
  (fun t htl=>by have:=List.all_eq_true.1 hdis t htl; simpa using this)
  hd lh (Array.replicate l.toArray.size false) [] a (fun _ hi=>hi) hh
  (fun i hi=>by
   have h0:∀ m j:Nat,(Array.replicate m false).getD j false=false:=fun m j=>by
    rcases Nat.lt_or_ge j m with h' | h'
    ·simp [h']
    ·simp [h']
   rw [h0] at hi
   cases hi) hhd h
 refine wpIn_region_any hm ?_
 have:=kP (Q':=Q) (ro:=ro) (by simpa using hnd) (g:=tl.length) (fun listed σ a' w' hw' hL=>k3 tl lt listed a' w' ht hL.1 (hL.2 w' hw')) _ _ _ _ _ hC H
 rw [hlen] at this
 exact this
def qM (P:Program) (e:Nat->Value) (o:Oper) (w:World) (R:Value->World->Prop):Prop :=
 match (execOp (ev e) o).run P w with
 | .ok (.value u) w'=>R u w'
 | .ok .skip w'=>R undef w'
 | .ok (.enter f args) w'=>Calls P f args w' fun en w''=>∃ v,en=.returned v/\R v w''
 | _=>False
def RS (P:Program) (ops:Array Oper) (C:List Value->World->Prop) (sp:Nat->Bool) (Q:List Value->(Nat->Value)->Prop):List (Nat × Oper)->List Value->(Nat->Value)->Prop
 | [],σ,e=>Q σ e
 | (i,o)::rest,σ,e =>
  if wE ops e o=true then
   match sp i with
   | true=>(∀ w,C σ w->qM P e o w fun v w'=>C (v::σ) w')/\∀ v w',C (v::σ) w'->RS P ops C sp Q rest (v::σ) (yU e o.dst v)
   | false=>∃ v,(∀ τ w,C τ w->qM P e o w fun u w'=>u=v/\C τ w')/\RS P ops C sp Q rest σ (yU e o.dst v)
  else RS P ops C sp Q rest σ (yU e o.dst undef)
theorem dM {N:Nat} {df:List Deferred} {Q:List Value->(Nat->Value)->Prop} {Q':List Value->Act->Prop} (hQ:∀ σ e a,Rep N df e a->Q σ e->Q' σ a) :
  ∀ (l:List (Nat × Oper)) (σ:List Value) (e:Nat->Value) (a:Act),(l.all fun p=>vE N p.2.dst)=true->Rep N df e a->RS P ops C sp Q l σ e->wpS P ops C sp Q' l σ a
 | [],σ,e,a,_,hr,h=>hQ σ e a hr h
 | (i,o)::rest,σ,e,a,hd,hr,h=>by
  simp only [List.all_cons,Bool.and_eq_true] at hd
  unfold wpS
  rw [hr.wanted]
  simp only [RS] at h
  have hto:∀ w R,qM P e o w R->yZ P o a w R:=fun w R hh=>by unfold yZ; rw [hr.eval]; exact hh
  split
  ·rename_i hw
   rw [if_pos hw] at h
   cases hs:sp i with
   | true =>
    rw [hs] at h
    exact ⟨fun w hC=>hto _ _ (h.1 w hC),fun v w' hC=>dM hQ rest _ _ _ hd.2 (hr.put hd.1 v) (h.2 v w' hC)⟩
   | false =>
    rw [hs] at h
    obtain ⟨v,h1,h2⟩:=h
    exact ⟨v,fun τ w hC=>hto _ _ (h1 τ w hC),dM hQ rest _ _ _ hd.2 (hr.put hd.1 v) h2⟩
  ·rename_i hw
   rw [if_neg hw] at h
   exact dM hQ rest _ _ _ hd.2 (hr.put hd.1 undef) h
def yT (l:List Oper):List Nat->List (Nat × Oper)
 | []=>[]
 | i::is=>match l.drop i with
  | o::_=>(i,o)::yT l is
  | []=>yT l is
theorem z8 (l:List Oper):∀ is:List Nat,(is.all fun i=>decide (i < l.length))=true->is.map (fun i=>(i,l.toArray[i]?))=(yT l is).map fun p=>(p.1,some p.2)
 | [],_=>rfl
 | i::is,h=>by
  simp only [List.all_cons,Bool.and_eq_true,decide_eq_true_eq] at h
  simp only [yT,List.drop_eq_getElem_cons h.1,List.map_cons,z8 l is h.2]
  simp [h.1]
theorem qQ {N:Nat} {Q:Exit->(Nat->Value)->World->Prop} {e:Nat->Value} {w:World} {id:Nat} {l:List Oper} (sp:List Nat) (hd tl:List Nat) (hm:P.follows .mixedOrders=true)
  (hB:(ja6 l.toArray (fun i=>sp.contains i) hd tl && (hd.all fun i=>decide (i < l.length)) && (tl.all fun i=>decide (i < l.length)))=true) (hC:C [] w.drew)
  (h:RS P l.toArray C (fun i=>sp.contains i) (fun σ e'=>∀ w',C σ w'->RW P l.toArray (fun e w=>Q .normal e w) (j6 l tl) e' w') (yT l hd) [] e):CW P N (.region id l.toArray true) Q e w:=fun hk df a hr ro=>by
 simp only [Bool.and_eq_true] at hB
 simp only [q8,Bool.and_eq_true] at hk
 have hsub:∀ is:List Nat,(is.all fun i=>decide (i < l.length))=true->((j6 l is).all fun o=>vE N o.dst)=true:=fun is his=>by
  have h1:=qJ l is his
  refine List.all_eq_true.2 fun o ho=>?_
  have h2:some o ∈ (j6 l is).map some:=List.mem_map.2 ⟨o,ho,rfl⟩
  rw [<-h1] at h2
  obtain ⟨i,_,hi⟩:=List.mem_map.1 h2
  have h3:l[i]?=some o:=by simpa using hi
  exact List.all_eq_true.1 hk.1 o (List.mem_of_getElem? h3)
 have hsubd:∀ is:List Nat,(is.all fun i=>decide (i < l.length))=true->((j6 l is).all fun o=>!kX o.op)=true:=fun is his=>by
  have h1:=qJ l is his
  refine List.all_eq_true.2 fun o ho=>?_
  have h2:some o ∈ (j6 l is).map some:=List.mem_map.2 ⟨o,ho,rfl⟩
  rw [<-h1] at h2
  obtain ⟨i,_,hi⟩:=List.mem_map.1 h2
  have h3:l[i]?=some o:=by simpa using hi
  exact List.all_eq_true.1 hk.2 o (List.mem_of_getElem? h3)
 have hsubI:∀ is:List Nat,(is.all fun i=>decide (i < l.length))=true->((yT l is).all fun p=>vE N p.2.dst)=true:=fun is his=>by
  have h1:=z8 l is his
  refine List.all_eq_true.2 fun p hp=>?_
  have h2:(p.1,some p.2) ∈ (yT l is).map (fun p=>(p.1,some p.2)):=List.mem_map.2 ⟨p,hp,rfl⟩
  rw [<-h1] at h2
  obtain ⟨i,_,hi⟩:=List.mem_map.1 h2
  simp only [Prod.mk.injEq] at hi
  have h3:l[i]?=some p.2:=by simpa using hi.2
  exact List.all_eq_true.1 hk.1 p.2 (List.mem_of_getElem? h3)
 refine lC (C:=C) hd tl _ _ hk.2 hm hB.1.1 (z8 l hd hB.1.2) (qJ l tl hB.2) hC ?_
 exact dM (fun σ e' a' hr' hq w' hw'=>k4 (fun e a w hr h=>⟨e,hr,h⟩) _ e' a' w' (hsub tl hB.2) (hsubd tl hB.2) hr' (hq w' hw')) _ [] e a (hsubI hd hB.1.2) hr h
variable {Qs : List Value → (Nat → Value) → Prop} {σ : List Value} {e : Nat → Value} {i : Nat} {rest : List (Nat × Oper)}
variable {d : Option Tmp} {op : Op} {ty : TypeId} {ps : String} {af : Array Edge}
theorem jdP {o:Oper} (h:wE ops e o=true):RS P ops C sp Qs ((i,o)::rest) σ e=match sp i with
   | true=>(∀ w,C σ w->qM P e o w fun v w'=>C (v::σ) w')/\∀ v w',C (v::σ) w'->RS P ops C sp Qs rest (v::σ) (yU e o.dst v)
   | false=>∃ v,(∀ τ w,C τ w->qM P e o w fun u w'=>u=v/\C τ w')/\RS P ops C sp Qs rest σ (yU e o.dst v):=by rw [RS]; exact if_pos h
theorem yV (h:Qs σ e):RS P ops C sp Qs [] σ e:=h
theorem qF {v:Value} (hs:sp i=false) (h:∀ τ w,C τ w->OpR P e ⟨d,op,ty,ps,af,none⟩ w v) (hr:RS P ops C sp Qs rest σ (yU e d v)):RS P ops C sp Qs ((i,⟨d,op,ty,ps,af,none⟩)::rest) σ e:=by
 rw [jdP rfl,hs]
 refine ⟨v,fun τ w hC=>?_,hr⟩
 have:=h τ w hC
 unfold OpR at this
 unfold qM
 rw [this]
 exact ⟨rfl,hC⟩
theorem jX {v:Value} (hs:sp i=false) (h:OpV P e ⟨d,op,ty,ps,af,none⟩ v) (hr:RS P ops C sp Qs rest σ (yU e d v)):RS P ops C sp Qs ((i,⟨d,op,ty,ps,af,none⟩)::rest) σ e:=qF hs (fun _ w _=>h w) hr
theorem vV {f:FuncId} {args:List Operand} {tys:Array TypeId} {vs:List Value} {v:Value} (hs:sp i=false) (hv:fzl (args.map (ev e))=some vs) (hc:∀ τ w,C τ w->Fn P f vs w (fun v' w'=>v'=v/\C τ w')) (hr:RS P ops C sp Qs rest σ (yU e d v)) :
  RS P ops C sp Qs ((i,⟨d,.call ⟨.value (.func f),args.toArray,tys⟩,ty,ps,af,none⟩)::rest) σ e:=by
 have h0:=vG hv
 rw [jdP rfl,hs]
 refine ⟨v,fun τ w hC=>?_,hr⟩
 have hrun:(execOp (ev e) ⟨d,.call ⟨.value (.func f),args.toArray,tys⟩,ty,ps,af,none⟩).run P w=.ok (.enter f vs.toArray) w:=by
  have h1:ev e (.func f)=.func (.func f) #[] #[]:=rfl
  simp [execOp,resolve,h1,Deferred.ofValue,invoke,h0,y5 (hc τ w hC).1]
 unfold qM
 rw [hrun]
 exact (hc τ w hC).2
theorem jZ {o:Oper} (hs:sp i=true) (hw:wE ops e o=true) (h:∀ w,C σ w->qM P e o w fun v w'=>C (v::σ) w') (hr:∀ v w',C (v::σ) w'->RS P ops C sp Qs rest (v::σ) (yU e o.dst v)):RS P ops C sp Qs ((i,o)::rest) σ e:=by
 rw [jdP hw,hs]
 exact ⟨h,hr⟩
theorem uW {f:FuncId} {args:List Operand} {tys:Array TypeId} {vs:List Value} {w:World} {R:Value->World->Prop} (hv:fzl (args.map (ev e))=some vs) (hc:Fn P f vs w R) :
  qM P e ⟨d,.call ⟨.value (.func f),args.toArray,tys⟩,ty,ps,af,none⟩ w R:=by
 have h0:=vG hv
 have hrun:(execOp (ev e) ⟨d,.call ⟨.value (.func f),args.toArray,tys⟩,ty,ps,af,none⟩).run P w=.ok (.enter f vs.toArray) w:=by
  have h1:ev e (.func f)=.func (.func f) #[] #[]:=rfl
  simp [execOp,resolve,h1,Deferred.ofValue,invoke,h0,y5 hc.1]
 unfold qM
 rw [hrun]
 exact hc.2
end
end
section
open Go.RowKit
section
variable {P : Program} {ops : Array Oper} {Q : (Nat → Value) → World → Prop} {e : Nat → Value} {w : World} {rest : List Oper}
variable {d : Option Tmp} {ty : TypeId} {ps : String} {af : Array Edge}
theorem gV {b tb o:Nat} (vs:List Value):∀ (i:Nat) (w:World) (l:List Value),Blk w b tb l->(∀ v ∈ vs,v.oneCell'=true)->o+i+vs.length<=l.length ->
   ∃ w',(storeCells ⟨b,o,none⟩ vs i).run P w=.ok () w'/\w.grownBy w' (some b)/\w'.heap.size=w.heap.size/\Blk w' b tb (l.take (o+i) ++ vs ++ l.drop (o+i+vs.length)):=by
 induction vs with
 | nil=>intro i w l hB _ hle; exact ⟨w,by simp [storeCells],World.grownBy.refl _ _,rfl,by simpa using hB⟩
 | cons v vs ih =>
  intro i w l hB hone hle
  simp only [List.length_cons] at hle
  have hv:=hone v (by simp)
  have hc:=hB.cellv (i:=o+i) (v:=l[o+i]'(by omega)) (List.getElem?_eq_getElem (by omega))
  have hf:=hB.free (o+i)
  have h1:=run_store P w ⟨b,o+i,none⟩ v .plain hv
  obtain ⟨w',hw',hg',hs',hB'⟩:=ih (i+1) _ _ (hB.set_ (o+i) v) (fun u hu=>hone u (List.mem_cons_of_mem _ hu)) (by simp; omega)
  refine ⟨w',?_,bV (gC w b (o+i) v) hg',by simpa using hs',?_⟩
  ·simp [storeCells,kF,h1,stored,hc,hf,hw']
  ·have e1:o+(i+1)=(o+i)+1:=by omega
   rw [e1] at hB'
   rw [List.take_set,List.drop_set_of_lt (by omega),List.take_succ_eq_append_getElem (by omega),List.set_append_right _ _ (by simp; omega)] at hB'
   have h5:o+i - (l.take (o+i)).length=0:=by simp; omega
   rw [h5] at hB'
   have e2:o+i+1+vs.length=o+i+(vs.length+1):=by omega
   rw [e2] at hB'
   simpa using hB'
theorem jeb {x y:Operand} {t t2 el tb tb' b o b' o' dl dc sl sc k n:Nat} {l l' news:List Value} (hu:P.underlying t=some (.slice el)) (hz:∀ w,(sizeOf el).run P w=.ok k w) (hx:ev e x=.slice (some ⟨b,o,none⟩) dl dc) (hy:ev e y=.slice (some ⟨b',o',none⟩) sl sc)
  (hB:Blk w b tb l) (hB':Blk w b' tb' l') (hn:min sl dl=n) (hnews:(l'.drop o').take (n * k)=news) (hlen:news.length=n * k) (ho:o+n * k<=l.length) (hone:∀ v ∈ news,v.oneCell'=true) :
  ∃ w',(execOp (ev e) ⟨d,.call ⟨.builtin .copy,#[x,y],#[t,t2]⟩,ty,ps,af,none⟩).run P w=.ok (.value (.int .i64 n)) w'/\w.grownBy w' (some b)/\w'.heap.size=w.heap.size/\Blk w' b tb (l.take o ++ news ++ l.drop (o+n * k)):=by
 obtain ⟨w',hw',hg',hs',hB2⟩:=gV (P:=P) (o:=o) news 0 w l hB hone (by omega)
 have hload:(loadCells ⟨b',o',none⟩ (n * k)).run P w=.ok news.toArray w:=fM hlen (fun j v hv=>by
  rw [kF]
  refine hB'.cellv ?_
  rw [<-hnews,List.getElem?_take] at hv
  split at hv
  ·rwa [List.getElem?_drop] at hv
  ·cases hv)
 refine ⟨w',?_,hg',hs',by simpa [hlen] using hB2⟩
 have hn':Nat.min sl dl=n:=hn
 simp [execOp,resolve,invoke,builtin,hx,hy,Builtin.copy_,run_underlying hu,Builtin.lenOf,hn',hz,Builtin.firstCells,hload,hw',goInt]
theorem jiJ {x y:Operand} {t t2 el tb tb' b o b' o' dl dc sl sc k n:Nat} {l l' news:List Value} (hu:P.underlying t=some (.slice el)) (hz:∀ w,(sizeOf el).run P w=.ok k w) (hx:ev e x=.slice (some ⟨b,o,none⟩) dl dc) (hy:ev e y=.slice (some ⟨b',o',none⟩) sl sc)
  (hB:Blk w b tb l) (hB':Blk w b' tb' l') (hn:min sl dl=n) (hnews:(l'.drop o').take (n * k)=news) (hlen:news.length=n * k) (ho:o+n * k<=l.length) (hone:∀ v ∈ news,v.oneCell'=true)
  (hr:∀ w',w.grownBy w' (some b)->w'.heap.size=w.heap.size->Blk w' b tb (l.take o ++ news ++ l.drop (o+n * k))->RW P ops Q rest (yU e d (.int .i64 n)) w') :
  RW P ops Q (⟨d,.call ⟨.builtin .copy,#[x,y],#[t,t2]⟩,ty,ps,af,none⟩::rest) e w:=by
 obtain ⟨w',h1,h2,h3,h4⟩:=jeb (P:=P) (d:=d) (ty:=ty) (ps:=ps) (af:=af) (t2:=t2) hu hz hx hy hB hB' hn hnews hlen ho hone
 exact rQ h1 (hr w' h2 h3 h4)
theorem lD {o:Oper} {v:Value} {w':World} {R:Value->World->Prop} (h:(execOp (ev e) o).run P w=.ok (.value v) w') (hr:R v w'):qM P e o w R:=by
 unfold qM; rw [h]; exact hr
theorem jkW {o:Oper} {v:Value} {A:World->Prop} {R:Value->World->Prop} (h:∃ w',(execOp (ev e) o).run P w=.ok (.value v) w'/\A w') (hr:∀ w',A w'->R v w'):qM P e o w R:=by
 obtain ⟨w',h1,h2⟩:=h; exact lD h1 (hr w' h2)
theorem jck {t el:TypeId} {x lo hi:Operand} {b o len cap k:Nat} {kl kh:IntKind} {m n:Int} (hu:P.underlying t=some (.slice el)) (hz:∀ w,(sizeOf el).run P w=.ok k w) (hx:ev e x=.slice (some ⟨b,o,none⟩) len cap) (hl:ev e lo=.int kl m) (hh:ev e hi=.int kh n)
  (h0:0<=m) (h1:m<=n) (h2:n<=cap) (h3:m < cap):OpV P e ⟨d,.slice t x (some lo) (some hi) none,ty,ps,af,none⟩ (.slice (some ⟨b,o+m.toNat * k,none⟩) (n.toNat - m.toNat) (cap - m.toNat)):=by
 intro w
 have eh:(n.toNat:Int)=n:=Int.toNat_of_nonneg (by omega)
 have hne:cap ≠ m.toNat:=by omega
 simp [OpR,execOp,hx,hl,hh,Instr.sliceAt,Instr.slice,run_underlying hu,Instr.sliceBounds,run_sliceBound,eh,h0,h1,h2,(by omega:0<=n),hz,hne,kF]
theorem wC {t el:TypeId} {x hi:Operand} {len cap k:Nat} {A:Option Addr} {kh:IntKind} {n:Int} (hu:P.underlying t=some (.slice el)) (hz:∀ w,(sizeOf el).run P w=.ok k w) (hx:ev e x=.slice A len cap) (hh:ev e hi=.int kh n)
  (h0:0<=n) (h2:n<=cap):OpV P e ⟨d,.slice t x none (some hi) none,ty,ps,af,none⟩ (.slice A n.toNat cap):=by
 intro w
 have eh:(n.toNat:Int)=n:=Int.toNat_of_nonneg (by omega)
 have hA:(if cap=0 then A else Option.map (fun x=>x.add 0) A)=A:=by
  split
  ·rfl
  ·cases A <;> simp [Addr.add]
 simp [OpR,execOp,hx,hh,Instr.sliceAt,Instr.slice,run_underlying hu,Instr.sliceBounds,run_sliceBound,h0,h2,hz]
 intro hc; cases A <;> simp [Addr.add]
theorem jdp {t el:TypeId} {x lo:Operand} {b o len cap k:Nat} {kl:IntKind} {m:Int} (hu:P.underlying t=some (.slice el)) (hz:∀ w,(sizeOf el).run P w=.ok k w) (hx:ev e x=.slice (some ⟨b,o,none⟩) len cap) (hl:ev e lo=.int kl m)
  (h0:0<=m) (h1:m<=len) (h3:m < cap):OpV P e ⟨d,.slice t x (some lo) none none,ty,ps,af,none⟩ (.slice (some ⟨b,o+m.toNat * k,none⟩) (len - m.toNat) (cap - m.toNat)):=by
 intro w
 have hne:cap ≠ m.toNat:=by omega
 simp [OpR,execOp,hx,hl,Instr.sliceAt,Instr.slice,run_underlying hu,Instr.sliceBounds,run_sliceBound,h0,h1,hz,hne,kF]
theorem jc3 (z:Array Value) (k:Nat) (hsz:z.size=k) (m:Nat):(List.range (m * k)).map (fun i=>z[i % z.size]!)=(List.replicate m z.toList).flatten:=by
 induction m with
 | zero=>simp
 | succ m ih =>
  rw [Nat.succ_mul,List.range_add,List.map_append,ih,List.replicate_succ',List.flatten_append]
  congr 1
  simp only [List.map_map,List.flatten_cons,List.flatten_nil,List.append_nil]
  apply List.ext_getElem?
  intro j
  by_cases hj:j < k
  ·have:(m * k+j) % k=j:=by rw [Nat.add_comm,Nat.add_mul_mod_self_right,Nat.mod_eq_of_lt hj]
   simp [hj,hsz,this]
  ·simp [hj,hsz]
theorem jbc {t el:TypeId} {x y:Operand} {size bytes n c:Nat} {kl kc:IntKind} {z:Value} {m p:Int} (hu:P.underlying t=some (.slice el)) (hI:(P.info? el).map (fun i=>(i.zero,i.size,i.bytes))=some (some z,size,bytes)) (hz:Nat.beq z.cells.size size=true)
  (hx:ev e x=.int kl m) (hy:ev e y=.int kc p) (hm:m=(n:Nat)) (hp:p=(c:Nat)) (hnc:n<=c) (hb:c * (bytes+1)<=140737488355328) :
  (execOp (ev e) ⟨d,.makeSlice t x y,ty,ps,af,none⟩).run P w=.ok (.value (.slice (some ⟨w.heap.size,0,none⟩) n c)) (w.alloc (.cells ((List.replicate c z.cells.toList).flatten).toArray el)):=by
 obtain ⟨i,hi,hz0,hz1,hz2⟩:=info_parts hI
 subst hm; subst hp
 have hz':=Nat.eq_of_beq_eq_true hz
 have hb1:c * bytes<=140737488355328:=Nat.le_trans (Nat.mul_le_mul_left _ (by omega)) hb
 have hb2:c<=140737488355328:=Nat.le_trans (Nat.le_mul_of_pos_right _ (by omega)) hb
 have hb3:(i.bytes:Int) * (c:Int)<=281474976710656:=by
  have h:((i.bytes * c:Nat):Int)<=281474976710656:=by rw [hz2,Nat.mul_comm]; omega
  rwa [Int.natCast_mul] at h
 have hr:=run_make (P:=P) w t el i z hu hi hz0 kl kc n c (by omega) (by omega) hb3 (by omega)
 have hcells:madeCells z.cells (c * i.size)=((List.replicate c z.cells.toList).flatten).toArray:=by
  rw [<-Array.toList_inj]
  unfold madeCells
  simp only [Array.toList_map,Array.toList_range]
  rw [hz1]
  exact jc3 z.cells size hz' c
 simp only [Int.toNat_natCast] at hr
 rw [hcells] at hr
 simp [execOp,hx,hy,hr]
theorem jcE (v:Value) (n:Nat):(List.replicate n [v]).flatten=List.replicate n v:=by
 induction n with
 | zero=>rfl
 | succ n ih=>simp [List.replicate_succ,ih]
theorem jhh {t el:TypeId} {x y:Operand} {bytes n c:Nat} {kl kc:IntKind} {z:Value} {m p:Int} (hu:P.underlying t=some (.slice el)) (hI:(P.info? el).map (fun i=>(i.zero,i.size,i.bytes))=some (some z,1,bytes)) (hz:z.cells=#[z])
  (hx:ev e x=.int kl m) (hy:ev e y=.int kc p) (hm:m=(n:Nat)) (hp:p=(c:Nat)) (hnc:n<=c) (hb:c * (bytes+1)<=140737488355328) :
  (execOp (ev e) ⟨d,.makeSlice t x y,ty,ps,af,none⟩).run P w=.ok (.value (.slice (some ⟨w.heap.size,0,none⟩) n c)) (w.alloc (.cells (List.replicate c z).toArray el)):=by
 have h:=jbc (P:=P) (w:=w) (d:=d) (ty:=ty) (ps:=ps) (af:=af) (e:=e) hu hI (by rw [hz]; rfl) hx hy hm hp hnc hb
 rw [hz] at h
 have e2:(#[z]:Array Value).toList=[z]:=rfl
 rw [e2,jcE] at h
 exact h
theorem gM {x:Operand} {ts t:TypeId} {v:Value} {dd:TypeDesc} (hu:P.underlying t=some dd) (hd:jbk dd=false) (hx:ev e x=.iface t v):OpV P e ⟨d,.typeAssert x ts t true,ty,ps,af,none⟩ (.tuple #[v,.bool true]):=by
 intro w
 cases dd <;> first | (cases hd; done) | (simp [OpR,execOp,hx,Instr.typeAssert,run_underlying hu])
theorem cT {x:Operand} {ts t:TypeId} {v:Value} {dd:TypeDesc} (hu:P.underlying t=some dd) (hd:jbk dd=false) (hx:ev e x=.iface t v) (hv:fz v=some v):OpV P e ⟨d,.typeAssert x ts t false,ty,ps,af,none⟩ v:=by
 intro w
 cases dd <;> first | (cases hd; done) | (simp [OpR,execOp,hx,Instr.typeAssert,run_underlying hu])
theorem g7 {x:Operand} {ts t t':TypeId} {v z:Value} {dd:TypeDesc} (hu:P.underlying t=some dd) (hd:jbk dd=false) (hx:ev e x=.iface t' v) (hne:Nat.beq t' t=false) (hz:∀ w,(zeroValue t).run P w=.ok z w):OpV P e ⟨d,.typeAssert x ts t true,ty,ps,af,none⟩ (.tuple #[z,.bool false]):=by
 intro w
 have h:t' ≠ t:=by rintro rfl; simp at hne
 cases dd <;> first | (cases hd; done) | (simp [OpR,execOp,hx,Instr.typeAssert,run_underlying hu,h,hz])
end
end
section
open Go.RowKit
def yQ (n e:Int):Bool:=decide (0<=n) && decide (n < e)
theorem mN (n e:Int) (w:World) :
  Calls Tryz.prog 149 #[.int .i64 n,.int .i64 e] w fun r w'=>r=.returned (.bool (yQ n e))/\w=w':=by
 go_enter Tryz.func149,Tryz.ntmps149
 go_wp2
 all_goals (go_ret; refine ⟨?_,rfl⟩; unfold yQ; simp [*]; try omega)
def kD (x0 y0 x1 y1 w h:Int):Int :=
 if !yQ (w-1) 1024 || !yQ (h-1) 1024 then 3
 else if !yQ x0 w || !yQ x1 w || !yQ y0 h || !yQ y1 h then 4
 else if x1 < x0\/y1 < y0 then 5 else 0
theorem pO (x0 y0 x1 y1 w h:Int) (hw1:-9223372036854775808 < w) (hw2:w<=9223372036854775807) (hh1:-9223372036854775808 < h) (hh2:h<=9223372036854775807) (W:World) :
  Calls Tryz.prog 102 #[.agg #[.int .i64 x0,.int .i64 y0,.int .i64 x1,.int .i64 y1],.int .i64 w,.int .i64 h] W fun r W'=>r=.returned (.int .i64 (kD x0 y0 x1 y1 w h))/\Below W.heap.size W W':=by
 go_enter Tryz.func102,Tryz.ntmps102
 go_wp2_with (go_at_call 149; refine (mN _ _ _).mono ?_; rintro e w' ⟨rfl,rfl⟩)
 all_goals
  go_ret
  refine ⟨?_,(Below.refl _ _).alloc (Nat.le_refl _) _⟩
  simp_all [kD]
 all_goals first | done | (intro hh; omega) | omega
def uQ (x0 y0 x1 y1:Int):Bool:=kD x0 y0 x1 y1 1024 1024 == 0
theorem vO (x0 y0 x1 y1:Int):uQ x0 y0 x1 y1=true ↔ 0<=x0/\x0<=x1/\x1 < 1024/\0<=y0/\y0<=y1/\y1 < 1024:=by
 unfold uQ kD yQ
 simp
 split
 ·simp; omega
 ·split
  ·simp; omega
  ·omega
theorem l4 (x0 y0 x1 y1:Int) (W:World) :
  Calls Tryz.prog 127 #[.agg #[.int .i64 x0,.int .i64 y0,.int .i64 x1,.int .i64 y1]] W fun r W'=>r=.returned (.bool (uQ x0 y0 x1 y1))/\Below W.heap.size W W':=by
 go_enter Tryz.func127,Tryz.ntmps127
 go_wp2_with (go_at_call 102; refine (pO _ _ _ _ _ _ (by omega) (by omega) (by omega) (by omega) _).mono ?_; rintro e w' ⟨rfl,hb⟩)
 all_goals
  go_ret
  refine ⟨?_,((Below.refl _ _).alloc (Nat.le_refl _) _).trans (hb.mono (by simp))⟩
  rfl
end
section
open Go.RowKit
theorem dO (x0 y0 x1 y1:Int) (h:0<=x0/\x0<=x1/\x1 < 1024) (W:World) :
  Calls Tryz.prog 128 #[.agg #[.int .i64 x0,.int .i64 y0,.int .i64 x1,.int .i64 y1]] W fun r W'=>r=.returned (.int .i64 (x1 - x0+1))/\Below W.heap.size W W':=by
 obtain ⟨h1,h2,h3⟩:=h
 go_enter Tryz.func128,Tryz.ntmps128
 go_wp2
 go_ret
 exact ⟨rfl,(Below.refl _ _).alloc (Nat.le_refl _) _⟩
theorem jcQ (a b:Int) (ha:0<=a) (hb:0<=b) (ha':a<=1024) (hb':b<=1024):0<=a * b/\a * b<=1048576:=by
 refine ⟨Int.mul_nonneg ha hb,?_⟩
 have:a * b<=1024 * 1024:=Int.mul_le_mul ha' hb' hb (by omega)
 omega
theorem jcR (x0 y0 x1 y1:Int) (h:0<=x0/\x0<=x1/\x1 < 1024/\0<=y0/\y0<=y1/\y1 < 1024) (W:World) :
  Calls Tryz.prog 62 #[.agg #[.int .i64 x0,.int .i64 y0,.int .i64 x1,.int .i64 y1]] W fun r W'=>r=.returned (.int .i64 ((x1 - x0+1) * (y1 - y0+1)))/\Below W.heap.size W W':=by
 have hr:uQ x0 y0 x1 y1=true:=(vO _ _ _ _).2 h
 obtain ⟨h1,h2,h3,h4,h5,h6⟩:=h
 obtain ⟨m1,m2⟩:=jcQ (x1 - x0+1) (y1 - y0+1) (by omega) (by omega) (by omega) (by omega)
 go_enter Tryz.func62,Tryz.ntmps62
 go_wp2_with (go_at_call 127; refine (l4 _ _ _ _ _).mono ?_; rintro e w' ⟨rfl,hb⟩; obtain ⟨hc,hf⟩:=jjT hb; have hs:=hb.size; simp at hs)
 have hc0:∀ g:Grew w',g.at_.cell? ⟨W.heap.size,0,none⟩=some (.int .i64 x0):=fun g=>jcB g (by omega) (by simp [hc])
 have hc1:∀ g:Grew w',g.at_.cell? ⟨W.heap.size,1,none⟩=some (.int .i64 y0):=fun g=>jcB g (by omega) (by simp [hc])
 have hc2:∀ g:Grew w',g.at_.cell? ⟨W.heap.size,2,none⟩=some (.int .i64 x1):=fun g=>jcB g (by omega) (by simp [hc])
 have hc3:∀ g:Grew w',g.at_.cell? ⟨W.heap.size,3,none⟩=some (.int .i64 y1):=fun g=>jcB g (by omega) (by simp [hc])
 refine pM (by kernel_rfl) (by kernel_rfl) ?_
 repeat (first | go_big_quiet_step ((go_at_call 128; exact pC (dO _ _ _ _ (by omega) _))) | quiet_step ((go_at_call 128; exact pC (dO _ _ _ _ (by omega) _))))
 refine wpQuiet_nil ?_
 rintro _ ⟨g,rfl⟩
 go_wp2
 go_ret
 exact ⟨rfl,(((Below.refl _ _).alloc (Nat.le_refl _) _).trans (hb.mono (by simp))).trans (g.below.mono (by omega))⟩
theorem jdE (n:Int) (h:0<=n) (h':n < 1048576):bits .andNot .i64 n 15=n - n % 16:=by
 obtain ⟨k,rfl⟩:=Int.eq_ofNat_of_zero_le h
 have hk:k < 1048576:=by omega
 have e1:k &&& 18446744073709551600=k / 16 * 16:=by
  have e2:(18446744073709551600:Nat)=(2 ^ 60 - 1) <<< 4:=by decide
  have e3:k / 16 * 16=(k >>> 4) <<< 4:=by rw [Nat.shiftRight_eq_div_pow,Nat.shiftLeft_eq]
  rw [e2,e3]
  apply Nat.eq_of_testBit_eq
  intro i
  rw [Nat.testBit_and,Nat.testBit_shiftLeft,Nat.testBit_shiftLeft,Nat.testBit_two_pow_sub_one,Nat.testBit_shiftRight]
  by_cases h4:i >= 4
  ·have:4+(i - 4)=i:=by omega
   rw [this]
   by_cases h64:i - 4 < 60
   ·simp [h4,h64]
   ·have:k.testBit i=false:=Nat.testBit_lt_two_pow (Nat.lt_of_lt_of_le hk (by
     have:2 ^ 20<=2 ^ i:=Nat.pow_le_pow_right (by omega) (by omega)
     omega))
    simp [this]
  ·simp [h4]
 show IntKind.i64.wrap ((BitVec.ofInt 64 (k:Int) &&& ~~~ BitVec.ofInt 64 (15:Int)).toNat:Int)=_
 rw [BitVec.toNat_and,BitVec.toNat_not]
 have e4:(BitVec.ofInt 64 (k:Int)).toNat=k:=by rw [BitVec.ofInt_natCast,BitVec.toNat_ofNat]; exact Nat.mod_eq_of_lt (by omega)
 have e5:2 ^ 64 - 1 - (BitVec.ofInt 64 (15:Int)).toNat=18446744073709551600:=by decide
 rw [e4,e5,e1,IntKind.wrap_i64]
 omega
theorem jfF (n:Int) (h:0<=n) (h':n < 1048576) (W:World) :
  Calls Tryz.prog 162 #[.int .i64 n] W fun r W'=>r=.returned (.int .i64 (n - n % 16))/\W=W':=by
 have hf:=Lib.hid (jdE n h h')
 go_enter Tryz.func162,Tryz.ntmps162
 go_wp2
 go_ret
 exact ⟨by rw [hf.out]; rfl,rfl⟩
end
section
open Go.RowKit
theorem ji2 (x0 y0 x1 y1 i:Int) (h:0<=x0/\x0<=x1/\x1 < 1024/\0<=y0/\y0<=y1/\y1 < 1024) (hi:0<=i) (hi':i < (x1 - x0+1) * (y1 - y0+1)) (W:World) :
  Calls Tryz.prog 85 #[.agg #[.int .i64 x0,.int .i64 y0,.int .i64 x1,.int .i64 y1],.int .i64 i] W fun r W' =>
   r=.returned (.tuple #[.agg #[.int .i64 (x0+i % (x1 - x0+1)),.int .i64 (y0+i / (x1 - x0+1))],.bool true])/\Below W.heap.size W W':=by
 have hin:yQ i ((x1 - x0+1) * (y1 - y0+1))=true:=by simp [yQ,hi,hi']
 obtain ⟨h1,h2,h3,h4,h5,h6⟩:=h
 obtain ⟨m1,m2⟩:=jcQ (x1 - x0+1) (y1 - y0+1) (by omega) (by omega) (by omega) (by omega)
 have d1:0<=i / (x1 - x0+1):=Int.ediv_nonneg hi (by omega)
 have d2:i / (x1 - x0+1)<=1048576:=Int.le_trans (Int.ediv_le_self _ hi) (by omega)
 have d3:0<=i % (x1 - x0+1):=Int.emod_nonneg _ (by omega)
 have d4:i % (x1 - x0+1) < x1 - x0+1:=Int.emod_lt_of_pos _ (by omega)
 go_enter Tryz.func85,Tryz.ntmps85
 go_wp2_with (first
  | (go_at_call 62; refine (jcR _ _ _ _ (by omega) _).mono ?_; rintro e w' ⟨rfl,hb⟩; obtain ⟨hc,hf⟩:=jjT hb; have hs:=hb.size; simp at hs)
  | (go_at_call 149; refine (mN _ _ _).mono ?_; rintro e w1 ⟨rfl,rfl⟩))
 have hc0:∀ g:Grew w',g.at_.cell? ⟨W.heap.size,0,none⟩=some (.int .i64 x0):=fun g=>sZ g hb (by first | (simp; done) | (simp; omega)) (by simp)
 have hc1:∀ g:Grew w',g.at_.cell? ⟨W.heap.size,1,none⟩=some (.int .i64 y0):=fun g=>sZ g hb (by first | (simp; done) | (simp; omega)) (by simp)
 have hc2:∀ g:Grew w',g.at_.cell? ⟨W.heap.size,2,none⟩=some (.int .i64 x1):=fun g=>sZ g hb (by first | (simp; done) | (simp; omega)) (by simp)
 have hc3:∀ g:Grew w',g.at_.cell? ⟨W.heap.size,3,none⟩=some (.int .i64 y1):=fun g=>sZ g hb (by first | (simp; done) | (simp; omega)) (by simp)
 have hd0:∀ g:Grew w',g.at_.cell? ⟨W.heap.size+1,0,none⟩=some (.int .i64 0):=fun g=>sZ g hb (by first | (simp; done) | (simp; omega)) (by simp)
 have hd1:∀ g:Grew w',g.at_.cell? ⟨W.heap.size+1,1,none⟩=some (.int .i64 0):=fun g=>sZ g hb (by first | (simp; done) | (simp; omega)) (by simp)
 have hz0:∀ g:Grew w',g.at_.frozen? ⟨W.heap.size+1,0,none⟩=false:=fun g=>jcA g hb (by first | (simp; done) | (simp; omega)) (by simp [go_sem])
 have hz1:∀ g:Grew w',g.at_.frozen? ⟨W.heap.size+1,1,none⟩=false:=fun g=>jcA g hb (by first | (simp; done) | (simp; omega)) (by simp [go_sem])
 refine cM [0,1,2,3,4,5,6,7,8,9,10,11,12,13,14] [15,16] (by kernel_rfl) (by kernel_rfl) ?_
 simp only [j6,List.drop_succ_cons,List.drop_zero]
 repeat (first | go_big_quiet_step ((go_at_call 128; exact pC (dO _ _ _ _ (by omega) _))) | quiet_step ((go_at_call 128; exact pC (dO _ _ _ _ (by omega) _))))
 refine wpQuiet_nil ?_
 rintro _ ⟨g,rfl⟩
 go_wp2
 refine bodyPost_ret (v:=.tuple #[.agg #[.int .i64 (x0+i % (x1 - x0+1)),.int .i64 (y0+i / (x1 - x0+1))],.bool true]) (by simp [results,Tryz.results85,go_sem,hd0,hd1]) rfl ⟨rfl,?_⟩
 have hbsz0:=hb.size
 try simp only [World.size_alloc,Grew.at_] at hbsz0
 have hbsz1:=g.below.size
 try simp only [World.size_alloc,Grew.at_] at hbsz1
 repeat (first | exact Below.refl _ _ | refine Below.setCell ?_ (by first | omega | (simp; done) | (simp; omega) | (simp at *; omega)) _ | refine Below.drew ?_ | refine Below.alloc ?_ (by first | omega | (simp; done) | (simp; omega) | (simp at *; omega)) _ | refine Below.trans ?_ (Below.mono hb (by first | omega | (simp; done) | (simp; omega) | (simp at *; omega))) | refine Below.trans ?_ (Below.mono g.below (by first | omega | (simp; done) | (simp; omega) | (simp at *; omega))))
end
section
open Go.RowKit
def yK (v:Value) (w:World):Value->World->Prop:=fun v' w'=>v'=v/\Gr w w'
theorem zI (x0 y0 x1 y1 w h:Int) (hw:-9223372036854775808 < w/\w<=9223372036854775807) (hh:-9223372036854775808 < h/\h<=9223372036854775807) (W:World) :
  Fn Tryz.prog 102 [.agg #[.int .i64 x0,.int .i64 y0,.int .i64 x1,.int .i64 y1],.int .i64 w,.int .i64 h] W (yK (.int .i64 (kD x0 y0 x1 y1 w h)) W) :=
 kG (by kernel_rfl) (pO x0 y0 x1 y1 w h hw.1 hw.2 hh.1 hh.2 W)
theorem vW (x0 y0 x1 y1:Int) (W:World):Fn Tryz.prog 127 [.agg #[.int .i64 x0,.int .i64 y0,.int .i64 x1,.int .i64 y1]] W (yK (.bool (uQ x0 y0 x1 y1)) W) :=
 kG (by kernel_rfl) (l4 x0 y0 x1 y1 W)
theorem fK (x0 y0 x1 y1:Int) (h:0<=x0/\x0<=x1/\x1 < 1024/\0<=y0/\y0<=y1/\y1 < 1024) (W:World):Fn Tryz.prog 62 [.agg #[.int .i64 x0,.int .i64 y0,.int .i64 x1,.int .i64 y1]] W (yK (.int .i64 ((x1 - x0+1) * (y1 - y0+1))) W) :=
 kG (by kernel_rfl) (jcR x0 y0 x1 y1 h W)
theorem jep (n:Int) (h:0<=n/\n < 1048576) (W:World):Fn Tryz.prog 162 [.int .i64 n] W (yK (.int .i64 (n - n % 16)) W) :=
 kG (by kernel_rfl) ((jfF n h.1 h.2 W).mono fun _ _ ⟨h,hw⟩=>⟨h,by subst hw; exact Gr.refl _⟩)
def cR (x0 y0 x1 y1 x y:Int):List Value:=[.int .i64 (max x x0),.int .i64 (max y y0),.int .i64 (min (x+16 - 1) x1),.int .i64 (min (y+16 - 1) y1)]
def lE (x0 y0 x1 y1 y:Int) (k:Nat):List Value:=(List.range k).flatMap fun (i:Nat)=>cR x0 y0 x1 y1 (x0 - x0 % 16+16 * (i:Int)) y
def j4 (a b:Int):Nat:=(b / 16 - a / 16+1).toNat
def vF (x0 y0 x1 y1:Int) (k:Nat):List Value:=(List.range k).flatMap fun (j:Nat)=>lE x0 y0 x1 y1 (y0 - y0 % 16+16 * (j:Int)) (j4 x0 x1)
theorem jeV (x0 y0 x1 y1 y:Int) (k:Nat):lE x0 y0 x1 y1 y (k+1)=lE x0 y0 x1 y1 y k ++ cR x0 y0 x1 y1 (x0 - x0 % 16+16 * (k:Int)) y:=by
 simp [lE,List.range_succ]
theorem jaZ (x0 y0 x1 y1:Int) (k:Nat):vF x0 y0 x1 y1 (k+1)=vF x0 y0 x1 y1 k ++ lE x0 y0 x1 y1 (y0 - y0 % 16+16 * (k:Int)) (j4 x0 x1):=by
 simp [vF,List.range_succ]
theorem gH (a b:Int) (k:Nat) (h0:0<=a) (h:a<=b):k < j4 a b ↔ a - a % 16+16 * (k:Int)<=b:=by
 unfold j4; omega
theorem bC (a b:Int) (h0:0<=a) (h:a<=b) (hb:b < 1024):1<=j4 a b/\j4 a b<=64:=by
 unfold j4; omega
theorem jfw:(Tryz.prog.info? 27).map (fun i=>(i.zero,i.size,i.bytes))=some (some (.agg #[.int .i64 0,.int .i64 0,.int .i64 0,.int .i64 0]),4,32):=by kernel_rfl
def jkU (el size n:Nat) (xs:List Value) (w:World):Value->World->Prop:=fun v' w'=>∃ A c,v'=.slice A n c/\Own w' w.heap.size el size A n c xs/\Gr w w'
theorem jg4 (x0 y0 x1 y1:Int) (h:0<=x0/\x0<=x1/\x1 < 1024/\0<=y0/\y0<=y1/\y1 < 1024) (W:World) :
  Fn Tryz.prog 103 [.agg #[.int .i64 x0,.int .i64 y0,.int .i64 x1,.int .i64 y1]] W (jkU 27 4 (j4 y0 y1 * j4 x0 x1) (vF x0 y0 x1 y1 (j4 y0 y1)) W):=by
 have hr:uQ x0 y0 x1 y1=true:=(vO _ _ _ _).2 h
 obtain ⟨h1,h2,h3,h4,h5,h6⟩:=h
 obtain ⟨hx1,hx2⟩:=bC x0 x1 h1 h2 h3
 obtain ⟨hy1,hy2⟩:=bC y0 y1 h4 h5 h6
 refine kK Tryz.func103 rfl Tryz.results103 Tryz.ntmps103 (by kernel_rfl) (by kernel_rfl) ?_
 repeat refine jJ ?_
 refine jI ?_
 refine gA (jO rfl) ?_
 intro w1_ g1_ s1_ b1_
 refine jE (jA rfl) ?_
 first | refine jR ?_ | (refine jG ?_; show CW _ _ _ _ _ _) | refine jG ?_
 repeat refine jJ ?_
 refine jI ?_
 refine j3 (jT Tryz.underlying27 rfl (Tryz.sizeOf27 _) rfl b1_ rfl rfl) ?_
 refine jC rfl (vW x0 y0 x1 y1 _) ?_
 rintro _ w2 ⟨rfl,g2⟩
 have b1_:=b1_.gr g2
 refine jE (jA rfl) ?_
 first | refine jR ?_ | (refine jG ?_; show CW _ _ _ _ _ _) | refine jG ?_
 repeat refine jJ ?_
 refine jM (by rw [hr]; rfl) ?_
 refine j5 ?_
 try show CW _ _ _ _ _ _
 repeat refine jJ ?_
 refine jI ?_
 refine jE (jA rfl) ?_
 first | refine jR ?_ | (refine jG ?_; show CW _ _ _ _ _ _) | refine jG ?_
 repeat refine jJ ?_
 refine jI ?_
 refine jE (jD Tryz.underlying27 rfl Tryz.sizeOf2 rfl rfl) ?_
 refine j3 (jB Tryz.underlying2 rfl rfl b1_ rfl) ?_
 refine jC rfl (jep y0 (by omega) _) ?_
 rintro _ w3 ⟨rfl,g3⟩
 have b1_:=b1_.gr g3
 refine jE (jA rfl) ?_
 first | refine jR ?_ | (refine jG ?_; show CW _ _ _ _ _ _) | refine jG ?_
 have bz:=b1_
 repeat refine jJ ?_
 refine jS ?_
 refine j9 (fun m e w=>∃ (j:Nat) (A:Option Addr) (c:Nat),j+m=j4 y0 y1/\SL e [(1,.pointer (some ⟨W.heap.size,0,none⟩)),(3,.slice A (j * j4 x0 x1) c),(4,.int .i64 (y0 - y0 % 16+16 * (j:Int)))] /\
  Own w w3.heap.size 27 4 A (j * j4 x0 x1) c (vF x0 y0 x1 y1 j)/\Gr w3 w) (j4 y0 y1) ⟨0,none,0,by omega,⟨rfl,se (by omega) rfl,ie (by omega),trivial⟩,by simpa [vF] using Own.nil _ _ _ _,Gr.refl _⟩ ?_
 rintro m e w ⟨j,A,c,hm,hsl,hown,hg⟩
 rw [hsl.fold]
 have b1_:=b1_.gr hg
 repeat refine jJ ?_
 refine jI ?_
 refine jE (jA rfl) ?_
 refine jE (jD Tryz.underlying27 rfl Tryz.sizeOf2 rfl rfl) ?_
 refine j3 (jB Tryz.underlying2 rfl rfl b1_ rfl) ?_
 first | refine jE (yP (b:=true) rfl (decide_eq_true (by omega))) ?_ | refine jE (yP (b:=false) rfl (decide_eq_false (by omega))) ?_ | refine jE (jA rfl) ?_
 first | refine jR ?_ | (refine jG ?_; show CW _ _ _ _ _ _) | refine jG ?_
 repeat refine jJ ?_
 refine xI rfl (fun hc=>?_) (fun hc=>?_)
 ·refine j5 ?_
  try show CW _ _ _ _ _ _
  have hlt:j < j4 y0 y1:=(gH y0 y1 j h4 h5).2 (by simpa using hc)
  have hle:=(gH y0 y1 j h4 h5).1 hlt
  repeat refine jJ ?_
  refine jS ?_
  repeat refine jJ ?_
  refine jI ?_
  refine jE (jD Tryz.underlying27 rfl Tryz.sizeOf2 rfl rfl) ?_
  refine j3 (jB Tryz.underlying2 rfl rfl b1_ rfl) ?_
  refine jC rfl (jep x0 (by omega) _) ?_
  rintro _ w4 ⟨rfl,g4⟩
  have b1_:=b1_.gr g4
  refine jE (jA rfl) ?_
  first | refine jR ?_ | (refine jG ?_; show CW _ _ _ _ _ _) | refine jG ?_
  repeat refine jJ ?_
  refine jS ?_
  refine j9 (fun m e w'=>∃ (k:Nat) (A:Option Addr) (c:Nat),k+m=j4 x0 x1/\SL e [(1,.pointer (some ⟨W.heap.size,0,none⟩)),(3,.slice A (j * j4 x0 x1+k) c),(4,.int .i64 (y0 - y0 % 16+16 * (j:Int))),(5,.int .i64 (x0 - x0 % 16+16 * (k:Int)))] /\
   Own w' w3.heap.size 27 4 A (j * j4 x0 x1+k) c (vF x0 y0 x1 y1 j ++ lE x0 y0 x1 y1 (y0 - y0 % 16+16 * (j:Int)) k)/\Gr w3 w') (j4 x0 x1) ⟨0,A,c,by omega,⟨rfl,rfl,rfl,ie (by omega),trivial⟩,by simpa [lE] using hown.gr g4,hg.trans g4⟩ ?_
  rintro m' e' w' ⟨k,A',c',hm',hsl',hown',hg'⟩
  rw [hsl'.fold]
  have b1_:=bz.gr hg'
  have G0:=Gr.refl w'
  have hl3:=bz.lt
  have hl4:=hg'.le
  repeat refine jJ ?_
  refine jI ?_
  refine jE (jA rfl) ?_
  refine jE (jD Tryz.underlying27 rfl Tryz.sizeOf2 rfl rfl) ?_
  refine j3 (jB Tryz.underlying2 rfl rfl b1_ rfl) ?_
  first | refine jE (yP (b:=true) rfl (decide_eq_true (by omega))) ?_ | refine jE (yP (b:=false) rfl (decide_eq_false (by omega))) ?_ | refine jE (jA rfl) ?_
  first | refine jR ?_ | (refine jG ?_; show CW _ _ _ _ _ _) | refine jG ?_
  repeat refine jJ ?_
  refine xI rfl (fun hc'=>?_) (fun hc'=>?_)
  ·refine j5 ?_
   try show CW _ _ _ _ _ _
   have hlt':k < j4 x0 x1:=(gH x0 x1 k h1 h2).2 (by simpa using hc')
   have hle':=(gH x0 x1 k h1 h2).1 hlt'
   have hjn:j * j4 x0 x1<=64 * 64:=Nat.mul_le_mul (by omega) hx2
   repeat refine jJ ?_
   refine jS ?_
   repeat refine jJ ?_
   refine jI ?_
   refine jE (jA rfl) ?_
   refine jE (jD Tryz.underlying27 rfl Tryz.sizeOf2 rfl rfl) ?_
   refine j3 (jB Tryz.underlying2 rfl rfl b1_ rfl) ?_
   iterate 2 refine jE (jA rfl) ?_
   refine jE (jD Tryz.underlying27 rfl Tryz.sizeOf2 rfl rfl) ?_
   refine j3 (jB Tryz.underlying2 rfl rfl b1_ rfl) ?_
   iterate 2 refine jE (jA rfl) ?_
   refine jE (yI rfl (by omega)) ?_
   refine jE (yI rfl (by omega)) ?_
   refine jE (jD Tryz.underlying27 rfl Tryz.sizeOf2 rfl rfl) ?_
   refine j3 (jB Tryz.underlying2 rfl rfl b1_ rfl) ?_
   iterate 2 refine jE (jA rfl) ?_
   refine jE (yI rfl (by omega)) ?_
   refine jE (yI rfl (by omega)) ?_
   refine jE (jD Tryz.underlying27 rfl Tryz.sizeOf2 rfl rfl) ?_
   refine j3 (jB Tryz.underlying2 rfl rfl b1_ rfl) ?_
   refine jE (jA rfl) ?_
   refine jE (jN (pl:=[(0,1),(1,1),(2,1),(3,1)]) Tryz.underlying27 Tryz.zeroValue27 (fun w=>by kernel_rfl) rfl rfl) ?_
   try have qb2_:=b1_.lt
   try have qb2_:=G0.le
   refine gA (jL Tryz.zeroValue27 rfl) ?_
   intro w2_ g2_ s2_ b2_
   have b1_:=b1_.gr g2_
   have G0:=G0.trans g2_
   refine sJ (n:=4) (Tryz.sizeOf27 _) rfl rfl rfl b2_ rfl rfl ?_
   intro w3_ g3_ s3_ b3_
   have b1_:=b1_.grown g3_ (by first | (intro hh; simp only [Option.some.injEq] at hh; omega) | (intro hh; have:=Option.some.inj hh; omega) | exact fun hh=>absurd (Option.some.inj hh) (b1_.ne_ b2_ (by decide)))
   have G0:=G0.store g3_ (by omega)
   have b2_:=b3_
   first | refine jR ?_ | (refine jG ?_; show CW _ _ _ _ _ _) | refine jG ?_
   repeat refine jJ ?_
   refine jI ?_
   refine jE (jA rfl) ?_
   first | refine j3 (jT Tryz.underlying27 rfl (Tryz.sizeOf27 _) rfl b2_ rfl rfl) ?_ | refine j3 (jT Tryz.underlying27 rfl (Tryz.sizeOf27 _) rfl b1_ rfl rfl) ?_
   try have qb4_:=b1_.lt
   try have qb4_:=G0.le
   try have qb4_:=b2_.lt
   refine gA (k8 Tryz.underlying66 Tryz.sizeOf27 Tryz.zeroValue27 rfl rfl rfl rfl rfl) ?_
   intro w4_ g4_ s4_ b4_
   have b1_:=b1_.gr g4_
   have G0:=G0.trans g4_
   have b2_:=b2_.gr g4_
   refine jeR Tryz.underlying66 jfw rfl rfl rfl (hown'.gr G0) rfl b4_ rfl rfl (by omega) (by have:=G0.le; omega) ?_
   intro A2 c2 w5 hown5 hb5 hg5
   refine jE (jA rfl) ?_
   first | refine jR ?_ | (refine jG ?_; show CW _ _ _ _ _ _) | refine jG ?_
   repeat refine jJ ?_
   refine jI ?_
   refine jE (jA rfl) ?_
   refine jE (yI rfl (by omega)) ?_
   refine jE (jA rfl) ?_
   first | refine jR ?_ | (refine jG ?_; show CW _ _ _ _ _ _) | refine jG ?_
   refine ⟨m' - 1,by omega,k+1,A2,c2,by omega,⟨rfl,rfl,rfl,ie (by omega),trivial⟩,?_,(hg'.trans G0).below hb5 (Nat.le_refl _)⟩
   rw [jeV,<-List.append_assoc]
   exact hown5
  ·refine jY ?_
   show CW _ _ _ _ _ _
   have hk:k=j4 x0 x1:=by have:=mt (gH x0 x1 k h1 h2).1; simp at hc'; omega
   subst hk
   repeat refine jJ ?_
   refine jI ?_
   refine jE (jA rfl) ?_
   refine jE (yI rfl (by omega)) ?_
   refine jE (jA rfl) ?_
   first | refine jR ?_ | (refine jG ?_; show CW _ _ _ _ _ _) | refine jG ?_
   have hmul:j * j4 x0 x1+j4 x0 x1=(j+1) * j4 x0 x1:=(Nat.succ_mul _ _).symm
   refine ⟨m - 1,by omega,j+1,A',c',by omega,⟨rfl,se hmul rfl,ie (by omega),trivial⟩,?_,hg'⟩
   rw [jaZ,<-hmul]
   exact hown'
 ·refine jY ?_
  show CW _ _ _ _ _ _
  repeat refine jJ ?_
  refine jI ?_
  iterate 2 refine jE (jA rfl) ?_
  first | refine jR ?_ | (refine jG ?_; show CW _ _ _ _ _ _) | refine jG ?_
  have hj:j=j4 y0 y1:=by have:=mt (gH y0 y1 j h4 h5).1; simp at hc; omega
  subst hj
  refine kO ?_
  exact yD rfl ⟨_,_,rfl,hown.base ((g1_.trans (g2.trans g3)).le),g1_.trans (g2.trans (g3.trans hg))⟩
end
section
open Go.RowKit
def Rd (w:World) (A:Option Addr) (xs:List Value):Prop:=xs=[]\/∃ b o,A=some ⟨b,o,none⟩/\b < w.heap.size/\∀ (j:Nat) v,xs[j]?=some v->w.cell? ⟨b,o+j,none⟩=some v
def R1 (w:World) (el:TypeId) (v:Value) (xs:List Value):Prop:=w.ownsRow 0 el 1 v xs.length xs
structure Fr (F:Nat->Prop) (w w':World):Prop where
 os:w'.os=w.os
 tape:w'.tape=w.tape
 output:w'.output=w.output
 size:w.heap.size<=w'.heap.size
 block:∀ g,g < w.heap.size->¬ F g->w'.heap[g]?=w.heap[g]?
section
variable {w w' w0 : World} {F F' : Nat → Prop}
theorem Fr.refl (F:Nat->Prop) (w:World):Fr F w w:=⟨rfl,rfl,rfl,Nat.le_refl _,fun _ _ _=>rfl⟩
theorem Fr.of_gr (h:Gr w w'):Fr F w w':=⟨h.os,h.tape,h.output,h.size,fun g hg _=>h.block g hg⟩
theorem Fr.of_grown {row:Option Nat} (h:w.grownBy w' row) (hF:∀ g,row=some g->F g):Fr F w w':=⟨h.os,h.tape,h.output,h.size,fun g hg hn=>h.block g hg (fun e=>hn (hF g e.symm))⟩
theorem Fr.trans (h:Fr F w0 w) (k:Fr F' w w') (hF:∀ g,F' g->F g\/w0.heap.size<=g):Fr F w0 w' :=
 ⟨k.os.trans h.os,k.tape.trans h.tape,k.output.trans h.output,Nat.le_trans h.size k.size,fun g hg hn=>(k.block g (Nat.lt_of_lt_of_le hg h.size) (fun e=>(hF g e).elim hn (fun h=>by omega))).trans (h.block g hg hn)⟩
theorem Fr.weak (h:Fr F w w') (hF:∀ g,F g->F' g):Fr F' w w':=⟨h.os,h.tape,h.output,h.size,fun g hg hn=>h.block g hg (fun e=>hn (hF g e))⟩
theorem Fr.gr (h:Fr F w w') (hF:∀ g,F g->w.heap.size<=g):Gr w w':=(World.grownBy.mk h.os h.tape h.output h.size (fun g hg (_:some g ≠ none)=>h.block g hg (fun e=>by have:=hF g e; omega)):w.grownBy w' none) |> Gr.of_grown
theorem Fr.then_gr (h:Fr F w0 w) (g:Gr w w'):Fr F w0 w':=h.trans (Fr.of_gr (F:=fun _=>False) g) (fun _ h=>h.elim)
theorem Blk.fr {b:Nat} {t:TypeId} {l:List Value} (h:Blk w b t l) (k:Fr F w w') (hn:¬ F b):Blk w' b t l:=(k.block b h.lt hn).trans h
end
section
variable {w w' : World} {el : TypeId} {v : Value} {xs : List Value}
theorem R1.form (h:R1 w el v xs):(v=.slice none 0 0/\xs=[])\/∃ g c l,v=.slice (some ⟨g,0,none⟩) xs.length c/\Blk w g el l/\xs.length<=c/\l.length=c/\l.take xs.length=xs:=by
 rcases h.2 with ⟨rfl,h2⟩ | ⟨g,cap,cur,hv,_,hh,hnc,_,hsz,ht⟩
 ·exact .inl ⟨rfl,List.eq_nil_of_length_eq_zero h2⟩
 ·exact .inr ⟨g,cap,cur.toList,hv,by unfold Blk; simpa using hh,hnc,by simpa using hsz,by simpa using ht⟩
theorem R1.slice (h:R1 w el v xs):∃ A c,v=.slice A xs.length c:=by
 rcases h.form with ⟨rfl,rfl⟩ | ⟨g,c,l,rfl,_⟩
 ·exact ⟨_,_,rfl⟩
 ·exact ⟨_,_,rfl⟩
theorem R1.keep (h:R1 w el v xs) (hk:∀ g,v.ownBlock=some g->w'.heap[g]?=w.heap[g]?):R1 w' el v xs:=by
 obtain ⟨h1,h2⟩:=h
 refine ⟨h1,?_⟩
 rcases h2 with h2 | ⟨g,cap,cur,rfl,hg,hh,r⟩
 ·exact .inl h2
 ·exact .inr ⟨g,cap,cur,rfl,hg,(hk g rfl).trans hh,r⟩
theorem R1.lt (h:R1 w el v xs) {g:Nat} (hg:v.ownBlock=some g):g < w.heap.size:=by
 rcases h.form with ⟨rfl,_⟩ | ⟨g',c,l,rfl,hB,_⟩
 ·cases hg
 ·injection hg with hg; subst hg; exact hB.lt
theorem R1.fr {F:Nat->Prop} (h:R1 w el v xs) (k:Fr F w w') (hn:∀ g,v.ownBlock=some g->¬ F g):R1 w' el v xs:=h.keep fun g hg=>k.block g (h.lt hg) (hn g hg)
theorem R1.gr (h:R1 w el v xs) (k:Gr w w'):R1 w' el v xs:=h.keep fun g hg=>k.block g (h.lt hg)
theorem R1.rd {A:Option Addr} {n c:Nat} (h:R1 w el (.slice A n c) xs):Rd w A xs:=by
 rcases h.form with ⟨hv,rfl⟩ | ⟨g,c',l,hv,hB,hc,hl,ht⟩
 ·exact .inl rfl
 ·injection hv with hA
  refine .inr ⟨g,0,hA,hB.lt,fun j v hj=>?_⟩
  rw [Nat.zero_add]
  refine hB.cellv ?_
  rw [<-ht,List.getElem?_take] at hj
  split at hj
  ·exact hj
  ·cases hj
theorem R1.nil (w:World) (el:TypeId):R1 w el (.slice none 0 0) []:=World.ownsRow_nil _ _ _ _
theorem R1.new (w:World) (el:TypeId) (l:List Value) (hn:l.length<=maxLen):R1 (w.alloc (.cells l.toArray el)) el (.slice (some ⟨w.heap.size,0,none⟩) l.length l.length) l :=
 ⟨by simp,.inr ⟨w.heap.size,l.length,l.toArray,rfl,by omega,heap_alloc_new w _,Nat.le_refl _,hn,by simp,by simp⟩⟩
theorem R1.of_blk {g:Nat} {l:List Value} (hB:Blk w g el l) (hn:l.length<=maxLen):R1 w el (.slice (some ⟨g,0,none⟩) l.length l.length) l :=
 ⟨by simp,.inr ⟨g,l.length,l.toArray,rfl,by omega,hB,Nat.le_refl _,hn,by simp,by simp⟩⟩
theorem Rd.fr {F:Nat->Prop} {A:Option Addr} (h:Rd w A xs) (k:Fr F w w') (hn:∀ a,A=some a->¬ F a.block):Rd w' A xs:=by
 rcases h with h | ⟨b,o,rfl,hb,h⟩
 ·exact .inl h
 ·exact .inr ⟨b,o,rfl,Nat.lt_of_lt_of_le hb k.size,fun j v hj=>by rw [World.cell?_of_block (w:=w) (a:=⟨b,o+j,none⟩) (k.block b hb (hn ⟨b,o,none⟩ rfl))]; exact h j v hj⟩
theorem Rd.gr {A:Option Addr} (h:Rd w A xs) (k:Gr w w'):Rd w' A xs:=h.fr (Fr.of_gr (F:=fun _=>False) k) (fun _ _ h=>h)
end
section
variable {P : Program} {ops : Array Oper} {Q : (Nat → Value) → World → Prop} {e : Nat → Value} {w : World} {rest : List Oper}
variable {d : Option Tmp} {ty : TypeId} {ps : String} {af : Array Edge}
theorem cL {t el:TypeId} {x i:Operand} {b o len k:Nat} {kd:IntKind} {n:Int} (hu:P.underlying t=some (.array len el)) (hz:∀ w,(sizeOf el).run P w=.ok k w) (hx:ev e x=.pointer (some ⟨b,o,none⟩)) (hi:ev e i=.int kd n) (h0:0<=n) (h1:n < len) :
  OpV P e ⟨d,.indexAddr t x i,ty,ps,af,none⟩ (.pointer (some ⟨b,o+n.toNat * k,none⟩)):=by
 intro w
 simp [OpR,execOp,hx,hi,Instr.indexAt,Instr.sureAddr,asIntOf,run_underlying hu,hz,h0,h1,kF]
theorem jal {t el:TypeId} {x i:Operand} {len k:Nat} {kd:IntKind} {n:Int} {cs:List Value} {dd:TypeDesc} {v:Value} (hu:P.underlying t=some (.array len el)) (hd:P.underlying el=some dd) (hz:∀ w,(sizeOf el).run P w=.ok k w) (ha:fL dd=false) (hx:ev e x=.agg cs.toArray) (hi:ev e i=.int kd n) (h0:0<=n) (h1:n < len)
  (hv:cs[n.toNat * k]?=some v):OpV P e ⟨d,.index t x i,ty,ps,af,none⟩ v:=by
 intro w
 simp [OpR,execOp,hx,hi,Instr.index,asIntOf,run_underlying hu,hz,h0,h1,part,xK hd,ha,hv]
theorem bM {t t' te:TypeId} {x:Operand} {a:Option Addr} {n c:Nat} {B:Bool} (hu:P.underlying t=some (.slice te)) (hx:ev e x=.slice a n c) (hB:a.isNone=B):OpV P e ⟨d,.binOp .eql t x (.const (.slice none 0 0)) t',ty,ps,af,none⟩ (.bool B):=by
 intro w
 subst hB
 have h2:ev e (.const (.slice none 0 0))=.slice none 0 0:=rfl
 have h3:∀ n':Nat,(Op.equalIn (n'+1) t (.slice a n c) (.slice none 0 0)).run P w=.ok a.isNone w:=fun n'=>by
  unfold Op.equalIn
  cases a <;> simp [run_underlying hu]
 have h4:(Op.equal t (.slice a n c) (.slice none 0 0)).run P w=.ok a.isNone w:=h3 9999
 cases a <;> simp [OpR,execOp,hx,h2,eqGuard,binOp,h4]
theorem nY {t t' te:TypeId} {x:Operand} {a:Option Addr} {B:Bool} (hu:P.underlying t=some (.pointer te)) (hx:ev e x=.pointer a) (hB:a.isSome=B):OpV P e ⟨d,.binOp .neq t x (.const (.pointer none)) t',ty,ps,af,none⟩ (.bool B):=by
 intro w
 subst hB
 have h2:ev e (.const (.pointer none))=.pointer none:=rfl
 have h3:∀ n:Nat,(Op.equalIn (n+1) t (.pointer a) (.pointer none)).run P w=.ok a.isNone w:=fun n=>by
  unfold Op.equalIn
  cases a <;> simp [run_underlying hu]
 have h4:(Op.equal t (.pointer a) (.pointer none)).run P w=.ok a.isNone w:=h3 9999
 cases a <;> simp [OpR,execOp,hx,h2,eqGuard,binOp,h4]
theorem jfj {t el:TypeId} {k:Nat} (hu:P.underlying t=some (.slice el)) (hs:∀ w,(sizeOf el).run P w=.ok k w) :
  (execOp (ev e) ⟨d,.buildSlice t 0 #[],ty,ps,af,none⟩).run P w=.ok (.value (.slice (some ⟨w.heap.size,0,none⟩) 0 0)) (w.alloc (.cells ([]:List Value).toArray el)):=by
 have h0:Array.range 0=#[]:=Array.eq_empty_of_size_eq_zero (by simp)
 simp [execOp,Instr.buildSlice,run_underlying hu,hs,newRow,Instr.fill,h0]
def c8 (bs:List Int):List Value:=bs.map (Value.int .u8)
end
end
end Go.Proofs.YtipnifjmhlcehaaGreatDoor
