/- A part of the proof that hachuretop.WholeCharts and hachuretop.WholeWater returns true at every input; no condition. -/
import Derived.Test.YtcalhocphkbbgaaGreatDoorKA
import Derived.Laws.BytesString
set_option maxRecDepth 100000
set_option maxHeartbeats 16000000
set_option linter.unusedVariables false
set_option linter.unusedSimpArgs false
namespace Go.Proofs.YtcalhocphkbbgaaGreatDoor
open Go.Proofs.Tryz Go.RowKit
variable{Qq:(Nat->Value)->Prop}{Q:(Nat->Value)->World->Prop}{listed:Array Bool}{af:Array Edge}{fs:Array Field}{ops:Array Oper}{tys:Array TypeId}{Q':Exit->Act->World->Prop}{fd:Field}{f:FuncId}{a a':Int}{kc kh kl:IntKind}{σ:List (Nat × Value)}{K K' Lq:List (Nat × Value)->Act->Prop}{df:List Deferred}{hd:List Nat}{args:List Operand}{l l' vs xs ys τ:List Value}{Qs:List Value->(Nat->Value)->Prop}{N b b' bytes c c2 cur el g i j k lh m n n' p q size t2 tb tb':Nat}{sp:Nat->Bool}{c':Nat->Int}{bs o':Nat->Nat}{F F' X:Nat->Prop}{e:Nat->Value}{op:Op}{hi lo x:Operand}{A B l0:Option Addr}{ro:Option Nat}{d:Option Tmp}{P:Program}{G G' G1:Prop}{H α:Type}{dd:TypeDesc}{t t' te ts ty:TypeId}{u:Value}{R:Value->World->Prop}{W w w' w0:World}{C:World->Prop}
section
variable{C:List Value->World->Prop}
def nl(P:Program)(o:Oper)(a:Act)(w:World)(R:Value->World->Prop):Prop :=
 match (execOp a.eval o).run P w with
 |.ok (.value u) w'=>R u w'
 |.ok .skip w'=>R undef w'
 |.ok (.enter f args) w'=>Calls P f args w' λen w''=>∃v,en=.returned v/\R v w''
 |_=>False
theorem yL{o:Oper}{a:Act}{K:Act->World->Prop}{Q:Exit->Act->World->Prop}(h:nl P o a w R)(y:∀v w',R v w'->K (a.put o.dst v) w'):o.wp P a w K Q:=by
 unfold Oper.wp;unfold nl at h;generalize (execOp a.eval o).run P w=r at *;cases r with
 |ok n w' =>
  cases n<;>simp only[Oper.upon]<;>first|exact h.elim|exact y _ _ h|skip
  case enter f args=>exact h.mono λD z⟨v,he,hn⟩=>by subst he;exact y _ _ hn
 |halt x w'=>exact h.elim
def gI(P:Program)(e:Nat->Value)(o:Oper)(w:World)(R:Value->World->Prop):Prop :=
 match (execOp (ev e) o).run P w with
 |.ok (.value u) w'=>R u w'
 |.ok .skip w'=>R undef w'
 |.ok (.enter f args) w'=>Calls P f args w' λen w''=>∃v,en=.returned v/\R v w''
 |_=>False
def kz(l:List Oper):List Nat->List (Nat×Oper)
 |[]=>[]
 |i::is=>match l.drop i with
  |o::_=>(i,o)::kz l is
  |[]=>kz l is
theorem Br(l:List Oper):∀is:List Nat,(is.all λi=>decide (i<l.length))=true->is.map (λi=>(i,l.toArray[i]?))=(kz l is).map λp=>(p.1,some p.2)
 |[],_=>rfl
 |i::is,h=>by
  simp only[kB,cM,decide_eq_true_eq]at h
  simp only[kz,dX h.1,iJ,Br l is h.2]
  simp[h.1]
inductive OT(α:Type)where
 |nil
 |one (i:α) (t:OT α)
 |two (i:α) (t:OT α) (j:α) (u:OT α)
def OT.path:OT Nat->List Nat
 |.nil=>[]
 |.one i t=>i::t.path
 |.two i t _ _=>i::t.path
def OT.allB(p:Nat->Bool):OT Nat->Bool
 |.nil=>true
 |.one i t=>p i&&t.allB p
 |.two i t j u=>p i&&t.allB p&&p j&&u.allB p
def OT.fit(ops:Array Oper):OT Nat->OT (Nat×Oper)->Prop
 |.nil,.nil=>True
 |.one i t,.one p u=>p.1=i/\ops[i]?=some p.2/\t.fit ops u
 |.two i t j u,.two p t' q u'=>p.1=i/\ops[i]?=some p.2/\t.fit ops t'/\q.1=j/\ops[j]?=some q.2/\u.fit ops u'
 |_,_=>False
def qK(l:List Oper):OT Nat->OT (Nat×Oper)
 |.nil=>.nil
 |.one i t=>match l.drop i with
  |o::_=>.one (i,o) (qK l t)
  |[]=>.nil
 |.two i t j u=>match l.drop i,l.drop j with
  |o::_,o'::_=>.two (i,o) (qK l t) (j,o') (qK l u)
  |_,_=>.nil
theorem xX(l:List Oper):∀t:OT Nat,t.allB (λi=>decide (i<l.length))=true->t.fit l.toArray (qK l t)
 |.nil,_=>trivial
 |.one i t,h=>by
  simp only[OT.allB,cM,decide_eq_true_eq]at h
  simp only[qK,dX h.1]
  exact⟨rfl,by simp[h.1],xX l t h.2⟩
 |.two i t j u,h=>by
  simp only[OT.allB,cM,decide_eq_true_eq]at h
  simp only[qK,dX h.1.1.1,dX h.1.2]
  exact⟨rfl,by simp[h.1.1.1],xX l t h.1.1.2,rfl,by simp[h.1.2],xX l u h.2⟩
def OT.chain:List Nat->OT Nat
 |[]=>.nil
 |i::r=>.one i (chain r)
def OT.dstB(N:Nat):OT (Nat×Oper)->Bool
 |.nil=>true
 |.one p t=>qI N p.2.dst&&t.dstB N
 |.two p t q u=>qI N p.2.dst&&t.dstB N&&qI N q.2.dst&&u.dstB N
theorem BX{l:List Oper}(hk:(l.all λo=>qI N o.dst)=true):∀(t:OT Nat)(lh:OT (Nat×Oper)),t.fit l.toArray lh->lh.dstB N=true
 |.nil,.nil,_=>rfl
 |.one i t,.one p u,h=>by
  simp only[OT.dstB,cM]
  exact⟨dh.1 hk p.2 (dD (by simpa using h.2.1)),BX hk t u h.2.2⟩
 |.two i t j u,.two p t' q u',h=>by
  simp only[OT.dstB,cM]
  exact⟨⟨⟨dh.1 hk p.2 (dD (by simpa using h.2.1)),BX hk t t' h.2.2.1⟩,dh.1 hk q.2 (dD (by simpa using h.2.2.2.2.1))⟩,BX hk u u' h.2.2.2.2.2⟩
 |.nil,.one _ _,h=>h.elim
 |.nil,.two _ _ _ _,h=>h.elim
 |.one _ _,.nil,h=>h.elim
 |.one _ _,.two _ _ _ _,h=>h.elim
 |.two _ _ _ _,.nil,h=>h.elim
 |.two _ _ _ _,.one _ _,h=>h.elim
end
namespace TI
section
variable{C:List (Nat × Value)->World->Prop}
def De(P:Program)(ops:Array Oper)(C:List (Nat×Value)->World->Prop)(sp:Nat->Bool)(i:Nat)(K:List (Nat×Value)->Act->Prop)(σ:List (Nat×Value))(a:Act):Prop :=
 match ops[i]? with
 |none=>K σ a
 |some o =>
  if Region.wanted o (yielded ops a.tmps)then
   match sp i with
   |true=>(∀w,C σ w->nl P o a w λv w'=>C ((i,v)::σ) w')/\∀v w',C ((i,v)::σ) w'->K ((i,v)::σ) (a.put o.dst v)
   |false=>∃v,(∀τ w,C τ w->nl P o a w λu w'=>u=v/\C τ w')/\K σ (a.put o.dst v)
  else K σ (a.put o.dst undef)
theorem Hx{a:Act}(h:∀σ a,K σ a->K' σ a)(y:De P ops C sp i K σ a):De P ops C sp i K' σ a:=by
 unfold De at *;split
 ·rename_i z;rw[z]at y;exact h _ _ y
 ·rename_i o z;rw[z]at y;dsimp only at y;split
  ·rename_i D;rw[if_pos D]at y;cases I:sp i with
   |true=>rw[I]at y;exact⟨y.1,λv w' J=>h _ _ (y.2 v w' J)⟩
   |false=>rw[I]at y;exact⟨y.choose,y.choose_spec.1,h _ _ y.choose_spec.2⟩
  ·rename_i D;rw[if_neg D]at y;exact h _ _ y
theorem IK(J:(ops.toList.all λo=>!vF o.op)=true){a:Act}{K':Act->World->Prop}(I:C σ w)(h:∀σ a w',C σ w'->K σ a->K' a w')(y:De P ops C sp i K σ a):wpOpIn (wF ro) 0 P ops Q' i K' a w:=by
 unfold De at y;unfold wpOpIn;split
 ·rename_i D;rw[D]at y;exact h _ _ _ I y
 ·rename_i o D;rw[D]at y;dsimp only at y;split
  ·rename_i z;rw[if_pos z]at y;refine Oper.wpIn_of_wp (Hd J D) ?_;cases L:sp i with
   |true=>rw[L]at y;exact yL (y.1 w I) λv w' O=>h _ _ _ O (y.2 v w' O)
   |false =>
    rw[L]at y;obtain⟨v,h1,h2⟩:=y;exact yL (h1 σ w I) λu w'⟨S,hc⟩=>by subst S;exact h _ _ _ hc h2
  ·rename_i z;rw[if_neg z]at y;exact⟨λ_ _=>trivial,h _ _ _ I y⟩
def vP(P:Program)(ops:Array Oper)(C:List (Nat×Value)->World->Prop)(sp:Nat->Bool)(hd:List Nat)(L:Array Bool->List (Nat×Value)->Act->Prop):Nat->Array Bool->List (Nat×Value)->Act->Prop
 |0,listed,σ,a=>L listed σ a
 |f+1,listed,σ,a=>Region.ready .any ops listed≠[]/\∀i∈Region.ready .any ops listed,i∈hd/\De P ops C sp i (vP P ops C sp hd L f (listed.setIfInBounds i true)) σ a
theorem vQ(hnd:(ops.toList.all λo=>!vF o.op)=true){L:Array Bool->List (Nat×Value)->Act->Prop}(hL:∀listed σ a w,C σ w->L listed σ a->wpAnyIn (wF ro) 0 P .any ops Q' g listed a w) :
  ∀(f:Nat)(listed:Array Bool)(σ:List (Nat×Value))(a:Act)(w:World),C σ w->vP P ops C sp hd L f listed σ a->wpAnyIn (wF ro) 0 P .any ops Q' (f+g) listed a w
 |0,listed,σ,a,w,hw,h=>by rw[eH];exact hL _ _ _ _ hw h
 |f+1,listed,σ,a,w,hw,h=>by
  rw[(om:f+1+g=(f+g)+1)]
  exact⟨λh0=>absurd h0 h.1,λi hi=>IK hnd hw (λσ a' w' hw' h'=>vQ hnd hL f _ σ a' w' hw' h') (h.2 i hi).2⟩
def rG(P:Program)(ops:Array Oper)(C:List (Nat×Value)->World->Prop)(o:Oper)(v:Value)(a:Act):Prop :=
 (Region.wanted o (yielded ops a.tmps)=true/\∀τ w,C τ w->nl P o a w λu w'=>u=v/\C τ w') \/
 (Region.wanted o (yielded ops a.tmps)=false/\v=undef)
theorem rG.sOp{o:Oper}{v:Value}{a:Act}(hi:ops[i]?=some o)(z:sp i=false)(I:rG P ops C o v a)(h:K σ (a.put o.dst v)):De P ops C sp i K σ a:=by
 unfold TI.De;rw[hi];dsimp only;rcases I with⟨y,D⟩|⟨y,rfl⟩
 ·rw[if_pos y,z];exact⟨v,D,h⟩
 ·rw[if_neg (by simp[y])];exact h
theorem rG.of_same{o:Oper}{v:Value}{a a':Act}(D:rG P ops C o v a)(y:execOp a'.eval o=execOp a.eval o)(z:Region.wanted o (yielded ops a'.tmps)=Region.wanted o (yielded ops a.tmps)):rG P ops C o v a':=by
 unfold rG nl at *;simp_all
theorem Tc{y D:Oper}{v:Value}(Z:ops[j]?=some D)(L:y.apart ops D=true)(O:∀cs b,y.op≠.select cs b)(J:∀cs b,D.op≠.select cs b){a:Act}(hy:rG P ops C y v a)(h:De P ops C sp j K σ (a.put y.dst v)) :
  De P ops C sp j (λσ' a'=>rG P ops C y v a'/\K σ' (a'.put y.dst v)) σ a:=by
 obtain⟨h1,h2,U⟩:=Oper.apart_spec L;have z:∀u,rG P ops C y v (a.put D.dst u):=λu=>hy.of_same (execOp_put y O a D.dst u U) (wanted_put y a D.dst u U);unfold De at *;rw[Z]at h ⊢;dsimp only at h ⊢;rw[wanted_put D a y.dst v h1]at h;split
 ·rename_i S;rw[if_pos S]at h;cases V:sp j with
  |true =>
   rw[V]at h;refine⟨λw I=>?_,λu w' I=>⟨z u,by rw[<-Act.put_comm a v u h2];exact h.2 u w' I⟩⟩;have:=h.1 w I;unfold nl at *;rwa[execOp_put D J a y.dst v h1]at this
  |false =>
   rw[V]at h;obtain⟨u,hu,hn⟩:=h;refine⟨u,λτ w I=>?_,z u,by rw[<-Act.put_comm a v u h2];exact hn⟩;have:=hu τ w I;unfold nl at *;rwa[execOp_put D J a y.dst v h1]at this
 ·rename_i S;rw[if_neg S]at h;exact⟨z _,by rw[<-Act.put_comm a v undef h2];exact h⟩
theorem IL{L:Array Bool->List (Nat×Value)->Act->Prop}{oi:Oper}{v:Value}(hi:ops[i]?=some oi)(U:sp i=false)(S:∀(j:Nat)(o:Oper)cs b,ops[j]?=some o->o.op≠.select cs b)(ad:∀(listed:Array Bool),tT ops listed->listed.getD i true=false->∀j∈Region.ready .any ops listed,j∈hd)(Z:∀listed σ a,L listed σ a->∀j∈Region.ready .any ops listed,j∉hd) :
  ∀(f:Nat)(listed:Array Bool)(σ:List (Nat×Value))(a:Act),tT ops listed ->
   (∀j oj,ops[j]?=some oj->j≠i->listed.getD j true=false->(∀e∈oj.after,Region.binds .any e=true->e.on≠i)->oi.apart ops oj=true) ->
   i∈Region.ready .any ops listed->rG P ops C oi v a ->
   vP P ops C sp hd L f (listed.setIfInBounds i true) σ (a.put oi.dst v)->vP P ops C sp hd L (f+1) listed σ a:=by
 intro f;induction f with
 |zero =>
  intro listed σ a D _ O hy H;refine⟨λh=>(by rw[h]at O;cases O),λj hj=>?_⟩
  have ae:=ad listed D (mem_ready.1 O).1 j hj;refine⟨ae,?_⟩;by_cases y:j=i
  ·subst y;exact hy.sOp hi U H
  ·exact absurd ae (Z _ _ _ H j (ready_mono hj y))
 |succ f ih =>
  intro listed σ a D z O hy H;have ab:=(mem_ready.1 O).1;refine⟨λh=>(by rw[h]at O;cases O),λj hj=>?_⟩
  refine⟨ad listed D ab j hj,?_⟩;by_cases y:j=i
  ·subst y;exact hy.sOp hi U H
  ·have h1:=(H.2 j (ready_mono hj y)).2;obtain⟨J,oj,aa,ac⟩:=mem_ready.1 hj
   have ah:∀e∈oj.after,Region.binds .any e=true->e.on≠i:=λe he hb ai=>by
    have h2:=ac e he hb;rw[ai]at h2;rcases eV i listed.size with h'|h'
    ·simp[h']at ab h2;rw[ab]at h2;cases h2
    ·simp[iK h']at h2
   have h2:=Tc aa (z j oj aa y J ah) (λcs b=>S i oi cs b hi) (λcs b=>S j oj cs b aa) hy h1
   have I:∀k ok,ops[k]?=some ok->k≠i->(listed.setIfInBounds j true).getD k true=false ->
     (∀e∈ok.after,Region.binds .any e=true->e.on≠i)->oi.apart ops ok=true:=λk ok hk aj V ak=>by
    refine z k ok hk aj ?_ ak;by_cases ag:j=k
    ·subst ag;exact J
    ·rw[getD_set_ne true ag]at V;exact V
   refine Hx (λσ' a' h3=>ih (listed.setIfInBounds j true) σ' a' (D.set hj) I (ready_mono O (Ne.symm y)) h3.1 ?_) h2;rw[Array.setIfInBounds_comm _ _ y];exact h3.2
def IM(P:Program)(ops:Array Oper)(C:List (Nat×Value)->World->Prop)(sp:Nat->Bool)(i:Nat)(o:Oper)(K:List (Nat×Value)->Act->Prop)(σ:List (Nat×Value))(a:Act):Prop :=
 if Region.wanted o (yielded ops a.tmps)then
  match sp i with
  |true=>(∀w,C σ w->nl P o a w λv w'=>C ((i,v)::σ) w')/\∀v w',C ((i,v)::σ) w'->K ((i,v)::σ) (a.put o.dst v)
  |false=>∃v,(∀τ w,C τ w->nl P o a w λu w'=>u=v/\C τ w')/\K σ (a.put o.dst v)
 else K σ (a.put o.dst undef)
theorem yT{o:Oper}{a:Act}(v:ops[i]?=some o)(y:∀σ a,K σ a->K' σ a)(h:IM P ops C sp i o K σ a):De P ops C sp i K' σ a:=by
 refine Hx y ?_;unfold De;rw[v];exact h
theorem BY{tl:List Nat}(V:Region.noSelect ops=true)(S:∀i,i<ops.size->i∈hd\/i∈tl)(L:∀t∈tl,∀i∈hd,i∈vm ops ops.size t)(U:∀t∈tl,t∉hd){o:Oper}{f:Nat}{a:Act}(h0:ops[i]?=some o)(hs:sp i=false)(ac:i∈hd)(ab:tT ops listed)(hr:i∈Region.ready .any ops listed)(hf:Region.free .any ops listed i=true)(J:IM P ops C sp i o K σ a)(aa:∀σ a,K σ a->vP P ops C sp hd (λy σ' a'=>tU ops tl y=true/\Lq σ' a') f (listed.setIfInBounds i true) σ a) :
  vP P ops C sp hd (λy σ' a'=>tU ops tl y=true/\Lq σ' a') (f+1) listed σ a:=by
 unfold IM at J;rw[hs]at J
 have hy:∃v,rG P ops C o v a/\K σ (a.put o.dst v):=by
  by_cases hw:Region.wanted o (yielded ops a.tmps)=true
  ·rw[if_pos hw]at J;obtain⟨v,h1,h2⟩:=J;exact⟨v,.inl ⟨hw,h1⟩,h2⟩
  ·rw[if_neg hw]at J;exact⟨undef,.inr ⟨by simpa using hw,rfl⟩,J⟩
 obtain⟨v,hy,hK⟩:=hy;refine IL h0 hs (Region.noSelect_spec V) ?_ ?_ f listed σ a ab (Region.free_spec h0 hf) hr hy (aa _ _ hK)
 ·intro y O Z j D;obtain⟨_,oj,ag,_⟩:=mem_ready.1 D;have ae:j<ops.size:=(jq.1 ag).1;rcases S j ae with hh|hh
  ·exact hh
  ·have z:=BV O ops.size j (BU D) i (L j hh i ac);rcases eV i y.size with h'|h'
   ·simp[h']at Z z;rw[Z]at z;cases z
   ·simp[iK h']at z
 ·intro y σ' a' hL j D ad;have hB:=hL.1;cases I:tl with
  |nil=>simp only[I,tU,List.isEmpty_iff]at hB;rw[hB]at D;cases D
  |cons t ah =>
   simp only[I,tU,cM,decide_eq_true_eq]at hB;rw[hB.1]at D;have:j=t:=by simpa using D
   subst this;exact U j (by simp[I]) ad
theorem IN{L:Array Bool->List (Nat×Value)->Act->Prop}{o:Oper}{f:Nat}{a:Act}(I:ops[i]?=some o)(y:i∈hd)(D:Region.ready .any ops listed=[i])(J:IM P ops C sp i o K σ a)(v:∀σ a,K σ a->vP P ops C sp hd L f (listed.setIfInBounds i true) σ a):vP P ops C sp hd L (f+1) listed σ a:=by
 refine⟨by rw[D];simp,λj z=>?_⟩;rw[D]at z;obtain rfl:j=i:=by simpa using z
 exact⟨y,yT I v J⟩
def xe(ops:Array Oper)(sp:Nat->Bool)(tl:List Nat):OT Nat->Array Bool->Bool
 |.nil,listed=>tU ops tl listed
 |.one i t,listed=>(match sp i with
  |true=>decide (Region.ready .any ops listed=[i])
  |false=>(Region.ready .any ops listed).contains i&&Region.free .any ops listed i)&&xe ops sp tl t (listed.setIfInBounds i true)
 |.two i t j u,listed=>decide (Region.ready .any ops listed=[i,j])&&decide (t.path.length=u.path.length)&&xe ops sp tl t (listed.setIfInBounds i true)&&xe ops sp tl u (listed.setIfInBounds j true)
def Fc(ops:Array Oper)(sp:Nat->Bool)(t:OT Nat)(tl:List Nat):Bool :=
 Region.noSelect ops&&decide (t.path.length+tl.length=ops.size)&&((List.range ops.size).all λi=>t.path.contains i||tl.contains i)&&t.allB (λi=>t.path.contains i) &&
 (tl.all λx=>t.path.all λi=>(vm ops ops.size x).contains i)&&(tl.all λx=>!t.path.contains x)&&xe ops sp tl t (Array.replicate ops.size false)
def Mq(P:Program)(ops:Array Oper)(C:List (Nat×Value)->World->Prop)(sp:Nat->Bool)(Lq:List (Nat×Value)->Act->Prop):OT (Nat×Oper)->List (Nat×Value)->Act->Prop
 |.nil,σ,a=>Lq σ a
 |.one p t,σ,a=>IM P ops C sp p.1 p.2 (Mq P ops C sp Lq t) σ a
 |.two p t q u,σ,a=>IM P ops C sp p.1 p.2 (Mq P ops C sp Lq t) σ a/\IM P ops C sp q.1 q.2 (Mq P ops C sp Lq u) σ a
theorem xY{tl:List Nat}(J:Region.noSelect ops=true)(y:∀i,i<ops.size->i∈hd\/i∈tl)(v:∀t∈tl,∀i∈hd,i∈vm ops ops.size t)(z:∀t∈tl,t∉hd) :
  ∀(t:OT Nat)(lh:OT (Nat×Oper))(listed:Array Bool)(σ:List (Nat×Value))(a:Act),t.allB (λi=>hd.contains i)=true->t.fit ops lh->tT ops listed->xe ops sp tl t listed=true ->
   Mq P ops C sp Lq lh σ a->vP P ops C sp hd (λO σ' a'=>tU ops tl O=true/\Lq σ' a') t.path.length listed σ a
 |.nil,lh,listed,σ,a,_,D,_,hB,hq=>by
  cases lh with
  |nil=>exact⟨by simpa [xe]using hB,hq⟩
  |one=>exact D.elim
  |two=>exact D.elim
 |.one i t,lh,listed,σ,a,hin,D,hcl,hB,hq=>by
  cases lh with
  |nil=>exact D.elim
  |two=>exact D.elim
  |one p u =>
   obtain⟨U,o⟩:=p
   obtain⟨hi,V,D⟩:=D;dsimp only at hi V;subst hi;simp only[OT.allB,cM,n4]at hin;simp only[xe,cM]at hB;have S:=λσ a(I:Mq P ops C sp Lq u σ a)(L:U∈Region.ready .any ops listed)=>xY J y v z t u _ σ a hin.2 D (hcl.set L) hB.2 I;cases hs:sp U with
   |true =>
    rw[hs]at hB;have L:Region.ready .any ops listed=[U]:=by simpa using hB.1
    exact IN V hin.1 L hq (λσ a I=>S σ a I (by rw[L];simp))
   |false =>
    rw[hs]at hB;simp only[cM]at hB;have L:U∈Region.ready .any ops listed:=by simpa using hB.1.1
    exact BY J y v z V hs hin.1 hcl L hB.1.2 hq (λσ a I=>S σ a I L)
 |.two i t j u,lh,listed,σ,a,hin,D,hcl,hB,hq=>by
  cases lh with
  |nil=>exact D.elim
  |one=>exact D.elim
  |two p t' q u' =>
   obtain⟨U,o⟩:=p;obtain⟨j',o'⟩:=q;obtain⟨hi,V,D,hj,h1,ad⟩:=D;dsimp only at hi V hj h1;subst hi hj;simp only[OT.allB,cM,n4]at hin;simp only[xe,cM,decide_eq_true_eq]at hB;obtain⟨⟨⟨L,aa⟩,ab⟩,ac⟩:=hB;have hi:U∈Region.ready .any ops listed:=by rw[L];simp
   have hj:j'∈Region.ready .any ops listed:=by rw[L];simp
   refine⟨by rw[L];simp,λk I=>?_⟩;rw[L]at I;simp only[dy,gM,or_false]at I;refine⟨I.elim (λe=>e▸hin.1.1.1) (λe=>e▸hin.1.2),?_⟩;by_cases Z:k=U
   ·subst Z;exact yT V (λσ a I=>xY J y v z t t' _ σ a hin.1.1.2 D (hcl.set hi) ab I) hq.1
   ·obtain rfl:k=j':=I.elim (λe=>absurd e Z) id;refine yT h1 (λσ a I=>?_) hq.2;have:=xY J y v z u u' _ σ a hin.2 ad (hcl.set hj) ac I;rw[<-aa]at this;exact this
theorem EM{id:Nat}{Q:Exit->Act->World->Prop}{a:Act}{l:List Oper}(t:OT Nat)(tl:List Nat)(lh:OT (Nat×Oper))(O:List Oper)(U:(l.all λo=>!vF o.op)=true)(hm:P.follows .mixedOrders=true)(Z:Fc l.toArray sp t tl=true)(hh:t.fit l.toArray lh)(ht:tl.map (l.toArray[·]?)=O.map some)(hC:C [] w.drew)(h:Mq P l.toArray C sp (λσ a'=>∀w',C σ w'->wpListIn (wF ro) 0 P l.toArray Q O a' w') lh [] a):(Code.region id l.toArray true).wpIn (wF ro) 0 P Q a w:=by
 simp only[Fc,cM,decide_eq_true_eq]at Z;obtain⟨⟨⟨⟨⟨⟨L,J⟩,D⟩,y⟩,z⟩,I⟩,S⟩:=Z
 have H:=xY (P:=P) (C:=C) (sp:=sp) (Lq:=λσ a'=>∀w',C σ w'->wpListIn (wF ro) 0 P l.toArray Q O a' w') (hd:=t.path) (tl:=tl) L
  (λi hi=>by have:=dh.1 D i (dJ.2 hi);simpa using this)
  (λt v i hi=>by have:=dh.1 (dh.1 z t v) i hi;simpa using this)
  (λt v=>by have:=dh.1 I t v;simpa using this)
  t lh (Array.replicate l.toArray.size false) [] a y hh
  (λi hi=>by
   have h0:∀m j:Nat,(Array.replicate m false).getD j false=false:=λm j=>by
    rcases eV j m with h'|h'
    ·simp[h']
    ·simp[h']
   rw[h0]at hi;cases hi) S h
 refine wpIn_region_any hm ?_;have:=vQ (Q':=Q) (ro:=ro) (by simpa using U) (g:=tl.length) (λlisted σ a' w' V hL=>uQ tl O listed a' w' ht hL.1 (hL.2 w' V)) _ _ _ _ _ hC H;rw[J]at this;exact this
def Mr(P:Program)(ops:Array Oper)(C:List (Nat×Value)->World->Prop)(sp:Nat->Bool)(i:Nat)(o:Oper)(K:List (Nat×Value)->(Nat->Value)->Prop)(σ:List (Nat×Value))(e:Nat->Value):Prop :=
 if wE ops e o=true then
  match sp i with
  |true=>(∀w,C σ w->gI P e o w λv w'=>C ((i,v)::σ) w')/\∀v w',C ((i,v)::σ) w'->K ((i,v)::σ) (fI e o.dst v)
  |false=>∃v,(∀τ w,C τ w->gI P e o w λu w'=>u=v/\C τ w')/\K σ (fI e o.dst v)
 else K σ (fI e o.dst undef)
theorem xf{o:Oper}{K:List (Nat×Value)->(Nat->Value)->Prop}{a:Act}(hd:qI N o.dst=true)(z:oo N df e a)(I:∀σ e a,oo N df e a->K σ e->K' σ a)(h:Mr P ops C sp i o K σ e):IM P ops C sp i o K' σ a:=by
 unfold IM;unfold Mr at h;rw[z.wanted];have D:∀w R,gI P e o w R->nl P o a w R:=λw R O=>by unfold nl;rw[z.eval];exact O
 split
 ·rename_i J;rw[if_pos J]at h;cases L:sp i with
  |true =>
   rw[L]at h;exact⟨λw y=>D _ _ (h.1 w y),λv w' y=>I _ _ _ (z.put hd v) (h.2 v w' y)⟩
  |false =>
   rw[L]at h;obtain⟨v,h1,h2⟩:=h;exact⟨v,λτ w y=>D _ _ (h1 τ w y),I _ _ _ (z.put hd v) h2⟩
 ·rename_i J;rw[if_neg J]at h;exact I _ _ _ (z.put hd undef) h
def RS(P:Program)(ops:Array Oper)(C:List (Nat×Value)->World->Prop)(sp:Nat->Bool)(Q:List (Nat×Value)->(Nat->Value)->Prop):List (Nat×Oper)->List (Nat×Value)->(Nat->Value)->Prop
 |[],σ,e=>Q σ e
 |(i,o)::rest,σ,e =>
  if wE ops e o=true then
   match sp i with
   |true=>(∀w,C σ w->gI P e o w λv w'=>C ((i,v)::σ) w')/\∀v w',C ((i,v)::σ) w'->RS P ops C sp Q rest ((i,v)::σ) (fI e o.dst v)
   |false=>∃v,(∀τ w,C τ w->gI P e o w λu w'=>u=v/\C τ w')/\RS P ops C sp Q rest σ (fI e o.dst v)
  else RS P ops C sp Q rest σ (fI e o.dst undef)
def RO(P:Program)(ops:Array Oper)(C:List (Nat×Value)->World->Prop)(sp:Nat->Bool)(Q:List (Nat×Value)->(Nat->Value)->Prop):OT (Nat×Oper)->List (Nat×Value)->(Nat->Value)->Prop
 |.nil,σ,e=>Q σ e
 |.one p t,σ,e=>Mr P ops C sp p.1 p.2 (RO P ops C sp Q t) σ e
 |.two p t q u,σ,e=>Mr P ops C sp p.1 p.2 (RO P ops C sp Q t) σ e/\Mr P ops C sp q.1 q.2 (RO P ops C sp Q u) σ e
theorem xZ{Q:List (Nat×Value)->(Nat->Value)->Prop}{Q':List (Nat×Value)->Act->Prop}(hQ:∀σ e a,oo N df e a->Q σ e->Q' σ a) :
  ∀(t:OT (Nat×Oper))(σ:List (Nat×Value))(e:Nat->Value)(a:Act),t.dstB N=true->oo N df e a->RO P ops C sp Q t σ e->Mq P ops C sp Q' t σ a
 |.nil,σ,e,a,_,hr,h=>hQ σ e a hr h
 |.one p t,σ,e,a,hd,hr,h=>by
  simp only[OT.dstB,cM]at hd
  exact xf hd.1 hr (λσ e a hr h=>xZ hQ t σ e a hd.2 hr h) h
 |.two p t q u,σ,e,a,hd,hr,h=>by
  simp only[OT.dstB,cM]at hd
  exact⟨xf hd.1.1.1 hr (λσ e a hr h=>xZ hQ t σ e a hd.1.1.2 hr h) h.1,xf hd.1.2 hr (λσ e a hr h=>xZ hQ u σ e a hd.2 hr h) h.2⟩
theorem XX{Q:Exit->(Nat->Value)->World->Prop}{id:Nat}{l:List Oper}(sp:List Nat)(t:OT Nat)(tl:List Nat)(S:P.follows .mixedOrders=true)(y:(Fc l.toArray (λi=>sp.contains i) t tl&&(t.allB λi=>decide (i<l.length))&&(tl.all λi=>decide (i<l.length)))=true)(O:C [] w.drew)(h:RO P l.toArray C (λi=>sp.contains i) (λσ D=>∀w',C σ w'->RW P l.toArray (λe w=>Q .normal e w) (iS l tl) D w') (qK l t) [] e):CW P N (.region id l.toArray true) Q e w:=λz df a I ro=>by
 simp only[cM]at y;simp only[kS,cM]at z;have v:=xX l t y.1.2;refine EM (C:=C) t tl _ _ z.2 S y.1.1 v (Bp l tl y.2) O ?_;exact xZ (λσ D a' J U w' L=>sY (λe a w I h=>⟨e,I,h⟩) _ D a' w' (wG z.1 tl y.2) (wG z.2 tl y.2) J (U w' L)) _ [] e a (BX z.1 t _ v) I h
variable{Qs:List (Nat × Value)->(Nat->Value)->Prop}{rest:List (Nat × Oper)}
variable{ps:String}
theorem AX{o:Oper}(h:wE ops e o=true):RS P ops C sp Qs ((i,o)::rest) σ e=match sp i with
   |true=>(∀w,C σ w->gI P e o w λv w'=>C ((i,v)::σ) w')/\∀v w',C ((i,v)::σ) w'->RS P ops C sp Qs rest ((i,v)::σ) (fI e o.dst v)
   |false=>∃v,(∀τ w,C τ w->gI P e o w λu w'=>u=v/\C τ w')/\RS P ops C sp Qs rest σ (fI e o.dst v):=by rw[RS];exact if_pos h
theorem Td{o:Oper}(h:wE ops e o=false):RS P ops C sp Qs ((i,o)::rest) σ e=RS P ops C sp Qs rest σ (fI e o.dst undef):=by rw[RS];exact if_neg (by simp[h])
theorem IO(h:Qs σ e):RS P ops C sp Qs [] σ e:=h
theorem Ms{b:Bool}(h:yE ops e j=some b)(v:RS P ops C sp Qs ((i,⟨d,op,ty,ps,af,none⟩)::rest) σ e):RS P ops C sp Qs ((i,⟨d,op,ty,ps,af,some (j,b)⟩)::rest) σ e:=by
 rw[AX (by simp[wE,h])];exact v
theorem Pa{b:Bool}(h:(yE ops e j==some b)=false)(v:RS P ops C sp Qs rest σ (fI e d undef)):RS P ops C sp Qs ((i,⟨d,op,ty,ps,af,some (j,b)⟩)::rest) σ e:=by
 rw[Td (by simp[wE,h])];exact v
theorem qo{v:Value}(D:sp i=false)(h:∀τ w,C τ w->gd P e ⟨d,op,ty,ps,af,none⟩ w v)(z:RS P ops C sp Qs rest σ (fI e d v)):RS P ops C sp Qs ((i,⟨d,op,ty,ps,af,none⟩)::rest) σ e:=by
 rw[AX rfl,D];refine⟨v,λτ w y=>?_,z⟩;have:=h τ w y;unfold gd at this;unfold gI;simp_all
theorem ot{v:Value}(z:sp i=false)(h:iE P e ⟨d,op,ty,ps,af,none⟩ v)(y:RS P ops C sp Qs rest σ (fI e d v)):RS P ops C sp Qs ((i,⟨d,op,ty,ps,af,none⟩)::rest) σ e:=qo z (λ_ w _=>h w) y
theorem jH{v:Value}(J:sp i=false)(L:lj (args.map (ev e))=some vs)(D:∀τ w,C τ w->Fn P f vs w (λO w'=>O=v/\C τ w'))(I:RS P ops C sp Qs rest σ (fI e d v)) :
  RS P ops C sp Qs ((i,⟨d,.call ⟨.value (.func f),args.toArray,tys⟩,ty,ps,af,none⟩)::rest) σ e:=by
 rw[AX rfl,J];refine⟨v,λτ w z=>?_,I⟩
 have y:(execOp (ev e) ⟨d,.call ⟨.value (.func f),args.toArray,tys⟩,ty,ps,af,none⟩).run P w=.ok (.enter f vs.toArray) w:=by
  have h1:ev e (.func f)=.func _ #[] #[]:=rfl;simp[execOp,resolve,h1,Deferred.ofValue,invoke,(mK L),iX (D τ w z).1]
 unfold gI;rw[y];exact(D τ w z).2
theorem de{o:Oper}(z:sp i=true)(D:wE ops e o=true)(h:∀w,C σ w->gI P e o w λv w'=>C ((i,v)::σ) w')(y:∀v w',C ((i,v)::σ) w'->RS P ops C sp Qs rest ((i,v)::σ) (fI e o.dst v)):RS P ops C sp Qs ((i,o)::rest) σ e:=by
 rw[AX D,z];exact⟨h,y⟩
theorem Yx{p:Nat×Oper}{t:OT (Nat×Oper)}(h:RS P ops C sp (λσ e=>RO P ops C sp Qs t σ e) [p] σ e):RO P ops C sp Qs (.one p t) σ e:=h
theorem Yy{p q:Nat×Oper}{t u:OT (Nat×Oper)}(h1:RS P ops C sp (λσ e=>RO P ops C sp Qs t σ e) [p] σ e)(h2:RS P ops C sp (λσ e=>RO P ops C sp Qs u σ e) [q] σ e):RO P ops C sp Qs (.two p t q u) σ e:=⟨h1,h2⟩
theorem Yz(h:Qs σ e):RO P ops C sp Qs .nil σ e:=h
end
end TI
section
variable{C:List Value->World->Prop}
def RS(P:Program)(ops:Array Oper)(C:List Value->World->Prop)(sp:Nat->Bool)(Q:List Value->(Nat->Value)->Prop):List (Nat×Oper)->List Value->(Nat->Value)->Prop
 |[],σ,e=>Q σ e
 |(i,o)::rest,σ,e =>
  if wE ops e o=true then
   match sp i with
   |true=>(∀w,C σ w->gI P e o w λv w'=>C (v::σ) w')/\∀v w',C (v::σ) w'->RS P ops C sp Q rest (v::σ) (fI e o.dst v)
   |false=>∃v,(∀τ w,C τ w->gI P e o w λu w'=>u=v/\C τ w')/\RS P ops C sp Q rest σ (fI e o.dst v)
  else RS P ops C sp Q rest σ (fI e o.dst undef)
theorem Df{C:World->Prop}{l:List Oper}{Q:(Nat->Value)->Prop}:∀(hd:List Nat)(τ:List (Nat×Value))(e:Nat->Value),(hd.all λi=>decide (i<l.length))=true->RQ P ops C Q (iS l hd) e ->
  TI.RO P ops (λ_=>C) (λ_=>false) (λ_=>Q) (qK l (.chain hd)) τ e
 |[],τ,e,_,h=>h
 |i::r,τ,e,hd,h=>by
  simp only[kB,cM,decide_eq_true_eq]at hd
  simp only[iS,dX hd.1,RQ]at h
  simp only[OT.chain,qK,dX hd.1,TI.RO,TI.Mr]
  split
  ·rename_i z
   rw[if_pos z]at h
   obtain⟨v,D,h⟩:=h
   refine⟨v,λ_ w y=>?_,Df r τ _ hd.2 h⟩;have:=D w y;unfold gI;generalize (execOp (ev e) l[i]).run P w=r at *;cases r with
   |ok n w' =>
    cases n<;>first|exact this.elim|exact⟨this.2,this.1▸y⟩|exact⟨this.2.symm,this.1▸y⟩|skip
    case enter f args=>obtain⟨rfl,h1⟩:=this;exact h1.mono λJ I⟨h2,h3⟩=>⟨v,h2,rfl,h3⟩
   |halt x w'=>exact this.elim
  ·rename_i z
   rw[if_neg z]at h
   exact Df r τ _ hd.2 h
theorem pF{Q:Exit->(Nat->Value)->World->Prop}{C:World->Prop}{id:Nat}{l:List Oper}(hd tl:List Nat)(D:P.follows .mixedOrders=true)(v:(TI.Fc l.toArray (λ_=>false) (.chain hd) tl&&((OT.chain hd).allB λi=>decide (i<l.length))&&(tl.all λi=>decide (i<l.length))&&(hd.all λi=>decide (i<l.length)))=true)(z:C w.drew)(h:RQ P l.toArray C (λy=>∀w',C w'->RW P l.toArray (λe w=>Q .normal e w) (iS l tl) y w') (iS l hd) e):CW P N (.region id l.toArray true) Q e w:=by
 rw[cM]at v;exact TI.XX (C:=λ_=>C) [] (.chain hd) tl D v.1 z (Df hd [] e v.2 h)
theorem Az{l:List Oper}{Q:List Value->(Nat->Value)->Prop}:∀(hd:List Nat)(τ:List (Nat×Value))(e:Nat->Value),(hd.all λi=>decide (i<l.length))=true->RS P ops C sp Q (kz l hd) (τ.map Prod.snd) e ->
  TI.RO P ops (λτ=>C (τ.map Prod.snd)) sp (λτ=>Q (τ.map Prod.snd)) (qK l (.chain hd)) τ e
 |[],τ,e,_,h=>h
 |i::r,τ,e,hd,h=>by
  simp only[kB,cM,decide_eq_true_eq]at hd
  simp only[kz,dX hd.1,RS]at h
  simp only[OT.chain,qK,dX hd.1,TI.RO,TI.Mr]
  split
  ·rename_i hw
   rw[if_pos hw]at h
   cases hs:sp i with
   |true =>
    rw[hs]at h
    exact⟨h.1,λv w' hC=>Az r ((i,v)::τ) _ hd.2 (h.2 v w' hC)⟩
   |false =>
    rw[hs]at h
    exact h.imp λv h=>⟨λτ w hC=>h.1 _ w hC,Az r τ _ hd.2 h.2⟩
  ·rename_i hw
   rw[if_neg hw]at h
   exact Az r τ _ hd.2 h
theorem IP{Q:Exit->(Nat->Value)->World->Prop}{id:Nat}{l:List Oper}(sp:List Nat)(hd tl:List Nat)(D:P.follows .mixedOrders=true)(v:(TI.Fc l.toArray (λi=>sp.contains i) (.chain hd) tl&&((OT.chain hd).allB λi=>decide (i<l.length))&&(tl.all λi=>decide (i<l.length))&&(hd.all λi=>decide (i<l.length)))=true)(z:C [] w.drew)(h:RS P l.toArray C (λi=>sp.contains i) (λσ y=>∀w',C σ w'->RW P l.toArray (λe w=>Q .normal e w) (iS l tl) y w') (kz l hd) [] e):CW P N (.region id l.toArray true) Q e w:=by
 rw[cM]at v;exact TI.XX (C:=λτ=>C (τ.map Prod.snd)) sp (.chain hd) tl D v.1 z (Az hd [] e v.2 h)
variable{σ:List Value}{rest:List (Nat × Oper)}
variable{ps:String}
theorem AX{o:Oper}(h:wE ops e o=true):RS P ops C sp Qs ((i,o)::rest) σ e=match sp i with
   |true=>(∀w,C σ w->gI P e o w λv w'=>C (v::σ) w')/\∀v w',C (v::σ) w'->RS P ops C sp Qs rest (v::σ) (fI e o.dst v)
   |false=>∃v,(∀τ w,C τ w->gI P e o w λu w'=>u=v/\C τ w')/\RS P ops C sp Qs rest σ (fI e o.dst v):=by rw[RS];exact if_pos h
theorem Td{o:Oper}(h:wE ops e o=false):RS P ops C sp Qs ((i,o)::rest) σ e=RS P ops C sp Qs rest σ (fI e o.dst undef):=by rw[RS];exact if_neg (by simp[h])
theorem IO(h:Qs σ e):RS P ops C sp Qs [] σ e:=h
theorem Ms{b:Bool}(h:yE ops e j=some b)(v:RS P ops C sp Qs ((i,⟨d,op,ty,ps,af,none⟩)::rest) σ e):RS P ops C sp Qs ((i,⟨d,op,ty,ps,af,some (j,b)⟩)::rest) σ e:=by
 rw[AX rfl]at v;rw[AX (by simp[wE,h])];exact v
theorem Pa{b:Bool}(h:(yE ops e j==some b)=false)(v:RS P ops C sp Qs rest σ (fI e d undef)):RS P ops C sp Qs ((i,⟨d,op,ty,ps,af,some (j,b)⟩)::rest) σ e:=by
 rw[Td (by simp[wE,h])];exact v
theorem qo{v:Value}(D:sp i=false)(h:∀τ w,C τ w->gd P e ⟨d,op,ty,ps,af,none⟩ w v)(z:RS P ops C sp Qs rest σ (fI e d v)):RS P ops C sp Qs ((i,⟨d,op,ty,ps,af,none⟩)::rest) σ e:=by
 rw[AX rfl,D];refine⟨v,λτ w y=>?_,z⟩;have:=h τ w y;unfold gd at this;unfold gI;rw[this];exact⟨rfl,y⟩
theorem ot{v:Value}(z:sp i=false)(h:iE P e ⟨d,op,ty,ps,af,none⟩ v)(y:RS P ops C sp Qs rest σ (fI e d v)):RS P ops C sp Qs ((i,⟨d,op,ty,ps,af,none⟩)::rest) σ e:=qo z (λ_ w _=>h w) y
theorem jH{v:Value}(L:sp i=false)(O:lj (args.map (ev e))=some vs)(D:∀τ w,C τ w->Fn P f vs w (λS w'=>S=v/\C τ w'))(J:RS P ops C sp Qs rest σ (fI e d v)) :
  RS P ops C sp Qs ((i,⟨d,.call ⟨.value (.func f),args.toArray,tys⟩,ty,ps,af,none⟩)::rest) σ e:=by
 have I:=mK O;rw[AX rfl,L];refine⟨v,λτ w z=>?_,J⟩
 have y:(execOp (ev e) ⟨d,.call ⟨.value (.func f),args.toArray,tys⟩,ty,ps,af,none⟩).run P w=.ok (.enter f vs.toArray) w:=by
  have h1:ev e (.func f)=.func (.func f) #[] #[]:=rfl;simp[execOp,resolve,h1,Deferred.ofValue,invoke,I,iX (D τ w z).1]
 unfold gI;rw[y];exact(D τ w z).2
theorem de{o:Oper}(z:sp i=true)(D:wE ops e o=true)(h:∀w,C σ w->gI P e o w λv w'=>C (v::σ) w')(y:∀v w',C (v::σ) w'->RS P ops C sp Qs rest (v::σ) (fI e o.dst v)):RS P ops C sp Qs ((i,o)::rest) σ e:=by
 rw[AX D,z];exact⟨h,y⟩
theorem l4(z:lj (args.map (ev e))=some vs)(y:Fn P f vs w R) :
  gI P e ⟨d,.call ⟨.value (.func f),args.toArray,tys⟩,ty,ps,af,none⟩ w R:=by
 have v:(execOp (ev e) ⟨d,.call ⟨.value (.func f),args.toArray,tys⟩,ty,ps,af,none⟩).run P w=.ok (.enter f vs.toArray) w:=by
  have h1:ev e (.func f)=.func _ #[] #[]:=rfl;simp[execOp,resolve,h1,Deferred.ofValue,invoke,(mK z),iX y.1]
 unfold gI;rw[v];exact y.2
end
section
variable{rest:List Oper}
variable{ps:String}
theorem xt{o:Nat}(vs:List Value):∀(i:Nat)(w:World)(l:List Value),eL w b tb l->(∀v∈vs,v.oneCell'=true)->o+i+vs.length<=l.length ->
   ∃w',(storeCells ⟨b,o,none⟩ vs i).run P w=.ok () w'/\w.grownBy w' (some b)/\w'.heap.size=w.heap.size/\eL w' b tb (l.take (o+i)++vs++l.drop (o+i+vs.length)):=by
 induction vs with
 |nil=>intro i w l D _ I;exact⟨w,by simp[storeCells],World.grownBy.refl _ _,rfl,by simpa using D⟩
 |cons v vs ih =>
  intro i w l D z I;simp only[fc]at I;have hv:=z v (by simp);have Z:=D.cellv (i:=o+i) (v:=l[o+i]'om) (fw om);have hf:=D.free (o+i);have h1:=run_store P w ⟨b,o+i,none⟩ v .plain hv;obtain⟨w',O,J,L,y⟩:=ih (i+1) _ _ (D.set_ (o+i) v) (λu hu=>z u (cW _ hu)) (by simp;omega);refine⟨w',?_,AW (wH w b (o+i) v) J,by simpa using L,?_⟩
  ·simp[storeCells,js,h1,stored,Z,hf,O]
  ·have S:o+(i+1)=(o+i)+1:=om;rw[S]at y;rw[qR,px om,ip om,kp _ _ (by simp;omega)]at y;have V:o+i-(l.take (o+i)).length=0:=by simp;omega
   rw[V]at y;have U:o+i+1+vs.length=o+i+(vs.length+1):=om;rw[U]at y;simpa using y
theorem Fd{y:Operand}{t o o' O dc sl sc:Nat}{z:List Value}(hu:P.underlying t=some (.slice el))(hz:∀w,(sizeOf el).run P w=.ok k w)(hx:ev e x=.slice (some ⟨b,o,none⟩) O dc)(hy:ev e y=.slice (some ⟨b',o',none⟩) sl sc)(hB:eL w b tb l)(S:eL w b' tb' l')(hn:min sl O=n)(J:(l'.drop o').take (n*k)=z)(D:z.length=n*k)(ho:o+n*k<=l.length)(L:∀v∈z,v.oneCell'=true) :
  ∃w',(execOp (ev e) ⟨d,.call ⟨.builtin .copy,#[x,y],#[t,t2]⟩,ty,ps,af,none⟩).run P w=.ok (.value (.int .i64 n)) w'/\w.grownBy w' (some b)/\w'.heap.size=w.heap.size/\eL w' b tb (l.take o++z++l.drop (o+n*k)):=by
 obtain⟨w',ab,V,aa,U⟩:=xt (P:=P) (o:=o) z 0 w l hB L om
 have I:(loadCells ⟨b',o',none⟩ _).run P w=.ok z.toArray w:=uR D (λj v hv=>by
  rw[js];refine S.cellv ?_;rw[<-J,fJ]at hv;split at hv
  ·simp_all
  ·cases hv)
 refine⟨w',?_,V,aa,by simpa [D]using U⟩;have Z:Nat.min sl O=n:=hn;simp[execOp,resolve,invoke,builtin,hx,hy,Builtin.copy_,run_underlying hu,Builtin.lenOf,Z,hz,Builtin.firstCells,I,ab,goInt]
theorem J3{y:Operand}{t o o' O S sl sc:Nat}{z:List Value}(hu:P.underlying t=some (.slice el))(hz:∀w,(sizeOf el).run P w=.ok k w)(hx:ev e x=.slice (some ⟨b,o,none⟩) O S)(hy:ev e y=.slice (some ⟨b',o',none⟩) sl sc)(Z:eL w b tb l)(L:eL w b' tb' l')(hn:min sl O=n)(D:(l'.drop o').take (n*k)=z)(I:z.length=n*k)(ho:o+n*k<=l.length)(J:∀v∈z,v.oneCell'=true)(hr:∀w',w.grownBy w' (some b)->w'.heap.size=w.heap.size->eL w' b tb (l.take o++z++l.drop (o+n*k))->RW P ops Q rest (fI e d (.int .i64 n)) w') :
  RW P ops Q (⟨d,.call ⟨.builtin .copy,#[x,y],#[t,t2]⟩,ty,ps,af,none⟩::rest) e w:=by
 obtain⟨w',h1,h2,U,V⟩:=Fd (P:=P) (d:=d) (ty:=ty) (ps:=ps) (af:=af) (t2:=t2) hu hz hx hy Z L hn D I ho J;exact wZ h1 (hr w' h2 U V)
theorem AY{o:Oper}{v:Value}(h:(execOp (ev e) o).run P w=.ok (.value v) w')(y:R v w'):gI P e o w R:=by
 unfold gI;rw[h];exact y
theorem Te{o:Oper}{v:Value}{A:World->Prop}(h:∃w',(execOp (ev e) o).run P w=.ok (.value v) w'/\A w')(y:∀w',A w'->R v w'):gI P e o w R:=by
 obtain⟨w',h1,h2⟩:=h;exact AY h1 (y w' h2)
theorem IQ{el:TypeId}{o len cap:Nat}{m n:Int}(D:P.underlying t=some (.slice el))(J:∀w,(sizeOf el).run P w=.ok k w)(I:ev e x=.slice (some ⟨b,o,none⟩) len cap)(z:ev e lo=.int kl m)(y:ev e hi=.int kh n)(v:0<=m)(h1:m<=n)(h2:n<=cap)(L:m<cap):iE P e ⟨d,.slice t x (some lo) (some hi) none,ty,ps,af,none⟩ (.slice (some ⟨b,o+m.toNat * k,none⟩) (n.toNat-m.toNat) (cap-m.toNat)):=by
 intro w;simp[gd,execOp,I,z,y,Instr.sliceAt,Instr.slice,run_underlying D,Instr.sliceBounds,run_sliceBound,(Int.toNat_of_nonneg om:_=n),v,h1,h2,(by omega:0<=n),J,(om:cap≠m.toNat),js]
theorem jb{el:TypeId}{len cap:Nat}{n:Int}(z:P.underlying t=some (.slice el))(J:∀w,(sizeOf el).run P w=.ok k w)(D:ev e x=.slice A len cap)(y:ev e hi=.int kh n)(v:0<=n)(h2:n<=cap):iE P e ⟨d,.slice t x none (some hi) none,ty,ps,af,none⟩ (.slice A n.toNat cap):=by
 intro w
 have I:(if cap=0 then A else Option.map (λx=>x.add 0) A)=A:=by
  split
  ·rfl
  ·cases A<;>simp[Addr.add]
 simp[gd,execOp,D,y,Instr.sliceAt,Instr.slice,run_underlying z,Instr.sliceBounds,run_sliceBound,v,h2];simp_all
theorem D6{el:TypeId}{o len cap:Nat}{m:Int}(z:P.underlying t=some (.slice el))(I:∀w,(sizeOf el).run P w=.ok k w)(D:ev e x=.slice (some ⟨b,o,none⟩) len cap)(y:ev e lo=.int kl m)(v:0<=m)(h1:m<=len)(J:m<cap):iE P e ⟨d,.slice t x (some lo) none none,ty,ps,af,none⟩ (.slice (some ⟨b,o+m.toNat * k,none⟩) (len-m.toNat) (cap-m.toNat)):=by
 intro w;simp[gd,execOp,D,y,Instr.sliceAt,Instr.slice,run_underlying z,Instr.sliceBounds,run_sliceBound,v,h1,I,(om:cap≠m.toNat),js]
theorem J4(z:Array Value)(k:Nat)(v:z.size=k)(m:Nat):(List.range (m*k)).map (λi=>z[i%z.size]!)=(List.replicate m z.toList).flatten:=by
 induction m with
 |zero=>simp
 |succ m ih =>
  rw[cX,pY,fq,ih,List.replicate_succ',pw];congr 1;simp only[rZ,List.flatten_cons,List.flatten_nil,fG];apply gG;intro j;by_cases y:j<k
  ·have:(m*k+j)%k=j:=by rw[ka,pn,dT y]
   simp[y,v,this]
  ·simp[y,v]
theorem Fe{el:TypeId}{y:Operand}{z:Value}{m p:Int}(hu:P.underlying t=some (.slice el))(V:(P.info? el).map (λi=>(i.zero,i.size,i.bytes))=some (some z,size,bytes))(hz:Nat.beq z.cells.size size=true)(hx:ev e x=.int kl m)(hy:ev e y=.int kc p)(hm:m=(n:Nat))(hp:p=(c:Nat))(ab:n<=c)(U:c*(bytes+1)<=140737488355328) :
  (execOp (ev e) ⟨d,.makeSlice t x y,ty,ps,af,none⟩).run P w=.ok (.value (.slice (some ⟨w.heap.size,0,none⟩) n c)) (w.alloc (.cells ((List.replicate c z.cells.toList).flatten).toArray el)):=by
 obtain⟨i,hi,L,O,S⟩:=info_parts V;subst hm;subst hp;have J:=eU hz;have Z:c*bytes<=140737488355328:=dE (eZ _ om) U;have aa:=dE (eS _ om) U
 have D:(i.bytes)*(c:Int)<=281474976710656:=by
  have h:((i.bytes*c))<=281474976710656:=by rw[S,cD];omega
  omega
 have I:=run_make w t el i z hu hi L kl kc n c om om D om
 have v:madeCells z.cells (c*i.size)=((List.replicate c z.cells.toList).flatten).toArray:=by
  rw[<-iB];unfold madeCells;simp;rw[O];exact J4 z.cells size J c
 simp at I;rw[v]at I;simp[execOp,hx,hy,I]
theorem Hy{el:TypeId}{y:Operand}{z:Value}{m p:Int}(O:P.underlying t=some (.slice el))(D:(P.info? el).map (λi=>(i.zero,i.size,i.bytes))=some (some z,1,bytes))(V:z.cells=#[z])(S:ev e x=.int kl m)(U:ev e y=.int kc p)(J:m=(n:Nat))(L:p=(c:Nat))(v:n<=c)(I:c*(bytes+1)<=140737488355328) :
  (execOp (ev e) ⟨d,.makeSlice t x y,ty,ps,af,none⟩).run P w=.ok (.value (.slice (some ⟨w.heap.size,0,none⟩) n c)) (w.alloc (.cells (List.replicate c z).toArray el)):=by
 have h:=Fe (w:=w) (d:=d) (ty:=ty) (ps:=ps) (af:=af) O D (by rw[V];rfl) S U J L v I;simp_all
theorem x4{v:Value}(y:P.underlying t=some dd)(hd:EX dd=false)(z:ev e x=.iface t v):iE P e ⟨d,.typeAssert x ts t true,ty,ps,af,none⟩ (.tuple #[v,.bool true]):=by
 intro w;cases dd<;>first|(cases hd;done)|(simp[gd,execOp,z,Instr.typeAssert,run_underlying y])
theorem yU{v:Value}(y:P.underlying t=some dd)(hd:EX dd=false)(z:ev e x=.iface t v)(D:fz v=some v):iE P e ⟨d,.typeAssert x ts t false,ty,ps,af,none⟩ v:=by
 intro w;cases dd<;>first|(cases hd;done)|(simp[gd,execOp,z,Instr.typeAssert,run_underlying y])
theorem xg{v z:Value}(D:P.underlying t=some dd)(hd:EX dd=false)(I:ev e x=.iface t' v)(y:Nat.beq t' t=false)(J:∀w,(zeroValue t).run P w=.ok z w):iE P e ⟨d,.typeAssert x ts t true,ty,ps,af,none⟩ (.tuple #[z,.bool false]):=by
 intro w;have h:t'≠t:=by rintro rfl;simp at y
 cases dd<;>first|(cases hd;done)|(simp[gd,execOp,I,Instr.typeAssert,run_underlying D,h,J])
end
def Rd(w:World)(A:Option Addr)(xs:List Value):Prop:=xs=[]\/∃b o,A=some ⟨b,o,none⟩/\b<w.heap.size/\∀(j:Nat)v,xs[j]?=some v->w.cell? ⟨b,o+j,none⟩=some v
def R1(w:World)(el:TypeId)(v:Value)(xs:List Value):Prop:=w.ownsRow 0 el 1 v xs.length xs
structure Fr(F:Nat->Prop)(w w':World):Prop where
 os:w'.os=w.os
 tape:w'.tape=w.tape
 output:w'.output=w.output
 size:w.heap.size<=w'.heap.size
 block:∀g,g<w.heap.size->¬F g->w'.heap[g]?=w.heap[g]?
theorem Fr.refl(F:Nat->Prop)(w:World):Fr F w w:=⟨rfl,rfl,rfl,fK _,λ_ _ _=>rfl⟩
theorem Fr.of_gr(h:Gr w w'):Fr F w w':=⟨h.os,h.tape,h.output,h.size,λg v _=>h.block g v⟩
theorem Fr.of_grown{v:Option Nat}(h:w.grownBy w' v)(y:∀g,v=some g->F g):Fr F w w':=⟨h.os,h.tape,h.output,h.size,λg z D=>h.block g z (λe=>D (y g e.symm))⟩
theorem Fr.trans(h:Fr F w0 w)(k:Fr F' w w')(z:∀g,F' g->F g\/w0.heap.size<=g):Fr F w0 w' :=
 ⟨k.os.trans h.os,k.tape.trans h.tape,k.output.trans h.output,dE h.size k.size,λg v y=>(k.block g (fg v h.size) (λe=>(z g e).elim y (λh=>by omega))).trans (h.block g v y)⟩
theorem Fr.weak(h:Fr F w w')(v:∀g,F g->F' g):Fr F' w w':=⟨h.os,h.tape,h.output,h.size,λg y z=>h.block g y (λe=>z (v g e))⟩
theorem Fr.gr(h:Fr F w w')(v:∀g,F g->w.heap.size<=g):Gr w w':=(World.grownBy.mk h.os h.tape h.output h.size (λg y _=>h.block g y (λe=>by have:=v g e;omega)):w.grownBy w' none)|>Gr.of_grown
theorem Fr.then_gr(h:Fr F w0 w)(g:Gr w w'):Fr F w0 w':=h.trans (Fr.of_gr (F:=λ_=>False) g) (λ_ h=>h.elim)
theorem eL.fr(h:eL w b t l)(k:Fr F w w')(v:¬F b):eL w' b t l:=(k.block b h.lt v).trans h
section
variable{el:TypeId}{v:Value}
theorem R1.form(h:R1 w el v xs):(v=.slice none 0 0/\xs=[])\/∃g c l,v=.slice (some ⟨g,0,none⟩) xs.length c/\eL w g el l/\xs.length<=c/\l.length=c/\l.take xs.length=xs:=by
 rcases h.2 with⟨rfl,h2⟩|⟨g,cap,cur,J,_,D,y,_,z,I⟩
 ·simp_all
 ·exact .inr ⟨g,cap,cur.toList,J,by unfold eL;simpa using D,y,by simpa using z,by simpa using I⟩
theorem R1.slice(h:R1 w el v xs):∃A c,v=.slice A xs.length c:=by
 rcases h.form with⟨rfl,rfl⟩|⟨g,c,l,rfl,_⟩
 ·simp_all
 ·simp_all
theorem R1.keep(h:R1 w el v xs)(D:∀g,v.ownBlock=some g->w'.heap[g]?=w.heap[g]?):R1 w' el v xs:=by
 obtain⟨h1,h2⟩:=h;refine⟨h1,?_⟩;rcases h2 with h2|⟨g,cap,cur,rfl,y,z,r⟩
 ·simp_all
 ·exact .inr ⟨g,cap,cur,rfl,y,(D g rfl).trans z,r⟩
theorem R1.lt(h:R1 w el v xs)(y:v.ownBlock=some g):g<w.heap.size:=by
 rcases h.form with⟨rfl,_⟩|⟨D,c,l,rfl,z,_⟩
 ·cases y
 ·injection y with y;subst y;exact z.lt
theorem R1.fr(h:R1 w el v xs)(k:Fr F w w')(z:∀g,v.ownBlock=some g->¬F g):R1 w' el v xs:=h.keep λg y=>k.block g (h.lt y) (z g y)
theorem R1.gr(h:R1 w el v xs)(k:Gr w w'):R1 w' el v xs:=h.keep λg y=>k.block g (h.lt y)
theorem R1.rd(h:R1 w el (.slice A n c) xs):Rd w A xs:=by
 rcases h.form with⟨z,rfl⟩|⟨g,c',l,z,y,D,J,L⟩
 ·exact .inl rfl
 ·injection z with hA;refine .inr ⟨g,0,hA,y.lt,λj v I=>?_⟩;refine y.cellv ?_;grind
theorem R1.nil(w:World)(el:TypeId):R1 w el (.slice none 0 0) []:=World.ownsRow_nil _ _ _ _
theorem R1.new(w:World)(el:TypeId)(l:List Value)(v:l.length<=maxLen):R1 (w.alloc (.cells l.toArray el)) el (.slice (some ⟨w.heap.size,0,none⟩) l.length l.length) l :=
 ⟨by simp,.inr ⟨w.heap.size,l.length,l.toArray,rfl,om,heap_alloc_new w _,fK _,v,by simp,by simp⟩⟩
theorem R1.of_blk(v:eL w g el l)(y:l.length<=maxLen):R1 w el (.slice (some ⟨g,0,none⟩) l.length l.length) l :=
 ⟨by simp,.inr ⟨g,l.length,l.toArray,rfl,om,v,fK _,y,by simp,by simp⟩⟩
theorem Rd.fr(h:Rd w A xs)(k:Fr F w w')(D:∀a,A=some a->¬F a.block):Rd w' A xs:=by
 rcases h with h|⟨b,o,rfl,y,h⟩
 ·exact .inl h
 ·exact .inr ⟨b,o,rfl,fg y k.size,λj v z=>by rw[World.cell?_of_block (k.block b y (D ⟨b,o,none⟩ rfl))];exact h j v z⟩
theorem Rd.gr(h:Rd w A xs)(k:Gr w w'):Rd w' A xs:=h.fr (Fr.of_gr (F:=λ_=>False) k) (λ_ _ h=>h)
end
section
variable{rest:List Oper}
variable{ps:String}
theorem yV{el:TypeId}{i:Operand}{o len:Nat}{kd:IntKind}{n:Int}(y:P.underlying t=some (.array len el))(D:∀w,(sizeOf el).run P w=.ok k w)(z:ev e x=.pointer (some ⟨b,o,none⟩))(hi:ev e i=.int kd n)(v:0<=n)(h1:n<len) :
  iE P e ⟨d,.indexAddr t x i,ty,ps,af,none⟩ (.pointer (some ⟨b,o+n.toNat * k,none⟩)):=by
 intro w;simp[gd,execOp,z,hi,Instr.indexAt,Instr.sureAddr,asIntOf,run_underlying y,D,v,h1,js]
theorem Ff{el:TypeId}{i:Operand}{len:Nat}{kd:IntKind}{n:Int}{cs:List Value}{v:Value}(D:P.underlying t=some (.array len el))(hd:P.underlying el=some dd)(L:∀w,(sizeOf el).run P w=.ok k w)(z:sM dd=false)(J:ev e x=.agg cs.toArray)(hi:ev e i=.int kd n)(y:0<=n)(h1:n<len)(I:cs[n.toNat * k]?=some v):iE P e ⟨d,.index t x i,ty,ps,af,none⟩ v:=by
 intro w;simp[gd,execOp,J,hi,Instr.index,asIntOf,run_underlying D,L,y,h1,part,si hd,z,I]
theorem xF{a:Option Addr}{B:Bool}(D:P.underlying t=some (.slice te))(I:ev e x=.slice a n c)(z:a.isNone=B):iE P e ⟨d,.binOp .eql t x (.const (.slice none 0 0)) t',ty,ps,af,none⟩ (.bool B):=by
 intro w;subst z;have h2:ev e (.const _)=.slice none 0 0:=rfl
 have v:∀n':Nat,(Op.equalIn (n'+1) t (.slice a n c) (.slice none 0 0)).run P w=.ok a.isNone w:=λn'=>by
  unfold Op.equalIn;cases a<;>simp[run_underlying D]
 have y:(Op.equal t _ _).run P w=.ok a.isNone w:=v 9999;cases a<;>simp[gd,execOp,I,h2,eqGuard,binOp,y]
theorem uS{a:Option Addr}{B:Bool}(D:P.underlying t=some (.pointer te))(I:ev e x=.pointer a)(z:a.isSome=B):iE P e ⟨d,.binOp .neq t x (.const (.pointer none)) t',ty,ps,af,none⟩ (.bool B):=by
 intro w;subst z;have h2:ev e (.const _)=.pointer none:=rfl
 have v:∀n:Nat,(Op.equalIn (n+1) t (.pointer a) (.pointer none)).run P w=.ok a.isNone w:=λn=>by
  unfold Op.equalIn;cases a<;>simp[run_underlying D]
 have y:(Op.equal t _ _).run P w=.ok a.isNone w:=v 9999;cases a<;>simp[gd,execOp,I,h2,eqGuard,binOp,y]
theorem Mu{el:TypeId}(y:P.underlying t=some (.slice el))(v:∀w,(sizeOf el).run P w=.ok k w) :
  (execOp (ev e) ⟨d,.buildSlice t 0 #[],ty,ps,af,none⟩).run P w=.ok (.value (.slice (some ⟨w.heap.size,0,none⟩) 0 0)) (w.alloc (.cells ([]:List Value).toArray el)):=by
 simp[execOp,Instr.buildSlice,run_underlying y,v,newRow,Instr.fill,(Array.eq_empty_of_size_eq_zero (by simp):Array.range 0=#[])]
def Bt(bs:List Int):ByteArray:=bs.foldl (λr n=>r.push (UInt8.ofNat n.toNat)) ByteArray.empty
def c8(bs:List Int):List Value:=bs.map (Value.int .u8)
theorem BZ{el:TypeId}{bs:List Int}(S:P.underlying t=some (.slice el))(I:P.underlying el=some (.int .u8))(hd:P.underlying t'=some .string)(y:ev e x=.slice A bs.length c)(z:Rd w A (c8 bs)) :
  gd P e ⟨d,.convert t t' x,ty,ps,af,none⟩ w (.string (Bt bs)):=by
 have h1:=run_convert_bytes_string w t t' el A bs.length c S I hd;rcases z with O|⟨b,o,rfl,_,D⟩
 ·have:bs=[]:=by simpa [c8]using O
  subst this
  have h2:(Conv.bytesToString (.slice A ([]:List Int).length c)).run P w=.ok (.string ByteArray.empty) w:=by
   cases A with
   |none=>simp[Conv.bytesToString]
   |some a=>exact run_bytesToString w a 0 c [] (by simp[loadCells,loadCellsFrom])
  simp only[gd,execOp,y,Sem.run_bind,h1,h2];rfl
 ·have L:(loadCells ⟨b,o,none⟩ bs.length).run P w=.ok (bs.map _).toArray w:=uR (by simp) (λj v J=>by rw[js];exact D j v J);simp[gd,execOp,y,h1,(run_bytesToString w ⟨b,o,none⟩ bs.length c bs L),Bt]
theorem SY(bs:List Int):(Bt bs).toList=bs.map λn=>UInt8.ofNat n.toNat:=by
 have v:∀(bs:List Int)(s:ByteArray),(bs.foldl (λr n=>r.push (UInt8.ofNat n.toNat)) s).data=s.data++(bs.map λn=>UInt8.ofNat n.toNat).toArray:=by
  intro bs;induction bs with
  |nil=>intro s;simp
  |cons b bs ih=>intro s;rw[pK,ih];simp[ByteArray.push]
 have h:=v bs ByteArray.empty;have h2:∀s:ByteArray,s.toList=s.data.toList:=λs=>ByteArray.toList_eq s;rw[h2];unfold Bt;rw[h];simp
end
def at_(A:Option Addr)(n:Nat):Option Addr:=A.map λa=>⟨a.block,a.off+n,a.spot⟩
def dO(A:Option Addr):Prop:=∃b o,A=some ⟨b,o,none⟩
theorem pS(b o:Nat):dO (some ⟨b,o,none⟩):=⟨b,o,rfl⟩
theorem yW(b o n:Nat):at_ (some ⟨b,o,none⟩) n=some ⟨b,o+n,none⟩:=rfl
def jv(A:Option Addr)(g:Nat):Prop:=A.map (·.block)=some g
theorem B0{o:Nat}{s:Option Nat}(h:jv (some ⟨g,o,s⟩) b):g=b:=by injection h
theorem Rd.someA(h:Rd w A xs)(v:0<xs.length):dO A:=by
 rcases h with rfl|⟨b,o,rfl,_⟩
 ·simp at v
 ·exact⟨b,o,rfl⟩
theorem Rd.cell{o:Nat}(h:Rd w A xs)(D:A=some ⟨b,o,none⟩){v:Value}(z:xs[j]?=some v):w.cell? ⟨b,o+j,none⟩=some v:=by
 rcases h with rfl|⟨b',o',y,_,I⟩
 ·cases z
 ·simp_all
def gH(w:World)(el k:Nat)(A:Option Addr)(n c:Nat)(xs:List Value):Prop:=w.ownsRow 0 el k (.slice A n c) n xs
theorem gH.len(h:gH w el k A n c xs):xs.length=n*k:=h.1
theorem gH.nil(w:World)(el k:Nat):gH w el k none 0 0 []:=World.ownsRow_nil _ _ _ _
theorem gH.form(h:gH w el k A n c xs):(A=none/\n=0/\c=0/\xs=[])\/∃g l,A=some ⟨g,0,none⟩/\eL w g el l/\n<=c/\l.length=c*k/\l.take (n*k)=xs/\c<=maxLen:=by
 obtain⟨L,h⟩:=h;rcases h with⟨z,h2⟩|⟨g,cap,cur,z,_,D,v,I,y,J⟩
 ·simp_all
 ·injection z with h3 h4 h5;subst h3;subst h5;exact .inr ⟨g,cur.toList,rfl,by unfold eL;simpa using D,v,by simpa using y,J,I⟩
theorem gH.mk_(D:eL w g el l)(y:n<=c)(v:l.length=c*k)(z:l.take (n*k)=xs)(I:c<=maxLen):gH w el k (some ⟨g,0,none⟩) n c xs:=by
 refine⟨?_,.inr ⟨g,c,l.toArray,rfl,ib _,D,y,I,by simpa using v,by simpa using z⟩⟩;rw[<-z,d7,v,io (cI _ y)]
theorem gH.keep(h:gH w el k A n c xs)(y:∀g,jv A g->w'.heap[g]?=w.heap[g]?):gH w' el k A n c xs:=by
 rcases h.form with⟨rfl,rfl,rfl,rfl⟩|⟨g,l,rfl,v,I,z,J,D⟩
 ·exact gH.nil _ _ _
 ·exact gH.mk_ (v.keep (y g rfl)) I z J D
theorem gH.lt(h:gH w el k A n c xs)(v:jv A g):g<w.heap.size:=by
 rcases h.form with⟨rfl,_⟩|⟨y,l,rfl,z,_⟩
 ·cases v
 ·have v:y=g:=by injection v
  subst v;exact z.lt
theorem gH.rd(h:gH w el k A n c xs):Rd w A xs:=by
 rcases h.form with⟨rfl,rfl,rfl,rfl⟩|⟨g,l,rfl,y,J,D,L,I⟩
 ·exact .inl rfl
 ·refine .inr ⟨g,0,rfl,y.lt,λj v z=>?_⟩;refine y.cellv ?_;grind
theorem gH.gr(h:gH w el k A n c xs)(g:Gr w w'):gH w' el k A n c xs:=h.keep λb v=>g.block b (h.lt v)
theorem gH.someA(h:gH w el k A n c xs)(v:0<n):dO A:=by
 rcases h.form with⟨_,rfl,_⟩|⟨g,l,rfl,_⟩
 ·omega
 ·exact⟨g,0,rfl⟩
theorem gH.cap(h:gH w el k A n c xs):n<=c:=by
 rcases h.form with⟨_,rfl,rfl,_⟩|⟨g,l,rfl,_,v,_⟩
 ·omega
 ·exact v
theorem gH.congr(h:gH w el k A n c xs)(e:xs=ys):gH w el k A n c ys:=e▸h
theorem gH.take(h:gH w el k A n c xs)(D:m<=n):gH w el k A m c (xs.take (m*k)):=by
 rcases h.form with⟨rfl,rfl,rfl,rfl⟩|⟨g,l,rfl,y,J,z,I,v⟩
 ·simp_all
 ·refine gH.mk_ y om z ?_ v;rw[<-I,nt,io (cI _ D)]
theorem gH.of_blk(y:eL w g el l)(v:l.length=n*k)(z:n<=maxLen):gH w el k (some ⟨g,0,none⟩) n n l :=
 gH.mk_ y om v (by rw[<-v];exact i6) z
theorem gH.one{el:TypeId}{v:Value}(h:gH w el 1 A 1 1 [v]):∃g,A=some ⟨g,0,none⟩/\eL w g el [v]:=by
 rcases h.form with⟨_,h,_⟩|⟨g,l,rfl,y,_,z,D,_⟩
 ·cases h
 ·grind
structure HA where
 own:Nat->Prop
 ok:World->Prop
 st:∀w w':World,(∀g,own g->w'.heap[g]?=w.heap[g]?)->w.heap.size<=w'.heap.size->ok w->ok w'
 lt:∀w:World,ok w->∀g,own g->g<w.heap.size
variable{h h':HA}{L' tl:List HA}
def HA.blk(b t:Nat)(l:List Value):HA:=⟨λg=>g=b,λw=>eL w b t l,λ_ _ h _ hB=>hB.keep (h b rfl),λ_ hB g hg=>hg▸hB.lt⟩
def HA.row(el k:Nat)(A:Option Addr)(n c:Nat)(xs:List Value):HA:=⟨jv A,λw=>gH w el k A n c xs,λ_ _ h _ hR=>hR.keep h,λ_ hR _ hg=>hR.lt hg⟩
def iC(X:Nat->Prop)(w:World):List HA->Prop
 |[]=>True
 |h::r=>(h.ok w/\∀g,h.own g->X g)/\(∀g,h.own g->∀h'∈r,¬h'.own g)/\iC X w r
structure St(F:Nat->Prop)(W w:World)(L:List HA):Prop where
 fr:Fr F W w
 sep:iC (λg=>F g\/W.heap.size<=g) w L
def No:Nat->Prop:=λ_=>False
def gi:List HA->Nat->Option HA
 |[],_=>none
 |h::_,0=>some h
 |_::r,i+1=>gi r i
def j7:List HA->Nat->HA->Option (List HA)
 |[],_,_=>none
 |_::r,0,x=>some (x::r)
 |a::r,i+1,x=>match j7 r i x with
  |some s=>some (a::s)
  |none=>none
section
variable{L:List HA}
theorem iC.get:∀{L:List HA}{i:Nat}{h:HA},iC X w L->gi L i=some h->h.ok w/\∀g,h.own g->X g
 |[],_,_,_,hi=>by cases hi
 |a::r,0,h,S,hi=>by injection hi with hi;subst hi;exact S.1
 |a::r,i+1,h,S,hi=>iC.get (L:=r) S.2.2 hi
theorem Dh:∀{L:List HA}{i:Nat}{h:HA},gi L i=some h->h∈L
 |[],_,_,hi=>by cases hi
 |a::r,0,h,hi=>by injection hi with hi;subst hi;simp
 |a::r,i+1,h,hi=>cW _ (Dh (L:=r) hi)
theorem iC.fr_:∀{L:List HA}{F:Nat->Prop},iC X w L->Fr F w w'->(∀g,F g->g<w.heap.size->∀h∈L,¬h.own g)->(∀h∈L,h.ok w')/\iC X w' L
 |[],_,_,_,_=>⟨λh v=>(by cases v),trivial⟩
 |a::r,F,S,k,hF=>by
  have h1:a.ok w':=a.st w w' (λg z=>k.block g (a.lt w S.1.1 g z) (λy=>hF g y (a.lt w S.1.1 g z) a (by simp) z)) k.size S.1.1
  have h2:=iC.fr_ S.2.2 k (λg y D h v=>hF g y D h (cW _ v));exact⟨λh v=>(dy.1 v).elim (λe=>e▸h1) (h2.1 h),⟨h1,S.1.2⟩,S.2.1,h2.2⟩
theorem iC.gr(S:iC X w L)(k:Gr w w'):iC X w' L:=(S.fr_ (F:=λ_=>False) (Fr.of_gr k) (λ_ h=>h.elim)).2
theorem iC.set:∀{L L':List HA}{i:Nat}{h h':HA}{F:Nat->Prop},iC X w L->gi L i=some h->j7 L i h'=some L'->Fr F w w'->(∀g,F g->h.own g\/w.heap.size<=g)->h'.ok w' ->
  (∀g,h'.own g->h.own g\/w.heap.size<=g)->(∀g,w.heap.size<=g->X g)->iC X w' L'/\(∀h1∈L',h1=h'\/h1∈L)
 |[],_,_,_,_,_,_,hi,_,_,_,_,_,_=>by cases hi
 |a::r,L',0,h,h',F,S,hi,hs,k,hF,ok,ho,hX=>by
  injection hi with hi
  subst hi
  injection hs with hs
  subst hs
  have h2:=iC.fr_ S.2.2 k (λg I V h y=>(hF g I).elim (λe=>S.2.1 g e h y) (λe=>by omega))
  refine⟨⟨⟨ok,λg v=>(ho g v).elim (S.1.2 g) (hX g)⟩,λg v h1 y z=>?_,h2.2⟩,λh1 y=>(dy.1 y).imp id (cW _)⟩
  have J:∃i,gi r i=some h1:=by
   clear h2 S;induction r with
   |nil=>cases y
   |cons b r ih=>exact(dy.1 y).elim (λe=>⟨0,by rw[e];rfl⟩) (λe=>(ih e).elim λi hi=>⟨i+1,hi⟩)
  obtain⟨i,hi⟩:=J;exact(ho g v).elim (λe=>S.2.1 g e h1 y z) (λe=>by have:=h1.lt w (iC.get S.2.2 hi).1 g z;omega)
 |a::r,L',i+1,h,h',F,S,hi,hs,k,hF,ok,ho,hX=>by
  have hi:gi r i=some h:=hi;simp only[j7]at hs;split at hs
  ·rename_i s O;injection hs with hs;subst hs;have ih:=iC.set S.2.2 hi O k hF ok ho hX;have U:=Dh hi;refine⟨⟨⟨(a.st w w' (λg v=>k.block g (a.lt w S.1.1 g v) (λI=>(hF g I).elim (λe=>S.2.1 g v h U e) (λe=>by have:=a.lt w S.1.1 g v;omega))) k.size S.1.1),S.1.2⟩,λg v h2 y D=>?_,ih.1⟩,λh2 y=>(dy.1 y).elim (λe=>.inr (e▸eB)) (λe=>(ih.2 h2 e).imp id (cW _))⟩;rcases ih.2 h2 y with rfl|e
   ·exact(ho g D).elim (S.2.1 g v h U) (λe=>by have:=a.lt w S.1.1 g v;omega)
   ·exact S.2.1 g v h2 e D
  ·cases hs
theorem St.start(W:World):St No W W []:=⟨Fr.refl _ _,trivial⟩
theorem St.start1(W:World)(h:HA)(ok:h.ok W):St h.own W W [h]:=⟨Fr.refl _ _,⟨ok,λ_=>.inl⟩,(λ_ _ _ v=>by cases v),trivial⟩
theorem St.gr(S:St F W w L)(k:Gr w w'):St F W w' L:=⟨S.fr.then_gr k,S.sep.gr k⟩
theorem St.out(S:St No W w L):Gr W w:=S.fr.gr (λ_ h=>h.elim)
theorem St.le(S:St F W w L):W.heap.size<=w.heap.size:=S.fr.size
theorem St.ok(S:St F W w L)(hi:gi L i=some h):h.ok w:=(S.sep.get hi).1
theorem St.blk(S:St F W w L){t:Nat}(hi:gi L i=some (.blk b t l)):eL w b t l:=S.ok hi
theorem St.row(S:St F W w L)(hi:gi L i=some (.row el k A n c xs)):gH w el k A n c xs:=S.ok hi
theorem St.rd(S:St F W w L)(hi:gi L i=some (.row el k A n c xs)):Rd w A xs:=(S.row hi).rd
theorem St.push(S:St F W w L)(k:Gr w w')(ok:h.ok w')(D:∀g,h.own g->w.heap.size<=g):St F W w' (h::L):=by
 have I:=S.sep.gr k;refine⟨S.fr.then_gr k,⟨ok,λg y=>.inr (dE S.le (D g y))⟩,λg y h1 v J=>?_,I⟩;have:=D g y
 have z:∀{L:List HA},iC (λg=>F g\/W.heap.size<=g) w L->h1∈L->h1.ok w:=by
  intro L;induction L with
  |nil=>intro _ v;cases v
  |cons b r ih=>intro S v;exact(dy.1 v).elim (λe=>e▸S.1.1) (ih S.2.2)
 have:=h1.lt w (z S.sep v) g J;omega
theorem St.push2(S:St F W w L){h1 h2:HA}(k:Gr w w')(v:h1.ok w')(J:h2.ok w')(D:∀g,h1.own g->w.heap.size<=g)(I:∀g,h2.own g->w.heap.size<=g)(hd:∀g,h1.own g->¬h2.own g):St F W w' (h1::h2::L):=by
 have y:=S.push k v D;refine⟨y.fr,⟨v,y.sep.1.2⟩,λg O h z=>?_,(S.push k J I).sep⟩;rcases dy.1 z with rfl|z
 ·simp_all
 ·exact y.sep.2.1 g O h z
theorem St.set(S:St F W w L)(hi:gi L i=some h)(J:j7 L i h'=some L')(k:Fr F' w w')(y:∀g,F' g->h.own g\/w.heap.size<=g)(ok:h'.ok w')(I:∀g,h'.own g->h.own g\/w.heap.size<=g):St F W w' L' :=
 ⟨⟨k.os.trans S.fr.os,k.tape.trans S.fr.tape,k.output.trans S.fr.output,dE S.le k.size,λg v z=>by
  refine(k.block g (fg v S.le) (λD=>?_)).trans (S.fr.block g v z);rcases y g D with e|e
  ·rcases (S.sep.get hi).2 g e with e|e
   ·exact z e
   ·omega
  ·have:=S.le;omega⟩,(S.sep.set hi J k y ok I (λg v=>.inr (dE S.le v))).1⟩
theorem St.setPush(S:St F W w L){h2:HA}(hi:gi L i=some h)(hs:j7 L i h'=some L')(k:Fr F' w w')(U:∀g,F' g->h.own g\/w.heap.size<=g)(ok:h'.ok w')(Z:∀g,h'.own g->h.own g\/w.heap.size<=g)(J:h2.ok w')(V:∀g,h2.own g->w.heap.size<=g)(hd:∀g,h2.own g->¬h'.own g):St F W w' (h2::L'):=by
 have O:=S.set hi hs k U ok Z;refine⟨O.fr,⟨J,λg v=>.inr (dE S.le (V g v))⟩,λg v h1 y D=>?_,O.sep⟩;rcases ((S.sep.set hi hs k U ok Z (λg v=>.inr (dE S.le v))).2) h1 y with rfl|z
 ·simp_all
 ·have I:∀{L:List HA},iC (λg=>F g\/W.heap.size<=g) w L->h1∈L->h1.ok w:=by
   intro L;induction L with
   |nil=>intro _ y;cases y
   |cons b r ih=>intro S y;exact(dy.1 y).elim (λe=>e▸S.1.1) (ih S.2.2)
  have:=h1.lt w (I S.sep z) g D;have:=V g v;omega
theorem St.swap{a b:HA}(S:St F W w (a::b::L)):St F W w (b::a::L) :=
 ⟨S.fr,S.sep.2.2.1,λg v h y=>(dy.1 y).elim (λe=>by subst e;exact λz=>S.sep.2.1 g z b (by simp) v) (S.sep.2.2.2.1 g v h),S.sep.1,λg v h y=>S.sep.2.1 g v h (cW _ y),S.sep.2.2.2.2⟩
theorem iC.old(S:St No W w L)(h:iC (λg=>No g\/W.heap.size<=g) w L):iC (λg=>F g\/W.heap.size<=g) w L/\∀h1∈L,∀g,h1.own g->W.heap.size<=g:=by
 clear S;induction L with
 |nil=>exact⟨trivial,λ_ y=>by cases y⟩
 |cons a r ih =>
  have ih:=ih h.2.2;have z:=λg v=>(h.1.2 g v).elim (λe=>e.elim) id;exact⟨⟨⟨h.1.1,λg v=>.inr (z g v)⟩,h.2.1,ih.1⟩,λh1 y=>(dy.1 y).elim (λe=>e▸z) (ih.2 h1)⟩
theorem St.own1(S:St No W w L)(h1:HA)(v:h1.ok W):St h1.own W w (h1::L):=by
 have z:=iC.old (F:=h1.own) S S.sep;refine⟨Fr.of_gr S.out,⟨h1.st W w (λg y=>S.out.block g (h1.lt W v g y)) S.le v,λg y=>.inl y⟩,λg y h D I=>?_,z.1⟩;have:=z.2 h D g I;have:=h1.lt W v g y;omega
theorem St.own2(S:St No W w L)(h1 h2:HA)(z:h1.ok W)(y:h2.ok W)(hd:∀g,h1.own g->¬h2.own g):St (λg=>h1.own g\/h2.own g) W w (h1::h2::L):=by
 have D:=iC.old (F:=λg=>h1.own g\/h2.own g) S S.sep
 have J:∀h:HA,h.ok W->∀g,h.own g->∀h'∈L,¬h'.own g:=λh ok g v h' I O=>by
  have:=D.2 h' I g O;have:=h.lt W ok g v;omega
 refine⟨Fr.of_gr S.out,⟨h1.st W w (λg v=>S.out.block g (h1.lt W z g v)) S.le z,λg v=>.inl (.inl v)⟩,λg v h I=>?_,⟨h2.st W w (λg v=>S.out.block g (h2.lt W y g v)) S.le y,λg v=>.inl (.inr v)⟩,J h2 y,D.1⟩;grind
theorem St.as_(S:St F W w L)(hi:gi L i=some h)(z:j7 L i h'=some L')(ok:h.ok w->h'.ok w)(y:∀g,h'.own g->h.own g):St F W w L' :=
 S.set hi z (Fr.refl No w) (λ_ h=>h.elim) (ok (S.ok hi)) (λg v=>.inl (y g v))
theorem St.drop(S:St F W w L)(n:Nat):St F W w (L.drop n):=by
 refine⟨S.fr,?_⟩;have h:=S.sep;clear S;induction n generalizing L with
 |zero=>simpa using h
 |succ n ih=>cases L with
  |nil=>trivial
  |cons a r=>exact ih h.2.2
theorem St.only(S:St F W w L)(hi:gi L i=some h):St F W w [h]:=⟨S.fr,S.sep.get hi,(λ_ _ _ v=>by cases v),trivial⟩
theorem iC.mem(S:iC X w L)(v:h∈L):h.ok w/\∀g,h.own g->X g:=by
 induction L with
 |nil=>cases v
 |cons b r ih=>exact(dy.1 v).elim (λe=>e▸S.1) (ih S.2.2)
theorem St.frw(S:St F W w L)(v:∀g,F g->F' g):St F' W w L:=by
 refine⟨S.fr.weak v,?_⟩;have h:=S.sep;clear S;induction L with
 |nil=>trivial
 |cons a r ih=>exact⟨⟨h.1.1,λg y=>(h.1.2 g y).imp (v g) id⟩,h.2.1,ih h.2.2⟩
end
section
variable{rest:List Oper}{L:List HA}
variable{ps:String}
theorem yY{v:Value}(h:(execOp (ev e) ⟨d,op,ty,ps,af,none⟩).run P w=.ok (.value v) (w.alloc (.cells l.toArray t)))(S:St F W w L)(z:∀w',Gr w w'->St F W w' (.blk w.heap.size t l::L)->RW P ops Q rest (fI e d v) w'):RW P ops Q (⟨d,op,ty,ps,af,none⟩::rest) e w :=
 wZ h (z _ (Gr.alloc _ _) (S.push (Gr.alloc _ _) (eL.new _ _ _) (λg y=>uN y.symm)))
theorem kq(h:(execOp (ev e) ⟨d,op,ty,ps,af,none⟩).run P w=.ok (.value (.pointer (some ⟨w.heap.size,0,none⟩))) (w.alloc (.cells l.toArray t)))(S:St F W w L)(y:∀b w',Gr w w'->St F W w' (.blk b t l::L)->RW P ops Q rest (fI e d (.pointer (some ⟨b,0,none⟩))) w'):RW P ops Q (⟨d,op,ty,ps,af,none⟩::rest) e w :=
 yY h S (λw' g v=>y _ w' g v)
theorem St.setBlk(S:St F W w L){t:Nat}(hi:gi L i=some (.blk b t l))(z:j7 L i (.blk b t l')=some L')(y:w.grownBy w' (some b))(v:eL w' b t l'):St F W w' L' :=
 S.set hi z (Fr.of_grown y (λg e=>by injection e with e;exact e.symm)) (λg e=>.inl e) v (λg e=>.inl e)
theorem iy{tb:TypeId}{y:Operand}{o:Nat}{v:Value}(S:St F W w L)(hi:gi L i=some (.blk b tb l))(hz:(sizeOf t).run P w=.ok 1 w)(Z:ev e x=.pointer (some ⟨b,o,none⟩))(hy:fz (ev e y)=some v)(V:v.oneCell'=true)(z:v.cells=#[v])(J:l[o]?=some u)(U:j7 L i (.blk b tb (l.set o v))=some L')(O:∀w',St F W w' L'->RW P ops Q rest (fI e d undef) w'):RW P ops Q (⟨d,.store t x y,ty,ps,af,none⟩::rest) e w :=
 Hv hz Z hy V z (S.blk hi) J λw' I _ D=>O w' (S.setBlk hi U I D)
theorem d8{tb:TypeId}{y:Operand}{o:Nat}{cs:List Value}(S:St F W w L)(hi:gi L i=some (.blk b tb l))(hz:(sizeOf t).run P w=.ok n w)(Z:ev e x=.pointer (some ⟨b,o,none⟩))(hy:ev e y=.agg cs.toArray)(J:cs.length=n)(z:lj (l.take o++cs++l.drop (o+n))=some l')(O:((cs.all λv=>v.oneCell')&&Nat.ble (o+n) l.length)=true)(V:j7 L i (.blk b tb l')=some L')(U:∀w',St F W w' L'->RW P ops Q rest (fI e d undef) w'):RW P ops Q (⟨d,.store t x y,ty,ps,af,none⟩::rest) e w :=
 Bq hz Z hy J (S.blk hi) z O λw' I _ D=>U w' (S.setBlk hi V I D)
theorem sj{el:TypeId}{i:Operand}{len cap:Nat}{kd:IntKind}{n:Int}(z:P.underlying t=some (.slice el))(I:∀w,(sizeOf el).run P w=.ok k w)(D:ev e x=.slice A len cap)(hi:ev e i=.int kd n)(y:dO A)(v:0<=n)(h1:n<len) :
  iE P e ⟨d,.indexAddr t x i,ty,ps,af,none⟩ (.pointer (at_ A (n.toNat * k))):=by
 obtain⟨b,o,rfl⟩:=y;exact vo z I D hi v h1
theorem Pb{f:Nat}(D:P.underlying t=some (.struct fs))(y:fs[f]?=some fd)(J:∀w,(sizeOf fd.type).run P w=.ok n w)(z:Nat.beq n 0=false)(I:ev e x=.pointer (at_ A m))(v:dO A) :
  iE P e ⟨d,.fieldAddr t x f,ty,ps,af,none⟩ (.pointer (at_ A (m+fd.offset))):=by
 obtain⟨b,o,rfl⟩:=v;have:=du (d:=d) (ty:=ty) (ps:=ps) (af:=af) D y J z I;rwa[mI]at this
theorem Pc(y:ev e x=.pointer (at_ A m))(v:dO A):iE P e ⟨d,.nilCheck x,ty,ps,af,none⟩ (.pointer (at_ A m)):=by
 obtain⟨b,o,rfl⟩:=v;refine jx ?_;simp only[n7,y,yW]
theorem eI{v:Value}(D:P.underlying t=some dd)(hd:sM dd=false)(I:ev e x=.pointer (at_ A m))(y:Rd w A xs)(z:xs[m]?=some v):gd P e ⟨d,.load t x,ty,ps,af,none⟩ w v:=by
 obtain⟨b,o,rfl⟩:=y.someA (by have:=(dq.1 z).1;omega);exact xE D hd I (y.cell rfl z)
theorem fb{cs:List Value}(L:P.underlying t=some dd)(hd:sM dd=true)(S:(sizeOf t).run P w=.ok n w)(O:ev e x=.pointer (at_ A m))(y:Rd w A xs)(V:(xs.drop m).take n=cs)(I:cs.length=n)(z:Nat.blt 0 n=true) :
  gd P e ⟨d,.load t x,ty,ps,af,none⟩ w (.agg cs.toArray):=by
 have J:=eC z
 have D:0<xs.length:=by
  grind
 obtain⟨b,o,rfl⟩:=y.someA D;refine Dd L hd S O I λj v U=>?_;rw[mI];refine y.cell rfl ?_;grind
theorem jk{y:Operand}{v:Value}(S:St F W w L)(hi:gi L i=some (.row el k A n c xs))(hz:(sizeOf t).run P w=.ok 1 w)(hx:ev e x=.pointer (at_ A j))(hy:fz (ev e y)=some v)(hv:v.oneCell'=true)(D:v.cells=#[v])(hj:j<xs.length)(hs:j7 L i (.row el k A n c (xs.set j v))=some L')(hr:∀w',St F W w' L'->RW P ops Q rest (fI e d undef) w'):RW P ops Q (⟨d,.store t x y,ty,ps,af,none⟩::rest) e w:=by
 have J:=S.row hi;rcases J.form with⟨rfl,rfl,rfl,rfl⟩|⟨g,l,rfl,Z,V,O,ht,hm⟩
 ·simp at hj
 ·have U:=J.len;have aa:n*k<=l.length:=by rw[O];exact cI _ V
  have I:ev e x=.pointer (some ⟨g,j,none⟩):=by rw[hx,yW,eH]
  refine Hv hz I hy hv D Z (fw om) λw' hg _ z=>hr w' ?_
  refine S.set hi hs (Fr.of_grown (F:=λb=>b=g) hg (λb e=>by injection e with e;exact e.symm)) (λb e=>.inl (by rw[e];rfl)) (gH.mk_ z V (by simpa using O) ?_ hm) (λb e=>.inl e);rw[qR,ht]
theorem tF{y:Operand}{s:Nat}{cs:List Value}(S:St F W w L)(hi:gi L i=some (.row el k A n c xs))(hz:(sizeOf t).run P w=.ok s w)(hx:ev e x=.pointer (at_ A j))(hy:ev e y=.agg cs.toArray)(z:cs.length=s)(D:(cs.all λv=>v.oneCell')=true)(hj:j+s<=xs.length)(hs:j7 L i (.row el k A n c (xs.take j++cs++xs.drop (j+s)))=some L')(h0:Nat.blt 0 s=true)(hr:∀w',St F W w' L'->RW P ops Q rest (fI e d undef) w'):RW P ops Q (⟨d,.store t x y,ty,ps,af,none⟩::rest) e w:=by
 have V:=S.row hi;rcases V.form with⟨rfl,rfl,rfl,rfl⟩|⟨g,l,rfl,hB,hn,hl,ht,hm⟩
 ·simp_all
 ·have Z:=V.len;have ab:n*k<=l.length:=by rw[hl];exact cI _ hn
  obtain⟨w',O,J,aa,I⟩:=xt (P:=P) (o:=j) cs 0 w l hB (λu hu=>dh.1 D u hu) om;have h6:(Value.agg cs.toArray).cells=cs.toArray:=rfl;have U:ev e x=.pointer (some ⟨g,j,none⟩):=by rw[hx,yW,eH]
  refine O9 (w':=w') ?_ (hr w' ?_)
  ·simp[execOp,U,hy,Instr.storeAt,Instr.sureAddr,storeVar,hz,h6,z,O]
  ·refine S.set hi hs (Fr.of_grown (F:=λb=>b=g) J (λb e=>by injection e with e;exact e.symm)) (λb e=>.inl (by rw[e];rfl)) (gH.mk_ I hn ?_ ?_ hm) (λb e=>.inl e)
   ·simp;omega
   ·rw[eW,z,cL,jB,nt,ms om,jB,<-ht];rw[(fN (by simp;omega):(cs.take (n*k-(l.take j).length))=cs),(by simp;omega:n*k-(l.take j).length-cs.length=n*k-(j+s)),nt,io om,List.drop_take,<-cL]
theorem fM{s:Operand}{t:Nat}{z:Value}{f:HA->List HA}(S:St F W w L)(hi:gi L i=some (.row el k A n c xs))(hf:∀h,j7 L i h=some (f h))(V:P.underlying t=some (.slice el))(hI:(P.info? el).map (λi=>(i.zero,i.size,i.bytes))=some (some z,k,bytes))(hz:Nat.beq z.cells.size k=true)(hk:Nat.blt 0 k=true)(hs:ev e s=.slice A n c)(hx:ev e x=.slice B m c2)(hm:ys.length=m*k)(Z:0<m)(hR:Rd w B ys)(h1:(ys.all λv=>v.oneCell')=true)(hb:(n+m)*(bytes+1)<=140737488355328)(hr:∀D c' w',St F W w' (f (.row el k D (n+m) c' (xs++ys)))->dO D->RW P ops Q rest (fI e d (.slice D (n+m) c')) w') :
  RW P ops Q (⟨d,.call ⟨.builtin .append,#[s,x],#[t,t]⟩,ty,ps,af,none⟩::rest) e w:=by
 obtain⟨ae,I,ab,ac,ad⟩:=info_parts hI;have J:=eC hk;have aa:=eU hz;have ag:=dE (eS _ om) hb;obtain⟨b,o,rfl⟩:=hR.someA (by rw[hm];exact j5 Z J)
 obtain⟨v',w',U,ho,hg,_,O⟩:=run_append_own_at w 0 t ty el ae z k bytes V I ab ac ad aa J _ n xs (S.row hi) ⟨b,o,none⟩ m c2 ys hm
  (λj u V=>by rw[js];exact hR.cell rfl V) (λu V=>dh.1 h1 u V) (by unfold maxLen;omega) (dE (eZ _ om) hb) om
 obtain⟨D,c',rfl⟩:=wa.form ho;have y:gH w' el k D _ c' _:=ho;refine wZ (w':=w') ?_ (hr D c' w' ?_ (y.someA om))
 ·simp[execOp,resolve,invoke,builtin,hs,hx,U]
 ·refine S.set hi (hf _) (Fr.of_grown hg (λg e=>?_)) (λg e=>.inl e) y (λg e=>?_)
  ·cases A with
   |none=>cases e
   |some a=>exact e
  ·have e':(Value.slice D (n+m) c').ownBlock=some g:=by
    cases D with
    |none=>cases e
    |some a=>exact e
   rw[e']at O;rcases O with h|h
   ·left;cases A with
    |none=>cases h
    |some a=>exact h.symm
   ·simp_all
theorem Di{el:TypeId}{y:Operand}{z:Value}{m p:Int}(hu:P.underlying t=some (.slice el))(Z:(P.info? el).map (λi=>(i.zero,i.size,i.bytes))=some (some z,k,bytes))(V:Nat.beq z.cells.size k=true)(hx:ev e x=.int kl m)(hy:ev e y=.int kc p)(hm:m=(n:Nat))(hp:p=(c:Nat))(I:n<=c)(D:c*(bytes+1)<=140737488355328)(S:St F W w L)(hr:∀A w',Gr w w'->St F W w' (.row el k A n c (List.replicate n z.cells.toList).flatten::L)->dO A->RW P ops Q rest (fI e d (.slice A n c)) w') :
  RW P ops Q (⟨d,.makeSlice t x y,ty,ps,af,none⟩::rest) e w:=by
 have h:=Fe (w:=w) (d:=d) (ty:=ty) (ps:=ps) (af:=af) hu Z V hx hy hm hp I D;have O:=eU V;have aa:=dE (eS _ om) D;refine yY h S λw' g U=>hr _ w' g ?_ (pS _ _);have v:∀q:Nat,(List.replicate q z.cells.toList).flatten.length=q*k:=λq=>by simp[O]
 have J:gH w' el k (some ⟨w.heap.size,0,none⟩) n c (List.replicate n z.cells.toList).flatten:=by
  refine gH.mk_ (U.blk (i:=0) rfl) I (v c) ?_ (by unfold maxLen;omega);rw[(om:c=n+(c-n)),<-List.replicate_append_replicate,pw,List.take_left' (v n)]
 exact U.set (i:=0) rfl rfl (Fr.refl No w') (λ_ h=>h.elim) J (λb D=>.inl (by injection D with D;exact D.symm))
theorem nD{el:TypeId}{y:Operand}{z:Value}{m p:Int}(Z:P.underlying t=some (.slice el))(I:(P.info? el).map (λi=>(i.zero,i.size,i.bytes))=some (some z,1,bytes))(hz:z.cells=#[z])(hx:ev e x=.int kl m)(hy:ev e y=.int kc p)(O:m=(n:Nat))(U:p=(c:Nat))(v:n<=c)(J:c*(bytes+1)<=140737488355328)(S:St F W w L)(V:∀A w',Gr w w'->St F W w' (.row el 1 A n c (List.replicate n z)::L)->dO A->RW P ops Q rest (fI e d (.slice A n c)) w') :
  RW P ops Q (⟨d,.makeSlice t x y,ty,ps,af,none⟩::rest) e w:=by
 refine Di Z I (by rw[hz];rfl) hx hy O U v J S λA w' g S' D=>V A w' g ?_ D;simp_all
theorem Mv{el:TypeId}{v:List (Nat×Operand)}{z:Value}{l0:List Value}(hu:P.underlying t=some (.slice el))(hs:∀w,(sizeOf el).run P w=.ok k w)(hz:∀w,(zeroValue el).run P w=.ok z w)(Z:z.cells.toList.length=k)(y:Nat.beq (n*k) 0=false)(V:Nat.ble (n*k) 16777216=true)(h1:yS (λi=>some (i*k,k)) ((List.replicate n z.cells.toList).flatten) (yQ e v)=some l0)(h2:lj l0=some l)(hl:Nat.beq l.length (n*k)=true)(S:St F W w L)(hr:∀A w',Gr w w'->St F W w' (.row el k A n n l::L)->dO A->RW P ops Q rest (fI e d (.slice A n n)) w') :
  RW P ops Q (⟨d,.buildSlice t n v.toArray,ty,ps,af,none⟩::rest) e w:=by
 refine yY (mu hu hs hz Z y V h1 h2) S λw' g U=>hr _ w' g ?_ (pS _ _);have D:n*k≠0:=by intro h;rw[h]at y;cases y
 have O:0<k:=fT λh=>by rw[h]at D;simp at D
 have aa:n<=n*k:=eS _ O
 have I:gH w' el k (some ⟨w.heap.size,0,none⟩) n n l :=
  gH.of_blk (U.blk (i:=0) rfl) (eU hl) (by have:=eC V;unfold maxLen;omega)
 exact U.set (i:=0) rfl rfl (Fr.refl No w') (λ_ h=>h.elim) I (λb J=>.inl (by injection J with J;exact J.symm))
theorem mv{el:TypeId}(I:P.underlying t=some (.slice el))(D:∀w,(sizeOf el).run P w=.ok k w)(S:St F W w L)(z:∀A w',Gr w w'->St F W w' (.row el k A 0 0 []::L)->dO A->RW P ops Q rest (fI e d (.slice A 0 0)) w') :
  RW P ops Q (⟨d,.buildSlice t 0 #[],ty,ps,af,none⟩::rest) e w:=by
 refine yY (Mu I D) S λw' g y=>z _ w' g ?_ (pS _ _);exact y.set (i:=0) rfl rfl (Fr.refl No w') (λ_ h=>h.elim) (gH.of_blk (y.blk (i:=0) rfl) (by simp) om) (λb v=>.inl (by injection v with v;exact v.symm))
end
theorem iC.sub:∀{L' L:List HA},L'.Sublist L->iC X w L->iC X w L'
 |_,_,.slnil,_=>trivial
 |_,_,.cons _ h,S=>iC.sub h S.2.2
 |_,_,.cons_cons _ h,S=>⟨S.1,λg hg h' hh=>S.2.1 g hg h' (h.subset hh),iC.sub h S.2.2⟩
theorem St.sub{L:List HA}(S:St F W w L)(h:L'.Sublist L):St F W w L':=⟨S.fr,S.sep.sub h⟩
theorem St.pushNil{L:List HA}(S:St F W w L)(el k:Nat):St F W w (.row el k none 0 0 []::L) :=
 S.push (Gr.refl w) (gH.nil _ _ _) (λg v=>by cases v)
def tr(W:World)(A:Option Addr):Prop:=∀g,jv A g->W.heap.size<=g
def jc(mk:Value->Value)(el k n:Nat)(xs:List Value)(w:World):Value->World->Prop:=λv' w'=>∃A c,v'=mk (.slice A n c)/\gH w' el k A n c xs/\tr w A/\Gr w w'
theorem St.pushRow{L:List HA}(S:St F W w L)(v:gH w' el k A n c xs)(y:tr w A)(g:Gr w w'):St F W w' (.row el k A n c xs::L) :=
 S.push g v y
theorem iC.fresh{L:List HA}(S:St No W w L)(hi:gi L i=some (.row el k A n c xs)):tr W A:=λg v=>((S.sep.get hi).2 g v).elim (λh=>h.elim) id
theorem St.retNew{L:List HA}{mk:Value->Value}(S:St No W w L)(hi:gi L i=some (.row el k A n c xs)):jc mk el k n xs W (mk (.slice A n c)) w :=
 ⟨A,c,rfl,S.row hi,iC.fresh S hi,S.out⟩
theorem wI : ∀ (L : List HA) (i : Nat), gi L i = L[i]?
  | [], i => by simp [gi]
  | h :: r, 0 => rfl
  | h :: r, i + 1 => by simp [gi, wI r i]
class Sc (P : Program) (t : Nat) : Prop where h : ∃ dd, P.underlying t = some dd ∧ sM dd = false
class Ag (P : Program) (t : Nat) (n : outParam Nat) : Prop where h : (∃ dd, P.underlying t = some dd ∧ sM dd = true) ∧ (∀ w, (sizeOf t).run P w = .ok n w) ∧ Nat.blt 0 n = true
class Sl (P : Program) (t : Nat) (k : outParam Nat) : Prop where h : ∃ el, P.underlying t = some (.slice el) ∧ ∀ w, (sizeOf el).run P w = .ok k w
class Fl (P : Program) (t f : Nat) (o : outParam Nat) : Prop where h : ∃ fs fd n, P.underlying t = some (.struct fs) ∧ fs[f]? = some fd ∧ (∀ w, (sizeOf fd.type).run P w = .ok n w) ∧ Nat.beq n 0 = false ∧ fd.offset = o
class Pt (P : Program) (t : Nat) : Prop where h : ∃ te, P.underlying t = some (.pointer te)
section
variable{ps:String}
theorem oF {t f o k : Nat} {x : Operand} {b : Nat} [i : Fl P t f k] (hx : ev e x = .pointer (some ⟨b, o, none⟩)) : iE P e ⟨d, .fieldAddr t x f, ty, ps, af, none⟩ (.pointer (some ⟨b, o + k, none⟩)) := by
  obtain ⟨fs, fd, n, h1, h2, h3, h4, rfl⟩ := i.h
  exact du h1 h2 h3 h4 hx
theorem oG {t f k m : Nat} {x : Operand} {A : Option Addr} [i : Fl P t f k] (hx : ev e x = .pointer (at_ A m)) (hA : dO A) : iE P e ⟨d, .fieldAddr t x f, ty, ps, af, none⟩ (.pointer (at_ A (m + k))) := by
  obtain ⟨fs, fd, n, h1, h2, h3, h4, rfl⟩ := i.h
  exact Pb h1 h2 h3 h4 hx hA
theorem oI {t : Nat} {x i : Operand} {len cap k : Nat} {A : Option Addr} {kd : IntKind} {n : Int} [c : Sl P t k] (hx : ev e x = .slice A len cap) (hi : ev e i = .int kd n) (hA : dO A) (h0 : 0 ≤ n) (h1 : n < len) :
    iE P e ⟨d, .indexAddr t x i, ty, ps, af, none⟩ (.pointer (at_ A (n.toNat * k))) := by
  obtain ⟨el, g1, g2⟩ := c.h
  exact sj g1 g2 hx hi hA h0 h1
theorem oL {t : Nat} {x : Operand} {A : Option Addr} {n c k : Nat} [i : Sl P t k] (hx : ev e x = .slice A n c) : iE P e ⟨d, .call ⟨.builtin .len, #[x], #[t]⟩, ty, ps, af, none⟩ (.int .i64 n) := by
  obtain ⟨el, g1, g2⟩ := i.h
  exact p6 g1 hx
theorem oN {t t' : Nat} {x : Operand} {a : Option Addr} {B : Bool} [i : Pt P t] (hx : ev e x = .pointer a) (hB : a.isNone = B) : iE P e ⟨d, .binOp .eql t x (.const (.pointer none)) t', ty, ps, af, none⟩ (.bool B) := by
  obtain ⟨te, g⟩ := i.h
  exact S9 g hx hB
theorem oW {o : BinOp} {t t' : TypeId} {x y : Operand} {n : Int} (h : n7 (ev e) (.binOp o t x y t') = some (.int .i64 (IntKind.i64.wrap n))) (hr : -9223372036854775808 ≤ n ∧ n ≤ 9223372036854775807) : iE P e ⟨d, .binOp o t x y t', ty, ps, af, none⟩ (.int .i64 n) := fh h hr
theorem oU {o : UnOp} {t : TypeId} {x : Operand} {n : Int} (h : n7 (ev e) (.unOp o t x) = some (.int .i64 (IntKind.i64.wrap n))) (hr : -9223372036854775808 ≤ n ∧ n ≤ 9223372036854775807) : iE P e ⟨d, .unOp o t x, ty, ps, af, none⟩ (.int .i64 n) := fh h hr
theorem oC {o : BinOp} {t t' : TypeId} {x y : Operand} {B : Bool} (b : Bool) (h : n7 (ev e) (.binOp o t x y t') = some (.bool B)) (hr : B = b) : iE P e ⟨d, .binOp o t x y t', ty, ps, af, none⟩ (.bool b) := ff h hr
section
variable{L:List HA}
theorem oB {t tb b o : Nat} {x : Operand} {v : Value} {l : List Value} [i : Sc P t] (hx : ev e x = .pointer (some ⟨b, o, none⟩)) (S : St F W w L) (hm : HA.blk b tb l ∈ L) (hl : l[o]? = some v) : gd P e ⟨d, .load t x, ty, ps, af, none⟩ w v := by
  obtain ⟨dd, g1, g2⟩ := i.h
  obtain ⟨j, hj⟩ := jI hm
  exact cV g1 g2 hx (S.blk (i := j) (by rw [wI]; exact hj)) hl
theorem oA {t tb b o n : Nat} {x : Operand} {cs l : List Value} [i : Ag P t n] (hx : ev e x = .pointer (some ⟨b, o, none⟩)) (S : St F W w L) (hm : HA.blk b tb l ∈ L) (hl : lj ((l.drop o).take n) = some cs) (hn : cs.length = n) : gd P e ⟨d, .load t x, ty, ps, af, none⟩ w (.agg cs.toArray) := by
  obtain ⟨⟨dd, g1, g2⟩, g3, _⟩ := i.h
  obtain ⟨j, hj⟩ := jI hm
  exact fx g1 g2 (g3 _) hx (S.blk (i := j) (by rw [wI]; exact hj)) hl hn
theorem oR {t el k n c m : Nat} {x : Operand} {v : Value} {A : Option Addr} {xs : List Value} [i : Sc P t] (hx : ev e x = .pointer (at_ A m)) (S : St F W w L) (hm : HA.row el k A n c xs ∈ L) (hv : xs[m]? = some v) : gd P e ⟨d, .load t x, ty, ps, af, none⟩ w v := by
  obtain ⟨dd, g1, g2⟩ := i.h
  obtain ⟨j, hj⟩ := jI hm
  exact eI g1 g2 hx (S.rd (i := j) (by rw [wI]; exact hj)) hv
theorem oO {t m : Nat} {x : Operand} {v : Value} {A : Option Addr} {xs : List Value} [i : Sc P t] (hx : ev e x = .pointer (at_ A m)) (hR : Rd w A xs) (hv : xs[m]? = some v) : gd P e ⟨d, .load t x, ty, ps, af, none⟩ w v := by
  obtain ⟨dd, g1, g2⟩ := i.h
  exact eI g1 g2 hx hR hv
end
end
section
variable{rest:List Oper}{ps:String}
theorem B4 {j : Nat} {b : Bool} (h : yE ops e j = some b) (f : G' → RW P ops Q (⟨d, op, ty, ps, af, none⟩ :: rest) e w) : G' → RW P ops Q (⟨d, op, ty, ps, af, some (j, b)⟩ :: rest) e w := fun k => dr h (f k)
theorem IR {j : Nat} {b : Bool} (h : yE ops e j = some b) (f : G' → RQ P ops C Qq (⟨d, op, ty, ps, af, none⟩ :: rest) e) : G' → RQ P ops C Qq (⟨d, op, ty, ps, af, some (j, b)⟩ :: rest) e := fun k => fO h (f k)
theorem zs (k : G') (h : G' → G := by
    (intro k
     repeat (first
       | with_reducible refine dm ?_
       | with_reducible refine dz ?_
       | (with_reducible refine eF ?_)
       | ((with_reducible refine gO ?_); try show CW _ _ _ _ _ _)
       | ((with_reducible refine eX ?hc ?_); case hc => rfl)
       | ((with_reducible refine jr ?hc ?_); case hc => rfl)
       | with_reducible refine k0 ?_
       | ((with_reducible refine di ?_); show CW _ _ _ _ _ _))
     exact k)) : G := h k
theorem zi (h : G' → RW P ops Q (⟨d, op, ty, ps, af, none⟩ :: rest) e w := by
    first
      | exact dU (by exact jx rfl)
      | exact dU (by exact oF rfl)
      | exact dU (by exact oL rfl)
      | exact dU (by exact oG rfl (by assumption))
      | exact dH (by exact oB rfl (by assumption) (by repeat (first | with_reducible exact eB | with_reducible refine cW _ ?_)) rfl)
      | exact dH (by exact oA rfl (by assumption) (by repeat (first | with_reducible exact eB | with_reducible refine cW _ ?_)) (by rfl) (by rfl))
      | exact dU (by exact oN rfl rfl)) : G' → RW P ops Q (⟨d, op, ty, ps, af, none⟩ :: rest) e w := h
theorem z (k : G') (h : G' → G := by
    (intro k
     repeat (first
       | with_reducible refine dm ?_
       | with_reducible refine dz ?_
       | (with_reducible refine eF ?_)
       | ((with_reducible refine gO ?_); try show CW _ _ _ _ _ _)
       | ((with_reducible refine eX ?hc ?_); case hc => rfl)
       | ((with_reducible refine jr ?hc ?_); case hc => rfl)
       | with_reducible refine k0 ?_
       | ((with_reducible refine di ?_); show CW _ _ _ _ _ _))
     revert k
     first
       | exact zi
       | exact eD (by rfl)
       | exact B4 (by rfl) zi)) : G := h k
theorem XY (h : G' → RW P ops Q (⟨d, op, ty, ps, af, none⟩ :: rest) e w := by
    first
      | exact dU (by exact oW rfl (by omega))
      | exact dU (by exact oU rfl (by omega))) : G' → RW P ops Q (⟨d, op, ty, ps, af, none⟩ :: rest) e w := h
theorem zr (k : G') (h : G' → G := by
    (intro k
     repeat (first
       | with_reducible refine dm ?_
       | with_reducible refine dz ?_
       | (with_reducible refine eF ?_)
       | ((with_reducible refine gO ?_); try show CW _ _ _ _ _ _)
       | ((with_reducible refine eX ?hc ?_); case hc => rfl)
       | ((with_reducible refine jr ?hc ?_); case hc => rfl)
       | with_reducible refine k0 ?_
       | ((with_reducible refine di ?_); show CW _ _ _ _ _ _))
     revert k
     first
       | exact XY
       | exact eD (by rfl)
       | exact B4 (by rfl) XY)) : G := h k
theorem XZ (h : G' → RW P ops Q (⟨d, op, ty, ps, af, none⟩ :: rest) e w := by
    first
      | exact dU (by exact oC true rfl (decide_eq_true (by omega)))
      | exact dU (by exact oC true rfl (beq_iff_eq.2 (by omega)))
      | exact dU (by exact oC true rfl (bne_iff_ne.2 (by omega)))) : G' → RW P ops Q (⟨d, op, ty, ps, af, none⟩ :: rest) e w := h
theorem zt (k : G') (h : G' → G := by
    (intro k
     repeat (first
       | with_reducible refine dm ?_
       | with_reducible refine dz ?_
       | (with_reducible refine eF ?_)
       | ((with_reducible refine gO ?_); try show CW _ _ _ _ _ _)
       | ((with_reducible refine eX ?hc ?_); case hc => rfl)
       | ((with_reducible refine jr ?hc ?_); case hc => rfl)
       | with_reducible refine k0 ?_
       | ((with_reducible refine di ?_); show CW _ _ _ _ _ _))
     revert k
     first
       | exact XZ
       | exact eD (by rfl)
       | exact B4 (by rfl) XZ)) : G := h k
theorem X3 (h : G' → RW P ops Q (⟨d, op, ty, ps, af, none⟩ :: rest) e w := by
    first
      | exact dU (by exact oC false rfl (decide_eq_false (by omega)))
      | exact dU (by exact oC false rfl (beq_eq_false_iff_ne.2 (by omega)))
      | exact dU (by exact oC false rfl (bne_eq_false_iff_eq.2 (by omega)))) : G' → RW P ops Q (⟨d, op, ty, ps, af, none⟩ :: rest) e w := h
theorem zf (k : G') (h : G' → G := by
    (intro k
     repeat (first
       | with_reducible refine dm ?_
       | with_reducible refine dz ?_
       | (with_reducible refine eF ?_)
       | ((with_reducible refine gO ?_); try show CW _ _ _ _ _ _)
       | ((with_reducible refine eX ?hc ?_); case hc => rfl)
       | ((with_reducible refine jr ?hc ?_); case hc => rfl)
       | with_reducible refine k0 ?_
       | ((with_reducible refine di ?_); show CW _ _ _ _ _ _))
     revert k
     first
       | exact X3
       | exact eD (by rfl)
       | exact B4 (by rfl) X3)) : G := h k
theorem X4 (h : G' → RW P ops Q (⟨d, op, ty, ps, af, none⟩ :: rest) e w := by
    first
      | exact dU (by exact oI rfl rfl (by assumption) (by omega) (by omega))) : G' → RW P ops Q (⟨d, op, ty, ps, af, none⟩ :: rest) e w := h
theorem zx (k : G') (h : G' → G := by
    (intro k
     repeat (first
       | with_reducible refine dm ?_
       | with_reducible refine dz ?_
       | (with_reducible refine eF ?_)
       | ((with_reducible refine gO ?_); try show CW _ _ _ _ _ _)
       | ((with_reducible refine eX ?hc ?_); case hc => rfl)
       | ((with_reducible refine jr ?hc ?_); case hc => rfl)
       | with_reducible refine k0 ?_
       | ((with_reducible refine di ?_); show CW _ _ _ _ _ _))
     revert k
     first
       | exact X4
       | exact eD (by rfl)
       | exact B4 (by rfl) X4)) : G := h k
theorem yi (h : G' → RQ P ops C Qq (⟨d, op, ty, ps, af, none⟩ :: rest) e := by
    first
      | exact eO (by exact jx rfl)
      | exact eO (by exact oF rfl)
      | exact eO (by exact oL rfl)
      | exact eO (by exact oG rfl (by assumption))
      | exact eO (by exact oN rfl rfl)) : G' → RQ P ops C Qq (⟨d, op, ty, ps, af, none⟩ :: rest) e := h
theorem y (k : G') (h : G' → G := by
    first
      | exact yi
      | exact iN (by rfl)
      | exact IR (by rfl) yi) : G := h k
theorem jz (h : G' → RQ P ops C Qq (⟨d, op, ty, ps, af, none⟩ :: rest) e := by
    first
      | exact eO (by exact oW rfl (by omega))
      | exact eO (by exact oU rfl (by omega))) : G' → RQ P ops C Qq (⟨d, op, ty, ps, af, none⟩ :: rest) e := h
theorem yr (k : G') (h : G' → G := by
    first
      | exact jz
      | exact iN (by rfl)
      | exact IR (by rfl) jz) : G := h k
theorem X6 (h : G' → RQ P ops C Qq (⟨d, op, ty, ps, af, none⟩ :: rest) e := by
    first
      | exact eO (by exact oI rfl rfl (by assumption) (by omega) (by omega))) : G' → RQ P ops C Qq (⟨d, op, ty, ps, af, none⟩ :: rest) e := h
theorem yx (k : G') (h : G' → G := by
    first
      | exact X6
      | exact iN (by rfl)
      | exact IR (by rfl) X6) : G := h k
end
abbrev ii (n : Int) : Value := .int .i64 n
abbrev pt (b : Nat) : Value := .pointer (some ⟨b, 0, none⟩)
structure tA (p : Prop) : Prop where
  h : p
section
variable{Q:Exit->(Nat->Value)->World->Prop}
theorem ze (k : G1) (h : G1 → G := by
    (intro k
     first | refine eF ?_ | (refine di ?_; show CW _ _ _ _ _ _) | refine di ?_
     exact k)) : G := h k
theorem zq (k : G1) (h : G1 → G := by
    (intro k
     repeat (first
       | with_reducible refine dm ?_
       | with_reducible refine dz ?_
       | (with_reducible refine eF ?_)
       | ((with_reducible refine gO ?_); try show CW _ _ _ _ _ _)
       | ((with_reducible refine eX ?hc ?_); case hc => rfl)
       | ((with_reducible refine jr ?hc ?_); case hc => rfl)
       | with_reducible refine k0 ?_
       | ((with_reducible refine di ?_); show CW _ _ _ _ _ _))
     refine mJ ?_
     repeat first | refine mL ?_ | refine oq ?_
     exact k)) : G := h k
theorem zc (k : G1) (h : G1 → G := by
    (intro k
     try (first | refine eF ?_ | (refine di ?_; show CW _ _ _ _ _ _) | refine di ?_)
     repeat refine dm ?_
     exact k)) : G := h k
end
end Go.Proofs.YtcalhocphkbbgaaGreatDoor
