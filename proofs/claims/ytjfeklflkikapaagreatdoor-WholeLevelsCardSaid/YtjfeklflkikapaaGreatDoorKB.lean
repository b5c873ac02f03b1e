/- hachuretop.WholeLevels: a part of the proof that the law returns true at every input; no condition of its own. -/
import Derived.Test.YtjfeklflkikapaaGreatDoorKA
import Derived.Laws.BytesString
set_option maxRecDepth 100000
set_option maxHeartbeats 16000000
set_option linter.unusedVariables false
set_option linter.unusedSimpArgs false
namespace Go.Proofs.YtjfeklflkikapaaGreatDoor
open Go.Proofs.Tryz Go.RowKit
variable{Q:(Nat->Value)->World->Prop}{listed:Array Bool}{af:Array Edge}{ops:Array Oper}{tys:Array TypeId}{Q':Exit->Act->World->Prop}{f:FuncId}{a a':Int}{kc kh kl:IntKind}{σ:List (Nat × Value)}{K K' Lq:List (Nat × Value)->Act->Prop}{df:List Deferred}{hd:List Nat}{args:List Operand}{l l' vs xs τ:List Value}{Qs:List Value->(Nat->Value)->Prop}{N b b' bytes c cur el g i j k lh m n n' p q size t2 tb tb':Nat}{sp:Nat->Bool}{c':Nat->Int}{bs o':Nat->Nat}{F F':Nat->Prop}{e:Nat->Value}{op:Op}{hi lo x:Operand}{A B:Option Addr}{ro:Option Nat}{d:Option Tmp}{P:Program}{H α:Type}{dd:TypeDesc}{t t' te ts ty:TypeId}{u:Value}{R:Value->World->Prop}{w w' w0:World}{C:World->Prop}
section
variable{C:List Value->World->Prop}
def nl(P:Program)(o:Oper)(a:Act)(w:World)(R:Value->World->Prop):Prop :=
 match (execOp a.eval o).run P w with
 |.ok (.value u) w'=>R u w'
 |.ok .skip w'=>R undef w'
 |.ok (.enter f args) w'=>Calls P f args w' λen w''=>∃v,en=.returned v/\R v w''
 |_=>False
theorem yL{o:Oper}{a:Act}{K:Act->World->Prop}{Q:Exit->Act->World->Prop}(h:nl P o a w R)(y:∀v w',R v w'->K (a.put o.dst v) w'):o.wp P a w K Q:=by
 unfold Oper.wp;unfold nl at h;generalize (execOp a.eval o).run P w=r at *;cases r with
 |ok n w' =>
  cases n<;>simp only[Oper.upon]<;>first|exact h.elim|exact y _ _ h|skip
  case enter f args=>exact h.mono λD z⟨v,he,hn⟩=>by subst he;exact y _ _ hn
 |halt x w'=>exact h.elim
def gI(P:Program)(e:Nat->Value)(o:Oper)(w:World)(R:Value->World->Prop):Prop :=
 match (execOp (ev e) o).run P w with
 |.ok (.value u) w'=>R u w'
 |.ok .skip w'=>R undef w'
 |.ok (.enter f args) w'=>Calls P f args w' λen w''=>∃v,en=.returned v/\R v w''
 |_=>False
def kz(l:List Oper):List Nat->List (Nat×Oper)
 |[]=>[]
 |i::is=>match l.drop i with
  |o::_=>(i,o)::kz l is
  |[]=>kz l is
theorem Br(l:List Oper):∀is:List Nat,(is.all λi=>decide (i<l.length))=true->is.map (λi=>(i,l.toArray[i]?))=(kz l is).map λp=>(p.1,some p.2)
 |[],_=>rfl
 |i::is,h=>by
  simp only[kB,cM,cT]at h
  simp only[kz,dX h.1,iJ,Br l is h.2]
  simp[h.1]
inductive OT(α:Type)where
 |nil
 |one (i:α) (t:OT α)
 |two (i:α) (t:OT α) (j:α) (u:OT α)
def OT.path:OT Nat->List Nat
 |.nil=>[]
 |.one i t=>i::t.path
 |.two i t _ _=>i::t.path
def OT.allB(p:Nat->Bool):OT Nat->Bool
 |.nil=>true
 |.one i t=>p i&&t.allB p
 |.two i t j u=>p i&&t.allB p&&p j&&u.allB p
def OT.fit(ops:Array Oper):OT Nat->OT (Nat×Oper)->Prop
 |.nil,.nil=>True
 |.one i t,.one p u=>p.1=i/\ops[i]?=some p.2/\t.fit ops u
 |.two i t j u,.two p t' q u'=>p.1=i/\ops[i]?=some p.2/\t.fit ops t'/\q.1=j/\ops[j]?=some q.2/\u.fit ops u'
 |_,_=>False
def qK(l:List Oper):OT Nat->OT (Nat×Oper)
 |.nil=>.nil
 |.one i t=>match l.drop i with
  |o::_=>.one (i,o) (qK l t)
  |[]=>.nil
 |.two i t j u=>match l.drop i,l.drop j with
  |o::_,o'::_=>.two (i,o) (qK l t) (j,o') (qK l u)
  |_,_=>.nil
theorem xX(l:List Oper):∀t:OT Nat,t.allB (λi=>decide (i<l.length))=true->t.fit l.toArray (qK l t)
 |.nil,_=>trivial
 |.one i t,h=>by
  simp only[OT.allB,cM,cT]at h
  simp only[qK,dX h.1]
  exact⟨rfl,by simp[h.1],xX l t h.2⟩
 |.two i t j u,h=>by
  simp only[OT.allB,cM,cT]at h
  simp only[qK,dX h.1.1.1,dX h.1.2]
  exact⟨rfl,by simp[h.1.1.1],xX l t h.1.1.2,rfl,by simp[h.1.2],xX l u h.2⟩
def OT.chain:List Nat->OT Nat
 |[]=>.nil
 |i::r=>.one i (chain r)
def OT.dstB(N:Nat):OT (Nat×Oper)->Bool
 |.nil=>true
 |.one p t=>qI N p.2.dst&&t.dstB N
 |.two p t q u=>qI N p.2.dst&&t.dstB N&&qI N q.2.dst&&u.dstB N
theorem BX{l:List Oper}(hk:(l.all λo=>qI N o.dst)=true):∀(t:OT Nat)(lh:OT (Nat×Oper)),t.fit l.toArray lh->lh.dstB N=true
 |.nil,.nil,_=>rfl
 |.one i t,.one p u,h=>by
  simp only[OT.dstB,cM]
  exact⟨dh.1 hk p.2 (dD (by simpa using h.2.1)),BX hk t u h.2.2⟩
 |.two i t j u,.two p t' q u',h=>by
  simp only[OT.dstB,cM]
  exact⟨⟨⟨dh.1 hk p.2 (dD (by simpa using h.2.1)),BX hk t t' h.2.2.1⟩,dh.1 hk q.2 (dD (by simpa using h.2.2.2.2.1))⟩,BX hk u u' h.2.2.2.2.2⟩
 |.nil,.one _ _,h=>h.elim
 |.nil,.two _ _ _ _,h=>h.elim
 |.one _ _,.nil,h=>h.elim
 |.one _ _,.two _ _ _ _,h=>h.elim
 |.two _ _ _ _,.nil,h=>h.elim
 |.two _ _ _ _,.one _ _,h=>h.elim
end
namespace TI
section
variable{C:List (Nat × Value)->World->Prop}
def De(P:Program)(ops:Array Oper)(C:List (Nat×Value)->World->Prop)(sp:Nat->Bool)(i:Nat)(K:List (Nat×Value)->Act->Prop)(σ:List (Nat×Value))(a:Act):Prop :=
 match ops[i]? with
 |none=>K σ a
 |some o =>
  if Region.wanted o (yielded ops a.tmps)then
   match sp i with
   |true=>(∀w,C σ w->nl P o a w λv w'=>C ((i,v)::σ) w')/\∀v w',C ((i,v)::σ) w'->K ((i,v)::σ) (a.put o.dst v)
   |false=>∃v,(∀τ w,C τ w->nl P o a w λu w'=>u=v/\C τ w')/\K σ (a.put o.dst v)
  else K σ (a.put o.dst undef)
theorem Hx{a:Act}(h:∀σ a,K σ a->K' σ a)(y:De P ops C sp i K σ a):De P ops C sp i K' σ a:=by
 unfold De at *;split
 ·rename_i z;rw[z]at y;exact h _ _ y
 ·rename_i o z;rw[z]at y;dsimp only at y;split
  ·rename_i D;rw[a7 D]at y;cases I:sp i with
   |true=>rw[I]at y;exact⟨y.1,λv w' J=>h _ _ (y.2 v w' J)⟩
   |false=>rw[I]at y;exact⟨y.choose,y.choose_spec.1,h _ _ y.choose_spec.2⟩
  ·rename_i D;rw[a8 D]at y;exact h _ _ y
theorem IK(J:(ops.toList.all λo=>!vF o.op)=true){a:Act}{K':Act->World->Prop}(I:C σ w)(h:∀σ a w',C σ w'->K σ a->K' a w')(y:De P ops C sp i K σ a):wpOpIn (wF ro) 0 P ops Q' i K' a w:=by
 unfold De at y;unfold wpOpIn;split
 ·rename_i D;rw[D]at y;exact h _ _ _ I y
 ·rename_i o D;rw[D]at y;dsimp only at y;split
  ·rename_i z;rw[a7 z]at y;refine Oper.wpIn_of_wp (Hd J D) ?_;cases L:sp i with
   |true=>rw[L]at y;exact yL (y.1 w I) λv w' O=>h _ _ _ O (y.2 v w' O)
   |false =>
    rw[L]at y;obtain⟨v,h1,h2⟩:=y;exact yL (h1 σ w I) λu w'⟨S,hc⟩=>by subst S;exact h _ _ _ hc h2
  ·rename_i z;rw[a8 z]at y;exact⟨λ_ _=>trivial,h _ _ _ I y⟩
def vP(P:Program)(ops:Array Oper)(C:List (Nat×Value)->World->Prop)(sp:Nat->Bool)(hd:List Nat)(L:Array Bool->List (Nat×Value)->Act->Prop):Nat->Array Bool->List (Nat×Value)->Act->Prop
 |0,listed,σ,a=>L listed σ a
 |f+1,listed,σ,a=>Region.ready .any ops listed≠[]/\∀i∈Region.ready .any ops listed,i∈hd/\De P ops C sp i (vP P ops C sp hd L f (listed.setIfInBounds i true)) σ a
theorem vQ(hnd:(ops.toList.all λo=>!vF o.op)=true){L:Array Bool->List (Nat×Value)->Act->Prop}(hL:∀listed σ a w,C σ w->L listed σ a->wpAnyIn (wF ro) 0 P .any ops Q' g listed a w) :
  ∀(f:Nat)(listed:Array Bool)(σ:List (Nat×Value))(a:Act)(w:World),C σ w->vP P ops C sp hd L f listed σ a->wpAnyIn (wF ro) 0 P .any ops Q' (f+g) listed a w
 |0,listed,σ,a,w,hw,h=>by rw[eH];exact hL _ _ _ _ hw h
 |f+1,listed,σ,a,w,hw,h=>by
  rw[(om:f+1+g=(f+g)+1)]
  exact⟨λh0=>absurd h0 h.1,λi hi=>IK hnd hw (λσ a' w' hw' h'=>vQ hnd hL f _ σ a' w' hw' h') (h.2 i hi).2⟩
def rG(P:Program)(ops:Array Oper)(C:List (Nat×Value)->World->Prop)(o:Oper)(v:Value)(a:Act):Prop :=
 (Region.wanted o (yielded ops a.tmps)=true/\∀τ w,C τ w->nl P o a w λu w'=>u=v/\C τ w') \/
 (Region.wanted o (yielded ops a.tmps)=false/\v=undef)
theorem rG.sOp{o:Oper}{v:Value}{a:Act}(hi:ops[i]?=some o)(z:sp i=false)(I:rG P ops C o v a)(h:K σ (a.put o.dst v)):De P ops C sp i K σ a:=by
 unfold TI.De;rw[hi];dsimp only;rcases I with⟨y,D⟩|⟨y,rfl⟩
 ·rw[a7 y,z];exact⟨v,D,h⟩
 ·rw[a8 (by simp[y])];exact h
theorem rG.of_same{o:Oper}{v:Value}{a a':Act}(D:rG P ops C o v a)(y:execOp a'.eval o=execOp a.eval o)(z:Region.wanted o (yielded ops a'.tmps)=Region.wanted o (yielded ops a.tmps)):rG P ops C o v a':=by
 unfold rG nl at *;simp_all
theorem Tc{y D:Oper}{v:Value}(Z:ops[j]?=some D)(L:y.apart ops D=true)(O:∀cs b,y.op≠.select cs b)(J:∀cs b,D.op≠.select cs b){a:Act}(hy:rG P ops C y v a)(h:De P ops C sp j K σ (a.put y.dst v)) :
  De P ops C sp j (λσ' a'=>rG P ops C y v a'/\K σ' (a'.put y.dst v)) σ a:=by
 obtain⟨h1,h2,U⟩:=Oper.apart_spec L;have z:∀u,rG P ops C y v (a.put D.dst u):=λu=>hy.of_same (execOp_put y O a D.dst u U) (wanted_put y a D.dst u U);unfold De at *;rw[Z]at h ⊢;dsimp only at h ⊢;rw[wanted_put D a y.dst v h1]at h;split
 ·rename_i S;rw[a7 S]at h;cases V:sp j with
  |true =>
   rw[V]at h;refine⟨λw I=>?_,λu w' I=>⟨z u,by rw[<-Act.put_comm a v u h2];exact h.2 u w' I⟩⟩;have:=h.1 w I;unfold nl at *;rwa[execOp_put D J a y.dst v h1]at this
  |false =>
   rw[V]at h;obtain⟨u,hu,hn⟩:=h;refine⟨u,λτ w I=>?_,z u,by rw[<-Act.put_comm a v u h2];exact hn⟩;have:=hu τ w I;unfold nl at *;rwa[execOp_put D J a y.dst v h1]at this
 ·rename_i S;rw[a8 S]at h;exact⟨z _,by rw[<-Act.put_comm a v undef h2];exact h⟩
theorem IL{L:Array Bool->List (Nat×Value)->Act->Prop}{oi:Oper}{v:Value}(hi:ops[i]?=some oi)(U:sp i=false)(S:∀(j:Nat)(o:Oper)cs b,ops[j]?=some o->o.op≠.select cs b)(ad:∀(listed:Array Bool),tT ops listed->listed.getD i true=false->∀j∈Region.ready .any ops listed,j∈hd)(Z:∀listed σ a,L listed σ a->∀j∈Region.ready .any ops listed,j∉hd) :
  ∀(f:Nat)(listed:Array Bool)(σ:List (Nat×Value))(a:Act),tT ops listed ->
   (∀j oj,ops[j]?=some oj->j≠i->listed.getD j true=false->(∀e∈oj.after,Region.binds .any e=true->e.on≠i)->oi.apart ops oj=true) ->
   i∈Region.ready .any ops listed->rG P ops C oi v a ->
   vP P ops C sp hd L f (listed.setIfInBounds i true) σ (a.put oi.dst v)->vP P ops C sp hd L (f+1) listed σ a:=by
 intro f;induction f with
 |zero =>
  intro listed σ a D _ O hy H;refine⟨λh=>(by rw[h]at O;cases O),λj hj=>?_⟩
  have ae:=ad listed D (mem_ready.1 O).1 j hj;refine⟨ae,?_⟩;by_cases y:j=i
  ·subst y;exact hy.sOp hi U H
  ·exact absurd ae (Z _ _ _ H j (ready_mono hj y))
 |succ f ih =>
  intro listed σ a D z O hy H;have ab:=(mem_ready.1 O).1;refine⟨λh=>(by rw[h]at O;cases O),λj hj=>?_⟩
  refine⟨ad listed D ab j hj,?_⟩;by_cases y:j=i
  ·subst y;exact hy.sOp hi U H
  ·have h1:=(H.2 j (ready_mono hj y)).2;obtain⟨J,oj,aa,ac⟩:=mem_ready.1 hj
   have ah:∀e∈oj.after,Region.binds .any e=true->e.on≠i:=λe he hb ai=>by
    have h2:=ac e he hb;rw[ai]at h2;rcases eV i listed.size with h'|h'
    ·simp[h']at ab h2;rw[ab]at h2;cases h2
    ·simp[iK h']at h2
   have h2:=Tc aa (z j oj aa y J ah) (λcs b=>S i oi cs b hi) (λcs b=>S j oj cs b aa) hy h1
   have I:∀k ok,ops[k]?=some ok->k≠i->(listed.setIfInBounds j true).getD k true=false ->
     (∀e∈ok.after,Region.binds .any e=true->e.on≠i)->oi.apart ops ok=true:=λk ok hk aj V ak=>by
    refine z k ok hk aj ?_ ak;by_cases ag:j=k
    ·subst ag;exact J
    ·rw[getD_set_ne true ag]at V;exact V
   refine Hx (λσ' a' h3=>ih (listed.setIfInBounds j true) σ' a' (D.set hj) I (ready_mono O (Ne.symm y)) h3.1 ?_) h2;rw[Array.setIfInBounds_comm _ _ y];exact h3.2
def IM(P:Program)(ops:Array Oper)(C:List (Nat×Value)->World->Prop)(sp:Nat->Bool)(i:Nat)(o:Oper)(K:List (Nat×Value)->Act->Prop)(σ:List (Nat×Value))(a:Act):Prop :=
 if Region.wanted o (yielded ops a.tmps)then
  match sp i with
  |true=>(∀w,C σ w->nl P o a w λv w'=>C ((i,v)::σ) w')/\∀v w',C ((i,v)::σ) w'->K ((i,v)::σ) (a.put o.dst v)
  |false=>∃v,(∀τ w,C τ w->nl P o a w λu w'=>u=v/\C τ w')/\K σ (a.put o.dst v)
 else K σ (a.put o.dst undef)
theorem yT{o:Oper}{a:Act}(v:ops[i]?=some o)(y:∀σ a,K σ a->K' σ a)(h:IM P ops C sp i o K σ a):De P ops C sp i K' σ a:=by
 refine Hx y ?_;unfold De;rw[v];exact h
theorem BY{tl:List Nat}(V:Region.noSelect ops=true)(S:∀i,i<ops.size->i∈hd\/i∈tl)(L:∀t∈tl,∀i∈hd,i∈vm ops ops.size t)(U:∀t∈tl,t∉hd){o:Oper}{f:Nat}{a:Act}(h0:ops[i]?=some o)(hs:sp i=false)(ac:i∈hd)(ab:tT ops listed)(hr:i∈Region.ready .any ops listed)(hf:Region.free .any ops listed i=true)(J:IM P ops C sp i o K σ a)(aa:∀σ a,K σ a->vP P ops C sp hd (λy σ' a'=>tU ops tl y=true/\Lq σ' a') f (listed.setIfInBounds i true) σ a) :
  vP P ops C sp hd (λy σ' a'=>tU ops tl y=true/\Lq σ' a') (f+1) listed σ a:=by
 unfold IM at J;rw[hs]at J
 have hy:∃v,rG P ops C o v a/\K σ (a.put o.dst v):=by
  by_cases hw:Region.wanted o (yielded ops a.tmps)=true
  ·rw[a7 hw]at J;obtain⟨v,h1,h2⟩:=J;exact⟨v,.inl ⟨hw,h1⟩,h2⟩
  ·rw[a8 hw]at J;exact⟨undef,.inr ⟨by simpa using hw,rfl⟩,J⟩
 obtain⟨v,hy,hK⟩:=hy;refine IL h0 hs (Region.noSelect_spec V) ?_ ?_ f listed σ a ab (Region.free_spec h0 hf) hr hy (aa _ _ hK)
 ·intro y O Z j D;obtain⟨_,oj,ag,_⟩:=mem_ready.1 D;have ae:j<ops.size:=(jq.1 ag).1;rcases S j ae with hh|hh
  ·exact hh
  ·have z:=BV O ops.size j (BU D) i (L j hh i ac);rcases eV i y.size with h'|h'
   ·simp[h']at Z z;rw[Z]at z;cases z
   ·simp[iK h']at z
 ·intro y σ' a' hL j D ad;have hB:=hL.1;cases I:tl with
  |nil=>simp only[I,tU,List.isEmpty_iff]at hB;rw[hB]at D;cases D
  |cons t ah =>
   simp only[I,tU,cM,cT]at hB;rw[hB.1]at D;have:j=t:=by simpa using D
   subst this;exact U j (by simp[I]) ad
theorem IN{L:Array Bool->List (Nat×Value)->Act->Prop}{o:Oper}{f:Nat}{a:Act}(I:ops[i]?=some o)(y:i∈hd)(D:Region.ready .any ops listed=[i])(J:IM P ops C sp i o K σ a)(v:∀σ a,K σ a->vP P ops C sp hd L f (listed.setIfInBounds i true) σ a):vP P ops C sp hd L (f+1) listed σ a:=by
 refine⟨by rw[D];simp,λj z=>?_⟩;rw[D]at z;obtain rfl:j=i:=by simpa using z
 exact⟨y,yT I v J⟩
def xe(ops:Array Oper)(sp:Nat->Bool)(tl:List Nat):OT Nat->Array Bool->Bool
 |.nil,listed=>tU ops tl listed
 |.one i t,listed=>(match sp i with
  |true=>decide (Region.ready .any ops listed=[i])
  |false=>(Region.ready .any ops listed).contains i&&Region.free .any ops listed i)&&xe ops sp tl t (listed.setIfInBounds i true)
 |.two i t j u,listed=>decide (Region.ready .any ops listed=[i,j])&&decide (t.path.length=u.path.length)&&xe ops sp tl t (listed.setIfInBounds i true)&&xe ops sp tl u (listed.setIfInBounds j true)
def Fc(ops:Array Oper)(sp:Nat->Bool)(t:OT Nat)(tl:List Nat):Bool :=
 Region.noSelect ops&&decide (t.path.length+tl.length=ops.size)&&((List.range ops.size).all λi=>t.path.contains i||tl.contains i)&&t.allB (λi=>t.path.contains i) &&
 (tl.all λx=>t.path.all λi=>(vm ops ops.size x).contains i)&&(tl.all λx=>!t.path.contains x)&&xe ops sp tl t (Array.replicate ops.size false)
def Mq(P:Program)(ops:Array Oper)(C:List (Nat×Value)->World->Prop)(sp:Nat->Bool)(Lq:List (Nat×Value)->Act->Prop):OT (Nat×Oper)->List (Nat×Value)->Act->Prop
 |.nil,σ,a=>Lq σ a
 |.one p t,σ,a=>IM P ops C sp p.1 p.2 (Mq P ops C sp Lq t) σ a
 |.two p t q u,σ,a=>IM P ops C sp p.1 p.2 (Mq P ops C sp Lq t) σ a/\IM P ops C sp q.1 q.2 (Mq P ops C sp Lq u) σ a
theorem xY{tl:List Nat}(J:Region.noSelect ops=true)(y:∀i,i<ops.size->i∈hd\/i∈tl)(v:∀t∈tl,∀i∈hd,i∈vm ops ops.size t)(z:∀t∈tl,t∉hd) :
  ∀(t:OT Nat)(lh:OT (Nat×Oper))(listed:Array Bool)(σ:List (Nat×Value))(a:Act),t.allB (λi=>hd.contains i)=true->t.fit ops lh->tT ops listed->xe ops sp tl t listed=true ->
   Mq P ops C sp Lq lh σ a->vP P ops C sp hd (λO σ' a'=>tU ops tl O=true/\Lq σ' a') t.path.length listed σ a
 |.nil,lh,listed,σ,a,_,D,_,hB,hq=>by
  cases lh with
  |nil=>exact⟨by simpa [xe]using hB,hq⟩
  |one=>exact D.elim
  |two=>exact D.elim
 |.one i t,lh,listed,σ,a,hin,D,hcl,hB,hq=>by
  cases lh with
  |nil=>exact D.elim
  |two=>exact D.elim
  |one p u =>
   obtain⟨U,o⟩:=p
   obtain⟨hi,V,D⟩:=D;dsimp only at hi V;subst hi;simp only[OT.allB,cM,n4]at hin;simp only[xe,cM]at hB;have S:=λσ a(I:Mq P ops C sp Lq u σ a)(L:U∈Region.ready .any ops listed)=>xY J y v z t u _ σ a hin.2 D (hcl.set L) hB.2 I;cases hs:sp U with
   |true =>
    rw[hs]at hB;have L:Region.ready .any ops listed=[U]:=by simpa using hB.1
    exact IN V hin.1 L hq (λσ a I=>S σ a I (by rw[L];simp))
   |false =>
    rw[hs]at hB;simp only[cM]at hB;have L:U∈Region.ready .any ops listed:=by simpa using hB.1.1
    exact BY J y v z V hs hin.1 hcl L hB.1.2 hq (λσ a I=>S σ a I L)
 |.two i t j u,lh,listed,σ,a,hin,D,hcl,hB,hq=>by
  cases lh with
  |nil=>exact D.elim
  |one=>exact D.elim
  |two p t' q u' =>
   obtain⟨U,o⟩:=p;obtain⟨j',o'⟩:=q;obtain⟨hi,V,D,hj,h1,ad⟩:=D;dsimp only at hi V hj h1;subst hi hj;simp only[OT.allB,cM,n4]at hin;simp only[xe,cM,cT]at hB;obtain⟨⟨⟨L,aa⟩,ab⟩,ac⟩:=hB;have hi:U∈Region.ready .any ops listed:=by rw[L];simp
   have hj:j'∈Region.ready .any ops listed:=by rw[L];simp
   refine⟨by rw[L];simp,λk I=>?_⟩;rw[L]at I;simp only[dy,gM,lr]at I;refine⟨I.elim (λe=>e▸hin.1.1.1) (λe=>e▸hin.1.2),?_⟩;by_cases Z:k=U
   ·subst Z;exact yT V (λσ a I=>xY J y v z t t' _ σ a hin.1.1.2 D (hcl.set hi) ab I) hq.1
   ·obtain rfl:k=j':=I.elim (λe=>absurd e Z) id;refine yT h1 (λσ a I=>?_) hq.2;have:=xY J y v z u u' _ σ a hin.2 ad (hcl.set hj) ac I;rw[<-aa]at this;exact this
theorem EM{id:Nat}{Q:Exit->Act->World->Prop}{a:Act}{l:List Oper}(t:OT Nat)(tl:List Nat)(lh:OT (Nat×Oper))(O:List Oper)(U:(l.all λo=>!vF o.op)=true)(hm:P.follows .mixedOrders=true)(Z:Fc l.toArray sp t tl=true)(hh:t.fit l.toArray lh)(ht:tl.map (l.toArray[·]?)=O.map some)(hC:C [] w.drew)(h:Mq P l.toArray C sp (λσ a'=>∀w',C σ w'->wpListIn (wF ro) 0 P l.toArray Q O a' w') lh [] a):(Code.region id l.toArray true).wpIn (wF ro) 0 P Q a w:=by
 simp only[Fc,cM,cT]at Z;obtain⟨⟨⟨⟨⟨⟨L,J⟩,D⟩,y⟩,z⟩,I⟩,S⟩:=Z
 have H:=xY (P:=P) (C:=C) (sp:=sp) (Lq:=λσ a'=>∀w',C σ w'->wpListIn (wF ro) 0 P l.toArray Q O a' w') (hd:=t.path) (tl:=tl) L
  (λi hi=>by have:=dh.1 D i (dJ.2 hi);simpa using this)
  (λt v i hi=>by have:=dh.1 (dh.1 z t v) i hi;simpa using this)
  (λt v=>by have:=dh.1 I t v;simpa using this)
  t lh (Array.replicate l.toArray.size false) [] a y hh
  (λi hi=>by
   have h0:∀m j:Nat,(Array.replicate m false).getD j false=false:=λm j=>by
    rcases eV j m with h'|h'
    ·simp[h']
    ·simp[h']
   rw[h0]at hi;cases hi) S h
 refine wpIn_region_any hm ?_;have:=vQ (Q':=Q) (ro:=ro) (by simpa using U) (g:=tl.length) (λlisted σ a' w' V hL=>uQ tl O listed a' w' ht hL.1 (hL.2 w' V)) _ _ _ _ _ hC H;rw[J]at this;exact this
def Mr(P:Program)(ops:Array Oper)(C:List (Nat×Value)->World->Prop)(sp:Nat->Bool)(i:Nat)(o:Oper)(K:List (Nat×Value)->(Nat->Value)->Prop)(σ:List (Nat×Value))(e:Nat->Value):Prop :=
 if wE ops e o=true then
  match sp i with
  |true=>(∀w,C σ w->gI P e o w λv w'=>C ((i,v)::σ) w')/\∀v w',C ((i,v)::σ) w'->K ((i,v)::σ) (fI e o.dst v)
  |false=>∃v,(∀τ w,C τ w->gI P e o w λu w'=>u=v/\C τ w')/\K σ (fI e o.dst v)
 else K σ (fI e o.dst undef)
theorem xf{o:Oper}{K:List (Nat×Value)->(Nat->Value)->Prop}{a:Act}(hd:qI N o.dst=true)(z:oo N df e a)(I:∀σ e a,oo N df e a->K σ e->K' σ a)(h:Mr P ops C sp i o K σ e):IM P ops C sp i o K' σ a:=by
 unfold IM;unfold Mr at h;rw[z.wanted];have D:∀w R,gI P e o w R->nl P o a w R:=λw R O=>by unfold nl;rw[z.eval];exact O
 split
 ·rename_i J;rw[a7 J]at h;cases L:sp i with
  |true =>
   rw[L]at h;exact⟨λw y=>D _ _ (h.1 w y),λv w' y=>I _ _ _ (z.put hd v) (h.2 v w' y)⟩
  |false =>
   rw[L]at h;obtain⟨v,h1,h2⟩:=h;exact⟨v,λτ w y=>D _ _ (h1 τ w y),I _ _ _ (z.put hd v) h2⟩
 ·rename_i J;rw[a8 J]at h;exact I _ _ _ (z.put hd undef) h
def RS(P:Program)(ops:Array Oper)(C:List (Nat×Value)->World->Prop)(sp:Nat->Bool)(Q:List (Nat×Value)->(Nat->Value)->Prop):List (Nat×Oper)->List (Nat×Value)->(Nat->Value)->Prop
 |[],σ,e=>Q σ e
 |(i,o)::rest,σ,e =>
  if wE ops e o=true then
   match sp i with
   |true=>(∀w,C σ w->gI P e o w λv w'=>C ((i,v)::σ) w')/\∀v w',C ((i,v)::σ) w'->RS P ops C sp Q rest ((i,v)::σ) (fI e o.dst v)
   |false=>∃v,(∀τ w,C τ w->gI P e o w λu w'=>u=v/\C τ w')/\RS P ops C sp Q rest σ (fI e o.dst v)
  else RS P ops C sp Q rest σ (fI e o.dst undef)
def RO(P:Program)(ops:Array Oper)(C:List (Nat×Value)->World->Prop)(sp:Nat->Bool)(Q:List (Nat×Value)->(Nat->Value)->Prop):OT (Nat×Oper)->List (Nat×Value)->(Nat->Value)->Prop
 |.nil,σ,e=>Q σ e
 |.one p t,σ,e=>Mr P ops C sp p.1 p.2 (RO P ops C sp Q t) σ e
 |.two p t q u,σ,e=>Mr P ops C sp p.1 p.2 (RO P ops C sp Q t) σ e/\Mr P ops C sp q.1 q.2 (RO P ops C sp Q u) σ e
theorem xZ{Q:List (Nat×Value)->(Nat->Value)->Prop}{Q':List (Nat×Value)->Act->Prop}(hQ:∀σ e a,oo N df e a->Q σ e->Q' σ a) :
  ∀(t:OT (Nat×Oper))(σ:List (Nat×Value))(e:Nat->Value)(a:Act),t.dstB N=true->oo N df e a->RO P ops C sp Q t σ e->Mq P ops C sp Q' t σ a
 |.nil,σ,e,a,_,hr,h=>hQ σ e a hr h
 |.one p t,σ,e,a,hd,hr,h=>by
  simp only[OT.dstB,cM]at hd
  exact xf hd.1 hr (λσ e a hr h=>xZ hQ t σ e a hd.2 hr h) h
 |.two p t q u,σ,e,a,hd,hr,h=>by
  simp only[OT.dstB,cM]at hd
  exact⟨xf hd.1.1.1 hr (λσ e a hr h=>xZ hQ t σ e a hd.1.1.2 hr h) h.1,xf hd.1.2 hr (λσ e a hr h=>xZ hQ u σ e a hd.2 hr h) h.2⟩
theorem XX{Q:Exit->(Nat->Value)->World->Prop}{id:Nat}{l:List Oper}(sp:List Nat)(t:OT Nat)(tl:List Nat)(S:P.follows .mixedOrders=true)(y:(Fc l.toArray (λi=>sp.contains i) t tl&&(t.allB λi=>decide (i<l.length))&&(tl.all λi=>decide (i<l.length)))=true)(O:C [] w.drew)(h:RO P l.toArray C (λi=>sp.contains i) (λσ D=>∀w',C σ w'->RW P l.toArray (λe w=>Q .normal e w) (iS l tl) D w') (qK l t) [] e):CW P N (.region id l.toArray true) Q e w:=λz df a I ro=>by
 simp only[cM]at y;simp only[kS,cM]at z;have v:=xX l t y.1.2;refine EM (C:=C) t tl _ _ z.2 S y.1.1 v (Bp l tl y.2) O ?_;exact xZ (λσ D a' J U w' L=>sY (λe a w I h=>⟨e,I,h⟩) _ D a' w' (wG z.1 tl y.2) (wG z.2 tl y.2) J (U w' L)) _ [] e a (BX z.1 t _ v) I h
variable{Qs:List (Nat × Value)->(Nat->Value)->Prop}{rest:List (Nat × Oper)}
variable{ps:String}
theorem AX{o:Oper}(h:wE ops e o=true):RS P ops C sp Qs ((i,o)::rest) σ e=match sp i with
   |true=>(∀w,C σ w->gI P e o w λv w'=>C ((i,v)::σ) w')/\∀v w',C ((i,v)::σ) w'->RS P ops C sp Qs rest ((i,v)::σ) (fI e o.dst v)
   |false=>∃v,(∀τ w,C τ w->gI P e o w λu w'=>u=v/\C τ w')/\RS P ops C sp Qs rest σ (fI e o.dst v):=by rw[RS];exact a7 h
theorem Td{o:Oper}(h:wE ops e o=false):RS P ops C sp Qs ((i,o)::rest) σ e=RS P ops C sp Qs rest σ (fI e o.dst undef):=by rw[RS];exact a8 (by simp[h])
theorem IO(h:Qs σ e):RS P ops C sp Qs [] σ e:=h
theorem Ms{b:Bool}(h:yE ops e j=some b)(v:RS P ops C sp Qs ((i,⟨d,op,ty,ps,af,none⟩)::rest) σ e):RS P ops C sp Qs ((i,⟨d,op,ty,ps,af,some (j,b)⟩)::rest) σ e:=by
 rw[AX (by simp[wE,h])];exact v
theorem Pa{b:Bool}(h:(yE ops e j==some b)=false)(v:RS P ops C sp Qs rest σ (fI e d undef)):RS P ops C sp Qs ((i,⟨d,op,ty,ps,af,some (j,b)⟩)::rest) σ e:=by
 rw[Td (by simp[wE,h])];exact v
theorem qo{v:Value}(D:sp i=false)(h:∀τ w,C τ w->gd P e ⟨d,op,ty,ps,af,none⟩ w v)(z:RS P ops C sp Qs rest σ (fI e d v)):RS P ops C sp Qs ((i,⟨d,op,ty,ps,af,none⟩)::rest) σ e:=by
 rw[AX rfl,D];refine⟨v,λτ w y=>?_,z⟩;have:=h τ w y;unfold gd at this;unfold gI;simp_all
theorem ot{v:Value}(z:sp i=false)(h:iE P e ⟨d,op,ty,ps,af,none⟩ v)(y:RS P ops C sp Qs rest σ (fI e d v)):RS P ops C sp Qs ((i,⟨d,op,ty,ps,af,none⟩)::rest) σ e:=qo z (λ_ w _=>h w) y
theorem jH{v:Value}(J:sp i=false)(L:lj (args.map (ev e))=some vs)(D:∀τ w,C τ w->Fn P f vs w (λO w'=>O=v/\C τ w'))(I:RS P ops C sp Qs rest σ (fI e d v)) :
  RS P ops C sp Qs ((i,⟨d,.call ⟨.value (.func f),args.toArray,tys⟩,ty,ps,af,none⟩)::rest) σ e:=by
 rw[AX rfl,J];refine⟨v,λτ w z=>?_,I⟩
 have y:(execOp (ev e) ⟨d,.call ⟨.value (.func f),args.toArray,tys⟩,ty,ps,af,none⟩).run P w=.ok (.enter f vs.toArray) w:=by
  have h1:ev e (.func f)=.func _ #[] #[]:=rfl;simp[execOp,resolve,h1,Deferred.ofValue,invoke,(mK L),iX (D τ w z).1]
 unfold gI;rw[y];exact(D τ w z).2
theorem de{o:Oper}(z:sp i=true)(D:wE ops e o=true)(h:∀w,C σ w->gI P e o w λv w'=>C ((i,v)::σ) w')(y:∀v w',C ((i,v)::σ) w'->RS P ops C sp Qs rest ((i,v)::σ) (fI e o.dst v)):RS P ops C sp Qs ((i,o)::rest) σ e:=by
 rw[AX D,z];exact⟨h,y⟩
theorem Yx{p:Nat×Oper}{t:OT (Nat×Oper)}(h:RS P ops C sp (λσ e=>RO P ops C sp Qs t σ e) [p] σ e):RO P ops C sp Qs (.one p t) σ e:=h
theorem Yy{p q:Nat×Oper}{t u:OT (Nat×Oper)}(h1:RS P ops C sp (λσ e=>RO P ops C sp Qs t σ e) [p] σ e)(h2:RS P ops C sp (λσ e=>RO P ops C sp Qs u σ e) [q] σ e):RO P ops C sp Qs (.two p t q u) σ e:=⟨h1,h2⟩
theorem Yz(h:Qs σ e):RO P ops C sp Qs .nil σ e:=h
end
end TI
section
variable{C:List Value->World->Prop}
def RS(P:Program)(ops:Array Oper)(C:List Value->World->Prop)(sp:Nat->Bool)(Q:List Value->(Nat->Value)->Prop):List (Nat×Oper)->List Value->(Nat->Value)->Prop
 |[],σ,e=>Q σ e
 |(i,o)::rest,σ,e =>
  if wE ops e o=true then
   match sp i with
   |true=>(∀w,C σ w->gI P e o w λv w'=>C (v::σ) w')/\∀v w',C (v::σ) w'->RS P ops C sp Q rest (v::σ) (fI e o.dst v)
   |false=>∃v,(∀τ w,C τ w->gI P e o w λu w'=>u=v/\C τ w')/\RS P ops C sp Q rest σ (fI e o.dst v)
  else RS P ops C sp Q rest σ (fI e o.dst undef)
theorem Df{C:World->Prop}{l:List Oper}{Q:(Nat->Value)->Prop}:∀(hd:List Nat)(τ:List (Nat×Value))(e:Nat->Value),(hd.all λi=>decide (i<l.length))=true->RQ P ops C Q (iS l hd) e ->
  TI.RO P ops (λ_=>C) (λ_=>false) (λ_=>Q) (qK l (.chain hd)) τ e
 |[],τ,e,_,h=>h
 |i::r,τ,e,hd,h=>by
  simp only[kB,cM,cT]at hd
  simp only[iS,dX hd.1,RQ]at h
  simp only[OT.chain,qK,dX hd.1,TI.RO,TI.Mr]
  split
  ·rename_i z
   rw[a7 z]at h
   obtain⟨v,D,h⟩:=h
   refine⟨v,λ_ w y=>?_,Df r τ _ hd.2 h⟩;have:=D w y;unfold gI;generalize (execOp (ev e) l[i]).run P w=r at *;cases r with
   |ok n w' =>
    cases n<;>first|exact this.elim|exact⟨this.2,this.1▸y⟩|exact⟨this.2.symm,this.1▸y⟩|skip
    case enter f args=>obtain⟨rfl,h1⟩:=this;exact h1.mono λJ I⟨h2,h3⟩=>⟨v,h2,rfl,h3⟩
   |halt x w'=>exact this.elim
  ·rename_i z
   rw[a8 z]at h
   exact Df r τ _ hd.2 h
theorem pF{Q:Exit->(Nat->Value)->World->Prop}{C:World->Prop}{id:Nat}{l:List Oper}(hd tl:List Nat)(D:P.follows .mixedOrders=true)(v:(TI.Fc l.toArray (λ_=>false) (.chain hd) tl&&((OT.chain hd).allB λi=>decide (i<l.length))&&(tl.all λi=>decide (i<l.length))&&(hd.all λi=>decide (i<l.length)))=true)(z:C w.drew)(h:RQ P l.toArray C (λy=>∀w',C w'->RW P l.toArray (λe w=>Q .normal e w) (iS l tl) y w') (iS l hd) e):CW P N (.region id l.toArray true) Q e w:=by
 rw[cM]at v;exact TI.XX (C:=λ_=>C) [] (.chain hd) tl D v.1 z (Df hd [] e v.2 h)
theorem Az{l:List Oper}{Q:List Value->(Nat->Value)->Prop}:∀(hd:List Nat)(τ:List (Nat×Value))(e:Nat->Value),(hd.all λi=>decide (i<l.length))=true->RS P ops C sp Q (kz l hd) (τ.map Prod.snd) e ->
  TI.RO P ops (λτ=>C (τ.map Prod.snd)) sp (λτ=>Q (τ.map Prod.snd)) (qK l (.chain hd)) τ e
 |[],τ,e,_,h=>h
 |i::r,τ,e,hd,h=>by
  simp only[kB,cM,cT]at hd
  simp only[kz,dX hd.1,RS]at h
  simp only[OT.chain,qK,dX hd.1,TI.RO,TI.Mr]
  split
  ·rename_i hw
   rw[a7 hw]at h
   cases hs:sp i with
   |true =>
    rw[hs]at h
    exact⟨h.1,λv w' hC=>Az r ((i,v)::τ) _ hd.2 (h.2 v w' hC)⟩
   |false =>
    rw[hs]at h
    exact h.imp λv h=>⟨λτ w hC=>h.1 _ w hC,Az r τ _ hd.2 h.2⟩
  ·rename_i hw
   rw[a8 hw]at h
   exact Az r τ _ hd.2 h
theorem IP{Q:Exit->(Nat->Value)->World->Prop}{id:Nat}{l:List Oper}(sp:List Nat)(hd tl:List Nat)(D:P.follows .mixedOrders=true)(v:(TI.Fc l.toArray (λi=>sp.contains i) (.chain hd) tl&&((OT.chain hd).allB λi=>decide (i<l.length))&&(tl.all λi=>decide (i<l.length))&&(hd.all λi=>decide (i<l.length)))=true)(z:C [] w.drew)(h:RS P l.toArray C (λi=>sp.contains i) (λσ y=>∀w',C σ w'->RW P l.toArray (λe w=>Q .normal e w) (iS l tl) y w') (kz l hd) [] e):CW P N (.region id l.toArray true) Q e w:=by
 rw[cM]at v;exact TI.XX (C:=λτ=>C (τ.map Prod.snd)) sp (.chain hd) tl D v.1 z (Az hd [] e v.2 h)
variable{σ:List Value}{rest:List (Nat × Oper)}
variable{ps:String}
theorem AX{o:Oper}(h:wE ops e o=true):RS P ops C sp Qs ((i,o)::rest) σ e=match sp i with
   |true=>(∀w,C σ w->gI P e o w λv w'=>C (v::σ) w')/\∀v w',C (v::σ) w'->RS P ops C sp Qs rest (v::σ) (fI e o.dst v)
   |false=>∃v,(∀τ w,C τ w->gI P e o w λu w'=>u=v/\C τ w')/\RS P ops C sp Qs rest σ (fI e o.dst v):=by rw[RS];exact a7 h
theorem Td{o:Oper}(h:wE ops e o=false):RS P ops C sp Qs ((i,o)::rest) σ e=RS P ops C sp Qs rest σ (fI e o.dst undef):=by rw[RS];exact a8 (by simp[h])
theorem IO(h:Qs σ e):RS P ops C sp Qs [] σ e:=h
theorem Ms{b:Bool}(h:yE ops e j=some b)(v:RS P ops C sp Qs ((i,⟨d,op,ty,ps,af,none⟩)::rest) σ e):RS P ops C sp Qs ((i,⟨d,op,ty,ps,af,some (j,b)⟩)::rest) σ e:=by
 rw[AX rfl]at v;rw[AX (by simp[wE,h])];exact v
theorem Pa{b:Bool}(h:(yE ops e j==some b)=false)(v:RS P ops C sp Qs rest σ (fI e d undef)):RS P ops C sp Qs ((i,⟨d,op,ty,ps,af,some (j,b)⟩)::rest) σ e:=by
 rw[Td (by simp[wE,h])];exact v
theorem qo{v:Value}(D:sp i=false)(h:∀τ w,C τ w->gd P e ⟨d,op,ty,ps,af,none⟩ w v)(z:RS P ops C sp Qs rest σ (fI e d v)):RS P ops C sp Qs ((i,⟨d,op,ty,ps,af,none⟩)::rest) σ e:=by
 rw[AX rfl,D];refine⟨v,λτ w y=>?_,z⟩;have:=h τ w y;unfold gd at this;unfold gI;rw[this];exact⟨rfl,y⟩
theorem ot{v:Value}(z:sp i=false)(h:iE P e ⟨d,op,ty,ps,af,none⟩ v)(y:RS P ops C sp Qs rest σ (fI e d v)):RS P ops C sp Qs ((i,⟨d,op,ty,ps,af,none⟩)::rest) σ e:=qo z (λ_ w _=>h w) y
theorem jH{v:Value}(L:sp i=false)(O:lj (args.map (ev e))=some vs)(D:∀τ w,C τ w->Fn P f vs w (λS w'=>S=v/\C τ w'))(J:RS P ops C sp Qs rest σ (fI e d v)) :
  RS P ops C sp Qs ((i,⟨d,.call ⟨.value (.func f),args.toArray,tys⟩,ty,ps,af,none⟩)::rest) σ e:=by
 have I:=mK O;rw[AX rfl,L];refine⟨v,λτ w z=>?_,J⟩
 have y:(execOp (ev e) ⟨d,.call ⟨.value (.func f),args.toArray,tys⟩,ty,ps,af,none⟩).run P w=.ok (.enter f vs.toArray) w:=by
  have h1:ev e (.func f)=.func (.func f) #[] #[]:=rfl;simp[execOp,resolve,h1,Deferred.ofValue,invoke,I,iX (D τ w z).1]
 unfold gI;rw[y];exact(D τ w z).2
theorem de{o:Oper}(z:sp i=true)(D:wE ops e o=true)(h:∀w,C σ w->gI P e o w λv w'=>C (v::σ) w')(y:∀v w',C (v::σ) w'->RS P ops C sp Qs rest (v::σ) (fI e o.dst v)):RS P ops C sp Qs ((i,o)::rest) σ e:=by
 rw[AX D,z];exact⟨h,y⟩
theorem l4(z:lj (args.map (ev e))=some vs)(y:Fn P f vs w R) :
  gI P e ⟨d,.call ⟨.value (.func f),args.toArray,tys⟩,ty,ps,af,none⟩ w R:=by
 have v:(execOp (ev e) ⟨d,.call ⟨.value (.func f),args.toArray,tys⟩,ty,ps,af,none⟩).run P w=.ok (.enter f vs.toArray) w:=by
  have h1:ev e (.func f)=.func _ #[] #[]:=rfl;simp[execOp,resolve,h1,Deferred.ofValue,invoke,(mK z),iX y.1]
 unfold gI;rw[v];exact y.2
end
section
variable{rest:List Oper}
variable{ps:String}
theorem xt{o:Nat}(vs:List Value):∀(i:Nat)(w:World)(l:List Value),eL w b tb l->(∀v∈vs,v.oneCell'=true)->o+i+vs.length<=l.length ->
   ∃w',(storeCells ⟨b,o,none⟩ vs i).run P w=.ok () w'/\w.grownBy w' (some b)/\w'.heap.size=w.heap.size/\eL w' b tb (l.take (o+i)++vs++l.drop (o+i+vs.length)):=by
 induction vs with
 |nil=>intro i w l D _ I;exact⟨w,by simp[storeCells],World.grownBy.refl _ _,rfl,by simpa using D⟩
 |cons v vs ih =>
  intro i w l D z I;simp only[fc]at I;have hv:=z v (by simp);have Z:=D.cellv (i:=o+i) (v:=l[o+i]'om) (ct om);have hf:=D.free (o+i);have h1:=run_store P w ⟨b,o+i,none⟩ v .plain hv;obtain⟨w',O,J,L,y⟩:=ih (i+1) _ _ (D.set_ (o+i) v) (λu hu=>z u (cW _ hu)) (by simp;omega);refine⟨w',?_,AW (wH w b (o+i) v) J,by simpa using L,?_⟩
  ·simp[storeCells,js,h1,stored,Z,hf,O]
  ·have S:o+(i+1)=(o+i)+1:=om;rw[S]at y;rw[qR,px om,ip om,kp _ _ (by simp;omega)]at y;have V:o+i-(l.take (o+i)).length=0:=by simp;omega
   rw[V]at y;have U:o+i+1+vs.length=o+i+(vs.length+1):=om;rw[U]at y;simpa using y
theorem Fd{y:Operand}{t o o' O dc sl sc:Nat}{z:List Value}(hu:P.underlying t=some (.slice el))(hz:∀w,(sizeOf el).run P w=.ok k w)(hx:ev e x=.slice (some ⟨b,o,none⟩) O dc)(hy:ev e y=.slice (some ⟨b',o',none⟩) sl sc)(hB:eL w b tb l)(S:eL w b' tb' l')(hn:min sl O=n)(J:(l'.drop o').take (n*k)=z)(D:z.length=n*k)(ho:o+n*k<=l.length)(L:∀v∈z,v.oneCell'=true) :
  ∃w',(execOp (ev e) ⟨d,.call ⟨.builtin .copy,#[x,y],#[t,t2]⟩,ty,ps,af,none⟩).run P w=.ok (.value (.int .i64 n)) w'/\w.grownBy w' (some b)/\w'.heap.size=w.heap.size/\eL w' b tb (l.take o++z++l.drop (o+n*k)):=by
 obtain⟨w',ab,V,aa,U⟩:=xt (P:=P) (o:=o) z 0 w l hB L om
 have I:(loadCells ⟨b',o',none⟩ _).run P w=.ok z.toArray w:=uR D (λj v hv=>by
  rw[js];refine S.cellv ?_;rw[<-J,fJ]at hv;split at hv
  ·simp_all
  ·cases hv)
 refine⟨w',?_,V,aa,by simpa [D]using U⟩;have Z:Nat.min sl O=n:=hn;simp[execOp,resolve,invoke,builtin,hx,hy,Builtin.copy_,run_underlying hu,Builtin.lenOf,Z,hz,Builtin.firstCells,I,ab,goInt]
theorem J3{y:Operand}{t o o' O S sl sc:Nat}{z:List Value}(hu:P.underlying t=some (.slice el))(hz:∀w,(sizeOf el).run P w=.ok k w)(hx:ev e x=.slice (some ⟨b,o,none⟩) O S)(hy:ev e y=.slice (some ⟨b',o',none⟩) sl sc)(Z:eL w b tb l)(L:eL w b' tb' l')(hn:min sl O=n)(D:(l'.drop o').take (n*k)=z)(I:z.length=n*k)(ho:o+n*k<=l.length)(J:∀v∈z,v.oneCell'=true)(hr:∀w',w.grownBy w' (some b)->w'.heap.size=w.heap.size->eL w' b tb (l.take o++z++l.drop (o+n*k))->RW P ops Q rest (fI e d (.int .i64 n)) w') :
  RW P ops Q (⟨d,.call ⟨.builtin .copy,#[x,y],#[t,t2]⟩,ty,ps,af,none⟩::rest) e w:=by
 obtain⟨w',h1,h2,U,V⟩:=Fd (P:=P) (d:=d) (ty:=ty) (ps:=ps) (af:=af) (t2:=t2) hu hz hx hy Z L hn D I ho J;exact wZ h1 (hr w' h2 U V)
theorem AY{o:Oper}{v:Value}(h:(execOp (ev e) o).run P w=.ok (.value v) w')(y:R v w'):gI P e o w R:=by
 unfold gI;rw[h];exact y
theorem Te{o:Oper}{v:Value}{A:World->Prop}(h:∃w',(execOp (ev e) o).run P w=.ok (.value v) w'/\A w')(y:∀w',A w'->R v w'):gI P e o w R:=by
 obtain⟨w',h1,h2⟩:=h;exact AY h1 (y w' h2)
theorem IQ{el:TypeId}{o len cap:Nat}{m n:Int}(D:P.underlying t=some (.slice el))(J:∀w,(sizeOf el).run P w=.ok k w)(I:ev e x=.slice (some ⟨b,o,none⟩) len cap)(z:ev e lo=.int kl m)(y:ev e hi=.int kh n)(v:0<=m)(h1:m<=n)(h2:n<=cap)(L:m<cap):iE P e ⟨d,.slice t x (some lo) (some hi) none,ty,ps,af,none⟩ (.slice (some ⟨b,o+m.toNat * k,none⟩) (n.toNat-m.toNat) (cap-m.toNat)):=by
 intro w;simp[gd,execOp,I,z,y,Instr.sliceAt,Instr.slice,run_underlying D,Instr.sliceBounds,run_sliceBound,(Int.toNat_of_nonneg om:_=n),v,h1,h2,(by omega:0<=n),J,(om:cap≠m.toNat),js]
theorem jb{el:TypeId}{len cap:Nat}{n:Int}(z:P.underlying t=some (.slice el))(J:∀w,(sizeOf el).run P w=.ok k w)(D:ev e x=.slice A len cap)(y:ev e hi=.int kh n)(v:0<=n)(h2:n<=cap):iE P e ⟨d,.slice t x none (some hi) none,ty,ps,af,none⟩ (.slice A n.toNat cap):=by
 intro w
 have I:(if cap=0 then A else Option.map (λx=>x.add 0) A)=A:=by
  split
  ·rfl
  ·cases A<;>simp[Addr.add]
 simp[gd,execOp,D,y,Instr.sliceAt,Instr.slice,run_underlying z,Instr.sliceBounds,run_sliceBound,v,h2];simp_all
theorem D6{el:TypeId}{o len cap:Nat}{m:Int}(z:P.underlying t=some (.slice el))(I:∀w,(sizeOf el).run P w=.ok k w)(D:ev e x=.slice (some ⟨b,o,none⟩) len cap)(y:ev e lo=.int kl m)(v:0<=m)(h1:m<=len)(J:m<cap):iE P e ⟨d,.slice t x (some lo) none none,ty,ps,af,none⟩ (.slice (some ⟨b,o+m.toNat * k,none⟩) (len-m.toNat) (cap-m.toNat)):=by
 intro w;simp[gd,execOp,D,y,Instr.sliceAt,Instr.slice,run_underlying z,Instr.sliceBounds,run_sliceBound,v,h1,I,(om:cap≠m.toNat),js]
theorem J4(z:Array Value)(k:Nat)(v:z.size=k)(m:Nat):(List.range (m*k)).map (λi=>z[i%z.size]!)=(List.replicate m z.toList).flatten:=by
 induction m with
 |zero=>simp
 |succ m ih =>
  rw[cX,pY,fq,ih,List.replicate_succ',pw];congr 1;simp only[rZ,List.flatten_cons,List.flatten_nil,fG];apply gG;intro j;by_cases y:j<k
  ·have:(m*k+j)%k=j:=by rw[ka,pn,dT y]
   simp[y,v,this]
  ·simp[y,v]
theorem Fe{el:TypeId}{y:Operand}{z:Value}{m p:Int}(hu:P.underlying t=some (.slice el))(V:(P.info? el).map (λi=>(i.zero,i.size,i.bytes))=some (some z,size,bytes))(hz:Nat.beq z.cells.size size=true)(hx:ev e x=.int kl m)(hy:ev e y=.int kc p)(hm:m=(n:Nat))(hp:p=(c:Nat))(ab:n<=c)(U:c*(bytes+1)<=140737488355328) :
  (execOp (ev e) ⟨d,.makeSlice t x y,ty,ps,af,none⟩).run P w=.ok (.value (.slice (some ⟨w.heap.size,0,none⟩) n c)) (w.alloc (.cells ((List.replicate c z.cells.toList).flatten).toArray el)):=by
 obtain⟨i,hi,L,O,S⟩:=info_parts V;subst hm;subst hp;have J:=eU hz;have Z:c*bytes<=140737488355328:=dE (eZ _ om) U;have aa:=dE (eS _ om) U
 have D:(i.bytes)*(c:Int)<=281474976710656:=by
  have h:((i.bytes*c))<=281474976710656:=by rw[S,cD];omega
  omega
 have I:=run_make w t el i z hu hi L kl kc n c om om D om
 have v:madeCells z.cells (c*i.size)=((List.replicate c z.cells.toList).flatten).toArray:=by
  rw[<-iB];unfold madeCells;simp;rw[O];exact J4 z.cells size J c
 simp at I;rw[v]at I;simp[execOp,hx,hy,I]
theorem Hy{el:TypeId}{y:Operand}{z:Value}{m p:Int}(O:P.underlying t=some (.slice el))(D:(P.info? el).map (λi=>(i.zero,i.size,i.bytes))=some (some z,1,bytes))(V:z.cells=#[z])(S:ev e x=.int kl m)(U:ev e y=.int kc p)(J:m=(n:Nat))(L:p=(c:Nat))(v:n<=c)(I:c*(bytes+1)<=140737488355328) :
  (execOp (ev e) ⟨d,.makeSlice t x y,ty,ps,af,none⟩).run P w=.ok (.value (.slice (some ⟨w.heap.size,0,none⟩) n c)) (w.alloc (.cells (List.replicate c z).toArray el)):=by
 have h:=Fe (w:=w) (d:=d) (ty:=ty) (ps:=ps) (af:=af) O D (by rw[V];rfl) S U J L v I;simp_all
theorem x4{v:Value}(y:P.underlying t=some dd)(hd:EX dd=false)(z:ev e x=.iface t v):iE P e ⟨d,.typeAssert x ts t true,ty,ps,af,none⟩ (.tuple #[v,.bool true]):=by
 intro w;cases dd<;>first|(cases hd;done)|(simp[gd,execOp,z,Instr.typeAssert,run_underlying y])
theorem yU{v:Value}(y:P.underlying t=some dd)(hd:EX dd=false)(z:ev e x=.iface t v)(D:fz v=some v):iE P e ⟨d,.typeAssert x ts t false,ty,ps,af,none⟩ v:=by
 intro w;cases dd<;>first|(cases hd;done)|(simp[gd,execOp,z,Instr.typeAssert,run_underlying y])
theorem xg{v z:Value}(D:P.underlying t=some dd)(hd:EX dd=false)(I:ev e x=.iface t' v)(y:Nat.beq t' t=false)(J:∀w,(zeroValue t).run P w=.ok z w):iE P e ⟨d,.typeAssert x ts t true,ty,ps,af,none⟩ (.tuple #[z,.bool false]):=by
 intro w;have h:t'≠t:=by rintro rfl;simp at y
 cases dd<;>first|(cases hd;done)|(simp[gd,execOp,I,Instr.typeAssert,run_underlying D,h,J])
end
def Rd(w:World)(A:Option Addr)(xs:List Value):Prop:=xs=[]\/∃b o,A=some ⟨b,o,none⟩/\b<w.heap.size/\∀(j:Nat)v,xs[j]?=some v->w.cell? ⟨b,o+j,none⟩=some v
def R1(w:World)(el:TypeId)(v:Value)(xs:List Value):Prop:=w.ownsRow 0 el 1 v xs.length xs
structure Fr(F:Nat->Prop)(w w':World):Prop where
 os:w'.os=w.os
 tape:w'.tape=w.tape
 output:w'.output=w.output
 size:w.heap.size<=w'.heap.size
 block:∀g,g<w.heap.size->¬F g->w'.heap[g]?=w.heap[g]?
theorem Fr.refl(F:Nat->Prop)(w:World):Fr F w w:=⟨rfl,rfl,rfl,cN _,λ_ _ _=>rfl⟩
theorem Fr.of_gr(h:Gr w w'):Fr F w w':=⟨h.os,h.tape,h.output,h.size,λg v _=>h.block g v⟩
theorem Fr.of_grown{v:Option Nat}(h:w.grownBy w' v)(y:∀g,v=some g->F g):Fr F w w':=⟨h.os,h.tape,h.output,h.size,λg z D=>h.block g z (λe=>D (y g e.symm))⟩
theorem Fr.trans(h:Fr F w0 w)(k:Fr F' w w')(z:∀g,F' g->F g\/w0.heap.size<=g):Fr F w0 w' :=
 ⟨k.os.trans h.os,k.tape.trans h.tape,k.output.trans h.output,dE h.size k.size,λg v y=>(k.block g (fg v h.size) (λe=>(z g e).elim y (λh=>by omega))).trans (h.block g v y)⟩
theorem Fr.weak(h:Fr F w w')(v:∀g,F g->F' g):Fr F' w w':=⟨h.os,h.tape,h.output,h.size,λg y z=>h.block g y (λe=>z (v g e))⟩
theorem Fr.gr(h:Fr F w w')(v:∀g,F g->w.heap.size<=g):Gr w w':=(World.grownBy.mk h.os h.tape h.output h.size (λg y _=>h.block g y (λe=>by have:=v g e;omega)):w.grownBy w' none)|>Gr.of_grown
theorem Fr.then_gr(h:Fr F w0 w)(g:Gr w w'):Fr F w0 w':=h.trans (Fr.of_gr (F:=λ_=>False) g) (λ_ h=>h.elim)
theorem eL.fr(h:eL w b t l)(k:Fr F w w')(v:¬F b):eL w' b t l:=(k.block b h.lt v).trans h
section
variable{el:TypeId}{v:Value}
theorem R1.form(h:R1 w el v xs):(v=.slice none 0 0/\xs=[])\/∃g c l,v=.slice (some ⟨g,0,none⟩) xs.length c/\eL w g el l/\xs.length<=c/\l.length=c/\l.take xs.length=xs:=by
 rcases h.2 with⟨rfl,h2⟩|⟨g,cap,cur,J,_,D,y,_,z,I⟩
 ·simp_all
 ·exact .inr ⟨g,cap,cur.toList,J,by unfold eL;simpa using D,y,by simpa using z,by simpa using I⟩
theorem R1.slice(h:R1 w el v xs):∃A c,v=.slice A xs.length c:=by
 rcases h.form with⟨rfl,rfl⟩|⟨g,c,l,rfl,_⟩
 ·simp_all
 ·simp_all
theorem R1.keep(h:R1 w el v xs)(D:∀g,v.ownBlock=some g->w'.heap[g]?=w.heap[g]?):R1 w' el v xs:=by
 obtain⟨h1,h2⟩:=h;refine⟨h1,?_⟩;rcases h2 with h2|⟨g,cap,cur,rfl,y,z,r⟩
 ·simp_all
 ·exact .inr ⟨g,cap,cur,rfl,y,(D g rfl).trans z,r⟩
theorem R1.lt(h:R1 w el v xs)(y:v.ownBlock=some g):g<w.heap.size:=by
 rcases h.form with⟨rfl,_⟩|⟨D,c,l,rfl,z,_⟩
 ·cases y
 ·injection y with y;subst y;exact z.lt
theorem R1.fr(h:R1 w el v xs)(k:Fr F w w')(z:∀g,v.ownBlock=some g->¬F g):R1 w' el v xs:=h.keep λg y=>k.block g (h.lt y) (z g y)
theorem R1.gr(h:R1 w el v xs)(k:Gr w w'):R1 w' el v xs:=h.keep λg y=>k.block g (h.lt y)
theorem R1.rd(h:R1 w el (.slice A n c) xs):Rd w A xs:=by
 rcases h.form with⟨z,rfl⟩|⟨g,c',l,z,y,D,J,L⟩
 ·exact .inl rfl
 ·injection z with hA;refine .inr ⟨g,0,hA,y.lt,λj v I=>?_⟩;refine y.cellv ?_;grind
theorem R1.nil(w:World)(el:TypeId):R1 w el (.slice none 0 0) []:=World.ownsRow_nil _ _ _ _
theorem R1.new(w:World)(el:TypeId)(l:List Value)(v:l.length<=maxLen):R1 (w.alloc (.cells l.toArray el)) el (.slice (some ⟨w.heap.size,0,none⟩) l.length l.length) l :=
 ⟨by simp,.inr ⟨w.heap.size,l.length,l.toArray,rfl,om,heap_alloc_new w _,cN _,v,by simp,by simp⟩⟩
theorem R1.of_blk(v:eL w g el l)(y:l.length<=maxLen):R1 w el (.slice (some ⟨g,0,none⟩) l.length l.length) l :=
 ⟨by simp,.inr ⟨g,l.length,l.toArray,rfl,om,v,cN _,y,by simp,by simp⟩⟩
theorem Rd.fr(h:Rd w A xs)(k:Fr F w w')(D:∀a,A=some a->¬F a.block):Rd w' A xs:=by
 rcases h with h|⟨b,o,rfl,y,h⟩
 ·exact .inl h
 ·exact .inr ⟨b,o,rfl,fg y k.size,λj v z=>by rw[World.cell?_of_block (k.block b y (D ⟨b,o,none⟩ rfl))];exact h j v z⟩
theorem Rd.gr(h:Rd w A xs)(k:Gr w w'):Rd w' A xs:=h.fr (Fr.of_gr (F:=λ_=>False) k) (λ_ _ h=>h)
end
section
variable{rest:List Oper}
variable{ps:String}
theorem yV{el:TypeId}{i:Operand}{o len:Nat}{kd:IntKind}{n:Int}(y:P.underlying t=some (.array len el))(D:∀w,(sizeOf el).run P w=.ok k w)(z:ev e x=.pointer (some ⟨b,o,none⟩))(hi:ev e i=.int kd n)(v:0<=n)(h1:n<len) :
  iE P e ⟨d,.indexAddr t x i,ty,ps,af,none⟩ (.pointer (some ⟨b,o+n.toNat * k,none⟩)):=by
 intro w;simp[gd,execOp,z,hi,Instr.indexAt,Instr.sureAddr,asIntOf,run_underlying y,D,v,h1,js]
theorem Ff{el:TypeId}{i:Operand}{len:Nat}{kd:IntKind}{n:Int}{cs:List Value}{v:Value}(D:P.underlying t=some (.array len el))(hd:P.underlying el=some dd)(L:∀w,(sizeOf el).run P w=.ok k w)(z:sM dd=false)(J:ev e x=.agg cs.toArray)(hi:ev e i=.int kd n)(y:0<=n)(h1:n<len)(I:cs[n.toNat * k]?=some v):iE P e ⟨d,.index t x i,ty,ps,af,none⟩ v:=by
 intro w;simp[gd,execOp,J,hi,Instr.index,asIntOf,run_underlying D,L,y,h1,part,si hd,z,I]
theorem xF{a:Option Addr}{B:Bool}(D:P.underlying t=some (.slice te))(I:ev e x=.slice a n c)(z:a.isNone=B):iE P e ⟨d,.binOp .eql t x (.const (.slice none 0 0)) t',ty,ps,af,none⟩ (.bool B):=by
 intro w;subst z;have h2:ev e (.const _)=.slice none 0 0:=rfl
 have v:∀n':Nat,(Op.equalIn (n'+1) t (.slice a n c) (.slice none 0 0)).run P w=.ok a.isNone w:=λn'=>by
  unfold Op.equalIn;cases a<;>simp[run_underlying D]
 have y:(Op.equal t _ _).run P w=.ok a.isNone w:=v 9999;cases a<;>simp[gd,execOp,I,h2,eqGuard,binOp,y]
theorem uS{a:Option Addr}{B:Bool}(D:P.underlying t=some (.pointer te))(I:ev e x=.pointer a)(z:a.isSome=B):iE P e ⟨d,.binOp .neq t x (.const (.pointer none)) t',ty,ps,af,none⟩ (.bool B):=by
 intro w;subst z;have h2:ev e (.const _)=.pointer none:=rfl
 have v:∀n:Nat,(Op.equalIn (n+1) t (.pointer a) (.pointer none)).run P w=.ok a.isNone w:=λn=>by
  unfold Op.equalIn;cases a<;>simp[run_underlying D]
 have y:(Op.equal t _ _).run P w=.ok a.isNone w:=v 9999;cases a<;>simp[gd,execOp,I,h2,eqGuard,binOp,y]
theorem Mu{el:TypeId}(y:P.underlying t=some (.slice el))(v:∀w,(sizeOf el).run P w=.ok k w) :
  (execOp (ev e) ⟨d,.buildSlice t 0 #[],ty,ps,af,none⟩).run P w=.ok (.value (.slice (some ⟨w.heap.size,0,none⟩) 0 0)) (w.alloc (.cells ([]:List Value).toArray el)):=by
 simp[execOp,Instr.buildSlice,run_underlying y,v,newRow,Instr.fill,(Array.eq_empty_of_size_eq_zero (by simp):Array.range 0=#[])]
def Bt(bs:List Int):ByteArray:=bs.foldl (λr n=>r.push (UInt8.ofNat n.toNat)) ByteArray.empty
def c8(bs:List Int):List Value:=bs.map (Value.int .u8)
theorem BZ{el:TypeId}{bs:List Int}(S:P.underlying t=some (.slice el))(I:P.underlying el=some (.int .u8))(hd:P.underlying t'=some .string)(y:ev e x=.slice A bs.length c)(z:Rd w A (c8 bs)) :
  gd P e ⟨d,.convert t t' x,ty,ps,af,none⟩ w (.string (Bt bs)):=by
 have h1:=run_convert_bytes_string w t t' el A bs.length c S I hd;rcases z with O|⟨b,o,rfl,_,D⟩
 ·have:bs=[]:=by simpa [c8]using O
  subst this
  have h2:(Conv.bytesToString (.slice A ([]:List Int).length c)).run P w=.ok (.string ByteArray.empty) w:=by
   cases A with
   |none=>simp[Conv.bytesToString]
   |some a=>exact run_bytesToString w a 0 c [] (by simp[loadCells,loadCellsFrom])
  simp only[gd,execOp,y,Sem.run_bind,h1,h2];rfl
 ·have L:(loadCells ⟨b,o,none⟩ bs.length).run P w=.ok (bs.map _).toArray w:=uR (by simp) (λj v J=>by rw[js];exact D j v J);simp[gd,execOp,y,h1,(run_bytesToString w ⟨b,o,none⟩ bs.length c bs L),Bt]
end
end Go.Proofs.YtjfeklflkikapaaGreatDoor
