/- A part of the proof that hachuretop.WholeErrors returns true at every input; no condition. -/
import Derived.Test.YtceahkcepefcaaaGreatDoorKC
set_option maxRecDepth 100000
set_option maxHeartbeats 16000000
set_option linter.unusedVariables false
set_option linter.unusedSimpArgs false
namespace Go.Proofs.YtceahkcepefcaaaGreatDoor
open Go.Proofs.Tryz Go.RowKit
variable{Q:(Nat->Value)->World->Prop}{listed:Array Bool}{af:Array Edge}{ops:Array Oper}{bd sg:Code}{Q':Exit->Act->World->Prop}{f:FuncId}{h h':HA}{a a':Int}{σ:List (Nat × Value)}{K' Lq:List (Nat × Value)->Act->Prop}{df:List Deferred}{L' L1 M T tl:List HA}{hd:List Nat}{args:List Operand}{l l2 xs ys τ:List Value}{Qs:List Value->(Nat->Value)->Prop}{N b bytes c el g i j j1 j2 k k1 k2 m n p q:Nat}{sp:Nat->Bool}{c':Nat->Int}{F X:Nat->Prop}{e:Nat->Value}{op:Op}{hi x:Operand}{A B l0:Option Addr}{ro:Option Nat}{d:Option Tmp}{P:Program}{H:Type}{t ty:TypeId}{u vp vq zv:Value}{R:Value->World->Prop}{W w w' w0 wq:World}{C:World->Prop}
namespace TI
section
variable{C:List (Nat × Value)->World->Prop}
def Kd(ops:Array Oper)(tl S:List Nat)(pre:Nat->List Nat):Nat->Array Bool->List Nat->Bool
 |0,listed,_=>tU ops tl listed
 |f+1,listed,done=>!(Region.ready .any ops listed).isEmpty&&(Region.ready .any ops listed).all λj=>S.contains j&&!done.contains j&&(pre j).all (λi=>done.contains i)&&Kd ops tl S pre f (listed.setIfInBounds j true) (j::done)
structure W4(qs:List (Nat×Oper))(e:Nat->Value)(σ:List (Nat×Value))(e':Nat->Value):Prop where
 old:∀k,(∀p∈qs,p.2.dst≠some k)->e' k=e k
 new:∀p∈qs,∀k,p.2.dst=some k->∀v,σ.lookup p.1=some v->e' k=v
def Ke(P:Program)(ops:Array Oper)(C:List (Nat×Value)->World->Prop)(pre:Nat->List Nat)(e:Nat->Value):List (Nat×Oper)->Prop
 |[]=>True
 |p::r=>(wE ops e p.2=true/\∀σ w,C σ w->σ.lookup p.1=none->(∀i∈pre p.1,(σ.lookup i).isSome=true)->gI P e p.2 w λv w'=>C ((p.1,v)::σ) w')/\Ke P ops C pre e r
theorem Ke.mem{pre:Nat->List Nat}:∀{qs:List (Nat×Oper)},Ke P ops C pre e qs->∀p∈qs,wE ops e p.2=true/\∀σ w,C σ w->σ.lookup p.1=none->(∀i∈pre p.1,(σ.lookup i).isSome=true)->gI P e p.2 w λv w'=>C ((p.1,v)::σ) w'
 |[],_,p,hp=>by cases hp
 |q::r,h,p,hp=>(dy.1 hp).elim (λe=>e▸h.1) (λe=>h.2.mem p e)
theorem EP(h:i∉σ.map Prod.fst):σ.lookup i=none:=by
 induction σ with
 |nil=>rfl
 |cons p r ih =>
  obtain⟨j,v⟩:=p;simp only[iJ,dy,not_or]at h;rw[cZ,show(i==j)=false by simpa using h.1];exact ih h.2
theorem yM(h:i∈σ.map Prod.fst):(σ.lookup i).isSome=true:=by
 induction σ with
 |nil=>cases h
 |cons p r ih =>
  obtain⟨j,v⟩:=p;rw[cZ];by_cases e:i=j
  ·subst e;simp
  ·rw[show(i==j)=false by simpa using e];exact ih ((dy.1 h).resolve_left e)
theorem Fu{tl:List Nat}{qs:List (Nat×Oper)}{pre:Nat->List Nat}{a0:Act}(ac:oo N df e a0)(O:∀p∈qs,ops[p.1]?=some p.2/\sp p.1=true/\p.1∈hd/\qI N p.2.dst=true)(Z:Region.noSelect ops=true)(aa:∀p∈qs,∀q∈qs,p.1≠q.1->p.2.apart ops q.2=true)(D:Ke P ops C pre e qs)(U:∀σ y a,(∀p∈qs,(σ.lookup p.1).isSome=true)->W4 qs e σ y->oo N df y a->Lq σ a)(S:∀σ:List (Nat×Value),(∀i∈σ.map Prod.fst,i∈qs.map Prod.fst)->(σ.map Prod.fst).Nodup->σ.length=qs.length->∀p∈qs,p.1∈σ.map Prod.fst) :
  ∀(f:Nat)(listed:Array Bool)(σ:List (Nat×Value))(y:Nat->Value)(a:Act),σ.length+f=qs.length->(∀i∈σ.map Prod.fst,i∈qs.map Prod.fst)->(σ.map Prod.fst).Nodup->W4 qs e σ y->oo N df y a ->
   (∀p∈qs,p.1∉σ.map Prod.fst->execOp a.eval p.2=execOp a0.eval p.2/\Region.wanted p.2 (yielded ops a.tmps)=Region.wanted p.2 (yielded ops a0.tmps))->Kd ops tl (qs.map Prod.fst) pre f listed (σ.map Prod.fst)=true ->
   vP P ops C sp hd (λI σ' a'=>tU ops tl I=true/\Lq σ' a') f listed σ a
 |0,listed,σ,y,a,hl,hsub,hnd,hE,hr,_,hB=>⟨by simpa [Kd]using hB,U σ y a (λp V=>yM (S σ hsub hnd om p V)) hE hr⟩
 |f+1,listed,σ,y,a,hl,hsub,hnd,hE,hr,hsame,hB=>by
  simp only[Kd,cM,hZ,List.isEmpty_eq_false_iff,dh]at hB
  refine⟨hB.1,λj hj=>?_⟩
  obtain⟨⟨⟨hS,z⟩,ae⟩,ag⟩:=by have:=hB.2 j hj;simpa only[cM,hZ,dh]using this
  have hS:j∈qs.map Prod.fst:=by simpa using hS
  have z:j∉σ.map Prod.fst:=by simpa using z
  obtain⟨p,V,rfl⟩:=fC.1 hS;obtain⟨h0,hs,aj,hd⟩:=O p V;refine⟨aj,?_⟩;obtain⟨ai,an⟩:=hsame p V z;obtain⟨hw,am⟩:=D.mem p V;unfold De;rw[h0];dsimp only;rw[an,ac.wanted,a7 hw,hs];refine⟨λw hC=>?_,λv w' hC=>?_⟩
  ·have:=am σ w hC (EP z) (λi hi=>yM (by have:=ae i hi;simpa using this));unfold nl;rw[ai,ac.eval];exact this
  ·refine Fu ac O Z aa D U S f _ ((p.1,v)::σ) (fI y p.2.dst v) _ (by simp only[fc];omega) (λi hi=>(dy.1 hi).elim (λh=>h▸hS) (hsub i)) (List.nodup_cons.2 ⟨z,hnd⟩) ?_ (hr.put hd v) ?_ ag
   ·have ad:∀k,p.2.dst≠some k->fI y p.2.dst v k=y k:=λk J=>by
     cases ah:p.2.dst with
     |none=>rfl
     |some d =>
      show yP y d v k=y k;rw[xW,a8 (λh=>J (by rw[ah,h]))]
    refine⟨λk J=>(ad k (J p V)).trans (hE.old k J),λq hq k J u hu=>?_⟩;by_cases L:q.1=p.1
    ·rw[cZ,show(q.1==p.1)=true by simpa using L]at hu
     have ak:q.2=p.2:=by
      have h1:=(O q hq).1;rw[L,h0]at h1;exact(Option.some.inj h1).symm
     cases hu
     rw[ak]at J;show fI y p.2.dst v k=v;rw[J];show yP y k v k=v;rw[xW,a7 rfl]
    ·rw[cZ,show(q.1==p.1)=false by simpa using L]at hu;obtain⟨_,h2,_⟩:=Oper.apart_spec (aa p V q hq (Ne.symm L));rw[ad k (λh=>h2 k h J)];exact hE.new q hq k J u hu
   ·intro q hq ab;simp only[iJ,dy,not_or]at ab;obtain⟨h1,_,_⟩:=Oper.apart_spec (aa p V q hq (Ne.symm ab.1));have al:=λcs b=>Region.noSelect_spec Z q.1 q.2 cs b (O q hq).1;obtain⟨g1,g2⟩:=hsame q hq ab.2;exact⟨(Fg q.2 al a p.2.dst v h1).trans g1,(wanted_put q.2 a p.2.dst v h1).trans g2⟩
def E0(ops:Array Oper)(B:Array Bool->Bool):List Nat->Array Bool->Bool
 |[],listed=>B listed
 |i::r,listed=>(Region.ready .any ops listed).contains i&&Region.free .any ops listed i&&E0 ops B r (listed.setIfInBounds i true)
theorem A0{tl:List Nat}{B:Array Bool->Bool}{Qs:List (Nat×Value)->(Nat->Value)->Prop}(L:Region.noSelect ops=true)(I:∀i,i<ops.size->i∈hd\/i∈tl)(D:∀t∈tl,∀i∈hd,i∈vm ops ops.size t)(J:∀t∈tl,t∉hd)(z:∀listed e a,oo N df e a->Qs [] e->B listed=true->vP P ops C sp hd (λy σ' a'=>tU ops tl y=true/\Lq σ' a') n listed [] a) :
  ∀(ps:List (Nat×Oper))(listed:Array Bool)(e:Nat->Value)(a:Act),(∀p∈ps,ops[p.1]?=some p.2/\sp p.1=false/\p.1∈hd/\qI N p.2.dst=true)->tT ops listed->oo N df e a->RS P ops C sp Qs ps [] e->E0 ops B (ps.map Prod.fst) listed=true ->
   vP P ops C sp hd (λy σ' a'=>tU ops tl y=true/\Lq σ' a') (ps.length+n) listed [] a
 |[],listed,e,a,_,_,O,h,hB=>by
  rw[sT,eH]
  exact z listed e a O h hB
 |(i,o)::r,listed,e,a,hps,hcl,O,h,hB=>by
  obtain⟨h0,U,V,hd⟩:=hps (i,o) (by simp)
  simp only[iJ,E0,cM]at hB;have S:i∈Region.ready .any ops listed:=by simpa using hB.1.1
  rw[show((i,o)::r).length+n=(r.length+n)+1 by simp only[fc];omega]
  have h1:Mr P ops C sp i o (λσ e=>σ=[]/\RS P ops C sp Qs r [] e) [] e:=by
   unfold Mr;have U:sp i=false:=U;unfold RS at h;rw[U]at h ⊢;split
   ·rename_i hw;rw[a7 hw]at h;obtain⟨v,g1,g2⟩:=h;exact⟨v,g1,rfl,g2⟩
   ·rename_i hw;rw[a8 hw]at h;exact⟨rfl,h⟩
  refine BY L I D J h0 U V hcl S hB.1.2 (xf (K':=λσ a=>σ=[]/\∃e,oo N df e a/\RS P ops C sp Qs r [] e) hd O (λσ e a O⟨h1,h2⟩=>⟨h1,e,O,h2⟩) h1) ?_;rintro σ a' ⟨rfl,e',Z,h'⟩;exact A0 L I D J z r _ e' a' (λp hp=>hps p (cW _ hp)) (hcl.set S) Z h' hB.2
def Eb(V:Nat->Value):List (Nat×Oper)->(Nat->Value)->Nat->Value
 |[],e=>e
 |p::r,e=>Eb V r (fI e p.2.dst (V p.1))
theorem Dm{V:Nat->Value}:∀{qs:List (Nat×Oper)}{e:Nat->Value}{k:Nat},(∀p∈qs,p.2.dst≠some k)->Eb V qs e k=e k
 |[],_,_,_=>rfl
 |p::r,e,k,h=>by
  show Eb V r _ k=e k
  rw[Dm (λq v=>h q (cW _ v))]
  have h1:=h p (by simp)
  cases hd:p.2.dst with
  |none=>rfl
  |some d=>show yP e d _ k=e k;rw[xW,a8 (λe=>h1 (by rw[hd,e]))]
theorem HC{V:Nat->Value}:∀{qs:List (Nat×Oper)}{e:Nat->Value}{k:Nat}(p:Nat×Oper),p∈qs->p.2.dst=some k->qs.Pairwise (λp q=>∀d,p.2.dst=some d->q.2.dst≠some d)->Eb V qs e k=V p.1
 |[],_,_,p,hp,_,_=>by cases hp
 |q::r,e,k,p,hp,hk,hpw=>by
  obtain⟨h1,h2⟩:=List.pairwise_cons.1 hpw
  rcases dy.1 hp with rfl|v
  ·show Eb V r _ k=_;rw[Dm (λq y=>h1 q y k hk),hk];show yP e k _ k=_;rw[xW,a7 rfl]
  ·show Eb V r _ k=_;exact HC p v hk h2
theorem Ec:∀(v l2:List Nat),v.Nodup->(∀x∈v,x∈l2)->l2.length<=v.length->∀x∈l2,x∈v
 |[],l2,_,_,hl,x,hx=>by
  rw[gj (Nat.le_zero.1 hl)]at hx
  cases hx
 |a::r,l2,hn,hs,hl,x,hx=>by
  by_cases e:x=a
  ·simp[e]
  ·obtain⟨h1,h2⟩:=List.nodup_cons.1 hn
   have D:=hs a (by simp);refine cW _ (Ec r (l2.erase a) h2 (λy z=>(List.mem_erase_of_ne (λ(h:y=a)=>h1 (h▸z))).2 (hs y (cW _ z))) ?_ x ((List.mem_erase_of_ne e).2 hx));rw[List.length_erase_of_mem D];simp only[fc]at hl;omega
theorem Fv{l:List Oper}{is:List Nat}(h:(is.all λi=>decide (i<l.length))=true){p:Nat×Oper}(y:p∈kz l is):p.1∈is/\l.toArray[p.1]?=some p.2:=by
 have h1:=Br l is h;have h2:(p.1,some p.2)∈(kz l is).map λp=>(p.1,some p.2):=fC.2 ⟨p,y,rfl⟩;rw[<-h1]at h2;obtain⟨i,hi,e⟩:=fC.1 h2;obtain⟨rfl,v⟩:=Prod.mk.inj e;exact⟨hi,v⟩
theorem Ed{l:List Oper}{is:List Nat}(h:(is.all λi=>decide (i<l.length))=true):(kz l is).map Prod.fst=is:=by
 have h1:=congrArg (List.map Prod.fst) (Br l is h);simpa [Function.comp_def]using h1.symm
def Tn(ops:Array Oper)(sp:List Nat)(hd0 tl:List Nat)(pre:Nat->List Nat):Bool :=
 Region.noSelect ops&&decide (hd0.length+sp.length+tl.length=ops.size)&&((List.range ops.size).all λi=>hd0.contains i||sp.contains i||tl.contains i)&&(hd0.all λi=>!sp.contains i) &&
 (tl.all λx=>(hd0++sp).all λi=>(vm ops ops.size x).contains i)&&(tl.all λx=>!(hd0++sp).contains x)&&decide sp.Nodup&&E0 ops (λl=>Kd ops tl sp pre sp.length l []) hd0 (Array.replicate ops.size false)
def IY:List (Nat×Oper)->Bool
 |[]=>true
 |p::r=>(r.all λq=>match p.2.dst with|some d=>q.2.dst !=some d|none=>true)&&IY r
theorem Ee:∀{qs:List (Nat×Oper)},IY qs=true->qs.Pairwise (λp q=>∀d,p.2.dst=some d->q.2.dst≠some d)
 |[],_=>.nil
 |p::r,h=>by
  simp only[IY,cM,dh]at h
  refine .cons (λq v d hd=>?_) (Ee h.2)
  have:=h.1 q v
  rw[hd]at this;simpa using this
theorem YA{Q:Exit->(Nat->Value)->World->Prop}{id:Nat}{l:List Oper}(sl y tl:List Nat)(pre:Nat->List Nat)(hm:P.follows .mixedOrders=true)(hB:(Tn l.toArray sl y tl pre&&((sl++y++tl).all λi=>decide (i<l.length))&&((kz l sl).all λp=>(kz l sl).all λq=>p.1==q.1||p.2.apart l.toArray q.2)&&IY (kz l sl))=true)(hC:C [] w.drew)(h:RS P l.toArray C (λi=>sl.contains i) (λ_ e'=>Ke P l.toArray C pre e' (kz l sl)/\∀σ V,(∀p∈kz l sl,σ.lookup p.1=some (V p.1))->∀w',C σ w'->RW P l.toArray (λe w=>Q .normal e w) (iS l tl) (Eb V (kz l sl) e') w') (kz l y) [] e) :
  CW P N (.region id l.toArray true) Q e w:=λhk df a hr ro=>by
 simp only[cM]at hB;obtain⟨⟨⟨hO,aA⟩,ar⟩,aC⟩:=hB;simp only[Tn,cM,cT]at hO;obtain⟨⟨⟨⟨⟨⟨⟨J,aj⟩,ad⟩,au⟩,ac⟩,ae⟩,aH⟩,av⟩:=hO;simp only[kS,cM]at hk;have D:∀i∈sl++y++tl,i<l.length:=λi hi=>by have:=dh.1 aA i hi;simpa using this
 have al:(sl.all λi=>decide (i<l.length))=true:=dh.2 λi hi=>cF (D i (by simp[hi]));have ak:(y.all λi=>decide (i<l.length))=true:=dh.2 λi hi=>cF (D i (by simp[hi]));have U:(tl.all λi=>decide (i<l.length))=true:=dh.2 λi hi=>cF (D i (by simp[hi]));have I:∀(i:Nat)(o:Oper),l.toArray[i]?=some o->qI N o.dst=true:=λi o h3=>dh.1 hk.1 o (dD (by simpa using h3));have an:((iS l tl).all λo=>qI N o.dst)=true:=wG hk.1 tl U;have ab:((iS l tl).all λo=>!vF o.op)=true:=wG hk.2 tl U;have ai:=Ed al;have ah:=Ed ak
 have O:∀i,i<l.toArray.size->i∈y++sl\/i∈tl:=λi hi=>by
  have:=dh.1 ad i (dJ.2 hi);simp only[ky,n4]at this;simp only[ez];exact this
 have L:∀t∈tl,∀i∈y++sl,i∈vm l.toArray l.toArray.size t:=λt ht i hi=>by
  have:=dh.1 (dh.1 ac t ht) i hi;simpa using this
 have S:∀t∈tl,t∉y++sl:=λt ht=>by have:=dh.1 ae t ht;simpa using this
 have aD:=Ee aC;have az:(kz l sl).length=sl.length:=by have:=congrArg List.length ai;simpa using this
 have aw:(kz l y).length=y.length:=by have:=congrArg List.length ah;simpa using this
 have H:=A0 (P:=P) (C:=C) (sp:=λi=>sl.contains i) (Lq:=λσ a'=>∀w',C σ w'->wpListIn (wF ro) 0 P l.toArray (λx a w=>∃e,oo N df e a/\Q x e w) (iS l tl) a' w') (N:=N) (n:=sl.length) (df:=df) (hd:=y++sl) (tl:=tl) J O L S
  (λlisted e1 a1 am hq ap=>Fu (qs:=kz l sl) (pre:=pre) (e:=e1) (a0:=a1) am
   (λp z=>by obtain⟨h1,h2⟩:=Fv al z;exact⟨h2,by simpa using h1,by simp[h1],I _ _ h2⟩) J
   (λp z q hq aB=>by
    have:=dh.1 (dh.1 ar p z) q hq;simp only[ky,fX]at this;exact this.resolve_left aB) hq.1
   (λσ e' a' aa hE Z w' aq=>by
    have hV:∀p∈kz l sl,σ.lookup p.1=some ((λi=>(σ.lookup i).getD undef) p.1):=λp z=>by
     obtain⟨v,hv⟩:=qm.1 (aa p z);simp[hv]
    have aF:=hq.2 σ (λi=>(σ.lookup i).getD undef) hV w' aq
    have aE:oo N df (Eb (λi=>(σ.lookup i).getD undef) (kz l sl) e1) a':=⟨Z.defers,Z.size,λk=>(Z.get k).trans (by
     by_cases hx:∃p∈kz l sl,p.2.dst=some k
     ·obtain⟨p,z,ag⟩:=hx;rw[hE.new p z k ag _ (hV p z),HC p z ag aD]
     ·have ao:∀p∈kz l sl,p.2.dst≠some k:=λp z h=>hx ⟨p,z,h⟩;rw[hE.old k ao,Dm ao])⟩
    exact sY (λe a w hr h=>⟨e,hr,h⟩) _ _ a' w' an ab aE aF)
   (λσ h1 h2 h3 p z=>Ec _ ((kz l sl).map Prod.fst) h2 h1 (by rw[eP,eP,h3];exact cN _) p.1 (fC.2 ⟨p,z,rfl⟩))
   sl.length listed [] e1 a1 (by rw[az];simp) (λi hi=>by cases hi) List.nodup_nil ⟨λ_ _=>rfl,λp _ k _ v hv=>by cases hv⟩ am (λ_ _ _=>⟨rfl,rfl⟩) (by rw[ai];exact ap))
  (kz l y) (Array.replicate l.toArray.size false) e a (λp z=>by
   obtain⟨h1,h2⟩:=Fv ak z;have h3:=dh.1 au p.1 h1;exact⟨h2,by simpa using h3,by simp[h1],I _ _ h2⟩)
  (λi hi=>by
   have h0:∀m j:Nat,(Array.replicate m false).getD j false=false:=λm j=>by
    rcases eV j m with h'|h'
    ·simp[h']
    ·simp[h']
   rw[h0]at hi;cases hi) hr h (by rw[ah];exact av)
 refine wpIn_region_any hm ?_;have:=vQ (Q':=λx a w=>∃e,oo N df e a/\Q x e w) (ro:=ro) (by simpa using hk.2) (g:=tl.length) (λlisted σ a' w' aG hL=>uQ tl _ listed a' w' (Bp l tl U) hL.1 (hL.2 w' aG)) _ _ _ _ _ hC H;rw[aw,aj]at this;exact this
end
end TI
def CS(F:Nat->Prop)(W:World)(L:List HA)(i el k n:Nat)(xs ys:List Value)(wq:World):List Value->Prop
 |[]=>St F W wq L
 |[v]=>∃A',v=.slice A' 1 1/\St F W wq (.row el k A' 1 1 ys::L)
 |[u,_]=>∃A' c' L',u=.slice A' (n+1) c'/\j7 L i (.row el k A' (n+1) c' (xs++ys))=some L'/\St F W wq L'
 |_=>False
section
variable{L:List HA}
theorem CS.gr(h:CS F W L i el k n xs ys wq τ)(g:Gr wq w'):CS F W L i el k n xs ys w' τ:=by
 match τ,h with
 |[],h=>exact St.gr (show St F W wq L from h) g
 |[v],⟨A',e,h⟩=>exact⟨A',e,h.gr g⟩
 |[u,v],⟨A',c',L',e,hs,h⟩=>exact⟨A',c',L',e,hs,h.gr g⟩
theorem tG:∀(L L':List HA)(i j:Nat)(h:HA),j7 L i h=some L'->j≠i->gi L' j=gi L j:=by
 intro L;induction L with
 |nil=>intro L' i j h v _;cases i<;>simp[j7]at v
 |cons a L ih =>
  intro L' i j h v z;cases i with
  |zero =>
   simp only[j7,Option.some.injEq]at v;subst v;cases j with
   |zero=>exact absurd rfl z
   |succ j=>rfl
  |succ i =>
   simp only[j7]at v;cases y:j7 L i h with
   |none=>rw[y]at v;cases v
   |some M =>
    rw[y]at v;obtain rfl:=Option.some.inj v;cases j with
    |zero=>rfl
    |succ j=>exact ih M i j h y (λe=>z om)
theorem CS.ok(h:CS F W L i el k n xs ys wq τ)(z:j≠i){x:HA}(y:gi L j=some x):x.ok wq:=by
 match τ,h with
 |[],h=>exact St.ok (show St F W wq L from h) y
 |[v],⟨A',e,h⟩=>exact h.ok (i:=j+1) y
 |[u,v],⟨A',c',L',e,hs,h⟩=>exact h.ok (i:=j) ((tG _ _ _ _ _ hs z).trans y)
theorem CS.frw(h:CS F W L i el k n xs ys wq τ):Fr F W wq:=by
 match τ,h with
 |[],h=>exact St.fr (show St F W wq L from h)
 |[v],⟨A',e,h⟩=>exact h.fr
 |[u,v],⟨A',c',L',e,hs,h⟩=>exact h.fr
end
section
variable{ps:String}{L:List HA}
theorem rO{el:TypeId}{y:List (Nat×Operand)}{z:Value}{l0:List Value}(V:CS F W L i el k n xs l wq [])(hu:P.underlying t=some (.slice el))(Z:∀w,(sizeOf el).run P w=.ok k w)(hz:∀w,(zeroValue el).run P w=.ok z w)(J:z.cells.toList.length=k)(D:Nat.beq (1*k) 0=false)(U:Nat.ble (1*k) 16777216=true)(h1:yS (λi=>some (i*k,k)) ((List.replicate 1 z.cells.toList).flatten) (yQ e y)=some l0)(h2:lj l0=some l)(O:Nat.beq l.length (1*k)=true) :
  gI P e ⟨d,.buildSlice t 1 y.toArray,ty,ps,af,none⟩ wq (λv w'=>CS F W L i el k n xs l w' [v]):=by
 refine AY (mu hu Z hz J D U h1 h2) ?_;have S:St F W wq L:=V;refine⟨_,rfl,S.push (Gr.alloc _ _) (h:=.row el k (some ⟨wq.heap.size,0,none⟩) 1 1 l) (gH.of_blk (eL.new _ _ _) (eU O) (by unfold maxLen;omega)) (λg I=>?_)⟩;have:wq.heap.size=g:=by injection I
 omega
theorem u6{s:Operand}{t:Nat}{z v:Value}(hq:CS F W L i el k n xs ys wq [v])(hi:gi L i=some (.row el k A n c xs))(hf:∀h,∃L',j7 L i h=some L')(hu:P.underlying t=some (.slice el))(hI:(P.info? el).map (λi=>(i.zero,i.size,i.bytes))=some (some z,k,bytes))(hz:Nat.beq z.cells.size k=true)(hk:Nat.blt 0 k=true)(hs:ev e s=.slice A n c)(hx:ev e x=v)(hm:ys.length=1*k)(h1:(ys.all λv=>v.oneCell')=true)(hb:(n+1)*(bytes+1)<=140737488355328) :
  gI P e ⟨d,.call ⟨.builtin .append,#[s,x],#[t,t]⟩,ty,ps,af,none⟩ wq (λu w'=>CS F W L i el k n xs ys w' [u,v]):=by
 obtain⟨A6,rfl,S6⟩:=hq;have hR:Rd wq A6 ys:=(S6.row (i:=0) rfl).rd;have S:St F W wq L:=S6.drop 1;obtain⟨ah,O,ad,ae,ag⟩:=nG hI;have ab:0<k:=eC hk;have ac:=eU hz;have aa:(n+1)*bytes<=140737488355328:=dE (eZ _ om) hb;have ai:n+1<=140737488355328:=dE (eS _ om) hb;have J:=S.row hi;have V:0<ys.length:=om;obtain⟨b,o,rfl⟩:=hR.someA V
 obtain⟨v',w',Z,ho,hg,_,U⟩:=uK (P:=P) wq 0 t ty el ah z k bytes hu O ad ae ag ac ab (.slice A n c) n xs J ⟨b,o,none⟩ 1 1 ys hm
  (λj u hu=>by rw[js];exact hR.cell rfl hu) (λu hu=>dh.1 h1 u hu) (by unfold maxLen;omega) aa om
 obtain⟨D,c',rfl⟩:=wa.form ho;have y:gH w' el k D (n+1) c' (xs++ys):=ho;obtain⟨L',I⟩:=hf (.row el k D (n+1) c' (xs++ys));refine AY (v:=.slice D (n+1) c') (w':=w') ?_ ⟨D,c',L',rfl,I,?_⟩
 ·simp[execOp,resolve,invoke,builtin,hs,hx,Z]
 ·refine S.set hi I (Fr.of_grown (F:=λg=>jv A g) hg (λg e=>?_)) (λg e=>.inl e) y (λg e=>?_)
  ·cases A with
   |none=>cases e
   |some a=>exact e
  ·have e':(Value.slice D (n+1) c').ownBlock=some g:=by
    cases D with
    |none=>cases e
    |some a=>exact e
   rw[e']at U;rcases U with h|h
   ·left;cases A with
    |none=>cases h
    |some a=>exact h.symm
   ·injection h with h;right;omega
end
def xu(F:Nat->Prop)(W:World)(L L1:List HA)(p q s:Nat)(vp vq:Value)(σ:List (Nat×Value))(w:World):Prop :=
 (∀x∈σ,(x.1=p->x.2=vp)/\(x.1=q->x.2=vq))/\(if (σ.any λx=>Nat.beq x.1 s)=true then St F W w L1 else St F W w L)
section
variable{L:List HA}{s:Nat}
theorem xu.start(S:St F W w L):xu F W L L1 p q s vp vq [] w:=⟨λx v=>(by cases v),S⟩
theorem xu.gr(h:xu F W L L1 p q s vp vq σ w)(g:Gr w w'):xu F W L L1 p q s vp vq σ w':=by
 refine⟨h.1,?_⟩;have:=h.2;split at this
 ·rename_i e;rw[a7 e];exact this.gr g
 ·rename_i e;rw[a8 e];exact this.gr g
theorem xu.st0(h:xu F W L L1 p q s vp vq σ w)(v:(σ.any λx=>Nat.beq x.1 s)=false):St F W w L:=by
 have:=h.2;rw[a8 (by rw[v];simp)]at this;exact this
theorem xu.st1(h:xu F W L L1 p q s vp vq σ w)(v:(σ.any λx=>Nat.beq x.1 s)=true):St F W w L1:=by
 have:=h.2;rw[a7 v]at this;exact this
theorem xu.first{v:Value}(h:xu F W L L1 p q s vp vq ((p,v)::σ) w):v=vp:=(h.1 (p,v) eB).1 rfl
theorem xu.second{v:Value}(h:xu F W L L1 p q s vp vq ((q,v)::σ) w):v=vq:=(h.1 (q,v) eB).2 rfl
theorem xu.push{v:Value}(h:xu F W L L1 p q s vp vq σ w)(z:(σ.any λx=>Nat.beq x.1 s)=false)(D:Nat.beq k s=false)(h1:(k=p->v=vp)/\(k=q->v=vq)):xu F W L L1 p q s vp vq ((k,v)::σ) w:=by
 refine⟨λx y=>?_,?_⟩
 ·rcases dy.1 y with rfl|y
  ·exact h1
  ·exact h.1 x y
 ·rw[a8 (by rw[aad,z,Bool.or_false];simp only[D];simp)];exact h.st0 z
theorem xu.made{v:Value}(h:xu F W L L1 p q s vp vq σ w)(h1:(s=p->v=vp)/\(s=q->v=vq))(S:St F W w' L1):xu F W L L1 p q s vp vq ((s,v)::σ) w':=by
 refine⟨λx y=>?_,?_⟩
 ·rcases dy.1 y with rfl|y
  ·exact h1
  ·exact h.1 x y
 ·rw[a7 (by rw[aad];simp)];exact S
end
section
variable{ps:String}{L:List HA}
theorem Pd{v:Value}{o:Oper}(h:gd P e o w v)(y:R v w):gI P e o w R:=by
 unfold gd at h;unfold gI;generalize (execOp (ev e) o).run P w=r at *;cases r with
 |ok n w'=>cases n<;>simp_all
 |halt x w'=>simp_all
theorem gu(z:IJ op=false)(h:RW P #[] (λy w'=>R (y 0) w') [⟨some 0,op,ty,ps,af,none⟩] e w):gI P e ⟨d,op,ty,ps,af,none⟩ w R:=by
 rw[BW rfl]at h;unfold tq at h;unfold gI;have D:execOp (ev e) ⟨some 0,op,ty,ps,af,none⟩=execOp (ev e) ⟨d,op,ty,ps,af,none⟩:=by cases op<;>rfl
 rw[D]at h;generalize (execOp (ev e) ⟨d,op,ty,ps,af,none⟩).run P w=r at *;cases r with
 |ok n w' =>
  cases n with
  |round l f I sg bd=>have h1:IJ op=true:=h.1;rw[z]at h1;cases h1
  |value v=>exact h
  |skip=>exact h
  |enter f args=>exact h
  |_=>exact h.elim
 |halt x w'=>exact h.elim
theorem Ef{y:Operand}{s:Nat}{cs:List Value}(S:St F W w L)(hi:gi L i=some (.row el k A n c xs))(hz:(sizeOf t).run P w=.ok s w)(Z:ev e x=.pointer (jF A j))(hy:ev e y=.agg cs.toArray)(D:cs.length=s)(z:(cs.all λv=>v.oneCell')=true)(O:j+s<=xs.length)(V:j7 L i (.row el k A n c (xs.take j++cs++xs.drop (j+s)))=some L')(J:Nat.blt 0 s=true)(U:∀w',St F W w' L'->R undef w'):gI P e ⟨d,.store t x y,ty,ps,af,none⟩ w R :=
 gu rfl (tF S hi hz Z hy D z O V J (λw' I=>U w' I))
end
def Mt(T:Nat->Value->HA->Prop):List (Nat×Value)->List HA->Prop
 |[],[]=>True
 |(k,v)::σ,h::Ps=>T k v h/\Mt T σ Ps
 |_,_=>False
def CM(F:Nat->Prop)(W:World)(L:List HA)(T:Nat->Value->HA->Prop)(σ:List (Nat×Value))(wq:World):Prop:=∃Ps,Mt T σ Ps/\St F W wq (Ps++L)
section
variable{L:List HA}{T:Nat->Value->HA->Prop}
theorem CM.start(S:St F W wq L):CM F W L T [] wq:=⟨[],trivial,S⟩
theorem iC.right:∀{Ps L:List HA},iC X w (Ps++L)->iC X w L
 |[],_,h=>h
 |_::Ps,_,h=>iC.right (Ps:=Ps) h.2.2
theorem CM.st(h:CM F W L T σ wq):St F W wq L:=by
 obtain⟨Ps,_,S⟩:=h;exact⟨S.fr,S.sep.right⟩
theorem CM.gr(h:CM F W L T σ wq)(g:Gr wq w'):CM F W L T σ w':=by
 obtain⟨Ps,m,S⟩:=h;exact⟨Ps,m,S.gr g⟩
theorem iC.app:∀{P L:List HA},iC (λg=>No g\/w0.heap.size<=g) w P->iC X w L->(∀h∈L,∀g,h.own g->g<w0.heap.size)->(∀g,w0.heap.size<=g->X g)->iC X w (P++L)
 |[],_,_,h,_,_=>h
 |a::P,L,hP,hL,hlt,hX=>by
  refine⟨⟨hP.1.1,λg y=>hX g ((hP.1.2 g y).elim (λe=>e.elim) id)⟩,λg y h v=>?_,iC.app hP.2.2 hL hlt hX⟩
  rcases ez.1 v with v|v
  ·exact hP.2.1 g y h v
  ·intro z
   have h1:=hlt h v g z
   have h2:=(hP.1.2 g y).elim (λe=>e.elim) id;omega
theorem iC.ltL:∀{L:List HA},iC X w L->∀h∈L,∀g,h.own g->g<w.heap.size
 |a::L,S,h,hh,g,ho=>(dy.1 hh).elim (λe=>by subst e;exact h.lt w S.1.1 g ho) (λe=>iC.ltL S.2.2 h e g ho)
theorem St.app{Q:List HA}(S:St F W w L)(v:St No w w' Q):St F W w' (Q++L):=by
 have g:=v.out;have y:=S.gr g;exact⟨y.fr,iC.app v.sep y.sep (S.sep.ltL) (λg z=>.inr (dE S.le z))⟩
end
theorem iC.perm_{L:List HA}(p:L.Perm L'):iC X w L->iC X w L':=by
 induction p with
 |nil=>exact id
 |cons a p ih=>exact λh=>⟨h.1,λg y h' v=>h.2.1 g y h' (p.mem_iff.2 v),ih h.2.2⟩
 |swap a b l =>
  intro h;refine⟨h.2.2.1,λg y h' v=>?_,h.1,λg y h' v=>h.2.1 g y h' (cW _ v),h.2.2.2.2⟩;rcases dy.1 v with e|v
  ·subst e;exact λI=>h.2.1 g I a eB y
  ·exact h.2.2.2.1 g y h' v
 |trans _ _ z D=>exact λh=>D (z h)
theorem St.perm_{L:List HA}(S:St F W w L)(p:L.Perm L'):St F W w L':=⟨S.fr,S.sep.perm_ p⟩
def xv(F:Nat->Prop)(W:World)(L:List HA)(j1 j2:Nat)(t:TypeId)(z:List Value)(σ:List (Nat×Value))(w:World):Prop :=
 ∃Q1 Q2,(match σ.lookup j1 with|none=>Q1=[]|some u=>∃b,u=.pointer (some ⟨b,0,none⟩)/\Q1=[.blk b t z])/\(match σ.lookup j2 with|none=>Q2=[]|some u=>∃b,u=.pointer (some ⟨b,0,none⟩)/\Q2=[.blk b t z])/\St F W w (Q1++(Q2++L))
section
variable{L:List HA}{z:List Value}{ps:String}
theorem xv.start(S:St F W w L):xv F W L j1 j2 t z [] w:=⟨[],[],rfl,rfl,S⟩
theorem xv.gr(h:xv F W L j1 j2 t z σ w)(g:Gr w w'):xv F W L j1 j2 t z σ w':=by
 obtain⟨v,y,h1,h2,S⟩:=h;exact⟨v,y,h1,h2,S.gr g⟩
theorem xv.st(h:xv F W L j1 j2 t z σ w):St F W w L:=by
 obtain⟨v,y,_,_,S⟩:=h;have:=S.drop (v++y).length;rwa[<-cL,jE]at this
theorem Kf(h:xv F W L j1 j2 t z σ w)(I:σ.lookup j1=none)(y:(j2==j1)=false)(O:∀w,(zeroValue t).run P w=.ok zv w)(J:zv.cells.toList=z):gI P e ⟨d,.alloc t,ty,ps,af,none⟩ w (λv w'=>xv F W L j1 j2 t z ((j1,v)::σ) w'):=by
 obtain⟨U,D,h1,h2,S⟩:=h;rw[I]at h1;subst h1;refine gu rfl (kq (jV O J) S (λb w' g S=>⟨[.blk b t z],D,?_,?_,S⟩))
 ·rw[cZ,fE];exact⟨b,rfl,rfl⟩
 ·rw[cZ,y];exact h2
theorem Kg(h:xv F W L j1 j2 t z σ w)(I:σ.lookup j2=none)(y:(j1==j2)=false)(O:∀w,(zeroValue t).run P w=.ok zv w)(J:zv.cells.toList=z):gI P e ⟨d,.alloc t,ty,ps,af,none⟩ w (λv w'=>xv F W L j1 j2 t z ((j2,v)::σ) w'):=by
 obtain⟨D,U,h1,h2,S⟩:=h;rw[I]at h2;subst h2;refine gu rfl (kq (jV O J) S (λb w' g S=>⟨D,[.blk b t z],?_,?_,?_⟩))
 ·rw[cZ,y];exact h1
 ·rw[cZ,fE];exact⟨b,rfl,rfl⟩
 ·exact S.perm_ ef.symm
theorem xv.fin{D I:Value}(h:xv F W L j1 j2 t z σ w)(U:σ.lookup j1=some D)(V:σ.lookup j2=some I) :
  ∃v y,D=pt v/\I=pt y/\St F W w (.blk v t z::.blk y t z::L):=by
 obtain⟨Z,Q2,k1,k2,S⟩:=h;rw[U]at k1;rw[V]at k2;obtain⟨v,J,rfl⟩:=k1;obtain⟨y,O,rfl⟩:=k2;exact⟨v,y,J,O,S⟩
end
end Go.Proofs.YtceahkcepefcaaaGreatDoor
