/- A part of the proof that hachuretop.WholeCharts and hachuretop.WholeWater returns true at every input; no condition. -/
import Derived.Test.YtcalhocphkbbgaaGreatDoorKD
set_option maxRecDepth 100000
set_option maxHeartbeats 16000000
set_option linter.unusedVariables false
set_option linter.unusedSimpArgs false
namespace Go.Proofs.YtcalhocphkbbgaaGreatDoor
open Go.Proofs.Tryz Go.RowKit
variable{Q:(Nat->Value)->World->Prop}{listed:Array Bool}{af:Array Edge}{ops:Array Oper}{bd sg:Code}{Q':Exit->Act->World->Prop}{f:FuncId}{h h':HA}{X0 X1 Y Y0 Y1 a a':Int}{σ:List (Nat × Value)}{K' Lq:List (Nat × Value)->Act->Prop}{df:List Deferred}{L' L1 M T tl:List HA}{hd:List Nat}{args:List Operand}{caps l l2 xs ys τ:List Value}{Qs:List Value->(Nat->Value)->Prop}{N b bytes c el fid g gh gw i j j1 j2 k k1 k2 m n p q sb sh sw x0 x1 y0 y1:Nat}{sp:Nat->Bool}{c' cc:Nat->Int}{bs:Nat->Nat}{R':Nat->Nat->Bool}{Rs Rs2:Nat->Option Nat}{F X:Nat->Prop}{e:Nat->Value}{op:Op}{hi x:Operand}{A B g0 l0:Option Addr}{ro:Option Nat}{d:Option Tmp}{P:Program}{H α β:Type}{t ty:TypeId}{u vp vq zv:Value}{R:Value->World->Prop}{W w w' w0 wq:World}{C:World->Prop}
def CS(F:Nat->Prop)(W:World)(L:List HA)(i el k n:Nat)(xs ys:List Value)(wq:World):List Value->Prop
 |[]=>St F W wq L
 |[v]=>∃A',v=.slice A' 1 1/\St F W wq (.row el k A' 1 1 ys::L)
 |[u,_]=>∃A' c' L',u=.slice A' (n+1) c'/\j7 L i (.row el k A' (n+1) c' (xs++ys))=some L'/\St F W wq L'
 |_=>False
section
variable{L:List HA}
theorem CS.gr(h:CS F W L i el k n xs ys wq τ)(g:Gr wq w'):CS F W L i el k n xs ys w' τ:=by
 match τ,h with
 |[],h=>exact St.gr (show St F W wq L from h) g
 |[v],⟨A',e,h⟩=>exact⟨A',e,h.gr g⟩
 |[u,v],⟨A',c',L',e,hs,h⟩=>exact⟨A',c',L',e,hs,h.gr g⟩
theorem tG:∀(L L':List HA)(i j:Nat)(h:HA),j7 L i h=some L'->j≠i->gi L' j=gi L j:=by
 intro L;induction L with
 |nil=>intro L' i j h v _;cases i<;>simp[j7]at v
 |cons a L ih =>
  intro L' i j h v z;cases i with
  |zero =>
   simp only[j7,Option.some.injEq]at v;subst v;cases j with
   |zero=>exact absurd rfl z
   |succ j=>rfl
  |succ i =>
   simp only[j7]at v;cases y:j7 L i h with
   |none=>rw[y]at v;cases v
   |some M =>
    rw[y]at v;obtain rfl:=Option.some.inj v;cases j with
    |zero=>rfl
    |succ j=>exact ih M i j h y (λe=>z om)
theorem CS.ok(h:CS F W L i el k n xs ys wq τ)(z:j≠i){x:HA}(y:gi L j=some x):x.ok wq:=by
 match τ,h with
 |[],h=>exact St.ok (show St F W wq L from h) y
 |[v],⟨A',e,h⟩=>exact h.ok (i:=j+1) y
 |[u,v],⟨A',c',L',e,hs,h⟩=>exact h.ok (i:=j) ((tG _ _ _ _ _ hs z).trans y)
theorem CS.frw(h:CS F W L i el k n xs ys wq τ):Fr F W wq:=by
 match τ,h with
 |[],h=>exact St.fr (show St F W wq L from h)
 |[v],⟨A',e,h⟩=>exact h.fr
 |[u,v],⟨A',c',L',e,hs,h⟩=>exact h.fr
end
section
variable{ps:String}{L:List HA}
theorem rO{el:TypeId}{y:List (Nat×Operand)}{z:Value}{l0:List Value}(V:CS F W L i el k n xs l wq [])(hu:P.underlying t=some (.slice el))(Z:∀w,(sizeOf el).run P w=.ok k w)(hz:∀w,(zeroValue el).run P w=.ok z w)(J:z.cells.toList.length=k)(D:Nat.beq (1*k) 0=false)(U:Nat.ble (1*k) 16777216=true)(h1:yS (λi=>some (i*k,k)) ((List.replicate 1 z.cells.toList).flatten) (yQ e y)=some l0)(h2:lj l0=some l)(O:Nat.beq l.length (1*k)=true) :
  gI P e ⟨d,.buildSlice t 1 y.toArray,ty,ps,af,none⟩ wq (λv w'=>CS F W L i el k n xs l w' [v]):=by
 refine AY (mu hu Z hz J D U h1 h2) ?_;have S:St F W wq L:=V;refine⟨_,rfl,S.push (Gr.alloc _ _) (h:=.row el k (some ⟨wq.heap.size,0,none⟩) 1 1 l) (gH.of_blk (eL.new _ _ _) (eU O) (by unfold maxLen;omega)) (λg I=>?_)⟩;have:wq.heap.size=g:=by injection I
 omega
theorem u6{s:Operand}{t:Nat}{z v:Value}(hq:CS F W L i el k n xs ys wq [v])(hi:gi L i=some (.row el k A n c xs))(hf:∀h,∃L',j7 L i h=some L')(hu:P.underlying t=some (.slice el))(hI:(P.info? el).map (λi=>(i.zero,i.size,i.bytes))=some (some z,k,bytes))(hz:Nat.beq z.cells.size k=true)(hk:Nat.blt 0 k=true)(hs:ev e s=.slice A n c)(hx:ev e x=v)(hm:ys.length=1*k)(h1:(ys.all λv=>v.oneCell')=true)(hb:(n+1)*(bytes+1)<=140737488355328) :
  gI P e ⟨d,.call ⟨.builtin .append,#[s,x],#[t,t]⟩,ty,ps,af,none⟩ wq (λu w'=>CS F W L i el k n xs ys w' [u,v]):=by
 obtain⟨A6,rfl,S6⟩:=hq;have hR:Rd wq A6 ys:=(S6.row (i:=0) rfl).rd;have S:St F W wq L:=S6.drop 1;obtain⟨ah,O,ad,ae,ag⟩:=nG hI;have ab:0<k:=eC hk;have ac:=eU hz;have aa:(n+1)*bytes<=140737488355328:=dE (eZ _ om) hb;have ai:n+1<=140737488355328:=dE (eS _ om) hb;have J:=S.row hi;have V:0<ys.length:=om;obtain⟨b,o,rfl⟩:=hR.someA V
 obtain⟨v',w',Z,ho,hg,_,U⟩:=uK (P:=P) wq 0 t ty el ah z k bytes hu O ad ae ag ac ab (.slice A n c) n xs J ⟨b,o,none⟩ 1 1 ys hm
  (λj u hu=>by rw[js];exact hR.cell rfl hu) (λu hu=>dh.1 h1 u hu) (by unfold maxLen;omega) aa om
 obtain⟨D,c',rfl⟩:=wa.form ho;have y:gH w' el k D (n+1) c' (xs++ys):=ho;obtain⟨L',I⟩:=hf (.row el k D (n+1) c' (xs++ys));refine AY (v:=.slice D (n+1) c') (w':=w') ?_ ⟨D,c',L',rfl,I,?_⟩
 ·simp[execOp,resolve,invoke,builtin,hs,hx,Z]
 ·refine S.set hi I (Fr.of_grown (F:=λg=>jv A g) hg (λg e=>?_)) (λg e=>.inl e) y (λg e=>?_)
  ·cases A with
   |none=>cases e
   |some a=>exact e
  ·have e':(Value.slice D (n+1) c').ownBlock=some g:=by
    cases D with
    |none=>cases e
    |some a=>exact e
   rw[e']at U;rcases U with h|h
   ·left;cases A with
    |none=>cases h
    |some a=>exact h.symm
   ·injection h with h;right;omega
end
namespace TI
section
variable{C:List (Nat × Value)->World->Prop}
def Kd(ops:Array Oper)(tl S:List Nat)(pre:Nat->List Nat):Nat->Array Bool->List Nat->Bool
 |0,listed,_=>tU ops tl listed
 |f+1,listed,done=>!(Region.ready .any ops listed).isEmpty&&(Region.ready .any ops listed).all λj=>S.contains j&&!done.contains j&&(pre j).all (λi=>done.contains i)&&Kd ops tl S pre f (listed.setIfInBounds j true) (j::done)
structure W4(qs:List (Nat×Oper))(e:Nat->Value)(σ:List (Nat×Value))(e':Nat->Value):Prop where
 old:∀k,(∀p∈qs,p.2.dst≠some k)->e' k=e k
 new:∀p∈qs,∀k,p.2.dst=some k->∀v,σ.lookup p.1=some v->e' k=v
def Ke(P:Program)(ops:Array Oper)(C:List (Nat×Value)->World->Prop)(pre:Nat->List Nat)(e:Nat->Value):List (Nat×Oper)->Prop
 |[]=>True
 |p::r=>(wE ops e p.2=true/\∀σ w,C σ w->σ.lookup p.1=none->(∀i∈pre p.1,(σ.lookup i).isSome=true)->gI P e p.2 w λv w'=>C ((p.1,v)::σ) w')/\Ke P ops C pre e r
theorem Ke.mem{pre:Nat->List Nat}:∀{qs:List (Nat×Oper)},Ke P ops C pre e qs->∀p∈qs,wE ops e p.2=true/\∀σ w,C σ w->σ.lookup p.1=none->(∀i∈pre p.1,(σ.lookup i).isSome=true)->gI P e p.2 w λv w'=>C ((p.1,v)::σ) w'
 |[],_,p,hp=>by cases hp
 |q::r,h,p,hp=>(dy.1 hp).elim (λe=>e▸h.1) (λe=>h.2.mem p e)
theorem EP(h:i∉σ.map Prod.fst):σ.lookup i=none:=by
 induction σ with
 |nil=>rfl
 |cons p r ih =>
  obtain⟨j,v⟩:=p;simp only[iJ,dy,not_or]at h;rw[cZ,show(i==j)=false by simpa using h.1];exact ih h.2
theorem yM(h:i∈σ.map Prod.fst):(σ.lookup i).isSome=true:=by
 induction σ with
 |nil=>cases h
 |cons p r ih =>
  obtain⟨j,v⟩:=p;rw[cZ];by_cases e:i=j
  ·subst e;simp
  ·rw[show(i==j)=false by simpa using e];exact ih ((dy.1 h).resolve_left e)
theorem Fu{tl:List Nat}{qs:List (Nat×Oper)}{pre:Nat->List Nat}{a0:Act}(ac:oo N df e a0)(O:∀p∈qs,ops[p.1]?=some p.2/\sp p.1=true/\p.1∈hd/\qI N p.2.dst=true)(Z:Region.noSelect ops=true)(aa:∀p∈qs,∀q∈qs,p.1≠q.1->p.2.apart ops q.2=true)(D:Ke P ops C pre e qs)(U:∀σ y a,(∀p∈qs,(σ.lookup p.1).isSome=true)->W4 qs e σ y->oo N df y a->Lq σ a)(S:∀σ:List (Nat×Value),(∀i∈σ.map Prod.fst,i∈qs.map Prod.fst)->(σ.map Prod.fst).Nodup->σ.length=qs.length->∀p∈qs,p.1∈σ.map Prod.fst) :
  ∀(f:Nat)(listed:Array Bool)(σ:List (Nat×Value))(y:Nat->Value)(a:Act),σ.length+f=qs.length->(∀i∈σ.map Prod.fst,i∈qs.map Prod.fst)->(σ.map Prod.fst).Nodup->W4 qs e σ y->oo N df y a ->
   (∀p∈qs,p.1∉σ.map Prod.fst->execOp a.eval p.2=execOp a0.eval p.2/\Region.wanted p.2 (yielded ops a.tmps)=Region.wanted p.2 (yielded ops a0.tmps))->Kd ops tl (qs.map Prod.fst) pre f listed (σ.map Prod.fst)=true ->
   vP P ops C sp hd (λI σ' a'=>tU ops tl I=true/\Lq σ' a') f listed σ a
 |0,listed,σ,y,a,hl,hsub,hnd,hE,hr,_,hB=>⟨by simpa [Kd]using hB,U σ y a (λp V=>yM (S σ hsub hnd om p V)) hE hr⟩
 |f+1,listed,σ,y,a,hl,hsub,hnd,hE,hr,hsame,hB=>by
  simp only[Kd,cM,hZ,List.isEmpty_eq_false_iff,dh]at hB
  refine⟨hB.1,λj hj=>?_⟩
  obtain⟨⟨⟨hS,z⟩,ae⟩,ag⟩:=by have:=hB.2 j hj;simpa only[cM,hZ,dh]using this
  have hS:j∈qs.map Prod.fst:=by simpa using hS
  have z:j∉σ.map Prod.fst:=by simpa using z
  obtain⟨p,V,rfl⟩:=fC.1 hS;obtain⟨h0,hs,aj,hd⟩:=O p V;refine⟨aj,?_⟩;obtain⟨ai,an⟩:=hsame p V z;obtain⟨hw,am⟩:=D.mem p V;unfold De;rw[h0];dsimp only;rw[an,ac.wanted,a7 hw,hs];refine⟨λw hC=>?_,λv w' hC=>?_⟩
  ·have:=am σ w hC (EP z) (λi hi=>yM (by have:=ae i hi;simpa using this));unfold nl;rw[ai,ac.eval];exact this
  ·refine Fu ac O Z aa D U S f _ ((p.1,v)::σ) (fI y p.2.dst v) _ (by simp only[fc];omega) (λi hi=>(dy.1 hi).elim (λh=>h▸hS) (hsub i)) (List.nodup_cons.2 ⟨z,hnd⟩) ?_ (hr.put hd v) ?_ ag
   ·have ad:∀k,p.2.dst≠some k->fI y p.2.dst v k=y k:=λk J=>by
     cases ah:p.2.dst with
     |none=>rfl
     |some d =>
      show yP y d v k=y k;rw[xW,a8 (λh=>J (by rw[ah,h]))]
    refine⟨λk J=>(ad k (J p V)).trans (hE.old k J),λq hq k J u hu=>?_⟩;by_cases L:q.1=p.1
    ·rw[cZ,show(q.1==p.1)=true by simpa using L]at hu
     have ak:q.2=p.2:=by
      have h1:=(O q hq).1;rw[L,h0]at h1;exact(Option.some.inj h1).symm
     cases hu
     rw[ak]at J;show fI y p.2.dst v k=v;rw[J];show yP y k v k=v;rw[xW,a7 rfl]
    ·rw[cZ,show(q.1==p.1)=false by simpa using L]at hu;obtain⟨_,h2,_⟩:=Oper.apart_spec (aa p V q hq (Ne.symm L));rw[ad k (λh=>h2 k h J)];exact hE.new q hq k J u hu
   ·intro q hq ab;simp only[iJ,dy,not_or]at ab;obtain⟨h1,_,_⟩:=Oper.apart_spec (aa p V q hq (Ne.symm ab.1));have al:=λcs b=>Region.noSelect_spec Z q.1 q.2 cs b (O q hq).1;obtain⟨g1,g2⟩:=hsame q hq ab.2;exact⟨(Fg q.2 al a p.2.dst v h1).trans g1,(wanted_put q.2 a p.2.dst v h1).trans g2⟩
def E0(ops:Array Oper)(B:Array Bool->Bool):List Nat->Array Bool->Bool
 |[],listed=>B listed
 |i::r,listed=>(Region.ready .any ops listed).contains i&&Region.free .any ops listed i&&E0 ops B r (listed.setIfInBounds i true)
theorem A0{tl:List Nat}{B:Array Bool->Bool}{Qs:List (Nat×Value)->(Nat->Value)->Prop}(L:Region.noSelect ops=true)(I:∀i,i<ops.size->i∈hd\/i∈tl)(D:∀t∈tl,∀i∈hd,i∈vm ops ops.size t)(J:∀t∈tl,t∉hd)(z:∀listed e a,oo N df e a->Qs [] e->B listed=true->vP P ops C sp hd (λy σ' a'=>tU ops tl y=true/\Lq σ' a') n listed [] a) :
  ∀(ps:List (Nat×Oper))(listed:Array Bool)(e:Nat->Value)(a:Act),(∀p∈ps,ops[p.1]?=some p.2/\sp p.1=false/\p.1∈hd/\qI N p.2.dst=true)->tT ops listed->oo N df e a->RS P ops C sp Qs ps [] e->E0 ops B (ps.map Prod.fst) listed=true ->
   vP P ops C sp hd (λy σ' a'=>tU ops tl y=true/\Lq σ' a') (ps.length+n) listed [] a
 |[],listed,e,a,_,_,O,h,hB=>by
  rw[sT,eH]
  exact z listed e a O h hB
 |(i,o)::r,listed,e,a,hps,hcl,O,h,hB=>by
  obtain⟨h0,U,V,hd⟩:=hps (i,o) (by simp)
  simp only[iJ,E0,cM]at hB;have S:i∈Region.ready .any ops listed:=by simpa using hB.1.1
  rw[show((i,o)::r).length+n=(r.length+n)+1 by simp only[fc];omega]
  have h1:Mr P ops C sp i o (λσ e=>σ=[]/\RS P ops C sp Qs r [] e) [] e:=by
   unfold Mr;have U:sp i=false:=U;unfold RS at h;rw[U]at h ⊢;split
   ·rename_i hw;rw[a7 hw]at h;obtain⟨v,g1,g2⟩:=h;exact⟨v,g1,rfl,g2⟩
   ·rename_i hw;rw[a8 hw]at h;exact⟨rfl,h⟩
  refine BY L I D J h0 U V hcl S hB.1.2 (xf (K':=λσ a=>σ=[]/\∃e,oo N df e a/\RS P ops C sp Qs r [] e) hd O (λσ e a O⟨h1,h2⟩=>⟨h1,e,O,h2⟩) h1) ?_;rintro σ a' ⟨rfl,e',Z,h'⟩;exact A0 L I D J z r _ e' a' (λp hp=>hps p (cW _ hp)) (hcl.set S) Z h' hB.2
def Eb(V:Nat->Value):List (Nat×Oper)->(Nat->Value)->Nat->Value
 |[],e=>e
 |p::r,e=>Eb V r (fI e p.2.dst (V p.1))
theorem Dm{V:Nat->Value}:∀{qs:List (Nat×Oper)}{e:Nat->Value}{k:Nat},(∀p∈qs,p.2.dst≠some k)->Eb V qs e k=e k
 |[],_,_,_=>rfl
 |p::r,e,k,h=>by
  show Eb V r _ k=e k
  rw[Dm (λq v=>h q (cW _ v))]
  have h1:=h p (by simp)
  cases hd:p.2.dst with
  |none=>rfl
  |some d=>show yP e d _ k=e k;rw[xW,a8 (λe=>h1 (by rw[hd,e]))]
theorem HC{V:Nat->Value}:∀{qs:List (Nat×Oper)}{e:Nat->Value}{k:Nat}(p:Nat×Oper),p∈qs->p.2.dst=some k->qs.Pairwise (λp q=>∀d,p.2.dst=some d->q.2.dst≠some d)->Eb V qs e k=V p.1
 |[],_,_,p,hp,_,_=>by cases hp
 |q::r,e,k,p,hp,hk,hpw=>by
  obtain⟨h1,h2⟩:=List.pairwise_cons.1 hpw
  rcases dy.1 hp with rfl|v
  ·show Eb V r _ k=_;rw[Dm (λq y=>h1 q y k hk),hk];show yP e k _ k=_;rw[xW,a7 rfl]
  ·show Eb V r _ k=_;exact HC p v hk h2
theorem Ec:∀(v l2:List Nat),v.Nodup->(∀x∈v,x∈l2)->l2.length<=v.length->∀x∈l2,x∈v
 |[],l2,_,_,hl,x,hx=>by
  rw[gj (Nat.le_zero.1 hl)]at hx
  cases hx
 |a::r,l2,hn,hs,hl,x,hx=>by
  by_cases e:x=a
  ·simp[e]
  ·obtain⟨h1,h2⟩:=List.nodup_cons.1 hn
   have D:=hs a (by simp);refine cW _ (Ec r (l2.erase a) h2 (λy z=>(List.mem_erase_of_ne (λ(h:y=a)=>h1 (h▸z))).2 (hs y (cW _ z))) ?_ x ((List.mem_erase_of_ne e).2 hx));rw[List.length_erase_of_mem D];simp only[fc]at hl;omega
theorem Fv{l:List Oper}{is:List Nat}(h:(is.all λi=>decide (i<l.length))=true){p:Nat×Oper}(y:p∈kz l is):p.1∈is/\l.toArray[p.1]?=some p.2:=by
 have h1:=Br l is h;have h2:(p.1,some p.2)∈(kz l is).map λp=>(p.1,some p.2):=fC.2 ⟨p,y,rfl⟩;rw[<-h1]at h2;obtain⟨i,hi,e⟩:=fC.1 h2;obtain⟨rfl,v⟩:=Prod.mk.inj e;exact⟨hi,v⟩
theorem Ed{l:List Oper}{is:List Nat}(h:(is.all λi=>decide (i<l.length))=true):(kz l is).map Prod.fst=is:=by
 have h1:=congrArg (List.map Prod.fst) (Br l is h);simpa [Function.comp_def]using h1.symm
def Tn(ops:Array Oper)(sp:List Nat)(hd0 tl:List Nat)(pre:Nat->List Nat):Bool :=
 Region.noSelect ops&&decide (hd0.length+sp.length+tl.length=ops.size)&&((List.range ops.size).all λi=>hd0.contains i||sp.contains i||tl.contains i)&&(hd0.all λi=>!sp.contains i) &&
 (tl.all λx=>(hd0++sp).all λi=>(vm ops ops.size x).contains i)&&(tl.all λx=>!(hd0++sp).contains x)&&decide sp.Nodup&&E0 ops (λl=>Kd ops tl sp pre sp.length l []) hd0 (Array.replicate ops.size false)
def IY:List (Nat×Oper)->Bool
 |[]=>true
 |p::r=>(r.all λq=>match p.2.dst with|some d=>q.2.dst !=some d|none=>true)&&IY r
theorem Ee:∀{qs:List (Nat×Oper)},IY qs=true->qs.Pairwise (λp q=>∀d,p.2.dst=some d->q.2.dst≠some d)
 |[],_=>.nil
 |p::r,h=>by
  simp only[IY,cM,dh]at h
  refine .cons (λq v d hd=>?_) (Ee h.2)
  have:=h.1 q v
  rw[hd]at this;simpa using this
theorem YA{Q:Exit->(Nat->Value)->World->Prop}{id:Nat}{l:List Oper}(sl y tl:List Nat)(pre:Nat->List Nat)(hm:P.follows .mixedOrders=true)(hB:(Tn l.toArray sl y tl pre&&((sl++y++tl).all λi=>decide (i<l.length))&&((kz l sl).all λp=>(kz l sl).all λq=>p.1==q.1||p.2.apart l.toArray q.2)&&IY (kz l sl))=true)(hC:C [] w.drew)(h:RS P l.toArray C (λi=>sl.contains i) (λ_ e'=>Ke P l.toArray C pre e' (kz l sl)/\∀σ V,(∀p∈kz l sl,σ.lookup p.1=some (V p.1))->∀w',C σ w'->RW P l.toArray (λe w=>Q .normal e w) (iS l tl) (Eb V (kz l sl) e') w') (kz l y) [] e) :
  CW P N (.region id l.toArray true) Q e w:=λhk df a hr ro=>by
 simp only[cM]at hB;obtain⟨⟨⟨hO,aA⟩,ar⟩,aC⟩:=hB;simp only[Tn,cM,cT]at hO;obtain⟨⟨⟨⟨⟨⟨⟨J,aj⟩,ad⟩,au⟩,ac⟩,ae⟩,aH⟩,av⟩:=hO;simp only[kS,cM]at hk;have D:∀i∈sl++y++tl,i<l.length:=λi hi=>by have:=dh.1 aA i hi;simpa using this
 have al:(sl.all λi=>decide (i<l.length))=true:=dh.2 λi hi=>fD (D i (by simp[hi]));have ak:(y.all λi=>decide (i<l.length))=true:=dh.2 λi hi=>fD (D i (by simp[hi]));have U:(tl.all λi=>decide (i<l.length))=true:=dh.2 λi hi=>fD (D i (by simp[hi]));have I:∀(i:Nat)(o:Oper),l.toArray[i]?=some o->qI N o.dst=true:=λi o h3=>dh.1 hk.1 o (dD (by simpa using h3));have an:((iS l tl).all λo=>qI N o.dst)=true:=wG hk.1 tl U;have ab:((iS l tl).all λo=>!vF o.op)=true:=wG hk.2 tl U;have ai:=Ed al;have ah:=Ed ak
 have O:∀i,i<l.toArray.size->i∈y++sl\/i∈tl:=λi hi=>by
  have:=dh.1 ad i (dJ.2 hi);simp only[ky,n4]at this;simp only[ez];exact this
 have L:∀t∈tl,∀i∈y++sl,i∈vm l.toArray l.toArray.size t:=λt ht i hi=>by
  have:=dh.1 (dh.1 ac t ht) i hi;simpa using this
 have S:∀t∈tl,t∉y++sl:=λt ht=>by have:=dh.1 ae t ht;simpa using this
 have aD:=Ee aC;have az:(kz l sl).length=sl.length:=by have:=congrArg List.length ai;simpa using this
 have aw:(kz l y).length=y.length:=by have:=congrArg List.length ah;simpa using this
 have H:=A0 (P:=P) (C:=C) (sp:=λi=>sl.contains i) (Lq:=λσ a'=>∀w',C σ w'->wpListIn (wF ro) 0 P l.toArray (λx a w=>∃e,oo N df e a/\Q x e w) (iS l tl) a' w') (N:=N) (n:=sl.length) (df:=df) (hd:=y++sl) (tl:=tl) J O L S
  (λlisted e1 a1 am hq ap=>Fu (qs:=kz l sl) (pre:=pre) (e:=e1) (a0:=a1) am
   (λp z=>by obtain⟨h1,h2⟩:=Fv al z;exact⟨h2,by simpa using h1,by simp[h1],I _ _ h2⟩) J
   (λp z q hq aB=>by
    have:=dh.1 (dh.1 ar p z) q hq;simp only[ky,fX]at this;exact this.resolve_left aB) hq.1
   (λσ e' a' aa hE Z w' aq=>by
    have hV:∀p∈kz l sl,σ.lookup p.1=some ((λi=>(σ.lookup i).getD undef) p.1):=λp z=>by
     obtain⟨v,hv⟩:=qm.1 (aa p z);simp[hv]
    have aF:=hq.2 σ (λi=>(σ.lookup i).getD undef) hV w' aq
    have aE:oo N df (Eb (λi=>(σ.lookup i).getD undef) (kz l sl) e1) a':=⟨Z.defers,Z.size,λk=>(Z.get k).trans (by
     by_cases hx:∃p∈kz l sl,p.2.dst=some k
     ·obtain⟨p,z,ag⟩:=hx;rw[hE.new p z k ag _ (hV p z),HC p z ag aD]
     ·have ao:∀p∈kz l sl,p.2.dst≠some k:=λp z h=>hx ⟨p,z,h⟩;rw[hE.old k ao,Dm ao])⟩
    exact sY (λe a w hr h=>⟨e,hr,h⟩) _ _ a' w' an ab aE aF)
   (λσ h1 h2 h3 p z=>Ec _ ((kz l sl).map Prod.fst) h2 h1 (by rw[eP,eP,h3];exact fK _) p.1 (fC.2 ⟨p,z,rfl⟩))
   sl.length listed [] e1 a1 (by rw[az];simp) (λi hi=>by cases hi) List.nodup_nil ⟨λ_ _=>rfl,λp _ k _ v hv=>by cases hv⟩ am (λ_ _ _=>⟨rfl,rfl⟩) (by rw[ai];exact ap))
  (kz l y) (Array.replicate l.toArray.size false) e a (λp z=>by
   obtain⟨h1,h2⟩:=Fv ak z;have h3:=dh.1 au p.1 h1;exact⟨h2,by simpa using h3,by simp[h1],I _ _ h2⟩)
  (λi hi=>by
   have h0:∀m j:Nat,(Array.replicate m false).getD j false=false:=λm j=>by
    rcases eV j m with h'|h'
    ·simp[h']
    ·simp[h']
   rw[h0]at hi;cases hi) hr h (by rw[ah];exact av)
 refine wpIn_region_any hm ?_;have:=vQ (Q':=λx a w=>∃e,oo N df e a/\Q x e w) (ro:=ro) (by simpa using hk.2) (g:=tl.length) (λlisted σ a' w' aG hL=>uQ tl _ listed a' w' (Bp l tl U) hL.1 (hL.2 w' aG)) _ _ _ _ _ hC H;rw[aw,aj]at this;exact this
end
end TI
theorem lF{β:Type}{f:α->List β}(v:∀a,(f a).length=m)(l:List α):(l.flatMap f).length=l.length*m:=by
 induction l with
 |nil=>simp
 |cons a l ih=>rw[fe,cP,ih,v,fc,cX,ka]
theorem qF{β:Type}{f:α->List β}(v:∀a,(f a).length=m):∀(l:List α)(k:Nat)(a:α)(d n:Nat),l[k]?=some a->d+n<=m->((l.flatMap f).drop (k*m+d)).take n=((f a).drop d).take n
 |[],k,a,d,n,h,_=>by cases h
 |b::l,0,a,d,n,h,hd=>by
  obtain rfl:b=a:=by simpa using h
  rw[fe,iD,eH,nW (by rw[v];omega),lg (by rw[i8,v];omega)]
 |b::l,k+1,a,d,n,h,hd=>by
  have ih:=qF v l k a d n (by simpa using h) hd;rw[fe,cX,(om:k*m+m+d=m+(k*m+d)),<-List.drop_drop,List.drop_left' (v b)];exact ih
theorem lG{α β:Type}{f:α->List β}(v:∀a,(f a).length=m){l:List α}{a:α}(h:l[k]?=some a):((l.flatMap f).drop (k*m)).take m=f a:=by
 have:=qF v l k a 0 m h om;rw[eW]at this;rw[this,dR,fN (by rw[v];omega)]
theorem qe{α β:Type}{f:α->List β}(y:∀a,(f a).length=m){l:List α}{a:α}(h:l[k]?=some a)(z:j<m):(l.flatMap f)[k*m+j]?=(f a)[j]?:=by
 have:=qF y l k a j 1 h om;have v:∀(L:List β)(d:Nat),L[d]?=((L.drop d).take 1)[0]?:=λL d=>by simp[fJ]
 rw[v,this,<-v]
theorem Ea(x0 y0 x1 y1 x y:Int):(x6 x0 y0 x1 y1 x y).length=4:=rfl
theorem Qp(x0 y0 x1 y1 y:Int)(k:Nat):(AZ x0 y0 x1 y1 y k).length=k*4:=by
 unfold AZ;rw[lF (λa=>Ea _ _ _ _ _ _),gk]
theorem y9(x0 y0 x1 y1:Int)(v i j:Nat)(hi:i<dQ x0 x1)(y:j<v) :
  ((mX x0 y0 x1 y1 v).drop ((j*dQ x0 x1+i)*4)).take 4=x6 x0 y0 x1 y1 (x0-x0%16+16*(i:Int)) (y0-y0%16+16*(j:Int)):=by
 have h1:=qF (f:=λ(j:Nat)=>AZ x0 y0 x1 y1 (y0-y0%16+16*(j:Int)) (dQ x0 x1)) (λa=>Qp _ _ _ _ _ _) (List.range v) j j (i*4) 4 (by simp[y]) om;rw[iI,oc];unfold mX;rw[h1];exact lG (λa=>Ea _ _ _ _ _ _) (by simp[hi])
theorem Dl(x0 y0 x1 y1:Int)(h:0≤x0∧x0≤x1∧x1<1024∧0≤y0∧y0≤y1∧y1<1024)(W:World) :
    Fn prog 135 [.agg #[.int .i64 x0,.int .i64 y0,.int .i64 x1,.int .i64 y1]] W (jc id 43 4 (dQ y0 y1*dQ x0 x1) (mX x0 y0 x1 y1 (dQ y0 y1)) W) :=
  (Qa x0 y0 x1 y1 h W).mono λv w'⟨A,c,hv,ho,hg⟩=>⟨A,c,hv,ho.base (ib _),λg y=>by
    cases A with
    |none=>cases y
    |some a=>exact(ho.lt g (by
      have:a.block=g:=by injection y
      show Option.some a.block=_;rw[this])).1,hg⟩
def lH(N p:Nat)(A:Option Addr)(bs:Nat->Nat)(Rs:Nat->Option Nat)(g:Nat):Prop:=g=p\/jv A g\/∃t,t<N/\(g=bs t\/Rs t=some g)
theorem eJ.lt{cap:Nat}{c:Nat->Int}(h:eJ w p gw gh c A cap bs Rs)(v:lH (cU gw*cU gh) p A bs Rs g):g<w.heap.size:=by
 rcases v with rfl|v|⟨t,y,v⟩
 ·exact h.top.lt
 ·exact h.row.lt v
 ·exact(h.slab t y).lt v
theorem eJ.keep{cap:Nat}{c:Nat->Int}(h:eJ w p gw gh c A cap bs Rs)(y:∀g,lH (cU gw*cU gh) p A bs Rs g->w'.heap[g]?=w.heap[g]?):eJ w' p gw gh c A cap bs Rs :=
 ⟨h.sw,h.sh,h.top.keep (y p (.inl rfl)),h.row.keep (λg v=>y g (.inr (.inl v))),λt z=>(h.slab t z).keep (λg v=>y g (.inr (.inr ⟨t,z,v⟩))),h.inj,h.injR⟩
def HA.grid(p gw gh:Nat)(c:Nat->Int)(A:Option Addr)(cap:Nat)(bs:Nat->Nat)(Rs:Nat->Option Nat):HA :=
 ⟨lH (cU gw*cU gh) p A bs Rs,λw=>eJ w p gw gh c A cap bs Rs,λ_ _ h _ hG=>hG.keep h,λ_ hG _ hg=>hG.lt hg⟩
theorem St.grid{L:List HA}(S:St F W w L){cap:Nat}{c:Nat->Int}(hi:gi L i=some (.grid p gw gh c A cap bs Rs)):eJ w p gw gh c A cap bs Rs:=S.ok hi
theorem jo{X Y:Nat}(v:X<gw):(Y*gw+X)%gw=X/\(Y*gw+X)/gw=Y:=by
 constructor
 ·rw[j9,dT v]
 ·rw[ka,lU _ _ om,ee v,eH]
theorem Ft{R:Option Nat}{c:Nat->Int}(h:kE w b R sw sh c)(v:g=b\/R=some g):∃t l,eL w g t l/\(t=164\/t=21):=by
 obtain⟨_,h⟩:=h;cases R with
 |none=>obtain⟨x,y,_⟩:=h;exact v.elim (λe=>by subst e;exact⟨_,_,y,.inl rfl⟩) (λe=>by cases e)
 |some I =>
  obtain⟨cap,y,D⟩:=h;rcases v with rfl|v
  ·exact⟨_,_,y,.inl rfl⟩
  ·injection v with v;subst v;rcases D.form with⟨h,_⟩|⟨g,l,h,z,_⟩
   ·cases h
   ·injection h with h;injection h with h;subst h;exact⟨_,_,z,.inr rfl⟩
theorem kE.blk{R:Option Nat}{c:Nat->Int}(h:kE w b R sw sh c):∃l,eL w b 164 l:=by
 obtain⟨_,h⟩:=h;cases R with
 |none=>obtain⟨x,v,_⟩:=h;exact⟨_,v⟩
 |some g=>obtain⟨cap,v,_⟩:=h;exact⟨_,v⟩
theorem kE.rblk{c:Nat->Int}(h:kE w b (some g) sw sh c):∃l,eL w g 21 l:=by
 obtain⟨_,cap,D,y⟩:=h;rcases y.form with⟨h,_⟩|⟨z,l,h,v,_⟩
 ·cases h
 ·injection h with h;injection h with h;subst h;exact⟨_,v⟩
theorem eJ.fillTile{cap:Nat}{c:Nat->Int}(h:eJ w p gw gh c A cap bs Rs){X0 Y0 X1 Y1:Nat}{v:Int}(hX:X0<=X1/\X1<gw/\X0/16=X1/16)(hY:Y0<=Y1/\Y1<gh/\Y0/16=Y1/16)(hP:IW w (bs (Y0/16*cU gw+X0/16)) (Rs (Y0/16*cU gw+X0/16)) (fQ gw (X0/16)) (fQ gh (Y0/16)) (ik (fQ gw (X0/16)) (X0%16:Nat) (Y0%16:Nat) (X1%16:Nat) (Y1%16:Nat) v (u5 gw c (Y0/16*cU gw+X0/16))) w') :
  ∃ad,eJ w' p gw gh (ik gw X0 Y0 X1 Y1 v c) A cap bs ad/\Fr (lH (cU gw*cU gh) p A bs Rs) w w'/\∀g,lH (cU gw*cU gh) p A bs ad g->lH (cU gw*cU gh) p A bs Rs g\/w.heap.size<=g:=by
 obtain⟨R',hS,hF,hR⟩:=hP;have ht:=xI (gw:=gw) (gh:=gh) (x:=X0) (y:=Y0) om om;have L:=xH (gw:=gw) (b:=Y0/16) (jf (x:=X0) om);generalize hT:Y0/16*cU gw+X0/16=T at *;have O:=h.slab T ht;have ap:=kQ h.sw.1;have ab:∀g,(g=bs T\/Rs T=some g)->lH (cU gw*cU gh) p A bs Rs g:=λg z=>.inr (.inr ⟨T,ht,z⟩)
 have Z:∀g,R'=some g->∀u,u<cU gw*cU gh->u≠T->Rs u=some g->False:=λg z u J am ai=>by
  rcases hR g z with e|e
  ·exact am (h.injR u T g J ht ai e)
  ·have:=(h.slab u J).lt (.inr ai);omega
 refine⟨λu=>if u=T then R' else Rs u,⟨h.sw,h.sh,?_,?_,λu J=>?_,h.inj,λu u' g J ah V e2=>?_⟩,hF.weak ab,λg z=>?_⟩
 ·refine h.top.fr hF λz=>?_;obtain⟨t,l,hB,ac⟩:=Ft O z;have:=(h.top.inj hB).1;rcases ac with rfl|rfl<;>exact absurd this (by decide)
 ·refine h.row.keep λg z=>hF.block g (h.row.lt z) λD=>?_;obtain⟨t,l,hB,ac⟩:=Ft O D;exact D9 hB h.row (by rcases ac with rfl|rfl<;>decide) z
 ·have an:u%cU gw<cU gw:=dt _ om;by_cases e:u=T
  ·subst e;rw[a7 rfl];rw[L.1,L.2];refine hS.congr λi hi=>?_;have hz:=mA (gw|>λ_=>jf (n:=gw) (x:=X0) om);have hm:i%fQ gw (X0/16)<fQ gw (X0/16):=dt _ om;have aq:=B8 (gw:=gw) (gh:=gh) (t:=u) (i:=i) ht h.sw.1 (by rw[L.1,L.2];exact hi)
   have S:16*(X0/16)+i%fQ gw (X0/16)<gw:=by
    have:fQ gw (X0/16)<=gw-16*(X0/16):=by unfold fQ;omega
    generalize i%fQ gw (X0/16)=q at *;omega
   have U:=jo (gw:=gw) (X:=16*(X0/16)+i%fQ gw (X0/16)) (Y:=16*(Y0/16)+i/fQ gw (X0/16)) S;have ao:i%fQ gw (X0/16)<16:=om
   have ae:i/fQ gw (X0/16)<16:=by
    have h4:i/fQ gw (X0/16)<fQ gh (Y0/16):=cS hi;have:fQ gh (Y0/16)<=16:=by unfold fQ;omega
    omega
   unfold ik u5;rw[L.1,L.2];dsimp only
   have aj:su (fQ gw (X0/16)) (X0%16:Nat) (Y0%16:Nat) (X1%16:Nat) (Y1%16:Nat) i↔su gw X0 Y0 X1 Y1 ((16*(Y0/16)+i/fQ gw (X0/16))*gw+(16*(X0/16)+i%fQ gw (X0/16))):=by
    unfold su;rw[U.1,U.2];generalize i%fQ gw (X0/16)=q at *;generalize i/fQ gw (X0/16)=r at *;omega
   by_cases I:su (fQ gw (X0/16)) (X0%16:Nat) (Y0%16:Nat) (X1%16:Nat) (Y1%16:Nat) i
   ·rw[a7 I,a7 (aj.1 I)]
   ·rw[a8 I,a8 (λh=>I (aj.2 h))]
  ·rw[a8 e]
   have hk:=(h.slab u J).keep (w':=w') λg z=>hF.block g ((h.slab u J).lt z) λD=>by
    obtain⟨lu,al⟩:=(h.slab u J).blk;obtain⟨lt,ak⟩:=O.blk;rcases z with rfl|z
    ·rcases D with D|D
     ·exact e (h.inj u T J ht D)
     ·rw[D]at O;obtain⟨l2,aa⟩:=O.rblk;exact absurd (al.inj aa).1 (by decide)
    ·rcases D with rfl|D
     ·have ag:=h.slab u J;rw[z]at ag;obtain⟨l2,aa⟩:=ag.rblk;exact absurd (ak.inj aa).1 (by decide)
     ·exact e (h.injR u T g J ht z D)
   refine hk.congr λi hi=>?_;have hz:=mA an;have hm:i%fQ gw (u%cU gw)<fQ gw (u%cU gw):=dt _ om
   have ae:i/fQ gw (u%cU gw)<16:=by
    have h4:i/fQ gw (u%cU gw)<fQ gh (u/cU gw):=cS hi;have:fQ gh (u/cU gw)<=16:=by unfold fQ;omega
    omega
   have S:16*(u%cU gw)+i%fQ gw (u%cU gw)<gw:=by
    have:fQ gw (u%cU gw)<=gw-16*(u%cU gw):=by unfold fQ;omega
    generalize i%fQ gw (u%cU gw)=q at *;omega
   have U:=jo (gw:=gw) (X:=16*(u%cU gw)+i%fQ gw (u%cU gw)) (Y:=16*(u/cU gw)+i/fQ gw (u%cU gw)) S;unfold u5 ik;try dsimp only
   rw[a8];intro I;unfold su at I;rw[U.1,U.2]at I;refine e ?_;rw[<-hT,<-dP u (cU gw)]
   have V:u/cU gw=Y0/16/\u%cU gw=X0/16:=by
    generalize i%fQ gw (u%cU gw)=q at *;generalize i/fQ gw (u%cU gw)=r at *;omega
   rw[V.1,V.2,cD]
 ·try dsimp only at V e2
  by_cases h1:u=T
  ·by_cases h2:u'=T
   ·rw[h1,h2]
   ·rw[a7 h1]at V;rw[a8 h2]at e2;exact(Z g V u' ah h2 e2).elim
  ·by_cases h2:u'=T
   ·rw[a8 h1]at V;rw[a7 h2]at e2;exact(Z g e2 u J h1 V).elim
   ·rw[a8 h1]at V;rw[a8 h2]at e2;exact h.injR u u' g J ah V e2
 ·rcases z with rfl|z|⟨u,J,z⟩
  ·exact .inl (.inl rfl)
  ·exact .inl (.inr (.inl z))
  ·rcases z with z|z
   ·exact .inl (.inr (.inr ⟨u,J,.inl z⟩))
   ·try dsimp only at z
    by_cases e:u=T
    ·rw[a7 e]at z;rcases hR g z with h1|h1
     ·exact .inl (.inr (.inr ⟨T,ht,.inr h1⟩))
     ·exact .inr h1
    ·rw[a8 e]at z;exact .inl (.inr (.inr ⟨u,J,.inr z⟩))
def xu(F:Nat->Prop)(W:World)(L L1:List HA)(p q s:Nat)(vp vq:Value)(σ:List (Nat×Value))(w:World):Prop :=
 (∀x∈σ,(x.1=p->x.2=vp)/\(x.1=q->x.2=vq))/\(if (σ.any λx=>Nat.beq x.1 s)=true then St F W w L1 else St F W w L)
section
variable{L:List HA}{s:Nat}
theorem xu.start(S:St F W w L):xu F W L L1 p q s vp vq [] w:=⟨λx v=>(by cases v),S⟩
theorem xu.gr(h:xu F W L L1 p q s vp vq σ w)(g:Gr w w'):xu F W L L1 p q s vp vq σ w':=by
 refine⟨h.1,?_⟩;have:=h.2;split at this
 ·rename_i e;rw[a7 e];exact this.gr g
 ·rename_i e;rw[a8 e];exact this.gr g
theorem xu.st0(h:xu F W L L1 p q s vp vq σ w)(v:(σ.any λx=>Nat.beq x.1 s)=false):St F W w L:=by
 have:=h.2;rw[a8 (by rw[v];simp)]at this;exact this
theorem xu.st1(h:xu F W L L1 p q s vp vq σ w)(v:(σ.any λx=>Nat.beq x.1 s)=true):St F W w L1:=by
 have:=h.2;rw[a7 v]at this;exact this
theorem xu.first{v:Value}(h:xu F W L L1 p q s vp vq ((p,v)::σ) w):v=vp:=(h.1 (p,v) eB).1 rfl
theorem xu.second{v:Value}(h:xu F W L L1 p q s vp vq ((q,v)::σ) w):v=vq:=(h.1 (q,v) eB).2 rfl
theorem xu.push{v:Value}(h:xu F W L L1 p q s vp vq σ w)(z:(σ.any λx=>Nat.beq x.1 s)=false)(D:Nat.beq k s=false)(h1:(k=p->v=vp)/\(k=q->v=vq)):xu F W L L1 p q s vp vq ((k,v)::σ) w:=by
 refine⟨λx y=>?_,?_⟩
 ·rcases dy.1 y with rfl|y
  ·exact h1
  ·exact h.1 x y
 ·rw[a8 (by rw[List.any_cons,z,Bool.or_false];simp only[D];simp)];exact h.st0 z
theorem xu.made{v:Value}(h:xu F W L L1 p q s vp vq σ w)(h1:(s=p->v=vp)/\(s=q->v=vq))(S:St F W w' L1):xu F W L L1 p q s vp vq ((s,v)::σ) w':=by
 refine⟨λx y=>?_,?_⟩
 ·rcases dy.1 y with rfl|y
  ·exact h1
  ·exact h.1 x y
 ·rw[a7 (by rw[List.any_cons];simp)];exact S
end
section
variable{ps:String}{L:List HA}
theorem Pd{v:Value}{o:Oper}(h:gd P e o w v)(y:R v w):gI P e o w R:=by
 unfold gd at h;unfold gI;generalize (execOp (ev e) o).run P w=r at *;cases r with
 |ok n w'=>cases n<;>simp_all
 |halt x w'=>simp_all
theorem gu(z:IJ op=false)(h:RW P #[] (λy w'=>R (y 0) w') [⟨some 0,op,ty,ps,af,none⟩] e w):gI P e ⟨d,op,ty,ps,af,none⟩ w R:=by
 rw[BW rfl]at h;unfold tq at h;unfold gI;have D:execOp (ev e) ⟨some 0,op,ty,ps,af,none⟩=execOp (ev e) ⟨d,op,ty,ps,af,none⟩:=by cases op<;>rfl
 rw[D]at h;generalize (execOp (ev e) ⟨d,op,ty,ps,af,none⟩).run P w=r at *;cases r with
 |ok n w' =>
  cases n with
  |round l f I sg bd=>have h1:IJ op=true:=h.1;rw[z]at h1;cases h1
  |value v=>exact h
  |skip=>exact h
  |enter f args=>exact h
  |_=>exact h.elim
 |halt x w'=>exact h.elim
theorem Ef{y:Operand}{s:Nat}{cs:List Value}(S:St F W w L)(hi:gi L i=some (.row el k A n c xs))(hz:(sizeOf t).run P w=.ok s w)(Z:ev e x=.pointer (at_ A j))(hy:ev e y=.agg cs.toArray)(D:cs.length=s)(z:(cs.all λv=>v.oneCell')=true)(O:j+s<=xs.length)(V:j7 L i (.row el k A n c (xs.take j++cs++xs.drop (j+s)))=some L')(J:Nat.blt 0 s=true)(U:∀w',St F W w' L'->R undef w'):gI P e ⟨d,.store t x y,ty,ps,af,none⟩ w R :=
 gu rfl (tF S hi hz Z hy D z O V J (λw' I=>U w' I))
end
def Mt(T:Nat->Value->HA->Prop):List (Nat×Value)->List HA->Prop
 |[],[]=>True
 |(k,v)::σ,h::Ps=>T k v h/\Mt T σ Ps
 |_,_=>False
def CM(F:Nat->Prop)(W:World)(L:List HA)(T:Nat->Value->HA->Prop)(σ:List (Nat×Value))(wq:World):Prop:=∃Ps,Mt T σ Ps/\St F W wq (Ps++L)
section
variable{L:List HA}{T:Nat->Value->HA->Prop}
theorem CM.start(S:St F W wq L):CM F W L T [] wq:=⟨[],trivial,S⟩
theorem iC.right:∀{Ps L:List HA},iC X w (Ps++L)->iC X w L
 |[],_,h=>h
 |_::Ps,_,h=>iC.right (Ps:=Ps) h.2.2
theorem CM.st(h:CM F W L T σ wq):St F W wq L:=by
 obtain⟨Ps,_,S⟩:=h;exact⟨S.fr,S.sep.right⟩
theorem CM.gr(h:CM F W L T σ wq)(g:Gr wq w'):CM F W L T σ w':=by
 obtain⟨Ps,m,S⟩:=h;exact⟨Ps,m,S.gr g⟩
theorem iC.app:∀{P L:List HA},iC (λg=>No g\/w0.heap.size<=g) w P->iC X w L->(∀h∈L,∀g,h.own g->g<w0.heap.size)->(∀g,w0.heap.size<=g->X g)->iC X w (P++L)
 |[],_,_,h,_,_=>h
 |a::P,L,hP,hL,hlt,hX=>by
  refine⟨⟨hP.1.1,λg y=>hX g ((hP.1.2 g y).elim (λe=>e.elim) id)⟩,λg y h v=>?_,iC.app hP.2.2 hL hlt hX⟩
  rcases ez.1 v with v|v
  ·exact hP.2.1 g y h v
  ·intro z
   have h1:=hlt h v g z
   have h2:=(hP.1.2 g y).elim (λe=>e.elim) id;omega
theorem iC.ltL:∀{L:List HA},iC X w L->∀h∈L,∀g,h.own g->g<w.heap.size
 |a::L,S,h,hh,g,ho=>(dy.1 hh).elim (λe=>by subst e;exact h.lt w S.1.1 g ho) (λe=>iC.ltL S.2.2 h e g ho)
theorem St.app{Q:List HA}(S:St F W w L)(v:St No w w' Q):St F W w' (Q++L):=by
 have g:=v.out;have y:=S.gr g;exact⟨y.fr,iC.app v.sep y.sep (S.sep.ltL) (λg z=>.inr (dE S.le z))⟩
end
theorem iC.perm_{L:List HA}(p:L.Perm L'):iC X w L->iC X w L':=by
 induction p with
 |nil=>exact id
 |cons a p ih=>exact λh=>⟨h.1,λg y h' v=>h.2.1 g y h' (p.mem_iff.2 v),ih h.2.2⟩
 |swap a b l =>
  intro h;refine⟨h.2.2.1,λg y h' v=>?_,h.1,λg y h' v=>h.2.1 g y h' (cW _ v),h.2.2.2.2⟩;rcases dy.1 v with e|v
  ·subst e;exact λI=>h.2.1 g I a eB y
  ·exact h.2.2.2.1 g y h' v
 |trans _ _ z D=>exact λh=>D (z h)
theorem St.perm_{L:List HA}(S:St F W w L)(p:L.Perm L'):St F W w L':=⟨S.fr,S.sep.perm_ p⟩
def xv(F:Nat->Prop)(W:World)(L:List HA)(j1 j2:Nat)(t:TypeId)(z:List Value)(σ:List (Nat×Value))(w:World):Prop :=
 ∃Q1 Q2,(match σ.lookup j1 with|none=>Q1=[]|some u=>∃b,u=.pointer (some ⟨b,0,none⟩)/\Q1=[.blk b t z])/\(match σ.lookup j2 with|none=>Q2=[]|some u=>∃b,u=.pointer (some ⟨b,0,none⟩)/\Q2=[.blk b t z])/\St F W w (Q1++(Q2++L))
section
variable{L:List HA}{z:List Value}{ps:String}
theorem xv.start(S:St F W w L):xv F W L j1 j2 t z [] w:=⟨[],[],rfl,rfl,S⟩
theorem xv.gr(h:xv F W L j1 j2 t z σ w)(g:Gr w w'):xv F W L j1 j2 t z σ w':=by
 obtain⟨v,y,h1,h2,S⟩:=h;exact⟨v,y,h1,h2,S.gr g⟩
theorem xv.st(h:xv F W L j1 j2 t z σ w):St F W w L:=by
 obtain⟨v,y,_,_,S⟩:=h;have:=S.drop (v++y).length;rwa[<-cL,jE]at this
theorem Kf(h:xv F W L j1 j2 t z σ w)(I:σ.lookup j1=none)(y:(j2==j1)=false)(O:∀w,(zeroValue t).run P w=.ok zv w)(J:zv.cells.toList=z):gI P e ⟨d,.alloc t,ty,ps,af,none⟩ w (λv w'=>xv F W L j1 j2 t z ((j1,v)::σ) w'):=by
 obtain⟨U,D,h1,h2,S⟩:=h;rw[I]at h1;subst h1;refine gu rfl (kq (jV O J) S (λb w' g S=>⟨[.blk b t z],D,?_,?_,S⟩))
 ·rw[cZ,fE];exact⟨b,rfl,rfl⟩
 ·rw[cZ,y];exact h2
theorem Kg(h:xv F W L j1 j2 t z σ w)(I:σ.lookup j2=none)(y:(j1==j2)=false)(O:∀w,(zeroValue t).run P w=.ok zv w)(J:zv.cells.toList=z):gI P e ⟨d,.alloc t,ty,ps,af,none⟩ w (λv w'=>xv F W L j1 j2 t z ((j2,v)::σ) w'):=by
 obtain⟨D,U,h1,h2,S⟩:=h;rw[I]at h2;subst h2;refine gu rfl (kq (jV O J) S (λb w' g S=>⟨D,[.blk b t z],?_,?_,?_⟩))
 ·rw[cZ,y];exact h1
 ·rw[cZ,fE];exact⟨b,rfl,rfl⟩
 ·exact S.perm_ ef.symm
theorem xv.fin{D I:Value}(h:xv F W L j1 j2 t z σ w)(U:σ.lookup j1=some D)(V:σ.lookup j2=some I) :
  ∃v y,D=pt v/\I=pt y/\St F W w (.blk v t z::.blk y t z::L):=by
 obtain⟨Z,Q2,k1,k2,S⟩:=h;rw[U]at k1;rw[V]at k2;obtain⟨v,J,rfl⟩:=k1;obtain⟨y,O,rfl⟩:=k2;exact⟨v,y,J,O,S⟩
end
def wW(x0 i:Nat):Nat:=max (x0-x0%16+16*i) x0
def xw(x0 x1 i:Nat):Nat:=min (x0-x0%16+16*i+15) x1
theorem E1(h:x0<=x1)(hi:i<dQ x0 x1):wW x0 i<=xw x0 x1 i/\xw x0 x1 i<=x1/\x0<=wW x0 i/\wW x0 i/16=xw x0 x1 i/16/\wW x0 i/16=x0/16+i:=by
 unfold dQ at hi;unfold wW xw;omega
theorem To{X:Nat}(v:x0<=X)(h1:X<=x1):X/16-x0/16<dQ x0 x1/\wW x0 (X/16-x0/16)<=X/\X<=xw x0 x1 (X/16-x0/16):=by
 unfold dQ wW xw;omega
theorem Kh(x0 y0 x1 y1 i j:Nat):x6 x0 y0 x1 y1 ((x0:Int)-(x0:Int)%16+16*(i:Int)) ((y0:Int)-(y0:Int)%16+16*(j:Int))=[ii (wW x0 i),ii (wW y0 j),ii (xw x0 x1 i),ii (xw y0 y1 j)]:=by
 unfold x6 wW xw;congr 1
 ·exact ie om
 ·congr 1
  ·exact ie om
  ·congr 1
   ·exact ie om
   ·congr 1;exact ie om
def Bv(gw x0 y0 x1 y1 k idx:Nat):Bool:=(List.range k).any λq=>decide (su gw (wW x0 (q%dQ x0 x1)) (wW y0 (q/dQ x0 x1)) (xw x0 x1 (q%dQ x0 x1)) (xw y0 y1 (q/dQ x0 x1)) idx)
def x9(gw x0 y0 x1 y1 k:Nat)(v:Int)(c:Nat->Int):Nat->Int:=λidx=>if Bv gw x0 y0 x1 y1 k idx then v else c idx
theorem Ki(gw x0 y0 x1 y1:Nat)(v:Int)(c:Nat->Int)(y:Nat):x9 gw x0 y0 x1 y1 0 v c y=c y:=by simp[x9,Bv]
theorem Kj(gw x0 y0 x1 y1 k:Nat)(v:Int)(c:Nat->Int)(y:Nat) :
  ik gw (wW x0 (k%dQ x0 x1)) (wW y0 (k/dQ x0 x1)) (xw x0 x1 (k%dQ x0 x1)) (xw y0 y1 (k/dQ x0 x1)) v (x9 gw x0 y0 x1 y1 k v c) y=x9 gw x0 y0 x1 y1 (k+1) v c y:=by
 have e:Bv gw x0 y0 x1 y1 (k+1) y=(Bv gw x0 y0 x1 y1 k y||decide (su gw (wW x0 (k%dQ x0 x1)) (wW y0 (k/dQ x0 x1)) (xw x0 x1 (k%dQ x0 x1)) (xw y0 y1 (k/dQ x0 x1)) y)):=by
  unfold Bv;rw[eG,List.any_append];simp
 unfold ik x9;rw[e];by_cases h:su gw (wW x0 (k%dQ x0 x1)) (wW y0 (k/dQ x0 x1)) (xw x0 x1 (k%dQ x0 x1)) (xw y0 y1 (k/dQ x0 x1)) y
 ·rw[a7 h,a7 (by simp[h])]
 ·rw[a8 h];simp[h]
theorem MK(U:x0<=x1/\x1<gw)(V:y0<=y1/\y1<gh)(v:Int)(c:Nat->Int)(y:Nat) :
  x9 gw x0 y0 x1 y1 (dQ y0 y1*dQ x0 x1) v c y=ik gw x0 y0 x1 y1 v c y:=by
 have J:Bv gw x0 y0 x1 y1 (dQ y0 y1*dQ x0 x1) y=true↔su gw x0 y0 x1 y1 y:=by
  unfold Bv;rw[jZ];constructor
  ·rintro⟨q,I,z⟩;have L:=dJ.1 I;have D:=qp z;clear z I;have O:0<dQ x0 x1:=fT λh=>by rw[h]at L;simp at L
   have h1:=E1 U.1 (dt q O);have h2:=E1 V.1 (i:=q/dQ x0 x1) (cS (by rw[cD];exact L));unfold su at *;generalize q%dQ x0 x1=i at *;generalize q/dQ x0 x1=j at *;generalize y%gw=X at *;generalize y/gw=Y at *;omega
  ·intro D;unfold su at D;have h1:=To (x0:=x0) (x1:=x1) (X:=y%gw) om om;have h2:=To (x0:=y0) (x1:=y1) (X:=y/gw) om om;have S:(y/gw/16-y0/16+1)*dQ x0 x1<=dQ y0 y1*dQ x0 x1:=cI _ h2.1;rw[cX]at S;have O:0<dQ x0 x1:=om;refine⟨(y/gw/16-y0/16)*dQ x0 x1+(y%gw/16-x0/16),dJ.2 om,fD ?_⟩;have e:=jo (gw:=dQ x0 x1) (X:=y%gw/16-x0/16) (Y:=y/gw/16-y0/16) h1.1;rw[e.1,e.2];unfold su;omega
 unfold x9 ik;by_cases h:su gw x0 y0 x1 y1 y
 ·rw[a7 h,a7 (J.2 h)]
 ·rw[a8 h,a8 (λe=>h (J.1 e))]
theorem eJ.congr{cap:Nat}{c:Nat->Int}(h1:eJ w p gw gh c A cap bs Rs)(y:∀i,i<gw*gh->c i=c' i):eJ w p gw gh c' A cap bs Rs :=
 ⟨h1.sw,h1.sh,h1.top,h1.row,λt v=>(h1.slab t v).congr λi hi=>Ca y v h1.sw.1 hi,h1.inj,h1.injR⟩
def yc(W:World)(p gw gh:Nat)(A:Option Addr)(cap:Nat)(bs:Nat->Nat)(Rs:Nat->Option Nat)(c:Nat->Int)(w':World):Prop :=
 ∃Rs',eJ w' p gw gh c A cap bs Rs'/\Fr (lH (cU gw*cU gh) p A bs Rs) W w'/\∀g,lH (cU gw*cU gh) p A bs Rs' g->lH (cU gw*cU gh) p A bs Rs g\/W.heap.size<=g
def VI(w wq:World)(t:TypeId)(l:List Value)(v u:Value):Prop:=∃b1 b2,v=pt b1/\u=pt b2/\eL wq b1 t l/\eL wq b2 t l/\b1≠b2/\w.heap.size<=b1/\w.heap.size<=b2
def Pe(w wq:World)(t:TypeId)(l:List Value)(v:Value):Prop:=∃b1,v=pt b1/\eL wq b1 t l/\w.heap.size<=b1
def VJ(w wq:World)(t:TypeId)(l:List Value):List Value->Prop
 |[]=>True
 |[v]=>Pe w wq t l v
 |v::u::_=>VI w wq t l v u
theorem VJ.gr(g:Gr wq w'):∀{σ:List Value},VJ w wq t l σ->VJ w w' t l σ
 |[],h=>trivial
 |[v],h=>by obtain⟨y,h1,h2,z⟩:=h;exact⟨y,h1,h2.gr g,z⟩
 |v::u::_,h=>by obtain⟨y,D,h1,h2,z,I,J⟩:=h;exact⟨y,D,h1,h2,z.gr g,I.gr g,J⟩
theorem ML{ps:String}{z:Value}(I:∀w,(zeroValue t).run P w=.ok z w)(y:z.cells.toList=l)(g0:Gr w0 w)(D:∀v w',Gr w0 w'->Pe w0 w' t l v->R v w'):gI P e ⟨d,.alloc t,ty,ps,af,none⟩ w R :=
 AY (jV I y) (D _ _ (g0.trans (Gr.alloc _ _)) ⟨w.heap.size,rfl,eL.new _ _ _,g0.le⟩)
section
variable{cap:Nat}{c:Nat->Int}
theorem Cc(x0 y0 x1 y1:Nat)(v:Int)(hx:x0<=x1/\x1<gw)(hy:y0<=y1/\y1<gh)(hv:-2147483648<=v/\v<=2147483647)(hG:eJ W p gw gh c A cap bs Rs) :
  Fn prog 271 [pt p,.agg #[ii x0,ii y0,ii x1,ii y1],ii v] W
   (λr w'=>r=ii 0/\yc W p gw gh A cap bs Rs (ik gw x0 y0 x1 y1 v c) w'):=by
 have hw:=hG.sw;have hh:=hG.sh;have az:dF x0 y0 x1 y1 gw gh=0:=gW om om om om;obtain⟨ai,aj⟩:=AA x0 x1 om om om;obtain⟨aw,ak⟩:=AA y0 y1 om om om;have hN:dQ y0 y1*dQ x0 x1<=64*64:=fy ak aj;have S:=St.start1 W (.grid p gw gh c A cap bs Rs) hG;refine zI func271 ?_;refine zN ?_;intro aE aR aM S;refine zC (xJ p gw gh x0 y0 x1 y1 hw.2 hh.2 _ _ (S.grid (i:=1) rfl).top) ?_;intro aS aN S;refine z ?_;refine z ?_;refine zf ?_;refine zc ?_;refine eX (by rw[az];rfl) ?_;refine zK (Dl x0 y0 x1 y1 om _) ?_;rintro _ aT ⟨D,I,rfl,L,U,am⟩;have S:=S.pushRow L U am;refine zg ?_;have aC:dO D:=L.someA (j5 aw ai)
 refine dl (λm e w=>∃(k:Nat)(Rs':Nat->Option Nat),k+m=dQ y0 y1*dQ x0 x1/\SL e [(0,pt p),(2,ii v),(20,.slice D (dQ y0 y1*dQ x0 x1) I),(21,ii (dQ y0 y1*dQ x0 x1:Nat)),(22,ii k)] /\
  St (lH (cU gw*cU gh) p A bs Rs) W w [.row 43 4 D (dQ y0 y1*dQ x0 x1) I (mX x0 y0 x1 y1 (dQ y0 y1)),.grid p gw gh (x9 gw x0 y0 x1 y1 k v c) A cap bs Rs']) (dQ y0 y1*dQ x0 x1)
  ⟨0,Rs,om,sl,by
   have S:=S.sub (.cons_cons _ (.cons _ (.cons_cons _ .slnil)));exact S.as_ (i:=1) rfl rfl (λh=>h.congr (λi _=>(Ki gw x0 y0 x1 y1 v c i).symm)) (λg h=>h)⟩ ?_
 rintro m e w ⟨k,ad,hk,ab,S⟩;rw[ab.fold];refine zB ?_ ?_
 ·intro hc;have ar:k<dQ y0 y1*dQ x0 x1:=om;have hi:k%dQ x0 x1<dQ x0 x1:=dt _ ai;have hj:k/dQ x0 x1<dQ y0 y1:=cS (by rw[cD];exact ar);have Z:=E1 hx.1 hi;have aa:=E1 hy.1 hj;have ag:=y9 x0 y0 x1 y1 (dQ y0 y1) _ _ hi hj;rw[show k/dQ x0 x1*dQ x0 x1+k%dQ x0 x1=k by rw[cD];exact dP _ _,Kh]at ag;have ah:((mX x0 y0 x1 y1 (dQ y0 y1)).drop ((k:Int).toNat * 4)).take 4=[ii (wW x0 (k%dQ x0 x1)),ii (wW y0 (k/dQ x0 x1)),ii (xw x0 x1 (k%dQ x0 x1)),ii (xw y0 y1 (k/dQ x0 x1))]:=by rw[b7];exact ag
  have ac:=Kj gw x0 y0 x1 y1 k v c;generalize wW x0 (k%dQ x0 x1)=a0 at *;generalize xw x0 x1 (k%dQ x0 x1)=a1 at *;generalize wW y0 (k/dQ x0 x1)=O at *;generalize xw y0 y1 (k/dQ x0 x1)=b1 at *;have ht:=xI (gw:=gw) (gh:=gh) (x:=a0) (y:=O) om om;have al:=xH (gw:=gw) (b:=O/16) (jf (x:=a0) om);have aA:=mA (jf (n:=gw) (x:=a0) om);have aB:=mA (jf (n:=gh) (x:=O) om);have aP:=mB (n:=gw) (x:=a0) om;have au:=mB (n:=gw) (x:=a1) om;have aQ:=mB (n:=gh) (x:=O) om;have av:=mB (n:=gh) (x:=b1) om;have ec:∀a:Nat,(a:Int)%16=((a%16:Nat):Int):=λa=>by omega
  rw[<-Z.2.2.2.1]at au;rw[<-aa.2.2.2.1]at av;refine zg ?_;refine ZU (S.rd (i:=0) rfl) ah ?_;refine zN ?_;intro aD aU aO S;refine zS ?_;intro aV S;refine gP (M:=λe w=>∃(ba bb bp:Nat),SL e [(0,pt p),(2,ii v),(9,pt bp),(10,pt ba),(11,pt bb),(20,.slice D (dQ y0 y1*dQ x0 x1) I),(21,ii (dQ y0 y1*dQ x0 x1:Nat)),(22,ii k)]/\St (lH (cU gw*cU gh) p A bs Rs) W w [.blk ba 24 [ii ((a0:Int)%16),ii ((O:Int)%16)],.blk bb 24 [ii ((a1:Int)%16),ii ((b1:Int)%16)],.blk bp 43 [ii a0,ii O,ii a1,ii b1],.row 43 4 D (dQ y0 y1*dQ x0 x1) I (mX x0 y0 x1 y1 (dQ y0 y1)),.grid p gw gh (x9 gw x0 y0 x1 y1 k v c) A cap bs ad]) ?_ ?_
  ·skip;refine zc ?_;refine TI.YA (C:=(xv _ _ _ 10 11 24 [ii 0,ii 0])) [10,11] [0,1,2,3,4,5,6,7,8,9] [12,13] (λ_=>[]) (by kernel_rfl) (by kernel_rfl) (xv.start (S.gr (Gr.drew _))) ?_;simp only[kz,iS,dK,dR];refine zU (λτ wq J=>((xv.st J).blk (i:=0) rfl)) ?_;refine zU (λτ wq J=>((xv.st J).blk (i:=0) rfl)) ?_;refine ul rfl rfl (λτ wq J=>(Cb _ _ om om wq).mono (λ_ _⟨hv,hg⟩=>⟨hv,xv.gr J hg⟩)) ?_;refine zU (λτ wq J=>((xv.st J).blk (i:=0) rfl)) ?_;refine zU (λτ wq J=>((xv.st J).blk (i:=0) rfl)) ?_;refine ul rfl rfl (λτ wq J=>(Cb _ _ om om wq).mono (λ_ _⟨hv,hg⟩=>⟨hv,xv.gr J hg⟩)) ?_;refine zW ?_;refine⟨⟨⟨rfl,?_⟩,⟨rfl,?_⟩,trivial⟩,?_⟩
   ·intro σ w hC hn hp;exact Kf hC hn rfl Ac rfl
   ·intro σ w hC hn hp;exact Kg hC hn rfl Ac rfl
   rintro σ V hV aW hz;dsimp only[TI.Eb];obtain⟨aK,aL,e1,e2,S⟩:=hz.fin (hV _ (.head _)) (hV _ (.tail _ (.head _)));dsimp only at e1 e2;rw[e1,e2];refine zS ?_;intro aH S;exact⟨_,_,_,sl,S⟩
  ·rintro e2 w2 ⟨ba,bb,bp,ab,S⟩;rw[ab.fold];have aG:=S.le;have ap:=S.grid (i:=4) rfl;have ae:=ap.slab _ ht;rw[al.1,al.2]at ae;refine zD [0,1,2,3,4,5,6,7,8,9,10,11,12,13,14,15] [16,17] ?_;refine zP (λwq J=>Fp a0 O om om ((S.gr J).grid (i:=4) rfl)) ?_;refine zE ?_;intro aI aF S;refine zK (Tl _ _ _ _ _ ((a0:Int)%16) ((O:Int)%16) ((a1:Int)%16) ((b1:Int)%16) v aA aB om om hv _ (ae.gr (by assumption))) ?_;rintro _ aJ ⟨rfl,hP⟩;rw[ec,ec,ec,ec]at hP;obtain⟨Rs2,ao,an,aq⟩:=eJ.fillTile (S.grid (i:=4) rfl) ⟨Z.1,om,Z.2.2.2.1⟩ ⟨aa.1,om,aa.2.2.2.1⟩ hP;have S:=S.set (i:=4) (h':=.grid p gw gh _ A cap bs Rs2) rfl rfl an (λg h=>.inl h) ao aq;refine zg ?_;refine⟨m-1,om,k+1,Rs2,om,sl,?_⟩;have S:=S.sub (.cons _ (.cons _ (.cons _ (.cons_cons _ (.cons_cons _ .slnil)))));exact S.as_ (i:=1) rfl rfl (λh=>h.congr (λi _=>ac i)) (λg h=>h)
 ·intro hc;refine zg ?_;obtain rfl:k=dQ y0 y1*dQ x0 x1:=om;exact ir rfl ⟨rfl,ad,(S.grid (i:=1) rfl).congr (λi _=>MK hx hy v c i),S.fr,λg hg=>(S.sep.get (i:=1) rfl).2 g hg⟩
end
def HA.fam(k:Nat)(bs:Nat->Nat)(ty:TypeId)(cells:Nat->List Value):HA :=
 ⟨λg=>∃t,t<k/\g=bs t,λw=>∀t,t<k->eL w (bs t) ty (cells t),λ_ _ h _ hB t ht=>(hB t ht).keep (h _ ⟨t,ht,rfl⟩),λ_ hB _⟨t,ht,e⟩=>e▸(hB t ht).lt⟩
section
variable{L:List HA}
theorem St.famNil(S:St F W w L)(bs:Nat->Nat)(ty:TypeId)(v:Nat->List Value):St F W w (.fam 0 bs ty v::L) :=
 S.push (Gr.refl w) (h:=.fam 0 bs ty v) (λt y=>by omega) (λg⟨t,y,_⟩=>by omega)
def HD(bs:Nat->Nat)(k b:Nat):Nat->Nat:=λt=>if t=k then b else bs t
theorem vG{t:Nat}(h:t<k):HD bs k b t=bs t:=a8 om
theorem xK(bs:Nat->Nat)(k b:Nat):HD bs k b k=b:=a7 rfl
theorem St.famPush{v:Nat->List Value}(S:St F W w (.blk b ty l::.fam k bs ty v::L))(I:v k=l):St F W w (.fam (k+1) (HD bs k b) ty v::L):=by
 have h1:=S.sep.1;have h2:=S.sep.2.2.1;have z:=S.sep.2.2.2;refine⟨S.fr,⟨λt D=>?_,λg⟨t,D,e⟩=>?_⟩,λg⟨t,D,e⟩h hh=>?_,z.2⟩
 ·by_cases e:t=k
  ·subst e;rw[xK,I];exact h1.1
  ·rw[vG om];exact h2.1 t om
 ·by_cases y:t=k
  ·subst y;rw[xK]at e;exact h1.2 g e
  ·rw[vG om]at e;exact h2.2 g ⟨t,om,e⟩
 ·by_cases y:t=k
  ·subst y;rw[xK]at e;exact S.sep.2.1 g e h (cW _ hh)
  ·rw[vG om]at e;exact z.1 g ⟨t,om,e⟩ h hh
theorem St.famNew{v:Nat->List Value}(S:St F W w (.blk b ty l::.fam k bs ty v::L))(t:Nat)(y:t<k):bs t≠b:=λe =>
 S.sep.2.1 b rfl (.fam k bs ty v) (by simp) ⟨t,y,e.symm⟩
end
theorem Qr(hi:∀t u,t<k->u<k->bs t=bs u->t=u)(v:∀t,t<k->bs t≠b):∀t u,t<k+1->u<k+1->HD bs k b t=HD bs k b u->t=u:=λt u y z e=>by
 by_cases h1:t=k
 ·by_cases h2:u=k
  ·rw[h1,h2]
  ·rw[h1,xK,vG om]at e;exact absurd e.symm (v u om)
 ·by_cases h2:u=k
  ·rw[h2,xK,vG om]at e;exact absurd e (v t om)
  ·rw[vG om,vG om]at e;exact hi t u om om e
theorem Qu(k b:Nat)(bs:Nat->Nat):vU k bs++[pt b]=vU (k+1) (HD bs k b):=by
 unfold vU;rw[eG,fq,i7,xK];congr 1;exact eQ λt v=>by rw[vG (dJ.1 v)]
def qw(mk:Value->Value)(gw gh:Nat)(c:Nat->Int)(W:World):Value->World->Prop:=λv w'=>∃p A cap bs Rs,v=mk (pt p)/\eJ w' p gw gh c A cap bs Rs/\(∀g,lH (cU gw*cU gh) p A bs Rs g->W.heap.size<=g)/\Gr W w'
theorem St.pushGrid{L:List HA}(S:St F W w L){cap:Nat}{c:Nat->Int}(v:eJ w' p gw gh c A cap bs Rs)(y:∀g,lH (cU gw*cU gh) p A bs Rs g->w.heap.size<=g)(g:Gr w w') :
  St F W w' (.grid p gw gh c A cap bs Rs::L):=S.push g (h:=.grid p gw gh c A cap bs Rs) v y
theorem St.retGrid{L:List HA}(S:St No W w L){cap:Nat}{c:Nat->Int}{mk:Value->Value}(hi:gi L i=some (.grid p gw gh c A cap bs Rs)):qw mk gw gh c W (mk (pt p)) w :=
 ⟨p,A,cap,bs,Rs,rfl,S.grid hi,λg v=>((S.sep.get hi).2 g v).elim (λh=>h.elim) id,S.out⟩
theorem ng(h:1<=n):dQ (0:Int) ((n:Int)-1)=cU n:=by unfold dQ cU;omega
theorem Tp(h:i<cU n):((min (0-0%16+16*(i:Int)+16-1) ((n:Int)-1))-max (0-0%16+16*(i:Int)) 0+1)=(fQ n i:Nat):=by
 unfold cU at h;unfold fQ;omega
theorem IZ(gw gh:Nat)(v:Int)(V:1<=gw/\gw<=1024)(hh:1<=gh/\gh<=1024)(hv:-2147483648<=v/\v<=2147483647)(W:World) :
  Fn prog 66 [ii gw,ii gh,ii v] W (qw (λp=>.tuple #[p,ii 0]) gw gh (λ_=>v) W):=by
 have az:dF 0 0 0 0 gw gh=0:=gW om om om om;have hN:cU gh*cU gw<=64*64:=fy (jS hh.2) (jS V.2);have an:((gw:Int)+16-1)/16=(cU gw:Nat):=by unfold cU;omega
 have ae:=kQ V.1;have ap:=kQ hh.1;have S:=St.start W;refine zI func66 ?_;refine zN ?_;intro ak aQ aK S;refine Z1 0 S ?_;intro aC S;first|refine eF ?_|(refine di ?_;show CW _ _ _ _ _ _)|refine di ?_
 repeat refine dm ?_
 refine dz ?_;refine dU (kL (pl:=[(0,1),(1,1),(2,1),(3,1)]) dL gE (λw=>by kernel_rfl) rfl rfl) ?_;iterate 2 refine dU (jx rfl) ?_
 refine eY rfl (jW _ _ _ _ _ _ om om aC) ?_;rintro _ aR ⟨rfl,al⟩;have S:=S.gr al;refine z ?_;refine z ?_;refine zf ?_;refine zc ?_;refine eX (by rw[az];rfl) ?_;refine zg ?_;rw[an];refine zN ?_;intro D aS aL S;refine zK (Dl 0 0 ((gw:Int)-1) ((gh:Int)-1) om _) ?_;rintro _ aT ⟨I,L,rfl,y,U,am⟩;have S:=S.pushRow y U am;refine zg ?_;rw[ng V.1,ng hh.1];rw[ng V.1,ng hh.1]at y S;have aA:dO I:=y.someA (j5 ap ae);have S:=S.sub (.cons_cons _ (.cons_cons _ (.cons _ .slnil)));have S:=((S.pushNil 92 1).famNil (λt=>t) 164 (λt=>[ii (fQ gw (t%cU gw):Nat),ii (fQ gh (t/cU gw):Nat),.iface 333 (.int .i32 v)]))
 refine dl (λm e w=>∃(k:Nat)(A:Option Addr)(Z:Nat)(bs:Nat->Nat),k+m=cU gh*cU gw/\SL e [(2,ii v),(10,pt D),(35,.slice I (cU gh*cU gw) L),(36,ii (cU gh*cU gw:Nat)),(37,ii k)] /\
  (∀t u,t<k->u<k->bs t=bs u->t=u)/\St No W w [.fam k bs 164 (λt=>[ii (fQ gw (t%cU gw):Nat),ii (fQ gh (t/cU gw):Nat),.iface 333 (.int .i32 v)]),.row 92 1 A k Z (vU k bs),
   .row 43 4 I (cU gh*cU gw) L (mX 0 0 ((gw:Int)-1) ((gh:Int)-1) (cU gh)),.blk D 90 [ii gw,ii gh,ii (cU gw),.slice A k Z]]) (cU gh*cU gw)
  ⟨0,none,0,λt=>t,om,sl,λt u ht=>by omega,S⟩ ?_
 rintro m e w ⟨k,A,Z,bs,hk,aw,O,S⟩;rw[aw.fold];refine zB ?_ ?_
 ·intro hc;have ao:k<cU gh*cU gw:=om;have hi:k%cU gw<cU gw:=dt _ ae;have hj:k/cU gw<cU gh:=cS (by rw[cD];exact ao);have ab:=y9 0 0 ((gw:Int)-1) ((gh:Int)-1) (cU gh) (k%cU gw) (k/cU gw) (by rw[ng V.1];exact hi) hj;rw[ng V.1,show k/cU gw*cU gw+k%cU gw=k by rw[cD];exact dP _ _]at ab;have ac:((mX 0 0 ((gw:Int)-1) ((gh:Int)-1) (cU gh)).drop ((k:Int).toNat * 4)).take 4=[ii (max (0-0%16+16*((k%cU gw:Nat):Int)) 0),ii (max (0-0%16+16*((k/cU gw:Nat):Int)) 0),ii (min (0-0%16+16*((k%cU gw:Nat):Int)+16-1) ((gw:Int)-1)),ii (min (0-0%16+16*((k/cU gw:Nat):Int)+16-1) ((gh:Int)-1))]:=by rw[b7];exact ab
  have aq:=Tp hi;have ar:=Tp hj;have aO:=mA hi;have aP:=mA hj;have aN:=S.le;refine zg ?_;refine ZU (S.rd (i:=2) rfl) ac ?_;refine zN ?_;intro aD aU aM S;refine zS ?_;intro aF S;rw[aq];refine zg ?_;rw[ar];refine zK (VG (fQ gw (k%cU gw):Nat) (fQ gh (k/cU gw):Nat) v om om hv _) ?_;rintro _ aG ⟨sb,rfl,av,au,aa⟩;have S:=S.push aa (h:=.blk sb 164 _) au (λg h=>h▸av);refine zg ?_;refine yb S ?_;intro aj aH aE S ai;refine ZP 4 0 S ?_;intro ag ah aI S aB;refine zS ?_;intro aJ S;have S:=S.sub (.cons _ (.cons_cons _ (.cons _ (.cons_cons _ (.cons_cons _ (.cons_cons _ (.cons_cons _ .slnil)))))));have hn:=S.famNew;have S:=S.famPush rfl;rw[Qu]at S;exact⟨m-1,om,k+1,_,_,_,om,sl,Qr O hn,S⟩
 ·intro hc;refine zg ?_;obtain rfl:k=cU gh*cU gw:=om;have hT:=S.blk (i:=3) rfl;have hR:=S.row (i:=1) rfl;have hF:∀t,t<cU gh*cU gw->eL w (bs t) 164 [ii (fQ gw (t%cU gw):Nat),ii (fQ gh (t/cU gw):Nat),.iface 333 (.int .i32 v)]:=S.ok (i:=0) (h:=.fam _ bs _ _) rfl;have ad:cU gh*cU gw=cU gw*cU gh:=cD _ _;have hG:eJ w D gw gh (λ_=>v) A Z bs (λ_=>none):=⟨V,hh,by rw[<-ad];exact hT,by rw[<-ad];exact hR,λt ht=>⟨λ_ _=>hv,v,hF t om,hv,λ_ _=>rfl⟩,λt u ht hu=>O t u om om,λt u g _ _ h=>by cases h⟩;refine nd rfl rfl ⟨D,A,Z,bs,λ_=>none,rfl,hG,λg J=>?_,S.out⟩;rcases J with J|J|⟨t,ht,J⟩
  ·exact((S.sep.get (i:=3) rfl).2 g J).elim (λh=>h.elim) id
  ·exact((S.sep.get (i:=1) rfl).2 g J).elim (λh=>h.elim) id
  ·rcases J with J|J
   ·exact((S.sep.get (i:=0) rfl).2 g ⟨t,om,J⟩).elim (λh=>h.elim) id
   ·cases J
theorem Pf(v:Int)(W:World):Fn prog 25 [ii v] W (dp (.bool (iL v)) W):=by
 by_cases h:-2147483648<=v
 ·skip;have S:=St.start W;refine zI func25 ?_;refine zX ?_;exact⟨be (by simp[iL,h]),S.out⟩
 ·skip;have S:=St.start W;refine zI func25 ?_;refine zX ?_;exact⟨be (by simp[iL,h]),S.out⟩
def aaC(gw gh:Int)(A:Option Addr)(n c:Nat):Value:=.agg #[ii gw,ii gh,.slice A n c]
def mD(gw gh:Nat)(c:Int×Int):Bool:=decide (0<=c.1)&&decide (c.1<gw)&&decide (0<=c.2)&&decide (c.2<gh)
theorem jT{c:Int×Int}:mD gw gh c=true↔0<=c.1/\c.1<gw/\0<=c.2/\c.2<gh:=by simp[mD,and_assoc]
def eT(l:List (Int×Int)):List Value:=l.flatMap λc=>[ii c.1,ii c.2]
theorem xl(l:List (Int×Int)):(eT l).length=l.length*2:=lF (f:=λc:Int×Int=>[ii c.1,ii c.2]) (λ_=>rfl) l
theorem Tv(l m:List (Int×Int)):eT l++eT m=eT (l++m):=by simp[eT]
theorem mS{l:List (Int×Int)}{c:Int×Int}(h:l[k]?=some c):((eT l).drop (k*2)).take 2=[ii c.1,ii c.2]:=lG (f:=λc:Int×Int=>[ii c.1,ii c.2]) (λ_=>rfl) h
theorem Qv{l:List (Int×Int)}{c:Int×Int}(h:l[k]?=some c):(eT l)[k*2+0]?=some (ii c.1):=qe (f:=λc:Int×Int=>[ii c.1,ii c.2]) (λ_=>rfl) h om
theorem Qw{l:List (Int×Int)}{c:Int×Int}(h:l[k]?=some c):(eT l)[k*2+1]?=some (ii c.2):=qe (f:=λc:Int×Int=>[ii c.1,ii c.2]) (λ_=>rfl) h om
theorem aa1{x y:Int}(v:0<=x/\x<gw)(z:0<=y/\y<gh):0<=y*gw/\y*gw+x<((gw*gh:Nat):Int)/\y*gw+x=((y.toNat * gw+x.toNat:Nat):Int)/\y.toNat * gw+x.toNat<gw*gh:=by
 obtain⟨a,rfl⟩:=cJ v.1;obtain⟨b,rfl⟩:=cJ z.1;have h1:(b+1)*gw<=gh*gw:=cI _ om;rw[cX,cD gh]at h1;have h2:(b:Int)*gw+a=((b*gw+a:Nat):Int):=by push_cast;rfl
 refine⟨p5 om om,by rw[h2];omega,by simp,?_⟩;simp only[b7];omega
section
variable{cap:Nat}{V:List Int}
theorem abe(x y:Int)(v:mD gw gh (x,y)=true)(hV:V.length=gw*gh)(hm:gw*gh<=1048576)(J:Rd W A (cY V)) :
  Fn prog 11 [aaC gw gh A V.length cap,.agg #[ii x,ii y]] W (dp (.tuple #[ii (V.getD (y.toNat * gw+x.toNat) 0),ii 0]) W):=by
 have v:=jT.1 v;dsimp only at v;obtain⟨h1,h2,Z,h4⟩:=aa1 (gw:=gw) (gh:=gh) (x:=x) (y:=y) om om;have L:dO A:=J.someA (by rw[gn];omega)
 have z:(cY V)[(y*gw+x).toNat * 1]?=some (ii (V.getD (y.toNat * gw+x.toNat) 0)):=by
  rw[Z,b7,cG];refine gc ?_;rw[cO,fw om];rfl
 have S:=St.start W;refine zI func11 ?_;refine zN ?_;intro D aa O S;refine zN ?_;intro I ab U S;refine zT (J.gr S.out) z ?_;exact zZ
theorem aa8(x y:Int)(n:Nat)(D:mD gw gh (x,y)=false) :
  Fn prog 11 [aaC gw gh A n cap,.agg #[ii x,ii y]] W (dp (.tuple #[ii 0,ii 4]) W):=by
 have D:x<0\/(0<=x/\gw<=x)\/(0<=x/\x<gw/\y<0)\/(0<=x/\x<gw/\0<=y/\gh<=y):=by
  have:¬(0<=x/\x<gw/\0<=y/\y<gh):=λh=>by rw[jT.2 h]at D;cases D
  omega
 rcases D with h|h|h|h
 ·skip;have S:=St.start W;refine zI func11 ?_;refine zN ?_;intro v L I S;refine zN ?_;intro z O J S;exact zZ
 ·skip;have S:=St.start W;refine zI func11 ?_;refine zN ?_;intro v L I S;refine zN ?_;intro z O J S;exact zZ
 ·skip;have S:=St.start W;refine zI func11 ?_;refine zN ?_;intro v L I S;refine zN ?_;intro z O J S;exact zZ
 ·skip;have S:=St.start W;refine zI func11 ?_;refine zN ?_;intro v L I S;refine zN ?_;intro z O J S;exact zZ
def sq(x y:Int):List (Int×Int):=[(x,y-1),(x-1,y),(x+1,y),(x,y+1)]
def NW(gw gh:Nat)(x y:Int):List (Int×Int):=(sq x y).filter (mD gw gh)
theorem abv(x y:Int)(hx:-1<=x/\x<=1048576)(hy:-1<=y/\y<=1048576)(hV:V.length=gw*gh)(hm:gw*gh<=1048576)(hA:Rd W A (cY V)) :
  Fn prog 12 [aaC gw gh A V.length cap,.agg #[ii x,ii y]] W (jc id 24 2 (NW gw gh x y).length (eT (NW gw gh x y)) W):=by
 have S:=St.start W;refine zI func12 ?_;refine zN ?_;intro I az aq S;refine zN ?_;intro aj aA ar S;refine zg ?_;refine yb S ?_;intro v aB au S ad;refine zg ?_;refine mv ki jy S ?_;intro ah aC av S D;refine zg ?_;have S:=S.sub (.cons_cons _ (.cons_cons _ (.cons _ (.cons_cons _ (.slnil)))))
 refine dl (λm e w=>∃(k:Nat)(B:Option Addr)(cp:Nat),k+m=4/\SL e [(2,pt I),(5,.slice v 4 4),(6,.slice B ((sq x y).take k|>.filter (mD gw gh)).length cp),(7,ii k)] /\
  St No W w [.row 24 2 B ((sq x y).take k|>.filter (mD gw gh)).length cp (eT ((sq x y).take k|>.filter (mD gw gh))),.row 24 2 v 4 4 (eT (sq x y)),.blk I 31 [ii gw,ii gh,.slice A V.length cap]]) 4
  ⟨0,_,_,om,sl,S⟩ ?_
 rintro m e w ⟨k,B,cp,hk,ai,S⟩;rw[ai.fold];refine zB ?_ ?_
 ·intro hc;have ab:k<(sq x y).length:=by show k<4;omega
  have aa:(sq x y)[k]?=some (sq x y)[k]:=fw ab;have ac:(sq x y).take (k+1)=(sq x y).take k++[(sq x y)[k]]:=ip ab;have am:((sq x y).take k|>.filter (mD gw gh)).length<=4:=dE (nY _ _) (by simp[sq];omega);generalize (sq x y)[k]=q at *;have J:((eT (sq x y)).drop ((k:Int).toNat * 2)).take 2=[ii q.1,ii q.2]:=by rw[b7];exact mS aa
  cases z:mD gw gh q
  ·have Z:((sq x y).take (k+1)).filter (mD gw gh)=((sq x y).take k).filter (mD gw gh):=by rw[ac,ix];simp[z]
   refine zD [0,1,2,3,4,5,6,7,8,9,10] [] ?_;refine fo (λwq L=>fb xa rfl (jy _) rfl ((S.gr L).rd (i:=1) rfl) J rfl rfl) ?_;refine zP (λwq L=>aa8 (W:=wq) q.1 q.2 V.length z) ?_;refine zE ?_;intro aD aw S;exact⟨m-1,om,k+1,B,cp,om,⟨rfl,rfl,by rw[Z];rfl,ie om,trivial⟩,by rw[Z];exact S⟩
  ·have Z:((sq x y).take (k+1)).filter (mD gw gh)=((sq x y).take k).filter (mD gw gh)++[q]:=by rw[ac,ix];simp[z]
   refine zD [0,1,2,3,4,5,6,7,8,9,10] [] ?_;refine fo (λwq L=>fb xa rfl (jy _) rfl ((S.gr L).rd (i:=1) rfl) J rfl rfl) ?_;refine zP (λwq L=>abe q.1 q.2 z hV hm (hA.gr (S.gr L).out)) ?_;refine zE ?_;intro an ak S;refine dH (fb xa rfl (jy _) rfl (S.rd (i:=1) rfl) J rfl rfl) ?_;refine yb S ?_;intro ag ao al S ae;refine fM (i:=1) S rfl (λh=>rfl) ki abq rfl rfl rfl rfl (by simp) om (S.rd (i:=0) rfl) rfl om ?_;intro O U ap S D;refine zg ?_;have S:=S.sub (.cons _ (.cons_cons _ (.cons_cons _ (.cons_cons _ (.slnil)))));refine⟨m-1,om,k+1,O,U,om,⟨rfl,rfl,?_,ie om,trivial⟩,?_⟩
   ·rw[Z,cP];rfl
   ·rw[Z,cP,<-Tv];exact S
 ·intro hc;refine zg ?_;obtain rfl:k=4:=om;exact ir rfl (S.retNew (i:=0) (mk:=id) rfl)
end
theorem VK(v:Int)(W:World):Fn prog 218 [ii v] W (dp (.bool (iL v)) W):=by
 by_cases h:-2147483648<=v
 ·skip;have S:=St.start W;refine zI func218 ?_;refine zX ?_;exact⟨be (by simp[iL,h]),S.out⟩
 ·skip;have S:=St.start W;refine zI func218 ?_;refine zX ?_;exact⟨be (by simp[iL,h]),S.out⟩
theorem Dn(v:Int)(W:World):Fn prog 217 ([]++[ii v]++[]) W (dp (.bool (!iL v)) W):=by
 have S:=St.start W;refine zI func217 ?_;refine zC (VK v W) ?_;intro z y S;exact zZ
theorem Fw(A:Option Addr)(n c fid:Nat)(caps:List Value)(xs:List Int)(hn:n=xs.length)(ac:n<=9223372036854775807)(p:Int->Bool)(W:World)(V:Rd W A (cY xs))(hf:∀x∈xs,∀w',Gr W w'->Fn prog fid ([]++[ii x]++caps) w' (dp (.bool (p x)) w')) :
  Fn prog 270 [.slice A n c,.func (.func fid) (([]:List Value).toArray) caps.toArray] W (λv w'=>∃r:Int,v=ii r/\Gr W w'/\(0<=r↔xs.any p=true)):=by
 subst hn;have S:=St.start W;refine zI func270 ?_;refine zg ?_
 refine dl (λm e w=>∃k:Nat,k+m=xs.length/\SL e [(0,.slice A xs.length c),(1,.func (.func fid) (([]:List Value).toArray) caps.toArray),(7,ii xs.length),(8,ii k)]/\(∀i x,i<k->xs[i]?=some x->p x=false)/\St No W w []) xs.length
  ⟨0,om,sl,λi x hi=>by omega,S⟩ ?_
 rintro m e w ⟨k,ab,L,Z,S⟩;rw[L.fold];refine zB ?_ ?_
 ·intro hc;obtain⟨x,D⟩:∃x,xs[k]?=some x:=⟨xs[k],fw om⟩;have aa:dO A:=V.someA (by rw[gn];omega);have O:(cY xs)[(k:Int).toNat * 1]?=some (ii x):=by rw[cG,b7];exact gc D
  refine zT (V.gr S.out) O ?_;refine ju rfl rfl (hf x (dD D) _ S.out) ?_;rintro _ ad ⟨rfl,I⟩;have S:=S.gr I;refine zB ?_ ?_
  ·intro z;refine zX ?_;exact⟨_,rfl,S.out,by simp;exact⟨x,dD D,z⟩⟩
  ·intro z;refine zg ?_
   exact⟨m-1,om,k+1,om,sl,λi y hi U=>by
    by_cases J:i=k
    ·subst J;rw[D]at U;cases U;exact z
    ·exact Z i y om U,S⟩
 ·intro hc;refine zg ?_;refine ir rfl ⟨_,rfl,S.out,?_⟩;simp only[jZ];refine⟨λh=>by omega,λ⟨x,D,z⟩=>?_⟩;obtain⟨i,hi,rfl⟩:=gK.1 D;rw[Z i _ om (fw hi)]at z;cases z
theorem rf(A:Option Addr)(n c fid:Nat)(caps:List Value)(xs:List Int)(I:n=xs.length)(y:n<=9223372036854775807)(p:Int->Bool)(W:World)(z:Rd W A (cY xs))(D:∀x∈xs,∀w',Gr W w'->Fn prog fid ([]++[ii x]++caps) w' (dp (.bool (p x)) w')) :
  Fn prog 216 [.slice A n c,.func (.func fid) (([]:List Value).toArray) caps.toArray] W (dp (.bool (xs.any p)) W):=by
 have S:=St.start W;refine zI func216 ?_;refine zK (Fw A n c fid caps xs I y p _ (z.gr S.out) (by intro x L w' g;exact D x L w' (S.out.trans g))) ?_;rintro _ O ⟨r,rfl,v,J⟩;have S:=S.gr v;refine zX ?_;exact⟨be (by rw[iq,<-J];simp),S.out⟩
theorem Bw(x0 y0 x1 y1 i:Int)(h:0<=x0/\x0<=x1/\x1<1024/\0<=y0/\y0<=y1/\y1<1024)(hi:0<=i)(v:i<(x1-x0+1)*(y1-y0+1))(W:World) :
  Fn prog 117 [.agg #[ii x0,ii y0,ii x1,ii y1],ii i] W (dp (.tuple #[.agg #[ii (x0+i%(x1-x0+1)),ii (y0+i/(x1-x0+1))],.bool true]) W):=by
 have y:fL i ((x1-x0+1)*(y1-y0+1))=true:=by simp[fL,hi,v]
 have D:=λw=>Tg x0 y0 x1 y1 ⟨h.1,h.2.1,h.2.2.1⟩ w;have ha:=λw=>qc x0 y0 x1 y1 h w;have m2:=(Hz (x1-x0+1) (y1-y0+1) om om om om).2;have Z:0<x1-x0+1/\x1-x0+1<=1024:=om;generalize x1-x0+1=n at *;generalize n*(y1-y0+1)=m at *;have d1:0<=i/n:=sU hi om;have d2:i/n<=i:=Int.ediv_le_self _ hi;have d3:0<=i%n:=Int.emod_nonneg _ om;have d4:i%n<=1024:=by have:=Int.emod_lt_of_pos i Z.1;omega
 have z:=λw=>P9 i m w;rw[y]at z;have S:=St.start W;refine zI func117 ?_;refine zN ?_;intro J aa L S;refine zN ?_;intro I ab O S;refine zC (ha _) ?_;intro ac U S;refine zC (z _) ?_;intro ad V S;refine zD [0,1,2,3,4,5,6,7,8,9,10,11,12,13] [14,15,16] ?_;refine zP (λwq hq=>D wq) ?_;refine zP (λwq hq=>D wq) ?_;refine zE ?_;refine zS ?_;intro ae S;exact pG S ⟨rfl,S.out⟩
section
variable{cap:Nat}{c:Nat->Int}{V:List Int}
def HE(V:List Int)(k:Nat)(c:Nat->Int):Nat->Int:=λi=>if i<k then V.getD i 0 else c i
theorem HF(z:0<gw)(U:1<=n)(J:k%gw+n<=gw)(D:∀j,j<n->V.getD (k+j) 0=V.getD k 0)(i:Nat) :
  ik gw (k%gw:Nat) (k/gw:Nat) (k%gw+n-1:Nat) (k/gw:Nat) (V.getD k 0) (HE V k c) i=HE V (k+n) c i:=by
 have I:=dP k gw;have v:=dP i gw;have L:=dt i z
 have y:su gw (k%gw:Nat) (k/gw:Nat) (k%gw+n-1:Nat) (k/gw:Nat) i↔k<=i/\i<k+n:=by
  unfold su;constructor
  ·rintro⟨h1,h2,O,S⟩;have e:i/gw=k/gw:=om;rw[e]at v;omega
  ·rintro⟨h1,h2⟩
   have e:i/gw=k/gw:=by
    refine Nat.div_eq_of_lt_le ?_ ?_
    ·rw[cD];omega
    ·rw[cX,cD];omega
   rw[e]at v ⊢;omega
 unfold ik HE;by_cases h:k<=i/\i<k+n
 ·rw[a7 (y.2 h),a7 h.2];have:=D (i-k) om;rw[(om:k+(i-k)=i)]at this;exact this.symm
 ·rw[a8 (λe=>h (y.1 e))];by_cases h2:i<k
  ·rw[a7 h2,a7 om]
  ·rw[a8 h2,a8 om]
theorem Xc(cp:Nat)(hV:V.length=gw*gh)(ak:∀v∈V,iL v=true)(hG:eJ W p gw gh c A cap bs Rs)(hB:Rd W B (cY V))(am:∀g,jv B g->¬lH (cU gw*cU gh) p A bs Rs g)(aM:∀g,jv B g->g<W.heap.size) :
  Fn prog 219 [pt p,.agg #[ii 0,ii 0,ii (gw-1),ii (gh-1)],.slice B V.length cp] W
   (λr w'=>r=.tuple #[]/\yc W p gw gh A cap bs Rs (λi=>V.getD i 0) w'):=by
 have hw:=hG.sw;have hh:=hG.sh;have hm:1<=gw*gh/\gw*gh<=1024*1024:=⟨fy hw.1 hh.1,fy hw.2 hh.2⟩;have ao:(gw:Int)*gh=((gw*gh:Nat):Int):=by push_cast;rfl
 have aw:dO B:=hB.someA (by rw[gn];omega);have z:∀{w:World},Fr (lH (cU gw*cU gh) p A bs Rs) W w->Rd w B (cY V):=λ{w}hF=>hB.fr hF (λa ha=>am _ (by rw[ha];rfl));have S:=St.start1 W (.grid p gw gh c A cap bs Rs) hG;refine zI func219 ?_;refine yA ?_;intro y _ S
 refine dl (λm e w=>∃(k:Nat)(Rs':Nat->Option Nat),k+m=gw*gh/\SL e [(0,pt p),(2,.slice B V.length cp),(4,pt y),(6,ii k)] /\
  St (lH (cU gw*cU gh) p A bs Rs) W w [.blk y 43 [ii 0,ii 0,ii (gw-1),ii (gh-1)],.grid p gw gh (HE V k c) A cap bs Rs']) (gw*gh)
  ⟨0,Rs,om,sl,S.as_ (i:=1) rfl rfl (λh=>h.congr (λi _=>(a8 (sP i)).symm)) (λg h=>h)⟩ ?_
 rintro m e w ⟨k,ac,hk,ah,S⟩;rw[ah.fold];refine zB ?_ ?_
 ·intro hc;have an:k<gw*gh:=om;have hx:k%gw<gw:=dt _ om;have hy:k/gw<gh:=cS an;have aL:k/gw*gw+k%gw=k:=by rw[cD];exact dP _ _
  have av:k/gw*gw+gw<=gw*gh:=by
   have:(k/gw+1)*gw<=gh*gw:=cI _ hy;rw[cX,cD gh]at this;exact this
  have e1:(0:Int)+(k:Int)%((gw:Int)-1-0+1)=((k%gw:Nat):Int):=by
   rw[(om:(gw:Int)-1-0+1=gw),Int.zero_add];push_cast;rfl
  have e2:(0:Int)+(k:Int)/((gw:Int)-1-0+1)=((k/gw:Nat):Int):=by
   rw[(om:(gw:Int)-1-0+1=gw),Int.zero_add];push_cast;rfl
  have aj:(k:Int)<((gw:Int)-1-0+1)*(gh-1-0+1):=by
   rw[(om:(gw:Int)-1-0+1=gw),(om:(gh:Int)-1-0+1=gh),ao];omega
  refine zC (Bw 0 0 ((gw:Int)-1) ((gh:Int)-1) k om om aj w) ?_;intro aP aE S;refine yA ?_;rw[e1,e2];intro I _ S
  refine dl (λm e w=>∃n:Nat,1<=n/\n+m=gw-k%gw/\SL e [(0,pt p),(2,.slice B V.length cp),(4,pt y),(6,ii k),(7,pt I),(9,ii n)]/\(∀j,j<n->V.getD (k+j) 0=V.getD k 0) /\
   St (lH (cU gw*cU gh) p A bs Rs) W w [.blk I 24 [ii (k%gw:Nat),ii (k/gw:Nat)],.blk y 43 [ii 0,ii 0,ii (gw-1),ii (gh-1)],.grid p gw gh (HE V k c) A cap bs ac]) (gw-k%gw-1)
   ⟨1,om,om,sl,λj hj=>by rw[(om:j=0),eW],S⟩ ?_
  rintro m' e w ⟨n,al,aN,ah,hI,S⟩;rw[ah.fold];have aI:=z S.fr
  have L:∀i,i<V.length->(cY V)[i]?=some (ii (V.getD i 0)):=λi hi=>by
   refine gc ?_;rw[cO,fw hi];rfl
  have aq:=L k om;have D:(cY V)[(k:Int).toNat * 1]?=some (ii (V.getD k 0)):=by rw[cG,b7];exact aq
  have aD:∀w,St (lH (cU gw*cU gh) p A bs Rs) W w [.blk I 24 [ii (k%gw:Nat),ii (k/gw:Nat)],.blk y 43 [ii 0,ii 0,ii (gw-1),ii (gh-1)],.grid p gw gh (HE V k c) A cap bs ac]->True:=λ_ _=>trivial
  have Z:iL (V.getD k 0)=true:=by
   rw[cO,fw om];exact ak _ (fY _)
  have Z:=(u0 _).1 Z;by_cases aa:k%gw+n<=gw-1/\V.getD (k+n) 0=V.getD k 0
  ·have ai:=L (k+n) om;have U:(cY V)[((k:Int)+n).toNat * 1]?=some (ii (V.getD (k+n) 0)):=by rw[cG,(om:((k:Int)+n).toNat=k+n)];exact ai
   obtain⟨aO,ap⟩:=aa;refine zD [0,1,2,3,4,5,6,7,8,9,10,11,12,13,14,15,16,17,18,19] [] ?_;try (refine fO rfl ?_;refine fo (λwq O=>eI iY rfl rfl (z (S.gr O).fr) U) ?_)
   refine zQ ?_;try (refine fO rfl ?_;refine fo (λwq O=>eI iY rfl rfl (z (S.gr O).fr) D) ?_)
   refine zE ?_;intro aQ aF S;refine⟨m'-1,om,n+1,om,om,sl,λj hj=>?_,S⟩;by_cases e:j=n
   ·subst e;exact ap
   ·exact hI j om
  ·have J:¬(k%gw+n<=gw-1)\/(k%gw+n<=gw-1/\V.getD (k+n) 0≠V.getD k 0):=by
    by_cases h:k%gw+n<=gw-1
    ·exact .inr ⟨h,λe=>aa ⟨h,e⟩⟩
    ·exact .inl h
   have e3:((k%gw:Nat):Int)+n-1=((k%gw+n-1:Nat):Int):=om;have ab:0<gw:=om;rcases J with J|⟨aJ,aK⟩
   ·skip;refine zF [0,1,2,3,4,5,6,7,8,9,10,11,12,13,14,15,16,17,18,19] [] ?_;intro aR aG S;refine zD [0,1,2,3,4,5,6,7,8,9,10,11,12,13,14,15,16] [17] ?_;rw[e3];refine zO (λwq O=>(z (S.gr O).fr)) D ?_;refine zE ?_;intro aS aH S;refine zK (Cc (k%gw) (k/gw) (k%gw+n-1) (k/gw) (V.getD k 0) ⟨om,om⟩ ⟨fK _,hy⟩ Z (S.grid (i:=2) rfl)) ?_;rintro _ az ⟨_,Rs2,ae,ad,ag⟩;have S:=S.set (i:=2) (h':=.grid p gw gh _ A cap bs Rs2) rfl rfl ad (λg h=>.inl h) ae ag;refine zg ?_;have S:=S.sub (.cons _ (.cons_cons _ (.cons_cons _ .slnil)));exact⟨m-n,om,k+n,Rs2,om,sl,S.as_ (i:=1) rfl rfl (λh=>h.congr (λi _=>HF ab al om hI i)) (λg h=>h)⟩
   ·have ai:=L (k+n) om;have U:(cY V)[((k:Int)+n).toNat * 1]?=some (ii (V.getD (k+n) 0)):=by rw[cG,(om:((k:Int)+n).toNat=k+n)];exact ai
    refine zD [0,1,2,3,4,5,6,7,8,9,10,11,12,13,14,15,16,17,18,19] [] ?_;try (refine fO rfl ?_;refine fo (λwq O=>eI iY rfl rfl (z (S.gr O).fr) U) ?_)
    refine zQ ?_;try (refine fO rfl ?_;refine fo (λwq O=>eI iY rfl rfl (z (S.gr O).fr) D) ?_)
    refine zE ?_;intro aA ar S;refine zD [0,1,2,3,4,5,6,7,8,9,10,11,12,13,14,15,16] [17] ?_;rw[e3];refine zO (λwq O=>(z (S.gr O).fr)) D ?_;refine zE ?_;intro aB au S;refine zK (Cc (k%gw) (k/gw) (k%gw+n-1) (k/gw) (V.getD k 0) ⟨om,om⟩ ⟨fK _,hy⟩ Z (S.grid (i:=2) rfl)) ?_;rintro _ aC ⟨_,Rs2,ae,ad,ag⟩;have S:=S.set (i:=2) (h':=.grid p gw gh _ A cap bs Rs2) rfl rfl ad (λg h=>.inl h) ae ag;refine zg ?_;have S:=S.sub (.cons _ (.cons_cons _ (.cons_cons _ .slnil)));exact⟨m-n,om,k+n,Rs2,om,sl,S.as_ (i:=1) rfl rfl (λh=>h.congr (λi _=>HF ab al om hI i)) (λg h=>h)⟩
 ·intro hc;refine zg ?_;obtain rfl:k=gw*gh:=om;exact na ⟨rfl,ac,(S.grid (i:=1) rfl).congr (λi hi=>a7 hi),S.fr,λg hg=>(S.sep.get (i:=1) rfl).2 g hg⟩
end
theorem Rd.lt(h:Rd w A xs)(z:0<xs.length)(y:jv A g):g<w.heap.size:=by
 rcases h with rfl|⟨b,o,rfl,v,_⟩
 ·simp at z
 ·exact B0 y▸v
section
variable{cap:Nat}{c:Nat->Int}{V:List Int}
theorem Tq(U:Nat)(hV:V.length=gw*gh)(y:∀v∈V,iL v=true)(hG:eJ W p gw gh c A cap bs Rs)(hB:Rd W B (cY V))(L:∀g,jv B g->¬lH (cU gw*cU gh) p A bs Rs g)(ae:∀g,jv B g->g<W.heap.size) :
  Fn prog 142 [pt p,.agg #[ii 0,ii 0,ii (gw-1),ii (gh-1)],.slice B V.length U] W
   (λr w'=>r=ii 0/\yc W p gw gh A cap bs Rs (λi=>V.getD i 0) w'):=by
 have hw:=hG.sw;have hh:=hG.sh;have hm:1<=gw*gh/\gw*gh<=1024*1024:=⟨fy hw.1 hh.1,fy hw.2 hh.2⟩
 have ag:((gw:Int)-1-0+1)*((gh:Int)-1-0+1)=((gw*gh:Nat):Int):=by
  rw[(om:(gw:Int)-1-0+1=gw),(om:(gh:Int)-1-0+1=gh)];push_cast;rfl
 have J:∀{w:World},Fr (lH (cU gw*cU gh) p A bs Rs) W w->Rd w B (cY V):=λ{w}hF=>hB.fr hF (λa ha=>L _ (by rw[ha];rfl));have O:V.any (λv=>!iL v)=false:=nU.2 λv hv=>by rw[y v hv];decide
 have e1:((gw:Int)-1)=((gw-1:Nat):Int):=om;have e2:((gh:Int)-1)=((gh-1:Nat):Int):=om;have S:=St.start1 W (.grid p gw gh c A cap bs Rs) hG;refine zI func142 ?_;refine zN ?_;intro aj an al S;refine zK ((by have:=iz (W:=_) (p:=p) (gw:=gw) (gh:=gh) (c:=c) (A:=A) (cap:=cap) (bs:=bs) (Rs:=Rs) 0 0 (gw-1) (gh-1) om om (S.grid (i:=1) rfl);rw[<-e1,<-e2]at this;exact this)) ?_;rintro _ ah ⟨ai,ak,rfl,D,I,Z⟩;have S:=S.pushRow D I Z;(iterate 6 refine z ?_);refine zf ?_;iterate 3 refine z ?_
 refine eY rfl (qc _ _ _ _ om ah) ?_;rintro _ ao ⟨rfl,aa⟩;have S:=S.gr aa;rw[ag];refine zC (rf B V.length U _ [] V rfl om (λv=>!iL v) _ (J S.fr) (λx hx w' g=>Dn x w')) ?_;intro ap am S;rw[O];refine zK (Xc U hV y (S.grid (i:=2) rfl) (J S.fr) L (λg hg=>fg (ae g hg) S.le)) ?_;rintro _ aq ⟨rfl,Rs2,ac,ab,ad⟩;have S:=S.set (i:=2) (h':=.grid p gw gh _ A cap bs Rs2) rfl rfl ab (λg h=>.inl h) ac ad;refine zX ?_;exact⟨rfl,Rs2,S.grid (i:=2) rfl,S.fr,λg hg=>(S.sep.get (i:=2) rfl).2 g hg⟩
theorem VL(cp:Nat)(J:1<=gw/\gw<=1024)(I:1<=gh/\gh<=1024)(hV:V.length=gw*gh)(D:∀v∈V,iL v=true)(hB:Rd W B (cY V)) :
  Fn prog 133 [ii gw,ii gh,.slice B V.length cp] W (qw (λp=>.tuple #[p,ii 0]) gw gh (λi=>V.getD i 0) W):=by
 have hm:1<=gw*gh/\gw*gh<=1024*1024:=⟨fy J.1 I.1,fy J.2 I.2⟩;have z:∀g,jv B g->g<W.heap.size:=λg y=>hB.lt (by rw[gn];omega) y;have S:=St.start W;refine zI func133 ?_;refine zK (IZ gw gh 0 J I om W) ?_;rintro _ ad ⟨p,A,bc,bs,Rs,rfl,hG,hf,L⟩;have S:=S.pushGrid hG hf L;refine zC (uo p gw gh J.2 I.2 _ _ (S.grid (i:=0) rfl).top) ?_;intro ae ab S;refine zg ?_;have ac:=S.le;refine zK (Tq cp hV D (S.grid (i:=0) rfl) (hB.gr S.out) (λg y aa=>by have h1:=z g y;have h2:=((S.sep.get (i:=0) rfl).2 g aa).elim (λh=>h.elim) id;omega) (λg y=>fg (z g y) S.le)) ?_;rintro _ ag ⟨rfl,Rs2,U,O,Z⟩;have S:=S.set (i:=0) (h':=.grid p gw gh _ A bc bs Rs2) rfl rfl O (λg h=>.inl h) U Z;refine zX ?_;exact(S.retGrid (i:=0) rfl)
end
def eR(f:Nat->Nat)(i:Nat):Nat:=if h:f i<i then eR f (f i)else i
 termination_by i
def Dp(n:Nat)(f:Nat->Nat):Prop:=∀i,i<n->f i<=i
theorem sv{f:Nat->Nat}(h:f i<i):eR f i=eR f (f i):=by rw[eR,dif_pos h]
theorem mi{f:Nat->Nat}(h:¬f i<i):eR f i=i:=by rw[eR,dif_neg h]
theorem AB(f:Nat->Nat)(i:Nat):eR f i<=i:=by
 induction i using Nat.strongRecOn with
 |ind i ih =>
  by_cases h:f i<i
  ·rw[sv h];exact dE (ih _ h) (Nat.le_of_lt h)
  ·rw[mi h];exact fK _
theorem Eg(f:Nat->Nat)(i:Nat):¬f (eR f i)<eR f i:=by
 induction i using Nat.strongRecOn with
 |ind i ih =>
  by_cases h:f i<i
  ·rw[sv h];exact ih _ h
  ·rw[mi h];exact h
theorem Kk(f:Nat->Nat)(i:Nat):eR f (eR f i)=eR f i:=mi (Eg f i)
theorem xm{f:Nat->Nat}(v:Dp n f)(hi:i<n):eR f (f i)=eR f i:=by
 by_cases h:f i<i
 ·rw[sv h]
 ·have:f i=i:=by have:=v i hi;omega
  rw[this]
theorem MM{f:Nat->Nat}(v:Dp n f)(hi:i<n):f (eR f i)=eR f i:=by
 have:=Eg f i;have:=v (eR f i) (Nat.lt_of_le_of_lt (AB f i) hi);omega
def tc(f:Nat->Nat)(i v:Nat):Nat->Nat:=λj=>if j=i then v else f j
theorem pO(f:Nat->Nat)(i v:Nat):tc f i v i=v:=a7 rfl
theorem pP{f:Nat->Nat}{v:Nat}(h:j≠i):tc f i v j=f j:=a8 h
theorem Qx{f:Nat->Nat}(z:Dp n f)(hi:i<n):Dp n (tc f i (f (f i)))/\∀j,j<n->eR (tc f i (f (f i))) j=eR f j:=by
 have h1:=z i hi;have h2:=z (f i) om;constructor
 ·intro j D;by_cases e:j=i
  ·subst e;rw[pO];omega
  ·rw[pP e];exact z j D
 ·intro j;induction j using Nat.strongRecOn with
  |ind j ih =>
   intro D;by_cases e:j=i
   ·subst e;by_cases v:f (f j)<j
    ·have y:tc f j (f (f j)) j<j:=by rw[pO];exact v
     rw[sv y,pO,ih _ v om,xm z om,xm z D]
    ·have I:f j=j:=om;have y:¬tc f j (f (f j)) j<j:=by rw[pO];exact v
     rw[mi y,mi om]
   ·by_cases v:f j<j
    ·have y:tc f i (f (f i)) j<j:=by rw[pP e];exact v
     rw[sv y,pP e,ih _ v om,sv v]
    ·have y:¬tc f i (f (f i)) j<j:=by rw[pP e];exact v
     rw[mi y,mi v]
theorem Tr{a:Nat}{f:Nat->Nat}(J:Dp n f)(U:a<n)(L:f a=a)(O:f b=b)(z:b<=a):Dp n (tc f a b)/\∀j,j<n->eR (tc f a b) j=if eR f j=a then b else eR f j:=by
 have D:eR f a=a:=mi om;have S:eR f b=b:=mi om;constructor
 ·intro j I;by_cases e:j=a
  ·subst e;rw[pO];exact z
  ·rw[pP e];exact J j I
 ·intro j;induction j using Nat.strongRecOn with
  |ind j ih =>
   intro I;by_cases e:j=a
   ·subst e;rw[D,a7 rfl];by_cases v:b<j
    ·have y:tc f j b j<j:=by rw[pO];exact v
     rw[sv y,pO];rw[mi];rw[pP om];omega
    ·have y:¬tc f j b j<j:=by rw[pO];exact v
     rw[mi y];omega
   ·by_cases v:f j<j
    ·have y:tc f a b j<j:=by rw[pP e];exact v
     rw[sv y,pP e,ih _ v om,sv v]
    ·have y:¬tc f a b j<j:=by rw[pP e];exact v
     rw[mi y,mi v,a8 e]
def fB(n:Nat)(f:Nat->Nat):List Value:=(List.range n).map λi=>ii (f i:Nat)
theorem lP(n:Nat)(f:Nat->Nat):(fB n f).length=n:=by simp[fB]
theorem pT{f:Nat->Nat}(h:i<n):(fB n f)[i]?=some (ii (f i:Nat)):=by simp[fB,h]
theorem tH{v:Nat}{f:Nat->Nat}:(fB n f).set j (ii (v:Nat))=fB n (tc f j v):=by
 apply gG;intro i;rw[gl];by_cases hi:i<n
 ·rw[pT (f:=tc f j v) hi];by_cases y:j=i
  ·subst y;rw[pO];simp[lP,hi]
  ·rw[a8 y,pT hi,pP (λe=>y e.symm)]
 ·rw[dZ (l:=fB n (tc f j v)) (by rw[lP];omega),dZ (l:=fB n f) (by rw[lP];omega)];split
  ·split
   ·rename_i h1 h2;rw[lP]at h2;omega
   ·rfl
  ·rfl
theorem lq{f f':Nat->Nat}(h:∀i,i<n->f i=f' i):fB n f=fB n f':=by
 unfold fB;exact eQ λi hi=>by rw[h i (dJ.1 hi)]
section
variable{f:Nat->Nat}
def Kl(W:World)(A:Option Addr)(n c:Nat)(R:(Nat->Nat)->Prop)(w':World):Prop:=∃f',Dp n f'/\R (eR f')/\gH w' 3 1 A n c (fB n f')/\Fr (jv A) W w'
theorem I0(i:Nat)(hn:n<=1048576)(hi:i<n)(hf:Dp n f)(O:gH W 3 1 A n c (fB n f)) :
  Fn prog 121 [.slice A n c,ii i] W (λv w'=>v=ii (eR f i:Nat)/\Kl W A n c (λr=>∀j,j<n->r j=eR f j) w'):=by
 have S:=St.start1 W (.row 3 1 A n c (fB n f)) O;have aa:dO A:=O.someA om;refine zI func121 ?_;refine zg ?_
 refine dl (λm e w=>∃(i':Nat)(f':Nat->Nat),i'=m/\i'<n/\SL e [(0,.slice A n c),(1,ii i')]/\Dp n f'/\(∀j,j<n->eR f' j=eR f j)/\eR f i'=eR f i/\St (jv A) W w [.row 3 1 A n c (fB n f')]) i
  ⟨i,f,rfl,hi,sl,hf,λ_ _=>rfl,rfl,S⟩ ?_
 rintro m e w ⟨k,f',rfl,D,L,y,I,J,S⟩;rw[L.fold];have ab:=y k D;have U:=y (f' k) om;have h1:(fB n f')[(k:Int).toNat * 1]?=some (ii (f' k:Nat)):=by rw[cG,b7];exact pT D
 have h2:(fB n f')[((f' k:Nat):Int).toNat * 1]?=some (ii (f' (f' k):Nat)):=by rw[cG,b7];exact pT om
 by_cases ac:f' k=k
 ·skip;refine z ?_;refine z ?_;refine zx ?_;refine dH (eI dB rfl rfl (S.rd (i:=0) rfl) h1) ?_;refine zg ?_;refine ir rfl ⟨?_,f',y,I,S.row (i:=0) rfl,S.fr⟩;rw[<-J,<-I k D,mi om]
 ·have V:=Qx y D;have h3:(fB n (tc f' k (f' (f' k))))[(k:Int).toNat * 1]?=some (ii (f' (f' k):Nat)):=by rw[cG,b7,pT D,pO]
  refine z ?_;refine z ?_;refine zx ?_;refine dH (eI dB rfl rfl (S.rd (i:=0) rfl) h1) ?_;refine z ?_;refine zt ?_;(iterate 5 refine z ?_);refine zx ?_;refine dH (eI dB rfl rfl (S.rd (i:=0) rfl) h1) ?_;refine zx ?_;refine dH (eI dB rfl rfl (S.rd (i:=0) rfl) h2) ?_;refine zg ?_;refine jk (i:=0) S rfl (fa _) rfl rfl rfl rfl (by rw[lP];omega) rfl ?_;intro ad S;rw[cG,b7,tH]at S;refine z ?_;refine z ?_;refine zx ?_;refine dH (eI dB rfl rfl (S.rd (i:=0) rfl) h3) ?_;refine zg ?_;refine⟨f' (f' k),om,f' (f' k),_,rfl,om,sl,V.1,λj Z=>(V.2 j Z).trans (I j Z),?_,S⟩;rw[<-J,<-I _ om,<-I k D,xm y om,xm y D]
theorem Pg(a b:Nat)(hn:n≤1048576)(ha:a<n)(L:b<n)(hf:Dp n f)(hA:gH W 3 1 A n c (fB n f)) :
    Fn prog 191 [.slice A n c,.int .i64 a,.int .i64 b] W (λv w'=>v=.tuple #[]∧Kl W A n c (λr=>∀j,j<n→r j=if eR f j=max (eR f a) (eR f b)then min (eR f a) (eR f b)else eR f j) w'):=by
  have S:=St.start1 W (.row 3 1 A n c (fB n f)) hA;have ab:dO A:=hA.someA om;have ac:=AB f a;have ad:=AB f b;refine zI func191 ?_;refine zK (I0 a hn ha hf (S.row (i:=0) rfl)) ?_;rintro _ ae ⟨rfl,f1,aa,D,V,O⟩;have S:=S.set (i:=0) (h':=.row 3 1 A n c (fB n f1)) rfl rfl O (λg h=>.inl h) V (λg h=>.inl h);refine zK (I0 b hn L aa (S.row (i:=0) rfl)) ?_;rintro _ ag ⟨rfl,f2,I,J,Z,U⟩;have S:=S.set (i:=0) (h':=.row 3 1 A n c (fB n f2)) rfl rfl U (λg h=>.inl h) Z (λg h=>.inl h);rw[D b L];refine zg ?_;rw[(om:max ((eR f a:Nat):Int) ((eR f b:Nat):Int)=((max (eR f a) (eR f b):Nat):Int))];refine zg ?_;rw[(om:min ((eR f a:Nat):Int) ((eR f b:Nat):Int)=((min (eR f a) (eR f b):Nat):Int))];refine zg ?_;refine jk (i:=0) S rfl (fa _) rfl rfl rfl rfl (by rw[lP];omega) rfl ?_;intro ah S;rw[cG,b7,tH]at S;refine ze ?_
  have y:∀x,x<n→f2 (eR f x)=eR f x:=λx hx=>by
    have:=MM I (i:=x) hx;rwa[J x hx,D x hx]at this
  have hj:=Tr (a:=max (eR f a) (eR f b)) (b:=min (eR f a) (eR f b)) I om
    (by
      rcases rY (eR f a) (eR f b)with h|h
      · rw[ru h];exact y b L
      · rw[sQ h];exact y a ha)
    (by
      rcases rY (eR f a) (eR f b)with h|h
      · rw[io h];exact y a ha
      · rw[ms h];exact y b L) om
  exact na ⟨rfl,_,hj.1,λj z=>by rw[hj.2 j z,J j z,D j z],S.row (i:=0) rfl,S.fr⟩
theorem Ts(n:Nat)(Z:n<=1048576)(W:World):Fn prog 190 [ii n] W (jc id 3 1 n (fB n λi=>i) W):=by
 have S:=St.start W;refine zI func190 ?_;refine zg ?_;refine nD underlying223 rN rfl rfl rfl (n:=n) (c:=n) om om om om S ?_;intro y O I S D;refine zg ?_
 refine dl (λm e w=>∃k:Nat,k+m=n/\SL e [(3,.slice y n n),(8,ii n),(9,ii k)]/\St No W w [.row 3 1 y n n (fB n λi=>if i<k then i else 0)]) n
  ⟨0,om,sl,by
   have e:List.replicate n (ii 0)=fB n (λi=>if i<0 then i else 0):=by
    symm;rw[n3];refine⟨lP _ _,λv L=>?_⟩;obtain⟨i,_,rfl⟩:=fC.1 L;rfl
   rw[<-e];exact S⟩ ?_
 rintro m e w ⟨k,V,z,S⟩;rw[z.fold];refine zB ?_ ?_
 ·intro J;refine zg ?_;refine jk (i:=0) S rfl (fa _) rfl rfl rfl rfl (by rw[lP];omega) rfl ?_;intro U S;rw[cG,b7,tH]at S;refine zg ?_;refine⟨m-1,om,k+1,om,sl,S.as_ (i:=0) rfl rfl (λh=>h.congr (lq λi hi=>?_)) (λg h=>h)⟩;by_cases e:i=k
  ·subst e;rw[pO,a7 om]
  ·rw[pP e];by_cases h:i<k
   ·rw[a7 h,a7 om]
   ·rw[a8 h,a8 om]
 ·intro J;refine zg ?_;obtain rfl:k=n:=om;exact ir rfl ((S.as_ (i:=0) (h':=.row 3 1 y k k (fB k λi=>i)) rfl rfl (λh=>h.congr (lq λi hi=>a7 hi)) (λg h=>h)).retNew (i:=0) (mk:=id) rfl)
end
def dw(gw gh:Nat)(c:Nat->Int):List Int:=(List.range (gw*gh)).map c
theorem qf(gw gh:Nat)(c:Nat->Int):(dw gw gh c).length=gw*gh:=by simp[dw]
theorem kr{V:List Int}(h:i<V.length):V[i]?=some (V.getD i 0):=by
 rw[cO,fw h];rfl
def qx(gw i j:Nat):Prop:=(j+1=i/\0<i%gw)\/(i+1=j/\0<j%gw)\/j+gw=i\/i+gw=j
theorem qx.symm(h:qx gw i j):qx gw j i:=by unfold qx at*;omega
def Km(gw:Nat)(V:List Int)(t:Int)(i j:Nat):Prop:=i<V.length/\j<V.length/\t<=V.getD i 0/\t<=V.getD j 0/\qx gw i j
theorem Km.symm{V:List Int}{t:Int}(h:Km gw V t i j):Km gw V t j i:=⟨h.2.1,h.1,h.2.2.2.1,h.2.2.1,h.2.2.2.2.symm⟩
inductive uL(gw:Nat)(V:List Int)(t:Int):Nat->Nat->Prop
 |refl (i:Nat):uL gw V t i i
 |step {i j k:Nat}:Km gw V t i j->uL gw V t j k->uL gw V t i k
theorem uL.trans{V:List Int}{t:Int}(h:uL gw V t i j)(h':uL gw V t j k):uL gw V t i k:=by
 induction h with
 |refl=>exact h'
 |step a _ ih=>exact .step a (ih h')
theorem uL.symm{V:List Int}{t:Int}(h:uL gw V t i j):uL gw V t j i:=by
 induction h with
 |refl=>exact .refl _
 |step a _ ih=>exact ih.trans (.step a.symm (.refl _))
theorem uL.of_adj{V:List Int}{t:Int}(h:Km gw V t i j):uL gw V t i j:=.step h (.refl _)
structure xn(gw:Nat)(V:List Int)(t:Int)(k:Nat)(f:Nat->Nat):Prop where
 ok:Dp V.length f
 le:k<=V.length
 conn:∀i,i<V.length->uL gw V t i (eR f i)
 left:∀i,i<k->t<=V.getD i 0->0<i%gw->t<=V.getD (i-1) 0->eR f i=eR f (i-1)
 up:∀i,i<k->t<=V.getD i 0->gw<=i->t<=V.getD (i-gw) 0->eR f i=eR f (i-gw)
theorem xn.join{V:List Int}{t:Int}{f f':Nat->Nat}(h:xn gw V t k f){a:Nat}(S:a<V.length)(U:b<V.length)(I:Km gw V t a b)(L:Dp V.length f')(z:∀j,j<V.length->eR f' j=if eR f j=max (eR f a) (eR f b)then min (eR f a) (eR f b)else eR f j):xn gw V t k f'/\eR f' a=eR f' b:=by
 have v:uL gw V t (eR f a) (eR f b):=((h.conn a S).symm.trans (.of_adj I)).trans (h.conn b U)
 have O:uL gw V t (max (eR f a) (eR f b)) (min (eR f a) (eR f b)):=by
  rcases rY (eR f a) (eR f b)with e|e
  ·rw[ru e,io e];exact v.symm
  ·rw[sQ e,ms e];exact v
 have y:∀i j,i<V.length->j<V.length->eR f i=eR f j->eR f' i=eR f' j:=λi j hi Z e=>by rw[z i hi,z j Z,e]
 have J:=h.le;refine⟨⟨L,J,λi hi=>?_,λi hi h1 h2 D=>y _ _ om om (h.left i hi h1 h2 D),λi hi h1 h2 D=>y _ _ om om (h.up i hi h1 h2 D)⟩,?_⟩
 ·rw[z i hi];split
  ·rename_i e;have:=h.conn i hi;rw[e]at this;exact this.trans O
  ·exact h.conn i hi
 ·rw[z a S,z b U];rcases rY (eR f a) (eR f b)with e|e
  ·rw[ru e,io e,a7 rfl];split<;>omega
  ·rw[sQ e,ms e,a7 rfl];split<;>omega
section
variable{cap:Nat}{V:List Int}
theorem Tt(J:eJ W p gw gh cc A cap bs Rs) :
  Fn prog 118 [pt p] W (jc (λv=>.tuple #[.agg #[ii gw,ii gh,v],ii 0]) 2 1 (gw*gh) (cY (dw gw gh cc)) W):=by
 have hw:=J.sw;have hh:=J.sh;have V:((gw:Int)-1)=((gw-1:Nat):Int):=om;have Z:((gh:Int)-1)=((gh-1:Nat):Int):=om
 have L:∀w,Gr W w->Fn prog 47 [pt p,.agg #[ii 0,ii 0,ii (gw-1),ii (gh-1)]] w (jc (λv=>.tuple #[v,ii 0]) 2 1 (gw*gh) (cY (dw gw gh cc)) w):=λw g=>by
  have:=iz (W:=w) 0 0 (gw-1) (gh-1) om om (J.gr g);rw[<-V,<-Z,(om:gw-1+1-0=gw),(om:gh-1+1-0=gh),wJ,cD gh gw]at this;exact this
 have S:=St.start W;refine zI func118 ?_;refine zN ?_;intro U ad aa S;refine zC (mC p gw gh _ _ (J.top.gr S.out)) ?_;intro ae ab S;refine zC (uo p gw gh hw.2 hh.2 _ _ (J.top.gr S.out)) ?_;intro ag ac S;refine zK (L _ S.out) ?_;rintro _ ah ⟨D,I,rfl,y,z,O⟩;have S:=S.pushRow y z O;refine zS ?_;intro ai S;exact pG S ⟨D,I,rfl,S.row (i:=0) rfl,iC.fresh S (i:=0) rfl,S.out⟩
theorem Tu(i:Nat)(gh:Int)(n:Nat)(L:1<=gw)(hi:i<=1048576):Fn prog 120 [.agg #[ii gw,ii gh,.slice A n c],ii i] W (dp (.agg #[ii (i%gw:Nat),ii (i/gw:Nat)]) W):=by
 have z:(i:Int)%gw=((i%gw:Nat):Int):=by push_cast;rfl
 have D:(i:Int)/gw=((i/gw:Nat):Int):=by push_cast;rfl
 have S:=St.start W;refine zI func120 ?_;refine zN ?_;intro v O I S;refine zN ?_;intro y U J S;refine zD [0,1,2,3,4,5,6,7] [8,9] ?_;rw[z];refine zQ ?_;rw[D];refine zE ?_;refine zS ?_;intro V S;exact rA S ⟨rfl,S.out⟩
theorem VM(t:Int)(gh:Int)(au:1<=gw)(hV:V.length<=1048576)(ar:1<=V.length)(ao:gw<=V.length)(hA:Rd W A (cY V)) :
  Fn prog 119 [.agg #[ii gw,ii gh,.slice A V.length c],ii t] W (λv w'=>∃f,xn gw V t V.length f/\jc id 3 1 V.length (fB V.length f) W v w'):=by
 have ap:dO A:=hA.someA (by rw[gn];omega);have Z:∀i,i<V.length->(cY V)[(i:Int).toNat * 1]?=some (ii (V.getD i 0)):=λi hi=>by rw[cG,b7];exact gc (kr hi)
 have S:=St.start W;refine zI func119 ?_;refine zN ?_;intro I av aq S;refine zK (Ts V.length hV _) ?_;rintro _ aw ⟨z,D,rfl,ai,aj,al⟩;have S:=S.pushRow ai aj al;refine zg ?_
 refine dl (λm e w=>∃(k:Nat)(f:Nat->Nat),k+m=V.length/\SL e [(1,ii t),(2,pt I),(5,.slice z V.length D),(13,.slice A V.length c),(14,ii V.length),(15,ii k)]/\xn gw V t k f /\
  St No W w [.row 3 1 z V.length D (fB V.length f),.blk I 220 [ii gw,ii gh,.slice A V.length c]]) V.length
  ⟨0,λi=>i,om,sl,⟨λi _=>fK i,ib _,λi _=>by rw[mi om];exact .refl _,λi hi=>by omega,λi hi=>by omega⟩,S⟩ ?_
 rintro m e w ⟨k,f,hk,J,hf,S⟩;rw[J.fold];refine zB ?_ ?_
 ·intro hc;have y:k<V.length:=om;have am:=Z k y;refine zT (hA.gr S.out) am ?_;refine zB ?_ ?_
  ·intro ac;refine zg ?_;refine⟨m-1,om,k+1,f,om,sl,⟨hf.ok,y,hf.conn,λi hi h1 h2 L=>?_,λi hi h1 h2 L=>?_⟩,S⟩
   ·by_cases e:i=k
    ·subst e;omega
    ·exact hf.left i om h1 h2 L
   ·by_cases e:i=k
    ·subst e;omega
    ·exact hf.up i om h1 h2 L
  ·intro ac;refine zc ?_;refine gO ?_;try show CW _ _ _ _ _ _
   have em:(k:Int)%gw=((k%gw:Nat):Int):=by push_cast;rfl
   repeat refine dm ?_
   refine gP (M:=λe w=>SL e [(1,ii t),(2,pt I),(5,.slice z V.length D),(6,ii k),(13,.slice A V.length c),(14,ii V.length),(15,ii k),(37,.bool (decide (0<k%gw/\t<=V.getD (k-1) 0)))]/\St No W w [.row 3 1 z V.length D (fB V.length f),.blk I 220 [ii gw,ii gh,.slice A V.length c]]) ?_ ?_
   ·by_cases h1:0<k%gw
    ·have an:1<=k:=fT λh=>by subst h;simp at h1
     have aa:=Z (k-1) om;rw[(om:((k-1:Nat):Int)=(k:Int)-1)]at aa;by_cases h2:t<=V.getD (k-1) 0
     ·skip;refine zg ?_;rw[em];refine zg ?_;exact⟨⟨rfl,rfl,rfl,rfl,rfl,rfl,rfl,be (fD ⟨h1,h2⟩).symm,trivial⟩,S⟩
     ·skip;refine zg ?_;rw[em];refine zg ?_;exact⟨⟨rfl,rfl,rfl,rfl,rfl,rfl,rfl,be (iO λh=>h2 h.2).symm,trivial⟩,S⟩
    ·skip;refine zg ?_;rw[em];refine zg ?_;exact⟨⟨rfl,rfl,rfl,rfl,rfl,rfl,rfl,be (iO λh=>h1 h.1).symm,trivial⟩,S⟩
   ·rintro e1 w1 ⟨J,S⟩;rw[J.fold];refine zc ?_;refine gP (M:=λe w=>∃f,xn gw V t k f/\(0<k%gw->t<=V.getD (k-1) 0->eR f k=eR f (k-1))/\SL e [(1,ii t),(2,pt I),(5,.slice z V.length D),(6,ii k),(13,.slice A V.length c),(14,ii V.length),(15,ii k)]/\St No W w [.row 3 1 z V.length D (fB V.length f),.blk I 220 [ii gw,ii gh,.slice A V.length c]]) ?_ ?_
    ·skip;refine zB ?_ ?_
     ·intro hl;have an:1<=k:=fT λh=>by subst h;simp at hl
      have U:Km gw V t k (k-1):=⟨y,om,ac,hl.2,.inl ⟨om,hl.1⟩⟩;refine zg ?_;rw[(om:(k:Int)-1=((k-1:Nat):Int))];refine zK (Pg k (k-1) hV y om hf.ok (S.row (i:=0) rfl)) ?_;rintro _ az ⟨rfl,f1,ae,ad,ah,ag⟩;have S:=S.set (i:=0) (h':=.row 3 1 z V.length D (fB V.length f1)) rfl rfl ag (λg h=>.inl h) ah (λg h=>.inl h);refine ze ?_;have hj:=hf.join y om U ae ad;exact⟨f1,hj.1,λ_ _=>hj.2,sl,S⟩
     ·intro hl;refine zg ?_;exact⟨f,hf,λh1 h2=>absurd ⟨h1,h2⟩ hl,sl,S⟩
    ·rintro e2 w2 ⟨f2,O,ab,J,S⟩;rw[J.fold];refine zc ?_;refine gP (M:=λe w=>SL e [(1,ii t),(2,pt I),(5,.slice z V.length D),(6,ii k),(13,.slice A V.length c),(14,ii V.length),(15,ii k),(58,.bool (decide (gw<=k/\t<=V.getD (k-gw) 0)))]/\St No W w [.row 3 1 z V.length D (fB V.length f2),.blk I 220 [ii gw,ii gh,.slice A V.length c]]) ?_ ?_
     ·by_cases h1:gw<=k
      ·have aa:=Z (k-gw) om;rw[(om:((k-gw:Nat):Int)=(k:Int)-gw)]at aa;by_cases h2:t<=V.getD (k-gw) 0
       ·skip;refine zg ?_;exact⟨⟨rfl,rfl,rfl,rfl,rfl,rfl,rfl,be (fD ⟨h1,h2⟩).symm,trivial⟩,S⟩
       ·skip;refine zg ?_;exact⟨⟨rfl,rfl,rfl,rfl,rfl,rfl,rfl,be (iO λh=>h2 h.2).symm,trivial⟩,S⟩
      ·skip;refine zg ?_;exact⟨⟨rfl,rfl,rfl,rfl,rfl,rfl,rfl,be (iO λh=>h1 h.1).symm,trivial⟩,S⟩
     ·rintro e3 w3 ⟨J,S⟩;rw[J.fold];refine zB ?_ ?_
      ·intro hu;have U:Km gw V t k (k-gw):=⟨y,om,ac,hu.2,.inr (.inr (.inl om))⟩;refine zg ?_;rw[(om:(k:Int)-gw=((k-gw:Nat):Int))];refine zK (Pg k (k-gw) hV y om O.ok (S.row (i:=0) rfl)) ?_;rintro _ aA ⟨rfl,f1,ae,ad,ah,ag⟩;have S:=S.set (i:=0) (h':=.row 3 1 z V.length D (fB V.length f1)) rfl rfl ag (λg h=>.inl h) ah (λg h=>.inl h);refine zg ?_;have hj:=O.join y om U ae ad;have ak:∀i j,i<V.length->j<V.length->eR f2 i=eR f2 j->eR f1 i=eR f1 j:=λi j hi hj e=>by rw[ad i hi,ad j hj,e]
       refine⟨m-1,om,k+1,f1,om,sl,⟨ae,y,hj.1.conn,λi hi h1 h2 L=>?_,λi hi h1 h2 L=>?_⟩,S⟩
       ·by_cases e:i=k
        ·subst e;exact ak _ _ y om (ab h2 L)
        ·exact hj.1.left i om h1 h2 L
       ·by_cases e:i=k
        ·subst e;exact hj.2
        ·exact hj.1.up i om h1 h2 L
      ·intro hu;refine zg ?_;refine⟨m-1,om,k+1,f2,om,sl,⟨O.ok,y,O.conn,λi hi h1 h2 L=>?_,λi hi h1 h2 L=>?_⟩,S⟩
       ·by_cases e:i=k
        ·subst e;exact ab h2 L
        ·exact O.left i om h1 h2 L
       ·by_cases e:i=k
        ·subst e;exact absurd ⟨h2,L⟩ hu
        ·exact O.up i om h1 h2 L
 ·intro hc;refine zg ?_;obtain rfl:k=V.length:=om;exact ir rfl ⟨f,hf,S.retNew (i:=0) (mk:=id) rfl⟩
end
end Go.Proofs.YtcalhocphkbbgaaGreatDoor
