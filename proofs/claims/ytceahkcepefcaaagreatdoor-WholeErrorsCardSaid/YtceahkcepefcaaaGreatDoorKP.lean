/- A part of the proof that hachuretop.WholeErrors returns true at every input; no condition. -/
import Derived.RangeFuncRecord
import Derived.Test.YtceahkcepefcaaaGreatDoorKM
import Derived.Test.YtceahkcepefcaaaGreatDoorKO
set_option maxRecDepth 100000
set_option maxHeartbeats 16000000
set_option linter.unusedVariables false
set_option linter.unusedSimpArgs false
namespace Go.Proofs.YtceahkcepefcaaaGreatDoor
open Go.Proofs.Tryz Go.RowKit
variable{Q:(Nat->Value)->World->Prop}{af:Array Edge}{ops:Array Oper}{rs:Array ResultVar}{tys:Array TypeId}{bd sg:Code}{Qn:Exit->(Nat->Value)->World->Prop}{fn:Func}{f:FuncId}{h:HA}{X0 X1 Y0 Y1 a a' e0:Int}{es:List (Int × Int)}{σ:List (Nat × Value)}{K:List (Nat × Value)->Act->Prop}{df:List Deferred}{L' L0 L1 M T:List HA}{hd ks:List Nat}{args:List Operand}{l l2 vs:List Value}{N b c c2 cB g gh gw i j k k' kind lc m n ob p q x0 x1 y0 y1:Nat}{Qm:Nat->Exit->(Nat->Value)->World->Prop}{cc:Nat->Int}{bs o':Nat->Nat}{R':Nat->Nat->Bool}{Rs:Nat->Option Nat}{F:Nat->Prop}{e:Nat->Value}{o:m5}{o1:Oper}{hi x:Operand}{A A2 B B2 lp:Option Addr}{d:Option Tmp}{P:Program}{G:Prop}{s s':lT}{t ty:TypeId}{u v1 v2 v3:Value}{R:Value->World->Prop}{W w w' wq:World}{C:World->Prop}
def HA.obj(b:Nat)(o:Obj):HA:=⟨λg=>g=b,λw=>w.heap[b]?=some o,λ_ _ h _ ho=>(h b rfl).trans ho,λw ho g hg=>by subst hg;exact(jq.1 ho).1⟩
section
variable{L:List HA}{o o':Obj}
theorem Fr.putObj(w:World)(b:Nat)(o:Obj):Fr (λg=>g=b) w (w.putObj b o):=⟨rfl,rfl,rfl,by simp,λg _ v=>World.putObj_heap_other v⟩
theorem St.putObj(S:St F W w L)(hi:gi L i=some (.obj b o))(y:j7 L i (.obj b o')=some L'):St F W (w.putObj b o') L' :=
 S.set hi y (Fr.putObj w b o') (λg v=>.inl v) (World.putObj_heap_same (jq.1 (S.ok hi)).1) (λg v=>.inl v)
theorem St.pushObj(S:St F W w L)(o:Obj):St F W (w.alloc o) (.obj w.heap.size o::L) :=
 S.push (Gr.alloc w o) (h:=.obj w.heap.size o) (World.alloc_heap_new w o) (λg v=>by have:g=w.heap.size:=v;omega)
end
def NO(P:Program)(l:Nat)(vs:List Value)(w:World)(R:Value->World->Prop):Prop :=
 ∃fn tmps sg bd,(Instr.yield l vs.toArray).run P w=.ok (.round l fn tmps sg bd) w/\RoundIn Fence.wide 0 P l fn tmps sg bd w λen w'=>∃v,en=.returned v/\R v w'
theorem NO.mono{l:Nat}{R':Value->World->Prop}(h:NO P l vs w R)(D:∀v w',R v w'->R' v w'):NO P l vs w R':=by
 obtain⟨fn,y,sg,bd,I,z⟩:=h;exact⟨fn,y,sg,bd,I,z.mono λJ w'⟨v,e,h⟩=>⟨v,e,D v w' h⟩⟩
section
variable{rest:List Oper}{ps:String}
theorem Ig{l:Nat}{f:Operand}(L:ev e f=.func (.yield l) #[] #[])(D:lj (args.map (ev e))=some vs)(S:NO P l vs w R)(h:∀v w',R v w'->RW P ops Q rest (fI e d v) w'):RW P ops Q (⟨d,.call ⟨.value f,args.toArray,tys⟩,ty,ps,af,none⟩::rest) e w:=by
 have I:=mK D;obtain⟨fn,z,sg,bd,y,J⟩:=S
 have O:(execOp (ev e) ⟨d,.call ⟨.value f,args.toArray,tys⟩,ty,ps,af,none⟩).run P w=.ok (.round l fn z sg bd) w:=by
  simp[execOp,resolve,L,Deferred.ofValue,invoke,I,y]
 rw[BW rfl];unfold tq;rw[O];exact⟨rfl,J.mono λU w'⟨v,he,D⟩=>⟨v,he,h v w' D⟩⟩
end
def Ih(D:Nat):Deferred:={ target:=.collected D,args:=#[] }
def AU(P:Program)(N:Nat)(c:Code)(Qn:Exit->(Nat->Value)->World->Prop)(Qm:Nat->Exit->(Nat->Value)->World->Prop)(e:Nat->Value)(w:World):Prop :=
 kS N c=true->∀a,oo N [] e a->c.wpIn (wF none) 0 P (λx a' w'=>(∃e',oo N [] e' a'/\Qn x e' w')\/∃e' D,oo N [Ih D] e' a'/\Qm D x e' w') a w
def YK(Q:Exit->(Nat->Value)->World->Prop):Exit->(Nat->Value)->World->Prop
 |.normal,_,_=>False
 |x,e,w=>Q x e w
def RF(P:Program)(N:Nat)(g:Operand)(ps:Array Tmp)(sg bd:Code)(K:Nat->(Nat->Value)->World->Prop)(e:Nat->Value)(w:World):Prop :=
 ∀a,oo N [] e a->(Code.rangeFunc g ps sg bd).wpIn (wF none) 0 P (λx a' w'=>x=.normal/\∃D,oo N [Ih D] e a'/\K D e w') a w
theorem vk{x y:Code}(h:CW P N x (wY (AU P N y Qn Qm) Qn) e w):AU P N (.seq x y) Qn Qm e w:=λz a J=>by
 simp only[kS,cM]at z;refine we (ll (h z.1 [] a J none) ?_);rintro L a' w' ⟨I,v,D⟩;cases L<;>first|exact D z.2 a' v|exact .inl ⟨I,v,D⟩
theorem Gm{x y:Code}(h:AU P N x (YK Qn) (λD=>wY (CW P N y (Qm D)) (Qm D)) e w):AU P N (.seq x y) Qn Qm e w:=λJ a V=>by
 simp only[kS,cM]at J;refine we (ll (h J.1 a V) ?_);rintro S a' w' (⟨I,v,z⟩|⟨I,D,v,z⟩)
 ·cases S<;>first|exact z.elim|exact .inl ⟨I,v,z⟩
 ·cases S<;>first|exact .inr ⟨I,D,v,z⟩|skip
  refine ll (z J.2 [Ih D] a' v none) ?_;rintro x2 a2 Z ⟨U,O,L⟩;exact .inr ⟨U,D,O,L⟩
theorem Gn{id:Nat}{g:Operand}{ps:Array Tmp}(h:RF P N g ps sg bd (λD e w=>Qm D .normal e w) e w):AU P N (.block id (.rangeFunc g ps sg bd)) Qn Qm e w:=λ_ a z=>by
 refine wpIn_block (ll (h a z) ?_);rintro x a' w' ⟨rfl,D,v,y⟩;exact .inr ⟨e,D,v,y⟩
def QM(P:Program)(rs:Array ResultVar)(R:Value->World->Prop)(D:Nat):Exit->(Nat->Value)->World->Prop
 |.normal,e,w|.ret,e,w=>w.heap[D]?=some (.deferred (some []))/\P4 P R rs e (w.putObj D (.deferred none))
 |_,_,_=>False
theorem PH(h:QF P rs R .ret e w):P4 P R rs e w:=h
theorem PI{D:Nat}{L:List HA}(S:St F W w L)(hi:gi L i=some (.obj D (.deferred (some []))))(v:j7 L i (.obj D (.deferred none))=some L')(h:∀w',St F W w' L'->P4 P R rs e w'):QM P rs R D .ret e w :=
 ⟨S.ok hi,h _ (S.putObj hi v)⟩
theorem CH{c:Code}{args:List Value}(hf:P.funcs[f]?=some fn)(hb:fn.body=some c)(U:fn.results=rs)(S:fn.ntmps=N)(J:o7 P f=true)(L:(kS N c&&Nat.ble args.length N)=true)(h:AU P N c (QF P rs R) (QM P rs R) (qJ args) w):Fn P f args w R:=by
 simp only[cM]at L;have ab:args.length<=N:=eC L.2;refine⟨J,xG.1 (callsIn_of_wp_marks (F:=Fence.wide) (n:=0) hf hb trivial ?_)⟩;refine ll (h L.1 _ ⟨rfl,by simp[S];omega,λk=>?_⟩) ?_
 ·simp only[qJ,cO,dN,n5,nS,nZ,S];split
  ·rfl
  ·rename_i aa;rw[dZ om];simp only[mR];split<;>rfl
 ·rintro x a' w' (⟨V,y,z⟩|⟨V,D,y,z⟩)
  ·cases x<;>first|exact z.elim|skip
   all_goals
    obtain⟨v,O,I⟩:=z;show LeavesInM _ _ _ _ _ _ _ _ _;rw[y.defers];exact⟨v,O fn _ U y.get,v,rfl,I⟩
  ·cases x<;>first|exact z.elim|skip
   all_goals
    obtain⟨Z,v,O,I⟩:=z;show LeavesInM _ _ _ _ _ _ _ _ _;rw[y.defers];exact⟨by simp,.inl ⟨D,_,rfl,run_takeDeferred Z,v,O fn _ U y.get,v,rfl,I⟩⟩
def PJ(e:Nat->Value):List (Nat×Value)->Nat->Value
 |[]=>e
 |(p,v)::r=>PJ (yP e p v) r
theorem oo.updL {N : Nat} {df : List Deferred} : ∀ (l : List (Nat × Value)) {e : Nat → Value} {a : Act}, oo N df e a → (l.all fun p => Nat.blt p.1 N) = true → oo N df (PJ e l) { a with tmps := l.foldl (fun t (p, v) => t.setIfInBounds p v) a.tmps }
  | [], _, _, h, _ => h
  | (p, v) :: r, e, a, h, hd => by
    simp only [kB, cM] at hd
    exact oo.updL r (h.put (d := some p) hd.1 v) hd.2
section
variable{g:Operand}{ps:Array Tmp}{K:Nat->(Nat->Value)->World->Prop}
theorem PK{σ:Type}{gf:FuncId}{lb:List Value}(z:σ->List HA->Prop)(y:σ->List Value->σ->Prop)(ab:σ->Prop)(s0:σ)(hg:ev e g=.func (.func gf) #[] lb.toArray)(ak:o7 P gf=true)(O:(kS N sg&&kS N bd&&ps.toList.all (λp=>Nat.blt p N))=true)(aa:σ->σ->(Nat->Value)->List HA->Prop)(h0:z s0 L0)(S:St F W w L0)(ac:∀s vs s',y s vs s'->vs.length=ps.size)(am:∀(l:Nat)(J:σ->World->Prop)(w1:World),(∀s w w',J s w->Gr w w'->J s w')->(∀s w,J s w->∃L,z s L/\∃o d:HA,St F W w (o::d::L))->J s0 w1->(∀s vs s' w,y s vs s'->J s w->NO P l vs w λv w'=>v=.bool true/\J s' w') ->
   Fn P gf (.func (.yield l) #[] #[]::lb) w1 λ_ w'=>∃s,ab s/\J s w')(aq:∀(o d:HA)(s:σ)(vs:List Value)(s':σ)(w:World)(L:List HA),y s vs s'->z s L->St F W w (o::d::L)->CW P N sg (wY (λe' w'=>∃L',aa s s' e' L'/\St F W w' (o::d::L')) λ_ _ _=>False) (PJ e (ps.toList.zip vs)) w)(aj:∀(o d:HA)(s s':σ)(e':Nat->Value)(w:World)(L:List HA),aa s s' e' L->St F W w (o::d::L)->CW P N bd (wY (λ_ w'=>∃L',z s' L'/\St F W w' (o::d::L')) λ_ _ _=>False) e' w)(hK:∀(l D:Nat)(o:Obj)(s:σ)(w':World)(L:List HA),ab s->z s L->St F W w' (.obj l o::.obj D (.deferred (some []))::L)->K D e w'):RF P N g ps sg bd K e w:=by
 intro a Z;simp only[cM]at O;refine wpIn_rangeFunc λfn _=>?_;have S1:=S.pushObj (.deferred (some []));have S2:=S1.pushObj (.loop { state:=.ready,pending:=none,fn,tmps:=a.tmps,params:=ps,assign:=sg,body:=bd,defers:=w.heap.size });rw[World.size_alloc]at S2;generalize ai:(w.alloc (.deferred (some []))).alloc (.loop { state:=.ready,pending:=none,fn,tmps:=a.tmps,params:=ps,assign:=sg,body:=bd,defers:=w.heap.size })=W1 at S2;have U:=run_enterLoop_outer (P:=P) (w:=w) fn a.tmps ps sg bd;rw[ai]at U;generalize w.heap.size+1=l at *;generalize w.heap.size=D at *;have eg:∀args w,(callFunc gf args).run P w=.ok (.enter gf args) w:=λargs w=>iX ak args w;let I:LoopState->Obj:=λst=>.loop { state:=st,pending:=none,fn,tmps:=a.tmps,params:=ps,assign:=sg,body:=bd,defers:=D };let J:σ->World->Prop:=λs w'=>∃L,z s L/\St F W w' (.obj l (I .ready)::.obj D (.deferred (some []))::L)
 have ah:∀s vs s' w,y s vs s'->J s w->NO P l vs w λv w'=>v=.bool true/\J s' w':=by
  rintro s vs s' w2 ae ⟨L,V,T⟩;have hl:=T.ok (i:=0) rfl;have hy:=run_yield (P:=P) (args:=vs.toArray) hl (by simpa using ac s vs s' ae);refine⟨fn,_,sg,bd,hy,roundIn_of_wpIn (F:=Fence.wide) trivial ?_⟩
  have ad:oo N [] (PJ e (ps.toList.zip vs)) { tmps:=(ps.zip vs.toArray).foldl (λt(p,v)=>t.setIfInBounds p v) a.tmps,defers:=[] }:=by
   have h1:=oo.updL (ps.toList.zip vs) (a:={ tmps:=a.tmps,defers:=[] }) ⟨rfl,Z.size,Z.get⟩ (dh.2 λp hp=>dh.1 O.2 p.1 (List.of_mem_zip hp).1)
   have h2:(ps.zip vs.toArray).foldl (λt(p,v)=>t.setIfInBounds p v) a.tmps=(ps.toList.zip vs).foldl (λt(p,v)=>t.setIfInBounds p v) a.tmps:=by
    rw[<-Array.foldl_toList];simp
   rw[h2];exact h1
  refine ll (aq _ _ s vs s' w2 L ae V T O.1.1 [] _ ad (some l)) ?_;rintro x a1 w3 ⟨e1,ap,hq⟩;cases x<;>first|exact hq.elim|skip
  obtain⟨L1,hM,T1⟩:=hq;have an:=T1.ok (i:=0) rfl;refine⟨_,run_beginRound an rfl,?_⟩;have T2:St F W (w3.putObj l (I .busy)) (.obj l (I .busy)::.obj D (.deferred (some []))::L1):=T1.putObj (i:=0) rfl rfl;refine ll (aj _ _ s s' e1 _ L1 hM T2 O.1.2 [] a1 ap (some l)) ?_;rintro x a2 w4 ⟨e2,ar,hq⟩;cases x<;>first|exact hq.elim|skip
  obtain⟨L2,ag,T3⟩:=hq;have ao:=T3.ok (i:=0) rfl;exact⟨_,_,run_endRound none ao,_,rfl,rfl,L2,ag,T3.putObj (i:=0) rfl rfl⟩
 have al:=am l J W1 (λs w w'⟨L,V,T⟩g=>⟨L,V,T.gr g⟩) (λs w⟨L,V,T⟩=>⟨L,V,_,_,T⟩) ⟨L0,h0,S2⟩ ah;refine⟨l,[Ih D],W1,{ target:=.fn (.func gf) lb.toArray,args:=#[.func (.yield l) #[] #[]] },W1,gf,#[.func (.yield l) #[] #[]]++lb.toArray,W1,U,?_,λ_ _=>trivial,?_,λh=>(by cases h),?_⟩
 ·have h1:ev e (.const (.func (.yield l) #[] #[]))=.func (.yield l) #[] #[]:=rfl;simp[resolve,Z.eval,hg,h1,Deferred.ofValue]
 ·simp[invoke,go_sem,eg]
 ·refine(xG (n:=0)).2 ?_;have h2:=al.2;rw[show(Value.func (.yield l) #[] #[]::lb).toArray=#[.func (.yield l) #[] #[]]++lb.toArray by simp]at h2;refine h2.mono ?_;rintro en w' ⟨v,rfl,s,hf,L,V,T⟩;have hl:=T.ok (i:=0) rfl;refine⟨none,_,run_endLoop hl (by simp),rfl,D,⟨?_,Z.size,Z.get⟩,hK l D _ s _ L hf V (T.putObj (i:=0) rfl rfl)⟩;show [Ih D]++a.defers=[Ih D];rw[Z.defers];rfl
end
theorem Ii{g:Operand}{ps:Array Tmp}{K:Nat->(Nat->Value)->World->Prop}(M:(Nat->Value)->Prop)(v:M e)(h:∀e,M e->RF P N g ps sg bd K e w):RF P N g ps sg bd K e w:=h e v
def rB(z:Nat)(x:Int):Nat:=if 0<z then 1+ur (z-1)else ur (sW x)
theorem wP{x:Int}(h:-4294967296<=x/\x<=4294967296):sW x<8589934593:=by
 unfold sW;split<;>omega
structure BK(V:List Int)(i z:Nat)(x:Int)(j:Nat):Prop where
 lt:i<j
 le:j<=V.length
 zl:z<=V.length
 xr:-4294967296<=x/\x<=4294967296
 eq:tN 0 (V.drop i)=rB z x+tN 0 (V.drop j)
def vR(V:List Int):Prop:=∀x∈V,-4294967296<=x/\x<=4294967296
theorem vR.at{V:List Int}(h:vR V)(i:Nat):-4294967296<=V.getD i 0/\V.getD i 0<=4294967296:=by
 rw[cO];rcases eV i V.length with hi|hi
 ·rw[ct hi];exact h _ (fY hi)
 ·rw[dZ hi];exact⟨by decide,by decide⟩
section
variable{V:List Int}
theorem Ij:Fn prog 294 [.slice A n c] W
  (λv w'=>∃b,v=.func (.func 306) (([]:List Value).toArray) [pt b].toArray/\eL w' b 27 [.slice A n c]/\W.heap.size<=b/\Gr W w'):=by
 have S:=St.start W;refine zI func294 ?_;refine zN ?_;intro y D z S;refine zX ?_;exact⟨y,rfl,S.blk (i:=0) rfl,(S.sep.1.2 _ rfl).resolve_left (λh=>h),S.out⟩
theorem Gp{l:Nat}(J:Nat->World->Prop)(hn:V.length<=16384)(hV:vR V)(O:∀k w w',J k w->Gr w w'->J k w')(hf:∀k w,J k w->eL w b 27 [.slice A V.length c]/\Rd w A (cY V))(hy:∀i z x j w,BK V i z x j->J i w->NO prog l [.agg #[ii (z:Nat),ii x]] w (λv w'=>v=.bool true/\J j w'))(h0:J 0 W) :
  Fn prog 306 ([.func (.yield l) #[] #[]]++[pt b]) W (λ_ w'=>J V.length w'):=by
 have U:∀j,j<V.length->(cY V)[(j:Int).toNat * 1]?=some (ii (V.getD j 0)):=λj hj=>by rw[cG,b7];exact gc (kr hj)
 have aj:=(hf 0 W h0).1;have S:=St.start W;refine zI func306 ?_;refine zg ?_;refine dl (λm e w=>∃i:Nat,i+m=V.length/\SL e [(0,.func (.yield l) #[] #[]),(1,pt b),(3,ii i)]/\J i w) V.length ⟨0,om,sl,O _ _ _ h0 S.out⟩ ?_;clear S aj;rintro m e w ⟨i,hi,am,hJ⟩;rw[am.fold];obtain⟨hB,hA⟩:=hf i w hJ;have G:=Gr.refl w;have S:=St.start w;by_cases ak:i<V.length
 ·have ap:dO A:=hA.someA (by rw[gn];omega);refine z ?_;refine dH (cV dk rfl rfl (hB.gr S.out) rfl) ?_;refine z ?_;refine zt ?_;refine zc ?_;refine jr rfl ?_;refine zc ?_;refine gO ?_;try show CW _ _ _ _ _ _
  refine zc ?_;refine k0 ?_;refine zc ?_;refine gP (M:=λe w'=>SL e [(0,.func (.yield l) #[] #[]),(1,pt b),(3,ii i),(4,ii i)]/\St No w w' []) ?_ ?_
  ·skip;refine zg ?_;exact⟨sl,S⟩
  ·rintro e1 w1 ⟨ah,S⟩;rw[ah.fold];show CW _ _ _ _ _ _;refine zc ?_;refine gP (M:=λe w'=>∃j:Nat,SL e [(0,.func (.yield l) #[] #[]),(1,pt b),(3,ii j),(4,ii i)]/\i<=j/\j<=V.length/\tN 0 (V.drop i)=tN (j-i) (V.drop j)/\(j<V.length->V.getD j 0≠0)/\St No w w' []) ?_ ?_
   ·skip;refine zg ?_
    refine dl (λm e w'=>∃j:Nat,j+m=V.length/\SL e [(0,.func (.yield l) #[] #[]),(1,pt b),(3,ii j),(4,ii i)]/\i<=j/\tN 0 (V.drop i)=tN (j-i) (V.drop j)/\St No w w' []) (V.length-i)
     ⟨i,om,sl,cN _,by rw[j8],S⟩ ?_
    clear S;rintro m2 e2 w2 ⟨j,hj,I,aa,L,S⟩;rw[I.fold];by_cases D:j<V.length
    ·have g1:=U j D;have hz:=λh0=>TB (l:=V) D h0 (j-i);by_cases ad:V.getD j 0=0
     ·rw[ad]at g1;refine zL (hB.gr S.out) ?_;refine zg ?_;exact⟨m2-1,om,j+1,om,sl,om,by rw[L,hz ad];congr 1;omega,S⟩
     ·have ao:=ad;generalize an:V.getD j 0=vj at *;refine zL (hB.gr S.out) ?_;refine zg ?_;exact⟨j,sl,aa,om,L,λ_=>by rw[an];exact ao,S⟩
    ·skip;refine zL (hB.gr S.out) ?_;refine zg ?_;exact⟨j,sl,aa,om,L,λh=>absurd h D,S⟩
   ·rintro e2 w2 ⟨j,I,aa,D,L,ae,S⟩;rw[I.fold];refine zg ?_
    have ag:tN (j-i) (V.drop j)=Du (j-i)+tN 0 (V.drop j):=VO λx r hx=>by
     have y:j<V.length:=by
      rcases eV j V.length with h|h
      ·exact h
      ·rw[nw h]at hx;cases hx
     rw[dX y]at hx;injection hx with h1 h2;have:=ae y;rw[cO,ct y]at this;rw[<-h1];exact this
    by_cases he:j=i
    ·subst he;have y:=ak;have g1:=U j y;have hx:=hV.at j;have h1:=TC y (ae y);have ab:BK V j 0 (V.getD j 0) (j+1):=⟨om,om,om,hx,by rw[h1];rfl⟩;have ac:=λw=>hy j 0 (V.getD j 0) (j+1) w ab;generalize V.getD j 0=vj at *;have e0:(j:Int)-j=((0:Nat):Int):=om;refine zg ?_;rw[e0];refine zN ?_;intro ai au aq S;refine Z1 0 S ?_;intro av S;refine z ?_;refine z ?_;refine zt ?_;refine zs ?_;refine dH (cV dk rfl rfl (hB.gr S.out) rfl) ?_;refine zT (hA.gr S.out) g1 ?_;refine zS ?_;intro aw S;refine Ig rfl rfl (ac _ (O _ _ _ hJ S.out)) ?_;rintro _ w5 ⟨rfl,Z⟩;refine zg ?_;exact⟨m-1,om,j+1,om,sl,Z⟩
    ·have e0:(j:Int)-i=((j-i:Nat):Int):=om
     have al:Du (j-i)=rB (j-i) 0:=by
      unfold Du rB;rw[a8 (show ¬j-i=0 by omega),a7 (show 0<j-i by omega)]
     have ab:BK V i (j-i) 0 j:=⟨om,D,om,om,by rw[L,ag,al]⟩;have ac:=λw=>hy i (j-i) 0 j w ab;generalize hz:j-i=z at *;refine zg ?_;rw[e0];refine zN ?_;intro ai az ar S;refine zS ?_;intro aA S;refine Ig rfl rfl (ac _ (O _ _ _ hJ S.out)) ?_;rintro _ w5 ⟨rfl,Z⟩;refine zg ?_;exact⟨V.length-j,om,j,om,sl,Z⟩
 ·obtain rfl:i=V.length:=om;refine z ?_;refine dH (cV dk rfl rfl (hB.gr S.out) rfl) ?_;refine zg ?_;exact na (O _ _ _ hJ S.out)
theorem Es(z:Nat)(x:Int)(hz:z<=16384)(V:-4294967296<=x/\x<=4294967296):Fn prog (295) [.agg #[ii z,ii x]] W (Cv id (rB z x) W):=by
 have hf:=wP V;unfold rB;have S:=St.start W;refine zI func295 ?_;by_cases U:0<z
 ·have e1:(z:Int)-1=((z-1:Nat):Int):=om;rw[a7 U];refine zN ?_;intro J ag ab S;refine zg ?_;refine yb S ?_;intro aa ah ac S Z;refine zg ?_;rw[e1];refine cq (dY (ks:=.i64) (n:=(z-1:Nat)) (kd:=.u64) (m:=(z-1:Nat)) dB dU rfl (re _ om)) ?_;refine zK (H4 (W:=_) (l:=[0]) (c:=1) (z-1) om (by simp) (.inr ⟨by simp,S.rd (i:=0) rfl⟩)) ?_;rintro _ ai ⟨l2,y,A2,c2,rfl,D,I,L⟩;have S:=S.pushRow D I L;refine zX ?_;exact⟨l2,y,S.retNew (i:=0) rfl⟩
 ·obtain rfl:z=0:=om;rw[a8 U];refine zN ?_;intro J aj ad S;refine zC (Ni x V) ?_;intro ak ae S;refine zK (H4 (W:=_) (A:=none) (c:=0) (l:=[]) (sW x) om (by simp) (.inl ⟨rfl,rfl,rfl⟩)) ?_;rintro _ al ⟨l2,y,A2,c2,rfl,D,I,O⟩;have S:=S.pushRow D I O;refine zg ?_;rw[sT,eH]at y;rw[sT,eH]at S;exact ir (v:=.slice A2 (ur (sW x)) c2) (by show some (Value.slice A2 (0+ur (sW x)) c2)=_;rw[eH]) ⟨l2,y,S.retNew (i:=0) (mk:=id) rfl⟩
theorem NP(hn:V.length<=16384)(hV:vR V)(hA:Rd W A (cY V)):Fn prog 271 [.slice A V.length c] W (dp (ii (tN 0 V)) W):=by
 have aj:=Dv (B:=5) V 0 (λx hx=>by have:=wP (hV x hx);exact us 4 _ om) om om;rw[a7 rfl]at aj;have ah:=λW z x hz hx=>Es (W:=W) z x hz hx;have S:=St.start W;refine CH func271 rfl results271 ntmps271 (by kernel_rfl) (by kernel_rfl) ?_;try show AU _ _ _ _ _ _ _
 refine vk ?_;refine zg ?_;try show AU _ _ _ _ _ _ _
 refine vk ?_;refine zN ?_;intro O aq an S;refine zS ?_;intro ar S;try show AU _ _ _ _ _ _ _
 refine Gm ?_;try show AU _ _ _ _ _ _ _
 refine vk ?_;refine zK (Ij) ?_;rintro _ au ⟨y,rfl,ag,ap,ad⟩;have S:=S.push ad (h:=.blk y _ _) ag (λg hg=>by have:g=y:=hg;omega);refine ze ?_;try show AU _ _ _ _ _ _ _
 have S:=S.sub (.cons_cons _ (.cons_cons _ (.slnil)));refine Gn ?_;refine Ii (λe=>SL e [(3,pt O),(6,.func (.func 306) (([]:List Value).toArray) [pt y].toArray)]) sl ?_;intro e ak;rw[ak.fold]
 refine PK (gf:=306) (lb:=[pt y])
  (λ(i:Nat)L=>∃I:Nat,I+tN 0 (V.drop i)=tN 0 V/\L=[.blk y 27 [.slice A V.length c],.blk O 3 [ii I]])
  (λi vs j=>∃(z:Nat)(x:Int),BK V i z x j/\vs=[.agg #[ii (z:Nat),ii x]]) (λi=>i=V.length) 0 rfl (by kernel_rfl) (by kernel_rfl)
  (λi j e L=>∃(z:Nat)(x:Int)(I aa:Nat),BK V i z x j/\I+tN 0 (V.drop i)=tN 0 V/\SL e [(3,pt O),(4,pt aa)]/\L=[.blk aa 444 [ii z,ii x],.blk y 27 [.slice A V.length c],.blk O 3 [ii I]])
  ⟨0,by rw[dR];omega,rfl⟩ S (by rintro k vs k' ⟨_,_,_,rfl⟩;rfl) ?_ ?_ ?_ ?_
 ·intro l J w1 ai hJ h0 hy;refine(Gp (c:=c) (A:=A) (V:=V) (W:=w1) (b:=y) (l:=l) J hn hV ai (λk w ab=>?_) (λi z x j w Z ab=>hy i _ j w ⟨z,x,Z,rfl⟩ ab) h0).mono (λ_ w' h=>⟨_,rfl,h⟩);obtain⟨L,⟨I,_,rfl⟩,o1,d1,S1⟩:=hJ k w ab;exact⟨S1.blk (i:=2) rfl,hA.gr S1.out⟩
 ·rintro ob db i vs j w2 L ⟨z,x,Z,rfl⟩ ⟨I,U,rfl⟩ S;show CW _ _ _ _ (yP _ 7 _) _;refine zN ?_;intro aa av ao S;refine zS ?_;intro aw S;exact⟨_,⟨z,x,I,aa,Z,U,sl,rfl⟩,S.perm_ ((tz _ _ _).trans (.cons _ (.swap _ _ _)))⟩
 ·rintro ob db i j e w2 L ⟨z,x,I,aa,Z,U,ac,rfl⟩ S;rw[ac.fold];have am:=Z.eq;have hz:=Z.zl;have hx:=Z.xr;refine zH (C:=(λσ wq=>CN No W [ob,db,.blk aa 444 [ii z,ii x],.blk y 27 [.slice A V.length c],.blk O 3 [ii I]] (λv h=>∃A2 c2 l2,v=.slice A2 (rB z x) c2/\h=.row 5 1 A2 (rB z x) c2 l2) wq σ)) [2] [0,1,2,3] [4,5] (S.gr (Gr.drew _)) ?_;refine zV (λτ wq hq=>((CN.st hq).blk (i:=4) rfl)) ?_;refine zV (λτ wq hq=>((CN.st hq).blk (i:=2) rfl)) ?_;refine de rfl rfl (λwq hq=>l4 rfl ((ah wq z x om hx).mono λv w'⟨l2,hl2,A2,c2,hv,hR2,hf2,g⟩=>⟨_,⟨A2,c2,f9 l2,hv,rfl⟩,St.pushRow (show St No W wq _ from hq) hR2 hf2 g⟩)) ?_;rintro v2 w5 ⟨_,⟨A2,c2,l2,rfl,_⟩,_⟩;refine zY ?_;rintro wz al;obtain⟨_,⟨A3,c3,l3,e3,rfl⟩,S⟩:=al;cases e3
  refine zS ?_;intro az S;exact⟨_,⟨I+rB z x,om,rfl⟩,by simpa using S.sub (.cons _ (.cons_cons _ (.cons_cons _ (.cons _ (.cons_cons _ (.cons_cons _ .slnil))))))⟩
 ·rintro l D ob k w2 L rfl ⟨I,U,rfl⟩ S;rw[List.drop_length]at U;have ae:tN 0 []=0:=rfl;show CW _ _ _ _ _ _;refine z ?_;refine z ?_;refine zq ?_;refine PI S (i:=1) rfl rfl λw' S'=>?_;exact PH (ir rfl ⟨by rw[<-U,ae,eW],S'.out⟩)
theorem PL{z:Nat}{x:Int}(J:z<=16384)(v:-4294967296<=x/\x<=4294967296):1<=rB z x/\rB z x<=5:=by
 have h1:=Dt (z-1);have h2:=Dt (sW x);have y:=wP v;have D:=us 4 (sW x) om;have I:=us 1 (z-1) om;unfold rB;split<;>omega
theorem NQ{l:List Int}(hn:V.length<=16384)(hV:vR V)(hA:Rd W A (cY V))(hl:0<l.length/\l.length<=1048576)(hB:Rd W B (f9 l)) :
  Fn prog 275 [.slice B l.length cB,.slice A V.length c] W (Cv id (l.length+tN 0 V) W):=by
 have ap:=Dv (B:=5) V 0 (λx hx=>by have:=wP (hV x hx);exact us 4 _ om) om om;rw[a7 rfl]at ap;have an:=λW z x hz hx=>Es (W:=W) z x hz hx;have S:=St.start W;refine CH func275 rfl results275 ntmps275 (by kernel_rfl) (by kernel_rfl) ?_;try show AU _ _ _ _ _ _ _
 refine vk ?_;refine zN ?_;intro I aH aC S;refine zg ?_;try show AU _ _ _ _ _ _ _
 refine vk ?_;refine zK (AF (c:=cB) hl.1 om (hB.gr S.out)) ?_;rintro _ aI ⟨ad,ae,rfl,ab,ac,ak⟩;have S:=S.pushRow ab ac ak;refine zS ?_;intro aJ S;try show AU _ _ _ _ _ _ _
 refine Gm ?_;try show AU _ _ _ _ _ _ _
 refine vk ?_;refine zK (Ij) ?_;rintro _ aK ⟨y,rfl,am,aF,al⟩;have S:=S.push al (h:=.blk y _ _) am (λg hg=>by have:g=y:=hg;omega);refine ze ?_;try show AU _ _ _ _ _ _ _
 have S:=S.sub (.cons_cons _ (.cons_cons _ (.cons_cons _ (.slnil))));have S:=S.perm_ (.cons _ (.swap _ _ _));refine Gn ?_;refine Ii (λe=>SL e [(2,pt I),(9,.func (.func 306) (([]:List Value).toArray) [pt y].toArray)]) sl ?_;intro e au;rw[au.fold]
 refine PK (gf:=306) (lb:=[pt y])
  (λ(i:Nat)L=>∃(lc:List Int)(A2:Option Addr)(c2:Nat),lc.length+tN 0 (V.drop i)=l.length+tN 0 V/\L=[.blk y 27 [.slice A V.length c],.blk I 28 [.slice A2 lc.length c2],.row 5 1 A2 lc.length c2 (f9 lc)])
  (λi vs j=>∃(z:Nat)(x:Int),BK V i z x j/\vs=[.agg #[ii (z:Nat),ii x]]) (λi=>i=V.length) 0 rfl (by kernel_rfl) (by kernel_rfl)
  (λi j e L=>∃(z:Nat)(x:Int)(lc:List Int)(A2:Option Addr)(c2 Z:Nat),BK V i z x j/\lc.length+tN 0 (V.drop i)=l.length+tN 0 V/\SL e [(2,pt I),(5,pt Z)]/\L=[.blk Z 444 [ii z,ii x],.blk y 27 [.slice A V.length c],.blk I 28 [.slice A2 lc.length c2],.row 5 1 A2 lc.length c2 (f9 lc)])
  ⟨l,ad,ae,by rw[dR],rfl⟩ S (by rintro k vs k' ⟨_,_,_,rfl⟩;rfl) ?_ ?_ ?_ ?_
 ·intro l J w1 ao hJ h0 hy;refine(Gp (c:=c) (A:=A) (V:=V) (W:=w1) (b:=y) (l:=l) J hn hV ao (λk w aa=>?_) (λi z x j w O aa=>hy i _ j w ⟨z,x,O,rfl⟩ aa) h0).mono (λ_ w' h=>⟨_,rfl,h⟩);obtain⟨L,⟨lc,A2,c2,_,rfl⟩,o1,d1,S1⟩:=hJ k w aa;exact⟨S1.blk (i:=2) rfl,hA.gr S1.out⟩
 ·rintro ob db i vs j w2 L ⟨z,x,O,rfl⟩ ⟨lc,A2,c2,U,rfl⟩ S;show CW _ _ _ _ (yP _ 10 _) _;refine zN ?_;intro Z aL aD S;refine zS ?_;intro aM S;exact⟨_,⟨z,x,lc,A2,c2,Z,O,U,sl,rfl⟩,S.perm_ ((tz _ _ _).trans (.cons _ (.swap _ _ _)))⟩
 ·rintro ob db i j e w2 L ⟨z,x,lc,A2,c2,Z,O,U,ah,rfl⟩ S;rw[ah.fold];have az:=O.eq;have hz:=O.zl;have hx:=O.xr;have aG:=PL (z:=z) (x:=x) om hx;refine zH (C:=(λσ wq=>CN No W [ob,db,.blk Z 444 [ii z,ii x],.blk y 27 [.slice A V.length c],.blk I 28 [.slice A2 lc.length c2],.row 5 1 A2 lc.length c2 (f9 lc)] (λv h=>∃A2 c2 l2,v=.slice A2 (rB z x) c2/\l2.length=rB z x/\h=.row 5 1 A2 (rB z x) c2 (f9 l2)) wq σ)) [2] [0,1,2] [3,4] (S.gr (Gr.drew _)) ?_;refine zV (λτ wq hq=>((CN.st hq).blk (i:=4) rfl)) ?_;refine zV (λτ wq hq=>((CN.st hq).blk (i:=2) rfl)) ?_;refine de rfl rfl (λwq hq=>l4 rfl ((an wq z x om hx).mono λv w'⟨l2,hl2,A2,c2,hv,hR2,hf2,g⟩=>⟨_,⟨A2,c2,l2,hv,hl2,rfl⟩,St.pushRow (show St No W wq _ from hq) hR2 hf2 g⟩)) ?_;rintro v2 w5 ⟨_,⟨A3,c3,l2,rfl,_,_⟩,_⟩;refine zY ?_;rintro wz av;obtain⟨_,⟨A4,c4,l3,e3,ag,rfl⟩,S⟩:=av;cases e3
  have ar:=F6 l3;have aq:=m4 l3;refine fM (i:=6) S rfl (λh=>rfl) q8 nN rfl rfl rfl rfl (by rw[aq,ag,cG]) om (S.rd (i:=0) rfl) ar om ?_;intro ai aj aA S aw;refine zS ?_;intro aB S;rw[KS]at S;have e5:lc.length+rB z x=(lc++l3).length:=by rw[cP,ag]
  rw[e5]at S;exact⟨_,⟨lc++l3,ai,aj,by rw[<-e5];omega,rfl⟩,S.sub (.cons _ (.cons_cons _ (.cons_cons _ (.cons _ (cQ _)))))⟩
 ·rintro lp D ob k w2 L rfl ⟨lc,A2,c2,U,rfl⟩ S;rw[List.drop_length]at U;have aE:tN 0 []=0:=rfl;show CW _ _ _ _ _ _;refine z ?_;refine z ?_;refine zq ?_;refine PI S (i:=1) rfl rfl λw' S'=>?_;have e6:lc.length=l.length+tN 0 V:=om;exact PH (ir rfl ⟨lc,e6,e6▸S'.retNew (i:=4) rfl⟩)
end
def vM(V:List Int):Prop:=∀x∈V,-2147483648<=x/\x<=2147483647
theorem vM.at{V:List Int}(h:vM V)(i:Nat):-2147483648<=V.getD i 0/\V.getD i 0<=2147483647:=by
 rw[cO];rcases eV i V.length with hi|hi
 ·rw[ct hi];exact h _ (fY hi)
 ·rw[dZ hi];exact⟨by decide,by decide⟩
section
variable{w:Nat}{V:List Int}
theorem yz(kind w n:Nat)(D:kind<=2)(I:1<=w)(y:n%w=0):Fn prog 210 [ii kind,ii w,ii n] W (dp (.bool true) W):=by
 have v:(n:Int)%w=0:=by rw[show(n:Int)%w=((n%w:Nat):Int)by push_cast;rfl,y];rfl
 have S:=St.start W;refine zI func210 ?_;refine z ?_;refine z ?_;refine zt ?_;refine z ?_;refine z ?_;refine zt ?_;(iterate 3 refine z ?_);refine zt ?_;(iterate 3 refine z ?_);refine zt ?_;iterate 4 refine z ?_
 refine dr rfl ?_;refine zg ?_;rw[v];exact zZ
theorem Uc(x:Int)(v:-2147483648<=x/\x<=2147483647):Fn prog 266 [ii x] W (dp (.bool true) W):=by
 have S:=St.start W;refine zI func266 ?_;exact zZ
theorem Rn(i:Nat)(hw:1<=w)(hi:i<V.length)(hl:V.length<=1048576)(J:Rd W A (cY V)) :
  Fn prog 292 [.slice A V.length c,ii w,ii i] W (dp (ii (if i=0 then 0 else if i%w=0 then V.getD (i-w) 0 else V.getD (i-1) 0)) W):=by
 have y:dO A:=J.someA (by rw[gn];omega);have I:(i:Int)%w=((i%w:Nat):Int):=by push_cast;rfl
 have v:∀j,j<V.length->(cY V)[(j:Int).toNat * 1]?=some (ii (V.getD j 0)):=λj U=>by rw[cG,b7];exact gc (kr U)
 have S:=St.start W;refine zI func292 ?_;by_cases L:i=0
 ·subst L;exact zZ
 ·rw[a8 L];by_cases h1:i%w=0
  ·rw[a7 h1];rw[h1]at I
   have Z:w<=i:=by
    rcases eV i w with h|h
    ·rw[dT h]at h1;omega
    ·exact h
   have D:(i:Int)-w=((i-w:Nat):Int):=om;refine z ?_;refine z ?_;refine zf ?_;iterate 3 refine z ?_
   refine cq (xd rfl rfl om om) ?_;rw[I];refine cq (ff (b:=true) rfl (fX.2 om)) ?_;refine cq (cH rfl) ?_;first|refine eF ?_|(refine di ?_;show CW _ _ _ _ _ _)|refine di ?_
   repeat refine dm ?_
   refine jr rfl ?_;repeat refine dm ?_
   refine dz ?_;iterate 3 refine cq (cH rfl) ?_
   refine cq (fh rfl om) ?_;rw[D];refine cq (sj dk cR rfl rfl y om om) ?_;refine dH (eI cw rfl rfl (J.gr S.out) (v (i-w) om)) ?_;exact zZ
  ·rw[a8 h1];have D:(i:Int)-1=((i-1:Nat):Int):=om;have O:(0:Int)<((i%w:Nat):Int):=om;generalize i%w=q at *;refine z ?_;refine z ?_;refine zf ?_;iterate 3 refine z ?_
   refine cq (xd rfl rfl om om) ?_;rw[I];refine cq (ff (b:=false) rfl (et.2 om)) ?_;refine cq (cH rfl) ?_;first|refine eF ?_|(refine di ?_;show CW _ _ _ _ _ _)|refine di ?_
   repeat refine dm ?_
   refine eX rfl ?_;repeat refine dm ?_
   refine gO ?_;try show CW _ _ _ _ _ _
   repeat refine dm ?_
   refine dz ?_;iterate 2 refine cq (cH rfl) ?_
   refine cq (fh rfl om) ?_;rw[D];refine cq (sj dk cR rfl rfl y om om) ?_;refine dH (eI cw rfl rfl (J.gr S.out) (v (i-1) om)) ?_;exact zZ
theorem Gq(kind i:Nat)(hk:kind<=2)(hw:1<=w)(hi:i<V.length)(hl:V.length<=1048576)(L:vM V)(z:Rd W A (cY V)) :
  Fn prog 265 [ii kind,.slice A V.length c,ii w,ii i] W (dp (ii (gN kind (λj=>V.getD j 0) w i)) W):=by
 have Z:dO A:=z.someA (by rw[gn];omega);have J:(i:Int)%w=((i%w:Nat):Int):=by push_cast;rfl
 have y:∀j,j<V.length->(cY V)[(j:Int).toNat * 1]?=some (ii (V.getD j 0)):=λj hj=>by rw[cG,b7];exact gc (kr hj)
 have v:=λW z=>Rn (W:=W) (A:=A) (c:=c) (w:=w) (V:=V) i hw hi hl z;unfold gN;have S:=St.start W;refine zI func265 ?_;by_cases U:kind=0
 ·subst U;refine zX ?_;exact⟨by rw[a7 rfl],S.out⟩
 ·rw[a8 U];by_cases h1:kind=1
  ·subst h1;rw[a7 (.inl rfl)];refine zC (v _ (z.gr S.out)) ?_;intro ah aa S;exact zZ
  ·by_cases h2:i<w
   ·rw[a7 (.inr (.inl h2))];refine zC (v _ (z.gr S.out)) ?_;intro ai ab S;exact zZ
   ·by_cases D:i%w=0
    ·rw[a7 (.inr (.inr D))];rw[D]at J;refine zg ?_;rw[J];refine zC (v _ (z.gr S.out)) ?_;intro aj ac S;exact zZ
    ·rw[a8 (by rintro (h|h|h);exact h1 h;exact h2 h;exact D h)];have ae:i≠0:=λh=>by subst h;simp at D
     have h4:(0:Int)<((i%w:Nat):Int):=om;have e1:(i:Int)-1=((i-1:Nat):Int):=om;have O:(i:Int)-w=((i-w:Nat):Int):=om;have ag:i-w≠0:=λh=>D (by rw[(om:i=w),Nat.mod_self]);have e3:((i-w:Nat):Int)-1=((i-w-1:Nat):Int):=om;have b1:=L.at (i-1);have b2:=L.at (i-w);have b3:=L.at (i-w-1);have g1:=y (i-1) om;have g2:=y (i-w) om;have g3:=y (i-w-1) om;dsimp only;generalize V.getD (i-1) 0=v1 at *;generalize V.getD (i-w) 0=v2 at *;generalize V.getD (i-w-1) 0=v3 at *;clear v D;generalize i%w=q at *;refine zg ?_;rw[J];refine zD [0,1,2,3,4,5,6,7,8,9,10,11,12,13,14,15,16,17,18,19,20] [] ?_;rw[e1];refine zO (λwq I=>(z.gr (S.gr I).out)) g1 ?_;refine zQ ?_;rw[O];refine zO (λwq I=>(z.gr (S.gr I).out)) g2 ?_;refine zQ ?_;rw[O];refine zQ ?_;rw[e3];refine zO (λwq I=>(z.gr (S.gr I).out)) g3 ?_;refine zE ?_;intro ak ad S;exact ir rfl ⟨rfl,S.out⟩
theorem BL(kind:Nat)(hk:kind<=2)(hw:1<=w)(hn:V.length%w=0)(hl:V.length<=1048576)(O:vM V)(z:Rd W A (cY V)) :
  Fn prog 270 [ii kind,.slice A V.length c,ii w] W (jc (λs=>.tuple #[s,ii 0]) 2 1 V.length (cY (mp kind V w)) W):=by
 have I:∀j,j<V.length->(cY V)[(j:Int).toNat * 1]?=some (ii (V.getD j 0)):=λj L=>by rw[cG,b7];exact gc (kr L)
 have U:=λi(hi:i<V.length)=>I8 (kind:=kind) (w:=w) (i:=i) (V:=V) hw hi O;have v:=λW z i hi=>Gq (W:=W) (A:=A) (c:=c) (w:=w) (V:=V) kind i hk hw hi hl O z;obtain⟨r,hr⟩:∃r:Nat->Int,r=λi=>V.getD i 0-gN kind (λj=>V.getD j 0) w i:=⟨_,rfl⟩;have aa:∀i,r i=V.getD i 0-gN kind (λj=>V.getD j 0) w i:=λi=>by rw[hr]
 have ab:cY (mp kind V w)=fj V.length r:=by
  unfold mp cY fj;rw[rZ,hr];rfl
 rw[ab];have S:=St.start W;refine zI func270 ?_;refine zC (yz kind w V.length hk hw hn) ?_;intro ak ag S;refine zg ?_;refine nD dk jR rfl rfl rfl (n:=V.length) (c:=V.length) om om om om S ?_;intro y al ah S J;refine zg ?_;rw[yk]at S
 refine dl (λm e w'=>∃i:Nat,i+m=V.length/\SL e [(0,ii kind),(1,.slice A V.length c),(2,ii w),(8,.slice y V.length V.length),(20,.slice A V.length c),(21,ii V.length),(22,ii i)] /\
   St No W w' [.row 2 1 y V.length V.length (fj V.length λj=>if j<i then r j else 0)]) V.length
  ⟨0,om,sl,by simpa using S⟩ ?_
 clear S;rintro m e w2 ⟨i,hi,ad,S⟩;rw[ad.fold];by_cases D:i<V.length
 ·have ae:dO A:=z.someA (by rw[gn];omega);have J:dO y:=(S.row (i:=0) rfl).someA om;have b1:=O.at i;have b2:=U i D;have Z:=λW z=>v W z i D;have ac:=aa i;have g1:=I i D;generalize gN kind (λj=>V.getD j 0) w i=gg at *;generalize V.getD i 0=v1 at *;refine zT (z.gr S.out) g1 ?_;refine zC (Uc v1 b1) ?_;intro am ai S;refine zC (Z _ (z.gr S.out)) ?_;intro an aj S;refine zg ?_;refine jk (i:=0) S rfl (cR _) rfl rfl rfl rfl (by rw[pV];omega) rfl ?_;intro ao S;refine zg ?_
  rw[<-ac,rS,nj (o':=λj=>if j<i+1 then r j else 0) (λj L=>by
   unfold jU;by_cases e:j=i
   ·subst e;rw[a7 rfl,a7 om]
   ·rw[a8 e];show(if j<i then r j else 0)=_;by_cases h:j<i
    ·rw[a7 h,a7 om]
    ·rw[a8 h,a8 om])]at S
  exact⟨m-1,om,i+1,om,sl,S⟩
 ·obtain rfl:i=V.length:=om;rw[nj (o':=r) (λj L=>a7 L)]at S;refine zX ?_;exact(S.retNew (i:=0) (mk:=λs=>.tuple #[s,ii 0]) rfl)
end
def Gs(f:Nat->Nat):Nat->Nat
 |0=>0
 |k+1=>if k=0\/f k<f (Gs f k)then k else Gs f k
theorem NR(V:List Int)(w:Nat):zu V w=Gs (λk=>tN 0 (mp k V w)) 3:=by
 unfold zu;simp only[Gs];simp
section
variable{w h:Nat}{V:List Int}
theorem vM.rests(y:1<=w)(v:vM V):vR (mp kind V w):=λx z=>by
 have:=Kz (kind:=kind) y v x z;omega
theorem Ro(z:1<=w)(y:vM V)(I:V.length<=256):tN 0 (mp kind V w)<=3840:=by
 have v:=Dv (B:=5) (mp kind V w) 0 (λx D=>by have:=wP (vM.rests z y x D);exact us 4 _ om) om (by rw[pU];omega);rw[a7 rfl,pU]at v;omega
theorem BM(y:1<=w/\w<=16)(v:1<=h/\h<=16):Fn prog 200 [ii w,ii h] W (dp (.bool true) W):=by
 have S:=St.start W;refine zI func200 ?_;exact zZ
theorem Gt(O:1<=w/\w<=16)(hh:1<=h/\h<=16)(L:V.length=w*h)(hV:vM V)(I:Rd W A (cY V)):Fn prog 269 [.slice A V.length c,ii w,ii h] W (dp (ii 0) W):=by
 have hm:w*h<=16*16:=cE O.2 hh.2;have J:(w:Int)*h=((V.length:Nat):Int):=by rw[L];push_cast;rfl
 have hr:=λW I=>BL (W:=W) (A:=A) (c:=c) (w:=w) (V:=V) 0 om O.1 (by rw[L,kJ]) om hV I;have S:=St.start W;refine zI func269 ?_;iterate 5 refine z ?_
 refine cq (fh rfl (by rw[J];omega)) ?_;rw[J];refine zK (hr _ (I.gr S.out)) ?_;rintro _ aa ⟨U,Z,rfl,v,y,D⟩;have S:=S.pushRow v y D;exact zZ
theorem Rp(J:1<=w/\w<=16)(hh:1<=h/\h<=16)(hl:V.length=w*h)(hV:vM V)(z:Rd W A (cY V)):Fn prog 221 [.slice A V.length c,ii w,ii h] W (dp (.tuple #[ii (zu V w),ii 0]) W):=by
 have hm:w*h<=16*16:=cE J.2 hh.2;have hr:=λW k hk z=>BL (W:=W) (A:=A) (c:=c) (w:=w) (V:=V) k hk J.1 (by rw[hl,kJ]) om hV z;have aa:=λW A c k z=>NP (W:=W) (A:=A) (c:=c) (V:=mp k V w) (by rw[pU];omega) (vM.rests J.1 hV) z;have hf:∀k,tN 0 (mp k V w)<=3840:=λk=>Ro J.1 hV om;rw[NR];generalize ah:(λk=>tN 0 (mp k V w))=f at *;have Z:∀k,tN 0 (mp k V w)=f k:=λk=>by rw[<-ah]
 have S:=St.start W;refine zI func221 ?_;refine zC (BM J hh) ?_;intro ap aj S;refine zC (Gt (W:=_) (c:=c) J hh hl hV (z.gr S.out)) ?_;intro aq ak S;refine zg ?_
 refine dl (λm e w'=>∃k:Nat,k+m=3/\SL e [(0,.slice A V.length c),(1,ii w),(9,ii (Gs f k)),(10,ii ((if k=0 then 0 else f (Gs f k):Nat):Int)),(26,ii k)]/\St No W w' []) 3
  ⟨0,rfl,sl,S⟩ ?_
 clear S;rintro m e w2 ⟨k,hk,ai,S⟩;rw[ai.fold];by_cases ao:k<3
 ·have I:=Z k;have ae:=hf k;have ag:=hf (Gs f k);have D:=λW A c z=>aa W A c k z;rw[pU,I]at D;rw[I]at ae;rw[Z]at ag;by_cases h0:k=0
  ·subst h0;refine zK (hr _ 0 om (z.gr S.out)) ?_;rintro _ ar ⟨L,O,rfl,v,y,ab⟩;have S:=S.pushRow v y ab;refine zC (D _ _ _ (S.rd (i:=0) rfl)) ?_;intro au al S;refine zg ?_;exact⟨2,om,1,rfl,sl,S.drop 1⟩
  ·by_cases h1:f k<f (Gs f k)
   ·have U:Gs f (k+1)=k:=a7 (.inr h1);rw[a8 h0];refine zK (hr _ k om (z.gr S.out)) ?_;rintro _ av ⟨L,O,rfl,v,y,ac⟩;have S:=S.pushRow v y ac;refine zC (D _ _ _ (S.rd (i:=0) rfl)) ?_;intro aw am S;refine zg ?_;exact⟨m-1,om,k+1,om,⟨rfl,rfl,ie (by rw[U]),ie (by rw[a8 om,U]),rfl,trivial⟩,S.drop 1⟩
   ·have U:Gs f (k+1)=Gs f k:=a8 (by rintro (h|h);exact h0 h;exact h1 h);rw[a8 h0];refine zK (hr _ k om (z.gr S.out)) ?_;rintro _ az ⟨L,O,rfl,v,y,ad⟩;have S:=S.pushRow v y ad;refine zC (D _ _ _ (S.rd (i:=0) rfl)) ?_;intro aA an S;refine zg ?_;exact⟨m-1,om,k+1,om,⟨rfl,rfl,ie (by rw[U]),ie (by rw[a8 om,U]),rfl,trivial⟩,S.drop 1⟩
 ·obtain rfl:k=3:=om;exact zZ
theorem Ud(kind:Nat)(hk:kind<=2)(D:1<=w/\w<=16)(Z:1<=h/\h<=16)(hl:V.length=w*h)(O:vM V)(v:Rd W A (cY V)) :
  Fn prog 225 [ii kind,.slice A V.length c,ii w,ii h] W (Cv (λs=>.tuple #[s,ii 0]) (1+tN 0 (mp kind V w)) W):=by
 have hm:w*h<=16*16:=cE D.2 Z.2;have hr:=λW v=>BL (W:=W) (A:=A) (c:=c) (w:=w) (V:=V) kind hk D.1 (by rw[hl,kJ]) om O v;have hp:=λW A c B v hB=>NQ (W:=W) (A:=A) (c:=c) (V:=mp kind V w) (B:=B) (cB:=1) (l:=[(kind:Int)]) (by rw[pU];omega) (vM.rests D.1 O) v (by simp) hB;rw[pU]at hp;have hc:IntKind.u8.wrap (kind:Int)=kind:=by rw[gD];omega
 have S:=St.start W;refine zI func225 ?_;refine zC (BM D Z) ?_;intro ak ag S;refine zC (yz kind 1 0 hk om om) ?_;intro al ah S;refine zC (Gt (W:=_) (c:=c) D Z hl O (v.gr S.out)) ?_;intro am ai S;refine zK (hr _ (v.gr S.out)) ?_;rintro _ an ⟨ad,ae,rfl,y,z,I⟩;have S:=S.pushRow y z I;refine zg ?_;refine Y9 (n:=kind) (m:=kind) rfl hc ?_;refine yb S ?_;intro ac ao aj S ab;refine zK (hp _ _ _ _ (S.rd (i:=1) rfl) (S.rd (i:=0) rfl)) ?_;rintro _ ap ⟨l2,aa,A2,c2,rfl,L,U,J⟩;have S:=S.pushRow L U J;refine zX ?_;exact⟨l2,aa,S.retNew (i:=0) (mk:=λs=>.tuple #[s,ii 0]) rfl⟩
end
def PN(n:Nat)(T:List Int->Prop)(W:World)(v:Value)(w':World):Prop:=∃(B:Option Addr)(nB cB:Nat)(x e:Int)(Q:List HA),v=.tuple #[.slice B nB cB,ii x,ii e]/\St No W w' Q/\(e=0->nB=n/\∃R:List Int,R.length=n/\T R/\Q=[.row 2 1 B n cB (cY R)])
def Yn(n:Nat)(T:List Int->Prop)(W:World)(v:Value)(w':World):Prop:=∃(B:Option Addr)(nB cB:Nat)(e:Int)(Q:List HA),v=.tuple #[.slice B nB cB,ii e]/\St No W w' Q/\(e=0->nB=n/\∃R:List Int,R.length=n/\T R/\Q=[.row 2 1 B n cB (cY R)])
section
variable{w:Nat}{R:List Int}{l:List Int}
theorem Rq(x:Int):Fn prog 266 [ii x] W (dp (.bool (iL x)) W):=by
 have h:iL x=decide (-2147483648<=x/\x<=2147483647):=by unfold iL;simp
 rw[h];rcases cr (x < -2147483648)with h1|h1
 ·rw[cC om];have S:=St.start W;refine zI func266 ?_;exact zZ
 ·rcases cr (x<=2147483647)with h2|h2
  ·rw[cF om];have S:=St.start W;refine zI func266 ?_;exact zZ
  ·rw[cC om];have S:=St.start W;refine zI func266 ?_;exact zZ
theorem Le(kind:Int):Fn prog 210 [ii kind,ii 1,ii 0] W (dp (.bool (decide (0<=kind/\kind<=2))) W):=by
 rcases cr (kind<0)with h1|h1
 ·rw[cC om];have S:=St.start W;refine zI func210 ?_;exact zZ
 ·rcases cr (kind<=2)with h2|h2
  ·rw[cF om];have S:=St.start W;refine zI func210 ?_;refine z ?_;refine z ?_;refine zt ?_;refine z ?_;refine z ?_;refine zt ?_;(iterate 3 refine z ?_);refine zt ?_;(iterate 3 refine z ?_);refine zt ?_;iterate 4 refine z ?_
   refine dr rfl ?_;exact zZ
  ·rw[cC om];have S:=St.start W;refine zI func210 ?_;exact zZ
theorem vM.set{V:List Int}(h:vM V){x:Int}(v:-2147483648<=x/\x<=2147483647):vM (V.set i x):=λy z=>by
 rcases List.mem_or_eq_of_mem_set z with h1|h1
 ·exact h y h1
 ·rw[h1];exact v
theorem NS(kind:Nat)(hk:kind<=2)(hw:1<=w)(hn:R.length%w=0)(h0:0<R.length)(hl:R.length<=1048576)(L:Rd W A (cY R)) :
  Fn prog 212 [ii kind,.slice A R.length c,ii w] W (λv w'=>(∃e:Int,e≠0/\v=.tuple #[.slice none 0 0,ii e]/\Gr W w') \/
   (∃(V:List Int)(B:Option Addr)(cB:Nat),V.length=R.length/\vM V/\v=.tuple #[.slice B R.length cB,ii 0]/\St No W w' [.row 2 1 B R.length cB (cY V)])):=by
 have O:∀{i:Nat},i<R.length->(cY R)[(i:Int).toNat * 1]?=some (ii (R.getD i 0)):=λh=>by rw[cG,b7];exact gc (kr h)
 have ac:=λW=>yz (W:=W) kind w R.length hk hw hn;generalize hN:R.length=N at *;have ae:dO A:=L.someA (by rw[gn];omega);refine yI func212 ?_;refine zC (ac W) ?_;intro an ah S;refine zg ?_;refine nD dk jR rfl rfl rfl (n:=N) (c:=N) om om om om S ?_;intro y ao ai S ag;refine zg ?_
 refine dl (λm e w'=>∃(i:Nat)(V:List Int),i+m=N/\V.length=N/\vM V/\SL e [(0,ii kind),(2,ii w),(8,.slice y N N),(20,.slice A N c),(21,ii N),(22,ii i)]/\St No W w' [.row 2 1 y N N (cY V)]) N
  ⟨0,List.replicate N 0,om,by simp,(λx hx=>by rw[mQ hx];decide),sl,by rw[show cY (List.replicate N 0)=List.replicate N (ii 0)by simp[cY]];exact S⟩ ?_
 clear S;rintro m e w2 ⟨i,V,hi,D,hV,ad,S⟩;rw[ad.fold];rcases cr (i<N)with Z|Z
 ·have hg:=O Z;have al:=I8 (kind:=kind) (w:=w) (i:=i) (V:=V) hw om hV;have J:=λW L=>Gq (W:=W) (A:=y) (c:=N) (w:=w) (V:=V) kind i hk hw om om hV L;rw[D]at J;generalize R.getD i 0=r at *;generalize gN kind (λj=>V.getD j 0) w i=g at *;have U:(cY V).length=N:=by rw[gn,D]
  rcases cr (4294967295<r)with h1|h1
  ·skip;refine yX ?_;exact(.inl ⟨7,by decide,rfl,S.out⟩)
  ·rcases cr (r < -4294967295)with h2|h2
   ·skip;refine yX ?_;exact(.inl ⟨7,by decide,rfl,S.out⟩)
   ·have aa:(cY V).set ((i:Int).toNat * 1) (ii (g+r))=cY (V.set i (g+r)):=by rw[cG,b7];unfold cY;rw[uO]
    have am:(cY (V.set i (g+r)))[(i:Int).toNat * 1]?=some (ii (g+r)):=by
     rw[cG,b7];exact gc (by rw[lv om])
    have I:=λW=>Rq (W:=W) (g+r);rcases hb:iL (g+r)with _|_
    ·rw[hb]at I;refine zT (L.gr S.out) hg ?_;refine zC (J w2 (S.rd (i:=0) rfl)) ?_;intro ap aj S;refine zg ?_;refine jk (i:=0) S rfl (cR _) rfl rfl rfl rfl (by rw[U];omega) rfl ?_;intro aq S;refine z ?_;refine z ?_;rw[aa]at S;refine EO I ?_;intro _ S;refine zX ?_;exact(.inl ⟨7,by decide,rfl,S.out⟩)
    ·rw[hb]at I;have ab:-2147483648<=g+r/\g+r<=2147483647:=by unfold iL at hb;simpa using hb
     refine zT (L.gr S.out) hg ?_;refine zC (J w2 (S.rd (i:=0) rfl)) ?_;intro ar ak S;refine zg ?_;refine jk (i:=0) S rfl (cR _) rfl rfl rfl rfl (by rw[U];omega) rfl ?_;intro au S;refine z ?_;refine z ?_;rw[aa]at S;refine EO I ?_;intro _ S;refine zg ?_;exact⟨m-1,om,i+1,V.set i (g+r),om,by rw[pe,D],hV.set ab,sl,S⟩
 ·skip;refine zX ?_;exact(.inr ⟨V,y,N,D,hV,rfl,S⟩)
theorem NT{h:Nat}(hw:1<=w/\w<=16)(hh:1<=h/\h<=16)(hc:l.length<=c)(hm:l.length<=1099511627776)(J:Rd W A (f9 l)) :
  Fn prog 138 [.slice A l.length c,ii w,ii h] W (λv w'=>(∃e:Int,e≠0/\v=.tuple #[.slice none 0 0,ii 0,ii e]/\Gr W w') \/
   (∃(V:List Int)(B:Option Addr)(cB:Nat)(kd:Int),V.length=w*h/\vM V/\v=.tuple #[.slice B (w*h) cB,ii kd,ii 0]/\St No W w' [.row 2 1 B (w*h) cB (cY V)])):=by
 have Z:=λW=>BM (W:=W) hw hh;have ap:w*h<=16*16:=cE hw.2 hh.2;have ao:1*1<=w*h:=cE hw.1 hh.1
 have ah:=λW h0 J=>(Nq (W:=W) (A:=A) (c:=c) (l:=l) 1 (w*h) h0 om hc hm J).mono (R':=PN (w*h) (λ_=>True) W) λv w' hr=>by
  rcases hr with⟨e,he,hv,g⟩|⟨R,B,cB,nx,hR,hv,S⟩
  ·exact⟨_,_,_,_,_,[],hv,(St.start W).gr g,λh=>absurd h he⟩
  ·exact⟨_,_,_,_,_,_,hv,S,λ_=>⟨rfl,R,hR,trivial,rfl⟩⟩
 have ag:w*h%w=0:=kJ w h
 have ae:=λW B cB(R:List Int)kind hk hR h0 hl J=>(NS (W:=W) (A:=B) (c:=cB) (w:=w) (R:=R) kind hk hw.1 hR h0 hl J).mono (R':=Yn R.length vM W) λv w' hr=>by
  rcases hr with⟨e,he,hv,g⟩|⟨V,B,cB,hV,O,hv,S⟩
  ·exact⟨_,_,_,_,[],hv,(St.start W).gr g,λh=>absurd h he⟩
  ·exact⟨_,_,_,_,_,hv,S,λ_=>⟨rfl,V,hV,O,rfl⟩⟩
 have ab:(w:Int)*h=((w*h:Nat):Int):=by push_cast;rfl
 generalize w*h=N at *;have S:=St.start W;refine zI func138 ?_;rcases cr (l.length=0)with h0|h0
 ·skip;refine zC (Z W) ?_;intro ar aj S;refine zX ?_;exact(.inl ⟨14,by decide,rfl,S.out⟩)
 ·have hg:(f9 l)[(0:Int).toNat * 1]?=some (.int .u8 (l[0]'om)):=Cx (i:=0) om;generalize l[0]'om=b at hg;have ai:dO A:=J.someA (by rw[m4];omega);have I:=λW=>Le (W:=W) (IntKind.i64.wrap b);generalize aa:IntKind.i64.wrap b=kd at *;rcases cr (0<=kd/\kd<=2)with hk|hk
  ·rw[cF hk]at I;obtain⟨kind,rfl⟩:=cJ hk.1;refine zC (Z W) ?_;intro au ak S;refine zT (J.gr S.out) hg ?_;refine Y9 (n:=b) (m:=(kind:Nat)) rfl aa ?_;refine zC (I _) ?_;intro av al S;iterate 4 refine z ?_
   refine cq (fh rfl (by rw[ab];omega)) ?_;rw[ab];refine zK (ah _ om (J.gr S.out)) ?_;rintro _ aw ⟨B,nB,cB,nx,e1,Q,rfl,S2,hQ⟩;have S:=S.app S2;iterate 7 refine z ?_
   refine ze ?_;rcases cr (e1=0)with y|y
   ·obtain⟨rfl,R,hR,-,rfl⟩:=hQ y;have L:=λW=>ae W B cB R kind om (by rw[hR];exact ag) om om;rw[hR]at L;subst y;rcases cr (nx=(l.length:Nat))with U|U
    ·skip;repeat refine dm ?_
     refine dz ?_;refine cq (cH rfl) ?_;refine cq (ff (b:=true) rfl (fX.2 om)) ?_;refine cq (cH rfl) ?_;first|refine eD rfl ?_|(refine dr rfl ?_;refine cq (cH rfl) ?_)
     first|refine eD rfl ?_|(refine dr rfl ?_;refine cq (cH rfl) ?_)
     first|refine eD rfl ?_|(refine dr rfl ?_;refine cq (p6 q8 rfl) ?_)
     refine dr rfl ?_;refine cq (ff (b:=false) rfl (eo.2 U)) ?_;refine zK (L _ (S.rd (i:=0) rfl)) ?_;rintro _ az ⟨B2,aq,ac,e2,Q2,rfl,S2,ad⟩;have S:=S.app S2;iterate 5 refine z ?_
     refine ze ?_;rcases cr (e2=0)with D|D
     ·obtain⟨rfl,V,hV,O,rfl⟩:=ad D;subst D;refine zX ?_;exact(.inr ⟨V,B2,ac,_,hV,O,rfl,S.sub (.cons_cons _ (.cons _ .slnil))⟩)
     ·skip;repeat refine dm ?_
      refine dz ?_;refine cq (cH rfl) ?_;refine cq (ff (b:=true) rfl (f5.2 om)) ?_;first|refine eF ?_|(refine di ?_;show CW _ _ _ _ _ _)|refine di ?_
      repeat refine dm ?_
      refine jr rfl ?_;repeat refine dm ?_
      refine dz ?_;iterate 4 refine cq (cH rfl) ?_
      first|refine eF ?_|(refine di ?_;show CW _ _ _ _ _ _)|refine di ?_
      repeat refine dm ?_
      refine mJ ?_;repeat first|refine mL ?_|refine oq ?_
      exact tE rfl rfl rfl (.inl ⟨e2,D,rfl,S.out⟩)
    ·skip;repeat refine dm ?_
     refine dz ?_;refine cq (cH rfl) ?_;refine cq (ff (b:=true) rfl (fX.2 om)) ?_;refine cq (cH rfl) ?_;first|refine eD rfl ?_|(refine dr rfl ?_;refine cq (cH rfl) ?_)
     first|refine eD rfl ?_|(refine dr rfl ?_;refine cq (cH rfl) ?_)
     first|refine eD rfl ?_|(refine dr rfl ?_;refine cq (p6 q8 rfl) ?_)
     refine dr rfl ?_;refine cq (ff (b:=true) rfl (f5.2 U)) ?_;refine zX ?_;exact(.inl ⟨13,by decide,rfl,S.out⟩)
   ·skip;refine zg ?_;exact tE rfl rfl rfl (.inl ⟨e1,y,rfl,S.out⟩)
  ·rw[cC hk]at I;refine zC (Z W) ?_;intro aA am S;refine zT (J.gr S.out) hg ?_;refine Y9 (n:=b) (m:=kd) rfl aa ?_;refine zC (I _) ?_;intro aB an S;refine zX ?_;exact(.inl ⟨13,by decide,rfl,S.out⟩)
end
section
variable{K:Option Addr}{cap:Nat}{v:Int}
theorem Lf(x0 y0 x1 y1:Nat)(O:x0<=x1/\x1<1024)(U:y0<=y1/\y1<1024):Fn prog 137 [.agg #[ii x0,ii y0,ii x1,ii y1]] W (dp (.tuple #[ii (x1+1-x0:Nat),ii (y1+1-y0:Nat)]) W):=by
 have y:(x1:Int)-x0+1=((x1+1-x0:Nat):Int):=om;have z:(y1:Int)-y0+1=((y1+1-y0:Nat):Int):=om;have S:=St.start W;refine zI func137 ?_;refine zN ?_;intro v J D S;refine zD [0,1,2,3,4,5,6,7,8,9,10,11,12,13] [] ?_;rw[y];refine zQ ?_;rw[z];refine zE ?_;intro L I S;exact nd rfl rfl ⟨rfl,S.out⟩
structure Xn(gw gh:Nat)(W:World)(p:Nat)(V:List Int)(k:Nat)(tw th X0 Y0 X1 Y1:Nat):Prop where
 hw:1<=tw/\tw<=16
 hh:1<=th/\th<=16
 val:∀w,Gr W w->Fn prog 44 [pt p,.agg #[ii X0,ii Y0,ii X1,ii Y1]] w (jc (λs=>.tuple #[s,ii 0]) 2 1 (th*tw) (cY V) w)
 len:V.length=tw*th
 may:vM V
 siz:∀w,Fn prog 137 [.agg #[ii X0,ii Y0,ii X1,ii Y1]] w (dp (.tuple #[ii tw,ii th]) w)
 cel:((FZ gw gh).drop ((k:Int).toNat * 4)).take 4=[ii X0,ii Y0,ii X1,ii Y1]
def CI(gw gh:Nat)(cc:Nat->Int)(k:Nat):List Int:=fi gw cc (uI gw k) (vL gw k) (fQ gw (k%cU gw)) (fQ gh (k/cU gw))
theorem Ue(O:vB (dw gw gh cc))(z:k<cU gh*cU gw)(y:eJ W p gw gh cc A cap bs Rs):∃X0 Y0 X1 Y1,Xn gw gh W p (CI gw gh cc k) k (fQ gw (k%cU gw)) (fQ gh (k/cU gw)) X0 Y0 X1 Y1:=by
 have D:=y.sw;have Z:=y.sh;have hi:k%cU gw<cU gw:=dt _ (kQ D.1);have U:k/cU gw<cU gh:=cS (by rw[cD];exact z);have v:=F0 (gh:=gh) D.1 z;have S:=Jj (gh:=gh) D.1 z;have I:=mA hi;have J:=mA U;refine⟨uI gw k,vL gw k,z8 gw k,Aa gw gh k,I,J,λw g=>?_,by unfold CI;rw[lE,cD],λx V=>?_,λw=>?_,S⟩
 ·have h:=iz (W:=w) (uI gw k) (vL gw k) (z8 gw k) (Aa gw gh k) ⟨v.1.1,v.1.2.1⟩ ⟨v.2.1,v.2.2.1⟩ (y.gr g);rw[v.1.2.2,v.2.2.2]at h;exact h
 ·have L:=wN (x0:=uI gw k) (y0:=vL gw k) (x1:=z8 gw k) (y1:=Aa gw gh k) O v.1.2.1 v.2.2.1;rw[v.1.2.2,v.2.2.2]at L;have h:=L x V;unfold iL at h;simpa using h
 ·have h:=Lf (W:=w) (uI gw k) (vL gw k) (z8 gw k) (Aa gw gh k) ⟨v.1.1,om⟩ ⟨v.2.1,om⟩;rw[v.1.2.2,v.2.2.2]at h;exact h
theorem DI(hB:vB (dw gw gh cc))(hG:eJ W p gw gh cc A cap bs Rs) :
  Fn prog 144 [pt p] W (λu w'=>∃ks:List Nat,ks.length=cU gh*cU gw/\(∀k∈ks,k<=2)/\jc (λs=>.tuple #[s,ii 0]) 3 1 ks.length (cY (ks.map λx:Nat=>(x:Int))) W u w'):=by
 have h1:=jS hG.sw.2;have h2:=jS hG.sh.2;have hm:cU gh*cU gw<=64*64:=cE h2 h1;have ah:=λk(hk:k<cU gh*cU gw)=>Ue (W:=W) hB hk hG;have ai:=λw(g:Gr W w)=>xN (hG.gr g);obtain⟨n,hn⟩:∃n,cU gh*cU gw=n:=⟨_,rfl⟩;rw[hn]at hm ah ai;rw[hn];have S:=St.start W;refine zI func144 ?_;refine zK (ai W S.out) ?_;rintro _ aI ⟨v,y,rfl,J,O,am⟩;have S:=S.pushRow J O am;refine zg ?_;have S:=S.pushNil 3 1
 refine dl (λm e w=>∃(k:Nat)(ks:List Nat)(D:Option Addr)(I:Nat),k+m=n/\ks.length=k/\(∀k∈ks,k<=2)/\SL e [(0,pt p),(4,.slice D k I),(16,.slice v n y),(17,ii n),(18,ii k)] /\
   St No W w [.row 3 1 D k I (cY (ks.map λx:Nat=>(x:Int))),.row 24 4 v n y (FZ gw gh)]) n
  ⟨0,[],none,0,om,rfl,(λk h=>by cases h),sl,S⟩ ?_
 clear S;rintro m e w ⟨k,ks,D,I,hk,ae,z,au,S⟩;rw[au.fold];by_cases ar:k<n
 ·have aw:dO v:=(S.row (i:=1) rfl).someA om;obtain⟨X0,Y0,X1,Y1,hT⟩:=ah k ar;obtain⟨av,aq,aj,ab,ao,ag,ad⟩:=hT;have ap:=(QC (CI gw gh cc k) (fQ gw (k%cU gw))).1;have hV:∀q∈ks++[zu (CI gw gh cc k) (fQ gw (k%cU gw))],q<=2:=λq hq=>(ez.1 hq).elim (z q) λh=>by rw[dM.1 h];exact ap
  have ac:=λW A c hA=>Rp (W:=W) (A:=A) (c:=c) (w:=fQ gw (k%cU gw)) (h:=fQ gh (k/cU gw)) (V:=CI gw gh cc k) av aq ab ao hA;rw[ab,cD]at ac;generalize fQ gw (k%cU gw)=tw at *;generalize fQ gh (k/cU gw)=th at *;generalize zu (CI gw gh cc k) tw=bk at *;generalize CI gw gh cc k=Vt at *;refine zg ?_;refine ZU (S.rd (i:=1) rfl) ad ?_;refine zN ?_;intro aD aJ aE S;refine zS ?_;intro aK S;refine zK (aj _ S.out) ?_;rintro _ aL ⟨az,aA,rfl,L,U,an⟩;have S:=S.pushRow L U an;refine zC (ag _) ?_;intro aM aF S;refine zC (ac _ _ _ (S.rd (i:=0) rfl)) ?_;intro aN aG S;refine zg ?_;refine yb S ?_;intro al aO aH S ak;refine ZP 3 0 S ?_;intro Z aa aC S aB;refine zg ?_;have S:=S.sub (.cons _ (.cons _ (.cons _ (.cons_cons _ (.cons_cons _ .slnil)))));have es:cY (ks.map λx:Nat=>(x:Int))++[ii (bk:Nat)]=cY ((ks++[bk]).map λx:Nat=>(x:Int)):=by simp[cY]
  rw[es]at S;exact⟨m-1,om,k+1,ks++[bk],Z,aa,om,by simp[ae],hV,sl,S⟩
 ·obtain rfl:k=n:=om;subst ae;refine zX ?_;exact⟨ks,rfl,z,S.retNew (i:=0) (mk:=λs=>.tuple #[s,ii 0]) rfl⟩
end
end Go.Proofs.YtceahkcepefcaaaGreatDoor
