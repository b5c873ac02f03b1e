/- A part of the proof that hachuretop.WholeCharts and hachuretop.WholeWater returns true at every input; no condition. -/
import Derived.Test.YtcalhocphkbbgaaGreatDoorRows
import Derived.WalkKit
import Derived.ProofKit
import Derived.OpenShut
import Derived.Below
import Derived.ChangeSame
import Derived.ChangeReads
import Derived.DataReads
import Derived.Lib.SmallJoins
import Derived.Deep.Slices
import Derived.Test.YtcalhocphkbbgaaGreatDoorKZ
set_option maxRecDepth 100000
set_option maxHeartbeats 16000000
set_option linter.unusedVariables false
set_option linter.unusedSimpArgs false
namespace Go.Proofs.YtcalhocphkbbgaaGreatDoor
open Go.Proofs.Tryz Go.RowKit
variable{Q:(Nat->Value)->World->Prop}{fs:Array Field}{held:Bool}{f:FuncId}{h h':HA}{a ax ay bx e0:Int}{hd:List Nat}{args:List Operand}{l vs xs:List Value}{b by_ c c1 c2 g i j k m n p q t2 x0 x1 y0 y1:Nat}{sp:Nat->Bool}{c0:Nat->Int}{e:Nat->Value}{o:m5}{hi x:Operand}{A g0:Option Addr}{d:Option Tmp}{P:Program}{r':RG}{r:Rc}{s:lT}{H α β:Type}{t ts:TypeId}{W W' w w' w0:World}
open Go.RowKit Go.WideShapes Go.ChangeShapes
section
variable{enc:TypeId × Value->H}{base:Nat}
theorem S5{a:Addr}(h:w.cells? base a n=some l)(z:0<n):a.block<w.heap.size:=by
 unfold World.cells? at h;split at h
 ·obtain⟨y,v⟩:=mapM_each h 0 (dJ.2 z);rcases eV a.block w.heap.size with h'|h'
  ·exact h'
  ·have e:a.add 0=a:=rfl;rw[e]at v;simp[World.cell?,iK h']at v
 ·cases h
theorem O4(a:Addr)(k:Nat):(a.add k).block=a.block:=by unfold Addr.add;split<;>rfl
theorem EI(D:∀a v,w.cell? a=some v->w'.cell? a=some v){a:Addr}(h:w.cells? base a n=some l):w'.cells? base a n=some l:=by
 unfold World.cells? at h ⊢;split at h
 ·rename_i z;rw[a7 z];exact vu (λi y I=>D _ _ I) h
 ·cases h
theorem BS{α β:Type}{x v:Option α}{f f':α->Option β}{y:β}(D:∀a,x=some a->v=some a)(z:∀a b,f a=some b->f' a=some b)(h:x.bind f=some y):v.bind f'=some y:=by
 obtain⟨a,h1,h2⟩:=iv.1 h;exact iv.2 ⟨a,D a h1,z a y h2⟩
theorem D4{α β:Type}{x v:Option α}{f:α->β}{y:β}(z:∀a,x=some a->v=some a)(h:x.map f=some y):v.map f=some y:=by
 obtain⟨a,h1,h2⟩:=fl.1 h;exact fl.2 ⟨a,z a h1,h2⟩
theorem IG{f g:α->Option β}:∀{l:List α}{r:List β},(∀x∈l,∀y,f x=some y->g x=some y)->l.mapM f=some r->l.mapM g=some r
 |[],r,_,h=>by simpa using h
 |x::xs,r,hfg,h=>by
  rw[List.mapM_cons]at h ⊢
  obtain⟨a,D,h2⟩:=iv.1 h
  obtain⟨b,I,v⟩:=iv.1 h2;exact iv.2 ⟨a,hfg x (by simp) a D,iv.2 ⟨b,IG (λz J=>hfg z (by simp[J])) I,v⟩⟩
def uH(P:Program):Nat->TypeId->Bool
 |0,_=>false
 |n+1,t=>match P.underlying t with
  |some .bool=>true
  |some (.int _)=>true
  |some (.float _)=>true
  |some .string=>true
  |some (.slice e)=>Nat.blt 0 (P.cellsOf e)&&uH P n e
  |some (.struct fs)=>fs.toList.all λf=>uH P n f.type
  |some (.array _ e)=>uH P n e
  |_=>false
def n8(P:Program)(t:TypeId):Prop:=∃n,uH P n t=true
theorem n8.slice{e:TypeId}(h:n8 P t)(v:P.underlying t=some (.slice e)):0<P.cellsOf e/\n8 P e:=by
 obtain⟨n,h⟩:=h;cases n with
 |zero=>cases h
 |succ n =>
  simp only[uH,v,cM]at h;exact⟨eC h.1,n,h.2⟩
theorem n8.struct(h:n8 P t)(y:P.underlying t=some (.struct fs)){f:Field}(v:f∈fs.toList):n8 P f.type:=by
 obtain⟨n,h⟩:=h;cases n with
 |zero=>cases h
 |succ n =>
  simp only[uH,y]at h;exact⟨n,dh.1 h f v⟩
theorem n8.array{e:TypeId}(h:n8 P t)(v:P.underlying t=some (.array m e)):n8 P e:=by
 obtain⟨n,h⟩:=h;cases n with
 |zero=>cases h
 |succ n =>
  simp only[uH,v]at h;exact⟨n,h⟩
theorem n8.noptr{e:TypeId}(h:n8 P t)(v:P.underlying t=some (.pointer e)):False:=by
 obtain⟨n,h⟩:=h;cases n with
 |zero=>cases h
 |succ n=>simp[uH,v]at h
theorem n8.noiface{y:Array (String×TypeId)}(h:n8 P t)(v:P.underlying t=some (.interface y)):False:=by
 obtain⟨n,h⟩:=h;cases n with
 |zero=>cases h
 |succ n=>simp[uH,v]at h
theorem n8.nomap{k e:TypeId}(h:n8 P t)(v:P.underlying t=some (.map k e)):False:=by
 obtain⟨n,h⟩:=h;cases n with
 |zero=>cases h
 |succ n=>simp[uH,v]at h
theorem O5(hc:∀a v,w.cell? a=some v->w'.cell? a=some v){r r':TypeId->List Value->Option (DataW H×List MemPlace)}(O:∀t,n8 P t->∀cs x,r t cs=some x->r' t cs=some x)(Z:∀b,b<w.heap.size->sp b=true)(J:n8 P t){cs:List Value}{x:DataW H×List MemPlace}(h:DataW.trodStep enc P w base (λ_=>true) held r t cs=some x):DataW.trodStep enc P w' base sp held r' t cs=some x:=by
 unfold DataW.trodStep at h ⊢;split at h
 case h_6=>rename_i D;exact(J.noptr D).elim
 case h_8 =>
  rename_i e a len cap D;have hz:=J.slice D;dsimp only at h ⊢;split at h
  ·rename_i L;rw[a7 L];refine BS (λ_=>vu (λi y=>BS (λ_=>EI hc) (λ_ _=>O _ hz.2 _ _))) (λS z=>D4 (λrest I=>?_)) h;rw[a7 rfl]at I;by_cases V:sp a.block=true
   ·rw[a7 V];exact vu (λj y=>BS (λ_=>EI hc) (λ_ _=>O _ hz.2 _ _)) I
   ·rw[a8 V];by_cases U:cap-len=0
    ·rw[U]at I;simpa using I
    ·obtain⟨y,hy⟩:=mapM_each I 0 (dJ.2 om);obtain⟨l,hl,_⟩:=iv.1 hy;have:=S5 hl hz.1;rw[O4]at this;exact absurd (Z _ this) V
  ·cases h
 case h_9 =>
  rename_i D;split at h
  ·rename_i L;rw[a7 L];exact D4 (λ_=>IG (λf hf y=>O _ (J.struct D hf) _ _)) h
  ·cases h
 case h_10 =>
  rename_i D;split at h
  ·rename_i L;rw[a7 L];exact D4 (λ_=>vu (λf y=>O _ (J.array D) _ _)) h
  ·cases h
 case h_12=>rename_i D;exact(J.noiface D).elim
 case h_14=>rename_i D;exact(J.nomap D).elim
 all_goals first|exact h|(cases h;done)
theorem EJ(hc:∀a v,w.cell? a=some v->w'.cell? a=some v)(hsp:∀b,b<w.heap.size->sp b=true) :
  ∀(n:Nat)(t:TypeId),n8 P t->∀(cs:List Value)(x:DataW H×List MemPlace),DataW.trod enc P w base (λ_=>true) held n t cs=some x->DataW.trod enc P w' base sp held n t cs=some x
 |0,t,_,cs,x,h=>by simp[DataW.trod]at h
 |n+1,t,ht,cs,x,h=>O5 hc (EJ hc hsp n) hsp ht h
theorem Gr.cells(g:Gr W W')(a:Addr)(v:Value)(h:W.cell? a=some v):W'.cell? a=some v:=by
 have y:a.block<W.heap.size:=by
  rcases eV a.block W.heap.size with h'|h'
  ·exact h'
  ·simp[World.cell?,iK h']at h
 rw[s8 (g.block _ y)];exact h
theorem EK(g:Gr W W')(y:∀b,b<W.heap.size->sp b=true):∀{ts:List TypeId}{vs:List Value}{ds:List (DataW H)}{p:List MemPlace},(∀t∈ts,n8 P t)->DataW.TrodAll enc P W base (λ_=>true) held ts vs ds p->DataW.TrodAll enc P W' base sp held ts vs ds p
 |[],vs,ds,p,_,h=>by cases vs<;>cases ds<;>first|exact h|cases h
 |t::ts,vs,ds,p,ht,h=>by
  obtain⟨v,D,d,z,p,q,rfl,rfl,rfl,⟨f,h1⟩,h2⟩:=trodAll_cons h
  exact trodAll_cons_mk ⟨f,EJ g.cells y f _ (ht t (by simp)) _ _ h1⟩ (EK g y (λt h=>ht t (by simp[h])) h2)
theorem O6{ts:List TypeId}(h:(ts.all λt=>uH P 8 t)=true):∀t∈ts,n8 P t:=λt v=>⟨8,dh.1 h t v⟩
theorem Mm{f:Func}{s:ChangeSpec}{y O z L:Bool}{args:Array Value}{v:Value}{I gs:List (DataW H)}{D:List MemPlace}(hz:∀t∈f.params.toList,n8 P t)(hW:DataW.Whole enc P f.params.toList s.vars y W args.toList I gs D)(hv:s.vars=[])(hg:Gr W W')(ha:(s.fn H (I++gs)).args=I)(ai:(s.fn H (I++gs)).vars=[])(J:∀(b:Nat)(sp:Nat→Bool)(hd:Bool),DataW.TrodAll enc P W' b sp hd f.resultTypes.toList (v.resultList f.resultTypes.size) (s.fn H (I++gs)).results [])(ag:∀(j:Nat)(t:TypeId)(r:Value),f.resultTypes[j]?=some t→(v.resultList f.resultTypes.size)[j]?=some r→Value.okWide P W' .any 0 t r) :
    s.post enc P f y O z L W args v W':=by
  have S:=hW;obtain⟨p,q,hA,hV,rfl,ac,ae⟩:=hW;rw[hv]at hV;obtain⟨rfl,rfl⟩:=trodVars_none hV;have ad:∀x∈p++[],x.block<W.heap.size:=λx hx=>S.lt x hx;have V:∀b,b<W.heap.size→(λb=>decide (b<W.heap.size)) b=true:=λb hb=>by simpa using hb
  have h1:∀sp:Nat→Bool,(∀b,b<W.heap.size→sp b=true)→DataW.TrodAll enc P W' 0 sp true f.params.toList args.toList (s.fn H (I++[])).args p:=λsp ah=>by rw[ha];exact EK hg ah hz hA
  have Z:∀sp:Nat→Bool,DataW.TrodVars enc P W' sp s.vars (s.fn H (I++[])).vars []:=λsp=>by rw[hv,ai];rfl
  refine⟨I,[],p++[],[],p,[],S,J _ _ _,h1 _ V,Z _,World.keptBut_mono (λx hx=>⟨hx,?_⟩) (hg.frame (·∈p++[])),λ_=>?_⟩
  · rw[ez]at hx
    exact Or.inr hx
  · refine⟨ag,_,_,([]++p)++[],⟨[]++p,[],trodAll_append (h1 _ (λ_ _=>rfl)) (J _ _ _),Z _,rfl,?_,?_⟩,?_⟩
    · intro b aa hp
      have U:MemPlace.cell b aa∈p++[]:=by simpa using hp
      rw[Below.frozen hg (ad _ U)]
      exact ac b aa U
    · intro ab
      have:=ae ab
      simpa using this
    · intro x hp _
      simpa using hp
end
namespace args
open Go.ChangeShapes Go.WideShapes Go.ChangeAt Go.RowKit Go.Joins
def Vw(n:Int):Prop:=-9223372036854775808<=n/\n<=9223372036854775807
theorem abK{H:Type}{enc:TypeId×Value->H}{z:Nat}{v:Value}{d:DataW H}{p:List MemPlace}(I:Value.okWide Tryz.prog W .any z 24 v)(h:DataW.Trod enc Tryz.prog W 0 (λ_=>true) held 24 v d p) :
  ∃x y:Int,v=.agg #[.int .i64 x,.int .i64 y]/\Vw x/\Vw y:=by
 obtain⟨S,U,y0,y1,n,rfl,_,_,J,L⟩:=open_agg2 Tryz.underlying24 (by kernel_rfl) (by kernel_rfl) I h;obtain⟨a,e0,_,w0⟩:=qb rL J;obtain⟨b,D,_,O⟩:=qb rL L;injection e0 with e0;injection D with D;subst e0;subst D;exact⟨a,b,rfl,by simpa [Vw,Lit.wf,IntKind.min,IntKind.max,IntKind.signed,IntKind.bits]using w0,by simpa [Vw,Lit.wf,IntKind.min,IntKind.max,IntKind.signed,IntKind.bits]using O⟩
theorem abL{H:Type}{enc:TypeId×Value->H}{y:Nat}{v:Value}{d:DataW H}{p:List MemPlace}(J:Value.okWide Tryz.prog W .any y 43 v)(h:DataW.Trod enc Tryz.prog W 0 (λ_=>true) held 43 v d p) :
  ∃x0 y0 x1 y1:Int,v=.agg #[.int .i64 x0,.int .i64 y0,.int .i64 x1,.int .i64 y1]/\Vw x0/\Vw y0/\Vw x1/\Vw y1:=by
 obtain⟨u0,u1,u2,u3,y0,y1,y2,y3,n,rfl,_,_,L,O,t2,S⟩:=open_agg4 Tryz.underlying43 (by kernel_rfl) (by kernel_rfl) J h;obtain⟨a,e0,_,w0⟩:=qb rL L;obtain⟨b,z,_,U⟩:=qb rL O;obtain⟨c,D,_,V⟩:=qb rL t2;obtain⟨f,I,_,Z⟩:=qb rL S;injection e0 with e0;injection z with z;injection D with D;injection I with I;subst e0;subst z;subst D;subst I
 exact⟨a,b,c,f,rfl,by simpa [Vw,Lit.wf,IntKind.min,IntKind.max,IntKind.signed,IntKind.bits]using w0,by simpa [Vw,Lit.wf,IntKind.min,IntKind.max,IntKind.signed,IntKind.bits]using U,
  by simpa [Vw,Lit.wf,IntKind.min,IntKind.max,IntKind.signed,IntKind.bits]using V,by simpa [Vw,Lit.wf,IntKind.min,IntKind.max,IntKind.signed,IntKind.bits]using Z⟩
end args
namespace args
open Go.ChangeShapes Go.WideShapes Go.ChangeAt Go.RowKit Go.Joins Go.Deep
theorem C9{Q:Nat->α->Prop}:∀n:Nat,(∀i,i<n->∃a,Q i a)->∃l:List α,l.length=n/\∀i a,l[i]?=some a->Q i a
 |0,_=>⟨[],rfl,λi a h=>by cases h⟩
 |n+1,h=>by
  obtain⟨l,y,D⟩:=C9 n (λi hi=>h i om)
  obtain⟨a,z⟩:=h n om;refine⟨l++[a],by simp[y],λi b v=>?_⟩;by_cases hi:i<n
  ·rw[gt om]at v;exact D i b v
  ·have e:i=n:=by
    have:=(dq.1 v).1;simp at this;omega
   subst e;rw[fU om,y]at v;simp at v;subst v;exact z
theorem JY{a:Addr}{L:List Value}(h:∀(i:Nat)v,L[i]?=some v->W.cell? (a.add i)=some v):Rd W (some a) L:=by
 cases L with
 |nil=>exact .inl rfl
 |cons J r =>
  have y:=h 0 J rfl;have e0:a.add 0=a:=rfl;rw[e0]at y
  have z:a.block<W.heap.size:=by
   rcases eV a.block W.heap.size with h'|h'
   ·exact h'
   ·simp[World.cell?,iK h']at y
  have D:a.spot=none:=by
   unfold World.cell? at y;split at y
   ·split at y
    ·cases y
    ·rename_i h;simpa using h
   ·cases y
  obtain⟨b,o,sp⟩:=a;dsimp only at D z;subst D;exact .inr ⟨b,o,rfl,z,λj v I=>by rw[<-h j v I,js]⟩
section
variable{enc:TypeId × Value->H}{base:Nat}
theorem AT{f:α->List Value}(hk:∀a,(f a).length=k){e:TypeId}{fuel:Nat}{v:Value}{x:DataW H×List MemPlace}(ht:P.underlying t=some (.slice e))(hc:P.cellsOf e=k){Q:α->Prop}(ac:∀n cs y,DataW.trod enc P W base (λ_=>true) held n e cs=some y->∃a,cs=f a/\Q a)(h:DataW.trod enc P W base (λ_=>true) held fuel t [v]=some x) :
  ∃(A:Option Addr)(c:Nat)(l:List α),v=.slice A l.length c/\l.length<=c/\l.length<=9223372036854775807/\(∀a∈l,Q a)/\Rd W A (l.flatMap f):=by
 rcases open_slice ht h with⟨h1,_⟩|⟨a,len,cap,m,n,D,Pl,h1,_,hl,hm,O,_,hi⟩
 ·injection h1 with h1;exact⟨_,_,[],h1,fK _,by simp,(λa ha=>by cases ha),.inl rfl⟩
 ·injection h1 with h1;rw[a7 rfl]at O;subst O
  obtain⟨l,aa,hq⟩:=C9 (α:=α) (Q:=λi b=>(∀j v,(f b)[j]?=some v->W.cell? (a.add (i*k+j))=some v)/\Q b) len (λi ae=>by
   obtain⟨cs,V,hy⟩:=hi i om;obtain⟨b,rfl,I⟩:=ac _ _ _ hy;obtain⟨_,ad,U⟩:=World.cells?_some V;refine⟨b,λj v hj=>?_,I⟩;have ag:=(dq.1 hj).1;rw[<-add_add,<-hj,<-hc];exact U j om)
  unfold maxLen at hm;refine⟨some a,m,l,by rw[aa];exact h1,om,om,λb I=>?_,JY λi v L=>?_⟩
  ·obtain⟨i,hi⟩:=jI I;exact(hq i b hi).2
  ·have z:=(dq.1 L).1;rw[lF hk]at z
   have Z:0<k:=by
    rcases iZ k with S|S
    ·rw[S,Nat.mul_zero]at z;omega
    ·exact S
   have hd:i/k<l.length:=cS (by rw[cD];exact z);have ab:=dt i Z;have J:i/k*k+i%k=i:=by rw[cD];exact dP i k
   have I:l[i/k]?=some (l[i/k]):=fw hd;have:=qe (f:=f) hk I ab;rw[J,L]at this;have h2:=(hq _ _ I).1 _ _ this.symm;rwa[J]at h2
theorem tp{cs:List Value}{x:DataW H×List MemPlace}(h:DataW.trod enc Tryz.prog W base (λ_=>true) held n 2 cs=some x):∃a,cs=[.int .i64 a]/\Vw a:=by
 obtain⟨a,rfl,_,w⟩:=qb rL h;exact⟨a,rfl,by simpa [Vw,Lit.wf,IntKind.min,IntKind.max,IntKind.signed,IntKind.bits]using w⟩
theorem IH{cs:List Value}{x:DataW H×List MemPlace}(h:DataW.trod enc Tryz.prog W base (λ_=>true) held n 24 cs=some x):∃a b,cs=[.int .i64 a,.int .i64 b]:=by
 obtain⟨y0,y1,k,_,D,z,h1⟩:=trod_struct2 Tryz.underlying24 h;have I:Tryz.prog.cellsOf 24=2:=by kernel_rfl
 have v:Tryz.prog.cellsOf 2=1:=by kernel_rfl
 rw[I]at D;rw[v]at z h1;match cs,D with
 |[c0,c1],_ =>
  obtain⟨a,e0,_⟩:=tp z;obtain⟨b,y,_⟩:=tp h1;simp at e0 y;exact⟨a,b,by rw[e0,y]⟩
theorem S7{cs:List Value}{x:DataW H×List MemPlace}(h:DataW.trod enc Tryz.prog W base (λ_=>true) held n 43 cs=some x):∃a b c d,cs=[.int .i64 a,.int .i64 b,.int .i64 c,.int .i64 d]:=by
 obtain⟨xs,k,_,_,Z,D,I⟩:=DataW.trod_struct Tryz.underlying43 h;have hC:Tryz.prog.cellsOf 43=4:=by kernel_rfl
 have z:Tryz.prog.cellsOf 2=1:=by kernel_rfl
 rw[hC]at Z;have v:∀i,i<4->∃y,xs[i]?=some y:=λi hi=>⟨_,fw (by rw[D];exact hi)⟩;match cs,Z with
 |[c0,c1,c2,c3],_ =>
  have S:DataW.trod enc Tryz.prog W base (λ_=>true) held k 2 (([c0,c1,c2,c3].drop 0).take (Tryz.prog.cellsOf 2))=xs[0]?:=I 0 _ rfl;obtain⟨y0,g0⟩:=v 0 (by decide);rw[g0,z]at S;have U:DataW.trod enc Tryz.prog W base (λ_=>true) held k 2 (([c0,c1,c2,c3].drop 1).take (Tryz.prog.cellsOf 2))=xs[1]?:=I 1 _ rfl;obtain⟨y1,g1⟩:=v 1 (by decide);rw[g1,z]at U;have f2:DataW.trod enc Tryz.prog W base (λ_=>true) held k 2 (([c0,c1,c2,c3].drop 2).take (Tryz.prog.cellsOf 2))=xs[2]?:=I 2 _ rfl;obtain⟨y2,g2⟩:=v 2 (by decide);rw[g2,z]at f2;have V:DataW.trod enc Tryz.prog W base (λ_=>true) held k 2 (([c0,c1,c2,c3].drop 3).take (Tryz.prog.cellsOf 2))=xs[3]?:=I 3 _ rfl;obtain⟨y3,g3⟩:=v 3 (by decide);rw[g3,z]at V;obtain⟨a,e0,_⟩:=tp S;obtain⟨b,J,_⟩:=tp U;obtain⟨c,L,_⟩:=tp f2;obtain⟨d,O,_⟩:=tp V;simp at e0 J L O;exact⟨a,b,c,d,by rw[e0,J,L,O]⟩
theorem Vx{cs:List Value}{x:DataW H×List MemPlace}(h:DataW.trod enc Tryz.prog W base (λ_=>true) held n 82 cs=some x):∃b:Int×Int,cs=[.int .i64 b.1,.int .i32 b.2]/\True:=by
 obtain⟨y0,y1,k,_,y,z,h1⟩:=trod_struct2 Tryz.underlying82 h;have D:Tryz.prog.cellsOf 82=2:=by kernel_rfl
 rw[D]at y;obtain⟨a,e0,_⟩:=tp z;obtain⟨b,v,_⟩:=qb qO h1;rw[show Tryz.prog.cellsOf 2=1 by kernel_rfl]at e0;rw[show Tryz.prog.cellsOf 21=1 by kernel_rfl]at v;match cs,y with
 |[c0,c1],_ =>
  simp at e0 v;exact⟨(a,b),by rw[e0,v],trivial⟩
theorem XN{cs:List Value}{x:DataW H×List MemPlace}(h:DataW.trod enc Tryz.prog W base (λ_=>true) held n 46 cs=some x):∃o:m5,cs=o.cs/\wV W o:=by
 obtain⟨xs,k,_,_,hl,J,D⟩:=DataW.trod_struct Tryz.underlying46 h;rw[show Tryz.prog.cellsOf 46=14 by kernel_rfl]at hl;have v:∀i,i<9->∃y,xs[i]?=some y:=λi hi=>⟨_,fw (by rw[J];exact hi)⟩;match cs,hl with
 |[c0,c1,c2,c3,c4,c5,c6,z,c8,c9,c10,c11,c12,c13],_ =>
  have h0:DataW.trod enc Tryz.prog W base (λ_=>true) held k 3 (([c0,c1,c2,c3,c4,c5,c6,z,c8,c9,c10,c11,c12,c13].drop 0).take (Tryz.prog.cellsOf 3))=xs[0]?:=D 0 _ rfl;obtain⟨y0,g0⟩:=v 0 (by decide);rw[g0,show Tryz.prog.cellsOf 3=1 by kernel_rfl]at h0;have h1:DataW.trod enc Tryz.prog W base (λ_=>true) held k 43 (([c0,c1,c2,c3,c4,c5,c6,z,c8,c9,c10,c11,c12,c13].drop 1).take (Tryz.prog.cellsOf 43))=xs[1]?:=D 1 _ rfl;obtain⟨y1,g1⟩:=v 1 (by decide);rw[g1,show Tryz.prog.cellsOf 43=4 by kernel_rfl]at h1;have h2:DataW.trod enc Tryz.prog W base (λ_=>true) held k 24 (([c0,c1,c2,c3,c4,c5,c6,z,c8,c9,c10,c11,c12,c13].drop 5).take (Tryz.prog.cellsOf 24))=xs[2]?:=D 2 _ rfl;obtain⟨y2,g2⟩:=v 2 (by decide);rw[g2,show Tryz.prog.cellsOf 24=2 by kernel_rfl]at h2;have h3:DataW.trod enc Tryz.prog W base (λ_=>true) held k 24 (([c0,c1,c2,c3,c4,c5,c6,z,c8,c9,c10,c11,c12,c13].drop 7).take (Tryz.prog.cellsOf 24))=xs[3]?:=D 3 _ rfl;obtain⟨y3,g3⟩:=v 3 (by decide);rw[g3,show Tryz.prog.cellsOf 24=2 by kernel_rfl]at h3;have h4:DataW.trod enc Tryz.prog W base (λ_=>true) held k 2 (([c0,c1,c2,c3,c4,c5,c6,z,c8,c9,c10,c11,c12,c13].drop 9).take (Tryz.prog.cellsOf 2))=xs[4]?:=D 4 _ rfl;obtain⟨y4,g4⟩:=v 4 (by decide);rw[g4,show Tryz.prog.cellsOf 2=1 by kernel_rfl]at h4;have h5:DataW.trod enc Tryz.prog W base (λ_=>true) held k 2 (([c0,c1,c2,c3,c4,c5,c6,z,c8,c9,c10,c11,c12,c13].drop 10).take (Tryz.prog.cellsOf 2))=xs[5]?:=D 5 _ rfl;obtain⟨y5,g5⟩:=v 5 (by decide);rw[g5,show Tryz.prog.cellsOf 2=1 by kernel_rfl]at h5;have L:DataW.trod enc Tryz.prog W base (λ_=>true) held k 29 (([c0,c1,c2,c3,c4,c5,c6,z,c8,c9,c10,c11,c12,c13].drop 11).take (Tryz.prog.cellsOf 29))=xs[6]?:=D 6 _ rfl;obtain⟨y6,g6⟩:=v 6 (by decide);rw[g6,show Tryz.prog.cellsOf 29=1 by kernel_rfl]at L;have O:DataW.trod enc Tryz.prog W base (λ_=>true) held k 37 (([c0,c1,c2,c3,c4,c5,c6,z,c8,c9,c10,c11,c12,c13].drop 12).take (Tryz.prog.cellsOf 37))=xs[7]?:=D 7 _ rfl;obtain⟨y7,g7⟩:=v 7 (by decide);rw[g7,show Tryz.prog.cellsOf 37=1 by kernel_rfl]at O;have S:DataW.trod enc Tryz.prog W base (λ_=>true) held k 44 (([c0,c1,c2,c3,c4,c5,c6,z,c8,c9,c10,c11,c12,c13].drop 13).take (Tryz.prog.cellsOf 44))=xs[8]?:=D 8 _ rfl;obtain⟨y8,g8⟩:=v 8 (by decide);rw[g8,show Tryz.prog.cellsOf 44=1 by kernel_rfl]at S;obtain⟨kd,e0,_,_⟩:=qb la h0;obtain⟨x0,y0,x1,y1,I⟩:=S7 h1;obtain⟨ax,ay,Z⟩:=IH h2;obtain⟨bx,by_,e3⟩:=IH h3;obtain⟨nn,e4,w4⟩:=tp h4;obtain⟨mm,e5,w5⟩:=tp h5;replace L:DataW.trod enc Tryz.prog W base (λ_=>true) held k 29 [c11]=some _:=L;replace O:DataW.trod enc Tryz.prog W base (λ_=>true) held k 37 [c12]=some _:=O;replace S:DataW.trod enc Tryz.prog W base (λ_=>true) held k 44 [c13]=some _:=S;obtain⟨A6,k6,U,e6,_,_,_,r6⟩:=AT (k:=1) (f:=λa:Int=>[Value.int .i64 a]) (λ_=>rfl) Tryz.underlying29 (by kernel_rfl) (Q:=λa=>Vw a) (λn cs y h=>tp h) L
  obtain⟨A7,k7,V,e7,z,_,_,r7⟩:=AT (k:=1) (f:=λa:Int=>[Value.int .u8 a]) (λ_=>rfl) qD (by kernel_rfl) (Q:=λa=>True) (λn cs y h=>by
   obtain⟨a,rfl,_,w⟩:=qb mw h;exact⟨a,rfl,trivial⟩) O
  obtain⟨A8,k8,l8,e8,c8,_,_,r8⟩:=AT (k:=2) (f:=λb:Int×Int=>[Value.int .i64 b.1,.int .i32 b.2]) (λ_=>rfl) Tryz.underlying44 (by kernel_rfl) (Q:=λa=>True) (λn cs y h=>Vx h) S;simp at e0 I Z e3 e4 e5;refine⟨⟨kd,x0,y0,x1,y1,ax,ay,bx,by_,nn,mm,⟨A6,U.length,k6⟩,⟨A7,V.length,k7⟩,⟨A8,l8.length,k8⟩⟩,?_,w4,w5,⟨U,rfl,?_⟩,⟨V,rfl,z,?_⟩,⟨l8,rfl,c8,r8⟩⟩
  ·rw[e0,I.1,I.2.1,I.2.2.1,I.2.2.2,Z.1,Z.2,e3.1,e3.2,e4,e5,e6,e7,e8];rfl
  ·rwa[show U.flatMap (λa:Int=>[Value.int .i64 a])=cY U by rw[cY,List.map_eq_flatMap]]at r6
  ·rwa[show V.flatMap (λa:Int=>[Value.int .u8 a])=f9 V by rw[f9,List.map_eq_flatMap]]at r7
theorem YD{v:Value}{d:DataW H}{p:List MemPlace}(I:Value.okWide Tryz.prog W .any base 22 v)(h:DataW.Trod enc Tryz.prog W 0 (λ_=>true) held 22 v d p) :
  ∃(A:Option Addr)(c:Nat)(os:List m5),v=.slice A os.length c/\(∀o∈os,wV W o)/\Rd W A (G0 os):=by
 obtain⟨A,n,c,rfl⟩:=okWide_slice Tryz.underlying22 I;obtain⟨f,t⟩:=h;obtain⟨A,c,l,e,_,_,z,D⟩:=AT (k:=14) (f:=m5.cs) (λ_=>rfl) Tryz.underlying22 (by kernel_rfl) (Q:=λo=>wV W o) (λn cs y h=>XN h) t;exact⟨A,c,l,e,z,D⟩
end
end args
namespace args
open Go.ChangeShapes Go.WideShapes Go.ChangeAt Go.RowKit Go.Joins Go.Deep
section
variable{enc:TypeId × Value->H}{base:Nat}
theorem abJ{v:Value}{d:DataW H}{p:List MemPlace}(D:Value.okWide prog W .any base 44 v)(h:DataW.Trod enc prog W 0 (λ_=>true) held 44 v d p) :
  ∃(A:Option Addr)(c:Nat)(xs:List (Int×Int)),v=.slice A xs.length c/\(xs.length<=c/\xs.length<=9223372036854775807)/\Rd W A (kI xs):=by
 obtain⟨A,n,c,rfl⟩:=okWide_slice iG D;obtain⟨f,t⟩:=h;obtain⟨A,c,l,e,h1,h2,_,z⟩:=AT (k:=2) (f:=λb:Int×Int=>[ii b.1,.int .i32 b.2]) (λ_=>rfl) iG (by kernel_rfl) (Q:=λa=>True) (λn cs y h=>Vx h) t;exact⟨A,c,l,e,⟨h1,h2⟩,z⟩
end
end args
end Go.Proofs.YtcalhocphkbbgaaGreatDoor
