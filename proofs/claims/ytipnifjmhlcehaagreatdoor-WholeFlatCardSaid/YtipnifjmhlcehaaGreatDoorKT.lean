/- hachuretop.WholeFlat: a part of the proof that the law returns true at every input (Keep, Args); no condition of its own. -/
import Derived.Test.YtipnifjmhlcehaaGreatDoorRows
import Derived.WalkKit
import Derived.ProofKit
import Derived.OpenShut
import Derived.Below
import Derived.ChangeSame
import Derived.ChangeReads
import Derived.DataReads
import Derived.Lib.SmallJoins
import Derived.Test.YtipnifjmhlcehaaGreatDoorKA
import Derived.Test.YtipnifjmhlcehaaGreatDoorKC
import Derived.Test.YtipnifjmhlcehaaGreatDoorKD
import Derived.Test.YtipnifjmhlcehaaGreatDoorKE
set_option linter.unusedVariables false
set_option linter.unusedSimpArgs false
set_option maxRecDepth 100000
set_option maxHeartbeats 16000000
namespace Go.Proofs.YtipnifjmhlcehaaGreatDoor
section
open Go.RowKit Go.WideShapes Go.ChangeShapes
section
variable {H : Type} {enc : TypeId × Value → H} {P : Program} {w w' : World} {base : Nat} {sp : Nat → Bool} {held : Bool}
theorem jhV {a:Addr} {n:Nat} {l:List Value} (h:w.cells? base a n=some l) (hn:0 < n):a.block < w.heap.size:=by
 unfold World.cells? at h
 split at h
 ·obtain ⟨y,hy⟩:=mapM_each h 0 (List.mem_range.2 hn)
  rcases Nat.lt_or_ge a.block w.heap.size with h' | h'
  ·exact h'
  ·have e:a.add 0=a:=rfl
   rw [e] at hy
   simp [World.cell?,Array.getElem?_eq_none h'] at hy
 ·cases h
theorem jf3 (a:Addr) (k:Nat):(a.add k).block=a.block:=by unfold Addr.add; split <;> rfl
theorem mY (hc:∀ a v,w.cell? a=some v->w'.cell? a=some v) {a:Addr} {n:Nat} {l:List Value} (h:w.cells? base a n=some l):w'.cells? base a n=some l:=by
 unfold World.cells? at h ⊢
 split at h
 ·rename_i hb
  rw [if_pos hb]
  exact mapM_mono (fun i y hy=>hc _ _ hy) h
 ·cases h
theorem s9 {α β:Type} {x x':Option α} {f f':α->Option β} {y:β} (hx:∀ a,x=some a->x'=some a) (hf:∀ a b,f a=some b->f' a=some b) (h:x.bind f=some y):x'.bind f'=some y:=by
 obtain ⟨a,h1,h2⟩:=Option.bind_eq_some_iff.1 h
 exact Option.bind_eq_some_iff.2 ⟨a,hx a h1,hf a y h2⟩
theorem mB {α β:Type} {x x':Option α} {f:α->β} {y:β} (hx:∀ a,x=some a->x'=some a) (h:x.map f=some y):x'.map f=some y:=by
 obtain ⟨a,h1,h2⟩:=Option.map_eq_some_iff.1 h
 exact Option.map_eq_some_iff.2 ⟨a,hx a h1,h2⟩
theorem jcp {α β:Type} {f g:α->Option β}:∀ {l:List α} {r:List β},(∀ x ∈ l,∀ y,f x=some y->g x=some y)->l.mapM f=some r->l.mapM g=some r
 | [],r,_,h=>by simpa using h
 | x::xs,r,hfg,h=>by
  rw [List.mapM_cons] at h ⊢
  obtain ⟨a,ha,h2⟩:=Option.bind_eq_some_iff.1 h
  obtain ⟨b,hb,h3⟩:=Option.bind_eq_some_iff.1 h2
  exact Option.bind_eq_some_iff.2 ⟨a,hfg x (by simp) a ha,Option.bind_eq_some_iff.2 ⟨b,jcp (fun z hz=>hfg z (by simp [hz])) hb,h3⟩⟩
def wB (P:Program):Nat->TypeId->Bool
 | 0,_=>false
 | n+1,t=>match P.underlying t with
  | some .bool=>true
  | some (.int _)=>true
  | some (.float _)=>true
  | some .string=>true
  | some (.slice e)=>Nat.blt 0 (P.cellsOf e) && wB P n e
  | some (.struct fs)=>fs.toList.all fun f=>wB P n f.type
  | some (.array _ e)=>wB P n e
  | _=>false
def Plain (P:Program) (t:TypeId):Prop:=∃ n,wB P n t=true
theorem Plain.slice {t e:TypeId} (h:Plain P t) (hu:P.underlying t=some (.slice e)):0 < P.cellsOf e/\Plain P e:=by
 obtain ⟨n,h⟩:=h
 cases n with
 | zero=>cases h
 | succ n =>
  simp only [wB,hu,Bool.and_eq_true] at h
  exact ⟨Nat.le_of_ble_eq_true h.1,n,h.2⟩
theorem Plain.struct {t:TypeId} {fs:Array Field} (h:Plain P t) (hu:P.underlying t=some (.struct fs)) {f:Field} (hf:f ∈ fs.toList):Plain P f.type:=by
 obtain ⟨n,h⟩:=h
 cases n with
 | zero=>cases h
 | succ n =>
  simp only [wB,hu] at h
  exact ⟨n,List.all_eq_true.1 h f hf⟩
theorem Plain.array {t e:TypeId} {m:Nat} (h:Plain P t) (hu:P.underlying t=some (.array m e)):Plain P e:=by
 obtain ⟨n,h⟩:=h
 cases n with
 | zero=>cases h
 | succ n =>
  simp only [wB,hu] at h
  exact ⟨n,h⟩
theorem Plain.noptr {t e:TypeId} (h:Plain P t) (hu:P.underlying t=some (.pointer e)):False:=by
 obtain ⟨n,h⟩:=h
 cases n with
 | zero=>cases h
 | succ n=>simp [wB,hu] at h
theorem Plain.noiface {t:TypeId} {ms:Array (String × TypeId)} (h:Plain P t) (hu:P.underlying t=some (.interface ms)):False:=by
 obtain ⟨n,h⟩:=h
 cases n with
 | zero=>cases h
 | succ n=>simp [wB,hu] at h
theorem Plain.nomap {t k e:TypeId} (h:Plain P t) (hu:P.underlying t=some (.map k e)):False:=by
 obtain ⟨n,h⟩:=h
 cases n with
 | zero=>cases h
 | succ n=>simp [wB,hu] at h
theorem jeI (hc:∀ a v,w.cell? a=some v->w'.cell? a=some v) {r r':TypeId->List Value->Option (DataW H × List MemPlace)}
  (hr:∀ t,Plain P t->∀ cs x,r t cs=some x->r' t cs=some x) (hsp:∀ b,b < w.heap.size->sp b=true) {t:TypeId} (ht:Plain P t) {cs:List Value} {x:DataW H × List MemPlace} (h:DataW.trodStep enc P w base (fun _=>true) held r t cs=some x):DataW.trodStep enc P w' base sp held r' t cs=some x:=by
 unfold DataW.trodStep at h ⊢
 split at h
 case h_6=>rename_i heq; exact (ht.noptr heq).elim
 case h_8 =>
  rename_i e a len cap heq
  have hz:=ht.slice heq
  dsimp only at h ⊢
  split at h
  ·rename_i hb
   rw [if_pos hb]
   refine s9 (fun _=>mapM_mono (fun i y=>s9 (fun _=>mY hc) (fun _ _=>hr _ hz.2 _ _))) (fun elems z=>mB (fun rest hrest=>?_)) h
   rw [if_pos rfl] at hrest
   by_cases hs:sp a.block=true
   ·rw [if_pos hs]
    exact mapM_mono (fun j y=>s9 (fun _=>mY hc) (fun _ _=>hr _ hz.2 _ _)) hrest
   ·rw [if_neg hs]
    by_cases hcl:cap - len=0
    ·rw [hcl] at hrest
     simpa using hrest
    ·obtain ⟨y,hy⟩:=mapM_each hrest 0 (List.mem_range.2 (by omega))
     obtain ⟨l,hl,_⟩:=Option.bind_eq_some_iff.1 hy
     have:=jhV hl hz.1
     rw [jf3] at this
     exact absurd (hsp _ this) hs
  ·cases h
 case h_9 =>
  rename_i heq
  split at h
  ·rename_i hb
   rw [if_pos hb]
   exact mB (fun _=>jcp (fun f hf y=>hr _ (ht.struct heq hf) _ _)) h
  ·cases h
 case h_10 =>
  rename_i heq
  split at h
  ·rename_i hb
   rw [if_pos hb]
   exact mB (fun _=>mapM_mono (fun f y=>hr _ (ht.array heq) _ _)) h
  ·cases h
 case h_12=>rename_i heq; exact (ht.noiface heq).elim
 case h_14=>rename_i heq; exact (ht.nomap heq).elim
 all_goals first | exact h | (cases h; done)
theorem pQ (hc:∀ a v,w.cell? a=some v->w'.cell? a=some v) (hsp:∀ b,b < w.heap.size->sp b=true) :
  ∀ (n:Nat) (t:TypeId),Plain P t->∀ (cs:List Value) (x:DataW H × List MemPlace),DataW.trod enc P w base (fun _=>true) held n t cs=some x->DataW.trod enc P w' base sp held n t cs=some x
 | 0,t,_,cs,x,h=>by simp [DataW.trod] at h
 | n+1,t,ht,cs,x,h=>jeI hc (pQ hc hsp n) hsp ht h
theorem Gr.cells {W W':World} (g:Gr W W') (a:Addr) (v:Value) (h:W.cell? a=some v):W'.cell? a=some v:=by
 have hlt:a.block < W.heap.size:=by
  rcases Nat.lt_or_ge a.block W.heap.size with h' | h'
  ·exact h'
  ·simp [World.cell?,Array.getElem?_eq_none h'] at h
 rw [World.cell?_of_block (g.block _ hlt)]
 exact h
theorem pR {W W':World} (g:Gr W W') (hsp:∀ b,b < W.heap.size->sp b=true):∀ {ts:List TypeId} {vs:List Value} {ds:List (DataW H)} {p:List MemPlace},(∀ t ∈ ts,Plain P t)->DataW.TrodAll enc P W base (fun _=>true) held ts vs ds p->DataW.TrodAll enc P W' base sp held ts vs ds p
 | [],vs,ds,p,_,h=>by cases vs <;> cases ds <;> first | exact h | cases h
 | t::ts,vs,ds,p,ht,h=>by
  obtain ⟨v,vs',d,ds',p,q,rfl,rfl,rfl,⟨f,h1⟩,h2⟩:=trodAll_cons h
  exact trodAll_cons_mk ⟨f,pQ g.cells hsp f _ (ht t (by simp)) _ _ h1⟩ (pR g hsp (fun t h=>ht t (by simp [h])) h2)
theorem jfe {ts:List TypeId} (h:(ts.all fun t=>wB P 8 t)=true):∀ t ∈ ts,Plain P t:=fun t ht=>⟨8,List.all_eq_true.1 h t ht⟩
theorem jdb {f:Func} {s:ChangeSpec} {apart fresh handsOn again:Bool} {W W':World} {args:Array Value} {v:Value} {ds gs:List (DataW H)} {before:List MemPlace} (hz:∀ t ∈ f.params.toList,Plain P t)
  (hW:DataW.Whole enc P f.params.toList s.vars apart W args.toList ds gs before) (hv:s.vars=[]) (hg:Gr W W') (ha:(s.fn H (ds ++ gs)).args=ds) (hvs:(s.fn H (ds ++ gs)).vars=[])
  (hres:∀ (b:Nat) (sp:Nat->Bool) (hd:Bool),DataW.TrodAll enc P W' b sp hd f.resultTypes.toList (v.resultList f.resultTypes.size) (s.fn H (ds ++ gs)).results [])
  (hok:∀ (j:Nat) (t:TypeId) (r:Value),f.resultTypes[j]?=some t->(v.resultList f.resultTypes.size)[j]?=some r->Value.okWide P W' .any 0 t r) :
  s.post enc P f apart fresh handsOn again W args v W':=by
 have hW':=hW
 obtain ⟨p,q,hA,hV,rfl,hfz,hnd⟩:=hW
 rw [hv] at hV
 obtain ⟨rfl,rfl⟩:=trodVars_none hV
 have hlt:∀ x ∈ p ++ [],x.block < W.heap.size:=fun x hx=>hW'.lt x hx
 have hold:∀ b,b < W.heap.size->(fun b=>decide (b < W.heap.size)) b=true:=fun b hb=>by simpa using hb
 have h1:∀ sp:Nat->Bool,(∀ b,b < W.heap.size->sp b=true)->DataW.TrodAll enc P W' 0 sp true f.params.toList args.toList (s.fn H (ds ++ [])).args p:=fun sp hsp=>by rw [ha]; exact pR hg hsp hz hA
 have hvr:∀ sp:Nat->Bool,DataW.TrodVars enc P W' sp s.vars (s.fn H (ds ++ [])).vars []:=fun sp=>by rw [hv,hvs]; rfl
 refine ⟨ds,[],p ++ [],[],p,[],hW',hres _ _ _,h1 _ hold,hvr _,World.keptBut_mono (fun x hx=>⟨hx,?_⟩) (hg.frame (· ∈ p ++ [])),fun _=>?_⟩
 ·rw [List.mem_append] at hx
  exact Or.inr hx
 ·refine ⟨hok,_,_,([] ++ p) ++ [],⟨[] ++ p,[],trodAll_append (h1 _ (fun _ _=>rfl)) (hres _ _ _),hvr _,rfl,?_,?_⟩,?_⟩
  ·intro b off hp
   have hin:MemPlace.cell b off ∈ p ++ []:=by simpa using hp
   rw [Below.frozen hg (hlt _ hin)]
   exact hfz b off hin
  ·intro hap
   have:=hnd hap
   simpa using this
  ·intro x hp _
   simpa using hp
end
end
namespace args
open Go.ChangeShapes Go.WideShapes Go.ChangeAt Go.RowKit Go.Joins
theorem jlC {H:Type} {enc:TypeId × Value->H} {W:World} {base:Nat} {held:Bool} {v:Value} {d:DataW H} {p:List MemPlace} {t:TypeId} (ht:Tryz.prog.underlying t=some (.int .i64)) (hv:Value.okWide Tryz.prog W .any base t v) (h:DataW.Trod enc Tryz.prog W 0 (fun _=>true) held t v d p) :
  ∃ n:Int,v=.int .i64 n/\-9223372036854775808<=n/\n<=9223372036854775807:=by
 obtain ⟨n,rfl,_,_,w⟩:=open_int ht hv h
 have:-9223372036854775808<=n/\n<=9223372036854775807:=by simpa [Lit.wf,IntKind.min,IntKind.max,IntKind.signed,IntKind.bits] using w
 exact ⟨n,rfl,this.1,this.2⟩
def jjf (n:Int):Prop:=-9223372036854775808<=n/\n<=9223372036854775807
theorem jlp {H:Type} {enc:TypeId × Value->H} {W:World} {base:Nat} {held:Bool} {v:Value} {d:DataW H} {p:List MemPlace} (hv:Value.okWide Tryz.prog W .any base 23 v) (h:DataW.Trod enc Tryz.prog W 0 (fun _=>true) held 23 v d p) :
  ∃ x y:Int,v=.agg #[.int .i64 x,.int .i64 y]/\jjf x/\jjf y:=by
 obtain ⟨u0,u1,y0,y1,n,rfl,_,_,t0,t1⟩:=open_agg2 q23 (by kernel_rfl) (by kernel_rfl) hv h
 obtain ⟨a,e0,_,w0⟩:=DataW.trod_int q2 t0
 obtain ⟨b,e1,_,w1⟩:=DataW.trod_int q2 t1
 injection e0 with e0; injection e1 with e1
 subst e0; subst e1
 exact ⟨a,b,rfl,by simpa [jjf,Lit.wf,IntKind.min,IntKind.max,IntKind.signed,IntKind.bits] using w0,by simpa [jjf,Lit.wf,IntKind.min,IntKind.max,IntKind.signed,IntKind.bits] using w1⟩
end args
end Go.Proofs.YtipnifjmhlcehaaGreatDoor
