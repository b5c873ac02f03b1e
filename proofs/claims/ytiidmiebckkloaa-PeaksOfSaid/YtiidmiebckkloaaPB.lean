/- Regions that draw their order, of three kinds of operations: plain ones, that read or call functions that leave what was there as it was, in whatever order; special ones, that come up alone when all that may stand beside them has come up, or beside plain ones that do not mind; and a tail. What the special ones yield is told by the class of the worlds behind them. -/
import Derived.Test.YtiidmiebckkloaaPA
import Derived.Laws.BytesString
namespace Go.Proofs.Ytiidmiebckkloaa
open Go.RowKit
set_option linter.unusedVariables false
set_option linter.unusedSimpArgs false

section
variable {P : Program} {ops : Array Oper} {C : List Value → World → Prop} {sp : Nat → Bool}

def yieldsTo (P : Program) (o : Oper) (a : Act) (w : World) (R : Value → World → Prop) : Prop :=
  match (execOp a.eval o).run P w with
  | .ok (.value u) w' => R u w'
  | .ok .skip w' => R undef w'
  | .ok (.enter f args) w' => Calls P f args w' fun en w'' => ∃ v, en = .returned v ∧ R v w''
  | _ => False
theorem wp_of_yieldsTo {o : Oper} {a : Act} {w : World} {R : Value → World → Prop} {K : Act → World → Prop} {Q : Exit → Act → World → Prop} (h : yieldsTo P o a w R) (hK : ∀ v w', R v w' → K (a.put o.dst v) w') : o.wp P a w K Q := by
  unfold Oper.wp
  unfold yieldsTo at h
  generalize (execOp a.eval o).run P w = r at *
  cases r with
  | ok n w' =>
    cases n <;> simp only [Oper.upon] <;> first | exact h.elim | exact hK _ _ h | skip
    case enter f args => exact h.mono fun en w'' ⟨v, he, hn⟩ => by subst he; exact hK _ _ hn
  | halt x w' => exact h.elim
/-- Operation number i comes up in state 'a', the special ones so far having yielded σ. -/
def sOp (P : Program) (ops : Array Oper) (C : List Value → World → Prop) (sp : Nat → Bool) (i : Nat) (K : List Value → Act → Prop) (σ : List Value) (a : Act) : Prop :=
  match ops[i]? with
  | none => K σ a
  | some o =>
    if Region.wanted o (yielded ops a.tmps) then
      match sp i with
      | true => (∀ w, C σ w → yieldsTo P o a w fun v w' => C (v :: σ) w') ∧ ∀ v w', C (v :: σ) w' → K (v :: σ) (a.put o.dst v)
      | false => ∃ v, (∀ τ w, C τ w → yieldsTo P o a w fun u w' => u = v ∧ C τ w') ∧ K σ (a.put o.dst v)
    else K σ (a.put o.dst undef)
theorem sOp_mono {i : Nat} {a : Act} {σ : List Value} {K K' : List Value → Act → Prop} (h : ∀ σ a, K σ a → K' σ a) (hh : sOp P ops C sp i K σ a) : sOp P ops C sp i K' σ a := by
  unfold sOp at *
  split
  · rename_i ho; rw [ho] at hh; exact h _ _ hh
  · rename_i o ho
    rw [ho] at hh
    dsimp only at hh
    split
    · rename_i hw
      rw [if_pos hw] at hh
      cases hs : sp i with
      | true => rw [hs] at hh; exact ⟨hh.1, fun v w' hv => h _ _ (hh.2 v w' hv)⟩
      | false => rw [hs] at hh; exact ⟨hh.choose, hh.choose_spec.1, h _ _ hh.choose_spec.2⟩
    · rename_i hw; rw [if_neg hw] at hh; exact h _ _ hh
theorem wpOp_of_sOp {ro : Option Nat} (hnd : (ops.toList.all fun o => !isDefer o.op) = true) {i : Nat} {a : Act} {σ : List Value} {w : World} {K : List Value → Act → Prop} {K' : Act → World → Prop} {Q' : Exit → Act → World → Prop} (hw : C σ w) (h : ∀ σ a w', C σ w' → K σ a → K' a w') (hh : sOp P ops C sp i K σ a) : wpOpIn (wF ro) 0 P ops Q' i K' a w := by
  unfold sOp at hh
  unfold wpOpIn
  split
  · rename_i ho; rw [ho] at hh; exact h _ _ _ hw hh
  · rename_i o ho
    rw [ho] at hh
    dsimp only at hh
    split
    · rename_i hwn
      rw [if_pos hwn] at hh
      refine Oper.wpIn_of_wp (not_defer_at hnd ho) ?_
      cases hs : sp i with
      | true => rw [hs] at hh; exact wp_of_yieldsTo (hh.1 w hw) fun v w' hv => h _ _ _ hv (hh.2 v w' hv)
      | false =>
        rw [hs] at hh
        obtain ⟨v, h1, h2⟩ := hh
        exact wp_of_yieldsTo (h1 σ w hw) fun u w' ⟨hu, hc⟩ => by subst hu; exact h _ _ _ hc h2
    · rename_i hwn; rw [if_neg hwn] at hh; exact ⟨fun _ _ => trivial, h _ _ _ hw hh⟩

def headS (P : Program) (ops : Array Oper) (C : List Value → World → Prop) (sp : Nat → Bool) (hd : List Nat) (L : Array Bool → List Value → Act → Prop) : Nat → Array Bool → List Value → Act → Prop
  | 0, listed, σ, a => L listed σ a
  | f + 1, listed, σ, a => Region.ready .any ops listed ≠ [] ∧ ∀ i ∈ Region.ready .any ops listed, i ∈ hd ∧ sOp P ops C sp i (headS P ops C sp hd L f (listed.setIfInBounds i true)) σ a
theorem wpAny_of_headS {ro : Option Nat} (hnd : (ops.toList.all fun o => !isDefer o.op) = true) {hd : List Nat} {L : Array Bool → List Value → Act → Prop} {Q' : Exit → Act → World → Prop} {g : Nat} (hL : ∀ listed σ a w, C σ w → L listed σ a → wpAnyIn (wF ro) 0 P .any ops Q' g listed a w) :
    ∀ (f : Nat) (listed : Array Bool) (σ : List Value) (a : Act) (w : World), C σ w → headS P ops C sp hd L f listed σ a → wpAnyIn (wF ro) 0 P .any ops Q' (f + g) listed a w
  | 0, listed, σ, a, w, hw, h => by rw [Nat.zero_add]; exact hL _ _ _ _ hw h
  | f + 1, listed, σ, a, w, hw, h => by
    rw [show f + 1 + g = (f + g) + 1 by omega]
    exact ⟨fun h0 => absurd h0 h.1, fun i hi => wpOp_of_sOp hnd hw (fun σ a' w' hw' h' => wpAny_of_headS hnd hL f _ σ a' w' hw' h') (h.2 i hi).2⟩

/-- A plain operation yields v, whatever the class. -/
def YieldsS (P : Program) (ops : Array Oper) (C : List Value → World → Prop) (o : Oper) (v : Value) (a : Act) : Prop :=
  (Region.wanted o (yielded ops a.tmps) = true ∧ ∀ τ w, C τ w → yieldsTo P o a w fun u w' => u = v ∧ C τ w') ∨
  (Region.wanted o (yielded ops a.tmps) = false ∧ v = undef)
theorem YieldsS.sOp {i : Nat} {o : Oper} {v : Value} {a : Act} {σ : List Value} (hi : ops[i]? = some o) (hs : sp i = false) (hy : YieldsS P ops C o v a) {K : List Value → Act → Prop} (h : K σ (a.put o.dst v)) : sOp P ops C sp i K σ a := by
  unfold Go.Proofs.Ytiidmiebckkloaa.sOp
  rw [hi]
  dsimp only
  rcases hy with ⟨hw, hv⟩ | ⟨hw, rfl⟩
  · rw [if_pos hw, hs]; exact ⟨v, hv, h⟩
  · rw [if_neg (by simp [hw])]; exact h
theorem YieldsS.of_same {o : Oper} {v : Value} {a a' : Act} (hy : YieldsS P ops C o v a) (he : execOp a'.eval o = execOp a.eval o)
    (hw : Region.wanted o (yielded ops a'.tmps) = Region.wanted o (yielded ops a.tmps)) : YieldsS P ops C o v a' := by
  unfold YieldsS yieldsTo at *
  rw [he, hw]
  exact hy
theorem sOp_put {j : Nat} {oi oj : Oper} {v : Value} {σ : List Value} (hj : ops[j]? = some oj) (hap : oi.apart ops oj = true)
    (hsi : ∀ cs b, oi.op ≠ .select cs b) (hsj : ∀ cs b, oj.op ≠ .select cs b) {K : List Value → Act → Prop} {a : Act}
    (hy : YieldsS P ops C oi v a) (h : sOp P ops C sp j K σ (a.put oi.dst v)) :
    sOp P ops C sp j (fun σ' a' => YieldsS P ops C oi v a' ∧ K σ' (a'.put oi.dst v)) σ a := by
  obtain ⟨h1, h2, h3⟩ := Oper.apart_spec hap
  have keep : ∀ u, YieldsS P ops C oi v (a.put oj.dst u) := fun u => hy.of_same (execOp_put oi hsi a oj.dst u h3) (wanted_put oi a oj.dst u h3)
  unfold sOp at *
  rw [hj] at h ⊢
  dsimp only at h ⊢
  rw [wanted_put oj a oi.dst v h1] at h
  split
  · rename_i hw
    rw [if_pos hw] at h
    cases hs : sp j with
    | true =>
      rw [hs] at h
      refine ⟨fun w hC => ?_, fun u w' hC => ⟨keep u, by rw [← Act.put_comm a v u h2]; exact h.2 u w' hC⟩⟩
      have := h.1 w hC
      unfold yieldsTo at *
      rwa [execOp_put oj hsj a oi.dst v h1] at this
    | false =>
      rw [hs] at h
      obtain ⟨u, hu, hn⟩ := h
      refine ⟨u, fun τ w hC => ?_, keep u, by rw [← Act.put_comm a v u h2]; exact hn⟩
      have := hu τ w hC
      unfold yieldsTo at *
      rwa [execOp_put oj hsj a oi.dst v h1] at this
  · rename_i hw
    rw [if_neg hw] at h
    exact ⟨keep _, by rw [← Act.put_comm a v undef h2]; exact h⟩

theorem headS_first {hd : List Nat} {L : Array Bool → List Value → Act → Prop} {i : Nat} {oi : Oper} {v : Value} (hi : ops[i]? = some oi) (hspi : sp i = false)
    (hsel : ∀ (j : Nat) (o : Oper) cs b, ops[j]? = some o → o.op ≠ .select cs b)
    (hhd : ∀ (listed : Array Bool), ClosedL ops listed → listed.getD i true = false → ∀ j ∈ Region.ready .any ops listed, j ∈ hd)
    (hdone : ∀ listed σ a, L listed σ a → ∀ j ∈ Region.ready .any ops listed, j ∉ hd) :
    ∀ (f : Nat) (listed : Array Bool) (σ : List Value) (a : Act), ClosedL ops listed →
      (∀ j oj, ops[j]? = some oj → j ≠ i → listed.getD j true = false → (∀ e ∈ oj.after, Region.binds .any e = true → e.on ≠ i) → oi.apart ops oj = true) →
      i ∈ Region.ready .any ops listed → YieldsS P ops C oi v a →
      headS P ops C sp hd L f (listed.setIfInBounds i true) σ (a.put oi.dst v) → headS P ops C sp hd L (f + 1) listed σ a := by
  intro f
  induction f with
  | zero =>
    intro listed σ a hcl _ hr hy H
    refine ⟨fun h => (by rw [h] at hr; cases hr), fun j hj => ?_⟩
    have hjh := hhd listed hcl (mem_ready.1 hr).1 j hj
    refine ⟨hjh, ?_⟩
    by_cases hji : j = i
    · subst hji; exact hy.sOp hi hspi H
    · exact absurd hjh (hdone _ _ _ H j (ready_mono hj hji))
  | succ f ih =>
    intro listed σ a hcl hfree hr hy H
    have hun := (mem_ready.1 hr).1
    refine ⟨fun h => (by rw [h] at hr; cases hr), fun j hj => ?_⟩
    refine ⟨hhd listed hcl hun j hj, ?_⟩
    by_cases hji : j = i
    · subst hji; exact hy.sOp hi hspi H
    · have h1 := (H.2 j (ready_mono hj hji)).2
      obtain ⟨hjun, oj, hoj, hall⟩ := mem_ready.1 hj
      have hnot : ∀ e ∈ oj.after, Region.binds .any e = true → e.on ≠ i := fun e he hb heq => by
        have h2 := hall e he hb
        rw [heq] at h2
        rcases Nat.lt_or_ge i listed.size with h' | h'
        · simp [h'] at hun h2; rw [hun] at h2; cases h2
        · simp [Array.getElem?_eq_none h'] at h2
      have h2 := sOp_put hoj (hfree j oj hoj hji hjun hnot) (fun cs b => hsel i oi cs b hi) (fun cs b => hsel j oj cs b hoj) hy h1
      have hfree' : ∀ k ok, ops[k]? = some ok → k ≠ i → (listed.setIfInBounds j true).getD k true = false →
          (∀ e ∈ ok.after, Region.binds .any e = true → e.on ≠ i) → oi.apart ops ok = true := fun k ok hk hki hun' hno => by
        refine hfree k ok hk hki ?_ hno
        by_cases hjk : j = k
        · subst hjk; exact hjun
        · rw [getD_set_ne true hjk] at hun'; exact hun'
      refine sOp_mono (fun σ' a' h3 => ih (listed.setIfInBounds j true) σ' a' (hcl.set hj) hfree' (ready_mono hr (Ne.symm hji)) h3.1 ?_) h2
      rw [Array.setIfInBounds_comm _ _ hji]
      exact h3.2

def headTB (ops : Array Oper) (sp : Nat → Bool) (tl : List Nat) : List Nat → Array Bool → Bool
  | [], listed => tailB ops tl listed
  | i :: hd, listed => (match sp i with
    | true => decide (Region.ready .any ops listed = [i])
    | false => (Region.ready .any ops listed).contains i && Region.free .any ops listed i) && headTB ops sp tl hd (listed.setIfInBounds i true)
def orderTB (ops : Array Oper) (sp : Nat → Bool) (hd tl : List Nat) : Bool :=
  Region.noSelect ops && decide (hd.length + tl.length = ops.size) && ((List.range ops.size).all fun i => hd.contains i || tl.contains i) &&
  (tl.all fun t => hd.all fun i => (ancsOf ops ops.size t).contains i) && (tl.all fun t => !hd.contains t) && headTB ops sp tl hd (Array.replicate ops.size false)

/-- The walk through the head, in the order that one chose. -/
def wpS (P : Program) (ops : Array Oper) (C : List Value → World → Prop) (sp : Nat → Bool) (Lq : List Value → Act → Prop) : List (Nat × Oper) → List Value → Act → Prop
  | [], σ, a => Lq σ a
  | (i, o) :: rest, σ, a =>
    if Region.wanted o (yielded ops a.tmps) then
      match sp i with
      | true => (∀ w, C σ w → yieldsTo P o a w fun v w' => C (v :: σ) w') ∧ ∀ v w', C (v :: σ) w' → wpS P ops C sp Lq rest (v :: σ) (a.put o.dst v)
      | false => ∃ v, (∀ τ w, C τ w → yieldsTo P o a w fun u w' => u = v ∧ C τ w') ∧ wpS P ops C sp Lq rest σ (a.put o.dst v)
    else wpS P ops C sp Lq rest σ (a.put o.dst undef)
theorem headS_lex {hd tl : List Nat} {Lq : List Value → Act → Prop} (hsel : Region.noSelect ops = true)
    (hcov : ∀ i, i < ops.size → i ∈ hd ∨ i ∈ tl) (hanc : ∀ t ∈ tl, ∀ i ∈ hd, i ∈ ancsOf ops ops.size t) (hdis : ∀ t ∈ tl, t ∉ hd) :
    ∀ (h : List Nat) (lh : List (Nat × Oper)) (listed : Array Bool) (σ : List Value) (a : Act), (∀ i ∈ h, i ∈ hd) → h.map (fun i => (i, ops[i]?)) = lh.map (fun p => (p.1, some p.2)) → ClosedL ops listed → headTB ops sp tl h listed = true →
      wpS P ops C sp Lq lh σ a → headS P ops C sp hd (fun listed' σ' a' => tailB ops tl listed' = true ∧ Lq σ' a') h.length listed σ a
  | [], lh, listed, σ, a, _, hl, _, hB, hq => by
    have : lh = [] := by cases lh with | nil => rfl | cons => simp at hl
    subst this
    exact ⟨by simpa [headTB] using hB, hq⟩
  | i :: h, [], listed, σ, a, _, hl, _, hB, hq => by simp at hl
  | i :: h, (i', o) :: lh, listed, σ, a, hin, hl, hcl, hB, hq => by
    simp only [List.map_cons, List.cons.injEq, Prod.mk.injEq] at hl
    obtain ⟨⟨rfl, h0⟩, hl'⟩ := hl
    simp only [headTB, Bool.and_eq_true] at hB
    obtain ⟨hr, hB'⟩ := hB
    have rec_ := headS_lex (Lq := Lq) hsel hcov hanc hdis h lh (listed.setIfInBounds i true)
    cases hs : sp i with
    | true =>
      rw [hs] at hr
      have hr' : Region.ready .any ops listed = [i] := by simpa using hr
      have hri : i ∈ Region.ready .any ops listed := by rw [hr']; simp
      refine ⟨by rw [hr']; simp, fun j hj => ?_⟩
      rw [hr'] at hj
      obtain rfl : j = i := by simpa using hj
      refine ⟨hin j (by simp), ?_⟩
      unfold sOp
      rw [h0]
      dsimp only
      simp only [wpS, hs] at hq
      split
      · rename_i hw
        rw [if_pos hw] at hq
        rw [hs]
        exact ⟨hq.1, fun v w' hv => rec_ _ _ (fun k hk => hin k (List.mem_cons_of_mem _ hk)) hl' (hcl.set hri) hB' (hq.2 v w' hv)⟩
      · rename_i hw
        rw [if_neg hw] at hq
        exact rec_ _ _ (fun k hk => hin k (List.mem_cons_of_mem _ hk)) hl' (hcl.set hri) hB' hq
    | false =>
      rw [hs] at hr
      simp only [Bool.and_eq_true] at hr
      have hr' : i ∈ Region.ready .any ops listed := by simpa using hr.1
      simp only [wpS, hs] at hq
      have hy : ∃ v, YieldsS P ops C o v a ∧ wpS P ops C sp Lq lh σ (a.put o.dst v) := by
        by_cases hw : Region.wanted o (yielded ops a.tmps) = true
        · rw [if_pos hw] at hq
          obtain ⟨v, h1, h2⟩ := hq
          exact ⟨v, .inl ⟨hw, h1⟩, h2⟩
        · rw [if_neg hw] at hq
          exact ⟨undef, .inr ⟨by simpa using hw, rfl⟩, hq⟩
      obtain ⟨v, hy, hK⟩ := hy
      refine headS_first h0 hs (Region.noSelect_spec hsel) ?_ ?_ h.length listed σ a hcl (Region.free_spec h0 hr.2) hr' hy
        (rec_ _ _ (fun j hj => hin j (List.mem_cons_of_mem _ hj)) hl' (hcl.set hr') hB' hK)
      · intro listed' hcl' hun j hj
        obtain ⟨_, oj, hoj, _⟩ := mem_ready.1 hj
        have hjs : j < ops.size := (Array.getElem?_eq_some_iff.1 hoj).1
        rcases hcov j hjs with hh | hh
        · exact hh
        · have hl1 := ancs_listed hcl' ops.size j (preds_ready hj) i (hanc j hh i (hin i (by simp)))
          rcases Nat.lt_or_ge i listed'.size with h' | h'
          · simp [h'] at hun hl1; rw [hun] at hl1; cases hl1
          · simp [Array.getElem?_eq_none h'] at hl1
      · intro listed' σ' a' hL j hj hjh
        have hB := hL.1
        cases htl : tl with
        | nil => simp only [htl, tailB, List.isEmpty_iff] at hB; rw [hB] at hj; cases hj
        | cons t tl' =>
          simp only [htl, tailB, Bool.and_eq_true, decide_eq_true_eq] at hB
          rw [hB.1] at hj
          have : j = t := by simpa using hj
          subst this
          exact hdis j (by simp [htl]) hjh

theorem wp_region_tri {ro : Option Nat} {id : Nat} {Q : Exit → Act → World → Prop} {a : Act} {w : World} {l : List Oper} (hd tl : List Nat) (lh : List (Nat × Oper)) (lt : List Oper) (hnd : (l.all fun o => !isDefer o.op) = true) (hm : P.follows .mixedOrders = true)
    (hB : orderTB l.toArray sp hd tl = true) (hh : hd.map (fun i => (i, l.toArray[i]?)) = lh.map (fun p => (p.1, some p.2))) (ht : tl.map (l.toArray[·]?) = lt.map some) (hC : C [] w.drew)
    (h : wpS P l.toArray C sp (fun σ a' => ∀ w', C σ w' → wpListIn (wF ro) 0 P l.toArray Q lt a' w') lh [] a) : (Code.region id l.toArray true).wpIn (wF ro) 0 P Q a w := by
  simp only [orderTB, Bool.and_eq_true, decide_eq_true_eq] at hB
  obtain ⟨⟨⟨⟨⟨hsel, hlen⟩, hcov⟩, hanc⟩, hdis⟩, hhd⟩ := hB
  have H := headS_lex (P := P) (C := C) (sp := sp) (Lq := fun σ a' => ∀ w', C σ w' → wpListIn (wF ro) 0 P l.toArray Q lt a' w') (hd := hd) (tl := tl) hsel
    (fun i hi => by have := List.all_eq_true.1 hcov i (List.mem_range.2 hi); simpa using this)
    (fun t htl i hi => by have := List.all_eq_true.1 (List.all_eq_true.1 hanc t htl) i hi; simpa using this)
    (fun t htl => by have := List.all_eq_true.1 hdis t htl; simpa using this)
    hd lh (Array.replicate l.toArray.size false) [] a (fun _ hi => hi) hh
    (fun i hi => by
      have h0 : ∀ m j : Nat, (Array.replicate m false).getD j false = false := fun m j => by
        rcases Nat.lt_or_ge j m with h' | h'
        · simp [h']
        · simp [h']
      rw [h0] at hi
      cases hi) hhd h
  refine wpIn_region_any hm ?_
  have := wpAny_of_headS (Q' := Q) (ro := ro) (by simpa using hnd) (g := tl.length) (fun listed σ a' w' hw' hL => wpAnyIn_of_tail tl lt listed a' w' ht hL.1 (hL.2 w' hw')) _ _ _ _ _ hC H
  rw [hlen] at this
  exact this

/-! ### The same over a frame that is a function -/
def opTo (P : Program) (e : Nat → Value) (o : Oper) (w : World) (R : Value → World → Prop) : Prop :=
  match (execOp (ev e) o).run P w with
  | .ok (.value u) w' => R u w'
  | .ok .skip w' => R undef w'
  | .ok (.enter f args) w' => Calls P f args w' fun en w'' => ∃ v, en = .returned v ∧ R v w''
  | _ => False
def RS (P : Program) (ops : Array Oper) (C : List Value → World → Prop) (sp : Nat → Bool) (Q : List Value → (Nat → Value) → Prop) : List (Nat × Oper) → List Value → (Nat → Value) → Prop
  | [], σ, e => Q σ e
  | (i, o) :: rest, σ, e =>
    if wE ops e o = true then
      match sp i with
      | true => (∀ w, C σ w → opTo P e o w fun v w' => C (v :: σ) w') ∧ ∀ v w', C (v :: σ) w' → RS P ops C sp Q rest (v :: σ) (updO e o.dst v)
      | false => ∃ v, (∀ τ w, C τ w → opTo P e o w fun u w' => u = v ∧ C τ w') ∧ RS P ops C sp Q rest σ (updO e o.dst v)
    else RS P ops C sp Q rest σ (updO e o.dst undef)
theorem wpS_of_RS {N : Nat} {df : List Deferred} {Q : List Value → (Nat → Value) → Prop} {Q' : List Value → Act → Prop} (hQ : ∀ σ e a, Rep N df e a → Q σ e → Q' σ a) :
    ∀ (l : List (Nat × Oper)) (σ : List Value) (e : Nat → Value) (a : Act), (l.all fun p => dstOk N p.2.dst) = true → Rep N df e a → RS P ops C sp Q l σ e → wpS P ops C sp Q' l σ a
  | [], σ, e, a, _, hr, h => hQ σ e a hr h
  | (i, o) :: rest, σ, e, a, hd, hr, h => by
    simp only [List.all_cons, Bool.and_eq_true] at hd
    unfold wpS
    rw [hr.wanted]
    simp only [RS] at h
    have hto : ∀ w R, opTo P e o w R → yieldsTo P o a w R := fun w R hh => by unfold yieldsTo; rw [hr.eval]; exact hh
    split
    · rename_i hw
      rw [if_pos hw] at h
      cases hs : sp i with
      | true =>
        rw [hs] at h
        exact ⟨fun w hC => hto _ _ (h.1 w hC), fun v w' hC => wpS_of_RS hQ rest _ _ _ hd.2 (hr.put hd.1 v) (h.2 v w' hC)⟩
      | false =>
        rw [hs] at h
        obtain ⟨v, h1, h2⟩ := h
        exact ⟨v, fun τ w hC => hto _ _ (h1 τ w hC), wpS_of_RS hQ rest _ _ _ hd.2 (hr.put hd.1 v) h2⟩
    · rename_i hw
      rw [if_neg hw] at h
      exact wpS_of_RS hQ rest _ _ _ hd.2 (hr.put hd.1 undef) h
def pickI (l : List Oper) : List Nat → List (Nat × Oper)
  | [] => []
  | i :: is => match l.drop i with
    | o :: _ => (i, o) :: pickI l is
    | [] => pickI l is
theorem pickI_map (l : List Oper) : ∀ is : List Nat, (is.all fun i => decide (i < l.length)) = true → is.map (fun i => (i, l.toArray[i]?)) = (pickI l is).map fun p => (p.1, some p.2)
  | [], _ => rfl
  | i :: is, h => by
    simp only [List.all_cons, Bool.and_eq_true, decide_eq_true_eq] at h
    simp only [pickI, List.drop_eq_getElem_cons h.1, List.map_cons, pickI_map l is h.2]
    simp [h.1]
theorem cw_tri {N : Nat} {Q : Exit → (Nat → Value) → World → Prop} {e : Nat → Value} {w : World} {id : Nat} {l : List Oper} (sp : List Nat) (hd tl : List Nat) (hm : P.follows .mixedOrders = true)
    (hB : (orderTB l.toArray (fun i => sp.contains i) hd tl && (hd.all fun i => decide (i < l.length)) && (tl.all fun i => decide (i < l.length))) = true) (hC : C [] w.drew)
    (h : RS P l.toArray C (fun i => sp.contains i) (fun σ e' => ∀ w', C σ w' → RW P l.toArray (fun e w => Q .normal e w) (pickL l tl) e' w') (pickI l hd) [] e) : CW P N (.region id l.toArray true) Q e w := fun hk df a hr ro => by
  simp only [Bool.and_eq_true] at hB
  simp only [codeOk, Bool.and_eq_true] at hk
  have hsub : ∀ is : List Nat, (is.all fun i => decide (i < l.length)) = true → ((pickL l is).all fun o => dstOk N o.dst) = true := fun is his => by
    have h1 := pickL_map l is his
    refine List.all_eq_true.2 fun o ho => ?_
    have h2 : some o ∈ (pickL l is).map some := List.mem_map.2 ⟨o, ho, rfl⟩
    rw [← h1] at h2
    obtain ⟨i, _, hi⟩ := List.mem_map.1 h2
    have h3 : l[i]? = some o := by simpa using hi
    exact List.all_eq_true.1 hk.1 o (List.mem_of_getElem? h3)
  have hsubd : ∀ is : List Nat, (is.all fun i => decide (i < l.length)) = true → ((pickL l is).all fun o => !isDefer o.op) = true := fun is his => by
    have h1 := pickL_map l is his
    refine List.all_eq_true.2 fun o ho => ?_
    have h2 : some o ∈ (pickL l is).map some := List.mem_map.2 ⟨o, ho, rfl⟩
    rw [← h1] at h2
    obtain ⟨i, _, hi⟩ := List.mem_map.1 h2
    have h3 : l[i]? = some o := by simpa using hi
    exact List.all_eq_true.1 hk.2 o (List.mem_of_getElem? h3)
  have hsubI : ∀ is : List Nat, (is.all fun i => decide (i < l.length)) = true → ((pickI l is).all fun p => dstOk N p.2.dst) = true := fun is his => by
    have h1 := pickI_map l is his
    refine List.all_eq_true.2 fun p hp => ?_
    have h2 : (p.1, some p.2) ∈ (pickI l is).map (fun p => (p.1, some p.2)) := List.mem_map.2 ⟨p, hp, rfl⟩
    rw [← h1] at h2
    obtain ⟨i, _, hi⟩ := List.mem_map.1 h2
    simp only [Prod.mk.injEq] at hi
    have h3 : l[i]? = some p.2 := by simpa using hi.2
    exact List.all_eq_true.1 hk.1 p.2 (List.mem_of_getElem? h3)
  refine wp_region_tri (C := C) hd tl _ _ hk.2 hm hB.1.1 (pickI_map l hd hB.1.2) (pickL_map l tl hB.2) hC ?_
  exact wpS_of_RS (fun σ e' a' hr' hq w' hw' => wpList_of_RW (fun e a w hr h => ⟨e, hr, h⟩) _ e' a' w' (hsub tl hB.2) (hsubd tl hB.2) hr' (hq w' hw')) _ [] e a (hsubI hd hB.1.2) hr h

/-! ### Steps -/
variable {Qs : List Value → (Nat → Value) → Prop} {σ : List Value} {e : Nat → Value} {i : Nat} {rest : List (Nat × Oper)}
variable {d : Option Tmp} {op : Op} {ty : TypeId} {ps : String} {af : Array Edge}
theorem RS_t {o : Oper} (h : wE ops e o = true) : RS P ops C sp Qs ((i, o) :: rest) σ e = match sp i with
      | true => (∀ w, C σ w → opTo P e o w fun v w' => C (v :: σ) w') ∧ ∀ v w', C (v :: σ) w' → RS P ops C sp Qs rest (v :: σ) (updO e o.dst v)
      | false => ∃ v, (∀ τ w, C τ w → opTo P e o w fun u w' => u = v ∧ C τ w') ∧ RS P ops C sp Qs rest σ (updO e o.dst v) := by rw [RS]; exact if_pos h
theorem RS_f {o : Oper} (h : wE ops e o = false) : RS P ops C sp Qs ((i, o) :: rest) σ e = RS P ops C sp Qs rest σ (updO e o.dst undef) := by rw [RS]; exact if_neg (by simp [h])
theorem rs_nil (h : Qs σ e) : RS P ops C sp Qs [] σ e := h
theorem rs_on {j : Nat} {b : Bool} (h : yE ops e j = some b) (hr : RS P ops C sp Qs ((i, ⟨d, op, ty, ps, af, none⟩) :: rest) σ e) : RS P ops C sp Qs ((i, ⟨d, op, ty, ps, af, some (j, b)⟩) :: rest) σ e := by
  rw [RS_t rfl] at hr
  rw [RS_t (by simp [wE, h])]
  exact hr
theorem rs_off {j : Nat} {b : Bool} (h : (yE ops e j == some b) = false) (hr : RS P ops C sp Qs rest σ (updO e d undef)) : RS P ops C sp Qs ((i, ⟨d, op, ty, ps, af, some (j, b)⟩) :: rest) σ e := by
  rw [RS_f (by simp [wE, h])]
  exact hr
theorem rs_r {v : Value} (hs : sp i = false) (h : ∀ τ w, C τ w → OpR P e ⟨d, op, ty, ps, af, none⟩ w v) (hr : RS P ops C sp Qs rest σ (updO e d v)) : RS P ops C sp Qs ((i, ⟨d, op, ty, ps, af, none⟩) :: rest) σ e := by
  rw [RS_t rfl, hs]
  refine ⟨v, fun τ w hC => ?_, hr⟩
  have := h τ w hC
  unfold OpR at this
  unfold opTo
  rw [this]
  exact ⟨rfl, hC⟩
theorem rs_v {v : Value} (hs : sp i = false) (h : OpV P e ⟨d, op, ty, ps, af, none⟩ v) (hr : RS P ops C sp Qs rest σ (updO e d v)) : RS P ops C sp Qs ((i, ⟨d, op, ty, ps, af, none⟩) :: rest) σ e := rs_r hs (fun _ w _ => h w) hr
/-- a plain call -/
theorem rs_call {f : FuncId} {args : List Operand} {tys : Array TypeId} {vs : List Value} {v : Value} (hs : sp i = false) (hv : fzl (args.map (ev e)) = some vs) (hc : ∀ τ w, C τ w → Fn P f vs w (fun v' w' => v' = v ∧ C τ w')) (hr : RS P ops C sp Qs rest σ (updO e d v)) :
    RS P ops C sp Qs ((i, ⟨d, .call ⟨.value (.func f), args.toArray, tys⟩, ty, ps, af, none⟩) :: rest) σ e := by
  have h0 := fzl_eq hv
  rw [RS_t rfl, hs]
  refine ⟨v, fun τ w hC => ?_, hr⟩
  have hrun : (execOp (ev e) ⟨d, .call ⟨.value (.func f), args.toArray, tys⟩, ty, ps, af, none⟩).run P w = .ok (.enter f vs.toArray) w := by
    have h1 : ev e (.func f) = .func (.func f) #[] #[] := rfl
    simp [execOp, resolve, h1, Deferred.ofValue, invoke, h0, run_callFunc_E (hc τ w hC).1]
  unfold opTo
  rw [hrun]
  exact (hc τ w hC).2
/-- a special operation: what it does is told as a step in order -/
theorem rs_special {o : Oper} (hs : sp i = true) (hw : wE ops e o = true) (h : ∀ w, C σ w → opTo P e o w fun v w' => C (v :: σ) w') (hr : ∀ v w', C (v :: σ) w' → RS P ops C sp Qs rest (v :: σ) (updO e o.dst v)) : RS P ops C sp Qs ((i, o) :: rest) σ e := by
  rw [RS_t hw, hs]
  exact ⟨h, hr⟩
theorem to_new {v : Value} {l : List Value} {t : TypeId} {w : World} {R : Value → World → Prop} {o : Oper} (h : (execOp (ev e) o).run P w = .ok (.value v) (w.alloc (.cells l.toArray t)))
    (hr : ∀ w', Gr w w' → w'.heap.size = w.heap.size + 1 → Blk w' w.heap.size t l → R v w') : opTo P e o w R := by
  unfold opTo
  rw [h]
  exact hr _ (Gr.alloc _ _) (by simp) (Blk.new _ _ _)
theorem to_call {f : FuncId} {args : List Operand} {tys : Array TypeId} {vs : List Value} {w : World} {R : Value → World → Prop} (hv : fzl (args.map (ev e)) = some vs) (hc : Fn P f vs w R) :
    opTo P e ⟨d, .call ⟨.value (.func f), args.toArray, tys⟩, ty, ps, af, none⟩ w R := by
  have h0 := fzl_eq hv
  have hrun : (execOp (ev e) ⟨d, .call ⟨.value (.func f), args.toArray, tys⟩, ty, ps, af, none⟩).run P w = .ok (.enter f vs.toArray) w := by
    have h1 : ev e (.func f) = .func (.func f) #[] #[] := rfl
    simp [execOp, resolve, h1, Deferred.ofValue, invoke, h0, run_callFunc_E hc.1]
  unfold opTo
  rw [hrun]
  exact hc.2
end
end Go.Proofs.Ytiidmiebckkloaa
/- Slices of slices, make, copy. -/
namespace Go.Proofs.Ytiidmiebckkloaa
open Go.RowKit
set_option linter.unusedVariables false
set_option linter.unusedSimpArgs false

section
variable {P : Program} {ops : Array Oper} {Q : (Nat → Value) → World → Prop} {e : Nat → Value} {w : World} {rest : List Oper}
variable {d : Option Tmp} {ty : TypeId} {ps : String} {af : Array Edge}
theorem storeCells_E {b tb o : Nat} (vs : List Value) : ∀ (i : Nat) (w : World) (l : List Value), Blk w b tb l → (∀ v ∈ vs, v.oneCell' = true) → o + i + vs.length ≤ l.length →
      ∃ w', (storeCells ⟨b, o, none⟩ vs i).run P w = .ok () w' ∧ w.grownBy w' (some b) ∧ w'.heap.size = w.heap.size ∧ Blk w' b tb (l.take (o + i) ++ vs ++ l.drop (o + i + vs.length)) := by
  induction vs with
  | nil => intro i w l hB _ hle; exact ⟨w, by simp [storeCells], World.grownBy.refl _ _, rfl, by simpa using hB⟩
  | cons v vs ih =>
    intro i w l hB hone hle
    simp only [List.length_cons] at hle
    have hv := hone v (by simp)
    have hc := hB.cellv (i := o + i) (v := l[o + i]'(by omega)) (List.getElem?_eq_getElem (by omega))
    have hf := hB.free (o + i)
    have h1 := run_store P w ⟨b, o + i, none⟩ v .plain hv
    obtain ⟨w', hw', hg', hs', hB'⟩ := ih (i + 1) _ _ (hB.set_ (o + i) v) (fun u hu => hone u (List.mem_cons_of_mem _ hu)) (by simp; omega)
    refine ⟨w', ?_, grown_trans_ (grown_setCell w b (o + i) v) hg', by simpa using hs', ?_⟩
    · simp [storeCells, addr_add, h1, stored, hc, hf, hw']
    · have e1 : o + (i + 1) = (o + i) + 1 := by omega
      rw [e1] at hB'
      rw [List.take_set, List.drop_set_of_lt (by omega), List.take_succ_eq_append_getElem (by omega), List.set_append_right _ _ (by simp; omega)] at hB'
      have h5 : o + i - (l.take (o + i)).length = 0 := by simp; omega
      rw [h5] at hB'
      have e2 : o + i + 1 + vs.length = o + i + (vs.length + 1) := by omega
      rw [e2] at hB'
      simpa using hB'
/-- copy -/
theorem op_copy {x y : Operand} {t t2 el tb tb' b o b' o' dl dc sl sc k n : Nat} {l l' news : List Value} (hu : P.underlying t = some (.slice el)) (hz : ∀ w, (sizeOf el).run P w = .ok k w) (hx : ev e x = .slice (some ⟨b, o, none⟩) dl dc) (hy : ev e y = .slice (some ⟨b', o', none⟩) sl sc)
    (hB : Blk w b tb l) (hB' : Blk w b' tb' l') (hn : min sl dl = n) (hnews : (l'.drop o').take (n * k) = news) (hlen : news.length = n * k) (ho : o + n * k ≤ l.length) (hone : ∀ v ∈ news, v.oneCell' = true) :
    ∃ w', (execOp (ev e) ⟨d, .call ⟨.builtin .copy, #[x, y], #[t, t2]⟩, ty, ps, af, none⟩).run P w = .ok (.value (.int .i64 n)) w' ∧ w.grownBy w' (some b) ∧ w'.heap.size = w.heap.size ∧ Blk w' b tb (l.take o ++ news ++ l.drop (o + n * k)) := by
  obtain ⟨w', hw', hg', hs', hB2⟩ := storeCells_E (P := P) (o := o) news 0 w l hB hone (by omega)
  have hload : (loadCells ⟨b', o', none⟩ (n * k)).run P w = .ok news.toArray w := run_loadCells_E hlen (fun j v hv => by
    rw [addr_add]
    refine hB'.cellv ?_
    rw [← hnews, List.getElem?_take] at hv
    split at hv
    · rwa [List.getElem?_drop] at hv
    · cases hv)
  refine ⟨w', ?_, hg', hs', by simpa [hlen] using hB2⟩
  have hn' : Nat.min sl dl = n := hn
  simp [execOp, resolve, invoke, builtin, hx, hy, Builtin.copy_, run_underlying hu, Builtin.lenOf, hn', hz, Builtin.firstCells, hload, hw', goInt]
theorem rw_copy {x y : Operand} {t t2 el tb tb' b o b' o' dl dc sl sc k n : Nat} {l l' news : List Value} (hu : P.underlying t = some (.slice el)) (hz : ∀ w, (sizeOf el).run P w = .ok k w) (hx : ev e x = .slice (some ⟨b, o, none⟩) dl dc) (hy : ev e y = .slice (some ⟨b', o', none⟩) sl sc)
    (hB : Blk w b tb l) (hB' : Blk w b' tb' l') (hn : min sl dl = n) (hnews : (l'.drop o').take (n * k) = news) (hlen : news.length = n * k) (ho : o + n * k ≤ l.length) (hone : ∀ v ∈ news, v.oneCell' = true)
    (hr : ∀ w', w.grownBy w' (some b) → w'.heap.size = w.heap.size → Blk w' b tb (l.take o ++ news ++ l.drop (o + n * k)) → RW P ops Q rest (updO e d (.int .i64 n)) w') :
    RW P ops Q (⟨d, .call ⟨.builtin .copy, #[x, y], #[t, t2]⟩, ty, ps, af, none⟩ :: rest) e w := by
  obtain ⟨w', h1, h2, h3, h4⟩ := op_copy (P := P) (d := d) (ty := ty) (ps := ps) (af := af) (t2 := t2) hu hz hx hy hB hB' hn hnews hlen ho hone
  exact rw_w h1 (hr w' h2 h3 h4)
theorem to_w {o : Oper} {v : Value} {w' : World} {R : Value → World → Prop} (h : (execOp (ev e) o).run P w = .ok (.value v) w') (hr : R v w') : opTo P e o w R := by
  unfold opTo; rw [h]; exact hr
theorem to_ex {o : Oper} {v : Value} {A : World → Prop} {R : Value → World → Prop} (h : ∃ w', (execOp (ev e) o).run P w = .ok (.value v) w' ∧ A w') (hr : ∀ w', A w' → R v w') : opTo P e o w R := by
  obtain ⟨w', h1, h2⟩ := h; exact to_w h1 (hr w' h2)
theorem to_s {o : Oper} {w' : World} {R : Value → World → Prop} (h : (execOp (ev e) o).run P w = .ok .skip w') (hr : R undef w') : opTo P e o w R := by
  unfold opTo; rw [h]; exact hr
/-- copy from nothing -/
theorem rw_copy0 {x y : Operand} {t t2 el k dl dc sc : Nat} {A : Option Addr} (hu : P.underlying t = some (.slice el)) (hz : ∀ w, (sizeOf el).run P w = .ok k w) (hx : ev e x = .slice A dl dc) (hy : ev e y = .slice none 0 sc)
    (hr : RW P ops Q rest (updO e d (.int .i64 0)) w) : RW P ops Q (⟨d, .call ⟨.builtin .copy, #[x, y], #[t, t2]⟩, ty, ps, af, none⟩ :: rest) e w := by
  refine rw_w (v := .int .i64 0) (w' := w) ?_ hr
  have hn' : Nat.min 0 dl = 0 := Nat.zero_min _
  cases A <;> simp [execOp, resolve, invoke, builtin, hx, hy, Builtin.copy_, run_underlying hu, Builtin.lenOf, hn', hz, Builtin.firstCells, storeCells, goInt]
theorem op_slice_lh {t el : TypeId} {x lo hi : Operand} {b o len cap k : Nat} {kl kh : IntKind} {m n : Int} (hu : P.underlying t = some (.slice el)) (hz : ∀ w, (sizeOf el).run P w = .ok k w) (hx : ev e x = .slice (some ⟨b, o, none⟩) len cap) (hl : ev e lo = .int kl m) (hh : ev e hi = .int kh n)
    (h0 : 0 ≤ m) (h1 : m ≤ n) (h2 : n ≤ cap) (h3 : m < cap) : OpV P e ⟨d, .slice t x (some lo) (some hi) none, ty, ps, af, none⟩ (.slice (some ⟨b, o + m.toNat * k, none⟩) (n.toNat - m.toNat) (cap - m.toNat)) := by
  intro w
  have eh : (n.toNat : Int) = n := Int.toNat_of_nonneg (by omega)
  have hne : cap ≠ m.toNat := by omega
  simp [OpR, execOp, hx, hl, hh, Instr.sliceAt, Instr.slice, run_underlying hu, Instr.sliceBounds, run_sliceBound, eh, h0, h1, h2, (by omega : 0 ≤ n), hz, hne, addr_add]
theorem op_slice_h {t el : TypeId} {x hi : Operand} {len cap k : Nat} {A : Option Addr} {kh : IntKind} {n : Int} (hu : P.underlying t = some (.slice el)) (hz : ∀ w, (sizeOf el).run P w = .ok k w) (hx : ev e x = .slice A len cap) (hh : ev e hi = .int kh n)
    (h0 : 0 ≤ n) (h2 : n ≤ cap) : OpV P e ⟨d, .slice t x none (some hi) none, ty, ps, af, none⟩ (.slice A n.toNat cap) := by
  intro w
  have eh : (n.toNat : Int) = n := Int.toNat_of_nonneg (by omega)
  have hA : (if cap = 0 then A else Option.map (fun x => x.add 0) A) = A := by
    split
    · rfl
    · cases A <;> simp [Addr.add]
  simp [OpR, execOp, hx, hh, Instr.sliceAt, Instr.slice, run_underlying hu, Instr.sliceBounds, run_sliceBound, h0, h2, hz]
  intro hc; cases A <;> simp [Addr.add]
theorem op_slice_l {t el : TypeId} {x lo : Operand} {b o len cap k : Nat} {kl : IntKind} {m : Int} (hu : P.underlying t = some (.slice el)) (hz : ∀ w, (sizeOf el).run P w = .ok k w) (hx : ev e x = .slice (some ⟨b, o, none⟩) len cap) (hl : ev e lo = .int kl m)
    (h0 : 0 ≤ m) (h1 : m ≤ len) (h3 : m < cap) : OpV P e ⟨d, .slice t x (some lo) none none, ty, ps, af, none⟩ (.slice (some ⟨b, o + m.toNat * k, none⟩) (len - m.toNat) (cap - m.toNat)) := by
  intro w
  have hne : cap ≠ m.toNat := by omega
  simp [OpR, execOp, hx, hl, Instr.sliceAt, Instr.slice, run_underlying hu, Instr.sliceBounds, run_sliceBound, h0, h1, hz, hne, addr_add]
theorem range_flat (z : Array Value) (k : Nat) (hsz : z.size = k) (m : Nat) : (List.range (m * k)).map (fun i => z[i % z.size]!) = (List.replicate m z.toList).flatten := by
  induction m with
  | zero => simp
  | succ m ih =>
    rw [Nat.succ_mul, List.range_add, List.map_append, ih, List.replicate_succ', List.flatten_append]
    congr 1
    simp only [List.map_map, List.flatten_cons, List.flatten_nil, List.append_nil]
    apply List.ext_getElem?
    intro j
    by_cases hj : j < k
    · have : (m * k + j) % k = j := by rw [Nat.add_comm, Nat.add_mul_mod_self_right, Nat.mod_eq_of_lt hj]
      simp [hj, hsz, this]
    · simp [hj, hsz]
/-- make([]T, n, c) -/
theorem op_make {t el : TypeId} {x y : Operand} {size bytes n c : Nat} {kl kc : IntKind} {z : Value} {m p : Int} (hu : P.underlying t = some (.slice el)) (hI : (P.info? el).map (fun i => (i.zero, i.size, i.bytes)) = some (some z, size, bytes)) (hz : Nat.beq z.cells.size size = true)
    (hx : ev e x = .int kl m) (hy : ev e y = .int kc p) (hm : m = (n : Nat)) (hp : p = (c : Nat)) (hnc : n ≤ c) (hb : c * (bytes + 1) ≤ 140737488355328) :
    (execOp (ev e) ⟨d, .makeSlice t x y, ty, ps, af, none⟩).run P w = .ok (.value (.slice (some ⟨w.heap.size, 0, none⟩) n c)) (w.alloc (.cells ((List.replicate c z.cells.toList).flatten).toArray el)) := by
  obtain ⟨i, hi, hz0, hz1, hz2⟩ := info_parts hI
  subst hm; subst hp
  have hz' := Nat.eq_of_beq_eq_true hz
  have hb1 : c * bytes ≤ 140737488355328 := Nat.le_trans (Nat.mul_le_mul_left _ (by omega)) hb
  have hb2 : c ≤ 140737488355328 := Nat.le_trans (Nat.le_mul_of_pos_right _ (by omega)) hb
  have hb3 : (i.bytes : Int) * (c : Int) ≤ 281474976710656 := by
    have h : ((i.bytes * c : Nat) : Int) ≤ 281474976710656 := by rw [hz2, Nat.mul_comm]; omega
    rwa [Int.natCast_mul] at h
  have hr := run_make (P := P) w t el i z hu hi hz0 kl kc n c (by omega) (by omega) hb3 (by omega)
  have hcells : madeCells z.cells (c * i.size) = ((List.replicate c z.cells.toList).flatten).toArray := by
    rw [← Array.toList_inj]
    unfold madeCells
    simp only [Array.toList_map, Array.toList_range]
    rw [hz1]
    exact range_flat z.cells size hz' c
  simp only [Int.toNat_natCast] at hr
  rw [hcells] at hr
  simp [execOp, hx, hy, hr]
theorem flat_one (v : Value) (n : Nat) : (List.replicate n [v]).flatten = List.replicate n v := by
  induction n with
  | zero => rfl
  | succ n ih => simp [List.replicate_succ, ih]
theorem op_make1 {t el : TypeId} {x y : Operand} {bytes n c : Nat} {kl kc : IntKind} {z : Value} {m p : Int} (hu : P.underlying t = some (.slice el)) (hI : (P.info? el).map (fun i => (i.zero, i.size, i.bytes)) = some (some z, 1, bytes)) (hz : z.cells = #[z])
    (hx : ev e x = .int kl m) (hy : ev e y = .int kc p) (hm : m = (n : Nat)) (hp : p = (c : Nat)) (hnc : n ≤ c) (hb : c * (bytes + 1) ≤ 140737488355328) :
    (execOp (ev e) ⟨d, .makeSlice t x y, ty, ps, af, none⟩).run P w = .ok (.value (.slice (some ⟨w.heap.size, 0, none⟩) n c)) (w.alloc (.cells (List.replicate c z).toArray el)) := by
  have h := op_make (P := P) (w := w) (d := d) (ty := ty) (ps := ps) (af := af) (e := e) hu hI (by rw [hz]; rfl) hx hy hm hp hnc hb
  rw [hz] at h
  have e2 : (#[z] : Array Value).toList = [z] := rfl
  rw [e2, flat_one] at h
  exact h
/-- a type's assertion that holds, with its ok -/
theorem op_assert {x : Operand} {ts t : TypeId} {v : Value} {dd : TypeDesc} (hu : P.underlying t = some dd) (hd : ifaceD dd = false) (hx : ev e x = .iface t v) : OpV P e ⟨d, .typeAssert x ts t true, ty, ps, af, none⟩ (.tuple #[v, .bool true]) := by
  intro w
  cases dd <;> first | (cases hd; done) | (simp [OpR, execOp, hx, Instr.typeAssert, run_underlying hu])
theorem op_assert1 {x : Operand} {ts t : TypeId} {v : Value} {dd : TypeDesc} (hu : P.underlying t = some dd) (hd : ifaceD dd = false) (hx : ev e x = .iface t v) (hv : fz v = some v) : OpV P e ⟨d, .typeAssert x ts t false, ty, ps, af, none⟩ v := by
  intro w
  cases dd <;> first | (cases hd; done) | (simp [OpR, execOp, hx, Instr.typeAssert, run_underlying hu])
theorem op_assertN {x : Operand} {ts t t' : TypeId} {v z : Value} {dd : TypeDesc} (hu : P.underlying t = some dd) (hd : ifaceD dd = false) (hx : ev e x = .iface t' v) (hne : Nat.beq t' t = false) (hz : ∀ w, (zeroValue t).run P w = .ok z w) : OpV P e ⟨d, .typeAssert x ts t true, ty, ps, af, none⟩ (.tuple #[z, .bool false]) := by
  intro w
  have h : t' ≠ t := by rintro rfl; simp at hne
  cases dd <;> first | (cases hd; done) | (simp [OpR, execOp, hx, Instr.typeAssert, run_underlying hu, h, hz])
end
end Go.Proofs.Ytiidmiebckkloaa
/- Contracts of package rect's functions, each for all integers of its arguments that fit. -/
namespace Go.Proofs.Ytiidmiebckkloaa
open Go.RowKit
set_option linter.unusedVariables false
set_option linter.unusedSimpArgs false

/-- an int64 -/
def I64 (n : Int) : Prop := -9223372036854775808 ≤ n ∧ n ≤ 9223372036854775807

def insideB (n e : Int) : Bool := decide (0 ≤ n) && decide (n < e)

set_option maxHeartbeats 400000 in
theorem inside_any (n e : Int) (w : World) :
    Calls Try.prog 79 #[.int .i64 n, .int .i64 e] w fun r w' => r = .returned (.bool (insideB n e)) ∧ w = w' := by
  go_enter Try.func79, Try.ntmps79
  go_wp2
  all_goals (go_ret; refine ⟨?_, rfl⟩; unfold insideB; simp [*]; try omega)

/-- the code of rect.Within -/
def within (x0 y0 x1 y1 w h : Int) : Int :=
  if !insideB (w-1) 1024 || !insideB (h-1) 1024 then 3
  else if !insideB x0 w || !insideB x1 w || !insideB y0 h || !insideB y1 h then 4
  else if x1 < x0 ∨ y1 < y0 then 5 else 0

set_option maxHeartbeats 1000000 in
theorem within_any (x0 y0 x1 y1 w h : Int) (hw1 : -9223372036854775808 < w) (hw2 : w ≤ 9223372036854775807) (hh1 : -9223372036854775808 < h) (hh2 : h ≤ 9223372036854775807) (W : World) :
    Calls Try.prog 58 #[.agg #[.int .i64 x0, .int .i64 y0, .int .i64 x1, .int .i64 y1], .int .i64 w, .int .i64 h] W fun r W' => r = .returned (.int .i64 (within x0 y0 x1 y1 w h)) ∧ Below W.heap.size W W' := by
  go_enter Try.func58, Try.ntmps58
  go_wp2_with (go_at_call 79; refine (inside_any _ _ _).mono ?_; rintro e w' ⟨rfl, rfl⟩)
  all_goals
    go_ret
    refine ⟨?_, (Below.refl _ _).alloc (Nat.le_refl _) _⟩
    simp_all [within]
  all_goals first | done | (intro hh; omega) | omega

def rightB (x0 y0 x1 y1 : Int) : Bool := within x0 y0 x1 y1 1024 1024 == 0
theorem rightB_iff (x0 y0 x1 y1 : Int) : rightB x0 y0 x1 y1 = true ↔ 0 ≤ x0 ∧ x0 ≤ x1 ∧ x1 < 1024 ∧ 0 ≤ y0 ∧ y0 ≤ y1 ∧ y1 < 1024 := by
  unfold rightB within insideB
  simp
  split
  · simp; omega
  · split
    · simp; omega
    · omega

set_option maxHeartbeats 400000 in
theorem right_any (x0 y0 x1 y1 : Int) (W : World) :
    Calls Try.prog 72 #[.agg #[.int .i64 x0, .int .i64 y0, .int .i64 x1, .int .i64 y1]] W fun r W' => r = .returned (.bool (rightB x0 y0 x1 y1)) ∧ Below W.heap.size W W' := by
  go_enter Try.func72, Try.ntmps72
  go_wp2_with (go_at_call 58; refine (within_any _ _ _ _ _ _ (by omega) (by omega) (by omega) (by omega) _).mono ?_; rintro e w' ⟨rfl, hb⟩)
  all_goals
    go_ret
    refine ⟨?_, ((Below.refl _ _).alloc (Nat.le_refl _) _).trans (hb.mono (by simp))⟩
    rfl
end Go.Proofs.Ytiidmiebckkloaa
/- Contracts of package rect's functions, second part. -/
namespace Go.Proofs.Ytiidmiebckkloaa
open Go.RowKit
set_option linter.unusedVariables false
set_option linter.unusedSimpArgs false

set_option maxHeartbeats 400000 in
theorem width_any (x0 y0 x1 y1 : Int) (h : 0 ≤ x0 ∧ x0 ≤ x1 ∧ x1 < 1024) (W : World) :
    Calls Try.prog 73 #[.agg #[.int .i64 x0, .int .i64 y0, .int .i64 x1, .int .i64 y1]] W fun r W' => r = .returned (.int .i64 (x1 - x0 + 1)) ∧ Below W.heap.size W W' := by
  obtain ⟨h1, h2, h3⟩ := h
  go_enter Try.func73, Try.ntmps73
  go_wp2
  go_ret
  exact ⟨rfl, (Below.refl _ _).alloc (Nat.le_refl _) _⟩

theorem area_mul (a b : Int) (ha : 0 ≤ a) (hb : 0 ≤ b) (ha' : a ≤ 1024) (hb' : b ≤ 1024) : 0 ≤ a * b ∧ a * b ≤ 1048576 := by
  refine ⟨Int.mul_nonneg ha hb, ?_⟩
  have : a * b ≤ 1024 * 1024 := Int.mul_le_mul ha' hb' hb (by omega)
  omega

set_option maxHeartbeats 400000 in
theorem area_any (x0 y0 x1 y1 : Int) (h : 0 ≤ x0 ∧ x0 ≤ x1 ∧ x1 < 1024 ∧ 0 ≤ y0 ∧ y0 ≤ y1 ∧ y1 < 1024) (W : World) :
    Calls Try.prog 45 #[.agg #[.int .i64 x0, .int .i64 y0, .int .i64 x1, .int .i64 y1]] W fun r W' => r = .returned (.int .i64 ((x1 - x0 + 1) * (y1 - y0 + 1))) ∧ Below W.heap.size W W' := by
  have hr : rightB x0 y0 x1 y1 = true := (rightB_iff _ _ _ _).2 h
  obtain ⟨h1, h2, h3, h4, h5, h6⟩ := h
  obtain ⟨m1, m2⟩ := area_mul (x1 - x0 + 1) (y1 - y0 + 1) (by omega) (by omega) (by omega) (by omega)
  go_enter Try.func45, Try.ntmps45
  go_wp2_with (go_at_call 72; refine (right_any _ _ _ _ _).mono ?_; rintro e w' ⟨rfl, hb⟩; obtain ⟨hc, hf⟩ := bcell hb; have hs := hb.size; simp at hs)
  have hc0 : ∀ g : Grew w', g.at_.cell? ⟨W.heap.size, 0, none⟩ = some (.int .i64 x0) := fun g => gcell g (by omega) (by simp [hc])
  have hc1 : ∀ g : Grew w', g.at_.cell? ⟨W.heap.size, 1, none⟩ = some (.int .i64 y0) := fun g => gcell g (by omega) (by simp [hc])
  have hc2 : ∀ g : Grew w', g.at_.cell? ⟨W.heap.size, 2, none⟩ = some (.int .i64 x1) := fun g => gcell g (by omega) (by simp [hc])
  have hc3 : ∀ g : Grew w', g.at_.cell? ⟨W.heap.size, 3, none⟩ = some (.int .i64 y1) := fun g => gcell g (by omega) (by simp [hc])
  refine wp_region_grow (by kernel_rfl) (by kernel_rfl) ?_
  repeat (first | go_big_quiet_step ((go_at_call 73; exact grow_of (width_any _ _ _ _ (by omega) _))) | quiet_step ((go_at_call 73; exact grow_of (width_any _ _ _ _ (by omega) _))))
  refine wpQuiet_nil ?_
  rintro _ ⟨g, rfl⟩
  go_wp2
  go_ret
  exact ⟨rfl, (((Below.refl _ _).alloc (Nat.le_refl _) _).trans (hb.mono (by simp))).trans (g.below.mono (by omega))⟩

theorem floor_bits (n : Int) (h : 0 ≤ n) (h' : n < 1048576) : bits .andNot .i64 n 15 = n - n % 16 := by
  obtain ⟨k, rfl⟩ := Int.eq_ofNat_of_zero_le h
  have hk : k < 1048576 := by omega
  have e1 : k &&& 18446744073709551600 = k / 16 * 16 := by
    have e2 : (18446744073709551600 : Nat) = (2 ^ 60 - 1) <<< 4 := by decide
    have e3 : k / 16 * 16 = (k >>> 4) <<< 4 := by rw [Nat.shiftRight_eq_div_pow, Nat.shiftLeft_eq]
    rw [e2, e3]
    apply Nat.eq_of_testBit_eq
    intro i
    rw [Nat.testBit_and, Nat.testBit_shiftLeft, Nat.testBit_shiftLeft, Nat.testBit_two_pow_sub_one, Nat.testBit_shiftRight]
    by_cases h4 : i ≥ 4
    · have : 4 + (i - 4) = i := by omega
      rw [this]
      by_cases h64 : i - 4 < 60
      · simp [h4, h64]
      · have : k.testBit i = false := Nat.testBit_lt_two_pow (Nat.lt_of_lt_of_le hk (by
          have : 2 ^ 20 ≤ 2 ^ i := Nat.pow_le_pow_right (by omega) (by omega)
          omega))
        simp [this]
    · simp [h4]
  show IntKind.i64.wrap ((BitVec.ofInt 64 (k : Int) &&& ~~~ BitVec.ofInt 64 (15 : Int)).toNat : Int) = _
  rw [BitVec.toNat_and, BitVec.toNat_not]
  have e4 : (BitVec.ofInt 64 (k : Int)).toNat = k := by rw [BitVec.ofInt_natCast, BitVec.toNat_ofNat]; exact Nat.mod_eq_of_lt (by omega)
  have e5 : 2 ^ 64 - 1 - (BitVec.ofInt 64 (15 : Int)).toNat = 18446744073709551600 := by decide
  rw [e4, e5, e1, IntKind.wrap_i64]
  omega
set_option maxHeartbeats 400000 in
theorem floor_any (n : Int) (h : 0 ≤ n) (h' : n < 1048576) (W : World) :
    Calls Try.prog 80 #[.int .i64 n] W fun r W' => r = .returned (.int .i64 (n - n % 16)) ∧ W = W' := by
  have hf := Lib.hid (floor_bits n h h')
  go_enter Try.func80, Try.ntmps80
  go_wp2
  go_ret
  exact ⟨by rw [hf.out]; rfl, rfl⟩
end Go.Proofs.Ytiidmiebckkloaa
/- Contracts of package rect's functions, third part. -/
namespace Go.Proofs.Ytiidmiebckkloaa
open Go.RowKit
set_option linter.unusedVariables false
set_option linter.unusedSimpArgs false

theorem isAgg_rect : True := trivial
set_option maxHeartbeats 800000 in
/-- rect.Nth at a place that is there. -/
theorem nth_any (x0 y0 x1 y1 i : Int) (h : 0 ≤ x0 ∧ x0 ≤ x1 ∧ x1 < 1024 ∧ 0 ≤ y0 ∧ y0 ≤ y1 ∧ y1 < 1024) (hi : 0 ≤ i) (hi' : i < (x1 - x0 + 1) * (y1 - y0 + 1)) (W : World) :
    Calls Try.prog 86 #[.agg #[.int .i64 x0, .int .i64 y0, .int .i64 x1, .int .i64 y1], .int .i64 i] W fun r W' =>
      r = .returned (.tuple #[.agg #[.int .i64 (x0 + i % (x1 - x0 + 1)), .int .i64 (y0 + i / (x1 - x0 + 1))], .bool true]) ∧ Below W.heap.size W W' := by
  have hin : insideB i ((x1 - x0 + 1) * (y1 - y0 + 1)) = true := by simp [insideB, hi, hi']
  obtain ⟨h1, h2, h3, h4, h5, h6⟩ := h
  obtain ⟨m1, m2⟩ := area_mul (x1 - x0 + 1) (y1 - y0 + 1) (by omega) (by omega) (by omega) (by omega)
  have d1 : 0 ≤ i / (x1 - x0 + 1) := Int.ediv_nonneg hi (by omega)
  have d2 : i / (x1 - x0 + 1) ≤ 1048576 := Int.le_trans (Int.ediv_le_self _ hi) (by omega)
  have d3 : 0 ≤ i % (x1 - x0 + 1) := Int.emod_nonneg _ (by omega)
  have d4 : i % (x1 - x0 + 1) < x1 - x0 + 1 := Int.emod_lt_of_pos _ (by omega)
  go_enter Try.func86, Try.ntmps86
  go_wp2_with (first
    | (go_at_call 45; refine (area_any _ _ _ _ (by omega) _).mono ?_; rintro e w' ⟨rfl, hb⟩; obtain ⟨hc, hf⟩ := bcell hb; have hs := hb.size; simp at hs)
    | (go_at_call 79; refine (inside_any _ _ _).mono ?_; rintro e w1 ⟨rfl, rfl⟩))
  have hc0 : ∀ g : Grew w', g.at_.cell? ⟨W.heap.size, 0, none⟩ = some (.int .i64 x0) := fun g => gcell2 g hb (by first | (simp; done) | (simp; omega)) (by simp)
  have hc1 : ∀ g : Grew w', g.at_.cell? ⟨W.heap.size, 1, none⟩ = some (.int .i64 y0) := fun g => gcell2 g hb (by first | (simp; done) | (simp; omega)) (by simp)
  have hc2 : ∀ g : Grew w', g.at_.cell? ⟨W.heap.size, 2, none⟩ = some (.int .i64 x1) := fun g => gcell2 g hb (by first | (simp; done) | (simp; omega)) (by simp)
  have hc3 : ∀ g : Grew w', g.at_.cell? ⟨W.heap.size, 3, none⟩ = some (.int .i64 y1) := fun g => gcell2 g hb (by first | (simp; done) | (simp; omega)) (by simp)
  have hd0 : ∀ g : Grew w', g.at_.cell? ⟨W.heap.size+1, 0, none⟩ = some (.int .i64 0) := fun g => gcell2 g hb (by first | (simp; done) | (simp; omega)) (by simp)
  have hd1 : ∀ g : Grew w', g.at_.cell? ⟨W.heap.size+1, 1, none⟩ = some (.int .i64 0) := fun g => gcell2 g hb (by first | (simp; done) | (simp; omega)) (by simp)
  have hz0 : ∀ g : Grew w', g.at_.frozen? ⟨W.heap.size+1, 0, none⟩ = false := fun g => gfrozen2 g hb (by first | (simp; done) | (simp; omega)) (by simp [go_sem])
  have hz1 : ∀ g : Grew w', g.at_.frozen? ⟨W.heap.size+1, 1, none⟩ = false := fun g => gfrozen2 g hb (by first | (simp; done) | (simp; omega)) (by simp [go_sem])
  refine wp_region_grow_two [0, 1, 2, 3, 4, 5, 6, 7, 8, 9, 10, 11, 12, 13, 14] [15, 16] (by kernel_rfl) (by kernel_rfl) ?_
  simp only [pickL, List.drop_succ_cons, List.drop_zero]
  repeat (first | go_big_quiet_step ((go_at_call 73; exact grow_of (width_any _ _ _ _ (by omega) _))) | quiet_step ((go_at_call 73; exact grow_of (width_any _ _ _ _ (by omega) _))))
  refine wpQuiet_nil ?_
  rintro _ ⟨g, rfl⟩
  go_wp2
  refine bodyPost_ret (v := .tuple #[.agg #[.int .i64 (x0 + i % (x1 - x0 + 1)), .int .i64 (y0 + i / (x1 - x0 + 1))], .bool true]) (by simp [results, Try.results86, go_sem, hd0, hd1]) rfl ⟨rfl, ?_⟩
  have hbsz0 := hb.size
  try simp only [World.size_alloc, Grew.at_] at hbsz0
  have hbsz1 := g.below.size
  try simp only [World.size_alloc, Grew.at_] at hbsz1
  repeat (first | exact Below.refl _ _ | refine Below.setCell ?_ (by first | omega | (simp; done) | (simp; omega) | (simp at *; omega)) _ | refine Below.drew ?_ | refine Below.alloc ?_ (by first | omega | (simp; done) | (simp; omega) | (simp at *; omega)) _ | refine Below.trans ?_ (Below.mono hb (by first | omega | (simp; done) | (simp; omega) | (simp at *; omega))) | refine Below.trans ?_ (Below.mono g.below (by first | omega | (simp; done) | (simp; omega) | (simp at *; omega))))
end Go.Proofs.Ytiidmiebckkloaa
/- Contracts of package rect's functions. -/
namespace Go.Proofs.Ytiidmiebckkloaa
open Go.RowKit
set_option linter.unusedVariables false
set_option linter.unusedSimpArgs false
set_option maxRecDepth 100000

/-- returns v, and leaves what was there -/
def RetG (v : Value) (w : World) : Value → World → Prop := fun v' w' => v' = v ∧ Gr w w'
theorem inside_E (n e : Int) (w : World) : Fn Try.prog 79 [.int .i64 n, .int .i64 e] w (RetG (.bool (insideB n e)) w) :=
  Fn_of_calls (by kernel_rfl) ((inside_any n e w).mono fun _ _ ⟨h, hw⟩ => ⟨h, by subst hw; exact Gr.refl _⟩)
theorem within_E (x0 y0 x1 y1 w h : Int) (hw : -9223372036854775808 < w ∧ w ≤ 9223372036854775807) (hh : -9223372036854775808 < h ∧ h ≤ 9223372036854775807) (W : World) :
    Fn Try.prog 58 [.agg #[.int .i64 x0, .int .i64 y0, .int .i64 x1, .int .i64 y1], .int .i64 w, .int .i64 h] W (RetG (.int .i64 (within x0 y0 x1 y1 w h)) W) :=
  Fn_of_calls (by kernel_rfl) (within_any x0 y0 x1 y1 w h hw.1 hw.2 hh.1 hh.2 W)
theorem right_E (x0 y0 x1 y1 : Int) (W : World) : Fn Try.prog 72 [.agg #[.int .i64 x0, .int .i64 y0, .int .i64 x1, .int .i64 y1]] W (RetG (.bool (rightB x0 y0 x1 y1)) W) :=
  Fn_of_calls (by kernel_rfl) (right_any x0 y0 x1 y1 W)
theorem width_E (x0 y0 x1 y1 : Int) (h : 0 ≤ x0 ∧ x0 ≤ x1 ∧ x1 < 1024) (W : World) : Fn Try.prog 73 [.agg #[.int .i64 x0, .int .i64 y0, .int .i64 x1, .int .i64 y1]] W (RetG (.int .i64 (x1 - x0 + 1)) W) :=
  Fn_of_calls (by kernel_rfl) (width_any x0 y0 x1 y1 h W)
theorem area_E (x0 y0 x1 y1 : Int) (h : 0 ≤ x0 ∧ x0 ≤ x1 ∧ x1 < 1024 ∧ 0 ≤ y0 ∧ y0 ≤ y1 ∧ y1 < 1024) (W : World) : Fn Try.prog 45 [.agg #[.int .i64 x0, .int .i64 y0, .int .i64 x1, .int .i64 y1]] W (RetG (.int .i64 ((x1 - x0 + 1) * (y1 - y0 + 1))) W) :=
  Fn_of_calls (by kernel_rfl) (area_any x0 y0 x1 y1 h W)
theorem floor_E (n : Int) (h : 0 ≤ n ∧ n < 1048576) (W : World) : Fn Try.prog 80 [.int .i64 n] W (RetG (.int .i64 (n - n % 16)) W) :=
  Fn_of_calls (by kernel_rfl) ((floor_any n h.1 h.2 W).mono fun _ _ ⟨h, hw⟩ => ⟨h, by subst hw; exact Gr.refl _⟩)

def pieceC (x0 y0 x1 y1 x y : Int) : List Value := [.int .i64 (max x x0), .int .i64 (max y y0), .int .i64 (min (x + 16 - 1) x1), .int .i64 (min (y + 16 - 1) y1)]
def rowC (x0 y0 x1 y1 y : Int) (k : Nat) : List Value := (List.range k).flatMap fun (i : Nat) => pieceC x0 y0 x1 y1 (x0 - x0 % 16 + 16 * (i : Int)) y
def tilesN (a b : Int) : Nat := (b / 16 - a / 16 + 1).toNat
def piecesC (x0 y0 x1 y1 : Int) (k : Nat) : List Value := (List.range k).flatMap fun (j : Nat) => rowC x0 y0 x1 y1 (y0 - y0 % 16 + 16 * (j : Int)) (tilesN x0 x1)
theorem rowC_succ (x0 y0 x1 y1 y : Int) (k : Nat) : rowC x0 y0 x1 y1 y (k + 1) = rowC x0 y0 x1 y1 y k ++ pieceC x0 y0 x1 y1 (x0 - x0 % 16 + 16 * (k : Int)) y := by
  simp [rowC, List.range_succ]
theorem piecesC_succ (x0 y0 x1 y1 : Int) (k : Nat) : piecesC x0 y0 x1 y1 (k + 1) = piecesC x0 y0 x1 y1 k ++ rowC x0 y0 x1 y1 (y0 - y0 % 16 + 16 * (k : Int)) (tilesN x0 x1) := by
  simp [piecesC, List.range_succ]
theorem tiles_lt (a b : Int) (k : Nat) (h0 : 0 ≤ a) (h : a ≤ b) : k < tilesN a b ↔ a - a % 16 + 16 * (k : Int) ≤ b := by
  unfold tilesN; omega
theorem tiles_le (a b : Int) (h0 : 0 ≤ a) (h : a ≤ b) (hb : b < 1024) : 1 ≤ tilesN a b ∧ tilesN a b ≤ 64 := by
  unfold tilesN; omega
theorem info_rect : (Try.prog.info? 61).map (fun i => (i.zero, i.size, i.bytes)) = some (some (.agg #[.int .i64 0, .int .i64 0, .int .i64 0, .int .i64 0]), 4, 32) := by kernel_rfl
/-- returns a row of the call's own -/
def RetRow (el size n : Nat) (xs : List Value) (w : World) : Value → World → Prop := fun v' w' => ∃ A c, v' = .slice A n c ∧ Own w' w.heap.size el size A n c xs ∧ Gr w w'

theorem pieces_E (x0 y0 x1 y1 : Int) (h : 0 ≤ x0 ∧ x0 ≤ x1 ∧ x1 < 1024 ∧ 0 ≤ y0 ∧ y0 ≤ y1 ∧ y1 < 1024) (W : World) :
    Fn Try.prog 59 [.agg #[.int .i64 x0, .int .i64 y0, .int .i64 x1, .int .i64 y1]] W (RetRow 61 4 (tilesN y0 y1 * tilesN x0 x1) (piecesC x0 y0 x1 y1 (tilesN y0 y1)) W) := by
  have hr : rightB x0 y0 x1 y1 = true := (rightB_iff _ _ _ _).2 h
  obtain ⟨h1, h2, h3, h4, h5, h6⟩ := h
  obtain ⟨hx1, hx2⟩ := tiles_le x0 x1 h1 h2 h3
  obtain ⟨hy1, hy2⟩ := tiles_le y0 y1 h4 h5 h6
  refine Fn_enter Try.func59 rfl Try.results59 Try.ntmps59 (by kernel_rfl) (by kernel_rfl) ?_
  repeat refine cw_seq ?_
  refine cw_region ?_
  refine rw_new (op_box rfl) ?_
  intro w1_ g1_ s1_ b1_
  refine rw_v (op_pure rfl) ?_
  first | refine rw_end ?_ | (refine rw_nil ?_; show CW _ _ _ _ _ _) | refine rw_nil ?_
  repeat refine cw_seq ?_
  refine cw_region ?_
  refine rw_r (op_loadAB Try.underlying61 rfl (Try.sizeOf61 _) rfl b1_ rfl rfl) ?_
  refine rw_call rfl (right_E x0 y0 x1 y1 _) ?_
  rintro _ w2 ⟨rfl, g2⟩
  have b1_ := b1_.gr g2
  refine rw_v (op_pure rfl) ?_
  first | refine rw_end ?_ | (refine rw_nil ?_; show CW _ _ _ _ _ _) | refine rw_nil ?_
  repeat refine cw_seq ?_
  refine cw_false (by rw [hr]; rfl) ?_
  refine cw_skip ?_
  try show CW _ _ _ _ _ _
  repeat refine cw_seq ?_
  refine cw_region ?_
  refine rw_v (op_pure rfl) ?_
  first | refine rw_end ?_ | (refine rw_nil ?_; show CW _ _ _ _ _ _) | refine rw_nil ?_
  repeat refine cw_seq ?_
  refine cw_region ?_
  refine rw_v (op_fieldAddr Try.underlying61 rfl Try.sizeOf2 rfl rfl) ?_
  refine rw_r (op_loadB Try.underlying2 rfl rfl b1_ rfl) ?_
  refine rw_call rfl (floor_E y0 (by omega) _) ?_
  rintro _ w3 ⟨rfl, g3⟩
  have b1_ := b1_.gr g3
  refine rw_v (op_pure rfl) ?_
  first | refine rw_end ?_ | (refine rw_nil ?_; show CW _ _ _ _ _ _) | refine rw_nil ?_
  have bz := b1_
  repeat refine cw_seq ?_
  refine cw_block ?_
  refine cw_loop (fun m e w => ∃ (j : Nat) (A : Option Addr) (c : Nat), j + m = tilesN y0 y1 ∧ SL e [(1, .pointer (some ⟨W.heap.size, 0, none⟩)), (3, .slice A (j * tilesN x0 x1) c), (4, .int .i64 (y0 - y0 % 16 + 16 * (j : Int)))] ∧
    Own w w3.heap.size 61 4 A (j * tilesN x0 x1) c (piecesC x0 y0 x1 y1 j) ∧ Gr w3 w) (tilesN y0 y1) ⟨0, none, 0, by omega, ⟨rfl, se (by omega) rfl, ie (by omega), trivial⟩, by simpa [piecesC] using Own.nil _ _ _ _, Gr.refl _⟩ ?_
  rintro m e w ⟨j, A, c, hm, hsl, hown, hg⟩
  rw [hsl.fold]
  have b1_ := b1_.gr hg
  repeat refine cw_seq ?_
  refine cw_region ?_
  refine rw_v (op_pure rfl) ?_
  refine rw_v (op_fieldAddr Try.underlying61 rfl Try.sizeOf2 rfl rfl) ?_
  refine rw_r (op_loadB Try.underlying2 rfl rfl b1_ rfl) ?_
  first | refine rw_v (op_b (b := true) rfl (decide_eq_true (by omega))) ?_ | refine rw_v (op_b (b := false) rfl (decide_eq_false (by omega))) ?_ | refine rw_v (op_pure rfl) ?_
  first | refine rw_end ?_ | (refine rw_nil ?_; show CW _ _ _ _ _ _) | refine rw_nil ?_
  repeat refine cw_seq ?_
  refine cw_cond rfl (fun hc => ?_) (fun hc => ?_)
  · refine cw_skip ?_
    try show CW _ _ _ _ _ _
    have hlt : j < tilesN y0 y1 := (tiles_lt y0 y1 j h4 h5).2 (by simpa using hc)
    have hle := (tiles_lt y0 y1 j h4 h5).1 hlt
    repeat refine cw_seq ?_
    refine cw_block ?_
    repeat refine cw_seq ?_
    refine cw_region ?_
    refine rw_v (op_fieldAddr Try.underlying61 rfl Try.sizeOf2 rfl rfl) ?_
    refine rw_r (op_loadB Try.underlying2 rfl rfl b1_ rfl) ?_
    refine rw_call rfl (floor_E x0 (by omega) _) ?_
    rintro _ w4 ⟨rfl, g4⟩
    have b1_ := b1_.gr g4
    refine rw_v (op_pure rfl) ?_
    first | refine rw_end ?_ | (refine rw_nil ?_; show CW _ _ _ _ _ _) | refine rw_nil ?_
    repeat refine cw_seq ?_
    refine cw_block ?_
    refine cw_loop (fun m e w' => ∃ (k : Nat) (A : Option Addr) (c : Nat), k + m = tilesN x0 x1 ∧ SL e [(1, .pointer (some ⟨W.heap.size, 0, none⟩)), (3, .slice A (j * tilesN x0 x1 + k) c), (4, .int .i64 (y0 - y0 % 16 + 16 * (j : Int))), (5, .int .i64 (x0 - x0 % 16 + 16 * (k : Int)))] ∧
      Own w' w3.heap.size 61 4 A (j * tilesN x0 x1 + k) c (piecesC x0 y0 x1 y1 j ++ rowC x0 y0 x1 y1 (y0 - y0 % 16 + 16 * (j : Int)) k) ∧ Gr w3 w') (tilesN x0 x1) ⟨0, A, c, by omega, ⟨rfl, rfl, rfl, ie (by omega), trivial⟩, by simpa [rowC] using hown.gr g4, hg.trans g4⟩ ?_
    rintro m' e' w' ⟨k, A', c', hm', hsl', hown', hg'⟩
    rw [hsl'.fold]
    have b1_ := bz.gr hg'
    have G0 := Gr.refl w'
    have hl3 := bz.lt
    have hl4 := hg'.le
    repeat refine cw_seq ?_
    refine cw_region ?_
    refine rw_v (op_pure rfl) ?_
    refine rw_v (op_fieldAddr Try.underlying61 rfl Try.sizeOf2 rfl rfl) ?_
    refine rw_r (op_loadB Try.underlying2 rfl rfl b1_ rfl) ?_
    first | refine rw_v (op_b (b := true) rfl (decide_eq_true (by omega))) ?_ | refine rw_v (op_b (b := false) rfl (decide_eq_false (by omega))) ?_ | refine rw_v (op_pure rfl) ?_
    first | refine rw_end ?_ | (refine rw_nil ?_; show CW _ _ _ _ _ _) | refine rw_nil ?_
    repeat refine cw_seq ?_
    refine cw_cond rfl (fun hc' => ?_) (fun hc' => ?_)
    · refine cw_skip ?_
      try show CW _ _ _ _ _ _
      have hlt' : k < tilesN x0 x1 := (tiles_lt x0 x1 k h1 h2).2 (by simpa using hc')
      have hle' := (tiles_lt x0 x1 k h1 h2).1 hlt'
      have hjn : j * tilesN x0 x1 ≤ 64 * 64 := Nat.mul_le_mul (by omega) hx2
      repeat refine cw_seq ?_
      refine cw_block ?_
      repeat refine cw_seq ?_
      refine cw_region ?_
      refine rw_v (op_pure rfl) ?_
      refine rw_v (op_fieldAddr Try.underlying61 rfl Try.sizeOf2 rfl rfl) ?_
      refine rw_r (op_loadB Try.underlying2 rfl rfl b1_ rfl) ?_
      iterate 2 refine rw_v (op_pure rfl) ?_
      refine rw_v (op_fieldAddr Try.underlying61 rfl Try.sizeOf2 rfl rfl) ?_
      refine rw_r (op_loadB Try.underlying2 rfl rfl b1_ rfl) ?_
      iterate 2 refine rw_v (op_pure rfl) ?_
      refine rw_v (op_rng rfl (by omega)) ?_
      refine rw_v (op_rng rfl (by omega)) ?_
      refine rw_v (op_fieldAddr Try.underlying61 rfl Try.sizeOf2 rfl rfl) ?_
      refine rw_r (op_loadB Try.underlying2 rfl rfl b1_ rfl) ?_
      iterate 2 refine rw_v (op_pure rfl) ?_
      refine rw_v (op_rng rfl (by omega)) ?_
      refine rw_v (op_rng rfl (by omega)) ?_
      refine rw_v (op_fieldAddr Try.underlying61 rfl Try.sizeOf2 rfl rfl) ?_
      refine rw_r (op_loadB Try.underlying2 rfl rfl b1_ rfl) ?_
      refine rw_v (op_pure rfl) ?_
      refine rw_v (op_build (pl := [(0, 1), (1, 1), (2, 1), (3, 1)]) Try.underlying61 Try.zeroValue61 (fun w => by kernel_rfl) rfl rfl) ?_
      try have qb2_ := b1_.lt
      try have qb2_ := G0.le
      refine rw_new (op_alloc Try.zeroValue61 rfl) ?_
      intro w2_ g2_ s2_ b2_
      have b1_ := b1_.gr g2_
      have G0 := G0.trans g2_
      refine rw_storeA (n := 4) (Try.sizeOf61 _) rfl rfl rfl b2_ rfl rfl ?_
      intro w3_ g3_ s3_ b3_
      have b1_ := b1_.grown g3_ (by first | (intro hh; simp only [Option.some.injEq] at hh; omega) | (intro hh; have := Option.some.inj hh; omega) | exact fun hh => absurd (Option.some.inj hh) (b1_.ne_ b2_ (by decide)))
      have G0 := G0.store g3_ (by omega)
      have b2_ := b3_
      first | refine rw_end ?_ | (refine rw_nil ?_; show CW _ _ _ _ _ _) | refine rw_nil ?_
      repeat refine cw_seq ?_
      refine cw_region ?_
      refine rw_v (op_pure rfl) ?_
      first | refine rw_r (op_loadAB Try.underlying61 rfl (Try.sizeOf61 _) rfl b2_ rfl rfl) ?_ | refine rw_r (op_loadAB Try.underlying61 rfl (Try.sizeOf61 _) rfl b1_ rfl rfl) ?_
      try have qb4_ := b1_.lt
      try have qb4_ := G0.le
      try have qb4_ := b2_.lt
      refine rw_new (op_buildSlice Try.underlying123 Try.sizeOf61 Try.zeroValue61 rfl rfl rfl rfl rfl) ?_
      intro w4_ g4_ s4_ b4_
      have b1_ := b1_.gr g4_
      have G0 := G0.trans g4_
      have b2_ := b2_.gr g4_
      refine rw_append Try.underlying123 info_rect rfl rfl rfl (hown'.gr G0) rfl b4_ rfl rfl (by omega) (by have := G0.le; omega) ?_
      intro A2 c2 w5 hown5 hb5 hg5
      refine rw_v (op_pure rfl) ?_
      first | refine rw_end ?_ | (refine rw_nil ?_; show CW _ _ _ _ _ _) | refine rw_nil ?_
      repeat refine cw_seq ?_
      refine cw_region ?_
      refine rw_v (op_pure rfl) ?_
      refine rw_v (op_rng rfl (by omega)) ?_
      refine rw_v (op_pure rfl) ?_
      first | refine rw_end ?_ | (refine rw_nil ?_; show CW _ _ _ _ _ _) | refine rw_nil ?_
      refine ⟨m' - 1, by omega, k + 1, A2, c2, by omega, ⟨rfl, rfl, rfl, ie (by omega), trivial⟩, ?_, (hg'.trans G0).below hb5 (Nat.le_refl _)⟩
      rw [rowC_succ, ← List.append_assoc]
      exact hown5
    · refine cw_exit ?_
      show CW _ _ _ _ _ _
      have hk : k = tilesN x0 x1 := by have := mt (tiles_lt x0 x1 k h1 h2).1; simp at hc'; omega
      subst hk
      repeat refine cw_seq ?_
      refine cw_region ?_
      refine rw_v (op_pure rfl) ?_
      refine rw_v (op_rng rfl (by omega)) ?_
      refine rw_v (op_pure rfl) ?_
      first | refine rw_end ?_ | (refine rw_nil ?_; show CW _ _ _ _ _ _) | refine rw_nil ?_
      have hmul : j * tilesN x0 x1 + tilesN x0 x1 = (j + 1) * tilesN x0 x1 := (Nat.succ_mul _ _).symm
      refine ⟨m - 1, by omega, j + 1, A', c', by omega, ⟨rfl, se hmul rfl, ie (by omega), trivial⟩, ?_, hg'⟩
      rw [piecesC_succ, ← hmul]
      exact hown'
  · refine cw_exit ?_
    show CW _ _ _ _ _ _
    repeat refine cw_seq ?_
    refine cw_region ?_
    iterate 2 refine rw_v (op_pure rfl) ?_
    first | refine rw_end ?_ | (refine rw_nil ?_; show CW _ _ _ _ _ _) | refine rw_nil ?_
    have hj : j = tilesN y0 y1 := by have := mt (tiles_lt y0 y1 j h4 h5).1; simp at hc; omega
    subst hj
    refine cw_ret ?_
    exact res1 rfl ⟨_, _, rfl, hown.base ((g1_.trans (g2.trans g3)).le), g1_.trans (g2.trans (g3.trans hg))⟩
end Go.Proofs.Ytiidmiebckkloaa
/- Rows that may lie anywhere; arrays; bytes and strings. -/
namespace Go.Proofs.Ytiidmiebckkloaa
open Go.RowKit
set_option linter.unusedVariables false
set_option linter.unusedSimpArgs false

/-- what a slice's cells read -/
def Rd (w : World) (A : Option Addr) (xs : List Value) : Prop := xs = [] ∨ ∃ b o, A = some ⟨b, o, none⟩ ∧ b < w.heap.size ∧ ∀ (j : Nat) v, xs[j]? = some v → w.cell? ⟨b, o + j, none⟩ = some v
/-- a row of one-cell elements, whole -/
def R1 (w : World) (el : TypeId) (v : Value) (xs : List Value) : Prop := w.ownsRow 0 el 1 v xs.length xs
/-- What was there stands as it was, but for the blocks of F. -/
structure Fr (F : Nat → Prop) (w w' : World) : Prop where
  os : w'.os = w.os
  tape : w'.tape = w.tape
  output : w'.output = w.output
  size : w.heap.size ≤ w'.heap.size
  block : ∀ g, g < w.heap.size → ¬ F g → w'.heap[g]? = w.heap[g]?

section
variable {w w' w0 : World} {F F' : Nat → Prop}
theorem Fr.refl (F : Nat → Prop) (w : World) : Fr F w w := ⟨rfl, rfl, rfl, Nat.le_refl _, fun _ _ _ => rfl⟩
theorem Fr.of_gr (h : Gr w w') : Fr F w w' := ⟨h.os, h.tape, h.output, h.size, fun g hg _ => h.block g hg⟩
theorem Fr.of_grown {row : Option Nat} (h : w.grownBy w' row) (hF : ∀ g, row = some g → F g) : Fr F w w' := ⟨h.os, h.tape, h.output, h.size, fun g hg hn => h.block g hg (fun e => hn (hF g e.symm))⟩
theorem Fr.trans (h : Fr F w0 w) (k : Fr F' w w') (hF : ∀ g, F' g → F g ∨ w0.heap.size ≤ g) : Fr F w0 w' :=
  ⟨k.os.trans h.os, k.tape.trans h.tape, k.output.trans h.output, Nat.le_trans h.size k.size, fun g hg hn => (k.block g (Nat.lt_of_lt_of_le hg h.size) (fun e => (hF g e).elim hn (fun h => by omega))).trans (h.block g hg hn)⟩
theorem Fr.weak (h : Fr F w w') (hF : ∀ g, F g → F' g) : Fr F' w w' := ⟨h.os, h.tape, h.output, h.size, fun g hg hn => h.block g hg (fun e => hn (hF g e))⟩
theorem Fr.gr (h : Fr F w w') (hF : ∀ g, F g → w.heap.size ≤ g) : Gr w w' := (World.grownBy.mk h.os h.tape h.output h.size (fun g hg (_ : some g ≠ none) => h.block g hg (fun e => by have := hF g e; omega)) : w.grownBy w' none) |> Gr.of_grown
theorem Fr.then_gr (h : Fr F w0 w) (g : Gr w w') : Fr F w0 w' := h.trans (Fr.of_gr (F := fun _ => False) g) (fun _ h => h.elim)
theorem Blk.fr {b : Nat} {t : TypeId} {l : List Value} (h : Blk w b t l) (k : Fr F w w') (hn : ¬ F b) : Blk w' b t l := (k.block b h.lt hn).trans h
end

section
variable {w w' : World} {el : TypeId} {v : Value} {xs : List Value}
theorem R1.form (h : R1 w el v xs) : (v = .slice none 0 0 ∧ xs = []) ∨ ∃ g c l, v = .slice (some ⟨g, 0, none⟩) xs.length c ∧ Blk w g el l ∧ xs.length ≤ c ∧ l.length = c ∧ l.take xs.length = xs := by
  rcases h.2 with ⟨rfl, h2⟩ | ⟨g, cap, cur, hv, _, hh, hnc, _, hsz, ht⟩
  · exact .inl ⟨rfl, List.eq_nil_of_length_eq_zero h2⟩
  · exact .inr ⟨g, cap, cur.toList, hv, by unfold Blk; simpa using hh, hnc, by simpa using hsz, by simpa using ht⟩
theorem R1.slice (h : R1 w el v xs) : ∃ A c, v = .slice A xs.length c := by
  rcases h.form with ⟨rfl, rfl⟩ | ⟨g, c, l, rfl, _⟩
  · exact ⟨_, _, rfl⟩
  · exact ⟨_, _, rfl⟩
theorem R1.keep (h : R1 w el v xs) (hk : ∀ g, v.ownBlock = some g → w'.heap[g]? = w.heap[g]?) : R1 w' el v xs := by
  obtain ⟨h1, h2⟩ := h
  refine ⟨h1, ?_⟩
  rcases h2 with h2 | ⟨g, cap, cur, rfl, hg, hh, r⟩
  · exact .inl h2
  · exact .inr ⟨g, cap, cur, rfl, hg, (hk g rfl).trans hh, r⟩
theorem R1.lt (h : R1 w el v xs) {g : Nat} (hg : v.ownBlock = some g) : g < w.heap.size := by
  rcases h.form with ⟨rfl, _⟩ | ⟨g', c, l, rfl, hB, _⟩
  · cases hg
  · injection hg with hg; subst hg; exact hB.lt
theorem R1.fr {F : Nat → Prop} (h : R1 w el v xs) (k : Fr F w w') (hn : ∀ g, v.ownBlock = some g → ¬ F g) : R1 w' el v xs := h.keep fun g hg => k.block g (h.lt hg) (hn g hg)
theorem R1.gr (h : R1 w el v xs) (k : Gr w w') : R1 w' el v xs := h.keep fun g hg => k.block g (h.lt hg)
theorem R1.rd {A : Option Addr} {n c : Nat} (h : R1 w el (.slice A n c) xs) : Rd w A xs := by
  rcases h.form with ⟨hv, rfl⟩ | ⟨g, c', l, hv, hB, hc, hl, ht⟩
  · exact .inl rfl
  · injection hv with hA
    refine .inr ⟨g, 0, hA, hB.lt, fun j v hj => ?_⟩
    rw [Nat.zero_add]
    refine hB.cellv ?_
    rw [← ht, List.getElem?_take] at hj
    split at hj
    · exact hj
    · cases hj
theorem R1.nil (w : World) (el : TypeId) : R1 w el (.slice none 0 0) [] := World.ownsRow_nil _ _ _ _
theorem R1.new (w : World) (el : TypeId) (l : List Value) (hn : l.length ≤ maxLen) : R1 (w.alloc (.cells l.toArray el)) el (.slice (some ⟨w.heap.size, 0, none⟩) l.length l.length) l :=
  ⟨by simp, .inr ⟨w.heap.size, l.length, l.toArray, rfl, by omega, heap_alloc_new w _, Nat.le_refl _, hn, by simp, by simp⟩⟩
theorem R1.of_blk {g : Nat} {l : List Value} (hB : Blk w g el l) (hn : l.length ≤ maxLen) : R1 w el (.slice (some ⟨g, 0, none⟩) l.length l.length) l :=
  ⟨by simp, .inr ⟨g, l.length, l.toArray, rfl, by omega, hB, Nat.le_refl _, hn, by simp, by simp⟩⟩
theorem Rd.fr {F : Nat → Prop} {A : Option Addr} (h : Rd w A xs) (k : Fr F w w') (hn : ∀ a, A = some a → ¬ F a.block) : Rd w' A xs := by
  rcases h with h | ⟨b, o, rfl, hb, h⟩
  · exact .inl h
  · exact .inr ⟨b, o, rfl, Nat.lt_of_lt_of_le hb k.size, fun j v hj => by rw [World.cell?_of_block (w := w) (a := ⟨b, o + j, none⟩) (k.block b hb (hn ⟨b, o, none⟩ rfl))]; exact h j v hj⟩
theorem Rd.gr {A : Option Addr} (h : Rd w A xs) (k : Gr w w') : Rd w' A xs := h.fr (Fr.of_gr (F := fun _ => False) k) (fun _ _ h => h)
end

section
variable {P : Program} {ops : Array Oper} {Q : (Nat → Value) → World → Prop} {e : Nat → Value} {w : World} {rest : List Oper}
variable {d : Option Tmp} {ty : TypeId} {ps : String} {af : Array Edge}
theorem op_app {s x : Operand} {t el : TypeId} {bytes m c2 : Nat} {A : Option Addr} {z v : Value} {xs ys : List Value}
    (hu : P.underlying t = some (.slice el)) (hI : (P.info? el).map (fun i => (i.zero, i.size, i.bytes)) = some (some z, 1, bytes)) (hz : Nat.beq z.cells.size 1 = true)
    (hs : ev e s = v) (hown : R1 w el v xs) (hx : ev e x = .slice A m c2) (hm : m = ys.length) (hc0 : A = none → c2 = 0) (hR : Rd w A ys) (h1 : (ys.all fun v => v.oneCell') = true)
    (hb : (xs.length + ys.length) * (bytes + 1) ≤ 140737488355328) :
    ∃ w', ∃ v', (execOp (ev e) ⟨d, .call ⟨.builtin .append, #[s, x], #[t, t]⟩, ty, ps, af, none⟩).run P w = .ok (.value v') w' ∧ R1 w' el v' (xs ++ ys) ∧ w.grownBy w' v.ownBlock ∧ (v'.ownBlock = v.ownBlock ∨ v'.ownBlock = some w.heap.size) := by
  obtain ⟨i, hi, hz0, hz1, hz2⟩ := info_parts hI
  have hz' := Nat.eq_of_beq_eq_true hz
  have hb1 : (xs.length + ys.length) * bytes ≤ 140737488355328 := Nat.le_trans (Nat.mul_le_mul_left _ (by omega)) hb
  have hb2 : xs.length + ys.length ≤ 140737488355328 := Nat.le_trans (Nat.le_mul_of_pos_right _ (by omega)) hb
  subst hm
  have hR' : (A = none ∧ ys = []) ∨ ∃ a, A = some a ∧ ∀ (j : Nat) u, ys[j]? = some u → w.cell? (a.add j) = some u := by
    rcases hR with rfl | ⟨b, o, rfl, hlt, hc⟩
    · cases A with
      | none => exact .inl ⟨rfl, rfl⟩
      | some a => exact .inr ⟨a, rfl, fun j u hu => by cases hu⟩
    · exact .inr ⟨_, rfl, fun j u hu => by rw [addr_add]; exact hc j u hu⟩
  rcases hR' with ⟨rfl, rfl⟩ | ⟨a, rfl, hc⟩
  · have := run_append_owned_none (P := P) (w := w) 0 t ty el i 1 hu hi v xs.length xs hown
    have hc0 := hc0 rfl
    subst hc0
    refine ⟨w, v, ?_, by simpa using hown, World.grownBy.refl _ _, .inl rfl⟩
    simp at hx
    simp [execOp, resolve, invoke, builtin, hs, hx, this]
  · obtain ⟨v', w', hrun, ho, hg, _, hob⟩ := run_append_own_at (P := P) w 0 t ty el i z 1 bytes hu hi hz0 hz1 hz2 hz' (by omega) v xs.length xs hown a ys.length c2 ys (by omega)
      hc (fun u hu => List.all_eq_true.1 h1 u hu) (by unfold maxLen; omega) hb1 (by omega)
    refine ⟨w', v', ?_, by unfold R1; rw [List.length_append]; exact ho, hg, hob⟩
    simp [execOp, resolve, invoke, builtin, hs, hx, hrun]
theorem rw_app {s x : Operand} {t el : TypeId} {bytes m c2 : Nat} {A : Option Addr} {z v : Value} {xs ys : List Value}
    (hu : P.underlying t = some (.slice el)) (hI : (P.info? el).map (fun i => (i.zero, i.size, i.bytes)) = some (some z, 1, bytes)) (hz : Nat.beq z.cells.size 1 = true)
    (hs : ev e s = v) (hown : R1 w el v xs) (hx : ev e x = .slice A m c2) (hm : m = ys.length) (hc0 : A = none → c2 = 0) (hR : Rd w A ys) (h1 : (ys.all fun v => v.oneCell') = true)
    (hb : (xs.length + ys.length) * (bytes + 1) ≤ 140737488355328)
    (hr : ∀ v' w', R1 w' el v' (xs ++ ys) → w.grownBy w' v.ownBlock → (v'.ownBlock = v.ownBlock ∨ v'.ownBlock = some w.heap.size) → RW P ops Q rest (updO e d v') w') :
    RW P ops Q (⟨d, .call ⟨.builtin .append, #[s, x], #[t, t]⟩, ty, ps, af, none⟩ :: rest) e w := by
  obtain ⟨w', v', h1, h2, h3, h4⟩ := op_app (P := P) (d := d) (ty := ty) (ps := ps) (af := af) hu hI hz hs hown hx hm hc0 hR h1 hb
  exact rw_w h1 (hr v' w' h2 h3 h4)
theorem to_app {s x : Operand} {t el : TypeId} {bytes m c2 : Nat} {A : Option Addr} {z v : Value} {xs ys : List Value} {R : Value → World → Prop}
    (hu : P.underlying t = some (.slice el)) (hI : (P.info? el).map (fun i => (i.zero, i.size, i.bytes)) = some (some z, 1, bytes)) (hz : Nat.beq z.cells.size 1 = true)
    (hs : ev e s = v) (hown : R1 w el v xs) (hx : ev e x = .slice A m c2) (hm : m = ys.length) (hc0 : A = none → c2 = 0) (hR : Rd w A ys) (h1 : (ys.all fun v => v.oneCell') = true)
    (hb : (xs.length + ys.length) * (bytes + 1) ≤ 140737488355328)
    (hr : ∀ v' w', R1 w' el v' (xs ++ ys) → w.grownBy w' v.ownBlock → (v'.ownBlock = v.ownBlock ∨ v'.ownBlock = some w.heap.size) → R v' w') :
    opTo P e ⟨d, .call ⟨.builtin .append, #[s, x], #[t, t]⟩, ty, ps, af, none⟩ w R := by
  obtain ⟨w', v', h1, h2, h3, h4⟩ := op_app (P := P) (d := d) (ty := ty) (ps := ps) (af := af) hu hI hz hs hown hx hm hc0 hR h1 hb
  exact to_w h1 (hr v' w' h2 h3 h4)
theorem op_indexAddrP {t el : TypeId} {x i : Operand} {b o len k : Nat} {kd : IntKind} {n : Int} (hu : P.underlying t = some (.array len el)) (hz : ∀ w, (sizeOf el).run P w = .ok k w) (hx : ev e x = .pointer (some ⟨b, o, none⟩)) (hi : ev e i = .int kd n) (h0 : 0 ≤ n) (h1 : n < len) :
    OpV P e ⟨d, .indexAddr t x i, ty, ps, af, none⟩ (.pointer (some ⟨b, o + n.toNat * k, none⟩)) := by
  intro w
  simp [OpR, execOp, hx, hi, Instr.indexAt, Instr.sureAddr, asIntOf, run_underlying hu, hz, h0, h1, addr_add]
theorem op_indexAddrQ {t el : TypeId} {x i : Operand} {b o len k o' : Nat} {kd : IntKind} {n : Int} (hu : P.underlying t = some (.array len el)) (hz : ∀ w, (sizeOf el).run P w = .ok k w) (hx : ev e x = .pointer (some ⟨b, o, none⟩)) (hi : ev e i = .int kd n) (h0 : 0 ≤ n) (h1 : n < len) (hk : o + n.toNat * k = o') :
    OpV P e ⟨d, .indexAddr t x i, ty, ps, af, none⟩ (.pointer (some ⟨b, o', none⟩)) := hk ▸ op_indexAddrP hu hz hx hi h0 h1
theorem op_indexAddrS {t el : TypeId} {x i : Operand} {b o len cap k o' : Nat} {kd : IntKind} {n : Int} (hu : P.underlying t = some (.slice el)) (hz : ∀ w, (sizeOf el).run P w = .ok k w) (hx : ev e x = .slice (some ⟨b, o, none⟩) len cap) (hi : ev e i = .int kd n) (h0 : 0 ≤ n) (h1 : n < len) (hk : o + n.toNat * k = o') :
    OpV P e ⟨d, .indexAddr t x i, ty, ps, af, none⟩ (.pointer (some ⟨b, o', none⟩)) := hk ▸ op_indexAddr hu hz hx hi h0 h1
theorem op_indexV {t el : TypeId} {x i : Operand} {len k : Nat} {kd : IntKind} {n : Int} {cs : List Value} {dd : TypeDesc} {v : Value} (hu : P.underlying t = some (.array len el)) (hd : P.underlying el = some dd) (hz : ∀ w, (sizeOf el).run P w = .ok k w) (ha : aggD dd = false) (hx : ev e x = .agg cs.toArray) (hi : ev e i = .int kd n) (h0 : 0 ≤ n) (h1 : n < len)
    (hv : cs[n.toNat * k]? = some v) : OpV P e ⟨d, .index t x i, ty, ps, af, none⟩ v := by
  intro w
  simp [OpR, execOp, hx, hi, Instr.index, asIntOf, run_underlying hu, hz, h0, h1, part, run_isAgg_E hd, ha, hv]
theorem op_nils {t t' te : TypeId} {x : Operand} {a : Option Addr} {n c : Nat} {B : Bool} (hu : P.underlying t = some (.slice te)) (hx : ev e x = .slice a n c) (hB : a.isNone = B) : OpV P e ⟨d, .binOp .eql t x (.const (.slice none 0 0)) t', ty, ps, af, none⟩ (.bool B) := by
  intro w
  subst hB
  have h2 : ev e (.const (.slice none 0 0)) = .slice none 0 0 := rfl
  have h3 : ∀ n' : Nat, (Op.equalIn (n' + 1) t (.slice a n c) (.slice none 0 0)).run P w = .ok a.isNone w := fun n' => by
    unfold Op.equalIn
    cases a <;> simp [run_underlying hu]
  have h4 : (Op.equal t (.slice a n c) (.slice none 0 0)).run P w = .ok a.isNone w := h3 9999
  cases a <;> simp [OpR, execOp, hx, h2, eqGuard, binOp, h4]
theorem op_nilpn {t t' te : TypeId} {x : Operand} {a : Option Addr} {B : Bool} (hu : P.underlying t = some (.pointer te)) (hx : ev e x = .pointer a) (hB : a.isSome = B) : OpV P e ⟨d, .binOp .neq t x (.const (.pointer none)) t', ty, ps, af, none⟩ (.bool B) := by
  intro w
  subst hB
  have h2 : ev e (.const (.pointer none)) = .pointer none := rfl
  have h3 : ∀ n : Nat, (Op.equalIn (n + 1) t (.pointer a) (.pointer none)).run P w = .ok a.isNone w := fun n => by
    unfold Op.equalIn
    cases a <;> simp [run_underlying hu]
  have h4 : (Op.equal t (.pointer a) (.pointer none)).run P w = .ok a.isNone w := h3 9999
  cases a <;> simp [OpR, execOp, hx, h2, eqGuard, binOp, h4]
/-- a method value of a receiver that is no pointer -/
theorem op_ncm {x : Operand} {m : String} {t : TypeId} {u : Value} (hx : ev e x = .func (.method m) #[.iface t u] #[]) (hn : ∀ w, (nilAhead (P.types.size + Made.depth) t u m).run P w = .ok (some false) w) : OpV P e ⟨d, .nilCheck x, ty, ps, af, none⟩ (.func (.method m) #[.iface t u] #[]) := by
  intro w
  simp [OpR, execOp, hx, hn]
/-- a slice's literal without elements -/
theorem op_build0 {t el : TypeId} {k : Nat} (hu : P.underlying t = some (.slice el)) (hs : ∀ w, (sizeOf el).run P w = .ok k w) :
    (execOp (ev e) ⟨d, .buildSlice t 0 #[], ty, ps, af, none⟩).run P w = .ok (.value (.slice (some ⟨w.heap.size, 0, none⟩) 0 0)) (w.alloc (.cells ([] : List Value).toArray el)) := by
  have h0 : Array.range 0 = #[] := Array.eq_empty_of_size_eq_zero (by simp)
  simp [execOp, Instr.buildSlice, run_underlying hu, hs, newRow, Instr.fill, h0]
/-- a string of a slice's bytes -/
def strOf (bs : List Int) : ByteArray := bs.foldl (fun r n => r.push (UInt8.ofNat n.toNat)) ByteArray.empty
def c8 (bs : List Int) : List Value := bs.map (Value.int .u8)
theorem op_str {t t' el : TypeId} {x : Operand} {A : Option Addr} {c : Nat} {bs : List Int} (hs : P.underlying t = some (.slice el)) (he : P.underlying el = some (.int .u8)) (hd : P.underlying t' = some .string) (hx : ev e x = .slice A bs.length c) (hR : Rd w A (c8 bs)) :
    OpR P e ⟨d, .convert t t' x, ty, ps, af, none⟩ w (.string (strOf bs)) := by
  have h1 := run_convert_bytes_string (P := P) w t t' el A bs.length c hs he hd
  rcases hR with hn | ⟨b, o, rfl, _, hc⟩
  · have : bs = [] := by simpa [c8] using hn
    subst this
    have h2 : (Conv.bytesToString (.slice A ([] : List Int).length c)).run P w = .ok (.string ByteArray.empty) w := by
      cases A with
      | none => simp [Conv.bytesToString]
      | some a => exact run_bytesToString (P := P) w a 0 c [] (by simp [loadCells, loadCellsFrom])
    simp only [OpR, execOp, hx, Sem.run_bind, h1, h2]
    rfl
  · have hl : (loadCells ⟨b, o, none⟩ bs.length).run P w = .ok (bs.map (Value.int .u8)).toArray w := run_loadCells_E (by simp) (fun j v hj => by rw [addr_add]; exact hc j v hj)
    have h2 := run_bytesToString (P := P) w ⟨b, o, none⟩ bs.length c bs hl
    simp [OpR, execOp, hx, h1, h2, strOf]
theorem strOf_toList (bs : List Int) : (strOf bs).toList = bs.map fun n => UInt8.ofNat n.toNat := by
  have key : ∀ (bs : List Int) (s : ByteArray), (bs.foldl (fun r n => r.push (UInt8.ofNat n.toNat)) s).data = s.data ++ (bs.map fun n => UInt8.ofNat n.toNat).toArray := by
    intro bs
    induction bs with
    | nil => intro s; simp
    | cons b bs ih => intro s; rw [List.foldl_cons, ih]; simp [ByteArray.push]
  have h := key bs ByteArray.empty
  have h2 : ∀ s : ByteArray, s.toList = s.data.toList := fun s => ByteArray.toList_eq s
  rw [h2]
  unfold strOf
  rw [h]
  simp
theorem byte_inj {a b : Int} (ha : 0 ≤ a ∧ a < 256) (hb : 0 ≤ b ∧ b < 256) (h : UInt8.ofNat a.toNat = UInt8.ofNat b.toNat) : a = b := by
  have := congrArg UInt8.toNat h
  simp only [UInt8.toNat_ofNat'] at this
  omega
end
end Go.Proofs.Ytiidmiebckkloaa
