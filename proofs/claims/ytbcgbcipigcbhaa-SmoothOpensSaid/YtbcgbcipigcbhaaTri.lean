/- Regions that draw their order, of three kinds of operations: plain ones, that read or call functions that leave what was there as it was, in whatever order; special ones, that come up alone when all that may stand beside them has come up, or beside plain ones that do not mind; and a tail. What the special ones yield is told by the class of the worlds behind them. -/
import Derived.Test.YtbcgbcipigcbhaaStep
namespace Go.Proofs.Ytbcgbcipigcbhaa
open Go.RowKit
set_option linter.unusedVariables false
set_option linter.unusedSimpArgs false

section
variable {P : Program} {ops : Array Oper} {C : List Value → World → Prop} {sp : Nat → Bool}

def yieldsTo (P : Program) (o : Oper) (a : Act) (w : World) (R : Value → World → Prop) : Prop :=
  match (execOp a.eval o).run P w with
  | .ok (.value u) w' => R u w'
  | .ok .skip w' => R undef w'
  | .ok (.enter f args) w' => Calls P f args w' fun en w'' => ∃ v, en = .returned v ∧ R v w''
  | _ => False
theorem wp_of_yieldsTo {o : Oper} {a : Act} {w : World} {R : Value → World → Prop} {K : Act → World → Prop} {Q : Exit → Act → World → Prop} (h : yieldsTo P o a w R) (hK : ∀ v w', R v w' → K (a.put o.dst v) w') : o.wp P a w K Q := by
  unfold Oper.wp
  unfold yieldsTo at h
  generalize (execOp a.eval o).run P w = r at *
  cases r with
  | ok n w' =>
    cases n <;> simp only [Oper.upon] <;> first | exact h.elim | exact hK _ _ h | skip
    case enter f args => exact h.mono fun en w'' ⟨v, he, hn⟩ => by subst he; exact hK _ _ hn
  | halt x w' => exact h.elim
/-- Operation number i comes up in state 'a', the special ones so far having yielded σ. -/
def sOp (P : Program) (ops : Array Oper) (C : List Value → World → Prop) (sp : Nat → Bool) (i : Nat) (K : List Value → Act → Prop) (σ : List Value) (a : Act) : Prop :=
  match ops[i]? with
  | none => K σ a
  | some o =>
    if Region.wanted o (yielded ops a.tmps) then
      match sp i with
      | true => (∀ w, C σ w → yieldsTo P o a w fun v w' => C (v :: σ) w') ∧ ∀ v w', C (v :: σ) w' → K (v :: σ) (a.put o.dst v)
      | false => ∃ v, (∀ τ w, C τ w → yieldsTo P o a w fun u w' => u = v ∧ C τ w') ∧ K σ (a.put o.dst v)
    else K σ (a.put o.dst undef)
theorem sOp_mono {i : Nat} {a : Act} {σ : List Value} {K K' : List Value → Act → Prop} (h : ∀ σ a, K σ a → K' σ a) (hh : sOp P ops C sp i K σ a) : sOp P ops C sp i K' σ a := by
  unfold sOp at *
  split
  · rename_i ho; rw [ho] at hh; exact h _ _ hh
  · rename_i o ho
    rw [ho] at hh
    dsimp only at hh
    split
    · rename_i hw
      rw [if_pos hw] at hh
      cases hs : sp i with
      | true => rw [hs] at hh; exact ⟨hh.1, fun v w' hv => h _ _ (hh.2 v w' hv)⟩
      | false => rw [hs] at hh; exact ⟨hh.choose, hh.choose_spec.1, h _ _ hh.choose_spec.2⟩
    · rename_i hw; rw [if_neg hw] at hh; exact h _ _ hh
theorem wpOp_of_sOp {i : Nat} {a : Act} {σ : List Value} {w : World} {K : List Value → Act → Prop} {K' : Act → World → Prop} {Q' : Exit → Act → World → Prop} (hw : C σ w) (h : ∀ σ a w', C σ w' → K σ a → K' a w') (hh : sOp P ops C sp i K σ a) : wpOp P ops Q' i K' a w := by
  unfold sOp at hh
  unfold wpOp
  split
  · rename_i ho; rw [ho] at hh; exact h _ _ _ hw hh
  · rename_i o ho
    rw [ho] at hh
    dsimp only at hh
    split
    · rename_i hwn
      rw [if_pos hwn] at hh
      left
      cases hs : sp i with
      | true => rw [hs] at hh; exact wp_of_yieldsTo (hh.1 w hw) fun v w' hv => h _ _ _ hv (hh.2 v w' hv)
      | false =>
        rw [hs] at hh
        obtain ⟨v, h1, h2⟩ := hh
        exact wp_of_yieldsTo (h1 σ w hw) fun u w' ⟨hu, hc⟩ => by subst hu; exact h _ _ _ hc h2
    · rename_i hwn; rw [if_neg hwn] at hh; exact h _ _ _ hw hh

def headS (P : Program) (ops : Array Oper) (C : List Value → World → Prop) (sp : Nat → Bool) (hd : List Nat) (L : Array Bool → List Value → Act → Prop) : Nat → Array Bool → List Value → Act → Prop
  | 0, listed, σ, a => L listed σ a
  | f + 1, listed, σ, a => Region.ready .any ops listed ≠ [] ∧ ∀ i ∈ Region.ready .any ops listed, i ∈ hd ∧ sOp P ops C sp i (headS P ops C sp hd L f (listed.setIfInBounds i true)) σ a
theorem wpAny_of_headS {hd : List Nat} {L : Array Bool → List Value → Act → Prop} {Q' : Exit → Act → World → Prop} {g : Nat} (hL : ∀ listed σ a w, C σ w → L listed σ a → wpAny P .any ops Q' g listed a w) :
    ∀ (f : Nat) (listed : Array Bool) (σ : List Value) (a : Act) (w : World), C σ w → headS P ops C sp hd L f listed σ a → wpAny P .any ops Q' (f + g) listed a w
  | 0, listed, σ, a, w, hw, h => by rw [Nat.zero_add]; exact hL _ _ _ _ hw h
  | f + 1, listed, σ, a, w, hw, h => by
    rw [show f + 1 + g = (f + g) + 1 by omega]
    exact ⟨fun h0 => absurd h0 h.1, fun i hi => wpOp_of_sOp hw (fun σ a' w' hw' h' => wpAny_of_headS hL f _ σ a' w' hw' h') (h.2 i hi).2⟩

/-- A plain operation yields v, whatever the class. -/
def YieldsS (P : Program) (ops : Array Oper) (C : List Value → World → Prop) (o : Oper) (v : Value) (a : Act) : Prop :=
  (Region.wanted o (yielded ops a.tmps) = true ∧ ∀ τ w, C τ w → yieldsTo P o a w fun u w' => u = v ∧ C τ w') ∨
  (Region.wanted o (yielded ops a.tmps) = false ∧ v = undef)
theorem YieldsS.sOp {i : Nat} {o : Oper} {v : Value} {a : Act} {σ : List Value} (hi : ops[i]? = some o) (hs : sp i = false) (hy : YieldsS P ops C o v a) {K : List Value → Act → Prop} (h : K σ (a.put o.dst v)) : sOp P ops C sp i K σ a := by
  unfold Go.Proofs.Ytbcgbcipigcbhaa.sOp
  rw [hi]
  dsimp only
  rcases hy with ⟨hw, hv⟩ | ⟨hw, rfl⟩
  · rw [if_pos hw, hs]; exact ⟨v, hv, h⟩
  · rw [if_neg (by simp [hw])]; exact h
theorem YieldsS.of_same {o : Oper} {v : Value} {a a' : Act} (hy : YieldsS P ops C o v a) (he : execOp a'.eval o = execOp a.eval o)
    (hw : Region.wanted o (yielded ops a'.tmps) = Region.wanted o (yielded ops a.tmps)) : YieldsS P ops C o v a' := by
  unfold YieldsS yieldsTo at *
  rw [he, hw]
  exact hy
theorem sOp_put {j : Nat} {oi oj : Oper} {v : Value} {σ : List Value} (hj : ops[j]? = some oj) (hap : oi.apart ops oj = true)
    (hsi : ∀ cs b, oi.op ≠ .select cs b) (hsj : ∀ cs b, oj.op ≠ .select cs b) {K : List Value → Act → Prop} {a : Act}
    (hy : YieldsS P ops C oi v a) (h : sOp P ops C sp j K σ (a.put oi.dst v)) :
    sOp P ops C sp j (fun σ' a' => YieldsS P ops C oi v a' ∧ K σ' (a'.put oi.dst v)) σ a := by
  obtain ⟨h1, h2, h3⟩ := Oper.apart_spec hap
  have keep : ∀ u, YieldsS P ops C oi v (a.put oj.dst u) := fun u => hy.of_same (execOp_put oi hsi a oj.dst u h3) (wanted_put oi a oj.dst u h3)
  unfold sOp at *
  rw [hj] at h ⊢
  dsimp only at h ⊢
  rw [wanted_put oj a oi.dst v h1] at h
  split
  · rename_i hw
    rw [if_pos hw] at h
    cases hs : sp j with
    | true =>
      rw [hs] at h
      refine ⟨fun w hC => ?_, fun u w' hC => ⟨keep u, by rw [← Act.put_comm a v u h2]; exact h.2 u w' hC⟩⟩
      have := h.1 w hC
      unfold yieldsTo at *
      rwa [execOp_put oj hsj a oi.dst v h1] at this
    | false =>
      rw [hs] at h
      obtain ⟨u, hu, hn⟩ := h
      refine ⟨u, fun τ w hC => ?_, keep u, by rw [← Act.put_comm a v u h2]; exact hn⟩
      have := hu τ w hC
      unfold yieldsTo at *
      rwa [execOp_put oj hsj a oi.dst v h1] at this
  · rename_i hw
    rw [if_neg hw] at h
    exact ⟨keep _, by rw [← Act.put_comm a v undef h2]; exact h⟩

theorem headS_first {hd : List Nat} {L : Array Bool → List Value → Act → Prop} {i : Nat} {oi : Oper} {v : Value} (hi : ops[i]? = some oi) (hspi : sp i = false)
    (hsel : ∀ (j : Nat) (o : Oper) cs b, ops[j]? = some o → o.op ≠ .select cs b)
    (hhd : ∀ (listed : Array Bool), ClosedL ops listed → listed.getD i true = false → ∀ j ∈ Region.ready .any ops listed, j ∈ hd)
    (hdone : ∀ listed σ a, L listed σ a → ∀ j ∈ Region.ready .any ops listed, j ∉ hd) :
    ∀ (f : Nat) (listed : Array Bool) (σ : List Value) (a : Act), ClosedL ops listed →
      (∀ j oj, ops[j]? = some oj → j ≠ i → listed.getD j true = false → (∀ e ∈ oj.after, Region.binds .any e = true → e.on ≠ i) → oi.apart ops oj = true) →
      i ∈ Region.ready .any ops listed → YieldsS P ops C oi v a →
      headS P ops C sp hd L f (listed.setIfInBounds i true) σ (a.put oi.dst v) → headS P ops C sp hd L (f + 1) listed σ a := by
  intro f
  induction f with
  | zero =>
    intro listed σ a hcl _ hr hy H
    refine ⟨fun h => (by rw [h] at hr; cases hr), fun j hj => ?_⟩
    have hjh := hhd listed hcl (mem_ready.1 hr).1 j hj
    refine ⟨hjh, ?_⟩
    by_cases hji : j = i
    · subst hji; exact hy.sOp hi hspi H
    · exact absurd hjh (hdone _ _ _ H j (ready_mono hj hji))
  | succ f ih =>
    intro listed σ a hcl hfree hr hy H
    have hun := (mem_ready.1 hr).1
    refine ⟨fun h => (by rw [h] at hr; cases hr), fun j hj => ?_⟩
    refine ⟨hhd listed hcl hun j hj, ?_⟩
    by_cases hji : j = i
    · subst hji; exact hy.sOp hi hspi H
    · have h1 := (H.2 j (ready_mono hj hji)).2
      obtain ⟨hjun, oj, hoj, hall⟩ := mem_ready.1 hj
      have hnot : ∀ e ∈ oj.after, Region.binds .any e = true → e.on ≠ i := fun e he hb heq => by
        have h2 := hall e he hb
        rw [heq] at h2
        rcases Nat.lt_or_ge i listed.size with h' | h'
        · simp [h'] at hun h2; rw [hun] at h2; cases h2
        · simp [Array.getElem?_eq_none h'] at h2
      have h2 := sOp_put hoj (hfree j oj hoj hji hjun hnot) (fun cs b => hsel i oi cs b hi) (fun cs b => hsel j oj cs b hoj) hy h1
      have hfree' : ∀ k ok, ops[k]? = some ok → k ≠ i → (listed.setIfInBounds j true).getD k true = false →
          (∀ e ∈ ok.after, Region.binds .any e = true → e.on ≠ i) → oi.apart ops ok = true := fun k ok hk hki hun' hno => by
        refine hfree k ok hk hki ?_ hno
        by_cases hjk : j = k
        · subst hjk; exact hjun
        · rw [getD_set_ne true hjk] at hun'; exact hun'
      refine sOp_mono (fun σ' a' h3 => ih (listed.setIfInBounds j true) σ' a' (hcl.set hj) hfree' (ready_mono hr (Ne.symm hji)) h3.1 ?_) h2
      rw [Array.setIfInBounds_comm _ _ hji]
      exact h3.2

def headTB (ops : Array Oper) (sp : Nat → Bool) (tl : List Nat) : List Nat → Array Bool → Bool
  | [], listed => tailB ops tl listed
  | i :: hd, listed => (match sp i with
    | true => decide (Region.ready .any ops listed = [i])
    | false => (Region.ready .any ops listed).contains i && Region.free .any ops listed i) && headTB ops sp tl hd (listed.setIfInBounds i true)
def orderTB (ops : Array Oper) (sp : Nat → Bool) (hd tl : List Nat) : Bool :=
  Region.noSelect ops && decide (hd.length + tl.length = ops.size) && ((List.range ops.size).all fun i => hd.contains i || tl.contains i) &&
  (tl.all fun t => hd.all fun i => (ancsOf ops ops.size t).contains i) && (tl.all fun t => !hd.contains t) && headTB ops sp tl hd (Array.replicate ops.size false)

/-- The walk through the head, in the order that one chose. -/
def wpS (P : Program) (ops : Array Oper) (C : List Value → World → Prop) (sp : Nat → Bool) (Lq : List Value → Act → Prop) : List (Nat × Oper) → List Value → Act → Prop
  | [], σ, a => Lq σ a
  | (i, o) :: rest, σ, a =>
    if Region.wanted o (yielded ops a.tmps) then
      match sp i with
      | true => (∀ w, C σ w → yieldsTo P o a w fun v w' => C (v :: σ) w') ∧ ∀ v w', C (v :: σ) w' → wpS P ops C sp Lq rest (v :: σ) (a.put o.dst v)
      | false => ∃ v, (∀ τ w, C τ w → yieldsTo P o a w fun u w' => u = v ∧ C τ w') ∧ wpS P ops C sp Lq rest σ (a.put o.dst v)
    else wpS P ops C sp Lq rest σ (a.put o.dst undef)
theorem headS_lex {hd tl : List Nat} {Lq : List Value → Act → Prop} (hsel : Region.noSelect ops = true)
    (hcov : ∀ i, i < ops.size → i ∈ hd ∨ i ∈ tl) (hanc : ∀ t ∈ tl, ∀ i ∈ hd, i ∈ ancsOf ops ops.size t) (hdis : ∀ t ∈ tl, t ∉ hd) :
    ∀ (h : List Nat) (lh : List (Nat × Oper)) (listed : Array Bool) (σ : List Value) (a : Act), (∀ i ∈ h, i ∈ hd) → h.map (fun i => (i, ops[i]?)) = lh.map (fun p => (p.1, some p.2)) → ClosedL ops listed → headTB ops sp tl h listed = true →
      wpS P ops C sp Lq lh σ a → headS P ops C sp hd (fun listed' σ' a' => tailB ops tl listed' = true ∧ Lq σ' a') h.length listed σ a
  | [], lh, listed, σ, a, _, hl, _, hB, hq => by
    have : lh = [] := by cases lh with | nil => rfl | cons => simp at hl
    subst this
    exact ⟨by simpa [headTB] using hB, hq⟩
  | i :: h, [], listed, σ, a, _, hl, _, hB, hq => by simp at hl
  | i :: h, (i', o) :: lh, listed, σ, a, hin, hl, hcl, hB, hq => by
    simp only [List.map_cons, List.cons.injEq, Prod.mk.injEq] at hl
    obtain ⟨⟨rfl, h0⟩, hl'⟩ := hl
    simp only [headTB, Bool.and_eq_true] at hB
    obtain ⟨hr, hB'⟩ := hB
    have rec_ := headS_lex (Lq := Lq) hsel hcov hanc hdis h lh (listed.setIfInBounds i true)
    cases hs : sp i with
    | true =>
      rw [hs] at hr
      have hr' : Region.ready .any ops listed = [i] := by simpa using hr
      have hri : i ∈ Region.ready .any ops listed := by rw [hr']; simp
      refine ⟨by rw [hr']; simp, fun j hj => ?_⟩
      rw [hr'] at hj
      obtain rfl : j = i := by simpa using hj
      refine ⟨hin j (by simp), ?_⟩
      unfold sOp
      rw [h0]
      dsimp only
      simp only [wpS, hs] at hq
      split
      · rename_i hw
        rw [if_pos hw] at hq
        rw [hs]
        exact ⟨hq.1, fun v w' hv => rec_ _ _ (fun k hk => hin k (List.mem_cons_of_mem _ hk)) hl' (hcl.set hri) hB' (hq.2 v w' hv)⟩
      · rename_i hw
        rw [if_neg hw] at hq
        exact rec_ _ _ (fun k hk => hin k (List.mem_cons_of_mem _ hk)) hl' (hcl.set hri) hB' hq
    | false =>
      rw [hs] at hr
      simp only [Bool.and_eq_true] at hr
      have hr' : i ∈ Region.ready .any ops listed := by simpa using hr.1
      simp only [wpS, hs] at hq
      have hy : ∃ v, YieldsS P ops C o v a ∧ wpS P ops C sp Lq lh σ (a.put o.dst v) := by
        by_cases hw : Region.wanted o (yielded ops a.tmps) = true
        · rw [if_pos hw] at hq
          obtain ⟨v, h1, h2⟩ := hq
          exact ⟨v, .inl ⟨hw, h1⟩, h2⟩
        · rw [if_neg hw] at hq
          exact ⟨undef, .inr ⟨by simpa using hw, rfl⟩, hq⟩
      obtain ⟨v, hy, hK⟩ := hy
      refine headS_first h0 hs (Region.noSelect_spec hsel) ?_ ?_ h.length listed σ a hcl (Region.free_spec h0 hr.2) hr' hy
        (rec_ _ _ (fun j hj => hin j (List.mem_cons_of_mem _ hj)) hl' (hcl.set hr') hB' hK)
      · intro listed' hcl' hun j hj
        obtain ⟨_, oj, hoj, _⟩ := mem_ready.1 hj
        have hjs : j < ops.size := (Array.getElem?_eq_some_iff.1 hoj).1
        rcases hcov j hjs with hh | hh
        · exact hh
        · have hl1 := ancs_listed hcl' ops.size j (preds_ready hj) i (hanc j hh i (hin i (by simp)))
          rcases Nat.lt_or_ge i listed'.size with h' | h'
          · simp [h'] at hun hl1; rw [hun] at hl1; cases hl1
          · simp [Array.getElem?_eq_none h'] at hl1
      · intro listed' σ' a' hL j hj hjh
        have hB := hL.1
        cases htl : tl with
        | nil => simp only [htl, tailB, List.isEmpty_iff] at hB; rw [hB] at hj; cases hj
        | cons t tl' =>
          simp only [htl, tailB, Bool.and_eq_true, decide_eq_true_eq] at hB
          rw [hB.1] at hj
          have : j = t := by simpa using hj
          subst this
          exact hdis j (by simp [htl]) hjh

theorem wp_region_tri {id : Nat} {Q : Exit → Act → World → Prop} {a : Act} {w : World} {l : List Oper} (hd tl : List Nat) (lh : List (Nat × Oper)) (lt : List Oper) (hm : P.follows .mixedOrders = true)
    (hB : orderTB l.toArray sp hd tl = true) (hh : hd.map (fun i => (i, l.toArray[i]?)) = lh.map (fun p => (p.1, some p.2))) (ht : tl.map (l.toArray[·]?) = lt.map some) (hC : C [] w.drew)
    (h : wpS P l.toArray C sp (fun σ a' => ∀ w', C σ w' → wpList P l.toArray Q lt a' w') lh [] a) : (Code.region id l.toArray true).wp P Q a w := by
  simp only [orderTB, Bool.and_eq_true, decide_eq_true_eq] at hB
  obtain ⟨⟨⟨⟨⟨hsel, hlen⟩, hcov⟩, hanc⟩, hdis⟩, hhd⟩ := hB
  have H := headS_lex (P := P) (C := C) (sp := sp) (Lq := fun σ a' => ∀ w', C σ w' → wpList P l.toArray Q lt a' w') (hd := hd) (tl := tl) hsel
    (fun i hi => by have := List.all_eq_true.1 hcov i (List.mem_range.2 hi); simpa using this)
    (fun t htl i hi => by have := List.all_eq_true.1 (List.all_eq_true.1 hanc t htl) i hi; simpa using this)
    (fun t htl => by have := List.all_eq_true.1 hdis t htl; simpa using this)
    hd lh (Array.replicate l.toArray.size false) [] a (fun _ hi => hi) hh
    (fun i hi => by
      have h0 : ∀ m j : Nat, (Array.replicate m false).getD j false = false := fun m j => by
        rcases Nat.lt_or_ge j m with h' | h'
        · simp [h']
        · simp [h']
      rw [h0] at hi
      cases hi) hhd h
  refine wp_region_any hm ?_
  have := wpAny_of_headS (Q' := Q) (g := tl.length) (fun listed σ a' w' hw' hL => wpAny_of_tail tl lt listed a' w' ht hL.1 (hL.2 w' hw')) _ _ _ _ _ hC H
  rw [hlen] at this
  exact this

/-! ### The same over a frame that is a function -/
def opTo (P : Program) (e : Nat → Value) (o : Oper) (w : World) (R : Value → World → Prop) : Prop :=
  match (execOp (ev e) o).run P w with
  | .ok (.value u) w' => R u w'
  | .ok .skip w' => R undef w'
  | .ok (.enter f args) w' => Calls P f args w' fun en w'' => ∃ v, en = .returned v ∧ R v w''
  | _ => False
def RS (P : Program) (ops : Array Oper) (C : List Value → World → Prop) (sp : Nat → Bool) (Q : List Value → (Nat → Value) → Prop) : List (Nat × Oper) → List Value → (Nat → Value) → Prop
  | [], σ, e => Q σ e
  | (i, o) :: rest, σ, e =>
    if wE ops e o = true then
      match sp i with
      | true => (∀ w, C σ w → opTo P e o w fun v w' => C (v :: σ) w') ∧ ∀ v w', C (v :: σ) w' → RS P ops C sp Q rest (v :: σ) (updO e o.dst v)
      | false => ∃ v, (∀ τ w, C τ w → opTo P e o w fun u w' => u = v ∧ C τ w') ∧ RS P ops C sp Q rest σ (updO e o.dst v)
    else RS P ops C sp Q rest σ (updO e o.dst undef)
theorem wpS_of_RS {N : Nat} {Q : List Value → (Nat → Value) → Prop} {Q' : List Value → Act → Prop} (hQ : ∀ σ e a, Rep N e a → Q σ e → Q' σ a) :
    ∀ (l : List (Nat × Oper)) (σ : List Value) (e : Nat → Value) (a : Act), (l.all fun p => dstOk N p.2.dst) = true → Rep N e a → RS P ops C sp Q l σ e → wpS P ops C sp Q' l σ a
  | [], σ, e, a, _, hr, h => hQ σ e a hr h
  | (i, o) :: rest, σ, e, a, hd, hr, h => by
    simp only [List.all_cons, Bool.and_eq_true] at hd
    unfold wpS
    rw [hr.wanted]
    simp only [RS] at h
    have hto : ∀ w R, opTo P e o w R → yieldsTo P o a w R := fun w R hh => by unfold yieldsTo; rw [hr.eval]; exact hh
    split
    · rename_i hw
      rw [if_pos hw] at h
      cases hs : sp i with
      | true =>
        rw [hs] at h
        exact ⟨fun w hC => hto _ _ (h.1 w hC), fun v w' hC => wpS_of_RS hQ rest _ _ _ hd.2 (hr.put hd.1 v) (h.2 v w' hC)⟩
      | false =>
        rw [hs] at h
        obtain ⟨v, h1, h2⟩ := h
        exact ⟨v, fun τ w hC => hto _ _ (h1 τ w hC), wpS_of_RS hQ rest _ _ _ hd.2 (hr.put hd.1 v) h2⟩
    · rename_i hw
      rw [if_neg hw] at h
      exact wpS_of_RS hQ rest _ _ _ hd.2 (hr.put hd.1 undef) h
def pickI (l : List Oper) : List Nat → List (Nat × Oper)
  | [] => []
  | i :: is => match l.drop i with
    | o :: _ => (i, o) :: pickI l is
    | [] => pickI l is
theorem pickI_map (l : List Oper) : ∀ is : List Nat, (is.all fun i => decide (i < l.length)) = true → is.map (fun i => (i, l.toArray[i]?)) = (pickI l is).map fun p => (p.1, some p.2)
  | [], _ => rfl
  | i :: is, h => by
    simp only [List.all_cons, Bool.and_eq_true, decide_eq_true_eq] at h
    simp only [pickI, List.drop_eq_getElem_cons h.1, List.map_cons, pickI_map l is h.2]
    simp [h.1]
theorem cw_tri {N : Nat} {Q : Exit → (Nat → Value) → World → Prop} {e : Nat → Value} {w : World} {id : Nat} {l : List Oper} (sp : List Nat) (hd tl : List Nat) (hm : P.follows .mixedOrders = true)
    (hB : (orderTB l.toArray (fun i => sp.contains i) hd tl && (hd.all fun i => decide (i < l.length)) && (tl.all fun i => decide (i < l.length))) = true) (hC : C [] w.drew)
    (h : RS P l.toArray C (fun i => sp.contains i) (fun σ e' => ∀ w', C σ w' → RW P l.toArray (fun e w => Q .normal e w) (pickL l tl) e' w') (pickI l hd) [] e) : CW P N (.region id l.toArray true) Q e w := fun hk a hr => by
  simp only [Bool.and_eq_true] at hB
  simp only [codeOk] at hk
  have hsub : ∀ is : List Nat, (is.all fun i => decide (i < l.length)) = true → ((pickL l is).all fun o => dstOk N o.dst) = true := fun is his => by
    have h1 := pickL_map l is his
    refine List.all_eq_true.2 fun o ho => ?_
    have h2 : some o ∈ (pickL l is).map some := List.mem_map.2 ⟨o, ho, rfl⟩
    rw [← h1] at h2
    obtain ⟨i, _, hi⟩ := List.mem_map.1 h2
    have h3 : l[i]? = some o := by simpa using hi
    exact List.all_eq_true.1 hk o (List.mem_of_getElem? h3)
  have hsubI : ∀ is : List Nat, (is.all fun i => decide (i < l.length)) = true → ((pickI l is).all fun p => dstOk N p.2.dst) = true := fun is his => by
    have h1 := pickI_map l is his
    refine List.all_eq_true.2 fun p hp => ?_
    have h2 : (p.1, some p.2) ∈ (pickI l is).map (fun p => (p.1, some p.2)) := List.mem_map.2 ⟨p, hp, rfl⟩
    rw [← h1] at h2
    obtain ⟨i, _, hi⟩ := List.mem_map.1 h2
    simp only [Prod.mk.injEq] at hi
    have h3 : l[i]? = some p.2 := by simpa using hi.2
    exact List.all_eq_true.1 hk p.2 (List.mem_of_getElem? h3)
  refine wp_region_tri (C := C) hd tl _ _ hm hB.1.1 (pickI_map l hd hB.1.2) (pickL_map l tl hB.2) hC ?_
  exact wpS_of_RS (fun σ e' a' hr' hq w' hw' => wpList_of_RW (fun e a w hr h => ⟨e, hr, h⟩) _ e' a' w' (hsub tl hB.2) hr' (hq w' hw')) _ [] e a (hsubI hd hB.1.2) hr h

/-! ### Steps -/
variable {Qs : List Value → (Nat → Value) → Prop} {σ : List Value} {e : Nat → Value} {i : Nat} {rest : List (Nat × Oper)}
variable {d : Option Tmp} {op : Op} {ty : TypeId} {ps : String} {af : Array Edge}
theorem RS_t {o : Oper} (h : wE ops e o = true) : RS P ops C sp Qs ((i, o) :: rest) σ e = match sp i with
      | true => (∀ w, C σ w → opTo P e o w fun v w' => C (v :: σ) w') ∧ ∀ v w', C (v :: σ) w' → RS P ops C sp Qs rest (v :: σ) (updO e o.dst v)
      | false => ∃ v, (∀ τ w, C τ w → opTo P e o w fun u w' => u = v ∧ C τ w') ∧ RS P ops C sp Qs rest σ (updO e o.dst v) := by rw [RS]; exact if_pos h
theorem RS_f {o : Oper} (h : wE ops e o = false) : RS P ops C sp Qs ((i, o) :: rest) σ e = RS P ops C sp Qs rest σ (updO e o.dst undef) := by rw [RS]; exact if_neg (by simp [h])
theorem rs_nil (h : Qs σ e) : RS P ops C sp Qs [] σ e := h
theorem rs_on {j : Nat} {b : Bool} (h : yE ops e j = some b) (hr : RS P ops C sp Qs ((i, ⟨d, op, ty, ps, af, none⟩) :: rest) σ e) : RS P ops C sp Qs ((i, ⟨d, op, ty, ps, af, some (j, b)⟩) :: rest) σ e := by
  rw [RS_t rfl] at hr
  rw [RS_t (by simp [wE, h])]
  exact hr
theorem rs_off {j : Nat} {b : Bool} (h : (yE ops e j == some b) = false) (hr : RS P ops C sp Qs rest σ (updO e d undef)) : RS P ops C sp Qs ((i, ⟨d, op, ty, ps, af, some (j, b)⟩) :: rest) σ e := by
  rw [RS_f (by simp [wE, h])]
  exact hr
theorem rs_r {v : Value} (hs : sp i = false) (h : ∀ τ w, C τ w → OpR P e ⟨d, op, ty, ps, af, none⟩ w v) (hr : RS P ops C sp Qs rest σ (updO e d v)) : RS P ops C sp Qs ((i, ⟨d, op, ty, ps, af, none⟩) :: rest) σ e := by
  rw [RS_t rfl, hs]
  refine ⟨v, fun τ w hC => ?_, hr⟩
  have := h τ w hC
  unfold OpR at this
  unfold opTo
  rw [this]
  exact ⟨rfl, hC⟩
theorem rs_v {v : Value} (hs : sp i = false) (h : OpV P e ⟨d, op, ty, ps, af, none⟩ v) (hr : RS P ops C sp Qs rest σ (updO e d v)) : RS P ops C sp Qs ((i, ⟨d, op, ty, ps, af, none⟩) :: rest) σ e := rs_r hs (fun _ w _ => h w) hr
/-- a plain call -/
theorem rs_call {f : FuncId} {args : List Operand} {tys : Array TypeId} {vs : List Value} {v : Value} (hs : sp i = false) (hv : fzl (args.map (ev e)) = some vs) (hc : ∀ τ w, C τ w → Fn P f vs w (fun v' w' => v' = v ∧ C τ w')) (hr : RS P ops C sp Qs rest σ (updO e d v)) :
    RS P ops C sp Qs ((i, ⟨d, .call ⟨.value (.func f), args.toArray, tys⟩, ty, ps, af, none⟩) :: rest) σ e := by
  have h0 := fzl_eq hv
  rw [RS_t rfl, hs]
  refine ⟨v, fun τ w hC => ?_, hr⟩
  have hrun : (execOp (ev e) ⟨d, .call ⟨.value (.func f), args.toArray, tys⟩, ty, ps, af, none⟩).run P w = .ok (.enter f vs.toArray) w := by
    have h1 : ev e (.func f) = .func (.func f) #[] #[] := rfl
    simp [execOp, resolve, h1, Deferred.ofValue, invoke, h0, run_callFunc_E (hc τ w hC).1]
  unfold opTo
  rw [hrun]
  exact (hc τ w hC).2
/-- a special operation: what it does is told as a step in order -/
theorem rs_special {o : Oper} (hs : sp i = true) (hw : wE ops e o = true) (h : ∀ w, C σ w → opTo P e o w fun v w' => C (v :: σ) w') (hr : ∀ v w', C (v :: σ) w' → RS P ops C sp Qs rest (v :: σ) (updO e o.dst v)) : RS P ops C sp Qs ((i, o) :: rest) σ e := by
  rw [RS_t hw, hs]
  exact ⟨h, hr⟩
theorem to_new {v : Value} {l : List Value} {t : TypeId} {w : World} {R : Value → World → Prop} {o : Oper} (h : (execOp (ev e) o).run P w = .ok (.value v) (w.alloc (.cells l.toArray t)))
    (hr : ∀ w', Gr w w' → w'.heap.size = w.heap.size + 1 → Blk w' w.heap.size t l → R v w') : opTo P e o w R := by
  unfold opTo
  rw [h]
  exact hr _ (Gr.alloc _ _) (by simp) (Blk.new _ _ _)
theorem to_call {f : FuncId} {args : List Operand} {tys : Array TypeId} {vs : List Value} {w : World} {R : Value → World → Prop} (hv : fzl (args.map (ev e)) = some vs) (hc : Fn P f vs w R) :
    opTo P e ⟨d, .call ⟨.value (.func f), args.toArray, tys⟩, ty, ps, af, none⟩ w R := by
  have h0 := fzl_eq hv
  have hrun : (execOp (ev e) ⟨d, .call ⟨.value (.func f), args.toArray, tys⟩, ty, ps, af, none⟩).run P w = .ok (.enter f vs.toArray) w := by
    have h1 : ev e (.func f) = .func (.func f) #[] #[] := rfl
    simp [execOp, resolve, h1, Deferred.ofValue, invoke, h0, run_callFunc_E hc.1]
  unfold opTo
  rw [hrun]
  exact hc.2
end
end Go.Proofs.Ytbcgbcipigcbhaa
