/- Regions that draw their order: a tree of orders. Where two special operations come up side by side, each may be the first, and what follows may differ. -/
import Derived.Test.YtmdkjohllinphaaTriB
namespace Go.Proofs.Ytmdkjohllinphaa
open Go.RowKit
set_option linter.unusedVariables false
set_option linter.unusedSimpArgs false

inductive OT (α : Type) where
  | nil
  | one (i : α) (t : OT α)
  | two (i : α) (t : OT α) (j : α) (u : OT α)
def OT.path : OT Nat → List Nat
  | .nil => []
  | .one i t => i :: t.path
  | .two i t _ _ => i :: t.path
def OT.allB (p : Nat → Bool) : OT Nat → Bool
  | .nil => true
  | .one i t => p i && t.allB p
  | .two i t j u => p i && t.allB p && p j && u.allB p
def OT.fit (ops : Array Oper) : OT Nat → OT (Nat × Oper) → Prop
  | .nil, .nil => True
  | .one i t, .one p u => p.1 = i ∧ ops[i]? = some p.2 ∧ t.fit ops u
  | .two i t j u, .two p t' q u' => p.1 = i ∧ ops[i]? = some p.2 ∧ t.fit ops t' ∧ q.1 = j ∧ ops[j]? = some q.2 ∧ u.fit ops u'
  | _, _ => False
def pickO (l : List Oper) : OT Nat → OT (Nat × Oper)
  | .nil => .nil
  | .one i t => match l.drop i with
    | o :: _ => .one (i, o) (pickO l t)
    | [] => .nil
  | .two i t j u => match l.drop i, l.drop j with
    | o :: _, o' :: _ => .two (i, o) (pickO l t) (j, o') (pickO l u)
    | _, _ => .nil
theorem pickO_fit (l : List Oper) : ∀ t : OT Nat, t.allB (fun i => decide (i < l.length)) = true → t.fit l.toArray (pickO l t)
  | .nil, _ => trivial
  | .one i t, h => by
    simp only [OT.allB, Bool.and_eq_true, decide_eq_true_eq] at h
    simp only [pickO, List.drop_eq_getElem_cons h.1]
    exact ⟨rfl, by simp [h.1], pickO_fit l t h.2⟩
  | .two i t j u, h => by
    simp only [OT.allB, Bool.and_eq_true, decide_eq_true_eq] at h
    simp only [pickO, List.drop_eq_getElem_cons h.1.1.1, List.drop_eq_getElem_cons h.1.2]
    exact ⟨rfl, by simp [h.1.1.1], pickO_fit l t h.1.1.2, rfl, by simp [h.1.2], pickO_fit l u h.2⟩
section
variable {P : Program} {ops : Array Oper} {C : List Value → World → Prop} {sp : Nat → Bool}
def headOB (ops : Array Oper) (sp : Nat → Bool) (tl : List Nat) : OT Nat → Array Bool → Bool
  | .nil, listed => tailB ops tl listed
  | .one i t, listed => (match sp i with
    | true => decide (Region.ready .any ops listed = [i])
    | false => (Region.ready .any ops listed).contains i && Region.free .any ops listed i) && headOB ops sp tl t (listed.setIfInBounds i true)
  | .two i t j u, listed => decide (Region.ready .any ops listed = [i, j]) && decide (t.path.length = u.path.length) && headOB ops sp tl t (listed.setIfInBounds i true) && headOB ops sp tl u (listed.setIfInBounds j true)
def orderOB (ops : Array Oper) (sp : Nat → Bool) (t : OT Nat) (tl : List Nat) : Bool :=
  Region.noSelect ops && decide (t.path.length + tl.length = ops.size) && ((List.range ops.size).all fun i => t.path.contains i || tl.contains i) && t.allB (fun i => t.path.contains i) &&
  (tl.all fun x => t.path.all fun i => (ancsOf ops ops.size x).contains i) && (tl.all fun x => !t.path.contains x) && headOB ops sp tl t (Array.replicate ops.size false)
def wpO (P : Program) (ops : Array Oper) (C : List Value → World → Prop) (sp : Nat → Bool) (Lq : List Value → Act → Prop) : OT (Nat × Oper) → List Value → Act → Prop
  | .nil, σ, a => Lq σ a
  | .one p t, σ, a => wp1 P ops C sp p.1 p.2 (wpO P ops C sp Lq t) σ a
  | .two p t q u, σ, a => wp1 P ops C sp p.1 p.2 (wpO P ops C sp Lq t) σ a ∧ wp1 P ops C sp q.1 q.2 (wpO P ops C sp Lq u) σ a
theorem headO_lex {hd tl : List Nat} {Lq : List Value → Act → Prop} (hsel : Region.noSelect ops = true)
    (hcov : ∀ i, i < ops.size → i ∈ hd ∨ i ∈ tl) (hanc : ∀ t ∈ tl, ∀ i ∈ hd, i ∈ ancsOf ops ops.size t) (hdis : ∀ t ∈ tl, t ∉ hd) :
    ∀ (t : OT Nat) (lh : OT (Nat × Oper)) (listed : Array Bool) (σ : List Value) (a : Act), t.allB (fun i => hd.contains i) = true → t.fit ops lh → ClosedL ops listed → headOB ops sp tl t listed = true →
      wpO P ops C sp Lq lh σ a → headS P ops C sp hd (fun listed' σ' a' => tailB ops tl listed' = true ∧ Lq σ' a') t.path.length listed σ a
  | .nil, lh, listed, σ, a, _, hf, _, hB, hq => by
    cases lh with
    | nil => exact ⟨by simpa [headOB] using hB, hq⟩
    | one => exact hf.elim
    | two => exact hf.elim
  | .one i t, lh, listed, σ, a, hin, hf, hcl, hB, hq => by
    cases lh with
    | nil => exact hf.elim
    | two => exact hf.elim
    | one p u =>
      obtain ⟨i', o⟩ := p
      obtain ⟨hi, h0, hf⟩ := hf
      dsimp only at hi h0
      subst hi
      simp only [OT.allB, Bool.and_eq_true, List.contains_iff_mem] at hin
      simp only [headOB, Bool.and_eq_true] at hB
      have rec_ := fun σ a (hk : wpO P ops C sp Lq u σ a) (hr : i' ∈ Region.ready .any ops listed) => headO_lex hsel hcov hanc hdis t u _ σ a hin.2 hf (hcl.set hr) hB.2 hk
      cases hs : sp i' with
      | true =>
        rw [hs] at hB
        have hr : Region.ready .any ops listed = [i'] := by simpa using hB.1
        exact headS_alone h0 hin.1 hr hq (fun σ a hk => rec_ σ a hk (by rw [hr]; simp))
      | false =>
        rw [hs] at hB
        simp only [Bool.and_eq_true] at hB
        have hr : i' ∈ Region.ready .any ops listed := by simpa using hB.1.1
        exact headS_plain hsel hcov hanc hdis h0 hs hin.1 hcl hr hB.1.2 hq (fun σ a hk => rec_ σ a hk hr)
  | .two i t j u, lh, listed, σ, a, hin, hf, hcl, hB, hq => by
    cases lh with
    | nil => exact hf.elim
    | one => exact hf.elim
    | two p t' q u' =>
      obtain ⟨i', o⟩ := p
      obtain ⟨j', o'⟩ := q
      obtain ⟨hi, h0, hf, hj, h1, hf'⟩ := hf
      dsimp only at hi h0 hj h1
      subst hi hj
      simp only [OT.allB, Bool.and_eq_true, List.contains_iff_mem] at hin
      simp only [headOB, Bool.and_eq_true, decide_eq_true_eq] at hB
      obtain ⟨⟨⟨hr, hlen⟩, hB1⟩, hB2⟩ := hB
      have hi : i' ∈ Region.ready .any ops listed := by rw [hr]; simp
      have hj : j' ∈ Region.ready .any ops listed := by rw [hr]; simp
      refine ⟨by rw [hr]; simp, fun k hk => ?_⟩
      rw [hr] at hk
      simp only [List.mem_cons, List.not_mem_nil, or_false] at hk
      refine ⟨hk.elim (fun e => e ▸ hin.1.1.1) (fun e => e ▸ hin.1.2), ?_⟩
      by_cases hki : k = i'
      · subst hki
        exact sOp_of_wp1 h0 (fun σ a hk => headO_lex hsel hcov hanc hdis t t' _ σ a hin.1.1.2 hf (hcl.set hi) hB1 hk) hq.1
      · obtain rfl : k = j' := hk.elim (fun e => absurd e hki) id
        refine sOp_of_wp1 h1 (fun σ a hk => ?_) hq.2
        have := headO_lex hsel hcov hanc hdis u u' _ σ a hin.2 hf' (hcl.set hj) hB2 hk
        rw [← hlen] at this
        exact this
theorem wp_region_tree {id : Nat} {Q : Exit → Act → World → Prop} {a : Act} {w : World} {l : List Oper} (t : OT Nat) (tl : List Nat) (lh : OT (Nat × Oper)) (lt : List Oper) (hm : P.follows .mixedOrders = true)
    (hB : orderOB l.toArray sp t tl = true) (hh : t.fit l.toArray lh) (ht : tl.map (l.toArray[·]?) = lt.map some) (hC : C [] w.drew)
    (h : wpO P l.toArray C sp (fun σ a' => ∀ w', C σ w' → wpList P l.toArray Q lt a' w') lh [] a) : (Code.region id l.toArray true).wp P Q a w := by
  simp only [orderOB, Bool.and_eq_true, decide_eq_true_eq] at hB
  obtain ⟨⟨⟨⟨⟨⟨hsel, hlen⟩, hcov⟩, hall⟩, hanc⟩, hdis⟩, hhd⟩ := hB
  have H := headO_lex (P := P) (C := C) (sp := sp) (Lq := fun σ a' => ∀ w', C σ w' → wpList P l.toArray Q lt a' w') (hd := t.path) (tl := tl) hsel
    (fun i hi => by have := List.all_eq_true.1 hcov i (List.mem_range.2 hi); simpa using this)
    (fun t htl i hi => by have := List.all_eq_true.1 (List.all_eq_true.1 hanc t htl) i hi; simpa using this)
    (fun t htl => by have := List.all_eq_true.1 hdis t htl; simpa using this)
    t lh (Array.replicate l.toArray.size false) [] a hall hh
    (fun i hi => by
      have h0 : ∀ m j : Nat, (Array.replicate m false).getD j false = false := fun m j => by
        rcases Nat.lt_or_ge j m with h' | h'
        · simp [h']
        · simp [h']
      rw [h0] at hi
      cases hi) hhd h
  refine wp_region_any hm ?_
  have := wpAny_of_headS (Q' := Q) (g := tl.length) (fun listed σ a' w' hw' hL => wpAny_of_tail tl lt listed a' w' ht hL.1 (hL.2 w' hw')) _ _ _ _ _ hC H
  rw [hlen] at this
  exact this
/-- the same over a frame that is a function -/
def RO (P : Program) (ops : Array Oper) (C : List Value → World → Prop) (sp : Nat → Bool) (Q : List Value → (Nat → Value) → Prop) : OT (Nat × Oper) → List Value → (Nat → Value) → Prop
  | .nil, σ, e => Q σ e
  | .one p t, σ, e => R1P P ops C sp p.1 p.2 (RO P ops C sp Q t) σ e
  | .two p t q u, σ, e => R1P P ops C sp p.1 p.2 (RO P ops C sp Q t) σ e ∧ R1P P ops C sp q.1 q.2 (RO P ops C sp Q u) σ e
def OT.dstB (N : Nat) : OT (Nat × Oper) → Bool
  | .nil => true
  | .one p t => dstOk N p.2.dst && t.dstB N
  | .two p t q u => dstOk N p.2.dst && t.dstB N && dstOk N q.2.dst && u.dstB N
theorem wpO_of_RO {N : Nat} {Q : List Value → (Nat → Value) → Prop} {Q' : List Value → Act → Prop} (hQ : ∀ σ e a, Rep N e a → Q σ e → Q' σ a) :
    ∀ (t : OT (Nat × Oper)) (σ : List Value) (e : Nat → Value) (a : Act), t.dstB N = true → Rep N e a → RO P ops C sp Q t σ e → wpO P ops C sp Q' t σ a
  | .nil, σ, e, a, _, hr, h => hQ σ e a hr h
  | .one p t, σ, e, a, hd, hr, h => by
    simp only [OT.dstB, Bool.and_eq_true] at hd
    exact wp1_of_R1P hd.1 hr (fun σ e a hr h => wpO_of_RO hQ t σ e a hd.2 hr h) h
  | .two p t q u, σ, e, a, hd, hr, h => by
    simp only [OT.dstB, Bool.and_eq_true] at hd
    exact ⟨wp1_of_R1P hd.1.1.1 hr (fun σ e a hr h => wpO_of_RO hQ t σ e a hd.1.1.2 hr h) h.1, wp1_of_R1P hd.1.2 hr (fun σ e a hr h => wpO_of_RO hQ u σ e a hd.2 hr h) h.2⟩
theorem fit_dst {N : Nat} {l : List Oper} (hk : (l.all fun o => dstOk N o.dst) = true) : ∀ (t : OT Nat) (lh : OT (Nat × Oper)), t.fit l.toArray lh → lh.dstB N = true
  | .nil, .nil, _ => rfl
  | .one i t, .one p u, h => by
    simp only [OT.dstB, Bool.and_eq_true]
    exact ⟨List.all_eq_true.1 hk p.2 (List.mem_of_getElem? (by simpa using h.2.1)), fit_dst hk t u h.2.2⟩
  | .two i t j u, .two p t' q u', h => by
    simp only [OT.dstB, Bool.and_eq_true]
    exact ⟨⟨⟨List.all_eq_true.1 hk p.2 (List.mem_of_getElem? (by simpa using h.2.1)), fit_dst hk t t' h.2.2.1⟩, List.all_eq_true.1 hk q.2 (List.mem_of_getElem? (by simpa using h.2.2.2.2.1))⟩, fit_dst hk u u' h.2.2.2.2.2⟩
  | .nil, .one _ _, h => h.elim
  | .nil, .two _ _ _ _, h => h.elim
  | .one _ _, .nil, h => h.elim
  | .one _ _, .two _ _ _ _, h => h.elim
  | .two _ _ _ _, .nil, h => h.elim
  | .two _ _ _ _, .one _ _, h => h.elim
theorem cw_tree {N : Nat} {Q : Exit → (Nat → Value) → World → Prop} {e : Nat → Value} {w : World} {id : Nat} {l : List Oper} (sp : List Nat) (t : OT Nat) (tl : List Nat) (hm : P.follows .mixedOrders = true)
    (hB : (orderOB l.toArray (fun i => sp.contains i) t tl && (t.allB fun i => decide (i < l.length)) && (tl.all fun i => decide (i < l.length))) = true) (hC : C [] w.drew)
    (h : RO P l.toArray C (fun i => sp.contains i) (fun σ e' => ∀ w', C σ w' → RW P l.toArray (fun e w => Q .normal e w) (pickL l tl) e' w') (pickO l t) [] e) : CW P N (.region id l.toArray true) Q e w := fun hk a hr => by
  simp only [Bool.and_eq_true] at hB
  simp only [codeOk] at hk
  have hsub : ((pickL l tl).all fun o => dstOk N o.dst) = true := by
    have h1 := pickL_map l tl hB.2
    refine List.all_eq_true.2 fun o ho => ?_
    have h2 : some o ∈ (pickL l tl).map some := List.mem_map.2 ⟨o, ho, rfl⟩
    rw [← h1] at h2
    obtain ⟨i, _, hi⟩ := List.mem_map.1 h2
    have h3 : l[i]? = some o := by simpa using hi
    exact List.all_eq_true.1 hk o (List.mem_of_getElem? h3)
  have hfit := pickO_fit l t hB.1.2
  refine wp_region_tree (C := C) t tl _ _ hm hB.1.1 hfit (pickL_map l tl hB.2) hC ?_
  exact wpO_of_RO (fun σ e' a' hr' hq w' hw' => wpList_of_RW (fun e a w hr h => ⟨e, hr, h⟩) _ e' a' w' hsub hr' (hq w' hw')) _ [] e a (fit_dst hk t _ hfit) hr h
variable {Qs : List Value → (Nat → Value) → Prop} {σ : List Value} {e : Nat → Value}
theorem ro_one {p : Nat × Oper} {t : OT (Nat × Oper)} (h : RS P ops C sp (fun σ e => RO P ops C sp Qs t σ e) [p] σ e) : RO P ops C sp Qs (.one p t) σ e := h
theorem ro_two {p q : Nat × Oper} {t u : OT (Nat × Oper)} (h1 : RS P ops C sp (fun σ e => RO P ops C sp Qs t σ e) [p] σ e) (h2 : RS P ops C sp (fun σ e => RO P ops C sp Qs u σ e) [q] σ e) : RO P ops C sp Qs (.two p t q u) σ e := ⟨h1, h2⟩
theorem ro_nil (h : Qs σ e) : RO P ops C sp Qs .nil σ e := h
end
end Go.Proofs.Ytmdkjohllinphaa
