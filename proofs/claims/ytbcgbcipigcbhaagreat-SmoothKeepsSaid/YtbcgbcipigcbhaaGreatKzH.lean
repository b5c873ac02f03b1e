/- Regions that draw their order: the tree of orders again, where what a special operation yielded is kept with the operation's number. (Printed from XTri, XTriB and XTriC.) -/
import Derived.Test.YtbcgbcipigcbhaaGreatKzD
import Derived.Test.YtbcgbcipigcbhaaGreatKzG
namespace Go.Proofs.YtbcgbcipigcbhaaGreat
open Go.RowKit
set_option linter.unusedVariables false
set_option linter.unusedSimpArgs false

inductive OT (α : Type) where
  | nil
  | one (i : α) (t : OT α)
  | two (i : α) (t : OT α) (j : α) (u : OT α)
def OT.path : OT Nat → List Nat
  | .nil => []
  | .one i t => i :: t.path
  | .two i t _ _ => i :: t.path
def OT.allB (p : Nat → Bool) : OT Nat → Bool
  | .nil => true
  | .one i t => p i && t.allB p
  | .two i t j u => p i && t.allB p && p j && u.allB p
def OT.fit (ops : Array Oper) : OT Nat → OT (Nat × Oper) → Prop
  | .nil, .nil => True
  | .one i t, .one p u => p.1 = i ∧ ops[i]? = some p.2 ∧ t.fit ops u
  | .two i t j u, .two p t' q u' => p.1 = i ∧ ops[i]? = some p.2 ∧ t.fit ops t' ∧ q.1 = j ∧ ops[j]? = some q.2 ∧ u.fit ops u'
  | _, _ => False
def pickO (l : List Oper) : OT Nat → OT (Nat × Oper)
  | .nil => .nil
  | .one i t => match l.drop i with
    | o :: _ => .one (i, o) (pickO l t)
    | [] => .nil
  | .two i t j u => match l.drop i, l.drop j with
    | o :: _, o' :: _ => .two (i, o) (pickO l t) (j, o') (pickO l u)
    | _, _ => .nil
theorem pickO_fit (l : List Oper) : ∀ t : OT Nat, t.allB (fun i => decide (i < l.length)) = true → t.fit l.toArray (pickO l t)
  | .nil, _ => trivial
  | .one i t, h => by
    simp only [OT.allB, Bool.and_eq_true, decide_eq_true_eq] at h
    simp only [pickO, List.drop_eq_getElem_cons h.1]
    exact ⟨rfl, by simp [h.1], pickO_fit l t h.2⟩
  | .two i t j u, h => by
    simp only [OT.allB, Bool.and_eq_true, decide_eq_true_eq] at h
    simp only [pickO, List.drop_eq_getElem_cons h.1.1.1, List.drop_eq_getElem_cons h.1.2]
    exact ⟨rfl, by simp [h.1.1.1], pickO_fit l t h.1.1.2, rfl, by simp [h.1.2], pickO_fit l u h.2⟩
section
variable {P : Program} {ops : Array Oper} {C : List Value → World → Prop} {sp : Nat → Bool}
def headOB (ops : Array Oper) (sp : Nat → Bool) (tl : List Nat) : OT Nat → Array Bool → Bool
  | .nil, listed => tailB ops tl listed
  | .one i t, listed => (match sp i with
    | true => decide (Region.ready .any ops listed = [i])
    | false => (Region.ready .any ops listed).contains i && Region.free .any ops listed i) && headOB ops sp tl t (listed.setIfInBounds i true)
  | .two i t j u, listed => decide (Region.ready .any ops listed = [i, j]) && decide (t.path.length = u.path.length) && headOB ops sp tl t (listed.setIfInBounds i true) && headOB ops sp tl u (listed.setIfInBounds j true)
def orderOB (ops : Array Oper) (sp : Nat → Bool) (t : OT Nat) (tl : List Nat) : Bool :=
  Region.noSelect ops && decide (t.path.length + tl.length = ops.size) && ((List.range ops.size).all fun i => t.path.contains i || tl.contains i) && t.allB (fun i => t.path.contains i) &&
  (tl.all fun x => t.path.all fun i => (ancsOf ops ops.size x).contains i) && (tl.all fun x => !t.path.contains x) && headOB ops sp tl t (Array.replicate ops.size false)
def wpO (P : Program) (ops : Array Oper) (C : List Value → World → Prop) (sp : Nat → Bool) (Lq : List Value → Act → Prop) : OT (Nat × Oper) → List Value → Act → Prop
  | .nil, σ, a => Lq σ a
  | .one p t, σ, a => wp1 P ops C sp p.1 p.2 (wpO P ops C sp Lq t) σ a
  | .two p t q u, σ, a => wp1 P ops C sp p.1 p.2 (wpO P ops C sp Lq t) σ a ∧ wp1 P ops C sp q.1 q.2 (wpO P ops C sp Lq u) σ a
theorem headO_lex {hd tl : List Nat} {Lq : List Value → Act → Prop} (hsel : Region.noSelect ops = true)
    (hcov : ∀ i, i < ops.size → i ∈ hd ∨ i ∈ tl) (hanc : ∀ t ∈ tl, ∀ i ∈ hd, i ∈ ancsOf ops ops.size t) (hdis : ∀ t ∈ tl, t ∉ hd) :
    ∀ (t : OT Nat) (lh : OT (Nat × Oper)) (listed : Array Bool) (σ : List Value) (a : Act), t.allB (fun i => hd.contains i) = true → t.fit ops lh → ClosedL ops listed → headOB ops sp tl t listed = true →
      wpO P ops C sp Lq lh σ a → headS P ops C sp hd (fun listed' σ' a' => tailB ops tl listed' = true ∧ Lq σ' a') t.path.length listed σ a
  | .nil, lh, listed, σ, a, _, hf, _, hB, hq => by
    cases lh with
    | nil => exact ⟨by simpa [headOB] using hB, hq⟩
    | one => exact hf.elim
    | two => exact hf.elim
  | .one i t, lh, listed, σ, a, hin, hf, hcl, hB, hq => by
    cases lh with
    | nil => exact hf.elim
    | two => exact hf.elim
    | one p u =>
      obtain ⟨i', o⟩ := p
      obtain ⟨hi, h0, hf⟩ := hf
      dsimp only at hi h0
      subst hi
      simp only [OT.allB, Bool.and_eq_true, List.contains_iff_mem] at hin
      simp only [headOB, Bool.and_eq_true] at hB
      have rec_ := fun σ a (hk : wpO P ops C sp Lq u σ a) (hr : i' ∈ Region.ready .any ops listed) => headO_lex hsel hcov hanc hdis t u _ σ a hin.2 hf (hcl.set hr) hB.2 hk
      cases hs : sp i' with
      | true =>
        rw [hs] at hB
        have hr : Region.ready .any ops listed = [i'] := by simpa using hB.1
        exact headS_alone h0 hin.1 hr hq (fun σ a hk => rec_ σ a hk (by rw [hr]; simp))
      | false =>
        rw [hs] at hB
        simp only [Bool.and_eq_true] at hB
        have hr : i' ∈ Region.ready .any ops listed := by simpa using hB.1.1
        exact headS_plain hsel hcov hanc hdis h0 hs hin.1 hcl hr hB.1.2 hq (fun σ a hk => rec_ σ a hk hr)
  | .two i t j u, lh, listed, σ, a, hin, hf, hcl, hB, hq => by
    cases lh with
    | nil => exact hf.elim
    | one => exact hf.elim
    | two p t' q u' =>
      obtain ⟨i', o⟩ := p
      obtain ⟨j', o'⟩ := q
      obtain ⟨hi, h0, hf, hj, h1, hf'⟩ := hf
      dsimp only at hi h0 hj h1
      subst hi hj
      simp only [OT.allB, Bool.and_eq_true, List.contains_iff_mem] at hin
      simp only [headOB, Bool.and_eq_true, decide_eq_true_eq] at hB
      obtain ⟨⟨⟨hr, hlen⟩, hB1⟩, hB2⟩ := hB
      have hi : i' ∈ Region.ready .any ops listed := by rw [hr]; simp
      have hj : j' ∈ Region.ready .any ops listed := by rw [hr]; simp
      refine ⟨by rw [hr]; simp, fun k hk => ?_⟩
      rw [hr] at hk
      simp only [List.mem_cons, List.not_mem_nil, or_false] at hk
      refine ⟨hk.elim (fun e => e ▸ hin.1.1.1) (fun e => e ▸ hin.1.2), ?_⟩
      by_cases hki : k = i'
      · subst hki
        exact sOp_of_wp1 h0 (fun σ a hk => headO_lex hsel hcov hanc hdis t t' _ σ a hin.1.1.2 hf (hcl.set hi) hB1 hk) hq.1
      · obtain rfl : k = j' := hk.elim (fun e => absurd e hki) id
        refine sOp_of_wp1 h1 (fun σ a hk => ?_) hq.2
        have := headO_lex hsel hcov hanc hdis u u' _ σ a hin.2 hf' (hcl.set hj) hB2 hk
        rw [← hlen] at this
        exact this
theorem wp_region_tree {ro : Option Nat} {id : Nat} {Q : Exit → Act → World → Prop} {a : Act} {w : World} {l : List Oper} (t : OT Nat) (tl : List Nat) (lh : OT (Nat × Oper)) (lt : List Oper) (hnd : (l.all fun o => !isDefer o.op) = true) (hm : P.follows .mixedOrders = true)
    (hB : orderOB l.toArray sp t tl = true) (hh : t.fit l.toArray lh) (ht : tl.map (l.toArray[·]?) = lt.map some) (hC : C [] w.drew)
    (h : wpO P l.toArray C sp (fun σ a' => ∀ w', C σ w' → wpListIn (wF ro) 0 P l.toArray Q lt a' w') lh [] a) : (Code.region id l.toArray true).wpIn (wF ro) 0 P Q a w := by
  simp only [orderOB, Bool.and_eq_true, decide_eq_true_eq] at hB
  obtain ⟨⟨⟨⟨⟨⟨hsel, hlen⟩, hcov⟩, hall⟩, hanc⟩, hdis⟩, hhd⟩ := hB
  have H := headO_lex (P := P) (C := C) (sp := sp) (Lq := fun σ a' => ∀ w', C σ w' → wpListIn (wF ro) 0 P l.toArray Q lt a' w') (hd := t.path) (tl := tl) hsel
    (fun i hi => by have := List.all_eq_true.1 hcov i (List.mem_range.2 hi); simpa using this)
    (fun t htl i hi => by have := List.all_eq_true.1 (List.all_eq_true.1 hanc t htl) i hi; simpa using this)
    (fun t htl => by have := List.all_eq_true.1 hdis t htl; simpa using this)
    t lh (Array.replicate l.toArray.size false) [] a hall hh
    (fun i hi => by
      have h0 : ∀ m j : Nat, (Array.replicate m false).getD j false = false := fun m j => by
        rcases Nat.lt_or_ge j m with h' | h'
        · simp [h']
        · simp [h']
      rw [h0] at hi
      cases hi) hhd h
  refine wpIn_region_any hm ?_
  have := wpAny_of_headS (Q' := Q) (ro := ro) (by simpa using hnd) (g := tl.length) (fun listed σ a' w' hw' hL => wpAnyIn_of_tail tl lt listed a' w' ht hL.1 (hL.2 w' hw')) _ _ _ _ _ hC H
  rw [hlen] at this
  exact this
/-- the same over a frame that is a function -/
def RO (P : Program) (ops : Array Oper) (C : List Value → World → Prop) (sp : Nat → Bool) (Q : List Value → (Nat → Value) → Prop) : OT (Nat × Oper) → List Value → (Nat → Value) → Prop
  | .nil, σ, e => Q σ e
  | .one p t, σ, e => R1P P ops C sp p.1 p.2 (RO P ops C sp Q t) σ e
  | .two p t q u, σ, e => R1P P ops C sp p.1 p.2 (RO P ops C sp Q t) σ e ∧ R1P P ops C sp q.1 q.2 (RO P ops C sp Q u) σ e
def OT.dstB (N : Nat) : OT (Nat × Oper) → Bool
  | .nil => true
  | .one p t => dstOk N p.2.dst && t.dstB N
  | .two p t q u => dstOk N p.2.dst && t.dstB N && dstOk N q.2.dst && u.dstB N
theorem wpO_of_RO {N : Nat} {df : List Deferred} {Q : List Value → (Nat → Value) → Prop} {Q' : List Value → Act → Prop} (hQ : ∀ σ e a, Rep N df e a → Q σ e → Q' σ a) :
    ∀ (t : OT (Nat × Oper)) (σ : List Value) (e : Nat → Value) (a : Act), t.dstB N = true → Rep N df e a → RO P ops C sp Q t σ e → wpO P ops C sp Q' t σ a
  | .nil, σ, e, a, _, hr, h => hQ σ e a hr h
  | .one p t, σ, e, a, hd, hr, h => by
    simp only [OT.dstB, Bool.and_eq_true] at hd
    exact wp1_of_R1P hd.1 hr (fun σ e a hr h => wpO_of_RO hQ t σ e a hd.2 hr h) h
  | .two p t q u, σ, e, a, hd, hr, h => by
    simp only [OT.dstB, Bool.and_eq_true] at hd
    exact ⟨wp1_of_R1P hd.1.1.1 hr (fun σ e a hr h => wpO_of_RO hQ t σ e a hd.1.1.2 hr h) h.1, wp1_of_R1P hd.1.2 hr (fun σ e a hr h => wpO_of_RO hQ u σ e a hd.2 hr h) h.2⟩
theorem fit_dst {N : Nat} {l : List Oper} (hk : (l.all fun o => dstOk N o.dst) = true) : ∀ (t : OT Nat) (lh : OT (Nat × Oper)), t.fit l.toArray lh → lh.dstB N = true
  | .nil, .nil, _ => rfl
  | .one i t, .one p u, h => by
    simp only [OT.dstB, Bool.and_eq_true]
    exact ⟨List.all_eq_true.1 hk p.2 (List.mem_of_getElem? (by simpa using h.2.1)), fit_dst hk t u h.2.2⟩
  | .two i t j u, .two p t' q u', h => by
    simp only [OT.dstB, Bool.and_eq_true]
    exact ⟨⟨⟨List.all_eq_true.1 hk p.2 (List.mem_of_getElem? (by simpa using h.2.1)), fit_dst hk t t' h.2.2.1⟩, List.all_eq_true.1 hk q.2 (List.mem_of_getElem? (by simpa using h.2.2.2.2.1))⟩, fit_dst hk u u' h.2.2.2.2.2⟩
  | .nil, .one _ _, h => h.elim
  | .nil, .two _ _ _ _, h => h.elim
  | .one _ _, .nil, h => h.elim
  | .one _ _, .two _ _ _ _, h => h.elim
  | .two _ _ _ _, .nil, h => h.elim
  | .two _ _ _ _, .one _ _, h => h.elim
theorem cw_tree {N : Nat} {Q : Exit → (Nat → Value) → World → Prop} {e : Nat → Value} {w : World} {id : Nat} {l : List Oper} (sp : List Nat) (t : OT Nat) (tl : List Nat) (hm : P.follows .mixedOrders = true)
    (hB : (orderOB l.toArray (fun i => sp.contains i) t tl && (t.allB fun i => decide (i < l.length)) && (tl.all fun i => decide (i < l.length))) = true) (hC : C [] w.drew)
    (h : RO P l.toArray C (fun i => sp.contains i) (fun σ e' => ∀ w', C σ w' → RW P l.toArray (fun e w => Q .normal e w) (pickL l tl) e' w') (pickO l t) [] e) : CW P N (.region id l.toArray true) Q e w := fun hk df a hr ro => by
  simp only [Bool.and_eq_true] at hB
  simp only [codeOk, Bool.and_eq_true] at hk
  have hsub : ((pickL l tl).all fun o => dstOk N o.dst) = true := by
    have h1 := pickL_map l tl hB.2
    refine List.all_eq_true.2 fun o ho => ?_
    have h2 : some o ∈ (pickL l tl).map some := List.mem_map.2 ⟨o, ho, rfl⟩
    rw [← h1] at h2
    obtain ⟨i, _, hi⟩ := List.mem_map.1 h2
    have h3 : l[i]? = some o := by simpa using hi
    exact List.all_eq_true.1 hk.1 o (List.mem_of_getElem? h3)
  have hsubd : ∀ is : List Nat, (is.all fun i => decide (i < l.length)) = true → ((pickL l is).all fun o => !isDefer o.op) = true := fun is his => by
    have h1 := pickL_map l is his
    refine List.all_eq_true.2 fun o ho => ?_
    have h2 : some o ∈ (pickL l is).map some := List.mem_map.2 ⟨o, ho, rfl⟩
    rw [← h1] at h2
    obtain ⟨i, _, hi⟩ := List.mem_map.1 h2
    have h3 : l[i]? = some o := by simpa using hi
    exact List.all_eq_true.1 hk.2 o (List.mem_of_getElem? h3)
  have hfit := pickO_fit l t hB.1.2
  refine wp_region_tree (C := C) t tl _ _ hk.2 hm hB.1.1 hfit (pickL_map l tl hB.2) hC ?_
  exact wpO_of_RO (fun σ e' a' hr' hq w' hw' => wpList_of_RW (fun e a w hr h => ⟨e, hr, h⟩) _ e' a' w' hsub (hsubd tl hB.2) hr' (hq w' hw')) _ [] e a (fit_dst hk.1 t _ hfit) hr h
variable {Qs : List Value → (Nat → Value) → Prop} {σ : List Value} {e : Nat → Value}
theorem ro_one {p : Nat × Oper} {t : OT (Nat × Oper)} (h : RS P ops C sp (fun σ e => RO P ops C sp Qs t σ e) [p] σ e) : RO P ops C sp Qs (.one p t) σ e := h
theorem ro_two {p q : Nat × Oper} {t u : OT (Nat × Oper)} (h1 : RS P ops C sp (fun σ e => RO P ops C sp Qs t σ e) [p] σ e) (h2 : RS P ops C sp (fun σ e => RO P ops C sp Qs u σ e) [q] σ e) : RO P ops C sp Qs (.two p t q u) σ e := ⟨h1, h2⟩
theorem ro_nil (h : Qs σ e) : RO P ops C sp Qs .nil σ e := h
end
end Go.Proofs.YtbcgbcipigcbhaaGreat

namespace Go.Proofs.YtbcgbcipigcbhaaGreat.TI
open Go.RowKit
set_option linter.unusedVariables false
set_option linter.unusedSimpArgs false
section
variable {P : Program} {ops : Array Oper} {C : List (Nat × Value) → World → Prop} {sp : Nat → Bool}
/-- Operation number i comes up in state 'a', the special ones so far having yielded σ. -/
def sOp (P : Program) (ops : Array Oper) (C : List (Nat × Value) → World → Prop) (sp : Nat → Bool) (i : Nat) (K : List (Nat × Value) → Act → Prop) (σ : List (Nat × Value)) (a : Act) : Prop :=
  match ops[i]? with
  | none => K σ a
  | some o =>
    if Region.wanted o (yielded ops a.tmps) then
      match sp i with
      | true => (∀ w, C σ w → yieldsTo P o a w fun v w' => C ((i, v) :: σ) w') ∧ ∀ v w', C ((i, v) :: σ) w' → K ((i, v) :: σ) (a.put o.dst v)
      | false => ∃ v, (∀ τ w, C τ w → yieldsTo P o a w fun u w' => u = v ∧ C τ w') ∧ K σ (a.put o.dst v)
    else K σ (a.put o.dst undef)
theorem sOp_mono {i : Nat} {a : Act} {σ : List (Nat × Value)} {K K' : List (Nat × Value) → Act → Prop} (h : ∀ σ a, K σ a → K' σ a) (hh : sOp P ops C sp i K σ a) : sOp P ops C sp i K' σ a := by
  unfold sOp at *
  split
  · rename_i ho; rw [ho] at hh; exact h _ _ hh
  · rename_i o ho
    rw [ho] at hh
    dsimp only at hh
    split
    · rename_i hw
      rw [if_pos hw] at hh
      cases hs : sp i with
      | true => rw [hs] at hh; exact ⟨hh.1, fun v w' hv => h _ _ (hh.2 v w' hv)⟩
      | false => rw [hs] at hh; exact ⟨hh.choose, hh.choose_spec.1, h _ _ hh.choose_spec.2⟩
    · rename_i hw; rw [if_neg hw] at hh; exact h _ _ hh
theorem wpOp_of_sOp {ro : Option Nat} (hnd : (ops.toList.all fun o => !isDefer o.op) = true) {i : Nat} {a : Act} {σ : List (Nat × Value)} {w : World} {K : List (Nat × Value) → Act → Prop} {K' : Act → World → Prop} {Q' : Exit → Act → World → Prop} (hw : C σ w) (h : ∀ σ a w', C σ w' → K σ a → K' a w') (hh : sOp P ops C sp i K σ a) : wpOpIn (wF ro) 0 P ops Q' i K' a w := by
  unfold sOp at hh
  unfold wpOpIn
  split
  · rename_i ho; rw [ho] at hh; exact h _ _ _ hw hh
  · rename_i o ho
    rw [ho] at hh
    dsimp only at hh
    split
    · rename_i hwn
      rw [if_pos hwn] at hh
      refine Oper.wpIn_of_wp (not_defer_at hnd ho) ?_
      cases hs : sp i with
      | true => rw [hs] at hh; exact wp_of_yieldsTo (hh.1 w hw) fun v w' hv => h _ _ _ hv (hh.2 v w' hv)
      | false =>
        rw [hs] at hh
        obtain ⟨v, h1, h2⟩ := hh
        exact wp_of_yieldsTo (h1 σ w hw) fun u w' ⟨hu, hc⟩ => by subst hu; exact h _ _ _ hc h2
    · rename_i hwn; rw [if_neg hwn] at hh; exact ⟨fun _ _ => trivial, h _ _ _ hw hh⟩

def headS (P : Program) (ops : Array Oper) (C : List (Nat × Value) → World → Prop) (sp : Nat → Bool) (hd : List Nat) (L : Array Bool → List (Nat × Value) → Act → Prop) : Nat → Array Bool → List (Nat × Value) → Act → Prop
  | 0, listed, σ, a => L listed σ a
  | f + 1, listed, σ, a => Region.ready .any ops listed ≠ [] ∧ ∀ i ∈ Region.ready .any ops listed, i ∈ hd ∧ sOp P ops C sp i (headS P ops C sp hd L f (listed.setIfInBounds i true)) σ a
theorem wpAny_of_headS {ro : Option Nat} (hnd : (ops.toList.all fun o => !isDefer o.op) = true) {hd : List Nat} {L : Array Bool → List (Nat × Value) → Act → Prop} {Q' : Exit → Act → World → Prop} {g : Nat} (hL : ∀ listed σ a w, C σ w → L listed σ a → wpAnyIn (wF ro) 0 P .any ops Q' g listed a w) :
    ∀ (f : Nat) (listed : Array Bool) (σ : List (Nat × Value)) (a : Act) (w : World), C σ w → headS P ops C sp hd L f listed σ a → wpAnyIn (wF ro) 0 P .any ops Q' (f + g) listed a w
  | 0, listed, σ, a, w, hw, h => by rw [Nat.zero_add]; exact hL _ _ _ _ hw h
  | f + 1, listed, σ, a, w, hw, h => by
    rw [show f + 1 + g = (f + g) + 1 by omega]
    exact ⟨fun h0 => absurd h0 h.1, fun i hi => wpOp_of_sOp hnd hw (fun σ a' w' hw' h' => wpAny_of_headS hnd hL f _ σ a' w' hw' h') (h.2 i hi).2⟩

/-- A plain operation yields v, whatever the class. -/
def YieldsS (P : Program) (ops : Array Oper) (C : List (Nat × Value) → World → Prop) (o : Oper) (v : Value) (a : Act) : Prop :=
  (Region.wanted o (yielded ops a.tmps) = true ∧ ∀ τ w, C τ w → yieldsTo P o a w fun u w' => u = v ∧ C τ w') ∨
  (Region.wanted o (yielded ops a.tmps) = false ∧ v = undef)
theorem YieldsS.sOp {i : Nat} {o : Oper} {v : Value} {a : Act} {σ : List (Nat × Value)} (hi : ops[i]? = some o) (hs : sp i = false) (hy : YieldsS P ops C o v a) {K : List (Nat × Value) → Act → Prop} (h : K σ (a.put o.dst v)) : sOp P ops C sp i K σ a := by
  unfold Go.Proofs.YtbcgbcipigcbhaaGreat.TI.sOp
  rw [hi]
  dsimp only
  rcases hy with ⟨hw, hv⟩ | ⟨hw, rfl⟩
  · rw [if_pos hw, hs]; exact ⟨v, hv, h⟩
  · rw [if_neg (by simp [hw])]; exact h
theorem YieldsS.of_same {o : Oper} {v : Value} {a a' : Act} (hy : YieldsS P ops C o v a) (he : execOp a'.eval o = execOp a.eval o)
    (hw : Region.wanted o (yielded ops a'.tmps) = Region.wanted o (yielded ops a.tmps)) : YieldsS P ops C o v a' := by
  unfold YieldsS yieldsTo at *
  rw [he, hw]
  exact hy
theorem sOp_put {j : Nat} {oi oj : Oper} {v : Value} {σ : List (Nat × Value)} (hj : ops[j]? = some oj) (hap : oi.apart ops oj = true)
    (hsi : ∀ cs b, oi.op ≠ .select cs b) (hsj : ∀ cs b, oj.op ≠ .select cs b) {K : List (Nat × Value) → Act → Prop} {a : Act}
    (hy : YieldsS P ops C oi v a) (h : sOp P ops C sp j K σ (a.put oi.dst v)) :
    sOp P ops C sp j (fun σ' a' => YieldsS P ops C oi v a' ∧ K σ' (a'.put oi.dst v)) σ a := by
  obtain ⟨h1, h2, h3⟩ := Oper.apart_spec hap
  have keep : ∀ u, YieldsS P ops C oi v (a.put oj.dst u) := fun u => hy.of_same (execOp_put oi hsi a oj.dst u h3) (wanted_put oi a oj.dst u h3)
  unfold sOp at *
  rw [hj] at h ⊢
  dsimp only at h ⊢
  rw [wanted_put oj a oi.dst v h1] at h
  split
  · rename_i hw
    rw [if_pos hw] at h
    cases hs : sp j with
    | true =>
      rw [hs] at h
      refine ⟨fun w hC => ?_, fun u w' hC => ⟨keep u, by rw [← Act.put_comm a v u h2]; exact h.2 u w' hC⟩⟩
      have := h.1 w hC
      unfold yieldsTo at *
      rwa [execOp_put oj hsj a oi.dst v h1] at this
    | false =>
      rw [hs] at h
      obtain ⟨u, hu, hn⟩ := h
      refine ⟨u, fun τ w hC => ?_, keep u, by rw [← Act.put_comm a v u h2]; exact hn⟩
      have := hu τ w hC
      unfold yieldsTo at *
      rwa [execOp_put oj hsj a oi.dst v h1] at this
  · rename_i hw
    rw [if_neg hw] at h
    exact ⟨keep _, by rw [← Act.put_comm a v undef h2]; exact h⟩

theorem headS_first {hd : List Nat} {L : Array Bool → List (Nat × Value) → Act → Prop} {i : Nat} {oi : Oper} {v : Value} (hi : ops[i]? = some oi) (hspi : sp i = false)
    (hsel : ∀ (j : Nat) (o : Oper) cs b, ops[j]? = some o → o.op ≠ .select cs b)
    (hhd : ∀ (listed : Array Bool), ClosedL ops listed → listed.getD i true = false → ∀ j ∈ Region.ready .any ops listed, j ∈ hd)
    (hdone : ∀ listed σ a, L listed σ a → ∀ j ∈ Region.ready .any ops listed, j ∉ hd) :
    ∀ (f : Nat) (listed : Array Bool) (σ : List (Nat × Value)) (a : Act), ClosedL ops listed →
      (∀ j oj, ops[j]? = some oj → j ≠ i → listed.getD j true = false → (∀ e ∈ oj.after, Region.binds .any e = true → e.on ≠ i) → oi.apart ops oj = true) →
      i ∈ Region.ready .any ops listed → YieldsS P ops C oi v a →
      headS P ops C sp hd L f (listed.setIfInBounds i true) σ (a.put oi.dst v) → headS P ops C sp hd L (f + 1) listed σ a := by
  intro f
  induction f with
  | zero =>
    intro listed σ a hcl _ hr hy H
    refine ⟨fun h => (by rw [h] at hr; cases hr), fun j hj => ?_⟩
    have hjh := hhd listed hcl (mem_ready.1 hr).1 j hj
    refine ⟨hjh, ?_⟩
    by_cases hji : j = i
    · subst hji; exact hy.sOp hi hspi H
    · exact absurd hjh (hdone _ _ _ H j (ready_mono hj hji))
  | succ f ih =>
    intro listed σ a hcl hfree hr hy H
    have hun := (mem_ready.1 hr).1
    refine ⟨fun h => (by rw [h] at hr; cases hr), fun j hj => ?_⟩
    refine ⟨hhd listed hcl hun j hj, ?_⟩
    by_cases hji : j = i
    · subst hji; exact hy.sOp hi hspi H
    · have h1 := (H.2 j (ready_mono hj hji)).2
      obtain ⟨hjun, oj, hoj, hall⟩ := mem_ready.1 hj
      have hnot : ∀ e ∈ oj.after, Region.binds .any e = true → e.on ≠ i := fun e he hb heq => by
        have h2 := hall e he hb
        rw [heq] at h2
        rcases Nat.lt_or_ge i listed.size with h' | h'
        · simp [h'] at hun h2; rw [hun] at h2; cases h2
        · simp [Array.getElem?_eq_none h'] at h2
      have h2 := sOp_put hoj (hfree j oj hoj hji hjun hnot) (fun cs b => hsel i oi cs b hi) (fun cs b => hsel j oj cs b hoj) hy h1
      have hfree' : ∀ k ok, ops[k]? = some ok → k ≠ i → (listed.setIfInBounds j true).getD k true = false →
          (∀ e ∈ ok.after, Region.binds .any e = true → e.on ≠ i) → oi.apart ops ok = true := fun k ok hk hki hun' hno => by
        refine hfree k ok hk hki ?_ hno
        by_cases hjk : j = k
        · subst hjk; exact hjun
        · rw [getD_set_ne true hjk] at hun'; exact hun'
      refine sOp_mono (fun σ' a' h3 => ih (listed.setIfInBounds j true) σ' a' (hcl.set hj) hfree' (ready_mono hr (Ne.symm hji)) h3.1 ?_) h2
      rw [Array.setIfInBounds_comm _ _ hji]
      exact h3.2

/-- one step of the walk -/
def wp1 (P : Program) (ops : Array Oper) (C : List (Nat × Value) → World → Prop) (sp : Nat → Bool) (i : Nat) (o : Oper) (K : List (Nat × Value) → Act → Prop) (σ : List (Nat × Value)) (a : Act) : Prop :=
  if Region.wanted o (yielded ops a.tmps) then
    match sp i with
    | true => (∀ w, C σ w → yieldsTo P o a w fun v w' => C ((i, v) :: σ) w') ∧ ∀ v w', C ((i, v) :: σ) w' → K ((i, v) :: σ) (a.put o.dst v)
    | false => ∃ v, (∀ τ w, C τ w → yieldsTo P o a w fun u w' => u = v ∧ C τ w') ∧ K σ (a.put o.dst v)
  else K σ (a.put o.dst undef)
theorem sOp_of_wp1 {i : Nat} {o : Oper} {K K' : List (Nat × Value) → Act → Prop} {σ : List (Nat × Value)} {a : Act} (h0 : ops[i]? = some o) (hK : ∀ σ a, K σ a → K' σ a) (h : wp1 P ops C sp i o K σ a) : sOp P ops C sp i K' σ a := by
  refine sOp_mono hK ?_
  unfold sOp
  rw [h0]
  exact h
/-- a plain step, moved ahead of all -/
theorem headS_plain {hd tl : List Nat} {Lq : List (Nat × Value) → Act → Prop} (hsel : Region.noSelect ops = true)
    (hcov : ∀ i, i < ops.size → i ∈ hd ∨ i ∈ tl) (hanc : ∀ t ∈ tl, ∀ i ∈ hd, i ∈ ancsOf ops ops.size t) (hdis : ∀ t ∈ tl, t ∉ hd)
    {i : Nat} {o : Oper} {f : Nat} {listed : Array Bool} {σ : List (Nat × Value)} {a : Act} (h0 : ops[i]? = some o) (hs : sp i = false) (hin : i ∈ hd) (hcl : ClosedL ops listed) (hr : i ∈ Region.ready .any ops listed) (hf : Region.free .any ops listed i = true)
    {K : List (Nat × Value) → Act → Prop} (hq : wp1 P ops C sp i o K σ a) (rec_ : ∀ σ a, K σ a → headS P ops C sp hd (fun listed' σ' a' => tailB ops tl listed' = true ∧ Lq σ' a') f (listed.setIfInBounds i true) σ a) :
    headS P ops C sp hd (fun listed' σ' a' => tailB ops tl listed' = true ∧ Lq σ' a') (f + 1) listed σ a := by
  unfold wp1 at hq
  rw [hs] at hq
  have hy : ∃ v, YieldsS P ops C o v a ∧ K σ (a.put o.dst v) := by
    by_cases hw : Region.wanted o (yielded ops a.tmps) = true
    · rw [if_pos hw] at hq
      obtain ⟨v, h1, h2⟩ := hq
      exact ⟨v, .inl ⟨hw, h1⟩, h2⟩
    · rw [if_neg hw] at hq
      exact ⟨undef, .inr ⟨by simpa using hw, rfl⟩, hq⟩
  obtain ⟨v, hy, hK⟩ := hy
  refine headS_first h0 hs (Region.noSelect_spec hsel) ?_ ?_ f listed σ a hcl (Region.free_spec h0 hf) hr hy (rec_ _ _ hK)
  · intro listed' hcl' hun j hj
    obtain ⟨_, oj, hoj, _⟩ := mem_ready.1 hj
    have hjs : j < ops.size := (Array.getElem?_eq_some_iff.1 hoj).1
    rcases hcov j hjs with hh | hh
    · exact hh
    · have hl1 := ancs_listed hcl' ops.size j (preds_ready hj) i (hanc j hh i hin)
      rcases Nat.lt_or_ge i listed'.size with h' | h'
      · simp [h'] at hun hl1; rw [hun] at hl1; cases hl1
      · simp [Array.getElem?_eq_none h'] at hl1
  · intro listed' σ' a' hL j hj hjh
    have hB := hL.1
    cases htl : tl with
    | nil => simp only [htl, tailB, List.isEmpty_iff] at hB; rw [hB] at hj; cases hj
    | cons t tl' =>
      simp only [htl, tailB, Bool.and_eq_true, decide_eq_true_eq] at hB
      rw [hB.1] at hj
      have : j = t := by simpa using hj
      subst this
      exact hdis j (by simp [htl]) hjh
/-- a special step, alone -/
theorem headS_alone {hd : List Nat} {L : Array Bool → List (Nat × Value) → Act → Prop} {i : Nat} {o : Oper} {f : Nat} {listed : Array Bool} {σ : List (Nat × Value)} {a : Act} (h0 : ops[i]? = some o) (hin : i ∈ hd) (hr : Region.ready .any ops listed = [i])
    {K : List (Nat × Value) → Act → Prop} (hq : wp1 P ops C sp i o K σ a) (rec_ : ∀ σ a, K σ a → headS P ops C sp hd L f (listed.setIfInBounds i true) σ a) : headS P ops C sp hd L (f + 1) listed σ a := by
  refine ⟨by rw [hr]; simp, fun j hj => ?_⟩
  rw [hr] at hj
  obtain rfl : j = i := by simpa using hj
  exact ⟨hin, sOp_of_wp1 h0 rec_ hq⟩
def headOB (ops : Array Oper) (sp : Nat → Bool) (tl : List Nat) : OT Nat → Array Bool → Bool
  | .nil, listed => tailB ops tl listed
  | .one i t, listed => (match sp i with
    | true => decide (Region.ready .any ops listed = [i])
    | false => (Region.ready .any ops listed).contains i && Region.free .any ops listed i) && headOB ops sp tl t (listed.setIfInBounds i true)
  | .two i t j u, listed => decide (Region.ready .any ops listed = [i, j]) && decide (t.path.length = u.path.length) && headOB ops sp tl t (listed.setIfInBounds i true) && headOB ops sp tl u (listed.setIfInBounds j true)
def orderOB (ops : Array Oper) (sp : Nat → Bool) (t : OT Nat) (tl : List Nat) : Bool :=
  Region.noSelect ops && decide (t.path.length + tl.length = ops.size) && ((List.range ops.size).all fun i => t.path.contains i || tl.contains i) && t.allB (fun i => t.path.contains i) &&
  (tl.all fun x => t.path.all fun i => (ancsOf ops ops.size x).contains i) && (tl.all fun x => !t.path.contains x) && headOB ops sp tl t (Array.replicate ops.size false)
def wpO (P : Program) (ops : Array Oper) (C : List (Nat × Value) → World → Prop) (sp : Nat → Bool) (Lq : List (Nat × Value) → Act → Prop) : OT (Nat × Oper) → List (Nat × Value) → Act → Prop
  | .nil, σ, a => Lq σ a
  | .one p t, σ, a => wp1 P ops C sp p.1 p.2 (wpO P ops C sp Lq t) σ a
  | .two p t q u, σ, a => wp1 P ops C sp p.1 p.2 (wpO P ops C sp Lq t) σ a ∧ wp1 P ops C sp q.1 q.2 (wpO P ops C sp Lq u) σ a
theorem headO_lex {hd tl : List Nat} {Lq : List (Nat × Value) → Act → Prop} (hsel : Region.noSelect ops = true)
    (hcov : ∀ i, i < ops.size → i ∈ hd ∨ i ∈ tl) (hanc : ∀ t ∈ tl, ∀ i ∈ hd, i ∈ ancsOf ops ops.size t) (hdis : ∀ t ∈ tl, t ∉ hd) :
    ∀ (t : OT Nat) (lh : OT (Nat × Oper)) (listed : Array Bool) (σ : List (Nat × Value)) (a : Act), t.allB (fun i => hd.contains i) = true → t.fit ops lh → ClosedL ops listed → headOB ops sp tl t listed = true →
      wpO P ops C sp Lq lh σ a → headS P ops C sp hd (fun listed' σ' a' => tailB ops tl listed' = true ∧ Lq σ' a') t.path.length listed σ a
  | .nil, lh, listed, σ, a, _, hf, _, hB, hq => by
    cases lh with
    | nil => exact ⟨by simpa [headOB] using hB, hq⟩
    | one => exact hf.elim
    | two => exact hf.elim
  | .one i t, lh, listed, σ, a, hin, hf, hcl, hB, hq => by
    cases lh with
    | nil => exact hf.elim
    | two => exact hf.elim
    | one p u =>
      obtain ⟨i', o⟩ := p
      obtain ⟨hi, h0, hf⟩ := hf
      dsimp only at hi h0
      subst hi
      simp only [OT.allB, Bool.and_eq_true, List.contains_iff_mem] at hin
      simp only [headOB, Bool.and_eq_true] at hB
      have rec_ := fun σ a (hk : wpO P ops C sp Lq u σ a) (hr : i' ∈ Region.ready .any ops listed) => headO_lex hsel hcov hanc hdis t u _ σ a hin.2 hf (hcl.set hr) hB.2 hk
      cases hs : sp i' with
      | true =>
        rw [hs] at hB
        have hr : Region.ready .any ops listed = [i'] := by simpa using hB.1
        exact headS_alone h0 hin.1 hr hq (fun σ a hk => rec_ σ a hk (by rw [hr]; simp))
      | false =>
        rw [hs] at hB
        simp only [Bool.and_eq_true] at hB
        have hr : i' ∈ Region.ready .any ops listed := by simpa using hB.1.1
        exact headS_plain hsel hcov hanc hdis h0 hs hin.1 hcl hr hB.1.2 hq (fun σ a hk => rec_ σ a hk hr)
  | .two i t j u, lh, listed, σ, a, hin, hf, hcl, hB, hq => by
    cases lh with
    | nil => exact hf.elim
    | one => exact hf.elim
    | two p t' q u' =>
      obtain ⟨i', o⟩ := p
      obtain ⟨j', o'⟩ := q
      obtain ⟨hi, h0, hf, hj, h1, hf'⟩ := hf
      dsimp only at hi h0 hj h1
      subst hi hj
      simp only [OT.allB, Bool.and_eq_true, List.contains_iff_mem] at hin
      simp only [headOB, Bool.and_eq_true, decide_eq_true_eq] at hB
      obtain ⟨⟨⟨hr, hlen⟩, hB1⟩, hB2⟩ := hB
      have hi : i' ∈ Region.ready .any ops listed := by rw [hr]; simp
      have hj : j' ∈ Region.ready .any ops listed := by rw [hr]; simp
      refine ⟨by rw [hr]; simp, fun k hk => ?_⟩
      rw [hr] at hk
      simp only [List.mem_cons, List.not_mem_nil, or_false] at hk
      refine ⟨hk.elim (fun e => e ▸ hin.1.1.1) (fun e => e ▸ hin.1.2), ?_⟩
      by_cases hki : k = i'
      · subst hki
        exact sOp_of_wp1 h0 (fun σ a hk => headO_lex hsel hcov hanc hdis t t' _ σ a hin.1.1.2 hf (hcl.set hi) hB1 hk) hq.1
      · obtain rfl : k = j' := hk.elim (fun e => absurd e hki) id
        refine sOp_of_wp1 h1 (fun σ a hk => ?_) hq.2
        have := headO_lex hsel hcov hanc hdis u u' _ σ a hin.2 hf' (hcl.set hj) hB2 hk
        rw [← hlen] at this
        exact this
theorem wp_region_tree {ro : Option Nat} {id : Nat} {Q : Exit → Act → World → Prop} {a : Act} {w : World} {l : List Oper} (t : OT Nat) (tl : List Nat) (lh : OT (Nat × Oper)) (lt : List Oper) (hnd : (l.all fun o => !isDefer o.op) = true) (hm : P.follows .mixedOrders = true)
    (hB : orderOB l.toArray sp t tl = true) (hh : t.fit l.toArray lh) (ht : tl.map (l.toArray[·]?) = lt.map some) (hC : C [] w.drew)
    (h : wpO P l.toArray C sp (fun σ a' => ∀ w', C σ w' → wpListIn (wF ro) 0 P l.toArray Q lt a' w') lh [] a) : (Code.region id l.toArray true).wpIn (wF ro) 0 P Q a w := by
  simp only [orderOB, Bool.and_eq_true, decide_eq_true_eq] at hB
  obtain ⟨⟨⟨⟨⟨⟨hsel, hlen⟩, hcov⟩, hall⟩, hanc⟩, hdis⟩, hhd⟩ := hB
  have H := headO_lex (P := P) (C := C) (sp := sp) (Lq := fun σ a' => ∀ w', C σ w' → wpListIn (wF ro) 0 P l.toArray Q lt a' w') (hd := t.path) (tl := tl) hsel
    (fun i hi => by have := List.all_eq_true.1 hcov i (List.mem_range.2 hi); simpa using this)
    (fun t htl i hi => by have := List.all_eq_true.1 (List.all_eq_true.1 hanc t htl) i hi; simpa using this)
    (fun t htl => by have := List.all_eq_true.1 hdis t htl; simpa using this)
    t lh (Array.replicate l.toArray.size false) [] a hall hh
    (fun i hi => by
      have h0 : ∀ m j : Nat, (Array.replicate m false).getD j false = false := fun m j => by
        rcases Nat.lt_or_ge j m with h' | h'
        · simp [h']
        · simp [h']
      rw [h0] at hi
      cases hi) hhd h
  refine wpIn_region_any hm ?_
  have := wpAny_of_headS (Q' := Q) (ro := ro) (by simpa using hnd) (g := tl.length) (fun listed σ a' w' hw' hL => wpAnyIn_of_tail tl lt listed a' w' ht hL.1 (hL.2 w' hw')) _ _ _ _ _ hC H
  rw [hlen] at this
  exact this
def R1P (P : Program) (ops : Array Oper) (C : List (Nat × Value) → World → Prop) (sp : Nat → Bool) (i : Nat) (o : Oper) (K : List (Nat × Value) → (Nat → Value) → Prop) (σ : List (Nat × Value)) (e : Nat → Value) : Prop :=
  if wE ops e o = true then
    match sp i with
    | true => (∀ w, C σ w → opTo P e o w fun v w' => C ((i, v) :: σ) w') ∧ ∀ v w', C ((i, v) :: σ) w' → K ((i, v) :: σ) (updO e o.dst v)
    | false => ∃ v, (∀ τ w, C τ w → opTo P e o w fun u w' => u = v ∧ C τ w') ∧ K σ (updO e o.dst v)
  else K σ (updO e o.dst undef)
theorem wp1_of_R1P {N : Nat} {df : List Deferred} {i : Nat} {o : Oper} {K : List (Nat × Value) → (Nat → Value) → Prop} {K' : List (Nat × Value) → Act → Prop} {σ : List (Nat × Value)} {e : Nat → Value} {a : Act} (hd : dstOk N o.dst = true) (hr : Rep N df e a)
    (hK : ∀ σ e a, Rep N df e a → K σ e → K' σ a) (h : R1P P ops C sp i o K σ e) : wp1 P ops C sp i o K' σ a := by
  unfold wp1
  unfold R1P at h
  rw [hr.wanted]
  have hto : ∀ w R, opTo P e o w R → yieldsTo P o a w R := fun w R hh => by unfold yieldsTo; rw [hr.eval]; exact hh
  split
  · rename_i hw
    rw [if_pos hw] at h
    cases hs : sp i with
    | true =>
      rw [hs] at h
      exact ⟨fun w hC => hto _ _ (h.1 w hC), fun v w' hC => hK _ _ _ (hr.put hd v) (h.2 v w' hC)⟩
    | false =>
      rw [hs] at h
      obtain ⟨v, h1, h2⟩ := h
      exact ⟨v, fun τ w hC => hto _ _ (h1 τ w hC), hK _ _ _ (hr.put hd v) h2⟩
  · rename_i hw
    rw [if_neg hw] at h
    exact hK _ _ _ (hr.put hd undef) h
def RS (P : Program) (ops : Array Oper) (C : List (Nat × Value) → World → Prop) (sp : Nat → Bool) (Q : List (Nat × Value) → (Nat → Value) → Prop) : List (Nat × Oper) → List (Nat × Value) → (Nat → Value) → Prop
  | [], σ, e => Q σ e
  | (i, o) :: rest, σ, e =>
    if wE ops e o = true then
      match sp i with
      | true => (∀ w, C σ w → opTo P e o w fun v w' => C ((i, v) :: σ) w') ∧ ∀ v w', C ((i, v) :: σ) w' → RS P ops C sp Q rest ((i, v) :: σ) (updO e o.dst v)
      | false => ∃ v, (∀ τ w, C τ w → opTo P e o w fun u w' => u = v ∧ C τ w') ∧ RS P ops C sp Q rest σ (updO e o.dst v)
    else RS P ops C sp Q rest σ (updO e o.dst undef)
/-- the same over a frame that is a function -/
def RO (P : Program) (ops : Array Oper) (C : List (Nat × Value) → World → Prop) (sp : Nat → Bool) (Q : List (Nat × Value) → (Nat → Value) → Prop) : OT (Nat × Oper) → List (Nat × Value) → (Nat → Value) → Prop
  | .nil, σ, e => Q σ e
  | .one p t, σ, e => R1P P ops C sp p.1 p.2 (RO P ops C sp Q t) σ e
  | .two p t q u, σ, e => R1P P ops C sp p.1 p.2 (RO P ops C sp Q t) σ e ∧ R1P P ops C sp q.1 q.2 (RO P ops C sp Q u) σ e
theorem wpO_of_RO {N : Nat} {df : List Deferred} {Q : List (Nat × Value) → (Nat → Value) → Prop} {Q' : List (Nat × Value) → Act → Prop} (hQ : ∀ σ e a, Rep N df e a → Q σ e → Q' σ a) :
    ∀ (t : OT (Nat × Oper)) (σ : List (Nat × Value)) (e : Nat → Value) (a : Act), t.dstB N = true → Rep N df e a → RO P ops C sp Q t σ e → wpO P ops C sp Q' t σ a
  | .nil, σ, e, a, _, hr, h => hQ σ e a hr h
  | .one p t, σ, e, a, hd, hr, h => by
    simp only [OT.dstB, Bool.and_eq_true] at hd
    exact wp1_of_R1P hd.1 hr (fun σ e a hr h => wpO_of_RO hQ t σ e a hd.2 hr h) h
  | .two p t q u, σ, e, a, hd, hr, h => by
    simp only [OT.dstB, Bool.and_eq_true] at hd
    exact ⟨wp1_of_R1P hd.1.1.1 hr (fun σ e a hr h => wpO_of_RO hQ t σ e a hd.1.1.2 hr h) h.1, wp1_of_R1P hd.1.2 hr (fun σ e a hr h => wpO_of_RO hQ u σ e a hd.2 hr h) h.2⟩
theorem cw_tree {N : Nat} {Q : Exit → (Nat → Value) → World → Prop} {e : Nat → Value} {w : World} {id : Nat} {l : List Oper} (sp : List Nat) (t : OT Nat) (tl : List Nat) (hm : P.follows .mixedOrders = true)
    (hB : (orderOB l.toArray (fun i => sp.contains i) t tl && (t.allB fun i => decide (i < l.length)) && (tl.all fun i => decide (i < l.length))) = true) (hC : C [] w.drew)
    (h : RO P l.toArray C (fun i => sp.contains i) (fun σ e' => ∀ w', C σ w' → RW P l.toArray (fun e w => Q .normal e w) (pickL l tl) e' w') (pickO l t) [] e) : CW P N (.region id l.toArray true) Q e w := fun hk df a hr ro => by
  simp only [Bool.and_eq_true] at hB
  simp only [codeOk, Bool.and_eq_true] at hk
  have hsub : ((pickL l tl).all fun o => dstOk N o.dst) = true := by
    have h1 := pickL_map l tl hB.2
    refine List.all_eq_true.2 fun o ho => ?_
    have h2 : some o ∈ (pickL l tl).map some := List.mem_map.2 ⟨o, ho, rfl⟩
    rw [← h1] at h2
    obtain ⟨i, _, hi⟩ := List.mem_map.1 h2
    have h3 : l[i]? = some o := by simpa using hi
    exact List.all_eq_true.1 hk.1 o (List.mem_of_getElem? h3)
  have hsubd : ∀ is : List Nat, (is.all fun i => decide (i < l.length)) = true → ((pickL l is).all fun o => !isDefer o.op) = true := fun is his => by
    have h1 := pickL_map l is his
    refine List.all_eq_true.2 fun o ho => ?_
    have h2 : some o ∈ (pickL l is).map some := List.mem_map.2 ⟨o, ho, rfl⟩
    rw [← h1] at h2
    obtain ⟨i, _, hi⟩ := List.mem_map.1 h2
    have h3 : l[i]? = some o := by simpa using hi
    exact List.all_eq_true.1 hk.2 o (List.mem_of_getElem? h3)
  have hfit := pickO_fit l t hB.1.2
  refine wp_region_tree (C := C) t tl _ _ hk.2 hm hB.1.1 hfit (pickL_map l tl hB.2) hC ?_
  exact wpO_of_RO (fun σ e' a' hr' hq w' hw' => wpList_of_RW (fun e a w hr h => ⟨e, hr, h⟩) _ e' a' w' hsub (hsubd tl hB.2) hr' (hq w' hw')) _ [] e a (fit_dst hk.1 t _ hfit) hr h
/-! ### Steps -/
variable {Qs : List (Nat × Value) → (Nat → Value) → Prop} {σ : List (Nat × Value)} {e : Nat → Value} {i : Nat} {rest : List (Nat × Oper)}
variable {d : Option Tmp} {op : Op} {ty : TypeId} {ps : String} {af : Array Edge}
theorem RS_t {o : Oper} (h : wE ops e o = true) : RS P ops C sp Qs ((i, o) :: rest) σ e = match sp i with
      | true => (∀ w, C σ w → opTo P e o w fun v w' => C ((i, v) :: σ) w') ∧ ∀ v w', C ((i, v) :: σ) w' → RS P ops C sp Qs rest ((i, v) :: σ) (updO e o.dst v)
      | false => ∃ v, (∀ τ w, C τ w → opTo P e o w fun u w' => u = v ∧ C τ w') ∧ RS P ops C sp Qs rest σ (updO e o.dst v) := by rw [RS]; exact if_pos h
theorem RS_f {o : Oper} (h : wE ops e o = false) : RS P ops C sp Qs ((i, o) :: rest) σ e = RS P ops C sp Qs rest σ (updO e o.dst undef) := by rw [RS]; exact if_neg (by simp [h])
theorem rs_nil (h : Qs σ e) : RS P ops C sp Qs [] σ e := h
theorem rs_on {j : Nat} {b : Bool} (h : yE ops e j = some b) (hr : RS P ops C sp Qs ((i, ⟨d, op, ty, ps, af, none⟩) :: rest) σ e) : RS P ops C sp Qs ((i, ⟨d, op, ty, ps, af, some (j, b)⟩) :: rest) σ e := by
  rw [RS_t rfl] at hr
  rw [RS_t (by simp [wE, h])]
  exact hr
theorem rs_off {j : Nat} {b : Bool} (h : (yE ops e j == some b) = false) (hr : RS P ops C sp Qs rest σ (updO e d undef)) : RS P ops C sp Qs ((i, ⟨d, op, ty, ps, af, some (j, b)⟩) :: rest) σ e := by
  rw [RS_f (by simp [wE, h])]
  exact hr
theorem rs_r {v : Value} (hs : sp i = false) (h : ∀ τ w, C τ w → OpR P e ⟨d, op, ty, ps, af, none⟩ w v) (hr : RS P ops C sp Qs rest σ (updO e d v)) : RS P ops C sp Qs ((i, ⟨d, op, ty, ps, af, none⟩) :: rest) σ e := by
  rw [RS_t rfl, hs]
  refine ⟨v, fun τ w hC => ?_, hr⟩
  have := h τ w hC
  unfold OpR at this
  unfold opTo
  rw [this]
  exact ⟨rfl, hC⟩
theorem rs_v {v : Value} (hs : sp i = false) (h : OpV P e ⟨d, op, ty, ps, af, none⟩ v) (hr : RS P ops C sp Qs rest σ (updO e d v)) : RS P ops C sp Qs ((i, ⟨d, op, ty, ps, af, none⟩) :: rest) σ e := rs_r hs (fun _ w _ => h w) hr
/-- a plain call -/
theorem rs_call {f : FuncId} {args : List Operand} {tys : Array TypeId} {vs : List Value} {v : Value} (hs : sp i = false) (hv : fzl (args.map (ev e)) = some vs) (hc : ∀ τ w, C τ w → Fn P f vs w (fun v' w' => v' = v ∧ C τ w')) (hr : RS P ops C sp Qs rest σ (updO e d v)) :
    RS P ops C sp Qs ((i, ⟨d, .call ⟨.value (.func f), args.toArray, tys⟩, ty, ps, af, none⟩) :: rest) σ e := by
  have h0 := fzl_eq hv
  rw [RS_t rfl, hs]
  refine ⟨v, fun τ w hC => ?_, hr⟩
  have hrun : (execOp (ev e) ⟨d, .call ⟨.value (.func f), args.toArray, tys⟩, ty, ps, af, none⟩).run P w = .ok (.enter f vs.toArray) w := by
    have h1 : ev e (.func f) = .func (.func f) #[] #[] := rfl
    simp [execOp, resolve, h1, Deferred.ofValue, invoke, h0, run_callFunc_E (hc τ w hC).1]
  unfold opTo
  rw [hrun]
  exact (hc τ w hC).2
/-- a special operation: what it does is told as a step in order -/
theorem rs_special {o : Oper} (hs : sp i = true) (hw : wE ops e o = true) (h : ∀ w, C σ w → opTo P e o w fun v w' => C ((i, v) :: σ) w') (hr : ∀ v w', C ((i, v) :: σ) w' → RS P ops C sp Qs rest ((i, v) :: σ) (updO e o.dst v)) : RS P ops C sp Qs ((i, o) :: rest) σ e := by
  rw [RS_t hw, hs]
  exact ⟨h, hr⟩
theorem ro_one {p : Nat × Oper} {t : OT (Nat × Oper)} (h : RS P ops C sp (fun σ e => RO P ops C sp Qs t σ e) [p] σ e) : RO P ops C sp Qs (.one p t) σ e := h
theorem ro_two {p q : Nat × Oper} {t u : OT (Nat × Oper)} (h1 : RS P ops C sp (fun σ e => RO P ops C sp Qs t σ e) [p] σ e) (h2 : RS P ops C sp (fun σ e => RO P ops C sp Qs u σ e) [q] σ e) : RO P ops C sp Qs (.two p t q u) σ e := ⟨h1, h2⟩
theorem ro_nil (h : Qs σ e) : RO P ops C sp Qs .nil σ e := h
end
end Go.Proofs.YtbcgbcipigcbhaaGreat.TI
/- Two elements of a row change places, in whatever order the region draws: the parts of memory as the class. -/
namespace Go.Proofs.YtbcgbcipigcbhaaGreat
open Go.RowKit
set_option linter.unusedVariables false
set_option linter.unusedSimpArgs false

/-- what the two loads yielded; the one store that was made, or not -/
def SWC (F : Nat → Prop) (W : World) (L L1 : List HA) (p q s : Nat) (vp vq : Value) (σ : List (Nat × Value)) (w : World) : Prop :=
  (∀ x ∈ σ, (x.1 = p → x.2 = vp) ∧ (x.1 = q → x.2 = vq)) ∧ (if (σ.any fun x => Nat.beq x.1 s) = true then St F W w L1 else St F W w L)
section
variable {F : Nat → Prop} {W w w' : World} {L L1 : List HA} {p q s : Nat} {vp vq : Value} {σ : List (Nat × Value)}
theorem SWC.start (S : St F W w L) : SWC F W L L1 p q s vp vq [] w := ⟨fun x hx => (by cases hx), S⟩
theorem SWC.gr (h : SWC F W L L1 p q s vp vq σ w) (g : Gr w w') : SWC F W L L1 p q s vp vq σ w' := by
  refine ⟨h.1, ?_⟩
  have := h.2
  split at this
  · rename_i e; rw [if_pos e]; exact this.gr g
  · rename_i e; rw [if_neg e]; exact this.gr g
theorem SWC.st0 (h : SWC F W L L1 p q s vp vq σ w) (hs : (σ.any fun x => Nat.beq x.1 s) = false) : St F W w L := by
  have := h.2
  rw [if_neg (by rw [hs]; simp)] at this
  exact this
theorem SWC.st1 (h : SWC F W L L1 p q s vp vq σ w) (hs : (σ.any fun x => Nat.beq x.1 s) = true) : St F W w L1 := by
  have := h.2
  rw [if_pos hs] at this
  exact this
theorem SWC.first {v : Value} (h : SWC F W L L1 p q s vp vq ((p, v) :: σ) w) : v = vp := (h.1 (p, v) List.mem_cons_self).1 rfl
theorem SWC.second {v : Value} (h : SWC F W L L1 p q s vp vq ((q, v) :: σ) w) : v = vq := (h.1 (q, v) List.mem_cons_self).2 rfl
theorem SWC.push {k : Nat} {v : Value} (h : SWC F W L L1 p q s vp vq σ w) (h0 : (σ.any fun x => Nat.beq x.1 s) = false) (hk : Nat.beq k s = false) (h1 : (k = p → v = vp) ∧ (k = q → v = vq)) : SWC F W L L1 p q s vp vq ((k, v) :: σ) w := by
  refine ⟨fun x hx => ?_, ?_⟩
  · rcases List.mem_cons.1 hx with rfl | hx
    · exact h1
    · exact h.1 x hx
  · rw [if_neg (by rw [List.any_cons, h0, Bool.or_false]; simp only [hk]; simp)]; exact h.st0 h0
theorem SWC.made {v : Value} (h : SWC F W L L1 p q s vp vq σ w) (h1 : (s = p → v = vp) ∧ (s = q → v = vq)) (S : St F W w' L1) : SWC F W L L1 p q s vp vq ((s, v) :: σ) w' := by
  refine ⟨fun x hx => ?_, ?_⟩
  · rcases List.mem_cons.1 hx with rfl | hx
    · exact h1
    · exact h.1 x hx
  · rw [if_pos (by rw [List.any_cons]; simp)]; exact S
end
section
variable {P : Program} {e : Nat → Value} {d : Option Tmp} {ty : TypeId} {ps : String} {af : Array Edge} {F : Nat → Prop} {W w : World} {L L' : List HA} {R : Value → World → Prop}
theorem to_r {v : Value} {o : Oper} (h : OpR P e o w v) (hR : R v w) : opTo P e o w R := by
  unfold OpR at h
  unfold opTo
  generalize (execOp (ev e) o).run P w = r at *
  cases r with
  | ok n w' => cases n <;> simp_all
  | halt x w' => simp_all
/-- a step told by a walk's law is a step told by itself -/
theorem opTo_of_rw {op : Op} (hc : isCall op = false) (h : RW P #[] (fun e' w' => R (e' 0) w') [⟨some 0, op, ty, ps, af, none⟩] e w) : opTo P e ⟨d, op, ty, ps, af, none⟩ w R := by
  rw [RW_t rfl] at h
  unfold opNext at h
  unfold opTo
  have hx : execOp (ev e) ⟨some 0, op, ty, ps, af, none⟩ = execOp (ev e) ⟨d, op, ty, ps, af, none⟩ := by cases op <;> rfl
  rw [hx] at h
  generalize (execOp (ev e) ⟨d, op, ty, ps, af, none⟩).run P w = r at *
  cases r with
  | ok n w' =>
    cases n with
    | round l f tm sg bd => have h1 : isCall op = true := h.1; rw [hc] at h1; cases h1
    | value v => exact h
    | skip => exact h
    | enter f args => exact h
    | _ => exact h.elim
  | halt x w' => exact h.elim
theorem to_storeR {i : Nat} {t : TypeId} {x y : Operand} {el k n c j : Nat} {A : Option Addr} {xs : List Value} {v : Value} (S : St F W w L) (hi : getO L i = some (.row el k A n c xs)) (hz : (sizeOf t).run P w = .ok 1 w) (hx : ev e x = .pointer (at_ A j)) (hy : fz (ev e y) = some v) (hv : v.oneCell' = true) (hvc : v.cells = #[v]) (hj : j < xs.length)
    (hs : setO L i (.row el k A n c (xs.set j v)) = some L') (hr : ∀ w', St F W w' L' → R undef w') : opTo P e ⟨d, .store t x y, ty, ps, af, none⟩ w R :=
  opTo_of_rw rfl (rw_storeR S hi hz hx hy hv hvc hj hs (fun w' S' => hr w' S'))
theorem to_storeRA {i : Nat} {t : TypeId} {x y : Operand} {el k n c j s : Nat} {A : Option Addr} {xs cs : List Value} (S : St F W w L) (hi : getO L i = some (.row el k A n c xs)) (hz : (sizeOf t).run P w = .ok s w) (hx : ev e x = .pointer (at_ A j)) (hy : ev e y = .agg cs.toArray) (hcs : cs.length = s) (hone : (cs.all fun v => v.oneCell') = true) (hj : j + s ≤ xs.length)
    (hs : setO L i (.row el k A n c (xs.take j ++ cs ++ xs.drop (j + s))) = some L') (h0 : Nat.blt 0 s = true) (hr : ∀ w', St F W w' L' → R undef w') : opTo P e ⟨d, .store t x y, ty, ps, af, none⟩ w R :=
  opTo_of_rw rfl (rw_storeRA S hi hz hx hy hcs hone hj hs h0 (fun w' S' => hr w' S'))
end

/-! ### New parts side by side -/
def Mt (T : Nat → Value → HA → Prop) : List (Nat × Value) → List HA → Prop
  | [], [] => True
  | (k, v) :: σ, h :: Ps => T k v h ∧ Mt T σ Ps
  | _, _ => False
def CM (F : Nat → Prop) (W : World) (L : List HA) (T : Nat → Value → HA → Prop) (σ : List (Nat × Value)) (wq : World) : Prop := ∃ Ps, Mt T σ Ps ∧ St F W wq (Ps ++ L)
section
variable {F : Nat → Prop} {W wq w' : World} {L : List HA} {T : Nat → Value → HA → Prop} {σ : List (Nat × Value)}
theorem CM.start (S : St F W wq L) : CM F W L T [] wq := ⟨[], trivial, S⟩
theorem SepL.right {X : Nat → Prop} {w : World} : ∀ {Ps L : List HA}, SepL X w (Ps ++ L) → SepL X w L
  | [], _, h => h
  | _ :: Ps, _, h => SepL.right (Ps := Ps) h.2.2
theorem CM.st (h : CM F W L T σ wq) : St F W wq L := by
  obtain ⟨Ps, _, S⟩ := h
  exact ⟨S.fr, S.sep.right⟩
theorem CM.gr (h : CM F W L T σ wq) (g : Gr wq w') : CM F W L T σ w' := by
  obtain ⟨Ps, m, S⟩ := h
  exact ⟨Ps, m, S.gr g⟩
section
variable {P : Program} {e : Nat → Value} {d : Option Tmp} {ty : TypeId} {ps : String} {af : Array Edge}
theorem to_makeCM1 {t el : TypeId} {x y : Operand} {i bytes n c : Nat} {kl kc : IntKind} {z : Value} {m p : Int} (hq : CM F W L T σ wq) (hu : P.underlying t = some (.slice el)) (hI : (P.info? el).map (fun i => (i.zero, i.size, i.bytes)) = some (some z, 1, bytes)) (hz : z.cells = #[z])
    (hx : ev e x = .int kl m) (hy : ev e y = .int kc p) (hm : m = (n : Nat)) (hp : p = (c : Nat)) (hnc : n ≤ c) (hb : c * (bytes + 1) ≤ 140737488355328)
    (hT : ∀ A, SomeA A → T i (.slice A n c) (.row el 1 A n c (List.replicate n z))) : opTo P e ⟨d, .makeSlice t x y, ty, ps, af, none⟩ wq (fun v w' => CM F W L T ((i, v) :: σ) w') := by
  obtain ⟨Ps, hmt, S⟩ := hq
  exact opTo_of_rw rfl (rw_makeS1 hu hI hz hx hy hm hp hnc hb S (fun A w' g S' sa => ⟨_ :: Ps, ⟨hT A sa, hmt⟩, S'⟩))
end
/-- what another walk made, from a world of this one on -/
theorem SepL.app {X : Nat → Prop} {w0 w : World} : ∀ {P L : List HA}, SepL (fun g => No g ∨ w0.heap.size ≤ g) w P → SepL X w L → (∀ h ∈ L, ∀ g, h.own g → g < w0.heap.size) → (∀ g, w0.heap.size ≤ g → X g) → SepL X w (P ++ L)
  | [], _, _, h, _, _ => h
  | a :: P, L, hP, hL, hlt, hX => by
    refine ⟨⟨hP.1.1, fun g hg => hX g ((hP.1.2 g hg).elim (fun e => e.elim) id)⟩, fun g hg h hh => ?_, SepL.app hP.2.2 hL hlt hX⟩
    rcases List.mem_append.1 hh with hh | hh
    · exact hP.2.1 g hg h hh
    · intro ho
      have h1 := hlt h hh g ho
      have h2 := (hP.1.2 g hg).elim (fun e => e.elim) id
      omega
theorem SepL.ltL {X : Nat → Prop} {w : World} : ∀ {L : List HA}, SepL X w L → ∀ h ∈ L, ∀ g, h.own g → g < w.heap.size
  | a :: L, S, h, hh, g, ho => (List.mem_cons.1 hh).elim (fun e => by subst e; exact h.lt w S.1.1 g ho) (fun e => SepL.ltL S.2.2 h e g ho)
theorem St.app {w : World} {Q : List HA} (S : St F W w L) (S' : St No w w' Q) : St F W w' (Q ++ L) := by
  have g := S'.out
  have S1 := S.gr g
  exact ⟨S1.fr, SepL.app S'.sep S1.sep (S.sep.ltL) (fun g hg => .inr (Nat.le_trans S.le hg))⟩
end
end Go.Proofs.YtbcgbcipigcbhaaGreat
/- rect.Around; smooth.each, made, Mean: contracts. -/
namespace Go.Proofs.YtbcgbcipigcbhaaGreat
open Go.RowKit
set_option linter.unusedVariables false
set_option linter.unusedSimpArgs false
set_option maxRecDepth 100000

/-- a variable that is laid, and then set, while other operations come up that do not mind -/
def CA (F : Nat → Prop) (W : World) (L : List HA) (t : TypeId) (z l : List Value) (σ : List Value) (w : World) : Prop := match σ with
  | [] => St F W w L
  | [v] => ∃ b, v = .pointer (some ⟨b, 0, none⟩) ∧ St F W w (.blk b t z :: L)
  | _ :: v :: _ => ∃ b, v = .pointer (some ⟨b, 0, none⟩) ∧ St F W w (.blk b t l :: L)
section
variable {F : Nat → Prop} {W w w' : World} {L : List HA} {t : TypeId} {z l : List Value} {σ : List Value}
theorem CA.start (S : St F W w L) : CA F W L t z l [] w := S
theorem CA.gr (h : CA F W L t z l σ w) (g : Gr w w') : CA F W L t z l σ w' := by
  match σ, h with
  | [], h => exact St.gr h g
  | [v], ⟨b, e, S⟩ => exact ⟨b, e, S.gr g⟩
  | _ :: v :: _, ⟨b, e, S⟩ => exact ⟨b, e, S.gr g⟩
theorem CA.st (h : CA F W L t z l σ w) : St F W w L := by
  match σ, h with
  | [], h => exact h
  | [v], ⟨b, e, S⟩ => exact S.drop 1
  | _ :: v :: _, ⟨b, e, S⟩ => exact S.drop 1
theorem CA.fin {a v : Value} {σ : List Value} (h : CA F W L t z l (a :: v :: σ) w) : ∃ b, v = .pointer (some ⟨b, 0, none⟩) ∧ St F W w (.blk b t l :: L) := h
section
variable {P : Program} {e : Nat → Value} {d : Option Tmp} {ty : TypeId} {ps : String} {af : Array Edge}
theorem to_allocCA {zv : Value} (h : CA F W L t z l [] w) (hz : ∀ w, (zeroValue t).run P w = .ok zv w) (hl : zv.cells.toList = z) : opTo P e ⟨d, .alloc t, ty, ps, af, none⟩ w (fun v w' => CA F W L t z l [v] w') :=
  opTo_of_rw rfl (rw_newB (op_alloc hz hl) h (fun b w' g S => ⟨b, rfl, S⟩))
theorem to_storeCA {b n : Nat} {x y : Operand} {cs : List Value} (h : CA F W L t z l [.pointer (some ⟨b, 0, none⟩)] w) (hz : (sizeOf t).run P w = .ok n w) (hx : ev e x = .pointer (some ⟨b, 0, none⟩)) (hy : ev e y = .agg cs.toArray) (hn : cs.length = n)
    (hl' : fzl (z.take 0 ++ cs ++ z.drop (0 + n)) = some l) (ho : ((cs.all fun v => v.oneCell') && Nat.ble (0 + n) z.length) = true) : opTo P e ⟨d, .store t x y, ty, ps, af, none⟩ w (fun v w' => CA F W L t z l [v, .pointer (some ⟨b, 0, none⟩)] w') := by
  obtain ⟨b', e', S⟩ := h
  cases e'
  exact opTo_of_rw rfl (rw_storeSA (i := 0) S rfl hz hx hy hn hl' ho rfl (fun w' S' => ⟨b, rfl, S'⟩))
end
end
/-- a cell's window -/
structure Win where
  x0 : Nat
  y0 : Nat
  x1 : Nat
  y1 : Nat
def Win.val (r : Win) : Value := .agg #[.int .i64 r.x0, .int .i64 r.y0, .int .i64 r.x1, .int .i64 r.y1]
def winW (gw gh i n : Nat) : Win := ⟨i % gw - n, i / gw - n, min (i % gw + n) (gw - 1), min (i / gw + n) (gh - 1)⟩
def Win.ok (r : Win) (gw gh : Nat) : Prop := (r.x0 ≤ r.x1 ∧ r.x1 < gw) ∧ r.y0 ≤ r.y1 ∧ r.y1 < gh
theorem winW_ok {gw gh i n : Nat} (hgw : 0 < gw) (hi : i < gw * gh) : (winW gw gh i n).ok gw gh := by
  have h1 := Nat.mod_lt i hgw
  have h2 : i / gw < gh := Nat.div_lt_of_lt_mul hi
  unfold Win.ok winW
  dsimp only
  generalize i % gw = X at *
  generalize i / gw = Y at *
  omega
section
variable {W : World} {gw gh : Nat}
theorem around_E (i n : Nat) (hw : 1 ≤ gw ∧ gw ≤ 1024) (hh : 1 ≤ gh ∧ gh ≤ 1024) (hi : i < gw * gh) (hn : n ≤ 1024) :
    Fn Tryz.prog 69 [.agg #[.int .i64 (i % gw : Nat), .int .i64 (i / gw : Nat)], .int .i64 n, .int .i64 gw, .int .i64 gh] W (RetG (.tuple #[(winW gw gh i n).val, .int .i64 0]) W) := by
  have h1 := Nat.mod_lt i hw.1
  have h2 : i / gw < gh := Nat.div_lt_of_lt_mul hi
  have hwi : within (i % gw : Nat) (i / gw : Nat) (i % gw : Nat) (i / gw : Nat) gw gh = 0 := by
    generalize i % gw = X at *
    generalize i / gw = Y at *
    exact within_fine (by omega) (by omega) (by omega) (by omega)
  unfold winW Win.val
  dsimp only
  generalize i % gw = X at *
  generalize i / gw = Y at *
  have e0 : max ((X : Int) - n) 0 = ((X - n : Nat) : Int) := by omega
  have e1 : max ((Y : Int) - n) 0 = ((Y - n : Nat) : Int) := by omega
  have e2 : min ((X : Int) + n) ((gw : Int) - 1) = ((min (X + n) (gw - 1) : Nat) : Int) := by omega
  have e3 : min ((Y : Int) + n) ((gh : Int) - 1) = ((min (Y + n) (gh - 1) : Nat) : Int) := by omega
  have S := St.start W
  refine Fn_enter Tryz.func69 rfl Tryz.results69 Tryz.ntmps69 (by kernel_rfl) (by kernel_rfl) ?_
  repeat refine cw_seq ?_
  refine cw_region ?_
  refine rw_newB (op_box rfl) S ?_
  intro b_c w2_ g2_ S
  refine rw_newB (op_alloc Tryz.zeroValue38 rfl) S ?_
  intro b_res w4_ g4_ S
  refine rw_v (op_pure rfl) ?_
  first | refine rw_end ?_ | (refine rw_nil ?_; show CW _ _ _ _ _ _) | refine rw_nil ?_
  repeat refine cw_seq ?_
  refine cw_region ?_
  refine rw_v (op_fieldAddr Tryz.underlying50 rfl Tryz.sizeOf2 rfl rfl) ?_
  refine rw_r (op_loadB Tryz.underlying2 rfl rfl (S.blk (i := 1) rfl) rfl) ?_
  refine rw_v (op_fieldAddr Tryz.underlying50 rfl Tryz.sizeOf2 rfl rfl) ?_
  refine rw_r (op_loadB Tryz.underlying2 rfl rfl (S.blk (i := 1) rfl) rfl) ?_
  refine rw_v (op_fieldAddr Tryz.underlying50 rfl Tryz.sizeOf2 rfl rfl) ?_
  refine rw_r (op_loadB Tryz.underlying2 rfl rfl (S.blk (i := 1) rfl) rfl) ?_
  refine rw_v (op_fieldAddr Tryz.underlying50 rfl Tryz.sizeOf2 rfl rfl) ?_
  refine rw_r (op_loadB Tryz.underlying2 rfl rfl (S.blk (i := 1) rfl) rfl) ?_
  refine rw_v (op_build (pl := [(0, 1), (1, 1), (2, 1), (3, 1)]) Tryz.underlying38 Tryz.zeroValue38 (fun w => by kernel_rfl) rfl rfl) ?_
  iterate 2 refine rw_v (op_pure rfl) ?_
  refine rw_call rfl (within_E _ _ _ _ _ _ (by omega) (by omega) w4_) ?_
  rintro _ w5_ ⟨rfl, g5_⟩
  have S := S.gr g5_
  rw [hwi]
  refine rw_v (op_pure rfl) ?_
  first | refine rw_end ?_ | (refine rw_nil ?_; show CW _ _ _ _ _ _) | refine rw_nil ?_
  repeat refine cw_seq ?_
  refine cw_region ?_
  refine rw_v (op_pure rfl) ?_
  refine rw_v (op_b (b := false) rfl (bne_eq_false_iff_eq.2 (by omega))) ?_
  first | refine rw_end ?_ | (refine rw_nil ?_; show CW _ _ _ _ _ _) | refine rw_nil ?_
  repeat refine cw_seq ?_
  refine cw_false rfl ?_
  repeat refine cw_seq ?_
  refine cw_skip ?_
  try show CW _ _ _ _ _ _
  repeat refine cw_seq ?_
  refine cw_region ?_
  refine rw_v (op_pure rfl) ?_
  refine rw_v (op_b (b := false) rfl (decide_eq_false (by omega))) ?_
  refine rw_v (op_pure rfl) ?_
  first | refine rw_off rfl ?_ | (refine rw_on rfl ?_; refine rw_v (op_pure rfl) ?_)
  first | refine rw_off rfl ?_ | (refine rw_on rfl ?_; refine rw_v (op_b (b := false) rfl (decide_eq_false (by omega))) ?_)
  refine rw_v (op_pure rfl) ?_
  first | refine rw_end ?_ | (refine rw_nil ?_; show CW _ _ _ _ _ _) | refine rw_nil ?_
  repeat refine cw_seq ?_
  refine cw_false rfl ?_
  repeat refine cw_seq ?_
  refine cw_skip ?_
  try show CW _ _ _ _ _ _
  repeat refine cw_seq ?_
  refine cw_region ?_
  refine rw_v (op_fieldAddr Tryz.underlying50 rfl Tryz.sizeOf2 rfl rfl) ?_
  refine rw_r (op_loadB Tryz.underlying2 rfl rfl (S.blk (i := 1) rfl) rfl) ?_
  refine rw_v (op_pure rfl) ?_
  refine rw_v (op_rng rfl (by omega)) ?_
  refine rw_v (op_pure rfl) ?_
  rw [e0]
  refine rw_v (op_fieldAddr Tryz.underlying50 rfl Tryz.sizeOf2 rfl rfl) ?_
  refine rw_r (op_loadB Tryz.underlying2 rfl rfl (S.blk (i := 1) rfl) rfl) ?_
  refine rw_v (op_pure rfl) ?_
  refine rw_v (op_rng rfl (by omega)) ?_
  refine rw_v (op_pure rfl) ?_
  rw [e1]
  refine rw_v (op_fieldAddr Tryz.underlying50 rfl Tryz.sizeOf2 rfl rfl) ?_
  refine rw_r (op_loadB Tryz.underlying2 rfl rfl (S.blk (i := 1) rfl) rfl) ?_
  refine rw_v (op_pure rfl) ?_
  refine rw_v (op_rng rfl (by omega)) ?_
  refine rw_v (op_pure rfl) ?_
  refine rw_v (op_rng rfl (by omega)) ?_
  refine rw_v (op_pure rfl) ?_
  rw [e2]
  refine rw_v (op_fieldAddr Tryz.underlying50 rfl Tryz.sizeOf2 rfl rfl) ?_
  refine rw_r (op_loadB Tryz.underlying2 rfl rfl (S.blk (i := 1) rfl) rfl) ?_
  refine rw_v (op_pure rfl) ?_
  refine rw_v (op_rng rfl (by omega)) ?_
  refine rw_v (op_pure rfl) ?_
  refine rw_v (op_rng rfl (by omega)) ?_
  refine rw_v (op_pure rfl) ?_
  rw [e3]
  refine rw_v (op_build (pl := [(0, 1), (1, 1), (2, 1), (3, 1)]) Tryz.underlying38 Tryz.zeroValue38 (fun w => by kernel_rfl) rfl rfl) ?_
  refine rw_storeSA (i := 0) S rfl (Tryz.sizeOf38 _) rfl rfl rfl rfl rfl rfl ?_
  intro w6_ S
  refine rw_v (op_pure rfl) ?_
  first | refine rw_end ?_ | (refine rw_nil ?_; show CW _ _ _ _ _ _) | refine rw_nil ?_
  repeat refine cw_seq ?_
  refine cw_ret ?_
  repeat first | refine ret_then ?_ | refine ret_inb ?_
  exact resAT Tryz.underlying38 rfl (Tryz.sizeOf38 _) rfl (S.blk (i := 0) rfl) rfl rfl rfl ⟨rfl, S.out⟩
theorem aroundFar_E (i : Nat) (n : Int) (hw : 1 ≤ gw ∧ gw ≤ 1024) (hh : 1 ≤ gh ∧ gh ≤ 1024) (hi : i < gw * gh) (hn : n < 0 ∨ 1024 < n) :
    Fn Tryz.prog 69 [.agg #[.int .i64 (i % gw : Nat), .int .i64 (i / gw : Nat)], .int .i64 n, .int .i64 gw, .int .i64 gh] W (RetG (.tuple #[.agg #[.int .i64 0, .int .i64 0, .int .i64 0, .int .i64 0], .int .i64 9]) W) := by
  have h1 := Nat.mod_lt i hw.1
  have h2 : i / gw < gh := Nat.div_lt_of_lt_mul hi
  have hwi : within (i % gw : Nat) (i / gw : Nat) (i % gw : Nat) (i / gw : Nat) gw gh = 0 := by
    generalize i % gw = X at *
    generalize i / gw = Y at *
    exact within_fine (by omega) (by omega) (by omega) (by omega)
  generalize i % gw = X at *
  generalize i / gw = Y at *
  rcases hn with hn | hn
  · skip
    have S := St.start W
    refine Fn_enter Tryz.func69 rfl Tryz.results69 Tryz.ntmps69 (by kernel_rfl) (by kernel_rfl) ?_
    repeat refine cw_seq ?_
    refine cw_region ?_
    refine rw_newB (op_box rfl) S ?_
    intro b_c w2_ g2_ S
    refine rw_newB (op_alloc Tryz.zeroValue38 rfl) S ?_
    intro b_res w4_ g4_ S
    refine rw_v (op_pure rfl) ?_
    first | refine rw_end ?_ | (refine rw_nil ?_; show CW _ _ _ _ _ _) | refine rw_nil ?_
    repeat refine cw_seq ?_
    refine cw_region ?_
    refine rw_v (op_fieldAddr Tryz.underlying50 rfl Tryz.sizeOf2 rfl rfl) ?_
    refine rw_r (op_loadB Tryz.underlying2 rfl rfl (S.blk (i := 1) rfl) rfl) ?_
    refine rw_v (op_fieldAddr Tryz.underlying50 rfl Tryz.sizeOf2 rfl rfl) ?_
    refine rw_r (op_loadB Tryz.underlying2 rfl rfl (S.blk (i := 1) rfl) rfl) ?_
    refine rw_v (op_fieldAddr Tryz.underlying50 rfl Tryz.sizeOf2 rfl rfl) ?_
    refine rw_r (op_loadB Tryz.underlying2 rfl rfl (S.blk (i := 1) rfl) rfl) ?_
    refine rw_v (op_fieldAddr Tryz.underlying50 rfl Tryz.sizeOf2 rfl rfl) ?_
    refine rw_r (op_loadB Tryz.underlying2 rfl rfl (S.blk (i := 1) rfl) rfl) ?_
    refine rw_v (op_build (pl := [(0, 1), (1, 1), (2, 1), (3, 1)]) Tryz.underlying38 Tryz.zeroValue38 (fun w => by kernel_rfl) rfl rfl) ?_
    iterate 2 refine rw_v (op_pure rfl) ?_
    refine rw_call rfl (within_E _ _ _ _ _ _ (by omega) (by omega) w4_) ?_
    rintro _ w5_ ⟨rfl, g5_⟩
    have S := S.gr g5_
    rw [hwi]
    refine rw_v (op_pure rfl) ?_
    first | refine rw_end ?_ | (refine rw_nil ?_; show CW _ _ _ _ _ _) | refine rw_nil ?_
    repeat refine cw_seq ?_
    refine cw_region ?_
    refine rw_v (op_pure rfl) ?_
    refine rw_v (op_b (b := false) rfl (bne_eq_false_iff_eq.2 (by omega))) ?_
    first | refine rw_end ?_ | (refine rw_nil ?_; show CW _ _ _ _ _ _) | refine rw_nil ?_
    repeat refine cw_seq ?_
    refine cw_false rfl ?_
    repeat refine cw_seq ?_
    refine cw_skip ?_
    try show CW _ _ _ _ _ _
    repeat refine cw_seq ?_
    refine cw_region ?_
    refine rw_v (op_pure rfl) ?_
    refine rw_v (op_b (b := true) rfl (decide_eq_true (by omega))) ?_
    refine rw_v (op_pure rfl) ?_
    refine rw_off rfl ?_
    refine rw_off rfl ?_
    refine rw_v (op_pure rfl) ?_
    first | refine rw_end ?_ | (refine rw_nil ?_; show CW _ _ _ _ _ _) | refine rw_nil ?_
    repeat refine cw_seq ?_
    refine cw_true rfl ?_
    repeat refine cw_seq ?_
    refine cw_region ?_
    refine rw_v (op_build (pl := [(0, 1), (1, 1), (2, 1), (3, 1)]) Tryz.underlying38 Tryz.zeroValue38 (fun w => by kernel_rfl) rfl rfl) ?_
    refine rw_storeSA (i := 0) S rfl (Tryz.sizeOf38 _) rfl rfl rfl rfl rfl rfl ?_
    intro w6_ S
    refine rw_v (op_pure rfl) ?_
    first | refine rw_end ?_ | (refine rw_nil ?_; show CW _ _ _ _ _ _) | refine rw_nil ?_
    repeat refine cw_seq ?_
    refine cw_ret ?_
    repeat first | refine ret_then ?_ | refine ret_inb ?_
    exact resAT Tryz.underlying38 rfl (Tryz.sizeOf38 _) rfl (S.blk (i := 0) rfl) rfl rfl rfl ⟨rfl, S.out⟩
  · skip
    have S := St.start W
    refine Fn_enter Tryz.func69 rfl Tryz.results69 Tryz.ntmps69 (by kernel_rfl) (by kernel_rfl) ?_
    repeat refine cw_seq ?_
    refine cw_region ?_
    refine rw_newB (op_box rfl) S ?_
    intro b_c w2_ g2_ S
    refine rw_newB (op_alloc Tryz.zeroValue38 rfl) S ?_
    intro b_res w4_ g4_ S
    refine rw_v (op_pure rfl) ?_
    first | refine rw_end ?_ | (refine rw_nil ?_; show CW _ _ _ _ _ _) | refine rw_nil ?_
    repeat refine cw_seq ?_
    refine cw_region ?_
    refine rw_v (op_fieldAddr Tryz.underlying50 rfl Tryz.sizeOf2 rfl rfl) ?_
    refine rw_r (op_loadB Tryz.underlying2 rfl rfl (S.blk (i := 1) rfl) rfl) ?_
    refine rw_v (op_fieldAddr Tryz.underlying50 rfl Tryz.sizeOf2 rfl rfl) ?_
    refine rw_r (op_loadB Tryz.underlying2 rfl rfl (S.blk (i := 1) rfl) rfl) ?_
    refine rw_v (op_fieldAddr Tryz.underlying50 rfl Tryz.sizeOf2 rfl rfl) ?_
    refine rw_r (op_loadB Tryz.underlying2 rfl rfl (S.blk (i := 1) rfl) rfl) ?_
    refine rw_v (op_fieldAddr Tryz.underlying50 rfl Tryz.sizeOf2 rfl rfl) ?_
    refine rw_r (op_loadB Tryz.underlying2 rfl rfl (S.blk (i := 1) rfl) rfl) ?_
    refine rw_v (op_build (pl := [(0, 1), (1, 1), (2, 1), (3, 1)]) Tryz.underlying38 Tryz.zeroValue38 (fun w => by kernel_rfl) rfl rfl) ?_
    iterate 2 refine rw_v (op_pure rfl) ?_
    refine rw_call rfl (within_E _ _ _ _ _ _ (by omega) (by omega) w4_) ?_
    rintro _ w5_ ⟨rfl, g5_⟩
    have S := S.gr g5_
    rw [hwi]
    refine rw_v (op_pure rfl) ?_
    first | refine rw_end ?_ | (refine rw_nil ?_; show CW _ _ _ _ _ _) | refine rw_nil ?_
    repeat refine cw_seq ?_
    refine cw_region ?_
    refine rw_v (op_pure rfl) ?_
    refine rw_v (op_b (b := false) rfl (bne_eq_false_iff_eq.2 (by omega))) ?_
    first | refine rw_end ?_ | (refine rw_nil ?_; show CW _ _ _ _ _ _) | refine rw_nil ?_
    repeat refine cw_seq ?_
    refine cw_false rfl ?_
    repeat refine cw_seq ?_
    refine cw_skip ?_
    try show CW _ _ _ _ _ _
    repeat refine cw_seq ?_
    refine cw_region ?_
    refine rw_v (op_pure rfl) ?_
    refine rw_v (op_b (b := false) rfl (decide_eq_false (by omega))) ?_
    refine rw_v (op_pure rfl) ?_
    first | refine rw_off rfl ?_ | (refine rw_on rfl ?_; refine rw_v (op_pure rfl) ?_)
    first | refine rw_off rfl ?_ | (refine rw_on rfl ?_; refine rw_v (op_b (b := true) rfl (decide_eq_true (by omega))) ?_)
    refine rw_v (op_pure rfl) ?_
    first | refine rw_end ?_ | (refine rw_nil ?_; show CW _ _ _ _ _ _) | refine rw_nil ?_
    repeat refine cw_seq ?_
    refine cw_true rfl ?_
    repeat refine cw_seq ?_
    refine cw_region ?_
    refine rw_v (op_build (pl := [(0, 1), (1, 1), (2, 1), (3, 1)]) Tryz.underlying38 Tryz.zeroValue38 (fun w => by kernel_rfl) rfl rfl) ?_
    refine rw_storeSA (i := 0) S rfl (Tryz.sizeOf38 _) rfl rfl rfl rfl rfl rfl ?_
    intro w6_ S
    refine rw_v (op_pure rfl) ?_
    first | refine rw_end ?_ | (refine rw_nil ?_; show CW _ _ _ _ _ _) | refine rw_nil ?_
    repeat refine cw_seq ?_
    refine cw_ret ?_
    repeat first | refine ret_then ?_ | refine ret_inb ?_
    exact resAT Tryz.underlying38 rfl (Tryz.sizeOf38 _) rfl (S.blk (i := 0) rfl) rfl rfl rfl ⟨rfl, S.out⟩
end
section
variable {W : World} {A : Option Addr} {p gw gh cap fid : Nat} {cc : Nat → Int} {bs : Nat → Nat} {Rs : Nat → Option Nat} {caps : List Value} {q : Nat → Int}
theorem eachNil_E (n : Int) : Fn Tryz.prog 47 [.pointer none, .int .i64 n, .func (.func fid) (([] : List Value).toArray) caps.toArray] W (RetG (.tuple #[.slice none 0 0, .int .i64 1]) W) := by
  have S := St.start W
  refine Fn_enter Tryz.func47 rfl Tryz.results47 Tryz.ntmps47 (by kernel_rfl) (by kernel_rfl) ?_
  repeat refine cw_seq ?_
  refine cw_region ?_
  iterate 2 refine rw_v (op_pure rfl) ?_
  first | refine rw_end ?_ | (refine rw_nil ?_; show CW _ _ _ _ _ _) | refine rw_nil ?_
  repeat refine cw_seq ?_
  refine cw_region ?_
  refine rw_v (op_pure rfl) ?_
  refine rw_v (op_nilp Tryz.underlying28 rfl rfl) ?_
  first | refine rw_end ?_ | (refine rw_nil ?_; show CW _ _ _ _ _ _) | refine rw_nil ?_
  repeat refine cw_seq ?_
  refine cw_true rfl ?_
  repeat refine cw_seq ?_
  refine cw_region ?_
  iterate 2 refine rw_v (op_pure rfl) ?_
  first | refine rw_end ?_ | (refine rw_nil ?_; show CW _ _ _ _ _ _) | refine rw_nil ?_
  repeat refine cw_seq ?_
  refine cw_ret ?_
  repeat first | refine ret_then ?_ | refine ret_inb ?_
  exact res2 rfl rfl ⟨rfl, S.out⟩
set_option maxHeartbeats 2000000 in
theorem eachFar_E (n : Int) (hn : n < 0 ∨ 1024 < n) (hG : GridAt W p gw gh cc A cap bs Rs) : Fn Tryz.prog 47 [.pointer (some ⟨p, 0, none⟩), .int .i64 n, .func (.func fid) (([] : List Value).toArray) caps.toArray] W (RetG (.tuple #[.slice none 0 0, .int .i64 9]) W) := by
  have hw := hG.sw
  have hh := hG.sh
  have hm : 1 ≤ gw * gh ∧ gw * gh ≤ 1024 * 1024 := ⟨Nat.mul_le_mul hw.1 hh.1, Nat.mul_le_mul hw.2 hh.2⟩
  have emul : (gw : Int) * gh = ((gw * gh : Nat) : Int) := by push_cast; rfl
  have har := fun w => aroundFar_E (W := w) (gw := gw) (gh := gh) 0 n hw hh (by omega) hn
  rw [Nat.zero_mod, Nat.zero_div] at har
  have e1 : (0 : Int) % gw = ((0 : Nat) : Int) := by simp
  have e2 : (0 : Int) / gw = ((0 : Nat) : Int) := by simp
  have S := St.start W
  refine Fn_enter Tryz.func47 rfl Tryz.results47 Tryz.ntmps47 (by kernel_rfl) (by kernel_rfl) ?_
  repeat refine cw_seq ?_
  refine cw_region ?_
  iterate 2 refine rw_v (op_pure rfl) ?_
  first | refine rw_end ?_ | (refine rw_nil ?_; show CW _ _ _ _ _ _) | refine rw_nil ?_
  repeat refine cw_seq ?_
  refine cw_region ?_
  refine rw_v (op_pure rfl) ?_
  refine rw_v (op_nilp Tryz.underlying28 rfl rfl) ?_
  first | refine rw_end ?_ | (refine rw_nil ?_; show CW _ _ _ _ _ _) | refine rw_nil ?_
  repeat refine cw_seq ?_
  refine cw_false rfl ?_
  repeat refine cw_seq ?_
  refine cw_skip ?_
  try show CW _ _ _ _ _ _
  repeat refine cw_seq ?_
  refine cw_region ?_
  refine rw_v (op_pure rfl) ?_
  refine rw_call rfl (gsize_E p gw gh _ W (hG.top.gr S.out)) ?_
  rintro _ w1_ ⟨rfl, g1_⟩
  have S := S.gr g1_
  iterate 5 refine rw_v (op_pure rfl) ?_
  first | refine rw_end ?_ | (refine rw_nil ?_; show CW _ _ _ _ _ _) | refine rw_nil ?_
  repeat refine cw_seq ?_
  refine cw_region ?_
  refine rw_v (op_pure rfl) ?_
  first | refine rw_end ?_ | (refine rw_nil ?_; show CW _ _ _ _ _ _) | refine rw_nil ?_
  repeat refine cw_seq ?_
  refine cw_region ?_
  iterate 2 refine rw_v (op_pure rfl) ?_
  refine rw_v (op_rng rfl (by omega)) ?_
  rw [emul]
  refine rw_v (op_pure rfl) ?_
  first | refine rw_end ?_ | (refine rw_nil ?_; show CW _ _ _ _ _ _) | refine rw_nil ?_
  repeat refine cw_seq ?_
  refine cw_block ?_
  repeat refine cw_seq ?_
  refine cw_loop (fun m e w => SL e [(1, .int .i64 n), (8, .int .i64 gw), (9, .int .i64 gh), (23, .int .i64 (gw * gh : Nat)), (24, .int .i64 0)] ∧ St No W w []) 0 ⟨⟨rfl, rfl, rfl, rfl, rfl, trivial⟩, S⟩ ?_
  clear S
  rintro m e w ⟨hsl, S⟩
  rw [hsl.fold]
  repeat refine cw_seq ?_
  refine cw_region ?_
  refine rw_v (op_b (b := true) rfl (decide_eq_true (by omega))) ?_
  first | refine rw_end ?_ | (refine rw_nil ?_; show CW _ _ _ _ _ _) | refine rw_nil ?_
  repeat refine cw_seq ?_
  refine cw_true rfl ?_
  repeat refine cw_seq ?_
  refine cw_skip ?_
  try show CW _ _ _ _ _ _
  repeat refine cw_seq ?_
  refine cw_block ?_
  repeat refine cw_seq ?_
  refine cw_region ?_
  iterate 2 refine rw_v (op_pure rfl) ?_
  first | refine rw_end ?_ | (refine rw_nil ?_; show CW _ _ _ _ _ _) | refine rw_nil ?_
  repeat refine cw_seq ?_
  refine cw_tri (C := (CA No W [] 38 [.int .i64 0, .int .i64 0, .int .i64 0, .int .i64 0] [.int .i64 0, .int .i64 0, .int .i64 0, .int .i64 0])) [14, 15] [0, 1, 2, 3, 4, 5, 6, 7, 8, 9, 10, 11, 12, 13, 14, 15] [16] (by kernel_rfl) (by kernel_rfl) (CA.start (S.gr (Gr.drew _))) ?_
  simp only [pickI, pickL, List.drop_succ_cons, List.drop_zero]
  refine rs_v rfl (op_pure rfl) ?_
  refine rs_v rfl (op_pure rfl) ?_
  refine rs_v rfl (op_rem rfl rfl (by omega) (by omega)) ?_
  rw [e1]
  refine rs_v rfl (op_pure rfl) ?_
  refine rs_v rfl (op_pure rfl) ?_
  refine rs_v rfl (op_div rfl rfl (by omega) (by omega)) ?_
  rw [e2]
  refine rs_v rfl (op_build (pl := [(0, 1), (1, 1)]) Tryz.underlying50 Tryz.zeroValue50 (fun w => by kernel_rfl) rfl rfl) ?_
  refine rs_v rfl (op_pure rfl) ?_
  refine rs_v rfl (op_pure rfl) ?_
  refine rs_v rfl (op_pure rfl) ?_
  refine rs_call rfl rfl (fun τ wq hq => (har wq).mono (fun _ _ ⟨hv, hg⟩ => ⟨hv, hq.gr hg⟩)) ?_
  refine rs_v rfl (op_pure rfl) ?_
  refine rs_v rfl (op_pure rfl) ?_
  refine rs_v rfl (op_pure rfl) ?_
  refine rs_special rfl rfl (fun wq hq => to_allocCA hq Tryz.zeroValue38 rfl) ?_
  rintro v14 w14 ⟨b_r, rfl, _⟩
  refine rs_special rfl rfl (fun wq hq => to_storeCA hq (Tryz.sizeOf38 _) rfl rfl rfl rfl rfl) ?_
  rintro v15 w15 _
  refine rs_nil ?_
  rintro wz hz
  obtain ⟨b_r2, e_r2, S⟩ := hz.fin
  cases e_r2
  refine rw_v (op_pure rfl) ?_
  first | refine rw_end ?_ | (refine rw_nil ?_; show CW _ _ _ _ _ _) | refine rw_nil ?_
  repeat refine cw_seq ?_
  refine cw_region ?_
  refine rw_v (op_pure rfl) ?_
  refine rw_v (op_b (b := true) rfl (bne_iff_ne.2 (by omega))) ?_
  first | refine rw_end ?_ | (refine rw_nil ?_; show CW _ _ _ _ _ _) | refine rw_nil ?_
  repeat refine cw_seq ?_
  refine cw_true rfl ?_
  repeat refine cw_seq ?_
  refine cw_region ?_
  iterate 3 refine rw_v (op_pure rfl) ?_
  first | refine rw_end ?_ | (refine rw_nil ?_; show CW _ _ _ _ _ _) | refine rw_nil ?_
  repeat refine cw_seq ?_
  refine cw_ret ?_
  repeat first | refine ret_then ?_ | refine ret_inb ?_
  exact res2 rfl rfl ⟨rfl, S.out⟩
set_option maxHeartbeats 4000000 in
theorem each_E (n : Nat) (hn : n ≤ 1024) (hG : GridAt W p gw gh cc A cap bs Rs) (hq : ∀ w, Gr W w → ∀ i, i < gw * gh → Fn Tryz.prog fid ([] ++ [(winW gw gh i n).val] ++ caps) w (RetG (.int .i64 (q i)) w)) :
    Fn Tryz.prog 47 [.pointer (some ⟨p, 0, none⟩), .int .i64 n, .func (.func fid) (([] : List Value).toArray) caps.toArray] W (RetNew (fun s => .tuple #[s, .int .i64 0]) 2 1 (gw * gh) (cellsQ (gw * gh) q) W) := by
  have hw := hG.sw
  have hh := hG.sh
  have hm : 1 ≤ gw * gh ∧ gw * gh ≤ 1024 * 1024 := ⟨Nat.mul_le_mul hw.1 hh.1, Nat.mul_le_mul hw.2 hh.2⟩
  have emul : (gw : Int) * gh = ((gw * gh : Nat) : Int) := by push_cast; rfl
  have S := St.start W
  refine Fn_enter Tryz.func47 rfl Tryz.results47 Tryz.ntmps47 (by kernel_rfl) (by kernel_rfl) ?_
  repeat refine cw_seq ?_
  refine cw_region ?_
  iterate 2 refine rw_v (op_pure rfl) ?_
  first | refine rw_end ?_ | (refine rw_nil ?_; show CW _ _ _ _ _ _) | refine rw_nil ?_
  repeat refine cw_seq ?_
  refine cw_region ?_
  refine rw_v (op_pure rfl) ?_
  refine rw_v (op_nilp Tryz.underlying28 rfl rfl) ?_
  first | refine rw_end ?_ | (refine rw_nil ?_; show CW _ _ _ _ _ _) | refine rw_nil ?_
  repeat refine cw_seq ?_
  refine cw_false rfl ?_
  repeat refine cw_seq ?_
  refine cw_skip ?_
  try show CW _ _ _ _ _ _
  repeat refine cw_seq ?_
  refine cw_region ?_
  refine rw_v (op_pure rfl) ?_
  refine rw_call rfl (gsize_E p gw gh _ W (hG.top.gr S.out)) ?_
  rintro _ w1_ ⟨rfl, g1_⟩
  have S := S.gr g1_
  iterate 5 refine rw_v (op_pure rfl) ?_
  first | refine rw_end ?_ | (refine rw_nil ?_; show CW _ _ _ _ _ _) | refine rw_nil ?_
  repeat refine cw_seq ?_
  refine cw_region ?_
  refine rw_v (op_pure rfl) ?_
  first | refine rw_end ?_ | (refine rw_nil ?_; show CW _ _ _ _ _ _) | refine rw_nil ?_
  repeat refine cw_seq ?_
  refine cw_region ?_
  iterate 2 refine rw_v (op_pure rfl) ?_
  refine rw_v (op_rng rfl (by omega)) ?_
  rw [emul]
  refine rw_v (op_pure rfl) ?_
  first | refine rw_end ?_ | (refine rw_nil ?_; show CW _ _ _ _ _ _) | refine rw_nil ?_
  repeat refine cw_seq ?_
  refine cw_block ?_
  repeat refine cw_seq ?_
  have S := S.pushNil 2 1
  refine cw_loop (fun m e w => ∃ (i : Nat) (A_o : Option Addr) (c_o : Nat), i + m = gw * gh ∧ SL e [(1, .int .i64 n), (2, .func (.func fid) (([] : List Value).toArray) caps.toArray), (8, .int .i64 gw), (9, .int .i64 gh), (10, .slice A_o i c_o), (23, .int .i64 (gw * gh : Nat)), (24, .int .i64 i)] ∧
    St No W w [.row 2 1 A_o i c_o (cellsQ i q)]) (gw * gh) ⟨0, none, 0, by omega, ⟨rfl, rfl, rfl, rfl, rfl, rfl, rfl, trivial⟩, S⟩ ?_
  clear S
  rintro m e w ⟨i, A_o, c_o, him, hsl, S⟩
  rw [hsl.fold]
  by_cases hi : i < gw * gh
  · have e1 : (i : Int) % gw = ((i % gw : Nat) : Int) := by push_cast; rfl
    have e2 : (i : Int) / gw = ((i / gw : Nat) : Int) := by push_cast; rfl
    repeat refine cw_seq ?_
    refine cw_region ?_
    refine rw_v (op_b (b := true) rfl (decide_eq_true (by omega))) ?_
    first | refine rw_end ?_ | (refine rw_nil ?_; show CW _ _ _ _ _ _) | refine rw_nil ?_
    repeat refine cw_seq ?_
    refine cw_true rfl ?_
    repeat refine cw_seq ?_
    refine cw_skip ?_
    try show CW _ _ _ _ _ _
    repeat refine cw_seq ?_
    refine cw_block ?_
    repeat refine cw_seq ?_
    refine cw_region ?_
    iterate 2 refine rw_v (op_pure rfl) ?_
    first | refine rw_end ?_ | (refine rw_nil ?_; show CW _ _ _ _ _ _) | refine rw_nil ?_
    repeat refine cw_seq ?_
    refine cw_tri (C := (CA No W [.row 2 1 A_o i c_o (cellsQ i q)] 38 [.int .i64 0, .int .i64 0, .int .i64 0, .int .i64 0] [.int .i64 (winW gw gh i n).x0, .int .i64 (winW gw gh i n).y0, .int .i64 (winW gw gh i n).x1, .int .i64 (winW gw gh i n).y1])) [14, 15] [0, 1, 2, 3, 4, 5, 6, 7, 8, 9, 10, 11, 12, 13, 14, 15] [16] (by kernel_rfl) (by kernel_rfl) (CA.start (S.gr (Gr.drew _))) ?_
    simp only [pickI, pickL, List.drop_succ_cons, List.drop_zero]
    refine rs_v rfl (op_pure rfl) ?_
    refine rs_v rfl (op_pure rfl) ?_
    refine rs_v rfl (op_rem rfl rfl (by omega) (by omega)) ?_
    rw [e1]
    refine rs_v rfl (op_pure rfl) ?_
    refine rs_v rfl (op_pure rfl) ?_
    refine rs_v rfl (op_div rfl rfl (by omega) (by omega)) ?_
    rw [e2]
    refine rs_v rfl (op_build (pl := [(0, 1), (1, 1)]) Tryz.underlying50 Tryz.zeroValue50 (fun w => by kernel_rfl) rfl rfl) ?_
    refine rs_v rfl (op_pure rfl) ?_
    refine rs_v rfl (op_pure rfl) ?_
    refine rs_v rfl (op_pure rfl) ?_
    refine rs_call rfl rfl (fun τ wq hq => (around_E (W := wq) i n hw hh hi hn).mono (fun _ _ ⟨hv, hg⟩ => ⟨hv, hq.gr hg⟩)) ?_
    refine rs_v rfl (op_pure rfl) ?_
    refine rs_v rfl (op_pure rfl) ?_
    refine rs_v rfl (op_pure rfl) ?_
    refine rs_special rfl rfl (fun wq hq => to_allocCA hq Tryz.zeroValue38 rfl) ?_
    rintro v14 w14 ⟨b_r, rfl, _⟩
    refine rs_special rfl rfl (fun wq hq => to_storeCA hq (Tryz.sizeOf38 _) rfl rfl rfl rfl rfl) ?_
    rintro v15 w15 _
    refine rs_nil ?_
    rintro wz hz
    obtain ⟨b_r2, e_r2, S⟩ := hz.fin
    cases e_r2
    refine rw_v (op_pure rfl) ?_
    first | refine rw_end ?_ | (refine rw_nil ?_; show CW _ _ _ _ _ _) | refine rw_nil ?_
    repeat refine cw_seq ?_
    refine cw_region ?_
    refine rw_v (op_pure rfl) ?_
    refine rw_v (op_b (b := false) rfl (bne_eq_false_iff_eq.2 (by omega))) ?_
    first | refine rw_end ?_ | (refine rw_nil ?_; show CW _ _ _ _ _ _) | refine rw_nil ?_
    repeat refine cw_seq ?_
    refine cw_false rfl ?_
    repeat refine cw_seq ?_
    refine cw_skip ?_
    try show CW _ _ _ _ _ _
    repeat refine cw_seq ?_
    refine cw_region ?_
    iterate 2 refine rw_v (op_pure rfl) ?_
    refine rw_r (op_loadAB Tryz.underlying38 rfl (Tryz.sizeOf38 _) rfl (S.blk (i := 0) rfl) rfl rfl) ?_
    refine rw_callv rfl rfl (hq wz S.out i hi) ?_
    rintro _ w3_ ⟨rfl, g3_⟩
    have S := S.gr g3_
    refine rw_buildS Tryz.underlying22 Tryz.sizeOf2 Tryz.zeroValue2 rfl rfl rfl rfl rfl rfl S ?_
    intro A_lit w5_ g5_ S sa_lit
    refine rw_appS (i := 2) S rfl (fun h => rfl) Tryz.underlying22 info_t2 rfl rfl rfl rfl (by simp) (by omega) (S.rd (i := 0) rfl) rfl (by omega) ?_
    intro A_o2 c_o2 w6_ S sa_o
    refine rw_v (op_pure rfl) ?_
    first | refine rw_end ?_ | (refine rw_nil ?_; show CW _ _ _ _ _ _) | refine rw_nil ?_
    repeat refine cw_seq ?_
    refine cw_region ?_
    refine rw_v (op_rng rfl (by omega)) ?_
    refine rw_v (op_pure rfl) ?_
    first | refine rw_end ?_ | (refine rw_nil ?_; show CW _ _ _ _ _ _) | refine rw_nil ?_
    have S := S.sub (.cons _ (.cons _ (.cons_cons _ (.slnil))))
    rw [cellsQ_push rfl] at S
    exact ⟨m - 1, by omega, i + 1, A_o2, c_o2, by omega, ⟨rfl, rfl, rfl, rfl, rfl, rfl, ie (by omega), trivial⟩, S⟩
  · obtain rfl : i = gw * gh := by omega
    repeat refine cw_seq ?_
    refine cw_region ?_
    refine rw_v (op_b (b := false) rfl (decide_eq_false (by omega))) ?_
    first | refine rw_end ?_ | (refine rw_nil ?_; show CW _ _ _ _ _ _) | refine rw_nil ?_
    repeat refine cw_seq ?_
    refine cw_false rfl ?_
    repeat refine cw_seq ?_
    refine cw_exit ?_
    repeat first | refine exit_then ?_ | refine exit_inb ?_
    show CW _ _ _ _ _ _
    repeat refine cw_seq ?_
    refine cw_region ?_
    iterate 3 refine rw_v (op_pure rfl) ?_
    first | refine rw_end ?_ | (refine rw_nil ?_; show CW _ _ _ _ _ _) | refine rw_nil ?_
    repeat refine cw_seq ?_
    refine cw_ret ?_
    repeat first | refine ret_then ?_ | refine ret_inb ?_
    exact res2 rfl rfl (S.retNew (i := 0) (mk := fun s => .tuple #[s, .int .i64 0]) rfl)
theorem smadeNil_E (n : Int) : Fn Tryz.prog 20 [.pointer none, .int .i64 n, .func (.func fid) (([] : List Value).toArray) caps.toArray] W (RetG (.tuple #[.pointer none, .int .i64 1]) W) := by
  have S := St.start W
  refine Fn_enter Tryz.func20 rfl Tryz.results20 Tryz.ntmps20 (by kernel_rfl) (by kernel_rfl) ?_
  repeat refine cw_seq ?_
  refine cw_region ?_
  iterate 2 refine rw_v (op_pure rfl) ?_
  first | refine rw_end ?_ | (refine rw_nil ?_; show CW _ _ _ _ _ _) | refine rw_nil ?_
  repeat refine cw_seq ?_
  refine cw_region ?_
  iterate 3 refine rw_v (op_pure rfl) ?_
  refine rw_call rfl (eachNil_E n) ?_
  rintro _ w1_ ⟨rfl, g1_⟩
  have S := S.gr g1_
  iterate 5 refine rw_v (op_pure rfl) ?_
  first | refine rw_end ?_ | (refine rw_nil ?_; show CW _ _ _ _ _ _) | refine rw_nil ?_
  repeat refine cw_seq ?_
  refine cw_region ?_
  refine rw_v (op_pure rfl) ?_
  refine rw_v (op_b (b := true) rfl (bne_iff_ne.2 (by omega))) ?_
  first | refine rw_end ?_ | (refine rw_nil ?_; show CW _ _ _ _ _ _) | refine rw_nil ?_
  repeat refine cw_seq ?_
  refine cw_true rfl ?_
  repeat refine cw_seq ?_
  refine cw_region ?_
  iterate 3 refine rw_v (op_pure rfl) ?_
  first | refine rw_end ?_ | (refine rw_nil ?_; show CW _ _ _ _ _ _) | refine rw_nil ?_
  repeat refine cw_seq ?_
  refine cw_ret ?_
  repeat first | refine ret_then ?_ | refine ret_inb ?_
  exact res2 rfl rfl ⟨rfl, S.out⟩
theorem smadeFar_E (n : Int) (hn : n < 0 ∨ 1024 < n) (hG : GridAt W p gw gh cc A cap bs Rs) : Fn Tryz.prog 20 [.pointer (some ⟨p, 0, none⟩), .int .i64 n, .func (.func fid) (([] : List Value).toArray) caps.toArray] W (RetG (.tuple #[.pointer none, .int .i64 9]) W) := by
  have S := St.start W
  refine Fn_enter Tryz.func20 rfl Tryz.results20 Tryz.ntmps20 (by kernel_rfl) (by kernel_rfl) ?_
  repeat refine cw_seq ?_
  refine cw_region ?_
  iterate 2 refine rw_v (op_pure rfl) ?_
  first | refine rw_end ?_ | (refine rw_nil ?_; show CW _ _ _ _ _ _) | refine rw_nil ?_
  repeat refine cw_seq ?_
  refine cw_region ?_
  iterate 3 refine rw_v (op_pure rfl) ?_
  refine rw_call rfl (eachFar_E (W := W) n hn (hG.gr S.out)) ?_
  rintro _ w1_ ⟨rfl, g1_⟩
  have S := S.gr g1_
  iterate 5 refine rw_v (op_pure rfl) ?_
  first | refine rw_end ?_ | (refine rw_nil ?_; show CW _ _ _ _ _ _) | refine rw_nil ?_
  repeat refine cw_seq ?_
  refine cw_region ?_
  refine rw_v (op_pure rfl) ?_
  refine rw_v (op_b (b := true) rfl (bne_iff_ne.2 (by omega))) ?_
  first | refine rw_end ?_ | (refine rw_nil ?_; show CW _ _ _ _ _ _) | refine rw_nil ?_
  repeat refine cw_seq ?_
  refine cw_true rfl ?_
  repeat refine cw_seq ?_
  refine cw_region ?_
  iterate 3 refine rw_v (op_pure rfl) ?_
  first | refine rw_end ?_ | (refine rw_nil ?_; show CW _ _ _ _ _ _) | refine rw_nil ?_
  repeat refine cw_seq ?_
  refine cw_ret ?_
  repeat first | refine ret_then ?_ | refine ret_inb ?_
  exact res2 rfl rfl ⟨rfl, S.out⟩
theorem smade_E (n : Nat) (hn : n ≤ 1024) (hG : GridAt W p gw gh cc A cap bs Rs) (hmay : ∀ i, i < gw * gh → mayB (q i) = true) (hq : ∀ w, Gr W w → ∀ i, i < gw * gh → Fn Tryz.prog fid ([] ++ [(winW gw gh i n).val] ++ caps) w (RetG (.int .i64 (q i)) w)) :
    Fn Tryz.prog 20 [.pointer (some ⟨p, 0, none⟩), .int .i64 n, .func (.func fid) (([] : List Value).toArray) caps.toArray] W (RetGrid (fun p => .tuple #[p, .int .i64 0]) gw gh (fun i => (gridL gw gh q).getD i 0) W) := by
  have hw := hG.sw
  have hh := hG.sh
  have hfrom := fun (A : Option Addr) (c : Nat) (w : World) (hR : Rd w A (ints (gridL gw gh q))) => from_E (W := w) (V := gridL gw gh q) c hw hh (gridL_len gw gh q) (fun v hv => by
    obtain ⟨i, hi, rfl⟩ := List.mem_map.1 hv
    exact hmay i (List.mem_range.1 hi)) hR
  rw [gridL_len] at hfrom
  have S := St.start W
  refine Fn_enter Tryz.func20 rfl Tryz.results20 Tryz.ntmps20 (by kernel_rfl) (by kernel_rfl) ?_
  repeat refine cw_seq ?_
  refine cw_region ?_
  iterate 2 refine rw_v (op_pure rfl) ?_
  first | refine rw_end ?_ | (refine rw_nil ?_; show CW _ _ _ _ _ _) | refine rw_nil ?_
  repeat refine cw_seq ?_
  refine cw_region ?_
  iterate 3 refine rw_v (op_pure rfl) ?_
  refine rw_call rfl (each_E (W := W) n hn (hG.gr S.out) (fun w g => hq w (S.out.trans g))) ?_
  rintro _ w1_ ⟨A_l, c_l, rfl, hR_l, hf_l, g1_⟩
  have S := S.pushRow hR_l hf_l g1_
  iterate 5 refine rw_v (op_pure rfl) ?_
  first | refine rw_end ?_ | (refine rw_nil ?_; show CW _ _ _ _ _ _) | refine rw_nil ?_
  repeat refine cw_seq ?_
  refine cw_region ?_
  refine rw_v (op_pure rfl) ?_
  refine rw_v (op_b (b := false) rfl (bne_eq_false_iff_eq.2 (by omega))) ?_
  first | refine rw_end ?_ | (refine rw_nil ?_; show CW _ _ _ _ _ _) | refine rw_nil ?_
  repeat refine cw_seq ?_
  refine cw_false rfl ?_
  repeat refine cw_seq ?_
  refine cw_skip ?_
  try show CW _ _ _ _ _ _
  repeat refine cw_seq ?_
  refine cw_region ?_
  refine rw_v (op_pure rfl) ?_
  refine rw_call rfl (gsize_E p gw gh _ w1_ (hG.top.gr S.out)) ?_
  rintro _ w2_ ⟨rfl, g2_⟩
  have S := S.gr g2_
  iterate 5 refine rw_v (op_pure rfl) ?_
  first | refine rw_end ?_ | (refine rw_nil ?_; show CW _ _ _ _ _ _) | refine rw_nil ?_
  have hrl := (S.row (i := 0) rfl).rd
  rw [cellsQ_ints] at hrl
  repeat refine cw_seq ?_
  refine cw_region ?_
  iterate 3 refine rw_v (op_pure rfl) ?_
  refine rw_call rfl (hfrom A_l c_l w2_ hrl) ?_
  rintro _ w3_ ⟨p2, B2, bc2, bs2, Rs2, rfl, hG2, hf2, g3_⟩
  have S := S.pushGrid hG2 hf2 g3_
  iterate 4 refine rw_v (op_pure rfl) ?_
  first | refine rw_end ?_ | (refine rw_nil ?_; show CW _ _ _ _ _ _) | refine rw_nil ?_
  repeat refine cw_seq ?_
  refine cw_ret ?_
  repeat first | refine ret_then ?_ | refine ret_inb ?_
  exact res2 rfl rfl (S.retGrid (i := 0) (mk := fun p => .tuple #[p, .int .i64 0]) rfl)
end
end Go.Proofs.YtbcgbcipigcbhaaGreat
