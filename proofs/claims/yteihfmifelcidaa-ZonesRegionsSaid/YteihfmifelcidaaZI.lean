/- Regions that draw their order: the tree of orders again, where what a special operation yielded is kept with the operation's number. (Printed from XTri, XTriB and XTriC.) -/
import Derived.Test.YteihfmifelcidaaZD
import Derived.Test.YteihfmifelcidaaZH
import Derived.Shelf.SlSortCmp.NoneTotal
import Derived.Ground.SlsfProg
import Derived.Test.YteihfmifelcidaaProg
namespace Go.Proofs.Yteihfmifelcidaa
open Go.RowKit
set_option linter.unusedVariables false
set_option linter.unusedSimpArgs false

inductive OT (α : Type) where
  | nil
  | one (i : α) (t : OT α)
  | two (i : α) (t : OT α) (j : α) (u : OT α)
def OT.path : OT Nat → List Nat
  | .nil => []
  | .one i t => i :: t.path
  | .two i t _ _ => i :: t.path
def OT.allB (p : Nat → Bool) : OT Nat → Bool
  | .nil => true
  | .one i t => p i && t.allB p
  | .two i t j u => p i && t.allB p && p j && u.allB p
def OT.fit (ops : Array Oper) : OT Nat → OT (Nat × Oper) → Prop
  | .nil, .nil => True
  | .one i t, .one p u => p.1 = i ∧ ops[i]? = some p.2 ∧ t.fit ops u
  | .two i t j u, .two p t' q u' => p.1 = i ∧ ops[i]? = some p.2 ∧ t.fit ops t' ∧ q.1 = j ∧ ops[j]? = some q.2 ∧ u.fit ops u'
  | _, _ => False
def pickO (l : List Oper) : OT Nat → OT (Nat × Oper)
  | .nil => .nil
  | .one i t => match l.drop i with
    | o :: _ => .one (i, o) (pickO l t)
    | [] => .nil
  | .two i t j u => match l.drop i, l.drop j with
    | o :: _, o' :: _ => .two (i, o) (pickO l t) (j, o') (pickO l u)
    | _, _ => .nil
theorem pickO_fit (l : List Oper) : ∀ t : OT Nat, t.allB (fun i => decide (i < l.length)) = true → t.fit l.toArray (pickO l t)
  | .nil, _ => trivial
  | .one i t, h => by
    simp only [OT.allB, Bool.and_eq_true, decide_eq_true_eq] at h
    simp only [pickO, List.drop_eq_getElem_cons h.1]
    exact ⟨rfl, by simp [h.1], pickO_fit l t h.2⟩
  | .two i t j u, h => by
    simp only [OT.allB, Bool.and_eq_true, decide_eq_true_eq] at h
    simp only [pickO, List.drop_eq_getElem_cons h.1.1.1, List.drop_eq_getElem_cons h.1.2]
    exact ⟨rfl, by simp [h.1.1.1], pickO_fit l t h.1.1.2, rfl, by simp [h.1.2], pickO_fit l u h.2⟩
section
variable {P : Program} {ops : Array Oper} {C : List Value → World → Prop} {sp : Nat → Bool}
def headOB (ops : Array Oper) (sp : Nat → Bool) (tl : List Nat) : OT Nat → Array Bool → Bool
  | .nil, listed => tailB ops tl listed
  | .one i t, listed => (match sp i with
    | true => decide (Region.ready .any ops listed = [i])
    | false => (Region.ready .any ops listed).contains i && Region.free .any ops listed i) && headOB ops sp tl t (listed.setIfInBounds i true)
  | .two i t j u, listed => decide (Region.ready .any ops listed = [i, j]) && decide (t.path.length = u.path.length) && headOB ops sp tl t (listed.setIfInBounds i true) && headOB ops sp tl u (listed.setIfInBounds j true)
def orderOB (ops : Array Oper) (sp : Nat → Bool) (t : OT Nat) (tl : List Nat) : Bool :=
  Region.noSelect ops && decide (t.path.length + tl.length = ops.size) && ((List.range ops.size).all fun i => t.path.contains i || tl.contains i) && t.allB (fun i => t.path.contains i) &&
  (tl.all fun x => t.path.all fun i => (ancsOf ops ops.size x).contains i) && (tl.all fun x => !t.path.contains x) && headOB ops sp tl t (Array.replicate ops.size false)
def wpO (P : Program) (ops : Array Oper) (C : List Value → World → Prop) (sp : Nat → Bool) (Lq : List Value → Act → Prop) : OT (Nat × Oper) → List Value → Act → Prop
  | .nil, σ, a => Lq σ a
  | .one p t, σ, a => wp1 P ops C sp p.1 p.2 (wpO P ops C sp Lq t) σ a
  | .two p t q u, σ, a => wp1 P ops C sp p.1 p.2 (wpO P ops C sp Lq t) σ a ∧ wp1 P ops C sp q.1 q.2 (wpO P ops C sp Lq u) σ a
theorem headO_lex {hd tl : List Nat} {Lq : List Value → Act → Prop} (hsel : Region.noSelect ops = true)
    (hcov : ∀ i, i < ops.size → i ∈ hd ∨ i ∈ tl) (hanc : ∀ t ∈ tl, ∀ i ∈ hd, i ∈ ancsOf ops ops.size t) (hdis : ∀ t ∈ tl, t ∉ hd) :
    ∀ (t : OT Nat) (lh : OT (Nat × Oper)) (listed : Array Bool) (σ : List Value) (a : Act), t.allB (fun i => hd.contains i) = true → t.fit ops lh → ClosedL ops listed → headOB ops sp tl t listed = true →
      wpO P ops C sp Lq lh σ a → headS P ops C sp hd (fun listed' σ' a' => tailB ops tl listed' = true ∧ Lq σ' a') t.path.length listed σ a
  | .nil, lh, listed, σ, a, _, hf, _, hB, hq => by
    cases lh with
    | nil => exact ⟨by simpa [headOB] using hB, hq⟩
    | one => exact hf.elim
    | two => exact hf.elim
  | .one i t, lh, listed, σ, a, hin, hf, hcl, hB, hq => by
    cases lh with
    | nil => exact hf.elim
    | two => exact hf.elim
    | one p u =>
      obtain ⟨i', o⟩ := p
      obtain ⟨hi, h0, hf⟩ := hf
      dsimp only at hi h0
      subst hi
      simp only [OT.allB, Bool.and_eq_true, List.contains_iff_mem] at hin
      simp only [headOB, Bool.and_eq_true] at hB
      have rec_ := fun σ a (hk : wpO P ops C sp Lq u σ a) (hr : i' ∈ Region.ready .any ops listed) => headO_lex hsel hcov hanc hdis t u _ σ a hin.2 hf (hcl.set hr) hB.2 hk
      cases hs : sp i' with
      | true =>
        rw [hs] at hB
        have hr : Region.ready .any ops listed = [i'] := by simpa using hB.1
        exact headS_alone h0 hin.1 hr hq (fun σ a hk => rec_ σ a hk (by rw [hr]; simp))
      | false =>
        rw [hs] at hB
        simp only [Bool.and_eq_true] at hB
        have hr : i' ∈ Region.ready .any ops listed := by simpa using hB.1.1
        exact headS_plain hsel hcov hanc hdis h0 hs hin.1 hcl hr hB.1.2 hq (fun σ a hk => rec_ σ a hk hr)
  | .two i t j u, lh, listed, σ, a, hin, hf, hcl, hB, hq => by
    cases lh with
    | nil => exact hf.elim
    | one => exact hf.elim
    | two p t' q u' =>
      obtain ⟨i', o⟩ := p
      obtain ⟨j', o'⟩ := q
      obtain ⟨hi, h0, hf, hj, h1, hf'⟩ := hf
      dsimp only at hi h0 hj h1
      subst hi hj
      simp only [OT.allB, Bool.and_eq_true, List.contains_iff_mem] at hin
      simp only [headOB, Bool.and_eq_true, decide_eq_true_eq] at hB
      obtain ⟨⟨⟨hr, hlen⟩, hB1⟩, hB2⟩ := hB
      have hi : i' ∈ Region.ready .any ops listed := by rw [hr]; simp
      have hj : j' ∈ Region.ready .any ops listed := by rw [hr]; simp
      refine ⟨by rw [hr]; simp, fun k hk => ?_⟩
      rw [hr] at hk
      simp only [List.mem_cons, List.not_mem_nil, or_false] at hk
      refine ⟨hk.elim (fun e => e ▸ hin.1.1.1) (fun e => e ▸ hin.1.2), ?_⟩
      by_cases hki : k = i'
      · subst hki
        exact sOp_of_wp1 h0 (fun σ a hk => headO_lex hsel hcov hanc hdis t t' _ σ a hin.1.1.2 hf (hcl.set hi) hB1 hk) hq.1
      · obtain rfl : k = j' := hk.elim (fun e => absurd e hki) id
        refine sOp_of_wp1 h1 (fun σ a hk => ?_) hq.2
        have := headO_lex hsel hcov hanc hdis u u' _ σ a hin.2 hf' (hcl.set hj) hB2 hk
        rw [← hlen] at this
        exact this
theorem wp_region_tree {ro : Option Nat} {id : Nat} {Q : Exit → Act → World → Prop} {a : Act} {w : World} {l : List Oper} (t : OT Nat) (tl : List Nat) (lh : OT (Nat × Oper)) (lt : List Oper) (hnd : (l.all fun o => !isDefer o.op) = true) (hm : P.follows .mixedOrders = true)
    (hB : orderOB l.toArray sp t tl = true) (hh : t.fit l.toArray lh) (ht : tl.map (l.toArray[·]?) = lt.map some) (hC : C [] w.drew)
    (h : wpO P l.toArray C sp (fun σ a' => ∀ w', C σ w' → wpListIn (wF ro) 0 P l.toArray Q lt a' w') lh [] a) : (Code.region id l.toArray true).wpIn (wF ro) 0 P Q a w := by
  simp only [orderOB, Bool.and_eq_true, decide_eq_true_eq] at hB
  obtain ⟨⟨⟨⟨⟨⟨hsel, hlen⟩, hcov⟩, hall⟩, hanc⟩, hdis⟩, hhd⟩ := hB
  have H := headO_lex (P := P) (C := C) (sp := sp) (Lq := fun σ a' => ∀ w', C σ w' → wpListIn (wF ro) 0 P l.toArray Q lt a' w') (hd := t.path) (tl := tl) hsel
    (fun i hi => by have := List.all_eq_true.1 hcov i (List.mem_range.2 hi); simpa using this)
    (fun t htl i hi => by have := List.all_eq_true.1 (List.all_eq_true.1 hanc t htl) i hi; simpa using this)
    (fun t htl => by have := List.all_eq_true.1 hdis t htl; simpa using this)
    t lh (Array.replicate l.toArray.size false) [] a hall hh
    (fun i hi => by
      have h0 : ∀ m j : Nat, (Array.replicate m false).getD j false = false := fun m j => by
        rcases Nat.lt_or_ge j m with h' | h'
        · simp [h']
        · simp [h']
      rw [h0] at hi
      cases hi) hhd h
  refine wpIn_region_any hm ?_
  have := wpAny_of_headS (Q' := Q) (ro := ro) (by simpa using hnd) (g := tl.length) (fun listed σ a' w' hw' hL => wpAnyIn_of_tail tl lt listed a' w' ht hL.1 (hL.2 w' hw')) _ _ _ _ _ hC H
  rw [hlen] at this
  exact this
/-- the same over a frame that is a function -/
def RO (P : Program) (ops : Array Oper) (C : List Value → World → Prop) (sp : Nat → Bool) (Q : List Value → (Nat → Value) → Prop) : OT (Nat × Oper) → List Value → (Nat → Value) → Prop
  | .nil, σ, e => Q σ e
  | .one p t, σ, e => R1P P ops C sp p.1 p.2 (RO P ops C sp Q t) σ e
  | .two p t q u, σ, e => R1P P ops C sp p.1 p.2 (RO P ops C sp Q t) σ e ∧ R1P P ops C sp q.1 q.2 (RO P ops C sp Q u) σ e
def OT.dstB (N : Nat) : OT (Nat × Oper) → Bool
  | .nil => true
  | .one p t => dstOk N p.2.dst && t.dstB N
  | .two p t q u => dstOk N p.2.dst && t.dstB N && dstOk N q.2.dst && u.dstB N
theorem wpO_of_RO {N : Nat} {df : List Deferred} {Q : List Value → (Nat → Value) → Prop} {Q' : List Value → Act → Prop} (hQ : ∀ σ e a, Rep N df e a → Q σ e → Q' σ a) :
    ∀ (t : OT (Nat × Oper)) (σ : List Value) (e : Nat → Value) (a : Act), t.dstB N = true → Rep N df e a → RO P ops C sp Q t σ e → wpO P ops C sp Q' t σ a
  | .nil, σ, e, a, _, hr, h => hQ σ e a hr h
  | .one p t, σ, e, a, hd, hr, h => by
    simp only [OT.dstB, Bool.and_eq_true] at hd
    exact wp1_of_R1P hd.1 hr (fun σ e a hr h => wpO_of_RO hQ t σ e a hd.2 hr h) h
  | .two p t q u, σ, e, a, hd, hr, h => by
    simp only [OT.dstB, Bool.and_eq_true] at hd
    exact ⟨wp1_of_R1P hd.1.1.1 hr (fun σ e a hr h => wpO_of_RO hQ t σ e a hd.1.1.2 hr h) h.1, wp1_of_R1P hd.1.2 hr (fun σ e a hr h => wpO_of_RO hQ u σ e a hd.2 hr h) h.2⟩
theorem fit_dst {N : Nat} {l : List Oper} (hk : (l.all fun o => dstOk N o.dst) = true) : ∀ (t : OT Nat) (lh : OT (Nat × Oper)), t.fit l.toArray lh → lh.dstB N = true
  | .nil, .nil, _ => rfl
  | .one i t, .one p u, h => by
    simp only [OT.dstB, Bool.and_eq_true]
    exact ⟨List.all_eq_true.1 hk p.2 (List.mem_of_getElem? (by simpa using h.2.1)), fit_dst hk t u h.2.2⟩
  | .two i t j u, .two p t' q u', h => by
    simp only [OT.dstB, Bool.and_eq_true]
    exact ⟨⟨⟨List.all_eq_true.1 hk p.2 (List.mem_of_getElem? (by simpa using h.2.1)), fit_dst hk t t' h.2.2.1⟩, List.all_eq_true.1 hk q.2 (List.mem_of_getElem? (by simpa using h.2.2.2.2.1))⟩, fit_dst hk u u' h.2.2.2.2.2⟩
  | .nil, .one _ _, h => h.elim
  | .nil, .two _ _ _ _, h => h.elim
  | .one _ _, .nil, h => h.elim
  | .one _ _, .two _ _ _ _, h => h.elim
  | .two _ _ _ _, .nil, h => h.elim
  | .two _ _ _ _, .one _ _, h => h.elim
theorem cw_tree {N : Nat} {Q : Exit → (Nat → Value) → World → Prop} {e : Nat → Value} {w : World} {id : Nat} {l : List Oper} (sp : List Nat) (t : OT Nat) (tl : List Nat) (hm : P.follows .mixedOrders = true)
    (hB : (orderOB l.toArray (fun i => sp.contains i) t tl && (t.allB fun i => decide (i < l.length)) && (tl.all fun i => decide (i < l.length))) = true) (hC : C [] w.drew)
    (h : RO P l.toArray C (fun i => sp.contains i) (fun σ e' => ∀ w', C σ w' → RW P l.toArray (fun e w => Q .normal e w) (pickL l tl) e' w') (pickO l t) [] e) : CW P N (.region id l.toArray true) Q e w := fun hk df a hr ro => by
  simp only [Bool.and_eq_true] at hB
  simp only [codeOk, Bool.and_eq_true] at hk
  have hsub : ((pickL l tl).all fun o => dstOk N o.dst) = true := by
    have h1 := pickL_map l tl hB.2
    refine List.all_eq_true.2 fun o ho => ?_
    have h2 : some o ∈ (pickL l tl).map some := List.mem_map.2 ⟨o, ho, rfl⟩
    rw [← h1] at h2
    obtain ⟨i, _, hi⟩ := List.mem_map.1 h2
    have h3 : l[i]? = some o := by simpa using hi
    exact List.all_eq_true.1 hk.1 o (List.mem_of_getElem? h3)
  have hsubd : ∀ is : List Nat, (is.all fun i => decide (i < l.length)) = true → ((pickL l is).all fun o => !isDefer o.op) = true := fun is his => by
    have h1 := pickL_map l is his
    refine List.all_eq_true.2 fun o ho => ?_
    have h2 : some o ∈ (pickL l is).map some := List.mem_map.2 ⟨o, ho, rfl⟩
    rw [← h1] at h2
    obtain ⟨i, _, hi⟩ := List.mem_map.1 h2
    have h3 : l[i]? = some o := by simpa using hi
    exact List.all_eq_true.1 hk.2 o (List.mem_of_getElem? h3)
  have hfit := pickO_fit l t hB.1.2
  refine wp_region_tree (C := C) t tl _ _ hk.2 hm hB.1.1 hfit (pickL_map l tl hB.2) hC ?_
  exact wpO_of_RO (fun σ e' a' hr' hq w' hw' => wpList_of_RW (fun e a w hr h => ⟨e, hr, h⟩) _ e' a' w' hsub (hsubd tl hB.2) hr' (hq w' hw')) _ [] e a (fit_dst hk.1 t _ hfit) hr h
variable {Qs : List Value → (Nat → Value) → Prop} {σ : List Value} {e : Nat → Value}
theorem ro_one {p : Nat × Oper} {t : OT (Nat × Oper)} (h : RS P ops C sp (fun σ e => RO P ops C sp Qs t σ e) [p] σ e) : RO P ops C sp Qs (.one p t) σ e := h
theorem ro_two {p q : Nat × Oper} {t u : OT (Nat × Oper)} (h1 : RS P ops C sp (fun σ e => RO P ops C sp Qs t σ e) [p] σ e) (h2 : RS P ops C sp (fun σ e => RO P ops C sp Qs u σ e) [q] σ e) : RO P ops C sp Qs (.two p t q u) σ e := ⟨h1, h2⟩
theorem ro_nil (h : Qs σ e) : RO P ops C sp Qs .nil σ e := h
end
end Go.Proofs.Yteihfmifelcidaa

namespace Go.Proofs.Yteihfmifelcidaa.TI
open Go.RowKit
set_option linter.unusedVariables false
set_option linter.unusedSimpArgs false
section
variable {P : Program} {ops : Array Oper} {C : List (Nat × Value) → World → Prop} {sp : Nat → Bool}
/-- Operation number i comes up in state 'a', the special ones so far having yielded σ. -/
def sOp (P : Program) (ops : Array Oper) (C : List (Nat × Value) → World → Prop) (sp : Nat → Bool) (i : Nat) (K : List (Nat × Value) → Act → Prop) (σ : List (Nat × Value)) (a : Act) : Prop :=
  match ops[i]? with
  | none => K σ a
  | some o =>
    if Region.wanted o (yielded ops a.tmps) then
      match sp i with
      | true => (∀ w, C σ w → yieldsTo P o a w fun v w' => C ((i, v) :: σ) w') ∧ ∀ v w', C ((i, v) :: σ) w' → K ((i, v) :: σ) (a.put o.dst v)
      | false => ∃ v, (∀ τ w, C τ w → yieldsTo P o a w fun u w' => u = v ∧ C τ w') ∧ K σ (a.put o.dst v)
    else K σ (a.put o.dst undef)
theorem sOp_mono {i : Nat} {a : Act} {σ : List (Nat × Value)} {K K' : List (Nat × Value) → Act → Prop} (h : ∀ σ a, K σ a → K' σ a) (hh : sOp P ops C sp i K σ a) : sOp P ops C sp i K' σ a := by
  unfold sOp at *
  split
  · rename_i ho; rw [ho] at hh; exact h _ _ hh
  · rename_i o ho
    rw [ho] at hh
    dsimp only at hh
    split
    · rename_i hw
      rw [if_pos hw] at hh
      cases hs : sp i with
      | true => rw [hs] at hh; exact ⟨hh.1, fun v w' hv => h _ _ (hh.2 v w' hv)⟩
      | false => rw [hs] at hh; exact ⟨hh.choose, hh.choose_spec.1, h _ _ hh.choose_spec.2⟩
    · rename_i hw; rw [if_neg hw] at hh; exact h _ _ hh
theorem wpOp_of_sOp {ro : Option Nat} (hnd : (ops.toList.all fun o => !isDefer o.op) = true) {i : Nat} {a : Act} {σ : List (Nat × Value)} {w : World} {K : List (Nat × Value) → Act → Prop} {K' : Act → World → Prop} {Q' : Exit → Act → World → Prop} (hw : C σ w) (h : ∀ σ a w', C σ w' → K σ a → K' a w') (hh : sOp P ops C sp i K σ a) : wpOpIn (wF ro) 0 P ops Q' i K' a w := by
  unfold sOp at hh
  unfold wpOpIn
  split
  · rename_i ho; rw [ho] at hh; exact h _ _ _ hw hh
  · rename_i o ho
    rw [ho] at hh
    dsimp only at hh
    split
    · rename_i hwn
      rw [if_pos hwn] at hh
      refine Oper.wpIn_of_wp (not_defer_at hnd ho) ?_
      cases hs : sp i with
      | true => rw [hs] at hh; exact wp_of_yieldsTo (hh.1 w hw) fun v w' hv => h _ _ _ hv (hh.2 v w' hv)
      | false =>
        rw [hs] at hh
        obtain ⟨v, h1, h2⟩ := hh
        exact wp_of_yieldsTo (h1 σ w hw) fun u w' ⟨hu, hc⟩ => by subst hu; exact h _ _ _ hc h2
    · rename_i hwn; rw [if_neg hwn] at hh; exact ⟨fun _ _ => trivial, h _ _ _ hw hh⟩

def headS (P : Program) (ops : Array Oper) (C : List (Nat × Value) → World → Prop) (sp : Nat → Bool) (hd : List Nat) (L : Array Bool → List (Nat × Value) → Act → Prop) : Nat → Array Bool → List (Nat × Value) → Act → Prop
  | 0, listed, σ, a => L listed σ a
  | f + 1, listed, σ, a => Region.ready .any ops listed ≠ [] ∧ ∀ i ∈ Region.ready .any ops listed, i ∈ hd ∧ sOp P ops C sp i (headS P ops C sp hd L f (listed.setIfInBounds i true)) σ a
theorem wpAny_of_headS {ro : Option Nat} (hnd : (ops.toList.all fun o => !isDefer o.op) = true) {hd : List Nat} {L : Array Bool → List (Nat × Value) → Act → Prop} {Q' : Exit → Act → World → Prop} {g : Nat} (hL : ∀ listed σ a w, C σ w → L listed σ a → wpAnyIn (wF ro) 0 P .any ops Q' g listed a w) :
    ∀ (f : Nat) (listed : Array Bool) (σ : List (Nat × Value)) (a : Act) (w : World), C σ w → headS P ops C sp hd L f listed σ a → wpAnyIn (wF ro) 0 P .any ops Q' (f + g) listed a w
  | 0, listed, σ, a, w, hw, h => by rw [Nat.zero_add]; exact hL _ _ _ _ hw h
  | f + 1, listed, σ, a, w, hw, h => by
    rw [show f + 1 + g = (f + g) + 1 by omega]
    exact ⟨fun h0 => absurd h0 h.1, fun i hi => wpOp_of_sOp hnd hw (fun σ a' w' hw' h' => wpAny_of_headS hnd hL f _ σ a' w' hw' h') (h.2 i hi).2⟩

/-- A plain operation yields v, whatever the class. -/
def YieldsS (P : Program) (ops : Array Oper) (C : List (Nat × Value) → World → Prop) (o : Oper) (v : Value) (a : Act) : Prop :=
  (Region.wanted o (yielded ops a.tmps) = true ∧ ∀ τ w, C τ w → yieldsTo P o a w fun u w' => u = v ∧ C τ w') ∨
  (Region.wanted o (yielded ops a.tmps) = false ∧ v = undef)
theorem YieldsS.sOp {i : Nat} {o : Oper} {v : Value} {a : Act} {σ : List (Nat × Value)} (hi : ops[i]? = some o) (hs : sp i = false) (hy : YieldsS P ops C o v a) {K : List (Nat × Value) → Act → Prop} (h : K σ (a.put o.dst v)) : sOp P ops C sp i K σ a := by
  unfold Go.Proofs.Yteihfmifelcidaa.TI.sOp
  rw [hi]
  dsimp only
  rcases hy with ⟨hw, hv⟩ | ⟨hw, rfl⟩
  · rw [if_pos hw, hs]; exact ⟨v, hv, h⟩
  · rw [if_neg (by simp [hw])]; exact h
theorem YieldsS.of_same {o : Oper} {v : Value} {a a' : Act} (hy : YieldsS P ops C o v a) (he : execOp a'.eval o = execOp a.eval o)
    (hw : Region.wanted o (yielded ops a'.tmps) = Region.wanted o (yielded ops a.tmps)) : YieldsS P ops C o v a' := by
  unfold YieldsS yieldsTo at *
  rw [he, hw]
  exact hy
theorem sOp_put {j : Nat} {oi oj : Oper} {v : Value} {σ : List (Nat × Value)} (hj : ops[j]? = some oj) (hap : oi.apart ops oj = true)
    (hsi : ∀ cs b, oi.op ≠ .select cs b) (hsj : ∀ cs b, oj.op ≠ .select cs b) {K : List (Nat × Value) → Act → Prop} {a : Act}
    (hy : YieldsS P ops C oi v a) (h : sOp P ops C sp j K σ (a.put oi.dst v)) :
    sOp P ops C sp j (fun σ' a' => YieldsS P ops C oi v a' ∧ K σ' (a'.put oi.dst v)) σ a := by
  obtain ⟨h1, h2, h3⟩ := Oper.apart_spec hap
  have keep : ∀ u, YieldsS P ops C oi v (a.put oj.dst u) := fun u => hy.of_same (execOp_put oi hsi a oj.dst u h3) (wanted_put oi a oj.dst u h3)
  unfold sOp at *
  rw [hj] at h ⊢
  dsimp only at h ⊢
  rw [wanted_put oj a oi.dst v h1] at h
  split
  · rename_i hw
    rw [if_pos hw] at h
    cases hs : sp j with
    | true =>
      rw [hs] at h
      refine ⟨fun w hC => ?_, fun u w' hC => ⟨keep u, by rw [← Act.put_comm a v u h2]; exact h.2 u w' hC⟩⟩
      have := h.1 w hC
      unfold yieldsTo at *
      rwa [execOp_put oj hsj a oi.dst v h1] at this
    | false =>
      rw [hs] at h
      obtain ⟨u, hu, hn⟩ := h
      refine ⟨u, fun τ w hC => ?_, keep u, by rw [← Act.put_comm a v u h2]; exact hn⟩
      have := hu τ w hC
      unfold yieldsTo at *
      rwa [execOp_put oj hsj a oi.dst v h1] at this
  · rename_i hw
    rw [if_neg hw] at h
    exact ⟨keep _, by rw [← Act.put_comm a v undef h2]; exact h⟩

theorem headS_first {hd : List Nat} {L : Array Bool → List (Nat × Value) → Act → Prop} {i : Nat} {oi : Oper} {v : Value} (hi : ops[i]? = some oi) (hspi : sp i = false)
    (hsel : ∀ (j : Nat) (o : Oper) cs b, ops[j]? = some o → o.op ≠ .select cs b)
    (hhd : ∀ (listed : Array Bool), ClosedL ops listed → listed.getD i true = false → ∀ j ∈ Region.ready .any ops listed, j ∈ hd)
    (hdone : ∀ listed σ a, L listed σ a → ∀ j ∈ Region.ready .any ops listed, j ∉ hd) :
    ∀ (f : Nat) (listed : Array Bool) (σ : List (Nat × Value)) (a : Act), ClosedL ops listed →
      (∀ j oj, ops[j]? = some oj → j ≠ i → listed.getD j true = false → (∀ e ∈ oj.after, Region.binds .any e = true → e.on ≠ i) → oi.apart ops oj = true) →
      i ∈ Region.ready .any ops listed → YieldsS P ops C oi v a →
      headS P ops C sp hd L f (listed.setIfInBounds i true) σ (a.put oi.dst v) → headS P ops C sp hd L (f + 1) listed σ a := by
  intro f
  induction f with
  | zero =>
    intro listed σ a hcl _ hr hy H
    refine ⟨fun h => (by rw [h] at hr; cases hr), fun j hj => ?_⟩
    have hjh := hhd listed hcl (mem_ready.1 hr).1 j hj
    refine ⟨hjh, ?_⟩
    by_cases hji : j = i
    · subst hji; exact hy.sOp hi hspi H
    · exact absurd hjh (hdone _ _ _ H j (ready_mono hj hji))
  | succ f ih =>
    intro listed σ a hcl hfree hr hy H
    have hun := (mem_ready.1 hr).1
    refine ⟨fun h => (by rw [h] at hr; cases hr), fun j hj => ?_⟩
    refine ⟨hhd listed hcl hun j hj, ?_⟩
    by_cases hji : j = i
    · subst hji; exact hy.sOp hi hspi H
    · have h1 := (H.2 j (ready_mono hj hji)).2
      obtain ⟨hjun, oj, hoj, hall⟩ := mem_ready.1 hj
      have hnot : ∀ e ∈ oj.after, Region.binds .any e = true → e.on ≠ i := fun e he hb heq => by
        have h2 := hall e he hb
        rw [heq] at h2
        rcases Nat.lt_or_ge i listed.size with h' | h'
        · simp [h'] at hun h2; rw [hun] at h2; cases h2
        · simp [Array.getElem?_eq_none h'] at h2
      have h2 := sOp_put hoj (hfree j oj hoj hji hjun hnot) (fun cs b => hsel i oi cs b hi) (fun cs b => hsel j oj cs b hoj) hy h1
      have hfree' : ∀ k ok, ops[k]? = some ok → k ≠ i → (listed.setIfInBounds j true).getD k true = false →
          (∀ e ∈ ok.after, Region.binds .any e = true → e.on ≠ i) → oi.apart ops ok = true := fun k ok hk hki hun' hno => by
        refine hfree k ok hk hki ?_ hno
        by_cases hjk : j = k
        · subst hjk; exact hjun
        · rw [getD_set_ne true hjk] at hun'; exact hun'
      refine sOp_mono (fun σ' a' h3 => ih (listed.setIfInBounds j true) σ' a' (hcl.set hj) hfree' (ready_mono hr (Ne.symm hji)) h3.1 ?_) h2
      rw [Array.setIfInBounds_comm _ _ hji]
      exact h3.2

/-- one step of the walk -/
def wp1 (P : Program) (ops : Array Oper) (C : List (Nat × Value) → World → Prop) (sp : Nat → Bool) (i : Nat) (o : Oper) (K : List (Nat × Value) → Act → Prop) (σ : List (Nat × Value)) (a : Act) : Prop :=
  if Region.wanted o (yielded ops a.tmps) then
    match sp i with
    | true => (∀ w, C σ w → yieldsTo P o a w fun v w' => C ((i, v) :: σ) w') ∧ ∀ v w', C ((i, v) :: σ) w' → K ((i, v) :: σ) (a.put o.dst v)
    | false => ∃ v, (∀ τ w, C τ w → yieldsTo P o a w fun u w' => u = v ∧ C τ w') ∧ K σ (a.put o.dst v)
  else K σ (a.put o.dst undef)
theorem sOp_of_wp1 {i : Nat} {o : Oper} {K K' : List (Nat × Value) → Act → Prop} {σ : List (Nat × Value)} {a : Act} (h0 : ops[i]? = some o) (hK : ∀ σ a, K σ a → K' σ a) (h : wp1 P ops C sp i o K σ a) : sOp P ops C sp i K' σ a := by
  refine sOp_mono hK ?_
  unfold sOp
  rw [h0]
  exact h
/-- a plain step, moved ahead of all -/
theorem headS_plain {hd tl : List Nat} {Lq : List (Nat × Value) → Act → Prop} (hsel : Region.noSelect ops = true)
    (hcov : ∀ i, i < ops.size → i ∈ hd ∨ i ∈ tl) (hanc : ∀ t ∈ tl, ∀ i ∈ hd, i ∈ ancsOf ops ops.size t) (hdis : ∀ t ∈ tl, t ∉ hd)
    {i : Nat} {o : Oper} {f : Nat} {listed : Array Bool} {σ : List (Nat × Value)} {a : Act} (h0 : ops[i]? = some o) (hs : sp i = false) (hin : i ∈ hd) (hcl : ClosedL ops listed) (hr : i ∈ Region.ready .any ops listed) (hf : Region.free .any ops listed i = true)
    {K : List (Nat × Value) → Act → Prop} (hq : wp1 P ops C sp i o K σ a) (rec_ : ∀ σ a, K σ a → headS P ops C sp hd (fun listed' σ' a' => tailB ops tl listed' = true ∧ Lq σ' a') f (listed.setIfInBounds i true) σ a) :
    headS P ops C sp hd (fun listed' σ' a' => tailB ops tl listed' = true ∧ Lq σ' a') (f + 1) listed σ a := by
  unfold wp1 at hq
  rw [hs] at hq
  have hy : ∃ v, YieldsS P ops C o v a ∧ K σ (a.put o.dst v) := by
    by_cases hw : Region.wanted o (yielded ops a.tmps) = true
    · rw [if_pos hw] at hq
      obtain ⟨v, h1, h2⟩ := hq
      exact ⟨v, .inl ⟨hw, h1⟩, h2⟩
    · rw [if_neg hw] at hq
      exact ⟨undef, .inr ⟨by simpa using hw, rfl⟩, hq⟩
  obtain ⟨v, hy, hK⟩ := hy
  refine headS_first h0 hs (Region.noSelect_spec hsel) ?_ ?_ f listed σ a hcl (Region.free_spec h0 hf) hr hy (rec_ _ _ hK)
  · intro listed' hcl' hun j hj
    obtain ⟨_, oj, hoj, _⟩ := mem_ready.1 hj
    have hjs : j < ops.size := (Array.getElem?_eq_some_iff.1 hoj).1
    rcases hcov j hjs with hh | hh
    · exact hh
    · have hl1 := ancs_listed hcl' ops.size j (preds_ready hj) i (hanc j hh i hin)
      rcases Nat.lt_or_ge i listed'.size with h' | h'
      · simp [h'] at hun hl1; rw [hun] at hl1; cases hl1
      · simp [Array.getElem?_eq_none h'] at hl1
  · intro listed' σ' a' hL j hj hjh
    have hB := hL.1
    cases htl : tl with
    | nil => simp only [htl, tailB, List.isEmpty_iff] at hB; rw [hB] at hj; cases hj
    | cons t tl' =>
      simp only [htl, tailB, Bool.and_eq_true, decide_eq_true_eq] at hB
      rw [hB.1] at hj
      have : j = t := by simpa using hj
      subst this
      exact hdis j (by simp [htl]) hjh
/-- a special step, alone -/
theorem headS_alone {hd : List Nat} {L : Array Bool → List (Nat × Value) → Act → Prop} {i : Nat} {o : Oper} {f : Nat} {listed : Array Bool} {σ : List (Nat × Value)} {a : Act} (h0 : ops[i]? = some o) (hin : i ∈ hd) (hr : Region.ready .any ops listed = [i])
    {K : List (Nat × Value) → Act → Prop} (hq : wp1 P ops C sp i o K σ a) (rec_ : ∀ σ a, K σ a → headS P ops C sp hd L f (listed.setIfInBounds i true) σ a) : headS P ops C sp hd L (f + 1) listed σ a := by
  refine ⟨by rw [hr]; simp, fun j hj => ?_⟩
  rw [hr] at hj
  obtain rfl : j = i := by simpa using hj
  exact ⟨hin, sOp_of_wp1 h0 rec_ hq⟩
def headOB (ops : Array Oper) (sp : Nat → Bool) (tl : List Nat) : OT Nat → Array Bool → Bool
  | .nil, listed => tailB ops tl listed
  | .one i t, listed => (match sp i with
    | true => decide (Region.ready .any ops listed = [i])
    | false => (Region.ready .any ops listed).contains i && Region.free .any ops listed i) && headOB ops sp tl t (listed.setIfInBounds i true)
  | .two i t j u, listed => decide (Region.ready .any ops listed = [i, j]) && decide (t.path.length = u.path.length) && headOB ops sp tl t (listed.setIfInBounds i true) && headOB ops sp tl u (listed.setIfInBounds j true)
def orderOB (ops : Array Oper) (sp : Nat → Bool) (t : OT Nat) (tl : List Nat) : Bool :=
  Region.noSelect ops && decide (t.path.length + tl.length = ops.size) && ((List.range ops.size).all fun i => t.path.contains i || tl.contains i) && t.allB (fun i => t.path.contains i) &&
  (tl.all fun x => t.path.all fun i => (ancsOf ops ops.size x).contains i) && (tl.all fun x => !t.path.contains x) && headOB ops sp tl t (Array.replicate ops.size false)
def wpO (P : Program) (ops : Array Oper) (C : List (Nat × Value) → World → Prop) (sp : Nat → Bool) (Lq : List (Nat × Value) → Act → Prop) : OT (Nat × Oper) → List (Nat × Value) → Act → Prop
  | .nil, σ, a => Lq σ a
  | .one p t, σ, a => wp1 P ops C sp p.1 p.2 (wpO P ops C sp Lq t) σ a
  | .two p t q u, σ, a => wp1 P ops C sp p.1 p.2 (wpO P ops C sp Lq t) σ a ∧ wp1 P ops C sp q.1 q.2 (wpO P ops C sp Lq u) σ a
theorem headO_lex {hd tl : List Nat} {Lq : List (Nat × Value) → Act → Prop} (hsel : Region.noSelect ops = true)
    (hcov : ∀ i, i < ops.size → i ∈ hd ∨ i ∈ tl) (hanc : ∀ t ∈ tl, ∀ i ∈ hd, i ∈ ancsOf ops ops.size t) (hdis : ∀ t ∈ tl, t ∉ hd) :
    ∀ (t : OT Nat) (lh : OT (Nat × Oper)) (listed : Array Bool) (σ : List (Nat × Value)) (a : Act), t.allB (fun i => hd.contains i) = true → t.fit ops lh → ClosedL ops listed → headOB ops sp tl t listed = true →
      wpO P ops C sp Lq lh σ a → headS P ops C sp hd (fun listed' σ' a' => tailB ops tl listed' = true ∧ Lq σ' a') t.path.length listed σ a
  | .nil, lh, listed, σ, a, _, hf, _, hB, hq => by
    cases lh with
    | nil => exact ⟨by simpa [headOB] using hB, hq⟩
    | one => exact hf.elim
    | two => exact hf.elim
  | .one i t, lh, listed, σ, a, hin, hf, hcl, hB, hq => by
    cases lh with
    | nil => exact hf.elim
    | two => exact hf.elim
    | one p u =>
      obtain ⟨i', o⟩ := p
      obtain ⟨hi, h0, hf⟩ := hf
      dsimp only at hi h0
      subst hi
      simp only [OT.allB, Bool.and_eq_true, List.contains_iff_mem] at hin
      simp only [headOB, Bool.and_eq_true] at hB
      have rec_ := fun σ a (hk : wpO P ops C sp Lq u σ a) (hr : i' ∈ Region.ready .any ops listed) => headO_lex hsel hcov hanc hdis t u _ σ a hin.2 hf (hcl.set hr) hB.2 hk
      cases hs : sp i' with
      | true =>
        rw [hs] at hB
        have hr : Region.ready .any ops listed = [i'] := by simpa using hB.1
        exact headS_alone h0 hin.1 hr hq (fun σ a hk => rec_ σ a hk (by rw [hr]; simp))
      | false =>
        rw [hs] at hB
        simp only [Bool.and_eq_true] at hB
        have hr : i' ∈ Region.ready .any ops listed := by simpa using hB.1.1
        exact headS_plain hsel hcov hanc hdis h0 hs hin.1 hcl hr hB.1.2 hq (fun σ a hk => rec_ σ a hk hr)
  | .two i t j u, lh, listed, σ, a, hin, hf, hcl, hB, hq => by
    cases lh with
    | nil => exact hf.elim
    | one => exact hf.elim
    | two p t' q u' =>
      obtain ⟨i', o⟩ := p
      obtain ⟨j', o'⟩ := q
      obtain ⟨hi, h0, hf, hj, h1, hf'⟩ := hf
      dsimp only at hi h0 hj h1
      subst hi hj
      simp only [OT.allB, Bool.and_eq_true, List.contains_iff_mem] at hin
      simp only [headOB, Bool.and_eq_true, decide_eq_true_eq] at hB
      obtain ⟨⟨⟨hr, hlen⟩, hB1⟩, hB2⟩ := hB
      have hi : i' ∈ Region.ready .any ops listed := by rw [hr]; simp
      have hj : j' ∈ Region.ready .any ops listed := by rw [hr]; simp
      refine ⟨by rw [hr]; simp, fun k hk => ?_⟩
      rw [hr] at hk
      simp only [List.mem_cons, List.not_mem_nil, or_false] at hk
      refine ⟨hk.elim (fun e => e ▸ hin.1.1.1) (fun e => e ▸ hin.1.2), ?_⟩
      by_cases hki : k = i'
      · subst hki
        exact sOp_of_wp1 h0 (fun σ a hk => headO_lex hsel hcov hanc hdis t t' _ σ a hin.1.1.2 hf (hcl.set hi) hB1 hk) hq.1
      · obtain rfl : k = j' := hk.elim (fun e => absurd e hki) id
        refine sOp_of_wp1 h1 (fun σ a hk => ?_) hq.2
        have := headO_lex hsel hcov hanc hdis u u' _ σ a hin.2 hf' (hcl.set hj) hB2 hk
        rw [← hlen] at this
        exact this
theorem wp_region_tree {ro : Option Nat} {id : Nat} {Q : Exit → Act → World → Prop} {a : Act} {w : World} {l : List Oper} (t : OT Nat) (tl : List Nat) (lh : OT (Nat × Oper)) (lt : List Oper) (hnd : (l.all fun o => !isDefer o.op) = true) (hm : P.follows .mixedOrders = true)
    (hB : orderOB l.toArray sp t tl = true) (hh : t.fit l.toArray lh) (ht : tl.map (l.toArray[·]?) = lt.map some) (hC : C [] w.drew)
    (h : wpO P l.toArray C sp (fun σ a' => ∀ w', C σ w' → wpListIn (wF ro) 0 P l.toArray Q lt a' w') lh [] a) : (Code.region id l.toArray true).wpIn (wF ro) 0 P Q a w := by
  simp only [orderOB, Bool.and_eq_true, decide_eq_true_eq] at hB
  obtain ⟨⟨⟨⟨⟨⟨hsel, hlen⟩, hcov⟩, hall⟩, hanc⟩, hdis⟩, hhd⟩ := hB
  have H := headO_lex (P := P) (C := C) (sp := sp) (Lq := fun σ a' => ∀ w', C σ w' → wpListIn (wF ro) 0 P l.toArray Q lt a' w') (hd := t.path) (tl := tl) hsel
    (fun i hi => by have := List.all_eq_true.1 hcov i (List.mem_range.2 hi); simpa using this)
    (fun t htl i hi => by have := List.all_eq_true.1 (List.all_eq_true.1 hanc t htl) i hi; simpa using this)
    (fun t htl => by have := List.all_eq_true.1 hdis t htl; simpa using this)
    t lh (Array.replicate l.toArray.size false) [] a hall hh
    (fun i hi => by
      have h0 : ∀ m j : Nat, (Array.replicate m false).getD j false = false := fun m j => by
        rcases Nat.lt_or_ge j m with h' | h'
        · simp [h']
        · simp [h']
      rw [h0] at hi
      cases hi) hhd h
  refine wpIn_region_any hm ?_
  have := wpAny_of_headS (Q' := Q) (ro := ro) (by simpa using hnd) (g := tl.length) (fun listed σ a' w' hw' hL => wpAnyIn_of_tail tl lt listed a' w' ht hL.1 (hL.2 w' hw')) _ _ _ _ _ hC H
  rw [hlen] at this
  exact this
def R1P (P : Program) (ops : Array Oper) (C : List (Nat × Value) → World → Prop) (sp : Nat → Bool) (i : Nat) (o : Oper) (K : List (Nat × Value) → (Nat → Value) → Prop) (σ : List (Nat × Value)) (e : Nat → Value) : Prop :=
  if wE ops e o = true then
    match sp i with
    | true => (∀ w, C σ w → opTo P e o w fun v w' => C ((i, v) :: σ) w') ∧ ∀ v w', C ((i, v) :: σ) w' → K ((i, v) :: σ) (updO e o.dst v)
    | false => ∃ v, (∀ τ w, C τ w → opTo P e o w fun u w' => u = v ∧ C τ w') ∧ K σ (updO e o.dst v)
  else K σ (updO e o.dst undef)
theorem wp1_of_R1P {N : Nat} {df : List Deferred} {i : Nat} {o : Oper} {K : List (Nat × Value) → (Nat → Value) → Prop} {K' : List (Nat × Value) → Act → Prop} {σ : List (Nat × Value)} {e : Nat → Value} {a : Act} (hd : dstOk N o.dst = true) (hr : Rep N df e a)
    (hK : ∀ σ e a, Rep N df e a → K σ e → K' σ a) (h : R1P P ops C sp i o K σ e) : wp1 P ops C sp i o K' σ a := by
  unfold wp1
  unfold R1P at h
  rw [hr.wanted]
  have hto : ∀ w R, opTo P e o w R → yieldsTo P o a w R := fun w R hh => by unfold yieldsTo; rw [hr.eval]; exact hh
  split
  · rename_i hw
    rw [if_pos hw] at h
    cases hs : sp i with
    | true =>
      rw [hs] at h
      exact ⟨fun w hC => hto _ _ (h.1 w hC), fun v w' hC => hK _ _ _ (hr.put hd v) (h.2 v w' hC)⟩
    | false =>
      rw [hs] at h
      obtain ⟨v, h1, h2⟩ := h
      exact ⟨v, fun τ w hC => hto _ _ (h1 τ w hC), hK _ _ _ (hr.put hd v) h2⟩
  · rename_i hw
    rw [if_neg hw] at h
    exact hK _ _ _ (hr.put hd undef) h
def RS (P : Program) (ops : Array Oper) (C : List (Nat × Value) → World → Prop) (sp : Nat → Bool) (Q : List (Nat × Value) → (Nat → Value) → Prop) : List (Nat × Oper) → List (Nat × Value) → (Nat → Value) → Prop
  | [], σ, e => Q σ e
  | (i, o) :: rest, σ, e =>
    if wE ops e o = true then
      match sp i with
      | true => (∀ w, C σ w → opTo P e o w fun v w' => C ((i, v) :: σ) w') ∧ ∀ v w', C ((i, v) :: σ) w' → RS P ops C sp Q rest ((i, v) :: σ) (updO e o.dst v)
      | false => ∃ v, (∀ τ w, C τ w → opTo P e o w fun u w' => u = v ∧ C τ w') ∧ RS P ops C sp Q rest σ (updO e o.dst v)
    else RS P ops C sp Q rest σ (updO e o.dst undef)
/-- the same over a frame that is a function -/
def RO (P : Program) (ops : Array Oper) (C : List (Nat × Value) → World → Prop) (sp : Nat → Bool) (Q : List (Nat × Value) → (Nat → Value) → Prop) : OT (Nat × Oper) → List (Nat × Value) → (Nat → Value) → Prop
  | .nil, σ, e => Q σ e
  | .one p t, σ, e => R1P P ops C sp p.1 p.2 (RO P ops C sp Q t) σ e
  | .two p t q u, σ, e => R1P P ops C sp p.1 p.2 (RO P ops C sp Q t) σ e ∧ R1P P ops C sp q.1 q.2 (RO P ops C sp Q u) σ e
theorem wpO_of_RO {N : Nat} {df : List Deferred} {Q : List (Nat × Value) → (Nat → Value) → Prop} {Q' : List (Nat × Value) → Act → Prop} (hQ : ∀ σ e a, Rep N df e a → Q σ e → Q' σ a) :
    ∀ (t : OT (Nat × Oper)) (σ : List (Nat × Value)) (e : Nat → Value) (a : Act), t.dstB N = true → Rep N df e a → RO P ops C sp Q t σ e → wpO P ops C sp Q' t σ a
  | .nil, σ, e, a, _, hr, h => hQ σ e a hr h
  | .one p t, σ, e, a, hd, hr, h => by
    simp only [OT.dstB, Bool.and_eq_true] at hd
    exact wp1_of_R1P hd.1 hr (fun σ e a hr h => wpO_of_RO hQ t σ e a hd.2 hr h) h
  | .two p t q u, σ, e, a, hd, hr, h => by
    simp only [OT.dstB, Bool.and_eq_true] at hd
    exact ⟨wp1_of_R1P hd.1.1.1 hr (fun σ e a hr h => wpO_of_RO hQ t σ e a hd.1.1.2 hr h) h.1, wp1_of_R1P hd.1.2 hr (fun σ e a hr h => wpO_of_RO hQ u σ e a hd.2 hr h) h.2⟩
theorem cw_tree {N : Nat} {Q : Exit → (Nat → Value) → World → Prop} {e : Nat → Value} {w : World} {id : Nat} {l : List Oper} (sp : List Nat) (t : OT Nat) (tl : List Nat) (hm : P.follows .mixedOrders = true)
    (hB : (orderOB l.toArray (fun i => sp.contains i) t tl && (t.allB fun i => decide (i < l.length)) && (tl.all fun i => decide (i < l.length))) = true) (hC : C [] w.drew)
    (h : RO P l.toArray C (fun i => sp.contains i) (fun σ e' => ∀ w', C σ w' → RW P l.toArray (fun e w => Q .normal e w) (pickL l tl) e' w') (pickO l t) [] e) : CW P N (.region id l.toArray true) Q e w := fun hk df a hr ro => by
  simp only [Bool.and_eq_true] at hB
  simp only [codeOk, Bool.and_eq_true] at hk
  have hsub : ((pickL l tl).all fun o => dstOk N o.dst) = true := by
    have h1 := pickL_map l tl hB.2
    refine List.all_eq_true.2 fun o ho => ?_
    have h2 : some o ∈ (pickL l tl).map some := List.mem_map.2 ⟨o, ho, rfl⟩
    rw [← h1] at h2
    obtain ⟨i, _, hi⟩ := List.mem_map.1 h2
    have h3 : l[i]? = some o := by simpa using hi
    exact List.all_eq_true.1 hk.1 o (List.mem_of_getElem? h3)
  have hsubd : ∀ is : List Nat, (is.all fun i => decide (i < l.length)) = true → ((pickL l is).all fun o => !isDefer o.op) = true := fun is his => by
    have h1 := pickL_map l is his
    refine List.all_eq_true.2 fun o ho => ?_
    have h2 : some o ∈ (pickL l is).map some := List.mem_map.2 ⟨o, ho, rfl⟩
    rw [← h1] at h2
    obtain ⟨i, _, hi⟩ := List.mem_map.1 h2
    have h3 : l[i]? = some o := by simpa using hi
    exact List.all_eq_true.1 hk.2 o (List.mem_of_getElem? h3)
  have hfit := pickO_fit l t hB.1.2
  refine wp_region_tree (C := C) t tl _ _ hk.2 hm hB.1.1 hfit (pickL_map l tl hB.2) hC ?_
  exact wpO_of_RO (fun σ e' a' hr' hq w' hw' => wpList_of_RW (fun e a w hr h => ⟨e, hr, h⟩) _ e' a' w' hsub (hsubd tl hB.2) hr' (hq w' hw')) _ [] e a (fit_dst hk.1 t _ hfit) hr h
/-! ### Steps -/
variable {Qs : List (Nat × Value) → (Nat → Value) → Prop} {σ : List (Nat × Value)} {e : Nat → Value} {i : Nat} {rest : List (Nat × Oper)}
variable {d : Option Tmp} {op : Op} {ty : TypeId} {ps : String} {af : Array Edge}
theorem RS_t {o : Oper} (h : wE ops e o = true) : RS P ops C sp Qs ((i, o) :: rest) σ e = match sp i with
      | true => (∀ w, C σ w → opTo P e o w fun v w' => C ((i, v) :: σ) w') ∧ ∀ v w', C ((i, v) :: σ) w' → RS P ops C sp Qs rest ((i, v) :: σ) (updO e o.dst v)
      | false => ∃ v, (∀ τ w, C τ w → opTo P e o w fun u w' => u = v ∧ C τ w') ∧ RS P ops C sp Qs rest σ (updO e o.dst v) := by rw [RS]; exact if_pos h
theorem RS_f {o : Oper} (h : wE ops e o = false) : RS P ops C sp Qs ((i, o) :: rest) σ e = RS P ops C sp Qs rest σ (updO e o.dst undef) := by rw [RS]; exact if_neg (by simp [h])
theorem rs_nil (h : Qs σ e) : RS P ops C sp Qs [] σ e := h
theorem rs_on {j : Nat} {b : Bool} (h : yE ops e j = some b) (hr : RS P ops C sp Qs ((i, ⟨d, op, ty, ps, af, none⟩) :: rest) σ e) : RS P ops C sp Qs ((i, ⟨d, op, ty, ps, af, some (j, b)⟩) :: rest) σ e := by
  rw [RS_t rfl] at hr
  rw [RS_t (by simp [wE, h])]
  exact hr
theorem rs_off {j : Nat} {b : Bool} (h : (yE ops e j == some b) = false) (hr : RS P ops C sp Qs rest σ (updO e d undef)) : RS P ops C sp Qs ((i, ⟨d, op, ty, ps, af, some (j, b)⟩) :: rest) σ e := by
  rw [RS_f (by simp [wE, h])]
  exact hr
theorem rs_r {v : Value} (hs : sp i = false) (h : ∀ τ w, C τ w → OpR P e ⟨d, op, ty, ps, af, none⟩ w v) (hr : RS P ops C sp Qs rest σ (updO e d v)) : RS P ops C sp Qs ((i, ⟨d, op, ty, ps, af, none⟩) :: rest) σ e := by
  rw [RS_t rfl, hs]
  refine ⟨v, fun τ w hC => ?_, hr⟩
  have := h τ w hC
  unfold OpR at this
  unfold opTo
  rw [this]
  exact ⟨rfl, hC⟩
theorem rs_v {v : Value} (hs : sp i = false) (h : OpV P e ⟨d, op, ty, ps, af, none⟩ v) (hr : RS P ops C sp Qs rest σ (updO e d v)) : RS P ops C sp Qs ((i, ⟨d, op, ty, ps, af, none⟩) :: rest) σ e := rs_r hs (fun _ w _ => h w) hr
/-- a plain call -/
theorem rs_call {f : FuncId} {args : List Operand} {tys : Array TypeId} {vs : List Value} {v : Value} (hs : sp i = false) (hv : fzl (args.map (ev e)) = some vs) (hc : ∀ τ w, C τ w → Fn P f vs w (fun v' w' => v' = v ∧ C τ w')) (hr : RS P ops C sp Qs rest σ (updO e d v)) :
    RS P ops C sp Qs ((i, ⟨d, .call ⟨.value (.func f), args.toArray, tys⟩, ty, ps, af, none⟩) :: rest) σ e := by
  have h0 := fzl_eq hv
  rw [RS_t rfl, hs]
  refine ⟨v, fun τ w hC => ?_, hr⟩
  have hrun : (execOp (ev e) ⟨d, .call ⟨.value (.func f), args.toArray, tys⟩, ty, ps, af, none⟩).run P w = .ok (.enter f vs.toArray) w := by
    have h1 : ev e (.func f) = .func (.func f) #[] #[] := rfl
    simp [execOp, resolve, h1, Deferred.ofValue, invoke, h0, run_callFunc_E (hc τ w hC).1]
  unfold opTo
  rw [hrun]
  exact (hc τ w hC).2
/-- a special operation: what it does is told as a step in order -/
theorem rs_special {o : Oper} (hs : sp i = true) (hw : wE ops e o = true) (h : ∀ w, C σ w → opTo P e o w fun v w' => C ((i, v) :: σ) w') (hr : ∀ v w', C ((i, v) :: σ) w' → RS P ops C sp Qs rest ((i, v) :: σ) (updO e o.dst v)) : RS P ops C sp Qs ((i, o) :: rest) σ e := by
  rw [RS_t hw, hs]
  exact ⟨h, hr⟩
theorem ro_one {p : Nat × Oper} {t : OT (Nat × Oper)} (h : RS P ops C sp (fun σ e => RO P ops C sp Qs t σ e) [p] σ e) : RO P ops C sp Qs (.one p t) σ e := h
theorem ro_two {p q : Nat × Oper} {t u : OT (Nat × Oper)} (h1 : RS P ops C sp (fun σ e => RO P ops C sp Qs t σ e) [p] σ e) (h2 : RS P ops C sp (fun σ e => RO P ops C sp Qs u σ e) [q] σ e) : RO P ops C sp Qs (.two p t q u) σ e := ⟨h1, h2⟩
theorem ro_nil (h : Qs σ e) : RO P ops C sp Qs .nil σ e := h
end
end Go.Proofs.Yteihfmifelcidaa.TI
/- Two elements of a row change places, in whatever order the region draws: the parts of memory as the class. -/
namespace Go.Proofs.Yteihfmifelcidaa
open Go.RowKit
set_option linter.unusedVariables false
set_option linter.unusedSimpArgs false

/-- what the two loads yielded; the one store that was made, or not -/
def SWC (F : Nat → Prop) (W : World) (L L1 : List HA) (p q s : Nat) (vp vq : Value) (σ : List (Nat × Value)) (w : World) : Prop :=
  (∀ x ∈ σ, (x.1 = p → x.2 = vp) ∧ (x.1 = q → x.2 = vq)) ∧ (if (σ.any fun x => Nat.beq x.1 s) = true then St F W w L1 else St F W w L)
section
variable {F : Nat → Prop} {W w w' : World} {L L1 : List HA} {p q s : Nat} {vp vq : Value} {σ : List (Nat × Value)}
theorem SWC.start (S : St F W w L) : SWC F W L L1 p q s vp vq [] w := ⟨fun x hx => (by cases hx), S⟩
theorem SWC.gr (h : SWC F W L L1 p q s vp vq σ w) (g : Gr w w') : SWC F W L L1 p q s vp vq σ w' := by
  refine ⟨h.1, ?_⟩
  have := h.2
  split at this
  · rename_i e; rw [if_pos e]; exact this.gr g
  · rename_i e; rw [if_neg e]; exact this.gr g
theorem SWC.st0 (h : SWC F W L L1 p q s vp vq σ w) (hs : (σ.any fun x => Nat.beq x.1 s) = false) : St F W w L := by
  have := h.2
  rw [if_neg (by rw [hs]; simp)] at this
  exact this
theorem SWC.st1 (h : SWC F W L L1 p q s vp vq σ w) (hs : (σ.any fun x => Nat.beq x.1 s) = true) : St F W w L1 := by
  have := h.2
  rw [if_pos hs] at this
  exact this
theorem SWC.first {v : Value} (h : SWC F W L L1 p q s vp vq ((p, v) :: σ) w) : v = vp := (h.1 (p, v) List.mem_cons_self).1 rfl
theorem SWC.second {v : Value} (h : SWC F W L L1 p q s vp vq ((q, v) :: σ) w) : v = vq := (h.1 (q, v) List.mem_cons_self).2 rfl
theorem SWC.push {k : Nat} {v : Value} (h : SWC F W L L1 p q s vp vq σ w) (h0 : (σ.any fun x => Nat.beq x.1 s) = false) (hk : Nat.beq k s = false) (h1 : (k = p → v = vp) ∧ (k = q → v = vq)) : SWC F W L L1 p q s vp vq ((k, v) :: σ) w := by
  refine ⟨fun x hx => ?_, ?_⟩
  · rcases List.mem_cons.1 hx with rfl | hx
    · exact h1
    · exact h.1 x hx
  · rw [if_neg (by rw [List.any_cons, h0, Bool.or_false]; simp only [hk]; simp)]; exact h.st0 h0
theorem SWC.made {v : Value} (h : SWC F W L L1 p q s vp vq σ w) (h1 : (s = p → v = vp) ∧ (s = q → v = vq)) (S : St F W w' L1) : SWC F W L L1 p q s vp vq ((s, v) :: σ) w' := by
  refine ⟨fun x hx => ?_, ?_⟩
  · rcases List.mem_cons.1 hx with rfl | hx
    · exact h1
    · exact h.1 x hx
  · rw [if_pos (by rw [List.any_cons]; simp)]; exact S
end
section
variable {P : Program} {e : Nat → Value} {d : Option Tmp} {ty : TypeId} {ps : String} {af : Array Edge} {F : Nat → Prop} {W w : World} {L L' : List HA} {R : Value → World → Prop}
theorem to_r {v : Value} {o : Oper} (h : OpR P e o w v) (hR : R v w) : opTo P e o w R := by
  unfold OpR at h
  unfold opTo
  generalize (execOp (ev e) o).run P w = r at *
  cases r with
  | ok n w' => cases n <;> simp_all
  | halt x w' => simp_all
/-- a step told by a walk's law is a step told by itself -/
theorem opTo_of_rw {op : Op} (hc : isCall op = false) (h : RW P #[] (fun e' w' => R (e' 0) w') [⟨some 0, op, ty, ps, af, none⟩] e w) : opTo P e ⟨d, op, ty, ps, af, none⟩ w R := by
  rw [RW_t rfl] at h
  unfold opNext at h
  unfold opTo
  have hx : execOp (ev e) ⟨some 0, op, ty, ps, af, none⟩ = execOp (ev e) ⟨d, op, ty, ps, af, none⟩ := by cases op <;> rfl
  rw [hx] at h
  generalize (execOp (ev e) ⟨d, op, ty, ps, af, none⟩).run P w = r at *
  cases r with
  | ok n w' =>
    cases n with
    | round l f tm sg bd => have h1 : isCall op = true := h.1; rw [hc] at h1; cases h1
    | value v => exact h
    | skip => exact h
    | enter f args => exact h
    | _ => exact h.elim
  | halt x w' => exact h.elim
theorem to_storeR {i : Nat} {t : TypeId} {x y : Operand} {el k n c j : Nat} {A : Option Addr} {xs : List Value} {v : Value} (S : St F W w L) (hi : getO L i = some (.row el k A n c xs)) (hz : (sizeOf t).run P w = .ok 1 w) (hx : ev e x = .pointer (at_ A j)) (hy : fz (ev e y) = some v) (hv : v.oneCell' = true) (hvc : v.cells = #[v]) (hj : j < xs.length)
    (hs : setO L i (.row el k A n c (xs.set j v)) = some L') (hr : ∀ w', St F W w' L' → R undef w') : opTo P e ⟨d, .store t x y, ty, ps, af, none⟩ w R :=
  opTo_of_rw rfl (rw_storeR S hi hz hx hy hv hvc hj hs (fun w' S' => hr w' S'))
theorem to_storeRA {i : Nat} {t : TypeId} {x y : Operand} {el k n c j s : Nat} {A : Option Addr} {xs cs : List Value} (S : St F W w L) (hi : getO L i = some (.row el k A n c xs)) (hz : (sizeOf t).run P w = .ok s w) (hx : ev e x = .pointer (at_ A j)) (hy : ev e y = .agg cs.toArray) (hcs : cs.length = s) (hone : (cs.all fun v => v.oneCell') = true) (hj : j + s ≤ xs.length)
    (hs : setO L i (.row el k A n c (xs.take j ++ cs ++ xs.drop (j + s))) = some L') (h0 : Nat.blt 0 s = true) (hr : ∀ w', St F W w' L' → R undef w') : opTo P e ⟨d, .store t x y, ty, ps, af, none⟩ w R :=
  opTo_of_rw rfl (rw_storeRA S hi hz hx hy hcs hone hj hs h0 (fun w' S' => hr w' S'))
end

/-! ### New parts side by side -/
def Mt (T : Nat → Value → HA → Prop) : List (Nat × Value) → List HA → Prop
  | [], [] => True
  | (k, v) :: σ, h :: Ps => T k v h ∧ Mt T σ Ps
  | _, _ => False
def CM (F : Nat → Prop) (W : World) (L : List HA) (T : Nat → Value → HA → Prop) (σ : List (Nat × Value)) (wq : World) : Prop := ∃ Ps, Mt T σ Ps ∧ St F W wq (Ps ++ L)
section
variable {F : Nat → Prop} {W wq w' : World} {L : List HA} {T : Nat → Value → HA → Prop} {σ : List (Nat × Value)}
theorem CM.start (S : St F W wq L) : CM F W L T [] wq := ⟨[], trivial, S⟩
theorem SepL.right {X : Nat → Prop} {w : World} : ∀ {Ps L : List HA}, SepL X w (Ps ++ L) → SepL X w L
  | [], _, h => h
  | _ :: Ps, _, h => SepL.right (Ps := Ps) h.2.2
theorem CM.st (h : CM F W L T σ wq) : St F W wq L := by
  obtain ⟨Ps, _, S⟩ := h
  exact ⟨S.fr, S.sep.right⟩
theorem CM.gr (h : CM F W L T σ wq) (g : Gr wq w') : CM F W L T σ w' := by
  obtain ⟨Ps, m, S⟩ := h
  exact ⟨Ps, m, S.gr g⟩
section
variable {P : Program} {e : Nat → Value} {d : Option Tmp} {ty : TypeId} {ps : String} {af : Array Edge}
theorem to_makeCM1 {t el : TypeId} {x y : Operand} {i bytes n c : Nat} {kl kc : IntKind} {z : Value} {m p : Int} (hq : CM F W L T σ wq) (hu : P.underlying t = some (.slice el)) (hI : (P.info? el).map (fun i => (i.zero, i.size, i.bytes)) = some (some z, 1, bytes)) (hz : z.cells = #[z])
    (hx : ev e x = .int kl m) (hy : ev e y = .int kc p) (hm : m = (n : Nat)) (hp : p = (c : Nat)) (hnc : n ≤ c) (hb : c * (bytes + 1) ≤ 140737488355328)
    (hT : ∀ A, SomeA A → T i (.slice A n c) (.row el 1 A n c (List.replicate n z))) : opTo P e ⟨d, .makeSlice t x y, ty, ps, af, none⟩ wq (fun v w' => CM F W L T ((i, v) :: σ) w') := by
  obtain ⟨Ps, hmt, S⟩ := hq
  exact opTo_of_rw rfl (rw_makeS1 hu hI hz hx hy hm hp hnc hb S (fun A w' g S' sa => ⟨_ :: Ps, ⟨hT A sa, hmt⟩, S'⟩))
end
/-- what another walk made, from a world of this one on -/
theorem SepL.app {X : Nat → Prop} {w0 w : World} : ∀ {P L : List HA}, SepL (fun g => No g ∨ w0.heap.size ≤ g) w P → SepL X w L → (∀ h ∈ L, ∀ g, h.own g → g < w0.heap.size) → (∀ g, w0.heap.size ≤ g → X g) → SepL X w (P ++ L)
  | [], _, _, h, _, _ => h
  | a :: P, L, hP, hL, hlt, hX => by
    refine ⟨⟨hP.1.1, fun g hg => hX g ((hP.1.2 g hg).elim (fun e => e.elim) id)⟩, fun g hg h hh => ?_, SepL.app hP.2.2 hL hlt hX⟩
    rcases List.mem_append.1 hh with hh | hh
    · exact hP.2.1 g hg h hh
    · intro ho
      have h1 := hlt h hh g ho
      have h2 := (hP.1.2 g hg).elim (fun e => e.elim) id
      omega
theorem SepL.ltL {X : Nat → Prop} {w : World} : ∀ {L : List HA}, SepL X w L → ∀ h ∈ L, ∀ g, h.own g → g < w.heap.size
  | a :: L, S, h, hh, g, ho => (List.mem_cons.1 hh).elim (fun e => by subst e; exact h.lt w S.1.1 g ho) (fun e => SepL.ltL S.2.2 h e g ho)
theorem St.app {w : World} {Q : List HA} (S : St F W w L) (S' : St No w w' Q) : St F W w' (Q ++ L) := by
  have g := S'.out
  have S1 := S.gr g
  exact ⟨S1.fr, SepL.app S'.sep S1.sep (S.sep.ltL) (fun g hg => .inr (Nat.le_trans S.le hg))⟩
end
end Go.Proofs.Yteihfmifelcidaa
/- slices.SortFunc at zones.Zone and zones.Pair: the shelf's contract, laid out in plain Lean. Printed by mksortf.py. -/
namespace Go.Proofs.Yteihfmifelcidaa
open Go.Shelf Go.RowKit Go.Sort
set_option maxRecDepth 100000

def sortZ_ren : Shelf.Ren where
  f := fun n => match n with | 6 => 56 | 15 => 90 | 14 => 89 | 28 => 117 | 29 => 118 | 20 => 109 | 21 => 110 | 22 => 111 | 23 => 112 | 24 => 113 | 25 => 114 | 26 => 115 | 27 => 116 | 46 => 134 | 47 => 135 | 48 => 136 | 49 => 137 | 50 => 138 | 57 => 145 | n => n
  t := fun n => match n with | 22 => 52 | 24 => 59 | 25 => 126 | 3 => 3 | 39 => 173 | 0 => 0 | 53 => 198 | 55 => 200 | 4 => 4 | 46 => 192 | 45 => 191 | 50 => 122 | 5 => 5 | 9 => 9 | 66 => 217 | 70 => 221 | 76 => 228 | 77 => 229 | n => n
  g := fun n => n
theorem sortZ : SlLaysF0.n6 Try.prog sortZ_ren where
  mixed := rfl
  f6 := ⟨"slices.SortFunc[[]hachure/zones.Zone,hachure/zones.Zone]", by decide +kernel, Try.func56.trans rfl⟩
  f14 := ⟨"slices.pdqsortCmpFunc[hachure/zones.Zone]", by decide +kernel, Try.func89.trans rfl⟩
  f15 := Try.func90.trans rfl
  f20 := ⟨"slices.insertionSortCmpFunc[hachure/zones.Zone]", by decide +kernel, Try.func109.trans rfl⟩
  f21 := ⟨"slices.heapSortCmpFunc[hachure/zones.Zone]", by decide +kernel, Try.func110.trans rfl⟩
  f22 := ⟨"slices.breakPatternsCmpFunc[hachure/zones.Zone]", by decide +kernel, Try.func111.trans rfl⟩
  f23 := ⟨"slices.choosePivotCmpFunc[hachure/zones.Zone]", by decide +kernel, Try.func112.trans rfl⟩
  f24 := ⟨"slices.reverseRangeCmpFunc[hachure/zones.Zone]", by decide +kernel, Try.func113.trans rfl⟩
  f25 := ⟨"slices.partialInsertionSortCmpFunc[hachure/zones.Zone]", by decide +kernel, Try.func114.trans rfl⟩
  f26 := ⟨"slices.partitionEqualCmpFunc[hachure/zones.Zone]", by decide +kernel, Try.func115.trans rfl⟩
  f27 := ⟨"slices.partitionCmpFunc[hachure/zones.Zone]", by decide +kernel, Try.func116.trans rfl⟩
  f28 := Try.func117.trans rfl
  f29 := Try.func118.trans rfl
  f46 := ⟨"slices.siftDownCmpFunc[hachure/zones.Zone]", by decide +kernel, Try.func134.trans rfl⟩
  f47 := Try.func135.trans rfl
  f48 := Try.func136.trans rfl
  f49 := ⟨"slices.medianAdjacentCmpFunc[hachure/zones.Zone]", by decide +kernel, Try.func137.trans rfl⟩
  f50 := ⟨"slices.medianCmpFunc[hachure/zones.Zone]", by decide +kernel, Try.func138.trans rfl⟩
  f57 := ⟨"slices.order2CmpFunc[hachure/zones.Zone]", by decide +kernel, Try.func145.trans rfl⟩
  t0 := Try.underlying0
  a0 := Try.isAgg0
  z0 := Try.sizeOf0
  v0 := Try.zeroValue0
  t3 := Try.underlying3
  a3 := Try.isAgg3
  z3 := Try.sizeOf3
  v3 := Try.zeroValue3
  t4 := Try.underlying4
  a4 := Try.isAgg4
  z4 := Try.sizeOf4
  v4 := Try.zeroValue4
  t5 := Try.underlying5
  a5 := Try.isAgg5
  z5 := Try.sizeOf5
  v5 := Try.zeroValue5
  t9 := Try.underlying9
  a9 := Try.isAgg9
  z9 := Try.sizeOf9
  v9 := Try.zeroValue9
  t22 := Try.underlying52
  a22 := Try.isAgg52
  z22 := Try.sizeOf52
  v22 := Try.zeroValue52
  t25 := Try.underlying126
  a25 := Try.isAgg126
  z25 := Try.sizeOf126
  v25 := Try.zeroValue126
  t39 := Try.underlying173
  a39 := Try.isAgg173
  z39 := Try.sizeOf173
  v39 := Try.zeroValue173
  t45 := Try.underlying191
  a45 := Try.isAgg191
  z45 := Try.sizeOf191
  v45 := Try.zeroValue191
  t46 := Try.underlying192
  a46 := Try.isAgg192
  z46 := Try.sizeOf192
  v46 := Try.zeroValue192
  t50 := Try.underlying122
  a50 := Try.isAgg122
  z50 := Try.sizeOf122
  v50 := Try.zeroValue122
  t53 := Try.underlying198
  a53 := Try.isAgg198
  z53 := Try.sizeOf198
  v53 := Try.zeroValue198
  t55 := Try.underlying200
  a55 := Try.isAgg200
  z55 := Try.sizeOf200
  v55 := Try.zeroValue200
  t66 := Try.underlying217
  a66 := Try.isAgg217
  z66 := Try.sizeOf217
  v66 := Try.zeroValue217
  t70 := Try.underlying221
  a70 := Try.isAgg221
  z70 := Try.sizeOf221
  v70 := Try.zeroValue221
  t76 := Try.underlying228
  a76 := Try.isAgg228
  z76 := Try.sizeOf228
  v76 := Try.zeroValue228
  t77 := Try.underlying229
  a77 := Try.isAgg229
  z77 := Try.sizeOf229
  v77 := Try.zeroValue229
def sortP_ren : Shelf.Ren where
  f := fun n => match n with | 6 => 61 | 15 => 90 | 14 => 93 | 28 => 117 | 29 => 118 | 20 => 119 | 21 => 120 | 22 => 121 | 23 => 122 | 24 => 123 | 25 => 124 | 26 => 125 | 27 => 126 | 46 => 139 | 47 => 135 | 48 => 136 | 49 => 140 | 50 => 141 | 57 => 146 | n => n
  t := fun n => match n with | 22 => 61 | 24 => 67 | 25 => 137 | 3 => 3 | 39 => 173 | 0 => 0 | 53 => 198 | 55 => 200 | 4 => 4 | 46 => 192 | 45 => 191 | 50 => 122 | 5 => 5 | 9 => 9 | 66 => 217 | 70 => 221 | 76 => 228 | 77 => 229 | n => n
  g := fun n => n
theorem sortP : SlLaysF0.n6 Try.prog sortP_ren where
  mixed := rfl
  f6 := ⟨"slices.SortFunc[[]hachure/zones.Pair,hachure/zones.Pair]", by decide +kernel, Try.func61.trans rfl⟩
  f14 := ⟨"slices.pdqsortCmpFunc[hachure/zones.Pair]", by decide +kernel, Try.func93.trans rfl⟩
  f15 := Try.func90.trans rfl
  f20 := ⟨"slices.insertionSortCmpFunc[hachure/zones.Pair]", by decide +kernel, Try.func119.trans rfl⟩
  f21 := ⟨"slices.heapSortCmpFunc[hachure/zones.Pair]", by decide +kernel, Try.func120.trans rfl⟩
  f22 := ⟨"slices.breakPatternsCmpFunc[hachure/zones.Pair]", by decide +kernel, Try.func121.trans rfl⟩
  f23 := ⟨"slices.choosePivotCmpFunc[hachure/zones.Pair]", by decide +kernel, Try.func122.trans rfl⟩
  f24 := ⟨"slices.reverseRangeCmpFunc[hachure/zones.Pair]", by decide +kernel, Try.func123.trans rfl⟩
  f25 := ⟨"slices.partialInsertionSortCmpFunc[hachure/zones.Pair]", by decide +kernel, Try.func124.trans rfl⟩
  f26 := ⟨"slices.partitionEqualCmpFunc[hachure/zones.Pair]", by decide +kernel, Try.func125.trans rfl⟩
  f27 := ⟨"slices.partitionCmpFunc[hachure/zones.Pair]", by decide +kernel, Try.func126.trans rfl⟩
  f28 := Try.func117.trans rfl
  f29 := Try.func118.trans rfl
  f46 := ⟨"slices.siftDownCmpFunc[hachure/zones.Pair]", by decide +kernel, Try.func139.trans rfl⟩
  f47 := Try.func135.trans rfl
  f48 := Try.func136.trans rfl
  f49 := ⟨"slices.medianAdjacentCmpFunc[hachure/zones.Pair]", by decide +kernel, Try.func140.trans rfl⟩
  f50 := ⟨"slices.medianCmpFunc[hachure/zones.Pair]", by decide +kernel, Try.func141.trans rfl⟩
  f57 := ⟨"slices.order2CmpFunc[hachure/zones.Pair]", by decide +kernel, Try.func146.trans rfl⟩
  t0 := Try.underlying0
  a0 := Try.isAgg0
  z0 := Try.sizeOf0
  v0 := Try.zeroValue0
  t3 := Try.underlying3
  a3 := Try.isAgg3
  z3 := Try.sizeOf3
  v3 := Try.zeroValue3
  t4 := Try.underlying4
  a4 := Try.isAgg4
  z4 := Try.sizeOf4
  v4 := Try.zeroValue4
  t5 := Try.underlying5
  a5 := Try.isAgg5
  z5 := Try.sizeOf5
  v5 := Try.zeroValue5
  t9 := Try.underlying9
  a9 := Try.isAgg9
  z9 := Try.sizeOf9
  v9 := Try.zeroValue9
  t22 := Try.underlying61
  a22 := Try.isAgg61
  z22 := Try.sizeOf61
  v22 := Try.zeroValue61
  t25 := Try.underlying137
  a25 := Try.isAgg137
  z25 := Try.sizeOf137
  v25 := Try.zeroValue137
  t39 := Try.underlying173
  a39 := Try.isAgg173
  z39 := Try.sizeOf173
  v39 := Try.zeroValue173
  t45 := Try.underlying191
  a45 := Try.isAgg191
  z45 := Try.sizeOf191
  v45 := Try.zeroValue191
  t46 := Try.underlying192
  a46 := Try.isAgg192
  z46 := Try.sizeOf192
  v46 := Try.zeroValue192
  t50 := Try.underlying122
  a50 := Try.isAgg122
  z50 := Try.sizeOf122
  v50 := Try.zeroValue122
  t53 := Try.underlying198
  a53 := Try.isAgg198
  z53 := Try.sizeOf198
  v53 := Try.zeroValue198
  t55 := Try.underlying200
  a55 := Try.isAgg200
  z55 := Try.sizeOf200
  v55 := Try.zeroValue200
  t66 := Try.underlying217
  a66 := Try.isAgg217
  z66 := Try.sizeOf217
  v66 := Try.zeroValue217
  t70 := Try.underlying221
  a70 := Try.isAgg221
  z70 := Try.sizeOf221
  v70 := Try.zeroValue221
  t76 := Try.underlying228
  a76 := Try.isAgg228
  z76 := Try.sizeOf228
  v76 := Try.zeroValue228
  t77 := Try.underlying229
  a77 := Try.isAgg229
  z77 := Try.sizeOf229
  v77 := Try.zeroValue229
end Go.Proofs.Yteihfmifelcidaa
/- Zones in plain Lean: labels, zones by labels. -/
namespace Go.Proofs.Yteihfmifelcidaa
/-- a zone: label, area, sum, least, greatest, first place -/
structure Zn where
  lb : Int
  ar : Int
  sm : Int
  mn : Int
  mx : Int
  fs : Nat
deriving Inhabited, DecidableEq
def znAdd (z : Zn) (v : Int) (i : Nat) : Zn := if z.ar = 0 then ⟨z.lb, 1, z.sm + v, v, v, i⟩ else ⟨z.lb, z.ar + 1, z.sm + v, min z.mn v, max z.mx v, z.fs⟩
def znN (V L : List Int) (k : Int) : Nat → Zn
  | 0 => ⟨k, 0, 0, 0, 0, 0⟩
  | i + 1 => if L.getD i 0 = k then znAdd (znN V L k i) (V.getD i 0) i else znN V L k i
/-- the labels in the order of their first cells -/
def labsN (L : List Int) : Nat → List Int
  | 0 => []
  | i + 1 => if L.getD i 0 = 0 ∨ L.getD i 0 ∈ labsN L i then labsN L i else labsN L i ++ [L.getD i 0]
/-- the labels, rising -/
def insL (l : List Int) (x : Int) : List Int := if x = 0 ∨ l[(l.takeWhile (· < x)).length]? = some x then l else l.take (l.takeWhile (· < x)).length ++ [x] ++ l.drop (l.takeWhile (· < x)).length
def refLab (L : List Int) : Nat → List Int
  | 0 => []
  | i + 1 => insL (refLab L i) (L.getD i 0)
theorem znN_lb {V L : List Int} {k : Int} : ∀ i, (znN V L k i).lb = k
  | 0 => rfl
  | i + 1 => by
    have := znN_lb (V := V) (L := L) (k := k) i
    unfold znN znAdd
    split
    · split <;> exact this
    · exact this
theorem mem_labsN {L : List Int} {x : Int} : ∀ {n : Nat}, x ∈ labsN L n ↔ x ≠ 0 ∧ ∃ i, i < n ∧ L.getD i 0 = x
  | 0 => by simp [labsN]
  | n + 1 => by
    have ih := mem_labsN (L := L) (x := x) (n := n)
    have step : (∃ i, i < n + 1 ∧ L.getD i 0 = x) ↔ (∃ i, i < n ∧ L.getD i 0 = x) ∨ L.getD n 0 = x := by
      constructor
      · rintro ⟨i, hi, h⟩
        by_cases e : i = n
        · subst e; exact .inr h
        · exact .inl ⟨i, by omega, h⟩
      · rintro (⟨i, hi, h⟩ | h)
        · exact ⟨i, by omega, h⟩
        · exact ⟨n, by omega, h⟩
    rw [step]
    unfold labsN
    split
    · rename_i h
      rw [ih]
      constructor
      · rintro ⟨a, b⟩; exact ⟨a, .inl b⟩
      · rintro ⟨a, b | b⟩
        · exact ⟨a, b⟩
        · rcases h with h | h
          · exact absurd (b.symm.trans h) a
          · rw [b] at h; exact ih.1 h
    · rename_i h
      have h1 : ¬ L.getD n 0 = 0 := fun e => h (.inl e)
      rw [List.mem_append, ih, List.mem_singleton]
      constructor
      · rintro (⟨a, b⟩ | e)
        · exact ⟨a, .inl b⟩
        · exact ⟨e ▸ h1, .inr e.symm⟩
      · rintro ⟨a, b | b⟩
        · exact .inl ⟨a, b⟩
        · exact .inr b.symm
theorem labsN_nodup {L : List Int} : ∀ n, (labsN L n).Nodup
  | 0 => by simp [labsN]
  | n + 1 => by
    have ih := labsN_nodup (L := L) n
    unfold labsN
    split
    · exact ih
    · rename_i h
      rw [List.nodup_append]
      exact ⟨ih, by simp, fun a ha b hb e => h (.inr (by rw [← List.mem_singleton.1 hb, ← e]; exact ha))⟩
theorem insL_spec {x : Int} : ∀ {l : List Int}, l.Pairwise (· < ·) → (insL l x).Pairwise (· < ·) ∧ ∀ y, y ∈ insL l x ↔ y ∈ l ∨ (y = x ∧ x ≠ 0) := by
  intro l hl
  have hw : ∀ a ∈ l.takeWhile (· < x), a < x := fun a ha => by
    have := List.all_takeWhile (l := l) (p := fun a => decide (a < x))
    simpa using List.all_eq_true.1 this a ha
  have htk : l.take (l.takeWhile (· < x)).length = l.takeWhile (· < x) := by
    have h := List.takeWhile_append_dropWhile (p := fun a => decide (a < x)) (l := l)
    conv => lhs; arg 2; rw [← h]
    exact List.take_left
  have hdr : l.drop (l.takeWhile (· < x)).length = l.dropWhile (· < x) := by
    have h := List.takeWhile_append_dropWhile (p := fun a => decide (a < x)) (l := l)
    conv => lhs; arg 2; rw [← h]
    exact List.drop_left
  have hat : l[(l.takeWhile (· < x)).length]? = (l.dropWhile (· < x)).head? := by
    rw [← List.head?_drop, hdr]
  have happ := List.takeWhile_append_dropWhile (p := fun a => decide (a < x)) (l := l)
  have hd : ∀ a r, l.dropWhile (· < x) = a :: r → x ≤ a := fun a r e => by
    have := List.head?_dropWhile_not (p := fun a => decide (a < x)) (l := l)
    rw [e] at this
    simpa using this
  unfold insL
  split
  · rename_i h
    refine ⟨hl, fun y => ⟨.inl, ?_⟩⟩
    rintro (h1 | ⟨rfl, h1⟩)
    · exact h1
    · rcases h with h | h
      · exact absurd h h1
      · exact List.mem_of_getElem? h
  · rename_i h
    have h0 : x ≠ 0 := fun e => h (.inl e)
    have hne : ¬ (l.dropWhile (· < x)).head? = some x := fun e => h (.inr (hat.trans e))
    rw [htk, hdr]
    generalize l.takeWhile (· < x) = A at *
    generalize l.dropWhile (· < x) = B at *
    subst happ
    rw [List.pairwise_append] at hl
    have hB : ∀ b ∈ B, x < b := by
      cases B with
      | nil => simp
      | cons a r =>
        have h1 := hd a r rfl
        have h2 : a ≠ x := fun e => hne (by rw [e]; rfl)
        have h3 : x < a := by omega
        intro b hb
        rcases List.mem_cons.1 hb with rfl | hb
        · exact h3
        · have := (List.pairwise_cons.1 hl.2.1).1 b hb; omega
    refine ⟨?_, fun y => ?_⟩
    · rw [List.append_assoc, List.pairwise_append]
      refine ⟨hl.1, ?_, fun a ha b hb => ?_⟩
      · rw [List.singleton_append, List.pairwise_cons]; exact ⟨hB, hl.2.1⟩
      · rcases List.mem_append.1 hb with hb | hb
        · rw [List.mem_singleton.1 hb]; exact hw a ha
        · exact hl.2.2 a ha b hb
    · simp only [List.mem_append, List.mem_singleton]
      constructor
      · rintro ((h1 | h1) | h1)
        · exact .inl (.inl h1)
        · exact .inr ⟨h1, h0⟩
        · exact .inl (.inr h1)
      · rintro ((h1 | h1) | ⟨h1, _⟩)
        · exact .inl (.inl h1)
        · exact .inr h1
        · exact .inl (.inr h1)
theorem refLab_spec {L : List Int} : ∀ n, (refLab L n).Pairwise (· < ·) ∧ ∀ x, x ∈ refLab L n ↔ x ∈ labsN L n
  | 0 => by simp [refLab, labsN]
  | n + 1 => by
    obtain ⟨h1, h2⟩ := refLab_spec (L := L) n
    obtain ⟨h3, h4⟩ := insL_spec (x := L.getD n 0) h1
    refine ⟨h3, fun x => (h4 x).trans ?_⟩
    rw [h2]
    conv => rhs; unfold labsN
    split
    · rename_i h
      constructor
      · rintro (h5 | ⟨rfl, h5⟩)
        · exact h5
        · exact h.elim (fun e => absurd e h5) id
      · exact .inl
    · rename_i h
      have h0 : L.getD n 0 ≠ 0 := fun e => h (.inl e)
      rw [List.mem_append, List.mem_singleton]
      exact ⟨fun h => h.imp id (·.1), fun h => h.imp id (fun e => ⟨e, h0⟩)⟩
theorem sortedLt_ext : ∀ {a b : List Int}, a.Pairwise (· < ·) → b.Pairwise (· < ·) → (∀ x, x ∈ a ↔ x ∈ b) → a = b
  | [], [], _, _, _ => rfl
  | [], y :: b, _, _, h => by have := (h y).2 (by simp); simp at this
  | x :: a, [], _, _, h => by have := (h x).1 (by simp); simp at this
  | x :: a, y :: b, ha, hb, h => by
    rw [List.pairwise_cons] at ha hb
    have exy : x = y := by
      have h1 := (h x).1 (by simp)
      have h2 := (h y).2 (by simp)
      rcases List.mem_cons.1 h1 with e | h1
      · exact e
      · rcases List.mem_cons.1 h2 with e | h2
        · exact e.symm
        · have := hb.1 x h1; have := ha.1 y h2; omega
    subst exy
    refine congrArg (x :: ·) (sortedLt_ext ha.2 hb.2 fun z => ⟨fun hz => ?_, fun hz => ?_⟩)
    · rcases List.mem_cons.1 ((h z).1 (List.mem_cons_of_mem _ hz)) with e | h1
      · have := ha.1 z hz; omega
      · exact h1
    · rcases List.mem_cons.1 ((h z).2 (List.mem_cons_of_mem _ hz)) with e | h1
      · have := hb.1 z hz; omega
      · exact h1
theorem pair_lt {l : List Int} (h : l.Pairwise (· ≤ ·)) (hn : l.Nodup) : l.Pairwise (· < ·) :=
  (List.Pairwise.and h hn).imp fun ⟨a, b⟩ => by omega
theorem zones_sorted {V L : List Int} {n : Nat} {l : List Zn} (hp : l.Perm ((labsN L n).map fun k => znN V L k n)) (hs : l.Pairwise fun a b => a.lb ≤ b.lb) : l = (refLab L n).map fun k => znN V L k n := by
  have h1 : ∀ z ∈ l, z = znN V L z.lb n := fun z hz => by
    obtain ⟨k, _, rfl⟩ := List.mem_map.1 (hp.mem_iff.1 hz)
    rw [znN_lb]
  have h2 : l = (l.map Zn.lb).map fun k => znN V L k n := by
    rw [List.map_map]
    exact (List.map_id l).symm.trans (List.map_congr_left h1)
  have h3 : (l.map Zn.lb).Perm (labsN L n) := by
    have := hp.map Zn.lb
    rw [List.map_map] at this
    have e : (Zn.lb ∘ fun k => znN V L k n) = id := funext fun k => znN_lb n
    rwa [e, List.map_id] at this
  have h4 : l.map Zn.lb = refLab L n := by
    refine sortedLt_ext (pair_lt (List.pairwise_map.2 hs) (h3.nodup_iff.2 (labsN_nodup n))) (refLab_spec n).1 fun x => ?_
    rw [h3.mem_iff, (refLab_spec n).2]
  rw [← h4]; exact h2
theorem labsN_step_old {L : List Int} {i : Nat} (h : L.getD i 0 = 0 ∨ L.getD i 0 ∈ labsN L i) : labsN L (i + 1) = labsN L i := by show (if _ then _ else _) = _; rw [if_pos h]
theorem labsN_step_new {L : List Int} {i : Nat} (h : ¬ L.getD i 0 = 0) (h2 : L.getD i 0 ∉ labsN L i) : labsN L (i + 1) = labsN L i ++ [L.getD i 0] := by show (if _ then _ else _) = _; rw [if_neg (fun e => e.elim h h2)]
theorem labsN_len {L : List Int} : ∀ n, (labsN L n).length ≤ n
  | 0 => by simp [labsN]
  | n + 1 => by
    have := labsN_len (L := L) n
    unfold labsN
    split
    · omega
    · simp; omega
theorem znN_zero {V L : List Int} {k : Int} : ∀ {i : Nat}, (∀ j, j < i → L.getD j 0 ≠ k) → znN V L k i = ⟨k, 0, 0, 0, 0, 0⟩
  | 0, _ => rfl
  | i + 1, h => by
    unfold znN
    rw [if_neg (h i (by omega))]
    exact znN_zero fun j hj => h j (by omega)
theorem znN_new {V L : List Int} {i : Nat} (h : ¬ L.getD i 0 = 0) (h2 : L.getD i 0 ∉ labsN L i) : znN V L (L.getD i 0) (i + 1) = ⟨L.getD i 0, 1, V.getD i 0, V.getD i 0, V.getD i 0, i⟩ := by
  show (if _ then _ else _) = _
  rw [if_pos rfl, znN_zero (fun j hj e => h2 (mem_labsN.2 ⟨h, j, hj, e⟩))]
  simp [znAdd]
theorem znN_pos {V L : List Int} {k : Int} : ∀ {i : Nat}, (∃ j, j < i ∧ L.getD j 0 = k) → 1 ≤ (znN V L k i).ar
  | 0, ⟨j, h, _⟩ => by omega
  | i + 1, ⟨j, hj, hk⟩ => by
    have hge : ∀ i, 0 ≤ (znN V L k i).ar := fun i => by
      induction i with
      | zero => exact Int.le_refl 0
      | succ i ih => unfold znN znAdd; split <;> (try split) <;> (try dsimp only) <;> omega
    unfold znN
    have h0 := hge i
    split
    · unfold znAdd; split <;> (try dsimp only) <;> omega
    · rename_i h
      by_cases e : j = i
      · subst e; exact absurd hk h
      · exact znN_pos ⟨j, by omega, hk⟩
theorem znN_old {V L : List Int} {i : Nat} (h2 : L.getD i 0 ∈ labsN L i) : znN V L (L.getD i 0) (i + 1) = (let z := znN V L (L.getD i 0) i; ⟨z.lb, z.ar + 1, z.sm + V.getD i 0, min z.mn (V.getD i 0), max z.mx (V.getD i 0), z.fs⟩) := by
  show (if _ then _ else _) = _
  rw [if_pos rfl]
  have := znN_pos (V := V) (mem_labsN.1 h2).2
  unfold znAdd
  rw [if_neg (by omega)]
theorem znN_ne {V L : List Int} {i : Nat} {k : Int} (h : L.getD i 0 ≠ k) : znN V L k (i + 1) = znN V L k i := by show (if _ then _ else _) = _; rw [if_neg h]
theorem znN_bnd {V L : List Int} {k : Int} (hV : ∀ j, -2147483648 ≤ V.getD j 0 ∧ V.getD j 0 ≤ 2147483647) : ∀ i : Nat, 0 ≤ (znN V L k i).ar ∧ (znN V L k i).ar ≤ i ∧ -2147483648 * (i : Int) ≤ (znN V L k i).sm ∧ (znN V L k i).sm ≤ 2147483648 * (i : Int)
  | 0 => by simp [znN]
  | i + 1 => by
    have ih := znN_bnd (L := L) (k := k) hV i
    have := hV i
    unfold znN znAdd
    split
    · split <;> (dsimp only; omega)
    · omega
end Go.Proofs.Yteihfmifelcidaa
/- Borders in plain Lean. -/
namespace Go.Proofs.Yteihfmifelcidaa
/-- one side, if it lies between two zones -/
def addP (a b : Int) : List (Int × Int) := if a ≠ 0 ∧ b ≠ 0 ∧ a ≠ b then [(min a b, max a b)] else []
def addsN (gw : Nat) (L : List Int) : Nat → List (Int × Int)
  | 0 => []
  | i + 1 => (addsN gw L i ++ if 0 < i % gw then addP (L.getD i 0) (L.getD (i - 1) 0) else []) ++ if gw ≤ i then addP (L.getD i 0) (L.getD (i - gw) 0) else []
def sdB (x y a b : Int) : Bool := (decide (x = a) && decide (y = b)) || (decide (x = b) && decide (y = a))
def sideN (gw : Nat) (L : List Int) (a b : Int) : Nat → Nat
  | 0 => 0
  | i + 1 => sideN gw L a b i + (if 0 < i % gw ∧ sdB (L.getD i 0) (L.getD (i - 1) 0) a b = true then 1 else 0) + (if gw ≤ i ∧ sdB (L.getD i 0) (L.getD (i - gw) 0) a b = true then 1 else 0)
theorem count_addP {x y a b : Int} (ha : a ≠ 0) (hb : b ≠ 0) (hab : a < b) : (addP x y).count (a, b) = if sdB x y a b = true then 1 else 0 := by
  unfold addP sdB
  simp only [Bool.or_eq_true, Bool.and_eq_true, decide_eq_true_eq]
  split
  · rename_i h
    rw [List.count_cons, List.count_nil]
    simp only [Nat.zero_add, beq_iff_eq, Prod.mk.injEq]
    congr 1
    refine propext ⟨fun h => ?_, fun h => ?_⟩ <;> omega
  · rename_i h
    rw [List.count_nil, if_neg (by omega)]
theorem count_adds {gw : Nat} {L : List Int} {a b : Int} (ha : a ≠ 0) (hb : b ≠ 0) (hab : a < b) : ∀ i, (addsN gw L i).count (a, b) = sideN gw L a b i
  | 0 => rfl
  | i + 1 => by
    unfold addsN sideN
    rw [List.count_append, List.count_append, count_adds ha hb hab i]
    congr 1
    · congr 1
      by_cases h : 0 < i % gw
      · rw [if_pos h, count_addP ha hb hab]; simp only [h, true_and]
      · rw [if_neg h, if_neg (fun e => h e.1)]; rfl
    · by_cases h : gw ≤ i
      · rw [if_pos h, count_addP ha hb hab]; simp only [h, true_and]
      · rw [if_neg h, if_neg (fun e => h e.1)]; rfl
theorem mem_addP {x y : Int} {k : Int × Int} (h : k ∈ addP x y) : k.1 ≠ 0 ∧ k.2 ≠ 0 ∧ k.1 < k.2 ∧ (k.1 = x ∨ k.1 = y) ∧ (k.2 = x ∨ k.2 = y) := by
  unfold addP at h
  split at h
  · rw [List.mem_singleton] at h
    subst h
    dsimp only
    omega
  · cases h
theorem mem_adds {gw : Nat} {L : List Int} {k : Int × Int} : ∀ {i : Nat}, k ∈ addsN gw L i → k.1 ≠ 0 ∧ k.2 ≠ 0 ∧ k.1 < k.2 ∧ (∃ j, j < i ∧ L.getD j 0 = k.1) ∧ (∃ j, j < i ∧ L.getD j 0 = k.2)
  | 0, h => by cases h
  | i + 1, h => by
    unfold addsN at h
    have old : ∀ {x : Int}, (∃ j, j < i ∧ L.getD j 0 = x) → ∃ j, j < i + 1 ∧ L.getD j 0 = x := fun ⟨j, hj, e⟩ => ⟨j, by omega, e⟩
    have two : ∀ {x : Int} {q : Nat}, q ≤ i → (x = L.getD i 0 ∨ x = L.getD q 0) → ∃ j, j < i + 1 ∧ L.getD j 0 = x := fun {x q} hq h => h.elim (fun e => ⟨i, by omega, e.symm⟩) (fun e => ⟨q, by omega, e.symm⟩)
    rcases List.mem_append.1 h with h | h
    · rcases List.mem_append.1 h with h | h
      · obtain ⟨h1, h2, h3, h4, h5⟩ := mem_adds h
        exact ⟨h1, h2, h3, old h4, old h5⟩
      · split at h
        · obtain ⟨h1, h2, h3, h4, h5⟩ := mem_addP h
          exact ⟨h1, h2, h3, two (by omega) h4, two (by omega) h5⟩
        · cases h
    · split at h
      · obtain ⟨h1, h2, h3, h4, h5⟩ := mem_addP h
        exact ⟨h1, h2, h3, two (by omega) h4, two (by omega) h5⟩
      · cases h
theorem addsN_len {gw : Nat} {L : List Int} : ∀ i, (addsN gw L i).length ≤ 2 * i
  | 0 => by simp [addsN]
  | i + 1 => by
    have := addsN_len (gw := gw) (L := L) i
    have h1 : ∀ x y, (addP x y).length ≤ 1 := fun x y => by unfold addP; split <;> simp
    have h2 := h1 (L.getD i 0) (L.getD (i - 1) 0)
    have h3 := h1 (L.getD i 0) (L.getD (i - gw) 0)
    unfold addsN
    rw [List.length_append, List.length_append]
    split <;> split <;> (try simp only [List.length_nil]) <;> omega
/-- a pair: two labels, sides -/
structure Pr where
  a : Int
  b : Int
  c : Int
deriving Inhabited, DecidableEq
def ltPr (p q : Pr) : Prop := p.a < q.a ∨ p.a = q.a ∧ p.b < q.b
theorem sortedPr_ext : ∀ {l m : List Pr}, l.Pairwise ltPr → m.Pairwise ltPr → (∀ x, x ∈ l ↔ x ∈ m) → l = m
  | [], [], _, _, _ => rfl
  | [], y :: b, _, _, h => by have := (h y).2 (by simp); simp at this
  | x :: a, [], _, _, h => by have := (h x).1 (by simp); simp at this
  | x :: a, y :: b, ha, hb, h => by
    rw [List.pairwise_cons] at ha hb
    have asym : ∀ {p q : Pr}, ltPr p q → ltPr q p → False := fun {p q} h1 h2 => by unfold ltPr at h1 h2; omega
    have exy : x = y := by
      have h1 := (h x).1 (by simp)
      have h2 := (h y).2 (by simp)
      rcases List.mem_cons.1 h1 with e | h1
      · exact e
      · rcases List.mem_cons.1 h2 with e | h2
        · exact e.symm
        · exact (asym (hb.1 x h1) (ha.1 y h2)).elim
    subst exy
    refine congrArg (x :: ·) (sortedPr_ext ha.2 hb.2 fun z => ⟨fun hz => ?_, fun hz => ?_⟩)
    · rcases List.mem_cons.1 ((h z).1 (List.mem_cons_of_mem _ hz)) with e | h1
      · subst e; exact (asym (ha.1 z hz) (ha.1 z hz)).elim
      · exact h1
    · rcases List.mem_cons.1 ((h z).2 (List.mem_cons_of_mem _ hz)) with e | h1
      · subst e; exact (asym (hb.1 z hz) (hb.1 z hz)).elim
      · exact h1
/-- row `a` of the reference's pairs -/
def rowP (gw : Nat) (L : List Int) (n : Nat) (a : Int) (l : List Int) : List Pr := l.filterMap fun b => if sideN gw L a b n = 0 then none else some ⟨a, b, sideN gw L a b n⟩
def refBordL (gw : Nat) (L : List Int) (n : Nat) : List Int → List Pr
  | [] => []
  | a :: r => rowP gw L n a r ++ refBordL gw L n r
def refBord (gw : Nat) (L : List Int) (n : Nat) : List Pr := refBordL gw L n (refLab L n)
theorem mem_rowP {gw : Nat} {L : List Int} {n : Nat} {a : Int} {l : List Int} {p : Pr} : p ∈ rowP gw L n a l ↔ p.a = a ∧ p.b ∈ l ∧ p.c = sideN gw L p.a p.b n ∧ sideN gw L p.a p.b n ≠ 0 := by
  unfold rowP
  rw [List.mem_filterMap]
  constructor
  · rintro ⟨b, hb, h⟩
    split at h
    · cases h
    · injection h with h
      subst h
      rename_i h0
      exact ⟨rfl, hb, rfl, h0⟩
  · rintro ⟨h1, h2, h3, h4⟩
    obtain ⟨pa, pb, pc⟩ := p
    dsimp only at *
    subst h1
    exact ⟨pb, h2, by rw [if_neg h4, ← h3]⟩
theorem mem_refBordL {gw : Nat} {L : List Int} {n : Nat} {p : Pr} : ∀ {l : List Int}, l.Pairwise (· < ·) → (p ∈ refBordL gw L n l ↔ p.a ∈ l ∧ p.b ∈ l ∧ p.a < p.b ∧ p.c = sideN gw L p.a p.b n ∧ sideN gw L p.a p.b n ≠ 0)
  | [], _ => by simp [refBordL]
  | a :: r, h => by
    rw [List.pairwise_cons] at h
    unfold refBordL
    rw [List.mem_append, mem_rowP, mem_refBordL h.2, List.mem_cons, List.mem_cons]
    constructor
    · rintro (⟨h1, h2, h3, h4⟩ | ⟨h1, h2, h3, h4⟩)
      · exact ⟨.inl h1, .inr h2, by have := h.1 _ h2; omega, h3, h4⟩
      · exact ⟨.inr h1, .inr h2, h3, h4⟩
    · rintro ⟨h1, h2, h3, h4, h5⟩
      rcases h1 with h1 | h1
      · rcases h2 with h2 | h2
        · omega
        · exact .inl ⟨h1, h2, h4, h5⟩
      · rcases h2 with h2 | h2
        · have := h.1 _ h1; omega
        · exact .inr ⟨h1, h2, h3, h4, h5⟩
theorem sorted_rowP {gw : Nat} {L : List Int} {n : Nat} {a : Int} : ∀ {l : List Int}, l.Pairwise (· < ·) → (rowP gw L n a l).Pairwise ltPr
  | [], _ => by simp [rowP]
  | b :: r, h => by
    rw [List.pairwise_cons] at h
    have ih := sorted_rowP (gw := gw) (L := L) (n := n) (a := a) h.2
    unfold rowP at *
    rw [List.filterMap_cons]
    by_cases h0 : sideN gw L a b n = 0
    · simp only [h0, if_true]; exact ih
    · simp only [h0, if_false]
      rw [List.pairwise_cons]
      refine ⟨fun q hq => ?_, ih⟩
      have := mem_rowP.1 hq
      exact .inr ⟨this.1.symm, h.1 _ this.2.1⟩
theorem sorted_refBordL {gw : Nat} {L : List Int} {n : Nat} : ∀ {l : List Int}, l.Pairwise (· < ·) → (refBordL gw L n l).Pairwise ltPr
  | [], _ => by simp [refBordL]
  | a :: r, h => by
    have h' := h
    rw [List.pairwise_cons] at h
    unfold refBordL
    rw [List.pairwise_append]
    refine ⟨sorted_rowP h.2, sorted_refBordL h.2, fun p hp q hq => .inl ?_⟩
    have h1 := mem_rowP.1 hp
    have h2 := (mem_refBordL h.2).1 hq
    have := h.1 _ h2.1
    omega
/-- what the map's pairs are, sorted -/
theorem bord_sorted {gw : Nat} {L : List Int} {n : Nat} {l : List Pr} (hn : (l.map fun p => (p.a, p.b)).Nodup) (hm : ∀ p, p ∈ l ↔ (p.a, p.b) ∈ addsN gw L n ∧ p.c = ((addsN gw L n).count (p.a, p.b) : Nat))
    (hs : l.Pairwise fun p q => ¬ ltPr q p) : l = refBord gw L n := by
  have hr := refLab_spec (L := L) n
  refine sortedPr_ext ?_ (sorted_refBordL hr.1) fun p => ?_
  · have h2 : l.Pairwise fun p q => (p.a, p.b) ≠ (q.a, q.b) := List.pairwise_map.1 hn
    refine (List.Pairwise.and hs h2).imp fun {p q} ⟨h1, h2⟩ => ?_
    unfold ltPr at *
    have : ¬ (p.a = q.a ∧ p.b = q.b) := fun ⟨e1, e2⟩ => h2 (by rw [e1, e2])
    omega
  · rw [hm]
    unfold refBord
    rw [mem_refBordL hr.1, hr.2, hr.2, mem_labsN, mem_labsN]
    constructor
    · rintro ⟨h1, h2⟩
      obtain ⟨a0, b0, hab, ha, hb⟩ := mem_adds h1
      dsimp only at *
      have hc := count_adds (gw := gw) (L := L) a0 b0 hab n
      refine ⟨⟨a0, ha⟩, ⟨b0, hb⟩, hab, by rw [h2, hc], ?_⟩
      have := List.count_pos_iff.2 h1
      omega
    · rintro ⟨⟨a0, _⟩, ⟨b0, _⟩, hab, h1, h2⟩
      have hc := count_adds (gw := gw) (L := L) a0 b0 hab n
      exact ⟨List.count_pos_iff.1 (by omega), by rw [h1, hc]⟩
end Go.Proofs.Yteihfmifelcidaa
/- The comparisons that zones hands to slices.SortFunc: what they tell, and the world behind them to the block and the draw. -/
namespace Go.Proofs.Yteihfmifelcidaa
open Go.RowKit
set_option linter.unusedVariables false
set_option linter.unusedSimpArgs false
set_option maxRecDepth 100000

/-- a zone's cells -/
def encZ (gw : Nat) (z : Zn) : List Value := [.int .i64 z.lb, .int .i64 z.ar, .int .i64 z.sm, .int .i64 z.mn, .int .i64 z.mx, .int .i64 (z.fs % gw : Nat), .int .i64 (z.fs / gw : Nat)]
def encPr (p : Pr) : List Value := [.int .i64 p.a, .int .i64 p.b, .int .i64 p.c]
def cfZ (a b : Zn) : Int := cmpI a.lb b.lb
def cfP (a b : Pr) : Int := if cmpI a.a b.a ≠ 0 then cmpI a.a b.a else cmpI a.b b.b
def RetX (v : Value) (W : World) (v' : Value) (w' : World) : Prop := v' = v ∧ w' = W
/-- a value, some draws and some blocks more -/
def RetGw (v : Value) (W : World) (v' : Value) (w' : World) : Prop := v' = v ∧ ∃ q os, w' = Sort.grow (W.drewN q) os
section
variable {W : World}
theorem isNaNX_E (a : Int) : Fn Try.prog 91 [.int .i64 a] W (RetX (.bool false) W) := by

  refine Fn_enter Try.func91 rfl Try.results91 Try.ntmps91 (by kernel_rfl) (by kernel_rfl) ?_
  repeat refine cw_seq ?_
  refine cw_region ?_
  refine rw_v (op_pure rfl) ?_
  first | refine rw_end ?_ | (refine rw_nil ?_; show CW _ _ _ _ _ _) | refine rw_nil ?_
  repeat refine cw_seq ?_
  refine cw_region ?_
  iterate 2 refine rw_v (op_pure rfl) ?_
  first | refine rw_v (op_b (b := true) rfl (bne_iff_ne.2 (by omega))) ?_ | refine rw_v (op_b (b := false) rfl (bne_eq_false_iff_eq.2 (by omega))) ?_ | refine rw_v (op_pure rfl) ?_
  refine rw_v (op_pure rfl) ?_
  first | refine rw_end ?_ | (refine rw_nil ?_; show CW _ _ _ _ _ _) | refine rw_nil ?_
  repeat refine cw_seq ?_
  refine cw_ret ?_
  repeat first | refine ret_then ?_ | refine ret_inb ?_
  exact res1 rfl ⟨be (by simp), rfl⟩
theorem compareX_E (a b : Int) : Fn Try.prog 58 [.int .i64 a, .int .i64 b] W (RetX (.int .i64 (cmpI a b)) W) := by

  by_cases h1 : a < b
  · skip
    refine Fn_enter Try.func58 rfl Try.results58 Try.ntmps58 (by kernel_rfl) (by kernel_rfl) ?_
    repeat refine cw_seq ?_
    refine cw_region ?_
    refine rw_v (op_pure rfl) ?_
    first | refine rw_end ?_ | (refine rw_nil ?_; show CW _ _ _ _ _ _) | refine rw_nil ?_
    repeat refine cw_seq ?_
    refine cw_region ?_
    refine rw_v (op_pure rfl) ?_
    refine rw_call rfl (isNaNX_E a) ?_
    rintro _ _ ⟨rfl, rfl⟩
    refine rw_v (op_pure rfl) ?_
    first | refine rw_end ?_ | (refine rw_nil ?_; show CW _ _ _ _ _ _) | refine rw_nil ?_
    repeat refine cw_seq ?_
    refine cw_region ?_
    refine rw_v (op_pure rfl) ?_
    refine rw_call rfl (isNaNX_E b) ?_
    rintro _ _ ⟨rfl, rfl⟩
    refine rw_v (op_pure rfl) ?_
    first | refine rw_end ?_ | (refine rw_nil ?_; show CW _ _ _ _ _ _) | refine rw_nil ?_
    repeat refine cw_seq ?_
    refine cw_region ?_
    refine rw_v (op_pure rfl) ?_
    first | refine rw_end ?_ | (refine rw_nil ?_; show CW _ _ _ _ _ _) | refine rw_nil ?_
    repeat refine cw_seq ?_
    refine cw_false rfl ?_
    repeat refine cw_seq ?_
    refine cw_skip ?_
    try show CW _ _ _ _ _ _
    repeat refine cw_seq ?_
    refine cw_region ?_
    refine rw_v (op_pure rfl) ?_
    first | refine rw_end ?_ | (refine rw_nil ?_; show CW _ _ _ _ _ _) | refine rw_nil ?_
    repeat refine cw_seq ?_
    refine cw_false rfl ?_
    repeat refine cw_seq ?_
    refine cw_skip ?_
    try show CW _ _ _ _ _ _
    repeat refine cw_seq ?_
    refine cw_region ?_
    iterate 2 refine rw_v (op_pure rfl) ?_
    refine rw_v (op_b (b := true) rfl (decide_eq_true (by omega))) ?_
    first | refine rw_end ?_ | (refine rw_nil ?_; show CW _ _ _ _ _ _) | refine rw_nil ?_
    repeat refine cw_seq ?_
    refine cw_true rfl ?_
    repeat refine cw_seq ?_
    refine cw_region ?_
    refine rw_v (op_pure rfl) ?_
    first | refine rw_end ?_ | (refine rw_nil ?_; show CW _ _ _ _ _ _) | refine rw_nil ?_
    repeat refine cw_seq ?_
    refine cw_ret ?_
    repeat first | refine ret_then ?_ | refine ret_inb ?_
    exact res1 rfl ⟨ie (by unfold cmpI; rw [if_pos h1]), rfl⟩
  · by_cases h2 : b < a
    · skip
      refine Fn_enter Try.func58 rfl Try.results58 Try.ntmps58 (by kernel_rfl) (by kernel_rfl) ?_
      repeat refine cw_seq ?_
      refine cw_region ?_
      refine rw_v (op_pure rfl) ?_
      first | refine rw_end ?_ | (refine rw_nil ?_; show CW _ _ _ _ _ _) | refine rw_nil ?_
      repeat refine cw_seq ?_
      refine cw_region ?_
      refine rw_v (op_pure rfl) ?_
      refine rw_call rfl (isNaNX_E a) ?_
      rintro _ _ ⟨rfl, rfl⟩
      refine rw_v (op_pure rfl) ?_
      first | refine rw_end ?_ | (refine rw_nil ?_; show CW _ _ _ _ _ _) | refine rw_nil ?_
      repeat refine cw_seq ?_
      refine cw_region ?_
      refine rw_v (op_pure rfl) ?_
      refine rw_call rfl (isNaNX_E b) ?_
      rintro _ _ ⟨rfl, rfl⟩
      refine rw_v (op_pure rfl) ?_
      first | refine rw_end ?_ | (refine rw_nil ?_; show CW _ _ _ _ _ _) | refine rw_nil ?_
      repeat refine cw_seq ?_
      refine cw_region ?_
      refine rw_v (op_pure rfl) ?_
      first | refine rw_end ?_ | (refine rw_nil ?_; show CW _ _ _ _ _ _) | refine rw_nil ?_
      repeat refine cw_seq ?_
      refine cw_false rfl ?_
      repeat refine cw_seq ?_
      refine cw_skip ?_
      try show CW _ _ _ _ _ _
      repeat refine cw_seq ?_
      refine cw_region ?_
      refine rw_v (op_pure rfl) ?_
      first | refine rw_end ?_ | (refine rw_nil ?_; show CW _ _ _ _ _ _) | refine rw_nil ?_
      repeat refine cw_seq ?_
      refine cw_false rfl ?_
      repeat refine cw_seq ?_
      refine cw_skip ?_
      try show CW _ _ _ _ _ _
      repeat refine cw_seq ?_
      refine cw_region ?_
      iterate 2 refine rw_v (op_pure rfl) ?_
      refine rw_v (op_b (b := false) rfl (decide_eq_false (by omega))) ?_
      first | refine rw_end ?_ | (refine rw_nil ?_; show CW _ _ _ _ _ _) | refine rw_nil ?_
      repeat refine cw_seq ?_
      refine cw_false rfl ?_
      repeat refine cw_seq ?_
      refine cw_skip ?_
      try show CW _ _ _ _ _ _
      repeat refine cw_seq ?_
      refine cw_region ?_
      iterate 2 refine rw_v (op_pure rfl) ?_
      refine rw_v (op_b (b := true) rfl (decide_eq_true (by omega))) ?_
      first | refine rw_end ?_ | (refine rw_nil ?_; show CW _ _ _ _ _ _) | refine rw_nil ?_
      repeat refine cw_seq ?_
      refine cw_true rfl ?_
      repeat refine cw_seq ?_
      refine cw_region ?_
      refine rw_v (op_pure rfl) ?_
      first | refine rw_end ?_ | (refine rw_nil ?_; show CW _ _ _ _ _ _) | refine rw_nil ?_
      repeat refine cw_seq ?_
      refine cw_ret ?_
      repeat first | refine ret_then ?_ | refine ret_inb ?_
      exact res1 rfl ⟨ie (by unfold cmpI; rw [if_neg h1, if_pos h2]), rfl⟩
    · skip
      refine Fn_enter Try.func58 rfl Try.results58 Try.ntmps58 (by kernel_rfl) (by kernel_rfl) ?_
      repeat refine cw_seq ?_
      refine cw_region ?_
      refine rw_v (op_pure rfl) ?_
      first | refine rw_end ?_ | (refine rw_nil ?_; show CW _ _ _ _ _ _) | refine rw_nil ?_
      repeat refine cw_seq ?_
      refine cw_region ?_
      refine rw_v (op_pure rfl) ?_
      refine rw_call rfl (isNaNX_E a) ?_
      rintro _ _ ⟨rfl, rfl⟩
      refine rw_v (op_pure rfl) ?_
      first | refine rw_end ?_ | (refine rw_nil ?_; show CW _ _ _ _ _ _) | refine rw_nil ?_
      repeat refine cw_seq ?_
      refine cw_region ?_
      refine rw_v (op_pure rfl) ?_
      refine rw_call rfl (isNaNX_E b) ?_
      rintro _ _ ⟨rfl, rfl⟩
      refine rw_v (op_pure rfl) ?_
      first | refine rw_end ?_ | (refine rw_nil ?_; show CW _ _ _ _ _ _) | refine rw_nil ?_
      repeat refine cw_seq ?_
      refine cw_region ?_
      refine rw_v (op_pure rfl) ?_
      first | refine rw_end ?_ | (refine rw_nil ?_; show CW _ _ _ _ _ _) | refine rw_nil ?_
      repeat refine cw_seq ?_
      refine cw_false rfl ?_
      repeat refine cw_seq ?_
      refine cw_skip ?_
      try show CW _ _ _ _ _ _
      repeat refine cw_seq ?_
      refine cw_region ?_
      refine rw_v (op_pure rfl) ?_
      first | refine rw_end ?_ | (refine rw_nil ?_; show CW _ _ _ _ _ _) | refine rw_nil ?_
      repeat refine cw_seq ?_
      refine cw_false rfl ?_
      repeat refine cw_seq ?_
      refine cw_skip ?_
      try show CW _ _ _ _ _ _
      repeat refine cw_seq ?_
      refine cw_region ?_
      iterate 2 refine rw_v (op_pure rfl) ?_
      refine rw_v (op_b (b := false) rfl (decide_eq_false (by omega))) ?_
      first | refine rw_end ?_ | (refine rw_nil ?_; show CW _ _ _ _ _ _) | refine rw_nil ?_
      repeat refine cw_seq ?_
      refine cw_false rfl ?_
      repeat refine cw_seq ?_
      refine cw_skip ?_
      try show CW _ _ _ _ _ _
      repeat refine cw_seq ?_
      refine cw_region ?_
      iterate 2 refine rw_v (op_pure rfl) ?_
      refine rw_v (op_b (b := false) rfl (decide_eq_false (by omega))) ?_
      first | refine rw_end ?_ | (refine rw_nil ?_; show CW _ _ _ _ _ _) | refine rw_nil ?_
      repeat refine cw_seq ?_
      refine cw_false rfl ?_
      repeat refine cw_seq ?_
      refine cw_skip ?_
      try show CW _ _ _ _ _ _
      repeat refine cw_seq ?_
      refine cw_region ?_
      refine rw_v (op_pure rfl) ?_
      first | refine rw_end ?_ | (refine rw_nil ?_; show CW _ _ _ _ _ _) | refine rw_nil ?_
      repeat refine cw_seq ?_
      refine cw_ret ?_
      repeat first | refine ret_then ?_ | refine ret_inb ?_
      exact res1 rfl ⟨ie (by unfold cmpI; rw [if_neg h1, if_neg h2]), rfl⟩
theorem orX_E {A : Option Addr} {cap : Nat} (x y : Int) (hA : Rd W A [.int .i64 x, .int .i64 y]) : Fn Try.prog 63 [.slice A 2 cap] W (RetX (.int .i64 (if x ≠ 0 then x else y)) W) := by
  have sa_A : SomeA A := hA.someA (by simp)

  refine Fn_enter Try.func63 rfl Try.results63 Try.ntmps63 (by kernel_rfl) (by kernel_rfl) ?_
  repeat refine cw_seq ?_
  refine cw_region ?_
  refine rw_v (op_pure rfl) ?_
  first | refine rw_end ?_ | (refine rw_nil ?_; show CW _ _ _ _ _ _) | refine rw_nil ?_
  repeat refine cw_seq ?_
  refine cw_region ?_
  refine rw_v (op_pure rfl) ?_
  first | refine rw_end ?_ | (refine rw_nil ?_; show CW _ _ _ _ _ _) | refine rw_nil ?_
  repeat refine cw_seq ?_
  refine cw_region ?_
  refine rw_v (op_pure rfl) ?_
  refine rw_v (op_len Try.underlying113 rfl) ?_
  refine rw_v (op_pure rfl) ?_
  first | refine rw_end ?_ | (refine rw_nil ?_; show CW _ _ _ _ _ _) | refine rw_nil ?_
  repeat refine cw_seq ?_
  refine cw_block ?_
  repeat refine cw_seq ?_
  by_cases hx : x = 0
  · by_cases hy : y = 0
    · refine cw_loop (fun m e w => ∃ k : Nat, k + m = 2 ∧ SL e [(2, .int .i64 0), (3, .int .i64 0), (6, .slice A 2 cap), (7, .int .i64 2), (8, .int .i64 k)] ∧ w = W) 2 ⟨0, rfl, ⟨rfl, rfl, rfl, rfl, rfl, trivial⟩, rfl⟩ ?_
      rintro m e w ⟨k, hk, hsl, rfl⟩
      rw [hsl.fold]
      repeat refine cw_seq ?_
      refine cw_region ?_
      refine rw_v (op_pure rfl) ?_
      first | refine rw_end ?_ | (refine rw_nil ?_; show CW _ _ _ _ _ _) | refine rw_nil ?_
      repeat refine cw_seq ?_
      refine cw_cond rfl (fun hc => ?_) (fun hc => ?_)
      · try simp only [decide_eq_true_eq, decide_eq_false_iff_not, beq_iff_eq, bne_iff_ne, beq_eq_false_iff_ne, bne_eq_false_iff_eq, Bool.not_eq_true', Bool.not_eq_false', ne_eq, Decidable.not_not, Int.natCast_inj, Int.ofNat_lt, Int.ofNat_le, gt_iff_lt, ge_iff_le, Int.not_lt, Int.not_le] at hc
        have hat : ([.int .i64 x, .int .i64 y] : List Value)[(k : Int).toNat * 1]? = some (.int .i64 0) := by
          rcases (show k = 0 ∨ k = 1 by omega) with rfl | rfl
          · rw [hx]; rfl
          · rw [hy]; rfl
        repeat refine cw_seq ?_
        refine cw_skip ?_
        try show CW _ _ _ _ _ _
        repeat refine cw_seq ?_
        refine cw_block ?_
        repeat refine cw_seq ?_
        refine cw_region ?_
        refine rw_v (op_idx Try.underlying113 Try.sizeOf3 rfl rfl sa_A (by omega) (by omega)) ?_
        refine rw_r (op_ldR Try.underlying3 rfl rfl hA hat) ?_
        refine rw_v (op_pure rfl) ?_
        first | refine rw_end ?_ | (refine rw_nil ?_; show CW _ _ _ _ _ _) | refine rw_nil ?_
        repeat refine cw_seq ?_
        refine cw_region ?_
        iterate 2 refine rw_v (op_pure rfl) ?_
        refine rw_v (op_b (b := false) rfl (bne_eq_false_iff_eq.2 (by omega))) ?_
        first | refine rw_end ?_ | (refine rw_nil ?_; show CW _ _ _ _ _ _) | refine rw_nil ?_
        repeat refine cw_seq ?_
        refine cw_false rfl ?_
        repeat refine cw_seq ?_
        refine cw_skip ?_
        try show CW _ _ _ _ _ _
        repeat refine cw_seq ?_
        refine cw_region ?_
        refine rw_v (op_rng rfl (by omega)) ?_
        refine rw_v (op_pure rfl) ?_
        first | refine rw_end ?_ | (refine rw_nil ?_; show CW _ _ _ _ _ _) | refine rw_nil ?_
        exact ⟨m - 1, by omega, k + 1, by omega, ⟨rfl, rfl, rfl, rfl, ie (by omega), trivial⟩, rfl⟩
      · try simp only [decide_eq_true_eq, decide_eq_false_iff_not, beq_iff_eq, bne_iff_ne, beq_eq_false_iff_ne, bne_eq_false_iff_eq, Bool.not_eq_true', Bool.not_eq_false', ne_eq, Decidable.not_not, Int.natCast_inj, Int.ofNat_lt, Int.ofNat_le, gt_iff_lt, ge_iff_le, Int.not_lt, Int.not_le] at hc
        repeat refine cw_seq ?_
        refine cw_exit ?_
        repeat first | refine exit_then ?_ | refine exit_inb ?_
        show CW _ _ _ _ _ _
        repeat refine cw_seq ?_
        refine cw_region ?_
        iterate 2 refine rw_v (op_pure rfl) ?_
        first | refine rw_end ?_ | (refine rw_nil ?_; show CW _ _ _ _ _ _) | refine rw_nil ?_
        repeat refine cw_seq ?_
        refine cw_ret ?_
        repeat first | refine ret_then ?_ | refine ret_inb ?_
        exact res1 rfl ⟨ie (by rw [if_neg (by simp [hx]), hy]), rfl⟩
    · refine cw_loop (fun m e w => ∃ k : Nat, k + m = 2 ∧ k ≤ 1 ∧ SL e [(2, .int .i64 0), (3, .int .i64 0), (6, .slice A 2 cap), (7, .int .i64 2), (8, .int .i64 k)] ∧ w = W) 2 ⟨0, rfl, by omega, ⟨rfl, rfl, rfl, rfl, rfl, trivial⟩, rfl⟩ ?_
      rintro m e w ⟨k, hk, hk1, hsl, rfl⟩
      rw [hsl.fold]
      rcases (show k = 0 ∨ k = 1 by omega) with rfl | rfl
      · skip
        repeat refine cw_seq ?_
        refine cw_region ?_
        refine rw_v (op_b (b := true) rfl (decide_eq_true (by omega))) ?_
        first | refine rw_end ?_ | (refine rw_nil ?_; show CW _ _ _ _ _ _) | refine rw_nil ?_
        repeat refine cw_seq ?_
        refine cw_true rfl ?_
        repeat refine cw_seq ?_
        refine cw_skip ?_
        try show CW _ _ _ _ _ _
        repeat refine cw_seq ?_
        refine cw_block ?_
        repeat refine cw_seq ?_
        refine cw_region ?_
        refine rw_v (op_idx Try.underlying113 Try.sizeOf3 rfl rfl sa_A (by omega) (by omega)) ?_
        refine rw_r (op_ldR Try.underlying3 rfl rfl hA rfl) ?_
        refine rw_v (op_pure rfl) ?_
        first | refine rw_end ?_ | (refine rw_nil ?_; show CW _ _ _ _ _ _) | refine rw_nil ?_
        repeat refine cw_seq ?_
        refine cw_region ?_
        iterate 2 refine rw_v (op_pure rfl) ?_
        refine rw_v (op_b (b := false) rfl (bne_eq_false_iff_eq.2 (by omega))) ?_
        first | refine rw_end ?_ | (refine rw_nil ?_; show CW _ _ _ _ _ _) | refine rw_nil ?_
        repeat refine cw_seq ?_
        refine cw_false rfl ?_
        repeat refine cw_seq ?_
        refine cw_skip ?_
        try show CW _ _ _ _ _ _
        repeat refine cw_seq ?_
        refine cw_region ?_
        refine rw_v (op_rng rfl (by omega)) ?_
        refine rw_v (op_pure rfl) ?_
        first | refine rw_end ?_ | (refine rw_nil ?_; show CW _ _ _ _ _ _) | refine rw_nil ?_
        exact ⟨m - 1, by omega, 1, by omega, by omega, ⟨rfl, rfl, rfl, rfl, rfl, trivial⟩, rfl⟩
      · skip
        repeat refine cw_seq ?_
        refine cw_region ?_
        refine rw_v (op_b (b := true) rfl (decide_eq_true (by omega))) ?_
        first | refine rw_end ?_ | (refine rw_nil ?_; show CW _ _ _ _ _ _) | refine rw_nil ?_
        repeat refine cw_seq ?_
        refine cw_true rfl ?_
        repeat refine cw_seq ?_
        refine cw_skip ?_
        try show CW _ _ _ _ _ _
        repeat refine cw_seq ?_
        refine cw_block ?_
        repeat refine cw_seq ?_
        refine cw_region ?_
        refine rw_v (op_idx Try.underlying113 Try.sizeOf3 rfl rfl sa_A (by omega) (by omega)) ?_
        refine rw_r (op_ldR Try.underlying3 rfl rfl hA rfl) ?_
        refine rw_v (op_pure rfl) ?_
        first | refine rw_end ?_ | (refine rw_nil ?_; show CW _ _ _ _ _ _) | refine rw_nil ?_
        repeat refine cw_seq ?_
        refine cw_region ?_
        iterate 2 refine rw_v (op_pure rfl) ?_
        refine rw_v (op_b (b := true) rfl (bne_iff_ne.2 (by omega))) ?_
        first | refine rw_end ?_ | (refine rw_nil ?_; show CW _ _ _ _ _ _) | refine rw_nil ?_
        repeat refine cw_seq ?_
        refine cw_true rfl ?_
        repeat refine cw_seq ?_
        refine cw_region ?_
        iterate 2 refine rw_v (op_pure rfl) ?_
        first | refine rw_end ?_ | (refine rw_nil ?_; show CW _ _ _ _ _ _) | refine rw_nil ?_
        repeat refine cw_seq ?_
        refine cw_ret ?_
        repeat first | refine ret_then ?_ | refine ret_inb ?_
        exact res1 rfl ⟨ie (by rw [if_neg (by simp [hx])]), rfl⟩
  · refine cw_loop (fun m e w => m = 2 ∧ SL e [(2, .int .i64 0), (3, .int .i64 0), (6, .slice A 2 cap), (7, .int .i64 2), (8, .int .i64 0)] ∧ w = W) 2 ⟨rfl, ⟨rfl, rfl, rfl, rfl, rfl, trivial⟩, rfl⟩ ?_
    rintro m e w ⟨hk, hsl, rfl⟩
    rw [hsl.fold]
    repeat refine cw_seq ?_
    refine cw_region ?_
    refine rw_v (op_b (b := true) rfl (decide_eq_true (by omega))) ?_
    first | refine rw_end ?_ | (refine rw_nil ?_; show CW _ _ _ _ _ _) | refine rw_nil ?_
    repeat refine cw_seq ?_
    refine cw_true rfl ?_
    repeat refine cw_seq ?_
    refine cw_skip ?_
    try show CW _ _ _ _ _ _
    repeat refine cw_seq ?_
    refine cw_block ?_
    repeat refine cw_seq ?_
    refine cw_region ?_
    refine rw_v (op_idx Try.underlying113 Try.sizeOf3 rfl rfl sa_A (by omega) (by omega)) ?_
    refine rw_r (op_ldR Try.underlying3 rfl rfl hA rfl) ?_
    refine rw_v (op_pure rfl) ?_
    first | refine rw_end ?_ | (refine rw_nil ?_; show CW _ _ _ _ _ _) | refine rw_nil ?_
    repeat refine cw_seq ?_
    refine cw_region ?_
    iterate 2 refine rw_v (op_pure rfl) ?_
    refine rw_v (op_b (b := true) rfl (bne_iff_ne.2 (by omega))) ?_
    first | refine rw_end ?_ | (refine rw_nil ?_; show CW _ _ _ _ _ _) | refine rw_nil ?_
    repeat refine cw_seq ?_
    refine cw_true rfl ?_
    repeat refine cw_seq ?_
    refine cw_region ?_
    iterate 2 refine rw_v (op_pure rfl) ?_
    first | refine rw_end ?_ | (refine rw_nil ?_; show CW _ _ _ _ _ _) | refine rw_nil ?_
    repeat refine cw_seq ?_
    refine cw_ret ?_
    repeat first | refine ret_then ?_ | refine ret_inb ?_
    exact res1 rfl ⟨ie (by rw [if_pos hx]), rfl⟩
theorem cmpZ_E (gw : Nat) (a b : Zn) : Fn Try.prog 57 [.agg (encZ gw a).toArray, .agg (encZ gw b).toArray] W (RetGw (.int .i64 (cfZ a b)) W) := by
  obtain ⟨W1, hW1⟩ : ∃ W1, W1 = W.alloc (.cells (encZ gw a).toArray 59) := ⟨_, rfl⟩
  obtain ⟨W2, hW2⟩ : ∃ W2, W2 = W1.alloc (.cells (encZ gw b).toArray 59) := ⟨_, rfl⟩
  have hB2 : Blk W2 W1.heap.size 59 (encZ gw b) := by rw [hW2]; exact heap_alloc_new W1 _
  have hB1 : Blk W2 W.heap.size 59 (encZ gw a) := by
    have : Blk W1 W.heap.size 59 (encZ gw a) := by rw [hW1]; exact heap_alloc_new W _
    rw [hW2]; exact this.gr (Gr.alloc W1 _)

  refine Fn_enter Try.func57 rfl Try.results57 Try.ntmps57 (by kernel_rfl) (by kernel_rfl) ?_
  repeat refine cw_seq ?_
  refine cw_region ?_
  refine rw_w (op_box (l := encZ gw a) rfl) ?_
  rw [← hW1]
  refine rw_w (op_box (l := encZ gw b) rfl) ?_
  rw [← hW2]
  refine rw_v (op_pure rfl) ?_
  first | refine rw_end ?_ | (refine rw_nil ?_; show CW _ _ _ _ _ _) | refine rw_nil ?_
  repeat refine cw_seq ?_
  refine cw_region ?_
  refine rw_v (op_fieldAddr Try.underlying59 rfl Try.sizeOf2 rfl rfl) ?_
  refine rw_r (op_loadB Try.underlying2 rfl rfl hB1 rfl) ?_
  refine rw_v (op_fieldAddr Try.underlying59 rfl Try.sizeOf2 rfl rfl) ?_
  refine rw_r (op_loadB Try.underlying2 rfl rfl hB2 rfl) ?_
  refine rw_call rfl (compareX_E a.lb b.lb) ?_
  rintro _ _ ⟨rfl, rfl⟩
  refine rw_v (op_pure rfl) ?_
  first | refine rw_end ?_ | (refine rw_nil ?_; show CW _ _ _ _ _ _) | refine rw_nil ?_
  repeat refine cw_seq ?_
  refine cw_ret ?_
  repeat first | refine ret_then ?_ | refine ret_inb ?_
  refine res1 rfl ⟨rfl, 0, #[.cells (encZ gw a).toArray 59, .cells (encZ gw b).toArray 59], ?_⟩
  rw [hW2, hW1, Sort.alloc_eq_grow, Sort.alloc_eq_grow, Sort.grow_grow]
  rfl
theorem cmpP_E (a b : Pr) : Fn Try.prog 62 [.agg (encPr a).toArray, .agg (encPr b).toArray] W (RetGw (.int .i64 (cfP a b)) W) := by
  obtain ⟨W1, hW1⟩ : ∃ W1, W1 = W.alloc (.cells (encPr a).toArray 67) := ⟨_, rfl⟩
  obtain ⟨W2, hW2⟩ : ∃ W2, W2 = W1.alloc (.cells (encPr b).toArray 67) := ⟨_, rfl⟩
  have hB2 : Blk W2 W1.heap.size 67 (encPr b) := by rw [hW2]; exact heap_alloc_new W1 _
  have hB1 : Blk W2 W.heap.size 67 (encPr a) := by
    have : Blk W1 W.heap.size 67 (encPr a) := by rw [hW1]; exact heap_alloc_new W _
    rw [hW2]; exact this.gr (Gr.alloc W1 _)
  have kB1 : ∀ w, (∃ q, w = W2.drewN q) → Blk w W.heap.size 67 (encPr a) := by rintro w ⟨q, rfl⟩; exact hB1
  have kB2 : ∀ w, (∃ q, w = W2.drewN q) → Blk w W1.heap.size 67 (encPr b) := by rintro w ⟨q, rfl⟩; exact hB2
  have kc : ∀ (x y : Int) w, (∃ q, w = W2.drewN q) → Fn Try.prog 58 [.int .i64 x, .int .i64 y] w (fun v' w' => v' = .int .i64 (cmpI x y) ∧ ∃ q, w' = W2.drewN q) := fun x y w hq => (compareX_E x y).mono fun _ _ ⟨h1, h2⟩ => ⟨h1, h2 ▸ hq⟩

  refine Fn_enter Try.func62 rfl Try.results62 Try.ntmps62 (by kernel_rfl) (by kernel_rfl) ?_
  repeat refine cw_seq ?_
  refine cw_region ?_
  refine rw_w (op_box (l := encPr a) rfl) ?_
  rw [← hW1]
  refine rw_w (op_box (l := encPr b) rfl) ?_
  rw [← hW2]
  refine rw_v (op_pure rfl) ?_
  first | refine rw_end ?_ | (refine rw_nil ?_; show CW _ _ _ _ _ _) | refine rw_nil ?_
  repeat refine cw_seq ?_
  refine cw_tri (C := (fun (_ : List Value) w => ∃ q, w = W2.drewN q)) [99] [0, 1, 2, 3, 5, 6, 7, 8, 4, 9] [10, 11, 12] (by kernel_rfl) (by kernel_rfl) ⟨1, rfl⟩ ?_
  simp only [pickI, pickL, List.drop_succ_cons, List.drop_zero]
  refine rs_v rfl (op_fieldAddr Try.underlying67 rfl Try.sizeOf2 rfl rfl) ?_
  refine rs_r rfl (fun τ wq hq => op_loadB Try.underlying2 rfl rfl (kB1 wq hq) rfl) ?_
  refine rs_v rfl (op_fieldAddr Try.underlying67 rfl Try.sizeOf2 rfl rfl) ?_
  refine rs_r rfl (fun τ wq hq => op_loadB Try.underlying2 rfl rfl (kB2 wq hq) rfl) ?_
  refine rs_v rfl (op_fieldAddr Try.underlying67 rfl Try.sizeOf2 rfl rfl) ?_
  refine rs_r rfl (fun τ wq hq => op_loadB Try.underlying2 rfl rfl (kB1 wq hq) rfl) ?_
  refine rs_v rfl (op_fieldAddr Try.underlying67 rfl Try.sizeOf2 rfl rfl) ?_
  refine rs_r rfl (fun τ wq hq => op_loadB Try.underlying2 rfl rfl (kB2 wq hq) rfl) ?_
  refine rs_call rfl rfl (fun τ wq hq => kc a.a b.a wq hq) ?_
  refine rs_call rfl rfl (fun τ wq hq => kc a.b b.b wq hq) ?_
  refine rs_nil ?_
  rintro wz ⟨q, hz⟩
  refine rw_w (op_buildSlice Try.underlying113 Try.sizeOf3 Try.zeroValue3 rfl rfl rfl rfl rfl) ?_
  refine rw_call rfl (orX_E (cmpI a.a b.a) (cmpI a.b b.b) (Row.rd (Row.of_blk (n := 2) (k := 1) (heap_alloc_new _ _) rfl (by decide)))) ?_
  rintro _ _ ⟨rfl, rfl⟩
  refine rw_v (op_pure rfl) ?_
  first | refine rw_end ?_ | (refine rw_nil ?_; show CW _ _ _ _ _ _) | refine rw_nil ?_
  repeat refine cw_seq ?_
  refine cw_ret ?_
  repeat first | refine ret_then ?_ | refine ret_inb ?_
  refine res1 rfl ⟨rfl, q, #[.cells (encPr a).toArray 67, .cells (encPr b).toArray 67, .cells [.int .i64 (cmpI a.a b.a), .int .i64 (cmpI a.b b.b)].toArray 3], ?_⟩
  rw [hz, hW2, hW1, Sort.alloc_eq_grow, Sort.alloc_eq_grow, Sort.alloc_eq_grow]
  show Sort.grow (Sort.grow (Sort.grow (W.drewN q) _) _) _ = _
  rw [Sort.grow_grow, Sort.grow_grow]
  rfl
end
end Go.Proofs.Yteihfmifelcidaa
