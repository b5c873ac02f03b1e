/- Regions that draw their order, of two parts: a head whose operations read, or call functions that leave what was there as it was, in whatever order; and a tail of operations that wait for all of the head and follow each other. The walk goes through the head in an order of one's own choice, over a class of worlds, and then through the tail. -/
import Derived.Test.YtbcgbcipigcbhaaGrow
namespace Go.Proofs.Ytbcgbcipigcbhaa
open Go.RowKit
set_option linter.unusedVariables false
set_option linter.unusedSimpArgs false

section
variable {P : Program} {ops : Array Oper} {C : World → Prop}

def predsOf (ops : Array Oper) (i : Nat) : List Nat :=
  match ops[i]? with
  | some o => (o.after.toList.filter (Region.binds .any)).map (·.on)
  | none => []
def ancsOf (ops : Array Oper) : Nat → Nat → List Nat
  | 0, _ => []
  | f + 1, i => predsOf ops i ++ (predsOf ops i).flatMap (ancsOf ops f)
/-- What has come up has come up behind what it waits for. -/
def ClosedL (ops : Array Oper) (listed : Array Bool) : Prop := ∀ i, listed.getD i false = true → ∀ j ∈ predsOf ops i, listed.getD j false = true

theorem preds_ready {listed : Array Bool} {i : Nat} (h : i ∈ Region.ready .any ops listed) : ∀ j ∈ predsOf ops i, listed.getD j false = true := by
  obtain ⟨_, o, ho, hall⟩ := mem_ready.1 h
  intro j hj
  simp only [predsOf, ho, List.mem_map, List.mem_filter] at hj
  obtain ⟨e, ⟨he, hb⟩, rfl⟩ := hj
  exact hall e (by simpa using he) hb
theorem ancs_listed {listed : Array Bool} (hc : ClosedL ops listed) : ∀ (f i : Nat), (∀ j ∈ predsOf ops i, listed.getD j false = true) → ∀ j ∈ ancsOf ops f i, listed.getD j false = true
  | 0, _, _, _, h => by simp [ancsOf] at h
  | f + 1, i, hp, j, h => by
    simp only [ancsOf, List.mem_append, List.mem_flatMap] at h
    rcases h with h | ⟨k, hk, h⟩
    · exact hp j h
    · exact ancs_listed hc f k (hc k (hp k hk)) j h
theorem ClosedL.set {listed : Array Bool} {i : Nat} (hc : ClosedL ops listed) (hr : i ∈ Region.ready .any ops listed) : ClosedL ops (listed.setIfInBounds i true) := by
  intro k hk j hj
  by_cases hik : i = k
  · subst hik
    exact getD_set_true (preds_ready hr j hj)
  · rw [getD_set_ne false hik] at hk
    exact getD_set_true (hc k hk j hj)

/-- Whatever of the head comes up. -/
def headAny (P : Program) (ops : Array Oper) (C : World → Prop) (hd : List Nat) (L : Array Bool → Act → Prop) : Nat → Array Bool → Act → Prop
  | 0, listed, a => L listed a
  | f + 1, listed, a => Region.ready .any ops listed ≠ [] ∧ ∀ i ∈ Region.ready .any ops listed, i ∈ hd ∧ qOp P ops C i (headAny P ops C hd L f (listed.setIfInBounds i true)) a

theorem wpAny_of_headAny {hd : List Nat} {L : Array Bool → Act → Prop} {Q' : Exit → Act → World → Prop} {g : Nat} (hL : ∀ listed a w, C w → L listed a → wpAny P .any ops Q' g listed a w) :
    ∀ (f : Nat) (listed : Array Bool) (a : Act) (w : World), C w → headAny P ops C hd L f listed a → wpAny P .any ops Q' (f + g) listed a w
  | 0, listed, a, w, hw, h => by rw [Nat.zero_add]; exact hL _ _ _ hw h
  | f + 1, listed, a, w, hw, h => by
    rw [show f + 1 + g = (f + g) + 1 by omega]
    exact ⟨fun h0 => absurd h0 h.1, fun i hi => wpOp_of_qOp hw (fun a' w' hw' h' => wpAny_of_headAny hL f _ a' w' hw' h') (h.2 i hi).2⟩

theorem headAny_first {hd : List Nat} {L : Array Bool → Act → Prop} {i : Nat} {oi : Oper} {v : Value} (hi : ops[i]? = some oi)
    (hsel : ∀ (j : Nat) (o : Oper) cs b, ops[j]? = some o → o.op ≠ .select cs b)
    (hhd : ∀ (listed : Array Bool), ClosedL ops listed → listed.getD i true = false → ∀ j ∈ Region.ready .any ops listed, j ∈ hd)
    (hdone : ∀ listed a, L listed a → ∀ j ∈ Region.ready .any ops listed, j ∉ hd) :
    ∀ (f : Nat) (listed : Array Bool) (a : Act), ClosedL ops listed →
      (∀ j oj, ops[j]? = some oj → j ≠ i → listed.getD j true = false → (∀ e ∈ oj.after, Region.binds .any e = true → e.on ≠ i) → oi.apart ops oj = true) →
      i ∈ Region.ready .any ops listed → YieldsIn P ops C oi v a →
      headAny P ops C hd L f (listed.setIfInBounds i true) (a.put oi.dst v) → headAny P ops C hd L (f + 1) listed a := by
  intro f
  induction f with
  | zero =>
    intro listed a hcl _ hr hy H
    refine ⟨fun h => (by rw [h] at hr; cases hr), fun j hj => ?_⟩
    have hjh := hhd listed hcl (mem_ready.1 hr).1 j hj
    refine ⟨hjh, ?_⟩
    by_cases hji : j = i
    · subst hji; exact hy.qOp hi H
    · exact absurd hjh (hdone _ _ H j (ready_mono hj hji))
  | succ f ih =>
    intro listed a hcl hfree hr hy H
    have hun := (mem_ready.1 hr).1
    refine ⟨fun h => (by rw [h] at hr; cases hr), fun j hj => ?_⟩
    refine ⟨hhd listed hcl hun j hj, ?_⟩
    by_cases hji : j = i
    · subst hji; exact hy.qOp hi H
    · have h1 := (H.2 j (ready_mono hj hji)).2
      obtain ⟨hjun, oj, hoj, hall⟩ := mem_ready.1 hj
      have hnot : ∀ e ∈ oj.after, Region.binds .any e = true → e.on ≠ i := fun e he hb heq => by
        have h2 := hall e he hb
        rw [heq] at h2
        rcases Nat.lt_or_ge i listed.size with h' | h'
        · simp [h'] at hun h2; rw [hun] at h2; cases h2
        · simp [Array.getElem?_eq_none h'] at h2
      have h2 := qOp_put hoj (hfree j oj hoj hji hjun hnot) (fun cs b => hsel i oi cs b hi) (fun cs b => hsel j oj cs b hoj) hy h1
      have hfree' : ∀ k ok, ops[k]? = some ok → k ≠ i → (listed.setIfInBounds j true).getD k true = false →
          (∀ e ∈ ok.after, Region.binds .any e = true → e.on ≠ i) → oi.apart ops ok = true := fun k ok hk hki hun' hno => by
        refine hfree k ok hk hki ?_ hno
        by_cases hjk : j = k
        · subst hjk; exact hjun
        · rw [getD_set_ne true hjk] at hun'; exact hun'
      refine qOp_mono (fun a' h3 => ih (listed.setIfInBounds j true) a' (hcl.set hj) hfree' (ready_mono hr (Ne.symm hji)) h3.1 ?_) h2
      rw [Array.setIfInBounds_comm _ _ hji]
      exact h3.2

/-- The tail: one at a time. -/
def tailB (ops : Array Oper) : List Nat → Array Bool → Bool
  | [], listed => (Region.ready .any ops listed).isEmpty
  | t :: tl, listed => decide (Region.ready .any ops listed = [t]) && tailB ops tl (listed.setIfInBounds t true)
def headB (ops : Array Oper) (tl : List Nat) : List Nat → Array Bool → Bool
  | [], listed => tailB ops tl listed
  | i :: hd, listed => (Region.ready .any ops listed).contains i && Region.free .any ops listed i && headB ops tl hd (listed.setIfInBounds i true)
def orderB (ops : Array Oper) (hd tl : List Nat) : Bool :=
  Region.noSelect ops && decide (hd.length + tl.length = ops.size) && ((List.range ops.size).all fun i => hd.contains i || tl.contains i) &&
  (tl.all fun t => hd.all fun i => (ancsOf ops ops.size t).contains i) && (tl.all fun t => !hd.contains t) && headB ops tl hd (Array.replicate ops.size false)

theorem wpAny_of_tail {Q' : Exit → Act → World → Prop} : ∀ (tl : List Nat) (lt : List Oper) (listed : Array Bool) (a : Act) (w : World), tl.map (ops[·]?) = lt.map some → tailB ops tl listed = true →
    wpList P ops Q' lt a w → wpAny P .any ops Q' tl.length listed a w
  | [], lt, listed, a, w, hl, hB, h => by
    have : lt = [] := by cases lt with | nil => rfl | cons => simp at hl
    subst this
    exact ⟨by simpa [tailB] using hB, h⟩
  | t :: tl, [], listed, a, w, hl, hB, h => by simp at hl
  | t :: tl, o :: lt, listed, a, w, hl, hB, h => by
    simp only [List.map_cons, List.cons.injEq] at hl
    simp only [tailB, Bool.and_eq_true, decide_eq_true_eq] at hB
    refine ⟨fun h1 => (by rw [hB.1] at h1; cases h1), fun i hi => ?_⟩
    rw [hB.1] at hi
    have hik : i = t := by simpa using hi
    subst hik
    have hw : wpOp P ops Q' i (wpList P ops Q' lt) a w := by unfold wpOp; simp only [hl.1]; exact h
    exact wpOp_mono (fun a' w' h' => wpAny_of_tail tl lt _ a' w' hl.2 hB.2 h') hw

theorem headAny_lex {hd tl : List Nat} {Lq : Act → Prop} (hsel : Region.noSelect ops = true)
    (hcov : ∀ i, i < ops.size → i ∈ hd ∨ i ∈ tl) (hanc : ∀ t ∈ tl, ∀ i ∈ hd, i ∈ ancsOf ops ops.size t) (hdis : ∀ t ∈ tl, t ∉ hd) :
    ∀ (h : List Nat) (lh : List Oper) (listed : Array Bool) (a : Act), (∀ i ∈ h, i ∈ hd) → h.map (ops[·]?) = lh.map some → ClosedL ops listed → headB ops tl h listed = true →
      wpQuiet P ops C Lq lh a → headAny P ops C hd (fun listed' a' => tailB ops tl listed' = true ∧ Lq a') h.length listed a
  | [], lh, listed, a, _, hl, _, hB, hq => by
    have : lh = [] := by cases lh with | nil => rfl | cons => simp at hl
    subst this
    exact ⟨by simpa [headB] using hB, hq⟩
  | i :: h, [], listed, a, _, hl, _, hB, hq => by simp at hl
  | i :: h, o :: lh, listed, a, hin, hl, hcl, hB, hq => by
    simp only [List.map_cons, List.cons.injEq] at hl
    have h0 : ops[i]? = some o := hl.1
    simp only [headB, Bool.and_eq_true] at hB
    obtain ⟨⟨hr, hf⟩, hB'⟩ := hB
    have hr' : i ∈ Region.ready .any ops listed := by simpa using hr
    have hst : qOp P ops C i (wpQuiet P ops C Lq lh) a := by unfold qOp; simp only [h0]; exact hq
    obtain ⟨v, hy, hK⟩ := yieldsIn_of_qOp h0 hst
    refine headAny_first h0 (Region.noSelect_spec hsel) ?_ ?_ h.length listed a hcl (Region.free_spec h0 hf) hr' hy
      (headAny_lex hsel hcov hanc hdis h lh _ _ (fun j hj => hin j (List.mem_cons_of_mem _ hj)) hl.2 (hcl.set hr') hB' hK)
    · intro listed' hcl' hun j hj
      obtain ⟨_, oj, hoj, _⟩ := mem_ready.1 hj
      have hjs : j < ops.size := (Array.getElem?_eq_some_iff.1 hoj).1
      rcases hcov j hjs with hh | hh
      · exact hh
      · have hl1 := ancs_listed hcl' ops.size j (preds_ready hj) i (hanc j hh i (hin i (by simp)))
        rcases Nat.lt_or_ge i listed'.size with h' | h'
        · simp [h'] at hun hl1; rw [hun] at hl1; cases hl1
        · simp [Array.getElem?_eq_none h'] at hl1
    · intro listed' a' hL j hj hjh
      have hB := hL.1
      cases htl : tl with
      | nil => simp only [htl, tailB, List.isEmpty_iff] at hB; rw [hB] at hj; cases hj
      | cons t tl' =>
        simp only [htl, tailB, Bool.and_eq_true, decide_eq_true_eq] at hB
        rw [hB.1] at hj
        have : j = t := by simpa using hj
        subst this
        exact hdis j (by simp [htl]) hjh

/-- A HEAD IN WHATEVER ORDER, THEN A TAIL. -/
theorem wp_region_two {id : Nat} {Q : Exit → Act → World → Prop} {a : Act} {w : World} {l : List Oper} (hd tl : List Nat) (lh lt : List Oper) (hm : P.follows .mixedOrders = true)
    (hB : orderB l.toArray hd tl = true) (hh : hd.map (l.toArray[·]?) = lh.map some) (ht : tl.map (l.toArray[·]?) = lt.map some) (hC : C w.drew)
    (h : wpQuiet P l.toArray C (fun a' => ∀ w', C w' → wpList P l.toArray Q lt a' w') lh a) : (Code.region id l.toArray true).wp P Q a w := by
  simp only [orderB, Bool.and_eq_true, decide_eq_true_eq] at hB
  obtain ⟨⟨⟨⟨⟨hsel, hlen⟩, hcov⟩, hanc⟩, hdis⟩, hhd⟩ := hB
  have H := headAny_lex (P := P) (C := C) (Lq := fun a' => ∀ w', C w' → wpList P l.toArray Q lt a' w') (hd := hd) (tl := tl) hsel
    (fun i hi => by have := List.all_eq_true.1 hcov i (List.mem_range.2 hi); simpa using this)
    (fun t htl i hi => by have := List.all_eq_true.1 (List.all_eq_true.1 hanc t htl) i hi; simpa using this)
    (fun t htl => by have := List.all_eq_true.1 hdis t htl; simpa using this)
    hd lh (Array.replicate l.toArray.size false) a (fun _ hi => hi) hh
    (fun i hi => by
      have h0 : ∀ m j : Nat, (Array.replicate m false).getD j false = false := fun m j => by
        rcases Nat.lt_or_ge j m with h' | h'
        · simp [h']
        · simp [h']
      rw [h0] at hi
      cases hi) hhd h
  refine wp_region_any hm ?_
  have := wpAny_of_headAny (Q' := Q) (g := tl.length) (fun listed a' w' hw' hL => wpAny_of_tail tl lt listed a' w' ht hL.1 (hL.2 w' hw')) _ _ _ _ hC H
  rw [hlen] at this
  exact this
end

def pickL (l : List Oper) : List Nat → List Oper
  | [] => []
  | i :: is => match l.drop i with
    | o :: _ => o :: pickL l is
    | [] => pickL l is
theorem pickL_map (l : List Oper) : ∀ is : List Nat, (is.all fun i => decide (i < l.length)) = true → is.map (l.toArray[·]?) = (pickL l is).map some
  | [], _ => rfl
  | i :: is, h => by
    simp only [List.all_cons, Bool.and_eq_true, decide_eq_true_eq] at h
    simp only [pickL, List.drop_eq_getElem_cons h.1, List.map_cons, pickL_map l is h.2]
    simp [h.1]

/-- over the worlds grown from the one at hand -/
theorem wp_region_grow_two {P : Program} {id : Nat} {Q : Exit → Act → World → Prop} {a : Act} {w : World} {l : List Oper} (hd tl : List Nat) (hm : P.follows .mixedOrders = true)
    (hB : (orderB l.toArray hd tl && (hd.all fun i => decide (i < l.length)) && (tl.all fun i => decide (i < l.length))) = true)
    (h : wpQuiet P l.toArray (fun w' => ∃ g : Grew w, w' = g.at_) (fun a' => ∀ w', (∃ g : Grew w, w' = g.at_) → wpList P l.toArray Q (pickL l tl) a' w') (pickL l hd) a) : (Code.region id l.toArray true).wp P Q a w := by
  simp only [Bool.and_eq_true] at hB
  exact wp_region_two (C := fun w' => ∃ g : Grew w, w' = g.at_) hd tl _ _ hm hB.1.1 (pickL_map l hd hB.1.2) (pickL_map l tl hB.2) ⟨⟨w.drew, (Below.refl _ _).drew⟩, rfl⟩ h
/-- over the very world, but for draws -/
theorem wp_region_still_two {P : Program} {id : Nat} {Q : Exit → Act → World → Prop} {a : Act} {w : World} {l : List Oper} (hd tl : List Nat) (hm : P.follows .mixedOrders = true)
    (hB : (orderB l.toArray hd tl && (hd.all fun i => decide (i < l.length)) && (tl.all fun i => decide (i < l.length))) = true)
    (h : wpQuiet P l.toArray (fun w' => ∃ n, w' = w.drewN n) (fun a' => ∀ w', (∃ n, w' = w.drewN n) → wpList P l.toArray Q (pickL l tl) a' w') (pickL l hd) a) : (Code.region id l.toArray true).wp P Q a w := by
  simp only [Bool.and_eq_true] at hB
  exact wp_region_two (C := fun w' => ∃ n, w' = w.drewN n) hd tl _ _ hm hB.1.1 (pickL_map l hd hB.1.2) (pickL_map l tl hB.2) ⟨1, rfl⟩ h
end Go.Proofs.Ytbcgbcipigcbhaa
