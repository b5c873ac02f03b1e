/- Regions that draw their order: two special operations that come up side by side, in both orders. -/
import Derived.Test.YtbcgbcipigcbhaaTri
namespace Go.Proofs.Ytbcgbcipigcbhaa
open Go.RowKit
set_option linter.unusedVariables false
set_option linter.unusedSimpArgs false

section
variable {P : Program} {ops : Array Oper} {C : List Value → World → Prop} {sp pr : Nat → Bool}
def headPB (ops : Array Oper) (sp pr : Nat → Bool) (tl : List Nat) : List Nat → Array Bool → Bool
  | [], listed => tailB ops tl listed
  | [i], listed => (match sp i with
    | true => decide (Region.ready .any ops listed = [i])
    | false => (Region.ready .any ops listed).contains i && Region.free .any ops listed i) && tailB ops tl (listed.setIfInBounds i true)
  | i :: j :: hd, listed => match pr i with
    | true => sp i && sp j && decide (Region.ready .any ops listed = [i, j]) && decide (Region.ready .any ops (listed.setIfInBounds i true) = [j]) && decide (Region.ready .any ops (listed.setIfInBounds j true) = [i]) && headPB ops sp pr tl hd ((listed.setIfInBounds i true).setIfInBounds j true)
    | false => (match sp i with
      | true => decide (Region.ready .any ops listed = [i])
      | false => (Region.ready .any ops listed).contains i && Region.free .any ops listed i) && headPB ops sp pr tl (j :: hd) (listed.setIfInBounds i true)
def orderPB (ops : Array Oper) (sp pr : Nat → Bool) (hd tl : List Nat) : Bool :=
  Region.noSelect ops && decide (hd.length + tl.length = ops.size) && ((List.range ops.size).all fun i => hd.contains i || tl.contains i) &&
  (tl.all fun t => hd.all fun i => (ancsOf ops ops.size t).contains i) && (tl.all fun t => !hd.contains t) && headPB ops sp pr tl hd (Array.replicate ops.size false)
/-- one step of the walk -/
def wp1 (P : Program) (ops : Array Oper) (C : List Value → World → Prop) (sp : Nat → Bool) (i : Nat) (o : Oper) (K : List Value → Act → Prop) (σ : List Value) (a : Act) : Prop :=
  if Region.wanted o (yielded ops a.tmps) then
    match sp i with
    | true => (∀ w, C σ w → yieldsTo P o a w fun v w' => C (v :: σ) w') ∧ ∀ v w', C (v :: σ) w' → K (v :: σ) (a.put o.dst v)
    | false => ∃ v, (∀ τ w, C τ w → yieldsTo P o a w fun u w' => u = v ∧ C τ w') ∧ K σ (a.put o.dst v)
  else K σ (a.put o.dst undef)
def wpP (P : Program) (ops : Array Oper) (C : List Value → World → Prop) (sp pr : Nat → Bool) (Lq : List Value → Act → Prop) : List (Nat × Oper) → List Value → Act → Prop
  | [], σ, a => Lq σ a
  | [(i, o)], σ, a => wp1 P ops C sp i o Lq σ a
  | (i, o) :: (j, o') :: rest, σ, a => match pr i with
    | true => wp1 P ops C sp i o (wp1 P ops C sp j o' (wpP P ops C sp pr Lq rest)) σ a ∧ wp1 P ops C sp j o' (wp1 P ops C sp i o (wpP P ops C sp pr Lq rest)) σ a
    | false => wp1 P ops C sp i o (wpP P ops C sp pr Lq ((j, o') :: rest)) σ a
theorem sOp_of_wp1 {i : Nat} {o : Oper} {K K' : List Value → Act → Prop} {σ : List Value} {a : Act} (h0 : ops[i]? = some o) (hK : ∀ σ a, K σ a → K' σ a) (h : wp1 P ops C sp i o K σ a) : sOp P ops C sp i K' σ a := by
  refine sOp_mono hK ?_
  unfold sOp
  rw [h0]
  exact h
/-- a plain step, moved ahead of all -/
theorem headS_plain {hd tl : List Nat} {Lq : List Value → Act → Prop} (hsel : Region.noSelect ops = true)
    (hcov : ∀ i, i < ops.size → i ∈ hd ∨ i ∈ tl) (hanc : ∀ t ∈ tl, ∀ i ∈ hd, i ∈ ancsOf ops ops.size t) (hdis : ∀ t ∈ tl, t ∉ hd)
    {i : Nat} {o : Oper} {f : Nat} {listed : Array Bool} {σ : List Value} {a : Act} (h0 : ops[i]? = some o) (hs : sp i = false) (hin : i ∈ hd) (hcl : ClosedL ops listed) (hr : i ∈ Region.ready .any ops listed) (hf : Region.free .any ops listed i = true)
    {K : List Value → Act → Prop} (hq : wp1 P ops C sp i o K σ a) (rec_ : ∀ σ a, K σ a → headS P ops C sp hd (fun listed' σ' a' => tailB ops tl listed' = true ∧ Lq σ' a') f (listed.setIfInBounds i true) σ a) :
    headS P ops C sp hd (fun listed' σ' a' => tailB ops tl listed' = true ∧ Lq σ' a') (f + 1) listed σ a := by
  unfold wp1 at hq
  rw [hs] at hq
  have hy : ∃ v, YieldsS P ops C o v a ∧ K σ (a.put o.dst v) := by
    by_cases hw : Region.wanted o (yielded ops a.tmps) = true
    · rw [if_pos hw] at hq
      obtain ⟨v, h1, h2⟩ := hq
      exact ⟨v, .inl ⟨hw, h1⟩, h2⟩
    · rw [if_neg hw] at hq
      exact ⟨undef, .inr ⟨by simpa using hw, rfl⟩, hq⟩
  obtain ⟨v, hy, hK⟩ := hy
  refine headS_first h0 hs (Region.noSelect_spec hsel) ?_ ?_ f listed σ a hcl (Region.free_spec h0 hf) hr hy (rec_ _ _ hK)
  · intro listed' hcl' hun j hj
    obtain ⟨_, oj, hoj, _⟩ := mem_ready.1 hj
    have hjs : j < ops.size := (Array.getElem?_eq_some_iff.1 hoj).1
    rcases hcov j hjs with hh | hh
    · exact hh
    · have hl1 := ancs_listed hcl' ops.size j (preds_ready hj) i (hanc j hh i hin)
      rcases Nat.lt_or_ge i listed'.size with h' | h'
      · simp [h'] at hun hl1; rw [hun] at hl1; cases hl1
      · simp [Array.getElem?_eq_none h'] at hl1
  · intro listed' σ' a' hL j hj hjh
    have hB := hL.1
    cases htl : tl with
    | nil => simp only [htl, tailB, List.isEmpty_iff] at hB; rw [hB] at hj; cases hj
    | cons t tl' =>
      simp only [htl, tailB, Bool.and_eq_true, decide_eq_true_eq] at hB
      rw [hB.1] at hj
      have : j = t := by simpa using hj
      subst this
      exact hdis j (by simp [htl]) hjh
/-- a special step, alone -/
theorem headS_alone {hd : List Nat} {L : Array Bool → List Value → Act → Prop} {i : Nat} {o : Oper} {f : Nat} {listed : Array Bool} {σ : List Value} {a : Act} (h0 : ops[i]? = some o) (hin : i ∈ hd) (hr : Region.ready .any ops listed = [i])
    {K : List Value → Act → Prop} (hq : wp1 P ops C sp i o K σ a) (rec_ : ∀ σ a, K σ a → headS P ops C sp hd L f (listed.setIfInBounds i true) σ a) : headS P ops C sp hd L (f + 1) listed σ a := by
  refine ⟨by rw [hr]; simp, fun j hj => ?_⟩
  rw [hr] at hj
  obtain rfl : j = i := by simpa using hj
  exact ⟨hin, sOp_of_wp1 h0 rec_ hq⟩
theorem headP_lex {hd tl : List Nat} {Lq : List Value → Act → Prop} (hsel : Region.noSelect ops = true)
    (hcov : ∀ i, i < ops.size → i ∈ hd ∨ i ∈ tl) (hanc : ∀ t ∈ tl, ∀ i ∈ hd, i ∈ ancsOf ops ops.size t) (hdis : ∀ t ∈ tl, t ∉ hd) :
    ∀ (n : Nat) (h : List Nat) (lh : List (Nat × Oper)) (listed : Array Bool) (σ : List Value) (a : Act), h.length ≤ n → (∀ i ∈ h, i ∈ hd) → h.map (fun i => (i, ops[i]?)) = lh.map (fun p => (p.1, some p.2)) → ClosedL ops listed → headPB ops sp pr tl h listed = true →
      wpP P ops C sp pr Lq lh σ a → headS P ops C sp hd (fun listed' σ' a' => tailB ops tl listed' = true ∧ Lq σ' a') h.length listed σ a := by
  intro n
  induction n with
  | zero =>
    intro h lh listed σ a hn _ hl _ hB hq
    obtain rfl : h = [] := List.eq_nil_of_length_eq_zero (by omega)
    have : lh = [] := by cases lh with | nil => rfl | cons => simp at hl
    subst this
    exact ⟨by simpa [headPB] using hB, hq⟩
  | succ n ih =>
    intro h lh listed σ a hn hin hl hcl hB hq
    cases h with
    | nil =>
      have : lh = [] := by cases lh with | nil => rfl | cons => simp at hl
      subst this
      exact ⟨by simpa [headPB] using hB, hq⟩
    | cons i h =>
      cases lh with
      | nil => simp at hl
      | cons p lh =>
        obtain ⟨i', o⟩ := p
        simp only [List.map_cons, List.cons.injEq, Prod.mk.injEq] at hl
        obtain ⟨⟨rfl, h0⟩, hl'⟩ := hl
        have single : ∀ {K : List Value → Act → Prop} {B : Bool}, wp1 P ops C sp i o K σ a → ((match sp i with
            | true => decide (Region.ready .any ops listed = [i])
            | false => (Region.ready .any ops listed).contains i && Region.free .any ops listed i) && B) = true →
            (∀ σ a, K σ a → i ∈ Region.ready .any ops listed → B = true → headS P ops C sp hd (fun listed' σ' a' => tailB ops tl listed' = true ∧ Lq σ' a') h.length (listed.setIfInBounds i true) σ a) →
            headS P ops C sp hd (fun listed' σ' a' => tailB ops tl listed' = true ∧ Lq σ' a') (i :: h).length listed σ a := fun {K B} hw hb rec_ => by
          simp only [Bool.and_eq_true] at hb
          cases hs : sp i with
          | true =>
            rw [hs] at hb
            have hr : Region.ready .any ops listed = [i] := by simpa using hb.1
            exact headS_alone h0 (hin i (by simp)) hr hw (fun σ a hk => rec_ σ a hk (by rw [hr]; simp) hb.2)
          | false =>
            rw [hs] at hb
            simp only [Bool.and_eq_true] at hb
            have hr : i ∈ Region.ready .any ops listed := by simpa using hb.1.1
            exact headS_plain hsel hcov hanc hdis h0 hs (hin i (by simp)) hcl hr hb.1.2 hw (fun σ a hk => rec_ σ a hk hr hb.2)
        cases h with
        | nil =>
          have : lh = [] := by cases lh with | nil => rfl | cons => simp at hl'
          subst this
          exact single hq hB (fun σ a hk _ hb => ⟨hb, hk⟩)
        | cons j h =>
          cases lh with
          | nil => simp at hl'
          | cons q lh =>
            obtain ⟨j', o'⟩ := q
            simp only [List.map_cons, List.cons.injEq, Prod.mk.injEq] at hl'
            obtain ⟨⟨rfl, h1⟩, hl''⟩ := hl'
            cases hp : pr i with
            | false =>
              simp only [headPB, hp] at hB
              simp only [wpP, hp] at hq
              exact single hq hB (fun σ a hk hr hb => ih (j :: h) ((j, o') :: lh) _ σ a (by simp at hn ⊢; omega) (fun k hk => hin k (List.mem_cons_of_mem _ hk)) (by simp [h1, hl'']) (hcl.set hr) hb hk)
            | true =>
              simp only [headPB, hp, Bool.and_eq_true, decide_eq_true_eq] at hB
              simp only [wpP, hp] at hq
              obtain ⟨⟨⟨⟨⟨hsi, hsj⟩, hr⟩, hri⟩, hrj⟩, hB'⟩ := hB
              have hne : i ≠ j := by
                rintro rfl
                have hc := (mem_ready.1 (show i ∈ Region.ready .any ops (listed.setIfInBounds i true) by rw [hri]; simp)).1
                have hlt := (Array.getElem?_eq_some_iff.1 h0).1
                have h2 : (listed.setIfInBounds i true).getD i true = true := by
                  rcases Nat.lt_or_ge i listed.size with h' | h'
                  · simp [h']
                  · simp [Array.getElem?_eq_none h']
                rw [h2] at hc
                cases hc
              have hci : ClosedL ops (listed.setIfInBounds i true) := hcl.set (by rw [hr]; simp)
              have hcj : ClosedL ops (listed.setIfInBounds j true) := hcl.set (by rw [hr]; simp)
              have hrest : ∀ σ a, wpP P ops C sp pr Lq lh σ a → headS P ops C sp hd (fun listed' σ' a' => tailB ops tl listed' = true ∧ Lq σ' a') h.length ((listed.setIfInBounds i true).setIfInBounds j true) σ a :=
                fun σ a hk => ih h lh _ σ a (by simp at hn; omega) (fun k hk => hin k (by simp [hk])) hl'' (hci.set (by rw [hri]; simp)) hB' hk
              refine ⟨by rw [hr]; simp, fun k hk => ?_⟩
              rw [hr] at hk
              simp only [List.mem_cons, List.not_mem_nil, or_false] at hk
              refine ⟨hin k (by rcases hk with rfl | rfl <;> simp), ?_⟩
              by_cases hki : k = i
              · subst hki
                exact sOp_of_wp1 h0 (fun σ a hw => headS_alone h1 (hin j (by simp)) hri hw hrest) hq.1
              · obtain rfl : k = j := by rcases hk with e | e; · exact absurd e hki
                                         · exact e
                refine sOp_of_wp1 h1 (fun σ a hw => headS_alone h0 (hin i (by simp)) hrj hw fun σ a hk => ?_) hq.2
                rw [Array.setIfInBounds_comm _ _ (Ne.symm hne)]
                exact hrest σ a hk

theorem wp_region_pair {id : Nat} {Q : Exit → Act → World → Prop} {a : Act} {w : World} {l : List Oper} (hd tl : List Nat) (lh : List (Nat × Oper)) (lt : List Oper) (hm : P.follows .mixedOrders = true)
    (hB : orderPB l.toArray sp pr hd tl = true) (hh : hd.map (fun i => (i, l.toArray[i]?)) = lh.map (fun p => (p.1, some p.2))) (ht : tl.map (l.toArray[·]?) = lt.map some) (hC : C [] w.drew)
    (h : wpP P l.toArray C sp pr (fun σ a' => ∀ w', C σ w' → wpList P l.toArray Q lt a' w') lh [] a) : (Code.region id l.toArray true).wp P Q a w := by
  simp only [orderPB, Bool.and_eq_true, decide_eq_true_eq] at hB
  obtain ⟨⟨⟨⟨⟨hsel, hlen⟩, hcov⟩, hanc⟩, hdis⟩, hhd⟩ := hB
  have H := headP_lex (P := P) (C := C) (sp := sp) (pr := pr) (Lq := fun σ a' => ∀ w', C σ w' → wpList P l.toArray Q lt a' w') (hd := hd) (tl := tl) hsel
    (fun i hi => by have := List.all_eq_true.1 hcov i (List.mem_range.2 hi); simpa using this)
    (fun t htl i hi => by have := List.all_eq_true.1 (List.all_eq_true.1 hanc t htl) i hi; simpa using this)
    (fun t htl => by have := List.all_eq_true.1 hdis t htl; simpa using this)
    hd.length hd lh (Array.replicate l.toArray.size false) [] a (Nat.le_refl _) (fun _ hi => hi) hh
    (fun i hi => by
      have h0 : ∀ m j : Nat, (Array.replicate m false).getD j false = false := fun m j => by
        rcases Nat.lt_or_ge j m with h' | h'
        · simp [h']
        · simp [h']
      rw [h0] at hi
      cases hi) hhd h
  refine wp_region_any hm ?_
  have := wpAny_of_headS (Q' := Q) (g := tl.length) (fun listed σ a' w' hw' hL => wpAny_of_tail tl lt listed a' w' ht hL.1 (hL.2 w' hw')) _ _ _ _ _ hC H
  rw [hlen] at this
  exact this

/-! ### The same over a frame that is a function -/
def R1P (P : Program) (ops : Array Oper) (C : List Value → World → Prop) (sp : Nat → Bool) (i : Nat) (o : Oper) (K : List Value → (Nat → Value) → Prop) (σ : List Value) (e : Nat → Value) : Prop :=
  if wE ops e o = true then
    match sp i with
    | true => (∀ w, C σ w → opTo P e o w fun v w' => C (v :: σ) w') ∧ ∀ v w', C (v :: σ) w' → K (v :: σ) (updO e o.dst v)
    | false => ∃ v, (∀ τ w, C τ w → opTo P e o w fun u w' => u = v ∧ C τ w') ∧ K σ (updO e o.dst v)
  else K σ (updO e o.dst undef)
def RP (P : Program) (ops : Array Oper) (C : List Value → World → Prop) (sp pr : Nat → Bool) (Q : List Value → (Nat → Value) → Prop) : List (Nat × Oper) → List Value → (Nat → Value) → Prop
  | [], σ, e => Q σ e
  | [(i, o)], σ, e => R1P P ops C sp i o Q σ e
  | (i, o) :: (j, o') :: rest, σ, e => match pr i with
    | true => R1P P ops C sp i o (R1P P ops C sp j o' (RP P ops C sp pr Q rest)) σ e ∧ R1P P ops C sp j o' (R1P P ops C sp i o (RP P ops C sp pr Q rest)) σ e
    | false => R1P P ops C sp i o (RP P ops C sp pr Q ((j, o') :: rest)) σ e
theorem wp1_of_R1P {N : Nat} {i : Nat} {o : Oper} {K : List Value → (Nat → Value) → Prop} {K' : List Value → Act → Prop} {σ : List Value} {e : Nat → Value} {a : Act} (hd : dstOk N o.dst = true) (hr : Rep N e a)
    (hK : ∀ σ e a, Rep N e a → K σ e → K' σ a) (h : R1P P ops C sp i o K σ e) : wp1 P ops C sp i o K' σ a := by
  unfold wp1
  unfold R1P at h
  rw [hr.wanted]
  have hto : ∀ w R, opTo P e o w R → yieldsTo P o a w R := fun w R hh => by unfold yieldsTo; rw [hr.eval]; exact hh
  split
  · rename_i hw
    rw [if_pos hw] at h
    cases hs : sp i with
    | true =>
      rw [hs] at h
      exact ⟨fun w hC => hto _ _ (h.1 w hC), fun v w' hC => hK _ _ _ (hr.put hd v) (h.2 v w' hC)⟩
    | false =>
      rw [hs] at h
      obtain ⟨v, h1, h2⟩ := h
      exact ⟨v, fun τ w hC => hto _ _ (h1 τ w hC), hK _ _ _ (hr.put hd v) h2⟩
  · rename_i hw
    rw [if_neg hw] at h
    exact hK _ _ _ (hr.put hd undef) h
theorem wpP_of_RP {N : Nat} {Q : List Value → (Nat → Value) → Prop} {Q' : List Value → Act → Prop} (hQ : ∀ σ e a, Rep N e a → Q σ e → Q' σ a) :
    ∀ (l : List (Nat × Oper)) (σ : List Value) (e : Nat → Value) (a : Act), (l.all fun p => dstOk N p.2.dst) = true → Rep N e a → RP P ops C sp pr Q l σ e → wpP P ops C sp pr Q' l σ a
  | [], σ, e, a, _, hr, h => hQ σ e a hr h
  | [(i, o)], σ, e, a, hd, hr, h => by
    simp only [List.all_cons, Bool.and_eq_true] at hd
    exact wp1_of_R1P hd.1 hr hQ h
  | (i, o) :: (j, o') :: rest, σ, e, a, hd, hr, h => by
    simp only [List.all_cons, Bool.and_eq_true] at hd
    have rec1 := fun σ e a hr h => wpP_of_RP hQ rest σ e a hd.2.2 hr h
    have rec2 := fun σ e a hr h => wpP_of_RP hQ ((j, o') :: rest) σ e a (by simp only [List.all_cons, Bool.and_eq_true]; exact hd.2) hr h
    cases hp : pr i with
    | true =>
      simp only [RP, hp] at h
      simp only [wpP, hp]
      exact ⟨wp1_of_R1P hd.1 hr (fun σ e a hr h => wp1_of_R1P hd.2.1 hr rec1 h) h.1, wp1_of_R1P hd.2.1 hr (fun σ e a hr h => wp1_of_R1P hd.1 hr rec1 h) h.2⟩
    | false =>
      simp only [RP, hp] at h
      simp only [wpP, hp]
      exact wp1_of_R1P hd.1 hr rec2 h
theorem cw_pair {N : Nat} {Q : Exit → (Nat → Value) → World → Prop} {e : Nat → Value} {w : World} {id : Nat} {l : List Oper} (sp pr : List Nat) (hd tl : List Nat) (hm : P.follows .mixedOrders = true)
    (hB : (orderPB l.toArray (fun i => sp.contains i) (fun i => pr.contains i) hd tl && (hd.all fun i => decide (i < l.length)) && (tl.all fun i => decide (i < l.length))) = true) (hC : C [] w.drew)
    (h : RP P l.toArray C (fun i => sp.contains i) (fun i => pr.contains i) (fun σ e' => ∀ w', C σ w' → RW P l.toArray (fun e w => Q .normal e w) (pickL l tl) e' w') (pickI l hd) [] e) : CW P N (.region id l.toArray true) Q e w := fun hk a hr => by
  simp only [Bool.and_eq_true] at hB
  simp only [codeOk] at hk
  have hsub : ∀ is : List Nat, (is.all fun i => decide (i < l.length)) = true → ((pickL l is).all fun o => dstOk N o.dst) = true := fun is his => by
    have h1 := pickL_map l is his
    refine List.all_eq_true.2 fun o ho => ?_
    have h2 : some o ∈ (pickL l is).map some := List.mem_map.2 ⟨o, ho, rfl⟩
    rw [← h1] at h2
    obtain ⟨i, _, hi⟩ := List.mem_map.1 h2
    have h3 : l[i]? = some o := by simpa using hi
    exact List.all_eq_true.1 hk o (List.mem_of_getElem? h3)
  have hsubI : ∀ is : List Nat, (is.all fun i => decide (i < l.length)) = true → ((pickI l is).all fun p => dstOk N p.2.dst) = true := fun is his => by
    have h1 := pickI_map l is his
    refine List.all_eq_true.2 fun p hp => ?_
    have h2 : (p.1, some p.2) ∈ (pickI l is).map (fun p => (p.1, some p.2)) := List.mem_map.2 ⟨p, hp, rfl⟩
    rw [← h1] at h2
    obtain ⟨i, _, hi⟩ := List.mem_map.1 h2
    simp only [Prod.mk.injEq] at hi
    have h3 : l[i]? = some p.2 := by simpa using hi.2
    exact List.all_eq_true.1 hk p.2 (List.mem_of_getElem? h3)
  refine wp_region_pair (C := C) hd tl _ _ hm hB.1.1 (pickI_map l hd hB.1.2) (pickL_map l tl hB.2) hC ?_
  exact wpP_of_RP (fun σ e' a' hr' hq w' hw' => wpList_of_RW (fun e a w hr h => ⟨e, hr, h⟩) _ e' a' w' (hsub tl hB.2) hr' (hq w' hw')) _ [] e a (hsubI hd hB.1.2) hr h
/-- plain steps, till the pair -/
theorem rp_plain {Qs : List Value → (Nat → Value) → Prop} {σ : List Value} {e : Nat → Value} {i : Nat} {o : Oper} {j : Nat} {o' : Oper} {rest : List (Nat × Oper)} (hp : pr i = false) (h : RS P ops C sp (fun σ e => RP P ops C sp pr Qs ((j, o') :: rest) σ e) [(i, o)] σ e) : RP P ops C sp pr Qs ((i, o) :: (j, o') :: rest) σ e := by
  simp only [RP, hp]
  exact h
theorem rp_pair {Qs : List Value → (Nat → Value) → Prop} {σ : List Value} {e : Nat → Value} {i : Nat} {o : Oper} {j : Nat} {o' : Oper} {rest : List (Nat × Oper)} (hp : pr i = true) (h1 : RS P ops C sp (fun σ e => RP P ops C sp pr Qs rest σ e) [(i, o), (j, o')] σ e) (h2 : RS P ops C sp (fun σ e => RP P ops C sp pr Qs rest σ e) [(j, o'), (i, o)] σ e) :
    RP P ops C sp pr Qs ((i, o) :: (j, o') :: rest) σ e := by
  simp only [RP, hp]
  exact ⟨h1, h2⟩
theorem rp_nil {Qs : List Value → (Nat → Value) → Prop} {σ : List Value} {e : Nat → Value} (h : Qs σ e) : RP P ops C sp pr Qs [] σ e := h
end
end Go.Proofs.Ytbcgbcipigcbhaa
