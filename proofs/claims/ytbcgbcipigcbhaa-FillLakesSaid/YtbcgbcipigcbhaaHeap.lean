/- container/heap, over whatever holds jobs: what going up, going down, pushing and popping do. -/
import Derived.Test.YtbcgbcipigcbhaaSep
namespace Go.Proofs.Ytbcgbcipigcbhaa
open Go.RowKit
set_option linter.unusedVariables false
set_option linter.unusedSimpArgs false
set_option maxRecDepth 100000

/-! ### Heaps, the plain law -/
abbrev Job := Int × Nat
def jobAt (l : List Job) (i : Nat) : Job := l.getD i (0, 0)
def swapJ (l : List Job) (i j : Nat) : List Job := (l.set i (jobAt l j)).set j (jobAt l i)
theorem swapJ_len (l : List Job) (i j : Nat) : (swapJ l i j).length = l.length := by simp [swapJ]
theorem jobAt_get {l : List Job} {i : Nat} (h : i < l.length) : l[i]? = some (jobAt l i) := by
  rw [jobAt, List.getD_eq_getElem?_getD, List.getElem?_eq_getElem h]; rfl
theorem jobAt_of {l : List Job} {i : Nat} {x : Job} (h : l[i]? = some x) : jobAt l i = x := by
  rw [jobAt, List.getD_eq_getElem?_getD, h]; rfl
theorem jobAt_swap {l : List Job} {i j : Nat} (hi : i < l.length) (hj : j < l.length) (k : Nat) : jobAt (swapJ l i j) k = if k = j then jobAt l i else if k = i then jobAt l j else jobAt l k := by
  unfold swapJ
  by_cases e1 : k = j
  · rw [if_pos e1]; exact jobAt_of (by rw [e1, List.getElem?_set, if_pos rfl, List.length_set, if_pos hj])
  · rw [if_neg e1]
    by_cases e2 : k = i
    · rw [if_pos e2]; exact jobAt_of (by rw [e2, List.getElem?_set, if_neg (by rw [e2] at e1; exact fun h => e1 h.symm), List.getElem?_set, if_pos rfl, if_pos hi])
    · rw [if_neg e2]
      show (List.set _ _ _).getD k (0, 0) = l.getD k (0, 0)
      rw [List.getD_eq_getElem?_getD, List.getD_eq_getElem?_getD, List.getElem?_set, if_neg (fun h => e1 h.symm), List.getElem?_set, if_neg (fun h => e2 h.symm)]
theorem mem_jobAt {l : List Job} {x : Job} : x ∈ l ↔ ∃ k, k < l.length ∧ jobAt l k = x := by
  constructor
  · intro h
    obtain ⟨k, hk⟩ := List.mem_iff_getElem?.1 h
    exact ⟨k, (List.getElem?_eq_some_iff.1 hk).1, jobAt_of hk⟩
  · rintro ⟨k, hk, rfl⟩
    exact List.mem_of_getElem? (jobAt_get hk)
theorem mem_swapJ {l : List Job} {i j : Nat} (hi : i < l.length) (hj : j < l.length) (x : Job) : x ∈ swapJ l i j ↔ x ∈ l := by
  have half : ∀ (l : List Job), i < l.length → j < l.length → ∀ x, x ∈ swapJ l i j → x ∈ l := by
    intro l hi hj x hx
    obtain ⟨k, hk, he⟩ := mem_jobAt.1 hx
    rw [swapJ_len] at hk
    rw [jobAt_swap hi hj] at he
    split at he
    · exact mem_jobAt.2 ⟨i, hi, he⟩
    · split at he
      · exact mem_jobAt.2 ⟨j, hj, he⟩
      · exact mem_jobAt.2 ⟨k, hk, he⟩
  refine ⟨half l hi hj x, fun hx => ?_⟩
  obtain ⟨k, hk, he⟩ := mem_jobAt.1 hx
  refine mem_jobAt.2 ?_
  rw [swapJ_len]
  by_cases e1 : k = i
  · exact ⟨j, hj, by rw [jobAt_swap hi hj, if_pos rfl, ← e1]; exact he⟩
  · by_cases e2 : k = j
    · refine ⟨i, hi, ?_⟩
      rw [jobAt_swap hi hj]
      by_cases e3 : i = j
      · rw [if_pos e3, e3, ← e2]; exact he
      · rw [if_neg e3, if_pos rfl, ← e2]; exact he
    · exact ⟨k, hk, by rw [jobAt_swap hi hj, if_neg e2, if_neg e1]; exact he⟩
def HeapN (l : List Job) (n : Nat) : Prop := ∀ k, 0 < k → k < n → (jobAt l ((k - 1) / 2)).1 ≤ (jobAt l k).1
structure UpInv (l : List Job) (j : Nat) : Prop where
  lt : j < l.length
  ok : ∀ k, 0 < k → k < l.length → k ≠ j → (jobAt l ((k - 1) / 2)).1 ≤ (jobAt l k).1
  kids : 0 < j → ∀ k, 0 < k → k < l.length → (k - 1) / 2 = j → (jobAt l ((j - 1) / 2)).1 ≤ (jobAt l k).1
structure DnInv (l : List Job) (n i : Nat) : Prop where
  le : n ≤ l.length
  ok : ∀ k, 0 < k → k < n → (k - 1) / 2 ≠ i → (jobAt l ((k - 1) / 2)).1 ≤ (jobAt l k).1
  kids : 0 < i → ∀ k, 0 < k → k < n → (k - 1) / 2 = i → (jobAt l ((i - 1) / 2)).1 ≤ (jobAt l k).1
section
variable {l : List Job} {i j n : Nat}
theorem UpInv.push {x : Job} (h : HeapN l l.length) : UpInv (l ++ [x]) l.length := by
  have e : ∀ k, k < l.length → jobAt (l ++ [x]) k = jobAt l k := fun k hk => by unfold jobAt; rw [List.getD_eq_getElem?_getD, List.getD_eq_getElem?_getD, List.getElem?_append_left hk]
  refine ⟨by simp, fun k h0 hk hne => ?_, fun _ k h0 hk hp => ?_⟩
  · simp at hk
    rw [e k (by omega), e _ (by omega)]
    exact h k h0 (by omega)
  · simp at hk; omega
theorem UpInv.stop (h : UpInv l j) (hs : j = 0 ∨ (jobAt l ((j - 1) / 2)).1 ≤ (jobAt l j).1) : HeapN l l.length := by
  intro k h0 hk
  by_cases e : k = j
  · subst e
    rcases hs with e | e
    · omega
    · exact e
  · exact h.ok k h0 hk e
theorem UpInv.up (h : UpInv l j) (h0 : 0 < j) (hlt : (jobAt l j).1 < (jobAt l ((j - 1) / 2)).1) : UpInv (swapJ l ((j - 1) / 2) j) ((j - 1) / 2) := by
  have hj := h.lt
  have hi : (j - 1) / 2 < l.length := by omega
  have hs := jobAt_swap hi hj
  generalize ei : (j - 1) / 2 = i at *
  refine ⟨by rw [swapJ_len]; exact hi, fun k k0 hk hne => ?_, fun i0 k k0 hk hp => ?_⟩
  · rw [swapJ_len] at hk
    rw [hs, hs]
    by_cases ek : k = j
    · subst ek; rw [if_pos rfl, if_neg (by omega), if_pos (by omega)]; omega
    · rw [if_neg ek, if_neg hne]
      by_cases e1 : (k - 1) / 2 = j
      · rw [if_pos e1]; have := h.kids h0 k k0 hk e1; rw [ei] at this; exact this
      · rw [if_neg e1]
        by_cases e2 : (k - 1) / 2 = i
        · rw [if_pos e2]
          have := h.ok k k0 hk ek
          rw [e2] at this; omega
        · rw [if_neg e2]; exact h.ok k k0 hk ek
  · rw [swapJ_len] at hk
    rw [hs, hs, if_neg (show (i - 1) / 2 ≠ j by omega), if_neg (show (i - 1) / 2 ≠ i by omega)]
    have h1 := h.ok i i0 hi (by omega)
    by_cases ek : k = j
    · rw [if_pos ek]; exact h1
    · rw [if_neg ek, if_neg (by omega)]
      have := h.ok k k0 hk ek
      rw [hp] at this; omega
theorem DnInv.stop (h : DnInv l n i) (hs : ∀ k, 0 < k → k < n → (k - 1) / 2 = i → (jobAt l i).1 ≤ (jobAt l k).1) : HeapN l n := by
  intro k h0 hk
  by_cases e : (k - 1) / 2 = i
  · rw [e]; exact hs k h0 hk e
  · exact h.ok k h0 hk e
theorem DnInv.down (h : DnInv l n i) (hj : j < n) (hj0 : 0 < j) (hp : (j - 1) / 2 = i) (hlt : (jobAt l j).1 < (jobAt l i).1) (hmin : ∀ k, 0 < k → k < n → (k - 1) / 2 = i → (jobAt l j).1 ≤ (jobAt l k).1) : DnInv (swapJ l i j) n j := by
  have hle := h.le
  have hs := jobAt_swap (l := l) (i := i) (j := j) (by omega) (by omega)
  refine ⟨by rw [swapJ_len]; exact hle, fun k k0 hk hne => ?_, fun _ k k0 hk hpk => ?_⟩
  · rw [hs, hs]
    rw [if_neg hne]
    by_cases ek : k = j
    · subst ek; rw [if_pos hp, if_pos rfl]; omega
    · rw [if_neg ek]
      by_cases e1 : (k - 1) / 2 = i
      · rw [if_pos e1, if_neg (by omega)]; exact hmin k k0 hk e1
      · rw [if_neg e1]
        by_cases e2 : k = i
        · rw [if_pos e2]
          subst e2
          exact h.kids k0 j hj0 hj hp
        · rw [if_neg e2]; exact h.ok k k0 hk e1
  · rw [hs, hs, hp, if_neg (by omega), if_pos rfl, if_neg (by omega), if_neg (by omega)]
    have := h.ok k k0 hk (by omega)
    rw [hpk] at this; exact this
theorem HeapN.min (h : HeapN l n) : ∀ k, k < n → (jobAt l 0).1 ≤ (jobAt l k).1 := by
  intro k
  induction k using Nat.strongRecOn with
  | _ k ih =>
    intro hk
    by_cases e : k = 0
    · subst e; exact Int.le_refl _
    · have h1 := ih ((k - 1) / 2) (by omega) (by omega)
      have h2 := h k (by omega) hk
      omega
theorem DnInv.pop (h : HeapN l l.length) (h0 : 0 < l.length) : DnInv (swapJ l 0 (l.length - 1)) (l.length - 1) 0 := by
  have hs := jobAt_swap (l := l) (i := 0) (j := l.length - 1) (by omega) (by omega)
  refine ⟨by rw [swapJ_len]; omega, fun k k0 hk hne => ?_, fun e => by omega⟩
  rw [hs, hs, if_neg (by omega), if_neg hne, if_neg (by omega), if_neg (by omega)]
  exact h k k0 (by omega)
/-- what is left when the last one is taken off -/
theorem take_last {m : Nat} (hm : l.length = m + 1) (x : Job) : x ∈ l ↔ x = jobAt l m ∨ x ∈ l.take m := by
  rw [mem_jobAt]
  constructor
  · rintro ⟨k, hk, rfl⟩
    by_cases e : k = m
    · exact .inl (by rw [e])
    · refine .inr (List.mem_of_getElem? (i := k) ?_)
      rw [List.getElem?_take, if_pos (by omega)]
      exact jobAt_get hk
  · rintro (rfl | hx)
    · exact ⟨m, by omega, rfl⟩
    · exact mem_jobAt.1 (List.mem_of_mem_take hx)
theorem jobAt_take {m k : Nat} (h : k < m) : jobAt (l.take m) k = jobAt l k := by
  unfold jobAt; rw [List.getD_eq_getElem?_getD, List.getD_eq_getElem?_getD, List.getElem?_take, if_pos h]
theorem HeapN.take {m : Nat} (h : HeapN l m) : HeapN (l.take m) (l.take m).length := by
  intro k k0 hk
  have hk' : k < m := by have := List.length_take (i := m) (l := l); omega
  rw [jobAt_take (by omega), jobAt_take hk']
  exact h k k0 hk'
theorem jobAt_app {x : Job} {k : Nat} (h : k < l.length) : jobAt (l ++ [x]) k = jobAt l k := by unfold jobAt; rw [List.getD_eq_getElem?_getD, List.getD_eq_getElem?_getD, List.getElem?_append_left h]
end
/-! ### Calls -/
def Inv_ (P : Program) (t : TypeId) (u : Value) (m : String) (args : List Value) (w : World) (R : Value → World → Prop) : Prop :=
  ∃ f rv, (method (P.types.size + Made.depth) t u m).run P w = .ok (f, rv) w ∧ Fn P f (rv :: args) w R
section
variable {P : Program} {ops : Array Oper} {Q : (Nat → Value) → World → Prop} {e : Nat → Value} {w : World} {rest : List Oper} {d : Option Tmp} {ty : TypeId} {ps : String} {af : Array Edge}
theorem rw_inv {x : Operand} {m : String} {args : List Operand} {tys : Array TypeId} {vs : List Value} {t : TypeId} {u : Value} {R : Value → World → Prop} (hx : ev e x = .iface t u)
    (hv : fzl (args.map (ev e)) = some vs) (hc : Inv_ P t u m vs w R) (hr : ∀ v w', R v w' → RW P ops Q rest (updO e d v) w') : RW P ops Q (⟨d, .call ⟨.invoke x m, args.toArray, tys⟩, ty, ps, af, none⟩ :: rest) e w := by
  obtain ⟨f, rv, hm, hF⟩ := hc
  exact rw_invoke hx hm hv hF hr
theorem op_divT {t t' : TypeId} {x y : Operand} {a b c : Int} (hx : ev e x = .int .i64 a) (hy : ev e y = .int .i64 b) (hb : b ≠ 0) (hc : a.tdiv b = c) (hr : -9223372036854775808 ≤ c ∧ c ≤ 9223372036854775807) : OpV P e ⟨d, .binOp .quo t x y t', ty, ps, af, none⟩ (.int .i64 c) := by
  intro w
  have h5 : IntKind.i64.wrap c = c := IntWalk.i64_in _ hr
  simp [OpR, execOp, hx, hy, eqGuard, binOp, Op.intDiv, hb, hc, h5]
end
theorem exit_out {Q : Exit → (Nat → Value) → World → Prop} {e : Nat → Value} {w : World} {k j : Nat} (hk : Nat.beq j k = false) (h : Q (.exit j) e w) : InB k Q (.exit j) e w := by
  simp only [InB, hk]
  exact h
structure HeapOps (P : Program) (t : TypeId) (u : Value) (jt : TypeId) (H : List Job → World → Prop) : Prop where
  len : ∀ l w, H l w → Inv_ P t u "Len" [] w (fun v w' => v = .int .i64 l.length ∧ H l w')
  less : ∀ l w (i j : Nat), H l w → i < l.length → j < l.length → Inv_ P t u "Less" [.int .i64 i, .int .i64 j] w (fun v w' => v = .bool (decide ((jobAt l i).1 < (jobAt l j).1)) ∧ H l w')
  swap : ∀ l w (i j : Nat), H l w → i < l.length → j < l.length → Inv_ P t u "Swap" [.int .i64 i, .int .i64 j] w (fun v w' => v = .tuple #[] ∧ H (swapJ l i j) w')
  push : ∀ l w (x : Job), H l w → l.length ≤ 1099511627776 → Inv_ P t u "Push" [.iface jt (.agg #[.int .i64 x.1, .int .i64 x.2])] w (fun v w' => v = .tuple #[] ∧ H (l ++ [x]) w')
  pop : ∀ l w, H l w → 0 < l.length → Inv_ P t u "Pop" [] w (fun v w' => v = .iface jt (.agg #[.int .i64 (jobAt l (l.length - 1)).1, .int .i64 (jobAt l (l.length - 1)).2]) ∧ H (l.take (l.length - 1)) w')
  small : ∀ l w, H l w → l.length ≤ 1099511627777
section
variable {t jt : TypeId} {u : Value} {H : List Job → World → Prop}
theorem up_E (hO : HeapOps Try.prog t u jt H) (l : List Job) (j : Nat) (W : World) (hI : UpInv l j) (hH : H l W) :
    Fn Try.prog 195 [.iface t u, .int .i64 j] W (fun v w' => v = .tuple #[] ∧ ∃ l', l'.length = l.length ∧ (∀ x, x ∈ l' ↔ x ∈ l) ∧ HeapN l' l'.length ∧ H l' w') := by
  refine Fn_enter Try.func195 rfl Try.results195 Try.ntmps195 (by kernel_rfl) (by kernel_rfl) ?_
  repeat refine cw_seq ?_
  refine cw_block ?_
  repeat refine cw_seq ?_
  refine cw_loop (fun m e w => ∃ (j' : Nat) (l' : List Job), j' = m ∧ SL e [(0, .iface t u), (1, .int .i64 j')] ∧ l'.length = l.length ∧ (∀ x, x ∈ l' ↔ x ∈ l) ∧ UpInv l' j' ∧ H l' w) j ⟨j, l, rfl, ⟨rfl, rfl, trivial⟩, rfl, fun _ => Iff.rfl, hI, hH⟩ ?_
  rintro m e w ⟨j, l', rfl, hsl, hlen, hmem, hI, hH⟩
  rw [hsl.fold]
  have hsm := hO.small _ _ hH
  have hjl := hI.lt
  by_cases h0 : j = 0
  · subst h0
    repeat refine cw_seq ?_
    refine cw_block ?_
    repeat refine cw_seq ?_
    refine cw_region ?_
    refine rw_v (op_pure rfl) ?_
    refine rw_v (op_rng rfl (by omega)) ?_
    refine rw_v (op_divT (c := 0) rfl rfl (by decide) (by decide) (by omega)) ?_
    refine rw_v (op_pure rfl) ?_
    first | refine rw_end ?_ | (refine rw_nil ?_; show CW _ _ _ _ _ _) | refine rw_nil ?_
    repeat refine cw_seq ?_
    refine cw_region ?_
    iterate 2 refine rw_v (op_pure rfl) ?_
    first | refine rw_v (op_b (b := true) rfl (beq_iff_eq.2 (by omega))) ?_ | refine rw_v (op_b (b := false) rfl (beq_eq_false_iff_ne.2 (by omega))) ?_ | refine rw_v (op_pure rfl) ?_
    refine rw_v (op_pure rfl) ?_
    first | refine rw_off rfl ?_ | (refine rw_on rfl ?_; refine rw_v (op_pure rfl) ?_)
    first | refine rw_off rfl ?_ | (refine rw_on rfl ?_; refine rw_v (op_pure rfl) ?_)
    first | refine rw_off rfl ?_ | (refine rw_on rfl ?_; refine rw_v (op_pure rfl) ?_)
    refine rw_off rfl ?_
    first | refine rw_off rfl ?_ | (refine rw_on rfl ?_; refine rw_v (op_pure rfl) ?_)
    refine rw_v (op_pure rfl) ?_
    first | refine rw_end ?_ | (refine rw_nil ?_; show CW _ _ _ _ _ _) | refine rw_nil ?_
    repeat refine cw_seq ?_
    refine cw_true rfl ?_
    repeat refine cw_seq ?_
    refine cw_exit ?_
    repeat first | refine exit_then ?_ | refine exit_inb ?_
    refine exit_out rfl (exit_then (exit_inb ?_))
    refine res0n ?_
    exact ⟨rfl, l', hlen, hmem, hI.stop (.inl rfl), hH⟩
  · have e1 : ((j : Int) - 1) / 2 = (((j - 1) / 2 : Nat) : Int) := by omega
    by_cases hc : (jobAt l' j).1 < (jobAt l' ((j - 1) / 2)).1
    · skip
      repeat refine cw_seq ?_
      refine cw_block ?_
      repeat refine cw_seq ?_
      refine cw_region ?_
      refine rw_v (op_pure rfl) ?_
      refine rw_v (op_rng rfl (by omega)) ?_
      refine rw_v (op_div rfl rfl (by omega) (by omega)) ?_
      rw [e1]
      refine rw_v (op_pure rfl) ?_
      first | refine rw_end ?_ | (refine rw_nil ?_; show CW _ _ _ _ _ _) | refine rw_nil ?_
      repeat refine cw_seq ?_
      refine cw_region ?_
      iterate 2 refine rw_v (op_pure rfl) ?_
      first | refine rw_v (op_b (b := true) rfl (beq_iff_eq.2 (by omega))) ?_ | refine rw_v (op_b (b := false) rfl (beq_eq_false_iff_ne.2 (by omega))) ?_ | refine rw_v (op_pure rfl) ?_
      refine rw_v (op_pure rfl) ?_
      first | refine rw_off rfl ?_ | (refine rw_on rfl ?_; refine rw_v (op_pure rfl) ?_)
      first | refine rw_off rfl ?_ | (refine rw_on rfl ?_; refine rw_v (op_pure rfl) ?_)
      first | refine rw_off rfl ?_ | (refine rw_on rfl ?_; refine rw_v (op_pure rfl) ?_)
      refine rw_on rfl ?_
      refine rw_inv rfl rfl (hO.less _ _ j ((j - 1) / 2) hH hjl (by omega)) ?_
      rintro _ w1 ⟨rfl, hH⟩
      rw [decide_eq_true hc]
      first | refine rw_off rfl ?_ | (refine rw_on rfl ?_; refine rw_v (op_pure rfl) ?_)
      refine rw_v (op_pure rfl) ?_
      first | refine rw_end ?_ | (refine rw_nil ?_; show CW _ _ _ _ _ _) | refine rw_nil ?_
      repeat refine cw_seq ?_
      refine cw_false rfl ?_
      repeat refine cw_seq ?_
      refine cw_skip ?_
      try show CW _ _ _ _ _ _
      repeat refine cw_seq ?_
      refine cw_region ?_
      iterate 3 refine rw_v (op_pure rfl) ?_
      refine rw_inv rfl rfl (hO.swap _ _ ((j - 1) / 2) j hH (by omega) hjl) ?_
      rintro _ w2 ⟨rfl, hH⟩
      first | refine rw_end ?_ | (refine rw_nil ?_; show CW _ _ _ _ _ _) | refine rw_nil ?_
      repeat refine cw_seq ?_
      refine cw_region ?_
      iterate 2 refine rw_v (op_pure rfl) ?_
      first | refine rw_end ?_ | (refine rw_nil ?_; show CW _ _ _ _ _ _) | refine rw_nil ?_
      exact ⟨(j - 1) / 2, by omega, (j - 1) / 2, _, rfl, ⟨rfl, rfl, trivial⟩, by rw [swapJ_len]; exact hlen, fun x => (mem_swapJ (by omega) hjl x).trans (hmem x), hI.up (by omega) hc, hH⟩
    · skip
      repeat refine cw_seq ?_
      refine cw_block ?_
      repeat refine cw_seq ?_
      refine cw_region ?_
      refine rw_v (op_pure rfl) ?_
      refine rw_v (op_rng rfl (by omega)) ?_
      refine rw_v (op_div rfl rfl (by omega) (by omega)) ?_
      rw [e1]
      refine rw_v (op_pure rfl) ?_
      first | refine rw_end ?_ | (refine rw_nil ?_; show CW _ _ _ _ _ _) | refine rw_nil ?_
      repeat refine cw_seq ?_
      refine cw_region ?_
      iterate 2 refine rw_v (op_pure rfl) ?_
      first | refine rw_v (op_b (b := true) rfl (beq_iff_eq.2 (by omega))) ?_ | refine rw_v (op_b (b := false) rfl (beq_eq_false_iff_ne.2 (by omega))) ?_ | refine rw_v (op_pure rfl) ?_
      refine rw_v (op_pure rfl) ?_
      first | refine rw_off rfl ?_ | (refine rw_on rfl ?_; refine rw_v (op_pure rfl) ?_)
      first | refine rw_off rfl ?_ | (refine rw_on rfl ?_; refine rw_v (op_pure rfl) ?_)
      first | refine rw_off rfl ?_ | (refine rw_on rfl ?_; refine rw_v (op_pure rfl) ?_)
      refine rw_on rfl ?_
      refine rw_inv rfl rfl (hO.less _ _ j ((j - 1) / 2) hH hjl (by omega)) ?_
      rintro _ w1 ⟨rfl, hH⟩
      rw [decide_eq_false hc]
      first | refine rw_off rfl ?_ | (refine rw_on rfl ?_; refine rw_v (op_pure rfl) ?_)
      refine rw_v (op_pure rfl) ?_
      first | refine rw_end ?_ | (refine rw_nil ?_; show CW _ _ _ _ _ _) | refine rw_nil ?_
      repeat refine cw_seq ?_
      refine cw_true rfl ?_
      repeat refine cw_seq ?_
      refine cw_exit ?_
      repeat first | refine exit_then ?_ | refine exit_inb ?_
      refine exit_out rfl (exit_then (exit_inb ?_))
      refine res0n ?_
      exact ⟨rfl, l', hlen, hmem, hI.stop (.inr (by omega)), hH⟩
theorem hpush_E (hO : HeapOps Try.prog t u jt H) (l : List Job) (x : Job) (W : World) (hN : HeapN l l.length) (hH : H l W) (hl : l.length ≤ 1099511627776) :
    Fn Try.prog 166 [.iface t u, .iface jt (.agg #[.int .i64 x.1, .int .i64 x.2])] W (fun v w' => v = .tuple #[] ∧ ∃ l', l'.length = l.length + 1 ∧ (∀ y, y ∈ l' ↔ y = x ∨ y ∈ l) ∧ HeapN l' l'.length ∧ H l' w') := by
  refine Fn_enter Try.func166 rfl Try.results166 Try.ntmps166 (by kernel_rfl) (by kernel_rfl) ?_
  repeat refine cw_seq ?_
  refine cw_region ?_
  iterate 2 refine rw_v (op_pure rfl) ?_
  refine rw_inv rfl rfl (hO.push _ _ x hH hl) ?_
  rintro _ w1 ⟨rfl, hH⟩
  first | refine rw_end ?_ | (refine rw_nil ?_; show CW _ _ _ _ _ _) | refine rw_nil ?_
  repeat refine cw_seq ?_
  refine cw_region ?_
  iterate 2 refine rw_v (op_pure rfl) ?_
  refine rw_inv rfl rfl (hO.len _ _ hH) ?_
  rintro _ w2 ⟨rfl, hH⟩
  have elen : (l ++ [x]).length = l.length + 1 := by simp
  refine rw_v (op_rng rfl (by omega)) ?_
  rw [show (((l ++ [x]).length : Nat) : Int) - 1 = ((l.length : Nat) : Int) by rw [elen]; omega]
  refine rw_call rfl (up_E hO _ _ _ (UpInv.push hN) hH) ?_
  rintro _ w3 ⟨rfl, l', h1, h2, h3, h4⟩
  first | refine rw_end ?_ | (refine rw_nil ?_; show CW _ _ _ _ _ _) | refine rw_nil ?_
  exact res0n ⟨rfl, l', by rw [h1]; simp, fun y => (h2 y).trans (by rw [List.mem_append, List.mem_singleton]; exact Or.comm), h3, h4⟩
theorem down_E (hO : HeapOps Try.prog t u jt H) (l : List Job) (i n : Nat) (W : World) (hI : DnInv l n i) (hi : i ≤ 1099511627777) (hH : H l W) :
    Fn Try.prog 167 [.iface t u, .int .i64 i, .int .i64 n] W (fun v w' => ∃ l', l'.length = l.length ∧ (∀ x, x ∈ l' ↔ x ∈ l) ∧ HeapN l' n ∧ (∀ k, n ≤ k → jobAt l' k = jobAt l k) ∧ H l' w') := by
  refine Fn_enter Try.func167 rfl Try.results167 Try.ntmps167 (by kernel_rfl) (by kernel_rfl) ?_
  repeat refine cw_seq ?_
  refine cw_region ?_
  refine rw_v (op_pure rfl) ?_
  first | refine rw_end ?_ | (refine rw_nil ?_; show CW _ _ _ _ _ _) | refine rw_nil ?_
  repeat refine cw_seq ?_
  refine cw_region ?_
  iterate 2 refine rw_v (op_pure rfl) ?_
  first | refine rw_end ?_ | (refine rw_nil ?_; show CW _ _ _ _ _ _) | refine rw_nil ?_
  repeat refine cw_seq ?_
  refine cw_block ?_
  repeat refine cw_seq ?_
  refine cw_loop (fun m e w => ∃ (k : Nat) (l' : List Job), m = n - k ∧ SL e [(0, .iface t u), (1, .int .i64 i), (2, .int .i64 n), (7, .int .i64 k)] ∧ l'.length = l.length ∧ (∀ x, x ∈ l' ↔ x ∈ l) ∧ DnInv l' n k ∧ (∀ k, n ≤ k → jobAt l' k = jobAt l k) ∧ k ≤ 1099511627777 ∧ H l' w) (n - i)
    ⟨i, l, rfl, ⟨rfl, rfl, rfl, rfl, trivial⟩, rfl, fun _ => Iff.rfl, hI, fun _ _ => rfl, hi, hH⟩ ?_
  rintro m e w ⟨k, l', rfl, hsl, hlen, hmem, hI, hhi, hk, hH⟩
  rw [hsl.fold]
  have hsm := hO.small _ _ hH
  have hnl := hI.le
  have hj1 : ((2 : Int) * k + 1) = ((2 * k + 1 : Nat) : Int) := by omega
  have hj2 : (((2 * k + 1 : Nat) : Int) + 1) = ((2 * k + 2 : Nat) : Int) := by omega
  by_cases h1 : n ≤ 2 * k + 1
  · skip
    repeat refine cw_seq ?_
    refine cw_block ?_
    repeat refine cw_seq ?_
    refine cw_region ?_
    refine rw_v (op_pure rfl) ?_
    refine rw_v (op_rng rfl (by omega)) ?_
    refine rw_v (op_rng rfl (by omega)) ?_
    refine rw_v (op_pure rfl) ?_
    first | refine rw_end ?_ | (refine rw_nil ?_; show CW _ _ _ _ _ _) | refine rw_nil ?_
    repeat refine cw_seq ?_
    refine cw_region ?_
    iterate 2 refine rw_v (op_pure rfl) ?_
    first | refine rw_v (op_b (b := true) rfl (decide_eq_true (by omega))) ?_ | refine rw_v (op_b (b := false) rfl (decide_eq_false (by omega))) ?_ | refine rw_v (op_pure rfl) ?_
    refine rw_v (op_pure rfl) ?_
    first | refine rw_off rfl ?_ | (refine rw_on rfl ?_; refine rw_v (op_pure rfl) ?_)
    first | refine rw_off rfl ?_ | (refine rw_on rfl ?_; (first | refine rw_v (op_b (b := true) rfl (decide_eq_true (by omega))) ?_ | refine rw_v (op_b (b := false) rfl (decide_eq_false (by omega))) ?_ | refine rw_v (op_pure rfl) ?_))
    refine rw_v (op_pure rfl) ?_
    first | refine rw_end ?_ | (refine rw_nil ?_; show CW _ _ _ _ _ _) | refine rw_nil ?_
    repeat refine cw_seq ?_
    refine cw_true rfl ?_
    repeat refine cw_seq ?_
    refine cw_exit ?_
    repeat first | refine exit_then ?_ | refine exit_inb ?_
    show CW _ _ _ _ _ _
    repeat refine cw_seq ?_
    refine cw_region ?_
    iterate 4 refine rw_v (op_pure rfl) ?_
    first | refine rw_end ?_ | (refine rw_nil ?_; show CW _ _ _ _ _ _) | refine rw_nil ?_
    repeat refine cw_seq ?_
    refine cw_ret ?_
    repeat first | refine ret_then ?_ | refine ret_inb ?_
    exact res1 rfl ⟨l', hlen, hmem, hI.stop (fun q q0 hq hp => by omega), hhi, hH⟩
  · have hswap : ∀ q, (q = 2 * k + 1 ∨ q = 2 * k + 2) → q < n → ∀ y, n ≤ y → jobAt (swapJ l' k q) y = jobAt l y := fun q hq hqn y hy => by rw [jobAt_swap (by omega) (by omega), if_neg (by omega), if_neg (by omega)]; exact hhi y hy
    by_cases h2 : 2 * k + 2 < n
    · by_cases hc : (jobAt l' (2 * k + 2)).1 < (jobAt l' (2 * k + 1)).1
      · by_cases hd : (jobAt l' (2 * k + 2)).1 < (jobAt l' k).1
        · skip
          repeat refine cw_seq ?_
          refine cw_block ?_
          repeat refine cw_seq ?_
          refine cw_region ?_
          refine rw_v (op_pure rfl) ?_
          refine rw_v (op_rng rfl (by omega)) ?_
          refine rw_v (op_rng rfl (by omega)) ?_
          rw [hj1]
          refine rw_v (op_pure rfl) ?_
          first | refine rw_end ?_ | (refine rw_nil ?_; show CW _ _ _ _ _ _) | refine rw_nil ?_
          repeat refine cw_seq ?_
          refine cw_region ?_
          iterate 2 refine rw_v (op_pure rfl) ?_
          first | refine rw_v (op_b (b := true) rfl (decide_eq_true (by omega))) ?_ | refine rw_v (op_b (b := false) rfl (decide_eq_false (by omega))) ?_ | refine rw_v (op_pure rfl) ?_
          refine rw_v (op_pure rfl) ?_
          first | refine rw_off rfl ?_ | (refine rw_on rfl ?_; refine rw_v (op_pure rfl) ?_)
          first | refine rw_off rfl ?_ | (refine rw_on rfl ?_; (first | refine rw_v (op_b (b := true) rfl (decide_eq_true (by omega))) ?_ | refine rw_v (op_b (b := false) rfl (decide_eq_false (by omega))) ?_ | refine rw_v (op_pure rfl) ?_))
          refine rw_v (op_pure rfl) ?_
          first | refine rw_end ?_ | (refine rw_nil ?_; show CW _ _ _ _ _ _) | refine rw_nil ?_
          repeat refine cw_seq ?_
          refine cw_false rfl ?_
          repeat refine cw_seq ?_
          refine cw_skip ?_
          try show CW _ _ _ _ _ _
          repeat refine cw_seq ?_
          refine cw_region ?_
          iterate 2 refine rw_v (op_pure rfl) ?_
          first | refine rw_end ?_ | (refine rw_nil ?_; show CW _ _ _ _ _ _) | refine rw_nil ?_
          repeat refine cw_seq ?_
          refine cw_region ?_
          refine rw_v (op_pure rfl) ?_
          refine rw_v (op_rng rfl (by omega)) ?_
          rw [hj2]
          refine rw_v (op_pure rfl) ?_
          first | refine rw_end ?_ | (refine rw_nil ?_; show CW _ _ _ _ _ _) | refine rw_nil ?_
          repeat refine cw_seq ?_
          refine cw_region ?_
          iterate 2 refine rw_v (op_pure rfl) ?_
          first | refine rw_v (op_b (b := true) rfl (decide_eq_true (by omega))) ?_ | refine rw_v (op_b (b := false) rfl (decide_eq_false (by omega))) ?_ | refine rw_v (op_pure rfl) ?_
          refine rw_v (op_pure rfl) ?_
          first | refine rw_off rfl ?_ | (refine rw_on rfl ?_; refine rw_v (op_pure rfl) ?_)
          first | refine rw_off rfl ?_ | (refine rw_on rfl ?_; refine rw_v (op_pure rfl) ?_)
          first | refine rw_off rfl ?_ | (refine rw_on rfl ?_; refine rw_v (op_pure rfl) ?_)
          refine rw_on rfl ?_
          refine rw_inv rfl rfl (hO.less _ _ (2 * k + 2) (2 * k + 1) hH (by omega) (by omega)) ?_
          rintro _ w1 ⟨rfl, hH⟩
          rw [decide_eq_true hc]
          refine rw_v (op_pure rfl) ?_
          first | refine rw_end ?_ | (refine rw_nil ?_; show CW _ _ _ _ _ _) | refine rw_nil ?_
          repeat refine cw_seq ?_
          refine cw_true rfl ?_
          repeat refine cw_seq ?_
          refine cw_region ?_
          iterate 2 refine rw_v (op_pure rfl) ?_
          first | refine rw_end ?_ | (refine rw_nil ?_; show CW _ _ _ _ _ _) | refine rw_nil ?_
          repeat refine cw_seq ?_
          refine cw_region ?_
          iterate 3 refine rw_v (op_pure rfl) ?_
          refine rw_inv rfl rfl (hO.less _ _ (2 * k + 2) k hH (by omega) (by omega)) ?_
          rintro _ w2 ⟨rfl, hH⟩
          rw [decide_eq_true hd]
          refine rw_v (op_pure rfl) ?_
          first | refine rw_end ?_ | (refine rw_nil ?_; show CW _ _ _ _ _ _) | refine rw_nil ?_
          repeat refine cw_seq ?_
          refine cw_false rfl ?_
          repeat refine cw_seq ?_
          refine cw_skip ?_
          try show CW _ _ _ _ _ _
          repeat refine cw_seq ?_
          refine cw_region ?_
          iterate 3 refine rw_v (op_pure rfl) ?_
          refine rw_inv rfl rfl (hO.swap _ _ k (2 * k + 2) hH (by omega) (by omega)) ?_
          rintro _ w3 ⟨rfl, hH⟩
          first | refine rw_end ?_ | (refine rw_nil ?_; show CW _ _ _ _ _ _) | refine rw_nil ?_
          repeat refine cw_seq ?_
          refine cw_region ?_
          iterate 2 refine rw_v (op_pure rfl) ?_
          first | refine rw_end ?_ | (refine rw_nil ?_; show CW _ _ _ _ _ _) | refine rw_nil ?_
          exact ⟨n - (2 * k + 2), by omega, 2 * k + 2, _, rfl, ⟨rfl, rfl, rfl, rfl, trivial⟩, by rw [swapJ_len]; exact hlen, fun x => (mem_swapJ (by omega) (by omega) x).trans (hmem x), hI.down h2 (by omega) (by omega) hd (fun q q0 hq hp => by
            rcases (show q = 2 * k + 1 ∨ q = 2 * k + 2 by omega) with rfl | rfl
            · omega
            · exact Int.le_refl _), hswap _ (.inr rfl) h2, by omega, hH⟩
        · skip
          repeat refine cw_seq ?_
          refine cw_block ?_
          repeat refine cw_seq ?_
          refine cw_region ?_
          refine rw_v (op_pure rfl) ?_
          refine rw_v (op_rng rfl (by omega)) ?_
          refine rw_v (op_rng rfl (by omega)) ?_
          rw [hj1]
          refine rw_v (op_pure rfl) ?_
          first | refine rw_end ?_ | (refine rw_nil ?_; show CW _ _ _ _ _ _) | refine rw_nil ?_
          repeat refine cw_seq ?_
          refine cw_region ?_
          iterate 2 refine rw_v (op_pure rfl) ?_
          first | refine rw_v (op_b (b := true) rfl (decide_eq_true (by omega))) ?_ | refine rw_v (op_b (b := false) rfl (decide_eq_false (by omega))) ?_ | refine rw_v (op_pure rfl) ?_
          refine rw_v (op_pure rfl) ?_
          first | refine rw_off rfl ?_ | (refine rw_on rfl ?_; refine rw_v (op_pure rfl) ?_)
          first | refine rw_off rfl ?_ | (refine rw_on rfl ?_; (first | refine rw_v (op_b (b := true) rfl (decide_eq_true (by omega))) ?_ | refine rw_v (op_b (b := false) rfl (decide_eq_false (by omega))) ?_ | refine rw_v (op_pure rfl) ?_))
          refine rw_v (op_pure rfl) ?_
          first | refine rw_end ?_ | (refine rw_nil ?_; show CW _ _ _ _ _ _) | refine rw_nil ?_
          repeat refine cw_seq ?_
          refine cw_false rfl ?_
          repeat refine cw_seq ?_
          refine cw_skip ?_
          try show CW _ _ _ _ _ _
          repeat refine cw_seq ?_
          refine cw_region ?_
          iterate 2 refine rw_v (op_pure rfl) ?_
          first | refine rw_end ?_ | (refine rw_nil ?_; show CW _ _ _ _ _ _) | refine rw_nil ?_
          repeat refine cw_seq ?_
          refine cw_region ?_
          refine rw_v (op_pure rfl) ?_
          refine rw_v (op_rng rfl (by omega)) ?_
          rw [hj2]
          refine rw_v (op_pure rfl) ?_
          first | refine rw_end ?_ | (refine rw_nil ?_; show CW _ _ _ _ _ _) | refine rw_nil ?_
          repeat refine cw_seq ?_
          refine cw_region ?_
          iterate 2 refine rw_v (op_pure rfl) ?_
          first | refine rw_v (op_b (b := true) rfl (decide_eq_true (by omega))) ?_ | refine rw_v (op_b (b := false) rfl (decide_eq_false (by omega))) ?_ | refine rw_v (op_pure rfl) ?_
          refine rw_v (op_pure rfl) ?_
          first | refine rw_off rfl ?_ | (refine rw_on rfl ?_; refine rw_v (op_pure rfl) ?_)
          first | refine rw_off rfl ?_ | (refine rw_on rfl ?_; refine rw_v (op_pure rfl) ?_)
          first | refine rw_off rfl ?_ | (refine rw_on rfl ?_; refine rw_v (op_pure rfl) ?_)
          refine rw_on rfl ?_
          refine rw_inv rfl rfl (hO.less _ _ (2 * k + 2) (2 * k + 1) hH (by omega) (by omega)) ?_
          rintro _ w1 ⟨rfl, hH⟩
          rw [decide_eq_true hc]
          refine rw_v (op_pure rfl) ?_
          first | refine rw_end ?_ | (refine rw_nil ?_; show CW _ _ _ _ _ _) | refine rw_nil ?_
          repeat refine cw_seq ?_
          refine cw_true rfl ?_
          repeat refine cw_seq ?_
          refine cw_region ?_
          iterate 2 refine rw_v (op_pure rfl) ?_
          first | refine rw_end ?_ | (refine rw_nil ?_; show CW _ _ _ _ _ _) | refine rw_nil ?_
          repeat refine cw_seq ?_
          refine cw_region ?_
          iterate 3 refine rw_v (op_pure rfl) ?_
          refine rw_inv rfl rfl (hO.less _ _ (2 * k + 2) k hH (by omega) (by omega)) ?_
          rintro _ w2 ⟨rfl, hH⟩
          rw [decide_eq_false hd]
          refine rw_v (op_pure rfl) ?_
          first | refine rw_end ?_ | (refine rw_nil ?_; show CW _ _ _ _ _ _) | refine rw_nil ?_
          repeat refine cw_seq ?_
          refine cw_true rfl ?_
          repeat refine cw_seq ?_
          refine cw_exit ?_
          repeat first | refine exit_then ?_ | refine exit_inb ?_
          show CW _ _ _ _ _ _
          repeat refine cw_seq ?_
          refine cw_region ?_
          iterate 4 refine rw_v (op_pure rfl) ?_
          first | refine rw_end ?_ | (refine rw_nil ?_; show CW _ _ _ _ _ _) | refine rw_nil ?_
          repeat refine cw_seq ?_
          refine cw_ret ?_
          repeat first | refine ret_then ?_ | refine ret_inb ?_
          exact res1 rfl ⟨l', hlen, hmem, hI.stop (fun q q0 hq hp => by
            rcases (show q = 2 * k + 1 ∨ q = 2 * k + 2 by omega) with rfl | rfl <;> omega), hhi, hH⟩
      · by_cases hd : (jobAt l' (2 * k + 1)).1 < (jobAt l' k).1
        · skip
          repeat refine cw_seq ?_
          refine cw_block ?_
          repeat refine cw_seq ?_
          refine cw_region ?_
          refine rw_v (op_pure rfl) ?_
          refine rw_v (op_rng rfl (by omega)) ?_
          refine rw_v (op_rng rfl (by omega)) ?_
          rw [hj1]
          refine rw_v (op_pure rfl) ?_
          first | refine rw_end ?_ | (refine rw_nil ?_; show CW _ _ _ _ _ _) | refine rw_nil ?_
          repeat refine cw_seq ?_
          refine cw_region ?_
          iterate 2 refine rw_v (op_pure rfl) ?_
          first | refine rw_v (op_b (b := true) rfl (decide_eq_true (by omega))) ?_ | refine rw_v (op_b (b := false) rfl (decide_eq_false (by omega))) ?_ | refine rw_v (op_pure rfl) ?_
          refine rw_v (op_pure rfl) ?_
          first | refine rw_off rfl ?_ | (refine rw_on rfl ?_; refine rw_v (op_pure rfl) ?_)
          first | refine rw_off rfl ?_ | (refine rw_on rfl ?_; (first | refine rw_v (op_b (b := true) rfl (decide_eq_true (by omega))) ?_ | refine rw_v (op_b (b := false) rfl (decide_eq_false (by omega))) ?_ | refine rw_v (op_pure rfl) ?_))
          refine rw_v (op_pure rfl) ?_
          first | refine rw_end ?_ | (refine rw_nil ?_; show CW _ _ _ _ _ _) | refine rw_nil ?_
          repeat refine cw_seq ?_
          refine cw_false rfl ?_
          repeat refine cw_seq ?_
          refine cw_skip ?_
          try show CW _ _ _ _ _ _
          repeat refine cw_seq ?_
          refine cw_region ?_
          iterate 2 refine rw_v (op_pure rfl) ?_
          first | refine rw_end ?_ | (refine rw_nil ?_; show CW _ _ _ _ _ _) | refine rw_nil ?_
          repeat refine cw_seq ?_
          refine cw_region ?_
          refine rw_v (op_pure rfl) ?_
          refine rw_v (op_rng rfl (by omega)) ?_
          rw [hj2]
          refine rw_v (op_pure rfl) ?_
          first | refine rw_end ?_ | (refine rw_nil ?_; show CW _ _ _ _ _ _) | refine rw_nil ?_
          repeat refine cw_seq ?_
          refine cw_region ?_
          iterate 2 refine rw_v (op_pure rfl) ?_
          first | refine rw_v (op_b (b := true) rfl (decide_eq_true (by omega))) ?_ | refine rw_v (op_b (b := false) rfl (decide_eq_false (by omega))) ?_ | refine rw_v (op_pure rfl) ?_
          refine rw_v (op_pure rfl) ?_
          first | refine rw_off rfl ?_ | (refine rw_on rfl ?_; refine rw_v (op_pure rfl) ?_)
          first | refine rw_off rfl ?_ | (refine rw_on rfl ?_; refine rw_v (op_pure rfl) ?_)
          first | refine rw_off rfl ?_ | (refine rw_on rfl ?_; refine rw_v (op_pure rfl) ?_)
          refine rw_on rfl ?_
          refine rw_inv rfl rfl (hO.less _ _ (2 * k + 2) (2 * k + 1) hH (by omega) (by omega)) ?_
          rintro _ w1 ⟨rfl, hH⟩
          rw [decide_eq_false hc]
          refine rw_v (op_pure rfl) ?_
          first | refine rw_end ?_ | (refine rw_nil ?_; show CW _ _ _ _ _ _) | refine rw_nil ?_
          repeat refine cw_seq ?_
          refine cw_false rfl ?_
          repeat refine cw_seq ?_
          refine cw_skip ?_
          try show CW _ _ _ _ _ _
          repeat refine cw_seq ?_
          refine cw_region ?_
          iterate 3 refine rw_v (op_pure rfl) ?_
          refine rw_inv rfl rfl (hO.less _ _ (2 * k + 1) k hH (by omega) (by omega)) ?_
          rintro _ w2 ⟨rfl, hH⟩
          rw [decide_eq_true hd]
          refine rw_v (op_pure rfl) ?_
          first | refine rw_end ?_ | (refine rw_nil ?_; show CW _ _ _ _ _ _) | refine rw_nil ?_
          repeat refine cw_seq ?_
          refine cw_false rfl ?_
          repeat refine cw_seq ?_
          refine cw_skip ?_
          try show CW _ _ _ _ _ _
          repeat refine cw_seq ?_
          refine cw_region ?_
          iterate 3 refine rw_v (op_pure rfl) ?_
          refine rw_inv rfl rfl (hO.swap _ _ k (2 * k + 1) hH (by omega) (by omega)) ?_
          rintro _ w3 ⟨rfl, hH⟩
          first | refine rw_end ?_ | (refine rw_nil ?_; show CW _ _ _ _ _ _) | refine rw_nil ?_
          repeat refine cw_seq ?_
          refine cw_region ?_
          iterate 2 refine rw_v (op_pure rfl) ?_
          first | refine rw_end ?_ | (refine rw_nil ?_; show CW _ _ _ _ _ _) | refine rw_nil ?_
          exact ⟨n - (2 * k + 1), by omega, 2 * k + 1, _, rfl, ⟨rfl, rfl, rfl, rfl, trivial⟩, by rw [swapJ_len]; exact hlen, fun x => (mem_swapJ (by omega) (by omega) x).trans (hmem x), hI.down (by omega) (by omega) (by omega) hd (fun q q0 hq hp => by
            rcases (show q = 2 * k + 1 ∨ q = 2 * k + 2 by omega) with rfl | rfl
            · exact Int.le_refl _
            · omega), hswap _ (.inl rfl) (by omega), by omega, hH⟩
        · skip
          repeat refine cw_seq ?_
          refine cw_block ?_
          repeat refine cw_seq ?_
          refine cw_region ?_
          refine rw_v (op_pure rfl) ?_
          refine rw_v (op_rng rfl (by omega)) ?_
          refine rw_v (op_rng rfl (by omega)) ?_
          rw [hj1]
          refine rw_v (op_pure rfl) ?_
          first | refine rw_end ?_ | (refine rw_nil ?_; show CW _ _ _ _ _ _) | refine rw_nil ?_
          repeat refine cw_seq ?_
          refine cw_region ?_
          iterate 2 refine rw_v (op_pure rfl) ?_
          first | refine rw_v (op_b (b := true) rfl (decide_eq_true (by omega))) ?_ | refine rw_v (op_b (b := false) rfl (decide_eq_false (by omega))) ?_ | refine rw_v (op_pure rfl) ?_
          refine rw_v (op_pure rfl) ?_
          first | refine rw_off rfl ?_ | (refine rw_on rfl ?_; refine rw_v (op_pure rfl) ?_)
          first | refine rw_off rfl ?_ | (refine rw_on rfl ?_; (first | refine rw_v (op_b (b := true) rfl (decide_eq_true (by omega))) ?_ | refine rw_v (op_b (b := false) rfl (decide_eq_false (by omega))) ?_ | refine rw_v (op_pure rfl) ?_))
          refine rw_v (op_pure rfl) ?_
          first | refine rw_end ?_ | (refine rw_nil ?_; show CW _ _ _ _ _ _) | refine rw_nil ?_
          repeat refine cw_seq ?_
          refine cw_false rfl ?_
          repeat refine cw_seq ?_
          refine cw_skip ?_
          try show CW _ _ _ _ _ _
          repeat refine cw_seq ?_
          refine cw_region ?_
          iterate 2 refine rw_v (op_pure rfl) ?_
          first | refine rw_end ?_ | (refine rw_nil ?_; show CW _ _ _ _ _ _) | refine rw_nil ?_
          repeat refine cw_seq ?_
          refine cw_region ?_
          refine rw_v (op_pure rfl) ?_
          refine rw_v (op_rng rfl (by omega)) ?_
          rw [hj2]
          refine rw_v (op_pure rfl) ?_
          first | refine rw_end ?_ | (refine rw_nil ?_; show CW _ _ _ _ _ _) | refine rw_nil ?_
          repeat refine cw_seq ?_
          refine cw_region ?_
          iterate 2 refine rw_v (op_pure rfl) ?_
          first | refine rw_v (op_b (b := true) rfl (decide_eq_true (by omega))) ?_ | refine rw_v (op_b (b := false) rfl (decide_eq_false (by omega))) ?_ | refine rw_v (op_pure rfl) ?_
          refine rw_v (op_pure rfl) ?_
          first | refine rw_off rfl ?_ | (refine rw_on rfl ?_; refine rw_v (op_pure rfl) ?_)
          first | refine rw_off rfl ?_ | (refine rw_on rfl ?_; refine rw_v (op_pure rfl) ?_)
          first | refine rw_off rfl ?_ | (refine rw_on rfl ?_; refine rw_v (op_pure rfl) ?_)
          refine rw_on rfl ?_
          refine rw_inv rfl rfl (hO.less _ _ (2 * k + 2) (2 * k + 1) hH (by omega) (by omega)) ?_
          rintro _ w1 ⟨rfl, hH⟩
          rw [decide_eq_false hc]
          refine rw_v (op_pure rfl) ?_
          first | refine rw_end ?_ | (refine rw_nil ?_; show CW _ _ _ _ _ _) | refine rw_nil ?_
          repeat refine cw_seq ?_
          refine cw_false rfl ?_
          repeat refine cw_seq ?_
          refine cw_skip ?_
          try show CW _ _ _ _ _ _
          repeat refine cw_seq ?_
          refine cw_region ?_
          iterate 3 refine rw_v (op_pure rfl) ?_
          refine rw_inv rfl rfl (hO.less _ _ (2 * k + 1) k hH (by omega) (by omega)) ?_
          rintro _ w2 ⟨rfl, hH⟩
          rw [decide_eq_false hd]
          refine rw_v (op_pure rfl) ?_
          first | refine rw_end ?_ | (refine rw_nil ?_; show CW _ _ _ _ _ _) | refine rw_nil ?_
          repeat refine cw_seq ?_
          refine cw_true rfl ?_
          repeat refine cw_seq ?_
          refine cw_exit ?_
          repeat first | refine exit_then ?_ | refine exit_inb ?_
          show CW _ _ _ _ _ _
          repeat refine cw_seq ?_
          refine cw_region ?_
          iterate 4 refine rw_v (op_pure rfl) ?_
          first | refine rw_end ?_ | (refine rw_nil ?_; show CW _ _ _ _ _ _) | refine rw_nil ?_
          repeat refine cw_seq ?_
          refine cw_ret ?_
          repeat first | refine ret_then ?_ | refine ret_inb ?_
          exact res1 rfl ⟨l', hlen, hmem, hI.stop (fun q q0 hq hp => by
            rcases (show q = 2 * k + 1 ∨ q = 2 * k + 2 by omega) with rfl | rfl <;> omega), hhi, hH⟩
    · by_cases hd : (jobAt l' (2 * k + 1)).1 < (jobAt l' k).1
      · skip
        repeat refine cw_seq ?_
        refine cw_block ?_
        repeat refine cw_seq ?_
        refine cw_region ?_
        refine rw_v (op_pure rfl) ?_
        refine rw_v (op_rng rfl (by omega)) ?_
        refine rw_v (op_rng rfl (by omega)) ?_
        rw [hj1]
        refine rw_v (op_pure rfl) ?_
        first | refine rw_end ?_ | (refine rw_nil ?_; show CW _ _ _ _ _ _) | refine rw_nil ?_
        repeat refine cw_seq ?_
        refine cw_region ?_
        iterate 2 refine rw_v (op_pure rfl) ?_
        first | refine rw_v (op_b (b := true) rfl (decide_eq_true (by omega))) ?_ | refine rw_v (op_b (b := false) rfl (decide_eq_false (by omega))) ?_ | refine rw_v (op_pure rfl) ?_
        refine rw_v (op_pure rfl) ?_
        first | refine rw_off rfl ?_ | (refine rw_on rfl ?_; refine rw_v (op_pure rfl) ?_)
        first | refine rw_off rfl ?_ | (refine rw_on rfl ?_; (first | refine rw_v (op_b (b := true) rfl (decide_eq_true (by omega))) ?_ | refine rw_v (op_b (b := false) rfl (decide_eq_false (by omega))) ?_ | refine rw_v (op_pure rfl) ?_))
        refine rw_v (op_pure rfl) ?_
        first | refine rw_end ?_ | (refine rw_nil ?_; show CW _ _ _ _ _ _) | refine rw_nil ?_
        repeat refine cw_seq ?_
        refine cw_false rfl ?_
        repeat refine cw_seq ?_
        refine cw_skip ?_
        try show CW _ _ _ _ _ _
        repeat refine cw_seq ?_
        refine cw_region ?_
        iterate 2 refine rw_v (op_pure rfl) ?_
        first | refine rw_end ?_ | (refine rw_nil ?_; show CW _ _ _ _ _ _) | refine rw_nil ?_
        repeat refine cw_seq ?_
        refine cw_region ?_
        refine rw_v (op_pure rfl) ?_
        refine rw_v (op_rng rfl (by omega)) ?_
        rw [hj2]
        refine rw_v (op_pure rfl) ?_
        first | refine rw_end ?_ | (refine rw_nil ?_; show CW _ _ _ _ _ _) | refine rw_nil ?_
        repeat refine cw_seq ?_
        refine cw_region ?_
        iterate 2 refine rw_v (op_pure rfl) ?_
        first | refine rw_v (op_b (b := true) rfl (decide_eq_true (by omega))) ?_ | refine rw_v (op_b (b := false) rfl (decide_eq_false (by omega))) ?_ | refine rw_v (op_pure rfl) ?_
        refine rw_v (op_pure rfl) ?_
        first | refine rw_off rfl ?_ | (refine rw_on rfl ?_; refine rw_v (op_pure rfl) ?_)
        first | refine rw_off rfl ?_ | (refine rw_on rfl ?_; refine rw_v (op_pure rfl) ?_)
        first | refine rw_off rfl ?_ | (refine rw_on rfl ?_; refine rw_v (op_pure rfl) ?_)
        refine rw_off rfl ?_
        refine rw_v (op_pure rfl) ?_
        first | refine rw_end ?_ | (refine rw_nil ?_; show CW _ _ _ _ _ _) | refine rw_nil ?_
        repeat refine cw_seq ?_
        refine cw_false rfl ?_
        repeat refine cw_seq ?_
        refine cw_skip ?_
        try show CW _ _ _ _ _ _
        repeat refine cw_seq ?_
        refine cw_region ?_
        iterate 3 refine rw_v (op_pure rfl) ?_
        refine rw_inv rfl rfl (hO.less _ _ (2 * k + 1) k hH (by omega) (by omega)) ?_
        rintro _ w2 ⟨rfl, hH⟩
        rw [decide_eq_true hd]
        refine rw_v (op_pure rfl) ?_
        first | refine rw_end ?_ | (refine rw_nil ?_; show CW _ _ _ _ _ _) | refine rw_nil ?_
        repeat refine cw_seq ?_
        refine cw_false rfl ?_
        repeat refine cw_seq ?_
        refine cw_skip ?_
        try show CW _ _ _ _ _ _
        repeat refine cw_seq ?_
        refine cw_region ?_
        iterate 3 refine rw_v (op_pure rfl) ?_
        refine rw_inv rfl rfl (hO.swap _ _ k (2 * k + 1) hH (by omega) (by omega)) ?_
        rintro _ w3 ⟨rfl, hH⟩
        first | refine rw_end ?_ | (refine rw_nil ?_; show CW _ _ _ _ _ _) | refine rw_nil ?_
        repeat refine cw_seq ?_
        refine cw_region ?_
        iterate 2 refine rw_v (op_pure rfl) ?_
        first | refine rw_end ?_ | (refine rw_nil ?_; show CW _ _ _ _ _ _) | refine rw_nil ?_
        exact ⟨n - (2 * k + 1), by omega, 2 * k + 1, _, rfl, ⟨rfl, rfl, rfl, rfl, trivial⟩, by rw [swapJ_len]; exact hlen, fun x => (mem_swapJ (by omega) (by omega) x).trans (hmem x), hI.down (by omega) (by omega) (by omega) hd (fun q q0 hq hp => by
          obtain rfl : q = 2 * k + 1 := by omega
          exact Int.le_refl _), hswap _ (.inl rfl) (by omega), by omega, hH⟩
      · skip
        repeat refine cw_seq ?_
        refine cw_block ?_
        repeat refine cw_seq ?_
        refine cw_region ?_
        refine rw_v (op_pure rfl) ?_
        refine rw_v (op_rng rfl (by omega)) ?_
        refine rw_v (op_rng rfl (by omega)) ?_
        rw [hj1]
        refine rw_v (op_pure rfl) ?_
        first | refine rw_end ?_ | (refine rw_nil ?_; show CW _ _ _ _ _ _) | refine rw_nil ?_
        repeat refine cw_seq ?_
        refine cw_region ?_
        iterate 2 refine rw_v (op_pure rfl) ?_
        first | refine rw_v (op_b (b := true) rfl (decide_eq_true (by omega))) ?_ | refine rw_v (op_b (b := false) rfl (decide_eq_false (by omega))) ?_ | refine rw_v (op_pure rfl) ?_
        refine rw_v (op_pure rfl) ?_
        first | refine rw_off rfl ?_ | (refine rw_on rfl ?_; refine rw_v (op_pure rfl) ?_)
        first | refine rw_off rfl ?_ | (refine rw_on rfl ?_; (first | refine rw_v (op_b (b := true) rfl (decide_eq_true (by omega))) ?_ | refine rw_v (op_b (b := false) rfl (decide_eq_false (by omega))) ?_ | refine rw_v (op_pure rfl) ?_))
        refine rw_v (op_pure rfl) ?_
        first | refine rw_end ?_ | (refine rw_nil ?_; show CW _ _ _ _ _ _) | refine rw_nil ?_
        repeat refine cw_seq ?_
        refine cw_false rfl ?_
        repeat refine cw_seq ?_
        refine cw_skip ?_
        try show CW _ _ _ _ _ _
        repeat refine cw_seq ?_
        refine cw_region ?_
        iterate 2 refine rw_v (op_pure rfl) ?_
        first | refine rw_end ?_ | (refine rw_nil ?_; show CW _ _ _ _ _ _) | refine rw_nil ?_
        repeat refine cw_seq ?_
        refine cw_region ?_
        refine rw_v (op_pure rfl) ?_
        refine rw_v (op_rng rfl (by omega)) ?_
        rw [hj2]
        refine rw_v (op_pure rfl) ?_
        first | refine rw_end ?_ | (refine rw_nil ?_; show CW _ _ _ _ _ _) | refine rw_nil ?_
        repeat refine cw_seq ?_
        refine cw_region ?_
        iterate 2 refine rw_v (op_pure rfl) ?_
        first | refine rw_v (op_b (b := true) rfl (decide_eq_true (by omega))) ?_ | refine rw_v (op_b (b := false) rfl (decide_eq_false (by omega))) ?_ | refine rw_v (op_pure rfl) ?_
        refine rw_v (op_pure rfl) ?_
        first | refine rw_off rfl ?_ | (refine rw_on rfl ?_; refine rw_v (op_pure rfl) ?_)
        first | refine rw_off rfl ?_ | (refine rw_on rfl ?_; refine rw_v (op_pure rfl) ?_)
        first | refine rw_off rfl ?_ | (refine rw_on rfl ?_; refine rw_v (op_pure rfl) ?_)
        refine rw_off rfl ?_
        refine rw_v (op_pure rfl) ?_
        first | refine rw_end ?_ | (refine rw_nil ?_; show CW _ _ _ _ _ _) | refine rw_nil ?_
        repeat refine cw_seq ?_
        refine cw_false rfl ?_
        repeat refine cw_seq ?_
        refine cw_skip ?_
        try show CW _ _ _ _ _ _
        repeat refine cw_seq ?_
        refine cw_region ?_
        iterate 3 refine rw_v (op_pure rfl) ?_
        refine rw_inv rfl rfl (hO.less _ _ (2 * k + 1) k hH (by omega) (by omega)) ?_
        rintro _ w2 ⟨rfl, hH⟩
        rw [decide_eq_false hd]
        refine rw_v (op_pure rfl) ?_
        first | refine rw_end ?_ | (refine rw_nil ?_; show CW _ _ _ _ _ _) | refine rw_nil ?_
        repeat refine cw_seq ?_
        refine cw_true rfl ?_
        repeat refine cw_seq ?_
        refine cw_exit ?_
        repeat first | refine exit_then ?_ | refine exit_inb ?_
        show CW _ _ _ _ _ _
        repeat refine cw_seq ?_
        refine cw_region ?_
        iterate 4 refine rw_v (op_pure rfl) ?_
        first | refine rw_end ?_ | (refine rw_nil ?_; show CW _ _ _ _ _ _) | refine rw_nil ?_
        repeat refine cw_seq ?_
        refine cw_ret ?_
        repeat first | refine ret_then ?_ | refine ret_inb ?_
        exact res1 rfl ⟨l', hlen, hmem, hI.stop (fun q q0 hq hp => by
          obtain rfl : q = 2 * k + 1 := by omega
          omega), hhi, hH⟩
theorem hpop_E (hO : HeapOps Try.prog t u jt H) (l : List Job) (W : World) (hN : HeapN l l.length) (h0 : 0 < l.length) (hH : H l W) :
    Fn Try.prog 125 [.iface t u] W (fun v w' => ∃ (x : Job) (l' : List Job), v = .iface jt (.agg #[.int .i64 x.1, .int .i64 x.2]) ∧ l'.length + 1 = l.length ∧ (∀ y, y ∈ l ↔ y = x ∨ y ∈ l') ∧ (∀ y ∈ l', x.1 ≤ y.1) ∧ HeapN l' l'.length ∧ H l' w') := by
  have hsm := hO.small _ _ hH
  refine Fn_enter Try.func125 rfl Try.results125 Try.ntmps125 (by kernel_rfl) (by kernel_rfl) ?_
  repeat refine cw_seq ?_
  refine cw_region ?_
  refine rw_v (op_pure rfl) ?_
  first | refine rw_end ?_ | (refine rw_nil ?_; show CW _ _ _ _ _ _) | refine rw_nil ?_
  repeat refine cw_seq ?_
  refine cw_region ?_
  refine rw_v (op_pure rfl) ?_
  refine rw_inv rfl rfl (hO.len _ _ hH) ?_
  rintro _ w1 ⟨rfl, hH⟩
  refine rw_v (op_rng rfl (by omega)) ?_
  rw [show ((l.length : Nat) : Int) - 1 = ((l.length - 1 : Nat) : Int) by omega]
  refine rw_v (op_pure rfl) ?_
  first | refine rw_end ?_ | (refine rw_nil ?_; show CW _ _ _ _ _ _) | refine rw_nil ?_
  repeat refine cw_seq ?_
  refine cw_region ?_
  iterate 2 refine rw_v (op_pure rfl) ?_
  refine rw_inv rfl rfl (hO.swap _ _ 0 (l.length - 1) hH (by omega) (by omega)) ?_
  rintro _ w2 ⟨rfl, hH⟩
  first | refine rw_end ?_ | (refine rw_nil ?_; show CW _ _ _ _ _ _) | refine rw_nil ?_
  repeat refine cw_seq ?_
  refine cw_region ?_
  iterate 2 refine rw_v (op_pure rfl) ?_
  refine rw_call rfl (down_E hO _ 0 (l.length - 1) _ (DnInv.pop hN h0) (by omega) hH) ?_
  rintro v3 w3 ⟨l', hlen, hmem, hN', hhi, hH⟩
  first | refine rw_end ?_ | (refine rw_nil ?_; show CW _ _ _ _ _ _) | refine rw_nil ?_
  repeat refine cw_seq ?_
  refine cw_region ?_
  refine rw_v (op_pure rfl) ?_
  rw [swapJ_len] at hlen
  refine rw_inv rfl rfl (hO.pop _ _ hH (by omega)) ?_
  rintro _ w4 ⟨rfl, hH⟩
  refine rw_v (op_pure rfl) ?_
  first | refine rw_end ?_ | (refine rw_nil ?_; show CW _ _ _ _ _ _) | refine rw_nil ?_
  repeat refine cw_seq ?_
  refine cw_ret ?_
  repeat first | refine ret_then ?_ | refine ret_inb ?_
  have hlast : jobAt l' (l'.length - 1) = jobAt l 0 := by rw [hlen, hhi _ (Nat.le_refl _), jobAt_swap (by omega) (by omega), if_pos rfl]
  have hmin := hN.min
  have htk := take_last (l := l') (m := l'.length - 1) (by omega)
  rw [hlast] at htk
  rw [hlast] 
  refine res1 rfl ⟨jobAt l 0, l'.take (l'.length - 1), rfl, by rw [List.length_take]; omega, fun y => ?_, fun y hy => ?_, ?_, hH⟩
  · rw [← htk y, hmem y, mem_swapJ (by omega) (by omega)]
  · have : y ∈ l := by rw [← mem_swapJ (i := 0) (j := l.length - 1) (by omega) (by omega), ← hmem]; exact List.mem_of_mem_take hy
    obtain ⟨k, hk, rfl⟩ := mem_jobAt.1 this
    exact hmin k hk
  · exact HeapN.take (by rw [hlen]; exact hN')
end
end Go.Proofs.Ytbcgbcipigcbhaa
