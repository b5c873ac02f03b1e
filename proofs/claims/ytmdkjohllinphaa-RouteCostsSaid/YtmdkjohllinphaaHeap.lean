/- container/heap, over whatever holds jobs: what going up, going down, pushing and popping do. -/
import Derived.Test.YtmdkjohllinphaaHeapL
import Derived.Test.YtmdkjohllinphaaSep
namespace Go.Proofs.Ytmdkjohllinphaa
open Go.RowKit
set_option linter.unusedVariables false
set_option linter.unusedSimpArgs false
set_option maxRecDepth 100000

def Inv_ (P : Program) (t : TypeId) (u : Value) (m : String) (args : List Value) (w : World) (R : Value → World → Prop) : Prop :=
  ∃ f rv, (method (P.types.size + Made.depth) t u m).run P w = .ok (f, rv) w ∧ Fn P f (rv :: args) w R
section
variable {P : Program} {ops : Array Oper} {Q : (Nat → Value) → World → Prop} {e : Nat → Value} {w : World} {rest : List Oper} {d : Option Tmp} {ty : TypeId} {ps : String} {af : Array Edge}
theorem rw_inv {x : Operand} {m : String} {args : List Operand} {tys : Array TypeId} {vs : List Value} {t : TypeId} {u : Value} {R : Value → World → Prop} (hx : ev e x = .iface t u)
    (hv : fzl (args.map (ev e)) = some vs) (hc : Inv_ P t u m vs w R) (hr : ∀ v w', R v w' → RW P ops Q rest (updO e d v) w') : RW P ops Q (⟨d, .call ⟨.invoke x m, args.toArray, tys⟩, ty, ps, af, none⟩ :: rest) e w := by
  obtain ⟨f, rv, hm, hF⟩ := hc
  exact rw_invoke hx hm hv hF hr
theorem op_divT {t t' : TypeId} {x y : Operand} {a b c : Int} (hx : ev e x = .int .i64 a) (hy : ev e y = .int .i64 b) (hb : b ≠ 0) (hc : a.tdiv b = c) (hr : -9223372036854775808 ≤ c ∧ c ≤ 9223372036854775807) : OpV P e ⟨d, .binOp .quo t x y t', ty, ps, af, none⟩ (.int .i64 c) := by
  intro w
  have h5 : IntKind.i64.wrap c = c := IntWalk.i64_in _ hr
  simp [OpR, execOp, hx, hy, eqGuard, binOp, Op.intDiv, hb, hc, h5]
end
theorem exit_out {Q : Exit → (Nat → Value) → World → Prop} {e : Nat → Value} {w : World} {k j : Nat} (hk : Nat.beq j k = false) (h : Q (.exit j) e w) : InB k Q (.exit j) e w := by
  simp only [InB, hk]
  exact h
structure HeapOps (P : Program) (t : TypeId) (u : Value) (jt : TypeId) (H : List Job → World → Prop) : Prop where
  len : ∀ l w, H l w → Inv_ P t u "Len" [] w (fun v w' => v = .int .i64 l.length ∧ H l w')
  less : ∀ l w (i j : Nat), H l w → i < l.length → j < l.length → Inv_ P t u "Less" [.int .i64 i, .int .i64 j] w (fun v w' => v = .bool (decide ((jobAt l i).1 < (jobAt l j).1)) ∧ H l w')
  swap : ∀ l w (i j : Nat), H l w → i < l.length → j < l.length → Inv_ P t u "Swap" [.int .i64 i, .int .i64 j] w (fun v w' => v = .tuple #[] ∧ H (swapJ l i j) w')
  push : ∀ l w (x : Job), H l w → l.length ≤ 1099511627776 → Inv_ P t u "Push" [.iface jt (.agg #[.int .i64 x.1, .int .i64 x.2])] w (fun v w' => v = .tuple #[] ∧ H (l ++ [x]) w')
  pop : ∀ l w, H l w → 0 < l.length → Inv_ P t u "Pop" [] w (fun v w' => v = .iface jt (.agg #[.int .i64 (jobAt l (l.length - 1)).1, .int .i64 (jobAt l (l.length - 1)).2]) ∧ H (l.take (l.length - 1)) w')
  small : ∀ l w, H l w → l.length ≤ 1099511627777
section
variable {t jt : TypeId} {u : Value} {H : List Job → World → Prop}
theorem up_E (hO : HeapOps Try.prog t u jt H) (l : List Job) (j : Nat) (W : World) (hI : UpInv l j) (hH : H l W) :
    Fn Try.prog 128 [.iface t u, .int .i64 j] W (fun v w' => v = .tuple #[] ∧ ∃ l', l'.length = l.length ∧ (∀ x, x ∈ l' ↔ x ∈ l) ∧ HeapN l' l'.length ∧ H l' w') := by
  refine Fn_enter Try.func128 rfl Try.results128 Try.ntmps128 (by kernel_rfl) (by kernel_rfl) ?_
  repeat refine cw_seq ?_
  refine cw_block ?_
  repeat refine cw_seq ?_
  refine cw_loop (fun m e w => ∃ (j' : Nat) (l' : List Job), j' = m ∧ SL e [(0, .iface t u), (1, .int .i64 j')] ∧ l'.length = l.length ∧ (∀ x, x ∈ l' ↔ x ∈ l) ∧ UpInv l' j' ∧ H l' w) j ⟨j, l, rfl, ⟨rfl, rfl, trivial⟩, rfl, fun _ => Iff.rfl, hI, hH⟩ ?_
  rintro m e w ⟨j, l', rfl, hsl, hlen, hmem, hI, hH⟩
  rw [hsl.fold]
  have hsm := hO.small _ _ hH
  have hjl := hI.lt
  by_cases h0 : j = 0
  · subst h0
    repeat refine cw_seq ?_
    refine cw_block ?_
    repeat refine cw_seq ?_
    refine cw_region ?_
    refine rw_v (op_pure rfl) ?_
    refine rw_v (op_rng rfl (by omega)) ?_
    refine rw_v (op_divT (c := 0) rfl rfl (by decide) (by decide) (by omega)) ?_
    refine rw_v (op_pure rfl) ?_
    first | refine rw_end ?_ | (refine rw_nil ?_; show CW _ _ _ _ _ _) | refine rw_nil ?_
    repeat refine cw_seq ?_
    refine cw_region ?_
    refine rw_v (op_pure rfl) ?_
    refine rw_v (op_pure rfl) ?_
    first | refine rw_v (op_b (b := true) rfl (beq_iff_eq.2 (by omega))) ?_ | refine rw_v (op_b (b := false) rfl (beq_eq_false_iff_ne.2 (by omega))) ?_ | refine rw_v (op_pure rfl) ?_
    refine rw_v (op_pure rfl) ?_
    first | refine rw_off rfl ?_ | (refine rw_on rfl ?_; refine rw_v (op_pure rfl) ?_)
    first | refine rw_off rfl ?_ | (refine rw_on rfl ?_; refine rw_v (op_pure rfl) ?_)
    first | refine rw_off rfl ?_ | (refine rw_on rfl ?_; refine rw_v (op_pure rfl) ?_)
    refine rw_off rfl ?_
    first | refine rw_off rfl ?_ | (refine rw_on rfl ?_; refine rw_v (op_pure rfl) ?_)
    refine rw_v (op_pure rfl) ?_
    first | refine rw_end ?_ | (refine rw_nil ?_; show CW _ _ _ _ _ _) | refine rw_nil ?_
    repeat refine cw_seq ?_
    refine cw_true rfl ?_
    repeat refine cw_seq ?_
    refine cw_exit ?_
    repeat first | refine exit_then ?_ | refine exit_inb ?_
    refine exit_out rfl (exit_then (exit_inb ?_))
    refine res0n ?_
    exact ⟨rfl, l', hlen, hmem, hI.stop (.inl rfl), hH⟩
  · have e1 : ((j : Int) - 1) / 2 = (((j - 1) / 2 : Nat) : Int) := by omega
    by_cases hc : (jobAt l' j).1 < (jobAt l' ((j - 1) / 2)).1
    · skip
      repeat refine cw_seq ?_
      refine cw_block ?_
      repeat refine cw_seq ?_
      refine cw_region ?_
      refine rw_v (op_pure rfl) ?_
      refine rw_v (op_rng rfl (by omega)) ?_
      refine rw_v (op_div rfl rfl (by omega) (by omega)) ?_
      rw [e1]
      refine rw_v (op_pure rfl) ?_
      first | refine rw_end ?_ | (refine rw_nil ?_; show CW _ _ _ _ _ _) | refine rw_nil ?_
      repeat refine cw_seq ?_
      refine cw_region ?_
      refine rw_v (op_pure rfl) ?_
      refine rw_v (op_pure rfl) ?_
      first | refine rw_v (op_b (b := true) rfl (beq_iff_eq.2 (by omega))) ?_ | refine rw_v (op_b (b := false) rfl (beq_eq_false_iff_ne.2 (by omega))) ?_ | refine rw_v (op_pure rfl) ?_
      refine rw_v (op_pure rfl) ?_
      first | refine rw_off rfl ?_ | (refine rw_on rfl ?_; refine rw_v (op_pure rfl) ?_)
      first | refine rw_off rfl ?_ | (refine rw_on rfl ?_; refine rw_v (op_pure rfl) ?_)
      first | refine rw_off rfl ?_ | (refine rw_on rfl ?_; refine rw_v (op_pure rfl) ?_)
      refine rw_on rfl ?_
      refine rw_inv rfl rfl (hO.less _ _ j ((j - 1) / 2) hH hjl (by omega)) ?_
      rintro _ w1 ⟨rfl, hH⟩
      rw [decide_eq_true hc]
      first | refine rw_off rfl ?_ | (refine rw_on rfl ?_; refine rw_v (op_pure rfl) ?_)
      refine rw_v (op_pure rfl) ?_
      first | refine rw_end ?_ | (refine rw_nil ?_; show CW _ _ _ _ _ _) | refine rw_nil ?_
      repeat refine cw_seq ?_
      refine cw_false rfl ?_
      repeat refine cw_seq ?_
      refine cw_skip ?_
      try show CW _ _ _ _ _ _
      repeat refine cw_seq ?_
      refine cw_region ?_
      refine rw_v (op_pure rfl) ?_
      refine rw_v (op_pure rfl) ?_
      refine rw_v (op_pure rfl) ?_
      refine rw_inv rfl rfl (hO.swap _ _ ((j - 1) / 2) j hH (by omega) hjl) ?_
      rintro _ w2 ⟨rfl, hH⟩
      first | refine rw_end ?_ | (refine rw_nil ?_; show CW _ _ _ _ _ _) | refine rw_nil ?_
      repeat refine cw_seq ?_
      refine cw_region ?_
      refine rw_v (op_pure rfl) ?_
      refine rw_v (op_pure rfl) ?_
      first | refine rw_end ?_ | (refine rw_nil ?_; show CW _ _ _ _ _ _) | refine rw_nil ?_
      exact ⟨(j - 1) / 2, by omega, (j - 1) / 2, _, rfl, ⟨rfl, rfl, trivial⟩, by rw [swapJ_len]; exact hlen, fun x => (mem_swapJ (by omega) hjl x).trans (hmem x), hI.up (by omega) hc, hH⟩
    · skip
      repeat refine cw_seq ?_
      refine cw_block ?_
      repeat refine cw_seq ?_
      refine cw_region ?_
      refine rw_v (op_pure rfl) ?_
      refine rw_v (op_rng rfl (by omega)) ?_
      refine rw_v (op_div rfl rfl (by omega) (by omega)) ?_
      rw [e1]
      refine rw_v (op_pure rfl) ?_
      first | refine rw_end ?_ | (refine rw_nil ?_; show CW _ _ _ _ _ _) | refine rw_nil ?_
      repeat refine cw_seq ?_
      refine cw_region ?_
      refine rw_v (op_pure rfl) ?_
      refine rw_v (op_pure rfl) ?_
      first | refine rw_v (op_b (b := true) rfl (beq_iff_eq.2 (by omega))) ?_ | refine rw_v (op_b (b := false) rfl (beq_eq_false_iff_ne.2 (by omega))) ?_ | refine rw_v (op_pure rfl) ?_
      refine rw_v (op_pure rfl) ?_
      first | refine rw_off rfl ?_ | (refine rw_on rfl ?_; refine rw_v (op_pure rfl) ?_)
      first | refine rw_off rfl ?_ | (refine rw_on rfl ?_; refine rw_v (op_pure rfl) ?_)
      first | refine rw_off rfl ?_ | (refine rw_on rfl ?_; refine rw_v (op_pure rfl) ?_)
      refine rw_on rfl ?_
      refine rw_inv rfl rfl (hO.less _ _ j ((j - 1) / 2) hH hjl (by omega)) ?_
      rintro _ w1 ⟨rfl, hH⟩
      rw [decide_eq_false hc]
      first | refine rw_off rfl ?_ | (refine rw_on rfl ?_; refine rw_v (op_pure rfl) ?_)
      refine rw_v (op_pure rfl) ?_
      first | refine rw_end ?_ | (refine rw_nil ?_; show CW _ _ _ _ _ _) | refine rw_nil ?_
      repeat refine cw_seq ?_
      refine cw_true rfl ?_
      repeat refine cw_seq ?_
      refine cw_exit ?_
      repeat first | refine exit_then ?_ | refine exit_inb ?_
      refine exit_out rfl (exit_then (exit_inb ?_))
      refine res0n ?_
      exact ⟨rfl, l', hlen, hmem, hI.stop (.inr (by omega)), hH⟩
theorem hpush_E (hO : HeapOps Try.prog t u jt H) (l : List Job) (x : Job) (W : World) (hN : HeapN l l.length) (hH : H l W) (hl : l.length ≤ 1099511627776) :
    Fn Try.prog 105 [.iface t u, .iface jt (.agg #[.int .i64 x.1, .int .i64 x.2])] W (fun v w' => v = .tuple #[] ∧ ∃ l', l'.length = l.length + 1 ∧ (∀ y, y ∈ l' ↔ y = x ∨ y ∈ l) ∧ HeapN l' l'.length ∧ H l' w') := by
  refine Fn_enter Try.func105 rfl Try.results105 Try.ntmps105 (by kernel_rfl) (by kernel_rfl) ?_
  repeat refine cw_seq ?_
  refine cw_region ?_
  refine rw_v (op_pure rfl) ?_
  refine rw_v (op_pure rfl) ?_
  refine rw_inv rfl rfl (hO.push _ _ x hH hl) ?_
  rintro _ w1 ⟨rfl, hH⟩
  first | refine rw_end ?_ | (refine rw_nil ?_; show CW _ _ _ _ _ _) | refine rw_nil ?_
  repeat refine cw_seq ?_
  refine cw_region ?_
  refine rw_v (op_pure rfl) ?_
  refine rw_v (op_pure rfl) ?_
  refine rw_inv rfl rfl (hO.len _ _ hH) ?_
  rintro _ w2 ⟨rfl, hH⟩
  have elen : (l ++ [x]).length = l.length + 1 := by simp
  refine rw_v (op_rng rfl (by omega)) ?_
  rw [show (((l ++ [x]).length : Nat) : Int) - 1 = ((l.length : Nat) : Int) by rw [elen]; omega]
  refine rw_call rfl (up_E hO _ _ _ (UpInv.push hN) hH) ?_
  rintro _ w3 ⟨rfl, l', h1, h2, h3, h4⟩
  first | refine rw_end ?_ | (refine rw_nil ?_; show CW _ _ _ _ _ _) | refine rw_nil ?_
  exact res0n ⟨rfl, l', by rw [h1]; simp, fun y => (h2 y).trans (by rw [List.mem_append, List.mem_singleton]; exact Or.comm), h3, h4⟩
theorem down_E (hO : HeapOps Try.prog t u jt H) (l : List Job) (i n : Nat) (W : World) (hI : DnInv l n i) (hi : i ≤ 1099511627777) (hH : H l W) :
    Fn Try.prog 127 [.iface t u, .int .i64 i, .int .i64 n] W (fun v w' => ∃ l', l'.length = l.length ∧ (∀ x, x ∈ l' ↔ x ∈ l) ∧ HeapN l' n ∧ (∀ k, n ≤ k → jobAt l' k = jobAt l k) ∧ H l' w') := by
  refine Fn_enter Try.func127 rfl Try.results127 Try.ntmps127 (by kernel_rfl) (by kernel_rfl) ?_
  repeat refine cw_seq ?_
  refine cw_region ?_
  refine rw_v (op_pure rfl) ?_
  first | refine rw_end ?_ | (refine rw_nil ?_; show CW _ _ _ _ _ _) | refine rw_nil ?_
  repeat refine cw_seq ?_
  refine cw_region ?_
  refine rw_v (op_pure rfl) ?_
  refine rw_v (op_pure rfl) ?_
  first | refine rw_end ?_ | (refine rw_nil ?_; show CW _ _ _ _ _ _) | refine rw_nil ?_
  repeat refine cw_seq ?_
  refine cw_block ?_
  repeat refine cw_seq ?_
  refine cw_loop (fun m e w => ∃ (k : Nat) (l' : List Job), m = n - k ∧ SL e [(0, .iface t u), (1, .int .i64 i), (2, .int .i64 n), (7, .int .i64 k)] ∧ l'.length = l.length ∧ (∀ x, x ∈ l' ↔ x ∈ l) ∧ DnInv l' n k ∧ (∀ k, n ≤ k → jobAt l' k = jobAt l k) ∧ k ≤ 1099511627777 ∧ H l' w) (n - i)
    ⟨i, l, rfl, ⟨rfl, rfl, rfl, rfl, trivial⟩, rfl, fun _ => Iff.rfl, hI, fun _ _ => rfl, hi, hH⟩ ?_
  rintro m e w ⟨k, l', rfl, hsl, hlen, hmem, hI, hhi, hk, hH⟩
  rw [hsl.fold]
  have hsm := hO.small _ _ hH
  have hnl := hI.le
  have hj1 : ((2 : Int) * k + 1) = ((2 * k + 1 : Nat) : Int) := by omega
  have hj2 : (((2 * k + 1 : Nat) : Int) + 1) = ((2 * k + 2 : Nat) : Int) := by omega
  by_cases h1 : n ≤ 2 * k + 1
  · skip
    repeat refine cw_seq ?_
    refine cw_block ?_
    repeat refine cw_seq ?_
    refine cw_region ?_
    refine rw_v (op_pure rfl) ?_
    refine rw_v (op_rng rfl (by omega)) ?_
    refine rw_v (op_rng rfl (by omega)) ?_
    refine rw_v (op_pure rfl) ?_
    first | refine rw_end ?_ | (refine rw_nil ?_; show CW _ _ _ _ _ _) | refine rw_nil ?_
    repeat refine cw_seq ?_
    refine cw_region ?_
    refine rw_v (op_pure rfl) ?_
    refine rw_v (op_pure rfl) ?_
    first | refine rw_v (op_b (b := true) rfl (decide_eq_true (by omega))) ?_ | refine rw_v (op_b (b := false) rfl (decide_eq_false (by omega))) ?_ | refine rw_v (op_pure rfl) ?_
    refine rw_v (op_pure rfl) ?_
    first | refine rw_off rfl ?_ | (refine rw_on rfl ?_; refine rw_v (op_pure rfl) ?_)
    first | refine rw_off rfl ?_ | (refine rw_on rfl ?_; (first | refine rw_v (op_b (b := true) rfl (decide_eq_true (by omega))) ?_ | refine rw_v (op_b (b := false) rfl (decide_eq_false (by omega))) ?_ | refine rw_v (op_pure rfl) ?_))
    refine rw_v (op_pure rfl) ?_
    first | refine rw_end ?_ | (refine rw_nil ?_; show CW _ _ _ _ _ _) | refine rw_nil ?_
    repeat refine cw_seq ?_
    refine cw_true rfl ?_
    repeat refine cw_seq ?_
    refine cw_exit ?_
    repeat first | refine exit_then ?_ | refine exit_inb ?_
    show CW _ _ _ _ _ _
    repeat refine cw_seq ?_
    refine cw_region ?_
    refine rw_v (op_pure rfl) ?_
    refine rw_v (op_pure rfl) ?_
    refine rw_v (op_pure rfl) ?_
    refine rw_v (op_pure rfl) ?_
    first | refine rw_end ?_ | (refine rw_nil ?_; show CW _ _ _ _ _ _) | refine rw_nil ?_
    repeat refine cw_seq ?_
    refine cw_ret ?_
    repeat first | refine ret_then ?_ | refine ret_inb ?_
    exact res1 rfl ⟨l', hlen, hmem, hI.stop (fun q q0 hq hp => by omega), hhi, hH⟩
  · have hswap : ∀ q, (q = 2 * k + 1 ∨ q = 2 * k + 2) → q < n → ∀ y, n ≤ y → jobAt (swapJ l' k q) y = jobAt l y := fun q hq hqn y hy => by rw [jobAt_swap (by omega) (by omega), if_neg (by omega), if_neg (by omega)]; exact hhi y hy
    by_cases h2 : 2 * k + 2 < n
    · by_cases hc : (jobAt l' (2 * k + 2)).1 < (jobAt l' (2 * k + 1)).1
      · by_cases hd : (jobAt l' (2 * k + 2)).1 < (jobAt l' k).1
        · skip
          repeat refine cw_seq ?_
          refine cw_block ?_
          repeat refine cw_seq ?_
          refine cw_region ?_
          refine rw_v (op_pure rfl) ?_
          refine rw_v (op_rng rfl (by omega)) ?_
          refine rw_v (op_rng rfl (by omega)) ?_
          rw [hj1]
          refine rw_v (op_pure rfl) ?_
          first | refine rw_end ?_ | (refine rw_nil ?_; show CW _ _ _ _ _ _) | refine rw_nil ?_
          repeat refine cw_seq ?_
          refine cw_region ?_
          refine rw_v (op_pure rfl) ?_
          refine rw_v (op_pure rfl) ?_
          first | refine rw_v (op_b (b := true) rfl (decide_eq_true (by omega))) ?_ | refine rw_v (op_b (b := false) rfl (decide_eq_false (by omega))) ?_ | refine rw_v (op_pure rfl) ?_
          refine rw_v (op_pure rfl) ?_
          first | refine rw_off rfl ?_ | (refine rw_on rfl ?_; refine rw_v (op_pure rfl) ?_)
          first | refine rw_off rfl ?_ | (refine rw_on rfl ?_; (first | refine rw_v (op_b (b := true) rfl (decide_eq_true (by omega))) ?_ | refine rw_v (op_b (b := false) rfl (decide_eq_false (by omega))) ?_ | refine rw_v (op_pure rfl) ?_))
          refine rw_v (op_pure rfl) ?_
          first | refine rw_end ?_ | (refine rw_nil ?_; show CW _ _ _ _ _ _) | refine rw_nil ?_
          repeat refine cw_seq ?_
          refine cw_false rfl ?_
          repeat refine cw_seq ?_
          refine cw_skip ?_
          try show CW _ _ _ _ _ _
          repeat refine cw_seq ?_
          refine cw_region ?_
          refine rw_v (op_pure rfl) ?_
          refine rw_v (op_pure rfl) ?_
          first | refine rw_end ?_ | (refine rw_nil ?_; show CW _ _ _ _ _ _) | refine rw_nil ?_
          repeat refine cw_seq ?_
          refine cw_region ?_
          refine rw_v (op_pure rfl) ?_
          refine rw_v (op_rng rfl (by omega)) ?_
          rw [hj2]
          refine rw_v (op_pure rfl) ?_
          first | refine rw_end ?_ | (refine rw_nil ?_; show CW _ _ _ _ _ _) | refine rw_nil ?_
          repeat refine cw_seq ?_
          refine cw_region ?_
          refine rw_v (op_pure rfl) ?_
          refine rw_v (op_pure rfl) ?_
          first | refine rw_v (op_b (b := true) rfl (decide_eq_true (by omega))) ?_ | refine rw_v (op_b (b := false) rfl (decide_eq_false (by omega))) ?_ | refine rw_v (op_pure rfl) ?_
          refine rw_v (op_pure rfl) ?_
          first | refine rw_off rfl ?_ | (refine rw_on rfl ?_; refine rw_v (op_pure rfl) ?_)
          first | refine rw_off rfl ?_ | (refine rw_on rfl ?_; refine rw_v (op_pure rfl) ?_)
          first | refine rw_off rfl ?_ | (refine rw_on rfl ?_; refine rw_v (op_pure rfl) ?_)
          refine rw_on rfl ?_
          refine rw_inv rfl rfl (hO.less _ _ (2 * k + 2) (2 * k + 1) hH (by omega) (by omega)) ?_
          rintro _ w1 ⟨rfl, hH⟩
          rw [decide_eq_true hc]
          refine rw_v (op_pure rfl) ?_
          first | refine rw_end ?_ | (refine rw_nil ?_; show CW _ _ _ _ _ _) | refine rw_nil ?_
          repeat refine cw_seq ?_
          refine cw_true rfl ?_
          repeat refine cw_seq ?_
          refine cw_region ?_
          refine rw_v (op_pure rfl) ?_
          refine rw_v (op_pure rfl) ?_
          first | refine rw_end ?_ | (refine rw_nil ?_; show CW _ _ _ _ _ _) | refine rw_nil ?_
          repeat refine cw_seq ?_
          refine cw_region ?_
          refine rw_v (op_pure rfl) ?_
          refine rw_v (op_pure rfl) ?_
          refine rw_v (op_pure rfl) ?_
          refine rw_inv rfl rfl (hO.less _ _ (2 * k + 2) k hH (by omega) (by omega)) ?_
          rintro _ w2 ⟨rfl, hH⟩
          rw [decide_eq_true hd]
          refine rw_v (op_pure rfl) ?_
          first | refine rw_end ?_ | (refine rw_nil ?_; show CW _ _ _ _ _ _) | refine rw_nil ?_
          repeat refine cw_seq ?_
          refine cw_false rfl ?_
          repeat refine cw_seq ?_
          refine cw_skip ?_
          try show CW _ _ _ _ _ _
          repeat refine cw_seq ?_
          refine cw_region ?_
          refine rw_v (op_pure rfl) ?_
          refine rw_v (op_pure rfl) ?_
          refine rw_v (op_pure rfl) ?_
          refine rw_inv rfl rfl (hO.swap _ _ k (2 * k + 2) hH (by omega) (by omega)) ?_
          rintro _ w3 ⟨rfl, hH⟩
          first | refine rw_end ?_ | (refine rw_nil ?_; show CW _ _ _ _ _ _) | refine rw_nil ?_
          repeat refine cw_seq ?_
          refine cw_region ?_
          refine rw_v (op_pure rfl) ?_
          refine rw_v (op_pure rfl) ?_
          first | refine rw_end ?_ | (refine rw_nil ?_; show CW _ _ _ _ _ _) | refine rw_nil ?_
          exact ⟨n - (2 * k + 2), by omega, 2 * k + 2, _, rfl, ⟨rfl, rfl, rfl, rfl, trivial⟩, by rw [swapJ_len]; exact hlen, fun x => (mem_swapJ (by omega) (by omega) x).trans (hmem x), hI.down h2 (by omega) (by omega) hd (fun q q0 hq hp => by
            rcases (show q = 2 * k + 1 ∨ q = 2 * k + 2 by omega) with rfl | rfl
            · omega
            · exact Int.le_refl _), hswap _ (.inr rfl) h2, by omega, hH⟩
        · skip
          repeat refine cw_seq ?_
          refine cw_block ?_
          repeat refine cw_seq ?_
          refine cw_region ?_
          refine rw_v (op_pure rfl) ?_
          refine rw_v (op_rng rfl (by omega)) ?_
          refine rw_v (op_rng rfl (by omega)) ?_
          rw [hj1]
          refine rw_v (op_pure rfl) ?_
          first | refine rw_end ?_ | (refine rw_nil ?_; show CW _ _ _ _ _ _) | refine rw_nil ?_
          repeat refine cw_seq ?_
          refine cw_region ?_
          refine rw_v (op_pure rfl) ?_
          refine rw_v (op_pure rfl) ?_
          first | refine rw_v (op_b (b := true) rfl (decide_eq_true (by omega))) ?_ | refine rw_v (op_b (b := false) rfl (decide_eq_false (by omega))) ?_ | refine rw_v (op_pure rfl) ?_
          refine rw_v (op_pure rfl) ?_
          first | refine rw_off rfl ?_ | (refine rw_on rfl ?_; refine rw_v (op_pure rfl) ?_)
          first | refine rw_off rfl ?_ | (refine rw_on rfl ?_; (first | refine rw_v (op_b (b := true) rfl (decide_eq_true (by omega))) ?_ | refine rw_v (op_b (b := false) rfl (decide_eq_false (by omega))) ?_ | refine rw_v (op_pure rfl) ?_))
          refine rw_v (op_pure rfl) ?_
          first | refine rw_end ?_ | (refine rw_nil ?_; show CW _ _ _ _ _ _) | refine rw_nil ?_
          repeat refine cw_seq ?_
          refine cw_false rfl ?_
          repeat refine cw_seq ?_
          refine cw_skip ?_
          try show CW _ _ _ _ _ _
          repeat refine cw_seq ?_
          refine cw_region ?_
          refine rw_v (op_pure rfl) ?_
          refine rw_v (op_pure rfl) ?_
          first | refine rw_end ?_ | (refine rw_nil ?_; show CW _ _ _ _ _ _) | refine rw_nil ?_
          repeat refine cw_seq ?_
          refine cw_region ?_
          refine rw_v (op_pure rfl) ?_
          refine rw_v (op_rng rfl (by omega)) ?_
          rw [hj2]
          refine rw_v (op_pure rfl) ?_
          first | refine rw_end ?_ | (refine rw_nil ?_; show CW _ _ _ _ _ _) | refine rw_nil ?_
          repeat refine cw_seq ?_
          refine cw_region ?_
          refine rw_v (op_pure rfl) ?_
          refine rw_v (op_pure rfl) ?_
          first | refine rw_v (op_b (b := true) rfl (decide_eq_true (by omega))) ?_ | refine rw_v (op_b (b := false) rfl (decide_eq_false (by omega))) ?_ | refine rw_v (op_pure rfl) ?_
          refine rw_v (op_pure rfl) ?_
          first | refine rw_off rfl ?_ | (refine rw_on rfl ?_; refine rw_v (op_pure rfl) ?_)
          first | refine rw_off rfl ?_ | (refine rw_on rfl ?_; refine rw_v (op_pure rfl) ?_)
          first | refine rw_off rfl ?_ | (refine rw_on rfl ?_; refine rw_v (op_pure rfl) ?_)
          refine rw_on rfl ?_
          refine rw_inv rfl rfl (hO.less _ _ (2 * k + 2) (2 * k + 1) hH (by omega) (by omega)) ?_
          rintro _ w1 ⟨rfl, hH⟩
          rw [decide_eq_true hc]
          refine rw_v (op_pure rfl) ?_
          first | refine rw_end ?_ | (refine rw_nil ?_; show CW _ _ _ _ _ _) | refine rw_nil ?_
          repeat refine cw_seq ?_
          refine cw_true rfl ?_
          repeat refine cw_seq ?_
          refine cw_region ?_
          refine rw_v (op_pure rfl) ?_
          refine rw_v (op_pure rfl) ?_
          first | refine rw_end ?_ | (refine rw_nil ?_; show CW _ _ _ _ _ _) | refine rw_nil ?_
          repeat refine cw_seq ?_
          refine cw_region ?_
          refine rw_v (op_pure rfl) ?_
          refine rw_v (op_pure rfl) ?_
          refine rw_v (op_pure rfl) ?_
          refine rw_inv rfl rfl (hO.less _ _ (2 * k + 2) k hH (by omega) (by omega)) ?_
          rintro _ w2 ⟨rfl, hH⟩
          rw [decide_eq_false hd]
          refine rw_v (op_pure rfl) ?_
          first | refine rw_end ?_ | (refine rw_nil ?_; show CW _ _ _ _ _ _) | refine rw_nil ?_
          repeat refine cw_seq ?_
          refine cw_true rfl ?_
          repeat refine cw_seq ?_
          refine cw_exit ?_
          repeat first | refine exit_then ?_ | refine exit_inb ?_
          show CW _ _ _ _ _ _
          repeat refine cw_seq ?_
          refine cw_region ?_
          refine rw_v (op_pure rfl) ?_
          refine rw_v (op_pure rfl) ?_
          refine rw_v (op_pure rfl) ?_
          refine rw_v (op_pure rfl) ?_
          first | refine rw_end ?_ | (refine rw_nil ?_; show CW _ _ _ _ _ _) | refine rw_nil ?_
          repeat refine cw_seq ?_
          refine cw_ret ?_
          repeat first | refine ret_then ?_ | refine ret_inb ?_
          exact res1 rfl ⟨l', hlen, hmem, hI.stop (fun q q0 hq hp => by
            rcases (show q = 2 * k + 1 ∨ q = 2 * k + 2 by omega) with rfl | rfl <;> omega), hhi, hH⟩
      · by_cases hd : (jobAt l' (2 * k + 1)).1 < (jobAt l' k).1
        · skip
          repeat refine cw_seq ?_
          refine cw_block ?_
          repeat refine cw_seq ?_
          refine cw_region ?_
          refine rw_v (op_pure rfl) ?_
          refine rw_v (op_rng rfl (by omega)) ?_
          refine rw_v (op_rng rfl (by omega)) ?_
          rw [hj1]
          refine rw_v (op_pure rfl) ?_
          first | refine rw_end ?_ | (refine rw_nil ?_; show CW _ _ _ _ _ _) | refine rw_nil ?_
          repeat refine cw_seq ?_
          refine cw_region ?_
          refine rw_v (op_pure rfl) ?_
          refine rw_v (op_pure rfl) ?_
          first | refine rw_v (op_b (b := true) rfl (decide_eq_true (by omega))) ?_ | refine rw_v (op_b (b := false) rfl (decide_eq_false (by omega))) ?_ | refine rw_v (op_pure rfl) ?_
          refine rw_v (op_pure rfl) ?_
          first | refine rw_off rfl ?_ | (refine rw_on rfl ?_; refine rw_v (op_pure rfl) ?_)
          first | refine rw_off rfl ?_ | (refine rw_on rfl ?_; (first | refine rw_v (op_b (b := true) rfl (decide_eq_true (by omega))) ?_ | refine rw_v (op_b (b := false) rfl (decide_eq_false (by omega))) ?_ | refine rw_v (op_pure rfl) ?_))
          refine rw_v (op_pure rfl) ?_
          first | refine rw_end ?_ | (refine rw_nil ?_; show CW _ _ _ _ _ _) | refine rw_nil ?_
          repeat refine cw_seq ?_
          refine cw_false rfl ?_
          repeat refine cw_seq ?_
          refine cw_skip ?_
          try show CW _ _ _ _ _ _
          repeat refine cw_seq ?_
          refine cw_region ?_
          refine rw_v (op_pure rfl) ?_
          refine rw_v (op_pure rfl) ?_
          first | refine rw_end ?_ | (refine rw_nil ?_; show CW _ _ _ _ _ _) | refine rw_nil ?_
          repeat refine cw_seq ?_
          refine cw_region ?_
          refine rw_v (op_pure rfl) ?_
          refine rw_v (op_rng rfl (by omega)) ?_
          rw [hj2]
          refine rw_v (op_pure rfl) ?_
          first | refine rw_end ?_ | (refine rw_nil ?_; show CW _ _ _ _ _ _) | refine rw_nil ?_
          repeat refine cw_seq ?_
          refine cw_region ?_
          refine rw_v (op_pure rfl) ?_
          refine rw_v (op_pure rfl) ?_
          first | refine rw_v (op_b (b := true) rfl (decide_eq_true (by omega))) ?_ | refine rw_v (op_b (b := false) rfl (decide_eq_false (by omega))) ?_ | refine rw_v (op_pure rfl) ?_
          refine rw_v (op_pure rfl) ?_
          first | refine rw_off rfl ?_ | (refine rw_on rfl ?_; refine rw_v (op_pure rfl) ?_)
          first | refine rw_off rfl ?_ | (refine rw_on rfl ?_; refine rw_v (op_pure rfl) ?_)
          first | refine rw_off rfl ?_ | (refine rw_on rfl ?_; refine rw_v (op_pure rfl) ?_)
          refine rw_on rfl ?_
          refine rw_inv rfl rfl (hO.less _ _ (2 * k + 2) (2 * k + 1) hH (by omega) (by omega)) ?_
          rintro _ w1 ⟨rfl, hH⟩
          rw [decide_eq_false hc]
          refine rw_v (op_pure rfl) ?_
          first | refine rw_end ?_ | (refine rw_nil ?_; show CW _ _ _ _ _ _) | refine rw_nil ?_
          repeat refine cw_seq ?_
          refine cw_false rfl ?_
          repeat refine cw_seq ?_
          refine cw_skip ?_
          try show CW _ _ _ _ _ _
          repeat refine cw_seq ?_
          refine cw_region ?_
          refine rw_v (op_pure rfl) ?_
          refine rw_v (op_pure rfl) ?_
          refine rw_v (op_pure rfl) ?_
          refine rw_inv rfl rfl (hO.less _ _ (2 * k + 1) k hH (by omega) (by omega)) ?_
          rintro _ w2 ⟨rfl, hH⟩
          rw [decide_eq_true hd]
          refine rw_v (op_pure rfl) ?_
          first | refine rw_end ?_ | (refine rw_nil ?_; show CW _ _ _ _ _ _) | refine rw_nil ?_
          repeat refine cw_seq ?_
          refine cw_false rfl ?_
          repeat refine cw_seq ?_
          refine cw_skip ?_
          try show CW _ _ _ _ _ _
          repeat refine cw_seq ?_
          refine cw_region ?_
          refine rw_v (op_pure rfl) ?_
          refine rw_v (op_pure rfl) ?_
          refine rw_v (op_pure rfl) ?_
          refine rw_inv rfl rfl (hO.swap _ _ k (2 * k + 1) hH (by omega) (by omega)) ?_
          rintro _ w3 ⟨rfl, hH⟩
          first | refine rw_end ?_ | (refine rw_nil ?_; show CW _ _ _ _ _ _) | refine rw_nil ?_
          repeat refine cw_seq ?_
          refine cw_region ?_
          refine rw_v (op_pure rfl) ?_
          refine rw_v (op_pure rfl) ?_
          first | refine rw_end ?_ | (refine rw_nil ?_; show CW _ _ _ _ _ _) | refine rw_nil ?_
          exact ⟨n - (2 * k + 1), by omega, 2 * k + 1, _, rfl, ⟨rfl, rfl, rfl, rfl, trivial⟩, by rw [swapJ_len]; exact hlen, fun x => (mem_swapJ (by omega) (by omega) x).trans (hmem x), hI.down (by omega) (by omega) (by omega) hd (fun q q0 hq hp => by
            rcases (show q = 2 * k + 1 ∨ q = 2 * k + 2 by omega) with rfl | rfl
            · exact Int.le_refl _
            · omega), hswap _ (.inl rfl) (by omega), by omega, hH⟩
        · skip
          repeat refine cw_seq ?_
          refine cw_block ?_
          repeat refine cw_seq ?_
          refine cw_region ?_
          refine rw_v (op_pure rfl) ?_
          refine rw_v (op_rng rfl (by omega)) ?_
          refine rw_v (op_rng rfl (by omega)) ?_
          rw [hj1]
          refine rw_v (op_pure rfl) ?_
          first | refine rw_end ?_ | (refine rw_nil ?_; show CW _ _ _ _ _ _) | refine rw_nil ?_
          repeat refine cw_seq ?_
          refine cw_region ?_
          refine rw_v (op_pure rfl) ?_
          refine rw_v (op_pure rfl) ?_
          first | refine rw_v (op_b (b := true) rfl (decide_eq_true (by omega))) ?_ | refine rw_v (op_b (b := false) rfl (decide_eq_false (by omega))) ?_ | refine rw_v (op_pure rfl) ?_
          refine rw_v (op_pure rfl) ?_
          first | refine rw_off rfl ?_ | (refine rw_on rfl ?_; refine rw_v (op_pure rfl) ?_)
          first | refine rw_off rfl ?_ | (refine rw_on rfl ?_; (first | refine rw_v (op_b (b := true) rfl (decide_eq_true (by omega))) ?_ | refine rw_v (op_b (b := false) rfl (decide_eq_false (by omega))) ?_ | refine rw_v (op_pure rfl) ?_))
          refine rw_v (op_pure rfl) ?_
          first | refine rw_end ?_ | (refine rw_nil ?_; show CW _ _ _ _ _ _) | refine rw_nil ?_
          repeat refine cw_seq ?_
          refine cw_false rfl ?_
          repeat refine cw_seq ?_
          refine cw_skip ?_
          try show CW _ _ _ _ _ _
          repeat refine cw_seq ?_
          refine cw_region ?_
          refine rw_v (op_pure rfl) ?_
          refine rw_v (op_pure rfl) ?_
          first | refine rw_end ?_ | (refine rw_nil ?_; show CW _ _ _ _ _ _) | refine rw_nil ?_
          repeat refine cw_seq ?_
          refine cw_region ?_
          refine rw_v (op_pure rfl) ?_
          refine rw_v (op_rng rfl (by omega)) ?_
          rw [hj2]
          refine rw_v (op_pure rfl) ?_
          first | refine rw_end ?_ | (refine rw_nil ?_; show CW _ _ _ _ _ _) | refine rw_nil ?_
          repeat refine cw_seq ?_
          refine cw_region ?_
          refine rw_v (op_pure rfl) ?_
          refine rw_v (op_pure rfl) ?_
          first | refine rw_v (op_b (b := true) rfl (decide_eq_true (by omega))) ?_ | refine rw_v (op_b (b := false) rfl (decide_eq_false (by omega))) ?_ | refine rw_v (op_pure rfl) ?_
          refine rw_v (op_pure rfl) ?_
          first | refine rw_off rfl ?_ | (refine rw_on rfl ?_; refine rw_v (op_pure rfl) ?_)
          first | refine rw_off rfl ?_ | (refine rw_on rfl ?_; refine rw_v (op_pure rfl) ?_)
          first | refine rw_off rfl ?_ | (refine rw_on rfl ?_; refine rw_v (op_pure rfl) ?_)
          refine rw_on rfl ?_
          refine rw_inv rfl rfl (hO.less _ _ (2 * k + 2) (2 * k + 1) hH (by omega) (by omega)) ?_
          rintro _ w1 ⟨rfl, hH⟩
          rw [decide_eq_false hc]
          refine rw_v (op_pure rfl) ?_
          first | refine rw_end ?_ | (refine rw_nil ?_; show CW _ _ _ _ _ _) | refine rw_nil ?_
          repeat refine cw_seq ?_
          refine cw_false rfl ?_
          repeat refine cw_seq ?_
          refine cw_skip ?_
          try show CW _ _ _ _ _ _
          repeat refine cw_seq ?_
          refine cw_region ?_
          refine rw_v (op_pure rfl) ?_
          refine rw_v (op_pure rfl) ?_
          refine rw_v (op_pure rfl) ?_
          refine rw_inv rfl rfl (hO.less _ _ (2 * k + 1) k hH (by omega) (by omega)) ?_
          rintro _ w2 ⟨rfl, hH⟩
          rw [decide_eq_false hd]
          refine rw_v (op_pure rfl) ?_
          first | refine rw_end ?_ | (refine rw_nil ?_; show CW _ _ _ _ _ _) | refine rw_nil ?_
          repeat refine cw_seq ?_
          refine cw_true rfl ?_
          repeat refine cw_seq ?_
          refine cw_exit ?_
          repeat first | refine exit_then ?_ | refine exit_inb ?_
          show CW _ _ _ _ _ _
          repeat refine cw_seq ?_
          refine cw_region ?_
          refine rw_v (op_pure rfl) ?_
          refine rw_v (op_pure rfl) ?_
          refine rw_v (op_pure rfl) ?_
          refine rw_v (op_pure rfl) ?_
          first | refine rw_end ?_ | (refine rw_nil ?_; show CW _ _ _ _ _ _) | refine rw_nil ?_
          repeat refine cw_seq ?_
          refine cw_ret ?_
          repeat first | refine ret_then ?_ | refine ret_inb ?_
          exact res1 rfl ⟨l', hlen, hmem, hI.stop (fun q q0 hq hp => by
            rcases (show q = 2 * k + 1 ∨ q = 2 * k + 2 by omega) with rfl | rfl <;> omega), hhi, hH⟩
    · by_cases hd : (jobAt l' (2 * k + 1)).1 < (jobAt l' k).1
      · skip
        repeat refine cw_seq ?_
        refine cw_block ?_
        repeat refine cw_seq ?_
        refine cw_region ?_
        refine rw_v (op_pure rfl) ?_
        refine rw_v (op_rng rfl (by omega)) ?_
        refine rw_v (op_rng rfl (by omega)) ?_
        rw [hj1]
        refine rw_v (op_pure rfl) ?_
        first | refine rw_end ?_ | (refine rw_nil ?_; show CW _ _ _ _ _ _) | refine rw_nil ?_
        repeat refine cw_seq ?_
        refine cw_region ?_
        refine rw_v (op_pure rfl) ?_
        refine rw_v (op_pure rfl) ?_
        first | refine rw_v (op_b (b := true) rfl (decide_eq_true (by omega))) ?_ | refine rw_v (op_b (b := false) rfl (decide_eq_false (by omega))) ?_ | refine rw_v (op_pure rfl) ?_
        refine rw_v (op_pure rfl) ?_
        first | refine rw_off rfl ?_ | (refine rw_on rfl ?_; refine rw_v (op_pure rfl) ?_)
        first | refine rw_off rfl ?_ | (refine rw_on rfl ?_; (first | refine rw_v (op_b (b := true) rfl (decide_eq_true (by omega))) ?_ | refine rw_v (op_b (b := false) rfl (decide_eq_false (by omega))) ?_ | refine rw_v (op_pure rfl) ?_))
        refine rw_v (op_pure rfl) ?_
        first | refine rw_end ?_ | (refine rw_nil ?_; show CW _ _ _ _ _ _) | refine rw_nil ?_
        repeat refine cw_seq ?_
        refine cw_false rfl ?_
        repeat refine cw_seq ?_
        refine cw_skip ?_
        try show CW _ _ _ _ _ _
        repeat refine cw_seq ?_
        refine cw_region ?_
        refine rw_v (op_pure rfl) ?_
        refine rw_v (op_pure rfl) ?_
        first | refine rw_end ?_ | (refine rw_nil ?_; show CW _ _ _ _ _ _) | refine rw_nil ?_
        repeat refine cw_seq ?_
        refine cw_region ?_
        refine rw_v (op_pure rfl) ?_
        refine rw_v (op_rng rfl (by omega)) ?_
        rw [hj2]
        refine rw_v (op_pure rfl) ?_
        first | refine rw_end ?_ | (refine rw_nil ?_; show CW _ _ _ _ _ _) | refine rw_nil ?_
        repeat refine cw_seq ?_
        refine cw_region ?_
        refine rw_v (op_pure rfl) ?_
        refine rw_v (op_pure rfl) ?_
        first | refine rw_v (op_b (b := true) rfl (decide_eq_true (by omega))) ?_ | refine rw_v (op_b (b := false) rfl (decide_eq_false (by omega))) ?_ | refine rw_v (op_pure rfl) ?_
        refine rw_v (op_pure rfl) ?_
        first | refine rw_off rfl ?_ | (refine rw_on rfl ?_; refine rw_v (op_pure rfl) ?_)
        first | refine rw_off rfl ?_ | (refine rw_on rfl ?_; refine rw_v (op_pure rfl) ?_)
        first | refine rw_off rfl ?_ | (refine rw_on rfl ?_; refine rw_v (op_pure rfl) ?_)
        refine rw_off rfl ?_
        refine rw_v (op_pure rfl) ?_
        first | refine rw_end ?_ | (refine rw_nil ?_; show CW _ _ _ _ _ _) | refine rw_nil ?_
        repeat refine cw_seq ?_
        refine cw_false rfl ?_
        repeat refine cw_seq ?_
        refine cw_skip ?_
        try show CW _ _ _ _ _ _
        repeat refine cw_seq ?_
        refine cw_region ?_
        refine rw_v (op_pure rfl) ?_
        refine rw_v (op_pure rfl) ?_
        refine rw_v (op_pure rfl) ?_
        refine rw_inv rfl rfl (hO.less _ _ (2 * k + 1) k hH (by omega) (by omega)) ?_
        rintro _ w2 ⟨rfl, hH⟩
        rw [decide_eq_true hd]
        refine rw_v (op_pure rfl) ?_
        first | refine rw_end ?_ | (refine rw_nil ?_; show CW _ _ _ _ _ _) | refine rw_nil ?_
        repeat refine cw_seq ?_
        refine cw_false rfl ?_
        repeat refine cw_seq ?_
        refine cw_skip ?_
        try show CW _ _ _ _ _ _
        repeat refine cw_seq ?_
        refine cw_region ?_
        refine rw_v (op_pure rfl) ?_
        refine rw_v (op_pure rfl) ?_
        refine rw_v (op_pure rfl) ?_
        refine rw_inv rfl rfl (hO.swap _ _ k (2 * k + 1) hH (by omega) (by omega)) ?_
        rintro _ w3 ⟨rfl, hH⟩
        first | refine rw_end ?_ | (refine rw_nil ?_; show CW _ _ _ _ _ _) | refine rw_nil ?_
        repeat refine cw_seq ?_
        refine cw_region ?_
        refine rw_v (op_pure rfl) ?_
        refine rw_v (op_pure rfl) ?_
        first | refine rw_end ?_ | (refine rw_nil ?_; show CW _ _ _ _ _ _) | refine rw_nil ?_
        exact ⟨n - (2 * k + 1), by omega, 2 * k + 1, _, rfl, ⟨rfl, rfl, rfl, rfl, trivial⟩, by rw [swapJ_len]; exact hlen, fun x => (mem_swapJ (by omega) (by omega) x).trans (hmem x), hI.down (by omega) (by omega) (by omega) hd (fun q q0 hq hp => by
          obtain rfl : q = 2 * k + 1 := by omega
          exact Int.le_refl _), hswap _ (.inl rfl) (by omega), by omega, hH⟩
      · skip
        repeat refine cw_seq ?_
        refine cw_block ?_
        repeat refine cw_seq ?_
        refine cw_region ?_
        refine rw_v (op_pure rfl) ?_
        refine rw_v (op_rng rfl (by omega)) ?_
        refine rw_v (op_rng rfl (by omega)) ?_
        rw [hj1]
        refine rw_v (op_pure rfl) ?_
        first | refine rw_end ?_ | (refine rw_nil ?_; show CW _ _ _ _ _ _) | refine rw_nil ?_
        repeat refine cw_seq ?_
        refine cw_region ?_
        refine rw_v (op_pure rfl) ?_
        refine rw_v (op_pure rfl) ?_
        first | refine rw_v (op_b (b := true) rfl (decide_eq_true (by omega))) ?_ | refine rw_v (op_b (b := false) rfl (decide_eq_false (by omega))) ?_ | refine rw_v (op_pure rfl) ?_
        refine rw_v (op_pure rfl) ?_
        first | refine rw_off rfl ?_ | (refine rw_on rfl ?_; refine rw_v (op_pure rfl) ?_)
        first | refine rw_off rfl ?_ | (refine rw_on rfl ?_; (first | refine rw_v (op_b (b := true) rfl (decide_eq_true (by omega))) ?_ | refine rw_v (op_b (b := false) rfl (decide_eq_false (by omega))) ?_ | refine rw_v (op_pure rfl) ?_))
        refine rw_v (op_pure rfl) ?_
        first | refine rw_end ?_ | (refine rw_nil ?_; show CW _ _ _ _ _ _) | refine rw_nil ?_
        repeat refine cw_seq ?_
        refine cw_false rfl ?_
        repeat refine cw_seq ?_
        refine cw_skip ?_
        try show CW _ _ _ _ _ _
        repeat refine cw_seq ?_
        refine cw_region ?_
        refine rw_v (op_pure rfl) ?_
        refine rw_v (op_pure rfl) ?_
        first | refine rw_end ?_ | (refine rw_nil ?_; show CW _ _ _ _ _ _) | refine rw_nil ?_
        repeat refine cw_seq ?_
        refine cw_region ?_
        refine rw_v (op_pure rfl) ?_
        refine rw_v (op_rng rfl (by omega)) ?_
        rw [hj2]
        refine rw_v (op_pure rfl) ?_
        first | refine rw_end ?_ | (refine rw_nil ?_; show CW _ _ _ _ _ _) | refine rw_nil ?_
        repeat refine cw_seq ?_
        refine cw_region ?_
        refine rw_v (op_pure rfl) ?_
        refine rw_v (op_pure rfl) ?_
        first | refine rw_v (op_b (b := true) rfl (decide_eq_true (by omega))) ?_ | refine rw_v (op_b (b := false) rfl (decide_eq_false (by omega))) ?_ | refine rw_v (op_pure rfl) ?_
        refine rw_v (op_pure rfl) ?_
        first | refine rw_off rfl ?_ | (refine rw_on rfl ?_; refine rw_v (op_pure rfl) ?_)
        first | refine rw_off rfl ?_ | (refine rw_on rfl ?_; refine rw_v (op_pure rfl) ?_)
        first | refine rw_off rfl ?_ | (refine rw_on rfl ?_; refine rw_v (op_pure rfl) ?_)
        refine rw_off rfl ?_
        refine rw_v (op_pure rfl) ?_
        first | refine rw_end ?_ | (refine rw_nil ?_; show CW _ _ _ _ _ _) | refine rw_nil ?_
        repeat refine cw_seq ?_
        refine cw_false rfl ?_
        repeat refine cw_seq ?_
        refine cw_skip ?_
        try show CW _ _ _ _ _ _
        repeat refine cw_seq ?_
        refine cw_region ?_
        refine rw_v (op_pure rfl) ?_
        refine rw_v (op_pure rfl) ?_
        refine rw_v (op_pure rfl) ?_
        refine rw_inv rfl rfl (hO.less _ _ (2 * k + 1) k hH (by omega) (by omega)) ?_
        rintro _ w2 ⟨rfl, hH⟩
        rw [decide_eq_false hd]
        refine rw_v (op_pure rfl) ?_
        first | refine rw_end ?_ | (refine rw_nil ?_; show CW _ _ _ _ _ _) | refine rw_nil ?_
        repeat refine cw_seq ?_
        refine cw_true rfl ?_
        repeat refine cw_seq ?_
        refine cw_exit ?_
        repeat first | refine exit_then ?_ | refine exit_inb ?_
        show CW _ _ _ _ _ _
        repeat refine cw_seq ?_
        refine cw_region ?_
        refine rw_v (op_pure rfl) ?_
        refine rw_v (op_pure rfl) ?_
        refine rw_v (op_pure rfl) ?_
        refine rw_v (op_pure rfl) ?_
        first | refine rw_end ?_ | (refine rw_nil ?_; show CW _ _ _ _ _ _) | refine rw_nil ?_
        repeat refine cw_seq ?_
        refine cw_ret ?_
        repeat first | refine ret_then ?_ | refine ret_inb ?_
        exact res1 rfl ⟨l', hlen, hmem, hI.stop (fun q q0 hq hp => by
          obtain rfl : q = 2 * k + 1 := by omega
          omega), hhi, hH⟩
theorem hpop_E (hO : HeapOps Try.prog t u jt H) (l : List Job) (W : World) (hN : HeapN l l.length) (h0 : 0 < l.length) (hH : H l W) :
    Fn Try.prog 104 [.iface t u] W (fun v w' => ∃ (x : Job) (l' : List Job), v = .iface jt (.agg #[.int .i64 x.1, .int .i64 x.2]) ∧ l'.length + 1 = l.length ∧ (∀ y, y ∈ l ↔ y = x ∨ y ∈ l') ∧ (∀ y ∈ l', x.1 ≤ y.1) ∧ HeapN l' l'.length ∧ H l' w') := by
  have hsm := hO.small _ _ hH
  refine Fn_enter Try.func104 rfl Try.results104 Try.ntmps104 (by kernel_rfl) (by kernel_rfl) ?_
  repeat refine cw_seq ?_
  refine cw_region ?_
  refine rw_v (op_pure rfl) ?_
  first | refine rw_end ?_ | (refine rw_nil ?_; show CW _ _ _ _ _ _) | refine rw_nil ?_
  repeat refine cw_seq ?_
  refine cw_region ?_
  refine rw_v (op_pure rfl) ?_
  refine rw_inv rfl rfl (hO.len _ _ hH) ?_
  rintro _ w1 ⟨rfl, hH⟩
  refine rw_v (op_rng rfl (by omega)) ?_
  rw [show ((l.length : Nat) : Int) - 1 = ((l.length - 1 : Nat) : Int) by omega]
  refine rw_v (op_pure rfl) ?_
  first | refine rw_end ?_ | (refine rw_nil ?_; show CW _ _ _ _ _ _) | refine rw_nil ?_
  repeat refine cw_seq ?_
  refine cw_region ?_
  refine rw_v (op_pure rfl) ?_
  refine rw_v (op_pure rfl) ?_
  refine rw_inv rfl rfl (hO.swap _ _ 0 (l.length - 1) hH (by omega) (by omega)) ?_
  rintro _ w2 ⟨rfl, hH⟩
  first | refine rw_end ?_ | (refine rw_nil ?_; show CW _ _ _ _ _ _) | refine rw_nil ?_
  repeat refine cw_seq ?_
  refine cw_region ?_
  refine rw_v (op_pure rfl) ?_
  refine rw_v (op_pure rfl) ?_
  refine rw_call rfl (down_E hO _ 0 (l.length - 1) _ (DnInv.pop hN h0) (by omega) hH) ?_
  rintro v3 w3 ⟨l', hlen, hmem, hN', hhi, hH⟩
  first | refine rw_end ?_ | (refine rw_nil ?_; show CW _ _ _ _ _ _) | refine rw_nil ?_
  repeat refine cw_seq ?_
  refine cw_region ?_
  refine rw_v (op_pure rfl) ?_
  rw [swapJ_len] at hlen
  refine rw_inv rfl rfl (hO.pop _ _ hH (by omega)) ?_
  rintro _ w4 ⟨rfl, hH⟩
  refine rw_v (op_pure rfl) ?_
  first | refine rw_end ?_ | (refine rw_nil ?_; show CW _ _ _ _ _ _) | refine rw_nil ?_
  repeat refine cw_seq ?_
  refine cw_ret ?_
  repeat first | refine ret_then ?_ | refine ret_inb ?_
  have hlast : jobAt l' (l'.length - 1) = jobAt l 0 := by rw [hlen, hhi _ (Nat.le_refl _), jobAt_swap (by omega) (by omega), if_pos rfl]
  have hmin := hN.min
  have htk := take_last (l := l') (m := l'.length - 1) (by omega)
  rw [hlast] at htk
  rw [hlast] 
  refine res1 rfl ⟨jobAt l 0, l'.take (l'.length - 1), rfl, by rw [List.length_take]; omega, fun y => ?_, fun y hy => ?_, ?_, hH⟩
  · rw [← htk y, hmem y, mem_swapJ (by omega) (by omega)]
  · have : y ∈ l := by rw [← mem_swapJ (i := 0) (j := l.length - 1) (by omega) (by omega), ← hmem]; exact List.mem_of_mem_take hy
    obtain ⟨k, hk, rfl⟩ := mem_jobAt.1 this
    exact hmin k hk
  · exact HeapN.take (by rw [hlen]; exact hN')
end
end Go.Proofs.Ytmdkjohllinphaa
