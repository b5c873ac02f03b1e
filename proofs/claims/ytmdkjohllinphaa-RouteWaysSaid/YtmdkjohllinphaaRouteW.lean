/- hachurelaw32.RouteWays: the plain law; rays along a row or a column; the walk. -/
import Derived.Test.YtmdkjohllinphaaRouteL
namespace Go.Proofs.Ytmdkjohllinphaa
open Go.RowKit
set_option linter.unusedVariables false
set_option linter.unusedSimpArgs false
set_option maxRecDepth 100000

/-! ### Costs there and back, over a third cell, along a route -/
section
variable {gw gh a b c : Nat} {V : List Int} {d d' e : Nat → Int}
theorem IsDist.back (h : IsDist gw V b d) (he : IsDist gw V a e) (ha : a < V.length) (hb : b < V.length) : d a ≤ e b := by
  have := he.le_of (d' := fun j => d a - d j) (by show d a - d a ≤ 0; omega) (fun i j hi hj s _ => by
    show d a - d j ≤ d a - d i + st V i j
    have := h.le j i hj hi s.symm
    rw [st_symm] at this
    omega) b hb
  have h0 := h.zero
  simp only [h0] at this
  omega
theorem IsDist.over (h : IsDist gw V b d) (he : IsDist gw V c e) {x : Nat} (hx : x < V.length) : d x ≤ e x + d c := by
  have := he.le_of (d' := fun j => d j - d c) (by show d c - d c ≤ 0; omega) (fun i j hi hj s _ => by
    show d j - d c ≤ d i - d c + st V i j
    have := h.le i j hi hj s
    omega) x hx
  omega
/-- a route: its cells lie side by side, and each step costs what is left less -/
theorem routeL_ok (hgw : 0 < gw) (hV : V.length = gw * gh) (hd : IsDist gw V b d) : ∀ (n i : Nat), i < gw * gh → d i < n → ∃ rest, routeL gw V d b i = i :: rest ∧ (∀ y ∈ i :: rest, y < gw * gh) ∧ (i :: rest)[rest.length]? = some b ∧
    (∀ k x y, (i :: rest)[k]? = some x → (i :: rest)[k + 1]? = some y → Side gw x y ∧ d x = d y + st V x y)
  | 0, i, hi, h => by have := hd.nn i (hV ▸ hi); omega
  | n + 1, i, hi, h => by
    by_cases e : i = b
    · subst e
      refine ⟨[], routeL_here hd, fun y hy => ?_, rfl, fun k x y hx hy => ?_⟩
      · simp at hy; rw [hy]; exact hi
      · have := (List.getElem?_eq_some_iff.1 hy).1; simp at this
    · obtain ⟨_, _, _, _, he, hlt, hs⟩ := nextN_ok hgw hV hd hi e
      have hst := st_pos V i (nextN gw V d i)
      obtain ⟨rest, h1, h2, h3, h4⟩ := routeL_ok hgw hV hd n (nextN gw V d i) hlt (by omega)
      refine ⟨nextN gw V d i :: rest, by rw [routeL_step hgw hV hd hi e, h1], fun y hy => ?_, ?_, fun k x y hx hy => ?_⟩
      · rcases List.mem_cons.1 hy with rfl | hy
        · exact hi
        · exact h2 y hy
      · rw [List.length_cons]; exact h3
      · cases k with
        | zero =>
          simp at hx hy
          subst hx; subst hy
          exact ⟨hs, he.symm⟩
        | succ k => exact h4 k x y hx hy
theorem sq_nn (x : Int) : 0 ≤ x * x := by
  rcases Int.le_total 0 x with h | h
  · exact Int.mul_nonneg h h
  · have h2 := Int.mul_nonneg (show (0 : Int) ≤ -x by omega) (show (0 : Int) ≤ -x by omega)
    rwa [Int.neg_mul_neg] at h2
theorem nat_cb {x n : Nat} (h : x < n) (hn : n ≤ 1024) : 0 ≤ (x : Int) ∧ (x : Int) ≤ 1048576 := by omega
theorem side_sq {i j : Nat} (hgw : 0 < gw) (s : Side gw i j) : (((j % gw : Nat) : Int) - (i % gw : Nat)) * (((j % gw : Nat) : Int) - (i % gw : Nat)) + (((j / gw : Nat) : Int) - (i / gw : Nat)) * (((j / gw : Nat) : Int) - (i / gw : Nat)) = 1 := by
  have one : ∀ p q : Nat, p + 1 = q → 0 < q % gw → q % gw = p % gw + 1 ∧ q / gw = p / gw := fun p q e h => by
    have hm := mod_next (i := p) hgw
    rw [e] at hm
    have hne : p % gw + 1 ≠ gw := fun h1 => by rw [if_pos h1] at hm; omega
    rw [if_neg hne] at hm
    have e1 := Nat.div_add_mod p gw
    have e2 := Nat.div_add_mod q gw
    have : gw * (q / gw) = gw * (p / gw) := by omega
    exact ⟨hm, Nat.eq_of_mul_eq_mul_left hgw this⟩
  have up : ∀ p q : Nat, p + gw = q → q % gw = p % gw ∧ q / gw = p / gw + 1 := fun p q e => by
    subst e
    exact ⟨Nat.add_mod_right _ _, Nat.add_div_right _ hgw⟩
  have fin : ∀ X Y X' Y' : Nat, (((X' = X + 1 ∨ X = X' + 1) ∧ Y' = Y) ∨ (X' = X ∧ (Y' = Y + 1 ∨ Y = Y' + 1))) → ((X' : Int) - X) * ((X' : Int) - X) + ((Y' : Int) - Y) * ((Y' : Int) - Y) = 1 := fun X Y X' Y' h => by
    have h0 : (((X' : Int) - X = 1 ∨ (X' : Int) - X = -1) ∧ (Y' : Int) - Y = 0) ∨ ((X' : Int) - X = 0 ∧ ((Y' : Int) - Y = 1 ∨ (Y' : Int) - Y = -1)) := by omega
    rcases h0 with ⟨h1 | h1, h2⟩ | ⟨h1, h2 | h2⟩ <;> rw [h1, h2] <;> rfl
  refine fin _ _ _ _ ?_
  rcases s with ⟨e, h⟩ | ⟨e, h⟩ | e | e
  · exact .inl ⟨.inr (one j i e h).1, (one j i e h).2.symm⟩
  · exact .inl ⟨.inl (one i j e h).1, (one i j e h).2⟩
  · exact .inr ⟨(up j i e).1.symm, .inr (up j i e).2⟩
  · exact .inr ⟨(up i j e).1, .inl (up i j e).2⟩
end
/-! ### Rays along a row or a column -/
def toZ (a b i : Int) : Int := if b < a then a - i else a + i
def absZ (n : Int) : Int := if n < 0 then 0 - n else n
theorem rsize_E (n : Int) (hn : -9223372036854775807 ≤ n ∧ n ≤ 9223372036854775807) (W : World) : Fn Try.prog 106 [.int .i64 n] W (RetG (.int .i64 (absZ n)) W) := by
  have S := St.start W
  refine Fn_enter Try.func106 rfl Try.results106 Try.ntmps106 (by kernel_rfl) (by kernel_rfl) ?_
  repeat refine cw_seq ?_
  refine cw_region ?_
  refine rw_v (op_pure rfl) ?_
  first | refine rw_end ?_ | (refine rw_nil ?_; show CW _ _ _ _ _ _) | refine rw_nil ?_
  repeat refine cw_seq ?_
  refine cw_region ?_
  refine rw_v (op_pure rfl) ?_
  refine rw_v (op_pure rfl) ?_
  first | refine rw_end ?_ | (refine rw_nil ?_; show CW _ _ _ _ _ _) | refine rw_nil ?_
  repeat refine cw_seq ?_
  refine cw_cond rfl (fun hc => ?_) (fun hc => ?_)
  · try simp only [decide_eq_true_eq, decide_eq_false_iff_not, beq_iff_eq, bne_iff_ne, beq_eq_false_iff_ne, bne_eq_false_iff_eq, Bool.not_eq_true', Bool.not_eq_false', ne_eq, Decidable.not_not, Int.natCast_inj, Int.ofNat_lt, Int.ofNat_le, gt_iff_lt, ge_iff_le, Int.not_lt, Int.not_le] at hc
    repeat refine cw_seq ?_
    refine cw_region ?_
    refine rw_v (op_pure rfl) ?_
    refine rw_v (op_rng rfl (by omega)) ?_
    refine rw_v (op_pure rfl) ?_
    first | refine rw_end ?_ | (refine rw_nil ?_; show CW _ _ _ _ _ _) | refine rw_nil ?_
    repeat refine cw_seq ?_
    refine cw_ret ?_
    repeat first | refine ret_then ?_ | refine ret_inb ?_
    exact res1 rfl ⟨ie (by unfold absZ; rw [if_pos hc]), S.out⟩
  · try simp only [decide_eq_true_eq, decide_eq_false_iff_not, beq_iff_eq, bne_iff_ne, beq_eq_false_iff_ne, bne_eq_false_iff_eq, Bool.not_eq_true', Bool.not_eq_false', ne_eq, Decidable.not_not, Int.natCast_inj, Int.ofNat_lt, Int.ofNat_le, gt_iff_lt, ge_iff_le, Int.not_lt, Int.not_le] at hc
    repeat refine cw_seq ?_
    refine cw_skip ?_
    try show CW _ _ _ _ _ _
    repeat refine cw_seq ?_
    refine cw_region ?_
    refine rw_v (op_pure rfl) ?_
    refine rw_v (op_pure rfl) ?_
    first | refine rw_end ?_ | (refine rw_nil ?_; show CW _ _ _ _ _ _) | refine rw_nil ?_
    repeat refine cw_seq ?_
    refine cw_ret ?_
    repeat first | refine ret_then ?_ | refine ret_inb ?_
    exact res1 rfl ⟨ie (by unfold absZ; rw [if_neg (by omega)]), S.out⟩
theorem rtoward_E (a b i : Int) (ha : 0 ≤ a ∧ a ≤ 1048576) (hi : 0 ≤ i ∧ i ≤ 1048576) (W : World) : Fn Try.prog 107 [.int .i64 a, .int .i64 b, .int .i64 i] W (RetG (.int .i64 (toZ a b i)) W) := by
  have S := St.start W
  refine Fn_enter Try.func107 rfl Try.results107 Try.ntmps107 (by kernel_rfl) (by kernel_rfl) ?_
  repeat refine cw_seq ?_
  refine cw_region ?_
  refine rw_v (op_pure rfl) ?_
  first | refine rw_end ?_ | (refine rw_nil ?_; show CW _ _ _ _ _ _) | refine rw_nil ?_
  repeat refine cw_seq ?_
  refine cw_region ?_
  refine rw_v (op_pure rfl) ?_
  refine rw_v (op_pure rfl) ?_
  refine rw_v (op_pure rfl) ?_
  first | refine rw_end ?_ | (refine rw_nil ?_; show CW _ _ _ _ _ _) | refine rw_nil ?_
  repeat refine cw_seq ?_
  refine cw_cond rfl (fun hc => ?_) (fun hc => ?_)
  · try simp only [decide_eq_true_eq, decide_eq_false_iff_not, beq_iff_eq, bne_iff_ne, beq_eq_false_iff_ne, bne_eq_false_iff_eq, Bool.not_eq_true', Bool.not_eq_false', ne_eq, Decidable.not_not, Int.natCast_inj, Int.ofNat_lt, Int.ofNat_le, gt_iff_lt, ge_iff_le, Int.not_lt, Int.not_le] at hc
    repeat refine cw_seq ?_
    refine cw_region ?_
    refine rw_v (op_pure rfl) ?_
    refine rw_v (op_pure rfl) ?_
    refine rw_v (op_rng rfl (by omega)) ?_
    refine rw_v (op_pure rfl) ?_
    first | refine rw_end ?_ | (refine rw_nil ?_; show CW _ _ _ _ _ _) | refine rw_nil ?_
    repeat refine cw_seq ?_
    refine cw_ret ?_
    repeat first | refine ret_then ?_ | refine ret_inb ?_
    exact res1 rfl ⟨ie (by unfold toZ; rw [if_pos hc]), S.out⟩
  · try simp only [decide_eq_true_eq, decide_eq_false_iff_not, beq_iff_eq, bne_iff_ne, beq_eq_false_iff_ne, bne_eq_false_iff_eq, Bool.not_eq_true', Bool.not_eq_false', ne_eq, Decidable.not_not, Int.natCast_inj, Int.ofNat_lt, Int.ofNat_le, gt_iff_lt, ge_iff_le, Int.not_lt, Int.not_le] at hc
    repeat refine cw_seq ?_
    refine cw_skip ?_
    try show CW _ _ _ _ _ _
    repeat refine cw_seq ?_
    refine cw_region ?_
    refine rw_v (op_pure rfl) ?_
    refine rw_v (op_pure rfl) ?_
    refine rw_v (op_rng rfl (by omega)) ?_
    refine rw_v (op_pure rfl) ?_
    first | refine rw_end ?_ | (refine rw_nil ?_; show CW _ _ _ _ _ _) | refine rw_nil ?_
    repeat refine cw_seq ?_
    refine cw_ret ?_
    repeat first | refine ret_then ?_ | refine ret_inb ?_
    exact res1 rfl ⟨ie (by unfold toZ; rw [if_neg (by omega)]), S.out⟩
theorem rlen_E (ax ay bx bz : Int) (ha : 0 ≤ ax ∧ ax ≤ 1048576 ∧ 0 ≤ ay ∧ ay ≤ 1048576) (hb : 0 ≤ bx ∧ bx ≤ 1048576 ∧ 0 ≤ bz ∧ bz ≤ 1048576) (W : World) :
    Fn Try.prog 72 [.agg #[.int .i64 ax, .int .i64 ay], .agg #[.int .i64 bx, .int .i64 bz]] W (RetG (.int .i64 (max (absZ (bx - ax)) (absZ (bz - ay)))) W) := by
  have S := St.start W
  refine Fn_enter Try.func72 rfl Try.results72 Try.ntmps72 (by kernel_rfl) (by kernel_rfl) ?_
  repeat refine cw_seq ?_
  refine cw_region ?_
  refine rw_newB (op_box rfl) S ?_
  intro b_a w2_ g2_ S
  refine rw_newB (op_box rfl) S ?_
  intro b_b w4_ g4_ S
  refine rw_v (op_pure rfl) ?_
  first | refine rw_end ?_ | (refine rw_nil ?_; show CW _ _ _ _ _ _) | refine rw_nil ?_
  repeat refine cw_seq ?_
  refine cw_draw (C := fun wq => Gr w4_ wq) [0, 1, 2, 3, 4, 5, 6, 7, 8, 9, 10, 11, 12, 13] [] (by kernel_rfl) (by kernel_rfl) (Gr.drew _) ?_
  simp only [pickL, List.drop_succ_cons, List.drop_zero]
  refine rq_v (op_fieldAddr Try.underlying36 rfl Try.sizeOf2 rfl rfl) ?_
  refine rq_r (fun wq hq => op_loadB Try.underlying2 rfl rfl ((S.gr hq).blk (i := 0) rfl) rfl) ?_
  refine rq_v (op_fieldAddr Try.underlying36 rfl Try.sizeOf2 rfl rfl) ?_
  refine rq_r (fun wq hq => op_loadB Try.underlying2 rfl rfl ((S.gr hq).blk (i := 1) rfl) rfl) ?_
  refine rq_v (op_rng rfl (by omega)) ?_
  refine rq_call rfl (fun wq hq => (rsize_E (bx - ax) (by omega) wq).mono (fun _ _ ⟨hv, hg⟩ => ⟨hv, hq.trans hg⟩)) ?_
  refine rq_v (op_fieldAddr Try.underlying36 rfl Try.sizeOf2 rfl rfl) ?_
  refine rq_r (fun wq hq => op_loadB Try.underlying2 rfl rfl ((S.gr hq).blk (i := 0) rfl) rfl) ?_
  refine rq_v (op_fieldAddr Try.underlying36 rfl Try.sizeOf2 rfl rfl) ?_
  refine rq_r (fun wq hq => op_loadB Try.underlying2 rfl rfl ((S.gr hq).blk (i := 1) rfl) rfl) ?_
  refine rq_v (op_rng rfl (by omega)) ?_
  refine rq_call rfl (fun wq hq => (rsize_E (bz - ay) (by omega) wq).mono (fun _ _ ⟨hv, hg⟩ => ⟨hv, hq.trans hg⟩)) ?_
  refine rq_v (op_pure rfl) ?_
  refine rq_v (op_pure rfl) ?_
  refine rq_nil ?_
  intro w5_ g5_
  have S := S.gr g5_
  first | refine rw_end ?_ | (refine rw_nil ?_; show CW _ _ _ _ _ _) | refine rw_nil ?_
  repeat refine cw_seq ?_
  refine cw_region ?_
  refine rw_v (op_pure rfl) ?_
  refine rw_v (op_pure rfl) ?_
  refine rw_v (op_pure rfl) ?_
  first | refine rw_end ?_ | (refine rw_nil ?_; show CW _ _ _ _ _ _) | refine rw_nil ?_
  repeat refine cw_seq ?_
  refine cw_cond rfl (fun hc => ?_) (fun hc => ?_)
  · try simp only [decide_eq_true_eq, decide_eq_false_iff_not, beq_iff_eq, bne_iff_ne, beq_eq_false_iff_ne, bne_eq_false_iff_eq, Bool.not_eq_true', Bool.not_eq_false', ne_eq, Decidable.not_not, Int.natCast_inj, Int.ofNat_lt, Int.ofNat_le, gt_iff_lt, ge_iff_le, Int.not_lt, Int.not_le] at hc
    repeat refine cw_seq ?_
    refine cw_region ?_
    refine rw_v (op_pure rfl) ?_
    refine rw_v (op_pure rfl) ?_
    first | refine rw_end ?_ | (refine rw_nil ?_; show CW _ _ _ _ _ _) | refine rw_nil ?_
    repeat refine cw_seq ?_
    refine cw_ret ?_
    repeat first | refine ret_then ?_ | refine ret_inb ?_
    exact res1 rfl ⟨ie (by omega), S.out⟩
  · try simp only [decide_eq_true_eq, decide_eq_false_iff_not, beq_iff_eq, bne_iff_ne, beq_eq_false_iff_ne, bne_eq_false_iff_eq, Bool.not_eq_true', Bool.not_eq_false', ne_eq, Decidable.not_not, Int.natCast_inj, Int.ofNat_lt, Int.ofNat_le, gt_iff_lt, ge_iff_le, Int.not_lt, Int.not_le] at hc
    repeat refine cw_seq ?_
    refine cw_skip ?_
    try show CW _ _ _ _ _ _
    repeat refine cw_seq ?_
    refine cw_region ?_
    refine rw_v (op_pure rfl) ?_
    refine rw_v (op_pure rfl) ?_
    first | refine rw_end ?_ | (refine rw_nil ?_; show CW _ _ _ _ _ _) | refine rw_nil ?_
    repeat refine cw_seq ?_
    refine cw_ret ?_
    repeat first | refine ret_then ?_ | refine ret_inb ?_
    exact res1 rfl ⟨ie (by omega), S.out⟩
set_option maxHeartbeats 1000000 in
/-- along a row, or along a column -/
theorem rat23_E (ax ay bx bz i : Int) (ha : 0 ≤ ax ∧ ax ≤ 1048576 ∧ 0 ≤ ay ∧ ay ≤ 1048576) (hb : 0 ≤ bx ∧ bx ≤ 1048576 ∧ 0 ≤ bz ∧ bz ≤ 1048576) (hi : 0 ≤ i ∧ i ≤ 1048576) (h : ay = bz ∨ ax = bx) (hs : ax = bx → ay = bz → i = 0) (W : World) :
    Fn Try.prog 73 [.agg #[.int .i64 ax, .int .i64 ay], .agg #[.int .i64 bx, .int .i64 bz], .int .i64 i] W (RetG (.agg #[.int .i64 (if ay = bz then toZ ax bx i else ax), .int .i64 (if ay = bz then ay else toZ ay bz i)]) W) := by
  by_cases h1 : ay = bz
  · subst h1
    have z0 : absZ (ay - ay) = 0 := by unfold absZ; rw [if_neg (by omega)]; omega
    rw [if_pos rfl, if_pos rfl]
    by_cases h2 : ax = bx
    · subst h2
      have z1 : absZ (ax - ax) = 0 := by unfold absZ; rw [if_neg (by omega)]; omega
      have e0 : toZ ax ax i = ax := by rw [hs rfl rfl]; unfold toZ; rw [if_neg (by omega)]; omega
      rw [e0]
      have S := St.start W
      refine Fn_enter Try.func73 rfl Try.results73 Try.ntmps73 (by kernel_rfl) (by kernel_rfl) ?_
      repeat refine cw_seq ?_
      refine cw_region ?_
      refine rw_newB (op_box rfl) S ?_
      intro b_a w2_ g2_ S
      refine rw_newB (op_box rfl) S ?_
      intro b_b w4_ g4_ S
      refine rw_newB (op_alloc Try.zeroValue36 rfl) S ?_
      intro b_r w6_ g6_ S
      first | refine rw_end ?_ | (refine rw_nil ?_; show CW _ _ _ _ _ _) | refine rw_nil ?_
      repeat refine cw_seq ?_
      refine cw_draw (C := fun wq => Gr w6_ wq) [0, 1, 2, 3, 4, 5, 6, 7, 8, 9, 10, 11, 12, 13] [] (by kernel_rfl) (by kernel_rfl) (Gr.drew _) ?_
      simp only [pickL, List.drop_succ_cons, List.drop_zero]
      refine rq_v (op_fieldAddr Try.underlying36 rfl Try.sizeOf2 rfl rfl) ?_
      refine rq_r (fun wq hq => op_loadB Try.underlying2 rfl rfl ((S.gr hq).blk (i := 1) rfl) rfl) ?_
      refine rq_v (op_fieldAddr Try.underlying36 rfl Try.sizeOf2 rfl rfl) ?_
      refine rq_r (fun wq hq => op_loadB Try.underlying2 rfl rfl ((S.gr hq).blk (i := 2) rfl) rfl) ?_
      refine rq_v (op_rng rfl (by omega)) ?_
      refine rq_call rfl (fun wq hq => (rsize_E (ax - ax) (by omega) wq).mono (fun _ _ ⟨hv, hg⟩ => ⟨hv, hq.trans hg⟩)) ?_
      rw [z1]
      refine rq_v (op_fieldAddr Try.underlying36 rfl Try.sizeOf2 rfl rfl) ?_
      refine rq_r (fun wq hq => op_loadB Try.underlying2 rfl rfl ((S.gr hq).blk (i := 1) rfl) rfl) ?_
      refine rq_v (op_fieldAddr Try.underlying36 rfl Try.sizeOf2 rfl rfl) ?_
      refine rq_r (fun wq hq => op_loadB Try.underlying2 rfl rfl ((S.gr hq).blk (i := 2) rfl) rfl) ?_
      refine rq_v (op_rng rfl (by omega)) ?_
      refine rq_call rfl (fun wq hq => (rsize_E (ay - ay) (by omega) wq).mono (fun _ _ ⟨hv, hg⟩ => ⟨hv, hq.trans hg⟩)) ?_
      rw [z0]
      refine rq_v (op_pure rfl) ?_
      refine rq_v (op_pure rfl) ?_
      refine rq_nil ?_
      intro w7_ g7_
      have S := S.gr g7_
      first | refine rw_end ?_ | (refine rw_nil ?_; show CW _ _ _ _ _ _) | refine rw_nil ?_
      repeat refine cw_seq ?_
      refine cw_region ?_
      refine rw_v (op_pure rfl) ?_
      first | refine rw_v (op_b (b := true) rfl (beq_iff_eq.2 (by omega))) ?_ | refine rw_v (op_b (b := false) rfl (beq_eq_false_iff_ne.2 (by omega))) ?_ | refine rw_v (op_pure rfl) ?_
      refine rw_v (op_pure rfl) ?_
      first | refine rw_off rfl ?_ | (refine rw_on rfl ?_; refine rw_v (op_pure rfl) ?_)
      first | refine rw_off rfl ?_ | (refine rw_on rfl ?_; (first | refine rw_v (op_b (b := true) rfl (beq_iff_eq.2 (by omega))) ?_ | refine rw_v (op_b (b := false) rfl (beq_eq_false_iff_ne.2 (by omega))) ?_ | refine rw_v (op_pure rfl) ?_))
      refine rw_v (op_pure rfl) ?_
      first | refine rw_end ?_ | (refine rw_nil ?_; show CW _ _ _ _ _ _) | refine rw_nil ?_
      repeat refine cw_seq ?_
      refine cw_true rfl ?_
      repeat refine cw_seq ?_
      refine cw_region ?_
      refine rw_r (op_loadAB Try.underlying36 rfl (Try.sizeOf36 _) rfl (S.blk (i := 2) rfl) rfl rfl) ?_
      refine rw_storeSA (i := 0) S rfl (Try.sizeOf36 _) rfl rfl rfl rfl rfl rfl ?_
      intro w8_ S
      first | refine rw_end ?_ | (refine rw_nil ?_; show CW _ _ _ _ _ _) | refine rw_nil ?_
      repeat refine cw_seq ?_
      refine cw_ret ?_
      repeat first | refine ret_then ?_ | refine ret_inb ?_
      exact resA Try.underlying36 rfl (Try.sizeOf36 _) rfl (S.blk (i := 0) rfl) rfl rfl ⟨rfl, S.out⟩
    · have hpos : 0 < absZ (bx - ax) ∧ absZ (bx - ax) ≤ 1048576 := by unfold absZ; split <;> omega
      have eq : (2 * i * 0 + absZ (bx - ax)) / (2 * absZ (bx - ax)) = 0 := by
        rw [Int.mul_zero, Int.zero_add]
        exact Int.ediv_eq_zero_of_lt (by omega) (by omega)
      have e0 : toZ ay ay 0 = ay := by unfold toZ; rw [if_neg (by omega)]; omega
      generalize hdx : absZ (bx - ax) = dx at *
      have S := St.start W
      refine Fn_enter Try.func73 rfl Try.results73 Try.ntmps73 (by kernel_rfl) (by kernel_rfl) ?_
      repeat refine cw_seq ?_
      refine cw_region ?_
      refine rw_newB (op_box rfl) S ?_
      intro b_a w2_ g2_ S
      refine rw_newB (op_box rfl) S ?_
      intro b_b w4_ g4_ S
      refine rw_newB (op_alloc Try.zeroValue36 rfl) S ?_
      intro b_r w6_ g6_ S
      first | refine rw_end ?_ | (refine rw_nil ?_; show CW _ _ _ _ _ _) | refine rw_nil ?_
      repeat refine cw_seq ?_
      refine cw_draw (C := fun wq => Gr w6_ wq) [0, 1, 2, 3, 4, 5, 6, 7, 8, 9, 10, 11, 12, 13] [] (by kernel_rfl) (by kernel_rfl) (Gr.drew _) ?_
      simp only [pickL, List.drop_succ_cons, List.drop_zero]
      refine rq_v (op_fieldAddr Try.underlying36 rfl Try.sizeOf2 rfl rfl) ?_
      refine rq_r (fun wq hq => op_loadB Try.underlying2 rfl rfl ((S.gr hq).blk (i := 1) rfl) rfl) ?_
      refine rq_v (op_fieldAddr Try.underlying36 rfl Try.sizeOf2 rfl rfl) ?_
      refine rq_r (fun wq hq => op_loadB Try.underlying2 rfl rfl ((S.gr hq).blk (i := 2) rfl) rfl) ?_
      refine rq_v (op_rng rfl (by omega)) ?_
      refine rq_call rfl (fun wq hq => (rsize_E (bx - ax) (by omega) wq).mono (fun _ _ ⟨hv, hg⟩ => ⟨hv, hq.trans hg⟩)) ?_
      rw [hdx]
      refine rq_v (op_fieldAddr Try.underlying36 rfl Try.sizeOf2 rfl rfl) ?_
      refine rq_r (fun wq hq => op_loadB Try.underlying2 rfl rfl ((S.gr hq).blk (i := 1) rfl) rfl) ?_
      refine rq_v (op_fieldAddr Try.underlying36 rfl Try.sizeOf2 rfl rfl) ?_
      refine rq_r (fun wq hq => op_loadB Try.underlying2 rfl rfl ((S.gr hq).blk (i := 2) rfl) rfl) ?_
      refine rq_v (op_rng rfl (by omega)) ?_
      refine rq_call rfl (fun wq hq => (rsize_E (ay - ay) (by omega) wq).mono (fun _ _ ⟨hv, hg⟩ => ⟨hv, hq.trans hg⟩)) ?_
      rw [z0]
      refine rq_v (op_pure rfl) ?_
      refine rq_v (op_pure rfl) ?_
      refine rq_nil ?_
      intro w7_ g7_
      have S := S.gr g7_
      first | refine rw_end ?_ | (refine rw_nil ?_; show CW _ _ _ _ _ _) | refine rw_nil ?_
      repeat refine cw_seq ?_
      refine cw_region ?_
      refine rw_v (op_pure rfl) ?_
      first | refine rw_v (op_b (b := true) rfl (beq_iff_eq.2 (by omega))) ?_ | refine rw_v (op_b (b := false) rfl (beq_eq_false_iff_ne.2 (by omega))) ?_ | refine rw_v (op_pure rfl) ?_
      refine rw_v (op_pure rfl) ?_
      first | refine rw_off rfl ?_ | (refine rw_on rfl ?_; refine rw_v (op_pure rfl) ?_)
      first | refine rw_off rfl ?_ | (refine rw_on rfl ?_; (first | refine rw_v (op_b (b := true) rfl (beq_iff_eq.2 (by omega))) ?_ | refine rw_v (op_b (b := false) rfl (beq_eq_false_iff_ne.2 (by omega))) ?_ | refine rw_v (op_pure rfl) ?_))
      refine rw_v (op_pure rfl) ?_
      first | refine rw_end ?_ | (refine rw_nil ?_; show CW _ _ _ _ _ _) | refine rw_nil ?_
      repeat refine cw_seq ?_
      refine cw_false rfl ?_
      repeat refine cw_seq ?_
      refine cw_skip ?_
      try show CW _ _ _ _ _ _
      repeat refine cw_seq ?_
      refine cw_region ?_
      refine rw_v (op_pure rfl) ?_
      refine rw_v (op_pure rfl) ?_
      refine rw_v (op_b (b := true) rfl (decide_eq_true (by omega))) ?_
      first | refine rw_end ?_ | (refine rw_nil ?_; show CW _ _ _ _ _ _) | refine rw_nil ?_
      repeat refine cw_seq ?_
      refine cw_true rfl ?_
      repeat refine cw_seq ?_
      refine cw_draw (C := fun wq => Gr w7_ wq) [0, 1, 2, 3, 4, 5, 6, 7, 8, 9, 10, 11, 12, 13, 14, 15, 16, 17, 18] [19, 20, 21] (by kernel_rfl) (by kernel_rfl) (Gr.drew _) ?_
      simp only [pickL, List.drop_succ_cons, List.drop_zero]
      refine rq_v (op_fieldAddr Try.underlying36 rfl Try.sizeOf2 rfl rfl) ?_
      refine rq_r (fun wq hq => op_loadB Try.underlying2 rfl rfl ((S.gr hq).blk (i := 2) rfl) rfl) ?_
      refine rq_v (op_fieldAddr Try.underlying36 rfl Try.sizeOf2 rfl rfl) ?_
      refine rq_r (fun wq hq => op_loadB Try.underlying2 rfl rfl ((S.gr hq).blk (i := 1) rfl) rfl) ?_
      refine rq_v (op_pure rfl) ?_
      refine rq_call rfl (fun wq hq => (rtoward_E ax bx i (by omega) hi wq).mono (fun _ _ ⟨hv, hg⟩ => ⟨hv, hq.trans hg⟩)) ?_
      refine rq_v (op_fieldAddr Try.underlying36 rfl Try.sizeOf2 rfl rfl) ?_
      refine rq_r (fun wq hq => op_loadB Try.underlying2 rfl rfl ((S.gr hq).blk (i := 2) rfl) rfl) ?_
      refine rq_v (op_fieldAddr Try.underlying36 rfl Try.sizeOf2 rfl rfl) ?_
      refine rq_r (fun wq hq => op_loadB Try.underlying2 rfl rfl ((S.gr hq).blk (i := 1) rfl) rfl) ?_
      refine rq_v (op_pure rfl) ?_
      refine rq_v (op_rng rfl (by omega)) ?_
      refine rq_v (op_pure rfl) ?_
      refine rq_v (op_rng rfl (by omega)) ?_
      refine rq_v (op_pure rfl) ?_
      refine rq_v (op_rng rfl (by omega)) ?_
      refine rq_v (op_pure rfl) ?_
      refine rq_v (op_rng rfl (by omega)) ?_
      refine rq_v (op_div rfl rfl (by omega) (by omega)) ?_
      rw [eq]
      refine rq_nil ?_
      intro w8_ g8_
      have S := S.gr g8_
      refine rw_call rfl (rtoward_E ay ay 0 (by omega) (by omega) w8_) ?_
      rintro _ w9_ ⟨rfl, g9_⟩
      have S := S.gr g9_
      rw [e0]
      refine rw_v (op_build (pl := [(0, 1), (1, 1)]) Try.underlying36 Try.zeroValue36 (fun w => by kernel_rfl) rfl rfl) ?_
      refine rw_storeSA (i := 0) S rfl (Try.sizeOf36 _) rfl rfl rfl rfl rfl rfl ?_
      intro w10_ S
      first | refine rw_end ?_ | (refine rw_nil ?_; show CW _ _ _ _ _ _) | refine rw_nil ?_
      repeat refine cw_seq ?_
      refine cw_ret ?_
      repeat first | refine ret_then ?_ | refine ret_inb ?_
      exact resA Try.underlying36 rfl (Try.sizeOf36 _) rfl (S.blk (i := 0) rfl) rfl rfl ⟨rfl, S.out⟩
  · obtain rfl : ax = bx := by omega
    have z0 : absZ (ax - ax) = 0 := by unfold absZ; rw [if_neg (by omega)]; omega
    rw [if_neg h1, if_neg h1]
    have hpos : 0 < absZ (bz - ay) ∧ absZ (bz - ay) ≤ 1048576 := by unfold absZ; split <;> omega
    have eq : (2 * i * 0 + absZ (bz - ay)) / (2 * absZ (bz - ay)) = 0 := by
      rw [Int.mul_zero, Int.zero_add]
      exact Int.ediv_eq_zero_of_lt (by omega) (by omega)
    have e0 : toZ ax ax 0 = ax := by unfold toZ; rw [if_neg (by omega)]; omega
    generalize hdy : absZ (bz - ay) = dy at *
    have S := St.start W
    refine Fn_enter Try.func73 rfl Try.results73 Try.ntmps73 (by kernel_rfl) (by kernel_rfl) ?_
    repeat refine cw_seq ?_
    refine cw_region ?_
    refine rw_newB (op_box rfl) S ?_
    intro b_a w2_ g2_ S
    refine rw_newB (op_box rfl) S ?_
    intro b_b w4_ g4_ S
    refine rw_newB (op_alloc Try.zeroValue36 rfl) S ?_
    intro b_r w6_ g6_ S
    first | refine rw_end ?_ | (refine rw_nil ?_; show CW _ _ _ _ _ _) | refine rw_nil ?_
    repeat refine cw_seq ?_
    refine cw_draw (C := fun wq => Gr w6_ wq) [0, 1, 2, 3, 4, 5, 6, 7, 8, 9, 10, 11, 12, 13] [] (by kernel_rfl) (by kernel_rfl) (Gr.drew _) ?_
    simp only [pickL, List.drop_succ_cons, List.drop_zero]
    refine rq_v (op_fieldAddr Try.underlying36 rfl Try.sizeOf2 rfl rfl) ?_
    refine rq_r (fun wq hq => op_loadB Try.underlying2 rfl rfl ((S.gr hq).blk (i := 1) rfl) rfl) ?_
    refine rq_v (op_fieldAddr Try.underlying36 rfl Try.sizeOf2 rfl rfl) ?_
    refine rq_r (fun wq hq => op_loadB Try.underlying2 rfl rfl ((S.gr hq).blk (i := 2) rfl) rfl) ?_
    refine rq_v (op_rng rfl (by omega)) ?_
    refine rq_call rfl (fun wq hq => (rsize_E (ax - ax) (by omega) wq).mono (fun _ _ ⟨hv, hg⟩ => ⟨hv, hq.trans hg⟩)) ?_
    rw [z0]
    refine rq_v (op_fieldAddr Try.underlying36 rfl Try.sizeOf2 rfl rfl) ?_
    refine rq_r (fun wq hq => op_loadB Try.underlying2 rfl rfl ((S.gr hq).blk (i := 1) rfl) rfl) ?_
    refine rq_v (op_fieldAddr Try.underlying36 rfl Try.sizeOf2 rfl rfl) ?_
    refine rq_r (fun wq hq => op_loadB Try.underlying2 rfl rfl ((S.gr hq).blk (i := 2) rfl) rfl) ?_
    refine rq_v (op_rng rfl (by omega)) ?_
    refine rq_call rfl (fun wq hq => (rsize_E (bz - ay) (by omega) wq).mono (fun _ _ ⟨hv, hg⟩ => ⟨hv, hq.trans hg⟩)) ?_
    rw [hdy]
    refine rq_v (op_pure rfl) ?_
    refine rq_v (op_pure rfl) ?_
    refine rq_nil ?_
    intro w7_ g7_
    have S := S.gr g7_
    first | refine rw_end ?_ | (refine rw_nil ?_; show CW _ _ _ _ _ _) | refine rw_nil ?_
    repeat refine cw_seq ?_
    refine cw_region ?_
    refine rw_v (op_pure rfl) ?_
    first | refine rw_v (op_b (b := true) rfl (beq_iff_eq.2 (by omega))) ?_ | refine rw_v (op_b (b := false) rfl (beq_eq_false_iff_ne.2 (by omega))) ?_ | refine rw_v (op_pure rfl) ?_
    refine rw_v (op_pure rfl) ?_
    first | refine rw_off rfl ?_ | (refine rw_on rfl ?_; refine rw_v (op_pure rfl) ?_)
    first | refine rw_off rfl ?_ | (refine rw_on rfl ?_; (first | refine rw_v (op_b (b := true) rfl (beq_iff_eq.2 (by omega))) ?_ | refine rw_v (op_b (b := false) rfl (beq_eq_false_iff_ne.2 (by omega))) ?_ | refine rw_v (op_pure rfl) ?_))
    refine rw_v (op_pure rfl) ?_
    first | refine rw_end ?_ | (refine rw_nil ?_; show CW _ _ _ _ _ _) | refine rw_nil ?_
    repeat refine cw_seq ?_
    refine cw_false rfl ?_
    repeat refine cw_seq ?_
    refine cw_skip ?_
    try show CW _ _ _ _ _ _
    repeat refine cw_seq ?_
    refine cw_region ?_
    refine rw_v (op_pure rfl) ?_
    refine rw_v (op_pure rfl) ?_
    refine rw_v (op_b (b := false) rfl (decide_eq_false (by omega))) ?_
    first | refine rw_end ?_ | (refine rw_nil ?_; show CW _ _ _ _ _ _) | refine rw_nil ?_
    repeat refine cw_seq ?_
    refine cw_false rfl ?_
    repeat refine cw_seq ?_
    refine cw_skip ?_
    try show CW _ _ _ _ _ _
    repeat refine cw_seq ?_
    refine cw_draw (C := fun wq => Gr w7_ wq) [0, 1, 2, 3, 4, 5, 6, 7, 8, 9, 10, 11, 12, 13, 14, 15, 16, 17, 18] [19, 20, 21] (by kernel_rfl) (by kernel_rfl) (Gr.drew _) ?_
    simp only [pickL, List.drop_succ_cons, List.drop_zero]
    refine rq_v (op_fieldAddr Try.underlying36 rfl Try.sizeOf2 rfl rfl) ?_
    refine rq_r (fun wq hq => op_loadB Try.underlying2 rfl rfl ((S.gr hq).blk (i := 2) rfl) rfl) ?_
    refine rq_v (op_fieldAddr Try.underlying36 rfl Try.sizeOf2 rfl rfl) ?_
    refine rq_r (fun wq hq => op_loadB Try.underlying2 rfl rfl ((S.gr hq).blk (i := 1) rfl) rfl) ?_
    refine rq_v (op_pure rfl) ?_
    refine rq_v (op_rng rfl (by omega)) ?_
    refine rq_v (op_pure rfl) ?_
    refine rq_v (op_rng rfl (by omega)) ?_
    refine rq_v (op_pure rfl) ?_
    refine rq_v (op_rng rfl (by omega)) ?_
    refine rq_v (op_pure rfl) ?_
    refine rq_v (op_rng rfl (by omega)) ?_
    refine rq_v (op_div rfl rfl (by omega) (by omega)) ?_
    rw [eq]
    refine rq_call rfl (fun wq hq => (rtoward_E ax ax 0 (by omega) (by omega) wq).mono (fun _ _ ⟨hv, hg⟩ => ⟨hv, hq.trans hg⟩)) ?_
    rw [e0]
    refine rq_v (op_fieldAddr Try.underlying36 rfl Try.sizeOf2 rfl rfl) ?_
    refine rq_r (fun wq hq => op_loadB Try.underlying2 rfl rfl ((S.gr hq).blk (i := 2) rfl) rfl) ?_
    refine rq_v (op_fieldAddr Try.underlying36 rfl Try.sizeOf2 rfl rfl) ?_
    refine rq_r (fun wq hq => op_loadB Try.underlying2 rfl rfl ((S.gr hq).blk (i := 1) rfl) rfl) ?_
    refine rq_v (op_pure rfl) ?_
    refine rq_nil ?_
    intro w8_ g8_
    have S := S.gr g8_
    refine rw_call rfl (rtoward_E ay bz i (by omega) hi w8_) ?_
    rintro _ w9_ ⟨rfl, g9_⟩
    have S := S.gr g9_
    refine rw_v (op_build (pl := [(0, 1), (1, 1)]) Try.underlying36 Try.zeroValue36 (fun w => by kernel_rfl) rfl rfl) ?_
    refine rw_storeSA (i := 0) S rfl (Try.sizeOf36 _) rfl rfl rfl rfl rfl rfl ?_
    intro w10_ S
    first | refine rw_end ?_ | (refine rw_nil ?_; show CW _ _ _ _ _ _) | refine rw_nil ?_
    repeat refine cw_seq ?_
    refine cw_ret ?_
    repeat first | refine ret_then ?_ | refine ret_inb ?_
    exact resA Try.underlying36 rfl (Try.sizeOf36 _) rfl (S.blk (i := 0) rfl) rfl rfl ⟨rfl, S.out⟩
/-- a ray's cells -/
def rayL (ax ay bx bz : Int) (n : Nat) : List (Int × Int) := (List.range n).map fun (i : Nat) => (if ay = bz then toZ ax bx i else ax, if ay = bz then ay else toZ ay bz i)
def rayN (ax ay bx bz : Int) : Nat := (max (absZ (bx - ax)) (absZ (bz - ay))).toNat + 1
theorem rayL_succ (ax ay bx bz : Int) (n : Nat) : cellsZ (rayL ax ay bx bz n) ++ [.int .i64 (if ay = bz then toZ ax bx n else ax), .int .i64 (if ay = bz then ay else toZ ay bz n)] = cellsZ (rayL ax ay bx bz (n + 1)) := by
  unfold rayL
  rw [List.range_succ, List.map_append, ← cellsZ_app]
  rfl
theorem rayL_len (ax ay bx bz : Int) (n : Nat) : (rayL ax ay bx bz n).length = n := by simp [rayL]
theorem rrow_E (ax ay bx bz : Int) (ha : 0 ≤ ax ∧ ax ≤ 1048576 ∧ 0 ≤ ay ∧ ay ≤ 1048576) (hb : 0 ≤ bx ∧ bx ≤ 1048576 ∧ 0 ≤ bz ∧ bz ≤ 1048576) (h : ay = bz ∨ ax = bx) (W : World) :
    Fn Try.prog 32 [.agg #[.int .i64 ax, .int .i64 ay], .agg #[.int .i64 bx, .int .i64 bz]] W (RetNew id 36 2 (rayN ax ay bx bz) (cellsZ (rayL ax ay bx bz (rayN ax ay bx bz))) W) := by
  have hm0 : 0 ≤ max (absZ (bx - ax)) (absZ (bz - ay)) ∧ max (absZ (bx - ax)) (absZ (bz - ay)) ≤ 1048576 := by
    have : 0 ≤ absZ (bx - ax) ∧ absZ (bx - ax) ≤ 1048576 := by unfold absZ; split <;> omega
    have : 0 ≤ absZ (bz - ay) ∧ absZ (bz - ay) ≤ 1048576 := by unfold absZ; split <;> omega
    omega
  have hN : ((rayN ax ay bx bz : Nat) : Int) = max (absZ (bx - ax)) (absZ (bz - ay)) + 1 := by unfold rayN; omega
  have hz : ax = bx → ay = bz → max (absZ (bx - ax)) (absZ (bz - ay)) = 0 := fun h1 h2 => by
    subst h1; subst h2
    have z1 : absZ (ax - ax) = 0 := by unfold absZ; rw [if_neg (by omega)]; omega
    have z2 : absZ (ay - ay) = 0 := by unfold absZ; rw [if_neg (by omega)]; omega
    rw [z1, z2]; rfl
  generalize hNd : rayN ax ay bx bz = N at *
  have S := St.start W
  refine Fn_enter Try.func32 rfl Try.results32 Try.ntmps32 (by kernel_rfl) (by kernel_rfl) ?_
  repeat refine cw_seq ?_
  refine cw_region ?_
  refine rw_newB (op_box rfl) S ?_
  intro b_a w2_ g2_ S
  refine rw_newB (op_box rfl) S ?_
  intro b_b w4_ g4_ S
  refine rw_v (op_pure rfl) ?_
  first | refine rw_end ?_ | (refine rw_nil ?_; show CW _ _ _ _ _ _) | refine rw_nil ?_
  repeat refine cw_seq ?_
  refine cw_region ?_
  refine rw_buildS0 Try.underlying41 Try.sizeOf36 S ?_
  intro A_out w6_ g6_ S sa_out
  refine rw_v (op_pure rfl) ?_
  first | refine rw_end ?_ | (refine rw_nil ?_; show CW _ _ _ _ _ _) | refine rw_nil ?_
  repeat refine cw_seq ?_
  refine cw_region ?_
  refine rw_v (op_pure rfl) ?_
  first | refine rw_end ?_ | (refine rw_nil ?_; show CW _ _ _ _ _ _) | refine rw_nil ?_
  repeat refine cw_seq ?_
  refine cw_block ?_
  repeat refine cw_seq ?_
  refine cw_loop (fun m e w => ∃ (k : Nat) (A_out : Option Addr) (c_out : Nat), k + m = N ∧ SL e [(2, .pointer (some ⟨b_a, 0, none⟩)), (3, .pointer (some ⟨b_b, 0, none⟩)), (5, .slice A_out k c_out), (6, .int .i64 k)] ∧
    St No W w [.row 36 2 A_out k c_out (cellsZ (rayL ax ay bx bz k)), .blk b_b 36 [.int .i64 bx, .int .i64 bz], .blk b_a 36 [.int .i64 ax, .int .i64 ay]]) N
    ⟨0, _, _, by omega, ⟨rfl, rfl, rfl, rfl, trivial⟩, S⟩ ?_
  clear S
  rintro m e w ⟨k, A_out, c_out, hk, hsl, S⟩
  rw [hsl.fold]
  repeat refine cw_seq ?_
  refine cw_region ?_
  refine rw_v (op_pure rfl) ?_
  refine rw_r (op_loadAB Try.underlying36 rfl (Try.sizeOf36 _) rfl (S.blk (i := 2) rfl) rfl rfl) ?_
  refine rw_r (op_loadAB Try.underlying36 rfl (Try.sizeOf36 _) rfl (S.blk (i := 1) rfl) rfl rfl) ?_
  refine rw_call rfl (rlen_E ax ay bx bz ha hb w) ?_
  rintro _ w7_ ⟨rfl, g7_⟩
  have S := S.gr g7_
  refine rw_v (op_pure rfl) ?_
  first | refine rw_end ?_ | (refine rw_nil ?_; show CW _ _ _ _ _ _) | refine rw_nil ?_
  repeat refine cw_seq ?_
  refine cw_cond rfl (fun hc => ?_) (fun hc => ?_)
  · try simp only [decide_eq_true_eq, decide_eq_false_iff_not, beq_iff_eq, bne_iff_ne, beq_eq_false_iff_ne, bne_eq_false_iff_eq, Bool.not_eq_true', Bool.not_eq_false', ne_eq, Decidable.not_not, Int.natCast_inj, Int.ofNat_lt, Int.ofNat_le, gt_iff_lt, ge_iff_le, Int.not_lt, Int.not_le] at hc
    repeat refine cw_seq ?_
    refine cw_skip ?_
    try show CW _ _ _ _ _ _
    repeat refine cw_seq ?_
    refine cw_block ?_
    repeat refine cw_seq ?_
    refine cw_region ?_
    refine rw_v (op_pure rfl) ?_
    refine rw_r (op_loadAB Try.underlying36 rfl (Try.sizeOf36 _) rfl (S.blk (i := 2) rfl) rfl rfl) ?_
    refine rw_r (op_loadAB Try.underlying36 rfl (Try.sizeOf36 _) rfl (S.blk (i := 1) rfl) rfl rfl) ?_
    refine rw_v (op_pure rfl) ?_
    refine rw_call rfl (rat23_E ax ay bx bz k ha hb (by omega) h (fun h1 h2 => by have := hz h1 h2; omega) w7_) ?_
    rintro _ w8_ ⟨rfl, g8_⟩
    have S := S.gr g8_
    refine rw_buildS Try.underlying41 Try.sizeOf36 Try.zeroValue36 rfl rfl rfl rfl rfl rfl S ?_
    intro A_lit w10_ g10_ S sa_lit
    refine rw_appS (i := 1) S rfl (fun h => rfl) Try.underlying41 info_t36 rfl rfl rfl rfl (by simp) (by omega) (S.rd (i := 0) rfl) rfl (by omega) ?_
    intro A_out11 c_out11 w11_ S sa_out
    refine rw_v (op_pure rfl) ?_
    first | refine rw_end ?_ | (refine rw_nil ?_; show CW _ _ _ _ _ _) | refine rw_nil ?_
    repeat refine cw_seq ?_
    refine cw_region ?_
    refine rw_v (op_pure rfl) ?_
    refine rw_v (op_rng rfl (by omega)) ?_
    refine rw_v (op_pure rfl) ?_
    first | refine rw_end ?_ | (refine rw_nil ?_; show CW _ _ _ _ _ _) | refine rw_nil ?_
    have S := S.drop 1
    rw [rayL_succ] at S
    exact ⟨m - 1, by omega, k + 1, _, _, by omega, ⟨rfl, rfl, rfl, ie (by omega), trivial⟩, S⟩
  · try simp only [decide_eq_true_eq, decide_eq_false_iff_not, beq_iff_eq, bne_iff_ne, beq_eq_false_iff_ne, bne_eq_false_iff_eq, Bool.not_eq_true', Bool.not_eq_false', ne_eq, Decidable.not_not, Int.natCast_inj, Int.ofNat_lt, Int.ofNat_le, gt_iff_lt, ge_iff_le, Int.not_lt, Int.not_le] at hc
    obtain rfl : k = N := by omega
    repeat refine cw_seq ?_
    refine cw_exit ?_
    repeat first | refine exit_then ?_ | refine exit_inb ?_
    show CW _ _ _ _ _ _
    repeat refine cw_seq ?_
    refine cw_region ?_
    refine rw_v (op_pure rfl) ?_
    refine rw_v (op_pure rfl) ?_
    first | refine rw_end ?_ | (refine rw_nil ?_; show CW _ _ _ _ _ _) | refine rw_nil ?_
    repeat refine cw_seq ?_
    refine cw_ret ?_
    repeat first | refine ret_then ?_ | refine ret_inb ?_
    exact res1 rfl (S.retNew (i := 0) (mk := id) rfl)

/-! ### Rays as walks over cells -/
structure Walk (gw n i j : Nat) (P : List Nat) : Prop where
  first : P[0]? = some i
  last : P[P.length - 1]? = some j
  lt : ∀ z ∈ P, z < n
  side : ∀ k u v, P[k]? = some u → P[k + 1]? = some v → Side gw u v
section
variable {gw gh : Nat}
theorem map_range_at {f : Nat → Nat} {n k : Nat} (h : k < n) : ((List.range n).map f)[k]? = some (f k) := by
  rw [List.getElem?_map, List.getElem?_range h]; rfl
theorem map_range_of {f : Nat → Nat} {n k u : Nat} (h : ((List.range n).map f)[k]? = some u) : k < n ∧ u = f k := by
  have h1 := (List.getElem?_eq_some_iff.1 h).1
  rw [List.length_map, List.length_range] at h1
  rw [map_range_at h1] at h
  exact ⟨h1, (Option.some.inj h).symm⟩
theorem ray_row {y x0 x1 : Nat} (h0 : x0 < gw) (h1 : x1 < gw) (hy : y < gh) (hw : gw ≤ 1024) :
    ∃ P, Walk gw (gw * gh) (y * gw + x0) (y * gw + x1) P ∧ rayL x0 y x1 y (rayN x0 y x1 y) = P.map (cz gw) ∧ P.length = rayN x0 y x1 y ∧ 1 ≤ P.length ∧ P.length ≤ 1024 := by
  have hN : rayN x0 y x1 y = (if x1 < x0 then x0 - x1 else x1 - x0) + 1 := by
    have z0 : absZ ((y : Int) - y) = 0 := by unfold absZ; rw [if_neg (by omega)]; omega
    unfold rayN
    rw [z0]
    unfold absZ
    split <;> split <;> omega
  have hlt : ∀ f, f < gw → y * gw + f < gw * gh := fun f hf => by
    have h1 : (y + 1) * gw ≤ gh * gw := Nat.mul_le_mul_right _ (by omega)
    rw [Nat.succ_mul, Nat.mul_comm gh] at h1
    omega
  generalize hn : rayN x0 y x1 y = n at *
  let f : Nat → Nat := fun i => if x1 < x0 then x0 - i else x0 + i
  have hf : ∀ i, i < n → f i < gw := fun i hi => by
    show (if x1 < x0 then x0 - i else x0 + i) < gw
    split at hN <;> split <;> omega
  have hn1 : 1 ≤ n ∧ n ≤ 1024 := by split at hN <;> omega
  refine ⟨(List.range n).map fun i => y * gw + f i, ⟨?_, ?_, ?_, ?_⟩, ?_, by simp, by simp; omega, by simp; omega⟩
  · rw [map_range_at (by omega)]
    show some (y * gw + (if x1 < x0 then x0 - 0 else x0 + 0)) = _
    split <;> rfl
  · rw [List.length_map, List.length_range, map_range_at (by omega)]
    have : f (n - 1) = x1 := by
      show (if x1 < x0 then x0 - (n - 1) else x0 + (n - 1)) = x1
      split at hN <;> split <;> omega
    rw [this]
  · intro z hz
    obtain ⟨i, hi, rfl⟩ := List.mem_map.1 hz
    exact hlt _ (hf i (List.mem_range.1 hi))
  · intro k u v hu hv
    obtain ⟨hk, rfl⟩ := map_range_of hu
    obtain ⟨hk1, rfl⟩ := map_range_of hv
    have m0 := (cell_split (gw := gw) (X := f k) (Y := y) (hf k hk)).1
    have m1 := (cell_split (gw := gw) (X := f (k + 1)) (Y := y) (hf _ hk1)).1
    by_cases hc : x1 < x0
    · have e0 : f k = x0 - k := if_pos hc
      have e1 : f (k + 1) = x0 - (k + 1) := if_pos hc
      rw [if_pos hc] at hN
      exact .inl ⟨by omega, by rw [m0]; omega⟩
    · have e0 : f k = x0 + k := if_neg hc
      have e1 : f (k + 1) = x0 + (k + 1) := if_neg hc
      exact .inr (.inl ⟨by omega, by rw [m1]; omega⟩)
  · unfold rayL
    rw [List.map_map]
    refine List.map_congr_left fun i hi => ?_
    have hi := List.mem_range.1 hi
    have hs := cell_split (gw := gw) (X := f i) (Y := y) (hf i hi)
    show _ = (((((y * gw + f i) % gw : Nat) : Int)), (((y * gw + f i) / gw : Nat) : Int))
    rw [hs.1, hs.2, if_pos rfl, if_pos rfl]
    refine Prod.ext ?_ rfl
    show toZ x0 x1 i = ((f i : Nat) : Int)
    unfold toZ
    by_cases hc : x1 < x0
    · have e0 : f i = x0 - i := if_pos hc
      rw [if_pos (by omega), e0]
      rw [if_pos hc] at hN
      omega
    · have e0 : f i = x0 + i := if_neg hc
      rw [if_neg (by omega), e0]
      omega
theorem ray_col {x y0 y1 : Nat} (h0 : y0 < gh) (h1 : y1 < gh) (hx : x < gw) (hh : gh ≤ 1024) :
    ∃ P, Walk gw (gw * gh) (y0 * gw + x) (y1 * gw + x) P ∧ rayL x y0 x y1 (rayN x y0 x y1) = P.map (cz gw) ∧ P.length = rayN x y0 x y1 ∧ 1 ≤ P.length ∧ P.length ≤ 1024 := by
  have hN : rayN x y0 x y1 = (if y1 < y0 then y0 - y1 else y1 - y0) + 1 := by
    have z0 : absZ ((x : Int) - x) = 0 := by unfold absZ; rw [if_neg (by omega)]; omega
    unfold rayN
    rw [z0]
    unfold absZ
    split <;> split <;> omega
  have hlt : ∀ f, f < gh → f * gw + x < gw * gh := fun f hf => by
    have h1 : (f + 1) * gw ≤ gh * gw := Nat.mul_le_mul_right _ (by omega)
    rw [Nat.succ_mul, Nat.mul_comm gh] at h1
    omega
  generalize hn : rayN x y0 x y1 = n at *
  let f : Nat → Nat := fun i => if y1 < y0 then y0 - i else y0 + i
  have hf : ∀ i, i < n → f i < gh := fun i hi => by
    show (if y1 < y0 then y0 - i else y0 + i) < gh
    split at hN <;> split <;> omega
  have hn1 : 1 ≤ n ∧ n ≤ 1024 := by split at hN <;> omega
  refine ⟨(List.range n).map fun i => f i * gw + x, ⟨?_, ?_, ?_, ?_⟩, ?_, by simp, by simp; omega, by simp; omega⟩
  · rw [map_range_at (by omega)]
    have : f 0 = y0 := by
      show (if y1 < y0 then y0 - 0 else y0 + 0) = y0
      split <;> rfl
    rw [this]
  · rw [List.length_map, List.length_range, map_range_at (by omega)]
    have : f (n - 1) = y1 := by
      show (if y1 < y0 then y0 - (n - 1) else y0 + (n - 1)) = y1
      split at hN <;> split <;> omega
    rw [this]
  · intro z hz
    obtain ⟨i, hi, rfl⟩ := List.mem_map.1 hz
    exact hlt _ (hf i (List.mem_range.1 hi))
  · intro k u v hu hv
    obtain ⟨hk, rfl⟩ := map_range_of hu
    obtain ⟨hk1, rfl⟩ := map_range_of hv
    by_cases hc : y1 < y0
    · have e0 : f k = f (k + 1) + 1 := by
        have e0 : f k = y0 - k := if_pos hc
        have e1 : f (k + 1) = y0 - (k + 1) := if_pos hc
        rw [if_pos hc] at hN
        omega
      refine .inr (.inr (.inl ?_))
      rw [e0, Nat.succ_mul]
      omega
    · have e0 : f (k + 1) = f k + 1 := by
        have e0 : f k = y0 + k := if_neg hc
        have e1 : f (k + 1) = y0 + (k + 1) := if_neg hc
        omega
      refine .inr (.inr (.inr ?_))
      rw [e0, Nat.succ_mul]
      omega
  · unfold rayL
    rw [List.map_map]
    refine List.map_congr_left fun i hi => ?_
    have hi := List.mem_range.1 hi
    have hs := cell_split (gw := gw) (X := x) (Y := f i) hx
    show _ = (((((f i * gw + x) % gw : Nat) : Int)), (((f i * gw + x) / gw : Nat) : Int))
    rw [hs.1, hs.2]
    by_cases he : (y0 : Int) = y1
    · have hi0 : i = 0 := by rw [if_neg (by omega)] at hN; omega
      subst hi0
      rw [if_pos he, if_pos he]
      refine Prod.ext ?_ ?_
      · show toZ x x ((0 : Nat) : Int) = _
        unfold toZ
        rw [if_neg (by omega)]
        omega
      · show (y0 : Int) = ((f 0 : Nat) : Int)
        have : f 0 = y0 + 0 := if_neg (by omega)
        omega
    · rw [if_neg he, if_neg he]
      refine Prod.ext rfl ?_
      show toZ y0 y1 i = ((f i : Nat) : Int)
      unfold toZ
      by_cases hc : y1 < y0
      · have e0 : f i = y0 - i := if_pos hc
        rw [if_pos (by omega), e0]
        rw [if_pos hc] at hN
        omega
      · have e0 : f i = y0 + i := if_neg hc
        rw [if_neg (by omega), e0]
        omega
end
/-- two calls, one after the other, each of which makes one new part -/
def C2 (F : Nat → Prop) (W : World) (L : List HA) (T1 T2 : Value → HA → Prop) (wq : World) : List Value → Prop
  | [] => St F W wq L
  | [v] => ∃ h, T1 v h ∧ St F W wq (h :: L)
  | [u, v] => ∃ h g, T1 v h ∧ T2 u g ∧ St F W wq (g :: h :: L)
  | _ => False
theorem C2.st {F : Nat → Prop} {W : World} {L : List HA} {T1 T2 : Value → HA → Prop} {wq : World} : ∀ {τ : List Value}, C2 F W L T1 T2 wq τ → St F W wq L
  | [], h => h
  | [v], ⟨_, _, S⟩ => S.drop 1
  | [u, v], ⟨_, _, _, _, S⟩ => (S.drop 1).drop 1

section
variable {W : World} {A : Option Addr} {V : List Int}
set_option maxHeartbeats 16000000 in
theorem routeWays_E (w h px py qx qy rx ry : Int) (cap : Nat) (hl : V.length ≤ 9223372036854775807) (hA : Rd W A (ints V)) :
    Fn Try.prog 6 [.int .i64 w, .int .i64 h, .slice A V.length cap, .agg #[.int .i64 px, .int .i64 py], .agg #[.int .i64 qx, .int .i64 qy], .agg #[.int .i64 rx, .int .i64 ry]] W (RetG (.bool true) W) := by
  by_cases hok : LandOk w h V 400
  · obtain ⟨gw, rfl⟩ := Int.eq_ofNat_of_zero_le (show 0 ≤ w by have := hok.w1; omega)
    obtain ⟨gh, rfl⟩ := Int.eq_ofNat_of_zero_le (show 0 ≤ h by have := hok.h1; omega)
    have hw : 1 ≤ gw ∧ gw ≤ 1024 := by have := hok.w1; have := hok.wm; omega
    have hh : 1 ≤ gh ∧ gh ≤ 1024 := by have := hok.h1; have := hok.hm; omega
    have hmi : (gw : Int) * gh = ((gw * gh : Nat) : Int) := by push_cast; rfl
    have hVg : V.length = gw * gh := by have := hok.len; rw [hmi] at this; omega
    have hm : gw * gh ≤ 400 := by have := hok.area; rw [hmi] at this; omega
    have hmay := hok.may
    have hB := vB_of_may hmay
    have hGl := gridL_made hVg
    have hBg : vB (gridL gw gh (fun i => V.getD i 0)) := by rw [hGl]; exact hB
    by_cases hpq : inG gw gh (px, py) = true ∧ inG gw gh (qx, qy) = true
    · cases hin : inG gw gh (rx, ry) with
      | false =>
        have G := Gr.refl W
        have S := St.start W
        refine Fn_enter Try.func6 rfl Try.results6 Try.ntmps6 (by kernel_rfl) (by kernel_rfl) ?_
        repeat refine cw_seq ?_
        refine cw_region ?_
        refine rw_newB (op_box rfl) S ?_
        intro b_ca w2_ g2_ S
        refine rw_newB (op_box rfl) S ?_
        intro b_cb w4_ g4_ S
        refine rw_newB (op_box rfl) S ?_
        intro b_cc w6_ g6_ S
        refine rw_v (op_pure rfl) ?_
        first | refine rw_end ?_ | (refine rw_nil ?_; show CW _ _ _ _ _ _) | refine rw_nil ?_
        repeat refine cw_seq ?_
        refine cw_region ?_
        refine rw_call rfl (awake32_E w6_) ?_
        rintro _ w7_ ⟨rfl, g7_⟩
        have S := S.gr g7_
        refine rw_v (op_pure rfl) ?_
        first | refine rw_end ?_ | (refine rw_nil ?_; show CW _ _ _ _ _ _) | refine rw_nil ?_
        repeat refine cw_seq ?_
        refine cw_false rfl ?_
        repeat refine cw_seq ?_
        refine cw_skip ?_
        try show CW _ _ _ _ _ _
        repeat refine cw_seq ?_
        refine cw_region ?_
        refine rw_v (op_pure rfl) ?_
        refine rw_v (op_pure rfl) ?_
        refine rw_v (op_pure rfl) ?_
        refine rw_call rfl (land_E gw gh 400 cap (by omega) hok (hA.gr S.out)) ?_
        rintro _ w8_ ⟨rfl, g8_⟩
        have S := S.gr g8_
        refine rw_v (op_pure rfl) ?_
        refine rw_v (op_pure rfl) ?_
        refine rw_v (op_pure rfl) ?_
        refine rw_newB (op_alloc Try.zeroValue25 rfl) S ?_
        intro b_md w10_ g10_ S
        refine rw_storeSA (i := 0) S rfl (Try.sizeOf25 _) rfl rfl rfl rfl rfl rfl ?_
        intro w11_ S
        refine rw_v (op_pure rfl) ?_
        first | refine rw_end ?_ | (refine rw_nil ?_; show CW _ _ _ _ _ _) | refine rw_nil ?_
        repeat refine cw_seq ?_
        refine cw_region ?_
        refine rw_v (op_pure rfl) ?_
        refine rw_v (op_pure rfl) ?_
        refine rw_v (op_pure rfl) ?_
        first | refine rw_off rfl ?_ | (refine rw_on rfl ?_; refine rw_r (op_loadAB Try.underlying25 rfl (Try.sizeOf25 _) rfl (S.blk (i := 0) rfl) rfl rfl) ?_)
        first | refine rw_off rfl ?_ | (refine rw_on rfl ?_; refine rw_r (op_loadAB Try.underlying36 rfl (Try.sizeOf36 _) rfl (S.blk (i := 3) rfl) rfl rfl) ?_)
        first | refine rw_off rfl ?_ | (refine rw_on rfl ?_; refine rw_r (op_loadAB Try.underlying36 rfl (Try.sizeOf36 _) rfl (S.blk (i := 2) rfl) rfl rfl) ?_)
        refine rw_on rfl ?_
        refine rw_call rfl (mayOk_E _ _ _ _ hpq.1 hpq.2 hVg (by omega) (hA.gr S.out)) ?_
        rintro _ w12_ ⟨rfl, g12_⟩
        have S := S.gr g12_
        first | refine rw_off rfl ?_ | (refine rw_on rfl ?_; (first | refine rw_v (op_b (b := true) rfl (bne_iff_ne.2 (by omega))) ?_ | refine rw_v (op_b (b := false) rfl (bne_eq_false_iff_eq.2 (by omega))) ?_ | refine rw_v (op_pure rfl) ?_))
        refine rw_v (op_pure rfl) ?_
        refine rw_v (op_pure rfl) ?_
        first | refine rw_off rfl ?_ | (refine rw_on rfl ?_; refine rw_r (op_loadAB Try.underlying25 rfl (Try.sizeOf25 _) rfl (S.blk (i := 0) rfl) rfl rfl) ?_)
        first | refine rw_off rfl ?_ | (refine rw_on rfl ?_; refine rw_r (op_loadAB Try.underlying36 rfl (Try.sizeOf36 _) rfl (S.blk (i := 1) rfl) rfl rfl) ?_)
        first | refine rw_off rfl ?_ | (refine rw_on rfl ?_; refine rw_r (op_loadAB Try.underlying36 rfl (Try.sizeOf36 _) rfl (S.blk (i := 1) rfl) rfl rfl) ?_)
        refine rw_on rfl ?_
        refine rw_call rfl (mayNo_E _ _ _ _ (.inl hin) hVg (by omega) (hA.gr S.out)) ?_
        rintro _ w13_ ⟨rfl, g13_⟩
        have S := S.gr g13_
        first | refine rw_off rfl ?_ | (refine rw_on rfl ?_; (first | refine rw_v (op_b (b := true) rfl (bne_iff_ne.2 (by omega))) ?_ | refine rw_v (op_b (b := false) rfl (bne_eq_false_iff_eq.2 (by omega))) ?_ | refine rw_v (op_pure rfl) ?_))
        refine rw_v (op_pure rfl) ?_
        first | refine rw_end ?_ | (refine rw_nil ?_; show CW _ _ _ _ _ _) | refine rw_nil ?_
        repeat refine cw_seq ?_
        refine cw_true rfl ?_
        repeat refine cw_seq ?_
        refine cw_region ?_
        refine rw_v (op_pure rfl) ?_
        first | refine rw_end ?_ | (refine rw_nil ?_; show CW _ _ _ _ _ _) | refine rw_nil ?_
        repeat refine cw_seq ?_
        refine cw_ret ?_
        repeat first | refine ret_then ?_ | refine ret_inb ?_
        exact res1 rfl ⟨rfl, S.out⟩
      | true =>
        obtain ⟨a, ha, rfl, rfl⟩ := inG_cz hpq.1
        obtain ⟨b, hb, rfl, rfl⟩ := inG_cz hpq.2
        have hin0 := hin
        obtain ⟨c, hc3, rfl, rfl⟩ := inG_cz hin
        have hpos : 1 ≤ gw * gh := Nat.mul_le_mul hw.1 hh.1
        have sa_A : SomeA A := hA.someA (by rw [ints_len]; omega)
        have hgw0 : 0 < gw := by omega
        have bax := Nat.mod_lt a hgw0
        have bay : a / gw < gh := Nat.div_lt_of_lt_mul ha
        have bbx := Nat.mod_lt b hgw0
        have bby : b / gw < gh := Nat.div_lt_of_lt_mul hb
        have ca1 := nat_cb bax hw.2
        have ca2 := nat_cb bay hh.2
        have cb1 := nat_cb bbx hw.2
        have cb2 := nat_cb bby hh.2
        obtain ⟨P1, hP1, eP1, nP1, lP1, mP1⟩ := ray_row (gh := gh) (y := a / gw) bax bbx bay hw.2
        obtain ⟨P2, hP2, eP2, nP2, lP2, mP2⟩ := ray_col (gw := gw) (x := b % gw) bay bby bbx hh.2
        have eam : a / gw * gw + a % gw = a := by rw [Nat.mul_comm]; exact Nat.div_add_mod _ _
        have ebm : b / gw * gw + b % gw = b := by rw [Nat.mul_comm]; exact Nat.div_add_mod _ _
        rw [eam] at hP1
        rw [ebm] at hP2
        generalize hq : a / gw * gw + b % gw = q at hP1 hP2
        have S := St.start W
        refine Fn_enter Try.func6 rfl Try.results6 Try.ntmps6 (by kernel_rfl) (by kernel_rfl) ?_
        repeat refine cw_seq ?_
        refine cw_region ?_
        refine rw_newB (op_box rfl) S ?_
        intro b_ca w2_ g2_ S
        refine rw_newB (op_box rfl) S ?_
        intro b_cb w4_ g4_ S
        refine rw_newB (op_box rfl) S ?_
        intro b_cc w6_ g6_ S
        refine rw_v (op_pure rfl) ?_
        first | refine rw_end ?_ | (refine rw_nil ?_; show CW _ _ _ _ _ _) | refine rw_nil ?_
        repeat refine cw_seq ?_
        refine cw_region ?_
        refine rw_call rfl (awake32_E w6_) ?_
        rintro _ w7_ ⟨rfl, g7_⟩
        have S := S.gr g7_
        refine rw_v (op_pure rfl) ?_
        first | refine rw_end ?_ | (refine rw_nil ?_; show CW _ _ _ _ _ _) | refine rw_nil ?_
        repeat refine cw_seq ?_
        refine cw_false rfl ?_
        repeat refine cw_seq ?_
        refine cw_skip ?_
        try show CW _ _ _ _ _ _
        repeat refine cw_seq ?_
        refine cw_region ?_
        refine rw_v (op_pure rfl) ?_
        refine rw_v (op_pure rfl) ?_
        refine rw_v (op_pure rfl) ?_
        refine rw_call rfl (land_E gw gh 400 cap (by omega) hok (hA.gr S.out)) ?_
        rintro _ w8_ ⟨rfl, g8_⟩
        have S := S.gr g8_
        refine rw_v (op_pure rfl) ?_
        refine rw_v (op_pure rfl) ?_
        refine rw_v (op_pure rfl) ?_
        refine rw_newB (op_alloc Try.zeroValue25 rfl) S ?_
        intro b_md w10_ g10_ S
        refine rw_storeSA (i := 0) S rfl (Try.sizeOf25 _) rfl rfl rfl rfl rfl rfl ?_
        intro w11_ S
        refine rw_v (op_pure rfl) ?_
        first | refine rw_end ?_ | (refine rw_nil ?_; show CW _ _ _ _ _ _) | refine rw_nil ?_
        repeat refine cw_seq ?_
        refine cw_region ?_
        refine rw_v (op_pure rfl) ?_
        refine rw_v (op_pure rfl) ?_
        refine rw_v (op_pure rfl) ?_
        first | refine rw_off rfl ?_ | (refine rw_on rfl ?_; refine rw_r (op_loadAB Try.underlying25 rfl (Try.sizeOf25 _) rfl (S.blk (i := 0) rfl) rfl rfl) ?_)
        first | refine rw_off rfl ?_ | (refine rw_on rfl ?_; refine rw_r (op_loadAB Try.underlying36 rfl (Try.sizeOf36 _) rfl (S.blk (i := 3) rfl) rfl rfl) ?_)
        first | refine rw_off rfl ?_ | (refine rw_on rfl ?_; refine rw_r (op_loadAB Try.underlying36 rfl (Try.sizeOf36 _) rfl (S.blk (i := 2) rfl) rfl rfl) ?_)
        refine rw_on rfl ?_
        refine rw_call rfl (mayOk_E _ _ _ _ hpq.1 hpq.2 hVg (by omega) (hA.gr S.out)) ?_
        rintro _ w12_ ⟨rfl, g12_⟩
        have S := S.gr g12_
        first | refine rw_off rfl ?_ | (refine rw_on rfl ?_; (first | refine rw_v (op_b (b := true) rfl (bne_iff_ne.2 (by omega))) ?_ | refine rw_v (op_b (b := false) rfl (bne_eq_false_iff_eq.2 (by omega))) ?_ | refine rw_v (op_pure rfl) ?_))
        refine rw_v (op_pure rfl) ?_
        refine rw_v (op_pure rfl) ?_
        first | refine rw_off rfl ?_ | (refine rw_on rfl ?_; refine rw_r (op_loadAB Try.underlying25 rfl (Try.sizeOf25 _) rfl (S.blk (i := 0) rfl) rfl rfl) ?_)
        first | refine rw_off rfl ?_ | (refine rw_on rfl ?_; refine rw_r (op_loadAB Try.underlying36 rfl (Try.sizeOf36 _) rfl (S.blk (i := 1) rfl) rfl rfl) ?_)
        first | refine rw_off rfl ?_ | (refine rw_on rfl ?_; refine rw_r (op_loadAB Try.underlying36 rfl (Try.sizeOf36 _) rfl (S.blk (i := 1) rfl) rfl rfl) ?_)
        refine rw_on rfl ?_
        refine rw_call rfl (mayOk_E _ _ _ _ hin0 hin0 hVg (by omega) (hA.gr S.out)) ?_
        rintro _ w13_ ⟨rfl, g13_⟩
        have S := S.gr g13_
        first | refine rw_off rfl ?_ | (refine rw_on rfl ?_; (first | refine rw_v (op_b (b := true) rfl (bne_iff_ne.2 (by omega))) ?_ | refine rw_v (op_b (b := false) rfl (bne_eq_false_iff_eq.2 (by omega))) ?_ | refine rw_v (op_pure rfl) ?_))
        refine rw_v (op_pure rfl) ?_
        first | refine rw_end ?_ | (refine rw_nil ?_; show CW _ _ _ _ _ _) | refine rw_nil ?_
        repeat refine cw_seq ?_
        refine cw_false rfl ?_
        repeat refine cw_seq ?_
        refine cw_skip ?_
        try show CW _ _ _ _ _ _
        repeat refine cw_seq ?_
        refine cw_region ?_
        refine rw_v (op_pure rfl) ?_
        refine rw_v (op_pure rfl) ?_
        refine rw_v (op_pure rfl) ?_
        refine rw_call rfl (made_E gw gh cap hw hh hVg hmay (hA.gr S.out)) ?_
        rintro _ w14_ ⟨p, B, bc, bs, Rs, rfl, hG, hf, g14_⟩
        have S := S.pushGrid hG hf g14_
        refine rw_v (op_pure rfl) ?_
        refine rw_v (op_pure rfl) ?_
        refine rw_v (op_pure rfl) ?_
        refine rw_v (op_pure rfl) ?_
        refine rw_v (op_pure rfl) ?_
        first | refine rw_end ?_ | (refine rw_nil ?_; show CW _ _ _ _ _ _) | refine rw_nil ?_
        repeat refine cw_seq ?_
        refine cw_region ?_
        refine rw_v (op_pure rfl) ?_
        refine rw_v (op_pure rfl) ?_
        first | refine rw_end ?_ | (refine rw_nil ?_; show CW _ _ _ _ _ _) | refine rw_nil ?_
        repeat refine cw_seq ?_
        refine cw_false rfl ?_
        repeat refine cw_seq ?_
        refine cw_skip ?_
        try show CW _ _ _ _ _ _
        repeat refine cw_seq ?_
        refine cw_region ?_
        refine rw_v (op_pure rfl) ?_
        refine rw_r (op_loadAB Try.underlying36 rfl (Try.sizeOf36 _) rfl (S.blk (i := 4) rfl) rfl rfl) ?_
        refine rw_r (op_loadAB Try.underlying36 rfl (Try.sizeOf36 _) rfl (S.blk (i := 3) rfl) rfl rfl) ?_
        refine rw_call rfl (rFind_E a b ha hb hBg (S.grid (i := 0) rfl)) ?_
        rintro _ w15_ ⟨d, hd, A_r, c_r, rfl, hR, hFr, g15_⟩
        rw [hGl] at hd hR
        rw [hGl]
        have S := S.pushRow hR hFr g15_
        refine rw_v (op_pure rfl) ?_
        refine rw_v (op_pure rfl) ?_
        refine rw_v (op_pure rfl) ?_
        refine rw_v (op_pure rfl) ?_
        refine rw_v (op_pure rfl) ?_
        refine rw_v (op_pure rfl) ?_
        refine rw_v (op_pure rfl) ?_
        first | refine rw_end ?_ | (refine rw_nil ?_; show CW _ _ _ _ _ _) | refine rw_nil ?_
        repeat refine cw_seq ?_
        refine cw_region ?_
        refine rw_v (op_pure rfl) ?_
        refine rw_r (op_loadAB Try.underlying36 rfl (Try.sizeOf36 _) rfl (S.blk (i := 4) rfl) rfl rfl) ?_
        refine rw_r (op_loadAB Try.underlying36 rfl (Try.sizeOf36 _) rfl (S.blk (i := 5) rfl) rfl rfl) ?_
        refine rw_call rfl (rFind_E b a hb ha hBg (S.grid (i := 1) rfl)) ?_
        rintro _ w16_ ⟨d2, hd2, A_2, c_2, rfl, _, _, g16_⟩
        rw [hGl] at hd2
        have S := S.gr g16_
        refine rw_v (op_pure rfl) ?_
        refine rw_v (op_pure rfl) ?_
        refine rw_v (op_pure rfl) ?_
        refine rw_v (op_pure rfl) ?_
        refine rw_v (op_pure rfl) ?_
        refine rw_v (op_pure rfl) ?_
        refine rw_v (op_pure rfl) ?_
        first | refine rw_end ?_ | (refine rw_nil ?_; show CW _ _ _ _ _ _) | refine rw_nil ?_
        repeat refine cw_seq ?_
        refine cw_region ?_
        refine rw_v (op_pure rfl) ?_
        refine rw_r (op_loadAB Try.underlying36 rfl (Try.sizeOf36 _) rfl (S.blk (i := 5) rfl) rfl rfl) ?_
        refine rw_r (op_loadAB Try.underlying36 rfl (Try.sizeOf36 _) rfl (S.blk (i := 3) rfl) rfl rfl) ?_
        refine rw_call rfl (rFind_E a c ha hc3 hBg (S.grid (i := 1) rfl)) ?_
        rintro _ w17_ ⟨d3, hd3, A_3, c_3, rfl, _, _, g17_⟩
        rw [hGl] at hd3
        have S := S.gr g17_
        refine rw_v (op_pure rfl) ?_
        refine rw_v (op_pure rfl) ?_
        refine rw_v (op_pure rfl) ?_
        refine rw_v (op_pure rfl) ?_
        refine rw_v (op_pure rfl) ?_
        refine rw_v (op_pure rfl) ?_
        refine rw_v (op_pure rfl) ?_
        first | refine rw_end ?_ | (refine rw_nil ?_; show CW _ _ _ _ _ _) | refine rw_nil ?_
        repeat refine cw_seq ?_
        refine cw_region ?_
        refine rw_v (op_pure rfl) ?_
        refine rw_r (op_loadAB Try.underlying36 rfl (Try.sizeOf36 _) rfl (S.blk (i := 3) rfl) rfl rfl) ?_
        refine rw_r (op_loadAB Try.underlying36 rfl (Try.sizeOf36 _) rfl (S.blk (i := 4) rfl) rfl rfl) ?_
        refine rw_call rfl (rFind_E c b hc3 hb hBg (S.grid (i := 1) rfl)) ?_
        rintro _ w18_ ⟨d4, hd4, A_4, c_4, rfl, _, _, g18_⟩
        rw [hGl] at hd4
        have S := S.gr g18_
        refine rw_v (op_pure rfl) ?_
        refine rw_v (op_pure rfl) ?_
        refine rw_v (op_pure rfl) ?_
        refine rw_v (op_pure rfl) ?_
        refine rw_v (op_pure rfl) ?_
        refine rw_v (op_pure rfl) ?_
        refine rw_v (op_pure rfl) ?_
        first | refine rw_end ?_ | (refine rw_nil ?_; show CW _ _ _ _ _ _) | refine rw_nil ?_
        have hnk : d a = d2 b := by
          have h1 := hd.back hd2 (by omega) (by omega)
          have h2 := hd2.back hd (by omega) (by omega)
          omega
        have hov := hd.over hd3 (x := a) (by omega)
        rw [← hd4.uniq hd (show c < V.length by omega)] at hov
        have hb0 := hd.zero
        have hn0 : ∀ i, i < gw * gh → 0 ≤ d i ∧ d i ≤ 400 * far := fun i hi => by
          have h1 := hd.bound hB i (by omega)
          have h2 := rank_top (d := d) (show i < V.length by omega)
          have h3 := hd.nn i (by omega)
          unfold far at *
          omega
        have hn3 : 0 ≤ d3 a ∧ d3 a ≤ 400 * far := by
          have h1 := hd3.bound hB a (by omega)
          have h2 := rank_top (d := d3) (show a < V.length by omega)
          have h3 := hd3.nn a (by omega)
          unfold far at *
          omega
        have hn4 : 0 ≤ d4 c ∧ d4 c ≤ 400 * far := by
          have h1 := hd4.bound hB c (by omega)
          have h2 := rank_top (d := d4) (show c < V.length by omega)
          have h3 := hd4.nn c (by omega)
          unfold far at *
          omega
        have hna := hn0 a ha
        obtain ⟨rest, hr1, hr2, hr3, hr4⟩ := routeL_ok hgw0 hVg hd ((d a).toNat + 1) a ha (by omega)
        have hlL : (routeL gw V d b a).length = rest.length + 1 := by rw [hr1]; rfl
        rw [← hr1] at hr2 hr3 hr4
        have hrf : (routeL gw V d b a)[0]? = some a := by rw [hr1]; rfl
        clear hr1
        generalize routeL gw V d b a = Lr at *
        have hmf : (Lr.map (cz gw))[0]? = some (cz gw a) := by rw [List.getElem?_map, hrf]; rfl
        have hml : (Lr.map (cz gw))[rest.length]? = some (cz gw b) := by rw [List.getElem?_map, hr3]; rfl
        have hat0 : ((cellsZ (Lr.map (cz gw))).drop ((0 : Int).toNat * 2)).take 2 = [.int .i64 (a % gw : Nat), .int .i64 (a / gw : Nat)] := cellsZ_at (k := 0) hmf
        have hatn : ((cellsZ (Lr.map (cz gw))).drop (((Lr.length : Int) - 1).toNat * 2)).take 2 = [.int .i64 (b % gw : Nat), .int .i64 (b / gw : Nat)] := by
          rw [show ((Lr.length : Int) - 1).toNat = rest.length by omega]; exact cellsZ_at hml
        have hls := (S.row (i := 0) rfl).small
        unfold maxLen at hls
        have sa_r : SomeA A_r := (S.row (i := 0) rfl).someA (by omega)
        unfold far at hn3 hn4 hna
        repeat refine cw_seq ?_
        refine cw_draw (C := fun wq => Gr w18_ wq) [0, 1, 2, 3, 4, 5, 6, 7, 8, 9, 10, 11, 12, 13, 14, 15, 16, 17, 18, 19, 20, 21, 22, 23, 24, 25, 26, 27, 28, 29, 30, 31, 32, 33, 34, 35, 36, 37, 38, 39, 40, 41, 42, 43, 44, 45, 46, 47] [] (by kernel_rfl) (by kernel_rfl) (Gr.drew _) ?_
        simp only [pickL, List.drop_succ_cons, List.drop_zero]
        refine rq_v (op_pure rfl) ?_
        first | refine rq_v (op_b (b := true) rfl (bne_iff_ne.2 (by omega))) ?_ | refine rq_v (op_b (b := false) rfl (bne_eq_false_iff_eq.2 (by omega))) ?_ | refine rq_v (op_pure rfl) ?_
        refine rq_v (op_pure rfl) ?_
        first | refine rq_off rfl ?_ | (refine rq_on rfl ?_; refine rq_v (op_pure rfl) ?_)
        first | refine rq_off rfl ?_ | (refine rq_on rfl ?_; (first | refine rq_v (op_b (b := true) rfl (bne_iff_ne.2 (by omega))) ?_ | refine rq_v (op_b (b := false) rfl (bne_eq_false_iff_eq.2 (by omega))) ?_ | refine rq_v (op_pure rfl) ?_))
        refine rq_v (op_pure rfl) ?_
        refine rq_v (op_pure rfl) ?_
        first | refine rq_off rfl ?_ | (refine rq_on rfl ?_; refine rq_v (op_pure rfl) ?_)
        first | refine rq_off rfl ?_ | (refine rq_on rfl ?_; (first | refine rq_v (op_b (b := true) rfl (bne_iff_ne.2 (by omega))) ?_ | refine rq_v (op_b (b := false) rfl (bne_eq_false_iff_eq.2 (by omega))) ?_ | refine rq_v (op_pure rfl) ?_))
        refine rq_v (op_pure rfl) ?_
        refine rq_v (op_pure rfl) ?_
        first | refine rq_off rfl ?_ | (refine rq_on rfl ?_; refine rq_v (op_pure rfl) ?_)
        first | refine rq_off rfl ?_ | (refine rq_on rfl ?_; (first | refine rq_v (op_b (b := true) rfl (bne_iff_ne.2 (by omega))) ?_ | refine rq_v (op_b (b := false) rfl (bne_eq_false_iff_eq.2 (by omega))) ?_ | refine rq_v (op_pure rfl) ?_))
        refine rq_v (op_pure rfl) ?_
        refine rq_v (op_pure rfl) ?_
        first | refine rq_off rfl ?_ | (refine rq_on rfl ?_; refine rq_v (op_pure rfl) ?_)
        first | refine rq_off rfl ?_ | (refine rq_on rfl ?_; refine rq_v (op_pure rfl) ?_)
        first | refine rq_off rfl ?_ | (refine rq_on rfl ?_; (first | refine rq_v (op_b (b := true) rfl (bne_iff_ne.2 (by omega))) ?_ | refine rq_v (op_b (b := false) rfl (bne_eq_false_iff_eq.2 (by omega))) ?_ | refine rq_v (op_pure rfl) ?_))
        refine rq_v (op_pure rfl) ?_
        refine rq_v (op_pure rfl) ?_
        first | refine rq_off rfl ?_ | (refine rq_on rfl ?_; refine rq_v (op_pure rfl) ?_)
        first | refine rq_off rfl ?_ | (refine rq_on rfl ?_; refine rq_v (op_pure rfl) ?_)
        first | refine rq_off rfl ?_ | (refine rq_on rfl ?_; refine rq_v (op_pure rfl) ?_)
        first | refine rq_off rfl ?_ | (refine rq_on rfl ?_; refine rq_v (op_rng rfl (by omega)) ?_)
        first | refine rq_off rfl ?_ | (refine rq_on rfl ?_; (first | refine rq_v (op_b (b := true) rfl (decide_eq_true (by omega))) ?_ | refine rq_v (op_b (b := false) rfl (decide_eq_false (by omega))) ?_ | refine rq_v (op_pure rfl) ?_))
        refine rq_v (op_pure rfl) ?_
        refine rq_v (op_pure rfl) ?_
        first | refine rq_off rfl ?_ | (refine rq_on rfl ?_; refine rq_v (op_pure rfl) ?_)
        first | refine rq_off rfl ?_ | (refine rq_on rfl ?_; refine rq_v (op_len Try.underlying41 rfl) ?_)
        first | refine rq_off rfl ?_ | (refine rq_on rfl ?_; (first | refine rq_v (op_b (b := true) rfl (beq_iff_eq.2 (by omega))) ?_ | refine rq_v (op_b (b := false) rfl (beq_eq_false_iff_ne.2 (by omega))) ?_ | refine rq_v (op_pure rfl) ?_))
        refine rq_v (op_pure rfl) ?_
        refine rq_v (op_pure rfl) ?_
        first | refine rq_off rfl ?_ | (refine rq_on rfl ?_; refine rq_v (op_pure rfl) ?_)
        first | refine rq_off rfl ?_ | (refine rq_on rfl ?_; refine rq_v (op_idx Try.underlying41 Try.sizeOf36 rfl rfl sa_r (by omega) (by omega)) ?_)
        first | refine rq_off rfl ?_ | (refine rq_on rfl ?_; refine rq_r (fun wq hq => op_ldRA Try.underlying36 rfl (Try.sizeOf36 _) rfl ((S.gr hq).rd (i := 0) rfl) hat0 rfl rfl) ?_)
        first | refine rq_off rfl ?_ | (refine rq_on rfl ?_; refine rq_r (fun wq hq => op_loadAB Try.underlying36 rfl (Try.sizeOf36 _) rfl ((S.gr hq).blk (i := 5) rfl) rfl rfl) ?_)
        refine rq_on rfl ?_
        refine rq_v (op_neCell (r := false) rfl rfl (by simp)) ?_
        refine rq_v (op_pure rfl) ?_
        refine rq_v (op_pure rfl) ?_
        first | refine rq_off rfl ?_ | (refine rq_on rfl ?_; refine rq_v (op_pure rfl) ?_)
        first | refine rq_off rfl ?_ | (refine rq_on rfl ?_; refine rq_v (op_pure rfl) ?_)
        first | refine rq_off rfl ?_ | (refine rq_on rfl ?_; refine rq_v (op_len Try.underlying41 rfl) ?_)
        first | refine rq_off rfl ?_ | (refine rq_on rfl ?_; refine rq_v (op_rng rfl (by omega)) ?_)
        first | refine rq_off rfl ?_ | (refine rq_on rfl ?_; refine rq_v (op_idx Try.underlying41 Try.sizeOf36 rfl rfl sa_r (by omega) (by omega)) ?_)
        first | refine rq_off rfl ?_ | (refine rq_on rfl ?_; refine rq_r (fun wq hq => op_ldRA Try.underlying36 rfl (Try.sizeOf36 _) rfl ((S.gr hq).rd (i := 0) rfl) hatn rfl rfl) ?_)
        first | refine rq_off rfl ?_ | (refine rq_on rfl ?_; refine rq_r (fun wq hq => op_loadAB Try.underlying36 rfl (Try.sizeOf36 _) rfl ((S.gr hq).blk (i := 4) rfl) rfl rfl) ?_)
        refine rq_on rfl ?_
        refine rq_v (op_neCell (r := false) rfl rfl (by simp)) ?_
        refine rq_v (op_pure rfl) ?_
        refine rq_nil ?_
        intro w19_ g19_
        have S := S.gr g19_
        first | refine rw_end ?_ | (refine rw_nil ?_; show CW _ _ _ _ _ _) | refine rw_nil ?_
        repeat refine cw_seq ?_
        refine cw_false rfl ?_
        repeat refine cw_seq ?_
        refine cw_skip ?_
        try show CW _ _ _ _ _ _
        repeat refine cw_seq ?_
        refine cw_region ?_
        refine rw_v (op_pure rfl) ?_
        first | refine rw_end ?_ | (refine rw_nil ?_; show CW _ _ _ _ _ _) | refine rw_nil ?_
        repeat refine cw_seq ?_
        refine cw_region ?_
        refine rw_v (op_pure rfl) ?_
        first | refine rw_end ?_ | (refine rw_nil ?_; show CW _ _ _ _ _ _) | refine rw_nil ?_
        repeat refine cw_seq ?_
        refine cw_block ?_
        repeat refine cw_seq ?_
        refine cw_loop (fun m e w => ∃ k u : Nat, k + 1 + m = Lr.length ∧ Lr[k]? = some u ∧ SL e [(2, .slice A V.length cap), (9, .pointer (some ⟨b_ca, 0, none⟩)), (10, .pointer (some ⟨b_cb, 0, none⟩)), (13, .pointer (some ⟨b_md, 0, none⟩)), (16, .int .i64 (d a)), (17, .slice A_r Lr.length c_r), (28, .int .i64 (d a - d u)), (29, .int .i64 ((k + 1 : Nat) : Int))] ∧
          St No W w [.row 36 2 A_r Lr.length c_r (cellsZ (Lr.map (cz gw))), .blk b_md 25 [.int .i64 gw, .int .i64 gh, .slice A V.length cap], .blk b_cb 36 [.int .i64 (b % gw : Nat), .int .i64 (b / gw : Nat)], .blk b_ca 36 [.int .i64 (a % gw : Nat), .int .i64 (a / gw : Nat)]]) rest.length
          ⟨0, a, by omega, hrf, ⟨rfl, rfl, rfl, rfl, rfl, rfl, ie (by omega), rfl, trivial⟩, S.sub (.cons_cons _ (.cons _ (.cons_cons _ (.cons _ (.cons_cons _ (.cons_cons _ .slnil))))))⟩ ?_
        clear S
        rintro m e w ⟨k, u, hk, hu, hsl, S⟩
        rw [hsl.fold]
        have hul := hr2 u (List.mem_of_getElem? hu)
        have hud := hn0 u hul
        unfold far at hud
        repeat refine cw_seq ?_
        refine cw_region ?_
        refine rw_v (op_pure rfl) ?_
        refine rw_v (op_pure rfl) ?_
        refine rw_v (op_len Try.underlying41 rfl) ?_
        refine rw_v (op_pure rfl) ?_
        first | refine rw_end ?_ | (refine rw_nil ?_; show CW _ _ _ _ _ _) | refine rw_nil ?_
        repeat refine cw_seq ?_
        refine cw_cond rfl (fun hcl => ?_) (fun hcl => ?_)
        · try simp only [decide_eq_true_eq, decide_eq_false_iff_not, beq_iff_eq, bne_iff_ne, beq_eq_false_iff_ne, bne_eq_false_iff_eq, Bool.not_eq_true', Bool.not_eq_false', ne_eq, Decidable.not_not, Int.natCast_inj, Int.ofNat_lt, Int.ofNat_le, gt_iff_lt, ge_iff_le, Int.not_lt, Int.not_le] at hcl
          obtain ⟨v, hv⟩ : ∃ v, Lr[k + 1]? = some v := ⟨_, List.getElem?_eq_getElem (by omega)⟩
          have hvl := hr2 v (List.mem_of_getElem? hv)
          obtain ⟨hsd, hst⟩ := hr4 k u v hu hv
          have hvd := hn0 v hvl
          unfold far at hvd
          have hsq := side_sq hgw0 hsd
          have bux := Nat.mod_lt u hgw0
          have buy : u / gw < gh := Nat.div_lt_of_lt_mul hul
          have bvx := Nat.mod_lt v hgw0
          have bvy : v / gw < gh := Nat.div_lt_of_lt_mul hvl
          have hmu : (Lr.map (cz gw))[k]? = some (cz gw u) := by rw [List.getElem?_map, hu]; rfl
          have hmv : (Lr.map (cz gw))[k + 1]? = some (cz gw v) := by rw [List.getElem?_map, hv]; rfl
          have ek : (((k + 1 : Nat) : Int) - 1).toNat = k := by omega
          have hatu : ((cellsZ (Lr.map (cz gw))).drop ((((k + 1 : Nat) : Int) - 1).toNat * 2)).take 2 = [.int .i64 (u % gw : Nat), .int .i64 (u / gw : Nat)] := by rw [ek]; exact cellsZ_at hmu
          have hatv : ((cellsZ (Lr.map (cz gw))).drop (((k + 1 : Nat) : Int).toNat * 2)).take 2 = [.int .i64 (v % gw : Nat), .int .i64 (v / gw : Nat)] := by rw [Int.toNat_natCast]; exact cellsZ_at hmv
          have hux : (cellsZ (Lr.map (cz gw)))[(((k + 1 : Nat) : Int) - 1).toNat * 2 + 0]? = some (.int .i64 (u % gw : Nat)) := by rw [ek]; exact cellsZ_x hmu
          have huy : (cellsZ (Lr.map (cz gw)))[(((k + 1 : Nat) : Int) - 1).toNat * 2 + 1]? = some (.int .i64 (u / gw : Nat)) := by rw [ek]; exact cellsZ_y hmu
          have hvx : (cellsZ (Lr.map (cz gw)))[((k + 1 : Nat) : Int).toNat * 2 + 0]? = some (.int .i64 (v % gw : Nat)) := by rw [Int.toNat_natCast]; exact cellsZ_x hmv
          have hvy : (cellsZ (Lr.map (cz gw)))[((k + 1 : Nat) : Int).toNat * 2 + 1]? = some (.int .i64 (v / gw : Nat)) := by rw [Int.toNat_natCast]; exact cellsZ_y hmv
          have hrx1 := nat_cb bux hw.2
          have hrx2 := nat_cb bvx hw.2
          have hry1 := nat_cb buy hh.2
          have hry2 := nat_cb bvy hh.2
          have hq1 : 0 ≤ (((v % gw : Nat) : Int) - (u % gw : Nat)) * (((v % gw : Nat) : Int) - (u % gw : Nat)) := sq_nn _
          have hq2 : 0 ≤ (((v / gw : Nat) : Int) - (u / gw : Nat)) * (((v / gw : Nat) : Int) - (u / gw : Nat)) := sq_nn _
          repeat refine cw_seq ?_
          refine cw_skip ?_
          try show CW _ _ _ _ _ _
          repeat refine cw_seq ?_
          refine cw_block ?_
          repeat refine cw_seq ?_
          refine cw_draw (C := fun wq => Gr w wq) [0, 1, 2, 3, 4, 5, 6, 7, 8, 9, 10, 11, 12, 13, 14, 15, 16, 17, 18, 19, 20, 21, 22, 23, 24, 25] [] (by kernel_rfl) (by kernel_rfl) (Gr.drew _) ?_
          simp only [pickL, List.drop_succ_cons, List.drop_zero]
          refine rq_v (op_pure rfl) ?_
          refine rq_v (op_pure rfl) ?_
          refine rq_v (op_idx Try.underlying41 Try.sizeOf36 rfl rfl sa_r (by omega) (by omega)) ?_
          refine rq_v (op_fld Try.underlying36 rfl Try.sizeOf2 rfl rfl sa_r) ?_
          refine rq_r (fun wq hq => op_ldR Try.underlying2 rfl rfl ((S.gr hq).rd (i := 0) rfl) hvx) ?_
          refine rq_v (op_pure rfl) ?_
          refine rq_v (op_pure rfl) ?_
          refine rq_v (op_rng rfl (by omega)) ?_
          refine rq_v (op_idx Try.underlying41 Try.sizeOf36 rfl rfl sa_r (by omega) (by omega)) ?_
          refine rq_v (op_fld Try.underlying36 rfl Try.sizeOf2 rfl rfl sa_r) ?_
          refine rq_r (fun wq hq => op_ldR Try.underlying2 rfl rfl ((S.gr hq).rd (i := 0) rfl) hux) ?_
          refine rq_v (op_rng rfl (by omega)) ?_
          refine rq_v (op_pure rfl) ?_
          refine rq_v (op_pure rfl) ?_
          refine rq_v (op_idx Try.underlying41 Try.sizeOf36 rfl rfl sa_r (by omega) (by omega)) ?_
          refine rq_v (op_fld Try.underlying36 rfl Try.sizeOf2 rfl rfl sa_r) ?_
          refine rq_r (fun wq hq => op_ldR Try.underlying2 rfl rfl ((S.gr hq).rd (i := 0) rfl) hvy) ?_
          refine rq_v (op_pure rfl) ?_
          refine rq_v (op_pure rfl) ?_
          refine rq_v (op_rng rfl (by omega)) ?_
          refine rq_v (op_idx Try.underlying41 Try.sizeOf36 rfl rfl sa_r (by omega) (by omega)) ?_
          refine rq_v (op_fld Try.underlying36 rfl Try.sizeOf2 rfl rfl sa_r) ?_
          refine rq_r (fun wq hq => op_ldR Try.underlying2 rfl rfl ((S.gr hq).rd (i := 0) rfl) huy) ?_
          refine rq_v (op_rng rfl (by generalize ((v / gw : Nat) : Int) = z1 at *; generalize ((u / gw : Nat) : Int) = z2 at *; omega)) ?_
          refine rq_v (op_pure rfl) ?_
          refine rq_v (op_pure rfl) ?_
          refine rq_nil ?_
          intro w20_ g20_
          have S := S.gr g20_
          first | refine rw_end ?_ | (refine rw_nil ?_; show CW _ _ _ _ _ _) | refine rw_nil ?_
          repeat refine cw_seq ?_
          refine cw_region ?_
          refine rw_v (op_pure rfl) ?_
          refine rw_v (op_pure rfl) ?_
          refine rw_v (op_rng rfl (by omega)) ?_
          refine rw_v (op_pure rfl) ?_
          refine rw_v (op_pure rfl) ?_
          refine rw_v (op_rng rfl (by omega)) ?_
          refine rw_v (op_rng rfl (by omega)) ?_
          refine rw_v (op_b (b := false) rfl (bne_eq_false_iff_eq.2 (by omega))) ?_
          first | refine rw_end ?_ | (refine rw_nil ?_; show CW _ _ _ _ _ _) | refine rw_nil ?_
          repeat refine cw_seq ?_
          refine cw_false rfl ?_
          repeat refine cw_seq ?_
          refine cw_skip ?_
          try show CW _ _ _ _ _ _
          repeat refine cw_seq ?_
          refine cw_draw (C := fun wq => Gr w20_ wq) [0, 1, 2, 3, 4, 5, 6, 7, 8, 9, 10, 11, 12, 13] [] (by kernel_rfl) (by kernel_rfl) (Gr.drew _) ?_
          simp only [pickL, List.drop_succ_cons, List.drop_zero]
          refine rq_v (op_pure rfl) ?_
          refine rq_r (fun wq hq => op_loadAB Try.underlying25 rfl (Try.sizeOf25 _) rfl ((S.gr hq).blk (i := 1) rfl) rfl rfl) ?_
          refine rq_v (op_pure rfl) ?_
          refine rq_v (op_pure rfl) ?_
          refine rq_v (op_rng rfl (by omega)) ?_
          refine rq_v (op_idx Try.underlying41 Try.sizeOf36 rfl rfl sa_r (by omega) (by omega)) ?_
          refine rq_r (fun wq hq => op_ldRA Try.underlying36 rfl (Try.sizeOf36 _) rfl ((S.gr hq).rd (i := 0) rfl) hatu rfl rfl) ?_
          refine rq_v (op_pure rfl) ?_
          refine rq_v (op_pure rfl) ?_
          refine rq_v (op_idx Try.underlying41 Try.sizeOf36 rfl rfl sa_r (by omega) (by omega)) ?_
          refine rq_r (fun wq hq => op_ldRA Try.underlying36 rfl (Try.sizeOf36 _) rfl ((S.gr hq).rd (i := 0) rfl) hatv rfl rfl) ?_
          refine rq_call rfl (fun wq hq => (rstepR_E u v (by omega) hul hvl hVg (by omega) hB (hA.gr (S.gr hq).out)).mono (fun _ _ ⟨hv, hg⟩ => ⟨hv, hq.trans hg⟩)) ?_
          refine rq_v (op_rng rfl (by omega)) ?_
          refine rq_v (op_pure rfl) ?_
          refine rq_nil ?_
          intro w21_ g21_
          have S := S.gr g21_
          first | refine rw_end ?_ | (refine rw_nil ?_; show CW _ _ _ _ _ _) | refine rw_nil ?_
          repeat refine cw_seq ?_
          refine cw_region ?_
          refine rw_v (op_pure rfl) ?_
          refine rw_v (op_rng rfl (by omega)) ?_
          refine rw_v (op_pure rfl) ?_
          first | refine rw_end ?_ | (refine rw_nil ?_; show CW _ _ _ _ _ _) | refine rw_nil ?_
          exact ⟨m - 1, by omega, k + 1, v, by omega, hv, ⟨rfl, rfl, rfl, rfl, rfl, rfl, ie (by omega), ie (by omega), trivial⟩, S⟩
        · try simp only [decide_eq_true_eq, decide_eq_false_iff_not, beq_iff_eq, bne_iff_ne, beq_eq_false_iff_ne, bne_eq_false_iff_eq, Bool.not_eq_true', Bool.not_eq_false', ne_eq, Decidable.not_not, Int.natCast_inj, Int.ofNat_lt, Int.ofNat_le, gt_iff_lt, ge_iff_le, Int.not_lt, Int.not_le] at hcl
          obtain rfl : k = rest.length := by omega
          obtain rfl : u = b := Option.some.inj (hu.symm.trans hr3)
          repeat refine cw_seq ?_
          refine cw_exit ?_
          repeat first | refine exit_then ?_ | refine exit_inb ?_
          show CW _ _ _ _ _ _
          repeat refine cw_seq ?_
          refine cw_region ?_
          refine rw_v (op_pure rfl) ?_
          refine rw_v (op_pure rfl) ?_
          refine rw_v (op_b (b := false) rfl (bne_eq_false_iff_eq.2 (by omega))) ?_
          first | refine rw_end ?_ | (refine rw_nil ?_; show CW _ _ _ _ _ _) | refine rw_nil ?_
          repeat refine cw_seq ?_
          refine cw_false rfl ?_
          repeat refine cw_seq ?_
          refine cw_skip ?_
          try show CW _ _ _ _ _ _
          repeat refine cw_seq ?_
          refine cw_region ?_
          refine rw_v (op_pure rfl) ?_
          first | refine rw_end ?_ | (refine rw_nil ?_; show CW _ _ _ _ _ _) | refine rw_nil ?_
          repeat refine cw_seq ?_
          refine cw_region ?_
          refine rw_v (op_fieldAddr Try.underlying36 rfl Try.sizeOf2 rfl rfl) ?_
          refine rw_r (op_loadB Try.underlying2 rfl rfl (S.blk (i := 2) rfl) rfl) ?_
          refine rw_v (op_fieldAddr Try.underlying36 rfl Try.sizeOf2 rfl rfl) ?_
          refine rw_r (op_loadB Try.underlying2 rfl rfl (S.blk (i := 3) rfl) rfl) ?_
          refine rw_v (op_build (pl := [(0, 1), (1, 1)]) Try.underlying36 Try.zeroValue36 (fun w => by kernel_rfl) rfl rfl) ?_
          refine rw_newB (op_alloc Try.zeroValue36 rfl) S ?_
          intro b_corner w23_ g23_ S
          refine rw_storeSA (i := 0) S rfl (Try.sizeOf36 _) rfl rfl rfl rfl rfl rfl ?_
          intro w24_ S
          first | refine rw_end ?_ | (refine rw_nil ?_; show CW _ _ _ _ _ _) | refine rw_nil ?_
          have ecz : ∀ i : Nat, cz gw i = (((i % gw : Nat) : Int), ((i / gw : Nat) : Int)) := fun _ => rfl
          have rr1 := fun w => rrow_E ((a % gw : Nat) : Int) ((a / gw : Nat) : Int) ((u % gw : Nat) : Int) ((a / gw : Nat) : Int) ⟨ca1.1, ca1.2, ca2.1, ca2.2⟩ ⟨cb1.1, cb1.2, ca2.1, ca2.2⟩ (.inl rfl) w
          have rr2 := fun w => rrow_E ((u % gw : Nat) : Int) ((a / gw : Nat) : Int) ((u % gw : Nat) : Int) ((u / gw : Nat) : Int) ⟨cb1.1, cb1.2, ca2.1, ca2.2⟩ ⟨cb1.1, cb1.2, cb2.1, cb2.2⟩ (.inr rfl) w
          rw [eP1, ← nP1] at rr1
          rw [eP2, ← nP2] at rr2
          repeat refine cw_seq ?_
          refine cw_tri (C := (fun σ wq => C2 No W [.blk b_corner 36 [.int .i64 (u % gw : Nat), .int .i64 (a / gw : Nat)], .row 36 2 A_r Lr.length c_r (cellsZ (Lr.map (cz gw))), .blk b_md 25 [.int .i64 gw, .int .i64 gh, .slice A V.length cap], .blk b_cb 36 [.int .i64 (u % gw : Nat), .int .i64 (u / gw : Nat)], .blk b_ca 36 [.int .i64 (a % gw : Nat), .int .i64 (a / gw : Nat)]] (fun v h => ∃ A c, v = .slice A P1.length c ∧ h = .row 36 2 A P1.length c (cellsZ (P1.map (cz gw)))) (fun v h => ∃ A c, v = .slice A P2.length c ∧ h = .row 36 2 A P2.length c (cellsZ (P2.map (cz gw)))) wq σ)) [2, 5] [0, 1, 3, 4, 2, 5] [6, 7] (by kernel_rfl) (by kernel_rfl) (S.gr (Gr.drew _)) ?_
          simp only [pickI, pickL, List.drop_succ_cons, List.drop_zero]
          refine rs_r rfl (fun τ wq hq => op_loadAB Try.underlying36 rfl (Try.sizeOf36 _) rfl (hq.st.blk (i := 4) rfl) rfl rfl) ?_
          refine rs_r rfl (fun τ wq hq => op_loadAB Try.underlying36 rfl (Try.sizeOf36 _) rfl (hq.st.blk (i := 0) rfl) rfl rfl) ?_
          refine rs_r rfl (fun τ wq hq => op_loadAB Try.underlying36 rfl (Try.sizeOf36 _) rfl (hq.st.blk (i := 0) rfl) rfl rfl) ?_
          refine rs_r rfl (fun τ wq hq => op_loadAB Try.underlying36 rfl (Try.sizeOf36 _) rfl (hq.st.blk (i := 3) rfl) rfl rfl) ?_
          refine rs_special rfl rfl (fun wq hq => to_call rfl ((rr1 wq).mono (fun v w' ⟨A', c', hv, hR, hF, g⟩ => ⟨_, ⟨A', c', hv, rfl⟩, (C2.st hq).pushRow hR hF g⟩))) ?_
          rintro v2 w2 ⟨_, ⟨A_f, c_f, rfl, _⟩, _⟩
          refine rs_special rfl rfl (fun wq hq => to_call rfl ((rr2 wq).mono (fun v w' ⟨A', c', hv, hR, hF, g⟩ => match hq with | ⟨h, t, S⟩ => ⟨h, _, t, ⟨A', c', hv, rfl⟩, S.pushRow hR hF g⟩))) ?_
          rintro v5 w5 ⟨_, _, _, ⟨A_s, c_s, rfl, _⟩, _⟩
          refine rs_nil ?_
          rintro w8 ⟨_, _, ⟨A_f0, c_f0, e_f, rfl⟩, ⟨A_s0, c_s0, e_s, rfl⟩, S⟩
          cases e_f
          cases e_s
          refine rw_v (op_pure rfl) ?_
          refine rw_v (op_pure rfl) ?_
          first | refine rw_end ?_ | (refine rw_nil ?_; show CW _ _ _ _ _ _) | refine rw_nil ?_
          repeat refine cw_seq ?_
          refine cw_region ?_
          refine rw_v (op_pure rfl) ?_
          first | refine rw_end ?_ | (refine rw_nil ?_; show CW _ _ _ _ _ _) | refine rw_nil ?_
          repeat refine cw_seq ?_
          refine cw_block ?_
          repeat refine cw_seq ?_
          have hstf := st_far hB
          unfold far at hstf
          refine cw_loop (fun m e w => ∃ (k x : Nat) (g : Int), k + 1 + m = P1.length ∧ P1[k]? = some x ∧ d a ≤ g + d x ∧ 0 ≤ g ∧ g ≤ k * 4294967297 ∧ SL e [(2, .slice A V.length cap), (13, .pointer (some ⟨b_md, 0, none⟩)), (16, .int .i64 (d a)), (32, .int .i64 g), (34, .slice A_f P1.length c_f), (35, .slice A_s P2.length c_s), (36, .int .i64 ((k + 1 : Nat) : Int))] ∧
            St No W w [.row 36 2 A_s P2.length c_s (cellsZ (P2.map (cz gw))), .row 36 2 A_f P1.length c_f (cellsZ (P1.map (cz gw))), .blk b_md 25 [.int .i64 gw, .int .i64 gh, .slice A V.length cap]]) (P1.length - 1)
            ⟨0, a, 0, by omega, hP1.first, by omega, by omega, by omega, ⟨rfl, rfl, rfl, rfl, rfl, rfl, rfl, trivial⟩, S.sub (.cons_cons _ (.cons_cons _ (.cons _ (.cons _ (.cons_cons _ (.cons _ (.cons _ .slnil)))))))⟩ ?_
          clear S
          rintro m e w ⟨k, x, g, hk, hx, hg, hg0, hgk, hsl, S⟩
          rw [hsl.fold]
          have hxl := hP1.lt x (List.mem_of_getElem? hx)
          repeat refine cw_seq ?_
          refine cw_region ?_
          refine rw_v (op_pure rfl) ?_
          refine rw_v (op_pure rfl) ?_
          refine rw_v (op_len Try.underlying41 rfl) ?_
          refine rw_v (op_pure rfl) ?_
          first | refine rw_end ?_ | (refine rw_nil ?_; show CW _ _ _ _ _ _) | refine rw_nil ?_
          repeat refine cw_seq ?_
          refine cw_cond rfl (fun hcl => ?_) (fun hcl => ?_)
          · try simp only [decide_eq_true_eq, decide_eq_false_iff_not, beq_iff_eq, bne_iff_ne, beq_eq_false_iff_ne, bne_eq_false_iff_eq, Bool.not_eq_true', Bool.not_eq_false', ne_eq, Decidable.not_not, Int.natCast_inj, Int.ofNat_lt, Int.ofNat_le, gt_iff_lt, ge_iff_le, Int.not_lt, Int.not_le] at hcl
            obtain ⟨y, hy⟩ : ∃ y, P1[k + 1]? = some y := ⟨_, List.getElem?_eq_getElem (by omega)⟩
            have hyl := hP1.lt y (List.mem_of_getElem? hy)
            have hle := hd.le y x (by omega) (by omega) (hP1.side k x y hx hy).symm
            rw [st_symm] at hle
            have hs1 := hstf x y
            have hs2 := st_pos V x y
            have hmu : (P1.map (cz gw))[k]? = some (cz gw x) := by rw [List.getElem?_map, hx]; rfl
            have hmv : (P1.map (cz gw))[k + 1]? = some (cz gw y) := by rw [List.getElem?_map, hy]; rfl
            have ek : (((k + 1 : Nat) : Int) - 1).toNat = k := by omega
            have hatu : ((cellsZ (P1.map (cz gw))).drop ((((k + 1 : Nat) : Int) - 1).toNat * 2)).take 2 = [.int .i64 (x % gw : Nat), .int .i64 (x / gw : Nat)] := by rw [ek]; exact cellsZ_at hmu
            have hatv : ((cellsZ (P1.map (cz gw))).drop (((k + 1 : Nat) : Int).toNat * 2)).take 2 = [.int .i64 (y % gw : Nat), .int .i64 (y / gw : Nat)] := by rw [Int.toNat_natCast]; exact cellsZ_at hmv
            have sa_f : SomeA A_f := (S.row (i := 1) rfl).someA (by omega)
            repeat refine cw_seq ?_
            refine cw_skip ?_
            try show CW _ _ _ _ _ _
            repeat refine cw_seq ?_
            refine cw_block ?_
            repeat refine cw_seq ?_
            refine cw_draw (C := fun wq => Gr w wq) [0, 1, 2, 3, 4, 5, 6, 7, 8, 9, 10, 11, 12, 13] [] (by kernel_rfl) (by kernel_rfl) (Gr.drew _) ?_
            simp only [pickL, List.drop_succ_cons, List.drop_zero]
            refine rq_v (op_pure rfl) ?_
            refine rq_r (fun wq hq => op_loadAB Try.underlying25 rfl (Try.sizeOf25 _) rfl ((S.gr hq).blk (i := 2) rfl) rfl rfl) ?_
            refine rq_v (op_pure rfl) ?_
            refine rq_v (op_pure rfl) ?_
            refine rq_v (op_rng rfl (by omega)) ?_
            refine rq_v (op_idx Try.underlying41 Try.sizeOf36 rfl rfl sa_f (by omega) (by omega)) ?_
            refine rq_r (fun wq hq => op_ldRA Try.underlying36 rfl (Try.sizeOf36 _) rfl ((S.gr hq).rd (i := 1) rfl) hatu rfl rfl) ?_
            refine rq_v (op_pure rfl) ?_
            refine rq_v (op_pure rfl) ?_
            refine rq_v (op_idx Try.underlying41 Try.sizeOf36 rfl rfl sa_f (by omega) (by omega)) ?_
            refine rq_r (fun wq hq => op_ldRA Try.underlying36 rfl (Try.sizeOf36 _) rfl ((S.gr hq).rd (i := 1) rfl) hatv rfl rfl) ?_
            refine rq_call rfl (fun wq hq => (rstepR_E x y (by omega) hxl hyl hVg (by omega) hB (hA.gr (S.gr hq).out)).mono (fun _ _ ⟨hv, hg⟩ => ⟨hv, hq.trans hg⟩)) ?_
            refine rq_v (op_rng rfl (by omega)) ?_
            refine rq_v (op_pure rfl) ?_
            refine rq_nil ?_
            intro w26_ g26_
            have S := S.gr g26_
            first | refine rw_end ?_ | (refine rw_nil ?_; show CW _ _ _ _ _ _) | refine rw_nil ?_
            repeat refine cw_seq ?_
            refine cw_region ?_
            refine rw_v (op_pure rfl) ?_
            refine rw_v (op_rng rfl (by omega)) ?_
            refine rw_v (op_pure rfl) ?_
            first | refine rw_end ?_ | (refine rw_nil ?_; show CW _ _ _ _ _ _) | refine rw_nil ?_
            exact ⟨m - 1, by omega, k + 1, y, g + st V x y, by omega, hy, by omega, by omega, by push_cast; omega, ⟨rfl, rfl, rfl, rfl, rfl, rfl, ie (by omega), trivial⟩, S⟩
          · try simp only [decide_eq_true_eq, decide_eq_false_iff_not, beq_iff_eq, bne_iff_ne, beq_eq_false_iff_ne, bne_eq_false_iff_eq, Bool.not_eq_true', Bool.not_eq_false', ne_eq, Decidable.not_not, Int.natCast_inj, Int.ofNat_lt, Int.ofNat_le, gt_iff_lt, ge_iff_le, Int.not_lt, Int.not_le] at hcl
            have hx1 := hP1.last
            rw [show P1.length - 1 = k by omega] at hx1
            obtain rfl : x = q := Option.some.inj (hx.symm.trans hx1)
            repeat refine cw_seq ?_
            refine cw_exit ?_
            repeat first | refine exit_then ?_ | refine exit_inb ?_
            show CW _ _ _ _ _ _
            repeat refine cw_seq ?_
            refine cw_region ?_
            refine rw_v (op_pure rfl) ?_
            first | refine rw_end ?_ | (refine rw_nil ?_; show CW _ _ _ _ _ _) | refine rw_nil ?_
            repeat refine cw_seq ?_
            refine cw_block ?_
            repeat refine cw_seq ?_
            refine cw_loop (fun m e w => ∃ (k y : Nat) (g : Int), k + 1 + m = P2.length ∧ P2[k]? = some y ∧ d a ≤ g + d y ∧ 0 ≤ g ∧ g ≤ (1024 + k) * 4294967297 ∧ SL e [(2, .slice A V.length cap), (13, .pointer (some ⟨b_md, 0, none⟩)), (16, .int .i64 (d a)), (32, .int .i64 g), (35, .slice A_s P2.length c_s), (37, .int .i64 ((k + 1 : Nat) : Int))] ∧
              St No W w [.row 36 2 A_s P2.length c_s (cellsZ (P2.map (cz gw))), .blk b_md 25 [.int .i64 gw, .int .i64 gh, .slice A V.length cap]]) (P2.length - 1)
              ⟨0, x, g, by omega, hP2.first, hg, hg0, by omega, ⟨rfl, rfl, rfl, rfl, rfl, rfl, trivial⟩, S.sub (.cons_cons _ (.cons _ (.cons_cons _ .slnil)))⟩ ?_
            clear S
            rintro m e w ⟨k2, x2, g2, hk2, hx2, hg2, hg20, hgk2, hsl, S⟩
            rw [hsl.fold]
            have hxl2 := hP2.lt x2 (List.mem_of_getElem? hx2)
            repeat refine cw_seq ?_
            refine cw_region ?_
            refine rw_v (op_pure rfl) ?_
            refine rw_v (op_pure rfl) ?_
            refine rw_v (op_len Try.underlying41 rfl) ?_
            refine rw_v (op_pure rfl) ?_
            first | refine rw_end ?_ | (refine rw_nil ?_; show CW _ _ _ _ _ _) | refine rw_nil ?_
            repeat refine cw_seq ?_
            refine cw_cond rfl (fun hcl2 => ?_) (fun hcl2 => ?_)
            · try simp only [decide_eq_true_eq, decide_eq_false_iff_not, beq_iff_eq, bne_iff_ne, beq_eq_false_iff_ne, bne_eq_false_iff_eq, Bool.not_eq_true', Bool.not_eq_false', ne_eq, Decidable.not_not, Int.natCast_inj, Int.ofNat_lt, Int.ofNat_le, gt_iff_lt, ge_iff_le, Int.not_lt, Int.not_le] at hcl2
              obtain ⟨y, hy⟩ : ∃ y, P2[k2 + 1]? = some y := ⟨_, List.getElem?_eq_getElem (by omega)⟩
              have hyl := hP2.lt y (List.mem_of_getElem? hy)
              have hle := hd.le y x2 (by omega) (by omega) (hP2.side k2 x2 y hx2 hy).symm
              rw [st_symm] at hle
              have hs1 := hstf x2 y
              have hs2 := st_pos V x2 y
              have hmu : (P2.map (cz gw))[k2]? = some (cz gw x2) := by rw [List.getElem?_map, hx2]; rfl
              have hmv : (P2.map (cz gw))[k2 + 1]? = some (cz gw y) := by rw [List.getElem?_map, hy]; rfl
              have ek : (((k2 + 1 : Nat) : Int) - 1).toNat = k2 := by omega
              have hatu : ((cellsZ (P2.map (cz gw))).drop ((((k2 + 1 : Nat) : Int) - 1).toNat * 2)).take 2 = [.int .i64 (x2 % gw : Nat), .int .i64 (x2 / gw : Nat)] := by rw [ek]; exact cellsZ_at hmu
              have hatv : ((cellsZ (P2.map (cz gw))).drop (((k2 + 1 : Nat) : Int).toNat * 2)).take 2 = [.int .i64 (y % gw : Nat), .int .i64 (y / gw : Nat)] := by rw [Int.toNat_natCast]; exact cellsZ_at hmv
              have sa_s : SomeA A_s := (S.row (i := 0) rfl).someA (by omega)
              repeat refine cw_seq ?_
              refine cw_skip ?_
              try show CW _ _ _ _ _ _
              repeat refine cw_seq ?_
              refine cw_block ?_
              repeat refine cw_seq ?_
              refine cw_draw (C := fun wq => Gr w wq) [0, 1, 2, 3, 4, 5, 6, 7, 8, 9, 10, 11, 12, 13] [] (by kernel_rfl) (by kernel_rfl) (Gr.drew _) ?_
              simp only [pickL, List.drop_succ_cons, List.drop_zero]
              refine rq_v (op_pure rfl) ?_
              refine rq_r (fun wq hq => op_loadAB Try.underlying25 rfl (Try.sizeOf25 _) rfl ((S.gr hq).blk (i := 1) rfl) rfl rfl) ?_
              refine rq_v (op_pure rfl) ?_
              refine rq_v (op_pure rfl) ?_
              refine rq_v (op_rng rfl (by omega)) ?_
              refine rq_v (op_idx Try.underlying41 Try.sizeOf36 rfl rfl sa_s (by omega) (by omega)) ?_
              refine rq_r (fun wq hq => op_ldRA Try.underlying36 rfl (Try.sizeOf36 _) rfl ((S.gr hq).rd (i := 0) rfl) hatu rfl rfl) ?_
              refine rq_v (op_pure rfl) ?_
              refine rq_v (op_pure rfl) ?_
              refine rq_v (op_idx Try.underlying41 Try.sizeOf36 rfl rfl sa_s (by omega) (by omega)) ?_
              refine rq_r (fun wq hq => op_ldRA Try.underlying36 rfl (Try.sizeOf36 _) rfl ((S.gr hq).rd (i := 0) rfl) hatv rfl rfl) ?_
              refine rq_call rfl (fun wq hq => (rstepR_E x2 y (by omega) hxl2 hyl hVg (by omega) hB (hA.gr (S.gr hq).out)).mono (fun _ _ ⟨hv, hg⟩ => ⟨hv, hq.trans hg⟩)) ?_
              refine rq_v (op_rng rfl (by omega)) ?_
              refine rq_v (op_pure rfl) ?_
              refine rq_nil ?_
              intro w27_ g27_
              have S := S.gr g27_
              first | refine rw_end ?_ | (refine rw_nil ?_; show CW _ _ _ _ _ _) | refine rw_nil ?_
              repeat refine cw_seq ?_
              refine cw_region ?_
              refine rw_v (op_pure rfl) ?_
              refine rw_v (op_rng rfl (by omega)) ?_
              refine rw_v (op_pure rfl) ?_
              first | refine rw_end ?_ | (refine rw_nil ?_; show CW _ _ _ _ _ _) | refine rw_nil ?_
              exact ⟨m - 1, by omega, k2 + 1, y, g2 + st V x2 y, by omega, hy, by omega, by omega, by push_cast; omega, ⟨rfl, rfl, rfl, rfl, rfl, ie (by omega), trivial⟩, S⟩
            · try simp only [decide_eq_true_eq, decide_eq_false_iff_not, beq_iff_eq, bne_iff_ne, beq_eq_false_iff_ne, bne_eq_false_iff_eq, Bool.not_eq_true', Bool.not_eq_false', ne_eq, Decidable.not_not, Int.natCast_inj, Int.ofNat_lt, Int.ofNat_le, gt_iff_lt, ge_iff_le, Int.not_lt, Int.not_le] at hcl2
              have hx3 := hP2.last
              rw [show P2.length - 1 = k2 by omega] at hx3
              have hxu : x2 = u := Option.some.inj (hx2.symm.trans hx3)
              rw [hxu, hb0] at hg2
              repeat refine cw_seq ?_
              refine cw_exit ?_
              repeat first | refine exit_then ?_ | refine exit_inb ?_
              show CW _ _ _ _ _ _
              repeat refine cw_seq ?_
              refine cw_region ?_
              refine rw_v (op_pure rfl) ?_
              refine rw_v (op_pure rfl) ?_
              first | refine rw_v (op_b (b := true) rfl (decide_eq_true (by omega))) ?_ | refine rw_v (op_b (b := false) rfl (decide_eq_false (by omega))) ?_ | refine rw_v (op_pure rfl) ?_
              refine rw_v (op_pure rfl) ?_
              first | refine rw_end ?_ | (refine rw_nil ?_; show CW _ _ _ _ _ _) | refine rw_nil ?_
              repeat refine cw_seq ?_
              refine cw_ret ?_
              repeat first | refine ret_then ?_ | refine ret_inb ?_
              exact res1 rfl ⟨rfl, S.out⟩
    · have hno : inG gw gh (px, py) = false ∨ inG gw gh (qx, qy) = false := by
        cases h1 : inG gw gh (px, py) with
        | false => exact .inl rfl
        | true => cases h2 : inG gw gh (qx, qy) with
          | false => exact .inr rfl
          | true => exact absurd ⟨h1, h2⟩ hpq
      have G := Gr.refl W
      have S := St.start W
      refine Fn_enter Try.func6 rfl Try.results6 Try.ntmps6 (by kernel_rfl) (by kernel_rfl) ?_
      repeat refine cw_seq ?_
      refine cw_region ?_
      refine rw_newB (op_box rfl) S ?_
      intro b_ca w2_ g2_ S
      refine rw_newB (op_box rfl) S ?_
      intro b_cb w4_ g4_ S
      refine rw_newB (op_box rfl) S ?_
      intro b_cc w6_ g6_ S
      refine rw_v (op_pure rfl) ?_
      first | refine rw_end ?_ | (refine rw_nil ?_; show CW _ _ _ _ _ _) | refine rw_nil ?_
      repeat refine cw_seq ?_
      refine cw_region ?_
      refine rw_call rfl (awake32_E w6_) ?_
      rintro _ w7_ ⟨rfl, g7_⟩
      have S := S.gr g7_
      refine rw_v (op_pure rfl) ?_
      first | refine rw_end ?_ | (refine rw_nil ?_; show CW _ _ _ _ _ _) | refine rw_nil ?_
      repeat refine cw_seq ?_
      refine cw_false rfl ?_
      repeat refine cw_seq ?_
      refine cw_skip ?_
      try show CW _ _ _ _ _ _
      repeat refine cw_seq ?_
      refine cw_region ?_
      refine rw_v (op_pure rfl) ?_
      refine rw_v (op_pure rfl) ?_
      refine rw_v (op_pure rfl) ?_
      refine rw_call rfl (land_E gw gh 400 cap (by omega) hok (hA.gr S.out)) ?_
      rintro _ w8_ ⟨rfl, g8_⟩
      have S := S.gr g8_
      refine rw_v (op_pure rfl) ?_
      refine rw_v (op_pure rfl) ?_
      refine rw_v (op_pure rfl) ?_
      refine rw_newB (op_alloc Try.zeroValue25 rfl) S ?_
      intro b_md w10_ g10_ S
      refine rw_storeSA (i := 0) S rfl (Try.sizeOf25 _) rfl rfl rfl rfl rfl rfl ?_
      intro w11_ S
      refine rw_v (op_pure rfl) ?_
      first | refine rw_end ?_ | (refine rw_nil ?_; show CW _ _ _ _ _ _) | refine rw_nil ?_
      repeat refine cw_seq ?_
      refine cw_region ?_
      refine rw_v (op_pure rfl) ?_
      refine rw_v (op_pure rfl) ?_
      refine rw_v (op_pure rfl) ?_
      first | refine rw_off rfl ?_ | (refine rw_on rfl ?_; refine rw_r (op_loadAB Try.underlying25 rfl (Try.sizeOf25 _) rfl (S.blk (i := 0) rfl) rfl rfl) ?_)
      first | refine rw_off rfl ?_ | (refine rw_on rfl ?_; refine rw_r (op_loadAB Try.underlying36 rfl (Try.sizeOf36 _) rfl (S.blk (i := 3) rfl) rfl rfl) ?_)
      first | refine rw_off rfl ?_ | (refine rw_on rfl ?_; refine rw_r (op_loadAB Try.underlying36 rfl (Try.sizeOf36 _) rfl (S.blk (i := 2) rfl) rfl rfl) ?_)
      refine rw_on rfl ?_
      refine rw_call rfl (mayNo_E _ _ _ _ hno hVg (by omega) (hA.gr S.out)) ?_
      rintro _ w12_ ⟨rfl, g12_⟩
      have S := S.gr g12_
      first | refine rw_off rfl ?_ | (refine rw_on rfl ?_; (first | refine rw_v (op_b (b := true) rfl (bne_iff_ne.2 (by omega))) ?_ | refine rw_v (op_b (b := false) rfl (bne_eq_false_iff_eq.2 (by omega))) ?_ | refine rw_v (op_pure rfl) ?_))
      refine rw_v (op_pure rfl) ?_
      refine rw_v (op_pure rfl) ?_
      first | refine rw_off rfl ?_ | (refine rw_on rfl ?_; refine rw_r (op_loadAB Try.underlying25 rfl (Try.sizeOf25 _) rfl (S.blk (i := 0) rfl) rfl rfl) ?_)
      first | refine rw_off rfl ?_ | (refine rw_on rfl ?_; refine rw_r (op_loadAB Try.underlying36 rfl (Try.sizeOf36 _) rfl (S.blk (i := 1) rfl) rfl rfl) ?_)
      first | refine rw_off rfl ?_ | (refine rw_on rfl ?_; refine rw_r (op_loadAB Try.underlying36 rfl (Try.sizeOf36 _) rfl (S.blk (i := 1) rfl) rfl rfl) ?_)
      refine rw_off rfl ?_
      first | refine rw_off rfl ?_ | (refine rw_on rfl ?_; (first | refine rw_v (op_b (b := true) rfl (bne_iff_ne.2 (by omega))) ?_ | refine rw_v (op_b (b := false) rfl (bne_eq_false_iff_eq.2 (by omega))) ?_ | refine rw_v (op_pure rfl) ?_))
      refine rw_v (op_pure rfl) ?_
      first | refine rw_end ?_ | (refine rw_nil ?_; show CW _ _ _ _ _ _) | refine rw_nil ?_
      repeat refine cw_seq ?_
      refine cw_true rfl ?_
      repeat refine cw_seq ?_
      refine cw_region ?_
      refine rw_v (op_pure rfl) ?_
      first | refine rw_end ?_ | (refine rw_nil ?_; show CW _ _ _ _ _ _) | refine rw_nil ?_
      repeat refine cw_seq ?_
      refine cw_ret ?_
      repeat first | refine ret_then ?_ | refine ret_inb ?_
      exact res1 rfl ⟨rfl, S.out⟩
  · skip
    have G := Gr.refl W
    have S := St.start W
    refine Fn_enter Try.func6 rfl Try.results6 Try.ntmps6 (by kernel_rfl) (by kernel_rfl) ?_
    repeat refine cw_seq ?_
    refine cw_region ?_
    refine rw_newB (op_box rfl) S ?_
    intro b_ca w2_ g2_ S
    refine rw_newB (op_box rfl) S ?_
    intro b_cb w4_ g4_ S
    refine rw_newB (op_box rfl) S ?_
    intro b_cc w6_ g6_ S
    refine rw_v (op_pure rfl) ?_
    first | refine rw_end ?_ | (refine rw_nil ?_; show CW _ _ _ _ _ _) | refine rw_nil ?_
    repeat refine cw_seq ?_
    refine cw_region ?_
    refine rw_call rfl (awake32_E w6_) ?_
    rintro _ w7_ ⟨rfl, g7_⟩
    have S := S.gr g7_
    refine rw_v (op_pure rfl) ?_
    first | refine rw_end ?_ | (refine rw_nil ?_; show CW _ _ _ _ _ _) | refine rw_nil ?_
    repeat refine cw_seq ?_
    refine cw_false rfl ?_
    repeat refine cw_seq ?_
    refine cw_skip ?_
    try show CW _ _ _ _ _ _
    repeat refine cw_seq ?_
    refine cw_region ?_
    refine rw_v (op_pure rfl) ?_
    refine rw_v (op_pure rfl) ?_
    refine rw_v (op_pure rfl) ?_
    refine rw_call rfl (landNo_E w h 400 cap (by omega) hl hok (hA.gr S.out)) ?_
    rintro _ w8_ ⟨rfl, g8_⟩
    have S := S.gr g8_
    refine rw_v (op_pure rfl) ?_
    refine rw_v (op_pure rfl) ?_
    refine rw_v (op_pure rfl) ?_
    refine rw_newB (op_alloc Try.zeroValue25 rfl) S ?_
    intro b_b9 w10_ g10_ S
    refine rw_storeSA (i := 0) S rfl (Try.sizeOf25 _) rfl rfl rfl rfl rfl rfl ?_
    intro w11_ S
    refine rw_v (op_pure rfl) ?_
    first | refine rw_end ?_ | (refine rw_nil ?_; show CW _ _ _ _ _ _) | refine rw_nil ?_
    repeat refine cw_seq ?_
    refine cw_region ?_
    refine rw_v (op_pure rfl) ?_
    refine rw_v (op_pure rfl) ?_
    refine rw_v (op_pure rfl) ?_
    first | refine rw_off rfl ?_ | (refine rw_on rfl ?_; refine rw_r (op_loadAB Try.underlying25 rfl (Try.sizeOf25 _) rfl (S.blk (i := 0) rfl) rfl rfl) ?_)
    first | refine rw_off rfl ?_ | (refine rw_on rfl ?_; refine rw_r (op_loadAB Try.underlying36 rfl (Try.sizeOf36 _) rfl (S.blk (i := 3) rfl) rfl rfl) ?_)
    first | refine rw_off rfl ?_ | (refine rw_on rfl ?_; refine rw_r (op_loadAB Try.underlying36 rfl (Try.sizeOf36 _) rfl (S.blk (i := 2) rfl) rfl rfl) ?_)
    refine rw_off rfl ?_
    first | refine rw_off rfl ?_ | (refine rw_on rfl ?_; (first | refine rw_v (op_b (b := true) rfl (bne_iff_ne.2 (by omega))) ?_ | refine rw_v (op_b (b := false) rfl (bne_eq_false_iff_eq.2 (by omega))) ?_ | refine rw_v (op_pure rfl) ?_))
    refine rw_v (op_pure rfl) ?_
    refine rw_v (op_pure rfl) ?_
    first | refine rw_off rfl ?_ | (refine rw_on rfl ?_; refine rw_r (op_loadAB Try.underlying25 rfl (Try.sizeOf25 _) rfl (S.blk (i := 0) rfl) rfl rfl) ?_)
    first | refine rw_off rfl ?_ | (refine rw_on rfl ?_; refine rw_r (op_loadAB Try.underlying36 rfl (Try.sizeOf36 _) rfl (S.blk (i := 1) rfl) rfl rfl) ?_)
    first | refine rw_off rfl ?_ | (refine rw_on rfl ?_; refine rw_r (op_loadAB Try.underlying36 rfl (Try.sizeOf36 _) rfl (S.blk (i := 1) rfl) rfl rfl) ?_)
    refine rw_off rfl ?_
    first | refine rw_off rfl ?_ | (refine rw_on rfl ?_; (first | refine rw_v (op_b (b := true) rfl (bne_iff_ne.2 (by omega))) ?_ | refine rw_v (op_b (b := false) rfl (bne_eq_false_iff_eq.2 (by omega))) ?_ | refine rw_v (op_pure rfl) ?_))
    refine rw_v (op_pure rfl) ?_
    first | refine rw_end ?_ | (refine rw_nil ?_; show CW _ _ _ _ _ _) | refine rw_nil ?_
    repeat refine cw_seq ?_
    refine cw_true rfl ?_
    repeat refine cw_seq ?_
    refine cw_region ?_
    refine rw_v (op_pure rfl) ?_
    first | refine rw_end ?_ | (refine rw_nil ?_; show CW _ _ _ _ _ _) | refine rw_nil ?_
    repeat refine cw_seq ?_
    refine cw_ret ?_
    repeat first | refine ret_then ?_ | refine ret_inb ?_
    exact res1 rfl ⟨rfl, S.out⟩
end
end Go.Proofs.Ytmdkjohllinphaa
