/- Package route: a land's cells, neighbours, steps. -/
import Derived.Test.YtmdkjohllinphaaDist
import Derived.Test.YtmdkjohllinphaaQueue
namespace Go.Proofs.Ytmdkjohllinphaa
open Go.RowKit
set_option linter.unusedVariables false
set_option linter.unusedSimpArgs false
set_option maxRecDepth 100000

/-! ### Rows of numbers -/
def natsV (l : List Nat) : List Value := l.map fun (j : Nat) => Value.int .i64 (j : Int)
theorem natsV_len (l : List Nat) : (natsV l).length = l.length := by simp [natsV]
theorem natsV_app (l m : List Nat) : natsV l ++ natsV m = natsV (l ++ m) := by simp [natsV]
theorem natsV_get {l : List Nat} {i j : Nat} (h : l[i]? = some j) : (natsV l)[(i : Int).toNat * 1]? = some (.int .i64 (j : Int)) := by
  rw [Nat.mul_one, Int.toNat_natCast, natsV, List.getElem?_map, h]; rfl
def cellsQ (n : Nat) (o : Nat → Int) : List Value := (List.range n).map fun i => .int .i64 (o i)
theorem cellsQ_len (n : Nat) (o : Nat → Int) : (cellsQ n o).length = n := by simp [cellsQ]
theorem cellsQ_get {n i : Nat} {o : Nat → Int} (h : i < n) : (cellsQ n o)[(i : Int).toNat * 1]? = some (.int .i64 (o i)) := by
  rw [Nat.mul_one, Int.toNat_natCast, cellsQ, List.getElem?_map, List.getElem?_range h]; rfl
theorem cellsQ_ints (n : Nat) (o : Nat → Int) : cellsQ n o = ints ((List.range n).map o) := by simp [cellsQ, ints]
theorem cellsQ_congr {n : Nat} {o o' : Nat → Int} (h : ∀ i, i < n → o i = o' i) : cellsQ n o = cellsQ n o' := by
  unfold cellsQ
  refine List.map_congr_left fun i hi => ?_
  rw [h i (List.mem_range.1 hi)]
theorem cellsQ_set {n k : Nat} {o : Nat → Int} {v : Int} : (cellsQ n o).set ((k : Int).toNat * 1) (.int .i64 v) = cellsQ n (updI o k v) := by
  rw [Nat.mul_one, Int.toNat_natCast]
  apply List.ext_getElem?
  intro i
  rw [List.getElem?_set]
  unfold cellsQ updI
  by_cases e : k = i
  · subst e
    rw [if_pos rfl]
    simp only [List.length_map, List.length_range]
    split
    · rename_i h; rw [List.getElem?_map, List.getElem?_range h]; simp
    · rename_i h; rw [List.getElem?_eq_none (by simp; omega)]
  · rw [if_neg e, List.getElem?_map, List.getElem?_map]
    by_cases h : i < n
    · rw [List.getElem?_range h, Option.map_some, Option.map_some, if_neg (fun h => e h.symm)]
    · rw [List.getElem?_eq_none (by simp; omega)]; rfl
theorem cellsQ_zero (n : Nat) : List.replicate n (Value.int .i64 0) = cellsQ n (fun _ => 0) := by
  unfold cellsQ
  rw [List.map_const', List.length_range]

section
variable {W : World} {A : Option Addr} {gw c : Nat} {V : List Int}
theorem rat_E (i : Nat) (n : Nat) (hgw : 1 ≤ gw) (hi : i ≤ 1048576) : Fn Try.prog 71 [.agg #[.int .i64 gw, .slice A n c], .int .i64 i] W (RetG (.agg #[.int .i64 (i % gw : Nat), .int .i64 (i / gw : Nat)]) W) := by
  have e1 : (i : Int) % gw = ((i % gw : Nat) : Int) := by push_cast; rfl
  have e2 : (i : Int) / gw = ((i / gw : Nat) : Int) := by push_cast; rfl
  have S := St.start W
  refine Fn_enter Try.func71 rfl Try.results71 Try.ntmps71 (by kernel_rfl) (by kernel_rfl) ?_
  repeat refine cw_seq ?_
  refine cw_region ?_
  refine rw_newB (op_box rfl) S ?_
  intro b_b1 w2_ g2_ S
  refine rw_newB (op_alloc Try.zeroValue36 rfl) S ?_
  intro b_b3 w4_ g4_ S
  first | refine rw_end ?_ | (refine rw_nil ?_; show CW _ _ _ _ _ _) | refine rw_nil ?_
  repeat refine cw_seq ?_
  refine cw_draw (C := fun wq => Gr w4_ wq) [0, 1, 2, 3, 4, 5, 6, 7] [8, 9] (by kernel_rfl) (by kernel_rfl) (Gr.drew _) ?_
  simp only [pickL, List.drop_succ_cons, List.drop_zero]
  refine rq_v (op_pure rfl) ?_
  refine rq_v (op_fieldAddr Try.underlying120 rfl Try.sizeOf3 rfl rfl) ?_
  refine rq_r (fun wq hq => op_loadB Try.underlying3 rfl rfl ((S.gr hq).blk (i := 1) rfl) rfl) ?_
  refine rq_v (op_rem rfl rfl (by omega) (by omega)) ?_
  rw [e1]
  refine rq_v (op_pure rfl) ?_
  refine rq_v (op_fieldAddr Try.underlying120 rfl Try.sizeOf3 rfl rfl) ?_
  refine rq_r (fun wq hq => op_loadB Try.underlying3 rfl rfl ((S.gr hq).blk (i := 1) rfl) rfl) ?_
  refine rq_v (op_div rfl rfl (by omega) (by omega)) ?_
  rw [e2]
  refine rq_nil ?_
  intro w5_ g5_
  have S := S.gr g5_
  refine rw_v (op_build (pl := [(0, 1), (1, 1)]) Try.underlying36 Try.zeroValue36 (fun w => by kernel_rfl) rfl rfl) ?_
  refine rw_storeSA (i := 0) S rfl (Try.sizeOf36 _) rfl rfl rfl rfl rfl rfl ?_
  intro w6_ S
  first | refine rw_end ?_ | (refine rw_nil ?_; show CW _ _ _ _ _ _) | refine rw_nil ?_
  repeat refine cw_seq ?_
  refine cw_ret ?_
  repeat first | refine ret_then ?_ | refine ret_inb ?_
  exact resA Try.underlying36 rfl (Try.sizeOf36 _) rfl (S.blk (i := 0) rfl) rfl rfl ⟨rfl, S.out⟩
def vB (V : List Int) : Prop := ∀ i, -2147483648 ≤ V.getD i 0 ∧ V.getD i 0 ≤ 2147483647
theorem st_far (hb : vB V) (i j : Nat) : st V i j ≤ far := by have := hb i; have := hb j; unfold st far; omega
theorem IsDist.bound {a : Nat} {d : Nat → Int} (h : IsDist gw V a d) (hb : vB V) : ∀ j, j < V.length → d j ≤ rank V.length d j * far := by
  have key : ∀ (k : Nat) (j : Nat), j < V.length → rank V.length d j < k → d j ≤ rank V.length d j * far := by
    intro k
    induction k with
    | zero => intro j _ h; omega
    | succ k ih =>
      intro j hj hk
      by_cases e : j = a
      · subst e; rw [h.zero]; unfold far; omega
      · obtain ⟨i, hi, _, he⟩ := h.pred j hj e
        have h1 := st_pos V i j
        have h2 := st_far hb i j
        have h3 := rank_lt (n := V.length) (d := d) (i := i) (j := j) hi (by omega)
        have h4 := ih i hi (by omega)
        unfold far at *
        omega
  exact fun j hj => key (rank V.length d j + 1) j hj (by omega)
theorem rstep_E (a b : Nat) (ha : a < V.length) (hb : b < V.length) (hB : vB V) (hA : Rd W A (ints V)) : Fn Try.prog 70 [.agg #[.int .i64 gw, .slice A V.length c], .int .i64 a, .int .i64 b] W (RetG (.int .i64 (st V a b)) W) := by
  have sa_A : SomeA A := hA.someA (by rw [ints_len]; omega)
  have g1 : (ints V)[(a : Int).toNat * 1]? = some (.int .i64 (V.getD a 0)) := by rw [Nat.mul_one, Int.toNat_natCast]; exact ints_get (getD_at ha)
  have g2 : (ints V)[(b : Int).toNat * 1]? = some (.int .i64 (V.getD b 0)) := by rw [Nat.mul_one, Int.toNat_natCast]; exact ints_get (getD_at hb)
  have b1 := hB a
  have b2 := hB b
  have S := St.start W
  refine Fn_enter Try.func70 rfl Try.results70 Try.ntmps70 (by kernel_rfl) (by kernel_rfl) ?_
  repeat refine cw_seq ?_
  refine cw_region ?_
  refine rw_newB (op_box rfl) S ?_
  intro b_b1 w2_ g2_ S
  refine rw_v (op_pure rfl) ?_
  first | refine rw_end ?_ | (refine rw_nil ?_; show CW _ _ _ _ _ _) | refine rw_nil ?_
  repeat refine cw_seq ?_
  refine cw_draw (C := fun wq => Gr w2_ wq) [0, 1, 2, 3, 4, 5, 6, 7, 8, 9, 10, 11] [] (by kernel_rfl) (by kernel_rfl) (Gr.drew _) ?_
  simp only [pickL, List.drop_succ_cons, List.drop_zero]
  refine rq_v (op_fieldAddr Try.underlying120 rfl Try.sizeOf22 rfl rfl) ?_
  refine rq_r (fun wq hq => op_loadB Try.underlying22 rfl rfl ((S.gr hq).blk (i := 0) rfl) rfl) ?_
  refine rq_v (op_pure rfl) ?_
  refine rq_v (op_idx Try.underlying22 Try.sizeOf2 rfl rfl sa_A (by omega) (by omega)) ?_
  refine rq_r (fun wq hq => op_ldR Try.underlying2 rfl rfl (hA.gr (S.gr hq).out) g1) ?_
  refine rq_v (op_fieldAddr Try.underlying120 rfl Try.sizeOf22 rfl rfl) ?_
  refine rq_r (fun wq hq => op_loadB Try.underlying22 rfl rfl ((S.gr hq).blk (i := 0) rfl) rfl) ?_
  refine rq_v (op_pure rfl) ?_
  refine rq_v (op_idx Try.underlying22 Try.sizeOf2 rfl rfl sa_A (by omega) (by omega)) ?_
  refine rq_r (fun wq hq => op_ldR Try.underlying2 rfl rfl (hA.gr (S.gr hq).out) g2) ?_
  refine rq_v (op_rng rfl (by omega)) ?_
  refine rq_v (op_pure rfl) ?_
  refine rq_nil ?_
  intro w3_ g3_
  have S := S.gr g3_
  first | refine rw_end ?_ | (refine rw_nil ?_; show CW _ _ _ _ _ _) | refine rw_nil ?_
  repeat refine cw_seq ?_
  refine cw_region ?_
  refine rw_v (op_pure rfl) ?_
  refine rw_v (op_pure rfl) ?_
  refine rw_v (op_rng rfl (by omega)) ?_
  refine rw_v (op_pure rfl) ?_
  refine rw_v (op_rng rfl (by omega)) ?_
  refine rw_v (op_pure rfl) ?_
  first | refine rw_end ?_ | (refine rw_nil ?_; show CW _ _ _ _ _ _) | refine rw_nil ?_
  repeat refine cw_seq ?_
  refine cw_ret ?_
  repeat first | refine ret_then ?_ | refine ret_inb ?_
  exact res1 rfl ⟨ie (by unfold st; omega), S.out⟩
set_option maxHeartbeats 1000000 in
theorem rnear32_E (i n : Nat) (hgw : 1 ≤ gw ∧ gw ≤ 1048576) (hi : i < n) (hn : n ≤ 1048576) : Fn Try.prog 69 [.agg #[.int .i64 gw, .slice A n c], .int .i64 i] W (RetNew id 3 1 (nearN gw n i).length (natsV (nearN gw n i)) W) := by
  have em : (i : Int) % gw = ((i % gw : Nat) : Int) := by push_cast; rfl
  have hmod := Nat.mod_lt i hgw.1
  have hpos : 0 < i % gw → 1 ≤ i := fun h => by rcases Nat.eq_zero_or_pos i with h1 | h1; · subst h1; simp at h
                                                · exact h1
  unfold nearN
  generalize i % gw = m at *
  have S := St.start W
  refine Fn_enter Try.func69 rfl Try.results69 Try.ntmps69 (by kernel_rfl) (by kernel_rfl) ?_
  repeat refine cw_seq ?_
  refine cw_region ?_
  refine rw_newB (op_box rfl) S ?_
  intro b_lw w2_ g2_ S
  refine rw_v (op_pure rfl) ?_
  first | refine rw_end ?_ | (refine rw_nil ?_; show CW _ _ _ _ _ _) | refine rw_nil ?_
  repeat refine cw_seq ?_
  refine cw_region ?_
  refine rw_makeS1 Try.underlying102 info_t3 rfl rfl rfl (n := 0) (c := 4) (by omega) (by omega) (by omega) (by omega) S ?_
  intro A_out w4_ g4_ S sa_out
  refine rw_v (op_pure rfl) ?_
  first | refine rw_end ?_ | (refine rw_nil ?_; show CW _ _ _ _ _ _) | refine rw_nil ?_
  repeat refine cw_seq ?_
  refine cw_region ?_
  refine rw_v (op_pure rfl) ?_
  refine rw_v (op_fieldAddr Try.underlying120 rfl Try.sizeOf3 rfl rfl) ?_
  refine rw_r (op_loadB Try.underlying3 rfl rfl (S.blk (i := 1) rfl) rfl) ?_
  refine rw_v (op_pure rfl) ?_
  first | refine rw_end ?_ | (refine rw_nil ?_; show CW _ _ _ _ _ _) | refine rw_nil ?_
  repeat refine cw_seq ?_
  refine cw_cutT (M := fun e w => ∃ (acc : List Nat) (A_o : Option Addr) (c_o : Nat), acc = ([] : List Nat) ++ (if gw ≤ i then [i - gw] else []) ∧ SL e [(1, .int .i64 i), (2, .pointer (some ⟨b_lw, 0, none⟩)), (5, .slice A_o acc.length c_o)] ∧ St No W w [.row 3 1 A_o acc.length c_o (natsV acc), .blk b_lw 120 [.int .i64 gw, .slice A n c]]) ?_ ?_
  · skip
    repeat refine cw_seq ?_
    refine cw_cond rfl (fun hc0 => ?_) (fun hc0 => ?_)
    · try simp only [decide_eq_true_eq, decide_eq_false_iff_not, beq_iff_eq, bne_iff_ne, beq_eq_false_iff_ne, bne_eq_false_iff_eq, Bool.not_eq_true', Bool.not_eq_false', ne_eq, Decidable.not_not, Int.natCast_inj, Int.ofNat_lt, Int.ofNat_le, gt_iff_lt, ge_iff_le, Int.not_lt, Int.not_le] at hc0
      repeat refine cw_seq ?_
      refine cw_region ?_
      refine rw_v (op_pure rfl) ?_
      refine rw_v (op_pure rfl) ?_
      refine rw_v (op_fieldAddr Try.underlying120 rfl Try.sizeOf3 rfl rfl) ?_
      refine rw_r (op_loadB Try.underlying3 rfl rfl (S.blk (i := 1) rfl) rfl) ?_
      refine rw_v (op_rng rfl (by omega)) ?_
      rw [show (i : Int) - gw = ((i - gw : Nat) : Int) by omega]
      refine rw_buildS Try.underlying102 Try.sizeOf3 Try.zeroValue3 rfl rfl rfl rfl rfl rfl S ?_
      intro A_lit w6_ g6_ S sa_lit
      refine rw_appS (i := 1) S rfl (fun h => rfl) Try.underlying102 info_t3 rfl rfl rfl rfl (by simp) (by omega) (S.rd (i := 0) rfl) rfl (by omega) ?_
      intro A_out7 c_out7 w7_ S sa_out
      refine rw_v (op_pure rfl) ?_
      first | refine rw_end ?_ | (refine rw_nil ?_; show CW _ _ _ _ _ _) | refine rw_nil ?_
      have S := S.drop 1
      have e1 : natsV ([] : List Nat) ++ [Value.int .i64 ((i - gw : Nat) : Int)] = natsV (([] : List Nat) ++ [i - gw]) := by simp [natsV]
      refine ⟨([] : List Nat) ++ [i - gw], _, _, by rw [if_pos (show gw ≤ i by omega)], ⟨rfl, rfl, se (by simp) rfl, trivial⟩, ?_⟩
      rw [← e1, List.length_append]
      exact S
    · try simp only [decide_eq_true_eq, decide_eq_false_iff_not, beq_iff_eq, bne_iff_ne, beq_eq_false_iff_ne, bne_eq_false_iff_eq, Bool.not_eq_true', Bool.not_eq_false', ne_eq, Decidable.not_not, Int.natCast_inj, Int.ofNat_lt, Int.ofNat_le, gt_iff_lt, ge_iff_le, Int.not_lt, Int.not_le] at hc0
      repeat refine cw_seq ?_
      refine cw_skip ?_
      try show CW _ _ _ _ _ _
      exact ⟨([] : List Nat), _, _, by rw [if_neg (show ¬ (gw ≤ i) by omega), List.append_nil], ⟨rfl, rfl, rfl, trivial⟩, S⟩
  · rintro e0 w0 ⟨acc1, A_out, c_out, hacc1, hsl, S⟩
    rw [hsl.fold]
    have hl1 : acc1.length ≤ 1 := by rw [hacc1]; split <;> simp <;> omega
    repeat refine cw_seq ?_
    refine cw_region ?_
    refine rw_v (op_pure rfl) ?_
    refine rw_v (op_fieldAddr Try.underlying120 rfl Try.sizeOf3 rfl rfl) ?_
    refine rw_r (op_loadB Try.underlying3 rfl rfl (S.blk (i := 1) rfl) rfl) ?_
    refine rw_v (op_rem rfl rfl (by omega) (by omega)) ?_
    rw [em]
    refine rw_v (op_pure rfl) ?_
    first | refine rw_end ?_ | (refine rw_nil ?_; show CW _ _ _ _ _ _) | refine rw_nil ?_
    repeat refine cw_seq ?_
    refine cw_cutT (M := fun e w => ∃ (acc : List Nat) (A_o : Option Addr) (c_o : Nat), acc = acc1 ++ (if 0 < m then [i - 1] else []) ∧ SL e [(1, .int .i64 i), (2, .pointer (some ⟨b_lw, 0, none⟩)), (5, .slice A_o acc.length c_o)] ∧ St No W w [.row 3 1 A_o acc.length c_o (natsV acc), .blk b_lw 120 [.int .i64 gw, .slice A n c]]) ?_ ?_
    · skip
      repeat refine cw_seq ?_
      refine cw_cond rfl (fun hc1 => ?_) (fun hc1 => ?_)
      · try simp only [decide_eq_true_eq, decide_eq_false_iff_not, beq_iff_eq, bne_iff_ne, beq_eq_false_iff_ne, bne_eq_false_iff_eq, Bool.not_eq_true', Bool.not_eq_false', ne_eq, Decidable.not_not, Int.natCast_inj, Int.ofNat_lt, Int.ofNat_le, gt_iff_lt, ge_iff_le, Int.not_lt, Int.not_le] at hc1
        repeat refine cw_seq ?_
        refine cw_region ?_
        refine rw_v (op_pure rfl) ?_
        refine rw_v (op_pure rfl) ?_
        refine rw_v (op_rng rfl (by omega)) ?_
        rw [show (i : Int) - 1 = ((i - 1 : Nat) : Int) by omega]
        refine rw_buildS Try.underlying102 Try.sizeOf3 Try.zeroValue3 rfl rfl rfl rfl rfl rfl S ?_
        intro A_lit w9_ g9_ S sa_lit
        refine rw_appS (i := 1) S rfl (fun h => rfl) Try.underlying102 info_t3 rfl rfl rfl rfl (by simp) (by omega) (S.rd (i := 0) rfl) rfl (by omega) ?_
        intro A_out10 c_out10 w10_ S sa_out
        refine rw_v (op_pure rfl) ?_
        first | refine rw_end ?_ | (refine rw_nil ?_; show CW _ _ _ _ _ _) | refine rw_nil ?_
        have S := S.drop 1
        have e1 : natsV acc1 ++ [Value.int .i64 ((i - 1 : Nat) : Int)] = natsV (acc1 ++ [i - 1]) := by simp [natsV]
        refine ⟨acc1 ++ [i - 1], _, _, by rw [if_pos (show 0 < m by omega)], ⟨rfl, rfl, se (by simp) rfl, trivial⟩, ?_⟩
        rw [← e1, List.length_append]
        exact S
      · try simp only [decide_eq_true_eq, decide_eq_false_iff_not, beq_iff_eq, bne_iff_ne, beq_eq_false_iff_ne, bne_eq_false_iff_eq, Bool.not_eq_true', Bool.not_eq_false', ne_eq, Decidable.not_not, Int.natCast_inj, Int.ofNat_lt, Int.ofNat_le, gt_iff_lt, ge_iff_le, Int.not_lt, Int.not_le] at hc1
        repeat refine cw_seq ?_
        refine cw_skip ?_
        try show CW _ _ _ _ _ _
        exact ⟨acc1, _, _, by rw [if_neg (show ¬ (0 < m) by omega), List.append_nil], ⟨rfl, rfl, rfl, trivial⟩, S⟩
    · rintro e1 w1 ⟨acc2, A_out, c_out, hacc2, hsl, S⟩
      rw [hsl.fold]
      have hl2 : acc2.length ≤ 2 := by rw [hacc2]; split <;> simp <;> omega
      repeat refine cw_seq ?_
      refine cw_draw (C := fun wq => Gr w1 wq) [0, 1, 2, 3, 4, 5, 6, 7] [] (by kernel_rfl) (by kernel_rfl) (Gr.drew _) ?_
      simp only [pickL, List.drop_succ_cons, List.drop_zero]
      refine rq_v (op_pure rfl) ?_
      refine rq_v (op_fieldAddr Try.underlying120 rfl Try.sizeOf3 rfl rfl) ?_
      refine rq_r (fun wq hq => op_loadB Try.underlying3 rfl rfl ((S.gr hq).blk (i := 1) rfl) rfl) ?_
      refine rq_v (op_rem rfl rfl (by omega) (by omega)) ?_
      rw [em]
      refine rq_v (op_fieldAddr Try.underlying120 rfl Try.sizeOf3 rfl rfl) ?_
      refine rq_r (fun wq hq => op_loadB Try.underlying3 rfl rfl ((S.gr hq).blk (i := 1) rfl) rfl) ?_
      refine rq_v (op_rng rfl (by omega)) ?_
      first | refine rq_v (op_b (b := true) rfl (decide_eq_true (by omega))) ?_ | refine rq_v (op_b (b := false) rfl (decide_eq_false (by omega))) ?_ | refine rq_v (op_pure rfl) ?_
      refine rq_nil ?_
      intro w11_ g11_
      have S := S.gr g11_
      first | refine rw_end ?_ | (refine rw_nil ?_; show CW _ _ _ _ _ _) | refine rw_nil ?_
      repeat refine cw_seq ?_
      refine cw_cutT (M := fun e w => ∃ (acc : List Nat) (A_o : Option Addr) (c_o : Nat), acc = acc2 ++ (if m + 1 < gw then [i + 1] else []) ∧ SL e [(1, .int .i64 i), (2, .pointer (some ⟨b_lw, 0, none⟩)), (5, .slice A_o acc.length c_o)] ∧ St No W w [.row 3 1 A_o acc.length c_o (natsV acc), .blk b_lw 120 [.int .i64 gw, .slice A n c]]) ?_ ?_
      · skip
        repeat refine cw_seq ?_
        refine cw_cond rfl (fun hc2 => ?_) (fun hc2 => ?_)
        · try simp only [decide_eq_true_eq, decide_eq_false_iff_not, beq_iff_eq, bne_iff_ne, beq_eq_false_iff_ne, bne_eq_false_iff_eq, Bool.not_eq_true', Bool.not_eq_false', ne_eq, Decidable.not_not, Int.natCast_inj, Int.ofNat_lt, Int.ofNat_le, gt_iff_lt, ge_iff_le, Int.not_lt, Int.not_le] at hc2
          repeat refine cw_seq ?_
          refine cw_region ?_
          refine rw_v (op_pure rfl) ?_
          refine rw_v (op_pure rfl) ?_
          refine rw_v (op_rng rfl (by omega)) ?_
          rw [show (i : Int) + 1 = ((i + 1 : Nat) : Int) by omega]
          refine rw_buildS Try.underlying102 Try.sizeOf3 Try.zeroValue3 rfl rfl rfl rfl rfl rfl S ?_
          intro A_lit w13_ g13_ S sa_lit
          refine rw_appS (i := 1) S rfl (fun h => rfl) Try.underlying102 info_t3 rfl rfl rfl rfl (by simp) (by omega) (S.rd (i := 0) rfl) rfl (by omega) ?_
          intro A_out14 c_out14 w14_ S sa_out
          refine rw_v (op_pure rfl) ?_
          first | refine rw_end ?_ | (refine rw_nil ?_; show CW _ _ _ _ _ _) | refine rw_nil ?_
          have S := S.drop 1
          have e1 : natsV acc2 ++ [Value.int .i64 ((i + 1 : Nat) : Int)] = natsV (acc2 ++ [i + 1]) := by simp [natsV]
          refine ⟨acc2 ++ [i + 1], _, _, by rw [if_pos (show m + 1 < gw by omega)], ⟨rfl, rfl, se (by simp) rfl, trivial⟩, ?_⟩
          rw [← e1, List.length_append]
          exact S
        · try simp only [decide_eq_true_eq, decide_eq_false_iff_not, beq_iff_eq, bne_iff_ne, beq_eq_false_iff_ne, bne_eq_false_iff_eq, Bool.not_eq_true', Bool.not_eq_false', ne_eq, Decidable.not_not, Int.natCast_inj, Int.ofNat_lt, Int.ofNat_le, gt_iff_lt, ge_iff_le, Int.not_lt, Int.not_le] at hc2
          repeat refine cw_seq ?_
          refine cw_skip ?_
          try show CW _ _ _ _ _ _
          exact ⟨acc2, _, _, by rw [if_neg (show ¬ (m + 1 < gw) by omega), List.append_nil], ⟨rfl, rfl, rfl, trivial⟩, S⟩
      · rintro e2 w2 ⟨acc3, A_out, c_out, hacc3, hsl, S⟩
        rw [hsl.fold]
        have hl3 : acc3.length ≤ 3 := by rw [hacc3]; split <;> simp <;> omega
        repeat refine cw_seq ?_
        refine cw_region ?_
        refine rw_v (op_pure rfl) ?_
        refine rw_v (op_fieldAddr Try.underlying120 rfl Try.sizeOf3 rfl rfl) ?_
        refine rw_r (op_loadB Try.underlying3 rfl rfl (S.blk (i := 1) rfl) rfl) ?_
        refine rw_v (op_rng rfl (by omega)) ?_
        refine rw_v (op_fieldAddr Try.underlying120 rfl Try.sizeOf22 rfl rfl) ?_
        refine rw_r (op_loadB Try.underlying22 rfl rfl (S.blk (i := 1) rfl) rfl) ?_
        refine rw_v (op_len Try.underlying22 rfl) ?_
        refine rw_v (op_pure rfl) ?_
        first | refine rw_end ?_ | (refine rw_nil ?_; show CW _ _ _ _ _ _) | refine rw_nil ?_
        repeat refine cw_seq ?_
        refine cw_cutT (M := fun e w => ∃ (acc : List Nat) (A_o : Option Addr) (c_o : Nat), acc = acc3 ++ (if i + gw < n then [i + gw] else []) ∧ SL e [(1, .int .i64 i), (2, .pointer (some ⟨b_lw, 0, none⟩)), (5, .slice A_o acc.length c_o)] ∧ St No W w [.row 3 1 A_o acc.length c_o (natsV acc), .blk b_lw 120 [.int .i64 gw, .slice A n c]]) ?_ ?_
        · skip
          repeat refine cw_seq ?_
          refine cw_cond rfl (fun hc3 => ?_) (fun hc3 => ?_)
          · try simp only [decide_eq_true_eq, decide_eq_false_iff_not, beq_iff_eq, bne_iff_ne, beq_eq_false_iff_ne, bne_eq_false_iff_eq, Bool.not_eq_true', Bool.not_eq_false', ne_eq, Decidable.not_not, Int.natCast_inj, Int.ofNat_lt, Int.ofNat_le, gt_iff_lt, ge_iff_le, Int.not_lt, Int.not_le] at hc3
            repeat refine cw_seq ?_
            refine cw_region ?_
            refine rw_v (op_pure rfl) ?_
            refine rw_v (op_pure rfl) ?_
            refine rw_v (op_fieldAddr Try.underlying120 rfl Try.sizeOf3 rfl rfl) ?_
            refine rw_r (op_loadB Try.underlying3 rfl rfl (S.blk (i := 1) rfl) rfl) ?_
            refine rw_v (op_rng rfl (by omega)) ?_
            rw [show (i : Int) + gw = ((i + gw : Nat) : Int) by omega]
            refine rw_buildS Try.underlying102 Try.sizeOf3 Try.zeroValue3 rfl rfl rfl rfl rfl rfl S ?_
            intro A_lit w16_ g16_ S sa_lit
            refine rw_appS (i := 1) S rfl (fun h => rfl) Try.underlying102 info_t3 rfl rfl rfl rfl (by simp) (by omega) (S.rd (i := 0) rfl) rfl (by omega) ?_
            intro A_out17 c_out17 w17_ S sa_out
            refine rw_v (op_pure rfl) ?_
            first | refine rw_end ?_ | (refine rw_nil ?_; show CW _ _ _ _ _ _) | refine rw_nil ?_
            have S := S.drop 1
            have e1 : natsV acc3 ++ [Value.int .i64 ((i + gw : Nat) : Int)] = natsV (acc3 ++ [i + gw]) := by simp [natsV]
            refine ⟨acc3 ++ [i + gw], _, _, by rw [if_pos (show i + gw < n by omega)], ⟨rfl, rfl, se (by simp) rfl, trivial⟩, ?_⟩
            rw [← e1, List.length_append]
            exact S
          · try simp only [decide_eq_true_eq, decide_eq_false_iff_not, beq_iff_eq, bne_iff_ne, beq_eq_false_iff_ne, bne_eq_false_iff_eq, Bool.not_eq_true', Bool.not_eq_false', ne_eq, Decidable.not_not, Int.natCast_inj, Int.ofNat_lt, Int.ofNat_le, gt_iff_lt, ge_iff_le, Int.not_lt, Int.not_le] at hc3
            repeat refine cw_seq ?_
            refine cw_skip ?_
            try show CW _ _ _ _ _ _
            exact ⟨acc3, _, _, by rw [if_neg (show ¬ (i + gw < n) by omega), List.append_nil], ⟨rfl, rfl, rfl, trivial⟩, S⟩
        · rintro e3 w3 ⟨acc4, A_out, c_out, hacc4, hsl, S⟩
          rw [hsl.fold]
          have hl4 : acc4.length ≤ 4 := by rw [hacc4]; split <;> simp <;> omega
          repeat refine cw_seq ?_
          refine cw_region ?_
          refine rw_v (op_pure rfl) ?_
          refine rw_v (op_pure rfl) ?_
          first | refine rw_end ?_ | (refine rw_nil ?_; show CW _ _ _ _ _ _) | refine rw_nil ?_
          repeat refine cw_seq ?_
          refine cw_ret ?_
          repeat first | refine ret_then ?_ | refine ret_inb ?_
          rw [List.nil_append] at hacc1
          rw [← hacc1, ← hacc2, ← hacc3, ← hacc4]
          exact res1 rfl (S.retNew (i := 0) (mk := id) rfl)
end
theorem vB_of_may {V : List Int} (h : ∀ v ∈ V, mayB v = true) : vB V := by
  intro i
  rw [List.getD_eq_getElem?_getD]
  cases e : V[i]? with
  | none => simp
  | some v =>
    have := h v (List.mem_of_getElem? e)
    unfold mayB at this
    simpa using this
theorem vB_grid {gw gh : Nat} {cc : Nat → Int} (h : ∀ i, i < gw * gh → -2147483648 ≤ cc i ∧ cc i ≤ 2147483647) : vB (gridL gw gh cc) := by
  intro i
  unfold gridL
  rw [List.getD_eq_getElem?_getD]
  by_cases hi : i < gw * gh
  · rw [List.getElem?_map, List.getElem?_range hi]; exact h i hi
  · rw [List.getElem?_eq_none (by simp; omega)]; simp
end Go.Proofs.Ytmdkjohllinphaa
