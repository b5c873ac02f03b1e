/- Package fill: the border, a step, a cell that has an inner neighbour. -/
import Derived.Test.YtbcgbcipigcbhaaFillL
import Derived.Test.YtbcgbcipigcbhaaShore
import Derived.Test.YtbcgbcipigcbhaaRouteA
namespace Go.Proofs.Ytbcgbcipigcbhaa
open Go.RowKit
set_option linter.unusedVariables false
set_option linter.unusedSimpArgs false
set_option maxRecDepth 100000

section
variable {W : World} {Av : Option Addr} {gw gh n cv b : Nat} {x2 x3 x4 : Value}
set_option maxHeartbeats 2000000 in
theorem border_E (i : Nat) (hgw : 1 ≤ gw ∧ gw ≤ 1048576) (hi : i ≤ 4194304) (hn : n ≤ 4194304) (hB : Blk W b 106 [.int .i64 gw, .slice Av n cv, x2, x3, x4]) : Fn Try.prog 122 [.pointer (some ⟨b, 0, none⟩), .int .i64 i] W (RetG (.bool (bordB gw n i)) W) := by
  have em : (i : Int) % gw = ((i % gw : Nat) : Int) := by push_cast; rfl
  have hm := Nat.mod_lt i hgw.1
  unfold bordB
  generalize i % gw = m at *
  by_cases c0 : m = 0
  · skip
    have S := St.start W
    refine Fn_enter Try.func122 rfl Try.results122 Try.ntmps122 (by kernel_rfl) (by kernel_rfl) ?_
    repeat refine cw_seq ?_
    refine cw_region ?_
    refine rw_v (op_pure rfl) ?_
    first | refine rw_end ?_ | (refine rw_nil ?_; show CW _ _ _ _ _ _) | refine rw_nil ?_
    repeat refine cw_seq ?_
    refine cw_region ?_
    iterate 3 refine rw_v (op_pure rfl) ?_
    refine rw_v (op_fieldAddr Try.underlying106 rfl Try.sizeOf3 rfl rfl) ?_
    refine rw_r (op_loadB Try.underlying3 rfl rfl (hB.gr S.out) rfl) ?_
    refine rw_v (op_rem rfl rfl (by omega) (by omega)) ?_
    rw [em]
    refine rw_v (op_pure rfl) ?_
    first | refine rw_end ?_ | (refine rw_nil ?_; show CW _ _ _ _ _ _) | refine rw_nil ?_
    repeat refine cw_seq ?_
    refine cw_draw (C := fun wq => Gr W wq) [0, 1, 2, 3, 4, 5, 6, 7, 8, 9, 10, 11, 12, 13, 14, 15, 16, 17, 18, 19, 20, 21, 22, 23, 24, 25, 26, 27, 28, 29, 30, 31, 32, 33] [] (by kernel_rfl) (by kernel_rfl) (Gr.drew _) ?_
    simp only [pickL, List.drop_succ_cons, List.drop_zero]
    refine rq_v (op_pure rfl) ?_
    first | refine rq_v (op_b (b := true) rfl (beq_iff_eq.2 (by omega))) ?_ | refine rq_v (op_b (b := false) rfl (beq_eq_false_iff_ne.2 (by omega))) ?_ | refine rq_v (op_pure rfl) ?_
    refine rq_v (op_pure rfl) ?_
    first | refine rq_off rfl ?_ | (refine rq_on rfl ?_; refine rq_v (op_pure rfl) ?_)
    first | refine rq_off rfl ?_ | (refine rq_on rfl ?_; refine rq_v (op_pure rfl) ?_)
    first | refine rq_off rfl ?_ | (refine rq_on rfl ?_; refine rq_v (op_pure rfl) ?_)
    first | refine rq_off rfl ?_ | (refine rq_on rfl ?_; refine rq_v (op_fieldAddr Try.underlying106 rfl Try.sizeOf3 rfl rfl) ?_)
    first | refine rq_off rfl ?_ | (refine rq_on rfl ?_; refine rq_r (fun wq hq => op_loadB Try.underlying3 rfl rfl (hB.gr (S.gr hq).out) rfl) ?_)
    first | refine rq_off rfl ?_ | (refine rq_on rfl ?_; refine rq_v (op_rng rfl (by omega)) ?_)
    first | refine rq_off rfl ?_ | (refine rq_on rfl ?_; (first | refine rq_v (op_b (b := true) rfl (beq_iff_eq.2 (by omega))) ?_ | refine rq_v (op_b (b := false) rfl (beq_eq_false_iff_ne.2 (by omega))) ?_ | refine rq_v (op_pure rfl) ?_))
    iterate 2 refine rq_v (op_pure rfl) ?_
    first | refine rq_off rfl ?_ | (refine rq_on rfl ?_; refine rq_v (op_pure rfl) ?_)
    first | refine rq_off rfl ?_ | (refine rq_on rfl ?_; refine rq_v (op_pure rfl) ?_)
    first | refine rq_off rfl ?_ | (refine rq_on rfl ?_; refine rq_v (op_pure rfl) ?_)
    first | refine rq_off rfl ?_ | (refine rq_on rfl ?_; refine rq_v (op_fieldAddr Try.underlying106 rfl Try.sizeOf3 rfl rfl) ?_)
    first | refine rq_off rfl ?_ | (refine rq_on rfl ?_; refine rq_r (fun wq hq => op_loadB Try.underlying3 rfl rfl (hB.gr (S.gr hq).out) rfl) ?_)
    first | refine rq_off rfl ?_ | (refine rq_on rfl ?_; (first | refine rq_v (op_b (b := true) rfl (decide_eq_true (by omega))) ?_ | refine rq_v (op_b (b := false) rfl (decide_eq_false (by omega))) ?_ | refine rq_v (op_pure rfl) ?_))
    iterate 2 refine rq_v (op_pure rfl) ?_
    first | refine rq_off rfl ?_ | (refine rq_on rfl ?_; refine rq_v (op_pure rfl) ?_)
    first | refine rq_off rfl ?_ | (refine rq_on rfl ?_; refine rq_v (op_pure rfl) ?_)
    first | refine rq_off rfl ?_ | (refine rq_on rfl ?_; refine rq_v (op_pure rfl) ?_)
    first | refine rq_off rfl ?_ | (refine rq_on rfl ?_; refine rq_v (op_fieldAddr Try.underlying106 rfl Try.sizeOf3 rfl rfl) ?_)
    first | refine rq_off rfl ?_ | (refine rq_on rfl ?_; refine rq_r (fun wq hq => op_loadB Try.underlying3 rfl rfl (hB.gr (S.gr hq).out) rfl) ?_)
    first | refine rq_off rfl ?_ | (refine rq_on rfl ?_; refine rq_v (op_rng rfl (by omega)) ?_)
    first | refine rq_off rfl ?_ | (refine rq_on rfl ?_; refine rq_v (op_pure rfl) ?_)
    first | refine rq_off rfl ?_ | (refine rq_on rfl ?_; refine rq_v (op_pure rfl) ?_)
    first | refine rq_off rfl ?_ | (refine rq_on rfl ?_; refine rq_v (op_fieldAddr Try.underlying106 rfl Try.sizeOf22 rfl rfl) ?_)
    first | refine rq_off rfl ?_ | (refine rq_on rfl ?_; refine rq_r (fun wq hq => op_loadB Try.underlying22 rfl rfl (hB.gr (S.gr hq).out) rfl) ?_)
    first | refine rq_off rfl ?_ | (refine rq_on rfl ?_; refine rq_v (op_len Try.underlying22 rfl) ?_)
    first | refine rq_off rfl ?_ | (refine rq_on rfl ?_; (first | refine rq_v (op_b (b := true) rfl (decide_eq_true (by omega))) ?_ | refine rq_v (op_b (b := false) rfl (decide_eq_false (by omega))) ?_ | refine rq_v (op_pure rfl) ?_))
    iterate 2 refine rq_v (op_pure rfl) ?_
    refine rq_nil ?_
    intro w1_ g1_
    have S := S.gr g1_
    first | refine rw_end ?_ | (refine rw_nil ?_; show CW _ _ _ _ _ _) | refine rw_nil ?_
    repeat refine cw_seq ?_
    refine cw_ret ?_
    repeat first | refine ret_then ?_ | refine ret_inb ?_
    exact res1 rfl ⟨be (by simp [c0]), S.out⟩
  · by_cases c1 : m + 1 = gw
    · skip
      have S := St.start W
      refine Fn_enter Try.func122 rfl Try.results122 Try.ntmps122 (by kernel_rfl) (by kernel_rfl) ?_
      repeat refine cw_seq ?_
      refine cw_region ?_
      refine rw_v (op_pure rfl) ?_
      first | refine rw_end ?_ | (refine rw_nil ?_; show CW _ _ _ _ _ _) | refine rw_nil ?_
      repeat refine cw_seq ?_
      refine cw_region ?_
      iterate 3 refine rw_v (op_pure rfl) ?_
      refine rw_v (op_fieldAddr Try.underlying106 rfl Try.sizeOf3 rfl rfl) ?_
      refine rw_r (op_loadB Try.underlying3 rfl rfl (hB.gr S.out) rfl) ?_
      refine rw_v (op_rem rfl rfl (by omega) (by omega)) ?_
      rw [em]
      refine rw_v (op_pure rfl) ?_
      first | refine rw_end ?_ | (refine rw_nil ?_; show CW _ _ _ _ _ _) | refine rw_nil ?_
      repeat refine cw_seq ?_
      refine cw_draw (C := fun wq => Gr W wq) [0, 1, 2, 3, 4, 5, 6, 7, 8, 9, 10, 11, 12, 13, 14, 15, 16, 17, 18, 19, 20, 21, 22, 23, 24, 25, 26, 27, 28, 29, 30, 31, 32, 33] [] (by kernel_rfl) (by kernel_rfl) (Gr.drew _) ?_
      simp only [pickL, List.drop_succ_cons, List.drop_zero]
      refine rq_v (op_pure rfl) ?_
      first | refine rq_v (op_b (b := true) rfl (beq_iff_eq.2 (by omega))) ?_ | refine rq_v (op_b (b := false) rfl (beq_eq_false_iff_ne.2 (by omega))) ?_ | refine rq_v (op_pure rfl) ?_
      refine rq_v (op_pure rfl) ?_
      first | refine rq_off rfl ?_ | (refine rq_on rfl ?_; refine rq_v (op_pure rfl) ?_)
      first | refine rq_off rfl ?_ | (refine rq_on rfl ?_; refine rq_v (op_pure rfl) ?_)
      first | refine rq_off rfl ?_ | (refine rq_on rfl ?_; refine rq_v (op_pure rfl) ?_)
      first | refine rq_off rfl ?_ | (refine rq_on rfl ?_; refine rq_v (op_fieldAddr Try.underlying106 rfl Try.sizeOf3 rfl rfl) ?_)
      first | refine rq_off rfl ?_ | (refine rq_on rfl ?_; refine rq_r (fun wq hq => op_loadB Try.underlying3 rfl rfl (hB.gr (S.gr hq).out) rfl) ?_)
      first | refine rq_off rfl ?_ | (refine rq_on rfl ?_; refine rq_v (op_rng rfl (by omega)) ?_)
      first | refine rq_off rfl ?_ | (refine rq_on rfl ?_; (first | refine rq_v (op_b (b := true) rfl (beq_iff_eq.2 (by omega))) ?_ | refine rq_v (op_b (b := false) rfl (beq_eq_false_iff_ne.2 (by omega))) ?_ | refine rq_v (op_pure rfl) ?_))
      iterate 2 refine rq_v (op_pure rfl) ?_
      first | refine rq_off rfl ?_ | (refine rq_on rfl ?_; refine rq_v (op_pure rfl) ?_)
      first | refine rq_off rfl ?_ | (refine rq_on rfl ?_; refine rq_v (op_pure rfl) ?_)
      first | refine rq_off rfl ?_ | (refine rq_on rfl ?_; refine rq_v (op_pure rfl) ?_)
      first | refine rq_off rfl ?_ | (refine rq_on rfl ?_; refine rq_v (op_fieldAddr Try.underlying106 rfl Try.sizeOf3 rfl rfl) ?_)
      first | refine rq_off rfl ?_ | (refine rq_on rfl ?_; refine rq_r (fun wq hq => op_loadB Try.underlying3 rfl rfl (hB.gr (S.gr hq).out) rfl) ?_)
      first | refine rq_off rfl ?_ | (refine rq_on rfl ?_; (first | refine rq_v (op_b (b := true) rfl (decide_eq_true (by omega))) ?_ | refine rq_v (op_b (b := false) rfl (decide_eq_false (by omega))) ?_ | refine rq_v (op_pure rfl) ?_))
      iterate 2 refine rq_v (op_pure rfl) ?_
      first | refine rq_off rfl ?_ | (refine rq_on rfl ?_; refine rq_v (op_pure rfl) ?_)
      first | refine rq_off rfl ?_ | (refine rq_on rfl ?_; refine rq_v (op_pure rfl) ?_)
      first | refine rq_off rfl ?_ | (refine rq_on rfl ?_; refine rq_v (op_pure rfl) ?_)
      first | refine rq_off rfl ?_ | (refine rq_on rfl ?_; refine rq_v (op_fieldAddr Try.underlying106 rfl Try.sizeOf3 rfl rfl) ?_)
      first | refine rq_off rfl ?_ | (refine rq_on rfl ?_; refine rq_r (fun wq hq => op_loadB Try.underlying3 rfl rfl (hB.gr (S.gr hq).out) rfl) ?_)
      first | refine rq_off rfl ?_ | (refine rq_on rfl ?_; refine rq_v (op_rng rfl (by omega)) ?_)
      first | refine rq_off rfl ?_ | (refine rq_on rfl ?_; refine rq_v (op_pure rfl) ?_)
      first | refine rq_off rfl ?_ | (refine rq_on rfl ?_; refine rq_v (op_pure rfl) ?_)
      first | refine rq_off rfl ?_ | (refine rq_on rfl ?_; refine rq_v (op_fieldAddr Try.underlying106 rfl Try.sizeOf22 rfl rfl) ?_)
      first | refine rq_off rfl ?_ | (refine rq_on rfl ?_; refine rq_r (fun wq hq => op_loadB Try.underlying22 rfl rfl (hB.gr (S.gr hq).out) rfl) ?_)
      first | refine rq_off rfl ?_ | (refine rq_on rfl ?_; refine rq_v (op_len Try.underlying22 rfl) ?_)
      first | refine rq_off rfl ?_ | (refine rq_on rfl ?_; (first | refine rq_v (op_b (b := true) rfl (decide_eq_true (by omega))) ?_ | refine rq_v (op_b (b := false) rfl (decide_eq_false (by omega))) ?_ | refine rq_v (op_pure rfl) ?_))
      iterate 2 refine rq_v (op_pure rfl) ?_
      refine rq_nil ?_
      intro w1_ g1_
      have S := S.gr g1_
      first | refine rw_end ?_ | (refine rw_nil ?_; show CW _ _ _ _ _ _) | refine rw_nil ?_
      repeat refine cw_seq ?_
      refine cw_ret ?_
      repeat first | refine ret_then ?_ | refine ret_inb ?_
      exact res1 rfl ⟨be (by simp [c0, c1]), S.out⟩
    · by_cases c2 : i < gw
      · skip
        have S := St.start W
        refine Fn_enter Try.func122 rfl Try.results122 Try.ntmps122 (by kernel_rfl) (by kernel_rfl) ?_
        repeat refine cw_seq ?_
        refine cw_region ?_
        refine rw_v (op_pure rfl) ?_
        first | refine rw_end ?_ | (refine rw_nil ?_; show CW _ _ _ _ _ _) | refine rw_nil ?_
        repeat refine cw_seq ?_
        refine cw_region ?_
        iterate 3 refine rw_v (op_pure rfl) ?_
        refine rw_v (op_fieldAddr Try.underlying106 rfl Try.sizeOf3 rfl rfl) ?_
        refine rw_r (op_loadB Try.underlying3 rfl rfl (hB.gr S.out) rfl) ?_
        refine rw_v (op_rem rfl rfl (by omega) (by omega)) ?_
        rw [em]
        refine rw_v (op_pure rfl) ?_
        first | refine rw_end ?_ | (refine rw_nil ?_; show CW _ _ _ _ _ _) | refine rw_nil ?_
        repeat refine cw_seq ?_
        refine cw_draw (C := fun wq => Gr W wq) [0, 1, 2, 3, 4, 5, 6, 7, 8, 9, 10, 11, 12, 13, 14, 15, 16, 17, 18, 19, 20, 21, 22, 23, 24, 25, 26, 27, 28, 29, 30, 31, 32, 33] [] (by kernel_rfl) (by kernel_rfl) (Gr.drew _) ?_
        simp only [pickL, List.drop_succ_cons, List.drop_zero]
        refine rq_v (op_pure rfl) ?_
        first | refine rq_v (op_b (b := true) rfl (beq_iff_eq.2 (by omega))) ?_ | refine rq_v (op_b (b := false) rfl (beq_eq_false_iff_ne.2 (by omega))) ?_ | refine rq_v (op_pure rfl) ?_
        refine rq_v (op_pure rfl) ?_
        first | refine rq_off rfl ?_ | (refine rq_on rfl ?_; refine rq_v (op_pure rfl) ?_)
        first | refine rq_off rfl ?_ | (refine rq_on rfl ?_; refine rq_v (op_pure rfl) ?_)
        first | refine rq_off rfl ?_ | (refine rq_on rfl ?_; refine rq_v (op_pure rfl) ?_)
        first | refine rq_off rfl ?_ | (refine rq_on rfl ?_; refine rq_v (op_fieldAddr Try.underlying106 rfl Try.sizeOf3 rfl rfl) ?_)
        first | refine rq_off rfl ?_ | (refine rq_on rfl ?_; refine rq_r (fun wq hq => op_loadB Try.underlying3 rfl rfl (hB.gr (S.gr hq).out) rfl) ?_)
        first | refine rq_off rfl ?_ | (refine rq_on rfl ?_; refine rq_v (op_rng rfl (by omega)) ?_)
        first | refine rq_off rfl ?_ | (refine rq_on rfl ?_; (first | refine rq_v (op_b (b := true) rfl (beq_iff_eq.2 (by omega))) ?_ | refine rq_v (op_b (b := false) rfl (beq_eq_false_iff_ne.2 (by omega))) ?_ | refine rq_v (op_pure rfl) ?_))
        iterate 2 refine rq_v (op_pure rfl) ?_
        first | refine rq_off rfl ?_ | (refine rq_on rfl ?_; refine rq_v (op_pure rfl) ?_)
        first | refine rq_off rfl ?_ | (refine rq_on rfl ?_; refine rq_v (op_pure rfl) ?_)
        first | refine rq_off rfl ?_ | (refine rq_on rfl ?_; refine rq_v (op_pure rfl) ?_)
        first | refine rq_off rfl ?_ | (refine rq_on rfl ?_; refine rq_v (op_fieldAddr Try.underlying106 rfl Try.sizeOf3 rfl rfl) ?_)
        first | refine rq_off rfl ?_ | (refine rq_on rfl ?_; refine rq_r (fun wq hq => op_loadB Try.underlying3 rfl rfl (hB.gr (S.gr hq).out) rfl) ?_)
        first | refine rq_off rfl ?_ | (refine rq_on rfl ?_; (first | refine rq_v (op_b (b := true) rfl (decide_eq_true (by omega))) ?_ | refine rq_v (op_b (b := false) rfl (decide_eq_false (by omega))) ?_ | refine rq_v (op_pure rfl) ?_))
        iterate 2 refine rq_v (op_pure rfl) ?_
        first | refine rq_off rfl ?_ | (refine rq_on rfl ?_; refine rq_v (op_pure rfl) ?_)
        first | refine rq_off rfl ?_ | (refine rq_on rfl ?_; refine rq_v (op_pure rfl) ?_)
        first | refine rq_off rfl ?_ | (refine rq_on rfl ?_; refine rq_v (op_pure rfl) ?_)
        first | refine rq_off rfl ?_ | (refine rq_on rfl ?_; refine rq_v (op_fieldAddr Try.underlying106 rfl Try.sizeOf3 rfl rfl) ?_)
        first | refine rq_off rfl ?_ | (refine rq_on rfl ?_; refine rq_r (fun wq hq => op_loadB Try.underlying3 rfl rfl (hB.gr (S.gr hq).out) rfl) ?_)
        first | refine rq_off rfl ?_ | (refine rq_on rfl ?_; refine rq_v (op_rng rfl (by omega)) ?_)
        first | refine rq_off rfl ?_ | (refine rq_on rfl ?_; refine rq_v (op_pure rfl) ?_)
        first | refine rq_off rfl ?_ | (refine rq_on rfl ?_; refine rq_v (op_pure rfl) ?_)
        first | refine rq_off rfl ?_ | (refine rq_on rfl ?_; refine rq_v (op_fieldAddr Try.underlying106 rfl Try.sizeOf22 rfl rfl) ?_)
        first | refine rq_off rfl ?_ | (refine rq_on rfl ?_; refine rq_r (fun wq hq => op_loadB Try.underlying22 rfl rfl (hB.gr (S.gr hq).out) rfl) ?_)
        first | refine rq_off rfl ?_ | (refine rq_on rfl ?_; refine rq_v (op_len Try.underlying22 rfl) ?_)
        first | refine rq_off rfl ?_ | (refine rq_on rfl ?_; (first | refine rq_v (op_b (b := true) rfl (decide_eq_true (by omega))) ?_ | refine rq_v (op_b (b := false) rfl (decide_eq_false (by omega))) ?_ | refine rq_v (op_pure rfl) ?_))
        iterate 2 refine rq_v (op_pure rfl) ?_
        refine rq_nil ?_
        intro w1_ g1_
        have S := S.gr g1_
        first | refine rw_end ?_ | (refine rw_nil ?_; show CW _ _ _ _ _ _) | refine rw_nil ?_
        repeat refine cw_seq ?_
        refine cw_ret ?_
        repeat first | refine ret_then ?_ | refine ret_inb ?_
        exact res1 rfl ⟨be (by simp [c0, c1, c2]), S.out⟩
      · by_cases c3 : n ≤ i + gw
        · skip
          have S := St.start W
          refine Fn_enter Try.func122 rfl Try.results122 Try.ntmps122 (by kernel_rfl) (by kernel_rfl) ?_
          repeat refine cw_seq ?_
          refine cw_region ?_
          refine rw_v (op_pure rfl) ?_
          first | refine rw_end ?_ | (refine rw_nil ?_; show CW _ _ _ _ _ _) | refine rw_nil ?_
          repeat refine cw_seq ?_
          refine cw_region ?_
          iterate 3 refine rw_v (op_pure rfl) ?_
          refine rw_v (op_fieldAddr Try.underlying106 rfl Try.sizeOf3 rfl rfl) ?_
          refine rw_r (op_loadB Try.underlying3 rfl rfl (hB.gr S.out) rfl) ?_
          refine rw_v (op_rem rfl rfl (by omega) (by omega)) ?_
          rw [em]
          refine rw_v (op_pure rfl) ?_
          first | refine rw_end ?_ | (refine rw_nil ?_; show CW _ _ _ _ _ _) | refine rw_nil ?_
          repeat refine cw_seq ?_
          refine cw_draw (C := fun wq => Gr W wq) [0, 1, 2, 3, 4, 5, 6, 7, 8, 9, 10, 11, 12, 13, 14, 15, 16, 17, 18, 19, 20, 21, 22, 23, 24, 25, 26, 27, 28, 29, 30, 31, 32, 33] [] (by kernel_rfl) (by kernel_rfl) (Gr.drew _) ?_
          simp only [pickL, List.drop_succ_cons, List.drop_zero]
          refine rq_v (op_pure rfl) ?_
          first | refine rq_v (op_b (b := true) rfl (beq_iff_eq.2 (by omega))) ?_ | refine rq_v (op_b (b := false) rfl (beq_eq_false_iff_ne.2 (by omega))) ?_ | refine rq_v (op_pure rfl) ?_
          refine rq_v (op_pure rfl) ?_
          first | refine rq_off rfl ?_ | (refine rq_on rfl ?_; refine rq_v (op_pure rfl) ?_)
          first | refine rq_off rfl ?_ | (refine rq_on rfl ?_; refine rq_v (op_pure rfl) ?_)
          first | refine rq_off rfl ?_ | (refine rq_on rfl ?_; refine rq_v (op_pure rfl) ?_)
          first | refine rq_off rfl ?_ | (refine rq_on rfl ?_; refine rq_v (op_fieldAddr Try.underlying106 rfl Try.sizeOf3 rfl rfl) ?_)
          first | refine rq_off rfl ?_ | (refine rq_on rfl ?_; refine rq_r (fun wq hq => op_loadB Try.underlying3 rfl rfl (hB.gr (S.gr hq).out) rfl) ?_)
          first | refine rq_off rfl ?_ | (refine rq_on rfl ?_; refine rq_v (op_rng rfl (by omega)) ?_)
          first | refine rq_off rfl ?_ | (refine rq_on rfl ?_; (first | refine rq_v (op_b (b := true) rfl (beq_iff_eq.2 (by omega))) ?_ | refine rq_v (op_b (b := false) rfl (beq_eq_false_iff_ne.2 (by omega))) ?_ | refine rq_v (op_pure rfl) ?_))
          iterate 2 refine rq_v (op_pure rfl) ?_
          first | refine rq_off rfl ?_ | (refine rq_on rfl ?_; refine rq_v (op_pure rfl) ?_)
          first | refine rq_off rfl ?_ | (refine rq_on rfl ?_; refine rq_v (op_pure rfl) ?_)
          first | refine rq_off rfl ?_ | (refine rq_on rfl ?_; refine rq_v (op_pure rfl) ?_)
          first | refine rq_off rfl ?_ | (refine rq_on rfl ?_; refine rq_v (op_fieldAddr Try.underlying106 rfl Try.sizeOf3 rfl rfl) ?_)
          first | refine rq_off rfl ?_ | (refine rq_on rfl ?_; refine rq_r (fun wq hq => op_loadB Try.underlying3 rfl rfl (hB.gr (S.gr hq).out) rfl) ?_)
          first | refine rq_off rfl ?_ | (refine rq_on rfl ?_; (first | refine rq_v (op_b (b := true) rfl (decide_eq_true (by omega))) ?_ | refine rq_v (op_b (b := false) rfl (decide_eq_false (by omega))) ?_ | refine rq_v (op_pure rfl) ?_))
          iterate 2 refine rq_v (op_pure rfl) ?_
          first | refine rq_off rfl ?_ | (refine rq_on rfl ?_; refine rq_v (op_pure rfl) ?_)
          first | refine rq_off rfl ?_ | (refine rq_on rfl ?_; refine rq_v (op_pure rfl) ?_)
          first | refine rq_off rfl ?_ | (refine rq_on rfl ?_; refine rq_v (op_pure rfl) ?_)
          first | refine rq_off rfl ?_ | (refine rq_on rfl ?_; refine rq_v (op_fieldAddr Try.underlying106 rfl Try.sizeOf3 rfl rfl) ?_)
          first | refine rq_off rfl ?_ | (refine rq_on rfl ?_; refine rq_r (fun wq hq => op_loadB Try.underlying3 rfl rfl (hB.gr (S.gr hq).out) rfl) ?_)
          first | refine rq_off rfl ?_ | (refine rq_on rfl ?_; refine rq_v (op_rng rfl (by omega)) ?_)
          first | refine rq_off rfl ?_ | (refine rq_on rfl ?_; refine rq_v (op_pure rfl) ?_)
          first | refine rq_off rfl ?_ | (refine rq_on rfl ?_; refine rq_v (op_pure rfl) ?_)
          first | refine rq_off rfl ?_ | (refine rq_on rfl ?_; refine rq_v (op_fieldAddr Try.underlying106 rfl Try.sizeOf22 rfl rfl) ?_)
          first | refine rq_off rfl ?_ | (refine rq_on rfl ?_; refine rq_r (fun wq hq => op_loadB Try.underlying22 rfl rfl (hB.gr (S.gr hq).out) rfl) ?_)
          first | refine rq_off rfl ?_ | (refine rq_on rfl ?_; refine rq_v (op_len Try.underlying22 rfl) ?_)
          first | refine rq_off rfl ?_ | (refine rq_on rfl ?_; (first | refine rq_v (op_b (b := true) rfl (decide_eq_true (by omega))) ?_ | refine rq_v (op_b (b := false) rfl (decide_eq_false (by omega))) ?_ | refine rq_v (op_pure rfl) ?_))
          iterate 2 refine rq_v (op_pure rfl) ?_
          refine rq_nil ?_
          intro w1_ g1_
          have S := S.gr g1_
          first | refine rw_end ?_ | (refine rw_nil ?_; show CW _ _ _ _ _ _) | refine rw_nil ?_
          repeat refine cw_seq ?_
          refine cw_ret ?_
          repeat first | refine ret_then ?_ | refine ret_inb ?_
          exact res1 rfl ⟨be (by simp [c0, c1, c2, c3]), S.out⟩
        · skip
          have S := St.start W
          refine Fn_enter Try.func122 rfl Try.results122 Try.ntmps122 (by kernel_rfl) (by kernel_rfl) ?_
          repeat refine cw_seq ?_
          refine cw_region ?_
          refine rw_v (op_pure rfl) ?_
          first | refine rw_end ?_ | (refine rw_nil ?_; show CW _ _ _ _ _ _) | refine rw_nil ?_
          repeat refine cw_seq ?_
          refine cw_region ?_
          iterate 3 refine rw_v (op_pure rfl) ?_
          refine rw_v (op_fieldAddr Try.underlying106 rfl Try.sizeOf3 rfl rfl) ?_
          refine rw_r (op_loadB Try.underlying3 rfl rfl (hB.gr S.out) rfl) ?_
          refine rw_v (op_rem rfl rfl (by omega) (by omega)) ?_
          rw [em]
          refine rw_v (op_pure rfl) ?_
          first | refine rw_end ?_ | (refine rw_nil ?_; show CW _ _ _ _ _ _) | refine rw_nil ?_
          repeat refine cw_seq ?_
          refine cw_draw (C := fun wq => Gr W wq) [0, 1, 2, 3, 4, 5, 6, 7, 8, 9, 10, 11, 12, 13, 14, 15, 16, 17, 18, 19, 20, 21, 22, 23, 24, 25, 26, 27, 28, 29, 30, 31, 32, 33] [] (by kernel_rfl) (by kernel_rfl) (Gr.drew _) ?_
          simp only [pickL, List.drop_succ_cons, List.drop_zero]
          refine rq_v (op_pure rfl) ?_
          first | refine rq_v (op_b (b := true) rfl (beq_iff_eq.2 (by omega))) ?_ | refine rq_v (op_b (b := false) rfl (beq_eq_false_iff_ne.2 (by omega))) ?_ | refine rq_v (op_pure rfl) ?_
          refine rq_v (op_pure rfl) ?_
          first | refine rq_off rfl ?_ | (refine rq_on rfl ?_; refine rq_v (op_pure rfl) ?_)
          first | refine rq_off rfl ?_ | (refine rq_on rfl ?_; refine rq_v (op_pure rfl) ?_)
          first | refine rq_off rfl ?_ | (refine rq_on rfl ?_; refine rq_v (op_pure rfl) ?_)
          first | refine rq_off rfl ?_ | (refine rq_on rfl ?_; refine rq_v (op_fieldAddr Try.underlying106 rfl Try.sizeOf3 rfl rfl) ?_)
          first | refine rq_off rfl ?_ | (refine rq_on rfl ?_; refine rq_r (fun wq hq => op_loadB Try.underlying3 rfl rfl (hB.gr (S.gr hq).out) rfl) ?_)
          first | refine rq_off rfl ?_ | (refine rq_on rfl ?_; refine rq_v (op_rng rfl (by omega)) ?_)
          first | refine rq_off rfl ?_ | (refine rq_on rfl ?_; (first | refine rq_v (op_b (b := true) rfl (beq_iff_eq.2 (by omega))) ?_ | refine rq_v (op_b (b := false) rfl (beq_eq_false_iff_ne.2 (by omega))) ?_ | refine rq_v (op_pure rfl) ?_))
          iterate 2 refine rq_v (op_pure rfl) ?_
          first | refine rq_off rfl ?_ | (refine rq_on rfl ?_; refine rq_v (op_pure rfl) ?_)
          first | refine rq_off rfl ?_ | (refine rq_on rfl ?_; refine rq_v (op_pure rfl) ?_)
          first | refine rq_off rfl ?_ | (refine rq_on rfl ?_; refine rq_v (op_pure rfl) ?_)
          first | refine rq_off rfl ?_ | (refine rq_on rfl ?_; refine rq_v (op_fieldAddr Try.underlying106 rfl Try.sizeOf3 rfl rfl) ?_)
          first | refine rq_off rfl ?_ | (refine rq_on rfl ?_; refine rq_r (fun wq hq => op_loadB Try.underlying3 rfl rfl (hB.gr (S.gr hq).out) rfl) ?_)
          first | refine rq_off rfl ?_ | (refine rq_on rfl ?_; (first | refine rq_v (op_b (b := true) rfl (decide_eq_true (by omega))) ?_ | refine rq_v (op_b (b := false) rfl (decide_eq_false (by omega))) ?_ | refine rq_v (op_pure rfl) ?_))
          iterate 2 refine rq_v (op_pure rfl) ?_
          first | refine rq_off rfl ?_ | (refine rq_on rfl ?_; refine rq_v (op_pure rfl) ?_)
          first | refine rq_off rfl ?_ | (refine rq_on rfl ?_; refine rq_v (op_pure rfl) ?_)
          first | refine rq_off rfl ?_ | (refine rq_on rfl ?_; refine rq_v (op_pure rfl) ?_)
          first | refine rq_off rfl ?_ | (refine rq_on rfl ?_; refine rq_v (op_fieldAddr Try.underlying106 rfl Try.sizeOf3 rfl rfl) ?_)
          first | refine rq_off rfl ?_ | (refine rq_on rfl ?_; refine rq_r (fun wq hq => op_loadB Try.underlying3 rfl rfl (hB.gr (S.gr hq).out) rfl) ?_)
          first | refine rq_off rfl ?_ | (refine rq_on rfl ?_; refine rq_v (op_rng rfl (by omega)) ?_)
          first | refine rq_off rfl ?_ | (refine rq_on rfl ?_; refine rq_v (op_pure rfl) ?_)
          first | refine rq_off rfl ?_ | (refine rq_on rfl ?_; refine rq_v (op_pure rfl) ?_)
          first | refine rq_off rfl ?_ | (refine rq_on rfl ?_; refine rq_v (op_fieldAddr Try.underlying106 rfl Try.sizeOf22 rfl rfl) ?_)
          first | refine rq_off rfl ?_ | (refine rq_on rfl ?_; refine rq_r (fun wq hq => op_loadB Try.underlying22 rfl rfl (hB.gr (S.gr hq).out) rfl) ?_)
          first | refine rq_off rfl ?_ | (refine rq_on rfl ?_; refine rq_v (op_len Try.underlying22 rfl) ?_)
          first | refine rq_off rfl ?_ | (refine rq_on rfl ?_; (first | refine rq_v (op_b (b := true) rfl (decide_eq_true (by omega))) ?_ | refine rq_v (op_b (b := false) rfl (decide_eq_false (by omega))) ?_ | refine rq_v (op_pure rfl) ?_))
          iterate 2 refine rq_v (op_pure rfl) ?_
          refine rq_nil ?_
          intro w1_ g1_
          have S := S.gr g1_
          first | refine rw_end ?_ | (refine rw_nil ?_; show CW _ _ _ _ _ _) | refine rw_nil ?_
          repeat refine cw_seq ?_
          refine cw_ret ?_
          repeat first | refine ret_then ?_ | refine ret_inb ?_
          exact res1 rfl ⟨be (by simp [c0, c1, c2, c3]), S.out⟩
def dirS (gw k : Nat) : Int := [-(gw : Int), -1, 1, (gw : Int)].getD k 0
def okS (gw n i k : Nat) : Bool := decide (gw ≠ 1) && [decide (gw ≤ i), decide (0 < i % gw), decide (i % gw + 1 < gw), decide (i + gw < n)].getD k false
theorem div_same {gw i j : Nat} (hgw : 0 < gw) (h : j + 1 = i) : (j / gw = i / gw ↔ 0 < i % gw) := by
  have e1 := Nat.div_add_mod i gw
  have e2 := Nat.div_add_mod j gw
  have h1 := Nat.mod_lt i hgw
  have h2 := Nat.mod_lt j hgw
  have hn := mod_next (i := j) hgw
  rw [h] at hn
  constructor
  · intro e
    rw [e] at e2
    omega
  · intro h0
    have hj : j % gw + 1 ≠ gw := fun e => by rw [if_pos e] at hn; omega
    rw [if_neg hj] at hn
    have : gw * (j / gw) = gw * (i / gw) := by omega
    exact Nat.eq_of_mul_eq_mul_left hgw this
set_option maxHeartbeats 8000000 in
theorem step_E (i k : Nat) (hk : k < 4) (hgw : 1 ≤ gw ∧ gw ≤ 1048576) (hng : n = gw * gh) (hi : i < n) (hn : n ≤ 4194304) (hB : Blk W b 106 [.int .i64 gw, .slice Av n cv, x2, x3, x4]) :
    Fn Try.prog 127 [.pointer (some ⟨b, 0, none⟩), .int .i64 i, .int .i64 (dirS gw k)] W (RetG (.tuple #[.int .i64 (i + dirS gw k), .bool (okS gw n i k)]) W) := by
  have em : (i : Int) % gw = ((i % gw : Nat) : Int) := by push_cast; rfl
  have hm := Nat.mod_lt i hgw.1
  have ed : (i : Int) / gw = ((i / gw : Nat) : Int) := by push_cast; rfl
  by_cases g1 : gw = 1
  · subst g1
    have hok : okS 1 n i k = false := by unfold okS; simp
    rcases (show k = 0 ∨ k = 1 ∨ k = 2 ∨ k = 3 by omega) with rfl | rfl | rfl | rfl
    · rw [show dirS 1 0 = -1 from rfl] at *
      by_cases g2 : 1 ≤ i
      · skip
        have S := St.start W
        refine Fn_enter Try.func127 rfl Try.results127 Try.ntmps127 (by kernel_rfl) (by kernel_rfl) ?_
        repeat refine cw_seq ?_
        refine cw_region ?_
        iterate 2 refine rw_v (op_pure rfl) ?_
        first | refine rw_end ?_ | (refine rw_nil ?_; show CW _ _ _ _ _ _) | refine rw_nil ?_
        repeat refine cw_seq ?_
        refine cw_region ?_
        iterate 2 refine rw_v (op_pure rfl) ?_
        refine rw_v (op_rng rfl (by omega)) ?_
        refine rw_v (op_pure rfl) ?_
        first | refine rw_end ?_ | (refine rw_nil ?_; show CW _ _ _ _ _ _) | refine rw_nil ?_
        repeat refine cw_seq ?_
        refine cw_region ?_
        refine rw_v (op_pure rfl) ?_
        first | refine rw_v (op_b (b := true) rfl (beq_iff_eq.2 (by omega))) ?_ | refine rw_v (op_b (b := false) rfl (beq_eq_false_iff_ne.2 (by omega))) ?_ | refine rw_v (op_pure rfl) ?_
        refine rw_v (op_pure rfl) ?_
        first | refine rw_off rfl ?_ | (refine rw_on rfl ?_; refine rw_v (op_pure rfl) ?_)
        first | refine rw_off rfl ?_ | (refine rw_on rfl ?_; (first | refine rw_v (op_b (b := true) rfl (beq_iff_eq.2 (by omega))) ?_ | refine rw_v (op_b (b := false) rfl (beq_eq_false_iff_ne.2 (by omega))) ?_ | refine rw_v (op_pure rfl) ?_))
        iterate 2 refine rw_v (op_pure rfl) ?_
        first | refine rw_end ?_ | (refine rw_nil ?_; show CW _ _ _ _ _ _) | refine rw_nil ?_
        repeat refine cw_seq ?_
        refine cw_draw (C := fun wq => Gr W wq) [0, 1, 2, 3, 4, 5, 6, 7, 8, 9, 10, 11, 12, 13, 14, 15, 16, 17, 18, 19, 20, 21, 22, 23, 24, 25, 26, 27, 28, 29, 30, 31, 32, 33, 34, 35, 36, 37, 38, 39, 40, 41, 42, 43, 44, 45, 46, 47, 48, 49, 50] [] (by kernel_rfl) (by kernel_rfl) (Gr.drew _) ?_
        simp only [pickL, List.drop_succ_cons, List.drop_zero]
        iterate 2 refine rq_v (op_pure rfl) ?_
        first | refine rq_v (op_b (b := true) rfl (decide_eq_true (by omega))) ?_ | refine rq_v (op_b (b := false) rfl (decide_eq_false (by omega))) ?_ | refine rq_v (op_pure rfl) ?_
        refine rq_v (op_pure rfl) ?_
        first | refine rq_off rfl ?_ | (refine rq_on rfl ?_; refine rq_v (op_pure rfl) ?_)
        first | refine rq_off rfl ?_ | (refine rq_on rfl ?_; refine rq_v (op_pure rfl) ?_)
        first | refine rq_off rfl ?_ | (refine rq_on rfl ?_; refine rq_v (op_pure rfl) ?_)
        first | refine rq_off rfl ?_ | (refine rq_on rfl ?_; refine rq_v (op_fieldAddr Try.underlying106 rfl Try.sizeOf22 rfl rfl) ?_)
        first | refine rq_off rfl ?_ | (refine rq_on rfl ?_; refine rq_r (fun wq hq => op_loadB Try.underlying22 rfl rfl (hB.gr (S.gr hq).out) rfl) ?_)
        first | refine rq_off rfl ?_ | (refine rq_on rfl ?_; refine rq_v (op_len Try.underlying22 rfl) ?_)
        first | refine rq_off rfl ?_ | (refine rq_on rfl ?_; (first | refine rq_v (op_b (b := true) rfl (decide_eq_true (by omega))) ?_ | refine rq_v (op_b (b := false) rfl (decide_eq_false (by omega))) ?_ | refine rq_v (op_pure rfl) ?_))
        iterate 2 refine rq_v (op_pure rfl) ?_
        first | refine rq_off rfl ?_ | (refine rq_on rfl ?_; refine rq_v (op_pure rfl) ?_)
        first | refine rq_off rfl ?_ | (refine rq_on rfl ?_; refine rq_v (op_pure rfl) ?_)
        first | refine rq_off rfl ?_ | (refine rq_on rfl ?_; refine rq_v (op_fieldAddr Try.underlying106 rfl Try.sizeOf3 rfl rfl) ?_)
        first | refine rq_off rfl ?_ | (refine rq_on rfl ?_; refine rq_r (fun wq hq => op_loadB Try.underlying3 rfl rfl (hB.gr (S.gr hq).out) rfl) ?_)
        first | refine rq_off rfl ?_ | (refine rq_on rfl ?_; (first | refine rq_v (op_b (b := true) rfl (beq_iff_eq.2 (by omega))) ?_ | refine rq_v (op_b (b := false) rfl (beq_eq_false_iff_ne.2 (by omega))) ?_ | refine rq_v (op_pure rfl) ?_))
        first | refine rq_off rfl ?_ | (refine rq_on rfl ?_; refine rq_v (op_pure rfl) ?_)
        first | refine rq_off rfl ?_ | (refine rq_on rfl ?_; refine rq_v (op_pure rfl) ?_)
        first | refine rq_off rfl ?_ | (refine rq_on rfl ?_; refine rq_v (op_pure rfl) ?_)
        first | refine rq_off rfl ?_ | (refine rq_on rfl ?_; refine rq_v (op_pure rfl) ?_)
        first | refine rq_off rfl ?_ | (refine rq_on rfl ?_; refine rq_v (op_pure rfl) ?_)
        first | refine rq_off rfl ?_ | (refine rq_on rfl ?_; refine rq_v (op_pure rfl) ?_)
        first | refine rq_off rfl ?_ | (refine rq_on rfl ?_; refine rq_v (op_pure rfl) ?_)
        first | refine rq_off rfl ?_ | (refine rq_on rfl ?_; refine rq_v (op_pure rfl) ?_)
        first | refine rq_off rfl ?_ | (refine rq_on rfl ?_; refine rq_v (op_fieldAddr Try.underlying106 rfl Try.sizeOf3 rfl rfl) ?_)
        first | refine rq_off rfl ?_ | (refine rq_on rfl ?_; refine rq_r (fun wq hq => op_loadB Try.underlying3 rfl rfl (hB.gr (S.gr hq).out) rfl) ?_)
        first | refine rq_off rfl ?_ | (refine rq_on rfl ?_; refine rq_v (op_div rfl rfl (by omega) (by omega)) ?_)
        first | refine rq_off rfl ?_ | (refine rq_on rfl ?_; refine rq_v (op_pure rfl) ?_)
        first | refine rq_off rfl ?_ | (refine rq_on rfl ?_; refine rq_v (op_pure rfl) ?_)
        first | refine rq_off rfl ?_ | (refine rq_on rfl ?_; refine rq_v (op_pure rfl) ?_)
        first | refine rq_off rfl ?_ | (refine rq_on rfl ?_; refine rq_v (op_fieldAddr Try.underlying106 rfl Try.sizeOf3 rfl rfl) ?_)
        first | refine rq_off rfl ?_ | (refine rq_on rfl ?_; refine rq_r (fun wq hq => op_loadB Try.underlying3 rfl rfl (hB.gr (S.gr hq).out) rfl) ?_)
        first | refine rq_off rfl ?_ | (refine rq_on rfl ?_; refine rq_v (op_div rfl rfl (by omega) (by omega)) ?_)
        first | refine rq_off rfl ?_ | (refine rq_on rfl ?_; (first | refine rq_v (op_b (b := true) rfl (beq_iff_eq.2 (by omega))) ?_ | refine rq_v (op_b (b := false) rfl (beq_eq_false_iff_ne.2 (by omega))) ?_ | refine rq_v (op_pure rfl) ?_))
        first | refine rq_off rfl ?_ | (refine rq_on rfl ?_; refine rq_v (op_pure rfl) ?_)
        iterate 2 refine rq_v (op_pure rfl) ?_
        first | refine rq_off rfl ?_ | (refine rq_on rfl ?_; refine rq_v (op_pure rfl) ?_)
        first | refine rq_off rfl ?_ | (refine rq_on rfl ?_; refine rq_v (op_pure rfl) ?_)
        first | refine rq_off rfl ?_ | (refine rq_on rfl ?_; refine rq_v (op_fieldAddr Try.underlying106 rfl Try.sizeOf3 rfl rfl) ?_)
        first | refine rq_off rfl ?_ | (refine rq_on rfl ?_; refine rq_r (fun wq hq => op_loadB Try.underlying3 rfl rfl (hB.gr (S.gr hq).out) rfl) ?_)
        first | refine rq_off rfl ?_ | (refine rq_on rfl ?_; (first | refine rq_v (op_b (b := true) rfl (beq_iff_eq.2 (by omega))) ?_ | refine rq_v (op_b (b := false) rfl (beq_eq_false_iff_ne.2 (by omega))) ?_ | refine rq_v (op_pure rfl) ?_))
        first | refine rq_off rfl ?_ | (refine rq_on rfl ?_; refine rq_v (op_pure rfl) ?_)
        first | refine rq_off rfl ?_ | (refine rq_on rfl ?_; refine rq_v (op_pure rfl) ?_)
        first | refine rq_off rfl ?_ | (refine rq_on rfl ?_; refine rq_v (op_pure rfl) ?_)
        first | refine rq_off rfl ?_ | (refine rq_on rfl ?_; refine rq_v (op_pure rfl) ?_)
        iterate 3 refine rq_v (op_pure rfl) ?_
        refine rq_nil ?_
        intro w1_ g1_
        have S := S.gr g1_
        first | refine rw_end ?_ | (refine rw_nil ?_; show CW _ _ _ _ _ _) | refine rw_nil ?_
        repeat refine cw_seq ?_
        refine cw_ret ?_
        repeat first | refine ret_then ?_ | refine ret_inb ?_
        exact res2 rfl rfl ⟨by rw [hok]; first | done | rfl, S.out⟩
      · skip
        have S := St.start W
        refine Fn_enter Try.func127 rfl Try.results127 Try.ntmps127 (by kernel_rfl) (by kernel_rfl) ?_
        repeat refine cw_seq ?_
        refine cw_region ?_
        iterate 2 refine rw_v (op_pure rfl) ?_
        first | refine rw_end ?_ | (refine rw_nil ?_; show CW _ _ _ _ _ _) | refine rw_nil ?_
        repeat refine cw_seq ?_
        refine cw_region ?_
        iterate 2 refine rw_v (op_pure rfl) ?_
        refine rw_v (op_rng rfl (by omega)) ?_
        refine rw_v (op_pure rfl) ?_
        first | refine rw_end ?_ | (refine rw_nil ?_; show CW _ _ _ _ _ _) | refine rw_nil ?_
        repeat refine cw_seq ?_
        refine cw_region ?_
        refine rw_v (op_pure rfl) ?_
        first | refine rw_v (op_b (b := true) rfl (beq_iff_eq.2 (by omega))) ?_ | refine rw_v (op_b (b := false) rfl (beq_eq_false_iff_ne.2 (by omega))) ?_ | refine rw_v (op_pure rfl) ?_
        refine rw_v (op_pure rfl) ?_
        first | refine rw_off rfl ?_ | (refine rw_on rfl ?_; refine rw_v (op_pure rfl) ?_)
        first | refine rw_off rfl ?_ | (refine rw_on rfl ?_; (first | refine rw_v (op_b (b := true) rfl (beq_iff_eq.2 (by omega))) ?_ | refine rw_v (op_b (b := false) rfl (beq_eq_false_iff_ne.2 (by omega))) ?_ | refine rw_v (op_pure rfl) ?_))
        iterate 2 refine rw_v (op_pure rfl) ?_
        first | refine rw_end ?_ | (refine rw_nil ?_; show CW _ _ _ _ _ _) | refine rw_nil ?_
        repeat refine cw_seq ?_
        refine cw_draw (C := fun wq => Gr W wq) [0, 1, 2, 3, 4, 5, 6, 7, 8, 9, 10, 11, 12, 13, 14, 15, 16, 17, 18, 19, 20, 21, 22, 23, 24, 25, 26, 27, 28, 29, 30, 31, 32, 33, 34, 35, 36, 37, 38, 39, 40, 41, 42, 43, 44, 45, 46, 47, 48, 49, 50] [] (by kernel_rfl) (by kernel_rfl) (Gr.drew _) ?_
        simp only [pickL, List.drop_succ_cons, List.drop_zero]
        iterate 2 refine rq_v (op_pure rfl) ?_
        first | refine rq_v (op_b (b := true) rfl (decide_eq_true (by omega))) ?_ | refine rq_v (op_b (b := false) rfl (decide_eq_false (by omega))) ?_ | refine rq_v (op_pure rfl) ?_
        refine rq_v (op_pure rfl) ?_
        first | refine rq_off rfl ?_ | (refine rq_on rfl ?_; refine rq_v (op_pure rfl) ?_)
        first | refine rq_off rfl ?_ | (refine rq_on rfl ?_; refine rq_v (op_pure rfl) ?_)
        first | refine rq_off rfl ?_ | (refine rq_on rfl ?_; refine rq_v (op_pure rfl) ?_)
        first | refine rq_off rfl ?_ | (refine rq_on rfl ?_; refine rq_v (op_fieldAddr Try.underlying106 rfl Try.sizeOf22 rfl rfl) ?_)
        first | refine rq_off rfl ?_ | (refine rq_on rfl ?_; refine rq_r (fun wq hq => op_loadB Try.underlying22 rfl rfl (hB.gr (S.gr hq).out) rfl) ?_)
        first | refine rq_off rfl ?_ | (refine rq_on rfl ?_; refine rq_v (op_len Try.underlying22 rfl) ?_)
        first | refine rq_off rfl ?_ | (refine rq_on rfl ?_; (first | refine rq_v (op_b (b := true) rfl (decide_eq_true (by omega))) ?_ | refine rq_v (op_b (b := false) rfl (decide_eq_false (by omega))) ?_ | refine rq_v (op_pure rfl) ?_))
        iterate 2 refine rq_v (op_pure rfl) ?_
        first | refine rq_off rfl ?_ | (refine rq_on rfl ?_; refine rq_v (op_pure rfl) ?_)
        first | refine rq_off rfl ?_ | (refine rq_on rfl ?_; refine rq_v (op_pure rfl) ?_)
        first | refine rq_off rfl ?_ | (refine rq_on rfl ?_; refine rq_v (op_fieldAddr Try.underlying106 rfl Try.sizeOf3 rfl rfl) ?_)
        first | refine rq_off rfl ?_ | (refine rq_on rfl ?_; refine rq_r (fun wq hq => op_loadB Try.underlying3 rfl rfl (hB.gr (S.gr hq).out) rfl) ?_)
        first | refine rq_off rfl ?_ | (refine rq_on rfl ?_; (first | refine rq_v (op_b (b := true) rfl (beq_iff_eq.2 (by omega))) ?_ | refine rq_v (op_b (b := false) rfl (beq_eq_false_iff_ne.2 (by omega))) ?_ | refine rq_v (op_pure rfl) ?_))
        first | refine rq_off rfl ?_ | (refine rq_on rfl ?_; refine rq_v (op_pure rfl) ?_)
        first | refine rq_off rfl ?_ | (refine rq_on rfl ?_; refine rq_v (op_pure rfl) ?_)
        first | refine rq_off rfl ?_ | (refine rq_on rfl ?_; refine rq_v (op_pure rfl) ?_)
        first | refine rq_off rfl ?_ | (refine rq_on rfl ?_; refine rq_v (op_pure rfl) ?_)
        first | refine rq_off rfl ?_ | (refine rq_on rfl ?_; refine rq_v (op_pure rfl) ?_)
        first | refine rq_off rfl ?_ | (refine rq_on rfl ?_; refine rq_v (op_pure rfl) ?_)
        first | refine rq_off rfl ?_ | (refine rq_on rfl ?_; refine rq_v (op_pure rfl) ?_)
        first | refine rq_off rfl ?_ | (refine rq_on rfl ?_; refine rq_v (op_pure rfl) ?_)
        first | refine rq_off rfl ?_ | (refine rq_on rfl ?_; refine rq_v (op_fieldAddr Try.underlying106 rfl Try.sizeOf3 rfl rfl) ?_)
        first | refine rq_off rfl ?_ | (refine rq_on rfl ?_; refine rq_r (fun wq hq => op_loadB Try.underlying3 rfl rfl (hB.gr (S.gr hq).out) rfl) ?_)
        first | refine rq_off rfl ?_ | (refine rq_on rfl ?_; refine rq_v (op_div rfl rfl (by omega) (by omega)) ?_)
        first | refine rq_off rfl ?_ | (refine rq_on rfl ?_; refine rq_v (op_pure rfl) ?_)
        first | refine rq_off rfl ?_ | (refine rq_on rfl ?_; refine rq_v (op_pure rfl) ?_)
        first | refine rq_off rfl ?_ | (refine rq_on rfl ?_; refine rq_v (op_pure rfl) ?_)
        first | refine rq_off rfl ?_ | (refine rq_on rfl ?_; refine rq_v (op_fieldAddr Try.underlying106 rfl Try.sizeOf3 rfl rfl) ?_)
        first | refine rq_off rfl ?_ | (refine rq_on rfl ?_; refine rq_r (fun wq hq => op_loadB Try.underlying3 rfl rfl (hB.gr (S.gr hq).out) rfl) ?_)
        first | refine rq_off rfl ?_ | (refine rq_on rfl ?_; refine rq_v (op_div rfl rfl (by omega) (by omega)) ?_)
        first | refine rq_off rfl ?_ | (refine rq_on rfl ?_; (first | refine rq_v (op_b (b := true) rfl (beq_iff_eq.2 (by omega))) ?_ | refine rq_v (op_b (b := false) rfl (beq_eq_false_iff_ne.2 (by omega))) ?_ | refine rq_v (op_pure rfl) ?_))
        first | refine rq_off rfl ?_ | (refine rq_on rfl ?_; refine rq_v (op_pure rfl) ?_)
        iterate 2 refine rq_v (op_pure rfl) ?_
        first | refine rq_off rfl ?_ | (refine rq_on rfl ?_; refine rq_v (op_pure rfl) ?_)
        first | refine rq_off rfl ?_ | (refine rq_on rfl ?_; refine rq_v (op_pure rfl) ?_)
        first | refine rq_off rfl ?_ | (refine rq_on rfl ?_; refine rq_v (op_fieldAddr Try.underlying106 rfl Try.sizeOf3 rfl rfl) ?_)
        first | refine rq_off rfl ?_ | (refine rq_on rfl ?_; refine rq_r (fun wq hq => op_loadB Try.underlying3 rfl rfl (hB.gr (S.gr hq).out) rfl) ?_)
        first | refine rq_off rfl ?_ | (refine rq_on rfl ?_; (first | refine rq_v (op_b (b := true) rfl (beq_iff_eq.2 (by omega))) ?_ | refine rq_v (op_b (b := false) rfl (beq_eq_false_iff_ne.2 (by omega))) ?_ | refine rq_v (op_pure rfl) ?_))
        first | refine rq_off rfl ?_ | (refine rq_on rfl ?_; refine rq_v (op_pure rfl) ?_)
        first | refine rq_off rfl ?_ | (refine rq_on rfl ?_; refine rq_v (op_pure rfl) ?_)
        first | refine rq_off rfl ?_ | (refine rq_on rfl ?_; refine rq_v (op_pure rfl) ?_)
        first | refine rq_off rfl ?_ | (refine rq_on rfl ?_; refine rq_v (op_pure rfl) ?_)
        iterate 3 refine rq_v (op_pure rfl) ?_
        refine rq_nil ?_
        intro w1_ g1_
        have S := S.gr g1_
        first | refine rw_end ?_ | (refine rw_nil ?_; show CW _ _ _ _ _ _) | refine rw_nil ?_
        repeat refine cw_seq ?_
        refine cw_ret ?_
        repeat first | refine ret_then ?_ | refine ret_inb ?_
        exact res2 rfl rfl ⟨by rw [hok]; first | done | rfl, S.out⟩
    · rw [show dirS 1 1 = -1 from rfl] at *
      by_cases g2 : 1 ≤ i
      · skip
        have S := St.start W
        refine Fn_enter Try.func127 rfl Try.results127 Try.ntmps127 (by kernel_rfl) (by kernel_rfl) ?_
        repeat refine cw_seq ?_
        refine cw_region ?_
        iterate 2 refine rw_v (op_pure rfl) ?_
        first | refine rw_end ?_ | (refine rw_nil ?_; show CW _ _ _ _ _ _) | refine rw_nil ?_
        repeat refine cw_seq ?_
        refine cw_region ?_
        iterate 2 refine rw_v (op_pure rfl) ?_
        refine rw_v (op_rng rfl (by omega)) ?_
        refine rw_v (op_pure rfl) ?_
        first | refine rw_end ?_ | (refine rw_nil ?_; show CW _ _ _ _ _ _) | refine rw_nil ?_
        repeat refine cw_seq ?_
        refine cw_region ?_
        refine rw_v (op_pure rfl) ?_
        first | refine rw_v (op_b (b := true) rfl (beq_iff_eq.2 (by omega))) ?_ | refine rw_v (op_b (b := false) rfl (beq_eq_false_iff_ne.2 (by omega))) ?_ | refine rw_v (op_pure rfl) ?_
        refine rw_v (op_pure rfl) ?_
        first | refine rw_off rfl ?_ | (refine rw_on rfl ?_; refine rw_v (op_pure rfl) ?_)
        first | refine rw_off rfl ?_ | (refine rw_on rfl ?_; (first | refine rw_v (op_b (b := true) rfl (beq_iff_eq.2 (by omega))) ?_ | refine rw_v (op_b (b := false) rfl (beq_eq_false_iff_ne.2 (by omega))) ?_ | refine rw_v (op_pure rfl) ?_))
        iterate 2 refine rw_v (op_pure rfl) ?_
        first | refine rw_end ?_ | (refine rw_nil ?_; show CW _ _ _ _ _ _) | refine rw_nil ?_
        repeat refine cw_seq ?_
        refine cw_draw (C := fun wq => Gr W wq) [0, 1, 2, 3, 4, 5, 6, 7, 8, 9, 10, 11, 12, 13, 14, 15, 16, 17, 18, 19, 20, 21, 22, 23, 24, 25, 26, 27, 28, 29, 30, 31, 32, 33, 34, 35, 36, 37, 38, 39, 40, 41, 42, 43, 44, 45, 46, 47, 48, 49, 50] [] (by kernel_rfl) (by kernel_rfl) (Gr.drew _) ?_
        simp only [pickL, List.drop_succ_cons, List.drop_zero]
        iterate 2 refine rq_v (op_pure rfl) ?_
        first | refine rq_v (op_b (b := true) rfl (decide_eq_true (by omega))) ?_ | refine rq_v (op_b (b := false) rfl (decide_eq_false (by omega))) ?_ | refine rq_v (op_pure rfl) ?_
        refine rq_v (op_pure rfl) ?_
        first | refine rq_off rfl ?_ | (refine rq_on rfl ?_; refine rq_v (op_pure rfl) ?_)
        first | refine rq_off rfl ?_ | (refine rq_on rfl ?_; refine rq_v (op_pure rfl) ?_)
        first | refine rq_off rfl ?_ | (refine rq_on rfl ?_; refine rq_v (op_pure rfl) ?_)
        first | refine rq_off rfl ?_ | (refine rq_on rfl ?_; refine rq_v (op_fieldAddr Try.underlying106 rfl Try.sizeOf22 rfl rfl) ?_)
        first | refine rq_off rfl ?_ | (refine rq_on rfl ?_; refine rq_r (fun wq hq => op_loadB Try.underlying22 rfl rfl (hB.gr (S.gr hq).out) rfl) ?_)
        first | refine rq_off rfl ?_ | (refine rq_on rfl ?_; refine rq_v (op_len Try.underlying22 rfl) ?_)
        first | refine rq_off rfl ?_ | (refine rq_on rfl ?_; (first | refine rq_v (op_b (b := true) rfl (decide_eq_true (by omega))) ?_ | refine rq_v (op_b (b := false) rfl (decide_eq_false (by omega))) ?_ | refine rq_v (op_pure rfl) ?_))
        iterate 2 refine rq_v (op_pure rfl) ?_
        first | refine rq_off rfl ?_ | (refine rq_on rfl ?_; refine rq_v (op_pure rfl) ?_)
        first | refine rq_off rfl ?_ | (refine rq_on rfl ?_; refine rq_v (op_pure rfl) ?_)
        first | refine rq_off rfl ?_ | (refine rq_on rfl ?_; refine rq_v (op_fieldAddr Try.underlying106 rfl Try.sizeOf3 rfl rfl) ?_)
        first | refine rq_off rfl ?_ | (refine rq_on rfl ?_; refine rq_r (fun wq hq => op_loadB Try.underlying3 rfl rfl (hB.gr (S.gr hq).out) rfl) ?_)
        first | refine rq_off rfl ?_ | (refine rq_on rfl ?_; (first | refine rq_v (op_b (b := true) rfl (beq_iff_eq.2 (by omega))) ?_ | refine rq_v (op_b (b := false) rfl (beq_eq_false_iff_ne.2 (by omega))) ?_ | refine rq_v (op_pure rfl) ?_))
        first | refine rq_off rfl ?_ | (refine rq_on rfl ?_; refine rq_v (op_pure rfl) ?_)
        first | refine rq_off rfl ?_ | (refine rq_on rfl ?_; refine rq_v (op_pure rfl) ?_)
        first | refine rq_off rfl ?_ | (refine rq_on rfl ?_; refine rq_v (op_pure rfl) ?_)
        first | refine rq_off rfl ?_ | (refine rq_on rfl ?_; refine rq_v (op_pure rfl) ?_)
        first | refine rq_off rfl ?_ | (refine rq_on rfl ?_; refine rq_v (op_pure rfl) ?_)
        first | refine rq_off rfl ?_ | (refine rq_on rfl ?_; refine rq_v (op_pure rfl) ?_)
        first | refine rq_off rfl ?_ | (refine rq_on rfl ?_; refine rq_v (op_pure rfl) ?_)
        first | refine rq_off rfl ?_ | (refine rq_on rfl ?_; refine rq_v (op_pure rfl) ?_)
        first | refine rq_off rfl ?_ | (refine rq_on rfl ?_; refine rq_v (op_fieldAddr Try.underlying106 rfl Try.sizeOf3 rfl rfl) ?_)
        first | refine rq_off rfl ?_ | (refine rq_on rfl ?_; refine rq_r (fun wq hq => op_loadB Try.underlying3 rfl rfl (hB.gr (S.gr hq).out) rfl) ?_)
        first | refine rq_off rfl ?_ | (refine rq_on rfl ?_; refine rq_v (op_div rfl rfl (by omega) (by omega)) ?_)
        first | refine rq_off rfl ?_ | (refine rq_on rfl ?_; refine rq_v (op_pure rfl) ?_)
        first | refine rq_off rfl ?_ | (refine rq_on rfl ?_; refine rq_v (op_pure rfl) ?_)
        first | refine rq_off rfl ?_ | (refine rq_on rfl ?_; refine rq_v (op_pure rfl) ?_)
        first | refine rq_off rfl ?_ | (refine rq_on rfl ?_; refine rq_v (op_fieldAddr Try.underlying106 rfl Try.sizeOf3 rfl rfl) ?_)
        first | refine rq_off rfl ?_ | (refine rq_on rfl ?_; refine rq_r (fun wq hq => op_loadB Try.underlying3 rfl rfl (hB.gr (S.gr hq).out) rfl) ?_)
        first | refine rq_off rfl ?_ | (refine rq_on rfl ?_; refine rq_v (op_div rfl rfl (by omega) (by omega)) ?_)
        first | refine rq_off rfl ?_ | (refine rq_on rfl ?_; (first | refine rq_v (op_b (b := true) rfl (beq_iff_eq.2 (by omega))) ?_ | refine rq_v (op_b (b := false) rfl (beq_eq_false_iff_ne.2 (by omega))) ?_ | refine rq_v (op_pure rfl) ?_))
        first | refine rq_off rfl ?_ | (refine rq_on rfl ?_; refine rq_v (op_pure rfl) ?_)
        iterate 2 refine rq_v (op_pure rfl) ?_
        first | refine rq_off rfl ?_ | (refine rq_on rfl ?_; refine rq_v (op_pure rfl) ?_)
        first | refine rq_off rfl ?_ | (refine rq_on rfl ?_; refine rq_v (op_pure rfl) ?_)
        first | refine rq_off rfl ?_ | (refine rq_on rfl ?_; refine rq_v (op_fieldAddr Try.underlying106 rfl Try.sizeOf3 rfl rfl) ?_)
        first | refine rq_off rfl ?_ | (refine rq_on rfl ?_; refine rq_r (fun wq hq => op_loadB Try.underlying3 rfl rfl (hB.gr (S.gr hq).out) rfl) ?_)
        first | refine rq_off rfl ?_ | (refine rq_on rfl ?_; (first | refine rq_v (op_b (b := true) rfl (beq_iff_eq.2 (by omega))) ?_ | refine rq_v (op_b (b := false) rfl (beq_eq_false_iff_ne.2 (by omega))) ?_ | refine rq_v (op_pure rfl) ?_))
        first | refine rq_off rfl ?_ | (refine rq_on rfl ?_; refine rq_v (op_pure rfl) ?_)
        first | refine rq_off rfl ?_ | (refine rq_on rfl ?_; refine rq_v (op_pure rfl) ?_)
        first | refine rq_off rfl ?_ | (refine rq_on rfl ?_; refine rq_v (op_pure rfl) ?_)
        first | refine rq_off rfl ?_ | (refine rq_on rfl ?_; refine rq_v (op_pure rfl) ?_)
        iterate 3 refine rq_v (op_pure rfl) ?_
        refine rq_nil ?_
        intro w1_ g1_
        have S := S.gr g1_
        first | refine rw_end ?_ | (refine rw_nil ?_; show CW _ _ _ _ _ _) | refine rw_nil ?_
        repeat refine cw_seq ?_
        refine cw_ret ?_
        repeat first | refine ret_then ?_ | refine ret_inb ?_
        exact res2 rfl rfl ⟨by rw [hok]; first | done | rfl, S.out⟩
      · skip
        have S := St.start W
        refine Fn_enter Try.func127 rfl Try.results127 Try.ntmps127 (by kernel_rfl) (by kernel_rfl) ?_
        repeat refine cw_seq ?_
        refine cw_region ?_
        iterate 2 refine rw_v (op_pure rfl) ?_
        first | refine rw_end ?_ | (refine rw_nil ?_; show CW _ _ _ _ _ _) | refine rw_nil ?_
        repeat refine cw_seq ?_
        refine cw_region ?_
        iterate 2 refine rw_v (op_pure rfl) ?_
        refine rw_v (op_rng rfl (by omega)) ?_
        refine rw_v (op_pure rfl) ?_
        first | refine rw_end ?_ | (refine rw_nil ?_; show CW _ _ _ _ _ _) | refine rw_nil ?_
        repeat refine cw_seq ?_
        refine cw_region ?_
        refine rw_v (op_pure rfl) ?_
        first | refine rw_v (op_b (b := true) rfl (beq_iff_eq.2 (by omega))) ?_ | refine rw_v (op_b (b := false) rfl (beq_eq_false_iff_ne.2 (by omega))) ?_ | refine rw_v (op_pure rfl) ?_
        refine rw_v (op_pure rfl) ?_
        first | refine rw_off rfl ?_ | (refine rw_on rfl ?_; refine rw_v (op_pure rfl) ?_)
        first | refine rw_off rfl ?_ | (refine rw_on rfl ?_; (first | refine rw_v (op_b (b := true) rfl (beq_iff_eq.2 (by omega))) ?_ | refine rw_v (op_b (b := false) rfl (beq_eq_false_iff_ne.2 (by omega))) ?_ | refine rw_v (op_pure rfl) ?_))
        iterate 2 refine rw_v (op_pure rfl) ?_
        first | refine rw_end ?_ | (refine rw_nil ?_; show CW _ _ _ _ _ _) | refine rw_nil ?_
        repeat refine cw_seq ?_
        refine cw_draw (C := fun wq => Gr W wq) [0, 1, 2, 3, 4, 5, 6, 7, 8, 9, 10, 11, 12, 13, 14, 15, 16, 17, 18, 19, 20, 21, 22, 23, 24, 25, 26, 27, 28, 29, 30, 31, 32, 33, 34, 35, 36, 37, 38, 39, 40, 41, 42, 43, 44, 45, 46, 47, 48, 49, 50] [] (by kernel_rfl) (by kernel_rfl) (Gr.drew _) ?_
        simp only [pickL, List.drop_succ_cons, List.drop_zero]
        iterate 2 refine rq_v (op_pure rfl) ?_
        first | refine rq_v (op_b (b := true) rfl (decide_eq_true (by omega))) ?_ | refine rq_v (op_b (b := false) rfl (decide_eq_false (by omega))) ?_ | refine rq_v (op_pure rfl) ?_
        refine rq_v (op_pure rfl) ?_
        first | refine rq_off rfl ?_ | (refine rq_on rfl ?_; refine rq_v (op_pure rfl) ?_)
        first | refine rq_off rfl ?_ | (refine rq_on rfl ?_; refine rq_v (op_pure rfl) ?_)
        first | refine rq_off rfl ?_ | (refine rq_on rfl ?_; refine rq_v (op_pure rfl) ?_)
        first | refine rq_off rfl ?_ | (refine rq_on rfl ?_; refine rq_v (op_fieldAddr Try.underlying106 rfl Try.sizeOf22 rfl rfl) ?_)
        first | refine rq_off rfl ?_ | (refine rq_on rfl ?_; refine rq_r (fun wq hq => op_loadB Try.underlying22 rfl rfl (hB.gr (S.gr hq).out) rfl) ?_)
        first | refine rq_off rfl ?_ | (refine rq_on rfl ?_; refine rq_v (op_len Try.underlying22 rfl) ?_)
        first | refine rq_off rfl ?_ | (refine rq_on rfl ?_; (first | refine rq_v (op_b (b := true) rfl (decide_eq_true (by omega))) ?_ | refine rq_v (op_b (b := false) rfl (decide_eq_false (by omega))) ?_ | refine rq_v (op_pure rfl) ?_))
        iterate 2 refine rq_v (op_pure rfl) ?_
        first | refine rq_off rfl ?_ | (refine rq_on rfl ?_; refine rq_v (op_pure rfl) ?_)
        first | refine rq_off rfl ?_ | (refine rq_on rfl ?_; refine rq_v (op_pure rfl) ?_)
        first | refine rq_off rfl ?_ | (refine rq_on rfl ?_; refine rq_v (op_fieldAddr Try.underlying106 rfl Try.sizeOf3 rfl rfl) ?_)
        first | refine rq_off rfl ?_ | (refine rq_on rfl ?_; refine rq_r (fun wq hq => op_loadB Try.underlying3 rfl rfl (hB.gr (S.gr hq).out) rfl) ?_)
        first | refine rq_off rfl ?_ | (refine rq_on rfl ?_; (first | refine rq_v (op_b (b := true) rfl (beq_iff_eq.2 (by omega))) ?_ | refine rq_v (op_b (b := false) rfl (beq_eq_false_iff_ne.2 (by omega))) ?_ | refine rq_v (op_pure rfl) ?_))
        first | refine rq_off rfl ?_ | (refine rq_on rfl ?_; refine rq_v (op_pure rfl) ?_)
        first | refine rq_off rfl ?_ | (refine rq_on rfl ?_; refine rq_v (op_pure rfl) ?_)
        first | refine rq_off rfl ?_ | (refine rq_on rfl ?_; refine rq_v (op_pure rfl) ?_)
        first | refine rq_off rfl ?_ | (refine rq_on rfl ?_; refine rq_v (op_pure rfl) ?_)
        first | refine rq_off rfl ?_ | (refine rq_on rfl ?_; refine rq_v (op_pure rfl) ?_)
        first | refine rq_off rfl ?_ | (refine rq_on rfl ?_; refine rq_v (op_pure rfl) ?_)
        first | refine rq_off rfl ?_ | (refine rq_on rfl ?_; refine rq_v (op_pure rfl) ?_)
        first | refine rq_off rfl ?_ | (refine rq_on rfl ?_; refine rq_v (op_pure rfl) ?_)
        first | refine rq_off rfl ?_ | (refine rq_on rfl ?_; refine rq_v (op_fieldAddr Try.underlying106 rfl Try.sizeOf3 rfl rfl) ?_)
        first | refine rq_off rfl ?_ | (refine rq_on rfl ?_; refine rq_r (fun wq hq => op_loadB Try.underlying3 rfl rfl (hB.gr (S.gr hq).out) rfl) ?_)
        first | refine rq_off rfl ?_ | (refine rq_on rfl ?_; refine rq_v (op_div rfl rfl (by omega) (by omega)) ?_)
        first | refine rq_off rfl ?_ | (refine rq_on rfl ?_; refine rq_v (op_pure rfl) ?_)
        first | refine rq_off rfl ?_ | (refine rq_on rfl ?_; refine rq_v (op_pure rfl) ?_)
        first | refine rq_off rfl ?_ | (refine rq_on rfl ?_; refine rq_v (op_pure rfl) ?_)
        first | refine rq_off rfl ?_ | (refine rq_on rfl ?_; refine rq_v (op_fieldAddr Try.underlying106 rfl Try.sizeOf3 rfl rfl) ?_)
        first | refine rq_off rfl ?_ | (refine rq_on rfl ?_; refine rq_r (fun wq hq => op_loadB Try.underlying3 rfl rfl (hB.gr (S.gr hq).out) rfl) ?_)
        first | refine rq_off rfl ?_ | (refine rq_on rfl ?_; refine rq_v (op_div rfl rfl (by omega) (by omega)) ?_)
        first | refine rq_off rfl ?_ | (refine rq_on rfl ?_; (first | refine rq_v (op_b (b := true) rfl (beq_iff_eq.2 (by omega))) ?_ | refine rq_v (op_b (b := false) rfl (beq_eq_false_iff_ne.2 (by omega))) ?_ | refine rq_v (op_pure rfl) ?_))
        first | refine rq_off rfl ?_ | (refine rq_on rfl ?_; refine rq_v (op_pure rfl) ?_)
        iterate 2 refine rq_v (op_pure rfl) ?_
        first | refine rq_off rfl ?_ | (refine rq_on rfl ?_; refine rq_v (op_pure rfl) ?_)
        first | refine rq_off rfl ?_ | (refine rq_on rfl ?_; refine rq_v (op_pure rfl) ?_)
        first | refine rq_off rfl ?_ | (refine rq_on rfl ?_; refine rq_v (op_fieldAddr Try.underlying106 rfl Try.sizeOf3 rfl rfl) ?_)
        first | refine rq_off rfl ?_ | (refine rq_on rfl ?_; refine rq_r (fun wq hq => op_loadB Try.underlying3 rfl rfl (hB.gr (S.gr hq).out) rfl) ?_)
        first | refine rq_off rfl ?_ | (refine rq_on rfl ?_; (first | refine rq_v (op_b (b := true) rfl (beq_iff_eq.2 (by omega))) ?_ | refine rq_v (op_b (b := false) rfl (beq_eq_false_iff_ne.2 (by omega))) ?_ | refine rq_v (op_pure rfl) ?_))
        first | refine rq_off rfl ?_ | (refine rq_on rfl ?_; refine rq_v (op_pure rfl) ?_)
        first | refine rq_off rfl ?_ | (refine rq_on rfl ?_; refine rq_v (op_pure rfl) ?_)
        first | refine rq_off rfl ?_ | (refine rq_on rfl ?_; refine rq_v (op_pure rfl) ?_)
        first | refine rq_off rfl ?_ | (refine rq_on rfl ?_; refine rq_v (op_pure rfl) ?_)
        iterate 3 refine rq_v (op_pure rfl) ?_
        refine rq_nil ?_
        intro w1_ g1_
        have S := S.gr g1_
        first | refine rw_end ?_ | (refine rw_nil ?_; show CW _ _ _ _ _ _) | refine rw_nil ?_
        repeat refine cw_seq ?_
        refine cw_ret ?_
        repeat first | refine ret_then ?_ | refine ret_inb ?_
        exact res2 rfl rfl ⟨by rw [hok]; first | done | rfl, S.out⟩
    · rw [show dirS 1 2 = 1 from rfl] at *
      by_cases g2 : i + 1 < n
      · skip
        have S := St.start W
        refine Fn_enter Try.func127 rfl Try.results127 Try.ntmps127 (by kernel_rfl) (by kernel_rfl) ?_
        repeat refine cw_seq ?_
        refine cw_region ?_
        iterate 2 refine rw_v (op_pure rfl) ?_
        first | refine rw_end ?_ | (refine rw_nil ?_; show CW _ _ _ _ _ _) | refine rw_nil ?_
        repeat refine cw_seq ?_
        refine cw_region ?_
        iterate 2 refine rw_v (op_pure rfl) ?_
        refine rw_v (op_rng rfl (by omega)) ?_
        refine rw_v (op_pure rfl) ?_
        first | refine rw_end ?_ | (refine rw_nil ?_; show CW _ _ _ _ _ _) | refine rw_nil ?_
        repeat refine cw_seq ?_
        refine cw_region ?_
        refine rw_v (op_pure rfl) ?_
        first | refine rw_v (op_b (b := true) rfl (beq_iff_eq.2 (by omega))) ?_ | refine rw_v (op_b (b := false) rfl (beq_eq_false_iff_ne.2 (by omega))) ?_ | refine rw_v (op_pure rfl) ?_
        refine rw_v (op_pure rfl) ?_
        first | refine rw_off rfl ?_ | (refine rw_on rfl ?_; refine rw_v (op_pure rfl) ?_)
        first | refine rw_off rfl ?_ | (refine rw_on rfl ?_; (first | refine rw_v (op_b (b := true) rfl (beq_iff_eq.2 (by omega))) ?_ | refine rw_v (op_b (b := false) rfl (beq_eq_false_iff_ne.2 (by omega))) ?_ | refine rw_v (op_pure rfl) ?_))
        iterate 2 refine rw_v (op_pure rfl) ?_
        first | refine rw_end ?_ | (refine rw_nil ?_; show CW _ _ _ _ _ _) | refine rw_nil ?_
        repeat refine cw_seq ?_
        refine cw_draw (C := fun wq => Gr W wq) [0, 1, 2, 3, 4, 5, 6, 7, 8, 9, 10, 11, 12, 13, 14, 15, 16, 17, 18, 19, 20, 21, 22, 23, 24, 25, 26, 27, 28, 29, 30, 31, 32, 33, 34, 35, 36, 37, 38, 39, 40, 41, 42, 43, 44, 45, 46, 47, 48, 49, 50] [] (by kernel_rfl) (by kernel_rfl) (Gr.drew _) ?_
        simp only [pickL, List.drop_succ_cons, List.drop_zero]
        iterate 2 refine rq_v (op_pure rfl) ?_
        first | refine rq_v (op_b (b := true) rfl (decide_eq_true (by omega))) ?_ | refine rq_v (op_b (b := false) rfl (decide_eq_false (by omega))) ?_ | refine rq_v (op_pure rfl) ?_
        refine rq_v (op_pure rfl) ?_
        first | refine rq_off rfl ?_ | (refine rq_on rfl ?_; refine rq_v (op_pure rfl) ?_)
        first | refine rq_off rfl ?_ | (refine rq_on rfl ?_; refine rq_v (op_pure rfl) ?_)
        first | refine rq_off rfl ?_ | (refine rq_on rfl ?_; refine rq_v (op_pure rfl) ?_)
        first | refine rq_off rfl ?_ | (refine rq_on rfl ?_; refine rq_v (op_fieldAddr Try.underlying106 rfl Try.sizeOf22 rfl rfl) ?_)
        first | refine rq_off rfl ?_ | (refine rq_on rfl ?_; refine rq_r (fun wq hq => op_loadB Try.underlying22 rfl rfl (hB.gr (S.gr hq).out) rfl) ?_)
        first | refine rq_off rfl ?_ | (refine rq_on rfl ?_; refine rq_v (op_len Try.underlying22 rfl) ?_)
        first | refine rq_off rfl ?_ | (refine rq_on rfl ?_; (first | refine rq_v (op_b (b := true) rfl (decide_eq_true (by omega))) ?_ | refine rq_v (op_b (b := false) rfl (decide_eq_false (by omega))) ?_ | refine rq_v (op_pure rfl) ?_))
        iterate 2 refine rq_v (op_pure rfl) ?_
        first | refine rq_off rfl ?_ | (refine rq_on rfl ?_; refine rq_v (op_pure rfl) ?_)
        first | refine rq_off rfl ?_ | (refine rq_on rfl ?_; refine rq_v (op_pure rfl) ?_)
        first | refine rq_off rfl ?_ | (refine rq_on rfl ?_; refine rq_v (op_fieldAddr Try.underlying106 rfl Try.sizeOf3 rfl rfl) ?_)
        first | refine rq_off rfl ?_ | (refine rq_on rfl ?_; refine rq_r (fun wq hq => op_loadB Try.underlying3 rfl rfl (hB.gr (S.gr hq).out) rfl) ?_)
        first | refine rq_off rfl ?_ | (refine rq_on rfl ?_; (first | refine rq_v (op_b (b := true) rfl (beq_iff_eq.2 (by omega))) ?_ | refine rq_v (op_b (b := false) rfl (beq_eq_false_iff_ne.2 (by omega))) ?_ | refine rq_v (op_pure rfl) ?_))
        first | refine rq_off rfl ?_ | (refine rq_on rfl ?_; refine rq_v (op_pure rfl) ?_)
        first | refine rq_off rfl ?_ | (refine rq_on rfl ?_; refine rq_v (op_pure rfl) ?_)
        first | refine rq_off rfl ?_ | (refine rq_on rfl ?_; refine rq_v (op_pure rfl) ?_)
        first | refine rq_off rfl ?_ | (refine rq_on rfl ?_; refine rq_v (op_pure rfl) ?_)
        first | refine rq_off rfl ?_ | (refine rq_on rfl ?_; refine rq_v (op_pure rfl) ?_)
        first | refine rq_off rfl ?_ | (refine rq_on rfl ?_; refine rq_v (op_pure rfl) ?_)
        first | refine rq_off rfl ?_ | (refine rq_on rfl ?_; refine rq_v (op_pure rfl) ?_)
        first | refine rq_off rfl ?_ | (refine rq_on rfl ?_; refine rq_v (op_pure rfl) ?_)
        first | refine rq_off rfl ?_ | (refine rq_on rfl ?_; refine rq_v (op_fieldAddr Try.underlying106 rfl Try.sizeOf3 rfl rfl) ?_)
        first | refine rq_off rfl ?_ | (refine rq_on rfl ?_; refine rq_r (fun wq hq => op_loadB Try.underlying3 rfl rfl (hB.gr (S.gr hq).out) rfl) ?_)
        first | refine rq_off rfl ?_ | (refine rq_on rfl ?_; refine rq_v (op_div rfl rfl (by omega) (by omega)) ?_)
        first | refine rq_off rfl ?_ | (refine rq_on rfl ?_; refine rq_v (op_pure rfl) ?_)
        first | refine rq_off rfl ?_ | (refine rq_on rfl ?_; refine rq_v (op_pure rfl) ?_)
        first | refine rq_off rfl ?_ | (refine rq_on rfl ?_; refine rq_v (op_pure rfl) ?_)
        first | refine rq_off rfl ?_ | (refine rq_on rfl ?_; refine rq_v (op_fieldAddr Try.underlying106 rfl Try.sizeOf3 rfl rfl) ?_)
        first | refine rq_off rfl ?_ | (refine rq_on rfl ?_; refine rq_r (fun wq hq => op_loadB Try.underlying3 rfl rfl (hB.gr (S.gr hq).out) rfl) ?_)
        first | refine rq_off rfl ?_ | (refine rq_on rfl ?_; refine rq_v (op_div rfl rfl (by omega) (by omega)) ?_)
        first | refine rq_off rfl ?_ | (refine rq_on rfl ?_; (first | refine rq_v (op_b (b := true) rfl (beq_iff_eq.2 (by omega))) ?_ | refine rq_v (op_b (b := false) rfl (beq_eq_false_iff_ne.2 (by omega))) ?_ | refine rq_v (op_pure rfl) ?_))
        first | refine rq_off rfl ?_ | (refine rq_on rfl ?_; refine rq_v (op_pure rfl) ?_)
        iterate 2 refine rq_v (op_pure rfl) ?_
        first | refine rq_off rfl ?_ | (refine rq_on rfl ?_; refine rq_v (op_pure rfl) ?_)
        first | refine rq_off rfl ?_ | (refine rq_on rfl ?_; refine rq_v (op_pure rfl) ?_)
        first | refine rq_off rfl ?_ | (refine rq_on rfl ?_; refine rq_v (op_fieldAddr Try.underlying106 rfl Try.sizeOf3 rfl rfl) ?_)
        first | refine rq_off rfl ?_ | (refine rq_on rfl ?_; refine rq_r (fun wq hq => op_loadB Try.underlying3 rfl rfl (hB.gr (S.gr hq).out) rfl) ?_)
        first | refine rq_off rfl ?_ | (refine rq_on rfl ?_; (first | refine rq_v (op_b (b := true) rfl (beq_iff_eq.2 (by omega))) ?_ | refine rq_v (op_b (b := false) rfl (beq_eq_false_iff_ne.2 (by omega))) ?_ | refine rq_v (op_pure rfl) ?_))
        first | refine rq_off rfl ?_ | (refine rq_on rfl ?_; refine rq_v (op_pure rfl) ?_)
        first | refine rq_off rfl ?_ | (refine rq_on rfl ?_; refine rq_v (op_pure rfl) ?_)
        first | refine rq_off rfl ?_ | (refine rq_on rfl ?_; refine rq_v (op_pure rfl) ?_)
        first | refine rq_off rfl ?_ | (refine rq_on rfl ?_; refine rq_v (op_pure rfl) ?_)
        iterate 3 refine rq_v (op_pure rfl) ?_
        refine rq_nil ?_
        intro w1_ g1_
        have S := S.gr g1_
        first | refine rw_end ?_ | (refine rw_nil ?_; show CW _ _ _ _ _ _) | refine rw_nil ?_
        repeat refine cw_seq ?_
        refine cw_ret ?_
        repeat first | refine ret_then ?_ | refine ret_inb ?_
        exact res2 rfl rfl ⟨by rw [hok]; first | done | rfl, S.out⟩
      · skip
        have S := St.start W
        refine Fn_enter Try.func127 rfl Try.results127 Try.ntmps127 (by kernel_rfl) (by kernel_rfl) ?_
        repeat refine cw_seq ?_
        refine cw_region ?_
        iterate 2 refine rw_v (op_pure rfl) ?_
        first | refine rw_end ?_ | (refine rw_nil ?_; show CW _ _ _ _ _ _) | refine rw_nil ?_
        repeat refine cw_seq ?_
        refine cw_region ?_
        iterate 2 refine rw_v (op_pure rfl) ?_
        refine rw_v (op_rng rfl (by omega)) ?_
        refine rw_v (op_pure rfl) ?_
        first | refine rw_end ?_ | (refine rw_nil ?_; show CW _ _ _ _ _ _) | refine rw_nil ?_
        repeat refine cw_seq ?_
        refine cw_region ?_
        refine rw_v (op_pure rfl) ?_
        first | refine rw_v (op_b (b := true) rfl (beq_iff_eq.2 (by omega))) ?_ | refine rw_v (op_b (b := false) rfl (beq_eq_false_iff_ne.2 (by omega))) ?_ | refine rw_v (op_pure rfl) ?_
        refine rw_v (op_pure rfl) ?_
        first | refine rw_off rfl ?_ | (refine rw_on rfl ?_; refine rw_v (op_pure rfl) ?_)
        first | refine rw_off rfl ?_ | (refine rw_on rfl ?_; (first | refine rw_v (op_b (b := true) rfl (beq_iff_eq.2 (by omega))) ?_ | refine rw_v (op_b (b := false) rfl (beq_eq_false_iff_ne.2 (by omega))) ?_ | refine rw_v (op_pure rfl) ?_))
        iterate 2 refine rw_v (op_pure rfl) ?_
        first | refine rw_end ?_ | (refine rw_nil ?_; show CW _ _ _ _ _ _) | refine rw_nil ?_
        repeat refine cw_seq ?_
        refine cw_draw (C := fun wq => Gr W wq) [0, 1, 2, 3, 4, 5, 6, 7, 8, 9, 10, 11, 12, 13, 14, 15, 16, 17, 18, 19, 20, 21, 22, 23, 24, 25, 26, 27, 28, 29, 30, 31, 32, 33, 34, 35, 36, 37, 38, 39, 40, 41, 42, 43, 44, 45, 46, 47, 48, 49, 50] [] (by kernel_rfl) (by kernel_rfl) (Gr.drew _) ?_
        simp only [pickL, List.drop_succ_cons, List.drop_zero]
        iterate 2 refine rq_v (op_pure rfl) ?_
        first | refine rq_v (op_b (b := true) rfl (decide_eq_true (by omega))) ?_ | refine rq_v (op_b (b := false) rfl (decide_eq_false (by omega))) ?_ | refine rq_v (op_pure rfl) ?_
        refine rq_v (op_pure rfl) ?_
        first | refine rq_off rfl ?_ | (refine rq_on rfl ?_; refine rq_v (op_pure rfl) ?_)
        first | refine rq_off rfl ?_ | (refine rq_on rfl ?_; refine rq_v (op_pure rfl) ?_)
        first | refine rq_off rfl ?_ | (refine rq_on rfl ?_; refine rq_v (op_pure rfl) ?_)
        first | refine rq_off rfl ?_ | (refine rq_on rfl ?_; refine rq_v (op_fieldAddr Try.underlying106 rfl Try.sizeOf22 rfl rfl) ?_)
        first | refine rq_off rfl ?_ | (refine rq_on rfl ?_; refine rq_r (fun wq hq => op_loadB Try.underlying22 rfl rfl (hB.gr (S.gr hq).out) rfl) ?_)
        first | refine rq_off rfl ?_ | (refine rq_on rfl ?_; refine rq_v (op_len Try.underlying22 rfl) ?_)
        first | refine rq_off rfl ?_ | (refine rq_on rfl ?_; (first | refine rq_v (op_b (b := true) rfl (decide_eq_true (by omega))) ?_ | refine rq_v (op_b (b := false) rfl (decide_eq_false (by omega))) ?_ | refine rq_v (op_pure rfl) ?_))
        iterate 2 refine rq_v (op_pure rfl) ?_
        first | refine rq_off rfl ?_ | (refine rq_on rfl ?_; refine rq_v (op_pure rfl) ?_)
        first | refine rq_off rfl ?_ | (refine rq_on rfl ?_; refine rq_v (op_pure rfl) ?_)
        first | refine rq_off rfl ?_ | (refine rq_on rfl ?_; refine rq_v (op_fieldAddr Try.underlying106 rfl Try.sizeOf3 rfl rfl) ?_)
        first | refine rq_off rfl ?_ | (refine rq_on rfl ?_; refine rq_r (fun wq hq => op_loadB Try.underlying3 rfl rfl (hB.gr (S.gr hq).out) rfl) ?_)
        first | refine rq_off rfl ?_ | (refine rq_on rfl ?_; (first | refine rq_v (op_b (b := true) rfl (beq_iff_eq.2 (by omega))) ?_ | refine rq_v (op_b (b := false) rfl (beq_eq_false_iff_ne.2 (by omega))) ?_ | refine rq_v (op_pure rfl) ?_))
        first | refine rq_off rfl ?_ | (refine rq_on rfl ?_; refine rq_v (op_pure rfl) ?_)
        first | refine rq_off rfl ?_ | (refine rq_on rfl ?_; refine rq_v (op_pure rfl) ?_)
        first | refine rq_off rfl ?_ | (refine rq_on rfl ?_; refine rq_v (op_pure rfl) ?_)
        first | refine rq_off rfl ?_ | (refine rq_on rfl ?_; refine rq_v (op_pure rfl) ?_)
        first | refine rq_off rfl ?_ | (refine rq_on rfl ?_; refine rq_v (op_pure rfl) ?_)
        first | refine rq_off rfl ?_ | (refine rq_on rfl ?_; refine rq_v (op_pure rfl) ?_)
        first | refine rq_off rfl ?_ | (refine rq_on rfl ?_; refine rq_v (op_pure rfl) ?_)
        first | refine rq_off rfl ?_ | (refine rq_on rfl ?_; refine rq_v (op_pure rfl) ?_)
        first | refine rq_off rfl ?_ | (refine rq_on rfl ?_; refine rq_v (op_fieldAddr Try.underlying106 rfl Try.sizeOf3 rfl rfl) ?_)
        first | refine rq_off rfl ?_ | (refine rq_on rfl ?_; refine rq_r (fun wq hq => op_loadB Try.underlying3 rfl rfl (hB.gr (S.gr hq).out) rfl) ?_)
        first | refine rq_off rfl ?_ | (refine rq_on rfl ?_; refine rq_v (op_div rfl rfl (by omega) (by omega)) ?_)
        first | refine rq_off rfl ?_ | (refine rq_on rfl ?_; refine rq_v (op_pure rfl) ?_)
        first | refine rq_off rfl ?_ | (refine rq_on rfl ?_; refine rq_v (op_pure rfl) ?_)
        first | refine rq_off rfl ?_ | (refine rq_on rfl ?_; refine rq_v (op_pure rfl) ?_)
        first | refine rq_off rfl ?_ | (refine rq_on rfl ?_; refine rq_v (op_fieldAddr Try.underlying106 rfl Try.sizeOf3 rfl rfl) ?_)
        first | refine rq_off rfl ?_ | (refine rq_on rfl ?_; refine rq_r (fun wq hq => op_loadB Try.underlying3 rfl rfl (hB.gr (S.gr hq).out) rfl) ?_)
        first | refine rq_off rfl ?_ | (refine rq_on rfl ?_; refine rq_v (op_div rfl rfl (by omega) (by omega)) ?_)
        first | refine rq_off rfl ?_ | (refine rq_on rfl ?_; (first | refine rq_v (op_b (b := true) rfl (beq_iff_eq.2 (by omega))) ?_ | refine rq_v (op_b (b := false) rfl (beq_eq_false_iff_ne.2 (by omega))) ?_ | refine rq_v (op_pure rfl) ?_))
        first | refine rq_off rfl ?_ | (refine rq_on rfl ?_; refine rq_v (op_pure rfl) ?_)
        iterate 2 refine rq_v (op_pure rfl) ?_
        first | refine rq_off rfl ?_ | (refine rq_on rfl ?_; refine rq_v (op_pure rfl) ?_)
        first | refine rq_off rfl ?_ | (refine rq_on rfl ?_; refine rq_v (op_pure rfl) ?_)
        first | refine rq_off rfl ?_ | (refine rq_on rfl ?_; refine rq_v (op_fieldAddr Try.underlying106 rfl Try.sizeOf3 rfl rfl) ?_)
        first | refine rq_off rfl ?_ | (refine rq_on rfl ?_; refine rq_r (fun wq hq => op_loadB Try.underlying3 rfl rfl (hB.gr (S.gr hq).out) rfl) ?_)
        first | refine rq_off rfl ?_ | (refine rq_on rfl ?_; (first | refine rq_v (op_b (b := true) rfl (beq_iff_eq.2 (by omega))) ?_ | refine rq_v (op_b (b := false) rfl (beq_eq_false_iff_ne.2 (by omega))) ?_ | refine rq_v (op_pure rfl) ?_))
        first | refine rq_off rfl ?_ | (refine rq_on rfl ?_; refine rq_v (op_pure rfl) ?_)
        first | refine rq_off rfl ?_ | (refine rq_on rfl ?_; refine rq_v (op_pure rfl) ?_)
        first | refine rq_off rfl ?_ | (refine rq_on rfl ?_; refine rq_v (op_pure rfl) ?_)
        first | refine rq_off rfl ?_ | (refine rq_on rfl ?_; refine rq_v (op_pure rfl) ?_)
        iterate 3 refine rq_v (op_pure rfl) ?_
        refine rq_nil ?_
        intro w1_ g1_
        have S := S.gr g1_
        first | refine rw_end ?_ | (refine rw_nil ?_; show CW _ _ _ _ _ _) | refine rw_nil ?_
        repeat refine cw_seq ?_
        refine cw_ret ?_
        repeat first | refine ret_then ?_ | refine ret_inb ?_
        exact res2 rfl rfl ⟨by rw [hok]; first | done | rfl, S.out⟩
    · rw [show dirS 1 3 = 1 from rfl] at *
      by_cases g2 : i + 1 < n
      · skip
        have S := St.start W
        refine Fn_enter Try.func127 rfl Try.results127 Try.ntmps127 (by kernel_rfl) (by kernel_rfl) ?_
        repeat refine cw_seq ?_
        refine cw_region ?_
        iterate 2 refine rw_v (op_pure rfl) ?_
        first | refine rw_end ?_ | (refine rw_nil ?_; show CW _ _ _ _ _ _) | refine rw_nil ?_
        repeat refine cw_seq ?_
        refine cw_region ?_
        iterate 2 refine rw_v (op_pure rfl) ?_
        refine rw_v (op_rng rfl (by omega)) ?_
        refine rw_v (op_pure rfl) ?_
        first | refine rw_end ?_ | (refine rw_nil ?_; show CW _ _ _ _ _ _) | refine rw_nil ?_
        repeat refine cw_seq ?_
        refine cw_region ?_
        refine rw_v (op_pure rfl) ?_
        first | refine rw_v (op_b (b := true) rfl (beq_iff_eq.2 (by omega))) ?_ | refine rw_v (op_b (b := false) rfl (beq_eq_false_iff_ne.2 (by omega))) ?_ | refine rw_v (op_pure rfl) ?_
        refine rw_v (op_pure rfl) ?_
        first | refine rw_off rfl ?_ | (refine rw_on rfl ?_; refine rw_v (op_pure rfl) ?_)
        first | refine rw_off rfl ?_ | (refine rw_on rfl ?_; (first | refine rw_v (op_b (b := true) rfl (beq_iff_eq.2 (by omega))) ?_ | refine rw_v (op_b (b := false) rfl (beq_eq_false_iff_ne.2 (by omega))) ?_ | refine rw_v (op_pure rfl) ?_))
        iterate 2 refine rw_v (op_pure rfl) ?_
        first | refine rw_end ?_ | (refine rw_nil ?_; show CW _ _ _ _ _ _) | refine rw_nil ?_
        repeat refine cw_seq ?_
        refine cw_draw (C := fun wq => Gr W wq) [0, 1, 2, 3, 4, 5, 6, 7, 8, 9, 10, 11, 12, 13, 14, 15, 16, 17, 18, 19, 20, 21, 22, 23, 24, 25, 26, 27, 28, 29, 30, 31, 32, 33, 34, 35, 36, 37, 38, 39, 40, 41, 42, 43, 44, 45, 46, 47, 48, 49, 50] [] (by kernel_rfl) (by kernel_rfl) (Gr.drew _) ?_
        simp only [pickL, List.drop_succ_cons, List.drop_zero]
        iterate 2 refine rq_v (op_pure rfl) ?_
        first | refine rq_v (op_b (b := true) rfl (decide_eq_true (by omega))) ?_ | refine rq_v (op_b (b := false) rfl (decide_eq_false (by omega))) ?_ | refine rq_v (op_pure rfl) ?_
        refine rq_v (op_pure rfl) ?_
        first | refine rq_off rfl ?_ | (refine rq_on rfl ?_; refine rq_v (op_pure rfl) ?_)
        first | refine rq_off rfl ?_ | (refine rq_on rfl ?_; refine rq_v (op_pure rfl) ?_)
        first | refine rq_off rfl ?_ | (refine rq_on rfl ?_; refine rq_v (op_pure rfl) ?_)
        first | refine rq_off rfl ?_ | (refine rq_on rfl ?_; refine rq_v (op_fieldAddr Try.underlying106 rfl Try.sizeOf22 rfl rfl) ?_)
        first | refine rq_off rfl ?_ | (refine rq_on rfl ?_; refine rq_r (fun wq hq => op_loadB Try.underlying22 rfl rfl (hB.gr (S.gr hq).out) rfl) ?_)
        first | refine rq_off rfl ?_ | (refine rq_on rfl ?_; refine rq_v (op_len Try.underlying22 rfl) ?_)
        first | refine rq_off rfl ?_ | (refine rq_on rfl ?_; (first | refine rq_v (op_b (b := true) rfl (decide_eq_true (by omega))) ?_ | refine rq_v (op_b (b := false) rfl (decide_eq_false (by omega))) ?_ | refine rq_v (op_pure rfl) ?_))
        iterate 2 refine rq_v (op_pure rfl) ?_
        first | refine rq_off rfl ?_ | (refine rq_on rfl ?_; refine rq_v (op_pure rfl) ?_)
        first | refine rq_off rfl ?_ | (refine rq_on rfl ?_; refine rq_v (op_pure rfl) ?_)
        first | refine rq_off rfl ?_ | (refine rq_on rfl ?_; refine rq_v (op_fieldAddr Try.underlying106 rfl Try.sizeOf3 rfl rfl) ?_)
        first | refine rq_off rfl ?_ | (refine rq_on rfl ?_; refine rq_r (fun wq hq => op_loadB Try.underlying3 rfl rfl (hB.gr (S.gr hq).out) rfl) ?_)
        first | refine rq_off rfl ?_ | (refine rq_on rfl ?_; (first | refine rq_v (op_b (b := true) rfl (beq_iff_eq.2 (by omega))) ?_ | refine rq_v (op_b (b := false) rfl (beq_eq_false_iff_ne.2 (by omega))) ?_ | refine rq_v (op_pure rfl) ?_))
        first | refine rq_off rfl ?_ | (refine rq_on rfl ?_; refine rq_v (op_pure rfl) ?_)
        first | refine rq_off rfl ?_ | (refine rq_on rfl ?_; refine rq_v (op_pure rfl) ?_)
        first | refine rq_off rfl ?_ | (refine rq_on rfl ?_; refine rq_v (op_pure rfl) ?_)
        first | refine rq_off rfl ?_ | (refine rq_on rfl ?_; refine rq_v (op_pure rfl) ?_)
        first | refine rq_off rfl ?_ | (refine rq_on rfl ?_; refine rq_v (op_pure rfl) ?_)
        first | refine rq_off rfl ?_ | (refine rq_on rfl ?_; refine rq_v (op_pure rfl) ?_)
        first | refine rq_off rfl ?_ | (refine rq_on rfl ?_; refine rq_v (op_pure rfl) ?_)
        first | refine rq_off rfl ?_ | (refine rq_on rfl ?_; refine rq_v (op_pure rfl) ?_)
        first | refine rq_off rfl ?_ | (refine rq_on rfl ?_; refine rq_v (op_fieldAddr Try.underlying106 rfl Try.sizeOf3 rfl rfl) ?_)
        first | refine rq_off rfl ?_ | (refine rq_on rfl ?_; refine rq_r (fun wq hq => op_loadB Try.underlying3 rfl rfl (hB.gr (S.gr hq).out) rfl) ?_)
        first | refine rq_off rfl ?_ | (refine rq_on rfl ?_; refine rq_v (op_div rfl rfl (by omega) (by omega)) ?_)
        first | refine rq_off rfl ?_ | (refine rq_on rfl ?_; refine rq_v (op_pure rfl) ?_)
        first | refine rq_off rfl ?_ | (refine rq_on rfl ?_; refine rq_v (op_pure rfl) ?_)
        first | refine rq_off rfl ?_ | (refine rq_on rfl ?_; refine rq_v (op_pure rfl) ?_)
        first | refine rq_off rfl ?_ | (refine rq_on rfl ?_; refine rq_v (op_fieldAddr Try.underlying106 rfl Try.sizeOf3 rfl rfl) ?_)
        first | refine rq_off rfl ?_ | (refine rq_on rfl ?_; refine rq_r (fun wq hq => op_loadB Try.underlying3 rfl rfl (hB.gr (S.gr hq).out) rfl) ?_)
        first | refine rq_off rfl ?_ | (refine rq_on rfl ?_; refine rq_v (op_div rfl rfl (by omega) (by omega)) ?_)
        first | refine rq_off rfl ?_ | (refine rq_on rfl ?_; (first | refine rq_v (op_b (b := true) rfl (beq_iff_eq.2 (by omega))) ?_ | refine rq_v (op_b (b := false) rfl (beq_eq_false_iff_ne.2 (by omega))) ?_ | refine rq_v (op_pure rfl) ?_))
        first | refine rq_off rfl ?_ | (refine rq_on rfl ?_; refine rq_v (op_pure rfl) ?_)
        iterate 2 refine rq_v (op_pure rfl) ?_
        first | refine rq_off rfl ?_ | (refine rq_on rfl ?_; refine rq_v (op_pure rfl) ?_)
        first | refine rq_off rfl ?_ | (refine rq_on rfl ?_; refine rq_v (op_pure rfl) ?_)
        first | refine rq_off rfl ?_ | (refine rq_on rfl ?_; refine rq_v (op_fieldAddr Try.underlying106 rfl Try.sizeOf3 rfl rfl) ?_)
        first | refine rq_off rfl ?_ | (refine rq_on rfl ?_; refine rq_r (fun wq hq => op_loadB Try.underlying3 rfl rfl (hB.gr (S.gr hq).out) rfl) ?_)
        first | refine rq_off rfl ?_ | (refine rq_on rfl ?_; (first | refine rq_v (op_b (b := true) rfl (beq_iff_eq.2 (by omega))) ?_ | refine rq_v (op_b (b := false) rfl (beq_eq_false_iff_ne.2 (by omega))) ?_ | refine rq_v (op_pure rfl) ?_))
        first | refine rq_off rfl ?_ | (refine rq_on rfl ?_; refine rq_v (op_pure rfl) ?_)
        first | refine rq_off rfl ?_ | (refine rq_on rfl ?_; refine rq_v (op_pure rfl) ?_)
        first | refine rq_off rfl ?_ | (refine rq_on rfl ?_; refine rq_v (op_pure rfl) ?_)
        first | refine rq_off rfl ?_ | (refine rq_on rfl ?_; refine rq_v (op_pure rfl) ?_)
        iterate 3 refine rq_v (op_pure rfl) ?_
        refine rq_nil ?_
        intro w1_ g1_
        have S := S.gr g1_
        first | refine rw_end ?_ | (refine rw_nil ?_; show CW _ _ _ _ _ _) | refine rw_nil ?_
        repeat refine cw_seq ?_
        refine cw_ret ?_
        repeat first | refine ret_then ?_ | refine ret_inb ?_
        exact res2 rfl rfl ⟨by rw [hok]; first | done | rfl, S.out⟩
      · skip
        have S := St.start W
        refine Fn_enter Try.func127 rfl Try.results127 Try.ntmps127 (by kernel_rfl) (by kernel_rfl) ?_
        repeat refine cw_seq ?_
        refine cw_region ?_
        iterate 2 refine rw_v (op_pure rfl) ?_
        first | refine rw_end ?_ | (refine rw_nil ?_; show CW _ _ _ _ _ _) | refine rw_nil ?_
        repeat refine cw_seq ?_
        refine cw_region ?_
        iterate 2 refine rw_v (op_pure rfl) ?_
        refine rw_v (op_rng rfl (by omega)) ?_
        refine rw_v (op_pure rfl) ?_
        first | refine rw_end ?_ | (refine rw_nil ?_; show CW _ _ _ _ _ _) | refine rw_nil ?_
        repeat refine cw_seq ?_
        refine cw_region ?_
        refine rw_v (op_pure rfl) ?_
        first | refine rw_v (op_b (b := true) rfl (beq_iff_eq.2 (by omega))) ?_ | refine rw_v (op_b (b := false) rfl (beq_eq_false_iff_ne.2 (by omega))) ?_ | refine rw_v (op_pure rfl) ?_
        refine rw_v (op_pure rfl) ?_
        first | refine rw_off rfl ?_ | (refine rw_on rfl ?_; refine rw_v (op_pure rfl) ?_)
        first | refine rw_off rfl ?_ | (refine rw_on rfl ?_; (first | refine rw_v (op_b (b := true) rfl (beq_iff_eq.2 (by omega))) ?_ | refine rw_v (op_b (b := false) rfl (beq_eq_false_iff_ne.2 (by omega))) ?_ | refine rw_v (op_pure rfl) ?_))
        iterate 2 refine rw_v (op_pure rfl) ?_
        first | refine rw_end ?_ | (refine rw_nil ?_; show CW _ _ _ _ _ _) | refine rw_nil ?_
        repeat refine cw_seq ?_
        refine cw_draw (C := fun wq => Gr W wq) [0, 1, 2, 3, 4, 5, 6, 7, 8, 9, 10, 11, 12, 13, 14, 15, 16, 17, 18, 19, 20, 21, 22, 23, 24, 25, 26, 27, 28, 29, 30, 31, 32, 33, 34, 35, 36, 37, 38, 39, 40, 41, 42, 43, 44, 45, 46, 47, 48, 49, 50] [] (by kernel_rfl) (by kernel_rfl) (Gr.drew _) ?_
        simp only [pickL, List.drop_succ_cons, List.drop_zero]
        iterate 2 refine rq_v (op_pure rfl) ?_
        first | refine rq_v (op_b (b := true) rfl (decide_eq_true (by omega))) ?_ | refine rq_v (op_b (b := false) rfl (decide_eq_false (by omega))) ?_ | refine rq_v (op_pure rfl) ?_
        refine rq_v (op_pure rfl) ?_
        first | refine rq_off rfl ?_ | (refine rq_on rfl ?_; refine rq_v (op_pure rfl) ?_)
        first | refine rq_off rfl ?_ | (refine rq_on rfl ?_; refine rq_v (op_pure rfl) ?_)
        first | refine rq_off rfl ?_ | (refine rq_on rfl ?_; refine rq_v (op_pure rfl) ?_)
        first | refine rq_off rfl ?_ | (refine rq_on rfl ?_; refine rq_v (op_fieldAddr Try.underlying106 rfl Try.sizeOf22 rfl rfl) ?_)
        first | refine rq_off rfl ?_ | (refine rq_on rfl ?_; refine rq_r (fun wq hq => op_loadB Try.underlying22 rfl rfl (hB.gr (S.gr hq).out) rfl) ?_)
        first | refine rq_off rfl ?_ | (refine rq_on rfl ?_; refine rq_v (op_len Try.underlying22 rfl) ?_)
        first | refine rq_off rfl ?_ | (refine rq_on rfl ?_; (first | refine rq_v (op_b (b := true) rfl (decide_eq_true (by omega))) ?_ | refine rq_v (op_b (b := false) rfl (decide_eq_false (by omega))) ?_ | refine rq_v (op_pure rfl) ?_))
        iterate 2 refine rq_v (op_pure rfl) ?_
        first | refine rq_off rfl ?_ | (refine rq_on rfl ?_; refine rq_v (op_pure rfl) ?_)
        first | refine rq_off rfl ?_ | (refine rq_on rfl ?_; refine rq_v (op_pure rfl) ?_)
        first | refine rq_off rfl ?_ | (refine rq_on rfl ?_; refine rq_v (op_fieldAddr Try.underlying106 rfl Try.sizeOf3 rfl rfl) ?_)
        first | refine rq_off rfl ?_ | (refine rq_on rfl ?_; refine rq_r (fun wq hq => op_loadB Try.underlying3 rfl rfl (hB.gr (S.gr hq).out) rfl) ?_)
        first | refine rq_off rfl ?_ | (refine rq_on rfl ?_; (first | refine rq_v (op_b (b := true) rfl (beq_iff_eq.2 (by omega))) ?_ | refine rq_v (op_b (b := false) rfl (beq_eq_false_iff_ne.2 (by omega))) ?_ | refine rq_v (op_pure rfl) ?_))
        first | refine rq_off rfl ?_ | (refine rq_on rfl ?_; refine rq_v (op_pure rfl) ?_)
        first | refine rq_off rfl ?_ | (refine rq_on rfl ?_; refine rq_v (op_pure rfl) ?_)
        first | refine rq_off rfl ?_ | (refine rq_on rfl ?_; refine rq_v (op_pure rfl) ?_)
        first | refine rq_off rfl ?_ | (refine rq_on rfl ?_; refine rq_v (op_pure rfl) ?_)
        first | refine rq_off rfl ?_ | (refine rq_on rfl ?_; refine rq_v (op_pure rfl) ?_)
        first | refine rq_off rfl ?_ | (refine rq_on rfl ?_; refine rq_v (op_pure rfl) ?_)
        first | refine rq_off rfl ?_ | (refine rq_on rfl ?_; refine rq_v (op_pure rfl) ?_)
        first | refine rq_off rfl ?_ | (refine rq_on rfl ?_; refine rq_v (op_pure rfl) ?_)
        first | refine rq_off rfl ?_ | (refine rq_on rfl ?_; refine rq_v (op_fieldAddr Try.underlying106 rfl Try.sizeOf3 rfl rfl) ?_)
        first | refine rq_off rfl ?_ | (refine rq_on rfl ?_; refine rq_r (fun wq hq => op_loadB Try.underlying3 rfl rfl (hB.gr (S.gr hq).out) rfl) ?_)
        first | refine rq_off rfl ?_ | (refine rq_on rfl ?_; refine rq_v (op_div rfl rfl (by omega) (by omega)) ?_)
        first | refine rq_off rfl ?_ | (refine rq_on rfl ?_; refine rq_v (op_pure rfl) ?_)
        first | refine rq_off rfl ?_ | (refine rq_on rfl ?_; refine rq_v (op_pure rfl) ?_)
        first | refine rq_off rfl ?_ | (refine rq_on rfl ?_; refine rq_v (op_pure rfl) ?_)
        first | refine rq_off rfl ?_ | (refine rq_on rfl ?_; refine rq_v (op_fieldAddr Try.underlying106 rfl Try.sizeOf3 rfl rfl) ?_)
        first | refine rq_off rfl ?_ | (refine rq_on rfl ?_; refine rq_r (fun wq hq => op_loadB Try.underlying3 rfl rfl (hB.gr (S.gr hq).out) rfl) ?_)
        first | refine rq_off rfl ?_ | (refine rq_on rfl ?_; refine rq_v (op_div rfl rfl (by omega) (by omega)) ?_)
        first | refine rq_off rfl ?_ | (refine rq_on rfl ?_; (first | refine rq_v (op_b (b := true) rfl (beq_iff_eq.2 (by omega))) ?_ | refine rq_v (op_b (b := false) rfl (beq_eq_false_iff_ne.2 (by omega))) ?_ | refine rq_v (op_pure rfl) ?_))
        first | refine rq_off rfl ?_ | (refine rq_on rfl ?_; refine rq_v (op_pure rfl) ?_)
        iterate 2 refine rq_v (op_pure rfl) ?_
        first | refine rq_off rfl ?_ | (refine rq_on rfl ?_; refine rq_v (op_pure rfl) ?_)
        first | refine rq_off rfl ?_ | (refine rq_on rfl ?_; refine rq_v (op_pure rfl) ?_)
        first | refine rq_off rfl ?_ | (refine rq_on rfl ?_; refine rq_v (op_fieldAddr Try.underlying106 rfl Try.sizeOf3 rfl rfl) ?_)
        first | refine rq_off rfl ?_ | (refine rq_on rfl ?_; refine rq_r (fun wq hq => op_loadB Try.underlying3 rfl rfl (hB.gr (S.gr hq).out) rfl) ?_)
        first | refine rq_off rfl ?_ | (refine rq_on rfl ?_; (first | refine rq_v (op_b (b := true) rfl (beq_iff_eq.2 (by omega))) ?_ | refine rq_v (op_b (b := false) rfl (beq_eq_false_iff_ne.2 (by omega))) ?_ | refine rq_v (op_pure rfl) ?_))
        first | refine rq_off rfl ?_ | (refine rq_on rfl ?_; refine rq_v (op_pure rfl) ?_)
        first | refine rq_off rfl ?_ | (refine rq_on rfl ?_; refine rq_v (op_pure rfl) ?_)
        first | refine rq_off rfl ?_ | (refine rq_on rfl ?_; refine rq_v (op_pure rfl) ?_)
        first | refine rq_off rfl ?_ | (refine rq_on rfl ?_; refine rq_v (op_pure rfl) ?_)
        iterate 3 refine rq_v (op_pure rfl) ?_
        refine rq_nil ?_
        intro w1_ g1_
        have S := S.gr g1_
        first | refine rw_end ?_ | (refine rw_nil ?_; show CW _ _ _ _ _ _) | refine rw_nil ?_
        repeat refine cw_seq ?_
        refine cw_ret ?_
        repeat first | refine ret_then ?_ | refine ret_inb ?_
        exact res2 rfl rfl ⟨by rw [hok]; first | done | rfl, S.out⟩
  · have g1 : 2 ≤ gw := by omega
    rcases (show k = 0 ∨ k = 1 ∨ k = 2 ∨ k = 3 by omega) with rfl | rfl | rfl | rfl
    · rw [show dirS gw 0 = -(gw : Int) from rfl] at *
      by_cases g2 : gw ≤ i
      · have hok : okS gw n i 0 = true := by unfold okS; simp [g2] <;> omega
        have S := St.start W
        refine Fn_enter Try.func127 rfl Try.results127 Try.ntmps127 (by kernel_rfl) (by kernel_rfl) ?_
        repeat refine cw_seq ?_
        refine cw_region ?_
        iterate 2 refine rw_v (op_pure rfl) ?_
        first | refine rw_end ?_ | (refine rw_nil ?_; show CW _ _ _ _ _ _) | refine rw_nil ?_
        repeat refine cw_seq ?_
        refine cw_region ?_
        iterate 2 refine rw_v (op_pure rfl) ?_
        refine rw_v (op_rng rfl (by omega)) ?_
        refine rw_v (op_pure rfl) ?_
        first | refine rw_end ?_ | (refine rw_nil ?_; show CW _ _ _ _ _ _) | refine rw_nil ?_
        repeat refine cw_seq ?_
        refine cw_region ?_
        refine rw_v (op_pure rfl) ?_
        first | refine rw_v (op_b (b := true) rfl (beq_iff_eq.2 (by omega))) ?_ | refine rw_v (op_b (b := false) rfl (beq_eq_false_iff_ne.2 (by omega))) ?_ | refine rw_v (op_pure rfl) ?_
        refine rw_v (op_pure rfl) ?_
        first | refine rw_off rfl ?_ | (refine rw_on rfl ?_; refine rw_v (op_pure rfl) ?_)
        first | refine rw_off rfl ?_ | (refine rw_on rfl ?_; (first | refine rw_v (op_b (b := true) rfl (beq_iff_eq.2 (by omega))) ?_ | refine rw_v (op_b (b := false) rfl (beq_eq_false_iff_ne.2 (by omega))) ?_ | refine rw_v (op_pure rfl) ?_))
        iterate 2 refine rw_v (op_pure rfl) ?_
        first | refine rw_end ?_ | (refine rw_nil ?_; show CW _ _ _ _ _ _) | refine rw_nil ?_
        repeat refine cw_seq ?_
        refine cw_draw (C := fun wq => Gr W wq) [0, 1, 2, 3, 4, 5, 6, 7, 8, 9, 10, 11, 12, 13, 14, 15, 16, 17, 18, 19, 20, 21, 22, 23, 24, 25, 26, 27, 28, 29, 30, 31, 32, 33, 34, 35, 36, 37, 38, 39, 40, 41, 42, 43, 44, 45, 46, 47, 48, 49, 50] [] (by kernel_rfl) (by kernel_rfl) (Gr.drew _) ?_
        simp only [pickL, List.drop_succ_cons, List.drop_zero]
        iterate 2 refine rq_v (op_pure rfl) ?_
        first | refine rq_v (op_b (b := true) rfl (decide_eq_true (by omega))) ?_ | refine rq_v (op_b (b := false) rfl (decide_eq_false (by omega))) ?_ | refine rq_v (op_pure rfl) ?_
        refine rq_v (op_pure rfl) ?_
        first | refine rq_off rfl ?_ | (refine rq_on rfl ?_; refine rq_v (op_pure rfl) ?_)
        first | refine rq_off rfl ?_ | (refine rq_on rfl ?_; refine rq_v (op_pure rfl) ?_)
        first | refine rq_off rfl ?_ | (refine rq_on rfl ?_; refine rq_v (op_pure rfl) ?_)
        first | refine rq_off rfl ?_ | (refine rq_on rfl ?_; refine rq_v (op_fieldAddr Try.underlying106 rfl Try.sizeOf22 rfl rfl) ?_)
        first | refine rq_off rfl ?_ | (refine rq_on rfl ?_; refine rq_r (fun wq hq => op_loadB Try.underlying22 rfl rfl (hB.gr (S.gr hq).out) rfl) ?_)
        first | refine rq_off rfl ?_ | (refine rq_on rfl ?_; refine rq_v (op_len Try.underlying22 rfl) ?_)
        first | refine rq_off rfl ?_ | (refine rq_on rfl ?_; (first | refine rq_v (op_b (b := true) rfl (decide_eq_true (by omega))) ?_ | refine rq_v (op_b (b := false) rfl (decide_eq_false (by omega))) ?_ | refine rq_v (op_pure rfl) ?_))
        iterate 2 refine rq_v (op_pure rfl) ?_
        first | refine rq_off rfl ?_ | (refine rq_on rfl ?_; refine rq_v (op_pure rfl) ?_)
        first | refine rq_off rfl ?_ | (refine rq_on rfl ?_; refine rq_v (op_pure rfl) ?_)
        first | refine rq_off rfl ?_ | (refine rq_on rfl ?_; refine rq_v (op_fieldAddr Try.underlying106 rfl Try.sizeOf3 rfl rfl) ?_)
        first | refine rq_off rfl ?_ | (refine rq_on rfl ?_; refine rq_r (fun wq hq => op_loadB Try.underlying3 rfl rfl (hB.gr (S.gr hq).out) rfl) ?_)
        first | refine rq_off rfl ?_ | (refine rq_on rfl ?_; (first | refine rq_v (op_b (b := true) rfl (beq_iff_eq.2 (by omega))) ?_ | refine rq_v (op_b (b := false) rfl (beq_eq_false_iff_ne.2 (by omega))) ?_ | refine rq_v (op_pure rfl) ?_))
        first | refine rq_off rfl ?_ | (refine rq_on rfl ?_; refine rq_v (op_pure rfl) ?_)
        first | refine rq_off rfl ?_ | (refine rq_on rfl ?_; refine rq_v (op_pure rfl) ?_)
        first | refine rq_off rfl ?_ | (refine rq_on rfl ?_; refine rq_v (op_pure rfl) ?_)
        first | refine rq_off rfl ?_ | (refine rq_on rfl ?_; refine rq_v (op_pure rfl) ?_)
        first | refine rq_off rfl ?_ | (refine rq_on rfl ?_; refine rq_v (op_pure rfl) ?_)
        first | refine rq_off rfl ?_ | (refine rq_on rfl ?_; refine rq_v (op_pure rfl) ?_)
        first | refine rq_off rfl ?_ | (refine rq_on rfl ?_; refine rq_v (op_pure rfl) ?_)
        first | refine rq_off rfl ?_ | (refine rq_on rfl ?_; refine rq_v (op_pure rfl) ?_)
        first | refine rq_off rfl ?_ | (refine rq_on rfl ?_; refine rq_v (op_fieldAddr Try.underlying106 rfl Try.sizeOf3 rfl rfl) ?_)
        first | refine rq_off rfl ?_ | (refine rq_on rfl ?_; refine rq_r (fun wq hq => op_loadB Try.underlying3 rfl rfl (hB.gr (S.gr hq).out) rfl) ?_)
        first | refine rq_off rfl ?_ | (refine rq_on rfl ?_; refine rq_v (op_div rfl rfl (by omega) (by omega)) ?_)
        first | refine rq_off rfl ?_ | (refine rq_on rfl ?_; refine rq_v (op_pure rfl) ?_)
        first | refine rq_off rfl ?_ | (refine rq_on rfl ?_; refine rq_v (op_pure rfl) ?_)
        first | refine rq_off rfl ?_ | (refine rq_on rfl ?_; refine rq_v (op_pure rfl) ?_)
        first | refine rq_off rfl ?_ | (refine rq_on rfl ?_; refine rq_v (op_fieldAddr Try.underlying106 rfl Try.sizeOf3 rfl rfl) ?_)
        first | refine rq_off rfl ?_ | (refine rq_on rfl ?_; refine rq_r (fun wq hq => op_loadB Try.underlying3 rfl rfl (hB.gr (S.gr hq).out) rfl) ?_)
        first | refine rq_off rfl ?_ | (refine rq_on rfl ?_; refine rq_v (op_div rfl rfl (by omega) (by omega)) ?_)
        first | refine rq_off rfl ?_ | (refine rq_on rfl ?_; (first | refine rq_v (op_b (b := true) rfl (beq_iff_eq.2 (by omega))) ?_ | refine rq_v (op_b (b := false) rfl (beq_eq_false_iff_ne.2 (by omega))) ?_ | refine rq_v (op_pure rfl) ?_))
        first | refine rq_off rfl ?_ | (refine rq_on rfl ?_; refine rq_v (op_pure rfl) ?_)
        iterate 2 refine rq_v (op_pure rfl) ?_
        first | refine rq_off rfl ?_ | (refine rq_on rfl ?_; refine rq_v (op_pure rfl) ?_)
        first | refine rq_off rfl ?_ | (refine rq_on rfl ?_; refine rq_v (op_pure rfl) ?_)
        first | refine rq_off rfl ?_ | (refine rq_on rfl ?_; refine rq_v (op_fieldAddr Try.underlying106 rfl Try.sizeOf3 rfl rfl) ?_)
        first | refine rq_off rfl ?_ | (refine rq_on rfl ?_; refine rq_r (fun wq hq => op_loadB Try.underlying3 rfl rfl (hB.gr (S.gr hq).out) rfl) ?_)
        first | refine rq_off rfl ?_ | (refine rq_on rfl ?_; (first | refine rq_v (op_b (b := true) rfl (beq_iff_eq.2 (by omega))) ?_ | refine rq_v (op_b (b := false) rfl (beq_eq_false_iff_ne.2 (by omega))) ?_ | refine rq_v (op_pure rfl) ?_))
        first | refine rq_off rfl ?_ | (refine rq_on rfl ?_; refine rq_v (op_pure rfl) ?_)
        first | refine rq_off rfl ?_ | (refine rq_on rfl ?_; refine rq_v (op_pure rfl) ?_)
        first | refine rq_off rfl ?_ | (refine rq_on rfl ?_; refine rq_v (op_pure rfl) ?_)
        first | refine rq_off rfl ?_ | (refine rq_on rfl ?_; refine rq_v (op_pure rfl) ?_)
        iterate 3 refine rq_v (op_pure rfl) ?_
        refine rq_nil ?_
        intro w1_ g1_
        have S := S.gr g1_
        first | refine rw_end ?_ | (refine rw_nil ?_; show CW _ _ _ _ _ _) | refine rw_nil ?_
        repeat refine cw_seq ?_
        refine cw_ret ?_
        repeat first | refine ret_then ?_ | refine ret_inb ?_
        exact res2 rfl rfl ⟨by rw [hok]; first | done | rfl, S.out⟩
      · have hok : okS gw n i 0 = false := by unfold okS; simp <;> omega
        have S := St.start W
        refine Fn_enter Try.func127 rfl Try.results127 Try.ntmps127 (by kernel_rfl) (by kernel_rfl) ?_
        repeat refine cw_seq ?_
        refine cw_region ?_
        iterate 2 refine rw_v (op_pure rfl) ?_
        first | refine rw_end ?_ | (refine rw_nil ?_; show CW _ _ _ _ _ _) | refine rw_nil ?_
        repeat refine cw_seq ?_
        refine cw_region ?_
        iterate 2 refine rw_v (op_pure rfl) ?_
        refine rw_v (op_rng rfl (by omega)) ?_
        refine rw_v (op_pure rfl) ?_
        first | refine rw_end ?_ | (refine rw_nil ?_; show CW _ _ _ _ _ _) | refine rw_nil ?_
        repeat refine cw_seq ?_
        refine cw_region ?_
        refine rw_v (op_pure rfl) ?_
        first | refine rw_v (op_b (b := true) rfl (beq_iff_eq.2 (by omega))) ?_ | refine rw_v (op_b (b := false) rfl (beq_eq_false_iff_ne.2 (by omega))) ?_ | refine rw_v (op_pure rfl) ?_
        refine rw_v (op_pure rfl) ?_
        first | refine rw_off rfl ?_ | (refine rw_on rfl ?_; refine rw_v (op_pure rfl) ?_)
        first | refine rw_off rfl ?_ | (refine rw_on rfl ?_; (first | refine rw_v (op_b (b := true) rfl (beq_iff_eq.2 (by omega))) ?_ | refine rw_v (op_b (b := false) rfl (beq_eq_false_iff_ne.2 (by omega))) ?_ | refine rw_v (op_pure rfl) ?_))
        iterate 2 refine rw_v (op_pure rfl) ?_
        first | refine rw_end ?_ | (refine rw_nil ?_; show CW _ _ _ _ _ _) | refine rw_nil ?_
        repeat refine cw_seq ?_
        refine cw_draw (C := fun wq => Gr W wq) [0, 1, 2, 3, 4, 5, 6, 7, 8, 9, 10, 11, 12, 13, 14, 15, 16, 17, 18, 19, 20, 21, 22, 23, 24, 25, 26, 27, 28, 29, 30, 31, 32, 33, 34, 35, 36, 37, 38, 39, 40, 41, 42, 43, 44, 45, 46, 47, 48, 49, 50] [] (by kernel_rfl) (by kernel_rfl) (Gr.drew _) ?_
        simp only [pickL, List.drop_succ_cons, List.drop_zero]
        iterate 2 refine rq_v (op_pure rfl) ?_
        first | refine rq_v (op_b (b := true) rfl (decide_eq_true (by omega))) ?_ | refine rq_v (op_b (b := false) rfl (decide_eq_false (by omega))) ?_ | refine rq_v (op_pure rfl) ?_
        refine rq_v (op_pure rfl) ?_
        first | refine rq_off rfl ?_ | (refine rq_on rfl ?_; refine rq_v (op_pure rfl) ?_)
        first | refine rq_off rfl ?_ | (refine rq_on rfl ?_; refine rq_v (op_pure rfl) ?_)
        first | refine rq_off rfl ?_ | (refine rq_on rfl ?_; refine rq_v (op_pure rfl) ?_)
        first | refine rq_off rfl ?_ | (refine rq_on rfl ?_; refine rq_v (op_fieldAddr Try.underlying106 rfl Try.sizeOf22 rfl rfl) ?_)
        first | refine rq_off rfl ?_ | (refine rq_on rfl ?_; refine rq_r (fun wq hq => op_loadB Try.underlying22 rfl rfl (hB.gr (S.gr hq).out) rfl) ?_)
        first | refine rq_off rfl ?_ | (refine rq_on rfl ?_; refine rq_v (op_len Try.underlying22 rfl) ?_)
        first | refine rq_off rfl ?_ | (refine rq_on rfl ?_; (first | refine rq_v (op_b (b := true) rfl (decide_eq_true (by omega))) ?_ | refine rq_v (op_b (b := false) rfl (decide_eq_false (by omega))) ?_ | refine rq_v (op_pure rfl) ?_))
        iterate 2 refine rq_v (op_pure rfl) ?_
        first | refine rq_off rfl ?_ | (refine rq_on rfl ?_; refine rq_v (op_pure rfl) ?_)
        first | refine rq_off rfl ?_ | (refine rq_on rfl ?_; refine rq_v (op_pure rfl) ?_)
        first | refine rq_off rfl ?_ | (refine rq_on rfl ?_; refine rq_v (op_fieldAddr Try.underlying106 rfl Try.sizeOf3 rfl rfl) ?_)
        first | refine rq_off rfl ?_ | (refine rq_on rfl ?_; refine rq_r (fun wq hq => op_loadB Try.underlying3 rfl rfl (hB.gr (S.gr hq).out) rfl) ?_)
        first | refine rq_off rfl ?_ | (refine rq_on rfl ?_; (first | refine rq_v (op_b (b := true) rfl (beq_iff_eq.2 (by omega))) ?_ | refine rq_v (op_b (b := false) rfl (beq_eq_false_iff_ne.2 (by omega))) ?_ | refine rq_v (op_pure rfl) ?_))
        first | refine rq_off rfl ?_ | (refine rq_on rfl ?_; refine rq_v (op_pure rfl) ?_)
        first | refine rq_off rfl ?_ | (refine rq_on rfl ?_; refine rq_v (op_pure rfl) ?_)
        first | refine rq_off rfl ?_ | (refine rq_on rfl ?_; refine rq_v (op_pure rfl) ?_)
        first | refine rq_off rfl ?_ | (refine rq_on rfl ?_; refine rq_v (op_pure rfl) ?_)
        first | refine rq_off rfl ?_ | (refine rq_on rfl ?_; refine rq_v (op_pure rfl) ?_)
        first | refine rq_off rfl ?_ | (refine rq_on rfl ?_; refine rq_v (op_pure rfl) ?_)
        first | refine rq_off rfl ?_ | (refine rq_on rfl ?_; refine rq_v (op_pure rfl) ?_)
        first | refine rq_off rfl ?_ | (refine rq_on rfl ?_; refine rq_v (op_pure rfl) ?_)
        first | refine rq_off rfl ?_ | (refine rq_on rfl ?_; refine rq_v (op_fieldAddr Try.underlying106 rfl Try.sizeOf3 rfl rfl) ?_)
        first | refine rq_off rfl ?_ | (refine rq_on rfl ?_; refine rq_r (fun wq hq => op_loadB Try.underlying3 rfl rfl (hB.gr (S.gr hq).out) rfl) ?_)
        first | refine rq_off rfl ?_ | (refine rq_on rfl ?_; refine rq_v (op_div rfl rfl (by omega) (by omega)) ?_)
        first | refine rq_off rfl ?_ | (refine rq_on rfl ?_; refine rq_v (op_pure rfl) ?_)
        first | refine rq_off rfl ?_ | (refine rq_on rfl ?_; refine rq_v (op_pure rfl) ?_)
        first | refine rq_off rfl ?_ | (refine rq_on rfl ?_; refine rq_v (op_pure rfl) ?_)
        first | refine rq_off rfl ?_ | (refine rq_on rfl ?_; refine rq_v (op_fieldAddr Try.underlying106 rfl Try.sizeOf3 rfl rfl) ?_)
        first | refine rq_off rfl ?_ | (refine rq_on rfl ?_; refine rq_r (fun wq hq => op_loadB Try.underlying3 rfl rfl (hB.gr (S.gr hq).out) rfl) ?_)
        first | refine rq_off rfl ?_ | (refine rq_on rfl ?_; refine rq_v (op_div rfl rfl (by omega) (by omega)) ?_)
        first | refine rq_off rfl ?_ | (refine rq_on rfl ?_; (first | refine rq_v (op_b (b := true) rfl (beq_iff_eq.2 (by omega))) ?_ | refine rq_v (op_b (b := false) rfl (beq_eq_false_iff_ne.2 (by omega))) ?_ | refine rq_v (op_pure rfl) ?_))
        first | refine rq_off rfl ?_ | (refine rq_on rfl ?_; refine rq_v (op_pure rfl) ?_)
        iterate 2 refine rq_v (op_pure rfl) ?_
        first | refine rq_off rfl ?_ | (refine rq_on rfl ?_; refine rq_v (op_pure rfl) ?_)
        first | refine rq_off rfl ?_ | (refine rq_on rfl ?_; refine rq_v (op_pure rfl) ?_)
        first | refine rq_off rfl ?_ | (refine rq_on rfl ?_; refine rq_v (op_fieldAddr Try.underlying106 rfl Try.sizeOf3 rfl rfl) ?_)
        first | refine rq_off rfl ?_ | (refine rq_on rfl ?_; refine rq_r (fun wq hq => op_loadB Try.underlying3 rfl rfl (hB.gr (S.gr hq).out) rfl) ?_)
        first | refine rq_off rfl ?_ | (refine rq_on rfl ?_; (first | refine rq_v (op_b (b := true) rfl (beq_iff_eq.2 (by omega))) ?_ | refine rq_v (op_b (b := false) rfl (beq_eq_false_iff_ne.2 (by omega))) ?_ | refine rq_v (op_pure rfl) ?_))
        first | refine rq_off rfl ?_ | (refine rq_on rfl ?_; refine rq_v (op_pure rfl) ?_)
        first | refine rq_off rfl ?_ | (refine rq_on rfl ?_; refine rq_v (op_pure rfl) ?_)
        first | refine rq_off rfl ?_ | (refine rq_on rfl ?_; refine rq_v (op_pure rfl) ?_)
        first | refine rq_off rfl ?_ | (refine rq_on rfl ?_; refine rq_v (op_pure rfl) ?_)
        iterate 3 refine rq_v (op_pure rfl) ?_
        refine rq_nil ?_
        intro w1_ g1_
        have S := S.gr g1_
        first | refine rw_end ?_ | (refine rw_nil ?_; show CW _ _ _ _ _ _) | refine rw_nil ?_
        repeat refine cw_seq ?_
        refine cw_ret ?_
        repeat first | refine ret_then ?_ | refine ret_inb ?_
        exact res2 rfl rfl ⟨by rw [hok]; first | done | rfl, S.out⟩
    · rw [show dirS gw 1 = -1 from rfl] at *
      by_cases g2 : 1 ≤ i
      · have hds := div_same (gw := gw) (i := i) (j := i - 1) (by omega) (by omega)
        have e1 : (i : Int) + -1 = ((i - 1 : Nat) : Int) := by omega
        have e2 : (((i - 1 : Nat) : Int)) / gw = (((i - 1) / gw : Nat) : Int) := by push_cast; rfl
        rw [e1]
        by_cases g3 : 0 < i % gw
        · have hok : okS gw n i 1 = true := by unfold okS; simp [g3] <;> omega
          have hq : (((i - 1 : Nat) : Int)) / gw = (i : Int) / gw := by have := hds.2 g3; rw [e2, ed, this]
          have S := St.start W
          refine Fn_enter Try.func127 rfl Try.results127 Try.ntmps127 (by kernel_rfl) (by kernel_rfl) ?_
          repeat refine cw_seq ?_
          refine cw_region ?_
          iterate 2 refine rw_v (op_pure rfl) ?_
          first | refine rw_end ?_ | (refine rw_nil ?_; show CW _ _ _ _ _ _) | refine rw_nil ?_
          repeat refine cw_seq ?_
          refine cw_region ?_
          iterate 2 refine rw_v (op_pure rfl) ?_
          refine rw_v (op_rng rfl (by omega)) ?_
          rw [e1]
          refine rw_v (op_pure rfl) ?_
          first | refine rw_end ?_ | (refine rw_nil ?_; show CW _ _ _ _ _ _) | refine rw_nil ?_
          repeat refine cw_seq ?_
          refine cw_region ?_
          refine rw_v (op_pure rfl) ?_
          first | refine rw_v (op_b (b := true) rfl (beq_iff_eq.2 (by omega))) ?_ | refine rw_v (op_b (b := false) rfl (beq_eq_false_iff_ne.2 (by omega))) ?_ | refine rw_v (op_pure rfl) ?_
          refine rw_v (op_pure rfl) ?_
          first | refine rw_off rfl ?_ | (refine rw_on rfl ?_; refine rw_v (op_pure rfl) ?_)
          first | refine rw_off rfl ?_ | (refine rw_on rfl ?_; (first | refine rw_v (op_b (b := true) rfl (beq_iff_eq.2 (by omega))) ?_ | refine rw_v (op_b (b := false) rfl (beq_eq_false_iff_ne.2 (by omega))) ?_ | refine rw_v (op_pure rfl) ?_))
          iterate 2 refine rw_v (op_pure rfl) ?_
          first | refine rw_end ?_ | (refine rw_nil ?_; show CW _ _ _ _ _ _) | refine rw_nil ?_
          repeat refine cw_seq ?_
          refine cw_draw (C := fun wq => Gr W wq) [0, 1, 2, 3, 4, 5, 6, 7, 8, 9, 10, 11, 12, 13, 14, 15, 16, 17, 18, 19, 20, 21, 22, 23, 24, 25, 26, 27, 28, 29, 30, 31, 32, 33, 34, 35, 36, 37, 38, 39, 40, 41, 42, 43, 44, 45, 46, 47, 48, 49, 50] [] (by kernel_rfl) (by kernel_rfl) (Gr.drew _) ?_
          simp only [pickL, List.drop_succ_cons, List.drop_zero]
          iterate 2 refine rq_v (op_pure rfl) ?_
          first | refine rq_v (op_b (b := true) rfl (decide_eq_true (by omega))) ?_ | refine rq_v (op_b (b := false) rfl (decide_eq_false (by omega))) ?_ | refine rq_v (op_pure rfl) ?_
          refine rq_v (op_pure rfl) ?_
          first | refine rq_off rfl ?_ | (refine rq_on rfl ?_; refine rq_v (op_pure rfl) ?_)
          first | refine rq_off rfl ?_ | (refine rq_on rfl ?_; refine rq_v (op_pure rfl) ?_)
          first | refine rq_off rfl ?_ | (refine rq_on rfl ?_; refine rq_v (op_pure rfl) ?_)
          first | refine rq_off rfl ?_ | (refine rq_on rfl ?_; refine rq_v (op_fieldAddr Try.underlying106 rfl Try.sizeOf22 rfl rfl) ?_)
          first | refine rq_off rfl ?_ | (refine rq_on rfl ?_; refine rq_r (fun wq hq => op_loadB Try.underlying22 rfl rfl (hB.gr (S.gr hq).out) rfl) ?_)
          first | refine rq_off rfl ?_ | (refine rq_on rfl ?_; refine rq_v (op_len Try.underlying22 rfl) ?_)
          first | refine rq_off rfl ?_ | (refine rq_on rfl ?_; (first | refine rq_v (op_b (b := true) rfl (decide_eq_true (by omega))) ?_ | refine rq_v (op_b (b := false) rfl (decide_eq_false (by omega))) ?_ | refine rq_v (op_pure rfl) ?_))
          iterate 2 refine rq_v (op_pure rfl) ?_
          first | refine rq_off rfl ?_ | (refine rq_on rfl ?_; refine rq_v (op_pure rfl) ?_)
          first | refine rq_off rfl ?_ | (refine rq_on rfl ?_; refine rq_v (op_pure rfl) ?_)
          first | refine rq_off rfl ?_ | (refine rq_on rfl ?_; refine rq_v (op_fieldAddr Try.underlying106 rfl Try.sizeOf3 rfl rfl) ?_)
          first | refine rq_off rfl ?_ | (refine rq_on rfl ?_; refine rq_r (fun wq hq => op_loadB Try.underlying3 rfl rfl (hB.gr (S.gr hq).out) rfl) ?_)
          first | refine rq_off rfl ?_ | (refine rq_on rfl ?_; (first | refine rq_v (op_b (b := true) rfl (beq_iff_eq.2 (by omega))) ?_ | refine rq_v (op_b (b := false) rfl (beq_eq_false_iff_ne.2 (by omega))) ?_ | refine rq_v (op_pure rfl) ?_))
          first | refine rq_off rfl ?_ | (refine rq_on rfl ?_; refine rq_v (op_pure rfl) ?_)
          first | refine rq_off rfl ?_ | (refine rq_on rfl ?_; refine rq_v (op_pure rfl) ?_)
          first | refine rq_off rfl ?_ | (refine rq_on rfl ?_; refine rq_v (op_pure rfl) ?_)
          first | refine rq_off rfl ?_ | (refine rq_on rfl ?_; refine rq_v (op_pure rfl) ?_)
          first | refine rq_off rfl ?_ | (refine rq_on rfl ?_; refine rq_v (op_pure rfl) ?_)
          first | refine rq_off rfl ?_ | (refine rq_on rfl ?_; refine rq_v (op_pure rfl) ?_)
          first | refine rq_off rfl ?_ | (refine rq_on rfl ?_; refine rq_v (op_pure rfl) ?_)
          first | refine rq_off rfl ?_ | (refine rq_on rfl ?_; refine rq_v (op_pure rfl) ?_)
          first | refine rq_off rfl ?_ | (refine rq_on rfl ?_; refine rq_v (op_fieldAddr Try.underlying106 rfl Try.sizeOf3 rfl rfl) ?_)
          first | refine rq_off rfl ?_ | (refine rq_on rfl ?_; refine rq_r (fun wq hq => op_loadB Try.underlying3 rfl rfl (hB.gr (S.gr hq).out) rfl) ?_)
          first | refine rq_off rfl ?_ | (refine rq_on rfl ?_; refine rq_v (op_div rfl rfl (by omega) (by omega)) ?_)
          first | refine rq_off rfl ?_ | (refine rq_on rfl ?_; refine rq_v (op_pure rfl) ?_)
          first | refine rq_off rfl ?_ | (refine rq_on rfl ?_; refine rq_v (op_pure rfl) ?_)
          first | refine rq_off rfl ?_ | (refine rq_on rfl ?_; refine rq_v (op_pure rfl) ?_)
          first | refine rq_off rfl ?_ | (refine rq_on rfl ?_; refine rq_v (op_fieldAddr Try.underlying106 rfl Try.sizeOf3 rfl rfl) ?_)
          first | refine rq_off rfl ?_ | (refine rq_on rfl ?_; refine rq_r (fun wq hq => op_loadB Try.underlying3 rfl rfl (hB.gr (S.gr hq).out) rfl) ?_)
          first | refine rq_off rfl ?_ | (refine rq_on rfl ?_; refine rq_v (op_div rfl rfl (by omega) (by omega)) ?_)
          refine rq_on rfl ?_
          refine rq_v (op_b (b := true) rfl (beq_iff_eq.2 hq)) ?_
          first | refine rq_off rfl ?_ | (refine rq_on rfl ?_; refine rq_v (op_pure rfl) ?_)
          iterate 2 refine rq_v (op_pure rfl) ?_
          first | refine rq_off rfl ?_ | (refine rq_on rfl ?_; refine rq_v (op_pure rfl) ?_)
          first | refine rq_off rfl ?_ | (refine rq_on rfl ?_; refine rq_v (op_pure rfl) ?_)
          first | refine rq_off rfl ?_ | (refine rq_on rfl ?_; refine rq_v (op_fieldAddr Try.underlying106 rfl Try.sizeOf3 rfl rfl) ?_)
          first | refine rq_off rfl ?_ | (refine rq_on rfl ?_; refine rq_r (fun wq hq => op_loadB Try.underlying3 rfl rfl (hB.gr (S.gr hq).out) rfl) ?_)
          first | refine rq_off rfl ?_ | (refine rq_on rfl ?_; (first | refine rq_v (op_b (b := true) rfl (beq_iff_eq.2 (by omega))) ?_ | refine rq_v (op_b (b := false) rfl (beq_eq_false_iff_ne.2 (by omega))) ?_ | refine rq_v (op_pure rfl) ?_))
          first | refine rq_off rfl ?_ | (refine rq_on rfl ?_; refine rq_v (op_pure rfl) ?_)
          first | refine rq_off rfl ?_ | (refine rq_on rfl ?_; refine rq_v (op_pure rfl) ?_)
          first | refine rq_off rfl ?_ | (refine rq_on rfl ?_; refine rq_v (op_pure rfl) ?_)
          first | refine rq_off rfl ?_ | (refine rq_on rfl ?_; refine rq_v (op_pure rfl) ?_)
          iterate 3 refine rq_v (op_pure rfl) ?_
          refine rq_nil ?_
          intro w1_ g1_
          have S := S.gr g1_
          first | refine rw_end ?_ | (refine rw_nil ?_; show CW _ _ _ _ _ _) | refine rw_nil ?_
          repeat refine cw_seq ?_
          refine cw_ret ?_
          repeat first | refine ret_then ?_ | refine ret_inb ?_
          exact res2 rfl rfl ⟨by rw [hok]; first | done | rfl, S.out⟩
        · have hok : okS gw n i 1 = false := by unfold okS; simp [g3]
          have hq : (((i - 1 : Nat) : Int)) / gw ≠ (i : Int) / gw := by have := hds; rw [e2, ed]; intro e; exact g3 (this.1 (by exact_mod_cast e))
          have S := St.start W
          refine Fn_enter Try.func127 rfl Try.results127 Try.ntmps127 (by kernel_rfl) (by kernel_rfl) ?_
          repeat refine cw_seq ?_
          refine cw_region ?_
          iterate 2 refine rw_v (op_pure rfl) ?_
          first | refine rw_end ?_ | (refine rw_nil ?_; show CW _ _ _ _ _ _) | refine rw_nil ?_
          repeat refine cw_seq ?_
          refine cw_region ?_
          iterate 2 refine rw_v (op_pure rfl) ?_
          refine rw_v (op_rng rfl (by omega)) ?_
          rw [e1]
          refine rw_v (op_pure rfl) ?_
          first | refine rw_end ?_ | (refine rw_nil ?_; show CW _ _ _ _ _ _) | refine rw_nil ?_
          repeat refine cw_seq ?_
          refine cw_region ?_
          refine rw_v (op_pure rfl) ?_
          first | refine rw_v (op_b (b := true) rfl (beq_iff_eq.2 (by omega))) ?_ | refine rw_v (op_b (b := false) rfl (beq_eq_false_iff_ne.2 (by omega))) ?_ | refine rw_v (op_pure rfl) ?_
          refine rw_v (op_pure rfl) ?_
          first | refine rw_off rfl ?_ | (refine rw_on rfl ?_; refine rw_v (op_pure rfl) ?_)
          first | refine rw_off rfl ?_ | (refine rw_on rfl ?_; (first | refine rw_v (op_b (b := true) rfl (beq_iff_eq.2 (by omega))) ?_ | refine rw_v (op_b (b := false) rfl (beq_eq_false_iff_ne.2 (by omega))) ?_ | refine rw_v (op_pure rfl) ?_))
          iterate 2 refine rw_v (op_pure rfl) ?_
          first | refine rw_end ?_ | (refine rw_nil ?_; show CW _ _ _ _ _ _) | refine rw_nil ?_
          repeat refine cw_seq ?_
          refine cw_draw (C := fun wq => Gr W wq) [0, 1, 2, 3, 4, 5, 6, 7, 8, 9, 10, 11, 12, 13, 14, 15, 16, 17, 18, 19, 20, 21, 22, 23, 24, 25, 26, 27, 28, 29, 30, 31, 32, 33, 34, 35, 36, 37, 38, 39, 40, 41, 42, 43, 44, 45, 46, 47, 48, 49, 50] [] (by kernel_rfl) (by kernel_rfl) (Gr.drew _) ?_
          simp only [pickL, List.drop_succ_cons, List.drop_zero]
          iterate 2 refine rq_v (op_pure rfl) ?_
          first | refine rq_v (op_b (b := true) rfl (decide_eq_true (by omega))) ?_ | refine rq_v (op_b (b := false) rfl (decide_eq_false (by omega))) ?_ | refine rq_v (op_pure rfl) ?_
          refine rq_v (op_pure rfl) ?_
          first | refine rq_off rfl ?_ | (refine rq_on rfl ?_; refine rq_v (op_pure rfl) ?_)
          first | refine rq_off rfl ?_ | (refine rq_on rfl ?_; refine rq_v (op_pure rfl) ?_)
          first | refine rq_off rfl ?_ | (refine rq_on rfl ?_; refine rq_v (op_pure rfl) ?_)
          first | refine rq_off rfl ?_ | (refine rq_on rfl ?_; refine rq_v (op_fieldAddr Try.underlying106 rfl Try.sizeOf22 rfl rfl) ?_)
          first | refine rq_off rfl ?_ | (refine rq_on rfl ?_; refine rq_r (fun wq hq => op_loadB Try.underlying22 rfl rfl (hB.gr (S.gr hq).out) rfl) ?_)
          first | refine rq_off rfl ?_ | (refine rq_on rfl ?_; refine rq_v (op_len Try.underlying22 rfl) ?_)
          first | refine rq_off rfl ?_ | (refine rq_on rfl ?_; (first | refine rq_v (op_b (b := true) rfl (decide_eq_true (by omega))) ?_ | refine rq_v (op_b (b := false) rfl (decide_eq_false (by omega))) ?_ | refine rq_v (op_pure rfl) ?_))
          iterate 2 refine rq_v (op_pure rfl) ?_
          first | refine rq_off rfl ?_ | (refine rq_on rfl ?_; refine rq_v (op_pure rfl) ?_)
          first | refine rq_off rfl ?_ | (refine rq_on rfl ?_; refine rq_v (op_pure rfl) ?_)
          first | refine rq_off rfl ?_ | (refine rq_on rfl ?_; refine rq_v (op_fieldAddr Try.underlying106 rfl Try.sizeOf3 rfl rfl) ?_)
          first | refine rq_off rfl ?_ | (refine rq_on rfl ?_; refine rq_r (fun wq hq => op_loadB Try.underlying3 rfl rfl (hB.gr (S.gr hq).out) rfl) ?_)
          first | refine rq_off rfl ?_ | (refine rq_on rfl ?_; (first | refine rq_v (op_b (b := true) rfl (beq_iff_eq.2 (by omega))) ?_ | refine rq_v (op_b (b := false) rfl (beq_eq_false_iff_ne.2 (by omega))) ?_ | refine rq_v (op_pure rfl) ?_))
          first | refine rq_off rfl ?_ | (refine rq_on rfl ?_; refine rq_v (op_pure rfl) ?_)
          first | refine rq_off rfl ?_ | (refine rq_on rfl ?_; refine rq_v (op_pure rfl) ?_)
          first | refine rq_off rfl ?_ | (refine rq_on rfl ?_; refine rq_v (op_pure rfl) ?_)
          first | refine rq_off rfl ?_ | (refine rq_on rfl ?_; refine rq_v (op_pure rfl) ?_)
          first | refine rq_off rfl ?_ | (refine rq_on rfl ?_; refine rq_v (op_pure rfl) ?_)
          first | refine rq_off rfl ?_ | (refine rq_on rfl ?_; refine rq_v (op_pure rfl) ?_)
          first | refine rq_off rfl ?_ | (refine rq_on rfl ?_; refine rq_v (op_pure rfl) ?_)
          first | refine rq_off rfl ?_ | (refine rq_on rfl ?_; refine rq_v (op_pure rfl) ?_)
          first | refine rq_off rfl ?_ | (refine rq_on rfl ?_; refine rq_v (op_fieldAddr Try.underlying106 rfl Try.sizeOf3 rfl rfl) ?_)
          first | refine rq_off rfl ?_ | (refine rq_on rfl ?_; refine rq_r (fun wq hq => op_loadB Try.underlying3 rfl rfl (hB.gr (S.gr hq).out) rfl) ?_)
          first | refine rq_off rfl ?_ | (refine rq_on rfl ?_; refine rq_v (op_div rfl rfl (by omega) (by omega)) ?_)
          first | refine rq_off rfl ?_ | (refine rq_on rfl ?_; refine rq_v (op_pure rfl) ?_)
          first | refine rq_off rfl ?_ | (refine rq_on rfl ?_; refine rq_v (op_pure rfl) ?_)
          first | refine rq_off rfl ?_ | (refine rq_on rfl ?_; refine rq_v (op_pure rfl) ?_)
          first | refine rq_off rfl ?_ | (refine rq_on rfl ?_; refine rq_v (op_fieldAddr Try.underlying106 rfl Try.sizeOf3 rfl rfl) ?_)
          first | refine rq_off rfl ?_ | (refine rq_on rfl ?_; refine rq_r (fun wq hq => op_loadB Try.underlying3 rfl rfl (hB.gr (S.gr hq).out) rfl) ?_)
          first | refine rq_off rfl ?_ | (refine rq_on rfl ?_; refine rq_v (op_div rfl rfl (by omega) (by omega)) ?_)
          refine rq_on rfl ?_
          refine rq_v (op_b (b := false) rfl (beq_eq_false_iff_ne.2 hq)) ?_
          first | refine rq_off rfl ?_ | (refine rq_on rfl ?_; refine rq_v (op_pure rfl) ?_)
          iterate 2 refine rq_v (op_pure rfl) ?_
          first | refine rq_off rfl ?_ | (refine rq_on rfl ?_; refine rq_v (op_pure rfl) ?_)
          first | refine rq_off rfl ?_ | (refine rq_on rfl ?_; refine rq_v (op_pure rfl) ?_)
          first | refine rq_off rfl ?_ | (refine rq_on rfl ?_; refine rq_v (op_fieldAddr Try.underlying106 rfl Try.sizeOf3 rfl rfl) ?_)
          first | refine rq_off rfl ?_ | (refine rq_on rfl ?_; refine rq_r (fun wq hq => op_loadB Try.underlying3 rfl rfl (hB.gr (S.gr hq).out) rfl) ?_)
          first | refine rq_off rfl ?_ | (refine rq_on rfl ?_; (first | refine rq_v (op_b (b := true) rfl (beq_iff_eq.2 (by omega))) ?_ | refine rq_v (op_b (b := false) rfl (beq_eq_false_iff_ne.2 (by omega))) ?_ | refine rq_v (op_pure rfl) ?_))
          first | refine rq_off rfl ?_ | (refine rq_on rfl ?_; refine rq_v (op_pure rfl) ?_)
          first | refine rq_off rfl ?_ | (refine rq_on rfl ?_; refine rq_v (op_pure rfl) ?_)
          first | refine rq_off rfl ?_ | (refine rq_on rfl ?_; refine rq_v (op_pure rfl) ?_)
          first | refine rq_off rfl ?_ | (refine rq_on rfl ?_; refine rq_v (op_pure rfl) ?_)
          iterate 3 refine rq_v (op_pure rfl) ?_
          refine rq_nil ?_
          intro w1_ g1_
          have S := S.gr g1_
          first | refine rw_end ?_ | (refine rw_nil ?_; show CW _ _ _ _ _ _) | refine rw_nil ?_
          repeat refine cw_seq ?_
          refine cw_ret ?_
          repeat first | refine ret_then ?_ | refine ret_inb ?_
          exact res2 rfl rfl ⟨by rw [hok]; first | done | rfl, S.out⟩
      · have hi0 : i % gw = 0 := by rw [show i = 0 by omega]; simp
        have hok : okS gw n i 1 = false := by unfold okS; simp [hi0]
        have S := St.start W
        refine Fn_enter Try.func127 rfl Try.results127 Try.ntmps127 (by kernel_rfl) (by kernel_rfl) ?_
        repeat refine cw_seq ?_
        refine cw_region ?_
        iterate 2 refine rw_v (op_pure rfl) ?_
        first | refine rw_end ?_ | (refine rw_nil ?_; show CW _ _ _ _ _ _) | refine rw_nil ?_
        repeat refine cw_seq ?_
        refine cw_region ?_
        iterate 2 refine rw_v (op_pure rfl) ?_
        refine rw_v (op_rng rfl (by omega)) ?_
        refine rw_v (op_pure rfl) ?_
        first | refine rw_end ?_ | (refine rw_nil ?_; show CW _ _ _ _ _ _) | refine rw_nil ?_
        repeat refine cw_seq ?_
        refine cw_region ?_
        refine rw_v (op_pure rfl) ?_
        first | refine rw_v (op_b (b := true) rfl (beq_iff_eq.2 (by omega))) ?_ | refine rw_v (op_b (b := false) rfl (beq_eq_false_iff_ne.2 (by omega))) ?_ | refine rw_v (op_pure rfl) ?_
        refine rw_v (op_pure rfl) ?_
        first | refine rw_off rfl ?_ | (refine rw_on rfl ?_; refine rw_v (op_pure rfl) ?_)
        first | refine rw_off rfl ?_ | (refine rw_on rfl ?_; (first | refine rw_v (op_b (b := true) rfl (beq_iff_eq.2 (by omega))) ?_ | refine rw_v (op_b (b := false) rfl (beq_eq_false_iff_ne.2 (by omega))) ?_ | refine rw_v (op_pure rfl) ?_))
        iterate 2 refine rw_v (op_pure rfl) ?_
        first | refine rw_end ?_ | (refine rw_nil ?_; show CW _ _ _ _ _ _) | refine rw_nil ?_
        repeat refine cw_seq ?_
        refine cw_draw (C := fun wq => Gr W wq) [0, 1, 2, 3, 4, 5, 6, 7, 8, 9, 10, 11, 12, 13, 14, 15, 16, 17, 18, 19, 20, 21, 22, 23, 24, 25, 26, 27, 28, 29, 30, 31, 32, 33, 34, 35, 36, 37, 38, 39, 40, 41, 42, 43, 44, 45, 46, 47, 48, 49, 50] [] (by kernel_rfl) (by kernel_rfl) (Gr.drew _) ?_
        simp only [pickL, List.drop_succ_cons, List.drop_zero]
        iterate 2 refine rq_v (op_pure rfl) ?_
        first | refine rq_v (op_b (b := true) rfl (decide_eq_true (by omega))) ?_ | refine rq_v (op_b (b := false) rfl (decide_eq_false (by omega))) ?_ | refine rq_v (op_pure rfl) ?_
        refine rq_v (op_pure rfl) ?_
        first | refine rq_off rfl ?_ | (refine rq_on rfl ?_; refine rq_v (op_pure rfl) ?_)
        first | refine rq_off rfl ?_ | (refine rq_on rfl ?_; refine rq_v (op_pure rfl) ?_)
        first | refine rq_off rfl ?_ | (refine rq_on rfl ?_; refine rq_v (op_pure rfl) ?_)
        first | refine rq_off rfl ?_ | (refine rq_on rfl ?_; refine rq_v (op_fieldAddr Try.underlying106 rfl Try.sizeOf22 rfl rfl) ?_)
        first | refine rq_off rfl ?_ | (refine rq_on rfl ?_; refine rq_r (fun wq hq => op_loadB Try.underlying22 rfl rfl (hB.gr (S.gr hq).out) rfl) ?_)
        first | refine rq_off rfl ?_ | (refine rq_on rfl ?_; refine rq_v (op_len Try.underlying22 rfl) ?_)
        first | refine rq_off rfl ?_ | (refine rq_on rfl ?_; (first | refine rq_v (op_b (b := true) rfl (decide_eq_true (by omega))) ?_ | refine rq_v (op_b (b := false) rfl (decide_eq_false (by omega))) ?_ | refine rq_v (op_pure rfl) ?_))
        iterate 2 refine rq_v (op_pure rfl) ?_
        first | refine rq_off rfl ?_ | (refine rq_on rfl ?_; refine rq_v (op_pure rfl) ?_)
        first | refine rq_off rfl ?_ | (refine rq_on rfl ?_; refine rq_v (op_pure rfl) ?_)
        first | refine rq_off rfl ?_ | (refine rq_on rfl ?_; refine rq_v (op_fieldAddr Try.underlying106 rfl Try.sizeOf3 rfl rfl) ?_)
        first | refine rq_off rfl ?_ | (refine rq_on rfl ?_; refine rq_r (fun wq hq => op_loadB Try.underlying3 rfl rfl (hB.gr (S.gr hq).out) rfl) ?_)
        first | refine rq_off rfl ?_ | (refine rq_on rfl ?_; (first | refine rq_v (op_b (b := true) rfl (beq_iff_eq.2 (by omega))) ?_ | refine rq_v (op_b (b := false) rfl (beq_eq_false_iff_ne.2 (by omega))) ?_ | refine rq_v (op_pure rfl) ?_))
        first | refine rq_off rfl ?_ | (refine rq_on rfl ?_; refine rq_v (op_pure rfl) ?_)
        first | refine rq_off rfl ?_ | (refine rq_on rfl ?_; refine rq_v (op_pure rfl) ?_)
        first | refine rq_off rfl ?_ | (refine rq_on rfl ?_; refine rq_v (op_pure rfl) ?_)
        first | refine rq_off rfl ?_ | (refine rq_on rfl ?_; refine rq_v (op_pure rfl) ?_)
        first | refine rq_off rfl ?_ | (refine rq_on rfl ?_; refine rq_v (op_pure rfl) ?_)
        first | refine rq_off rfl ?_ | (refine rq_on rfl ?_; refine rq_v (op_pure rfl) ?_)
        first | refine rq_off rfl ?_ | (refine rq_on rfl ?_; refine rq_v (op_pure rfl) ?_)
        first | refine rq_off rfl ?_ | (refine rq_on rfl ?_; refine rq_v (op_pure rfl) ?_)
        first | refine rq_off rfl ?_ | (refine rq_on rfl ?_; refine rq_v (op_fieldAddr Try.underlying106 rfl Try.sizeOf3 rfl rfl) ?_)
        first | refine rq_off rfl ?_ | (refine rq_on rfl ?_; refine rq_r (fun wq hq => op_loadB Try.underlying3 rfl rfl (hB.gr (S.gr hq).out) rfl) ?_)
        first | refine rq_off rfl ?_ | (refine rq_on rfl ?_; refine rq_v (op_div rfl rfl (by omega) (by omega)) ?_)
        first | refine rq_off rfl ?_ | (refine rq_on rfl ?_; refine rq_v (op_pure rfl) ?_)
        first | refine rq_off rfl ?_ | (refine rq_on rfl ?_; refine rq_v (op_pure rfl) ?_)
        first | refine rq_off rfl ?_ | (refine rq_on rfl ?_; refine rq_v (op_pure rfl) ?_)
        first | refine rq_off rfl ?_ | (refine rq_on rfl ?_; refine rq_v (op_fieldAddr Try.underlying106 rfl Try.sizeOf3 rfl rfl) ?_)
        first | refine rq_off rfl ?_ | (refine rq_on rfl ?_; refine rq_r (fun wq hq => op_loadB Try.underlying3 rfl rfl (hB.gr (S.gr hq).out) rfl) ?_)
        first | refine rq_off rfl ?_ | (refine rq_on rfl ?_; refine rq_v (op_div rfl rfl (by omega) (by omega)) ?_)
        first | refine rq_off rfl ?_ | (refine rq_on rfl ?_; (first | refine rq_v (op_b (b := true) rfl (beq_iff_eq.2 (by omega))) ?_ | refine rq_v (op_b (b := false) rfl (beq_eq_false_iff_ne.2 (by omega))) ?_ | refine rq_v (op_pure rfl) ?_))
        first | refine rq_off rfl ?_ | (refine rq_on rfl ?_; refine rq_v (op_pure rfl) ?_)
        iterate 2 refine rq_v (op_pure rfl) ?_
        first | refine rq_off rfl ?_ | (refine rq_on rfl ?_; refine rq_v (op_pure rfl) ?_)
        first | refine rq_off rfl ?_ | (refine rq_on rfl ?_; refine rq_v (op_pure rfl) ?_)
        first | refine rq_off rfl ?_ | (refine rq_on rfl ?_; refine rq_v (op_fieldAddr Try.underlying106 rfl Try.sizeOf3 rfl rfl) ?_)
        first | refine rq_off rfl ?_ | (refine rq_on rfl ?_; refine rq_r (fun wq hq => op_loadB Try.underlying3 rfl rfl (hB.gr (S.gr hq).out) rfl) ?_)
        first | refine rq_off rfl ?_ | (refine rq_on rfl ?_; (first | refine rq_v (op_b (b := true) rfl (beq_iff_eq.2 (by omega))) ?_ | refine rq_v (op_b (b := false) rfl (beq_eq_false_iff_ne.2 (by omega))) ?_ | refine rq_v (op_pure rfl) ?_))
        first | refine rq_off rfl ?_ | (refine rq_on rfl ?_; refine rq_v (op_pure rfl) ?_)
        first | refine rq_off rfl ?_ | (refine rq_on rfl ?_; refine rq_v (op_pure rfl) ?_)
        first | refine rq_off rfl ?_ | (refine rq_on rfl ?_; refine rq_v (op_pure rfl) ?_)
        first | refine rq_off rfl ?_ | (refine rq_on rfl ?_; refine rq_v (op_pure rfl) ?_)
        iterate 3 refine rq_v (op_pure rfl) ?_
        refine rq_nil ?_
        intro w1_ g1_
        have S := S.gr g1_
        first | refine rw_end ?_ | (refine rw_nil ?_; show CW _ _ _ _ _ _) | refine rw_nil ?_
        repeat refine cw_seq ?_
        refine cw_ret ?_
        repeat first | refine ret_then ?_ | refine ret_inb ?_
        exact res2 rfl rfl ⟨by rw [hok]; first | done | rfl, S.out⟩
    · rw [show dirS gw 2 = 1 from rfl] at *
      have hds := div_same (gw := gw) (i := i + 1) (j := i) (by omega) rfl
      have hmn := mod_next (i := i) (show 0 < gw by omega)
      have e1 : (i : Int) + 1 = ((i + 1 : Nat) : Int) := by omega
      have e2 : (((i + 1 : Nat) : Int)) / gw = (((i + 1) / gw : Nat) : Int) := by push_cast; rfl
      rw [e1]
      by_cases g3 : i % gw + 1 < gw
      · have hok : okS gw n i 2 = true := by unfold okS; simp [g3] <;> omega
        have hq : (((i + 1 : Nat) : Int)) / gw = (i : Int) / gw := by rw [if_neg (by omega)] at hmn; rw [e2, ed, hds.2 (by omega)]
        have g4 : i + 1 < n := by rw [hng]; exact next_lt (by omega) (by omega) g3
        have S := St.start W
        refine Fn_enter Try.func127 rfl Try.results127 Try.ntmps127 (by kernel_rfl) (by kernel_rfl) ?_
        repeat refine cw_seq ?_
        refine cw_region ?_
        iterate 2 refine rw_v (op_pure rfl) ?_
        first | refine rw_end ?_ | (refine rw_nil ?_; show CW _ _ _ _ _ _) | refine rw_nil ?_
        repeat refine cw_seq ?_
        refine cw_region ?_
        iterate 2 refine rw_v (op_pure rfl) ?_
        refine rw_v (op_rng rfl (by omega)) ?_
        rw [e1]
        refine rw_v (op_pure rfl) ?_
        first | refine rw_end ?_ | (refine rw_nil ?_; show CW _ _ _ _ _ _) | refine rw_nil ?_
        repeat refine cw_seq ?_
        refine cw_region ?_
        refine rw_v (op_pure rfl) ?_
        first | refine rw_v (op_b (b := true) rfl (beq_iff_eq.2 (by omega))) ?_ | refine rw_v (op_b (b := false) rfl (beq_eq_false_iff_ne.2 (by omega))) ?_ | refine rw_v (op_pure rfl) ?_
        refine rw_v (op_pure rfl) ?_
        first | refine rw_off rfl ?_ | (refine rw_on rfl ?_; refine rw_v (op_pure rfl) ?_)
        first | refine rw_off rfl ?_ | (refine rw_on rfl ?_; (first | refine rw_v (op_b (b := true) rfl (beq_iff_eq.2 (by omega))) ?_ | refine rw_v (op_b (b := false) rfl (beq_eq_false_iff_ne.2 (by omega))) ?_ | refine rw_v (op_pure rfl) ?_))
        iterate 2 refine rw_v (op_pure rfl) ?_
        first | refine rw_end ?_ | (refine rw_nil ?_; show CW _ _ _ _ _ _) | refine rw_nil ?_
        repeat refine cw_seq ?_
        refine cw_draw (C := fun wq => Gr W wq) [0, 1, 2, 3, 4, 5, 6, 7, 8, 9, 10, 11, 12, 13, 14, 15, 16, 17, 18, 19, 20, 21, 22, 23, 24, 25, 26, 27, 28, 29, 30, 31, 32, 33, 34, 35, 36, 37, 38, 39, 40, 41, 42, 43, 44, 45, 46, 47, 48, 49, 50] [] (by kernel_rfl) (by kernel_rfl) (Gr.drew _) ?_
        simp only [pickL, List.drop_succ_cons, List.drop_zero]
        iterate 2 refine rq_v (op_pure rfl) ?_
        first | refine rq_v (op_b (b := true) rfl (decide_eq_true (by omega))) ?_ | refine rq_v (op_b (b := false) rfl (decide_eq_false (by omega))) ?_ | refine rq_v (op_pure rfl) ?_
        refine rq_v (op_pure rfl) ?_
        first | refine rq_off rfl ?_ | (refine rq_on rfl ?_; refine rq_v (op_pure rfl) ?_)
        first | refine rq_off rfl ?_ | (refine rq_on rfl ?_; refine rq_v (op_pure rfl) ?_)
        first | refine rq_off rfl ?_ | (refine rq_on rfl ?_; refine rq_v (op_pure rfl) ?_)
        first | refine rq_off rfl ?_ | (refine rq_on rfl ?_; refine rq_v (op_fieldAddr Try.underlying106 rfl Try.sizeOf22 rfl rfl) ?_)
        first | refine rq_off rfl ?_ | (refine rq_on rfl ?_; refine rq_r (fun wq hq => op_loadB Try.underlying22 rfl rfl (hB.gr (S.gr hq).out) rfl) ?_)
        first | refine rq_off rfl ?_ | (refine rq_on rfl ?_; refine rq_v (op_len Try.underlying22 rfl) ?_)
        first | refine rq_off rfl ?_ | (refine rq_on rfl ?_; (first | refine rq_v (op_b (b := true) rfl (decide_eq_true (by omega))) ?_ | refine rq_v (op_b (b := false) rfl (decide_eq_false (by omega))) ?_ | refine rq_v (op_pure rfl) ?_))
        iterate 2 refine rq_v (op_pure rfl) ?_
        first | refine rq_off rfl ?_ | (refine rq_on rfl ?_; refine rq_v (op_pure rfl) ?_)
        first | refine rq_off rfl ?_ | (refine rq_on rfl ?_; refine rq_v (op_pure rfl) ?_)
        first | refine rq_off rfl ?_ | (refine rq_on rfl ?_; refine rq_v (op_fieldAddr Try.underlying106 rfl Try.sizeOf3 rfl rfl) ?_)
        first | refine rq_off rfl ?_ | (refine rq_on rfl ?_; refine rq_r (fun wq hq => op_loadB Try.underlying3 rfl rfl (hB.gr (S.gr hq).out) rfl) ?_)
        first | refine rq_off rfl ?_ | (refine rq_on rfl ?_; (first | refine rq_v (op_b (b := true) rfl (beq_iff_eq.2 (by omega))) ?_ | refine rq_v (op_b (b := false) rfl (beq_eq_false_iff_ne.2 (by omega))) ?_ | refine rq_v (op_pure rfl) ?_))
        first | refine rq_off rfl ?_ | (refine rq_on rfl ?_; refine rq_v (op_pure rfl) ?_)
        first | refine rq_off rfl ?_ | (refine rq_on rfl ?_; refine rq_v (op_pure rfl) ?_)
        first | refine rq_off rfl ?_ | (refine rq_on rfl ?_; refine rq_v (op_pure rfl) ?_)
        first | refine rq_off rfl ?_ | (refine rq_on rfl ?_; refine rq_v (op_pure rfl) ?_)
        first | refine rq_off rfl ?_ | (refine rq_on rfl ?_; refine rq_v (op_pure rfl) ?_)
        first | refine rq_off rfl ?_ | (refine rq_on rfl ?_; refine rq_v (op_pure rfl) ?_)
        first | refine rq_off rfl ?_ | (refine rq_on rfl ?_; refine rq_v (op_pure rfl) ?_)
        first | refine rq_off rfl ?_ | (refine rq_on rfl ?_; refine rq_v (op_pure rfl) ?_)
        first | refine rq_off rfl ?_ | (refine rq_on rfl ?_; refine rq_v (op_fieldAddr Try.underlying106 rfl Try.sizeOf3 rfl rfl) ?_)
        first | refine rq_off rfl ?_ | (refine rq_on rfl ?_; refine rq_r (fun wq hq => op_loadB Try.underlying3 rfl rfl (hB.gr (S.gr hq).out) rfl) ?_)
        first | refine rq_off rfl ?_ | (refine rq_on rfl ?_; refine rq_v (op_div rfl rfl (by omega) (by omega)) ?_)
        first | refine rq_off rfl ?_ | (refine rq_on rfl ?_; refine rq_v (op_pure rfl) ?_)
        first | refine rq_off rfl ?_ | (refine rq_on rfl ?_; refine rq_v (op_pure rfl) ?_)
        first | refine rq_off rfl ?_ | (refine rq_on rfl ?_; refine rq_v (op_pure rfl) ?_)
        first | refine rq_off rfl ?_ | (refine rq_on rfl ?_; refine rq_v (op_fieldAddr Try.underlying106 rfl Try.sizeOf3 rfl rfl) ?_)
        first | refine rq_off rfl ?_ | (refine rq_on rfl ?_; refine rq_r (fun wq hq => op_loadB Try.underlying3 rfl rfl (hB.gr (S.gr hq).out) rfl) ?_)
        first | refine rq_off rfl ?_ | (refine rq_on rfl ?_; refine rq_v (op_div rfl rfl (by omega) (by omega)) ?_)
        refine rq_on rfl ?_
        refine rq_v (op_b (b := true) rfl (beq_iff_eq.2 hq)) ?_
        first | refine rq_off rfl ?_ | (refine rq_on rfl ?_; refine rq_v (op_pure rfl) ?_)
        iterate 2 refine rq_v (op_pure rfl) ?_
        first | refine rq_off rfl ?_ | (refine rq_on rfl ?_; refine rq_v (op_pure rfl) ?_)
        first | refine rq_off rfl ?_ | (refine rq_on rfl ?_; refine rq_v (op_pure rfl) ?_)
        first | refine rq_off rfl ?_ | (refine rq_on rfl ?_; refine rq_v (op_fieldAddr Try.underlying106 rfl Try.sizeOf3 rfl rfl) ?_)
        first | refine rq_off rfl ?_ | (refine rq_on rfl ?_; refine rq_r (fun wq hq => op_loadB Try.underlying3 rfl rfl (hB.gr (S.gr hq).out) rfl) ?_)
        first | refine rq_off rfl ?_ | (refine rq_on rfl ?_; (first | refine rq_v (op_b (b := true) rfl (beq_iff_eq.2 (by omega))) ?_ | refine rq_v (op_b (b := false) rfl (beq_eq_false_iff_ne.2 (by omega))) ?_ | refine rq_v (op_pure rfl) ?_))
        first | refine rq_off rfl ?_ | (refine rq_on rfl ?_; refine rq_v (op_pure rfl) ?_)
        first | refine rq_off rfl ?_ | (refine rq_on rfl ?_; refine rq_v (op_pure rfl) ?_)
        first | refine rq_off rfl ?_ | (refine rq_on rfl ?_; refine rq_v (op_pure rfl) ?_)
        first | refine rq_off rfl ?_ | (refine rq_on rfl ?_; refine rq_v (op_pure rfl) ?_)
        iterate 3 refine rq_v (op_pure rfl) ?_
        refine rq_nil ?_
        intro w1_ g1_
        have S := S.gr g1_
        first | refine rw_end ?_ | (refine rw_nil ?_; show CW _ _ _ _ _ _) | refine rw_nil ?_
        repeat refine cw_seq ?_
        refine cw_ret ?_
        repeat first | refine ret_then ?_ | refine ret_inb ?_
        exact res2 rfl rfl ⟨by rw [hok]; first | done | rfl, S.out⟩
      · have hok : okS gw n i 2 = false := by unfold okS; simp <;> omega
        have hq : (((i + 1 : Nat) : Int)) / gw ≠ (i : Int) / gw := by rw [if_pos (by omega)] at hmn; rw [e2, ed]; intro e; have := hds.1 (by exact_mod_cast e.symm); omega
        by_cases g4 : i + 1 < n
        · skip
          have S := St.start W
          refine Fn_enter Try.func127 rfl Try.results127 Try.ntmps127 (by kernel_rfl) (by kernel_rfl) ?_
          repeat refine cw_seq ?_
          refine cw_region ?_
          iterate 2 refine rw_v (op_pure rfl) ?_
          first | refine rw_end ?_ | (refine rw_nil ?_; show CW _ _ _ _ _ _) | refine rw_nil ?_
          repeat refine cw_seq ?_
          refine cw_region ?_
          iterate 2 refine rw_v (op_pure rfl) ?_
          refine rw_v (op_rng rfl (by omega)) ?_
          rw [e1]
          refine rw_v (op_pure rfl) ?_
          first | refine rw_end ?_ | (refine rw_nil ?_; show CW _ _ _ _ _ _) | refine rw_nil ?_
          repeat refine cw_seq ?_
          refine cw_region ?_
          refine rw_v (op_pure rfl) ?_
          first | refine rw_v (op_b (b := true) rfl (beq_iff_eq.2 (by omega))) ?_ | refine rw_v (op_b (b := false) rfl (beq_eq_false_iff_ne.2 (by omega))) ?_ | refine rw_v (op_pure rfl) ?_
          refine rw_v (op_pure rfl) ?_
          first | refine rw_off rfl ?_ | (refine rw_on rfl ?_; refine rw_v (op_pure rfl) ?_)
          first | refine rw_off rfl ?_ | (refine rw_on rfl ?_; (first | refine rw_v (op_b (b := true) rfl (beq_iff_eq.2 (by omega))) ?_ | refine rw_v (op_b (b := false) rfl (beq_eq_false_iff_ne.2 (by omega))) ?_ | refine rw_v (op_pure rfl) ?_))
          iterate 2 refine rw_v (op_pure rfl) ?_
          first | refine rw_end ?_ | (refine rw_nil ?_; show CW _ _ _ _ _ _) | refine rw_nil ?_
          repeat refine cw_seq ?_
          refine cw_draw (C := fun wq => Gr W wq) [0, 1, 2, 3, 4, 5, 6, 7, 8, 9, 10, 11, 12, 13, 14, 15, 16, 17, 18, 19, 20, 21, 22, 23, 24, 25, 26, 27, 28, 29, 30, 31, 32, 33, 34, 35, 36, 37, 38, 39, 40, 41, 42, 43, 44, 45, 46, 47, 48, 49, 50] [] (by kernel_rfl) (by kernel_rfl) (Gr.drew _) ?_
          simp only [pickL, List.drop_succ_cons, List.drop_zero]
          iterate 2 refine rq_v (op_pure rfl) ?_
          first | refine rq_v (op_b (b := true) rfl (decide_eq_true (by omega))) ?_ | refine rq_v (op_b (b := false) rfl (decide_eq_false (by omega))) ?_ | refine rq_v (op_pure rfl) ?_
          refine rq_v (op_pure rfl) ?_
          first | refine rq_off rfl ?_ | (refine rq_on rfl ?_; refine rq_v (op_pure rfl) ?_)
          first | refine rq_off rfl ?_ | (refine rq_on rfl ?_; refine rq_v (op_pure rfl) ?_)
          first | refine rq_off rfl ?_ | (refine rq_on rfl ?_; refine rq_v (op_pure rfl) ?_)
          first | refine rq_off rfl ?_ | (refine rq_on rfl ?_; refine rq_v (op_fieldAddr Try.underlying106 rfl Try.sizeOf22 rfl rfl) ?_)
          first | refine rq_off rfl ?_ | (refine rq_on rfl ?_; refine rq_r (fun wq hq => op_loadB Try.underlying22 rfl rfl (hB.gr (S.gr hq).out) rfl) ?_)
          first | refine rq_off rfl ?_ | (refine rq_on rfl ?_; refine rq_v (op_len Try.underlying22 rfl) ?_)
          first | refine rq_off rfl ?_ | (refine rq_on rfl ?_; (first | refine rq_v (op_b (b := true) rfl (decide_eq_true (by omega))) ?_ | refine rq_v (op_b (b := false) rfl (decide_eq_false (by omega))) ?_ | refine rq_v (op_pure rfl) ?_))
          iterate 2 refine rq_v (op_pure rfl) ?_
          first | refine rq_off rfl ?_ | (refine rq_on rfl ?_; refine rq_v (op_pure rfl) ?_)
          first | refine rq_off rfl ?_ | (refine rq_on rfl ?_; refine rq_v (op_pure rfl) ?_)
          first | refine rq_off rfl ?_ | (refine rq_on rfl ?_; refine rq_v (op_fieldAddr Try.underlying106 rfl Try.sizeOf3 rfl rfl) ?_)
          first | refine rq_off rfl ?_ | (refine rq_on rfl ?_; refine rq_r (fun wq hq => op_loadB Try.underlying3 rfl rfl (hB.gr (S.gr hq).out) rfl) ?_)
          first | refine rq_off rfl ?_ | (refine rq_on rfl ?_; (first | refine rq_v (op_b (b := true) rfl (beq_iff_eq.2 (by omega))) ?_ | refine rq_v (op_b (b := false) rfl (beq_eq_false_iff_ne.2 (by omega))) ?_ | refine rq_v (op_pure rfl) ?_))
          first | refine rq_off rfl ?_ | (refine rq_on rfl ?_; refine rq_v (op_pure rfl) ?_)
          first | refine rq_off rfl ?_ | (refine rq_on rfl ?_; refine rq_v (op_pure rfl) ?_)
          first | refine rq_off rfl ?_ | (refine rq_on rfl ?_; refine rq_v (op_pure rfl) ?_)
          first | refine rq_off rfl ?_ | (refine rq_on rfl ?_; refine rq_v (op_pure rfl) ?_)
          first | refine rq_off rfl ?_ | (refine rq_on rfl ?_; refine rq_v (op_pure rfl) ?_)
          first | refine rq_off rfl ?_ | (refine rq_on rfl ?_; refine rq_v (op_pure rfl) ?_)
          first | refine rq_off rfl ?_ | (refine rq_on rfl ?_; refine rq_v (op_pure rfl) ?_)
          first | refine rq_off rfl ?_ | (refine rq_on rfl ?_; refine rq_v (op_pure rfl) ?_)
          first | refine rq_off rfl ?_ | (refine rq_on rfl ?_; refine rq_v (op_fieldAddr Try.underlying106 rfl Try.sizeOf3 rfl rfl) ?_)
          first | refine rq_off rfl ?_ | (refine rq_on rfl ?_; refine rq_r (fun wq hq => op_loadB Try.underlying3 rfl rfl (hB.gr (S.gr hq).out) rfl) ?_)
          first | refine rq_off rfl ?_ | (refine rq_on rfl ?_; refine rq_v (op_div rfl rfl (by omega) (by omega)) ?_)
          first | refine rq_off rfl ?_ | (refine rq_on rfl ?_; refine rq_v (op_pure rfl) ?_)
          first | refine rq_off rfl ?_ | (refine rq_on rfl ?_; refine rq_v (op_pure rfl) ?_)
          first | refine rq_off rfl ?_ | (refine rq_on rfl ?_; refine rq_v (op_pure rfl) ?_)
          first | refine rq_off rfl ?_ | (refine rq_on rfl ?_; refine rq_v (op_fieldAddr Try.underlying106 rfl Try.sizeOf3 rfl rfl) ?_)
          first | refine rq_off rfl ?_ | (refine rq_on rfl ?_; refine rq_r (fun wq hq => op_loadB Try.underlying3 rfl rfl (hB.gr (S.gr hq).out) rfl) ?_)
          first | refine rq_off rfl ?_ | (refine rq_on rfl ?_; refine rq_v (op_div rfl rfl (by omega) (by omega)) ?_)
          refine rq_on rfl ?_
          refine rq_v (op_b (b := false) rfl (beq_eq_false_iff_ne.2 hq)) ?_
          first | refine rq_off rfl ?_ | (refine rq_on rfl ?_; refine rq_v (op_pure rfl) ?_)
          iterate 2 refine rq_v (op_pure rfl) ?_
          first | refine rq_off rfl ?_ | (refine rq_on rfl ?_; refine rq_v (op_pure rfl) ?_)
          first | refine rq_off rfl ?_ | (refine rq_on rfl ?_; refine rq_v (op_pure rfl) ?_)
          first | refine rq_off rfl ?_ | (refine rq_on rfl ?_; refine rq_v (op_fieldAddr Try.underlying106 rfl Try.sizeOf3 rfl rfl) ?_)
          first | refine rq_off rfl ?_ | (refine rq_on rfl ?_; refine rq_r (fun wq hq => op_loadB Try.underlying3 rfl rfl (hB.gr (S.gr hq).out) rfl) ?_)
          first | refine rq_off rfl ?_ | (refine rq_on rfl ?_; (first | refine rq_v (op_b (b := true) rfl (beq_iff_eq.2 (by omega))) ?_ | refine rq_v (op_b (b := false) rfl (beq_eq_false_iff_ne.2 (by omega))) ?_ | refine rq_v (op_pure rfl) ?_))
          first | refine rq_off rfl ?_ | (refine rq_on rfl ?_; refine rq_v (op_pure rfl) ?_)
          first | refine rq_off rfl ?_ | (refine rq_on rfl ?_; refine rq_v (op_pure rfl) ?_)
          first | refine rq_off rfl ?_ | (refine rq_on rfl ?_; refine rq_v (op_pure rfl) ?_)
          first | refine rq_off rfl ?_ | (refine rq_on rfl ?_; refine rq_v (op_pure rfl) ?_)
          iterate 3 refine rq_v (op_pure rfl) ?_
          refine rq_nil ?_
          intro w1_ g1_
          have S := S.gr g1_
          first | refine rw_end ?_ | (refine rw_nil ?_; show CW _ _ _ _ _ _) | refine rw_nil ?_
          repeat refine cw_seq ?_
          refine cw_ret ?_
          repeat first | refine ret_then ?_ | refine ret_inb ?_
          exact res2 rfl rfl ⟨by rw [hok]; first | done | rfl, S.out⟩
        · skip
          have S := St.start W
          refine Fn_enter Try.func127 rfl Try.results127 Try.ntmps127 (by kernel_rfl) (by kernel_rfl) ?_
          repeat refine cw_seq ?_
          refine cw_region ?_
          iterate 2 refine rw_v (op_pure rfl) ?_
          first | refine rw_end ?_ | (refine rw_nil ?_; show CW _ _ _ _ _ _) | refine rw_nil ?_
          repeat refine cw_seq ?_
          refine cw_region ?_
          iterate 2 refine rw_v (op_pure rfl) ?_
          refine rw_v (op_rng rfl (by omega)) ?_
          rw [e1]
          refine rw_v (op_pure rfl) ?_
          first | refine rw_end ?_ | (refine rw_nil ?_; show CW _ _ _ _ _ _) | refine rw_nil ?_
          repeat refine cw_seq ?_
          refine cw_region ?_
          refine rw_v (op_pure rfl) ?_
          first | refine rw_v (op_b (b := true) rfl (beq_iff_eq.2 (by omega))) ?_ | refine rw_v (op_b (b := false) rfl (beq_eq_false_iff_ne.2 (by omega))) ?_ | refine rw_v (op_pure rfl) ?_
          refine rw_v (op_pure rfl) ?_
          first | refine rw_off rfl ?_ | (refine rw_on rfl ?_; refine rw_v (op_pure rfl) ?_)
          first | refine rw_off rfl ?_ | (refine rw_on rfl ?_; (first | refine rw_v (op_b (b := true) rfl (beq_iff_eq.2 (by omega))) ?_ | refine rw_v (op_b (b := false) rfl (beq_eq_false_iff_ne.2 (by omega))) ?_ | refine rw_v (op_pure rfl) ?_))
          iterate 2 refine rw_v (op_pure rfl) ?_
          first | refine rw_end ?_ | (refine rw_nil ?_; show CW _ _ _ _ _ _) | refine rw_nil ?_
          repeat refine cw_seq ?_
          refine cw_draw (C := fun wq => Gr W wq) [0, 1, 2, 3, 4, 5, 6, 7, 8, 9, 10, 11, 12, 13, 14, 15, 16, 17, 18, 19, 20, 21, 22, 23, 24, 25, 26, 27, 28, 29, 30, 31, 32, 33, 34, 35, 36, 37, 38, 39, 40, 41, 42, 43, 44, 45, 46, 47, 48, 49, 50] [] (by kernel_rfl) (by kernel_rfl) (Gr.drew _) ?_
          simp only [pickL, List.drop_succ_cons, List.drop_zero]
          iterate 2 refine rq_v (op_pure rfl) ?_
          first | refine rq_v (op_b (b := true) rfl (decide_eq_true (by omega))) ?_ | refine rq_v (op_b (b := false) rfl (decide_eq_false (by omega))) ?_ | refine rq_v (op_pure rfl) ?_
          refine rq_v (op_pure rfl) ?_
          first | refine rq_off rfl ?_ | (refine rq_on rfl ?_; refine rq_v (op_pure rfl) ?_)
          first | refine rq_off rfl ?_ | (refine rq_on rfl ?_; refine rq_v (op_pure rfl) ?_)
          first | refine rq_off rfl ?_ | (refine rq_on rfl ?_; refine rq_v (op_pure rfl) ?_)
          first | refine rq_off rfl ?_ | (refine rq_on rfl ?_; refine rq_v (op_fieldAddr Try.underlying106 rfl Try.sizeOf22 rfl rfl) ?_)
          first | refine rq_off rfl ?_ | (refine rq_on rfl ?_; refine rq_r (fun wq hq => op_loadB Try.underlying22 rfl rfl (hB.gr (S.gr hq).out) rfl) ?_)
          first | refine rq_off rfl ?_ | (refine rq_on rfl ?_; refine rq_v (op_len Try.underlying22 rfl) ?_)
          first | refine rq_off rfl ?_ | (refine rq_on rfl ?_; (first | refine rq_v (op_b (b := true) rfl (decide_eq_true (by omega))) ?_ | refine rq_v (op_b (b := false) rfl (decide_eq_false (by omega))) ?_ | refine rq_v (op_pure rfl) ?_))
          iterate 2 refine rq_v (op_pure rfl) ?_
          first | refine rq_off rfl ?_ | (refine rq_on rfl ?_; refine rq_v (op_pure rfl) ?_)
          first | refine rq_off rfl ?_ | (refine rq_on rfl ?_; refine rq_v (op_pure rfl) ?_)
          first | refine rq_off rfl ?_ | (refine rq_on rfl ?_; refine rq_v (op_fieldAddr Try.underlying106 rfl Try.sizeOf3 rfl rfl) ?_)
          first | refine rq_off rfl ?_ | (refine rq_on rfl ?_; refine rq_r (fun wq hq => op_loadB Try.underlying3 rfl rfl (hB.gr (S.gr hq).out) rfl) ?_)
          first | refine rq_off rfl ?_ | (refine rq_on rfl ?_; (first | refine rq_v (op_b (b := true) rfl (beq_iff_eq.2 (by omega))) ?_ | refine rq_v (op_b (b := false) rfl (beq_eq_false_iff_ne.2 (by omega))) ?_ | refine rq_v (op_pure rfl) ?_))
          first | refine rq_off rfl ?_ | (refine rq_on rfl ?_; refine rq_v (op_pure rfl) ?_)
          first | refine rq_off rfl ?_ | (refine rq_on rfl ?_; refine rq_v (op_pure rfl) ?_)
          first | refine rq_off rfl ?_ | (refine rq_on rfl ?_; refine rq_v (op_pure rfl) ?_)
          first | refine rq_off rfl ?_ | (refine rq_on rfl ?_; refine rq_v (op_pure rfl) ?_)
          first | refine rq_off rfl ?_ | (refine rq_on rfl ?_; refine rq_v (op_pure rfl) ?_)
          first | refine rq_off rfl ?_ | (refine rq_on rfl ?_; refine rq_v (op_pure rfl) ?_)
          first | refine rq_off rfl ?_ | (refine rq_on rfl ?_; refine rq_v (op_pure rfl) ?_)
          first | refine rq_off rfl ?_ | (refine rq_on rfl ?_; refine rq_v (op_pure rfl) ?_)
          first | refine rq_off rfl ?_ | (refine rq_on rfl ?_; refine rq_v (op_fieldAddr Try.underlying106 rfl Try.sizeOf3 rfl rfl) ?_)
          first | refine rq_off rfl ?_ | (refine rq_on rfl ?_; refine rq_r (fun wq hq => op_loadB Try.underlying3 rfl rfl (hB.gr (S.gr hq).out) rfl) ?_)
          first | refine rq_off rfl ?_ | (refine rq_on rfl ?_; refine rq_v (op_div rfl rfl (by omega) (by omega)) ?_)
          first | refine rq_off rfl ?_ | (refine rq_on rfl ?_; refine rq_v (op_pure rfl) ?_)
          first | refine rq_off rfl ?_ | (refine rq_on rfl ?_; refine rq_v (op_pure rfl) ?_)
          first | refine rq_off rfl ?_ | (refine rq_on rfl ?_; refine rq_v (op_pure rfl) ?_)
          first | refine rq_off rfl ?_ | (refine rq_on rfl ?_; refine rq_v (op_fieldAddr Try.underlying106 rfl Try.sizeOf3 rfl rfl) ?_)
          first | refine rq_off rfl ?_ | (refine rq_on rfl ?_; refine rq_r (fun wq hq => op_loadB Try.underlying3 rfl rfl (hB.gr (S.gr hq).out) rfl) ?_)
          first | refine rq_off rfl ?_ | (refine rq_on rfl ?_; refine rq_v (op_div rfl rfl (by omega) (by omega)) ?_)
          first | refine rq_off rfl ?_ | (refine rq_on rfl ?_; (first | refine rq_v (op_b (b := true) rfl (beq_iff_eq.2 (by omega))) ?_ | refine rq_v (op_b (b := false) rfl (beq_eq_false_iff_ne.2 (by omega))) ?_ | refine rq_v (op_pure rfl) ?_))
          first | refine rq_off rfl ?_ | (refine rq_on rfl ?_; refine rq_v (op_pure rfl) ?_)
          iterate 2 refine rq_v (op_pure rfl) ?_
          first | refine rq_off rfl ?_ | (refine rq_on rfl ?_; refine rq_v (op_pure rfl) ?_)
          first | refine rq_off rfl ?_ | (refine rq_on rfl ?_; refine rq_v (op_pure rfl) ?_)
          first | refine rq_off rfl ?_ | (refine rq_on rfl ?_; refine rq_v (op_fieldAddr Try.underlying106 rfl Try.sizeOf3 rfl rfl) ?_)
          first | refine rq_off rfl ?_ | (refine rq_on rfl ?_; refine rq_r (fun wq hq => op_loadB Try.underlying3 rfl rfl (hB.gr (S.gr hq).out) rfl) ?_)
          first | refine rq_off rfl ?_ | (refine rq_on rfl ?_; (first | refine rq_v (op_b (b := true) rfl (beq_iff_eq.2 (by omega))) ?_ | refine rq_v (op_b (b := false) rfl (beq_eq_false_iff_ne.2 (by omega))) ?_ | refine rq_v (op_pure rfl) ?_))
          first | refine rq_off rfl ?_ | (refine rq_on rfl ?_; refine rq_v (op_pure rfl) ?_)
          first | refine rq_off rfl ?_ | (refine rq_on rfl ?_; refine rq_v (op_pure rfl) ?_)
          first | refine rq_off rfl ?_ | (refine rq_on rfl ?_; refine rq_v (op_pure rfl) ?_)
          first | refine rq_off rfl ?_ | (refine rq_on rfl ?_; refine rq_v (op_pure rfl) ?_)
          iterate 3 refine rq_v (op_pure rfl) ?_
          refine rq_nil ?_
          intro w1_ g1_
          have S := S.gr g1_
          first | refine rw_end ?_ | (refine rw_nil ?_; show CW _ _ _ _ _ _) | refine rw_nil ?_
          repeat refine cw_seq ?_
          refine cw_ret ?_
          repeat first | refine ret_then ?_ | refine ret_inb ?_
          exact res2 rfl rfl ⟨by rw [hok]; first | done | rfl, S.out⟩
    · rw [show dirS gw 3 = (gw : Int) from rfl] at *
      by_cases g2 : i + gw < n
      · have hok : okS gw n i 3 = true := by unfold okS; simp [g2] <;> omega
        have S := St.start W
        refine Fn_enter Try.func127 rfl Try.results127 Try.ntmps127 (by kernel_rfl) (by kernel_rfl) ?_
        repeat refine cw_seq ?_
        refine cw_region ?_
        iterate 2 refine rw_v (op_pure rfl) ?_
        first | refine rw_end ?_ | (refine rw_nil ?_; show CW _ _ _ _ _ _) | refine rw_nil ?_
        repeat refine cw_seq ?_
        refine cw_region ?_
        iterate 2 refine rw_v (op_pure rfl) ?_
        refine rw_v (op_rng rfl (by omega)) ?_
        refine rw_v (op_pure rfl) ?_
        first | refine rw_end ?_ | (refine rw_nil ?_; show CW _ _ _ _ _ _) | refine rw_nil ?_
        repeat refine cw_seq ?_
        refine cw_region ?_
        refine rw_v (op_pure rfl) ?_
        first | refine rw_v (op_b (b := true) rfl (beq_iff_eq.2 (by omega))) ?_ | refine rw_v (op_b (b := false) rfl (beq_eq_false_iff_ne.2 (by omega))) ?_ | refine rw_v (op_pure rfl) ?_
        refine rw_v (op_pure rfl) ?_
        first | refine rw_off rfl ?_ | (refine rw_on rfl ?_; refine rw_v (op_pure rfl) ?_)
        first | refine rw_off rfl ?_ | (refine rw_on rfl ?_; (first | refine rw_v (op_b (b := true) rfl (beq_iff_eq.2 (by omega))) ?_ | refine rw_v (op_b (b := false) rfl (beq_eq_false_iff_ne.2 (by omega))) ?_ | refine rw_v (op_pure rfl) ?_))
        iterate 2 refine rw_v (op_pure rfl) ?_
        first | refine rw_end ?_ | (refine rw_nil ?_; show CW _ _ _ _ _ _) | refine rw_nil ?_
        repeat refine cw_seq ?_
        refine cw_draw (C := fun wq => Gr W wq) [0, 1, 2, 3, 4, 5, 6, 7, 8, 9, 10, 11, 12, 13, 14, 15, 16, 17, 18, 19, 20, 21, 22, 23, 24, 25, 26, 27, 28, 29, 30, 31, 32, 33, 34, 35, 36, 37, 38, 39, 40, 41, 42, 43, 44, 45, 46, 47, 48, 49, 50] [] (by kernel_rfl) (by kernel_rfl) (Gr.drew _) ?_
        simp only [pickL, List.drop_succ_cons, List.drop_zero]
        iterate 2 refine rq_v (op_pure rfl) ?_
        first | refine rq_v (op_b (b := true) rfl (decide_eq_true (by omega))) ?_ | refine rq_v (op_b (b := false) rfl (decide_eq_false (by omega))) ?_ | refine rq_v (op_pure rfl) ?_
        refine rq_v (op_pure rfl) ?_
        first | refine rq_off rfl ?_ | (refine rq_on rfl ?_; refine rq_v (op_pure rfl) ?_)
        first | refine rq_off rfl ?_ | (refine rq_on rfl ?_; refine rq_v (op_pure rfl) ?_)
        first | refine rq_off rfl ?_ | (refine rq_on rfl ?_; refine rq_v (op_pure rfl) ?_)
        first | refine rq_off rfl ?_ | (refine rq_on rfl ?_; refine rq_v (op_fieldAddr Try.underlying106 rfl Try.sizeOf22 rfl rfl) ?_)
        first | refine rq_off rfl ?_ | (refine rq_on rfl ?_; refine rq_r (fun wq hq => op_loadB Try.underlying22 rfl rfl (hB.gr (S.gr hq).out) rfl) ?_)
        first | refine rq_off rfl ?_ | (refine rq_on rfl ?_; refine rq_v (op_len Try.underlying22 rfl) ?_)
        first | refine rq_off rfl ?_ | (refine rq_on rfl ?_; (first | refine rq_v (op_b (b := true) rfl (decide_eq_true (by omega))) ?_ | refine rq_v (op_b (b := false) rfl (decide_eq_false (by omega))) ?_ | refine rq_v (op_pure rfl) ?_))
        iterate 2 refine rq_v (op_pure rfl) ?_
        first | refine rq_off rfl ?_ | (refine rq_on rfl ?_; refine rq_v (op_pure rfl) ?_)
        first | refine rq_off rfl ?_ | (refine rq_on rfl ?_; refine rq_v (op_pure rfl) ?_)
        first | refine rq_off rfl ?_ | (refine rq_on rfl ?_; refine rq_v (op_fieldAddr Try.underlying106 rfl Try.sizeOf3 rfl rfl) ?_)
        first | refine rq_off rfl ?_ | (refine rq_on rfl ?_; refine rq_r (fun wq hq => op_loadB Try.underlying3 rfl rfl (hB.gr (S.gr hq).out) rfl) ?_)
        first | refine rq_off rfl ?_ | (refine rq_on rfl ?_; (first | refine rq_v (op_b (b := true) rfl (beq_iff_eq.2 (by omega))) ?_ | refine rq_v (op_b (b := false) rfl (beq_eq_false_iff_ne.2 (by omega))) ?_ | refine rq_v (op_pure rfl) ?_))
        first | refine rq_off rfl ?_ | (refine rq_on rfl ?_; refine rq_v (op_pure rfl) ?_)
        first | refine rq_off rfl ?_ | (refine rq_on rfl ?_; refine rq_v (op_pure rfl) ?_)
        first | refine rq_off rfl ?_ | (refine rq_on rfl ?_; refine rq_v (op_pure rfl) ?_)
        first | refine rq_off rfl ?_ | (refine rq_on rfl ?_; refine rq_v (op_pure rfl) ?_)
        first | refine rq_off rfl ?_ | (refine rq_on rfl ?_; refine rq_v (op_pure rfl) ?_)
        first | refine rq_off rfl ?_ | (refine rq_on rfl ?_; refine rq_v (op_pure rfl) ?_)
        first | refine rq_off rfl ?_ | (refine rq_on rfl ?_; refine rq_v (op_pure rfl) ?_)
        first | refine rq_off rfl ?_ | (refine rq_on rfl ?_; refine rq_v (op_pure rfl) ?_)
        first | refine rq_off rfl ?_ | (refine rq_on rfl ?_; refine rq_v (op_fieldAddr Try.underlying106 rfl Try.sizeOf3 rfl rfl) ?_)
        first | refine rq_off rfl ?_ | (refine rq_on rfl ?_; refine rq_r (fun wq hq => op_loadB Try.underlying3 rfl rfl (hB.gr (S.gr hq).out) rfl) ?_)
        first | refine rq_off rfl ?_ | (refine rq_on rfl ?_; refine rq_v (op_div rfl rfl (by omega) (by omega)) ?_)
        first | refine rq_off rfl ?_ | (refine rq_on rfl ?_; refine rq_v (op_pure rfl) ?_)
        first | refine rq_off rfl ?_ | (refine rq_on rfl ?_; refine rq_v (op_pure rfl) ?_)
        first | refine rq_off rfl ?_ | (refine rq_on rfl ?_; refine rq_v (op_pure rfl) ?_)
        first | refine rq_off rfl ?_ | (refine rq_on rfl ?_; refine rq_v (op_fieldAddr Try.underlying106 rfl Try.sizeOf3 rfl rfl) ?_)
        first | refine rq_off rfl ?_ | (refine rq_on rfl ?_; refine rq_r (fun wq hq => op_loadB Try.underlying3 rfl rfl (hB.gr (S.gr hq).out) rfl) ?_)
        first | refine rq_off rfl ?_ | (refine rq_on rfl ?_; refine rq_v (op_div rfl rfl (by omega) (by omega)) ?_)
        first | refine rq_off rfl ?_ | (refine rq_on rfl ?_; (first | refine rq_v (op_b (b := true) rfl (beq_iff_eq.2 (by omega))) ?_ | refine rq_v (op_b (b := false) rfl (beq_eq_false_iff_ne.2 (by omega))) ?_ | refine rq_v (op_pure rfl) ?_))
        first | refine rq_off rfl ?_ | (refine rq_on rfl ?_; refine rq_v (op_pure rfl) ?_)
        iterate 2 refine rq_v (op_pure rfl) ?_
        first | refine rq_off rfl ?_ | (refine rq_on rfl ?_; refine rq_v (op_pure rfl) ?_)
        first | refine rq_off rfl ?_ | (refine rq_on rfl ?_; refine rq_v (op_pure rfl) ?_)
        first | refine rq_off rfl ?_ | (refine rq_on rfl ?_; refine rq_v (op_fieldAddr Try.underlying106 rfl Try.sizeOf3 rfl rfl) ?_)
        first | refine rq_off rfl ?_ | (refine rq_on rfl ?_; refine rq_r (fun wq hq => op_loadB Try.underlying3 rfl rfl (hB.gr (S.gr hq).out) rfl) ?_)
        first | refine rq_off rfl ?_ | (refine rq_on rfl ?_; (first | refine rq_v (op_b (b := true) rfl (beq_iff_eq.2 (by omega))) ?_ | refine rq_v (op_b (b := false) rfl (beq_eq_false_iff_ne.2 (by omega))) ?_ | refine rq_v (op_pure rfl) ?_))
        first | refine rq_off rfl ?_ | (refine rq_on rfl ?_; refine rq_v (op_pure rfl) ?_)
        first | refine rq_off rfl ?_ | (refine rq_on rfl ?_; refine rq_v (op_pure rfl) ?_)
        first | refine rq_off rfl ?_ | (refine rq_on rfl ?_; refine rq_v (op_pure rfl) ?_)
        first | refine rq_off rfl ?_ | (refine rq_on rfl ?_; refine rq_v (op_pure rfl) ?_)
        iterate 3 refine rq_v (op_pure rfl) ?_
        refine rq_nil ?_
        intro w1_ g1_
        have S := S.gr g1_
        first | refine rw_end ?_ | (refine rw_nil ?_; show CW _ _ _ _ _ _) | refine rw_nil ?_
        repeat refine cw_seq ?_
        refine cw_ret ?_
        repeat first | refine ret_then ?_ | refine ret_inb ?_
        exact res2 rfl rfl ⟨by rw [hok]; first | done | rfl, S.out⟩
      · have hok : okS gw n i 3 = false := by unfold okS; simp <;> omega
        have S := St.start W
        refine Fn_enter Try.func127 rfl Try.results127 Try.ntmps127 (by kernel_rfl) (by kernel_rfl) ?_
        repeat refine cw_seq ?_
        refine cw_region ?_
        iterate 2 refine rw_v (op_pure rfl) ?_
        first | refine rw_end ?_ | (refine rw_nil ?_; show CW _ _ _ _ _ _) | refine rw_nil ?_
        repeat refine cw_seq ?_
        refine cw_region ?_
        iterate 2 refine rw_v (op_pure rfl) ?_
        refine rw_v (op_rng rfl (by omega)) ?_
        refine rw_v (op_pure rfl) ?_
        first | refine rw_end ?_ | (refine rw_nil ?_; show CW _ _ _ _ _ _) | refine rw_nil ?_
        repeat refine cw_seq ?_
        refine cw_region ?_
        refine rw_v (op_pure rfl) ?_
        first | refine rw_v (op_b (b := true) rfl (beq_iff_eq.2 (by omega))) ?_ | refine rw_v (op_b (b := false) rfl (beq_eq_false_iff_ne.2 (by omega))) ?_ | refine rw_v (op_pure rfl) ?_
        refine rw_v (op_pure rfl) ?_
        first | refine rw_off rfl ?_ | (refine rw_on rfl ?_; refine rw_v (op_pure rfl) ?_)
        first | refine rw_off rfl ?_ | (refine rw_on rfl ?_; (first | refine rw_v (op_b (b := true) rfl (beq_iff_eq.2 (by omega))) ?_ | refine rw_v (op_b (b := false) rfl (beq_eq_false_iff_ne.2 (by omega))) ?_ | refine rw_v (op_pure rfl) ?_))
        iterate 2 refine rw_v (op_pure rfl) ?_
        first | refine rw_end ?_ | (refine rw_nil ?_; show CW _ _ _ _ _ _) | refine rw_nil ?_
        repeat refine cw_seq ?_
        refine cw_draw (C := fun wq => Gr W wq) [0, 1, 2, 3, 4, 5, 6, 7, 8, 9, 10, 11, 12, 13, 14, 15, 16, 17, 18, 19, 20, 21, 22, 23, 24, 25, 26, 27, 28, 29, 30, 31, 32, 33, 34, 35, 36, 37, 38, 39, 40, 41, 42, 43, 44, 45, 46, 47, 48, 49, 50] [] (by kernel_rfl) (by kernel_rfl) (Gr.drew _) ?_
        simp only [pickL, List.drop_succ_cons, List.drop_zero]
        iterate 2 refine rq_v (op_pure rfl) ?_
        first | refine rq_v (op_b (b := true) rfl (decide_eq_true (by omega))) ?_ | refine rq_v (op_b (b := false) rfl (decide_eq_false (by omega))) ?_ | refine rq_v (op_pure rfl) ?_
        refine rq_v (op_pure rfl) ?_
        first | refine rq_off rfl ?_ | (refine rq_on rfl ?_; refine rq_v (op_pure rfl) ?_)
        first | refine rq_off rfl ?_ | (refine rq_on rfl ?_; refine rq_v (op_pure rfl) ?_)
        first | refine rq_off rfl ?_ | (refine rq_on rfl ?_; refine rq_v (op_pure rfl) ?_)
        first | refine rq_off rfl ?_ | (refine rq_on rfl ?_; refine rq_v (op_fieldAddr Try.underlying106 rfl Try.sizeOf22 rfl rfl) ?_)
        first | refine rq_off rfl ?_ | (refine rq_on rfl ?_; refine rq_r (fun wq hq => op_loadB Try.underlying22 rfl rfl (hB.gr (S.gr hq).out) rfl) ?_)
        first | refine rq_off rfl ?_ | (refine rq_on rfl ?_; refine rq_v (op_len Try.underlying22 rfl) ?_)
        first | refine rq_off rfl ?_ | (refine rq_on rfl ?_; (first | refine rq_v (op_b (b := true) rfl (decide_eq_true (by omega))) ?_ | refine rq_v (op_b (b := false) rfl (decide_eq_false (by omega))) ?_ | refine rq_v (op_pure rfl) ?_))
        iterate 2 refine rq_v (op_pure rfl) ?_
        first | refine rq_off rfl ?_ | (refine rq_on rfl ?_; refine rq_v (op_pure rfl) ?_)
        first | refine rq_off rfl ?_ | (refine rq_on rfl ?_; refine rq_v (op_pure rfl) ?_)
        first | refine rq_off rfl ?_ | (refine rq_on rfl ?_; refine rq_v (op_fieldAddr Try.underlying106 rfl Try.sizeOf3 rfl rfl) ?_)
        first | refine rq_off rfl ?_ | (refine rq_on rfl ?_; refine rq_r (fun wq hq => op_loadB Try.underlying3 rfl rfl (hB.gr (S.gr hq).out) rfl) ?_)
        first | refine rq_off rfl ?_ | (refine rq_on rfl ?_; (first | refine rq_v (op_b (b := true) rfl (beq_iff_eq.2 (by omega))) ?_ | refine rq_v (op_b (b := false) rfl (beq_eq_false_iff_ne.2 (by omega))) ?_ | refine rq_v (op_pure rfl) ?_))
        first | refine rq_off rfl ?_ | (refine rq_on rfl ?_; refine rq_v (op_pure rfl) ?_)
        first | refine rq_off rfl ?_ | (refine rq_on rfl ?_; refine rq_v (op_pure rfl) ?_)
        first | refine rq_off rfl ?_ | (refine rq_on rfl ?_; refine rq_v (op_pure rfl) ?_)
        first | refine rq_off rfl ?_ | (refine rq_on rfl ?_; refine rq_v (op_pure rfl) ?_)
        first | refine rq_off rfl ?_ | (refine rq_on rfl ?_; refine rq_v (op_pure rfl) ?_)
        first | refine rq_off rfl ?_ | (refine rq_on rfl ?_; refine rq_v (op_pure rfl) ?_)
        first | refine rq_off rfl ?_ | (refine rq_on rfl ?_; refine rq_v (op_pure rfl) ?_)
        first | refine rq_off rfl ?_ | (refine rq_on rfl ?_; refine rq_v (op_pure rfl) ?_)
        first | refine rq_off rfl ?_ | (refine rq_on rfl ?_; refine rq_v (op_fieldAddr Try.underlying106 rfl Try.sizeOf3 rfl rfl) ?_)
        first | refine rq_off rfl ?_ | (refine rq_on rfl ?_; refine rq_r (fun wq hq => op_loadB Try.underlying3 rfl rfl (hB.gr (S.gr hq).out) rfl) ?_)
        first | refine rq_off rfl ?_ | (refine rq_on rfl ?_; refine rq_v (op_div rfl rfl (by omega) (by omega)) ?_)
        first | refine rq_off rfl ?_ | (refine rq_on rfl ?_; refine rq_v (op_pure rfl) ?_)
        first | refine rq_off rfl ?_ | (refine rq_on rfl ?_; refine rq_v (op_pure rfl) ?_)
        first | refine rq_off rfl ?_ | (refine rq_on rfl ?_; refine rq_v (op_pure rfl) ?_)
        first | refine rq_off rfl ?_ | (refine rq_on rfl ?_; refine rq_v (op_fieldAddr Try.underlying106 rfl Try.sizeOf3 rfl rfl) ?_)
        first | refine rq_off rfl ?_ | (refine rq_on rfl ?_; refine rq_r (fun wq hq => op_loadB Try.underlying3 rfl rfl (hB.gr (S.gr hq).out) rfl) ?_)
        first | refine rq_off rfl ?_ | (refine rq_on rfl ?_; refine rq_v (op_div rfl rfl (by omega) (by omega)) ?_)
        first | refine rq_off rfl ?_ | (refine rq_on rfl ?_; (first | refine rq_v (op_b (b := true) rfl (beq_iff_eq.2 (by omega))) ?_ | refine rq_v (op_b (b := false) rfl (beq_eq_false_iff_ne.2 (by omega))) ?_ | refine rq_v (op_pure rfl) ?_))
        first | refine rq_off rfl ?_ | (refine rq_on rfl ?_; refine rq_v (op_pure rfl) ?_)
        iterate 2 refine rq_v (op_pure rfl) ?_
        first | refine rq_off rfl ?_ | (refine rq_on rfl ?_; refine rq_v (op_pure rfl) ?_)
        first | refine rq_off rfl ?_ | (refine rq_on rfl ?_; refine rq_v (op_pure rfl) ?_)
        first | refine rq_off rfl ?_ | (refine rq_on rfl ?_; refine rq_v (op_fieldAddr Try.underlying106 rfl Try.sizeOf3 rfl rfl) ?_)
        first | refine rq_off rfl ?_ | (refine rq_on rfl ?_; refine rq_r (fun wq hq => op_loadB Try.underlying3 rfl rfl (hB.gr (S.gr hq).out) rfl) ?_)
        first | refine rq_off rfl ?_ | (refine rq_on rfl ?_; (first | refine rq_v (op_b (b := true) rfl (beq_iff_eq.2 (by omega))) ?_ | refine rq_v (op_b (b := false) rfl (beq_eq_false_iff_ne.2 (by omega))) ?_ | refine rq_v (op_pure rfl) ?_))
        first | refine rq_off rfl ?_ | (refine rq_on rfl ?_; refine rq_v (op_pure rfl) ?_)
        first | refine rq_off rfl ?_ | (refine rq_on rfl ?_; refine rq_v (op_pure rfl) ?_)
        first | refine rq_off rfl ?_ | (refine rq_on rfl ?_; refine rq_v (op_pure rfl) ?_)
        first | refine rq_off rfl ?_ | (refine rq_on rfl ?_; refine rq_v (op_pure rfl) ?_)
        iterate 3 refine rq_v (op_pure rfl) ?_
        refine rq_nil ?_
        intro w1_ g1_
        have S := S.gr g1_
        first | refine rw_end ?_ | (refine rw_nil ?_; show CW _ _ _ _ _ _) | refine rw_nil ?_
        repeat refine cw_seq ?_
        refine cw_ret ?_
        repeat first | refine ret_then ?_ | refine ret_inb ?_
        exact res2 rfl rfl ⟨by rw [hok]; first | done | rfl, S.out⟩
end
end Go.Proofs.Ytbcgbcipigcbhaa
