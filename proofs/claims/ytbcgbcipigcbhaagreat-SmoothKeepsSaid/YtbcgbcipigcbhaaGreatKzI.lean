/- hachureref07: Right, Within, Meet, clip, Around. Printed by mkref44.py. -/
import Derived.Test.YtbcgbcipigcbhaaGreatKzH
import Derived.Test.YtbcgbcipigcbhaaGreatKzF
import Derived.Test.YtbcgbcipigcbhaaGreatKzG
namespace Go.Proofs.YtbcgbcipigcbhaaGreat
open Go.RowKit
set_option linter.unusedVariables false
set_option linter.unusedSimpArgs false
set_option maxRecDepth 100000

theorem right44_E (x0 y0 x1 y1 : Nat) (hx : x0 ≤ x1 ∧ x1 < 1024) (hy : y0 ≤ y1 ∧ y1 < 1024) (W : World) : Fn Tryz.prog 99 [.agg #[.int .i64 x0, .int .i64 y0, .int .i64 x1, .int .i64 y1]] W (RetG (.bool true) W) := by
  have S := St.start W
  refine Fn_enter Tryz.func99 rfl Tryz.results99 Tryz.ntmps99 (by kernel_rfl) (by kernel_rfl) ?_
  repeat refine cw_seq ?_
  refine cw_region ?_
  refine rw_newB (op_box rfl) S ?_
  intro b_a w2_ g2_ S
  refine rw_v (op_pure rfl) ?_
  first | refine rw_end ?_ | (refine rw_nil ?_; show CW _ _ _ _ _ _) | refine rw_nil ?_
  repeat refine cw_seq ?_
  refine cw_region ?_
  refine rw_v (op_fieldAddr Tryz.underlying38 rfl Tryz.sizeOf2 rfl rfl) ?_
  refine rw_r (op_loadB Tryz.underlying2 rfl rfl (S.blk (i := 0) rfl) rfl) ?_
  first | refine rw_v (op_b (b := true) rfl (decide_eq_true (by omega))) ?_ | refine rw_v (op_b (b := false) rfl (decide_eq_false (by omega))) ?_ | refine rw_v (op_pure rfl) ?_
  refine rw_v (op_pure rfl) ?_
  first | refine rw_off rfl ?_ | (refine rw_on rfl ?_; refine rw_v (op_fieldAddr Tryz.underlying38 rfl Tryz.sizeOf2 rfl rfl) ?_)
  first | refine rw_off rfl ?_ | (refine rw_on rfl ?_; refine rw_r (op_loadB Tryz.underlying2 rfl rfl (S.blk (i := 0) rfl) rfl) ?_)
  first | refine rw_off rfl ?_ | (refine rw_on rfl ?_; refine rw_v (op_fieldAddr Tryz.underlying38 rfl Tryz.sizeOf2 rfl rfl) ?_)
  first | refine rw_off rfl ?_ | (refine rw_on rfl ?_; refine rw_r (op_loadB Tryz.underlying2 rfl rfl (S.blk (i := 0) rfl) rfl) ?_)
  first | refine rw_off rfl ?_ | (refine rw_on rfl ?_; (first | refine rw_v (op_b (b := true) rfl (decide_eq_true (by omega))) ?_ | refine rw_v (op_b (b := false) rfl (decide_eq_false (by omega))) ?_ | refine rw_v (op_pure rfl) ?_))
  iterate 2 refine rw_v (op_pure rfl) ?_
  first | refine rw_off rfl ?_ | (refine rw_on rfl ?_; refine rw_v (op_fieldAddr Tryz.underlying38 rfl Tryz.sizeOf2 rfl rfl) ?_)
  first | refine rw_off rfl ?_ | (refine rw_on rfl ?_; refine rw_r (op_loadB Tryz.underlying2 rfl rfl (S.blk (i := 0) rfl) rfl) ?_)
  first | refine rw_off rfl ?_ | (refine rw_on rfl ?_; (first | refine rw_v (op_b (b := true) rfl (decide_eq_true (by omega))) ?_ | refine rw_v (op_b (b := false) rfl (decide_eq_false (by omega))) ?_ | refine rw_v (op_pure rfl) ?_))
  iterate 2 refine rw_v (op_pure rfl) ?_
  first | refine rw_off rfl ?_ | (refine rw_on rfl ?_; refine rw_v (op_fieldAddr Tryz.underlying38 rfl Tryz.sizeOf2 rfl rfl) ?_)
  first | refine rw_off rfl ?_ | (refine rw_on rfl ?_; refine rw_r (op_loadB Tryz.underlying2 rfl rfl (S.blk (i := 0) rfl) rfl) ?_)
  first | refine rw_off rfl ?_ | (refine rw_on rfl ?_; (first | refine rw_v (op_b (b := true) rfl (decide_eq_true (by omega))) ?_ | refine rw_v (op_b (b := false) rfl (decide_eq_false (by omega))) ?_ | refine rw_v (op_pure rfl) ?_))
  iterate 2 refine rw_v (op_pure rfl) ?_
  first | refine rw_off rfl ?_ | (refine rw_on rfl ?_; refine rw_v (op_fieldAddr Tryz.underlying38 rfl Tryz.sizeOf2 rfl rfl) ?_)
  first | refine rw_off rfl ?_ | (refine rw_on rfl ?_; refine rw_r (op_loadB Tryz.underlying2 rfl rfl (S.blk (i := 0) rfl) rfl) ?_)
  first | refine rw_off rfl ?_ | (refine rw_on rfl ?_; refine rw_v (op_fieldAddr Tryz.underlying38 rfl Tryz.sizeOf2 rfl rfl) ?_)
  first | refine rw_off rfl ?_ | (refine rw_on rfl ?_; refine rw_r (op_loadB Tryz.underlying2 rfl rfl (S.blk (i := 0) rfl) rfl) ?_)
  first | refine rw_off rfl ?_ | (refine rw_on rfl ?_; (first | refine rw_v (op_b (b := true) rfl (decide_eq_true (by omega))) ?_ | refine rw_v (op_b (b := false) rfl (decide_eq_false (by omega))) ?_ | refine rw_v (op_pure rfl) ?_))
  iterate 2 refine rw_v (op_pure rfl) ?_
  first | refine rw_off rfl ?_ | (refine rw_on rfl ?_; refine rw_v (op_fieldAddr Tryz.underlying38 rfl Tryz.sizeOf2 rfl rfl) ?_)
  first | refine rw_off rfl ?_ | (refine rw_on rfl ?_; refine rw_r (op_loadB Tryz.underlying2 rfl rfl (S.blk (i := 0) rfl) rfl) ?_)
  first | refine rw_off rfl ?_ | (refine rw_on rfl ?_; (first | refine rw_v (op_b (b := true) rfl (decide_eq_true (by omega))) ?_ | refine rw_v (op_b (b := false) rfl (decide_eq_false (by omega))) ?_ | refine rw_v (op_pure rfl) ?_))
  iterate 2 refine rw_v (op_pure rfl) ?_
  first | refine rw_end ?_ | (refine rw_nil ?_; show CW _ _ _ _ _ _) | refine rw_nil ?_
  repeat refine cw_seq ?_
  refine cw_ret ?_
  repeat first | refine ret_then ?_ | refine ret_inb ?_
  exact res1 rfl ⟨rfl, S.out⟩
theorem within44_E (x0 y0 x1 y1 gw gh : Nat) (hw : 1 ≤ gw ∧ gw ≤ 1024) (hh : 1 ≤ gh ∧ gh ≤ 1024) (hx : x0 ≤ x1 ∧ x1 < gw) (hy : y0 ≤ y1 ∧ y1 < gh) (W : World) : Fn Tryz.prog 58 [.agg #[.int .i64 x0, .int .i64 y0, .int .i64 x1, .int .i64 y1], .int .i64 gw, .int .i64 gh] W (RetG (.int .i64 0) W) := by
  have S := St.start W
  refine Fn_enter Tryz.func58 rfl Tryz.results58 Tryz.ntmps58 (by kernel_rfl) (by kernel_rfl) ?_
  repeat refine cw_seq ?_
  refine cw_region ?_
  refine rw_newB (op_box rfl) S ?_
  intro b_a w2_ g2_ S
  refine rw_v (op_pure rfl) ?_
  first | refine rw_end ?_ | (refine rw_nil ?_; show CW _ _ _ _ _ _) | refine rw_nil ?_
  repeat refine cw_seq ?_
  refine cw_region ?_
  refine rw_v (op_pure rfl) ?_
  first | refine rw_v (op_b (b := true) rfl (decide_eq_true (by omega))) ?_ | refine rw_v (op_b (b := false) rfl (decide_eq_false (by omega))) ?_ | refine rw_v (op_pure rfl) ?_
  refine rw_v (op_pure rfl) ?_
  first | refine rw_off rfl ?_ | (refine rw_on rfl ?_; refine rw_v (op_pure rfl) ?_)
  first | refine rw_off rfl ?_ | (refine rw_on rfl ?_; (first | refine rw_v (op_b (b := true) rfl (decide_eq_true (by omega))) ?_ | refine rw_v (op_b (b := false) rfl (decide_eq_false (by omega))) ?_ | refine rw_v (op_pure rfl) ?_))
  iterate 2 refine rw_v (op_pure rfl) ?_
  first | refine rw_off rfl ?_ | (refine rw_on rfl ?_; refine rw_v (op_pure rfl) ?_)
  first | refine rw_off rfl ?_ | (refine rw_on rfl ?_; (first | refine rw_v (op_b (b := true) rfl (decide_eq_true (by omega))) ?_ | refine rw_v (op_b (b := false) rfl (decide_eq_false (by omega))) ?_ | refine rw_v (op_pure rfl) ?_))
  iterate 2 refine rw_v (op_pure rfl) ?_
  first | refine rw_off rfl ?_ | (refine rw_on rfl ?_; refine rw_v (op_pure rfl) ?_)
  first | refine rw_off rfl ?_ | (refine rw_on rfl ?_; (first | refine rw_v (op_b (b := true) rfl (decide_eq_true (by omega))) ?_ | refine rw_v (op_b (b := false) rfl (decide_eq_false (by omega))) ?_ | refine rw_v (op_pure rfl) ?_))
  refine rw_v (op_pure rfl) ?_
  first | refine rw_end ?_ | (refine rw_nil ?_; show CW _ _ _ _ _ _) | refine rw_nil ?_
  repeat refine cw_seq ?_
  refine cw_false rfl ?_
  repeat refine cw_seq ?_
  refine cw_skip ?_
  try show CW _ _ _ _ _ _
  repeat refine cw_seq ?_
  refine cw_region ?_
  refine rw_v (op_fieldAddr Tryz.underlying38 rfl Tryz.sizeOf2 rfl rfl) ?_
  refine rw_r (op_loadB Tryz.underlying2 rfl rfl (S.blk (i := 0) rfl) rfl) ?_
  first | refine rw_v (op_b (b := true) rfl (decide_eq_true (by omega))) ?_ | refine rw_v (op_b (b := false) rfl (decide_eq_false (by omega))) ?_ | refine rw_v (op_pure rfl) ?_
  refine rw_v (op_pure rfl) ?_
  first | refine rw_off rfl ?_ | (refine rw_on rfl ?_; refine rw_v (op_fieldAddr Tryz.underlying38 rfl Tryz.sizeOf2 rfl rfl) ?_)
  first | refine rw_off rfl ?_ | (refine rw_on rfl ?_; refine rw_r (op_loadB Tryz.underlying2 rfl rfl (S.blk (i := 0) rfl) rfl) ?_)
  first | refine rw_off rfl ?_ | (refine rw_on rfl ?_; refine rw_v (op_pure rfl) ?_)
  first | refine rw_off rfl ?_ | (refine rw_on rfl ?_; (first | refine rw_v (op_b (b := true) rfl (decide_eq_true (by omega))) ?_ | refine rw_v (op_b (b := false) rfl (decide_eq_false (by omega))) ?_ | refine rw_v (op_pure rfl) ?_))
  iterate 2 refine rw_v (op_pure rfl) ?_
  first | refine rw_off rfl ?_ | (refine rw_on rfl ?_; refine rw_v (op_fieldAddr Tryz.underlying38 rfl Tryz.sizeOf2 rfl rfl) ?_)
  first | refine rw_off rfl ?_ | (refine rw_on rfl ?_; refine rw_r (op_loadB Tryz.underlying2 rfl rfl (S.blk (i := 0) rfl) rfl) ?_)
  first | refine rw_off rfl ?_ | (refine rw_on rfl ?_; (first | refine rw_v (op_b (b := true) rfl (decide_eq_true (by omega))) ?_ | refine rw_v (op_b (b := false) rfl (decide_eq_false (by omega))) ?_ | refine rw_v (op_pure rfl) ?_))
  iterate 2 refine rw_v (op_pure rfl) ?_
  first | refine rw_off rfl ?_ | (refine rw_on rfl ?_; refine rw_v (op_fieldAddr Tryz.underlying38 rfl Tryz.sizeOf2 rfl rfl) ?_)
  first | refine rw_off rfl ?_ | (refine rw_on rfl ?_; refine rw_r (op_loadB Tryz.underlying2 rfl rfl (S.blk (i := 0) rfl) rfl) ?_)
  first | refine rw_off rfl ?_ | (refine rw_on rfl ?_; refine rw_v (op_pure rfl) ?_)
  first | refine rw_off rfl ?_ | (refine rw_on rfl ?_; (first | refine rw_v (op_b (b := true) rfl (decide_eq_true (by omega))) ?_ | refine rw_v (op_b (b := false) rfl (decide_eq_false (by omega))) ?_ | refine rw_v (op_pure rfl) ?_))
  iterate 2 refine rw_v (op_pure rfl) ?_
  first | refine rw_off rfl ?_ | (refine rw_on rfl ?_; refine rw_v (op_fieldAddr Tryz.underlying38 rfl Tryz.sizeOf2 rfl rfl) ?_)
  first | refine rw_off rfl ?_ | (refine rw_on rfl ?_; refine rw_r (op_loadB Tryz.underlying2 rfl rfl (S.blk (i := 0) rfl) rfl) ?_)
  first | refine rw_off rfl ?_ | (refine rw_on rfl ?_; (first | refine rw_v (op_b (b := true) rfl (decide_eq_true (by omega))) ?_ | refine rw_v (op_b (b := false) rfl (decide_eq_false (by omega))) ?_ | refine rw_v (op_pure rfl) ?_))
  iterate 2 refine rw_v (op_pure rfl) ?_
  first | refine rw_off rfl ?_ | (refine rw_on rfl ?_; refine rw_v (op_fieldAddr Tryz.underlying38 rfl Tryz.sizeOf2 rfl rfl) ?_)
  first | refine rw_off rfl ?_ | (refine rw_on rfl ?_; refine rw_r (op_loadB Tryz.underlying2 rfl rfl (S.blk (i := 0) rfl) rfl) ?_)
  first | refine rw_off rfl ?_ | (refine rw_on rfl ?_; refine rw_v (op_pure rfl) ?_)
  first | refine rw_off rfl ?_ | (refine rw_on rfl ?_; (first | refine rw_v (op_b (b := true) rfl (decide_eq_true (by omega))) ?_ | refine rw_v (op_b (b := false) rfl (decide_eq_false (by omega))) ?_ | refine rw_v (op_pure rfl) ?_))
  iterate 2 refine rw_v (op_pure rfl) ?_
  first | refine rw_off rfl ?_ | (refine rw_on rfl ?_; refine rw_v (op_fieldAddr Tryz.underlying38 rfl Tryz.sizeOf2 rfl rfl) ?_)
  first | refine rw_off rfl ?_ | (refine rw_on rfl ?_; refine rw_r (op_loadB Tryz.underlying2 rfl rfl (S.blk (i := 0) rfl) rfl) ?_)
  first | refine rw_off rfl ?_ | (refine rw_on rfl ?_; (first | refine rw_v (op_b (b := true) rfl (decide_eq_true (by omega))) ?_ | refine rw_v (op_b (b := false) rfl (decide_eq_false (by omega))) ?_ | refine rw_v (op_pure rfl) ?_))
  iterate 2 refine rw_v (op_pure rfl) ?_
  first | refine rw_off rfl ?_ | (refine rw_on rfl ?_; refine rw_v (op_fieldAddr Tryz.underlying38 rfl Tryz.sizeOf2 rfl rfl) ?_)
  first | refine rw_off rfl ?_ | (refine rw_on rfl ?_; refine rw_r (op_loadB Tryz.underlying2 rfl rfl (S.blk (i := 0) rfl) rfl) ?_)
  first | refine rw_off rfl ?_ | (refine rw_on rfl ?_; refine rw_v (op_pure rfl) ?_)
  first | refine rw_off rfl ?_ | (refine rw_on rfl ?_; (first | refine rw_v (op_b (b := true) rfl (decide_eq_true (by omega))) ?_ | refine rw_v (op_b (b := false) rfl (decide_eq_false (by omega))) ?_ | refine rw_v (op_pure rfl) ?_))
  refine rw_v (op_pure rfl) ?_
  first | refine rw_end ?_ | (refine rw_nil ?_; show CW _ _ _ _ _ _) | refine rw_nil ?_
  repeat refine cw_seq ?_
  refine cw_false rfl ?_
  repeat refine cw_seq ?_
  refine cw_skip ?_
  try show CW _ _ _ _ _ _
  repeat refine cw_seq ?_
  refine cw_region ?_
  refine rw_v (op_fieldAddr Tryz.underlying38 rfl Tryz.sizeOf2 rfl rfl) ?_
  refine rw_r (op_loadB Tryz.underlying2 rfl rfl (S.blk (i := 0) rfl) rfl) ?_
  refine rw_v (op_fieldAddr Tryz.underlying38 rfl Tryz.sizeOf2 rfl rfl) ?_
  refine rw_r (op_loadB Tryz.underlying2 rfl rfl (S.blk (i := 0) rfl) rfl) ?_
  first | refine rw_v (op_b (b := true) rfl (decide_eq_true (by omega))) ?_ | refine rw_v (op_b (b := false) rfl (decide_eq_false (by omega))) ?_ | refine rw_v (op_pure rfl) ?_
  refine rw_v (op_pure rfl) ?_
  first | refine rw_off rfl ?_ | (refine rw_on rfl ?_; refine rw_v (op_fieldAddr Tryz.underlying38 rfl Tryz.sizeOf2 rfl rfl) ?_)
  first | refine rw_off rfl ?_ | (refine rw_on rfl ?_; refine rw_r (op_loadB Tryz.underlying2 rfl rfl (S.blk (i := 0) rfl) rfl) ?_)
  first | refine rw_off rfl ?_ | (refine rw_on rfl ?_; refine rw_v (op_fieldAddr Tryz.underlying38 rfl Tryz.sizeOf2 rfl rfl) ?_)
  first | refine rw_off rfl ?_ | (refine rw_on rfl ?_; refine rw_r (op_loadB Tryz.underlying2 rfl rfl (S.blk (i := 0) rfl) rfl) ?_)
  first | refine rw_off rfl ?_ | (refine rw_on rfl ?_; (first | refine rw_v (op_b (b := true) rfl (decide_eq_true (by omega))) ?_ | refine rw_v (op_b (b := false) rfl (decide_eq_false (by omega))) ?_ | refine rw_v (op_pure rfl) ?_))
  refine rw_v (op_pure rfl) ?_
  first | refine rw_end ?_ | (refine rw_nil ?_; show CW _ _ _ _ _ _) | refine rw_nil ?_
  repeat refine cw_seq ?_
  refine cw_false rfl ?_
  repeat refine cw_seq ?_
  refine cw_skip ?_
  try show CW _ _ _ _ _ _
  repeat refine cw_seq ?_
  refine cw_region ?_
  refine rw_v (op_pure rfl) ?_
  first | refine rw_end ?_ | (refine rw_nil ?_; show CW _ _ _ _ _ _) | refine rw_nil ?_
  repeat refine cw_seq ?_
  refine cw_ret ?_
  repeat first | refine ret_then ?_ | refine ret_inb ?_
  exact res1 rfl ⟨rfl, S.out⟩
theorem clipLow_E (n : Int) (c : Nat) (h : n ≤ 1023) (hc : (c : Int) = max n 0) (W : World) : Fn Tryz.prog 87 [.int .i64 n] W (RetG (.int .i64 c) W) := by
  by_cases h0 : n < 0
  · have e : (c : Int) = 0 := by omega
    rw [e]
    have S := St.start W
    refine Fn_enter Tryz.func87 rfl Tryz.results87 Tryz.ntmps87 (by kernel_rfl) (by kernel_rfl) ?_
    repeat refine cw_seq ?_
    refine cw_region ?_
    refine rw_v (op_pure rfl) ?_
    first | refine rw_end ?_ | (refine rw_nil ?_; show CW _ _ _ _ _ _) | refine rw_nil ?_
    repeat refine cw_seq ?_
    refine cw_region ?_
    refine rw_v (op_pure rfl) ?_
    refine rw_v (op_b (b := true) rfl (decide_eq_true (by omega))) ?_
    first | refine rw_end ?_ | (refine rw_nil ?_; show CW _ _ _ _ _ _) | refine rw_nil ?_
    repeat refine cw_seq ?_
    refine cw_true rfl ?_
    repeat refine cw_seq ?_
    refine cw_region ?_
    refine rw_v (op_pure rfl) ?_
    first | refine rw_end ?_ | (refine rw_nil ?_; show CW _ _ _ _ _ _) | refine rw_nil ?_
    repeat refine cw_seq ?_
    refine cw_ret ?_
    repeat first | refine ret_then ?_ | refine ret_inb ?_
    exact res1 rfl ⟨rfl, S.out⟩
  · have e : (c : Int) = n := by omega
    rw [e]
    have S := St.start W
    refine Fn_enter Tryz.func87 rfl Tryz.results87 Tryz.ntmps87 (by kernel_rfl) (by kernel_rfl) ?_
    repeat refine cw_seq ?_
    refine cw_region ?_
    refine rw_v (op_pure rfl) ?_
    first | refine rw_end ?_ | (refine rw_nil ?_; show CW _ _ _ _ _ _) | refine rw_nil ?_
    repeat refine cw_seq ?_
    refine cw_region ?_
    refine rw_v (op_pure rfl) ?_
    refine rw_v (op_b (b := false) rfl (decide_eq_false (by omega))) ?_
    first | refine rw_end ?_ | (refine rw_nil ?_; show CW _ _ _ _ _ _) | refine rw_nil ?_
    repeat refine cw_seq ?_
    refine cw_false rfl ?_
    repeat refine cw_seq ?_
    refine cw_skip ?_
    try show CW _ _ _ _ _ _
    repeat refine cw_seq ?_
    refine cw_region ?_
    refine rw_v (op_pure rfl) ?_
    refine rw_v (op_b (b := false) rfl (decide_eq_false (by omega))) ?_
    first | refine rw_end ?_ | (refine rw_nil ?_; show CW _ _ _ _ _ _) | refine rw_nil ?_
    repeat refine cw_seq ?_
    refine cw_false rfl ?_
    repeat refine cw_seq ?_
    refine cw_skip ?_
    try show CW _ _ _ _ _ _
    repeat refine cw_seq ?_
    refine cw_region ?_
    iterate 2 refine rw_v (op_pure rfl) ?_
    first | refine rw_end ?_ | (refine rw_nil ?_; show CW _ _ _ _ _ _) | refine rw_nil ?_
    repeat refine cw_seq ?_
    refine cw_ret ?_
    repeat first | refine ret_then ?_ | refine ret_inb ?_
    exact res1 rfl ⟨rfl, S.out⟩
theorem clipHigh_E (n : Nat) (W : World) : Fn Tryz.prog 87 [.int .i64 n] W (RetG (.int .i64 (min n 1023 : Nat)) W) := by
  by_cases h0 : n ≤ 1023
  · rw [show min n 1023 = n by omega]
    have S := St.start W
    refine Fn_enter Tryz.func87 rfl Tryz.results87 Tryz.ntmps87 (by kernel_rfl) (by kernel_rfl) ?_
    repeat refine cw_seq ?_
    refine cw_region ?_
    refine rw_v (op_pure rfl) ?_
    first | refine rw_end ?_ | (refine rw_nil ?_; show CW _ _ _ _ _ _) | refine rw_nil ?_
    repeat refine cw_seq ?_
    refine cw_region ?_
    refine rw_v (op_pure rfl) ?_
    refine rw_v (op_b (b := false) rfl (decide_eq_false (by omega))) ?_
    first | refine rw_end ?_ | (refine rw_nil ?_; show CW _ _ _ _ _ _) | refine rw_nil ?_
    repeat refine cw_seq ?_
    refine cw_false rfl ?_
    repeat refine cw_seq ?_
    refine cw_skip ?_
    try show CW _ _ _ _ _ _
    repeat refine cw_seq ?_
    refine cw_region ?_
    refine rw_v (op_pure rfl) ?_
    refine rw_v (op_b (b := false) rfl (decide_eq_false (by omega))) ?_
    first | refine rw_end ?_ | (refine rw_nil ?_; show CW _ _ _ _ _ _) | refine rw_nil ?_
    repeat refine cw_seq ?_
    refine cw_false rfl ?_
    repeat refine cw_seq ?_
    refine cw_skip ?_
    try show CW _ _ _ _ _ _
    repeat refine cw_seq ?_
    refine cw_region ?_
    iterate 2 refine rw_v (op_pure rfl) ?_
    first | refine rw_end ?_ | (refine rw_nil ?_; show CW _ _ _ _ _ _) | refine rw_nil ?_
    repeat refine cw_seq ?_
    refine cw_ret ?_
    repeat first | refine ret_then ?_ | refine ret_inb ?_
    exact res1 rfl ⟨rfl, S.out⟩
  · rw [show min n 1023 = 1023 by omega]
    have S := St.start W
    refine Fn_enter Tryz.func87 rfl Tryz.results87 Tryz.ntmps87 (by kernel_rfl) (by kernel_rfl) ?_
    repeat refine cw_seq ?_
    refine cw_region ?_
    refine rw_v (op_pure rfl) ?_
    first | refine rw_end ?_ | (refine rw_nil ?_; show CW _ _ _ _ _ _) | refine rw_nil ?_
    repeat refine cw_seq ?_
    refine cw_region ?_
    refine rw_v (op_pure rfl) ?_
    refine rw_v (op_b (b := false) rfl (decide_eq_false (by omega))) ?_
    first | refine rw_end ?_ | (refine rw_nil ?_; show CW _ _ _ _ _ _) | refine rw_nil ?_
    repeat refine cw_seq ?_
    refine cw_false rfl ?_
    repeat refine cw_seq ?_
    refine cw_skip ?_
    try show CW _ _ _ _ _ _
    repeat refine cw_seq ?_
    refine cw_region ?_
    refine rw_v (op_pure rfl) ?_
    refine rw_v (op_b (b := true) rfl (decide_eq_true (by omega))) ?_
    first | refine rw_end ?_ | (refine rw_nil ?_; show CW _ _ _ _ _ _) | refine rw_nil ?_
    repeat refine cw_seq ?_
    refine cw_true rfl ?_
    repeat refine cw_seq ?_
    refine cw_region ?_
    refine rw_v (op_pure rfl) ?_
    first | refine rw_end ?_ | (refine rw_nil ?_; show CW _ _ _ _ _ _) | refine rw_nil ?_
    repeat refine cw_seq ?_
    refine cw_ret ?_
    repeat first | refine ret_then ?_ | refine ret_inb ?_
    exact res1 rfl ⟨rfl, S.out⟩
set_option maxHeartbeats 4000000 in
theorem meet44_E (b0 b1 b2 b3 w1 h1 : Nat) (hw : w1 < 1024) (hh : h1 < 1024) (hx : b0 ≤ b2 ∧ b2 < 1024 ∧ b0 ≤ w1) (hy : b1 ≤ b3 ∧ b3 < 1024 ∧ b1 ≤ h1) (W : World) :
    Fn Tryz.prog 86 [.agg #[.int .i64 0, .int .i64 0, .int .i64 w1, .int .i64 h1], .agg #[.int .i64 b0, .int .i64 b1, .int .i64 b2, .int .i64 b3]] W
    (RetG (.tuple #[.agg #[.int .i64 b0, .int .i64 b1, .int .i64 (min w1 b2 : Nat), .int .i64 (min h1 b3 : Nat)], .bool true]) W) := by
  have hr0 := fun w => right44_E 0 0 w1 h1 (by omega) (by omega) w
  have hr1 := fun w => right44_E b0 b1 b2 b3 (by omega) (by omega) w
  have S := St.start W
  refine Fn_enter Tryz.func86 rfl Tryz.results86 Tryz.ntmps86 (by kernel_rfl) (by kernel_rfl) ?_
  repeat refine cw_seq ?_
  refine cw_region ?_
  refine rw_newB (op_box rfl) S ?_
  intro b_ra w2_ g2_ S
  refine rw_newB (op_box rfl) S ?_
  intro b_rb w4_ g4_ S
  refine rw_newB (op_alloc Tryz.zeroValue38 rfl) S ?_
  intro b_res w6_ g6_ S
  refine rw_v (op_pure rfl) ?_
  first | refine rw_end ?_ | (refine rw_nil ?_; show CW _ _ _ _ _ _) | refine rw_nil ?_
  repeat refine cw_seq ?_
  refine cw_region ?_
  refine rw_r (op_loadAB Tryz.underlying38 rfl (Tryz.sizeOf38 _) rfl (S.blk (i := 2) rfl) rfl rfl) ?_
  refine rw_call rfl (hr0 w6_) ?_
  rintro _ w7_ ⟨rfl, g7_⟩
  have S := S.gr g7_
  iterate 2 refine rw_v (op_pure rfl) ?_
  first | refine rw_off rfl ?_ | (refine rw_on rfl ?_; refine rw_r (op_loadAB Tryz.underlying38 rfl (Tryz.sizeOf38 _) rfl (S.blk (i := 1) rfl) rfl rfl) ?_)
  refine rw_on rfl ?_
  refine rw_call rfl (hr1 w7_) ?_
  rintro _ w8_ ⟨rfl, g8_⟩
  have S := S.gr g8_
  first | refine rw_off rfl ?_ | (refine rw_on rfl ?_; refine rw_v (op_pure rfl) ?_)
  refine rw_v (op_pure rfl) ?_
  first | refine rw_end ?_ | (refine rw_nil ?_; show CW _ _ _ _ _ _) | refine rw_nil ?_
  repeat refine cw_seq ?_
  refine cw_false rfl ?_
  repeat refine cw_seq ?_
  refine cw_skip ?_
  try show CW _ _ _ _ _ _
  repeat refine cw_seq ?_
  refine cw_region ?_
  refine rw_v (op_fieldAddr Tryz.underlying38 rfl Tryz.sizeOf2 rfl rfl) ?_
  refine rw_r (op_loadB Tryz.underlying2 rfl rfl (S.blk (i := 1) rfl) rfl) ?_
  refine rw_v (op_fieldAddr Tryz.underlying38 rfl Tryz.sizeOf2 rfl rfl) ?_
  refine rw_r (op_loadB Tryz.underlying2 rfl rfl (S.blk (i := 2) rfl) rfl) ?_
  refine rw_v (op_pure rfl) ?_
  first | refine rw_end ?_ | (refine rw_nil ?_; show CW _ _ _ _ _ _) | refine rw_nil ?_
  repeat refine cw_seq ?_
  refine cw_cutT (M := fun e w => SL e [(2, .pointer (some ⟨b_ra, 0, none⟩)), (3, .pointer (some ⟨b_rb, 0, none⟩)), (4, .pointer (some ⟨b_res, 0, none⟩)), (5, .bool false)] ∧ St No W w [.blk b_res 38 [.int .i64 0, .int .i64 0, .int .i64 0, .int .i64 0], .blk b_rb 38 [.int .i64 b0, .int .i64 b1, .int .i64 b2, .int .i64 b3], .blk b_ra 38 [.int .i64 b0, .int .i64 0, .int .i64 w1, .int .i64 h1]]) ?_ ?_
  · skip
    repeat refine cw_seq ?_
    refine cw_cond rfl (fun c0 => ?_) (fun c0 => ?_)
    · try simp only [decide_eq_true_eq, decide_eq_false_iff_not, beq_iff_eq, bne_iff_ne, beq_eq_false_iff_ne, bne_eq_false_iff_eq, Bool.not_eq_true', Bool.not_eq_false', ne_eq, Decidable.not_not, Int.natCast_inj, Int.ofNat_lt, Int.ofNat_le, gt_iff_lt, ge_iff_le, Int.not_lt, Int.not_le] at c0
      repeat refine cw_seq ?_
      refine cw_region ?_
      refine rw_v (op_fieldAddr Tryz.underlying38 rfl Tryz.sizeOf2 rfl rfl) ?_
      refine rw_r (op_loadB Tryz.underlying2 rfl rfl (S.blk (i := 1) rfl) rfl) ?_
      refine rw_v (op_fieldAddr Tryz.underlying38 rfl Tryz.sizeOf2 rfl rfl) ?_
      refine rw_storeS (i := 2) S rfl (Tryz.sizeOf2 _) rfl rfl rfl rfl rfl rfl ?_
      intro w9_ S
      first | refine rw_end ?_ | (refine rw_nil ?_; show CW _ _ _ _ _ _) | refine rw_nil ?_
      exact ⟨⟨rfl, rfl, rfl, rfl, trivial⟩, S⟩
    · try simp only [decide_eq_true_eq, decide_eq_false_iff_not, beq_iff_eq, bne_iff_ne, beq_eq_false_iff_ne, bne_eq_false_iff_eq, Bool.not_eq_true', Bool.not_eq_false', ne_eq, Decidable.not_not, Int.natCast_inj, Int.ofNat_lt, Int.ofNat_le, gt_iff_lt, ge_iff_le, Int.not_lt, Int.not_le] at c0
      have e0 : (b0 : Int) = 0 := by omega
      repeat refine cw_seq ?_
      refine cw_skip ?_
      try show CW _ _ _ _ _ _
      rw [e0] at S ⊢
      exact ⟨⟨rfl, rfl, rfl, rfl, trivial⟩, S⟩
  · rintro e0 w0_ ⟨hsl, S⟩
    rw [hsl.fold]
    repeat refine cw_seq ?_
    refine cw_region ?_
    refine rw_v (op_fieldAddr Tryz.underlying38 rfl Tryz.sizeOf2 rfl rfl) ?_
    refine rw_r (op_loadB Tryz.underlying2 rfl rfl (S.blk (i := 1) rfl) rfl) ?_
    refine rw_v (op_fieldAddr Tryz.underlying38 rfl Tryz.sizeOf2 rfl rfl) ?_
    refine rw_r (op_loadB Tryz.underlying2 rfl rfl (S.blk (i := 2) rfl) rfl) ?_
    refine rw_v (op_pure rfl) ?_
    first | refine rw_end ?_ | (refine rw_nil ?_; show CW _ _ _ _ _ _) | refine rw_nil ?_
    repeat refine cw_seq ?_
    refine cw_cutT (M := fun e w => SL e [(2, .pointer (some ⟨b_ra, 0, none⟩)), (3, .pointer (some ⟨b_rb, 0, none⟩)), (4, .pointer (some ⟨b_res, 0, none⟩)), (5, .bool false)] ∧ St No W w [.blk b_res 38 [.int .i64 0, .int .i64 0, .int .i64 0, .int .i64 0], .blk b_rb 38 [.int .i64 b0, .int .i64 b1, .int .i64 b2, .int .i64 b3], .blk b_ra 38 [.int .i64 b0, .int .i64 b1, .int .i64 w1, .int .i64 h1]]) ?_ ?_
    · skip
      repeat refine cw_seq ?_
      refine cw_cond rfl (fun c1 => ?_) (fun c1 => ?_)
      · try simp only [decide_eq_true_eq, decide_eq_false_iff_not, beq_iff_eq, bne_iff_ne, beq_eq_false_iff_ne, bne_eq_false_iff_eq, Bool.not_eq_true', Bool.not_eq_false', ne_eq, Decidable.not_not, Int.natCast_inj, Int.ofNat_lt, Int.ofNat_le, gt_iff_lt, ge_iff_le, Int.not_lt, Int.not_le] at c1
        repeat refine cw_seq ?_
        refine cw_region ?_
        refine rw_v (op_fieldAddr Tryz.underlying38 rfl Tryz.sizeOf2 rfl rfl) ?_
        refine rw_r (op_loadB Tryz.underlying2 rfl rfl (S.blk (i := 1) rfl) rfl) ?_
        refine rw_v (op_fieldAddr Tryz.underlying38 rfl Tryz.sizeOf2 rfl rfl) ?_
        refine rw_storeS (i := 2) S rfl (Tryz.sizeOf2 _) rfl rfl rfl rfl rfl rfl ?_
        intro w10_ S
        first | refine rw_end ?_ | (refine rw_nil ?_; show CW _ _ _ _ _ _) | refine rw_nil ?_
        exact ⟨⟨rfl, rfl, rfl, rfl, trivial⟩, S⟩
      · try simp only [decide_eq_true_eq, decide_eq_false_iff_not, beq_iff_eq, bne_iff_ne, beq_eq_false_iff_ne, bne_eq_false_iff_eq, Bool.not_eq_true', Bool.not_eq_false', ne_eq, Decidable.not_not, Int.natCast_inj, Int.ofNat_lt, Int.ofNat_le, gt_iff_lt, ge_iff_le, Int.not_lt, Int.not_le] at c1
        have e0 : (b1 : Int) = 0 := by omega
        repeat refine cw_seq ?_
        refine cw_skip ?_
        try show CW _ _ _ _ _ _
        rw [e0] at S ⊢
        exact ⟨⟨rfl, rfl, rfl, rfl, trivial⟩, S⟩
    · rintro e1 w1_ ⟨hsl, S⟩
      rw [hsl.fold]
      repeat refine cw_seq ?_
      refine cw_region ?_
      refine rw_v (op_fieldAddr Tryz.underlying38 rfl Tryz.sizeOf2 rfl rfl) ?_
      refine rw_r (op_loadB Tryz.underlying2 rfl rfl (S.blk (i := 1) rfl) rfl) ?_
      refine rw_v (op_fieldAddr Tryz.underlying38 rfl Tryz.sizeOf2 rfl rfl) ?_
      refine rw_r (op_loadB Tryz.underlying2 rfl rfl (S.blk (i := 2) rfl) rfl) ?_
      refine rw_v (op_pure rfl) ?_
      first | refine rw_end ?_ | (refine rw_nil ?_; show CW _ _ _ _ _ _) | refine rw_nil ?_
      repeat refine cw_seq ?_
      refine cw_cutT (M := fun e w => SL e [(2, .pointer (some ⟨b_ra, 0, none⟩)), (3, .pointer (some ⟨b_rb, 0, none⟩)), (4, .pointer (some ⟨b_res, 0, none⟩)), (5, .bool false)] ∧ St No W w [.blk b_res 38 [.int .i64 0, .int .i64 0, .int .i64 0, .int .i64 0], .blk b_rb 38 [.int .i64 b0, .int .i64 b1, .int .i64 b2, .int .i64 b3], .blk b_ra 38 [.int .i64 b0, .int .i64 b1, .int .i64 (min w1 b2 : Nat), .int .i64 h1]]) ?_ ?_
      · skip
        repeat refine cw_seq ?_
        refine cw_cond rfl (fun c2 => ?_) (fun c2 => ?_)
        · try simp only [decide_eq_true_eq, decide_eq_false_iff_not, beq_iff_eq, bne_iff_ne, beq_eq_false_iff_ne, bne_eq_false_iff_eq, Bool.not_eq_true', Bool.not_eq_false', ne_eq, Decidable.not_not, Int.natCast_inj, Int.ofNat_lt, Int.ofNat_le, gt_iff_lt, ge_iff_le, Int.not_lt, Int.not_le] at c2
          have e0 : min w1 b2 = b2 := by omega
          repeat refine cw_seq ?_
          refine cw_region ?_
          refine rw_v (op_fieldAddr Tryz.underlying38 rfl Tryz.sizeOf2 rfl rfl) ?_
          refine rw_r (op_loadB Tryz.underlying2 rfl rfl (S.blk (i := 1) rfl) rfl) ?_
          refine rw_v (op_fieldAddr Tryz.underlying38 rfl Tryz.sizeOf2 rfl rfl) ?_
          refine rw_storeS (i := 2) S rfl (Tryz.sizeOf2 _) rfl rfl rfl rfl rfl rfl ?_
          intro w11_ S
          first | refine rw_end ?_ | (refine rw_nil ?_; show CW _ _ _ _ _ _) | refine rw_nil ?_
          rw [e0]
          exact ⟨⟨rfl, rfl, rfl, rfl, trivial⟩, S⟩
        · try simp only [decide_eq_true_eq, decide_eq_false_iff_not, beq_iff_eq, bne_iff_ne, beq_eq_false_iff_ne, bne_eq_false_iff_eq, Bool.not_eq_true', Bool.not_eq_false', ne_eq, Decidable.not_not, Int.natCast_inj, Int.ofNat_lt, Int.ofNat_le, gt_iff_lt, ge_iff_le, Int.not_lt, Int.not_le] at c2
          have e0 : min w1 b2 = w1 := by omega
          repeat refine cw_seq ?_
          refine cw_skip ?_
          try show CW _ _ _ _ _ _
          rw [e0]
          exact ⟨⟨rfl, rfl, rfl, rfl, trivial⟩, S⟩
      · rintro e2 w2_ ⟨hsl, S⟩
        rw [hsl.fold]
        repeat refine cw_seq ?_
        refine cw_region ?_
        refine rw_v (op_fieldAddr Tryz.underlying38 rfl Tryz.sizeOf2 rfl rfl) ?_
        refine rw_r (op_loadB Tryz.underlying2 rfl rfl (S.blk (i := 1) rfl) rfl) ?_
        refine rw_v (op_fieldAddr Tryz.underlying38 rfl Tryz.sizeOf2 rfl rfl) ?_
        refine rw_r (op_loadB Tryz.underlying2 rfl rfl (S.blk (i := 2) rfl) rfl) ?_
        refine rw_v (op_pure rfl) ?_
        first | refine rw_end ?_ | (refine rw_nil ?_; show CW _ _ _ _ _ _) | refine rw_nil ?_
        repeat refine cw_seq ?_
        refine cw_cutT (M := fun e w => SL e [(2, .pointer (some ⟨b_ra, 0, none⟩)), (3, .pointer (some ⟨b_rb, 0, none⟩)), (4, .pointer (some ⟨b_res, 0, none⟩)), (5, .bool false)] ∧ St No W w [.blk b_res 38 [.int .i64 0, .int .i64 0, .int .i64 0, .int .i64 0], .blk b_rb 38 [.int .i64 b0, .int .i64 b1, .int .i64 b2, .int .i64 b3], .blk b_ra 38 [.int .i64 b0, .int .i64 b1, .int .i64 (min w1 b2 : Nat), .int .i64 (min h1 b3 : Nat)]]) ?_ ?_
        · skip
          repeat refine cw_seq ?_
          refine cw_cond rfl (fun c3 => ?_) (fun c3 => ?_)
          · try simp only [decide_eq_true_eq, decide_eq_false_iff_not, beq_iff_eq, bne_iff_ne, beq_eq_false_iff_ne, bne_eq_false_iff_eq, Bool.not_eq_true', Bool.not_eq_false', ne_eq, Decidable.not_not, Int.natCast_inj, Int.ofNat_lt, Int.ofNat_le, gt_iff_lt, ge_iff_le, Int.not_lt, Int.not_le] at c3
            have e0 : min h1 b3 = b3 := by omega
            repeat refine cw_seq ?_
            refine cw_region ?_
            refine rw_v (op_fieldAddr Tryz.underlying38 rfl Tryz.sizeOf2 rfl rfl) ?_
            refine rw_r (op_loadB Tryz.underlying2 rfl rfl (S.blk (i := 1) rfl) rfl) ?_
            refine rw_v (op_fieldAddr Tryz.underlying38 rfl Tryz.sizeOf2 rfl rfl) ?_
            refine rw_storeS (i := 2) S rfl (Tryz.sizeOf2 _) rfl rfl rfl rfl rfl rfl ?_
            intro w12_ S
            first | refine rw_end ?_ | (refine rw_nil ?_; show CW _ _ _ _ _ _) | refine rw_nil ?_
            rw [e0]
            exact ⟨⟨rfl, rfl, rfl, rfl, trivial⟩, S⟩
          · try simp only [decide_eq_true_eq, decide_eq_false_iff_not, beq_iff_eq, bne_iff_ne, beq_eq_false_iff_ne, bne_eq_false_iff_eq, Bool.not_eq_true', Bool.not_eq_false', ne_eq, Decidable.not_not, Int.natCast_inj, Int.ofNat_lt, Int.ofNat_le, gt_iff_lt, ge_iff_le, Int.not_lt, Int.not_le] at c3
            have e0 : min h1 b3 = h1 := by omega
            repeat refine cw_seq ?_
            refine cw_skip ?_
            try show CW _ _ _ _ _ _
            rw [e0]
            exact ⟨⟨rfl, rfl, rfl, rfl, trivial⟩, S⟩
        · rintro e3 w3_ ⟨hsl, S⟩
          rw [hsl.fold]
          repeat refine cw_seq ?_
          refine cw_region ?_
          refine rw_v (op_fieldAddr Tryz.underlying38 rfl Tryz.sizeOf2 rfl rfl) ?_
          refine rw_r (op_loadB Tryz.underlying2 rfl rfl (S.blk (i := 2) rfl) rfl) ?_
          refine rw_v (op_fieldAddr Tryz.underlying38 rfl Tryz.sizeOf2 rfl rfl) ?_
          refine rw_r (op_loadB Tryz.underlying2 rfl rfl (S.blk (i := 2) rfl) rfl) ?_
          first | refine rw_v (op_b (b := true) rfl (decide_eq_true (by omega))) ?_ | refine rw_v (op_b (b := false) rfl (decide_eq_false (by omega))) ?_ | refine rw_v (op_pure rfl) ?_
          refine rw_v (op_pure rfl) ?_
          first | refine rw_off rfl ?_ | (refine rw_on rfl ?_; refine rw_v (op_fieldAddr Tryz.underlying38 rfl Tryz.sizeOf2 rfl rfl) ?_)
          first | refine rw_off rfl ?_ | (refine rw_on rfl ?_; refine rw_r (op_loadB Tryz.underlying2 rfl rfl (S.blk (i := 2) rfl) rfl) ?_)
          first | refine rw_off rfl ?_ | (refine rw_on rfl ?_; refine rw_v (op_fieldAddr Tryz.underlying38 rfl Tryz.sizeOf2 rfl rfl) ?_)
          first | refine rw_off rfl ?_ | (refine rw_on rfl ?_; refine rw_r (op_loadB Tryz.underlying2 rfl rfl (S.blk (i := 2) rfl) rfl) ?_)
          first | refine rw_off rfl ?_ | (refine rw_on rfl ?_; (first | refine rw_v (op_b (b := true) rfl (decide_eq_true (by omega))) ?_ | refine rw_v (op_b (b := false) rfl (decide_eq_false (by omega))) ?_ | refine rw_v (op_pure rfl) ?_))
          refine rw_v (op_pure rfl) ?_
          first | refine rw_end ?_ | (refine rw_nil ?_; show CW _ _ _ _ _ _) | refine rw_nil ?_
          repeat refine cw_seq ?_
          refine cw_false rfl ?_
          repeat refine cw_seq ?_
          refine cw_skip ?_
          try show CW _ _ _ _ _ _
          repeat refine cw_seq ?_
          refine cw_region ?_
          refine rw_r (op_loadAB Tryz.underlying38 rfl (Tryz.sizeOf38 _) rfl (S.blk (i := 2) rfl) rfl rfl) ?_
          refine rw_storeSA (i := 0) S rfl (Tryz.sizeOf38 _) rfl rfl rfl rfl rfl rfl ?_
          intro w13_ S
          refine rw_v (op_pure rfl) ?_
          first | refine rw_end ?_ | (refine rw_nil ?_; show CW _ _ _ _ _ _) | refine rw_nil ?_
          repeat refine cw_seq ?_
          refine cw_ret ?_
          repeat first | refine ret_then ?_ | refine ret_inb ?_
          exact resAT Tryz.underlying38 rfl (Tryz.sizeOf38 _) rfl (S.blk (i := 0) rfl) rfl rfl rfl ⟨rfl, S.out⟩
set_option maxHeartbeats 2000000 in
theorem around44_E (i n gw gh : Nat) (hw : 1 ≤ gw ∧ gw ≤ 1024) (hh : 1 ≤ gh ∧ gh ≤ 1024) (hi : i < gw * gh) (hn : n ≤ 1024) (W : World) :
    Fn Tryz.prog 59 [.agg #[.int .i64 (i % gw : Nat), .int .i64 (i / gw : Nat)], .int .i64 n, .int .i64 gw, .int .i64 gh] W (RetG (.tuple #[(winW gw gh i n).val, .int .i64 0]) W) := by
  have h1 := Nat.mod_lt i hw.1
  have h2 : i / gw < gh := Nat.div_lt_of_lt_mul hi
  unfold winW Win.val
  dsimp only
  generalize i % gw = X at *
  generalize i / gw = Y at *
  have hwi := fun w => within44_E X Y X Y gw gh hw hh (by omega) (by omega) w
  have c0 := fun w => clipLow_E ((X : Int) - n) (X - n) (by omega) (by omega) w
  have c1 := fun w => clipLow_E ((Y : Int) - n) (Y - n) (by omega) (by omega) w
  have c2 := fun w => clipHigh_E (X + n) w
  have c3 := fun w => clipHigh_E (Y + n) w
  have hm := fun w => meet44_E (X - n) (Y - n) (min (X + n) 1023) (min (Y + n) 1023) (gw - 1) (gh - 1) (by omega) (by omega) (by omega) (by omega) w
  have e0 : min (gw - 1) (min (X + n) 1023) = min (X + n) (gw - 1) := by omega
  have e1 : min (gh - 1) (min (Y + n) 1023) = min (Y + n) (gh - 1) := by omega
  rw [e0, e1] at hm
  have ew : (gw : Int) - 1 = ((gw - 1 : Nat) : Int) := by omega
  have eh : (gh : Int) - 1 = ((gh - 1 : Nat) : Int) := by omega
  have ex : (X : Int) + n = ((X + n : Nat) : Int) := by push_cast; rfl
  have ey : (Y : Int) + n = ((Y + n : Nat) : Int) := by push_cast; rfl
  have S := St.start W
  refine Fn_enter Tryz.func59 rfl Tryz.results59 Tryz.ntmps59 (by kernel_rfl) (by kernel_rfl) ?_
  repeat refine cw_seq ?_
  refine cw_region ?_
  refine rw_newB (op_box rfl) S ?_
  intro b_c w2_ g2_ S
  refine rw_newB (op_alloc Tryz.zeroValue38 rfl) S ?_
  intro b_res w4_ g4_ S
  refine rw_v (op_pure rfl) ?_
  first | refine rw_end ?_ | (refine rw_nil ?_; show CW _ _ _ _ _ _) | refine rw_nil ?_
  repeat refine cw_seq ?_
  refine cw_region ?_
  refine rw_v (op_fieldAddr Tryz.underlying50 rfl Tryz.sizeOf2 rfl rfl) ?_
  refine rw_r (op_loadB Tryz.underlying2 rfl rfl (S.blk (i := 1) rfl) rfl) ?_
  refine rw_v (op_fieldAddr Tryz.underlying50 rfl Tryz.sizeOf2 rfl rfl) ?_
  refine rw_r (op_loadB Tryz.underlying2 rfl rfl (S.blk (i := 1) rfl) rfl) ?_
  refine rw_v (op_fieldAddr Tryz.underlying50 rfl Tryz.sizeOf2 rfl rfl) ?_
  refine rw_r (op_loadB Tryz.underlying2 rfl rfl (S.blk (i := 1) rfl) rfl) ?_
  refine rw_v (op_fieldAddr Tryz.underlying50 rfl Tryz.sizeOf2 rfl rfl) ?_
  refine rw_r (op_loadB Tryz.underlying2 rfl rfl (S.blk (i := 1) rfl) rfl) ?_
  refine rw_v (op_build (pl := [(0, 1), (1, 1), (2, 1), (3, 1)]) Tryz.underlying38 Tryz.zeroValue38 (fun w => by kernel_rfl) rfl rfl) ?_
  iterate 2 refine rw_v (op_pure rfl) ?_
  refine rw_call rfl (hwi w4_) ?_
  rintro _ w5_ ⟨rfl, g5_⟩
  have S := S.gr g5_
  refine rw_v (op_pure rfl) ?_
  first | refine rw_end ?_ | (refine rw_nil ?_; show CW _ _ _ _ _ _) | refine rw_nil ?_
  repeat refine cw_seq ?_
  refine cw_region ?_
  refine rw_v (op_pure rfl) ?_
  refine rw_v (op_b (b := false) rfl (bne_eq_false_iff_eq.2 (by omega))) ?_
  first | refine rw_end ?_ | (refine rw_nil ?_; show CW _ _ _ _ _ _) | refine rw_nil ?_
  repeat refine cw_seq ?_
  refine cw_false rfl ?_
  repeat refine cw_seq ?_
  refine cw_skip ?_
  try show CW _ _ _ _ _ _
  repeat refine cw_seq ?_
  refine cw_region ?_
  refine rw_v (op_pure rfl) ?_
  first | refine rw_v (op_b (b := true) rfl (decide_eq_true (by omega))) ?_ | refine rw_v (op_b (b := false) rfl (decide_eq_false (by omega))) ?_ | refine rw_v (op_pure rfl) ?_
  refine rw_v (op_pure rfl) ?_
  first | refine rw_off rfl ?_ | (refine rw_on rfl ?_; refine rw_v (op_pure rfl) ?_)
  first | refine rw_off rfl ?_ | (refine rw_on rfl ?_; (first | refine rw_v (op_b (b := true) rfl (decide_eq_true (by omega))) ?_ | refine rw_v (op_b (b := false) rfl (decide_eq_false (by omega))) ?_ | refine rw_v (op_pure rfl) ?_))
  refine rw_v (op_pure rfl) ?_
  first | refine rw_end ?_ | (refine rw_nil ?_; show CW _ _ _ _ _ _) | refine rw_nil ?_
  repeat refine cw_seq ?_
  refine cw_false rfl ?_
  repeat refine cw_seq ?_
  refine cw_skip ?_
  try show CW _ _ _ _ _ _
  repeat refine cw_seq ?_
  refine cw_tri (C := (CA No W [.blk b_res 38 [.int .i64 0, .int .i64 0, .int .i64 0, .int .i64 0], .blk b_c 50 [.int .i64 X, .int .i64 Y]] 38 [.int .i64 0, .int .i64 0, .int .i64 0, .int .i64 0] [.int .i64 (X - n : Nat), .int .i64 (Y - n : Nat), .int .i64 (min (X + n) (gw - 1) : Nat), .int .i64 (min (Y + n) (gh - 1) : Nat)])) [30, 31] [0, 1, 2, 3, 4, 5, 6, 7, 8, 9, 10, 11, 12, 13, 14, 15, 16, 17, 18, 19, 20, 21, 22, 23, 24, 25, 26, 27, 28, 29, 30, 31] [32] (by kernel_rfl) (by kernel_rfl) (CA.start (S.gr (Gr.drew _))) ?_
  simp only [pickI, pickL, List.drop_succ_cons, List.drop_zero]
  refine rs_v rfl (op_pure rfl) ?_
  refine rs_v rfl (op_rng rfl (by omega)) ?_
  rw [ew]
  refine rs_v rfl (op_pure rfl) ?_
  refine rs_v rfl (op_rng rfl (by omega)) ?_
  rw [eh]
  refine rs_v rfl (op_build (pl := [(0, 1), (1, 1), (2, 1), (3, 1)]) Tryz.underlying38 Tryz.zeroValue38 (fun w => by kernel_rfl) rfl rfl) ?_
  refine rs_v rfl (op_fieldAddr Tryz.underlying50 rfl Tryz.sizeOf2 rfl rfl) ?_
  refine rs_r rfl (fun τ wq hq => op_loadB Tryz.underlying2 rfl rfl ((CA.st hq).blk (i := 1) rfl) rfl) ?_
  refine rs_v rfl (op_pure rfl) ?_
  refine rs_v rfl (op_rng rfl (by omega)) ?_
  refine rs_call rfl rfl (fun τ wq hq => (c0 wq).mono (fun _ _ ⟨hv, hg⟩ => ⟨hv, CA.gr hq hg⟩)) ?_
  refine rs_v rfl (op_fieldAddr Tryz.underlying50 rfl Tryz.sizeOf2 rfl rfl) ?_
  refine rs_r rfl (fun τ wq hq => op_loadB Tryz.underlying2 rfl rfl ((CA.st hq).blk (i := 1) rfl) rfl) ?_
  refine rs_v rfl (op_pure rfl) ?_
  refine rs_v rfl (op_rng rfl (by omega)) ?_
  refine rs_call rfl rfl (fun τ wq hq => (c1 wq).mono (fun _ _ ⟨hv, hg⟩ => ⟨hv, CA.gr hq hg⟩)) ?_
  refine rs_v rfl (op_fieldAddr Tryz.underlying50 rfl Tryz.sizeOf2 rfl rfl) ?_
  refine rs_r rfl (fun τ wq hq => op_loadB Tryz.underlying2 rfl rfl ((CA.st hq).blk (i := 1) rfl) rfl) ?_
  refine rs_v rfl (op_pure rfl) ?_
  refine rs_v rfl (op_rng rfl (by omega)) ?_
  rw [ex]
  refine rs_call rfl rfl (fun τ wq hq => (c2 wq).mono (fun _ _ ⟨hv, hg⟩ => ⟨hv, CA.gr hq hg⟩)) ?_
  refine rs_v rfl (op_fieldAddr Tryz.underlying50 rfl Tryz.sizeOf2 rfl rfl) ?_
  refine rs_r rfl (fun τ wq hq => op_loadB Tryz.underlying2 rfl rfl ((CA.st hq).blk (i := 1) rfl) rfl) ?_
  refine rs_v rfl (op_pure rfl) ?_
  refine rs_v rfl (op_rng rfl (by omega)) ?_
  rw [ey]
  refine rs_call rfl rfl (fun τ wq hq => (c3 wq).mono (fun _ _ ⟨hv, hg⟩ => ⟨hv, CA.gr hq hg⟩)) ?_
  refine rs_v rfl (op_build (pl := [(0, 1), (1, 1), (2, 1), (3, 1)]) Tryz.underlying38 Tryz.zeroValue38 (fun w => by kernel_rfl) rfl rfl) ?_
  refine rs_call rfl rfl (fun τ wq hq => (hm wq).mono (fun _ _ ⟨hv, hg⟩ => ⟨hv, CA.gr hq hg⟩)) ?_
  refine rs_v rfl (op_pure rfl) ?_
  refine rs_v rfl (op_pure rfl) ?_
  refine rs_v rfl (op_pure rfl) ?_
  refine rs_special rfl rfl (fun wq hq => to_allocCA hq Tryz.zeroValue38 rfl) ?_
  rintro v14 w14 ⟨b_r, rfl, _⟩
  refine rs_special rfl rfl (fun wq hq => to_storeCA hq (Tryz.sizeOf38 _) rfl rfl rfl rfl rfl) ?_
  rintro v15 w15 _
  refine rs_nil ?_
  rintro wz hz
  obtain ⟨b_r2, e_r2, S⟩ := hz.fin
  cases e_r2
  refine rw_v (op_pure rfl) ?_
  first | refine rw_end ?_ | (refine rw_nil ?_; show CW _ _ _ _ _ _) | refine rw_nil ?_
  repeat refine cw_seq ?_
  refine cw_region ?_
  refine rw_r (op_loadAB Tryz.underlying38 rfl (Tryz.sizeOf38 _) rfl (S.blk (i := 0) rfl) rfl rfl) ?_
  refine rw_storeSA (i := 1) S rfl (Tryz.sizeOf38 _) rfl rfl rfl rfl rfl rfl ?_
  intro w7_ S
  refine rw_v (op_pure rfl) ?_
  first | refine rw_end ?_ | (refine rw_nil ?_; show CW _ _ _ _ _ _) | refine rw_nil ?_
  repeat refine cw_seq ?_
  refine cw_ret ?_
  repeat first | refine ret_then ?_ | refine ret_inb ?_
  exact resAT Tryz.underlying38 rfl (Tryz.sizeOf38 _) rfl (S.blk (i := 1) rfl) rfl rfl rfl ⟨rfl, S.out⟩
end Go.Proofs.YtbcgbcipigcbhaaGreat
/- Package sparse: what its parts do. -/
namespace Go.Proofs.YtbcgbcipigcbhaaGreat
open Go.RowKit
set_option linter.unusedVariables false
set_option linter.unusedSimpArgs false
set_option maxRecDepth 100000

section
variable {P : Program} {e : Nat → Value} {d : Option Tmp} {ty : TypeId} {ps : String} {af : Array Edge}
theorem op_geqU {t t' : TypeId} {x y : Operand} {a b : Int} {B : Bool} (hx : ev e x = .int .u64 a) (hy : ev e y = .int .u64 b) (hB : decide (a ≥ b) = B) : OpV P e ⟨d, .binOp .geq t x y t', ty, ps, af, none⟩ (.bool B) := by
  intro w
  subst hB
  simp [OpR, execOp, hx, hy, eqGuard, binOp, Op.intCmp]
theorem op_shl {t t' : TypeId} {x y : Operand} {k kd : IntKind} {a b c : Int} (hx : ev e x = .int k a) (hy : ev e y = .int kd b) (h0 : 0 ≤ b) (hc : k.wrap (a * 2 ^ (min b.toNat k.bits)) = c) : OpV P e ⟨d, .binOp .shl t x y t', ty, ps, af, none⟩ (.int k c) := by
  intro w
  subst hc
  have h1 : ¬ b < 0 := by omega
  simp [OpR, execOp, hx, hy, eqGuard, binOp, Op.shift, h1]
theorem op_indexStr {t : TypeId} {x i : Operand} {s : ByteArray} {kd : IntKind} {n : Int} {b : UInt8} (hu : P.underlying t = some .string) (hx : ev e x = .string s) (hi : ev e i = .int kd n) (h0 : 0 ≤ n) (hb : s[n.toNat]? = some b) : OpV P e ⟨d, .index t x i, ty, ps, af, none⟩ (.int .u8 b.toNat) := by
  intro w
  simp [OpR, execOp, hx, hi, Instr.index, asIntOf, run_underlying hu, h0, hb]
end
theorem len64_3 (W : World) : Fn Tryz.prog 81 [.int .u64 3] W (RetG (.int .i64 2) W) := by
  have S := St.start W
  refine Fn_enter Tryz.func81 rfl Tryz.results81 Tryz.ntmps81 (by kernel_rfl) (by kernel_rfl) ?_
  repeat refine cw_seq ?_
  refine cw_region ?_
  refine rw_v (op_pure rfl) ?_
  first | refine rw_end ?_ | (refine rw_nil ?_; show CW _ _ _ _ _ _) | refine rw_nil ?_
  repeat refine cw_seq ?_
  refine cw_region ?_
  refine rw_v (op_pure rfl) ?_
  refine rw_v (op_geqU (B := false) rfl rfl (by decide)) ?_
  first | refine rw_end ?_ | (refine rw_nil ?_; show CW _ _ _ _ _ _) | refine rw_nil ?_
  repeat refine cw_seq ?_
  refine cw_false rfl ?_
  repeat refine cw_seq ?_
  refine cw_skip ?_
  try show CW _ _ _ _ _ _
  repeat refine cw_seq ?_
  refine cw_region ?_
  refine rw_v (op_pure rfl) ?_
  refine rw_v (op_geqU (B := false) rfl rfl (by decide)) ?_
  first | refine rw_end ?_ | (refine rw_nil ?_; show CW _ _ _ _ _ _) | refine rw_nil ?_
  repeat refine cw_seq ?_
  refine cw_false rfl ?_
  repeat refine cw_seq ?_
  refine cw_skip ?_
  try show CW _ _ _ _ _ _
  repeat refine cw_seq ?_
  refine cw_region ?_
  refine rw_v (op_pure rfl) ?_
  refine rw_v (op_geqU (B := false) rfl rfl (by decide)) ?_
  first | refine rw_end ?_ | (refine rw_nil ?_; show CW _ _ _ _ _ _) | refine rw_nil ?_
  repeat refine cw_seq ?_
  refine cw_false rfl ?_
  repeat refine cw_seq ?_
  refine cw_skip ?_
  try show CW _ _ _ _ _ _
  repeat refine cw_seq ?_
  refine cw_region ?_
  iterate 2 refine rw_v (op_pure rfl) ?_
  refine rw_v (op_conv (ks := .u64) (n := 3) (kd := .u8) (m := 3) Tryz.underlying121 Tryz.underlying5 rfl (by decide)) ?_
  refine rw_v (op_indexStr (b := 2) Tryz.underlying9 rfl rfl (by decide) rfl) ?_
  refine rw_v (op_conv (ks := .u8) (n := 2) (kd := .i64) (m := 2) Tryz.underlying5 Tryz.underlying3 rfl (by decide)) ?_
  refine rw_v (op_rng rfl (by omega)) ?_
  refine rw_v (op_pure rfl) ?_
  first | refine rw_end ?_ | (refine rw_nil ?_; show CW _ _ _ _ _ _) | refine rw_nil ?_
  repeat refine cw_seq ?_
  refine cw_ret ?_
  repeat first | refine ret_then ?_ | refine ret_inb ?_
  exact res1 rfl ⟨rfl, S.out⟩
theorem log_3 (W : World) : Fn Tryz.prog 82 [.int .i64 3] W (RetG (.int .i64 1) W) := by
  have S := St.start W
  refine Fn_enter Tryz.func82 rfl Tryz.results82 Tryz.ntmps82 (by kernel_rfl) (by kernel_rfl) ?_
  repeat refine cw_seq ?_
  refine cw_region ?_
  refine rw_v (op_pure rfl) ?_
  first | refine rw_end ?_ | (refine rw_nil ?_; show CW _ _ _ _ _ _) | refine rw_nil ?_
  repeat refine cw_seq ?_
  refine cw_region ?_
  refine rw_v (op_pure rfl) ?_
  refine rw_v (op_conv (ks := .i64) (n := 3) (kd := .u64) (m := 3) Tryz.underlying2 Tryz.underlying121 rfl (by decide)) ?_
  refine rw_call rfl (len64_3 _) ?_
  rintro _ w1_ ⟨rfl, g1_⟩
  have S := S.gr g1_
  refine rw_v (op_rng rfl (by omega)) ?_
  refine rw_v (op_pure rfl) ?_
  first | refine rw_end ?_ | (refine rw_nil ?_; show CW _ _ _ _ _ _) | refine rw_nil ?_
  repeat refine cw_seq ?_
  refine cw_ret ?_
  repeat first | refine ret_then ?_ | refine ret_inb ?_
  exact res1 rfl ⟨rfl, S.out⟩
structure RG where
  lo : Int
  hi : Int
def RG.cells (r : RG) : List Value := [.int .i64 r.lo, .int .i64 r.hi]
def joinR (a b : RG) : RG := ⟨min a.lo b.lo, max a.hi b.hi⟩
theorem sjoin_E (a b : RG) (W : World) : Fn Tryz.prog 83 [.agg a.cells.toArray, .agg b.cells.toArray] W (RetG (.agg (joinR a b).cells.toArray) W) := by
  unfold RG.cells
  have S := St.start W
  refine Fn_enter Tryz.func83 rfl Tryz.results83 Tryz.ntmps83 (by kernel_rfl) (by kernel_rfl) ?_
  repeat refine cw_seq ?_
  refine cw_region ?_
  refine rw_newB (op_box rfl) S ?_
  intro b_a w2_ g2_ S
  refine rw_newB (op_box rfl) S ?_
  intro b_b w4_ g4_ S
  refine rw_newB (op_alloc Tryz.zeroValue41 rfl) S ?_
  intro b_R w6_ g6_ S
  first | refine rw_end ?_ | (refine rw_nil ?_; show CW _ _ _ _ _ _) | refine rw_nil ?_
  repeat refine cw_seq ?_
  refine cw_region ?_
  refine rw_v (op_fieldAddr Tryz.underlying41 rfl Tryz.sizeOf2 rfl rfl) ?_
  refine rw_r (op_loadB Tryz.underlying2 rfl rfl (S.blk (i := 2) rfl) rfl) ?_
  refine rw_v (op_fieldAddr Tryz.underlying41 rfl Tryz.sizeOf2 rfl rfl) ?_
  refine rw_r (op_loadB Tryz.underlying2 rfl rfl (S.blk (i := 1) rfl) rfl) ?_
  refine rw_v (op_pure rfl) ?_
  refine rw_v (op_fieldAddr Tryz.underlying41 rfl Tryz.sizeOf2 rfl rfl) ?_
  refine rw_r (op_loadB Tryz.underlying2 rfl rfl (S.blk (i := 2) rfl) rfl) ?_
  refine rw_v (op_fieldAddr Tryz.underlying41 rfl Tryz.sizeOf2 rfl rfl) ?_
  refine rw_r (op_loadB Tryz.underlying2 rfl rfl (S.blk (i := 1) rfl) rfl) ?_
  refine rw_v (op_pure rfl) ?_
  refine rw_v (op_build (pl := [(0, 1), (1, 1)]) Tryz.underlying41 Tryz.zeroValue41 (fun w => by kernel_rfl) rfl rfl) ?_
  refine rw_storeSA (i := 0) S rfl (Tryz.sizeOf41 _) rfl rfl rfl rfl rfl rfl ?_
  intro w7_ S
  first | refine rw_end ?_ | (refine rw_nil ?_; show CW _ _ _ _ _ _) | refine rw_nil ?_
  repeat refine cw_seq ?_
  refine cw_ret ?_
  repeat first | refine ret_then ?_ | refine ret_inb ?_
  exact resA Tryz.underlying41 rfl (Tryz.sizeOf41 _) rfl (S.blk (i := 0) rfl) rfl rfl ⟨rfl, S.out⟩
def rgsV (l : List RG) : List Value := l.flatMap RG.cells
theorem rgsV_len (l : List RG) : (rgsV l).length = l.length * 2 := flatMap_len (f := RG.cells) (fun _ => rfl) l
theorem rgsV_at : ∀ {l : List RG} {k : Nat} {r : RG}, l[k]? = some r → ((rgsV l).drop (k * 2)).take 2 = r.cells
  | [], k, r, h => by cases h
  | r' :: l, 0, r, h => by
    obtain rfl : r' = r := by simpa using h
    rfl
  | r' :: l, k + 1, r, h => by
    have ih := rgsV_at (l := l) (k := k) (r := r) (by simpa using h)
    unfold rgsV at *
    rw [List.flatMap_cons, Nat.succ_mul, ← ih]
    rfl
section
set_option maxHeartbeats 2000000 in
theorem square_E (tb ns cs k across nc cc x y right below : Nat) (As Ac : Option Addr) (v0 v1 : Value) (ss : List Value) (l : List RG) (a b : RG) (W : World) (hT : Blk W tb 124 [v0, v1, .slice As ns cs]) (hS : Rd W As ss) (hk : k < ns)
    (hss : (ss.drop (k * 2)).take 2 = [.int .i64 across, .slice Ac nc cc]) (hC : Rd W Ac (rgsV l)) (hnc : l.length = nc) (hac : across ≤ 1048576) (hx : x ≤ 1048576) (hy : y ≤ 1048576) (hr : right ≤ 1048576) (hb : below ≤ 1048576)
    (ha : l[y * across + x]? = some a) (hbb : l[(y + below) * across + x + right]? = some b) :
    Fn Tryz.prog 84 [.pointer (some ⟨tb, 0, none⟩), .int .i64 k, .int .i64 x, .int .i64 y, .int .i64 right, .int .i64 below] W (RetG (.agg (joinR a b).cells.toArray) W) := by
  have hi := (List.getElem?_eq_some_iff.1 ha).1
  have hj := (List.getElem?_eq_some_iff.1 hbb).1
  have sa_S : SomeA As := hS.someA (by rcases ss with _ | ⟨u, ss⟩; · simp at hss
                                       · simp)
  have sa_C : SomeA Ac := hC.someA (by rw [rgsV_len]; omega)
  have m1 : y * across ≤ 1048576 * 1048576 := Nat.mul_le_mul hy hac
  have m2 : (y + below) * across ≤ 2097152 * 1048576 := Nat.mul_le_mul (by omega) hac
  have e1 : (y : Int) * across = ((y * across : Nat) : Int) := by push_cast; rfl
  have e2 : ((y : Int) + below) * across = (((y + below) * across : Nat) : Int) := by push_cast; rfl
  have hga := rgsV_at ha
  have hgb := rgsV_at hbb
  generalize y * across = p at *
  generalize (y + below) * across = q at *
  have hga2 : ((rgsV l).drop (((p : Int) + x).toNat * 2)).take 2 = [.int .i64 a.lo, .int .i64 a.hi] := by rw [show ((p : Int) + x).toNat = p + x by omega]; exact hga
  have hgb2 : ((rgsV l).drop (((q : Int) + x + right).toNat * 2)).take 2 = [.int .i64 b.lo, .int .i64 b.hi] := by rw [show ((q : Int) + x + right).toNat = q + x + right by omega]; exact hgb
  have S := St.start W
  refine Fn_enter Tryz.func84 rfl Tryz.results84 Tryz.ntmps84 (by kernel_rfl) (by kernel_rfl) ?_
  repeat refine cw_seq ?_
  refine cw_region ?_
  refine rw_newB (op_alloc Tryz.zeroValue41 rfl) S ?_
  intro b_R w2_ g2_ S
  first | refine rw_end ?_ | (refine rw_nil ?_; show CW _ _ _ _ _ _) | refine rw_nil ?_
  repeat refine cw_seq ?_
  refine cw_region ?_
  iterate 2 refine rw_v (op_pure rfl) ?_
  refine rw_v (op_fieldAddr Tryz.underlying124 rfl Tryz.sizeOf122 rfl rfl) ?_
  refine rw_r (op_loadB Tryz.underlying122 rfl rfl (hT.gr S.out) rfl) ?_
  refine rw_v (op_pure rfl) ?_
  refine rw_v (op_idx Tryz.underlying122 Tryz.sizeOf127 rfl rfl sa_S (by omega) (by omega)) ?_
  refine rw_r (op_ldRA Tryz.underlying127 rfl (Tryz.sizeOf127 _) rfl (hS.gr S.out) hss rfl rfl) ?_
  refine rw_newB (op_alloc Tryz.zeroValue127 rfl) S ?_
  intro b_s w4_ g4_ S
  refine rw_storeSA (i := 0) S rfl (Tryz.sizeOf127 _) rfl rfl rfl rfl rfl rfl ?_
  intro w5_ S
  first | refine rw_end ?_ | (refine rw_nil ?_; show CW _ _ _ _ _ _) | refine rw_nil ?_
  repeat refine cw_seq ?_
  refine cw_draw (C := fun wq => Gr w5_ wq) [0, 1, 2, 3, 4, 5, 6, 7, 8, 9, 10, 11, 12, 13, 14, 15, 16, 17, 18, 19, 20, 21, 22, 23] [24, 25] (by kernel_rfl) (by kernel_rfl) (Gr.drew _) ?_
  simp only [pickL, List.drop_succ_cons, List.drop_zero]
  refine rq_v (op_fieldAddr Tryz.underlying127 rfl Tryz.sizeOf125 rfl rfl) ?_
  refine rq_r (fun wq hq => op_loadB Tryz.underlying125 rfl rfl ((S.gr hq).blk (i := 0) rfl) rfl) ?_
  refine rq_v (op_pure rfl) ?_
  refine rq_v (op_fieldAddr Tryz.underlying127 rfl Tryz.sizeOf2 rfl rfl) ?_
  refine rq_r (fun wq hq => op_loadB Tryz.underlying2 rfl rfl ((S.gr hq).blk (i := 0) rfl) rfl) ?_
  refine rq_v (op_rng rfl (by rw [e1]; omega)) ?_
  rw [e1]
  refine rq_v (op_pure rfl) ?_
  refine rq_v (op_rng rfl (by omega)) ?_
  refine rq_v (op_idx Tryz.underlying125 Tryz.sizeOf41 rfl rfl sa_C (by omega) (by omega)) ?_
  refine rq_r (fun wq hq => op_ldRA Tryz.underlying41 rfl (Tryz.sizeOf41 _) rfl (hC.gr (S.gr hq).out) hga2 rfl rfl) ?_
  refine rq_v (op_fieldAddr Tryz.underlying127 rfl Tryz.sizeOf125 rfl rfl) ?_
  refine rq_r (fun wq hq => op_loadB Tryz.underlying125 rfl rfl ((S.gr hq).blk (i := 0) rfl) rfl) ?_
  iterate 2 refine rq_v (op_pure rfl) ?_
  refine rq_v (op_rng rfl (by omega)) ?_
  refine rq_v (op_fieldAddr Tryz.underlying127 rfl Tryz.sizeOf2 rfl rfl) ?_
  refine rq_r (fun wq hq => op_loadB Tryz.underlying2 rfl rfl ((S.gr hq).blk (i := 0) rfl) rfl) ?_
  refine rq_v (op_rng rfl (by rw [e2]; omega)) ?_
  rw [e2]
  refine rq_v (op_pure rfl) ?_
  refine rq_v (op_rng rfl (by omega)) ?_
  refine rq_v (op_pure rfl) ?_
  refine rq_v (op_rng rfl (by omega)) ?_
  refine rq_v (op_idx Tryz.underlying125 Tryz.sizeOf41 rfl rfl sa_C (by omega) (by omega)) ?_
  refine rq_r (fun wq hq => op_ldRA Tryz.underlying41 rfl (Tryz.sizeOf41 _) rfl (hC.gr (S.gr hq).out) hgb2 rfl rfl) ?_
  refine rq_nil ?_
  intro w6_ g6_
  have S := S.gr g6_
  refine rw_call rfl (sjoin_E a b w6_) ?_
  rintro _ w7_ ⟨rfl, g7_⟩
  have S := S.gr g7_
  refine rw_storeSA (i := 1) S rfl (Tryz.sizeOf41 _) rfl rfl rfl rfl rfl rfl ?_
  intro w8_ S
  first | refine rw_end ?_ | (refine rw_nil ?_; show CW _ _ _ _ _ _) | refine rw_nil ?_
  repeat refine cw_seq ?_
  refine cw_ret ?_
  repeat first | refine ret_then ?_ | refine ret_inb ?_
  exact resA Tryz.underlying41 rfl (Tryz.sizeOf41 _) rfl (S.blk (i := 1) rfl) rfl rfl ⟨rfl, S.out⟩
end
end Go.Proofs.YtbcgbcipigcbhaaGreat
/- regions.Of: labels and parts. -/
namespace Go.Proofs.YtbcgbcipigcbhaaGreat
open Go.RowKit
set_option linter.unusedVariables false
set_option linter.unusedSimpArgs false
set_option maxRecDepth 100000

/-! ### Rectangles and parts -/
structure RV where
  x0 : Int
  y0 : Int
  x1 : Int
  y1 : Int
  deriving DecidableEq
def RV.cells (r : RV) : List Value := [.int .i64 r.x0, .int .i64 r.y0, .int .i64 r.x1, .int .i64 r.y1]
def hullR (a b : RV) : RV := ⟨min a.x0 b.x0, min a.y0 b.y0, max a.x1 b.x1, max a.y1 b.y1⟩
def spotR (gw i : Nat) : RV := ⟨(i % gw : Nat), (i / gw : Nat), (i % gw : Nat), (i / gw : Nat)⟩
structure PV where
  lab : Int
  area : Int
  x : Int
  y : Int
  box : RV
  deriving DecidableEq
def PV.cells (p : PV) : List Value := [.int .i64 p.lab, .int .i64 p.area, .int .i64 p.x, .int .i64 p.y, .int .i64 p.box.x0, .int .i64 p.box.y0, .int .i64 p.box.x1, .int .i64 p.box.y1]
def partsV (l : List PV) : List Value := l.flatMap PV.cells
theorem partsV_len (l : List PV) : (partsV l).length = l.length * 8 := flatMap_len (f := PV.cells) (fun _ => rfl) l
def RV.right (r : RV) : Prop := 0 ≤ r.x0 ∧ r.x0 ≤ r.x1 ∧ r.x1 < 1024 ∧ 0 ≤ r.y0 ∧ r.y0 ≤ r.y1 ∧ r.y1 < 1024
theorem hullR_right {a b : RV} (ha : a.right) (hb : b.right) : (hullR a b).right := by
  unfold RV.right hullR at *; dsimp only; omega
theorem spotR_right {gw gh i : Nat} (hw : 1 ≤ gw ∧ gw ≤ 1024) (hh : gh ≤ 1024) (hi : i < gw * gh) : (spotR gw i).right := by
  have h1 : i % gw < gw := Nat.mod_lt _ (by omega)
  have h2 : i / gw < gh := Nat.div_lt_of_lt_mul hi
  unfold RV.right spotR
  dsimp only
  generalize i % gw = p at *
  generalize i / gw = q at *
  omega
/-! ### Lists -/
theorem flatMap_put {α β : Type} {f : α → List β} {m : Nat} (hf : ∀ a, (f a).length = m) : ∀ {l : List α} {k : Nat} {a a' : α} {d : Nat} {cs : List β}, l[k]? = some a → d + cs.length ≤ m → f a' = (f a).take d ++ cs ++ (f a).drop (d + cs.length) →
    (l.flatMap f).take (k * m + d) ++ cs ++ (l.flatMap f).drop (k * m + d + cs.length) = (l.set k a').flatMap f
  | [], k, a, a', d, cs, h, _, _ => by cases h
  | b :: l, 0, a, a', d, cs, h, hd, e => by
    obtain rfl : b = a := by simpa using h
    have hb := hf b
    simp only [Nat.zero_mul, Nat.zero_add, List.flatMap_cons, List.set_cons_zero]
    rw [List.take_append_of_le_length (by omega), List.drop_append_of_le_length (by omega), e]
    simp only [List.append_assoc]
  | b :: l, k + 1, a, a', d, cs, h, hd, e => by
    have ih := flatMap_put hf (l := l) (k := k) (a := a) (a' := a') (d := d) (cs := cs) (by simpa using h) hd e
    have hb := hf b
    simp only [List.flatMap_cons, List.set_cons_succ]
    rw [← ih, Nat.succ_mul, show k * m + m + d = m + (k * m + d) by omega, show m + (k * m + d) + cs.length = m + (k * m + d + cs.length) by omega]
    rw [List.take_append, List.drop_append, hb]
    rw [List.take_of_length_le (by omega), List.drop_of_length_le (by omega)]
    simp only [show m + (k * m + d) - m = k * m + d by omega, show m + (k * m + d + cs.length) - m = k * m + d + cs.length by omega, List.nil_append, List.append_assoc]
theorem set_take {α : Type} {l : List α} {k : Nat} {v : α} (h : k < l.length) : l.set k v = l.take k ++ [v] ++ l.drop (k + 1) := by
  rw [List.set_eq_take_append_cons_drop, if_pos h]; simp
theorem filter_range_get {p : Nat → Bool} {q k : Nat} (hq : q < k) (hp : p q = true) : ((List.range k).filter p)[((List.range q).filter p).length]? = some q := by
  have e : k = q + (1 + (k - q - 1)) := by omega
  rw [e, List.range_add, List.filter_append, List.getElem?_append_right (Nat.le_refl _), Nat.sub_self, Nat.add_comm 1, List.range_succ_eq_map]
  simp [hp]

/-! ### Roots, labels, parts -/
structure Roots (gw : Nat) (V : List Int) (t : Int) (r : Nat → Nat) : Prop where
  le : ∀ i, i < V.length → r i ≤ i
  idem : ∀ i, i < V.length → r (r i) = r i
  conn : ∀ i, i < V.length → Conn gw V t i (r i)
  left : ∀ i, i < V.length → t ≤ V.getD i 0 → 0 < i % gw → t ≤ V.getD (i - 1) 0 → r i = r (i - 1)
  up : ∀ i, i < V.length → t ≤ V.getD i 0 → gw ≤ i → t ≤ V.getD (i - gw) 0 → r i = r (i - gw)
theorem SetsOk.roots {gw : Nat} {V : List Int} {t : Int} {f : Nat → Nat} (h : SetsOk gw V t V.length f) : Roots gw V t (rootF f) :=
  ⟨fun i _ => rootF_le f i, fun i _ => rootF_root f i, h.conn, h.left, h.up⟩
theorem Conn.ge {gw : Nat} {V : List Int} {t : Int} {i j : Nat} (h : Conn gw V t i j) (hi : t ≤ V.getD i 0) : t ≤ V.getD j 0 := by
  induction h with
  | refl => exact hi
  | step a _ ih => exact ih a.2.2.2.1
def isRoot (V : List Int) (t : Int) (r : Nat → Nat) (q : Nat) : Bool := decide (t ≤ V.getD q 0) && decide (r q = q)
def rootsL (V : List Int) (t : Int) (r : Nat → Nat) (k : Nat) : List Nat := (List.range k).filter (isRoot V t r)
def cntR (V : List Int) (t : Int) (r : Nat → Nat) (k : Nat) : Nat := (rootsL V t r k).length
def labF (V : List Int) (t : Int) (r : Nat → Nat) (i : Nat) : Nat := if t ≤ V.getD i 0 then cntR V t r (r i) + 1 else 0
def memB (V : List Int) (t : Int) (r : Nat → Nat) (q i : Nat) : Bool := decide (t ≤ V.getD i 0) && decide (r i = q)
def members (V : List Int) (t : Int) (r : Nat → Nat) (q k : Nat) : List Nat := (List.range k).filter (memB V t r q)
def partAt (gw : Nat) (V : List Int) (t : Int) (r : Nat → Nat) (k q : Nat) : PV :=
  ⟨(cntR V t r q + 1 : Nat), ((members V t r q k).length : Nat), (q % gw : Nat), (q / gw : Nat), (members V t r q k).foldl (fun b i => hullR b (spotR gw i)) (spotR gw q)⟩
def partsAt (gw : Nat) (V : List Int) (t : Int) (r : Nat → Nat) (k : Nat) : List PV := (rootsL V t r k).map (partAt gw V t r k)
theorem rootsL_succ (V : List Int) (t : Int) (r : Nat → Nat) (k : Nat) : rootsL V t r (k + 1) = if isRoot V t r k then rootsL V t r k ++ [k] else rootsL V t r k := by
  unfold rootsL
  rw [List.range_succ, List.filter_append]
  by_cases h : isRoot V t r k = true
  · rw [if_pos h]; simp [h]
  · rw [if_neg h]; simp [h]
theorem members_succ (V : List Int) (t : Int) (r : Nat → Nat) (q k : Nat) : members V t r q (k + 1) = if memB V t r q k then members V t r q k ++ [k] else members V t r q k := by
  unfold members
  rw [List.range_succ, List.filter_append]
  by_cases h : memB V t r q k = true
  · rw [if_pos h]; simp [h]
  · rw [if_neg h]; simp [h]
theorem partAt_skip {gw : Nat} {V : List Int} {t : Int} {r : Nat → Nat} {k q : Nat} (h : memB V t r q k = false) : partAt gw V t r (k + 1) q = partAt gw V t r k q := by
  unfold partAt; rw [members_succ, if_neg (by simp [h])]
theorem partAt_add {gw : Nat} {V : List Int} {t : Int} {r : Nat → Nat} {k q : Nat} (h : memB V t r q k = true) :
    partAt gw V t r (k + 1) q = { partAt gw V t r k q with area := (partAt gw V t r k q).area + 1, box := hullR (partAt gw V t r k q).box (spotR gw k) } := by
  unfold partAt; rw [members_succ, if_pos h, List.foldl_append, List.length_append]; simp
theorem rootsL_mem {V : List Int} {t : Int} {r : Nat → Nat} {k q : Nat} : q ∈ rootsL V t r k ↔ q < k ∧ isRoot V t r q = true := by unfold rootsL; rw [List.mem_filter, List.mem_range]
theorem rootsL_nodup (V : List Int) (t : Int) (r : Nat → Nat) (k : Nat) : (rootsL V t r k).Nodup := List.Pairwise.filter _ List.nodup_range
theorem cntR_mono {V : List Int} {t : Int} {r : Nat → Nat} {a b : Nat} (h : a ≤ b) : cntR V t r a ≤ cntR V t r b := by
  unfold cntR rootsL
  have e : b = a + (b - a) := by omega
  rw [e, List.range_add, List.filter_append, List.length_append]
  omega
theorem cntR_le (V : List Int) (t : Int) (r : Nat → Nat) (k : Nat) : cntR V t r k ≤ k := by
  unfold cntR rootsL
  exact Nat.le_trans (List.length_filter_le _ _) (by simp)
theorem map_set_nodup {α β : Type} [DecidableEq α] {l : List α} {f g : α → β} {k : Nat} {q : α} (hn : l.Nodup) (hk : l[k]? = some q) (h : ∀ x ∈ l, x ≠ q → g x = f x) : (l.map f).set k (g q) = l.map g := by
  apply List.ext_getElem?
  intro i
  rw [List.getElem?_set]
  have hkl := (List.getElem?_eq_some_iff.1 hk).1
  by_cases e : k = i
  · subst e; rw [if_pos rfl, List.length_map, if_pos hkl, List.getElem?_map, hk]; rfl
  · rw [if_neg e, List.getElem?_map, List.getElem?_map]
    cases hi : l[i]? with
    | none => rfl
    | some x =>
      have hx := List.mem_of_getElem? hi
      have hne : x ≠ q := by
        rintro rfl
        have hil := (List.getElem?_eq_some_iff.1 hi).1
        have h1 := (List.getElem?_eq_some_iff.1 hi).2
        have h2 := (List.getElem?_eq_some_iff.1 hk).2
        exact e ((List.getElem_inj hn).1 (h2.trans h1.symm))
      simp only [Option.map_some, h x hx hne]
/-- a cell that is its set's first one: a new part -/
theorem partsAt_new {gw : Nat} {V : List Int} {t : Int} {r : Nat → Nat} {k : Nat} (hle : ∀ i, i ≤ k → r i ≤ i) (hv : t ≤ V.getD k 0) (hr : r k = k) :
    partsAt gw V t r (k + 1) = partsAt gw V t r k ++ [partAt gw V t r (k + 1) k] ∧ partAt gw V t r k k = ⟨(cntR V t r k + 1 : Nat), 0, (k % gw : Nat), (k / gw : Nat), spotR gw k⟩ := by
  have hroot : isRoot V t r k = true := by unfold isRoot; simp only [Bool.and_eq_true, decide_eq_true_eq]; exact ⟨hv, hr⟩
  constructor
  · unfold partsAt
    rw [rootsL_succ, if_pos hroot, List.map_append, List.map_singleton]
    congr 1
    refine List.map_congr_left fun q hq => partAt_skip ?_
    have := (rootsL_mem.1 hq).1
    unfold memB
    simp only [Bool.and_eq_false_iff, decide_eq_false_iff_not]
    right; omega
  · have : members V t r k k = [] := by
      unfold members
      rw [List.filter_eq_nil_iff]
      intro i hi
      have := hle i (by have := List.mem_range.1 hi; omega)
      have := List.mem_range.1 hi
      unfold memB
      simp only [Bool.and_eq_true, decide_eq_true_eq]
      omega
    unfold partAt
    rw [this]
    rfl
/-- a further cell of a set -/
theorem partsAt_more {gw : Nat} {V : List Int} {t : Int} {r : Nat → Nat} {k q : Nat} (hr : r k = q) (hq : q < k) (hrq : r q = q) (hvq : t ≤ V.getD q 0) :
    partsAt gw V t r (k + 1) = (partsAt gw V t r k).set (cntR V t r q) (partAt gw V t r (k + 1) q) ∧ (partsAt gw V t r k)[cntR V t r q]? = some (partAt gw V t r k q) := by
  have hroot : isRoot V t r q = true := by unfold isRoot; simp only [Bool.and_eq_true, decide_eq_true_eq]; exact ⟨hvq, hrq⟩
  have hnot : isRoot V t r k = false := by unfold isRoot; simp only [Bool.and_eq_false_iff, decide_eq_false_iff_not]; right; omega
  have hidx : (rootsL V t r k)[cntR V t r q]? = some q := filter_range_get hq hroot
  constructor
  · unfold partsAt
    rw [rootsL_succ, if_neg (by simp [hnot])]
    symm
    refine map_set_nodup (rootsL_nodup _ _ _ _) hidx fun x hx hne => partAt_skip ?_
    unfold memB
    simp only [Bool.and_eq_false_iff, decide_eq_false_iff_not]
    right
    rw [hr]
    exact fun e => hne e.symm
  · unfold partsAt
    rw [List.getElem?_map, hidx]; rfl
/-- a cell that isn't high enough -/
theorem partsAt_skip {gw : Nat} {V : List Int} {t : Int} {r : Nat → Nat} {k : Nat} (hv : ¬ t ≤ V.getD k 0) : partsAt gw V t r (k + 1) = partsAt gw V t r k := by
  unfold partsAt
  rw [rootsL_succ, if_neg (by unfold isRoot; simp only [Bool.and_eq_true, decide_eq_true_eq]; exact fun h => hv h.1)]
  refine List.map_congr_left fun q _ => partAt_skip ?_
  unfold memB
  simp only [Bool.and_eq_false_iff, decide_eq_false_iff_not]
  exact .inl hv
theorem partAt_right {gw gh : Nat} {V : List Int} {t : Int} {r : Nat → Nat} {k q : Nat} (hw : 1 ≤ gw ∧ gw ≤ 1024) (hh : gh ≤ 1024) (hV : V.length = gw * gh) (hk : k ≤ V.length) (hq : q < V.length) : (partAt gw V t r k q).box.right := by
  unfold partAt
  have key : ∀ (l : List Nat) (b : RV), (∀ i ∈ l, i < V.length) → b.right → (l.foldl (fun b i => hullR b (spotR gw i)) b).right := by
    intro l
    induction l with
    | nil => intro b _ hb; exact hb
    | cons a l ih => intro b hl hb; exact ih _ (fun i hi => hl i (List.mem_cons_of_mem _ hi)) (hullR_right hb (spotR_right hw hh (hV ▸ hl a (by simp))))
  refine key _ _ (fun i hi => ?_) (spotR_right hw hh (hV ▸ hq))
  unfold members at hi
  have := List.mem_range.1 (List.mem_filter.1 hi).1
  omega
theorem replicate_cellsN (n : Nat) : List.replicate n (Value.int .i64 0) = cellsN n (fun _ => 0) := by
  symm; rw [List.eq_replicate_iff]
  refine ⟨cellsN_len _ _, fun v hv => ?_⟩
  obtain ⟨i, _, rfl⟩ := List.mem_map.1 hv
  rfl
theorem partsV_put {l : List PV} {k : Nat} {a a' : PV} {d : Nat} {cs : List Value} (h : l[k]? = some a) (hd : d + cs.length ≤ 8) (e : a'.cells = a.cells.take d ++ cs ++ a.cells.drop (d + cs.length)) :
    (partsV l).take (k * 8 + d) ++ cs ++ (partsV l).drop (k * 8 + d + cs.length) = partsV (l.set k a') := flatMap_put (f := PV.cells) (fun _ => rfl) h hd e
theorem partsV_get {l : List PV} {k : Nat} {a : PV} (h : l[k]? = some a) {j : Nat} (hj : j < 8) : (partsV l)[k * 8 + j]? = a.cells[j]? := flatMap_get (f := PV.cells) (m := 8) (fun _ => rfl) h hj
theorem partsV_box {l : List PV} {k : Nat} {a : PV} (h : l[k]? = some a) : ((partsV l).drop (k * 8 + 4)).take 4 = a.box.cells := by
  have := flatMap_part (f := PV.cells) (m := 8) (fun _ => rfl) l k a 4 4 h (by omega)
  exact this
section
variable {W : World} {A : Option Addr} {p gw gh cap : Nat}
end
end Go.Proofs.YtbcgbcipigcbhaaGreat
/- Package sparse: a table of ranges of squares, in general: what its parts do. -/
namespace Go.Proofs.YtbcgbcipigcbhaaGreat
open Go.RowKit
set_option linter.unusedVariables false
set_option linter.unusedSimpArgs false
set_option maxRecDepth 100000

section
variable {P : Program} {e : Nat → Value} {d : Option Tmp} {ty : TypeId} {ps : String} {af : Array Edge}
theorem op_shr8 {t t' : TypeId} {x y : Operand} {a : Int} {k : IntKind} (hx : ev e x = .int .u64 a) (hy : ev e y = .int k 8) (h0 : 0 ≤ a) : OpV P e ⟨d, .binOp .shr t x y t', ty, ps, af, none⟩ (.int .u64 (a / 256)) := by
  intro w
  have h : (binOp .shr t (.int .u64 a) (.int k 8)).run P w = .ok (.int .u64 (a / 256)) w := by
    have : a.fdiv 256 = a / 256 := Int.fdiv_eq_ediv_of_nonneg _ (by omega)
    simp [binOp, Op.shift, IntKind.bits, this]
  simp [OpR, execOp, hx, hy, eqGuard, h]
end
/-- how many digits a number has by twos -/
def blen (n : Nat) : Nat := if n = 0 then 0 else Nat.log2 n + 1
theorem blen_shift {n : Nat} (h : 256 ≤ n) : blen n = blen (n / 256) + 8 := by
  unfold blen
  rw [if_neg (by omega), if_neg (by omega)]
  have h1 : Nat.log2 n = Nat.log2 (n / 256) + 8 := by
    rw [Nat.log2_def n, if_pos (by omega), Nat.log2_def (n / 2), if_pos (by omega), Nat.log2_def (n / 2 / 2), if_pos (by omega), Nat.log2_def (n / 2 / 2 / 2), if_pos (by omega), Nat.log2_def (n / 2 / 2 / 2 / 2), if_pos (by omega),
      Nat.log2_def (n / 2 / 2 / 2 / 2 / 2), if_pos (by omega), Nat.log2_def (n / 2 / 2 / 2 / 2 / 2 / 2), if_pos (by omega), Nat.log2_def (n / 2 / 2 / 2 / 2 / 2 / 2 / 2), if_pos (by omega)]
    rw [show n / 2 / 2 / 2 / 2 / 2 / 2 / 2 / 2 = n / 256 by omega]
  omega
section
variable {W : World}
set_option maxHeartbeats 2000000 in
theorem len64_E (n : Nat) (hn : n ≤ 1024) : Fn Tryz.prog 81 [.int .u64 n] W (RetG (.int .i64 (blen n : Nat)) W) := by
  have hb8 : ∀ m : Nat, m < 256 → blen m ≤ 8 := by decide +kernel
  by_cases h8 : n < 256
  · have hle := hb8 n h8
    have S := St.start W
    refine Fn_enter Tryz.func81 rfl Tryz.results81 Tryz.ntmps81 (by kernel_rfl) (by kernel_rfl) ?_
    repeat refine cw_seq ?_
    refine cw_region ?_
    refine rw_v (op_pure rfl) ?_
    first | refine rw_end ?_ | (refine rw_nil ?_; show CW _ _ _ _ _ _) | refine rw_nil ?_
    repeat refine cw_seq ?_
    refine cw_region ?_
    refine rw_v (op_pure rfl) ?_
    refine rw_v (op_geqU (B := false) rfl rfl (decide_eq_false (by omega))) ?_
    first | refine rw_end ?_ | (refine rw_nil ?_; show CW _ _ _ _ _ _) | refine rw_nil ?_
    repeat refine cw_seq ?_
    refine cw_false rfl ?_
    repeat refine cw_seq ?_
    refine cw_skip ?_
    try show CW _ _ _ _ _ _
    repeat refine cw_seq ?_
    refine cw_region ?_
    refine rw_v (op_pure rfl) ?_
    refine rw_v (op_geqU (B := false) rfl rfl (decide_eq_false (by omega))) ?_
    first | refine rw_end ?_ | (refine rw_nil ?_; show CW _ _ _ _ _ _) | refine rw_nil ?_
    repeat refine cw_seq ?_
    refine cw_false rfl ?_
    repeat refine cw_seq ?_
    refine cw_skip ?_
    try show CW _ _ _ _ _ _
    repeat refine cw_seq ?_
    refine cw_region ?_
    refine rw_v (op_pure rfl) ?_
    refine rw_v (op_geqU (B := false) rfl rfl (decide_eq_false (by omega))) ?_
    first | refine rw_end ?_ | (refine rw_nil ?_; show CW _ _ _ _ _ _) | refine rw_nil ?_
    repeat refine cw_seq ?_
    refine cw_false rfl ?_
    repeat refine cw_seq ?_
    refine cw_skip ?_
    try show CW _ _ _ _ _ _
    repeat refine cw_seq ?_
    refine cw_region ?_
    iterate 2 refine rw_v (op_pure rfl) ?_
    refine rw_v (op_conv (ks := .u64) (n := n) (kd := .u8) (m := n) Tryz.underlying121 Tryz.underlying5 rfl (by rw [IntKind.wrap_u8]; omega)) ?_
    refine rw_v (op_indexStr (b := UInt8.ofNat (blen n)) Tryz.underlying9 rfl rfl (by omega) ?_) ?_
    · rw [Int.toNat_natCast]
      clear hle S
      revert n
      intro n _ h8
      revert n
      decide +kernel
    refine rw_v (op_conv (ks := .u8) (n := ((UInt8.ofNat (blen n)).toNat : Int)) (kd := .i64) (m := (blen n : Nat)) Tryz.underlying5 Tryz.underlying3 rfl (by rw [show (UInt8.ofNat (blen n)).toNat = blen n by simp; omega]; exact IntWalk.i64_in _ (by omega))) ?_
    refine rw_v (op_rng rfl (by omega)) ?_
    refine rw_v (op_pure rfl) ?_
    first | refine rw_end ?_ | (refine rw_nil ?_; show CW _ _ _ _ _ _) | refine rw_nil ?_
    repeat refine cw_seq ?_
    refine cw_ret ?_
    repeat first | refine ret_then ?_ | refine ret_inb ?_
    exact res1 rfl ⟨ie (by omega), S.out⟩
  · have hsh := blen_shift (n := n) (by omega)
    have hle := hb8 (n / 256) (by omega)
    have ed : (n : Int) / 256 = ((n / 256 : Nat) : Int) := by omega
    obtain ⟨q, hq⟩ : ∃ q, q = n / 256 := ⟨_, rfl⟩
    rw [← hq] at hsh hle ed
    have h8 : q < 256 := by omega
    have S := St.start W
    refine Fn_enter Tryz.func81 rfl Tryz.results81 Tryz.ntmps81 (by kernel_rfl) (by kernel_rfl) ?_
    repeat refine cw_seq ?_
    refine cw_region ?_
    refine rw_v (op_pure rfl) ?_
    first | refine rw_end ?_ | (refine rw_nil ?_; show CW _ _ _ _ _ _) | refine rw_nil ?_
    repeat refine cw_seq ?_
    refine cw_region ?_
    refine rw_v (op_pure rfl) ?_
    refine rw_v (op_geqU (B := false) rfl rfl (decide_eq_false (by omega))) ?_
    first | refine rw_end ?_ | (refine rw_nil ?_; show CW _ _ _ _ _ _) | refine rw_nil ?_
    repeat refine cw_seq ?_
    refine cw_false rfl ?_
    repeat refine cw_seq ?_
    refine cw_skip ?_
    try show CW _ _ _ _ _ _
    repeat refine cw_seq ?_
    refine cw_region ?_
    refine rw_v (op_pure rfl) ?_
    refine rw_v (op_geqU (B := false) rfl rfl (decide_eq_false (by omega))) ?_
    first | refine rw_end ?_ | (refine rw_nil ?_; show CW _ _ _ _ _ _) | refine rw_nil ?_
    repeat refine cw_seq ?_
    refine cw_false rfl ?_
    repeat refine cw_seq ?_
    refine cw_skip ?_
    try show CW _ _ _ _ _ _
    repeat refine cw_seq ?_
    refine cw_region ?_
    refine rw_v (op_pure rfl) ?_
    refine rw_v (op_geqU (B := true) rfl rfl (decide_eq_true (by omega))) ?_
    first | refine rw_end ?_ | (refine rw_nil ?_; show CW _ _ _ _ _ _) | refine rw_nil ?_
    repeat refine cw_seq ?_
    refine cw_true rfl ?_
    repeat refine cw_seq ?_
    refine cw_region ?_
    refine rw_v (op_pure rfl) ?_
    refine rw_v (op_shr8 rfl rfl (by omega)) ?_
    rw [ed]
    refine rw_v (op_pure rfl) ?_
    first | refine rw_end ?_ | (refine rw_nil ?_; show CW _ _ _ _ _ _) | refine rw_nil ?_
    repeat refine cw_seq ?_
    refine cw_region ?_
    refine rw_v (op_pure rfl) ?_
    refine rw_v (op_rng rfl (by omega)) ?_
    refine rw_v (op_pure rfl) ?_
    first | refine rw_end ?_ | (refine rw_nil ?_; show CW _ _ _ _ _ _) | refine rw_nil ?_
    repeat refine cw_seq ?_
    refine cw_region ?_
    iterate 2 refine rw_v (op_pure rfl) ?_
    refine rw_v (op_conv (ks := .u64) (n := q) (kd := .u8) (m := q) Tryz.underlying121 Tryz.underlying5 rfl (by rw [IntKind.wrap_u8]; omega)) ?_
    refine rw_v (op_indexStr (b := UInt8.ofNat (blen q)) Tryz.underlying9 rfl rfl (by omega) ?_) ?_
    · rw [Int.toNat_natCast]
      clear hle S hsh hq ed
      revert q
      intro q h8
      revert q
      decide +kernel
    refine rw_v (op_conv (ks := .u8) (n := ((UInt8.ofNat (blen q)).toNat : Int)) (kd := .i64) (m := (blen q : Nat)) Tryz.underlying5 Tryz.underlying3 rfl (by rw [show (UInt8.ofNat (blen q)).toNat = blen q by simp; omega]; exact IntWalk.i64_in _ (by omega))) ?_
    refine rw_v (op_rng rfl (by omega)) ?_
    refine rw_v (op_pure rfl) ?_
    first | refine rw_end ?_ | (refine rw_nil ?_; show CW _ _ _ _ _ _) | refine rw_nil ?_
    repeat refine cw_seq ?_
    refine cw_ret ?_
    repeat first | refine ret_then ?_ | refine ret_inb ?_
    exact res1 rfl ⟨ie (by omega), S.out⟩
theorem slog_E (n : Nat) (h1 : 1 ≤ n) (hn : n ≤ 1024) : Fn Tryz.prog 82 [.int .i64 n] W (RetG (.int .i64 (Nat.log2 n : Nat)) W) := by
  have hb : blen n = Nat.log2 n + 1 := if_neg (by omega)
  have hl := Nat.log2_le_self n
  have S := St.start W
  refine Fn_enter Tryz.func82 rfl Tryz.results82 Tryz.ntmps82 (by kernel_rfl) (by kernel_rfl) ?_
  repeat refine cw_seq ?_
  refine cw_region ?_
  refine rw_v (op_pure rfl) ?_
  first | refine rw_end ?_ | (refine rw_nil ?_; show CW _ _ _ _ _ _) | refine rw_nil ?_
  repeat refine cw_seq ?_
  refine cw_region ?_
  refine rw_v (op_pure rfl) ?_
  refine rw_v (op_conv Tryz.underlying2 Tryz.underlying121 rfl (u64_in _ (by omega))) ?_
  refine rw_call rfl (len64_E n hn) ?_
  rintro _ w1_ ⟨rfl, g1_⟩
  have S := S.gr g1_
  refine rw_v (op_rng rfl (by omega)) ?_
  refine rw_v (op_pure rfl) ?_
  first | refine rw_end ?_ | (refine rw_nil ?_; show CW _ _ _ _ _ _) | refine rw_nil ?_
  repeat refine cw_seq ?_
  refine cw_ret ?_
  repeat first | refine ret_then ?_ | refine ret_inb ?_
  exact res1 rfl ⟨ie (by omega), S.out⟩
end
/-! ### Ranges of squares -/
def sqR (V : List Int) (gw : Nat) : Nat → Nat → Nat → RG
  | 0, x, y => ⟨V.getD (y * gw + x) 0, V.getD (y * gw + x) 0⟩
  | k + 1, x, y => joinR (joinR (sqR V gw k x y) (sqR V gw k (x + 2 ^ k) y)) (joinR (sqR V gw k x (y + 2 ^ k)) (sqR V gw k (x + 2 ^ k) (y + 2 ^ k)))
/-- a range of the values that P's cells have -/
structure RgOf (v : Nat → Nat → Int) (P : Nat → Nat → Prop) (r : RG) : Prop where
  all : ∀ x y, P x y → r.lo ≤ v x y ∧ v x y ≤ r.hi
  lo : ∃ x y, P x y ∧ v x y = r.lo
  hi : ∃ x y, P x y ∧ v x y = r.hi
theorem RgOf.uniq {v : Nat → Nat → Int} {P : Nat → Nat → Prop} {r r' : RG} (h : RgOf v P r) (h' : RgOf v P r') : r = r' := by
  obtain ⟨x1, y1, p1, e1⟩ := h.lo
  obtain ⟨x2, y2, p2, e2⟩ := h.hi
  obtain ⟨x3, y3, p3, e3⟩ := h'.lo
  obtain ⟨x4, y4, p4, e4⟩ := h'.hi
  have a1 := h'.all x1 y1 p1
  have a2 := h'.all x2 y2 p2
  have a3 := h.all x3 y3 p3
  have a4 := h.all x4 y4 p4
  obtain ⟨l, u⟩ := r
  obtain ⟨l', u'⟩ := r'
  dsimp only at *
  rw [show l = l' by omega, show u = u' by omega]
theorem RgOf.join {v : Nat → Nat → Int} {P Q R : Nat → Nat → Prop} {a b : RG} (h : RgOf v P a) (h' : RgOf v Q b) (hR : ∀ x y, R x y ↔ P x y ∨ Q x y) : RgOf v R (joinR a b) := by
  refine ⟨fun x y hx => ?_, ?_, ?_⟩
  · unfold joinR
    dsimp only
    rcases (hR x y).1 hx with p | q
    · have := h.all x y p; omega
    · have := h'.all x y q; omega
  · unfold joinR
    dsimp only
    rcases Int.le_total a.lo b.lo with e | e
    · obtain ⟨x, y, p, hv⟩ := h.lo
      exact ⟨x, y, (hR x y).2 (.inl p), by rw [hv]; omega⟩
    · obtain ⟨x, y, p, hv⟩ := h'.lo
      exact ⟨x, y, (hR x y).2 (.inr p), by rw [hv]; omega⟩
  · unfold joinR
    dsimp only
    rcases Int.le_total a.hi b.hi with e | e
    · obtain ⟨x, y, p, hv⟩ := h'.hi
      exact ⟨x, y, (hR x y).2 (.inr p), by rw [hv]; omega⟩
    · obtain ⟨x, y, p, hv⟩ := h.hi
      exact ⟨x, y, (hR x y).2 (.inl p), by rw [hv]; omega⟩
def cellV (V : List Int) (gw : Nat) (x y : Nat) : Int := V.getD (y * gw + x) 0
def boxP (x0 y0 x1 y1 : Nat) : Nat → Nat → Prop := fun x y => (x0 ≤ x ∧ x ≤ x1) ∧ y0 ≤ y ∧ y ≤ y1
theorem sqR_of (V : List Int) (gw : Nat) : ∀ k x y, RgOf (cellV V gw) (boxP x y (x + 2 ^ k - 1) (y + 2 ^ k - 1)) (sqR V gw k x y)
  | 0, x, y => by
    refine ⟨fun x' y' h => ?_, ⟨x, y, ?_, rfl⟩, ⟨x, y, ?_, rfl⟩⟩
    · unfold boxP at h
      simp only [Nat.pow_zero] at h
      obtain rfl : x' = x := by omega
      obtain rfl : y' = y := by omega
      exact ⟨Int.le_refl _, Int.le_refl _⟩
    · unfold boxP; simp
    · unfold boxP; simp
  | k + 1, x, y => by
    have hp : 0 < 2 ^ k := Nat.two_pow_pos k
    have e : 2 ^ (k + 1) = 2 * 2 ^ k := by rw [Nat.pow_succ, Nat.mul_comm]
    have h1 := sqR_of V gw k x y
    have h2 := sqR_of V gw k (x + 2 ^ k) y
    have h3 := sqR_of V gw k x (y + 2 ^ k)
    have h4 := sqR_of V gw k (x + 2 ^ k) (y + 2 ^ k)
    have h12 := h1.join (R := boxP x y (x + 2 ^ (k + 1) - 1) (y + 2 ^ k - 1)) h2 (fun a b => by unfold boxP; omega)
    have h34 := h3.join (R := boxP x (y + 2 ^ k) (x + 2 ^ (k + 1) - 1) (y + 2 ^ (k + 1) - 1)) h4 (fun a b => by unfold boxP; omega)
    exact h12.join h34 (fun a b => by unfold boxP; omega)
def acK (gw k : Nat) : Nat := gw + 1 - 2 ^ k
/-- the squares of a side, row by row -/
def levK (V : List Int) (gw gh k : Nat) : List RG := (List.range (acK gw k * acK gh k)).map fun i => sqR V gw k (i % acK gw k) (i / acK gw k)
theorem levK_len (V : List Int) (gw gh k : Nat) : (levK V gw gh k).length = acK gw k * acK gh k := by simp [levK]
theorem levK_at (V : List Int) {gw gh k x y : Nat} (hx : x < acK gw k) (hy : y < acK gh k) : (levK V gw gh k)[y * acK gw k + x]? = some (sqR V gw k x y) := by
  have h1 := cell_split (Y := y) hx
  have hlt : y * acK gw k + x < acK gw k * acK gh k := by
    have := Nat.mul_le_mul_right (acK gw k) (show y + 1 ≤ acK gh k from hy)
    rw [Nat.succ_mul, Nat.mul_comm (acK gh k)] at this
    omega
  unfold levK
  rw [List.getElem?_map, List.getElem?_range hlt, Option.map_some, h1.1, h1.2]
end Go.Proofs.YtbcgbcipigcbhaaGreat
