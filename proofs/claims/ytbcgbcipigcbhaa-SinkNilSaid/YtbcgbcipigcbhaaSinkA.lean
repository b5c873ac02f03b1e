/- sink: where water goes, a grid's land, a place in it, the places by their heights: contracts. -/
import Derived.Test.YtbcgbcipigcbhaaArr
import Derived.Test.YtbcgbcipigcbhaaSortI
import Derived.Test.YtbcgbcipigcbhaaRouteC
import Derived.Test.YtbcgbcipigcbhaaPaintB
namespace Go.Proofs.Ytbcgbcipigcbhaa
open Go.RowKit
set_option linter.unusedVariables false
set_option linter.unusedSimpArgs false
set_option maxRecDepth 100000

section
variable {W : World} {A B : Option Addr} {p gw gh cap c n2 c2 : Nat} {V : List Int}
set_option maxHeartbeats 2000000 in
theorem sflow_E (i : Nat) (hgw : 1 ≤ gw ∧ gw ≤ 1048576) (hV : V.length = gw * gh) (hm : gw * gh ≤ 1048576) (hi : i < gw * gh) (hA : Rd W A (ints V)) :
    Fn Try.prog 131 [.agg #[.int .i64 gw, .slice A (gw * gh) c, .slice B n2 c2], .int .i64 i] W (RetG (.int .i64 (flowN gw V i : Nat)) W) := by
  have em : (i : Int) % gw = ((i % gw : Nat) : Int) := by push_cast; rfl
  have sa_A : SomeA A := hA.someA (by rw [ints_len]; omega)
  have hget : ∀ i, i < gw * gh → (ints V)[(i : Int).toNat * 1]? = some (.int .i64 (V.getD i 0)) := fun i hi => by rw [Nat.mul_one, Int.toNat_natCast]; exact ints_get (getD_at (by omega))
  have d0 : decide ((i : Int) ≥ gw) = thN gw (gw * gh) i 0 := by show _ = decide _; rw [Bool.eq_iff_iff, decide_eq_true_iff, decide_eq_true_iff]; omega
  have d1 : decide (((i % gw : Nat) : Int) > 0) = thN gw (gw * gh) i 1 := by show _ = decide _; rw [Bool.eq_iff_iff, decide_eq_true_iff, decide_eq_true_iff]; omega
  have d2 : decide (((i % gw : Nat) : Int) < (gw : Int) - 1) = thN gw (gw * gh) i 2 := by show _ = decide _; rw [Bool.eq_iff_iff, decide_eq_true_iff, decide_eq_true_iff]; omega
  have d3 : decide ((i : Int) + gw < (gw * gh : Nat)) = thN gw (gw * gh) i 3 := by show _ = decide _; rw [Bool.eq_iff_iff, decide_eq_true_iff, decide_eq_true_iff]; omega
  have S := St.start W
  refine Fn_enter Try.func131 rfl Try.results131 Try.ntmps131 (by kernel_rfl) (by kernel_rfl) ?_
  repeat refine cw_seq ?_
  refine cw_region ?_
  refine rw_newB (op_box rfl) S ?_
  intro b_l w2_ g2_ S
  refine rw_v (op_pure rfl) ?_
  first | refine rw_end ?_ | (refine rw_nil ?_; show CW _ _ _ _ _ _) | refine rw_nil ?_
  repeat refine cw_seq ?_
  refine cw_region ?_
  iterate 2 refine rw_v (op_pure rfl) ?_
  first | refine rw_end ?_ | (refine rw_nil ?_; show CW _ _ _ _ _ _) | refine rw_nil ?_
  repeat refine cw_seq ?_
  refine cw_draw (C := fun wq => Gr w2_ wq) [0, 1, 2, 3, 4, 5, 6, 7, 8, 9, 10, 11, 12, 13, 14, 15, 16, 17, 18, 19, 20, 21, 22, 23, 24, 25, 26, 27, 28, 29, 30, 31, 32, 33, 34, 35, 36, 37, 38, 39, 40, 41, 42] [] (by kernel_rfl) (by kernel_rfl) (Gr.drew _) ?_
  simp only [pickL, List.drop_succ_cons, List.drop_zero]
  refine rq_v (op_pure rfl) ?_
  refine rq_v (op_fieldAddr Try.underlying136 rfl Try.sizeOf3 rfl rfl) ?_
  refine rq_r (fun wq hq => op_loadB Try.underlying3 rfl rfl ((S.gr hq).blk (i := 0) rfl) rfl) ?_
  refine rq_v (op_pure rfl) ?_
  rw [d0]
  refine rq_v (op_pure rfl) ?_
  refine rq_v (op_fieldAddr Try.underlying136 rfl Try.sizeOf3 rfl rfl) ?_
  refine rq_r (fun wq hq => op_loadB Try.underlying3 rfl rfl ((S.gr hq).blk (i := 0) rfl) rfl) ?_
  refine rq_v (op_rng rfl (by omega)) ?_
  refine rq_v (op_build (pl := [(0, 1), (1, 1)]) Try.underlying235 Try.zeroValue235 (fun w => by kernel_rfl) rfl rfl) ?_
  refine rq_v (op_pure rfl) ?_
  refine rq_v (op_fieldAddr Try.underlying136 rfl Try.sizeOf3 rfl rfl) ?_
  refine rq_r (fun wq hq => op_loadB Try.underlying3 rfl rfl ((S.gr hq).blk (i := 0) rfl) rfl) ?_
  refine rq_v (op_rem rfl rfl (by omega) (by omega)) ?_
  rw [em]
  refine rq_v (op_pure rfl) ?_
  rw [d1]
  refine rq_v (op_pure rfl) ?_
  refine rq_v (op_rng rfl (by omega)) ?_
  refine rq_v (op_build (pl := [(0, 1), (1, 1)]) Try.underlying235 Try.zeroValue235 (fun w => by kernel_rfl) rfl rfl) ?_
  refine rq_v (op_pure rfl) ?_
  refine rq_v (op_fieldAddr Try.underlying136 rfl Try.sizeOf3 rfl rfl) ?_
  refine rq_r (fun wq hq => op_loadB Try.underlying3 rfl rfl ((S.gr hq).blk (i := 0) rfl) rfl) ?_
  refine rq_v (op_rem rfl rfl (by omega) (by omega)) ?_
  rw [em]
  refine rq_v (op_fieldAddr Try.underlying136 rfl Try.sizeOf3 rfl rfl) ?_
  refine rq_r (fun wq hq => op_loadB Try.underlying3 rfl rfl ((S.gr hq).blk (i := 0) rfl) rfl) ?_
  refine rq_v (op_rng rfl (by omega)) ?_
  refine rq_v (op_pure rfl) ?_
  rw [d2]
  refine rq_v (op_pure rfl) ?_
  refine rq_v (op_rng rfl (by omega)) ?_
  refine rq_v (op_build (pl := [(0, 1), (1, 1)]) Try.underlying235 Try.zeroValue235 (fun w => by kernel_rfl) rfl rfl) ?_
  refine rq_v (op_pure rfl) ?_
  refine rq_v (op_fieldAddr Try.underlying136 rfl Try.sizeOf3 rfl rfl) ?_
  refine rq_r (fun wq hq => op_loadB Try.underlying3 rfl rfl ((S.gr hq).blk (i := 0) rfl) rfl) ?_
  refine rq_v (op_rng rfl (by omega)) ?_
  refine rq_v (op_fieldAddr Try.underlying136 rfl Try.sizeOf22 rfl rfl) ?_
  refine rq_r (fun wq hq => op_loadB Try.underlying22 rfl rfl ((S.gr hq).blk (i := 0) rfl) rfl) ?_
  refine rq_v (op_len Try.underlying22 rfl) ?_
  refine rq_v (op_pure rfl) ?_
  rw [d3]
  refine rq_v (op_pure rfl) ?_
  refine rq_v (op_fieldAddr Try.underlying136 rfl Try.sizeOf3 rfl rfl) ?_
  refine rq_r (fun wq hq => op_loadB Try.underlying3 rfl rfl ((S.gr hq).blk (i := 0) rfl) rfl) ?_
  refine rq_v (op_rng rfl (by omega)) ?_
  refine rq_v (op_build (pl := [(0, 1), (1, 1)]) Try.underlying235 Try.zeroValue235 (fun w => by kernel_rfl) rfl rfl) ?_
  refine rq_v (op_buildArr Try.underlying236 Try.sizeOf235 Try.zeroValue236 rfl rfl) ?_
  refine rq_v (op_pure rfl) ?_
  refine rq_nil ?_
  intro w3_ g3_
  have S := S.gr g3_
  first | refine rw_end ?_ | (refine rw_nil ?_; show CW _ _ _ _ _ _) | refine rw_nil ?_
  repeat refine cw_seq ?_
  refine cw_block ?_
  repeat refine cw_seq ?_
  refine cw_loop (fun m e w => ∃ k : Nat, k + m = 4 ∧ SL e [(2, .pointer (some ⟨b_l, 0, none⟩)), (5, .int .i64 (flw V i (preN gw (gw * gh) i k) : Nat)), (50, .agg (quadV gw (gw * gh) i).toArray), (51, .int .i64 k)] ∧ flw V i (preN gw (gw * gh) i k) < gw * gh ∧ St No W w [.blk b_l 136 [.int .i64 gw, .slice A (gw * gh) c, .slice B n2 c2]]) 4
    ⟨0, rfl, ⟨rfl, rfl, rfl, rfl, trivial⟩, hi, S⟩ ?_
  clear S d0 d1 d2 d3
  rintro m e w ⟨k, hk, hsl, hlt, S⟩
  rw [hsl.fold]
  repeat refine cw_seq ?_
  refine cw_region ?_
  refine rw_v (op_pure rfl) ?_
  first | refine rw_end ?_ | (refine rw_nil ?_; show CW _ _ _ _ _ _) | refine rw_nil ?_
  repeat refine cw_seq ?_
  refine cw_cond rfl (fun hc => ?_) (fun hc => ?_)
  · try simp only [decide_eq_true_eq, decide_eq_false_iff_not, beq_iff_eq, bne_iff_ne, beq_eq_false_iff_ne, bne_eq_false_iff_eq, Bool.not_eq_true', Bool.not_eq_false', ne_eq, Decidable.not_not, Int.natCast_inj, Int.ofNat_lt, Int.ofNat_le, gt_iff_lt, ge_iff_le, Int.not_lt, Int.not_le] at hc
    have hk4 : k < 4 := by omega
    have hq := quadV_get (gw := gw) (n := gw * gh) (i := i) k hk4
    have hstep : flw V i (preN gw (gw * gh) i (k + 1)) = flw V (flw V i (preN gw (gw * gh) i k)) (segN gw (gw * gh) i k) := flw_app _ _ _ _
    generalize flw V i (preN gw (gw * gh) i k) = b at *
    rcases seg_spec hgw.1 hi k hk4 with ⟨hth, a, ha, han, hseg⟩ | ⟨hth, hseg⟩
    · rw [hth, ha] at hq
      rw [hseg] at hstep
      have hstep2 : flw V b [a] = if V.getD a 0 < V.getD b 0 then a else b := rfl
      rw [hstep2] at hstep
      by_cases hl : V.getD a 0 < V.getD b 0
      · rw [if_pos hl] at hstep
        repeat refine cw_seq ?_
        refine cw_skip ?_
        try show CW _ _ _ _ _ _
        repeat refine cw_seq ?_
        refine cw_block ?_
        repeat refine cw_seq ?_
        refine cw_region ?_
        refine rw_v (op_indexVA Try.underlying236 Try.underlying235 Try.sizeOf235 rfl rfl rfl (by omega) (by omega) hq) ?_
        refine rw_newB (op_alloc Try.zeroValue235 rfl) S ?_
        intro b_q w5_ g5_ S
        refine rw_storeSA (i := 0) S rfl (Try.sizeOf235 _) rfl rfl rfl rfl rfl rfl ?_
        intro w6_ S
        first | refine rw_end ?_ | (refine rw_nil ?_; show CW _ _ _ _ _ _) | refine rw_nil ?_
        repeat refine cw_seq ?_
        refine cw_draw (C := fun wq => Gr w6_ wq) [0, 1, 2, 3, 4, 5, 6, 7, 8, 9, 10, 11, 12, 13, 14, 15] [] (by kernel_rfl) (by kernel_rfl) (Gr.drew _) ?_
        simp only [pickL, List.drop_succ_cons, List.drop_zero]
        refine rq_v (op_fieldAddr Try.underlying235 rfl Try.sizeOf4 rfl rfl) ?_
        refine rq_r (fun wq hq => op_loadB Try.underlying4 rfl rfl ((S.gr hq).blk (i := 0) rfl) rfl) ?_
        refine rq_v (op_pure rfl) ?_
        first | refine rq_off rfl ?_ | (refine rq_on rfl ?_; refine rq_v (op_fieldAddr Try.underlying136 rfl Try.sizeOf22 rfl rfl) ?_)
        first | refine rq_off rfl ?_ | (refine rq_on rfl ?_; refine rq_r (fun wq hq => op_loadB Try.underlying22 rfl rfl ((S.gr hq).blk (i := 1) rfl) rfl) ?_)
        first | refine rq_off rfl ?_ | (refine rq_on rfl ?_; refine rq_v (op_fieldAddr Try.underlying235 rfl Try.sizeOf3 rfl rfl) ?_)
        first | refine rq_off rfl ?_ | (refine rq_on rfl ?_; refine rq_r (fun wq hq => op_loadB Try.underlying3 rfl rfl ((S.gr hq).blk (i := 0) rfl) rfl) ?_)
        first | refine rq_off rfl ?_ | (refine rq_on rfl ?_; refine rq_v (op_idx Try.underlying22 Try.sizeOf2 rfl rfl sa_A (by omega) (by omega)) ?_)
        first | refine rq_off rfl ?_ | (refine rq_on rfl ?_; refine rq_r (fun wq hq => op_ldR Try.underlying2 rfl rfl (hA.gr (S.gr hq).out) (hget a han)) ?_)
        first | refine rq_off rfl ?_ | (refine rq_on rfl ?_; refine rq_v (op_fieldAddr Try.underlying136 rfl Try.sizeOf22 rfl rfl) ?_)
        first | refine rq_off rfl ?_ | (refine rq_on rfl ?_; refine rq_r (fun wq hq => op_loadB Try.underlying22 rfl rfl ((S.gr hq).blk (i := 1) rfl) rfl) ?_)
        first | refine rq_off rfl ?_ | (refine rq_on rfl ?_; refine rq_v (op_pure rfl) ?_)
        first | refine rq_off rfl ?_ | (refine rq_on rfl ?_; refine rq_v (op_idx Try.underlying22 Try.sizeOf2 rfl rfl sa_A (by omega) (by omega)) ?_)
        first | refine rq_off rfl ?_ | (refine rq_on rfl ?_; refine rq_r (fun wq hq => op_ldR Try.underlying2 rfl rfl (hA.gr (S.gr hq).out) (hget b hlt)) ?_)
        first | refine rq_off rfl ?_ | (refine rq_on rfl ?_; refine rq_v (op_b (b := true) rfl (decide_eq_true (by omega))) ?_)
        refine rq_v (op_pure rfl) ?_
        refine rq_nil ?_
        intro w7_ g7_
        have S := S.gr g7_
        first | refine rw_end ?_ | (refine rw_nil ?_; show CW _ _ _ _ _ _) | refine rw_nil ?_
        repeat refine cw_seq ?_
        refine cw_true rfl ?_
        repeat refine cw_seq ?_
        refine cw_region ?_
        refine rw_v (op_fieldAddr Try.underlying235 rfl Try.sizeOf3 rfl rfl) ?_
        refine rw_r (op_loadB Try.underlying3 rfl rfl (S.blk (i := 0) rfl) rfl) ?_
        refine rw_v (op_pure rfl) ?_
        first | refine rw_end ?_ | (refine rw_nil ?_; show CW _ _ _ _ _ _) | refine rw_nil ?_
        repeat refine cw_seq ?_
        refine cw_region ?_
        refine rw_v (op_rng rfl (by omega)) ?_
        refine rw_v (op_pure rfl) ?_
        first | refine rw_end ?_ | (refine rw_nil ?_; show CW _ _ _ _ _ _) | refine rw_nil ?_
        exact ⟨m - 1, by omega, k + 1, by omega, ⟨rfl, ie (by rw [hstep]), rfl, ie (by omega), trivial⟩, by rw [hstep]; exact han, S.drop 1⟩
      · rw [if_neg hl] at hstep
        repeat refine cw_seq ?_
        refine cw_skip ?_
        try show CW _ _ _ _ _ _
        repeat refine cw_seq ?_
        refine cw_block ?_
        repeat refine cw_seq ?_
        refine cw_region ?_
        refine rw_v (op_indexVA Try.underlying236 Try.underlying235 Try.sizeOf235 rfl rfl rfl (by omega) (by omega) hq) ?_
        refine rw_newB (op_alloc Try.zeroValue235 rfl) S ?_
        intro b_q w9_ g9_ S
        refine rw_storeSA (i := 0) S rfl (Try.sizeOf235 _) rfl rfl rfl rfl rfl rfl ?_
        intro w10_ S
        first | refine rw_end ?_ | (refine rw_nil ?_; show CW _ _ _ _ _ _) | refine rw_nil ?_
        repeat refine cw_seq ?_
        refine cw_draw (C := fun wq => Gr w10_ wq) [0, 1, 2, 3, 4, 5, 6, 7, 8, 9, 10, 11, 12, 13, 14, 15] [] (by kernel_rfl) (by kernel_rfl) (Gr.drew _) ?_
        simp only [pickL, List.drop_succ_cons, List.drop_zero]
        refine rq_v (op_fieldAddr Try.underlying235 rfl Try.sizeOf4 rfl rfl) ?_
        refine rq_r (fun wq hq => op_loadB Try.underlying4 rfl rfl ((S.gr hq).blk (i := 0) rfl) rfl) ?_
        refine rq_v (op_pure rfl) ?_
        first | refine rq_off rfl ?_ | (refine rq_on rfl ?_; refine rq_v (op_fieldAddr Try.underlying136 rfl Try.sizeOf22 rfl rfl) ?_)
        first | refine rq_off rfl ?_ | (refine rq_on rfl ?_; refine rq_r (fun wq hq => op_loadB Try.underlying22 rfl rfl ((S.gr hq).blk (i := 1) rfl) rfl) ?_)
        first | refine rq_off rfl ?_ | (refine rq_on rfl ?_; refine rq_v (op_fieldAddr Try.underlying235 rfl Try.sizeOf3 rfl rfl) ?_)
        first | refine rq_off rfl ?_ | (refine rq_on rfl ?_; refine rq_r (fun wq hq => op_loadB Try.underlying3 rfl rfl ((S.gr hq).blk (i := 0) rfl) rfl) ?_)
        first | refine rq_off rfl ?_ | (refine rq_on rfl ?_; refine rq_v (op_idx Try.underlying22 Try.sizeOf2 rfl rfl sa_A (by omega) (by omega)) ?_)
        first | refine rq_off rfl ?_ | (refine rq_on rfl ?_; refine rq_r (fun wq hq => op_ldR Try.underlying2 rfl rfl (hA.gr (S.gr hq).out) (hget a han)) ?_)
        first | refine rq_off rfl ?_ | (refine rq_on rfl ?_; refine rq_v (op_fieldAddr Try.underlying136 rfl Try.sizeOf22 rfl rfl) ?_)
        first | refine rq_off rfl ?_ | (refine rq_on rfl ?_; refine rq_r (fun wq hq => op_loadB Try.underlying22 rfl rfl ((S.gr hq).blk (i := 1) rfl) rfl) ?_)
        first | refine rq_off rfl ?_ | (refine rq_on rfl ?_; refine rq_v (op_pure rfl) ?_)
        first | refine rq_off rfl ?_ | (refine rq_on rfl ?_; refine rq_v (op_idx Try.underlying22 Try.sizeOf2 rfl rfl sa_A (by omega) (by omega)) ?_)
        first | refine rq_off rfl ?_ | (refine rq_on rfl ?_; refine rq_r (fun wq hq => op_ldR Try.underlying2 rfl rfl (hA.gr (S.gr hq).out) (hget b hlt)) ?_)
        first | refine rq_off rfl ?_ | (refine rq_on rfl ?_; refine rq_v (op_b (b := false) rfl (decide_eq_false (by omega))) ?_)
        refine rq_v (op_pure rfl) ?_
        refine rq_nil ?_
        intro w11_ g11_
        have S := S.gr g11_
        first | refine rw_end ?_ | (refine rw_nil ?_; show CW _ _ _ _ _ _) | refine rw_nil ?_
        repeat refine cw_seq ?_
        refine cw_false rfl ?_
        repeat refine cw_seq ?_
        refine cw_skip ?_
        try show CW _ _ _ _ _ _
        repeat refine cw_seq ?_
        refine cw_region ?_
        refine rw_v (op_rng rfl (by omega)) ?_
        refine rw_v (op_pure rfl) ?_
        first | refine rw_end ?_ | (refine rw_nil ?_; show CW _ _ _ _ _ _) | refine rw_nil ?_
        exact ⟨m - 1, by omega, k + 1, by omega, ⟨rfl, ie (by rw [hstep]), rfl, ie (by omega), trivial⟩, by rw [hstep]; exact hlt, S.drop 1⟩
    · rw [hth] at hq
      rw [hseg] at hstep
      have hstep2 : flw V b [] = b := rfl
      rw [hstep2] at hstep
      repeat refine cw_seq ?_
      refine cw_skip ?_
      try show CW _ _ _ _ _ _
      repeat refine cw_seq ?_
      refine cw_block ?_
      repeat refine cw_seq ?_
      refine cw_region ?_
      refine rw_v (op_indexVA Try.underlying236 Try.underlying235 Try.sizeOf235 rfl rfl rfl (by omega) (by omega) hq) ?_
      refine rw_newB (op_alloc Try.zeroValue235 rfl) S ?_
      intro b_q w13_ g13_ S
      refine rw_storeSA (i := 0) S rfl (Try.sizeOf235 _) rfl rfl rfl rfl rfl rfl ?_
      intro w14_ S
      first | refine rw_end ?_ | (refine rw_nil ?_; show CW _ _ _ _ _ _) | refine rw_nil ?_
      repeat refine cw_seq ?_
      refine cw_draw (C := fun wq => Gr w14_ wq) [0, 1, 2, 3, 4, 5, 6, 7, 8, 9, 10, 11, 12, 13, 14, 15] [] (by kernel_rfl) (by kernel_rfl) (Gr.drew _) ?_
      simp only [pickL, List.drop_succ_cons, List.drop_zero]
      refine rq_v (op_fieldAddr Try.underlying235 rfl Try.sizeOf4 rfl rfl) ?_
      refine rq_r (fun wq hq => op_loadB Try.underlying4 rfl rfl ((S.gr hq).blk (i := 0) rfl) rfl) ?_
      refine rq_v (op_pure rfl) ?_
      refine rq_off rfl ?_
      refine rq_off rfl ?_
      refine rq_off rfl ?_
      refine rq_off rfl ?_
      refine rq_off rfl ?_
      refine rq_off rfl ?_
      refine rq_off rfl ?_
      refine rq_off rfl ?_
      refine rq_off rfl ?_
      refine rq_off rfl ?_
      refine rq_off rfl ?_
      refine rq_off rfl ?_
      refine rq_v (op_pure rfl) ?_
      refine rq_nil ?_
      intro w15_ g15_
      have S := S.gr g15_
      first | refine rw_end ?_ | (refine rw_nil ?_; show CW _ _ _ _ _ _) | refine rw_nil ?_
      repeat refine cw_seq ?_
      refine cw_false rfl ?_
      repeat refine cw_seq ?_
      refine cw_skip ?_
      try show CW _ _ _ _ _ _
      repeat refine cw_seq ?_
      refine cw_region ?_
      refine rw_v (op_rng rfl (by omega)) ?_
      refine rw_v (op_pure rfl) ?_
      first | refine rw_end ?_ | (refine rw_nil ?_; show CW _ _ _ _ _ _) | refine rw_nil ?_
      exact ⟨m - 1, by omega, k + 1, by omega, ⟨rfl, ie (by rw [hstep]), rfl, ie (by omega), trivial⟩, by rw [hstep]; exact hlt, S.drop 1⟩
  · try simp only [decide_eq_true_eq, decide_eq_false_iff_not, beq_iff_eq, bne_iff_ne, beq_eq_false_iff_ne, bne_eq_false_iff_eq, Bool.not_eq_true', Bool.not_eq_false', ne_eq, Decidable.not_not, Int.natCast_inj, Int.ofNat_lt, Int.ofNat_le, gt_iff_lt, ge_iff_le, Int.not_lt, Int.not_le] at hc
    obtain rfl : k = 4 := by omega
    have hfl : flowN gw V i = flw V i (preN gw (gw * gh) i 4) := by rw [preN_four]; unfold flowN; rw [hV]
    rw [← hfl] at *
    repeat refine cw_seq ?_
    refine cw_exit ?_
    repeat first | refine exit_then ?_ | refine exit_inb ?_
    show CW _ _ _ _ _ _
    repeat refine cw_seq ?_
    refine cw_region ?_
    iterate 2 refine rw_v (op_pure rfl) ?_
    first | refine rw_end ?_ | (refine rw_nil ?_; show CW _ _ _ _ _ _) | refine rw_nil ?_
    repeat refine cw_seq ?_
    refine cw_ret ?_
    repeat first | refine ret_then ?_ | refine ret_inb ?_
    exact res1 rfl ⟨rfl, S.out⟩
theorem satt_E (i n : Nat) (hgw : 1 ≤ gw) (hi : i ≤ 1048576) : Fn Try.prog 82 [.agg #[.int .i64 gw, .slice A n c, .slice B n2 c2], .int .i64 i] W (RetG (.agg #[.int .i64 (i % gw : Nat), .int .i64 (i / gw : Nat)]) W) := by
  have e1 : (i : Int) % gw = ((i % gw : Nat) : Int) := by push_cast; rfl
  have e2 : (i : Int) / gw = ((i / gw : Nat) : Int) := by push_cast; rfl
  have S := St.start W
  refine Fn_enter Try.func82 rfl Try.results82 Try.ntmps82 (by kernel_rfl) (by kernel_rfl) ?_
  repeat refine cw_seq ?_
  refine cw_region ?_
  refine rw_newB (op_box rfl) S ?_
  intro b_b1 w2_ g2_ S
  refine rw_newB (op_alloc Try.zeroValue44 rfl) S ?_
  intro b_b3 w4_ g4_ S
  first | refine rw_end ?_ | (refine rw_nil ?_; show CW _ _ _ _ _ _) | refine rw_nil ?_
  repeat refine cw_seq ?_
  refine cw_draw (C := fun wq => Gr w4_ wq) [0, 1, 2, 3, 4, 5, 6, 7] [8, 9] (by kernel_rfl) (by kernel_rfl) (Gr.drew _) ?_
  simp only [pickL, List.drop_succ_cons, List.drop_zero]
  refine rq_v (op_pure rfl) ?_
  refine rq_v (op_fieldAddr Try.underlying136 rfl Try.sizeOf3 rfl rfl) ?_
  refine rq_r (fun wq hq => op_loadB Try.underlying3 rfl rfl ((S.gr hq).blk (i := 1) rfl) rfl) ?_
  refine rq_v (op_rem rfl rfl (by omega) (by omega)) ?_
  rw [e1]
  refine rq_v (op_pure rfl) ?_
  refine rq_v (op_fieldAddr Try.underlying136 rfl Try.sizeOf3 rfl rfl) ?_
  refine rq_r (fun wq hq => op_loadB Try.underlying3 rfl rfl ((S.gr hq).blk (i := 1) rfl) rfl) ?_
  refine rq_v (op_div rfl rfl (by omega) (by omega)) ?_
  rw [e2]
  refine rq_nil ?_
  intro w5_ g5_
  have S := S.gr g5_
  refine rw_v (op_build (pl := [(0, 1), (1, 1)]) Try.underlying44 Try.zeroValue44 (fun w => by kernel_rfl) rfl rfl) ?_
  refine rw_storeSA (i := 0) S rfl (Try.sizeOf44 _) rfl rfl rfl rfl rfl rfl ?_
  intro w6_ S
  first | refine rw_end ?_ | (refine rw_nil ?_; show CW _ _ _ _ _ _) | refine rw_nil ?_
  repeat refine cw_seq ?_
  refine cw_ret ?_
  repeat first | refine ret_then ?_ | refine ret_inb ?_
  exact resA Try.underlying44 rfl (Try.sizeOf44 _) rfl (S.blk (i := 0) rfl) rfl rfl ⟨rfl, S.out⟩
end
/-- a land: its values, and where water goes -/
def RetSL (gw gh : Nat) (V : List Int) (mk : Value → Value) (W : World) (v : Value) (w' : World) : Prop :=
  ∃ A1 c1 A2 c2, v = mk (.agg #[.int .i64 gw, .slice A1 (gw * gh) c1, .slice A2 (gw * gh) c2]) ∧ Row w' 2 1 A1 (gw * gh) c1 (ints V) ∧ FreshA W A1 ∧ Row w' 3 1 A2 (gw * gh) c2 (cellsN (gw * gh) (flowN gw V)) ∧ FreshA W A2 ∧ (∀ g, ownA A1 g → ¬ ownA A2 g) ∧ Gr W w'
section
variable {W : World} {A : Option Addr} {p gw gh cap : Nat} {cc : Nat → Int} {bs : Nat → Nat} {Rs : Nat → Option Nat}
theorem sofNil_E : Fn Try.prog 80 [.pointer none] W (RetG (.tuple #[.agg #[.int .i64 0, .slice none 0 0, .slice none 0 0], .int .i64 1]) W) := by
  have S := St.start W
  refine Fn_enter Try.func80 rfl Try.results80 Try.ntmps80 (by kernel_rfl) (by kernel_rfl) ?_
  repeat refine cw_seq ?_
  refine cw_region ?_
  refine rw_newB (op_alloc Try.zeroValue136 rfl) S ?_
  intro b_res w2_ g2_ S
  refine rw_v (op_pure rfl) ?_
  first | refine rw_end ?_ | (refine rw_nil ?_; show CW _ _ _ _ _ _) | refine rw_nil ?_
  repeat refine cw_seq ?_
  refine cw_region ?_
  refine rw_v (op_pure rfl) ?_
  refine rw_v (op_nilp Try.underlying28 rfl rfl) ?_
  first | refine rw_end ?_ | (refine rw_nil ?_; show CW _ _ _ _ _ _) | refine rw_nil ?_
  repeat refine cw_seq ?_
  refine cw_true rfl ?_
  repeat refine cw_seq ?_
  refine cw_region ?_
  refine rw_v (op_build (pl := [(0, 1), (1, 1), (2, 1)]) Try.underlying136 Try.zeroValue136 (fun w => by kernel_rfl) rfl rfl) ?_
  refine rw_storeSA (i := 0) S rfl (Try.sizeOf136 _) rfl rfl rfl rfl rfl rfl ?_
  intro w3_ S
  refine rw_v (op_pure rfl) ?_
  first | refine rw_end ?_ | (refine rw_nil ?_; show CW _ _ _ _ _ _) | refine rw_nil ?_
  repeat refine cw_seq ?_
  refine cw_ret ?_
  repeat first | refine ret_then ?_ | refine ret_inb ?_
  exact resAT Try.underlying136 rfl (Try.sizeOf136 _) rfl (S.blk (i := 0) rfl) rfl rfl rfl ⟨rfl, S.out⟩
set_option maxHeartbeats 2000000 in
theorem sof_E (hG : GridAt W p gw gh cc A cap bs Rs) :
    Fn Try.prog 80 [.pointer (some ⟨p, 0, none⟩)] W (RetSL gw gh (gridL gw gh cc) (fun l => .tuple #[l, .int .i64 0]) W) := by
  have hw := hG.sw
  have hh := hG.sh
  have hn : gw * gh ≤ 1024 * 1024 := Nat.mul_le_mul hw.2 hh.2
  have e1 : ((gw : Int) - 1) = ((gw - 1 : Nat) : Int) := by omega
  have e2 : ((gh : Int) - 1) = ((gh - 1 : Nat) : Int) := by omega
  have hval : ∀ w, Gr W w → Fn Try.prog 43 [.pointer (some ⟨p, 0, none⟩), .agg #[.int .i64 0, .int .i64 0, .int .i64 (gw - 1), .int .i64 (gh - 1)]] w (RetNew (fun v => .tuple #[v, .int .i64 0]) 2 1 (gw * gh) (ints (gridL gw gh cc)) w) := fun w g => by
    have := gvalues_E (W := w) 0 0 (gw - 1) (gh - 1) (by omega) (by omega) (hG.gr g)
    rw [← e1, ← e2, show gw - 1 + 1 - 0 = gw by omega, show gh - 1 + 1 - 0 = gh by omega, rectV_all, Nat.mul_comm gh gw] at this
    exact this
  have hV := gridL_len gw gh cc
  have S := St.start W
  refine Fn_enter Try.func80 rfl Try.results80 Try.ntmps80 (by kernel_rfl) (by kernel_rfl) ?_
  repeat refine cw_seq ?_
  refine cw_region ?_
  refine rw_newB (op_alloc Try.zeroValue136 rfl) S ?_
  intro b_res w2_ g2_ S
  refine rw_v (op_pure rfl) ?_
  first | refine rw_end ?_ | (refine rw_nil ?_; show CW _ _ _ _ _ _) | refine rw_nil ?_
  repeat refine cw_seq ?_
  refine cw_region ?_
  refine rw_v (op_pure rfl) ?_
  refine rw_v (op_nilp Try.underlying28 rfl rfl) ?_
  first | refine rw_end ?_ | (refine rw_nil ?_; show CW _ _ _ _ _ _) | refine rw_nil ?_
  repeat refine cw_seq ?_
  refine cw_false rfl ?_
  repeat refine cw_seq ?_
  refine cw_skip ?_
  try show CW _ _ _ _ _ _
  repeat refine cw_seq ?_
  refine cw_region ?_
  refine rw_v (op_pure rfl) ?_
  refine rw_call rfl (gsize_E p gw gh _ w2_ (hG.top.gr S.out)) ?_
  rintro _ w3_ ⟨rfl, g3_⟩
  have S := S.gr g3_
  iterate 5 refine rw_v (op_pure rfl) ?_
  first | refine rw_end ?_ | (refine rw_nil ?_; show CW _ _ _ _ _ _) | refine rw_nil ?_
  repeat refine cw_seq ?_
  refine cw_region ?_
  iterate 2 refine rw_v (op_pure rfl) ?_
  refine rw_call rfl (gall_E p gw gh hw.2 hh.2 _ w3_ (hG.top.gr S.out)) ?_
  rintro _ w4_ ⟨rfl, g4_⟩
  have S := S.gr g4_
  refine rw_call rfl (hval w4_ S.out) ?_
  rintro _ w5_ ⟨A_vs, c_vs, rfl, hR_vs, hf_vs, g5_⟩
  have S := S.pushRow hR_vs hf_vs g5_
  iterate 5 refine rw_v (op_pure rfl) ?_
  first | refine rw_end ?_ | (refine rw_nil ?_; show CW _ _ _ _ _ _) | refine rw_nil ?_
  repeat refine cw_seq ?_
  refine cw_region ?_
  iterate 3 refine rw_v (op_pure rfl) ?_
  refine rw_v (op_len Try.underlying22 rfl) ?_
  refine rw_makeS1 Try.underlying122 info_t3 rfl rfl rfl (n := gw * gh) (c := gw * gh) (by omega) (by omega) (by omega) (by omega) S ?_
  intro A_to w7_ g7_ S sa_to
  refine rw_v (op_build (pl := [(0, 1), (1, 1), (2, 1)]) Try.underlying136 Try.zeroValue136 (fun w => by kernel_rfl) rfl rfl) ?_
  refine rw_newB (op_alloc Try.zeroValue136 rfl) S ?_
  intro b_l w9_ g9_ S
  refine rw_storeSA (i := 0) S rfl (Try.sizeOf136 _) rfl rfl rfl rfl rfl rfl ?_
  intro w10_ S
  first | refine rw_end ?_ | (refine rw_nil ?_; show CW _ _ _ _ _ _) | refine rw_nil ?_
  repeat refine cw_seq ?_
  refine cw_region ?_
  refine rw_v (op_fieldAddr Try.underlying136 rfl Try.sizeOf122 rfl rfl) ?_
  refine rw_r (op_loadB Try.underlying122 rfl rfl (S.blk (i := 0) rfl) rfl) ?_
  refine rw_v (op_len Try.underlying122 rfl) ?_
  refine rw_v (op_pure rfl) ?_
  first | refine rw_end ?_ | (refine rw_nil ?_; show CW _ _ _ _ _ _) | refine rw_nil ?_
  repeat refine cw_seq ?_
  refine cw_block ?_
  repeat refine cw_seq ?_
  generalize gridL gw gh cc = V at *
  have hz : List.replicate (gw * gh) (Value.int .i64 0) = cellsN (gw * gh) (fun j => if j < 0 then flowN gw V j else 0) := by
    unfold cellsN
    simp only [Nat.not_lt_zero, if_false]
    rw [List.map_const', List.length_range]
    rfl
  rw [hz] at S
  refine cw_loop (fun m e w => ∃ k : Nat, k + m = gw * gh ∧ SL e [(2, .pointer (some ⟨b_res, 0, none⟩)), (8, .pointer (some ⟨b_l, 0, none⟩)), (33, .int .i64 (gw * gh : Nat)), (34, .int .i64 k)] ∧
    St No W w [.blk b_l 136 [.int .i64 gw, .slice A_vs (gw * gh) c_vs, .slice A_to (gw * gh) (gw * gh)], .row 3 1 A_to (gw * gh) (gw * gh) (cellsN (gw * gh) (fun j => if j < k then flowN gw V j else 0)), .row 2 1 A_vs (gw * gh) c_vs (ints V), .blk b_res 136 [.int .i64 0, .slice none 0 0, .slice none 0 0]]) (gw * gh)
    ⟨0, by omega, ⟨rfl, rfl, rfl, rfl, trivial⟩, S⟩ ?_
  clear S hz
  rintro m e w ⟨k, hk, hsl, S⟩
  rw [hsl.fold]
  repeat refine cw_seq ?_
  refine cw_region ?_
  refine rw_v (op_pure rfl) ?_
  first | refine rw_end ?_ | (refine rw_nil ?_; show CW _ _ _ _ _ _) | refine rw_nil ?_
  repeat refine cw_seq ?_
  refine cw_cond rfl (fun hc => ?_) (fun hc => ?_)
  · try simp only [decide_eq_true_eq, decide_eq_false_iff_not, beq_iff_eq, bne_iff_ne, beq_eq_false_iff_ne, bne_eq_false_iff_eq, Bool.not_eq_true', Bool.not_eq_false', ne_eq, Decidable.not_not, Int.natCast_inj, Int.ofNat_lt, Int.ofNat_le, gt_iff_lt, ge_iff_le, Int.not_lt, Int.not_le] at hc
    have hkn : k < gw * gh := by omega
    have hfl := flowN_lt hw.1 hV hkn
    repeat refine cw_seq ?_
    refine cw_skip ?_
    try show CW _ _ _ _ _ _
    repeat refine cw_seq ?_
    refine cw_block ?_
    repeat refine cw_seq ?_
    refine cw_region ?_
    iterate 2 refine rw_v (op_pure rfl) ?_
    first | refine rw_end ?_ | (refine rw_nil ?_; show CW _ _ _ _ _ _) | refine rw_nil ?_
    repeat refine cw_seq ?_
    refine cw_draw (C := fun wq => Gr w wq) [0, 1, 2, 3, 4, 5] [6, 7] (by kernel_rfl) (by kernel_rfl) (Gr.drew _) ?_
    simp only [pickL, List.drop_succ_cons, List.drop_zero]
    refine rq_v (op_fieldAddr Try.underlying136 rfl Try.sizeOf122 rfl rfl) ?_
    refine rq_r (fun wq hq => op_loadB Try.underlying122 rfl rfl ((S.gr hq).blk (i := 0) rfl) rfl) ?_
    refine rq_v (op_pure rfl) ?_
    refine rq_r (fun wq hq => op_loadAB Try.underlying136 rfl (Try.sizeOf136 _) rfl ((S.gr hq).blk (i := 0) rfl) rfl rfl) ?_
    refine rq_v (op_pure rfl) ?_
    refine rq_call rfl (fun wq hq => (sflow_E (W := wq) k ⟨hw.1, by omega⟩ hV (by omega) hkn ((S.gr hq).rd (i := 2) rfl)).mono (fun _ _ ⟨hv, hg⟩ => ⟨hv, hq.trans hg⟩)) ?_
    refine rq_nil ?_
    intro w11_ g11_
    have S := S.gr g11_
    refine rw_v (op_idx Try.underlying122 Try.sizeOf3 rfl rfl sa_to (by omega) (by omega)) ?_
    refine rw_storeR (i := 1) S rfl (Try.sizeOf3 _) rfl rfl rfl rfl (by rw [cellsN_len]; omega) rfl ?_
    intro w12_ S
    first | refine rw_end ?_ | (refine rw_nil ?_; show CW _ _ _ _ _ _) | refine rw_nil ?_
    repeat refine cw_seq ?_
    refine cw_region ?_
    refine rw_v (op_rng rfl (by omega)) ?_
    refine rw_v (op_pure rfl) ?_
    first | refine rw_end ?_ | (refine rw_nil ?_; show CW _ _ _ _ _ _) | refine rw_nil ?_
    rw [Nat.mul_one, Int.toNat_natCast, cellsN_set, cellsN_congr (f' := fun j => if j < k + 1 then flowN gw V j else 0) (fun j hj => by
      unfold updF
      (try dsimp only)
      by_cases e1 : j = k
      · rw [if_pos e1, if_pos (by omega), e1]
      · by_cases e2 : j < k
        · rw [if_neg e1, if_pos e2, if_pos (by omega)]
        · rw [if_neg e1, if_neg e2, if_neg (by omega)])] at S
    exact ⟨m - 1, by omega, k + 1, by omega, ⟨rfl, rfl, rfl, ie (by omega), trivial⟩, S⟩
  · try simp only [decide_eq_true_eq, decide_eq_false_iff_not, beq_iff_eq, bne_iff_ne, beq_eq_false_iff_ne, bne_eq_false_iff_eq, Bool.not_eq_true', Bool.not_eq_false', ne_eq, Decidable.not_not, Int.natCast_inj, Int.ofNat_lt, Int.ofNat_le, gt_iff_lt, ge_iff_le, Int.not_lt, Int.not_le] at hc
    obtain rfl : k = gw * gh := by omega
    rw [cellsN_congr (f' := flowN gw V) (fun j hj => by (try dsimp only); rw [if_pos hj])] at S
    repeat refine cw_seq ?_
    refine cw_exit ?_
    repeat first | refine exit_then ?_ | refine exit_inb ?_
    show CW _ _ _ _ _ _
    repeat refine cw_seq ?_
    refine cw_region ?_
    refine rw_r (op_loadAB Try.underlying136 rfl (Try.sizeOf136 _) rfl (S.blk (i := 0) rfl) rfl rfl) ?_
    refine rw_storeSA (i := 3) S rfl (Try.sizeOf136 _) rfl rfl rfl rfl rfl rfl ?_
    intro w13_ S
    refine rw_v (op_pure rfl) ?_
    first | refine rw_end ?_ | (refine rw_nil ?_; show CW _ _ _ _ _ _) | refine rw_nil ?_
    repeat refine cw_seq ?_
    refine cw_ret ?_
    repeat first | refine ret_then ?_ | refine ret_inb ?_
    exact resAT Try.underlying136 rfl (Try.sizeOf136 _) rfl (S.blk (i := 3) rfl) rfl rfl rfl ⟨_, _, _, _, rfl, S.row (i := 2) rfl, SepL.fresh S (i := 2) rfl, S.row (i := 1) rfl, SepL.fresh S (i := 1) rfl, fun g hg h2 => S.sep.2.2.2.1 g h2 _ List.mem_cons_self hg, S.out⟩
end
end Go.Proofs.Ytbcgbcipigcbhaa
