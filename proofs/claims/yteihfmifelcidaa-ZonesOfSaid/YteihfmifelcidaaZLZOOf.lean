/- zones.Mean, zones.Mask; hachurelaw49.ZonesMean, ZonesNil, ZonesMask: the walks. -/
import Derived.Test.YteihfmifelcidaaZK
import Derived.Test.YteihfmifelcidaaZI
namespace Go.Proofs.Yteihfmifelcidaa
open Go.RowKit
set_option linter.unusedVariables false
set_option linter.unusedSimpArgs false
set_option maxRecDepth 100000

/-- rounded down -/
def flrZ (s n : Int) : Int := if s.tmod n < 0 then s.tdiv n - 1 else s.tdiv n
theorem flrZ_bnd {s n : Int} (hs : -9223372036854775808 ≤ s ∧ s ≤ 9223372036854775807) (hn : 1 ≤ n) : (-9223372036854775808 ≤ s.tdiv n ∧ s.tdiv n ≤ 9223372036854775807) ∧ (s.tmod n < 0 → -9223372036854775808 ≤ s.tdiv n - 1) := by
  have h1 : s.tdiv n * n + s.tmod n = s := Int.tdiv_mul_add_tmod s n
  have h2 := Int.natAbs_tdiv_le_natAbs s n
  have h0 := (floor_go (s := s) (n := n) (by omega)).1
  refine ⟨⟨by omega, ?_⟩, fun h => ?_⟩
  · by_cases h5 : 9223372036854775808 ≤ s.tdiv n
    · have h6 : 9223372036854775808 * n ≤ s.tdiv n * n := Int.mul_le_mul_of_nonneg_right h5 (by omega)
      omega
    · omega
  by_cases h3 : n = 1
  · subst h3; rw [Int.tmod_one] at h; omega
  · by_cases h4 : s.tdiv n ≤ -9223372036854775808
    · have h5 : s.tdiv n * n ≤ -9223372036854775808 * n := Int.mul_le_mul_of_nonneg_right h4 (by omega)
      omega
    · omega
section
variable {W : World} {a b c d e f g : Int}
theorem zmean_E (hb : 1 ≤ b) (hc : -9223372036854775808 ≤ c ∧ c ≤ 9223372036854775807) : Fn Try.prog 28 [.agg #[.int .i64 a, .int .i64 b, .int .i64 c, .int .i64 d, .int .i64 e, .int .i64 f, .int .i64 g]] W (RetG (.tuple #[.int .i64 (flrZ c b), .int .i64 0]) W) := by
  obtain ⟨hq, hq1⟩ := flrZ_bnd hc hb
  by_cases hr : c.tmod b < 0
  · have hq2 := hq1 hr
    have hfl : flrZ c b = c.tdiv b - 1 := by unfold flrZ; rw [if_pos hr]
    rw [hfl]
    generalize hgd : c.tdiv b = dv at *
    have S := St.start W
    refine Fn_enter Try.func28 rfl Try.results28 Try.ntmps28 (by kernel_rfl) (by kernel_rfl) ?_
    repeat refine cw_seq ?_
    refine cw_region ?_
    refine rw_newB (op_box rfl) S ?_
    intro b_z w2_ g2_ S
    iterate 2 refine rw_v (op_pure rfl) ?_
    first | refine rw_end ?_ | (refine rw_nil ?_; show CW _ _ _ _ _ _) | refine rw_nil ?_
    repeat refine cw_seq ?_
    refine cw_region ?_
    refine rw_v (op_fieldAddr Try.underlying59 rfl Try.sizeOf2 rfl rfl) ?_
    refine rw_r (op_loadB Try.underlying2 rfl rfl (S.blk (i := 0) rfl) rfl) ?_
    refine rw_v (op_b (b := false) rfl (decide_eq_false (by omega))) ?_
    first | refine rw_end ?_ | (refine rw_nil ?_; show CW _ _ _ _ _ _) | refine rw_nil ?_
    repeat refine cw_seq ?_
    refine cw_false rfl ?_
    repeat refine cw_seq ?_
    refine cw_skip ?_
    try show CW _ _ _ _ _ _
    repeat refine cw_seq ?_
    refine cw_region ?_
    refine rw_v (op_fieldAddr Try.underlying59 rfl Try.sizeOf2 rfl rfl) ?_
    refine rw_r (op_loadB Try.underlying2 rfl rfl (S.blk (i := 0) rfl) rfl) ?_
    refine rw_v (op_fieldAddr Try.underlying59 rfl Try.sizeOf2 rfl rfl) ?_
    refine rw_r (op_loadB Try.underlying2 rfl rfl (S.blk (i := 0) rfl) rfl) ?_
    refine rw_v (op_quoT rfl rfl (by omega) hgd (by omega)) ?_
    refine rw_v (op_pure rfl) ?_
    first | refine rw_end ?_ | (refine rw_nil ?_; show CW _ _ _ _ _ _) | refine rw_nil ?_
    repeat refine cw_seq ?_
    refine cw_region ?_
    refine rw_v (op_fieldAddr Try.underlying59 rfl Try.sizeOf2 rfl rfl) ?_
    refine rw_r (op_loadB Try.underlying2 rfl rfl (S.blk (i := 0) rfl) rfl) ?_
    refine rw_v (op_fieldAddr Try.underlying59 rfl Try.sizeOf2 rfl rfl) ?_
    refine rw_r (op_loadB Try.underlying2 rfl rfl (S.blk (i := 0) rfl) rfl) ?_
    refine rw_v (op_remT rfl rfl (by omega)) ?_
    refine rw_v (op_b (b := true) rfl (decide_eq_true hr)) ?_
    first | refine rw_end ?_ | (refine rw_nil ?_; show CW _ _ _ _ _ _) | refine rw_nil ?_
    repeat refine cw_seq ?_
    refine cw_true rfl ?_
    repeat refine cw_seq ?_
    refine cw_region ?_
    refine rw_v (op_pure rfl) ?_
    refine rw_v (op_rng rfl (by omega)) ?_
    refine rw_v (op_pure rfl) ?_
    first | refine rw_end ?_ | (refine rw_nil ?_; show CW _ _ _ _ _ _) | refine rw_nil ?_
    repeat refine cw_seq ?_
    refine cw_region ?_
    iterate 3 refine rw_v (op_pure rfl) ?_
    first | refine rw_end ?_ | (refine rw_nil ?_; show CW _ _ _ _ _ _) | refine rw_nil ?_
    repeat refine cw_seq ?_
    refine cw_ret ?_
    repeat first | refine ret_then ?_ | refine ret_inb ?_
    exact res2 rfl rfl ⟨rfl, S.out⟩
  · have hfl : flrZ c b = c.tdiv b := by unfold flrZ; rw [if_neg hr]
    rw [hfl]
    generalize hgd : c.tdiv b = dv at *
    have S := St.start W
    refine Fn_enter Try.func28 rfl Try.results28 Try.ntmps28 (by kernel_rfl) (by kernel_rfl) ?_
    repeat refine cw_seq ?_
    refine cw_region ?_
    refine rw_newB (op_box rfl) S ?_
    intro b_z w2_ g2_ S
    iterate 2 refine rw_v (op_pure rfl) ?_
    first | refine rw_end ?_ | (refine rw_nil ?_; show CW _ _ _ _ _ _) | refine rw_nil ?_
    repeat refine cw_seq ?_
    refine cw_region ?_
    refine rw_v (op_fieldAddr Try.underlying59 rfl Try.sizeOf2 rfl rfl) ?_
    refine rw_r (op_loadB Try.underlying2 rfl rfl (S.blk (i := 0) rfl) rfl) ?_
    refine rw_v (op_b (b := false) rfl (decide_eq_false (by omega))) ?_
    first | refine rw_end ?_ | (refine rw_nil ?_; show CW _ _ _ _ _ _) | refine rw_nil ?_
    repeat refine cw_seq ?_
    refine cw_false rfl ?_
    repeat refine cw_seq ?_
    refine cw_skip ?_
    try show CW _ _ _ _ _ _
    repeat refine cw_seq ?_
    refine cw_region ?_
    refine rw_v (op_fieldAddr Try.underlying59 rfl Try.sizeOf2 rfl rfl) ?_
    refine rw_r (op_loadB Try.underlying2 rfl rfl (S.blk (i := 0) rfl) rfl) ?_
    refine rw_v (op_fieldAddr Try.underlying59 rfl Try.sizeOf2 rfl rfl) ?_
    refine rw_r (op_loadB Try.underlying2 rfl rfl (S.blk (i := 0) rfl) rfl) ?_
    refine rw_v (op_quoT rfl rfl (by omega) hgd (by omega)) ?_
    refine rw_v (op_pure rfl) ?_
    first | refine rw_end ?_ | (refine rw_nil ?_; show CW _ _ _ _ _ _) | refine rw_nil ?_
    repeat refine cw_seq ?_
    refine cw_region ?_
    refine rw_v (op_fieldAddr Try.underlying59 rfl Try.sizeOf2 rfl rfl) ?_
    refine rw_r (op_loadB Try.underlying2 rfl rfl (S.blk (i := 0) rfl) rfl) ?_
    refine rw_v (op_fieldAddr Try.underlying59 rfl Try.sizeOf2 rfl rfl) ?_
    refine rw_r (op_loadB Try.underlying2 rfl rfl (S.blk (i := 0) rfl) rfl) ?_
    refine rw_v (op_remT rfl rfl (by omega)) ?_
    refine rw_v (op_b (b := false) rfl (decide_eq_false hr)) ?_
    first | refine rw_end ?_ | (refine rw_nil ?_; show CW _ _ _ _ _ _) | refine rw_nil ?_
    repeat refine cw_seq ?_
    refine cw_false rfl ?_
    repeat refine cw_seq ?_
    refine cw_skip ?_
    try show CW _ _ _ _ _ _
    repeat refine cw_seq ?_
    refine cw_region ?_
    iterate 3 refine rw_v (op_pure rfl) ?_
    first | refine rw_end ?_ | (refine rw_nil ?_; show CW _ _ _ _ _ _) | refine rw_nil ?_
    repeat refine cw_seq ?_
    refine cw_ret ?_
    repeat first | refine ret_then ?_ | refine ret_inb ?_
    exact res2 rfl rfl ⟨rfl, S.out⟩
theorem rfloor_E (hb : 1 ≤ b) (hc : -9223372036854775808 ≤ c ∧ c ≤ 9223372036854775807) : Fn Try.prog 29 [.int .i64 c, .int .i64 b] W (RetG (.int .i64 (flrZ c b)) W) := by
  obtain ⟨hq, hq1⟩ := flrZ_bnd hc hb
  by_cases hr : c.tmod b < 0
  · have hq2 := hq1 hr
    have hfl : flrZ c b = c.tdiv b - 1 := by unfold flrZ; rw [if_pos hr]
    rw [hfl]
    generalize hgd : c.tdiv b = dv at *
    have S := St.start W
    refine Fn_enter Try.func29 rfl Try.results29 Try.ntmps29 (by kernel_rfl) (by kernel_rfl) ?_
    repeat refine cw_seq ?_
    refine cw_region ?_
    refine rw_v (op_pure rfl) ?_
    first | refine rw_end ?_ | (refine rw_nil ?_; show CW _ _ _ _ _ _) | refine rw_nil ?_
    repeat refine cw_seq ?_
    refine cw_region ?_
    iterate 2 refine rw_v (op_pure rfl) ?_
    refine rw_v (op_quoT rfl rfl (by omega) hgd (by omega)) ?_
    refine rw_v (op_pure rfl) ?_
    first | refine rw_end ?_ | (refine rw_nil ?_; show CW _ _ _ _ _ _) | refine rw_nil ?_
    repeat refine cw_seq ?_
    refine cw_region ?_
    iterate 2 refine rw_v (op_pure rfl) ?_
    refine rw_v (op_remT rfl rfl (by omega)) ?_
    refine rw_v (op_b (b := true) rfl (decide_eq_true hr)) ?_
    first | refine rw_end ?_ | (refine rw_nil ?_; show CW _ _ _ _ _ _) | refine rw_nil ?_
    repeat refine cw_seq ?_
    refine cw_true rfl ?_
    repeat refine cw_seq ?_
    refine cw_region ?_
    refine rw_v (op_pure rfl) ?_
    refine rw_v (op_rng rfl (by omega)) ?_
    refine rw_v (op_pure rfl) ?_
    first | refine rw_end ?_ | (refine rw_nil ?_; show CW _ _ _ _ _ _) | refine rw_nil ?_
    repeat refine cw_seq ?_
    refine cw_ret ?_
    repeat first | refine ret_then ?_ | refine ret_inb ?_
    exact res1 rfl ⟨rfl, S.out⟩
  · have hfl : flrZ c b = c.tdiv b := by unfold flrZ; rw [if_neg hr]
    rw [hfl]
    generalize hgd : c.tdiv b = dv at *
    have S := St.start W
    refine Fn_enter Try.func29 rfl Try.results29 Try.ntmps29 (by kernel_rfl) (by kernel_rfl) ?_
    repeat refine cw_seq ?_
    refine cw_region ?_
    refine rw_v (op_pure rfl) ?_
    first | refine rw_end ?_ | (refine rw_nil ?_; show CW _ _ _ _ _ _) | refine rw_nil ?_
    repeat refine cw_seq ?_
    refine cw_region ?_
    iterate 2 refine rw_v (op_pure rfl) ?_
    refine rw_v (op_quoT rfl rfl (by omega) hgd (by omega)) ?_
    refine rw_v (op_pure rfl) ?_
    first | refine rw_end ?_ | (refine rw_nil ?_; show CW _ _ _ _ _ _) | refine rw_nil ?_
    repeat refine cw_seq ?_
    refine cw_region ?_
    iterate 2 refine rw_v (op_pure rfl) ?_
    refine rw_v (op_remT rfl rfl (by omega)) ?_
    refine rw_v (op_b (b := false) rfl (decide_eq_false hr)) ?_
    first | refine rw_end ?_ | (refine rw_nil ?_; show CW _ _ _ _ _ _) | refine rw_nil ?_
    repeat refine cw_seq ?_
    refine cw_false rfl ?_
    repeat refine cw_seq ?_
    refine cw_skip ?_
    try show CW _ _ _ _ _ _
    repeat refine cw_seq ?_
    refine cw_region ?_
    iterate 2 refine rw_v (op_pure rfl) ?_
    first | refine rw_end ?_ | (refine rw_nil ?_; show CW _ _ _ _ _ _) | refine rw_nil ?_
    repeat refine cw_seq ?_
    refine cw_ret ?_
    repeat first | refine ret_then ?_ | refine ret_inb ?_
    exact res1 rfl ⟨rfl, S.out⟩
theorem zonesMean_E (hc : -9223372036854775808 ≤ c ∧ c ≤ 9223372036854775807) : Fn Try.prog 7 [.agg #[.int .i64 a, .int .i64 b, .int .i64 c, .int .i64 d, .int .i64 e, .int .i64 f, .int .i64 g]] W (RetG (.bool true) W) := by
  by_cases hb : b < 1
  · skip
    have S := St.start W
    refine Fn_enter Try.func7 rfl Try.results7 Try.ntmps7 (by kernel_rfl) (by kernel_rfl) ?_
    repeat refine cw_seq ?_
    refine cw_region ?_
    refine rw_newB (op_box rfl) S ?_
    intro b_z w2_ g2_ S
    refine rw_v (op_pure rfl) ?_
    first | refine rw_end ?_ | (refine rw_nil ?_; show CW _ _ _ _ _ _) | refine rw_nil ?_
    repeat refine cw_seq ?_
    refine cw_region ?_
    refine rw_call rfl (awake49_E w2_) ?_
    rintro _ w3_ ⟨rfl, g3_⟩
    have S := S.gr g3_
    refine rw_v (op_pure rfl) ?_
    first | refine rw_end ?_ | (refine rw_nil ?_; show CW _ _ _ _ _ _) | refine rw_nil ?_
    repeat refine cw_seq ?_
    refine cw_false rfl ?_
    repeat refine cw_seq ?_
    refine cw_skip ?_
    try show CW _ _ _ _ _ _
    repeat refine cw_seq ?_
    refine cw_region ?_
    refine rw_r (op_loadAB Try.underlying59 rfl (Try.sizeOf59 _) rfl (S.blk (i := 0) rfl) rfl rfl) ?_
    refine rw_call rfl (zmeanNo_E a b c d e f g hb) ?_
    rintro _ w4_ ⟨rfl, g4_⟩
    have S := S.gr g4_
    iterate 5 refine rw_v (op_pure rfl) ?_
    first | refine rw_end ?_ | (refine rw_nil ?_; show CW _ _ _ _ _ _) | refine rw_nil ?_
    repeat refine cw_seq ?_
    refine cw_region ?_
    refine rw_v (op_fieldAddr Try.underlying59 rfl Try.sizeOf2 rfl rfl) ?_
    refine rw_r (op_loadB Try.underlying2 rfl rfl (S.blk (i := 0) rfl) rfl) ?_
    refine rw_v (op_b (b := true) rfl (decide_eq_true (by omega))) ?_
    first | refine rw_end ?_ | (refine rw_nil ?_; show CW _ _ _ _ _ _) | refine rw_nil ?_
    repeat refine cw_seq ?_
    refine cw_true rfl ?_
    repeat refine cw_seq ?_
    refine cw_region ?_
    refine rw_v (op_pure rfl) ?_
    refine rw_v (op_b (b := true) rfl (beq_iff_eq.2 (by omega))) ?_
    refine rw_v (op_pure rfl) ?_
    first | refine rw_off rfl ?_ | (refine rw_on rfl ?_; refine rw_v (op_pure rfl) ?_)
    first | refine rw_off rfl ?_ | (refine rw_on rfl ?_; refine rw_v (op_b (b := true) rfl (beq_iff_eq.2 (by omega))) ?_)
    iterate 2 refine rw_v (op_pure rfl) ?_
    first | refine rw_end ?_ | (refine rw_nil ?_; show CW _ _ _ _ _ _) | refine rw_nil ?_
    repeat refine cw_seq ?_
    refine cw_ret ?_
    repeat first | refine ret_then ?_ | refine ret_inb ?_
    exact res1 rfl ⟨rfl, S.out⟩
  · skip
    have S := St.start W
    refine Fn_enter Try.func7 rfl Try.results7 Try.ntmps7 (by kernel_rfl) (by kernel_rfl) ?_
    repeat refine cw_seq ?_
    refine cw_region ?_
    refine rw_newB (op_box rfl) S ?_
    intro b_z w2_ g2_ S
    refine rw_v (op_pure rfl) ?_
    first | refine rw_end ?_ | (refine rw_nil ?_; show CW _ _ _ _ _ _) | refine rw_nil ?_
    repeat refine cw_seq ?_
    refine cw_region ?_
    refine rw_call rfl (awake49_E w2_) ?_
    rintro _ w3_ ⟨rfl, g3_⟩
    have S := S.gr g3_
    refine rw_v (op_pure rfl) ?_
    first | refine rw_end ?_ | (refine rw_nil ?_; show CW _ _ _ _ _ _) | refine rw_nil ?_
    repeat refine cw_seq ?_
    refine cw_false rfl ?_
    repeat refine cw_seq ?_
    refine cw_skip ?_
    try show CW _ _ _ _ _ _
    repeat refine cw_seq ?_
    refine cw_region ?_
    refine rw_r (op_loadAB Try.underlying59 rfl (Try.sizeOf59 _) rfl (S.blk (i := 0) rfl) rfl rfl) ?_
    refine rw_call rfl (zmean_E (a := a) (d := d) (e := e) (f := f) (g := g) (by omega) hc) ?_
    rintro _ w4_ ⟨rfl, g4_⟩
    have S := S.gr g4_
    iterate 5 refine rw_v (op_pure rfl) ?_
    first | refine rw_end ?_ | (refine rw_nil ?_; show CW _ _ _ _ _ _) | refine rw_nil ?_
    repeat refine cw_seq ?_
    refine cw_region ?_
    refine rw_v (op_fieldAddr Try.underlying59 rfl Try.sizeOf2 rfl rfl) ?_
    refine rw_r (op_loadB Try.underlying2 rfl rfl (S.blk (i := 0) rfl) rfl) ?_
    refine rw_v (op_b (b := false) rfl (decide_eq_false (by omega))) ?_
    first | refine rw_end ?_ | (refine rw_nil ?_; show CW _ _ _ _ _ _) | refine rw_nil ?_
    repeat refine cw_seq ?_
    refine cw_false rfl ?_
    repeat refine cw_seq ?_
    refine cw_skip ?_
    try show CW _ _ _ _ _ _
    repeat refine cw_seq ?_
    refine cw_region ?_
    refine rw_v (op_pure rfl) ?_
    refine rw_v (op_b (b := true) rfl (beq_iff_eq.2 (by omega))) ?_
    refine rw_v (op_pure rfl) ?_
    first | refine rw_off rfl ?_ | (refine rw_on rfl ?_; refine rw_v (op_pure rfl) ?_)
    first | refine rw_off rfl ?_ | (refine rw_on rfl ?_; refine rw_v (op_fieldAddr Try.underlying59 rfl Try.sizeOf2 rfl rfl) ?_)
    first | refine rw_off rfl ?_ | (refine rw_on rfl ?_; refine rw_r (op_loadB Try.underlying2 rfl rfl (S.blk (i := 0) rfl) rfl) ?_)
    first | refine rw_off rfl ?_ | (refine rw_on rfl ?_; refine rw_v (op_fieldAddr Try.underlying59 rfl Try.sizeOf2 rfl rfl) ?_)
    first | refine rw_off rfl ?_ | (refine rw_on rfl ?_; refine rw_r (op_loadB Try.underlying2 rfl rfl (S.blk (i := 0) rfl) rfl) ?_)
    refine rw_on rfl ?_
    refine rw_call rfl (rfloor_E (by omega) hc) ?_
    rintro _ w5_ ⟨rfl, g5_⟩
    have S := S.gr g5_
    first | refine rw_off rfl ?_ | (refine rw_on rfl ?_; refine rw_v (op_b (b := true) rfl (beq_iff_eq.2 (by omega))) ?_)
    iterate 2 refine rw_v (op_pure rfl) ?_
    first | refine rw_end ?_ | (refine rw_nil ?_; show CW _ _ _ _ _ _) | refine rw_nil ?_
    repeat refine cw_seq ?_
    refine cw_ret ?_
    repeat first | refine ret_then ?_ | refine ret_inb ?_
    exact res1 rfl ⟨rfl, S.out⟩
end
section
variable {W : World} {A B : Option Addr} {p gw gh cap cb : Nat} {cc : Nat → Int} {bs : Nat → Nat} {Rs : Nat → Option Nat} {L : List Int}
theorem zmaskNil_E {n : Nat} (label v : Int) : Fn Try.prog 30 [.pointer none, .slice B n cb, .int .i64 label, .int .i64 v] W (RetG (.tuple #[.pointer none, .int .i64 1]) W) := by
  have S := St.start W
  refine Fn_enter Try.func30 rfl Try.results30 Try.ntmps30 (by kernel_rfl) (by kernel_rfl) ?_
  repeat refine cw_seq ?_
  refine cw_region ?_
  iterate 2 refine rw_v (op_pure rfl) ?_
  first | refine rw_end ?_ | (refine rw_nil ?_; show CW _ _ _ _ _ _) | refine rw_nil ?_
  repeat refine cw_seq ?_
  refine cw_region ?_
  iterate 2 refine rw_v (op_pure rfl) ?_
  refine rw_call rfl (zvalsNil_E) ?_
  rintro _ w1_ ⟨rfl, g1_⟩
  have S := S.gr g1_
  iterate 7 refine rw_v (op_pure rfl) ?_
  first | refine rw_end ?_ | (refine rw_nil ?_; show CW _ _ _ _ _ _) | refine rw_nil ?_
  repeat refine cw_seq ?_
  refine cw_block ?_
  repeat refine cw_seq ?_
  refine cw_region ?_
  refine rw_v (op_pure rfl) ?_
  refine rw_v (op_b (b := true) rfl (bne_iff_ne.2 (by omega))) ?_
  refine rw_v (op_pure rfl) ?_
  first | refine rw_end ?_ | (refine rw_nil ?_; show CW _ _ _ _ _ _) | refine rw_nil ?_
  repeat refine cw_seq ?_
  refine cw_true rfl ?_
  repeat refine cw_seq ?_
  refine cw_region ?_
  iterate 3 refine rw_v (op_pure rfl) ?_
  first | refine rw_end ?_ | (refine rw_nil ?_; show CW _ _ _ _ _ _) | refine rw_nil ?_
  repeat refine cw_seq ?_
  refine cw_ret ?_
  repeat first | refine ret_then ?_ | refine ret_inb ?_
  exact res2 rfl rfl ⟨rfl, S.out⟩
theorem zmaskNo_E {n : Nat} (label v : Int) (hn : n ≠ gw * gh) (hG : GridAt W p gw gh cc A cap bs Rs) : Fn Try.prog 30 [.pointer (some ⟨p, 0, none⟩), .slice B n cb, .int .i64 label, .int .i64 v] W (RetG (.tuple #[.pointer none, .int .i64 6]) W) := by
  have S := St.start W
  refine Fn_enter Try.func30 rfl Try.results30 Try.ntmps30 (by kernel_rfl) (by kernel_rfl) ?_
  repeat refine cw_seq ?_
  refine cw_region ?_
  iterate 2 refine rw_v (op_pure rfl) ?_
  first | refine rw_end ?_ | (refine rw_nil ?_; show CW _ _ _ _ _ _) | refine rw_nil ?_
  repeat refine cw_seq ?_
  refine cw_region ?_
  iterate 2 refine rw_v (op_pure rfl) ?_
  refine rw_call rfl (zvalsNo_E hn (hG.gr S.out)) ?_
  rintro _ w1_ ⟨rfl, g1_⟩
  have S := S.gr g1_
  iterate 7 refine rw_v (op_pure rfl) ?_
  first | refine rw_end ?_ | (refine rw_nil ?_; show CW _ _ _ _ _ _) | refine rw_nil ?_
  repeat refine cw_seq ?_
  refine cw_block ?_
  repeat refine cw_seq ?_
  refine cw_region ?_
  refine rw_v (op_pure rfl) ?_
  refine rw_v (op_b (b := true) rfl (bne_iff_ne.2 (by omega))) ?_
  refine rw_v (op_pure rfl) ?_
  first | refine rw_end ?_ | (refine rw_nil ?_; show CW _ _ _ _ _ _) | refine rw_nil ?_
  repeat refine cw_seq ?_
  refine cw_true rfl ?_
  repeat refine cw_seq ?_
  refine cw_region ?_
  iterate 3 refine rw_v (op_pure rfl) ?_
  first | refine rw_end ?_ | (refine rw_nil ?_; show CW _ _ _ _ _ _) | refine rw_nil ?_
  repeat refine cw_seq ?_
  refine cw_ret ?_
  repeat first | refine ret_then ?_ | refine ret_inb ?_
  exact res2 rfl rfl ⟨rfl, S.out⟩
theorem zmaskVal_E (label v : Int) (hv : mayB v = false) (hG : GridAt W p gw gh cc A cap bs Rs) : Fn Try.prog 30 [.pointer (some ⟨p, 0, none⟩), .slice B (gw * gh) cb, .int .i64 label, .int .i64 v] W (RetG (.tuple #[.pointer none, .int .i64 7]) W) := by
  have hv' : ¬ (-2147483648 ≤ v ∧ v ≤ 2147483647) := fun h => by rw [(mayB_iff v).2 h] at hv; cases hv
  by_cases h1 : v < -2147483648
  · skip
    have S := St.start W
    refine Fn_enter Try.func30 rfl Try.results30 Try.ntmps30 (by kernel_rfl) (by kernel_rfl) ?_
    repeat refine cw_seq ?_
    refine cw_region ?_
    iterate 2 refine rw_v (op_pure rfl) ?_
    first | refine rw_end ?_ | (refine rw_nil ?_; show CW _ _ _ _ _ _) | refine rw_nil ?_
    repeat refine cw_seq ?_
    refine cw_region ?_
    iterate 2 refine rw_v (op_pure rfl) ?_
    refine rw_call rfl (zvals_E (hG.gr S.out)) ?_
    rintro _ w1_ ⟨A_vs, c_vs, rfl, hR_vs, hf_vs, g1_⟩
    have S := S.pushRow hR_vs hf_vs g1_
    iterate 7 refine rw_v (op_pure rfl) ?_
    first | refine rw_end ?_ | (refine rw_nil ?_; show CW _ _ _ _ _ _) | refine rw_nil ?_
    repeat refine cw_seq ?_
    refine cw_block ?_
    repeat refine cw_seq ?_
    refine cw_region ?_
    refine rw_v (op_pure rfl) ?_
    refine rw_v (op_b (b := false) rfl (bne_eq_false_iff_eq.2 (by omega))) ?_
    refine rw_v (op_pure rfl) ?_
    first | refine rw_end ?_ | (refine rw_nil ?_; show CW _ _ _ _ _ _) | refine rw_nil ?_
    repeat refine cw_seq ?_
    refine cw_false rfl ?_
    repeat refine cw_seq ?_
    refine cw_region ?_
    refine rw_v (op_pure rfl) ?_
    refine rw_v (op_b (b := true) rfl (decide_eq_true (by omega))) ?_
    refine rw_v (op_pure rfl) ?_
    first | refine rw_off rfl ?_ | (refine rw_on rfl ?_; refine rw_v (op_pure rfl) ?_)
    first | refine rw_off rfl ?_ | (refine rw_on rfl ?_; (first | refine rw_v (op_b (b := true) rfl (decide_eq_true (by omega))) ?_ | refine rw_v (op_b (b := false) rfl (decide_eq_false (by omega))) ?_ | refine rw_v (op_pure rfl) ?_))
    iterate 2 refine rw_v (op_pure rfl) ?_
    first | refine rw_end ?_ | (refine rw_nil ?_; show CW _ _ _ _ _ _) | refine rw_nil ?_
    repeat refine cw_seq ?_
    refine cw_true rfl ?_
    repeat refine cw_seq ?_
    refine cw_region ?_
    iterate 2 refine rw_v (op_pure rfl) ?_
    first | refine rw_end ?_ | (refine rw_nil ?_; show CW _ _ _ _ _ _) | refine rw_nil ?_
    repeat refine cw_seq ?_
    refine cw_ret ?_
    repeat first | refine ret_then ?_ | refine ret_inb ?_
    exact res2 rfl rfl ⟨rfl, S.out⟩
  · skip
    have S := St.start W
    refine Fn_enter Try.func30 rfl Try.results30 Try.ntmps30 (by kernel_rfl) (by kernel_rfl) ?_
    repeat refine cw_seq ?_
    refine cw_region ?_
    iterate 2 refine rw_v (op_pure rfl) ?_
    first | refine rw_end ?_ | (refine rw_nil ?_; show CW _ _ _ _ _ _) | refine rw_nil ?_
    repeat refine cw_seq ?_
    refine cw_region ?_
    iterate 2 refine rw_v (op_pure rfl) ?_
    refine rw_call rfl (zvals_E (hG.gr S.out)) ?_
    rintro _ w1_ ⟨A_vs, c_vs, rfl, hR_vs, hf_vs, g1_⟩
    have S := S.pushRow hR_vs hf_vs g1_
    iterate 7 refine rw_v (op_pure rfl) ?_
    first | refine rw_end ?_ | (refine rw_nil ?_; show CW _ _ _ _ _ _) | refine rw_nil ?_
    repeat refine cw_seq ?_
    refine cw_block ?_
    repeat refine cw_seq ?_
    refine cw_region ?_
    refine rw_v (op_pure rfl) ?_
    refine rw_v (op_b (b := false) rfl (bne_eq_false_iff_eq.2 (by omega))) ?_
    refine rw_v (op_pure rfl) ?_
    first | refine rw_end ?_ | (refine rw_nil ?_; show CW _ _ _ _ _ _) | refine rw_nil ?_
    repeat refine cw_seq ?_
    refine cw_false rfl ?_
    repeat refine cw_seq ?_
    refine cw_region ?_
    refine rw_v (op_pure rfl) ?_
    refine rw_v (op_b (b := false) rfl (decide_eq_false (by omega))) ?_
    refine rw_v (op_pure rfl) ?_
    first | refine rw_off rfl ?_ | (refine rw_on rfl ?_; refine rw_v (op_pure rfl) ?_)
    first | refine rw_off rfl ?_ | (refine rw_on rfl ?_; refine rw_v (op_b (b := true) rfl (decide_eq_true (by omega))) ?_)
    iterate 2 refine rw_v (op_pure rfl) ?_
    first | refine rw_end ?_ | (refine rw_nil ?_; show CW _ _ _ _ _ _) | refine rw_nil ?_
    repeat refine cw_seq ?_
    refine cw_true rfl ?_
    repeat refine cw_seq ?_
    refine cw_region ?_
    iterate 2 refine rw_v (op_pure rfl) ?_
    first | refine rw_end ?_ | (refine rw_nil ?_; show CW _ _ _ _ _ _) | refine rw_nil ?_
    repeat refine cw_seq ?_
    refine cw_ret ?_
    repeat first | refine ret_then ?_ | refine ret_inb ?_
    exact res2 rfl rfl ⟨rfl, S.out⟩
/-- one part alone -/
def maskF (cc : Nat → Int) (L : List Int) (label v : Int) (i : Nat) : Int := if L.getD i 0 = label then cc i else v
set_option maxHeartbeats 1000000 in
theorem zmask_E (label v : Int) (hv : mayB v = true) (hmay : ∀ i, i < gw * gh → mayB (cc i) = true) (hL : L.length = gw * gh) (hB : Rd W B (ints L)) (hG : GridAt W p gw gh cc A cap bs Rs) :
    Fn Try.prog 30 [.pointer (some ⟨p, 0, none⟩), .slice B (gw * gh) cb, .int .i64 label, .int .i64 v] W (RetGrid (fun p => .tuple #[p, .int .i64 0]) gw gh (fun i => (gridL gw gh (maskF cc L label v)).getD i 0) W) := by
  have hv' := (mayB_iff v).1 hv
  have hw := hG.sw
  have hh := hG.sh
  have hm : gw * gh ≤ 1024 * 1024 := Nat.mul_le_mul hw.2 hh.2
  have hpos : 1 ≤ gw * gh := Nat.mul_le_mul hw.1 hh.1
  have sa_B : SomeA B := hB.someA (by rw [ints_len]; omega)
  have eq1 : ((gw * gh : Nat) : Int) / gw = gh := by
    push_cast
    exact Int.mul_ediv_cancel_left _ (by omega)
  have hmm : ∀ x ∈ gridL gw gh (maskF cc L label v), mayB x = true := fun x hx => by
    obtain ⟨i, hi, rfl⟩ := List.mem_map.1 hx
    unfold maskF
    split
    · exact hmay i (by simpa using hi)
    · exact hv
  have S := St.start W
  refine Fn_enter Try.func30 rfl Try.results30 Try.ntmps30 (by kernel_rfl) (by kernel_rfl) ?_
  repeat refine cw_seq ?_
  refine cw_region ?_
  iterate 2 refine rw_v (op_pure rfl) ?_
  first | refine rw_end ?_ | (refine rw_nil ?_; show CW _ _ _ _ _ _) | refine rw_nil ?_
  repeat refine cw_seq ?_
  refine cw_region ?_
  iterate 2 refine rw_v (op_pure rfl) ?_
  refine rw_call rfl (zvals_E (hG.gr S.out)) ?_
  rintro _ w1_ ⟨A_vs, c_vs, rfl, hR_vs, hf_vs, g1_⟩
  have S := S.pushRow hR_vs hf_vs g1_
  iterate 7 refine rw_v (op_pure rfl) ?_
  first | refine rw_end ?_ | (refine rw_nil ?_; show CW _ _ _ _ _ _) | refine rw_nil ?_
  repeat refine cw_seq ?_
  refine cw_block ?_
  repeat refine cw_seq ?_
  refine cw_region ?_
  refine rw_v (op_pure rfl) ?_
  refine rw_v (op_b (b := false) rfl (bne_eq_false_iff_eq.2 (by omega))) ?_
  refine rw_v (op_pure rfl) ?_
  first | refine rw_end ?_ | (refine rw_nil ?_; show CW _ _ _ _ _ _) | refine rw_nil ?_
  repeat refine cw_seq ?_
  refine cw_false rfl ?_
  repeat refine cw_seq ?_
  refine cw_region ?_
  refine rw_v (op_pure rfl) ?_
  refine rw_v (op_b (b := false) rfl (decide_eq_false (by omega))) ?_
  refine rw_v (op_pure rfl) ?_
  first | refine rw_off rfl ?_ | (refine rw_on rfl ?_; refine rw_v (op_pure rfl) ?_)
  first | refine rw_off rfl ?_ | (refine rw_on rfl ?_; refine rw_v (op_b (b := false) rfl (decide_eq_false (by omega))) ?_)
  iterate 2 refine rw_v (op_pure rfl) ?_
  first | refine rw_end ?_ | (refine rw_nil ?_; show CW _ _ _ _ _ _) | refine rw_nil ?_
  repeat refine cw_seq ?_
  refine cw_false rfl ?_
  repeat refine cw_seq ?_
  refine cw_skip ?_
  try show CW _ _ _ _ _ _
  repeat refine cw_seq ?_
  refine cw_region ?_
  refine rw_v (op_pure rfl) ?_
  refine rw_v (op_len Try.underlying22 rfl) ?_
  refine rw_v (op_pure rfl) ?_
  first | refine rw_end ?_ | (refine rw_nil ?_; show CW _ _ _ _ _ _) | refine rw_nil ?_
  repeat refine cw_seq ?_
  refine cw_block ?_
  repeat refine cw_seq ?_
  rw [show ints (gridL gw gh cc) = cellsQ (gw * gh) (fun i => if i < 0 then maskF cc L label v i else cc i) by rw [cellsQ_ints]; rfl] at S
  refine cw_loop (fun m e w => ∃ k : Nat, k + m = gw * gh ∧ SL e [(1, .slice B (gw * gh) cb), (2, .int .i64 label), (3, .int .i64 v), (10, .slice A_vs (gw * gh) c_vs), (11, .int .i64 gw), (33, .int .i64 (gw * gh : Nat)), (34, .int .i64 k)] ∧
    St No W w [.row 2 1 A_vs (gw * gh) c_vs (cellsQ (gw * gh) (fun i => if i < k then maskF cc L label v i else cc i))]) (gw * gh)
    ⟨0, by omega, ⟨rfl, rfl, rfl, rfl, rfl, rfl, rfl, trivial⟩, S⟩ ?_
  clear S
  rintro m e w ⟨k, hk, hsl, S⟩
  rw [hsl.fold]
  repeat refine cw_seq ?_
  refine cw_region ?_
  refine rw_v (op_pure rfl) ?_
  first | refine rw_end ?_ | (refine rw_nil ?_; show CW _ _ _ _ _ _) | refine rw_nil ?_
  repeat refine cw_seq ?_
  refine cw_cond rfl (fun hc => ?_) (fun hc => ?_)
  · try simp only [decide_eq_true_eq, decide_eq_false_iff_not, beq_iff_eq, bne_iff_ne, beq_eq_false_iff_ne, bne_eq_false_iff_eq, Bool.not_eq_true', Bool.not_eq_false', ne_eq, Decidable.not_not, Int.natCast_inj, Int.ofNat_lt, Int.ofNat_le, gt_iff_lt, ge_iff_le, Int.not_lt, Int.not_le] at hc
    have hkn : k < gw * gh := by omega
    have hget : (ints L)[(k : Int).toNat * 1]? = some (.int .i64 (L.getD k 0)) := by rw [Nat.mul_one, Int.toNat_natCast]; exact ints_get (getD_at (by omega))
    have sa_vs : SomeA A_vs := (S.row (i := 0) rfl).someA (by omega)
    by_cases hl : L.getD k 0 = label
    · skip
      repeat refine cw_seq ?_
      refine cw_skip ?_
      try show CW _ _ _ _ _ _
      repeat refine cw_seq ?_
      refine cw_block ?_
      repeat refine cw_seq ?_
      refine cw_region ?_
      iterate 2 refine rw_v (op_pure rfl) ?_
      first | refine rw_end ?_ | (refine rw_nil ?_; show CW _ _ _ _ _ _) | refine rw_nil ?_
      repeat refine cw_seq ?_
      refine cw_region ?_
      iterate 2 refine rw_v (op_pure rfl) ?_
      refine rw_v (op_idx Try.underlying22 Try.sizeOf2 rfl rfl sa_B (by omega) (by omega)) ?_
      refine rw_r (op_ldR Try.underlying2 rfl rfl (hB.gr S.out) hget) ?_
      refine rw_v (op_pure rfl) ?_
      refine rw_v (op_b (b := false) rfl (bne_eq_false_iff_eq.2 (by omega))) ?_
      first | refine rw_end ?_ | (refine rw_nil ?_; show CW _ _ _ _ _ _) | refine rw_nil ?_
      repeat refine cw_seq ?_
      refine cw_false rfl ?_
      repeat refine cw_seq ?_
      refine cw_skip ?_
      try show CW _ _ _ _ _ _
      repeat refine cw_seq ?_
      refine cw_region ?_
      refine rw_v (op_rng rfl (by omega)) ?_
      refine rw_v (op_pure rfl) ?_
      first | refine rw_end ?_ | (refine rw_nil ?_; show CW _ _ _ _ _ _) | refine rw_nil ?_
      rw [cellsQ_congr (o' := fun i => if i < k + 1 then maskF cc L label v i else cc i) (fun i hi => by
        (try dsimp only)
        by_cases e1 : i < k
        · rw [if_pos e1, if_pos (by omega)]
        · by_cases e2 : i = k
          · subst e2; rw [if_neg e1, if_pos (by omega)]; unfold maskF; rw [if_pos hl]
          · rw [if_neg e1, if_neg (by omega)])] at S
      exact ⟨m - 1, by omega, k + 1, by omega, ⟨rfl, rfl, rfl, rfl, rfl, rfl, ie (by omega), trivial⟩, S⟩
    · skip
      repeat refine cw_seq ?_
      refine cw_skip ?_
      try show CW _ _ _ _ _ _
      repeat refine cw_seq ?_
      refine cw_block ?_
      repeat refine cw_seq ?_
      refine cw_region ?_
      iterate 2 refine rw_v (op_pure rfl) ?_
      first | refine rw_end ?_ | (refine rw_nil ?_; show CW _ _ _ _ _ _) | refine rw_nil ?_
      repeat refine cw_seq ?_
      refine cw_region ?_
      iterate 2 refine rw_v (op_pure rfl) ?_
      refine rw_v (op_idx Try.underlying22 Try.sizeOf2 rfl rfl sa_B (by omega) (by omega)) ?_
      refine rw_r (op_ldR Try.underlying2 rfl rfl (hB.gr S.out) hget) ?_
      refine rw_v (op_pure rfl) ?_
      refine rw_v (op_b (b := true) rfl (bne_iff_ne.2 (by omega))) ?_
      first | refine rw_end ?_ | (refine rw_nil ?_; show CW _ _ _ _ _ _) | refine rw_nil ?_
      repeat refine cw_seq ?_
      refine cw_true rfl ?_
      repeat refine cw_seq ?_
      refine cw_region ?_
      iterate 3 refine rw_v (op_pure rfl) ?_
      refine rw_v (op_idx Try.underlying22 Try.sizeOf2 rfl rfl sa_vs (by omega) (by omega)) ?_
      refine rw_storeR (i := 0) S rfl (Try.sizeOf2 _) rfl rfl rfl rfl (by rw [cellsQ_len]; omega) rfl ?_
      intro w2_ S
      first | refine rw_end ?_ | (refine rw_nil ?_; show CW _ _ _ _ _ _) | refine rw_nil ?_
      repeat refine cw_seq ?_
      refine cw_region ?_
      refine rw_v (op_rng rfl (by omega)) ?_
      refine rw_v (op_pure rfl) ?_
      first | refine rw_end ?_ | (refine rw_nil ?_; show CW _ _ _ _ _ _) | refine rw_nil ?_
      rw [cellsQ_set, cellsQ_congr (o' := fun i => if i < k + 1 then maskF cc L label v i else cc i) (fun i hi => by
        unfold updI
        by_cases e2 : i = k
        · subst e2; rw [if_pos rfl, if_pos (by omega)]; unfold maskF; rw [if_neg hl]
        · rw [if_neg e2]
          (try dsimp only)
          by_cases e1 : i < k
          · rw [if_pos e1, if_pos (by omega)]
          · rw [if_neg e1, if_neg (by omega)])] at S
      exact ⟨m - 1, by omega, k + 1, by omega, ⟨rfl, rfl, rfl, rfl, rfl, rfl, ie (by omega), trivial⟩, S⟩
  · try simp only [decide_eq_true_eq, decide_eq_false_iff_not, beq_iff_eq, bne_iff_ne, beq_eq_false_iff_ne, bne_eq_false_iff_eq, Bool.not_eq_true', Bool.not_eq_false', ne_eq, Decidable.not_not, Int.natCast_inj, Int.ofNat_lt, Int.ofNat_le, gt_iff_lt, ge_iff_le, Int.not_lt, Int.not_le] at hc
    obtain rfl : k = gw * gh := by omega
    rw [cellsQ_congr (o' := maskF cc L label v) (fun i hi => by rw [if_pos hi]), cellsQ_ints] at S
    have S : St No W w [.row 2 1 A_vs (gw * gh) c_vs (ints (gridL gw gh (maskF cc L label v)))] := S
    have hfr := fun w h => from_E (W := w) (B := A_vs) (gw := gw) (gh := gh) c_vs hw hh (gridL_len gw gh (maskF cc L label v)) hmm h
    rw [gridL_len] at hfr
    repeat refine cw_seq ?_
    refine cw_exit ?_
    repeat first | refine exit_then ?_ | refine exit_inb ?_
    show CW _ _ _ _ _ _
    repeat refine cw_seq ?_
    refine cw_region ?_
    iterate 2 refine rw_v (op_pure rfl) ?_
    refine rw_v (op_len Try.underlying22 rfl) ?_
    refine rw_v (op_pure rfl) ?_
    refine rw_v (op_div rfl rfl (by omega) (by omega)) ?_
    rw [eq1]
    refine rw_v (op_pure rfl) ?_
    refine rw_call rfl (hfr w (S.rd (i := 0) rfl)) ?_
    rintro _ w3_ ⟨p2, B2, bc, bs2, Rs2, rfl, hG2, hf2, g3_⟩
    have S := S.pushGrid hG2 hf2 g3_
    iterate 4 refine rw_v (op_pure rfl) ?_
    first | refine rw_end ?_ | (refine rw_nil ?_; show CW _ _ _ _ _ _) | refine rw_nil ?_
    repeat refine cw_seq ?_
    refine cw_ret ?_
    repeat first | refine ret_then ?_ | refine ret_inb ?_
    exact res2 rfl rfl (S.retGrid (i := 0) rfl)
theorem zonesNil_E {n : Nat} (label v : Int) (hn : n ≤ 9223372036854775807) : Fn Try.prog 8 [.slice B n cb, .int .i64 label, .int .i64 v] W (RetG (.bool true) W) := by
  by_cases h : n ≤ 100
  · skip
    have S := St.start W
    refine Fn_enter Try.func8 rfl Try.results8 Try.ntmps8 (by kernel_rfl) (by kernel_rfl) ?_
    repeat refine cw_seq ?_
    refine cw_region ?_
    refine rw_v (op_pure rfl) ?_
    first | refine rw_end ?_ | (refine rw_nil ?_; show CW _ _ _ _ _ _) | refine rw_nil ?_
    repeat refine cw_seq ?_
    refine cw_region ?_
    refine rw_call rfl (awake49_E W) ?_
    rintro _ w1_ ⟨rfl, g1_⟩
    have S := S.gr g1_
    refine rw_v (op_pure rfl) ?_
    first | refine rw_end ?_ | (refine rw_nil ?_; show CW _ _ _ _ _ _) | refine rw_nil ?_
    repeat refine cw_seq ?_
    refine cw_false rfl ?_
    repeat refine cw_seq ?_
    refine cw_skip ?_
    try show CW _ _ _ _ _ _
    repeat refine cw_seq ?_
    refine cw_region ?_
    refine rw_v (op_pure rfl) ?_
    refine rw_v (op_len Try.underlying22 rfl) ?_
    refine rw_v (op_b (b := false) rfl (decide_eq_false (by omega))) ?_
    first | refine rw_end ?_ | (refine rw_nil ?_; show CW _ _ _ _ _ _) | refine rw_nil ?_
    repeat refine cw_seq ?_
    refine cw_false rfl ?_
    repeat refine cw_seq ?_
    refine cw_skip ?_
    try show CW _ _ _ _ _ _
    repeat refine cw_seq ?_
    refine cw_region ?_
    refine rw_v (op_pure rfl) ?_
    refine rw_call rfl (zofNil_E) ?_
    rintro _ w2_ ⟨rfl, g2_⟩
    have S := S.gr g2_
    iterate 5 refine rw_v (op_pure rfl) ?_
    first | refine rw_end ?_ | (refine rw_nil ?_; show CW _ _ _ _ _ _) | refine rw_nil ?_
    repeat refine cw_seq ?_
    refine cw_region ?_
    refine rw_v (op_pure rfl) ?_
    refine rw_call rfl (zbordNil_E) ?_
    rintro _ w3_ ⟨rfl, g3_⟩
    have S := S.gr g3_
    iterate 5 refine rw_v (op_pure rfl) ?_
    first | refine rw_end ?_ | (refine rw_nil ?_; show CW _ _ _ _ _ _) | refine rw_nil ?_
    repeat refine cw_seq ?_
    refine cw_region ?_
    iterate 3 refine rw_v (op_pure rfl) ?_
    refine rw_call rfl (zmaskNil_E label v) ?_
    rintro _ w4_ ⟨rfl, g4_⟩
    have S := S.gr g4_
    iterate 5 refine rw_v (op_pure rfl) ?_
    first | refine rw_end ?_ | (refine rw_nil ?_; show CW _ _ _ _ _ _) | refine rw_nil ?_
    repeat refine cw_seq ?_
    refine cw_region ?_
    refine rw_v (op_pure rfl) ?_
    refine rw_v (op_len Try.underlying52 rfl) ?_
    refine rw_v (op_b (b := true) rfl (beq_iff_eq.2 (by omega))) ?_
    refine rw_v (op_pure rfl) ?_
    first | refine rw_off rfl ?_ | (refine rw_on rfl ?_; refine rw_v (op_pure rfl) ?_)
    first | refine rw_off rfl ?_ | (refine rw_on rfl ?_; refine rw_v (op_b (b := true) rfl (beq_iff_eq.2 (by omega))) ?_)
    iterate 2 refine rw_v (op_pure rfl) ?_
    first | refine rw_off rfl ?_ | (refine rw_on rfl ?_; refine rw_v (op_pure rfl) ?_)
    first | refine rw_off rfl ?_ | (refine rw_on rfl ?_; refine rw_v (op_len Try.underlying61 rfl) ?_)
    first | refine rw_off rfl ?_ | (refine rw_on rfl ?_; refine rw_v (op_b (b := true) rfl (beq_iff_eq.2 (by omega))) ?_)
    iterate 2 refine rw_v (op_pure rfl) ?_
    first | refine rw_off rfl ?_ | (refine rw_on rfl ?_; refine rw_v (op_pure rfl) ?_)
    first | refine rw_off rfl ?_ | (refine rw_on rfl ?_; refine rw_v (op_b (b := true) rfl (beq_iff_eq.2 (by omega))) ?_)
    iterate 2 refine rw_v (op_pure rfl) ?_
    first | refine rw_off rfl ?_ | (refine rw_on rfl ?_; refine rw_v (op_pure rfl) ?_)
    first | refine rw_off rfl ?_ | (refine rw_on rfl ?_; refine rw_v (op_nilp Try.underlying28 rfl rfl) ?_)
    iterate 2 refine rw_v (op_pure rfl) ?_
    first | refine rw_off rfl ?_ | (refine rw_on rfl ?_; refine rw_v (op_pure rfl) ?_)
    first | refine rw_off rfl ?_ | (refine rw_on rfl ?_; refine rw_v (op_b (b := true) rfl (beq_iff_eq.2 (by omega))) ?_)
    iterate 2 refine rw_v (op_pure rfl) ?_
    first | refine rw_end ?_ | (refine rw_nil ?_; show CW _ _ _ _ _ _) | refine rw_nil ?_
    repeat refine cw_seq ?_
    refine cw_ret ?_
    repeat first | refine ret_then ?_ | refine ret_inb ?_
    exact res1 rfl ⟨rfl, S.out⟩
  · skip
    have S := St.start W
    refine Fn_enter Try.func8 rfl Try.results8 Try.ntmps8 (by kernel_rfl) (by kernel_rfl) ?_
    repeat refine cw_seq ?_
    refine cw_region ?_
    refine rw_v (op_pure rfl) ?_
    first | refine rw_end ?_ | (refine rw_nil ?_; show CW _ _ _ _ _ _) | refine rw_nil ?_
    repeat refine cw_seq ?_
    refine cw_region ?_
    refine rw_call rfl (awake49_E W) ?_
    rintro _ w1_ ⟨rfl, g1_⟩
    have S := S.gr g1_
    refine rw_v (op_pure rfl) ?_
    first | refine rw_end ?_ | (refine rw_nil ?_; show CW _ _ _ _ _ _) | refine rw_nil ?_
    repeat refine cw_seq ?_
    refine cw_false rfl ?_
    repeat refine cw_seq ?_
    refine cw_skip ?_
    try show CW _ _ _ _ _ _
    repeat refine cw_seq ?_
    refine cw_region ?_
    refine rw_v (op_pure rfl) ?_
    refine rw_v (op_len Try.underlying22 rfl) ?_
    refine rw_v (op_b (b := true) rfl (decide_eq_true (by omega))) ?_
    first | refine rw_end ?_ | (refine rw_nil ?_; show CW _ _ _ _ _ _) | refine rw_nil ?_
    repeat refine cw_seq ?_
    refine cw_true rfl ?_
    repeat refine cw_seq ?_
    refine cw_region ?_
    refine rw_v (op_pure rfl) ?_
    first | refine rw_end ?_ | (refine rw_nil ?_; show CW _ _ _ _ _ _) | refine rw_nil ?_
    repeat refine cw_seq ?_
    refine cw_ret ?_
    repeat first | refine ret_then ?_ | refine ret_inb ?_
    exact res1 rfl ⟨rfl, S.out⟩
end
end Go.Proofs.Yteihfmifelcidaa
/- hachureref49.Labels, Sides: contracts. -/
namespace Go.Proofs.Yteihfmifelcidaa
open Go.RowKit
set_option linter.unusedVariables false
set_option linter.unusedSimpArgs false
set_option maxRecDepth 100000

section
variable {P : Program} {ops : Array Oper} {Q : (Nat → Value) → World → Prop} {e : Nat → Value} {W w : World} {rest : List Oper} {F : Nat → Prop} {L : List HA}
variable {d : Option Tmp} {ty : TypeId} {ps : String} {af : Array Edge}
/-- append of what may be nothing -/
theorem rw_appZ {i : Nat} {s x : Operand} {t el bytes k n c m c2 : Nat} {A B : Option Addr} {z : Value} {xs ys : List Value} {f : HA → List HA} (S : St F W w L) (hi : getO L i = some (.row el k A n c xs)) (hf : ∀ h, setO L i h = some (f h))
    (hu : P.underlying t = some (.slice el)) (hI : (P.info? el).map (fun i => (i.zero, i.size, i.bytes)) = some (some z, k, bytes)) (hz : Nat.beq z.cells.size k = true) (hk : Nat.blt 0 k = true)
    (hs : ev e s = .slice A n c) (hx : ev e x = .slice B m c2) (hm : ys.length = m * k) (hc0 : B = none → c2 = 0) (hR : Rd w B ys) (h1 : (ys.all fun v => v.oneCell') = true) (hb : (n + m) * (bytes + 1) ≤ 140737488355328)
    (hr : ∀ A' c' w', St F W w' (f (.row el k A' (n + m) c' (xs ++ ys))) → RW P ops Q rest (updO e d (.slice A' (n + m) c')) w') :
    RW P ops Q (⟨d, .call ⟨.builtin .append, #[s, x], #[t, t]⟩, ty, ps, af, none⟩ :: rest) e w := by
  obtain ⟨inf, hinf, hz0, hz1, hz2⟩ := info_parts hI
  have hk0 : 0 < k := Nat.le_of_ble_eq_true hk
  have hz' := Nat.eq_of_beq_eq_true hz
  have hb1 : (n + m) * bytes ≤ 140737488355328 := Nat.le_trans (Nat.mul_le_mul_left _ (by omega)) hb
  have hb2 : n + m ≤ 140737488355328 := Nat.le_trans (Nat.le_mul_of_pos_right _ (by omega)) hb
  have hRow := S.row hi
  have hR' : (B = none ∧ ys = []) ∨ ∃ a, B = some a ∧ ∀ (j : Nat) u, ys[j]? = some u → w.cell? (a.add j) = some u := by
    rcases hR with rfl | ⟨b, o, rfl, hlt, hc⟩
    · cases B with
      | none => exact .inl ⟨rfl, rfl⟩
      | some a => exact .inr ⟨a, rfl, fun j u hu => by cases hu⟩
    · exact .inr ⟨_, rfl, fun j u hu => by rw [addr_add]; exact hc j u hu⟩
  rcases hR' with ⟨rfl, rfl⟩ | ⟨a, rfl, hc⟩
  · have hm0 : m = 0 := by
      rcases Nat.eq_zero_or_pos m with h | h
      · exact h
      · have := Nat.mul_pos h hk0; simp at hm; omega
    have hc0 := hc0 rfl
    subst hm0 hc0
    have := run_append_owned_none (P := P) (w := w) 0 t ty el inf k hu hinf (.slice A n c) n xs hRow
    refine rw_w (v := .slice A (n + 0) c) (w' := w) ?_ (hr A c w ?_)
    · simp [execOp, resolve, invoke, builtin, hs, hx, this]
    · refine S.as_ hi (hf _) (fun h => ?_) (fun g h => h)
      rw [List.append_nil]
      exact h
  · obtain ⟨v', w', hrun, ho, hg, _, hob⟩ := run_append_own_at (P := P) w 0 t ty el inf z k bytes hu hinf hz0 hz1 hz2 hz' hk0 (.slice A n c) n xs hRow a m c2 ys hm
      hc (fun u hu => List.all_eq_true.1 h1 u hu) (by unfold maxLen; omega) hb1 (by omega)
    obtain ⟨A', c', rfl⟩ := Own.form ho
    have hRow' : Row w' el k A' (n + m) c' (xs ++ ys) := ho
    refine rw_w (v := .slice A' (n + m) c') (w' := w') ?_ (hr A' c' w' ?_)
    · simp [execOp, resolve, invoke, builtin, hs, hx, hrun]
    · refine S.set hi (hf _) (Fr.of_grown (F := fun g => ownA A g) hg (fun g e => ?_)) (fun g e => .inl e) hRow' (fun g e => ?_)
      · cases A with
        | none => cases e
        | some a => exact e
      · have e' : (Value.slice A' (n + m) c').ownBlock = some g := by
          cases A' with
          | none => cases e
          | some a => exact e
        rw [e'] at hob
        rcases hob with h | h
        · left
          cases A with
          | none => cases h
          | some a => exact h.symm
        · injection h with h; right; omega
theorem Rd.takeZ {A : Option Addr} {xs : List Value} (h : Rd w A xs) (n : Nat) : Rd w A (xs.take n) := by
  rcases h with rfl | ⟨b, o, rfl, hlt, hc⟩
  · exact .inl (by simp)
  · exact .inr ⟨b, o, rfl, hlt, fun j v hj => by
      rw [List.getElem?_take] at hj
      split at hj
      · exact hc j v hj
      · cases hj⟩
/-- a slice of a row, from m on -/
theorem op_fromZ {t el : TypeId} {k n c m : Nat} {A : Option Addr} {xs : List Value} (hu : P.underlying t = some (.slice el)) (hz : ∀ w, (sizeOf el).run P w = .ok k w) (hR : Row w el k A n c xs) (hm : m ≤ n) :
    ∃ B cB, (∀ (e : Nat → Value) (d : Option Tmp) (ty : TypeId) (ps : String) (af : Array Edge) (x lo : Operand) (kl : IntKind), ev e x = .slice A n c → ev e lo = .int kl (m : Nat) → OpV P e ⟨d, .slice t x (some lo) none none, ty, ps, af, none⟩ (.slice B (n - m) cB)) ∧ Rd w B (xs.drop (m * k)) ∧ (B = none → cB = 0) := by
  have hcap := hR.cap
  by_cases hc : m = c
  · subst hc
    have hnm : n = m := by omega
    subst hnm
    refine ⟨A, 0, fun e d ty ps af x lo kl hx hl w => ?_, .inl ?_, fun _ => rfl⟩
    · simp [OpR, execOp, hx, hl, Instr.sliceAt, Instr.slice, run_underlying hu, Instr.sliceBounds, run_sliceBound, hz]
    · rw [List.drop_eq_nil_iff, hR.len]; exact Nat.le_refl _
  · rcases hR.form with ⟨rfl, rfl, rfl, rfl⟩ | ⟨g, l, rfl, hB, hn, hl, ht, hmx⟩
    · omega
    · refine ⟨some ⟨g, 0 + m * k, none⟩, c - m, fun e d ty ps af x lo kl hx hlo => ?_, ?_, fun h => by cases h⟩
      · have := op_slice_l (P := P) (d := d) (ty := ty) (ps := ps) (af := af) hu hz hx hlo (by omega) (by omega) (by omega)
        rw [Int.toNat_natCast] at this
        exact this
      · rcases hR.rd with rfl | ⟨b, o, e1, hlt, hcl⟩
        · exact .inl (by simp)
        · cases e1
          exact .inr ⟨g, 0 + m * k, rfl, hlt, fun j v hj => by
            rw [List.getElem?_drop] at hj
            have := hcl _ v hj
            rw [show 0 + m * k + j = 0 + (m * k + j) by omega]
            exact this⟩
end
theorem ints_ones (l : List Int) : (ints l).all (fun v => v.oneCell') = true := by
  unfold ints
  rw [List.all_map, List.all_eq_true]
  intro x _
  rfl
theorem tw_iff {l : List Int} {x : Int} {j : Nat} (h : j ≤ (l.takeWhile (· < x)).length) : j < (l.takeWhile (· < x)).length ↔ ∃ y, l[j]? = some y ∧ y < x := by
  have happ := List.takeWhile_append_dropWhile (p := fun a => decide (a < x)) (l := l)
  have hw : ∀ a ∈ l.takeWhile (· < x), a < x := fun a ha => by
    have := List.all_takeWhile (l := l) (p := fun a => decide (a < x))
    simpa using List.all_eq_true.1 this a ha
  have hd : ∀ a, (l.dropWhile (· < x)).head? = some a → x ≤ a := fun a e => by
    have := List.head?_dropWhile_not (p := fun a => decide (a < x)) (l := l)
    rw [e] at this
    simpa using this
  constructor
  · intro hj
    refine ⟨(l.takeWhile (· < x))[j], ?_, hw _ (List.getElem_mem hj)⟩
    conv => lhs; rw [← happ]
    rw [List.getElem?_append_left hj, List.getElem?_eq_getElem hj]
  · rintro ⟨y, hy, hyx⟩
    rcases Nat.lt_or_ge j (l.takeWhile (· < x)).length with h1 | h1
    · exact h1
    · exfalso
      have e1 : j = (l.takeWhile (· < x)).length := by omega
      rw [← happ, List.getElem?_append_right (by omega), e1, Nat.sub_self, ← List.head?_eq_getElem?] at hy
      have := hd y hy
      omega
theorem refLab_len {L : List Int} : ∀ n, (refLab L n).length ≤ n
  | 0 => by simp [refLab]
  | n + 1 => by
    have ih := refLab_len (L := L) n
    unfold refLab insL
    split
    · omega
    · simp; omega
section
variable {W : World} {A : Option Addr} {cap : Nat} {L : List Int}
set_option maxHeartbeats 2000000 in
theorem rlab_E (hl : L.length ≤ 1048576) (hA : Rd W A (ints L)) : Fn Try.prog 26 [.slice A L.length cap] W (RetNew id 2 1 (refLab L L.length).length (ints (refLab L L.length)) W) := by
  have S := St.start W
  refine Fn_enter Try.func26 rfl Try.results26 Try.ntmps26 (by kernel_rfl) (by kernel_rfl) ?_
  repeat refine cw_seq ?_
  refine cw_region ?_
  refine rw_v (op_pure rfl) ?_
  first | refine rw_end ?_ | (refine rw_nil ?_; show CW _ _ _ _ _ _) | refine rw_nil ?_
  repeat refine cw_seq ?_
  refine cw_region ?_
  refine rw_buildS0 Try.underlying22 Try.sizeOf2 S ?_
  intro A_out w2_ g2_ S sa_out
  refine rw_v (op_pure rfl) ?_
  first | refine rw_end ?_ | (refine rw_nil ?_; show CW _ _ _ _ _ _) | refine rw_nil ?_
  repeat refine cw_seq ?_
  refine cw_region ?_
  refine rw_v (op_pure rfl) ?_
  first | refine rw_end ?_ | (refine rw_nil ?_; show CW _ _ _ _ _ _) | refine rw_nil ?_
  repeat refine cw_seq ?_
  refine cw_block ?_
  repeat refine cw_seq ?_
  refine cw_loop (fun m e w => ∃ (k : Nat) (A2 : Option Addr) (c2 : Nat), k + m = L.length ∧ SL e [(0, .slice A L.length cap), (3, .slice A2 (refLab L k).length c2), (4, .int .i64 k)] ∧
    St No W w [.row 2 1 A2 (refLab L k).length c2 (ints (refLab L k))]) L.length
    ⟨0, _, _, by omega, ⟨rfl, rfl, rfl, trivial⟩, S⟩ ?_
  clear S sa_out
  rintro m e w ⟨k, A2, c2, hk, hsl, S⟩
  rw [hsl.fold]
  repeat refine cw_seq ?_
  refine cw_region ?_
  iterate 2 refine rw_v (op_pure rfl) ?_
  refine rw_v (op_len Try.underlying22 rfl) ?_
  refine rw_v (op_pure rfl) ?_
  first | refine rw_end ?_ | (refine rw_nil ?_; show CW _ _ _ _ _ _) | refine rw_nil ?_
  repeat refine cw_seq ?_
  refine cw_cond rfl (fun hc => ?_) (fun hc => ?_)
  · try simp only [decide_eq_true_eq, decide_eq_false_iff_not, beq_iff_eq, bne_iff_ne, beq_eq_false_iff_ne, bne_eq_false_iff_eq, Bool.not_eq_true', Bool.not_eq_false', ne_eq, Decidable.not_not, Int.natCast_inj, Int.ofNat_lt, Int.ofNat_le, gt_iff_lt, ge_iff_le, Int.not_lt, Int.not_le] at hc
    have hkn : k < L.length := by omega
    have sa_A : SomeA A := hA.someA (by rw [ints_len]; omega)
    have hlx : (ints L)[(k : Int).toNat * 1]? = some (.int .i64 (L.getD k 0)) := by rw [Nat.mul_one, Int.toNat_natCast]; exact ints_get (getD_at (by omega))
    have hll := refLab_len (L := L) k
    have hsucc : refLab L (k + 1) = insL (refLab L k) (L.getD k 0) := rfl
    generalize hl2 : refLab L (k + 1) = l2 at *
    generalize hl1 : refLab L k = l at *
    generalize L.getD k 0 = x at *
    have hlt := fun j (h : j ≤ (l.takeWhile (· < x)).length) => tw_iff h
    have htl : (l.takeWhile (· < x)).length ≤ l.length := (List.takeWhile_sublist _).length_le
    unfold insL at hsucc
    generalize hT : (l.takeWhile (· < x)).length = T at *
    have hgl : ∀ j, j < l.length → (ints l)[(j : Int).toNat * 1]? = some (.int .i64 (l.getD j 0)) := fun j hj => by rw [Nat.mul_one, Int.toNat_natCast]; exact ints_get (getD_at (by omega))
    have hgd : ∀ j y, l[j]? = some y → l.getD j 0 = y := fun j y hy => by rw [List.getD_eq_getElem?_getD, hy]; rfl
    have hgs : ∀ j, j < l.length → l[j]? = some (l.getD j 0) := fun j hj => getD_at hj
    repeat refine cw_seq ?_
    refine cw_skip ?_
    try show CW _ _ _ _ _ _
    repeat refine cw_seq ?_
    refine cw_block ?_
    repeat refine cw_seq ?_
    refine cw_region ?_
    refine rw_v (op_pure rfl) ?_
    first | refine rw_end ?_ | (refine rw_nil ?_; show CW _ _ _ _ _ _) | refine rw_nil ?_
    repeat refine cw_seq ?_
    refine cw_block ?_
    repeat refine cw_seq ?_
    refine cw_loop (fun m2 e w => ∃ j : Nat, j + m2 = T ∧ SL e [(0, .slice A L.length cap), (3, .slice A2 l.length c2), (4, .int .i64 k), (5, .int .i64 j)] ∧
      St No W w [.row 2 1 A2 l.length c2 (ints l)]) T
      ⟨0, by omega, ⟨rfl, rfl, rfl, rfl, trivial⟩, S⟩ ?_
    clear S
    rintro m2 e w ⟨j, hj, hsl, S⟩
    rw [hsl.fold]
    by_cases hjT : j < T
    · obtain ⟨y, hy, hyx⟩ := (hlt j (by omega)).1 hjT
      have hyd := hgd j y hy
      have hjl := (List.getElem?_eq_some_iff.1 hy).1
      have hgj := hgl j hjl
      rw [hyd] at hgj
      have sa_out : SomeA A2 := (S.row (i := 0) rfl).someA (by omega)
      repeat refine cw_seq ?_
      refine cw_draw (C := fun wq => Gr w wq) [0, 1, 2, 3, 4, 5, 6, 7, 8, 9, 10, 11, 12, 13, 14] [] (by kernel_rfl) (by kernel_rfl) (Gr.drew _) ?_
      simp only [pickL, List.drop_succ_cons, List.drop_zero]
      iterate 2 refine rq_v (op_pure rfl) ?_
      refine rq_v (op_len Try.underlying22 rfl) ?_
      refine rq_v (op_b (b := true) rfl (decide_eq_true (by omega))) ?_
      refine rq_v (op_pure rfl) ?_
      first | refine rq_off rfl ?_ | (refine rq_on rfl ?_; refine rq_v (op_pure rfl) ?_)
      first | refine rq_off rfl ?_ | (refine rq_on rfl ?_; refine rq_v (op_pure rfl) ?_)
      first | refine rq_off rfl ?_ | (refine rq_on rfl ?_; refine rq_v (op_idx Try.underlying22 Try.sizeOf2 rfl rfl sa_out (by omega) (by omega)) ?_)
      first | refine rq_off rfl ?_ | (refine rq_on rfl ?_; refine rq_r (fun wq hq => op_ldR Try.underlying2 rfl rfl ((S.gr hq).rd (i := 0) rfl) hgj) ?_)
      first | refine rq_off rfl ?_ | (refine rq_on rfl ?_; refine rq_v (op_pure rfl) ?_)
      first | refine rq_off rfl ?_ | (refine rq_on rfl ?_; refine rq_v (op_pure rfl) ?_)
      first | refine rq_off rfl ?_ | (refine rq_on rfl ?_; refine rq_v (op_idx Try.underlying22 Try.sizeOf2 rfl rfl sa_A (by omega) (by omega)) ?_)
      first | refine rq_off rfl ?_ | (refine rq_on rfl ?_; refine rq_r (fun wq hq => op_ldR Try.underlying2 rfl rfl (hA.gr (S.gr hq).out) hlx) ?_)
      first | refine rq_off rfl ?_ | (refine rq_on rfl ?_; refine rq_v (op_b (b := true) rfl (decide_eq_true (by omega))) ?_)
      refine rq_v (op_pure rfl) ?_
      refine rq_nil ?_
      intro w3_ g3_
      have S := S.gr g3_
      first | refine rw_end ?_ | (refine rw_nil ?_; show CW _ _ _ _ _ _) | refine rw_nil ?_
      repeat refine cw_seq ?_
      refine cw_true rfl ?_
      repeat refine cw_seq ?_
      refine cw_skip ?_
      try show CW _ _ _ _ _ _
      repeat refine cw_seq ?_
      refine cw_block ?_
      repeat refine cw_seq ?_
      refine cw_region ?_
      refine rw_v (op_pure rfl) ?_
      refine rw_v (op_rng rfl (by omega)) ?_
      refine rw_v (op_pure rfl) ?_
      first | refine rw_end ?_ | (refine rw_nil ?_; show CW _ _ _ _ _ _) | refine rw_nil ?_
      exact ⟨m2 - 1, by omega, j + 1, by omega, ⟨rfl, rfl, rfl, ie (by omega), trivial⟩, S⟩
    · have ejT : j = T := by omega
      subst ejT
      have hno : ∀ y, l[j]? = some y → ¬ y < x := fun y hy h => hjT ((hlt j (by omega)).2 ⟨y, hy, h⟩)
      have hcap := (S.row (i := 0) rfl).cap
      have hnil : A2 = none → c2 = 0 := fun h => by
        rcases (S.row (i := 0) rfl).form with ⟨_, _, h2, _⟩ | ⟨g, _, h2, _⟩
        · exact h2
        · rw [h] at h2; cases h2
      have htk1 : ((ints l).take (j * 1)).all (fun v => v.oneCell') = true := by rw [Nat.mul_one]; unfold ints; rw [← List.map_take]; exact ints_ones _
      have hdr1 : ((ints l).drop (j * 1)).all (fun v => v.oneCell') = true := by rw [Nat.mul_one]; unfold ints; rw [← List.map_drop]; exact ints_ones _
      by_cases hx0 : x = 0
      · rw [if_pos (.inl hx0)] at hsucc
        by_cases hjl : j < l.length
        · have hge := hno _ (hgs j hjl)
          have hgj := hgl j hjl
          have sa_out : SomeA A2 := (S.row (i := 0) rfl).someA (by omega)
          repeat refine cw_seq ?_
          refine cw_draw (C := fun wq => Gr w wq) [0, 1, 2, 3, 4, 5, 6, 7, 8, 9, 10, 11, 12, 13, 14] [] (by kernel_rfl) (by kernel_rfl) (Gr.drew _) ?_
          simp only [pickL, List.drop_succ_cons, List.drop_zero]
          iterate 2 refine rq_v (op_pure rfl) ?_
          refine rq_v (op_len Try.underlying22 rfl) ?_
          refine rq_v (op_b (b := true) rfl (decide_eq_true (by omega))) ?_
          refine rq_v (op_pure rfl) ?_
          first | refine rq_off rfl ?_ | (refine rq_on rfl ?_; refine rq_v (op_pure rfl) ?_)
          first | refine rq_off rfl ?_ | (refine rq_on rfl ?_; refine rq_v (op_pure rfl) ?_)
          first | refine rq_off rfl ?_ | (refine rq_on rfl ?_; refine rq_v (op_idx Try.underlying22 Try.sizeOf2 rfl rfl sa_out (by omega) (by omega)) ?_)
          first | refine rq_off rfl ?_ | (refine rq_on rfl ?_; refine rq_r (fun wq hq => op_ldR Try.underlying2 rfl rfl ((S.gr hq).rd (i := 0) rfl) hgj) ?_)
          first | refine rq_off rfl ?_ | (refine rq_on rfl ?_; refine rq_v (op_pure rfl) ?_)
          first | refine rq_off rfl ?_ | (refine rq_on rfl ?_; refine rq_v (op_pure rfl) ?_)
          first | refine rq_off rfl ?_ | (refine rq_on rfl ?_; refine rq_v (op_idx Try.underlying22 Try.sizeOf2 rfl rfl sa_A (by omega) (by omega)) ?_)
          first | refine rq_off rfl ?_ | (refine rq_on rfl ?_; refine rq_r (fun wq hq => op_ldR Try.underlying2 rfl rfl (hA.gr (S.gr hq).out) hlx) ?_)
          first | refine rq_off rfl ?_ | (refine rq_on rfl ?_; refine rq_v (op_b (b := false) rfl (decide_eq_false (by omega))) ?_)
          refine rq_v (op_pure rfl) ?_
          refine rq_nil ?_
          intro w4_ g4_
          have S := S.gr g4_
          first | refine rw_end ?_ | (refine rw_nil ?_; show CW _ _ _ _ _ _) | refine rw_nil ?_
          repeat refine cw_seq ?_
          refine cw_false rfl ?_
          repeat refine cw_seq ?_
          refine cw_exit ?_
          repeat first | refine exit_then ?_ | refine exit_inb ?_
          show CW _ _ _ _ _ _
          repeat refine cw_seq ?_
          refine cw_draw (C := fun wq => Gr w4_ wq) [0, 1, 2, 3, 4, 5, 6, 7, 8, 9, 10, 11, 12, 13, 14, 15, 16, 17, 18, 19, 20, 21] [] (by kernel_rfl) (by kernel_rfl) (Gr.drew _) ?_
          simp only [pickL, List.drop_succ_cons, List.drop_zero]
          iterate 2 refine rq_v (op_pure rfl) ?_
          refine rq_v (op_idx Try.underlying22 Try.sizeOf2 rfl rfl sa_A (by omega) (by omega)) ?_
          refine rq_r (fun wq hq => op_ldR Try.underlying2 rfl rfl (hA.gr (S.gr hq).out) hlx) ?_
          refine rq_v (op_b (b := true) rfl (beq_iff_eq.2 (by omega))) ?_
          refine rq_v (op_pure rfl) ?_
          first | refine rq_off rfl ?_ | (refine rq_on rfl ?_; refine rq_v (op_pure rfl) ?_)
          first | refine rq_off rfl ?_ | (refine rq_on rfl ?_; refine rq_v (op_pure rfl) ?_)
          first | refine rq_off rfl ?_ | (refine rq_on rfl ?_; refine rq_v (op_len Try.underlying22 rfl) ?_)
          first | refine rq_off rfl ?_ | (refine rq_on rfl ?_; (first | refine rq_v (op_b (b := true) rfl (decide_eq_true (by omega))) ?_ | refine rq_v (op_b (b := false) rfl (decide_eq_false (by omega))) ?_ | refine rq_v (op_pure rfl) ?_))
          first | refine rq_off rfl ?_ | (refine rq_on rfl ?_; refine rq_v (op_pure rfl) ?_)
          first | refine rq_off rfl ?_ | (refine rq_on rfl ?_; refine rq_v (op_pure rfl) ?_)
          first | refine rq_off rfl ?_ | (refine rq_on rfl ?_; refine rq_v (op_pure rfl) ?_)
          first | refine rq_off rfl ?_ | (refine rq_on rfl ?_; refine rq_v (op_idx Try.underlying22 Try.sizeOf2 rfl rfl sa_out (by omega) (by omega)) ?_)
          first | refine rq_off rfl ?_ | (refine rq_on rfl ?_; refine rq_r (fun wq hq => op_ldR Try.underlying2 rfl rfl ((S.gr hq).rd (i := 0) rfl) (by assumption)) ?_)
          first | refine rq_off rfl ?_ | (refine rq_on rfl ?_; refine rq_v (op_pure rfl) ?_)
          first | refine rq_off rfl ?_ | (refine rq_on rfl ?_; refine rq_v (op_pure rfl) ?_)
          first | refine rq_off rfl ?_ | (refine rq_on rfl ?_; refine rq_v (op_idx Try.underlying22 Try.sizeOf2 rfl rfl sa_A (by omega) (by omega)) ?_)
          first | refine rq_off rfl ?_ | (refine rq_on rfl ?_; refine rq_r (fun wq hq => op_ldR Try.underlying2 rfl rfl (hA.gr (S.gr hq).out) (by assumption)) ?_)
          first | refine rq_off rfl ?_ | (refine rq_on rfl ?_; (first | refine rq_v (op_b (b := true) rfl (beq_iff_eq.2 (by omega))) ?_ | refine rq_v (op_b (b := false) rfl (beq_eq_false_iff_ne.2 (by omega))) ?_ | refine rq_v (op_pure rfl) ?_))
          first | refine rq_off rfl ?_ | (refine rq_on rfl ?_; refine rq_v (op_pure rfl) ?_)
          refine rq_v (op_pure rfl) ?_
          refine rq_nil ?_
          intro w5_ g5_
          have S := S.gr g5_
          first | refine rw_end ?_ | (refine rw_nil ?_; show CW _ _ _ _ _ _) | refine rw_nil ?_
          repeat refine cw_seq ?_
          refine cw_true rfl ?_
          repeat refine cw_seq ?_
          refine cw_exit ?_
          repeat first | refine exit_then ?_ | refine exit_inb ?_
          show CW _ _ _ _ _ _
          repeat refine cw_seq ?_
          refine cw_region ?_
          refine rw_v (op_pure rfl) ?_
          refine rw_v (op_rng rfl (by omega)) ?_
          refine rw_v (op_pure rfl) ?_
          first | refine rw_end ?_ | (refine rw_nil ?_; show CW _ _ _ _ _ _) | refine rw_nil ?_
          exact ⟨m - 1, by omega, k + 1, A2, c2, by omega, ⟨rfl, by rw [hl2, hsucc]; rfl, ie (by omega), trivial⟩, by rw [hl2, hsucc]; exact S⟩
        · skip
          repeat refine cw_seq ?_
          refine cw_draw (C := fun wq => Gr w wq) [0, 1, 2, 3, 4, 5, 6, 7, 8, 9, 10, 11, 12, 13, 14] [] (by kernel_rfl) (by kernel_rfl) (Gr.drew _) ?_
          simp only [pickL, List.drop_succ_cons, List.drop_zero]
          iterate 2 refine rq_v (op_pure rfl) ?_
          refine rq_v (op_len Try.underlying22 rfl) ?_
          refine rq_v (op_b (b := false) rfl (decide_eq_false (by omega))) ?_
          refine rq_v (op_pure rfl) ?_
          first | refine rq_off rfl ?_ | (refine rq_on rfl ?_; refine rq_v (op_pure rfl) ?_)
          first | refine rq_off rfl ?_ | (refine rq_on rfl ?_; refine rq_v (op_pure rfl) ?_)
          first | refine rq_off rfl ?_ | (refine rq_on rfl ?_; refine rq_v (op_idx Try.underlying22 Try.sizeOf2 rfl rfl sa_out (by omega) (by omega)) ?_)
          first | refine rq_off rfl ?_ | (refine rq_on rfl ?_; refine rq_r (fun wq hq => op_ldR Try.underlying2 rfl rfl ((S.gr hq).rd (i := 0) rfl) (by assumption)) ?_)
          first | refine rq_off rfl ?_ | (refine rq_on rfl ?_; refine rq_v (op_pure rfl) ?_)
          first | refine rq_off rfl ?_ | (refine rq_on rfl ?_; refine rq_v (op_pure rfl) ?_)
          first | refine rq_off rfl ?_ | (refine rq_on rfl ?_; refine rq_v (op_idx Try.underlying22 Try.sizeOf2 rfl rfl sa_A (by omega) (by omega)) ?_)
          first | refine rq_off rfl ?_ | (refine rq_on rfl ?_; refine rq_r (fun wq hq => op_ldR Try.underlying2 rfl rfl (hA.gr (S.gr hq).out) (by assumption)) ?_)
          refine rq_off rfl ?_
          refine rq_v (op_pure rfl) ?_
          refine rq_nil ?_
          intro w6_ g6_
          have S := S.gr g6_
          first | refine rw_end ?_ | (refine rw_nil ?_; show CW _ _ _ _ _ _) | refine rw_nil ?_
          repeat refine cw_seq ?_
          refine cw_false rfl ?_
          repeat refine cw_seq ?_
          refine cw_exit ?_
          repeat first | refine exit_then ?_ | refine exit_inb ?_
          show CW _ _ _ _ _ _
          repeat refine cw_seq ?_
          refine cw_draw (C := fun wq => Gr w6_ wq) [0, 1, 2, 3, 4, 5, 6, 7, 8, 9, 10, 11, 12, 13, 14, 15, 16, 17, 18, 19, 20, 21] [] (by kernel_rfl) (by kernel_rfl) (Gr.drew _) ?_
          simp only [pickL, List.drop_succ_cons, List.drop_zero]
          iterate 2 refine rq_v (op_pure rfl) ?_
          refine rq_v (op_idx Try.underlying22 Try.sizeOf2 rfl rfl sa_A (by omega) (by omega)) ?_
          refine rq_r (fun wq hq => op_ldR Try.underlying2 rfl rfl (hA.gr (S.gr hq).out) hlx) ?_
          refine rq_v (op_b (b := true) rfl (beq_iff_eq.2 (by omega))) ?_
          refine rq_v (op_pure rfl) ?_
          first | refine rq_off rfl ?_ | (refine rq_on rfl ?_; refine rq_v (op_pure rfl) ?_)
          first | refine rq_off rfl ?_ | (refine rq_on rfl ?_; refine rq_v (op_pure rfl) ?_)
          first | refine rq_off rfl ?_ | (refine rq_on rfl ?_; refine rq_v (op_len Try.underlying22 rfl) ?_)
          first | refine rq_off rfl ?_ | (refine rq_on rfl ?_; (first | refine rq_v (op_b (b := true) rfl (decide_eq_true (by omega))) ?_ | refine rq_v (op_b (b := false) rfl (decide_eq_false (by omega))) ?_ | refine rq_v (op_pure rfl) ?_))
          first | refine rq_off rfl ?_ | (refine rq_on rfl ?_; refine rq_v (op_pure rfl) ?_)
          first | refine rq_off rfl ?_ | (refine rq_on rfl ?_; refine rq_v (op_pure rfl) ?_)
          first | refine rq_off rfl ?_ | (refine rq_on rfl ?_; refine rq_v (op_pure rfl) ?_)
          first | refine rq_off rfl ?_ | (refine rq_on rfl ?_; refine rq_v (op_idx Try.underlying22 Try.sizeOf2 rfl rfl sa_out (by omega) (by omega)) ?_)
          first | refine rq_off rfl ?_ | (refine rq_on rfl ?_; refine rq_r (fun wq hq => op_ldR Try.underlying2 rfl rfl ((S.gr hq).rd (i := 0) rfl) (by assumption)) ?_)
          first | refine rq_off rfl ?_ | (refine rq_on rfl ?_; refine rq_v (op_pure rfl) ?_)
          first | refine rq_off rfl ?_ | (refine rq_on rfl ?_; refine rq_v (op_pure rfl) ?_)
          first | refine rq_off rfl ?_ | (refine rq_on rfl ?_; refine rq_v (op_idx Try.underlying22 Try.sizeOf2 rfl rfl sa_A (by omega) (by omega)) ?_)
          first | refine rq_off rfl ?_ | (refine rq_on rfl ?_; refine rq_r (fun wq hq => op_ldR Try.underlying2 rfl rfl (hA.gr (S.gr hq).out) (by assumption)) ?_)
          first | refine rq_off rfl ?_ | (refine rq_on rfl ?_; (first | refine rq_v (op_b (b := true) rfl (beq_iff_eq.2 (by omega))) ?_ | refine rq_v (op_b (b := false) rfl (beq_eq_false_iff_ne.2 (by omega))) ?_ | refine rq_v (op_pure rfl) ?_))
          first | refine rq_off rfl ?_ | (refine rq_on rfl ?_; refine rq_v (op_pure rfl) ?_)
          refine rq_v (op_pure rfl) ?_
          refine rq_nil ?_
          intro w7_ g7_
          have S := S.gr g7_
          first | refine rw_end ?_ | (refine rw_nil ?_; show CW _ _ _ _ _ _) | refine rw_nil ?_
          repeat refine cw_seq ?_
          refine cw_true rfl ?_
          repeat refine cw_seq ?_
          refine cw_exit ?_
          repeat first | refine exit_then ?_ | refine exit_inb ?_
          show CW _ _ _ _ _ _
          repeat refine cw_seq ?_
          refine cw_region ?_
          refine rw_v (op_pure rfl) ?_
          refine rw_v (op_rng rfl (by omega)) ?_
          refine rw_v (op_pure rfl) ?_
          first | refine rw_end ?_ | (refine rw_nil ?_; show CW _ _ _ _ _ _) | refine rw_nil ?_
          exact ⟨m - 1, by omega, k + 1, A2, c2, by omega, ⟨rfl, by rw [hl2, hsucc]; rfl, ie (by omega), trivial⟩, by rw [hl2, hsucc]; exact S⟩
      · by_cases hjl : j < l.length
        · have hge := hno _ (hgs j hjl)
          have hgj := hgl j hjl
          have hgsj := hgs j hjl
          have sa_out : SomeA A2 := (S.row (i := 0) rfl).someA (by omega)
          by_cases hex : l.getD j 0 = x
          · rw [if_pos (.inr (by rw [hgsj, hex]))] at hsucc
            repeat refine cw_seq ?_
            refine cw_draw (C := fun wq => Gr w wq) [0, 1, 2, 3, 4, 5, 6, 7, 8, 9, 10, 11, 12, 13, 14] [] (by kernel_rfl) (by kernel_rfl) (Gr.drew _) ?_
            simp only [pickL, List.drop_succ_cons, List.drop_zero]
            iterate 2 refine rq_v (op_pure rfl) ?_
            refine rq_v (op_len Try.underlying22 rfl) ?_
            refine rq_v (op_b (b := true) rfl (decide_eq_true (by omega))) ?_
            refine rq_v (op_pure rfl) ?_
            first | refine rq_off rfl ?_ | (refine rq_on rfl ?_; refine rq_v (op_pure rfl) ?_)
            first | refine rq_off rfl ?_ | (refine rq_on rfl ?_; refine rq_v (op_pure rfl) ?_)
            first | refine rq_off rfl ?_ | (refine rq_on rfl ?_; refine rq_v (op_idx Try.underlying22 Try.sizeOf2 rfl rfl sa_out (by omega) (by omega)) ?_)
            first | refine rq_off rfl ?_ | (refine rq_on rfl ?_; refine rq_r (fun wq hq => op_ldR Try.underlying2 rfl rfl ((S.gr hq).rd (i := 0) rfl) hgj) ?_)
            first | refine rq_off rfl ?_ | (refine rq_on rfl ?_; refine rq_v (op_pure rfl) ?_)
            first | refine rq_off rfl ?_ | (refine rq_on rfl ?_; refine rq_v (op_pure rfl) ?_)
            first | refine rq_off rfl ?_ | (refine rq_on rfl ?_; refine rq_v (op_idx Try.underlying22 Try.sizeOf2 rfl rfl sa_A (by omega) (by omega)) ?_)
            first | refine rq_off rfl ?_ | (refine rq_on rfl ?_; refine rq_r (fun wq hq => op_ldR Try.underlying2 rfl rfl (hA.gr (S.gr hq).out) hlx) ?_)
            first | refine rq_off rfl ?_ | (refine rq_on rfl ?_; refine rq_v (op_b (b := false) rfl (decide_eq_false (by omega))) ?_)
            refine rq_v (op_pure rfl) ?_
            refine rq_nil ?_
            intro w8_ g8_
            have S := S.gr g8_
            first | refine rw_end ?_ | (refine rw_nil ?_; show CW _ _ _ _ _ _) | refine rw_nil ?_
            repeat refine cw_seq ?_
            refine cw_false rfl ?_
            repeat refine cw_seq ?_
            refine cw_exit ?_
            repeat first | refine exit_then ?_ | refine exit_inb ?_
            show CW _ _ _ _ _ _
            repeat refine cw_seq ?_
            refine cw_draw (C := fun wq => Gr w8_ wq) [0, 1, 2, 3, 4, 5, 6, 7, 8, 9, 10, 11, 12, 13, 14, 15, 16, 17, 18, 19, 20, 21] [] (by kernel_rfl) (by kernel_rfl) (Gr.drew _) ?_
            simp only [pickL, List.drop_succ_cons, List.drop_zero]
            iterate 2 refine rq_v (op_pure rfl) ?_
            refine rq_v (op_idx Try.underlying22 Try.sizeOf2 rfl rfl sa_A (by omega) (by omega)) ?_
            refine rq_r (fun wq hq => op_ldR Try.underlying2 rfl rfl (hA.gr (S.gr hq).out) hlx) ?_
            refine rq_v (op_b (b := false) rfl (beq_eq_false_iff_ne.2 (by omega))) ?_
            refine rq_v (op_pure rfl) ?_
            first | refine rq_off rfl ?_ | (refine rq_on rfl ?_; refine rq_v (op_pure rfl) ?_)
            first | refine rq_off rfl ?_ | (refine rq_on rfl ?_; refine rq_v (op_pure rfl) ?_)
            first | refine rq_off rfl ?_ | (refine rq_on rfl ?_; refine rq_v (op_len Try.underlying22 rfl) ?_)
            first | refine rq_off rfl ?_ | (refine rq_on rfl ?_; refine rq_v (op_b (b := true) rfl (decide_eq_true (by omega))) ?_)
            first | refine rq_off rfl ?_ | (refine rq_on rfl ?_; refine rq_v (op_pure rfl) ?_)
            first | refine rq_off rfl ?_ | (refine rq_on rfl ?_; refine rq_v (op_pure rfl) ?_)
            first | refine rq_off rfl ?_ | (refine rq_on rfl ?_; refine rq_v (op_pure rfl) ?_)
            first | refine rq_off rfl ?_ | (refine rq_on rfl ?_; refine rq_v (op_idx Try.underlying22 Try.sizeOf2 rfl rfl sa_out (by omega) (by omega)) ?_)
            first | refine rq_off rfl ?_ | (refine rq_on rfl ?_; refine rq_r (fun wq hq => op_ldR Try.underlying2 rfl rfl ((S.gr hq).rd (i := 0) rfl) hgj) ?_)
            first | refine rq_off rfl ?_ | (refine rq_on rfl ?_; refine rq_v (op_pure rfl) ?_)
            first | refine rq_off rfl ?_ | (refine rq_on rfl ?_; refine rq_v (op_pure rfl) ?_)
            first | refine rq_off rfl ?_ | (refine rq_on rfl ?_; refine rq_v (op_idx Try.underlying22 Try.sizeOf2 rfl rfl sa_A (by omega) (by omega)) ?_)
            first | refine rq_off rfl ?_ | (refine rq_on rfl ?_; refine rq_r (fun wq hq => op_ldR Try.underlying2 rfl rfl (hA.gr (S.gr hq).out) hlx) ?_)
            first | refine rq_off rfl ?_ | (refine rq_on rfl ?_; refine rq_v (op_b (b := true) rfl (beq_iff_eq.2 (by omega))) ?_)
            first | refine rq_off rfl ?_ | (refine rq_on rfl ?_; refine rq_v (op_pure rfl) ?_)
            refine rq_v (op_pure rfl) ?_
            refine rq_nil ?_
            intro w9_ g9_
            have S := S.gr g9_
            first | refine rw_end ?_ | (refine rw_nil ?_; show CW _ _ _ _ _ _) | refine rw_nil ?_
            repeat refine cw_seq ?_
            refine cw_true rfl ?_
            repeat refine cw_seq ?_
            refine cw_exit ?_
            repeat first | refine exit_then ?_ | refine exit_inb ?_
            show CW _ _ _ _ _ _
            repeat refine cw_seq ?_
            refine cw_region ?_
            refine rw_v (op_pure rfl) ?_
            refine rw_v (op_rng rfl (by omega)) ?_
            refine rw_v (op_pure rfl) ?_
            first | refine rw_end ?_ | (refine rw_nil ?_; show CW _ _ _ _ _ _) | refine rw_nil ?_
            exact ⟨m - 1, by omega, k + 1, A2, c2, by omega, ⟨rfl, by rw [hl2, hsucc]; rfl, ie (by omega), trivial⟩, by rw [hl2, hsucc]; exact S⟩
          · rw [if_neg (fun h => h.elim hx0 (fun h => hex (by rw [hgsj] at h; injection h)))] at hsucc
            have hfin := hsucc
            repeat refine cw_seq ?_
            refine cw_draw (C := fun wq => Gr w wq) [0, 1, 2, 3, 4, 5, 6, 7, 8, 9, 10, 11, 12, 13, 14] [] (by kernel_rfl) (by kernel_rfl) (Gr.drew _) ?_
            simp only [pickL, List.drop_succ_cons, List.drop_zero]
            iterate 2 refine rq_v (op_pure rfl) ?_
            refine rq_v (op_len Try.underlying22 rfl) ?_
            refine rq_v (op_b (b := true) rfl (decide_eq_true (by omega))) ?_
            refine rq_v (op_pure rfl) ?_
            first | refine rq_off rfl ?_ | (refine rq_on rfl ?_; refine rq_v (op_pure rfl) ?_)
            first | refine rq_off rfl ?_ | (refine rq_on rfl ?_; refine rq_v (op_pure rfl) ?_)
            first | refine rq_off rfl ?_ | (refine rq_on rfl ?_; refine rq_v (op_idx Try.underlying22 Try.sizeOf2 rfl rfl sa_out (by omega) (by omega)) ?_)
            first | refine rq_off rfl ?_ | (refine rq_on rfl ?_; refine rq_r (fun wq hq => op_ldR Try.underlying2 rfl rfl ((S.gr hq).rd (i := 0) rfl) hgj) ?_)
            first | refine rq_off rfl ?_ | (refine rq_on rfl ?_; refine rq_v (op_pure rfl) ?_)
            first | refine rq_off rfl ?_ | (refine rq_on rfl ?_; refine rq_v (op_pure rfl) ?_)
            first | refine rq_off rfl ?_ | (refine rq_on rfl ?_; refine rq_v (op_idx Try.underlying22 Try.sizeOf2 rfl rfl sa_A (by omega) (by omega)) ?_)
            first | refine rq_off rfl ?_ | (refine rq_on rfl ?_; refine rq_r (fun wq hq => op_ldR Try.underlying2 rfl rfl (hA.gr (S.gr hq).out) hlx) ?_)
            first | refine rq_off rfl ?_ | (refine rq_on rfl ?_; refine rq_v (op_b (b := false) rfl (decide_eq_false (by omega))) ?_)
            refine rq_v (op_pure rfl) ?_
            refine rq_nil ?_
            intro w10_ g10_
            have S := S.gr g10_
            first | refine rw_end ?_ | (refine rw_nil ?_; show CW _ _ _ _ _ _) | refine rw_nil ?_
            repeat refine cw_seq ?_
            refine cw_false rfl ?_
            repeat refine cw_seq ?_
            refine cw_exit ?_
            repeat first | refine exit_then ?_ | refine exit_inb ?_
            show CW _ _ _ _ _ _
            repeat refine cw_seq ?_
            refine cw_draw (C := fun wq => Gr w10_ wq) [0, 1, 2, 3, 4, 5, 6, 7, 8, 9, 10, 11, 12, 13, 14, 15, 16, 17, 18, 19, 20, 21] [] (by kernel_rfl) (by kernel_rfl) (Gr.drew _) ?_
            simp only [pickL, List.drop_succ_cons, List.drop_zero]
            iterate 2 refine rq_v (op_pure rfl) ?_
            refine rq_v (op_idx Try.underlying22 Try.sizeOf2 rfl rfl sa_A (by omega) (by omega)) ?_
            refine rq_r (fun wq hq => op_ldR Try.underlying2 rfl rfl (hA.gr (S.gr hq).out) hlx) ?_
            refine rq_v (op_b (b := false) rfl (beq_eq_false_iff_ne.2 (by omega))) ?_
            refine rq_v (op_pure rfl) ?_
            first | refine rq_off rfl ?_ | (refine rq_on rfl ?_; refine rq_v (op_pure rfl) ?_)
            first | refine rq_off rfl ?_ | (refine rq_on rfl ?_; refine rq_v (op_pure rfl) ?_)
            first | refine rq_off rfl ?_ | (refine rq_on rfl ?_; refine rq_v (op_len Try.underlying22 rfl) ?_)
            first | refine rq_off rfl ?_ | (refine rq_on rfl ?_; refine rq_v (op_b (b := true) rfl (decide_eq_true (by omega))) ?_)
            first | refine rq_off rfl ?_ | (refine rq_on rfl ?_; refine rq_v (op_pure rfl) ?_)
            first | refine rq_off rfl ?_ | (refine rq_on rfl ?_; refine rq_v (op_pure rfl) ?_)
            first | refine rq_off rfl ?_ | (refine rq_on rfl ?_; refine rq_v (op_pure rfl) ?_)
            first | refine rq_off rfl ?_ | (refine rq_on rfl ?_; refine rq_v (op_idx Try.underlying22 Try.sizeOf2 rfl rfl sa_out (by omega) (by omega)) ?_)
            first | refine rq_off rfl ?_ | (refine rq_on rfl ?_; refine rq_r (fun wq hq => op_ldR Try.underlying2 rfl rfl ((S.gr hq).rd (i := 0) rfl) hgj) ?_)
            first | refine rq_off rfl ?_ | (refine rq_on rfl ?_; refine rq_v (op_pure rfl) ?_)
            first | refine rq_off rfl ?_ | (refine rq_on rfl ?_; refine rq_v (op_pure rfl) ?_)
            first | refine rq_off rfl ?_ | (refine rq_on rfl ?_; refine rq_v (op_idx Try.underlying22 Try.sizeOf2 rfl rfl sa_A (by omega) (by omega)) ?_)
            first | refine rq_off rfl ?_ | (refine rq_on rfl ?_; refine rq_r (fun wq hq => op_ldR Try.underlying2 rfl rfl (hA.gr (S.gr hq).out) hlx) ?_)
            first | refine rq_off rfl ?_ | (refine rq_on rfl ?_; refine rq_v (op_b (b := false) rfl (beq_eq_false_iff_ne.2 (by omega))) ?_)
            first | refine rq_off rfl ?_ | (refine rq_on rfl ?_; refine rq_v (op_pure rfl) ?_)
            refine rq_v (op_pure rfl) ?_
            refine rq_nil ?_
            intro w11_ g11_
            have S := S.gr g11_
            first | refine rw_end ?_ | (refine rw_nil ?_; show CW _ _ _ _ _ _) | refine rw_nil ?_
            repeat refine cw_seq ?_
            refine cw_false rfl ?_
            repeat refine cw_seq ?_
            refine cw_skip ?_
            try show CW _ _ _ _ _ _
            repeat refine cw_seq ?_
            refine cw_region ?_
            refine rw_buildS0 Try.underlying22 Try.sizeOf2 S ?_
            intro A_nx w13_ g13_ S sa_nx
            iterate 2 refine rw_v (op_pure rfl) ?_
            refine rw_v (op_slice_h Try.underlying22 Try.sizeOf2 rfl rfl (by omega) (by omega)) ?_
            rw [Int.toNat_natCast]
            refine rw_appZ (i := 0) (m := j) (ys := (ints l).take (j * 1)) S rfl (fun h => rfl) Try.underlying22 info_t2 rfl rfl rfl rfl (by rw [List.length_take, ints_len]; omega) hnil ((S.rd (i := 1) rfl).takeZ _) htk1 (by omega) ?_
            intro A6 c6 w6 S
            rw [Nat.zero_add, List.nil_append] at S
            rw [Nat.zero_add]
            refine rw_v (op_pure rfl) ?_
            first | refine rw_end ?_ | (refine rw_nil ?_; show CW _ _ _ _ _ _) | refine rw_nil ?_
            repeat refine cw_seq ?_
            refine cw_region ?_
            iterate 3 refine rw_v (op_pure rfl) ?_
            refine rw_v (op_idx Try.underlying22 Try.sizeOf2 rfl rfl sa_A (by omega) (by omega)) ?_
            refine rw_r (op_ldR Try.underlying2 rfl rfl (hA.gr S.out) hlx) ?_
            refine rw_buildS Try.underlying22 Try.sizeOf2 Try.zeroValue2 rfl rfl rfl rfl rfl rfl S ?_
            intro A_a1 w15_ g15_ S sa_a1
            refine rw_appS (i := 1) S rfl (fun h => rfl) Try.underlying22 info_t2 rfl rfl rfl rfl (by simp) (by omega) (S.rd (i := 0) rfl) rfl (by omega) ?_
            intro A_nx2 c_nx2 w16_ S sa_nx
            refine rw_v (op_pure rfl) ?_
            first | refine rw_end ?_ | (refine rw_nil ?_; show CW _ _ _ _ _ _) | refine rw_nil ?_
            repeat refine cw_seq ?_
            refine cw_region ?_
            iterate 3 refine rw_v (op_pure rfl) ?_
            obtain ⟨B, cB, hop, hRB, hnB⟩ := op_fromZ (P := Try.prog) (m := j) Try.underlying22 Try.sizeOf2 (S.row (i := 2) rfl) (by omega)
            refine rw_v (hop _ _ _ _ _ _ _ _ rfl rfl) ?_
            refine rw_appZ (i := 1) (m := l.length - j) (ys := (ints l).drop (j * 1)) S rfl (fun h => rfl) Try.underlying22 info_t2 rfl rfl rfl rfl (by rw [List.length_drop, ints_len]; omega) hnB hRB hdr1 (by omega) ?_
            intro A9 c9 w9 S
            refine rw_v (op_pure rfl) ?_
            first | refine rw_end ?_ | (refine rw_nil ?_; show CW _ _ _ _ _ _) | refine rw_nil ?_
            repeat refine cw_seq ?_
            refine cw_region ?_
            refine rw_v (op_pure rfl) ?_
            refine rw_v (op_rng rfl (by omega)) ?_
            refine rw_v (op_pure rfl) ?_
            first | refine rw_end ?_ | (refine rw_nil ?_; show CW _ _ _ _ _ _) | refine rw_nil ?_
            have e1 : (ints l).take (j * 1) ++ [Value.int .i64 x] ++ (ints l).drop (j * 1) = ints l2 := by rw [hfin, Nat.mul_one]; simp [ints]
            have e2 : j + 1 + (l.length - j) = l2.length := by rw [hfin]; simp; omega
            rw [e1, e2] at S
            exact ⟨m - 1, by omega, k + 1, A9, c9, by omega, ⟨rfl, by rw [hl2, ← e2]; rfl, ie (by omega), trivial⟩, by rw [hl2]; exact (S.drop 1).only (i := 0) rfl⟩
        · rw [if_neg (fun h => h.elim hx0 (fun h => by have := (List.getElem?_eq_some_iff.1 h).1; omega))] at hsucc
          have hfin := hsucc
          repeat refine cw_seq ?_
          refine cw_draw (C := fun wq => Gr w wq) [0, 1, 2, 3, 4, 5, 6, 7, 8, 9, 10, 11, 12, 13, 14] [] (by kernel_rfl) (by kernel_rfl) (Gr.drew _) ?_
          simp only [pickL, List.drop_succ_cons, List.drop_zero]
          iterate 2 refine rq_v (op_pure rfl) ?_
          refine rq_v (op_len Try.underlying22 rfl) ?_
          refine rq_v (op_b (b := false) rfl (decide_eq_false (by omega))) ?_
          refine rq_v (op_pure rfl) ?_
          first | refine rq_off rfl ?_ | (refine rq_on rfl ?_; refine rq_v (op_pure rfl) ?_)
          first | refine rq_off rfl ?_ | (refine rq_on rfl ?_; refine rq_v (op_pure rfl) ?_)
          first | refine rq_off rfl ?_ | (refine rq_on rfl ?_; refine rq_v (op_idx Try.underlying22 Try.sizeOf2 rfl rfl sa_out (by omega) (by omega)) ?_)
          first | refine rq_off rfl ?_ | (refine rq_on rfl ?_; refine rq_r (fun wq hq => op_ldR Try.underlying2 rfl rfl ((S.gr hq).rd (i := 0) rfl) (by assumption)) ?_)
          first | refine rq_off rfl ?_ | (refine rq_on rfl ?_; refine rq_v (op_pure rfl) ?_)
          first | refine rq_off rfl ?_ | (refine rq_on rfl ?_; refine rq_v (op_pure rfl) ?_)
          first | refine rq_off rfl ?_ | (refine rq_on rfl ?_; refine rq_v (op_idx Try.underlying22 Try.sizeOf2 rfl rfl sa_A (by omega) (by omega)) ?_)
          first | refine rq_off rfl ?_ | (refine rq_on rfl ?_; refine rq_r (fun wq hq => op_ldR Try.underlying2 rfl rfl (hA.gr (S.gr hq).out) (by assumption)) ?_)
          refine rq_off rfl ?_
          refine rq_v (op_pure rfl) ?_
          refine rq_nil ?_
          intro w17_ g17_
          have S := S.gr g17_
          first | refine rw_end ?_ | (refine rw_nil ?_; show CW _ _ _ _ _ _) | refine rw_nil ?_
          repeat refine cw_seq ?_
          refine cw_false rfl ?_
          repeat refine cw_seq ?_
          refine cw_exit ?_
          repeat first | refine exit_then ?_ | refine exit_inb ?_
          show CW _ _ _ _ _ _
          repeat refine cw_seq ?_
          refine cw_draw (C := fun wq => Gr w17_ wq) [0, 1, 2, 3, 4, 5, 6, 7, 8, 9, 10, 11, 12, 13, 14, 15, 16, 17, 18, 19, 20, 21] [] (by kernel_rfl) (by kernel_rfl) (Gr.drew _) ?_
          simp only [pickL, List.drop_succ_cons, List.drop_zero]
          iterate 2 refine rq_v (op_pure rfl) ?_
          refine rq_v (op_idx Try.underlying22 Try.sizeOf2 rfl rfl sa_A (by omega) (by omega)) ?_
          refine rq_r (fun wq hq => op_ldR Try.underlying2 rfl rfl (hA.gr (S.gr hq).out) hlx) ?_
          refine rq_v (op_b (b := false) rfl (beq_eq_false_iff_ne.2 (by omega))) ?_
          refine rq_v (op_pure rfl) ?_
          first | refine rq_off rfl ?_ | (refine rq_on rfl ?_; refine rq_v (op_pure rfl) ?_)
          first | refine rq_off rfl ?_ | (refine rq_on rfl ?_; refine rq_v (op_pure rfl) ?_)
          first | refine rq_off rfl ?_ | (refine rq_on rfl ?_; refine rq_v (op_len Try.underlying22 rfl) ?_)
          first | refine rq_off rfl ?_ | (refine rq_on rfl ?_; refine rq_v (op_b (b := false) rfl (decide_eq_false (by omega))) ?_)
          first | refine rq_off rfl ?_ | (refine rq_on rfl ?_; refine rq_v (op_pure rfl) ?_)
          first | refine rq_off rfl ?_ | (refine rq_on rfl ?_; refine rq_v (op_pure rfl) ?_)
          first | refine rq_off rfl ?_ | (refine rq_on rfl ?_; refine rq_v (op_pure rfl) ?_)
          first | refine rq_off rfl ?_ | (refine rq_on rfl ?_; refine rq_v (op_idx Try.underlying22 Try.sizeOf2 rfl rfl sa_out (by omega) (by omega)) ?_)
          first | refine rq_off rfl ?_ | (refine rq_on rfl ?_; refine rq_r (fun wq hq => op_ldR Try.underlying2 rfl rfl ((S.gr hq).rd (i := 0) rfl) (by assumption)) ?_)
          first | refine rq_off rfl ?_ | (refine rq_on rfl ?_; refine rq_v (op_pure rfl) ?_)
          first | refine rq_off rfl ?_ | (refine rq_on rfl ?_; refine rq_v (op_pure rfl) ?_)
          first | refine rq_off rfl ?_ | (refine rq_on rfl ?_; refine rq_v (op_idx Try.underlying22 Try.sizeOf2 rfl rfl sa_A (by omega) (by omega)) ?_)
          first | refine rq_off rfl ?_ | (refine rq_on rfl ?_; refine rq_r (fun wq hq => op_ldR Try.underlying2 rfl rfl (hA.gr (S.gr hq).out) (by assumption)) ?_)
          refine rq_off rfl ?_
          first | refine rq_off rfl ?_ | (refine rq_on rfl ?_; refine rq_v (op_pure rfl) ?_)
          refine rq_v (op_pure rfl) ?_
          refine rq_nil ?_
          intro w18_ g18_
          have S := S.gr g18_
          first | refine rw_end ?_ | (refine rw_nil ?_; show CW _ _ _ _ _ _) | refine rw_nil ?_
          repeat refine cw_seq ?_
          refine cw_false rfl ?_
          repeat refine cw_seq ?_
          refine cw_skip ?_
          try show CW _ _ _ _ _ _
          repeat refine cw_seq ?_
          refine cw_region ?_
          refine rw_buildS0 Try.underlying22 Try.sizeOf2 S ?_
          intro A_nx w20_ g20_ S sa_nx
          iterate 2 refine rw_v (op_pure rfl) ?_
          refine rw_v (op_slice_h Try.underlying22 Try.sizeOf2 rfl rfl (by omega) (by omega)) ?_
          rw [Int.toNat_natCast]
          refine rw_appZ (i := 0) (m := j) (ys := (ints l).take (j * 1)) S rfl (fun h => rfl) Try.underlying22 info_t2 rfl rfl rfl rfl (by rw [List.length_take, ints_len]; omega) hnil ((S.rd (i := 1) rfl).takeZ _) htk1 (by omega) ?_
          intro A6 c6 w6 S
          rw [Nat.zero_add, List.nil_append] at S
          rw [Nat.zero_add]
          refine rw_v (op_pure rfl) ?_
          first | refine rw_end ?_ | (refine rw_nil ?_; show CW _ _ _ _ _ _) | refine rw_nil ?_
          repeat refine cw_seq ?_
          refine cw_region ?_
          iterate 3 refine rw_v (op_pure rfl) ?_
          refine rw_v (op_idx Try.underlying22 Try.sizeOf2 rfl rfl sa_A (by omega) (by omega)) ?_
          refine rw_r (op_ldR Try.underlying2 rfl rfl (hA.gr S.out) hlx) ?_
          refine rw_buildS Try.underlying22 Try.sizeOf2 Try.zeroValue2 rfl rfl rfl rfl rfl rfl S ?_
          intro A_a1 w22_ g22_ S sa_a1
          refine rw_appS (i := 1) S rfl (fun h => rfl) Try.underlying22 info_t2 rfl rfl rfl rfl (by simp) (by omega) (S.rd (i := 0) rfl) rfl (by omega) ?_
          intro A_nx2 c_nx2 w23_ S sa_nx
          refine rw_v (op_pure rfl) ?_
          first | refine rw_end ?_ | (refine rw_nil ?_; show CW _ _ _ _ _ _) | refine rw_nil ?_
          repeat refine cw_seq ?_
          refine cw_region ?_
          iterate 3 refine rw_v (op_pure rfl) ?_
          obtain ⟨B, cB, hop, hRB, hnB⟩ := op_fromZ (P := Try.prog) (m := j) Try.underlying22 Try.sizeOf2 (S.row (i := 2) rfl) (by omega)
          refine rw_v (hop _ _ _ _ _ _ _ _ rfl rfl) ?_
          refine rw_appZ (i := 1) (m := l.length - j) (ys := (ints l).drop (j * 1)) S rfl (fun h => rfl) Try.underlying22 info_t2 rfl rfl rfl rfl (by rw [List.length_drop, ints_len]; omega) hnB hRB hdr1 (by omega) ?_
          intro A9 c9 w9 S
          refine rw_v (op_pure rfl) ?_
          first | refine rw_end ?_ | (refine rw_nil ?_; show CW _ _ _ _ _ _) | refine rw_nil ?_
          repeat refine cw_seq ?_
          refine cw_region ?_
          refine rw_v (op_pure rfl) ?_
          refine rw_v (op_rng rfl (by omega)) ?_
          refine rw_v (op_pure rfl) ?_
          first | refine rw_end ?_ | (refine rw_nil ?_; show CW _ _ _ _ _ _) | refine rw_nil ?_
          have e1 : (ints l).take (j * 1) ++ [Value.int .i64 x] ++ (ints l).drop (j * 1) = ints l2 := by rw [hfin, Nat.mul_one]; simp [ints]
          have e2 : j + 1 + (l.length - j) = l2.length := by rw [hfin]; simp; omega
          rw [e1, e2] at S
          exact ⟨m - 1, by omega, k + 1, A9, c9, by omega, ⟨rfl, by rw [hl2, ← e2]; rfl, ie (by omega), trivial⟩, by rw [hl2]; exact (S.drop 1).only (i := 0) rfl⟩
  · try simp only [decide_eq_true_eq, decide_eq_false_iff_not, beq_iff_eq, bne_iff_ne, beq_eq_false_iff_ne, bne_eq_false_iff_eq, Bool.not_eq_true', Bool.not_eq_false', ne_eq, Decidable.not_not, Int.natCast_inj, Int.ofNat_lt, Int.ofNat_le, gt_iff_lt, ge_iff_le, Int.not_lt, Int.not_le] at hc
    obtain rfl : k = L.length := by omega
    repeat refine cw_seq ?_
    refine cw_exit ?_
    repeat first | refine exit_then ?_ | refine exit_inb ?_
    show CW _ _ _ _ _ _
    repeat refine cw_seq ?_
    refine cw_region ?_
    iterate 2 refine rw_v (op_pure rfl) ?_
    first | refine rw_end ?_ | (refine rw_nil ?_; show CW _ _ _ _ _ _) | refine rw_nil ?_
    repeat refine cw_seq ?_
    refine cw_ret ?_
    repeat first | refine ret_then ?_ | refine ret_inb ?_
    exact res1 rfl (S.retNew (i := 0) rfl)
end
end Go.Proofs.Yteihfmifelcidaa
/- Sums over zones, in plain Lean. -/
namespace Go.Proofs.Yteihfmifelcidaa
def arN (L : List Int) : Nat → Int
  | 0 => 0
  | i + 1 => if L.getD i 0 ≠ 0 then arN L i + 1 else arN L i
def smN (V L : List Int) : Nat → Int
  | 0 => 0
  | i + 1 => if L.getD i 0 ≠ 0 then smN V L i + V.getD i 0 else smN V L i
def arT (l : List Zn) (i : Nat) : Int := ((l.take i).map Zn.ar).sum
def smT (l : List Zn) (i : Nat) : Int := ((l.take i).map Zn.sm).sum
theorem arT_succ {l : List Zn} {i : Nat} {z : Zn} (h : l[i]? = some z) : arT l (i + 1) = arT l i + z.ar := by
  unfold arT
  rw [List.take_add_one, h]
  simp
theorem smT_succ {l : List Zn} {i : Nat} {z : Zn} (h : l[i]? = some z) : smT l (i + 1) = smT l i + z.sm := by
  unfold smT
  rw [List.take_add_one, h]
  simp
theorem sum_updN {S : List Int} (hS : S.Nodup) (f : Int → Int) (x d : Int) : (S.map fun a => f a + if x = a then d else 0).sum = (S.map f).sum + if x ∈ S then d else 0 := by
  induction S with
  | nil => simp
  | cons b S ih =>
    rw [List.nodup_cons] at hS
    rw [List.map_cons, List.map_cons, List.sum_cons, List.sum_cons, ih hS.2]
    by_cases e : x = b
    · subst e
      rw [if_pos rfl, if_neg hS.1, if_pos (List.mem_cons_self)]
      omega
    · rw [if_neg e]
      by_cases h : x ∈ S
      · rw [if_pos h, if_pos (List.mem_cons_of_mem _ h)]; omega
      · rw [if_neg h, if_neg (fun hh => (List.mem_cons.1 hh).elim e h)]; omega
theorem znN_ar {V L : List Int} {a : Int} {i : Nat} : (znN V L a (i + 1)).ar = (znN V L a i).ar + if L.getD i 0 = a then 1 else 0 := by
  show (if _ then _ else _ : Zn).ar = _
  split
  · unfold znAdd; split
    · rename_i h; rw [h]; rfl
    · rfl
  · omega
theorem znN_sm {V L : List Int} {a : Int} {i : Nat} : (znN V L a (i + 1)).sm = (znN V L a i).sm + if L.getD i 0 = a then V.getD i 0 else 0 := by
  show (if _ then _ else _ : Zn).sm = _
  split
  · unfold znAdd; split <;> rfl
  · omega
theorem sums_all {V L : List Int} {n : Nat} : arT ((refLab L n).map fun a => znN V L a n) (refLab L n).length = arN L n ∧ smT ((refLab L n).map fun a => znN V L a n) (refLab L n).length = smN V L n := by
  have hnd : (refLab L n).Nodup := ((refLab_spec (L := L) n).1).imp fun h e => by omega
  have hmem : ∀ i, i < n → (L.getD i 0 ∈ refLab L n ↔ L.getD i 0 ≠ 0) := fun i hi => by
    rw [(refLab_spec n).2, mem_labsN]
    exact ⟨fun h => h.1, fun h => ⟨h, i, hi, rfl⟩⟩
  unfold arT smT
  rw [List.take_of_length_le (by simp), List.map_map, List.map_map]
  generalize refLab L n = S at *
  have key : ∀ k, k ≤ n → (S.map fun a => (znN V L a k).ar).sum = arN L k ∧ (S.map fun a => (znN V L a k).sm).sum = smN V L k := by
    intro k
    induction k with
    | zero =>
      intro _
      have : ∀ S : List Int, (S.map fun _ => (0 : Int)).sum = 0 := fun S => by
        induction S with
        | nil => rfl
        | cons a S ih => rw [List.map_cons, List.sum_cons, ih]; rfl
      exact ⟨this S, this S⟩
    | succ k ih =>
      intro hk
      obtain ⟨h1, h2⟩ := ih (by omega)
      have hm := hmem k (by omega)
      refine ⟨?_, ?_⟩
      · simp only [znN_ar]
        rw [sum_updN hnd (fun a => (znN V L a k).ar), h1]
        show _ = if _ then _ else _
        by_cases h0 : L.getD k 0 ≠ 0
        · rw [if_pos h0, if_pos (hm.2 h0)]
        · rw [if_neg h0, if_neg (fun h => h0 (hm.1 h))]; omega
      · simp only [znN_sm]
        rw [sum_updN hnd (fun a => (znN V L a k).sm), h2]
        show _ = if _ then _ else _
        by_cases h0 : L.getD k 0 ≠ 0
        · rw [if_pos h0, if_pos (hm.2 h0)]
        · rw [if_neg h0, if_neg (fun h => h0 (hm.1 h))]; omega
  exact key n (Nat.le_refl _)
theorem arN_bnd {L : List Int} : ∀ n : Nat, 0 ≤ arN L n ∧ arN L n ≤ n
  | 0 => by simp [arN]
  | n + 1 => by
    have := arN_bnd (L := L) n
    unfold arN
    split <;> omega
theorem smN_bnd {V L : List Int} (hV : ∀ j, -2147483648 ≤ V.getD j 0 ∧ V.getD j 0 ≤ 2147483647) : ∀ n : Nat, -2147483648 * (n : Int) ≤ smN V L n ∧ smN V L n ≤ 2147483648 * (n : Int)
  | 0 => by simp [smN]
  | n + 1 => by
    have := smN_bnd (L := L) hV n
    have := hV n
    unfold smN
    split <;> omega
theorem refLab_leng {L : List Int} : ∀ n, (refLab L n).length ≤ n
  | 0 => by simp [refLab]
  | n + 1 => by
    have ih := refLab_leng (L := L) n
    have := List.takeWhile_sublist (l := refLab L n) (p := fun a => decide (a < L.getD n 0)) |>.length_le
    unfold refLab insL
    split
    · omega
    · simp; omega
end Go.Proofs.Yteihfmifelcidaa
