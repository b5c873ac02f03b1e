/- zones.Mean, zones.Mask; hachurelaw49.ZonesMean, ZonesNil, ZonesMask: the walks. -/
import Derived.Test.YteihfmifelcidaaZK
import Derived.Test.YteihfmifelcidaaZI
import Derived.Test.YteihfmifelcidaaZG
namespace Go.Proofs.Yteihfmifelcidaa
open Go.RowKit
set_option linter.unusedVariables false
set_option linter.unusedSimpArgs false
set_option maxRecDepth 100000

/-- rounded down -/
def flrZ (s n : Int) : Int := if s.tmod n < 0 then s.tdiv n - 1 else s.tdiv n
theorem flrZ_bnd {s n : Int} (hs : -9223372036854775808 ≤ s ∧ s ≤ 9223372036854775807) (hn : 1 ≤ n) : (-9223372036854775808 ≤ s.tdiv n ∧ s.tdiv n ≤ 9223372036854775807) ∧ (s.tmod n < 0 → -9223372036854775808 ≤ s.tdiv n - 1) := by
  have h1 : s.tdiv n * n + s.tmod n = s := Int.tdiv_mul_add_tmod s n
  have h2 := Int.natAbs_tdiv_le_natAbs s n
  have h0 := (floor_go (s := s) (n := n) (by omega)).1
  refine ⟨⟨by omega, ?_⟩, fun h => ?_⟩
  · by_cases h5 : 9223372036854775808 ≤ s.tdiv n
    · have h6 : 9223372036854775808 * n ≤ s.tdiv n * n := Int.mul_le_mul_of_nonneg_right h5 (by omega)
      omega
    · omega
  by_cases h3 : n = 1
  · subst h3; rw [Int.tmod_one] at h; omega
  · by_cases h4 : s.tdiv n ≤ -9223372036854775808
    · have h5 : s.tdiv n * n ≤ -9223372036854775808 * n := Int.mul_le_mul_of_nonneg_right h4 (by omega)
      omega
    · omega
section
variable {W : World} {a b c d e f g : Int}
theorem zmean_E (hb : 1 ≤ b) (hc : -9223372036854775808 ≤ c ∧ c ≤ 9223372036854775807) : Fn Try.prog 28 [.agg #[.int .i64 a, .int .i64 b, .int .i64 c, .int .i64 d, .int .i64 e, .int .i64 f, .int .i64 g]] W (RetG (.tuple #[.int .i64 (flrZ c b), .int .i64 0]) W) := by
  obtain ⟨hq, hq1⟩ := flrZ_bnd hc hb
  by_cases hr : c.tmod b < 0
  · have hq2 := hq1 hr
    have hfl : flrZ c b = c.tdiv b - 1 := by unfold flrZ; rw [if_pos hr]
    rw [hfl]
    generalize hgd : c.tdiv b = dv at *
    have S := St.start W
    refine Fn_enter Try.func28 rfl Try.results28 Try.ntmps28 (by kernel_rfl) (by kernel_rfl) ?_
    repeat refine cw_seq ?_
    refine cw_region ?_
    refine rw_newB (op_box rfl) S ?_
    intro b_z w2_ g2_ S
    iterate 2 refine rw_v (op_pure rfl) ?_
    first | refine rw_end ?_ | (refine rw_nil ?_; show CW _ _ _ _ _ _) | refine rw_nil ?_
    repeat refine cw_seq ?_
    refine cw_region ?_
    refine rw_v (op_fieldAddr Try.underlying59 rfl Try.sizeOf2 rfl rfl) ?_
    refine rw_r (op_loadB Try.underlying2 rfl rfl (S.blk (i := 0) rfl) rfl) ?_
    refine rw_v (op_b (b := false) rfl (decide_eq_false (by omega))) ?_
    first | refine rw_end ?_ | (refine rw_nil ?_; show CW _ _ _ _ _ _) | refine rw_nil ?_
    repeat refine cw_seq ?_
    refine cw_false rfl ?_
    repeat refine cw_seq ?_
    refine cw_skip ?_
    try show CW _ _ _ _ _ _
    repeat refine cw_seq ?_
    refine cw_region ?_
    refine rw_v (op_fieldAddr Try.underlying59 rfl Try.sizeOf2 rfl rfl) ?_
    refine rw_r (op_loadB Try.underlying2 rfl rfl (S.blk (i := 0) rfl) rfl) ?_
    refine rw_v (op_fieldAddr Try.underlying59 rfl Try.sizeOf2 rfl rfl) ?_
    refine rw_r (op_loadB Try.underlying2 rfl rfl (S.blk (i := 0) rfl) rfl) ?_
    refine rw_v (op_quoT rfl rfl (by omega) hgd (by omega)) ?_
    refine rw_v (op_pure rfl) ?_
    first | refine rw_end ?_ | (refine rw_nil ?_; show CW _ _ _ _ _ _) | refine rw_nil ?_
    repeat refine cw_seq ?_
    refine cw_region ?_
    refine rw_v (op_fieldAddr Try.underlying59 rfl Try.sizeOf2 rfl rfl) ?_
    refine rw_r (op_loadB Try.underlying2 rfl rfl (S.blk (i := 0) rfl) rfl) ?_
    refine rw_v (op_fieldAddr Try.underlying59 rfl Try.sizeOf2 rfl rfl) ?_
    refine rw_r (op_loadB Try.underlying2 rfl rfl (S.blk (i := 0) rfl) rfl) ?_
    refine rw_v (op_remT rfl rfl (by omega)) ?_
    refine rw_v (op_b (b := true) rfl (decide_eq_true hr)) ?_
    first | refine rw_end ?_ | (refine rw_nil ?_; show CW _ _ _ _ _ _) | refine rw_nil ?_
    repeat refine cw_seq ?_
    refine cw_true rfl ?_
    repeat refine cw_seq ?_
    refine cw_region ?_
    refine rw_v (op_pure rfl) ?_
    refine rw_v (op_rng rfl (by omega)) ?_
    refine rw_v (op_pure rfl) ?_
    first | refine rw_end ?_ | (refine rw_nil ?_; show CW _ _ _ _ _ _) | refine rw_nil ?_
    repeat refine cw_seq ?_
    refine cw_region ?_
    iterate 3 refine rw_v (op_pure rfl) ?_
    first | refine rw_end ?_ | (refine rw_nil ?_; show CW _ _ _ _ _ _) | refine rw_nil ?_
    repeat refine cw_seq ?_
    refine cw_ret ?_
    repeat first | refine ret_then ?_ | refine ret_inb ?_
    exact res2 rfl rfl ⟨rfl, S.out⟩
  · have hfl : flrZ c b = c.tdiv b := by unfold flrZ; rw [if_neg hr]
    rw [hfl]
    generalize hgd : c.tdiv b = dv at *
    have S := St.start W
    refine Fn_enter Try.func28 rfl Try.results28 Try.ntmps28 (by kernel_rfl) (by kernel_rfl) ?_
    repeat refine cw_seq ?_
    refine cw_region ?_
    refine rw_newB (op_box rfl) S ?_
    intro b_z w2_ g2_ S
    iterate 2 refine rw_v (op_pure rfl) ?_
    first | refine rw_end ?_ | (refine rw_nil ?_; show CW _ _ _ _ _ _) | refine rw_nil ?_
    repeat refine cw_seq ?_
    refine cw_region ?_
    refine rw_v (op_fieldAddr Try.underlying59 rfl Try.sizeOf2 rfl rfl) ?_
    refine rw_r (op_loadB Try.underlying2 rfl rfl (S.blk (i := 0) rfl) rfl) ?_
    refine rw_v (op_b (b := false) rfl (decide_eq_false (by omega))) ?_
    first | refine rw_end ?_ | (refine rw_nil ?_; show CW _ _ _ _ _ _) | refine rw_nil ?_
    repeat refine cw_seq ?_
    refine cw_false rfl ?_
    repeat refine cw_seq ?_
    refine cw_skip ?_
    try show CW _ _ _ _ _ _
    repeat refine cw_seq ?_
    refine cw_region ?_
    refine rw_v (op_fieldAddr Try.underlying59 rfl Try.sizeOf2 rfl rfl) ?_
    refine rw_r (op_loadB Try.underlying2 rfl rfl (S.blk (i := 0) rfl) rfl) ?_
    refine rw_v (op_fieldAddr Try.underlying59 rfl Try.sizeOf2 rfl rfl) ?_
    refine rw_r (op_loadB Try.underlying2 rfl rfl (S.blk (i := 0) rfl) rfl) ?_
    refine rw_v (op_quoT rfl rfl (by omega) hgd (by omega)) ?_
    refine rw_v (op_pure rfl) ?_
    first | refine rw_end ?_ | (refine rw_nil ?_; show CW _ _ _ _ _ _) | refine rw_nil ?_
    repeat refine cw_seq ?_
    refine cw_region ?_
    refine rw_v (op_fieldAddr Try.underlying59 rfl Try.sizeOf2 rfl rfl) ?_
    refine rw_r (op_loadB Try.underlying2 rfl rfl (S.blk (i := 0) rfl) rfl) ?_
    refine rw_v (op_fieldAddr Try.underlying59 rfl Try.sizeOf2 rfl rfl) ?_
    refine rw_r (op_loadB Try.underlying2 rfl rfl (S.blk (i := 0) rfl) rfl) ?_
    refine rw_v (op_remT rfl rfl (by omega)) ?_
    refine rw_v (op_b (b := false) rfl (decide_eq_false hr)) ?_
    first | refine rw_end ?_ | (refine rw_nil ?_; show CW _ _ _ _ _ _) | refine rw_nil ?_
    repeat refine cw_seq ?_
    refine cw_false rfl ?_
    repeat refine cw_seq ?_
    refine cw_skip ?_
    try show CW _ _ _ _ _ _
    repeat refine cw_seq ?_
    refine cw_region ?_
    iterate 3 refine rw_v (op_pure rfl) ?_
    first | refine rw_end ?_ | (refine rw_nil ?_; show CW _ _ _ _ _ _) | refine rw_nil ?_
    repeat refine cw_seq ?_
    refine cw_ret ?_
    repeat first | refine ret_then ?_ | refine ret_inb ?_
    exact res2 rfl rfl ⟨rfl, S.out⟩
theorem rfloor_E (hb : 1 ≤ b) (hc : -9223372036854775808 ≤ c ∧ c ≤ 9223372036854775807) : Fn Try.prog 29 [.int .i64 c, .int .i64 b] W (RetG (.int .i64 (flrZ c b)) W) := by
  obtain ⟨hq, hq1⟩ := flrZ_bnd hc hb
  by_cases hr : c.tmod b < 0
  · have hq2 := hq1 hr
    have hfl : flrZ c b = c.tdiv b - 1 := by unfold flrZ; rw [if_pos hr]
    rw [hfl]
    generalize hgd : c.tdiv b = dv at *
    have S := St.start W
    refine Fn_enter Try.func29 rfl Try.results29 Try.ntmps29 (by kernel_rfl) (by kernel_rfl) ?_
    repeat refine cw_seq ?_
    refine cw_region ?_
    refine rw_v (op_pure rfl) ?_
    first | refine rw_end ?_ | (refine rw_nil ?_; show CW _ _ _ _ _ _) | refine rw_nil ?_
    repeat refine cw_seq ?_
    refine cw_region ?_
    iterate 2 refine rw_v (op_pure rfl) ?_
    refine rw_v (op_quoT rfl rfl (by omega) hgd (by omega)) ?_
    refine rw_v (op_pure rfl) ?_
    first | refine rw_end ?_ | (refine rw_nil ?_; show CW _ _ _ _ _ _) | refine rw_nil ?_
    repeat refine cw_seq ?_
    refine cw_region ?_
    iterate 2 refine rw_v (op_pure rfl) ?_
    refine rw_v (op_remT rfl rfl (by omega)) ?_
    refine rw_v (op_b (b := true) rfl (decide_eq_true hr)) ?_
    first | refine rw_end ?_ | (refine rw_nil ?_; show CW _ _ _ _ _ _) | refine rw_nil ?_
    repeat refine cw_seq ?_
    refine cw_true rfl ?_
    repeat refine cw_seq ?_
    refine cw_region ?_
    refine rw_v (op_pure rfl) ?_
    refine rw_v (op_rng rfl (by omega)) ?_
    refine rw_v (op_pure rfl) ?_
    first | refine rw_end ?_ | (refine rw_nil ?_; show CW _ _ _ _ _ _) | refine rw_nil ?_
    repeat refine cw_seq ?_
    refine cw_ret ?_
    repeat first | refine ret_then ?_ | refine ret_inb ?_
    exact res1 rfl ⟨rfl, S.out⟩
  · have hfl : flrZ c b = c.tdiv b := by unfold flrZ; rw [if_neg hr]
    rw [hfl]
    generalize hgd : c.tdiv b = dv at *
    have S := St.start W
    refine Fn_enter Try.func29 rfl Try.results29 Try.ntmps29 (by kernel_rfl) (by kernel_rfl) ?_
    repeat refine cw_seq ?_
    refine cw_region ?_
    refine rw_v (op_pure rfl) ?_
    first | refine rw_end ?_ | (refine rw_nil ?_; show CW _ _ _ _ _ _) | refine rw_nil ?_
    repeat refine cw_seq ?_
    refine cw_region ?_
    iterate 2 refine rw_v (op_pure rfl) ?_
    refine rw_v (op_quoT rfl rfl (by omega) hgd (by omega)) ?_
    refine rw_v (op_pure rfl) ?_
    first | refine rw_end ?_ | (refine rw_nil ?_; show CW _ _ _ _ _ _) | refine rw_nil ?_
    repeat refine cw_seq ?_
    refine cw_region ?_
    iterate 2 refine rw_v (op_pure rfl) ?_
    refine rw_v (op_remT rfl rfl (by omega)) ?_
    refine rw_v (op_b (b := false) rfl (decide_eq_false hr)) ?_
    first | refine rw_end ?_ | (refine rw_nil ?_; show CW _ _ _ _ _ _) | refine rw_nil ?_
    repeat refine cw_seq ?_
    refine cw_false rfl ?_
    repeat refine cw_seq ?_
    refine cw_skip ?_
    try show CW _ _ _ _ _ _
    repeat refine cw_seq ?_
    refine cw_region ?_
    iterate 2 refine rw_v (op_pure rfl) ?_
    first | refine rw_end ?_ | (refine rw_nil ?_; show CW _ _ _ _ _ _) | refine rw_nil ?_
    repeat refine cw_seq ?_
    refine cw_ret ?_
    repeat first | refine ret_then ?_ | refine ret_inb ?_
    exact res1 rfl ⟨rfl, S.out⟩
theorem zonesMean_E (hc : -9223372036854775808 ≤ c ∧ c ≤ 9223372036854775807) : Fn Try.prog 7 [.agg #[.int .i64 a, .int .i64 b, .int .i64 c, .int .i64 d, .int .i64 e, .int .i64 f, .int .i64 g]] W (RetG (.bool true) W) := by
  by_cases hb : b < 1
  · skip
    have S := St.start W
    refine Fn_enter Try.func7 rfl Try.results7 Try.ntmps7 (by kernel_rfl) (by kernel_rfl) ?_
    repeat refine cw_seq ?_
    refine cw_region ?_
    refine rw_newB (op_box rfl) S ?_
    intro b_z w2_ g2_ S
    refine rw_v (op_pure rfl) ?_
    first | refine rw_end ?_ | (refine rw_nil ?_; show CW _ _ _ _ _ _) | refine rw_nil ?_
    repeat refine cw_seq ?_
    refine cw_region ?_
    refine rw_call rfl (awake49_E w2_) ?_
    rintro _ w3_ ⟨rfl, g3_⟩
    have S := S.gr g3_
    refine rw_v (op_pure rfl) ?_
    first | refine rw_end ?_ | (refine rw_nil ?_; show CW _ _ _ _ _ _) | refine rw_nil ?_
    repeat refine cw_seq ?_
    refine cw_false rfl ?_
    repeat refine cw_seq ?_
    refine cw_skip ?_
    try show CW _ _ _ _ _ _
    repeat refine cw_seq ?_
    refine cw_region ?_
    refine rw_r (op_loadAB Try.underlying59 rfl (Try.sizeOf59 _) rfl (S.blk (i := 0) rfl) rfl rfl) ?_
    refine rw_call rfl (zmeanNo_E a b c d e f g hb) ?_
    rintro _ w4_ ⟨rfl, g4_⟩
    have S := S.gr g4_
    iterate 5 refine rw_v (op_pure rfl) ?_
    first | refine rw_end ?_ | (refine rw_nil ?_; show CW _ _ _ _ _ _) | refine rw_nil ?_
    repeat refine cw_seq ?_
    refine cw_region ?_
    refine rw_v (op_fieldAddr Try.underlying59 rfl Try.sizeOf2 rfl rfl) ?_
    refine rw_r (op_loadB Try.underlying2 rfl rfl (S.blk (i := 0) rfl) rfl) ?_
    refine rw_v (op_b (b := true) rfl (decide_eq_true (by omega))) ?_
    first | refine rw_end ?_ | (refine rw_nil ?_; show CW _ _ _ _ _ _) | refine rw_nil ?_
    repeat refine cw_seq ?_
    refine cw_true rfl ?_
    repeat refine cw_seq ?_
    refine cw_region ?_
    refine rw_v (op_pure rfl) ?_
    refine rw_v (op_b (b := true) rfl (beq_iff_eq.2 (by omega))) ?_
    refine rw_v (op_pure rfl) ?_
    first | refine rw_off rfl ?_ | (refine rw_on rfl ?_; refine rw_v (op_pure rfl) ?_)
    first | refine rw_off rfl ?_ | (refine rw_on rfl ?_; refine rw_v (op_b (b := true) rfl (beq_iff_eq.2 (by omega))) ?_)
    iterate 2 refine rw_v (op_pure rfl) ?_
    first | refine rw_end ?_ | (refine rw_nil ?_; show CW _ _ _ _ _ _) | refine rw_nil ?_
    repeat refine cw_seq ?_
    refine cw_ret ?_
    repeat first | refine ret_then ?_ | refine ret_inb ?_
    exact res1 rfl ⟨rfl, S.out⟩
  · skip
    have S := St.start W
    refine Fn_enter Try.func7 rfl Try.results7 Try.ntmps7 (by kernel_rfl) (by kernel_rfl) ?_
    repeat refine cw_seq ?_
    refine cw_region ?_
    refine rw_newB (op_box rfl) S ?_
    intro b_z w2_ g2_ S
    refine rw_v (op_pure rfl) ?_
    first | refine rw_end ?_ | (refine rw_nil ?_; show CW _ _ _ _ _ _) | refine rw_nil ?_
    repeat refine cw_seq ?_
    refine cw_region ?_
    refine rw_call rfl (awake49_E w2_) ?_
    rintro _ w3_ ⟨rfl, g3_⟩
    have S := S.gr g3_
    refine rw_v (op_pure rfl) ?_
    first | refine rw_end ?_ | (refine rw_nil ?_; show CW _ _ _ _ _ _) | refine rw_nil ?_
    repeat refine cw_seq ?_
    refine cw_false rfl ?_
    repeat refine cw_seq ?_
    refine cw_skip ?_
    try show CW _ _ _ _ _ _
    repeat refine cw_seq ?_
    refine cw_region ?_
    refine rw_r (op_loadAB Try.underlying59 rfl (Try.sizeOf59 _) rfl (S.blk (i := 0) rfl) rfl rfl) ?_
    refine rw_call rfl (zmean_E (a := a) (d := d) (e := e) (f := f) (g := g) (by omega) hc) ?_
    rintro _ w4_ ⟨rfl, g4_⟩
    have S := S.gr g4_
    iterate 5 refine rw_v (op_pure rfl) ?_
    first | refine rw_end ?_ | (refine rw_nil ?_; show CW _ _ _ _ _ _) | refine rw_nil ?_
    repeat refine cw_seq ?_
    refine cw_region ?_
    refine rw_v (op_fieldAddr Try.underlying59 rfl Try.sizeOf2 rfl rfl) ?_
    refine rw_r (op_loadB Try.underlying2 rfl rfl (S.blk (i := 0) rfl) rfl) ?_
    refine rw_v (op_b (b := false) rfl (decide_eq_false (by omega))) ?_
    first | refine rw_end ?_ | (refine rw_nil ?_; show CW _ _ _ _ _ _) | refine rw_nil ?_
    repeat refine cw_seq ?_
    refine cw_false rfl ?_
    repeat refine cw_seq ?_
    refine cw_skip ?_
    try show CW _ _ _ _ _ _
    repeat refine cw_seq ?_
    refine cw_region ?_
    refine rw_v (op_pure rfl) ?_
    refine rw_v (op_b (b := true) rfl (beq_iff_eq.2 (by omega))) ?_
    refine rw_v (op_pure rfl) ?_
    first | refine rw_off rfl ?_ | (refine rw_on rfl ?_; refine rw_v (op_pure rfl) ?_)
    first | refine rw_off rfl ?_ | (refine rw_on rfl ?_; refine rw_v (op_fieldAddr Try.underlying59 rfl Try.sizeOf2 rfl rfl) ?_)
    first | refine rw_off rfl ?_ | (refine rw_on rfl ?_; refine rw_r (op_loadB Try.underlying2 rfl rfl (S.blk (i := 0) rfl) rfl) ?_)
    first | refine rw_off rfl ?_ | (refine rw_on rfl ?_; refine rw_v (op_fieldAddr Try.underlying59 rfl Try.sizeOf2 rfl rfl) ?_)
    first | refine rw_off rfl ?_ | (refine rw_on rfl ?_; refine rw_r (op_loadB Try.underlying2 rfl rfl (S.blk (i := 0) rfl) rfl) ?_)
    refine rw_on rfl ?_
    refine rw_call rfl (rfloor_E (by omega) hc) ?_
    rintro _ w5_ ⟨rfl, g5_⟩
    have S := S.gr g5_
    first | refine rw_off rfl ?_ | (refine rw_on rfl ?_; refine rw_v (op_b (b := true) rfl (beq_iff_eq.2 (by omega))) ?_)
    iterate 2 refine rw_v (op_pure rfl) ?_
    first | refine rw_end ?_ | (refine rw_nil ?_; show CW _ _ _ _ _ _) | refine rw_nil ?_
    repeat refine cw_seq ?_
    refine cw_ret ?_
    repeat first | refine ret_then ?_ | refine ret_inb ?_
    exact res1 rfl ⟨rfl, S.out⟩
end
section
variable {W : World} {A B : Option Addr} {p gw gh cap cb : Nat} {cc : Nat → Int} {bs : Nat → Nat} {Rs : Nat → Option Nat} {L : List Int}
theorem zmaskNil_E {n : Nat} (label v : Int) : Fn Try.prog 30 [.pointer none, .slice B n cb, .int .i64 label, .int .i64 v] W (RetG (.tuple #[.pointer none, .int .i64 1]) W) := by
  have S := St.start W
  refine Fn_enter Try.func30 rfl Try.results30 Try.ntmps30 (by kernel_rfl) (by kernel_rfl) ?_
  repeat refine cw_seq ?_
  refine cw_region ?_
  iterate 2 refine rw_v (op_pure rfl) ?_
  first | refine rw_end ?_ | (refine rw_nil ?_; show CW _ _ _ _ _ _) | refine rw_nil ?_
  repeat refine cw_seq ?_
  refine cw_region ?_
  iterate 2 refine rw_v (op_pure rfl) ?_
  refine rw_call rfl (zvalsNil_E) ?_
  rintro _ w1_ ⟨rfl, g1_⟩
  have S := S.gr g1_
  iterate 7 refine rw_v (op_pure rfl) ?_
  first | refine rw_end ?_ | (refine rw_nil ?_; show CW _ _ _ _ _ _) | refine rw_nil ?_
  repeat refine cw_seq ?_
  refine cw_block ?_
  repeat refine cw_seq ?_
  refine cw_region ?_
  refine rw_v (op_pure rfl) ?_
  refine rw_v (op_b (b := true) rfl (bne_iff_ne.2 (by omega))) ?_
  refine rw_v (op_pure rfl) ?_
  first | refine rw_end ?_ | (refine rw_nil ?_; show CW _ _ _ _ _ _) | refine rw_nil ?_
  repeat refine cw_seq ?_
  refine cw_true rfl ?_
  repeat refine cw_seq ?_
  refine cw_region ?_
  iterate 3 refine rw_v (op_pure rfl) ?_
  first | refine rw_end ?_ | (refine rw_nil ?_; show CW _ _ _ _ _ _) | refine rw_nil ?_
  repeat refine cw_seq ?_
  refine cw_ret ?_
  repeat first | refine ret_then ?_ | refine ret_inb ?_
  exact res2 rfl rfl ⟨rfl, S.out⟩
theorem zmaskNo_E {n : Nat} (label v : Int) (hn : n ≠ gw * gh) (hG : GridAt W p gw gh cc A cap bs Rs) : Fn Try.prog 30 [.pointer (some ⟨p, 0, none⟩), .slice B n cb, .int .i64 label, .int .i64 v] W (RetG (.tuple #[.pointer none, .int .i64 6]) W) := by
  have S := St.start W
  refine Fn_enter Try.func30 rfl Try.results30 Try.ntmps30 (by kernel_rfl) (by kernel_rfl) ?_
  repeat refine cw_seq ?_
  refine cw_region ?_
  iterate 2 refine rw_v (op_pure rfl) ?_
  first | refine rw_end ?_ | (refine rw_nil ?_; show CW _ _ _ _ _ _) | refine rw_nil ?_
  repeat refine cw_seq ?_
  refine cw_region ?_
  iterate 2 refine rw_v (op_pure rfl) ?_
  refine rw_call rfl (zvalsNo_E hn (hG.gr S.out)) ?_
  rintro _ w1_ ⟨rfl, g1_⟩
  have S := S.gr g1_
  iterate 7 refine rw_v (op_pure rfl) ?_
  first | refine rw_end ?_ | (refine rw_nil ?_; show CW _ _ _ _ _ _) | refine rw_nil ?_
  repeat refine cw_seq ?_
  refine cw_block ?_
  repeat refine cw_seq ?_
  refine cw_region ?_
  refine rw_v (op_pure rfl) ?_
  refine rw_v (op_b (b := true) rfl (bne_iff_ne.2 (by omega))) ?_
  refine rw_v (op_pure rfl) ?_
  first | refine rw_end ?_ | (refine rw_nil ?_; show CW _ _ _ _ _ _) | refine rw_nil ?_
  repeat refine cw_seq ?_
  refine cw_true rfl ?_
  repeat refine cw_seq ?_
  refine cw_region ?_
  iterate 3 refine rw_v (op_pure rfl) ?_
  first | refine rw_end ?_ | (refine rw_nil ?_; show CW _ _ _ _ _ _) | refine rw_nil ?_
  repeat refine cw_seq ?_
  refine cw_ret ?_
  repeat first | refine ret_then ?_ | refine ret_inb ?_
  exact res2 rfl rfl ⟨rfl, S.out⟩
theorem zmaskVal_E (label v : Int) (hv : mayB v = false) (hG : GridAt W p gw gh cc A cap bs Rs) : Fn Try.prog 30 [.pointer (some ⟨p, 0, none⟩), .slice B (gw * gh) cb, .int .i64 label, .int .i64 v] W (RetG (.tuple #[.pointer none, .int .i64 7]) W) := by
  have hv' : ¬ (-2147483648 ≤ v ∧ v ≤ 2147483647) := fun h => by rw [(mayB_iff v).2 h] at hv; cases hv
  by_cases h1 : v < -2147483648
  · skip
    have S := St.start W
    refine Fn_enter Try.func30 rfl Try.results30 Try.ntmps30 (by kernel_rfl) (by kernel_rfl) ?_
    repeat refine cw_seq ?_
    refine cw_region ?_
    iterate 2 refine rw_v (op_pure rfl) ?_
    first | refine rw_end ?_ | (refine rw_nil ?_; show CW _ _ _ _ _ _) | refine rw_nil ?_
    repeat refine cw_seq ?_
    refine cw_region ?_
    iterate 2 refine rw_v (op_pure rfl) ?_
    refine rw_call rfl (zvals_E (hG.gr S.out)) ?_
    rintro _ w1_ ⟨A_vs, c_vs, rfl, hR_vs, hf_vs, g1_⟩
    have S := S.pushRow hR_vs hf_vs g1_
    iterate 7 refine rw_v (op_pure rfl) ?_
    first | refine rw_end ?_ | (refine rw_nil ?_; show CW _ _ _ _ _ _) | refine rw_nil ?_
    repeat refine cw_seq ?_
    refine cw_block ?_
    repeat refine cw_seq ?_
    refine cw_region ?_
    refine rw_v (op_pure rfl) ?_
    refine rw_v (op_b (b := false) rfl (bne_eq_false_iff_eq.2 (by omega))) ?_
    refine rw_v (op_pure rfl) ?_
    first | refine rw_end ?_ | (refine rw_nil ?_; show CW _ _ _ _ _ _) | refine rw_nil ?_
    repeat refine cw_seq ?_
    refine cw_false rfl ?_
    repeat refine cw_seq ?_
    refine cw_region ?_
    refine rw_v (op_pure rfl) ?_
    refine rw_v (op_b (b := true) rfl (decide_eq_true (by omega))) ?_
    refine rw_v (op_pure rfl) ?_
    first | refine rw_off rfl ?_ | (refine rw_on rfl ?_; refine rw_v (op_pure rfl) ?_)
    first | refine rw_off rfl ?_ | (refine rw_on rfl ?_; (first | refine rw_v (op_b (b := true) rfl (decide_eq_true (by omega))) ?_ | refine rw_v (op_b (b := false) rfl (decide_eq_false (by omega))) ?_ | refine rw_v (op_pure rfl) ?_))
    iterate 2 refine rw_v (op_pure rfl) ?_
    first | refine rw_end ?_ | (refine rw_nil ?_; show CW _ _ _ _ _ _) | refine rw_nil ?_
    repeat refine cw_seq ?_
    refine cw_true rfl ?_
    repeat refine cw_seq ?_
    refine cw_region ?_
    iterate 2 refine rw_v (op_pure rfl) ?_
    first | refine rw_end ?_ | (refine rw_nil ?_; show CW _ _ _ _ _ _) | refine rw_nil ?_
    repeat refine cw_seq ?_
    refine cw_ret ?_
    repeat first | refine ret_then ?_ | refine ret_inb ?_
    exact res2 rfl rfl ⟨rfl, S.out⟩
  · skip
    have S := St.start W
    refine Fn_enter Try.func30 rfl Try.results30 Try.ntmps30 (by kernel_rfl) (by kernel_rfl) ?_
    repeat refine cw_seq ?_
    refine cw_region ?_
    iterate 2 refine rw_v (op_pure rfl) ?_
    first | refine rw_end ?_ | (refine rw_nil ?_; show CW _ _ _ _ _ _) | refine rw_nil ?_
    repeat refine cw_seq ?_
    refine cw_region ?_
    iterate 2 refine rw_v (op_pure rfl) ?_
    refine rw_call rfl (zvals_E (hG.gr S.out)) ?_
    rintro _ w1_ ⟨A_vs, c_vs, rfl, hR_vs, hf_vs, g1_⟩
    have S := S.pushRow hR_vs hf_vs g1_
    iterate 7 refine rw_v (op_pure rfl) ?_
    first | refine rw_end ?_ | (refine rw_nil ?_; show CW _ _ _ _ _ _) | refine rw_nil ?_
    repeat refine cw_seq ?_
    refine cw_block ?_
    repeat refine cw_seq ?_
    refine cw_region ?_
    refine rw_v (op_pure rfl) ?_
    refine rw_v (op_b (b := false) rfl (bne_eq_false_iff_eq.2 (by omega))) ?_
    refine rw_v (op_pure rfl) ?_
    first | refine rw_end ?_ | (refine rw_nil ?_; show CW _ _ _ _ _ _) | refine rw_nil ?_
    repeat refine cw_seq ?_
    refine cw_false rfl ?_
    repeat refine cw_seq ?_
    refine cw_region ?_
    refine rw_v (op_pure rfl) ?_
    refine rw_v (op_b (b := false) rfl (decide_eq_false (by omega))) ?_
    refine rw_v (op_pure rfl) ?_
    first | refine rw_off rfl ?_ | (refine rw_on rfl ?_; refine rw_v (op_pure rfl) ?_)
    first | refine rw_off rfl ?_ | (refine rw_on rfl ?_; refine rw_v (op_b (b := true) rfl (decide_eq_true (by omega))) ?_)
    iterate 2 refine rw_v (op_pure rfl) ?_
    first | refine rw_end ?_ | (refine rw_nil ?_; show CW _ _ _ _ _ _) | refine rw_nil ?_
    repeat refine cw_seq ?_
    refine cw_true rfl ?_
    repeat refine cw_seq ?_
    refine cw_region ?_
    iterate 2 refine rw_v (op_pure rfl) ?_
    first | refine rw_end ?_ | (refine rw_nil ?_; show CW _ _ _ _ _ _) | refine rw_nil ?_
    repeat refine cw_seq ?_
    refine cw_ret ?_
    repeat first | refine ret_then ?_ | refine ret_inb ?_
    exact res2 rfl rfl ⟨rfl, S.out⟩
/-- one part alone -/
def maskF (cc : Nat → Int) (L : List Int) (label v : Int) (i : Nat) : Int := if L.getD i 0 = label then cc i else v
set_option maxHeartbeats 1000000 in
theorem zmask_E (label v : Int) (hv : mayB v = true) (hmay : ∀ i, i < gw * gh → mayB (cc i) = true) (hL : L.length = gw * gh) (hB : Rd W B (ints L)) (hG : GridAt W p gw gh cc A cap bs Rs) :
    Fn Try.prog 30 [.pointer (some ⟨p, 0, none⟩), .slice B (gw * gh) cb, .int .i64 label, .int .i64 v] W (RetGrid (fun p => .tuple #[p, .int .i64 0]) gw gh (fun i => (gridL gw gh (maskF cc L label v)).getD i 0) W) := by
  have hv' := (mayB_iff v).1 hv
  have hw := hG.sw
  have hh := hG.sh
  have hm : gw * gh ≤ 1024 * 1024 := Nat.mul_le_mul hw.2 hh.2
  have hpos : 1 ≤ gw * gh := Nat.mul_le_mul hw.1 hh.1
  have sa_B : SomeA B := hB.someA (by rw [ints_len]; omega)
  have eq1 : ((gw * gh : Nat) : Int) / gw = gh := by
    push_cast
    exact Int.mul_ediv_cancel_left _ (by omega)
  have hmm : ∀ x ∈ gridL gw gh (maskF cc L label v), mayB x = true := fun x hx => by
    obtain ⟨i, hi, rfl⟩ := List.mem_map.1 hx
    unfold maskF
    split
    · exact hmay i (by simpa using hi)
    · exact hv
  have S := St.start W
  refine Fn_enter Try.func30 rfl Try.results30 Try.ntmps30 (by kernel_rfl) (by kernel_rfl) ?_
  repeat refine cw_seq ?_
  refine cw_region ?_
  iterate 2 refine rw_v (op_pure rfl) ?_
  first | refine rw_end ?_ | (refine rw_nil ?_; show CW _ _ _ _ _ _) | refine rw_nil ?_
  repeat refine cw_seq ?_
  refine cw_region ?_
  iterate 2 refine rw_v (op_pure rfl) ?_
  refine rw_call rfl (zvals_E (hG.gr S.out)) ?_
  rintro _ w1_ ⟨A_vs, c_vs, rfl, hR_vs, hf_vs, g1_⟩
  have S := S.pushRow hR_vs hf_vs g1_
  iterate 7 refine rw_v (op_pure rfl) ?_
  first | refine rw_end ?_ | (refine rw_nil ?_; show CW _ _ _ _ _ _) | refine rw_nil ?_
  repeat refine cw_seq ?_
  refine cw_block ?_
  repeat refine cw_seq ?_
  refine cw_region ?_
  refine rw_v (op_pure rfl) ?_
  refine rw_v (op_b (b := false) rfl (bne_eq_false_iff_eq.2 (by omega))) ?_
  refine rw_v (op_pure rfl) ?_
  first | refine rw_end ?_ | (refine rw_nil ?_; show CW _ _ _ _ _ _) | refine rw_nil ?_
  repeat refine cw_seq ?_
  refine cw_false rfl ?_
  repeat refine cw_seq ?_
  refine cw_region ?_
  refine rw_v (op_pure rfl) ?_
  refine rw_v (op_b (b := false) rfl (decide_eq_false (by omega))) ?_
  refine rw_v (op_pure rfl) ?_
  first | refine rw_off rfl ?_ | (refine rw_on rfl ?_; refine rw_v (op_pure rfl) ?_)
  first | refine rw_off rfl ?_ | (refine rw_on rfl ?_; refine rw_v (op_b (b := false) rfl (decide_eq_false (by omega))) ?_)
  iterate 2 refine rw_v (op_pure rfl) ?_
  first | refine rw_end ?_ | (refine rw_nil ?_; show CW _ _ _ _ _ _) | refine rw_nil ?_
  repeat refine cw_seq ?_
  refine cw_false rfl ?_
  repeat refine cw_seq ?_
  refine cw_skip ?_
  try show CW _ _ _ _ _ _
  repeat refine cw_seq ?_
  refine cw_region ?_
  refine rw_v (op_pure rfl) ?_
  refine rw_v (op_len Try.underlying22 rfl) ?_
  refine rw_v (op_pure rfl) ?_
  first | refine rw_end ?_ | (refine rw_nil ?_; show CW _ _ _ _ _ _) | refine rw_nil ?_
  repeat refine cw_seq ?_
  refine cw_block ?_
  repeat refine cw_seq ?_
  rw [show ints (gridL gw gh cc) = cellsQ (gw * gh) (fun i => if i < 0 then maskF cc L label v i else cc i) by rw [cellsQ_ints]; rfl] at S
  refine cw_loop (fun m e w => ∃ k : Nat, k + m = gw * gh ∧ SL e [(1, .slice B (gw * gh) cb), (2, .int .i64 label), (3, .int .i64 v), (10, .slice A_vs (gw * gh) c_vs), (11, .int .i64 gw), (33, .int .i64 (gw * gh : Nat)), (34, .int .i64 k)] ∧
    St No W w [.row 2 1 A_vs (gw * gh) c_vs (cellsQ (gw * gh) (fun i => if i < k then maskF cc L label v i else cc i))]) (gw * gh)
    ⟨0, by omega, ⟨rfl, rfl, rfl, rfl, rfl, rfl, rfl, trivial⟩, S⟩ ?_
  clear S
  rintro m e w ⟨k, hk, hsl, S⟩
  rw [hsl.fold]
  repeat refine cw_seq ?_
  refine cw_region ?_
  refine rw_v (op_pure rfl) ?_
  first | refine rw_end ?_ | (refine rw_nil ?_; show CW _ _ _ _ _ _) | refine rw_nil ?_
  repeat refine cw_seq ?_
  refine cw_cond rfl (fun hc => ?_) (fun hc => ?_)
  · try simp only [decide_eq_true_eq, decide_eq_false_iff_not, beq_iff_eq, bne_iff_ne, beq_eq_false_iff_ne, bne_eq_false_iff_eq, Bool.not_eq_true', Bool.not_eq_false', ne_eq, Decidable.not_not, Int.natCast_inj, Int.ofNat_lt, Int.ofNat_le, gt_iff_lt, ge_iff_le, Int.not_lt, Int.not_le] at hc
    have hkn : k < gw * gh := by omega
    have hget : (ints L)[(k : Int).toNat * 1]? = some (.int .i64 (L.getD k 0)) := by rw [Nat.mul_one, Int.toNat_natCast]; exact ints_get (getD_at (by omega))
    have sa_vs : SomeA A_vs := (S.row (i := 0) rfl).someA (by omega)
    by_cases hl : L.getD k 0 = label
    · skip
      repeat refine cw_seq ?_
      refine cw_skip ?_
      try show CW _ _ _ _ _ _
      repeat refine cw_seq ?_
      refine cw_block ?_
      repeat refine cw_seq ?_
      refine cw_region ?_
      iterate 2 refine rw_v (op_pure rfl) ?_
      first | refine rw_end ?_ | (refine rw_nil ?_; show CW _ _ _ _ _ _) | refine rw_nil ?_
      repeat refine cw_seq ?_
      refine cw_region ?_
      iterate 2 refine rw_v (op_pure rfl) ?_
      refine rw_v (op_idx Try.underlying22 Try.sizeOf2 rfl rfl sa_B (by omega) (by omega)) ?_
      refine rw_r (op_ldR Try.underlying2 rfl rfl (hB.gr S.out) hget) ?_
      refine rw_v (op_pure rfl) ?_
      refine rw_v (op_b (b := false) rfl (bne_eq_false_iff_eq.2 (by omega))) ?_
      first | refine rw_end ?_ | (refine rw_nil ?_; show CW _ _ _ _ _ _) | refine rw_nil ?_
      repeat refine cw_seq ?_
      refine cw_false rfl ?_
      repeat refine cw_seq ?_
      refine cw_skip ?_
      try show CW _ _ _ _ _ _
      repeat refine cw_seq ?_
      refine cw_region ?_
      refine rw_v (op_rng rfl (by omega)) ?_
      refine rw_v (op_pure rfl) ?_
      first | refine rw_end ?_ | (refine rw_nil ?_; show CW _ _ _ _ _ _) | refine rw_nil ?_
      rw [cellsQ_congr (o' := fun i => if i < k + 1 then maskF cc L label v i else cc i) (fun i hi => by
        (try dsimp only)
        by_cases e1 : i < k
        · rw [if_pos e1, if_pos (by omega)]
        · by_cases e2 : i = k
          · subst e2; rw [if_neg e1, if_pos (by omega)]; unfold maskF; rw [if_pos hl]
          · rw [if_neg e1, if_neg (by omega)])] at S
      exact ⟨m - 1, by omega, k + 1, by omega, ⟨rfl, rfl, rfl, rfl, rfl, rfl, ie (by omega), trivial⟩, S⟩
    · skip
      repeat refine cw_seq ?_
      refine cw_skip ?_
      try show CW _ _ _ _ _ _
      repeat refine cw_seq ?_
      refine cw_block ?_
      repeat refine cw_seq ?_
      refine cw_region ?_
      iterate 2 refine rw_v (op_pure rfl) ?_
      first | refine rw_end ?_ | (refine rw_nil ?_; show CW _ _ _ _ _ _) | refine rw_nil ?_
      repeat refine cw_seq ?_
      refine cw_region ?_
      iterate 2 refine rw_v (op_pure rfl) ?_
      refine rw_v (op_idx Try.underlying22 Try.sizeOf2 rfl rfl sa_B (by omega) (by omega)) ?_
      refine rw_r (op_ldR Try.underlying2 rfl rfl (hB.gr S.out) hget) ?_
      refine rw_v (op_pure rfl) ?_
      refine rw_v (op_b (b := true) rfl (bne_iff_ne.2 (by omega))) ?_
      first | refine rw_end ?_ | (refine rw_nil ?_; show CW _ _ _ _ _ _) | refine rw_nil ?_
      repeat refine cw_seq ?_
      refine cw_true rfl ?_
      repeat refine cw_seq ?_
      refine cw_region ?_
      iterate 3 refine rw_v (op_pure rfl) ?_
      refine rw_v (op_idx Try.underlying22 Try.sizeOf2 rfl rfl sa_vs (by omega) (by omega)) ?_
      refine rw_storeR (i := 0) S rfl (Try.sizeOf2 _) rfl rfl rfl rfl (by rw [cellsQ_len]; omega) rfl ?_
      intro w2_ S
      first | refine rw_end ?_ | (refine rw_nil ?_; show CW _ _ _ _ _ _) | refine rw_nil ?_
      repeat refine cw_seq ?_
      refine cw_region ?_
      refine rw_v (op_rng rfl (by omega)) ?_
      refine rw_v (op_pure rfl) ?_
      first | refine rw_end ?_ | (refine rw_nil ?_; show CW _ _ _ _ _ _) | refine rw_nil ?_
      rw [cellsQ_set, cellsQ_congr (o' := fun i => if i < k + 1 then maskF cc L label v i else cc i) (fun i hi => by
        unfold updI
        by_cases e2 : i = k
        · subst e2; rw [if_pos rfl, if_pos (by omega)]; unfold maskF; rw [if_neg hl]
        · rw [if_neg e2]
          (try dsimp only)
          by_cases e1 : i < k
          · rw [if_pos e1, if_pos (by omega)]
          · rw [if_neg e1, if_neg (by omega)])] at S
      exact ⟨m - 1, by omega, k + 1, by omega, ⟨rfl, rfl, rfl, rfl, rfl, rfl, ie (by omega), trivial⟩, S⟩
  · try simp only [decide_eq_true_eq, decide_eq_false_iff_not, beq_iff_eq, bne_iff_ne, beq_eq_false_iff_ne, bne_eq_false_iff_eq, Bool.not_eq_true', Bool.not_eq_false', ne_eq, Decidable.not_not, Int.natCast_inj, Int.ofNat_lt, Int.ofNat_le, gt_iff_lt, ge_iff_le, Int.not_lt, Int.not_le] at hc
    obtain rfl : k = gw * gh := by omega
    rw [cellsQ_congr (o' := maskF cc L label v) (fun i hi => by rw [if_pos hi]), cellsQ_ints] at S
    have S : St No W w [.row 2 1 A_vs (gw * gh) c_vs (ints (gridL gw gh (maskF cc L label v)))] := S
    have hfr := fun w h => from_E (W := w) (B := A_vs) (gw := gw) (gh := gh) c_vs hw hh (gridL_len gw gh (maskF cc L label v)) hmm h
    rw [gridL_len] at hfr
    repeat refine cw_seq ?_
    refine cw_exit ?_
    repeat first | refine exit_then ?_ | refine exit_inb ?_
    show CW _ _ _ _ _ _
    repeat refine cw_seq ?_
    refine cw_region ?_
    iterate 2 refine rw_v (op_pure rfl) ?_
    refine rw_v (op_len Try.underlying22 rfl) ?_
    refine rw_v (op_pure rfl) ?_
    refine rw_v (op_div rfl rfl (by omega) (by omega)) ?_
    rw [eq1]
    refine rw_v (op_pure rfl) ?_
    refine rw_call rfl (hfr w (S.rd (i := 0) rfl)) ?_
    rintro _ w3_ ⟨p2, B2, bc, bs2, Rs2, rfl, hG2, hf2, g3_⟩
    have S := S.pushGrid hG2 hf2 g3_
    iterate 4 refine rw_v (op_pure rfl) ?_
    first | refine rw_end ?_ | (refine rw_nil ?_; show CW _ _ _ _ _ _) | refine rw_nil ?_
    repeat refine cw_seq ?_
    refine cw_ret ?_
    repeat first | refine ret_then ?_ | refine ret_inb ?_
    exact res2 rfl rfl (S.retGrid (i := 0) rfl)
theorem zonesNil_E {n : Nat} (label v : Int) (hn : n ≤ 9223372036854775807) : Fn Try.prog 8 [.slice B n cb, .int .i64 label, .int .i64 v] W (RetG (.bool true) W) := by
  by_cases h : n ≤ 100
  · skip
    have S := St.start W
    refine Fn_enter Try.func8 rfl Try.results8 Try.ntmps8 (by kernel_rfl) (by kernel_rfl) ?_
    repeat refine cw_seq ?_
    refine cw_region ?_
    refine rw_v (op_pure rfl) ?_
    first | refine rw_end ?_ | (refine rw_nil ?_; show CW _ _ _ _ _ _) | refine rw_nil ?_
    repeat refine cw_seq ?_
    refine cw_region ?_
    refine rw_call rfl (awake49_E W) ?_
    rintro _ w1_ ⟨rfl, g1_⟩
    have S := S.gr g1_
    refine rw_v (op_pure rfl) ?_
    first | refine rw_end ?_ | (refine rw_nil ?_; show CW _ _ _ _ _ _) | refine rw_nil ?_
    repeat refine cw_seq ?_
    refine cw_false rfl ?_
    repeat refine cw_seq ?_
    refine cw_skip ?_
    try show CW _ _ _ _ _ _
    repeat refine cw_seq ?_
    refine cw_region ?_
    refine rw_v (op_pure rfl) ?_
    refine rw_v (op_len Try.underlying22 rfl) ?_
    refine rw_v (op_b (b := false) rfl (decide_eq_false (by omega))) ?_
    first | refine rw_end ?_ | (refine rw_nil ?_; show CW _ _ _ _ _ _) | refine rw_nil ?_
    repeat refine cw_seq ?_
    refine cw_false rfl ?_
    repeat refine cw_seq ?_
    refine cw_skip ?_
    try show CW _ _ _ _ _ _
    repeat refine cw_seq ?_
    refine cw_region ?_
    refine rw_v (op_pure rfl) ?_
    refine rw_call rfl (zofNil_E) ?_
    rintro _ w2_ ⟨rfl, g2_⟩
    have S := S.gr g2_
    iterate 5 refine rw_v (op_pure rfl) ?_
    first | refine rw_end ?_ | (refine rw_nil ?_; show CW _ _ _ _ _ _) | refine rw_nil ?_
    repeat refine cw_seq ?_
    refine cw_region ?_
    refine rw_v (op_pure rfl) ?_
    refine rw_call rfl (zbordNil_E) ?_
    rintro _ w3_ ⟨rfl, g3_⟩
    have S := S.gr g3_
    iterate 5 refine rw_v (op_pure rfl) ?_
    first | refine rw_end ?_ | (refine rw_nil ?_; show CW _ _ _ _ _ _) | refine rw_nil ?_
    repeat refine cw_seq ?_
    refine cw_region ?_
    iterate 3 refine rw_v (op_pure rfl) ?_
    refine rw_call rfl (zmaskNil_E label v) ?_
    rintro _ w4_ ⟨rfl, g4_⟩
    have S := S.gr g4_
    iterate 5 refine rw_v (op_pure rfl) ?_
    first | refine rw_end ?_ | (refine rw_nil ?_; show CW _ _ _ _ _ _) | refine rw_nil ?_
    repeat refine cw_seq ?_
    refine cw_region ?_
    refine rw_v (op_pure rfl) ?_
    refine rw_v (op_len Try.underlying52 rfl) ?_
    refine rw_v (op_b (b := true) rfl (beq_iff_eq.2 (by omega))) ?_
    refine rw_v (op_pure rfl) ?_
    first | refine rw_off rfl ?_ | (refine rw_on rfl ?_; refine rw_v (op_pure rfl) ?_)
    first | refine rw_off rfl ?_ | (refine rw_on rfl ?_; refine rw_v (op_b (b := true) rfl (beq_iff_eq.2 (by omega))) ?_)
    iterate 2 refine rw_v (op_pure rfl) ?_
    first | refine rw_off rfl ?_ | (refine rw_on rfl ?_; refine rw_v (op_pure rfl) ?_)
    first | refine rw_off rfl ?_ | (refine rw_on rfl ?_; refine rw_v (op_len Try.underlying61 rfl) ?_)
    first | refine rw_off rfl ?_ | (refine rw_on rfl ?_; refine rw_v (op_b (b := true) rfl (beq_iff_eq.2 (by omega))) ?_)
    iterate 2 refine rw_v (op_pure rfl) ?_
    first | refine rw_off rfl ?_ | (refine rw_on rfl ?_; refine rw_v (op_pure rfl) ?_)
    first | refine rw_off rfl ?_ | (refine rw_on rfl ?_; refine rw_v (op_b (b := true) rfl (beq_iff_eq.2 (by omega))) ?_)
    iterate 2 refine rw_v (op_pure rfl) ?_
    first | refine rw_off rfl ?_ | (refine rw_on rfl ?_; refine rw_v (op_pure rfl) ?_)
    first | refine rw_off rfl ?_ | (refine rw_on rfl ?_; refine rw_v (op_nilp Try.underlying28 rfl rfl) ?_)
    iterate 2 refine rw_v (op_pure rfl) ?_
    first | refine rw_off rfl ?_ | (refine rw_on rfl ?_; refine rw_v (op_pure rfl) ?_)
    first | refine rw_off rfl ?_ | (refine rw_on rfl ?_; refine rw_v (op_b (b := true) rfl (beq_iff_eq.2 (by omega))) ?_)
    iterate 2 refine rw_v (op_pure rfl) ?_
    first | refine rw_end ?_ | (refine rw_nil ?_; show CW _ _ _ _ _ _) | refine rw_nil ?_
    repeat refine cw_seq ?_
    refine cw_ret ?_
    repeat first | refine ret_then ?_ | refine ret_inb ?_
    exact res1 rfl ⟨rfl, S.out⟩
  · skip
    have S := St.start W
    refine Fn_enter Try.func8 rfl Try.results8 Try.ntmps8 (by kernel_rfl) (by kernel_rfl) ?_
    repeat refine cw_seq ?_
    refine cw_region ?_
    refine rw_v (op_pure rfl) ?_
    first | refine rw_end ?_ | (refine rw_nil ?_; show CW _ _ _ _ _ _) | refine rw_nil ?_
    repeat refine cw_seq ?_
    refine cw_region ?_
    refine rw_call rfl (awake49_E W) ?_
    rintro _ w1_ ⟨rfl, g1_⟩
    have S := S.gr g1_
    refine rw_v (op_pure rfl) ?_
    first | refine rw_end ?_ | (refine rw_nil ?_; show CW _ _ _ _ _ _) | refine rw_nil ?_
    repeat refine cw_seq ?_
    refine cw_false rfl ?_
    repeat refine cw_seq ?_
    refine cw_skip ?_
    try show CW _ _ _ _ _ _
    repeat refine cw_seq ?_
    refine cw_region ?_
    refine rw_v (op_pure rfl) ?_
    refine rw_v (op_len Try.underlying22 rfl) ?_
    refine rw_v (op_b (b := true) rfl (decide_eq_true (by omega))) ?_
    first | refine rw_end ?_ | (refine rw_nil ?_; show CW _ _ _ _ _ _) | refine rw_nil ?_
    repeat refine cw_seq ?_
    refine cw_true rfl ?_
    repeat refine cw_seq ?_
    refine cw_region ?_
    refine rw_v (op_pure rfl) ?_
    first | refine rw_end ?_ | (refine rw_nil ?_; show CW _ _ _ _ _ _) | refine rw_nil ?_
    repeat refine cw_seq ?_
    refine cw_ret ?_
    repeat first | refine ret_then ?_ | refine ret_inb ?_
    exact res1 rfl ⟨rfl, S.out⟩
end
end Go.Proofs.Yteihfmifelcidaa
/- Sums over zones, in plain Lean. -/
namespace Go.Proofs.Yteihfmifelcidaa
def arN (L : List Int) : Nat → Int
  | 0 => 0
  | i + 1 => if L.getD i 0 ≠ 0 then arN L i + 1 else arN L i
def smN (V L : List Int) : Nat → Int
  | 0 => 0
  | i + 1 => if L.getD i 0 ≠ 0 then smN V L i + V.getD i 0 else smN V L i
def arT (l : List Zn) (i : Nat) : Int := ((l.take i).map Zn.ar).sum
def smT (l : List Zn) (i : Nat) : Int := ((l.take i).map Zn.sm).sum
theorem arT_succ {l : List Zn} {i : Nat} {z : Zn} (h : l[i]? = some z) : arT l (i + 1) = arT l i + z.ar := by
  unfold arT
  rw [List.take_add_one, h]
  simp
theorem smT_succ {l : List Zn} {i : Nat} {z : Zn} (h : l[i]? = some z) : smT l (i + 1) = smT l i + z.sm := by
  unfold smT
  rw [List.take_add_one, h]
  simp
theorem sum_updN {S : List Int} (hS : S.Nodup) (f : Int → Int) (x d : Int) : (S.map fun a => f a + if x = a then d else 0).sum = (S.map f).sum + if x ∈ S then d else 0 := by
  induction S with
  | nil => simp
  | cons b S ih =>
    rw [List.nodup_cons] at hS
    rw [List.map_cons, List.map_cons, List.sum_cons, List.sum_cons, ih hS.2]
    by_cases e : x = b
    · subst e
      rw [if_pos rfl, if_neg hS.1, if_pos (List.mem_cons_self)]
      omega
    · rw [if_neg e]
      by_cases h : x ∈ S
      · rw [if_pos h, if_pos (List.mem_cons_of_mem _ h)]; omega
      · rw [if_neg h, if_neg (fun hh => (List.mem_cons.1 hh).elim e h)]; omega
theorem znN_ar {V L : List Int} {a : Int} {i : Nat} : (znN V L a (i + 1)).ar = (znN V L a i).ar + if L.getD i 0 = a then 1 else 0 := by
  show (if _ then _ else _ : Zn).ar = _
  split
  · unfold znAdd; split
    · rename_i h; rw [h]; rfl
    · rfl
  · omega
theorem znN_sm {V L : List Int} {a : Int} {i : Nat} : (znN V L a (i + 1)).sm = (znN V L a i).sm + if L.getD i 0 = a then V.getD i 0 else 0 := by
  show (if _ then _ else _ : Zn).sm = _
  split
  · unfold znAdd; split <;> rfl
  · omega
theorem sums_all {V L : List Int} {n : Nat} : arT ((refLab L n).map fun a => znN V L a n) (refLab L n).length = arN L n ∧ smT ((refLab L n).map fun a => znN V L a n) (refLab L n).length = smN V L n := by
  have hnd : (refLab L n).Nodup := ((refLab_spec (L := L) n).1).imp fun h e => by omega
  have hmem : ∀ i, i < n → (L.getD i 0 ∈ refLab L n ↔ L.getD i 0 ≠ 0) := fun i hi => by
    rw [(refLab_spec n).2, mem_labsN]
    exact ⟨fun h => h.1, fun h => ⟨h, i, hi, rfl⟩⟩
  unfold arT smT
  rw [List.take_of_length_le (by simp), List.map_map, List.map_map]
  generalize refLab L n = S at *
  have key : ∀ k, k ≤ n → (S.map fun a => (znN V L a k).ar).sum = arN L k ∧ (S.map fun a => (znN V L a k).sm).sum = smN V L k := by
    intro k
    induction k with
    | zero =>
      intro _
      have : ∀ S : List Int, (S.map fun _ => (0 : Int)).sum = 0 := fun S => by
        induction S with
        | nil => rfl
        | cons a S ih => rw [List.map_cons, List.sum_cons, ih]; rfl
      exact ⟨this S, this S⟩
    | succ k ih =>
      intro hk
      obtain ⟨h1, h2⟩ := ih (by omega)
      have hm := hmem k (by omega)
      refine ⟨?_, ?_⟩
      · simp only [znN_ar]
        rw [sum_updN hnd (fun a => (znN V L a k).ar), h1]
        show _ = if _ then _ else _
        by_cases h0 : L.getD k 0 ≠ 0
        · rw [if_pos h0, if_pos (hm.2 h0)]
        · rw [if_neg h0, if_neg (fun h => h0 (hm.1 h))]; omega
      · simp only [znN_sm]
        rw [sum_updN hnd (fun a => (znN V L a k).sm), h2]
        show _ = if _ then _ else _
        by_cases h0 : L.getD k 0 ≠ 0
        · rw [if_pos h0, if_pos (hm.2 h0)]
        · rw [if_neg h0, if_neg (fun h => h0 (hm.1 h))]; omega
  exact key n (Nat.le_refl _)
theorem arN_bnd {L : List Int} : ∀ n : Nat, 0 ≤ arN L n ∧ arN L n ≤ n
  | 0 => by simp [arN]
  | n + 1 => by
    have := arN_bnd (L := L) n
    unfold arN
    split <;> omega
theorem smN_bnd {V L : List Int} (hV : ∀ j, -2147483648 ≤ V.getD j 0 ∧ V.getD j 0 ≤ 2147483647) : ∀ n : Nat, -2147483648 * (n : Int) ≤ smN V L n ∧ smN V L n ≤ 2147483648 * (n : Int)
  | 0 => by simp [smN]
  | n + 1 => by
    have := smN_bnd (L := L) hV n
    have := hV n
    unfold smN
    split <;> omega
theorem refLab_leng {L : List Int} : ∀ n, (refLab L n).length ≤ n
  | 0 => by simp [refLab]
  | n + 1 => by
    have ih := refLab_leng (L := L) n
    have := List.takeWhile_sublist (l := refLab L n) (p := fun a => decide (a < L.getD n 0)) |>.length_le
    unfold refLab insL
    split
    · omega
    · simp; omega
end Go.Proofs.Yteihfmifelcidaa
/- regions.Of: labels and parts. -/
namespace Go.Proofs.Yteihfmifelcidaa
open Go.RowKit
set_option linter.unusedVariables false
set_option linter.unusedSimpArgs false
set_option maxRecDepth 100000

/-! ### Rectangles and parts -/
structure RV where
  x0 : Int
  y0 : Int
  x1 : Int
  y1 : Int
  deriving DecidableEq
def RV.cells (r : RV) : List Value := [.int .i64 r.x0, .int .i64 r.y0, .int .i64 r.x1, .int .i64 r.y1]
def hullR (a b : RV) : RV := ⟨min a.x0 b.x0, min a.y0 b.y0, max a.x1 b.x1, max a.y1 b.y1⟩
def spotR (gw i : Nat) : RV := ⟨(i % gw : Nat), (i / gw : Nat), (i % gw : Nat), (i / gw : Nat)⟩
structure PV where
  lab : Int
  area : Int
  x : Int
  y : Int
  box : RV
  deriving DecidableEq
def PV.cells (p : PV) : List Value := [.int .i64 p.lab, .int .i64 p.area, .int .i64 p.x, .int .i64 p.y, .int .i64 p.box.x0, .int .i64 p.box.y0, .int .i64 p.box.x1, .int .i64 p.box.y1]
def partsV (l : List PV) : List Value := l.flatMap PV.cells
theorem partsV_len (l : List PV) : (partsV l).length = l.length * 8 := flatMap_len (f := PV.cells) (fun _ => rfl) l
def RV.right (r : RV) : Prop := 0 ≤ r.x0 ∧ r.x0 ≤ r.x1 ∧ r.x1 < 1024 ∧ 0 ≤ r.y0 ∧ r.y0 ≤ r.y1 ∧ r.y1 < 1024
theorem hullR_right {a b : RV} (ha : a.right) (hb : b.right) : (hullR a b).right := by
  unfold RV.right hullR at *; dsimp only; omega
theorem spotR_right {gw gh i : Nat} (hw : 1 ≤ gw ∧ gw ≤ 1024) (hh : gh ≤ 1024) (hi : i < gw * gh) : (spotR gw i).right := by
  have h1 : i % gw < gw := Nat.mod_lt _ (by omega)
  have h2 : i / gw < gh := Nat.div_lt_of_lt_mul hi
  unfold RV.right spotR
  dsimp only
  generalize i % gw = p at *
  generalize i / gw = q at *
  omega
theorem hull_E (a b : RV) (ha : a.right) (hb : b.right) (W : World) : Fn Try.prog 65 [.agg #[.int .i64 a.x0, .int .i64 a.y0, .int .i64 a.x1, .int .i64 a.y1], .agg #[.int .i64 b.x0, .int .i64 b.y0, .int .i64 b.x1, .int .i64 b.y1]] W
    (RetG (.agg #[.int .i64 (hullR a b).x0, .int .i64 (hullR a b).y0, .int .i64 (hullR a b).x1, .int .i64 (hullR a b).y1]) W) := by
  have hra : rightB a.x0 a.y0 a.x1 a.y1 = true := (rightB_iff _ _ _ _).2 ha
  have hrb : rightB b.x0 b.y0 b.x1 b.y1 = true := (rightB_iff _ _ _ _).2 hb
  have S := St.start W
  refine Fn_enter Try.func65 rfl Try.results65 Try.ntmps65 (by kernel_rfl) (by kernel_rfl) ?_
  repeat refine cw_seq ?_
  refine cw_region ?_
  refine rw_newB (op_box rfl) S ?_
  intro b_ra w2_ g2_ S
  refine rw_newB (op_box rfl) S ?_
  intro b_rb w4_ g4_ S
  refine rw_newB (op_alloc Try.zeroValue81 rfl) S ?_
  intro b_b5 w6_ g6_ S
  first | refine rw_end ?_ | (refine rw_nil ?_; show CW _ _ _ _ _ _) | refine rw_nil ?_
  repeat refine cw_seq ?_
  refine cw_block ?_
  repeat refine cw_seq ?_
  refine cw_region ?_
  refine rw_r (op_loadAB Try.underlying81 rfl (Try.sizeOf81 _) rfl (S.blk (i := 2) rfl) rfl rfl) ?_
  refine rw_call rfl (right_E _ _ _ _ w6_) ?_
  rintro _ w7_ ⟨rfl, g7_⟩
  have S := S.gr g7_
  rw [hra]
  iterate 2 refine rw_v (op_pure rfl) ?_
  first | refine rw_off rfl ?_ | (refine rw_on rfl ?_; refine rw_r (op_loadAB Try.underlying81 rfl (Try.sizeOf81 _) rfl (S.blk (i := 1) rfl) rfl rfl) ?_)
  refine rw_off rfl ?_
  first | refine rw_off rfl ?_ | (refine rw_on rfl ?_; refine rw_v (op_pure rfl) ?_)
  iterate 2 refine rw_v (op_pure rfl) ?_
  first | refine rw_end ?_ | (refine rw_nil ?_; show CW _ _ _ _ _ _) | refine rw_nil ?_
  repeat refine cw_seq ?_
  refine cw_false rfl ?_
  repeat refine cw_seq ?_
  refine cw_region ?_
  refine rw_r (op_loadAB Try.underlying81 rfl (Try.sizeOf81 _) rfl (S.blk (i := 2) rfl) rfl rfl) ?_
  refine rw_call rfl (right_E _ _ _ _ w7_) ?_
  rintro _ w8_ ⟨rfl, g8_⟩
  have S := S.gr g8_
  rw [hra]
  iterate 2 refine rw_v (op_pure rfl) ?_
  first | refine rw_end ?_ | (refine rw_nil ?_; show CW _ _ _ _ _ _) | refine rw_nil ?_
  repeat refine cw_seq ?_
  refine cw_false rfl ?_
  repeat refine cw_seq ?_
  refine cw_region ?_
  refine rw_r (op_loadAB Try.underlying81 rfl (Try.sizeOf81 _) rfl (S.blk (i := 1) rfl) rfl rfl) ?_
  refine rw_call rfl (right_E _ _ _ _ w8_) ?_
  rintro _ w9_ ⟨rfl, g9_⟩
  have S := S.gr g9_
  rw [hrb]
  iterate 2 refine rw_v (op_pure rfl) ?_
  first | refine rw_end ?_ | (refine rw_nil ?_; show CW _ _ _ _ _ _) | refine rw_nil ?_
  repeat refine cw_seq ?_
  refine cw_false rfl ?_
  repeat refine cw_seq ?_
  refine cw_skip ?_
  try show CW _ _ _ _ _ _
  repeat refine cw_seq ?_
  refine cw_region ?_
  refine rw_v (op_fieldAddr Try.underlying81 rfl Try.sizeOf2 rfl rfl) ?_
  refine rw_r (op_loadB Try.underlying2 rfl rfl (S.blk (i := 2) rfl) rfl) ?_
  refine rw_v (op_fieldAddr Try.underlying81 rfl Try.sizeOf2 rfl rfl) ?_
  refine rw_r (op_loadB Try.underlying2 rfl rfl (S.blk (i := 1) rfl) rfl) ?_
  refine rw_v (op_pure rfl) ?_
  refine rw_v (op_fieldAddr Try.underlying81 rfl Try.sizeOf2 rfl rfl) ?_
  refine rw_r (op_loadB Try.underlying2 rfl rfl (S.blk (i := 2) rfl) rfl) ?_
  refine rw_v (op_fieldAddr Try.underlying81 rfl Try.sizeOf2 rfl rfl) ?_
  refine rw_r (op_loadB Try.underlying2 rfl rfl (S.blk (i := 1) rfl) rfl) ?_
  refine rw_v (op_pure rfl) ?_
  refine rw_v (op_fieldAddr Try.underlying81 rfl Try.sizeOf2 rfl rfl) ?_
  refine rw_r (op_loadB Try.underlying2 rfl rfl (S.blk (i := 2) rfl) rfl) ?_
  refine rw_v (op_fieldAddr Try.underlying81 rfl Try.sizeOf2 rfl rfl) ?_
  refine rw_r (op_loadB Try.underlying2 rfl rfl (S.blk (i := 1) rfl) rfl) ?_
  refine rw_v (op_pure rfl) ?_
  refine rw_v (op_fieldAddr Try.underlying81 rfl Try.sizeOf2 rfl rfl) ?_
  refine rw_r (op_loadB Try.underlying2 rfl rfl (S.blk (i := 2) rfl) rfl) ?_
  refine rw_v (op_fieldAddr Try.underlying81 rfl Try.sizeOf2 rfl rfl) ?_
  refine rw_r (op_loadB Try.underlying2 rfl rfl (S.blk (i := 1) rfl) rfl) ?_
  refine rw_v (op_pure rfl) ?_
  refine rw_v (op_build (pl := [(0, 1), (1, 1), (2, 1), (3, 1)]) Try.underlying81 Try.zeroValue81 (fun w => by kernel_rfl) rfl rfl) ?_
  refine rw_storeSA (i := 0) S rfl (Try.sizeOf81 _) rfl rfl rfl rfl rfl rfl ?_
  intro w10_ S
  first | refine rw_end ?_ | (refine rw_nil ?_; show CW _ _ _ _ _ _) | refine rw_nil ?_
  repeat refine cw_seq ?_
  refine cw_ret ?_
  repeat first | refine ret_then ?_ | refine ret_inb ?_
  exact resA Try.underlying81 rfl (Try.sizeOf81 _) rfl (S.blk (i := 0) rfl) rfl rfl ⟨rfl, S.out⟩

/-! ### Lists -/
theorem flatMap_put {α β : Type} {f : α → List β} {m : Nat} (hf : ∀ a, (f a).length = m) : ∀ {l : List α} {k : Nat} {a a' : α} {d : Nat} {cs : List β}, l[k]? = some a → d + cs.length ≤ m → f a' = (f a).take d ++ cs ++ (f a).drop (d + cs.length) →
    (l.flatMap f).take (k * m + d) ++ cs ++ (l.flatMap f).drop (k * m + d + cs.length) = (l.set k a').flatMap f
  | [], k, a, a', d, cs, h, _, _ => by cases h
  | b :: l, 0, a, a', d, cs, h, hd, e => by
    obtain rfl : b = a := by simpa using h
    have hb := hf b
    simp only [Nat.zero_mul, Nat.zero_add, List.flatMap_cons, List.set_cons_zero]
    rw [List.take_append_of_le_length (by omega), List.drop_append_of_le_length (by omega), e]
    simp only [List.append_assoc]
  | b :: l, k + 1, a, a', d, cs, h, hd, e => by
    have ih := flatMap_put hf (l := l) (k := k) (a := a) (a' := a') (d := d) (cs := cs) (by simpa using h) hd e
    have hb := hf b
    simp only [List.flatMap_cons, List.set_cons_succ]
    rw [← ih, Nat.succ_mul, show k * m + m + d = m + (k * m + d) by omega, show m + (k * m + d) + cs.length = m + (k * m + d + cs.length) by omega]
    rw [List.take_append, List.drop_append, hb]
    rw [List.take_of_length_le (by omega), List.drop_of_length_le (by omega)]
    simp only [show m + (k * m + d) - m = k * m + d by omega, show m + (k * m + d + cs.length) - m = k * m + d + cs.length by omega, List.nil_append, List.append_assoc]
theorem set_take {α : Type} {l : List α} {k : Nat} {v : α} (h : k < l.length) : l.set k v = l.take k ++ [v] ++ l.drop (k + 1) := by
  rw [List.set_eq_take_append_cons_drop, if_pos h]; simp
theorem filter_range_get {p : Nat → Bool} {q k : Nat} (hq : q < k) (hp : p q = true) : ((List.range k).filter p)[((List.range q).filter p).length]? = some q := by
  have e : k = q + (1 + (k - q - 1)) := by omega
  rw [e, List.range_add, List.filter_append, List.getElem?_append_right (Nat.le_refl _), Nat.sub_self, Nat.add_comm 1, List.range_succ_eq_map]
  simp [hp]

/-! ### Roots, labels, parts -/
structure Roots (gw : Nat) (V : List Int) (t : Int) (r : Nat → Nat) : Prop where
  le : ∀ i, i < V.length → r i ≤ i
  idem : ∀ i, i < V.length → r (r i) = r i
  conn : ∀ i, i < V.length → Conn gw V t i (r i)
  left : ∀ i, i < V.length → t ≤ V.getD i 0 → 0 < i % gw → t ≤ V.getD (i - 1) 0 → r i = r (i - 1)
  up : ∀ i, i < V.length → t ≤ V.getD i 0 → gw ≤ i → t ≤ V.getD (i - gw) 0 → r i = r (i - gw)
theorem SetsOk.roots {gw : Nat} {V : List Int} {t : Int} {f : Nat → Nat} (h : SetsOk gw V t V.length f) : Roots gw V t (rootF f) :=
  ⟨fun i _ => rootF_le f i, fun i _ => rootF_root f i, h.conn, h.left, h.up⟩
theorem Conn.ge {gw : Nat} {V : List Int} {t : Int} {i j : Nat} (h : Conn gw V t i j) (hi : t ≤ V.getD i 0) : t ≤ V.getD j 0 := by
  induction h with
  | refl => exact hi
  | step a _ ih => exact ih a.2.2.2.1
def isRoot (V : List Int) (t : Int) (r : Nat → Nat) (q : Nat) : Bool := decide (t ≤ V.getD q 0) && decide (r q = q)
def rootsL (V : List Int) (t : Int) (r : Nat → Nat) (k : Nat) : List Nat := (List.range k).filter (isRoot V t r)
def cntR (V : List Int) (t : Int) (r : Nat → Nat) (k : Nat) : Nat := (rootsL V t r k).length
def labF (V : List Int) (t : Int) (r : Nat → Nat) (i : Nat) : Nat := if t ≤ V.getD i 0 then cntR V t r (r i) + 1 else 0
def memB (V : List Int) (t : Int) (r : Nat → Nat) (q i : Nat) : Bool := decide (t ≤ V.getD i 0) && decide (r i = q)
def members (V : List Int) (t : Int) (r : Nat → Nat) (q k : Nat) : List Nat := (List.range k).filter (memB V t r q)
def partAt (gw : Nat) (V : List Int) (t : Int) (r : Nat → Nat) (k q : Nat) : PV :=
  ⟨(cntR V t r q + 1 : Nat), ((members V t r q k).length : Nat), (q % gw : Nat), (q / gw : Nat), (members V t r q k).foldl (fun b i => hullR b (spotR gw i)) (spotR gw q)⟩
def partsAt (gw : Nat) (V : List Int) (t : Int) (r : Nat → Nat) (k : Nat) : List PV := (rootsL V t r k).map (partAt gw V t r k)
theorem rootsL_succ (V : List Int) (t : Int) (r : Nat → Nat) (k : Nat) : rootsL V t r (k + 1) = if isRoot V t r k then rootsL V t r k ++ [k] else rootsL V t r k := by
  unfold rootsL
  rw [List.range_succ, List.filter_append]
  by_cases h : isRoot V t r k = true
  · rw [if_pos h]; simp [h]
  · rw [if_neg h]; simp [h]
theorem members_succ (V : List Int) (t : Int) (r : Nat → Nat) (q k : Nat) : members V t r q (k + 1) = if memB V t r q k then members V t r q k ++ [k] else members V t r q k := by
  unfold members
  rw [List.range_succ, List.filter_append]
  by_cases h : memB V t r q k = true
  · rw [if_pos h]; simp [h]
  · rw [if_neg h]; simp [h]
theorem partAt_skip {gw : Nat} {V : List Int} {t : Int} {r : Nat → Nat} {k q : Nat} (h : memB V t r q k = false) : partAt gw V t r (k + 1) q = partAt gw V t r k q := by
  unfold partAt; rw [members_succ, if_neg (by simp [h])]
theorem partAt_add {gw : Nat} {V : List Int} {t : Int} {r : Nat → Nat} {k q : Nat} (h : memB V t r q k = true) :
    partAt gw V t r (k + 1) q = { partAt gw V t r k q with area := (partAt gw V t r k q).area + 1, box := hullR (partAt gw V t r k q).box (spotR gw k) } := by
  unfold partAt; rw [members_succ, if_pos h, List.foldl_append, List.length_append]; simp
theorem rootsL_mem {V : List Int} {t : Int} {r : Nat → Nat} {k q : Nat} : q ∈ rootsL V t r k ↔ q < k ∧ isRoot V t r q = true := by unfold rootsL; rw [List.mem_filter, List.mem_range]
theorem rootsL_nodup (V : List Int) (t : Int) (r : Nat → Nat) (k : Nat) : (rootsL V t r k).Nodup := List.Pairwise.filter _ List.nodup_range
theorem cntR_mono {V : List Int} {t : Int} {r : Nat → Nat} {a b : Nat} (h : a ≤ b) : cntR V t r a ≤ cntR V t r b := by
  unfold cntR rootsL
  have e : b = a + (b - a) := by omega
  rw [e, List.range_add, List.filter_append, List.length_append]
  omega
theorem cntR_le (V : List Int) (t : Int) (r : Nat → Nat) (k : Nat) : cntR V t r k ≤ k := by
  unfold cntR rootsL
  exact Nat.le_trans (List.length_filter_le _ _) (by simp)
theorem map_set_nodup {α β : Type} [DecidableEq α] {l : List α} {f g : α → β} {k : Nat} {q : α} (hn : l.Nodup) (hk : l[k]? = some q) (h : ∀ x ∈ l, x ≠ q → g x = f x) : (l.map f).set k (g q) = l.map g := by
  apply List.ext_getElem?
  intro i
  rw [List.getElem?_set]
  have hkl := (List.getElem?_eq_some_iff.1 hk).1
  by_cases e : k = i
  · subst e; rw [if_pos rfl, List.length_map, if_pos hkl, List.getElem?_map, hk]; rfl
  · rw [if_neg e, List.getElem?_map, List.getElem?_map]
    cases hi : l[i]? with
    | none => rfl
    | some x =>
      have hx := List.mem_of_getElem? hi
      have hne : x ≠ q := by
        rintro rfl
        have hil := (List.getElem?_eq_some_iff.1 hi).1
        have h1 := (List.getElem?_eq_some_iff.1 hi).2
        have h2 := (List.getElem?_eq_some_iff.1 hk).2
        exact e ((List.getElem_inj hn).1 (h2.trans h1.symm))
      simp only [Option.map_some, h x hx hne]
/-- a cell that is its set's first one: a new part -/
theorem partsAt_new {gw : Nat} {V : List Int} {t : Int} {r : Nat → Nat} {k : Nat} (hle : ∀ i, i ≤ k → r i ≤ i) (hv : t ≤ V.getD k 0) (hr : r k = k) :
    partsAt gw V t r (k + 1) = partsAt gw V t r k ++ [partAt gw V t r (k + 1) k] ∧ partAt gw V t r k k = ⟨(cntR V t r k + 1 : Nat), 0, (k % gw : Nat), (k / gw : Nat), spotR gw k⟩ := by
  have hroot : isRoot V t r k = true := by unfold isRoot; simp only [Bool.and_eq_true, decide_eq_true_eq]; exact ⟨hv, hr⟩
  constructor
  · unfold partsAt
    rw [rootsL_succ, if_pos hroot, List.map_append, List.map_singleton]
    congr 1
    refine List.map_congr_left fun q hq => partAt_skip ?_
    have := (rootsL_mem.1 hq).1
    unfold memB
    simp only [Bool.and_eq_false_iff, decide_eq_false_iff_not]
    right; omega
  · have : members V t r k k = [] := by
      unfold members
      rw [List.filter_eq_nil_iff]
      intro i hi
      have := hle i (by have := List.mem_range.1 hi; omega)
      have := List.mem_range.1 hi
      unfold memB
      simp only [Bool.and_eq_true, decide_eq_true_eq]
      omega
    unfold partAt
    rw [this]
    rfl
/-- a further cell of a set -/
theorem partsAt_more {gw : Nat} {V : List Int} {t : Int} {r : Nat → Nat} {k q : Nat} (hr : r k = q) (hq : q < k) (hrq : r q = q) (hvq : t ≤ V.getD q 0) :
    partsAt gw V t r (k + 1) = (partsAt gw V t r k).set (cntR V t r q) (partAt gw V t r (k + 1) q) ∧ (partsAt gw V t r k)[cntR V t r q]? = some (partAt gw V t r k q) := by
  have hroot : isRoot V t r q = true := by unfold isRoot; simp only [Bool.and_eq_true, decide_eq_true_eq]; exact ⟨hvq, hrq⟩
  have hnot : isRoot V t r k = false := by unfold isRoot; simp only [Bool.and_eq_false_iff, decide_eq_false_iff_not]; right; omega
  have hidx : (rootsL V t r k)[cntR V t r q]? = some q := filter_range_get hq hroot
  constructor
  · unfold partsAt
    rw [rootsL_succ, if_neg (by simp [hnot])]
    symm
    refine map_set_nodup (rootsL_nodup _ _ _ _) hidx fun x hx hne => partAt_skip ?_
    unfold memB
    simp only [Bool.and_eq_false_iff, decide_eq_false_iff_not]
    right
    rw [hr]
    exact fun e => hne e.symm
  · unfold partsAt
    rw [List.getElem?_map, hidx]; rfl
/-- a cell that isn't high enough -/
theorem partsAt_skip {gw : Nat} {V : List Int} {t : Int} {r : Nat → Nat} {k : Nat} (hv : ¬ t ≤ V.getD k 0) : partsAt gw V t r (k + 1) = partsAt gw V t r k := by
  unfold partsAt
  rw [rootsL_succ, if_neg (by unfold isRoot; simp only [Bool.and_eq_true, decide_eq_true_eq]; exact fun h => hv h.1)]
  refine List.map_congr_left fun q _ => partAt_skip ?_
  unfold memB
  simp only [Bool.and_eq_false_iff, decide_eq_false_iff_not]
  exact .inl hv
theorem partAt_right {gw gh : Nat} {V : List Int} {t : Int} {r : Nat → Nat} {k q : Nat} (hw : 1 ≤ gw ∧ gw ≤ 1024) (hh : gh ≤ 1024) (hV : V.length = gw * gh) (hk : k ≤ V.length) (hq : q < V.length) : (partAt gw V t r k q).box.right := by
  unfold partAt
  have key : ∀ (l : List Nat) (b : RV), (∀ i ∈ l, i < V.length) → b.right → (l.foldl (fun b i => hullR b (spotR gw i)) b).right := by
    intro l
    induction l with
    | nil => intro b _ hb; exact hb
    | cons a l ih => intro b hl hb; exact ih _ (fun i hi => hl i (List.mem_cons_of_mem _ hi)) (hullR_right hb (spotR_right hw hh (hV ▸ hl a (by simp))))
  refine key _ _ (fun i hi => ?_) (spotR_right hw hh (hV ▸ hq))
  unfold members at hi
  have := List.mem_range.1 (List.mem_filter.1 hi).1
  omega
theorem replicate_cellsN (n : Nat) : List.replicate n (Value.int .i64 0) = cellsN n (fun _ => 0) := by
  symm; rw [List.eq_replicate_iff]
  refine ⟨cellsN_len _ _, fun v hv => ?_⟩
  obtain ⟨i, _, rfl⟩ := List.mem_map.1 hv
  rfl
theorem partsV_put {l : List PV} {k : Nat} {a a' : PV} {d : Nat} {cs : List Value} (h : l[k]? = some a) (hd : d + cs.length ≤ 8) (e : a'.cells = a.cells.take d ++ cs ++ a.cells.drop (d + cs.length)) :
    (partsV l).take (k * 8 + d) ++ cs ++ (partsV l).drop (k * 8 + d + cs.length) = partsV (l.set k a') := flatMap_put (f := PV.cells) (fun _ => rfl) h hd e
theorem partsV_get {l : List PV} {k : Nat} {a : PV} (h : l[k]? = some a) {j : Nat} (hj : j < 8) : (partsV l)[k * 8 + j]? = a.cells[j]? := flatMap_get (f := PV.cells) (m := 8) (fun _ => rfl) h hj
theorem partsV_box {l : List PV} {k : Nat} {a : PV} (h : l[k]? = some a) : ((partsV l).drop (k * 8 + 4)).take 4 = a.box.cells := by
  have := flatMap_part (f := PV.cells) (m := 8) (fun _ => rfl) l k a 4 4 h (by omega)
  exact this
/-- what regions.Of tells -/
def RetRegs (gw gh : Nat) (V : List Int) (t : Int) (W : World) (v : Value) (w' : World) : Prop := ∃ r, Roots gw V t r ∧ ∃ A1 c1 A2 c2, v = .tuple #[.slice A1 V.length c1, .slice A2 (cntR V t r V.length) c2, .int .i64 0] ∧
  Row w' 2 1 A1 V.length c1 (cellsN V.length (labF V t r)) ∧ Row w' 83 8 A2 (cntR V t r V.length) c2 (partsV (partsAt gw V t r V.length)) ∧ FreshA W A1 ∧ FreshA W A2 ∧ Gr W w'
section
variable {W : World} {A : Option Addr} {p gw gh cap : Nat}
set_option maxHeartbeats 4000000 in
theorem regionsOf_E {cc : Nat → Int} {bs : Nat → Nat} {Rs : Nat → Option Nat} (t : Int) (hG : GridAt W p gw gh cc A cap bs Rs) :
    Fn Try.prog 33 [.pointer (some ⟨p, 0, none⟩), .int .i64 t] W (RetRegs gw gh (gridL gw gh cc) t W) := by
  have hw := hG.sw
  have hh := hG.sh
  have hlen := gridL_len gw gh cc
  have hm : 1 ≤ gw * gh ∧ gw * gh ≤ 1024 * 1024 := ⟨Nat.mul_le_mul hw.1 hh.1, Nat.mul_le_mul hw.2 hh.2⟩
  have hgwV : gw ≤ gw * gh := Nat.le_mul_of_pos_right _ (by omega)
  have hreg := regof_E hG
  rw [← hlen] at hreg
  have hVg : (gridL gw gh cc).length = gw * gh := hlen
  generalize gridL gw gh cc = V at *
  have hget : ∀ i, i < V.length → (ints V)[(i : Int).toNat * 1]? = some (.int .i64 (V.getD i 0)) := fun i hi => by rw [Nat.mul_one, Int.toNat_natCast]; exact ints_get (getD_at hi)
  have S := St.start W
  refine Fn_enter Try.func33 rfl Try.results33 Try.ntmps33 (by kernel_rfl) (by kernel_rfl) ?_
  repeat refine cw_seq ?_
  refine cw_region ?_
  iterate 3 refine rw_v (op_pure rfl) ?_
  first | refine rw_end ?_ | (refine rw_nil ?_; show CW _ _ _ _ _ _) | refine rw_nil ?_
  repeat refine cw_seq ?_
  refine cw_region ?_
  refine rw_v (op_pure rfl) ?_
  refine rw_call rfl (hreg) ?_
  rintro _ w1_ ⟨A_vs, c_vs, rfl, hR_vs, hf_vs, g1_⟩
  have S := S.pushRow hR_vs hf_vs g1_
  iterate 3 refine rw_v (op_pure rfl) ?_
  refine rw_newB (op_alloc Try.zeroValue110 rfl) S ?_
  intro b_l w3_ g3_ S
  refine rw_storeSA (i := 0) S rfl (Try.sizeOf110 _) rfl rfl rfl rfl rfl rfl ?_
  intro w4_ S
  refine rw_v (op_pure rfl) ?_
  first | refine rw_end ?_ | (refine rw_nil ?_; show CW _ _ _ _ _ _) | refine rw_nil ?_
  repeat refine cw_seq ?_
  refine cw_region ?_
  refine rw_v (op_pure rfl) ?_
  refine rw_v (op_b (b := false) rfl (bne_eq_false_iff_eq.2 (by omega))) ?_
  first | refine rw_end ?_ | (refine rw_nil ?_; show CW _ _ _ _ _ _) | refine rw_nil ?_
  repeat refine cw_seq ?_
  refine cw_false rfl ?_
  repeat refine cw_seq ?_
  refine cw_skip ?_
  try show CW _ _ _ _ _ _
  repeat refine cw_seq ?_
  refine cw_region ?_
  refine rw_r (op_loadAB Try.underlying110 rfl (Try.sizeOf110 _) rfl (S.blk (i := 0) rfl) rfl rfl) ?_
  refine rw_v (op_pure rfl) ?_
  refine rw_call rfl (sets_E (W := w4_) t gh hw.1 (by omega) (by omega) (by omega) (S.rd (i := 1) rfl)) ?_
  rintro _ w5_ ⟨f0, hf0, A_F, c_F, rfl, hR_F, hf_F, g5_⟩
  have S := S.pushRow hR_F hf_F g5_
  refine rw_v (op_pure rfl) ?_
  first | refine rw_end ?_ | (refine rw_nil ?_; show CW _ _ _ _ _ _) | refine rw_nil ?_
  repeat refine cw_seq ?_
  refine cw_region ?_
  refine rw_v (op_fieldAddr Try.underlying110 rfl Try.sizeOf22 rfl rfl) ?_
  refine rw_r (op_loadB Try.underlying22 rfl rfl (S.blk (i := 1) rfl) rfl) ?_
  refine rw_v (op_len Try.underlying22 rfl) ?_
  refine rw_makeS1 Try.underlying22 info_t2 rfl rfl rfl (n := V.length) (c := V.length) (by omega) (by omega) (by omega) (by omega) S ?_
  intro A_L w7_ g7_ S sa_L
  refine rw_v (op_pure rfl) ?_
  first | refine rw_end ?_ | (refine rw_nil ?_; show CW _ _ _ _ _ _) | refine rw_nil ?_
  repeat refine cw_seq ?_
  refine cw_region ?_
  refine rw_v (op_pure rfl) ?_
  first | refine rw_end ?_ | (refine rw_nil ?_; show CW _ _ _ _ _ _) | refine rw_nil ?_
  repeat refine cw_seq ?_
  refine cw_region ?_
  refine rw_v (op_fieldAddr Try.underlying110 rfl Try.sizeOf22 rfl rfl) ?_
  refine rw_r (op_loadB Try.underlying22 rfl rfl (S.blk (i := 2) rfl) rfl) ?_
  refine rw_v (op_len Try.underlying22 rfl) ?_
  refine rw_v (op_pure rfl) ?_
  first | refine rw_end ?_ | (refine rw_nil ?_; show CW _ _ _ _ _ _) | refine rw_nil ?_
  repeat refine cw_seq ?_
  refine cw_block ?_
  repeat refine cw_seq ?_
  have hro := hf0.roots
  have hf0ok := hf0.ok
  generalize hrr : rootF f0 = r at *
  have sa_F : SomeA A_F := hR_F.someA (by omega)
  have sa_vs : SomeA A_vs := hR_vs.someA (by omega)
  rw [replicate_cellsN] at S
  have S := S.pushNil 83 8
  refine cw_loop (fun m e w => ∃ (k : Nat) (f : Nat → Nat) (A_P : Option Addr) (c_P : Nat), k + m = V.length ∧ SL e [(1, .int .i64 t), (7, .pointer (some ⟨b_l, 0, none⟩)), (9, .slice A_F V.length c_F), (10, .slice A_L V.length V.length), (11, .slice A_P (cntR V t r k) c_P), (34, .slice A_vs V.length c_vs), (35, .int .i64 V.length), (36, .int .i64 k)] ∧ FOk V.length f ∧ (∀ j, j < V.length → rootF f j = r j) ∧
    St No W w [.row 83 8 A_P (cntR V t r k) c_P (partsV (partsAt gw V t r k)), .row 2 1 A_L V.length V.length (cellsN V.length fun j => if j < k then labF V t r j else 0), .row 3 1 A_F V.length c_F (cellsN V.length f), .blk b_l 110 [.int .i64 gw, .int .i64 gh, .slice A_vs V.length c_vs], .row 2 1 A_vs V.length c_vs (ints V)]) V.length
    ⟨0, f0, none, 0, by omega, ⟨rfl, rfl, rfl, rfl, rfl, rfl, rfl, rfl, trivial⟩, hf0ok, fun j _ => by rw [hrr], by
      have e1 : (cellsN V.length fun j => if j < 0 then labF V t r j else 0) = cellsN V.length (fun _ => 0) := cellsN_congr fun i _ => rfl
      rw [e1]; exact S⟩ ?_
  rintro m e w ⟨k, f, A_P, c_P, hk, hsl, hf, hfr, S⟩
  rw [hsl.fold]
  have hcnt := cntR_le V t r k
  repeat refine cw_seq ?_
  refine cw_region ?_
  refine rw_v (op_pure rfl) ?_
  first | refine rw_end ?_ | (refine rw_nil ?_; show CW _ _ _ _ _ _) | refine rw_nil ?_
  repeat refine cw_seq ?_
  refine cw_cond rfl (fun hc => ?_) (fun hc => ?_)
  · try simp only [decide_eq_true_eq, decide_eq_false_iff_not, beq_iff_eq, bne_iff_ne, beq_eq_false_iff_ne, bne_eq_false_iff_eq, Bool.not_eq_true', Bool.not_eq_false', ne_eq, Decidable.not_not, Int.natCast_inj, Int.ofNat_lt, Int.ofNat_le, gt_iff_lt, ge_iff_le, Int.not_lt, Int.not_le] at hc
    have hkV : k < V.length := by omega
    have hgk := hget k hkV
    repeat refine cw_seq ?_
    refine cw_skip ?_
    try show CW _ _ _ _ _ _
    repeat refine cw_seq ?_
    refine cw_block ?_
    repeat refine cw_seq ?_
    refine cw_region ?_
    refine rw_v (op_pure rfl) ?_
    refine rw_v (op_idx Try.underlying22 Try.sizeOf2 rfl rfl sa_vs (by omega) (by omega)) ?_
    refine rw_r (op_ldR Try.underlying2 rfl rfl (S.rd (i := 4) rfl) hgk) ?_
    iterate 2 refine rw_v (op_pure rfl) ?_
    first | refine rw_end ?_ | (refine rw_nil ?_; show CW _ _ _ _ _ _) | refine rw_nil ?_
    repeat refine cw_seq ?_
    refine cw_region ?_
    iterate 3 refine rw_v (op_pure rfl) ?_
    first | refine rw_end ?_ | (refine rw_nil ?_; show CW _ _ _ _ _ _) | refine rw_nil ?_
    repeat refine cw_seq ?_
    refine cw_cond rfl (fun hlow => ?_) (fun hlow => ?_)
    · try simp only [decide_eq_true_eq, decide_eq_false_iff_not, beq_iff_eq, bne_iff_ne, beq_eq_false_iff_ne, bne_eq_false_iff_eq, Bool.not_eq_true', Bool.not_eq_false', ne_eq, Decidable.not_not, Int.natCast_inj, Int.ofNat_lt, Int.ofNat_le, gt_iff_lt, ge_iff_le, Int.not_lt, Int.not_le] at hlow
      repeat refine cw_seq ?_
      refine cw_exit ?_
      repeat first | refine exit_then ?_ | refine exit_inb ?_
      show CW _ _ _ _ _ _
      repeat refine cw_seq ?_
      refine cw_region ?_
      refine rw_v (op_rng rfl (by omega)) ?_
      refine rw_v (op_pure rfl) ?_
      first | refine rw_end ?_ | (refine rw_nil ?_; show CW _ _ _ _ _ _) | refine rw_nil ?_
      have hlow' : ¬ t ≤ V.getD k 0 := by omega
      have hlab : labF V t r k = 0 := if_neg hlow'
      have hcs : cntR V t r (k + 1) = cntR V t r k := by
        unfold cntR; rw [rootsL_succ, if_neg]; unfold isRoot; simp only [Bool.and_eq_true, decide_eq_true_eq]; exact fun h => hlow' h.1
      refine ⟨m - 1, by omega, k + 1, f, A_P, c_P, by omega, ⟨rfl, rfl, rfl, rfl, by rw [hcs]; rfl, rfl, rfl, ie (by omega), trivial⟩, hf, hfr, ?_⟩
      have e1 : (cellsN V.length fun j => if j < k + 1 then labF V t r j else 0) = cellsN V.length (fun j => if j < k then labF V t r j else 0) := cellsN_congr fun i _ => by
        by_cases e : i = k
        · subst e; rw [if_pos (by omega), if_neg (by omega), hlab]
        · by_cases h : i < k
          · rw [if_pos (by omega), if_pos h]
          · rw [if_neg (by omega), if_neg h]
      rw [hcs, partsAt_skip hlow', e1]
      exact S
    · try simp only [decide_eq_true_eq, decide_eq_false_iff_not, beq_iff_eq, bne_iff_ne, beq_eq_false_iff_ne, bne_eq_false_iff_eq, Bool.not_eq_true', Bool.not_eq_false', ne_eq, Decidable.not_not, Int.natCast_inj, Int.ofNat_lt, Int.ofNat_le, gt_iff_lt, ge_iff_le, Int.not_lt, Int.not_le] at hlow
      have hspot := spotR_right hw hh.2 (hVg ▸ hkV)
      have hrk := hro.le k hkV
      have hvr : t ≤ V.getD (r k) 0 := (hro.conn k hkV).ge hlow
      have hrr2 := hro.idem k hkV
      repeat refine cw_seq ?_
      refine cw_skip ?_
      try show CW _ _ _ _ _ _
      repeat refine cw_seq ?_
      refine cw_region ?_
      refine rw_r (op_loadAB Try.underlying110 rfl (Try.sizeOf110 _) rfl (S.blk (i := 3) rfl) rfl rfl) ?_
      refine rw_v (op_pure rfl) ?_
      refine rw_call rfl (regat_E (W := w) k gh V.length hw.1 (by omega)) ?_
      rintro _ w8_ ⟨rfl, g8_⟩
      have S := S.gr g8_
      refine rw_newB (op_alloc Try.zeroValue39 rfl) S ?_
      intro b_c w10_ g10_ S
      refine rw_storeSA (i := 0) S rfl (Try.sizeOf39 _) rfl rfl rfl rfl rfl rfl ?_
      intro w11_ S
      first | refine rw_end ?_ | (refine rw_nil ?_; show CW _ _ _ _ _ _) | refine rw_nil ?_
      repeat refine cw_seq ?_
      refine cw_region ?_
      refine rw_v (op_fieldAddr Try.underlying39 rfl Try.sizeOf2 rfl rfl) ?_
      refine rw_r (op_loadB Try.underlying2 rfl rfl (S.blk (i := 0) rfl) rfl) ?_
      refine rw_v (op_fieldAddr Try.underlying39 rfl Try.sizeOf2 rfl rfl) ?_
      refine rw_r (op_loadB Try.underlying2 rfl rfl (S.blk (i := 0) rfl) rfl) ?_
      refine rw_v (op_fieldAddr Try.underlying39 rfl Try.sizeOf2 rfl rfl) ?_
      refine rw_r (op_loadB Try.underlying2 rfl rfl (S.blk (i := 0) rfl) rfl) ?_
      refine rw_v (op_fieldAddr Try.underlying39 rfl Try.sizeOf2 rfl rfl) ?_
      refine rw_r (op_loadB Try.underlying2 rfl rfl (S.blk (i := 0) rfl) rfl) ?_
      refine rw_v (op_build (pl := [(0, 1), (1, 1), (2, 1), (3, 1)]) Try.underlying81 Try.zeroValue81 (fun w => by kernel_rfl) rfl rfl) ?_
      refine rw_newB (op_alloc Try.zeroValue81 rfl) S ?_
      intro b_sp w13_ g13_ S
      refine rw_storeSA (i := 0) S rfl (Try.sizeOf81 _) rfl rfl rfl rfl rfl rfl ?_
      intro w14_ S
      first | refine rw_end ?_ | (refine rw_nil ?_; show CW _ _ _ _ _ _) | refine rw_nil ?_
      repeat refine cw_seq ?_
      refine cw_region ?_
      iterate 2 refine rw_v (op_pure rfl) ?_
      refine rw_call rfl (root_E k (by omega) hkV hf (S.row (i := 4) rfl)) ?_
      rintro _ w15_ ⟨rfl, f1, hf1, hr1, hR1, hF1⟩
      have S := S.set (i := 4) (h' := .row 3 1 A_F V.length c_F (cellsN V.length f1)) rfl rfl hF1 (fun g h => .inl h) hR1 (fun g h => .inl h)
      rw [hfr k hkV]
      refine rw_v (op_pure rfl) ?_
      first | refine rw_end ?_ | (refine rw_nil ?_; show CW _ _ _ _ _ _) | refine rw_nil ?_
      have hfr1 : ∀ j, j < V.length → rootF f1 j = r j := fun j hj => (hr1 j hj).trans (hfr j hj)
      have hlabk : labF V t r k = cntR V t r (r k) + 1 := if_pos hlow
      have hlabr : labF V t r (r k) = cntR V t r (r k) + 1 := by unfold labF; rw [if_pos hvr, hrr2]
      have hcr := cntR_le V t r (r k)
      have hPlen : (partsAt gw V t r k).length = cntR V t r k := by unfold partsAt cntR; rw [List.length_map]
      repeat refine cw_seq ?_
      refine cw_region ?_
      iterate 3 refine rw_v (op_pure rfl) ?_
      first | refine rw_end ?_ | (refine rw_nil ?_; show CW _ _ _ _ _ _) | refine rw_nil ?_
      repeat refine cw_seq ?_
      refine cw_cutT (M := fun e w => ∃ (Pk : List PV) (A_P : Option Addr) (c_P : Nat), Pk.length = cntR V t r (k + 1) ∧ Pk[cntR V t r (r k)]? = some (partAt gw V t r k (r k)) ∧ Pk.set (cntR V t r (r k)) (partAt gw V t r (k + 1) (r k)) = partsAt gw V t r (k + 1) ∧ SL e [(1, .int .i64 t), (7, .pointer (some ⟨b_l, 0, none⟩)), (9, .slice A_F V.length c_F), (10, .slice A_L V.length V.length), (12, .int .i64 k), (14, .pointer (some ⟨b_c, 0, none⟩)), (15, .pointer (some ⟨b_sp, 0, none⟩)), (16, .int .i64 (r k : Nat)), (34, .slice A_vs V.length c_vs), (35, .int .i64 V.length), (36, .int .i64 k), (11, .slice A_P (cntR V t r (k + 1)) c_P)] ∧ St No W w [.blk b_sp 81 (spotR gw k).cells, .row 83 8 A_P (cntR V t r (k + 1)) c_P (partsV Pk), .row 2 1 A_L V.length V.length (cellsN V.length fun j => if j < k ∨ (j = k ∧ r k = k) then labF V t r j else 0), .row 3 1 A_F V.length c_F (cellsN V.length f1), .blk b_l 110 [.int .i64 gw, .int .i64 gh, .slice A_vs V.length c_vs], .row 2 1 A_vs V.length c_vs (ints V)]) ?_ ?_
      · skip
        repeat refine cw_seq ?_
        refine cw_cond rfl (fun hroot => ?_) (fun hroot => ?_)
        · try simp only [decide_eq_true_eq, decide_eq_false_iff_not, beq_iff_eq, bne_iff_ne, beq_eq_false_iff_ne, bne_eq_false_iff_eq, Bool.not_eq_true', Bool.not_eq_false', ne_eq, Decidable.not_not, Int.natCast_inj, Int.ofNat_lt, Int.ofNat_le, gt_iff_lt, ge_iff_le, Int.not_lt, Int.not_le] at hroot
          have hroot' : r k = k := by omega
          obtain ⟨hnew, hp0⟩ := partsAt_new (gw := gw) (V := V) (t := t) (r := r) (k := k) (fun i hi => hro.le i (by omega)) hlow hroot'
          have hcs : cntR V t r (k + 1) = cntR V t r k + 1 := by
            unfold cntR; rw [rootsL_succ, if_pos]; · simp
            unfold isRoot; simp only [Bool.and_eq_true, decide_eq_true_eq]; exact ⟨hlow, hroot'⟩
          repeat refine cw_seq ?_
          refine cw_region ?_
          iterate 2 refine rw_v (op_pure rfl) ?_
          refine rw_v (op_len Try.underlying77 rfl) ?_
          refine rw_v (op_rng rfl (by omega)) ?_
          refine rw_r (op_loadAB Try.underlying39 rfl (Try.sizeOf39 _) rfl (S.blk (i := 1) rfl) rfl rfl) ?_
          refine rw_r (op_loadAB Try.underlying81 rfl (Try.sizeOf81 _) rfl (S.blk (i := 0) rfl) rfl rfl) ?_
          refine rw_v (op_build (pl := [(0, 1), (1, 1), (2, 2), (4, 4)]) Try.underlying83 Try.zeroValue83 (fun w => by kernel_rfl) rfl rfl) ?_
          refine rw_buildS Try.underlying77 Try.sizeOf83 Try.zeroValue83 rfl rfl rfl rfl rfl rfl S ?_
          intro A_lit w17_ g17_ S sa_lit
          refine rw_appS (i := 3) S rfl (fun h => rfl) Try.underlying77 info_t83 rfl rfl rfl rfl (by simp) (by omega) (S.rd (i := 0) rfl) rfl (by omega) ?_
          intro A_P2 c_P2 w18_ S sa_P
          refine rw_v (op_pure rfl) ?_
          first | refine rw_end ?_ | (refine rw_nil ?_; show CW _ _ _ _ _ _) | refine rw_nil ?_
          repeat refine cw_seq ?_
          refine cw_region ?_
          iterate 3 refine rw_v (op_pure rfl) ?_
          refine rw_v (op_len Try.underlying77 rfl) ?_
          refine rw_v (op_idx Try.underlying22 Try.sizeOf2 rfl rfl sa_L (by omega) (by omega)) ?_
          refine rw_storeR (i := 4) S rfl (Try.sizeOf2 _) rfl rfl rfl rfl (by rw [cellsN_len]; omega) rfl ?_
          intro w19_ S
          first | refine rw_end ?_ | (refine rw_nil ?_; show CW _ _ _ _ _ _) | refine rw_nil ?_
          refine ⟨partsAt gw V t r k ++ [partAt gw V t r k k], A_P2, c_P2, by rw [List.length_append, hPlen, hcs]; rfl, ?_, ?_, ⟨rfl, rfl, rfl, rfl, rfl, rfl, rfl, rfl, rfl, rfl, rfl, by rw [hcs]; rfl, trivial⟩, ?_⟩
          · rw [hroot', List.getElem?_append_right (by omega), hPlen, Nat.sub_self]; rfl
          · rw [hroot', hnew, List.set_append_right _ _ (by omega), hPlen, Nat.sub_self]; rfl
          · have S := S.sub (.cons _ (.cons_cons _ (.cons _ (.cons_cons _ (.cons_cons _ (.cons_cons _ (.cons_cons _ (.cons_cons _ .slnil))))))))
            rw [Nat.mul_one, Int.toNat_natCast, cellsN_set] at S
            have e1 : (cellsN V.length fun j => if j < k ∨ (j = k ∧ r k = k) then labF V t r j else 0) = cellsN V.length (updF (fun j => if j < k then labF V t r j else 0) k (cntR V t r k + 1)) := cellsN_congr fun i _ => by
              by_cases e : i = k
              · subst e; rw [updF_at, if_pos (.inr ⟨rfl, hroot'⟩), hlabk, hroot']
              · rw [updF_ne e]
                by_cases h : i < k
                · rw [if_pos (.inl h), if_pos h]
                · rw [if_neg (fun h2 => h2.elim h (fun h3 => e h3.1)), if_neg h]
            have e2 : partsV (partsAt gw V t r k ++ [partAt gw V t r k k]) = partsV (partsAt gw V t r k) ++ (partAt gw V t r k k).cells := by simp [partsV]
            rw [e1, hcs, e2, hp0]
            exact S
        · try simp only [decide_eq_true_eq, decide_eq_false_iff_not, beq_iff_eq, bne_iff_ne, beq_eq_false_iff_ne, bne_eq_false_iff_eq, Bool.not_eq_true', Bool.not_eq_false', ne_eq, Decidable.not_not, Int.natCast_inj, Int.ofNat_lt, Int.ofNat_le, gt_iff_lt, ge_iff_le, Int.not_lt, Int.not_le] at hroot
          have hroot' : r k ≠ k := by omega
          have hlt : r k < k := by omega
          obtain ⟨hmore, hat⟩ := partsAt_more (gw := gw) (V := V) (t := t) (r := r) (k := k) rfl hlt hrr2 hvr
          have hcs : cntR V t r (k + 1) = cntR V t r k := by
            unfold cntR; rw [rootsL_succ, if_neg]; unfold isRoot; simp only [Bool.and_eq_true, decide_eq_true_eq]; exact fun h => hroot' h.2
          repeat refine cw_seq ?_
          refine cw_skip ?_
          try show CW _ _ _ _ _ _
          refine ⟨partsAt gw V t r k, A_P, c_P, by rw [hcs, hPlen], hat, hmore.symm, ⟨rfl, rfl, rfl, rfl, rfl, rfl, rfl, rfl, rfl, rfl, rfl, by rw [hcs]; rfl, trivial⟩, ?_⟩
          have S := S.sub (.cons_cons _ (.cons _ (.cons_cons _ (.cons_cons _ (.cons_cons _ (.cons_cons _ (.cons_cons _ .slnil)))))))
          have e1 : (cellsN V.length fun j => if j < k ∨ (j = k ∧ r k = k) then labF V t r j else 0) = cellsN V.length (fun j => if j < k then labF V t r j else 0) := cellsN_congr fun i _ => by
            by_cases h : i < k
            · rw [if_pos (.inl h), if_pos h]
            · rw [if_neg (fun h2 => h2.elim h (fun h3 => hroot' h3.2)), if_neg h]
          rw [e1, hcs]
          exact S
      · rintro e2 w2 ⟨Pk, A_P, c_P, hPl, hPa, hPs, hsl, S⟩
        rw [hsl.fold]
        have hrV : r k < V.length := by omega
        have hg1 : (cellsN V.length fun j => if j < k ∨ (j = k ∧ r k = k) then labF V t r j else 0)[((r k : Nat) : Int).toNat * 1]? = some (.int .i64 (labF V t r k : Nat)) := by
          rw [Nat.mul_one, Int.toNat_natCast, cellsN_get hrV, if_pos ((Nat.lt_or_ge (r k) k).imp id (fun h => ⟨by omega, by omega⟩)), hlabr, hlabk]
        have hg2 : (cellsN V.length fun j => if j < k + 1 then labF V t r j else 0)[(k : Int).toNat * 1]? = some (.int .i64 (labF V t r k : Nat)) := by
          rw [Nat.mul_one, Int.toNat_natCast, cellsN_get hkV, if_pos (by omega)]
        have e1 : cellsN V.length (updF (fun j => if j < k ∨ (j = k ∧ r k = k) then labF V t r j else 0) k (labF V t r k)) = cellsN V.length (fun j => if j < k + 1 then labF V t r j else 0) := cellsN_congr fun i _ => by
          by_cases e : i = k
          · subst e; rw [updF_at, if_pos (by omega)]
          · rw [updF_ne e]
            by_cases h : i < k
            · rw [if_pos (.inl h), if_pos (by omega)]
            · rw [if_neg (fun h2 => h2.elim h (fun h3 => e h3.1)), if_neg (by omega)]
        have hidx := (List.getElem?_eq_some_iff.1 hPa).1
        have sa_P : SomeA A_P := (S.row (i := 1) rfl).someA (by omega)
        have eidx : ((labF V t r k : Nat) : Int) - 1 = ((cntR V t r (r k) : Nat) : Int) := by rw [hlabk]; omega
        have hga : (partsV Pk)[((cntR V t r (r k) : Nat) : Int).toNat * 8 + 1]? = some (.int .i64 (partAt gw V t r k (r k)).area) := by rw [Int.toNat_natCast, partsV_get hPa (by omega)]; rfl
        have hcntle := cntR_le V t r (k + 1)
        repeat refine cw_seq ?_
        refine cw_region ?_
        iterate 4 refine rw_v (op_pure rfl) ?_
        refine rw_v (op_idx Try.underlying22 Try.sizeOf2 rfl rfl sa_L (by omega) (by omega)) ?_
        refine rw_r (op_ldR Try.underlying2 rfl rfl (S.rd (i := 2) rfl) hg1) ?_
        refine rw_v (op_idx Try.underlying22 Try.sizeOf2 rfl rfl sa_L (by omega) (by omega)) ?_
        refine rw_storeR (i := 2) S rfl (Try.sizeOf2 _) rfl rfl rfl rfl (by rw [cellsN_len]; omega) rfl ?_
        intro w20_ S
        rw [Nat.mul_one, Int.toNat_natCast, cellsN_set, e1] at S
        first | refine rw_end ?_ | (refine rw_nil ?_; show CW _ _ _ _ _ _) | refine rw_nil ?_
        repeat refine cw_seq ?_
        refine cw_region ?_
        iterate 3 refine rw_v (op_pure rfl) ?_
        refine rw_v (op_idx Try.underlying22 Try.sizeOf2 rfl rfl sa_L (by omega) (by omega)) ?_
        refine rw_r (op_ldR Try.underlying2 rfl rfl (S.rd (i := 2) rfl) hg2) ?_
        refine rw_v (op_rng rfl (by omega)) ?_
        rw [eidx]
        refine rw_v (op_idx Try.underlying77 Try.sizeOf83 rfl rfl sa_P (by omega) (by omega)) ?_
        refine rw_v (op_pure rfl) ?_
        first | refine rw_end ?_ | (refine rw_nil ?_; show CW _ _ _ _ _ _) | refine rw_nil ?_
        have hbr := partAt_right (gw := gw) (gh := gh) (V := V) (t := t) (r := r) (k := k) (q := r k) hw hh.2 hVg (by omega) hrV
        have harea : (partAt gw V t r k (r k)).area ≤ 1048576 := by
          have : (members V t r (r k) k).length ≤ k := Nat.le_trans (List.length_filter_le _ _) (by simp)
          show (((members V t r (r k) k).length : Nat) : Int) ≤ _
          omega
        have harea0 : 0 ≤ (partAt gw V t r k (r k)).area := Int.natCast_nonneg _
        have hpad := partAt_add (gw := gw) (V := V) (t := t) (r := r) (k := k) (q := r k) (by unfold memB; simp [hlow] <;> exact hlow)
        generalize hpa : partAt gw V t r k (r k) = pa at *
        generalize cntR V t r (r k) = ci at *
        obtain ⟨pb, hpb⟩ : ∃ pb : PV, pb = { pa with area := pa.area + 1 } := ⟨_, rfl⟩
        have ep1 : ((partsV Pk).set ((ci : Int).toNat * 8 + 1) (.int .i64 (pa.area + 1))) = partsV (Pk.set ci pb) := by
          rw [Int.toNat_natCast, set_take (by rw [partsV_len]; omega)]
          exact partsV_put (d := 1) (cs := [.int .i64 (pa.area + 1)]) hPa (by simp) (by rw [hpb]; rfl)
        have hPb : (Pk.set ci pb)[ci]? = some pb := by rw [List.getElem?_set, if_pos rfl, if_pos hidx]
        have hbox : ((partsV (Pk.set ci pb)).drop ((ci : Int).toNat * 8 + 4)).take 4 = [.int .i64 pa.box.x0, .int .i64 pa.box.y0, .int .i64 pa.box.x1, .int .i64 pa.box.y1] := by
          rw [Int.toNat_natCast, partsV_box hPb, hpb]; rfl
        have hlenP : (partsV (Pk.set ci pb)).length = Pk.length * 8 := by rw [partsV_len, List.length_set]
        have ep2 : (partsV (Pk.set ci pb)).take ((ci : Int).toNat * 8 + 4) ++ (hullR pa.box (spotR gw k)).cells ++ (partsV (Pk.set ci pb)).drop ((ci : Int).toNat * 8 + 4 + 4) = partsV (Pk.set ci (partAt gw V t r (k + 1) (r k))) := by
          have := partsV_put (l := Pk.set ci pb) (k := ci) (a := pb) (a' := partAt gw V t r (k + 1) (r k)) (d := 4) (cs := (hullR pa.box (spotR gw k)).cells) hPb (by simp [RV.cells]) (by rw [hpad, hpb]; rfl)
          rw [List.set_set] at this
          rw [Int.toNat_natCast]
          exact this
        repeat refine cw_seq ?_
        refine cw_region ?_
        refine rw_v (op_pure rfl) ?_
        refine rw_v (op_ncA rfl sa_P) ?_
        refine rw_v (op_fld Try.underlying83 rfl Try.sizeOf2 rfl rfl sa_P) ?_
        refine rw_r (op_ldR Try.underlying2 rfl rfl (S.rd (i := 1) rfl) hga) ?_
        refine rw_v (op_rng rfl (by omega)) ?_
        refine rw_v (op_ncA rfl sa_P) ?_
        refine rw_v (op_fld Try.underlying83 rfl Try.sizeOf2 rfl rfl sa_P) ?_
        refine rw_storeR (i := 1) S rfl (Try.sizeOf2 _) rfl rfl rfl rfl (show (ci : Int).toNat * 8 + 1 < (partsV Pk).length by rw [partsV_len]; omega) rfl ?_
        intro w21_ S
        have S := S.as_ (i := 1) (h' := .row 83 8 A_P (cntR V t r (k + 1)) c_P (partsV (Pk.set ci pb))) rfl rfl (fun h => h.congr ep1) (fun g h => h)
        first | refine rw_end ?_ | (refine rw_nil ?_; show CW _ _ _ _ _ _) | refine rw_nil ?_
        repeat refine cw_seq ?_
        refine cw_draw (C := fun wq => Gr w21_ wq) [0, 1, 2, 3, 4, 5, 6] [7, 8, 9] (by kernel_rfl) (by kernel_rfl) (Gr.drew _) ?_
        simp only [pickL, List.drop_succ_cons, List.drop_zero]
        iterate 2 refine rq_v (op_pure rfl) ?_
        refine rq_v (op_ncA rfl sa_P) ?_
        refine rq_v (op_fld Try.underlying83 rfl Try.sizeOf81 rfl rfl sa_P) ?_
        refine rq_r (fun wq hq => op_ldRA Try.underlying81 rfl (Try.sizeOf81 _) rfl ((S.gr hq).rd (i := 1) rfl) hbox rfl rfl) ?_
        refine rq_r (fun wq hq => op_loadAB Try.underlying81 rfl (Try.sizeOf81 _) rfl ((S.gr hq).blk (i := 0) rfl) rfl rfl) ?_
        refine rq_call rfl (fun wq hq => (hull_E pa.box (spotR gw k) hbr hspot wq).mono (fun _ _ ⟨hv, hg⟩ => ⟨hv, hq.trans hg⟩)) ?_
        refine rq_nil ?_
        intro w22_ g22_
        have S := S.gr g22_
        refine rw_v (op_ncA rfl sa_P) ?_
        refine rw_v (op_fld Try.underlying83 rfl Try.sizeOf81 rfl rfl sa_P) ?_
        refine rw_storeRA (i := 1) S rfl (Try.sizeOf81 _) rfl rfl rfl rfl (show (ci : Int).toNat * 8 + 4 + 4 ≤ (partsV (Pk.set ci pb)).length by rw [hlenP]; omega) rfl rfl ?_
        intro w23_ S
        have S := S.as_ (i := 1) (h' := .row 83 8 A_P (cntR V t r (k + 1)) c_P (partsV (Pk.set ci (partAt gw V t r (k + 1) (r k))))) rfl rfl (fun h => h.congr ep2) (fun g h => h)
        first | refine rw_end ?_ | (refine rw_nil ?_; show CW _ _ _ _ _ _) | refine rw_nil ?_
        repeat refine cw_seq ?_
        refine cw_region ?_
        refine rw_v (op_rng rfl (by omega)) ?_
        refine rw_v (op_pure rfl) ?_
        first | refine rw_end ?_ | (refine rw_nil ?_; show CW _ _ _ _ _ _) | refine rw_nil ?_
        rw [hPs] at S
        exact ⟨m - 1, by omega, k + 1, f1, A_P, c_P, by omega, ⟨rfl, rfl, rfl, rfl, rfl, rfl, rfl, ie (by omega), trivial⟩, hf1, hfr1, S.sub (.cons _ (.cons_cons _ (.cons_cons _ (.cons_cons _ (.cons_cons _ (.cons_cons _ .slnil))))))⟩
  · try simp only [decide_eq_true_eq, decide_eq_false_iff_not, beq_iff_eq, bne_iff_ne, beq_eq_false_iff_ne, bne_eq_false_iff_eq, Bool.not_eq_true', Bool.not_eq_false', ne_eq, Decidable.not_not, Int.natCast_inj, Int.ofNat_lt, Int.ofNat_le, gt_iff_lt, ge_iff_le, Int.not_lt, Int.not_le] at hc
    repeat refine cw_seq ?_
    refine cw_exit ?_
    repeat first | refine exit_then ?_ | refine exit_inb ?_
    show CW _ _ _ _ _ _
    repeat refine cw_seq ?_
    refine cw_region ?_
    iterate 5 refine rw_v (op_pure rfl) ?_
    first | refine rw_end ?_ | (refine rw_nil ?_; show CW _ _ _ _ _ _) | refine rw_nil ?_
    repeat refine cw_seq ?_
    refine cw_ret ?_
    repeat first | refine ret_then ?_ | refine ret_inb ?_
    obtain rfl : k = V.length := by omega
    refine res3 rfl rfl rfl ⟨r, hro, A_L, V.length, A_P, c_P, rfl, (S.row (i := 1) rfl).congr (cellsN_congr fun i hi => if_pos hi), S.row (i := 0) rfl, SepL.fresh S (i := 1) rfl, SepL.fresh S (i := 0) rfl, S.out⟩
end
end Go.Proofs.Yteihfmifelcidaa
/- hachurelaw29.RegionsRise. -/
namespace Go.Proofs.Yteihfmifelcidaa
open Go.RowKit
set_option linter.unusedVariables false
set_option linter.unusedSimpArgs false
set_option maxRecDepth 100000

section
variable {P : Program} {e : Nat → Value} {d : Option Tmp} {ty : TypeId} {ps : String} {af : Array Edge}
theorem op_bne {t t' : TypeId} {x y : Operand} {a b B : Bool} (hu : P.underlying t = some .bool) (hx : ev e x = .bool a) (hy : ev e y = .bool b) (hB : (a != b) = B) : OpV P e ⟨d, .binOp .neq t x y t', ty, ps, af, none⟩ (.bool B) := by
  intro w
  subst hB
  have h3 : ∀ n' : Nat, (Op.equalIn (n' + 1) t (.bool a) (.bool b)).run P w = .ok (a == b) w := fun n' => by
    unfold Op.equalIn
    simp [run_underlying hu]
  have h4 : (Op.equal t (.bool a) (.bool b)).run P w = .ok (a == b) w := h3 9999
  simp [OpR, execOp, hx, hy, eqGuard, binOp, h4, bne]
end

/-! ### Regions over two heights -/
section
variable {gw : Nat} {V : List Int} {t u : Int} {r : Nat → Nat}
theorem Roots.adj (h : Roots gw V t r) {i j : Nat} (a : Adj gw V t i j) : r i = r j := by
  obtain ⟨hi, hj, vi, vj, s⟩ := a
  rcases s with ⟨e, p⟩ | ⟨e, p⟩ | e | e
  · have := h.left i hi vi p (by rw [show i - 1 = j by omega]; exact vj)
    rwa [show i - 1 = j by omega] at this
  · have := h.left j hj vj p (by rw [show j - 1 = i by omega]; exact vi)
    rw [show j - 1 = i by omega] at this
    exact this.symm
  · have := h.up i hi vi (by omega) (by rw [show i - gw = j by omega]; exact vj)
    rwa [show i - gw = j by omega] at this
  · have := h.up j hj vj (by omega) (by rw [show j - gw = i by omega]; exact vi)
    rw [show j - gw = i by omega] at this
    exact this.symm
theorem Roots.same (h : Roots gw V t r) {i j : Nat} (c : Conn gw V t i j) : r i = r j := by
  induction c with
  | refl => rfl
  | step a _ ih => exact (h.adj a).trans ih
theorem Conn.lower {i j : Nat} (h : t ≤ u) (c : Conn gw V u i j) : Conn gw V t i j := by
  induction c with
  | refl => exact .refl _
  | step a _ ih => exact .step ⟨a.1, a.2.1, Int.le_trans h a.2.2.1, Int.le_trans h a.2.2.2.1, a.2.2.2.2⟩ ih
theorem Conn.alone {i x : Nat} (h : ∀ j, ¬ Adj gw V t i j) (c : Conn gw V t i x) : x = i := by
  cases c with
  | refl => rfl
  | step a _ => exact absurd a (h _)
/-- roots are the same whatever the forest -/
theorem Roots.uniq {r' : Nat → Nat} (h : Roots gw V t r) (h' : Roots gw V t r') {i : Nat} (hi : i < V.length) : r i = r' i := by
  have h1 := h'.same (h.conn i hi)
  have h2 := h.same (h'.conn i hi)
  have h3 := h'.le (r i) (by have := h.le i hi; omega)
  have h4 := h.le (r' i) (by have := h'.le i hi; omega)
  omega
theorem cntR_lt {q k : Nat} (hq : q < k) (h : isRoot V t r q = true) : cntR V t r q + 1 ≤ cntR V t r k := by
  have h1 : cntR V t r (q + 1) = cntR V t r q + 1 := by unfold cntR; rw [rootsL_succ, if_pos h]; simp
  have := cntR_mono (V := V) (t := t) (r := r) (show q + 1 ≤ k from hq)
  omega
theorem Roots.isRoot (h : Roots gw V t r) {i : Nat} (hi : i < V.length) (hv : t ≤ V.getD i 0) : isRoot V t r (r i) = true := by
  unfold Go.Proofs.Yteihfmifelcidaa.isRoot
  simp only [Bool.and_eq_true, decide_eq_true_eq]
  exact ⟨(h.conn i hi).ge hv, h.idem i hi⟩
theorem Roots.lab_le (h : Roots gw V t r) {i : Nat} (hi : i < V.length) : labF V t r i ≤ cntR V t r V.length := by
  unfold labF
  split
  · rename_i hv; exact cntR_lt (Nat.lt_of_le_of_lt (h.le i hi) hi) (h.isRoot hi hv)
  · exact Nat.zero_le _
theorem side_near {gh k : Nat} (hgw : 0 < gw) (hk : k < gw * gh) {c : Int × Int} (hc : c ∈ nearZ gw gh (k % gw : Nat) (k / gw : Nat)) : inG gw gh c = true ∧ Side gw k (c.2.toNat * gw + c.1.toNat) := by
  unfold nearZ at hc
  obtain ⟨h1, h2⟩ := List.mem_filter.1 hc
  refine ⟨h2, ?_⟩
  have hin := inG_iff.1 h2
  have hx : k % gw < gw := Nat.mod_lt _ hgw
  have hdm : k / gw * gw + k % gw = k := by rw [Nat.mul_comm]; exact Nat.div_add_mod _ _
  unfold near4 at h1
  generalize hX : k % gw = X at *
  generalize hY : k / gw = Y at *
  simp only [List.mem_cons, List.not_mem_nil, or_false] at h1
  unfold Side
  rw [hX]
  rcases h1 with rfl | rfl | rfl | rfl
  · dsimp only at hin ⊢
    have e : ((Y : Int) - 1).toNat = Y - 1 := by omega
    have hY1 : 1 ≤ Y := by omega
    rw [e, Int.toNat_natCast, Nat.sub_mul, Nat.one_mul]
    have : gw ≤ Y * gw := Nat.le_mul_of_pos_left _ hY1
    omega
  · dsimp only at hin ⊢
    rw [Int.toNat_natCast]
    omega
  · dsimp only at hin ⊢
    rw [Int.toNat_natCast]
    have e : Y * gw + ((X : Int) + 1).toNat = k + 1 := by omega
    have e2 : (k + 1) % gw = X + 1 := by
      rw [← e, show ((X : Int) + 1).toNat = X + 1 by omega, Nat.mul_add_mod_self_right, Nat.mod_eq_of_lt (by omega)]
    rw [e]
    exact .inr (.inl ⟨rfl, by omega⟩)
  · dsimp only at hin ⊢
    have e : ((Y : Int) + 1).toNat = Y + 1 := by omega
    rw [e, Int.toNat_natCast, Nat.succ_mul]
    omega
end

section
variable {W : World} {A : Option Addr} {V : List Int}
end
end Go.Proofs.Yteihfmifelcidaa
/- Zones by regions: plain laws. -/
namespace Go.Proofs.Yteihfmifelcidaa
set_option linter.unusedVariables false
set_option linter.unusedSimpArgs false

theorem znN_cnt {V L : List Int} {a : Int} : ∀ k, (znN V L a k).ar = (((List.range k).filter fun i => decide (L.getD i 0 = a)).length : Nat)
  | 0 => rfl
  | k + 1 => by
    rw [znN_ar, znN_cnt k, List.range_succ, List.filter_append, List.length_append]
    by_cases h : L.getD k 0 = a
    · rw [if_pos h, List.filter_cons, if_pos (decide_eq_true h), List.filter_nil, List.length_cons, List.length_nil]; push_cast; omega
    · rw [if_neg h, List.filter_cons, if_neg (by rw [decide_eq_true_iff]; exact h), List.filter_nil, List.length_nil]; push_cast; omega
theorem znN_fs {V L : List Int} {a : Int} {q : Nat} (hq : L.getD q 0 = a) (hn : ∀ i, i < q → L.getD i 0 ≠ a) : ∀ k, q < k → (znN V L a k).fs = q
  | 0, h => by omega
  | k + 1, h => by
    by_cases e : q = k
    · subst e
      show (if _ then _ else _ : Zn).fs = _
      rw [if_pos hq, znN_zero hn]
      rfl
    · have ih := znN_fs (V := V) hq hn k (by omega)
      have hp := znN_pos (V := V) (L := L) (k := a) (i := k) ⟨q, by omega, hq⟩
      show (if _ then _ else _ : Zn).fs = _
      split
      · unfold znAdd; rw [if_neg (by omega)]; exact ih
      · exact ih
theorem znN_mn {V L : List Int} {a t : Int} : ∀ k, (∀ i, i < k → L.getD i 0 = a → t ≤ V.getD i 0) → (∃ i, i < k ∧ L.getD i 0 = a) → t ≤ (znN V L a k).mn
  | 0, _, ⟨i, h, _⟩ => by omega
  | k + 1, hv, hex => by
    by_cases hk : L.getD k 0 = a
    · have h1 := hv k (by omega) hk
      show t ≤ (if _ then _ else _ : Zn).mn
      rw [if_pos hk]
      by_cases h0 : ∃ i, i < k ∧ L.getD i 0 = a
      · have ih := znN_mn k (fun i hi => hv i (by omega)) h0
        unfold znAdd
        split
        · exact h1
        · show t ≤ min _ _
          omega
      · rw [znN_zero (fun j hj e => h0 ⟨j, hj, e⟩)]
        exact h1
    · rw [znN_ne hk]
      obtain ⟨i, hi, e⟩ := hex
      exact znN_mn k (fun i hi => hv i (by omega)) ⟨i, by
        by_cases e2 : i = k
        · subst e2; exact absurd e hk
        · omega, e⟩
/-- labels as numbers -/
def labZ (V : List Int) (t : Int) (r : Nat → Nat) : List Int := (List.range V.length).map fun i => ((labF V t r i : Nat) : Int)
section
variable {gw : Nat} {V : List Int} {t : Int} {r : Nat → Nat}
theorem labZ_len : (labZ V t r).length = V.length := by simp [labZ]
theorem labZ_get {i : Nat} (h : i < V.length) : (labZ V t r).getD i 0 = (labF V t r i : Nat) := by
  unfold labZ
  rw [List.getD_eq_getElem?_getD, List.getElem?_map, List.getElem?_range h]
  rfl
theorem lab_root (h : Roots gw V t r) {q i : Nat} (hq : q < V.length) (hr : isRoot V t r q = true) (hi : i < V.length) : labF V t r i = cntR V t r q + 1 ↔ memB V t r q i = true := by
  unfold isRoot at hr
  rw [Bool.and_eq_true, decide_eq_true_iff, decide_eq_true_iff] at hr
  unfold labF memB
  rw [Bool.and_eq_true, decide_eq_true_iff, decide_eq_true_iff]
  by_cases hv : t ≤ V.getD i 0
  · rw [if_pos hv]
    simp only [hv, true_and]
    constructor
    · intro e
      rcases Nat.lt_trichotomy (r i) q with h1 | h1 | h1
      · have := cntR_lt h1 (h.isRoot hi hv); omega
      · exact h1
      · have := cntR_lt h1 (show isRoot V t r q = true by unfold isRoot; rw [decide_eq_true hr.1, decide_eq_true hr.2]; rfl); omega
    · intro e; rw [e]
  · rw [if_neg hv]
    simp only [hv, false_and, iff_false]
    omega
theorem root_at {q k : Nat} (hq : q < k) (hp : isRoot V t r q = true) : (rootsL V t r k)[cntR V t r q]? = some q := filter_range_get hq hp
theorem rootsL_at {j k q : Nat} (h : (rootsL V t r k)[j]? = some q) : q < k ∧ isRoot V t r q = true ∧ cntR V t r q = j := by
  obtain ⟨hj, he⟩ := List.getElem?_eq_some_iff.1 h
  obtain ⟨h1, h2⟩ := rootsL_mem.1 (List.mem_of_getElem? h)
  refine ⟨h1, h2, ?_⟩
  have h3 := root_at h1 h2
  have hcl := (List.getElem?_eq_some_iff.1 h3).1
  exact (List.getElem?_inj hcl (rootsL_nodup V t r k)).1 (h3.trans h.symm)
/-- the labels, rising -/
theorem refLab_regs (h : Roots gw V t r) : refLab (labZ V t r) V.length = (List.range (cntR V t r V.length)).map fun j => ((j : Nat) : Int) + 1 := by
  refine sortedLt_ext (refLab_spec V.length).1 ?_ fun x => ?_
  · rw [List.pairwise_map]
    exact List.pairwise_lt_range.imp fun h => by omega
  · rw [(refLab_spec V.length).2, mem_labsN, List.mem_map]
    constructor
    · rintro ⟨h0, i, hi, e⟩
      rw [labZ_get hi] at e
      have hv : t ≤ V.getD i 0 := by
        refine Classical.byContradiction fun hv => h0 ?_
        rw [← e]
        unfold labF
        rw [if_neg hv]; rfl
      have hroot := h.isRoot hi hv
      have hle := h.le i hi
      have h3 := root_at (k := V.length) (show r i < V.length by omega) hroot
      have hcl := (List.getElem?_eq_some_iff.1 h3).1
      refine ⟨cntR V t r (r i), List.mem_range.2 hcl, ?_⟩
      rw [← e]
      unfold labF
      rw [if_pos hv]
      push_cast
      rfl
    · rintro ⟨j, hj, rfl⟩
      have hj := List.mem_range.1 hj
      have h3 : (rootsL V t r V.length)[j]? = some ((rootsL V t r V.length)[j]'hj) := List.getElem?_eq_getElem hj
      obtain ⟨h1, h2, h4⟩ := rootsL_at h3
      refine ⟨by omega, _, h1, ?_⟩
      rw [labZ_get h1]
      have := (lab_root h h1 h2 h1).2 (by
        unfold isRoot at h2
        unfold memB
        exact h2)
      rw [this, h4]
      push_cast
      rfl
/-- what a region's zone is -/
theorem zone_reg (h : Roots gw V t r) {j q : Nat} (hj : (rootsL V t r V.length)[j]? = some q) :
    (znN V (labZ V t r) ((j : Int) + 1) V.length).lb = j + 1 ∧ (znN V (labZ V t r) ((j : Int) + 1) V.length).ar = ((members V t r q V.length).length : Nat) ∧ (znN V (labZ V t r) ((j : Int) + 1) V.length).fs = q ∧ t ≤ (znN V (labZ V t r) ((j : Int) + 1) V.length).mn := by
  obtain ⟨hq, hr, hc⟩ := rootsL_at hj
  have hr' := hr
  unfold isRoot at hr'
  rw [Bool.and_eq_true, decide_eq_true_iff, decide_eq_true_iff] at hr'
  have hl : ∀ i, i < V.length → ((labZ V t r).getD i 0 = (j : Int) + 1 ↔ memB V t r q i = true) := fun i hi => by
    rw [labZ_get hi, ← lab_root h hq hr hi, hc]
    omega
  have hmq : memB V t r q q = true := hr
  refine ⟨znN_lb _, ?_, znN_fs ((hl q hq).2 hmq) (fun i hi e => ?_) _ hq, znN_mn _ (fun i hi e => ?_) ⟨q, hq, (hl q hq).2 hmq⟩⟩
  · rw [znN_cnt]
    unfold members
    congr 2
    refine List.filter_congr fun i hi => ?_
    rw [Bool.eq_iff_iff, decide_eq_true_iff]
    exact hl i (List.mem_range.1 hi)
  · have h1 := (hl i (by omega)).1 e
    unfold memB at h1
    rw [Bool.and_eq_true, decide_eq_true_iff, decide_eq_true_iff] at h1
    have := h.le i (by omega)
    omega
  · have h1 := (hl i hi).1 e
    unfold memB at h1
    rw [Bool.and_eq_true, decide_eq_true_iff, decide_eq_true_iff] at h1
    exact h1.1
theorem side_regs (h : Roots gw V t r) {a b : Int} (ha : a ≠ 0) (hb : b ≠ 0) (hab : a ≠ b) : ∀ n, n ≤ V.length → sideN gw (labZ V t r) a b n = 0
  | 0, _ => rfl
  | n + 1, hn => by
    have ih := side_regs h ha hb hab n (by omega)
    have key : ∀ m, m < V.length → (t ≤ V.getD n 0 → t ≤ V.getD m 0 → r n = r m) → sdB ((labZ V t r).getD n 0) ((labZ V t r).getD m 0) a b = false := fun m hm hs => by
      rw [labZ_get (by omega), labZ_get hm]
      unfold sdB
      rw [Bool.or_eq_false_iff, Bool.and_eq_false_iff, Bool.and_eq_false_iff, decide_eq_false_iff_not, decide_eq_false_iff_not, decide_eq_false_iff_not, decide_eq_false_iff_not]
      unfold labF
      by_cases h1 : t ≤ V.getD n 0
      · by_cases h2 : t ≤ V.getD m 0
        · rw [if_pos h1, if_pos h2, hs h1 h2]; omega
        · rw [if_neg h2]; omega
      · rw [if_neg h1]; omega
    unfold sideN
    rw [ih, if_neg, if_neg]
    · rintro ⟨h1, h2⟩
      rw [key (n - gw) (by omega) (fun v1 v2 => h.up n (by omega) v1 h1 v2)] at h2; cases h2
    · rintro ⟨h1, h2⟩
      rw [key (n - 1) (by omega) (fun v1 v2 => h.left n (by omega) v1 h1 v2)] at h2; cases h2
theorem bord_regs (h : Roots gw V t r) : refBord gw (labZ V t r) V.length = [] := by
  rw [List.eq_nil_iff_forall_not_mem]
  intro p hp
  have hs := (refLab_spec (L := labZ V t r) V.length)
  unfold refBord at hp
  obtain ⟨h1, h2, h3, _, h5⟩ := (mem_refBordL hs.1).1 hp
  rw [hs.2, mem_labsN] at h1 h2
  exact h5 (side_regs h h1.1 h2.1 (by omega) V.length (Nat.le_refl _))
end
end Go.Proofs.Yteihfmifelcidaa
