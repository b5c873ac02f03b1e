/- zones.Mean, zones.Mask; hachurelaw49.ZonesMean, ZonesNil, ZonesMask: the walks. -/
import Derived.Test.YteihfmifelcidaaZK
import Derived.Test.YteihfmifelcidaaRows
import Derived.WalkKit
import Derived.ProofKit
import Derived.OpenShut
import Derived.Below
import Derived.ChangeSame
import Derived.ChangeReads
import Derived.DataReads
import Derived.Lib.SmallJoins
import Derived.Test.YteihfmifelcidaaZA
import Derived.Test.YteihfmifelcidaaZE
namespace Go.Proofs.Yteihfmifelcidaa
open Go.RowKit
set_option linter.unusedVariables false
set_option linter.unusedSimpArgs false
set_option maxRecDepth 100000

/-- rounded down -/
def flrZ (s n : Int) : Int := if s.tmod n < 0 then s.tdiv n - 1 else s.tdiv n
theorem flrZ_bnd {s n : Int} (hs : -9223372036854775808 ≤ s ∧ s ≤ 9223372036854775807) (hn : 1 ≤ n) : (-9223372036854775808 ≤ s.tdiv n ∧ s.tdiv n ≤ 9223372036854775807) ∧ (s.tmod n < 0 → -9223372036854775808 ≤ s.tdiv n - 1) := by
  have h1 : s.tdiv n * n + s.tmod n = s := Int.tdiv_mul_add_tmod s n
  have h2 := Int.natAbs_tdiv_le_natAbs s n
  have h0 := (floor_go (s := s) (n := n) (by omega)).1
  refine ⟨⟨by omega, ?_⟩, fun h => ?_⟩
  · by_cases h5 : 9223372036854775808 ≤ s.tdiv n
    · have h6 : 9223372036854775808 * n ≤ s.tdiv n * n := Int.mul_le_mul_of_nonneg_right h5 (by omega)
      omega
    · omega
  by_cases h3 : n = 1
  · subst h3; rw [Int.tmod_one] at h; omega
  · by_cases h4 : s.tdiv n ≤ -9223372036854775808
    · have h5 : s.tdiv n * n ≤ -9223372036854775808 * n := Int.mul_le_mul_of_nonneg_right h4 (by omega)
      omega
    · omega
section
variable {W : World} {a b c d e f g : Int}
theorem zmean_E (hb : 1 ≤ b) (hc : -9223372036854775808 ≤ c ∧ c ≤ 9223372036854775807) : Fn Try.prog 28 [.agg #[.int .i64 a, .int .i64 b, .int .i64 c, .int .i64 d, .int .i64 e, .int .i64 f, .int .i64 g]] W (RetG (.tuple #[.int .i64 (flrZ c b), .int .i64 0]) W) := by
  obtain ⟨hq, hq1⟩ := flrZ_bnd hc hb
  by_cases hr : c.tmod b < 0
  · have hq2 := hq1 hr
    have hfl : flrZ c b = c.tdiv b - 1 := by unfold flrZ; rw [if_pos hr]
    rw [hfl]
    generalize hgd : c.tdiv b = dv at *
    have S := St.start W
    refine Fn_enter Try.func28 rfl Try.results28 Try.ntmps28 (by kernel_rfl) (by kernel_rfl) ?_
    repeat refine cw_seq ?_
    refine cw_region ?_
    refine rw_newB (op_box rfl) S ?_
    intro b_z w2_ g2_ S
    iterate 2 refine rw_v (op_pure rfl) ?_
    first | refine rw_end ?_ | (refine rw_nil ?_; show CW _ _ _ _ _ _) | refine rw_nil ?_
    repeat refine cw_seq ?_
    refine cw_region ?_
    refine rw_v (op_fieldAddr Try.underlying59 rfl Try.sizeOf2 rfl rfl) ?_
    refine rw_r (op_loadB Try.underlying2 rfl rfl (S.blk (i := 0) rfl) rfl) ?_
    refine rw_v (op_b (b := false) rfl (decide_eq_false (by omega))) ?_
    first | refine rw_end ?_ | (refine rw_nil ?_; show CW _ _ _ _ _ _) | refine rw_nil ?_
    repeat refine cw_seq ?_
    refine cw_false rfl ?_
    repeat refine cw_seq ?_
    refine cw_skip ?_
    try show CW _ _ _ _ _ _
    repeat refine cw_seq ?_
    refine cw_region ?_
    refine rw_v (op_fieldAddr Try.underlying59 rfl Try.sizeOf2 rfl rfl) ?_
    refine rw_r (op_loadB Try.underlying2 rfl rfl (S.blk (i := 0) rfl) rfl) ?_
    refine rw_v (op_fieldAddr Try.underlying59 rfl Try.sizeOf2 rfl rfl) ?_
    refine rw_r (op_loadB Try.underlying2 rfl rfl (S.blk (i := 0) rfl) rfl) ?_
    refine rw_v (op_quoT rfl rfl (by omega) hgd (by omega)) ?_
    refine rw_v (op_pure rfl) ?_
    first | refine rw_end ?_ | (refine rw_nil ?_; show CW _ _ _ _ _ _) | refine rw_nil ?_
    repeat refine cw_seq ?_
    refine cw_region ?_
    refine rw_v (op_fieldAddr Try.underlying59 rfl Try.sizeOf2 rfl rfl) ?_
    refine rw_r (op_loadB Try.underlying2 rfl rfl (S.blk (i := 0) rfl) rfl) ?_
    refine rw_v (op_fieldAddr Try.underlying59 rfl Try.sizeOf2 rfl rfl) ?_
    refine rw_r (op_loadB Try.underlying2 rfl rfl (S.blk (i := 0) rfl) rfl) ?_
    refine rw_v (op_remT rfl rfl (by omega)) ?_
    refine rw_v (op_b (b := true) rfl (decide_eq_true hr)) ?_
    first | refine rw_end ?_ | (refine rw_nil ?_; show CW _ _ _ _ _ _) | refine rw_nil ?_
    repeat refine cw_seq ?_
    refine cw_true rfl ?_
    repeat refine cw_seq ?_
    refine cw_region ?_
    refine rw_v (op_pure rfl) ?_
    refine rw_v (op_rng rfl (by omega)) ?_
    refine rw_v (op_pure rfl) ?_
    first | refine rw_end ?_ | (refine rw_nil ?_; show CW _ _ _ _ _ _) | refine rw_nil ?_
    repeat refine cw_seq ?_
    refine cw_region ?_
    iterate 3 refine rw_v (op_pure rfl) ?_
    first | refine rw_end ?_ | (refine rw_nil ?_; show CW _ _ _ _ _ _) | refine rw_nil ?_
    repeat refine cw_seq ?_
    refine cw_ret ?_
    repeat first | refine ret_then ?_ | refine ret_inb ?_
    exact res2 rfl rfl ⟨rfl, S.out⟩
  · have hfl : flrZ c b = c.tdiv b := by unfold flrZ; rw [if_neg hr]
    rw [hfl]
    generalize hgd : c.tdiv b = dv at *
    have S := St.start W
    refine Fn_enter Try.func28 rfl Try.results28 Try.ntmps28 (by kernel_rfl) (by kernel_rfl) ?_
    repeat refine cw_seq ?_
    refine cw_region ?_
    refine rw_newB (op_box rfl) S ?_
    intro b_z w2_ g2_ S
    iterate 2 refine rw_v (op_pure rfl) ?_
    first | refine rw_end ?_ | (refine rw_nil ?_; show CW _ _ _ _ _ _) | refine rw_nil ?_
    repeat refine cw_seq ?_
    refine cw_region ?_
    refine rw_v (op_fieldAddr Try.underlying59 rfl Try.sizeOf2 rfl rfl) ?_
    refine rw_r (op_loadB Try.underlying2 rfl rfl (S.blk (i := 0) rfl) rfl) ?_
    refine rw_v (op_b (b := false) rfl (decide_eq_false (by omega))) ?_
    first | refine rw_end ?_ | (refine rw_nil ?_; show CW _ _ _ _ _ _) | refine rw_nil ?_
    repeat refine cw_seq ?_
    refine cw_false rfl ?_
    repeat refine cw_seq ?_
    refine cw_skip ?_
    try show CW _ _ _ _ _ _
    repeat refine cw_seq ?_
    refine cw_region ?_
    refine rw_v (op_fieldAddr Try.underlying59 rfl Try.sizeOf2 rfl rfl) ?_
    refine rw_r (op_loadB Try.underlying2 rfl rfl (S.blk (i := 0) rfl) rfl) ?_
    refine rw_v (op_fieldAddr Try.underlying59 rfl Try.sizeOf2 rfl rfl) ?_
    refine rw_r (op_loadB Try.underlying2 rfl rfl (S.blk (i := 0) rfl) rfl) ?_
    refine rw_v (op_quoT rfl rfl (by omega) hgd (by omega)) ?_
    refine rw_v (op_pure rfl) ?_
    first | refine rw_end ?_ | (refine rw_nil ?_; show CW _ _ _ _ _ _) | refine rw_nil ?_
    repeat refine cw_seq ?_
    refine cw_region ?_
    refine rw_v (op_fieldAddr Try.underlying59 rfl Try.sizeOf2 rfl rfl) ?_
    refine rw_r (op_loadB Try.underlying2 rfl rfl (S.blk (i := 0) rfl) rfl) ?_
    refine rw_v (op_fieldAddr Try.underlying59 rfl Try.sizeOf2 rfl rfl) ?_
    refine rw_r (op_loadB Try.underlying2 rfl rfl (S.blk (i := 0) rfl) rfl) ?_
    refine rw_v (op_remT rfl rfl (by omega)) ?_
    refine rw_v (op_b (b := false) rfl (decide_eq_false hr)) ?_
    first | refine rw_end ?_ | (refine rw_nil ?_; show CW _ _ _ _ _ _) | refine rw_nil ?_
    repeat refine cw_seq ?_
    refine cw_false rfl ?_
    repeat refine cw_seq ?_
    refine cw_skip ?_
    try show CW _ _ _ _ _ _
    repeat refine cw_seq ?_
    refine cw_region ?_
    iterate 3 refine rw_v (op_pure rfl) ?_
    first | refine rw_end ?_ | (refine rw_nil ?_; show CW _ _ _ _ _ _) | refine rw_nil ?_
    repeat refine cw_seq ?_
    refine cw_ret ?_
    repeat first | refine ret_then ?_ | refine ret_inb ?_
    exact res2 rfl rfl ⟨rfl, S.out⟩
theorem rfloor_E (hb : 1 ≤ b) (hc : -9223372036854775808 ≤ c ∧ c ≤ 9223372036854775807) : Fn Try.prog 29 [.int .i64 c, .int .i64 b] W (RetG (.int .i64 (flrZ c b)) W) := by
  obtain ⟨hq, hq1⟩ := flrZ_bnd hc hb
  by_cases hr : c.tmod b < 0
  · have hq2 := hq1 hr
    have hfl : flrZ c b = c.tdiv b - 1 := by unfold flrZ; rw [if_pos hr]
    rw [hfl]
    generalize hgd : c.tdiv b = dv at *
    have S := St.start W
    refine Fn_enter Try.func29 rfl Try.results29 Try.ntmps29 (by kernel_rfl) (by kernel_rfl) ?_
    repeat refine cw_seq ?_
    refine cw_region ?_
    refine rw_v (op_pure rfl) ?_
    first | refine rw_end ?_ | (refine rw_nil ?_; show CW _ _ _ _ _ _) | refine rw_nil ?_
    repeat refine cw_seq ?_
    refine cw_region ?_
    iterate 2 refine rw_v (op_pure rfl) ?_
    refine rw_v (op_quoT rfl rfl (by omega) hgd (by omega)) ?_
    refine rw_v (op_pure rfl) ?_
    first | refine rw_end ?_ | (refine rw_nil ?_; show CW _ _ _ _ _ _) | refine rw_nil ?_
    repeat refine cw_seq ?_
    refine cw_region ?_
    iterate 2 refine rw_v (op_pure rfl) ?_
    refine rw_v (op_remT rfl rfl (by omega)) ?_
    refine rw_v (op_b (b := true) rfl (decide_eq_true hr)) ?_
    first | refine rw_end ?_ | (refine rw_nil ?_; show CW _ _ _ _ _ _) | refine rw_nil ?_
    repeat refine cw_seq ?_
    refine cw_true rfl ?_
    repeat refine cw_seq ?_
    refine cw_region ?_
    refine rw_v (op_pure rfl) ?_
    refine rw_v (op_rng rfl (by omega)) ?_
    refine rw_v (op_pure rfl) ?_
    first | refine rw_end ?_ | (refine rw_nil ?_; show CW _ _ _ _ _ _) | refine rw_nil ?_
    repeat refine cw_seq ?_
    refine cw_ret ?_
    repeat first | refine ret_then ?_ | refine ret_inb ?_
    exact res1 rfl ⟨rfl, S.out⟩
  · have hfl : flrZ c b = c.tdiv b := by unfold flrZ; rw [if_neg hr]
    rw [hfl]
    generalize hgd : c.tdiv b = dv at *
    have S := St.start W
    refine Fn_enter Try.func29 rfl Try.results29 Try.ntmps29 (by kernel_rfl) (by kernel_rfl) ?_
    repeat refine cw_seq ?_
    refine cw_region ?_
    refine rw_v (op_pure rfl) ?_
    first | refine rw_end ?_ | (refine rw_nil ?_; show CW _ _ _ _ _ _) | refine rw_nil ?_
    repeat refine cw_seq ?_
    refine cw_region ?_
    iterate 2 refine rw_v (op_pure rfl) ?_
    refine rw_v (op_quoT rfl rfl (by omega) hgd (by omega)) ?_
    refine rw_v (op_pure rfl) ?_
    first | refine rw_end ?_ | (refine rw_nil ?_; show CW _ _ _ _ _ _) | refine rw_nil ?_
    repeat refine cw_seq ?_
    refine cw_region ?_
    iterate 2 refine rw_v (op_pure rfl) ?_
    refine rw_v (op_remT rfl rfl (by omega)) ?_
    refine rw_v (op_b (b := false) rfl (decide_eq_false hr)) ?_
    first | refine rw_end ?_ | (refine rw_nil ?_; show CW _ _ _ _ _ _) | refine rw_nil ?_
    repeat refine cw_seq ?_
    refine cw_false rfl ?_
    repeat refine cw_seq ?_
    refine cw_skip ?_
    try show CW _ _ _ _ _ _
    repeat refine cw_seq ?_
    refine cw_region ?_
    iterate 2 refine rw_v (op_pure rfl) ?_
    first | refine rw_end ?_ | (refine rw_nil ?_; show CW _ _ _ _ _ _) | refine rw_nil ?_
    repeat refine cw_seq ?_
    refine cw_ret ?_
    repeat first | refine ret_then ?_ | refine ret_inb ?_
    exact res1 rfl ⟨rfl, S.out⟩
theorem zonesMean_E (hc : -9223372036854775808 ≤ c ∧ c ≤ 9223372036854775807) : Fn Try.prog 7 [.agg #[.int .i64 a, .int .i64 b, .int .i64 c, .int .i64 d, .int .i64 e, .int .i64 f, .int .i64 g]] W (RetG (.bool true) W) := by
  by_cases hb : b < 1
  · skip
    have S := St.start W
    refine Fn_enter Try.func7 rfl Try.results7 Try.ntmps7 (by kernel_rfl) (by kernel_rfl) ?_
    repeat refine cw_seq ?_
    refine cw_region ?_
    refine rw_newB (op_box rfl) S ?_
    intro b_z w2_ g2_ S
    refine rw_v (op_pure rfl) ?_
    first | refine rw_end ?_ | (refine rw_nil ?_; show CW _ _ _ _ _ _) | refine rw_nil ?_
    repeat refine cw_seq ?_
    refine cw_region ?_
    refine rw_call rfl (awake49_E w2_) ?_
    rintro _ w3_ ⟨rfl, g3_⟩
    have S := S.gr g3_
    refine rw_v (op_pure rfl) ?_
    first | refine rw_end ?_ | (refine rw_nil ?_; show CW _ _ _ _ _ _) | refine rw_nil ?_
    repeat refine cw_seq ?_
    refine cw_false rfl ?_
    repeat refine cw_seq ?_
    refine cw_skip ?_
    try show CW _ _ _ _ _ _
    repeat refine cw_seq ?_
    refine cw_region ?_
    refine rw_r (op_loadAB Try.underlying59 rfl (Try.sizeOf59 _) rfl (S.blk (i := 0) rfl) rfl rfl) ?_
    refine rw_call rfl (zmeanNo_E a b c d e f g hb) ?_
    rintro _ w4_ ⟨rfl, g4_⟩
    have S := S.gr g4_
    iterate 5 refine rw_v (op_pure rfl) ?_
    first | refine rw_end ?_ | (refine rw_nil ?_; show CW _ _ _ _ _ _) | refine rw_nil ?_
    repeat refine cw_seq ?_
    refine cw_region ?_
    refine rw_v (op_fieldAddr Try.underlying59 rfl Try.sizeOf2 rfl rfl) ?_
    refine rw_r (op_loadB Try.underlying2 rfl rfl (S.blk (i := 0) rfl) rfl) ?_
    refine rw_v (op_b (b := true) rfl (decide_eq_true (by omega))) ?_
    first | refine rw_end ?_ | (refine rw_nil ?_; show CW _ _ _ _ _ _) | refine rw_nil ?_
    repeat refine cw_seq ?_
    refine cw_true rfl ?_
    repeat refine cw_seq ?_
    refine cw_region ?_
    refine rw_v (op_pure rfl) ?_
    refine rw_v (op_b (b := true) rfl (beq_iff_eq.2 (by omega))) ?_
    refine rw_v (op_pure rfl) ?_
    first | refine rw_off rfl ?_ | (refine rw_on rfl ?_; refine rw_v (op_pure rfl) ?_)
    first | refine rw_off rfl ?_ | (refine rw_on rfl ?_; refine rw_v (op_b (b := true) rfl (beq_iff_eq.2 (by omega))) ?_)
    iterate 2 refine rw_v (op_pure rfl) ?_
    first | refine rw_end ?_ | (refine rw_nil ?_; show CW _ _ _ _ _ _) | refine rw_nil ?_
    repeat refine cw_seq ?_
    refine cw_ret ?_
    repeat first | refine ret_then ?_ | refine ret_inb ?_
    exact res1 rfl ⟨rfl, S.out⟩
  · skip
    have S := St.start W
    refine Fn_enter Try.func7 rfl Try.results7 Try.ntmps7 (by kernel_rfl) (by kernel_rfl) ?_
    repeat refine cw_seq ?_
    refine cw_region ?_
    refine rw_newB (op_box rfl) S ?_
    intro b_z w2_ g2_ S
    refine rw_v (op_pure rfl) ?_
    first | refine rw_end ?_ | (refine rw_nil ?_; show CW _ _ _ _ _ _) | refine rw_nil ?_
    repeat refine cw_seq ?_
    refine cw_region ?_
    refine rw_call rfl (awake49_E w2_) ?_
    rintro _ w3_ ⟨rfl, g3_⟩
    have S := S.gr g3_
    refine rw_v (op_pure rfl) ?_
    first | refine rw_end ?_ | (refine rw_nil ?_; show CW _ _ _ _ _ _) | refine rw_nil ?_
    repeat refine cw_seq ?_
    refine cw_false rfl ?_
    repeat refine cw_seq ?_
    refine cw_skip ?_
    try show CW _ _ _ _ _ _
    repeat refine cw_seq ?_
    refine cw_region ?_
    refine rw_r (op_loadAB Try.underlying59 rfl (Try.sizeOf59 _) rfl (S.blk (i := 0) rfl) rfl rfl) ?_
    refine rw_call rfl (zmean_E (a := a) (d := d) (e := e) (f := f) (g := g) (by omega) hc) ?_
    rintro _ w4_ ⟨rfl, g4_⟩
    have S := S.gr g4_
    iterate 5 refine rw_v (op_pure rfl) ?_
    first | refine rw_end ?_ | (refine rw_nil ?_; show CW _ _ _ _ _ _) | refine rw_nil ?_
    repeat refine cw_seq ?_
    refine cw_region ?_
    refine rw_v (op_fieldAddr Try.underlying59 rfl Try.sizeOf2 rfl rfl) ?_
    refine rw_r (op_loadB Try.underlying2 rfl rfl (S.blk (i := 0) rfl) rfl) ?_
    refine rw_v (op_b (b := false) rfl (decide_eq_false (by omega))) ?_
    first | refine rw_end ?_ | (refine rw_nil ?_; show CW _ _ _ _ _ _) | refine rw_nil ?_
    repeat refine cw_seq ?_
    refine cw_false rfl ?_
    repeat refine cw_seq ?_
    refine cw_skip ?_
    try show CW _ _ _ _ _ _
    repeat refine cw_seq ?_
    refine cw_region ?_
    refine rw_v (op_pure rfl) ?_
    refine rw_v (op_b (b := true) rfl (beq_iff_eq.2 (by omega))) ?_
    refine rw_v (op_pure rfl) ?_
    first | refine rw_off rfl ?_ | (refine rw_on rfl ?_; refine rw_v (op_pure rfl) ?_)
    first | refine rw_off rfl ?_ | (refine rw_on rfl ?_; refine rw_v (op_fieldAddr Try.underlying59 rfl Try.sizeOf2 rfl rfl) ?_)
    first | refine rw_off rfl ?_ | (refine rw_on rfl ?_; refine rw_r (op_loadB Try.underlying2 rfl rfl (S.blk (i := 0) rfl) rfl) ?_)
    first | refine rw_off rfl ?_ | (refine rw_on rfl ?_; refine rw_v (op_fieldAddr Try.underlying59 rfl Try.sizeOf2 rfl rfl) ?_)
    first | refine rw_off rfl ?_ | (refine rw_on rfl ?_; refine rw_r (op_loadB Try.underlying2 rfl rfl (S.blk (i := 0) rfl) rfl) ?_)
    refine rw_on rfl ?_
    refine rw_call rfl (rfloor_E (by omega) hc) ?_
    rintro _ w5_ ⟨rfl, g5_⟩
    have S := S.gr g5_
    first | refine rw_off rfl ?_ | (refine rw_on rfl ?_; refine rw_v (op_b (b := true) rfl (beq_iff_eq.2 (by omega))) ?_)
    iterate 2 refine rw_v (op_pure rfl) ?_
    first | refine rw_end ?_ | (refine rw_nil ?_; show CW _ _ _ _ _ _) | refine rw_nil ?_
    repeat refine cw_seq ?_
    refine cw_ret ?_
    repeat first | refine ret_then ?_ | refine ret_inb ?_
    exact res1 rfl ⟨rfl, S.out⟩
end
section
variable {W : World} {A B : Option Addr} {p gw gh cap cb : Nat} {cc : Nat → Int} {bs : Nat → Nat} {Rs : Nat → Option Nat} {L : List Int}
theorem zmaskNil_E {n : Nat} (label v : Int) : Fn Try.prog 30 [.pointer none, .slice B n cb, .int .i64 label, .int .i64 v] W (RetG (.tuple #[.pointer none, .int .i64 1]) W) := by
  have S := St.start W
  refine Fn_enter Try.func30 rfl Try.results30 Try.ntmps30 (by kernel_rfl) (by kernel_rfl) ?_
  repeat refine cw_seq ?_
  refine cw_region ?_
  iterate 2 refine rw_v (op_pure rfl) ?_
  first | refine rw_end ?_ | (refine rw_nil ?_; show CW _ _ _ _ _ _) | refine rw_nil ?_
  repeat refine cw_seq ?_
  refine cw_region ?_
  iterate 2 refine rw_v (op_pure rfl) ?_
  refine rw_call rfl (zvalsNil_E) ?_
  rintro _ w1_ ⟨rfl, g1_⟩
  have S := S.gr g1_
  iterate 7 refine rw_v (op_pure rfl) ?_
  first | refine rw_end ?_ | (refine rw_nil ?_; show CW _ _ _ _ _ _) | refine rw_nil ?_
  repeat refine cw_seq ?_
  refine cw_block ?_
  repeat refine cw_seq ?_
  refine cw_region ?_
  refine rw_v (op_pure rfl) ?_
  refine rw_v (op_b (b := true) rfl (bne_iff_ne.2 (by omega))) ?_
  refine rw_v (op_pure rfl) ?_
  first | refine rw_end ?_ | (refine rw_nil ?_; show CW _ _ _ _ _ _) | refine rw_nil ?_
  repeat refine cw_seq ?_
  refine cw_true rfl ?_
  repeat refine cw_seq ?_
  refine cw_region ?_
  iterate 3 refine rw_v (op_pure rfl) ?_
  first | refine rw_end ?_ | (refine rw_nil ?_; show CW _ _ _ _ _ _) | refine rw_nil ?_
  repeat refine cw_seq ?_
  refine cw_ret ?_
  repeat first | refine ret_then ?_ | refine ret_inb ?_
  exact res2 rfl rfl ⟨rfl, S.out⟩
theorem zmaskNo_E {n : Nat} (label v : Int) (hn : n ≠ gw * gh) (hG : GridAt W p gw gh cc A cap bs Rs) : Fn Try.prog 30 [.pointer (some ⟨p, 0, none⟩), .slice B n cb, .int .i64 label, .int .i64 v] W (RetG (.tuple #[.pointer none, .int .i64 6]) W) := by
  have S := St.start W
  refine Fn_enter Try.func30 rfl Try.results30 Try.ntmps30 (by kernel_rfl) (by kernel_rfl) ?_
  repeat refine cw_seq ?_
  refine cw_region ?_
  iterate 2 refine rw_v (op_pure rfl) ?_
  first | refine rw_end ?_ | (refine rw_nil ?_; show CW _ _ _ _ _ _) | refine rw_nil ?_
  repeat refine cw_seq ?_
  refine cw_region ?_
  iterate 2 refine rw_v (op_pure rfl) ?_
  refine rw_call rfl (zvalsNo_E hn (hG.gr S.out)) ?_
  rintro _ w1_ ⟨rfl, g1_⟩
  have S := S.gr g1_
  iterate 7 refine rw_v (op_pure rfl) ?_
  first | refine rw_end ?_ | (refine rw_nil ?_; show CW _ _ _ _ _ _) | refine rw_nil ?_
  repeat refine cw_seq ?_
  refine cw_block ?_
  repeat refine cw_seq ?_
  refine cw_region ?_
  refine rw_v (op_pure rfl) ?_
  refine rw_v (op_b (b := true) rfl (bne_iff_ne.2 (by omega))) ?_
  refine rw_v (op_pure rfl) ?_
  first | refine rw_end ?_ | (refine rw_nil ?_; show CW _ _ _ _ _ _) | refine rw_nil ?_
  repeat refine cw_seq ?_
  refine cw_true rfl ?_
  repeat refine cw_seq ?_
  refine cw_region ?_
  iterate 3 refine rw_v (op_pure rfl) ?_
  first | refine rw_end ?_ | (refine rw_nil ?_; show CW _ _ _ _ _ _) | refine rw_nil ?_
  repeat refine cw_seq ?_
  refine cw_ret ?_
  repeat first | refine ret_then ?_ | refine ret_inb ?_
  exact res2 rfl rfl ⟨rfl, S.out⟩
theorem zmaskVal_E (label v : Int) (hv : mayB v = false) (hG : GridAt W p gw gh cc A cap bs Rs) : Fn Try.prog 30 [.pointer (some ⟨p, 0, none⟩), .slice B (gw * gh) cb, .int .i64 label, .int .i64 v] W (RetG (.tuple #[.pointer none, .int .i64 7]) W) := by
  have hv' : ¬ (-2147483648 ≤ v ∧ v ≤ 2147483647) := fun h => by rw [(mayB_iff v).2 h] at hv; cases hv
  by_cases h1 : v < -2147483648
  · skip
    have S := St.start W
    refine Fn_enter Try.func30 rfl Try.results30 Try.ntmps30 (by kernel_rfl) (by kernel_rfl) ?_
    repeat refine cw_seq ?_
    refine cw_region ?_
    iterate 2 refine rw_v (op_pure rfl) ?_
    first | refine rw_end ?_ | (refine rw_nil ?_; show CW _ _ _ _ _ _) | refine rw_nil ?_
    repeat refine cw_seq ?_
    refine cw_region ?_
    iterate 2 refine rw_v (op_pure rfl) ?_
    refine rw_call rfl (zvals_E (hG.gr S.out)) ?_
    rintro _ w1_ ⟨A_vs, c_vs, rfl, hR_vs, hf_vs, g1_⟩
    have S := S.pushRow hR_vs hf_vs g1_
    iterate 7 refine rw_v (op_pure rfl) ?_
    first | refine rw_end ?_ | (refine rw_nil ?_; show CW _ _ _ _ _ _) | refine rw_nil ?_
    repeat refine cw_seq ?_
    refine cw_block ?_
    repeat refine cw_seq ?_
    refine cw_region ?_
    refine rw_v (op_pure rfl) ?_
    refine rw_v (op_b (b := false) rfl (bne_eq_false_iff_eq.2 (by omega))) ?_
    refine rw_v (op_pure rfl) ?_
    first | refine rw_end ?_ | (refine rw_nil ?_; show CW _ _ _ _ _ _) | refine rw_nil ?_
    repeat refine cw_seq ?_
    refine cw_false rfl ?_
    repeat refine cw_seq ?_
    refine cw_region ?_
    refine rw_v (op_pure rfl) ?_
    refine rw_v (op_b (b := true) rfl (decide_eq_true (by omega))) ?_
    refine rw_v (op_pure rfl) ?_
    first | refine rw_off rfl ?_ | (refine rw_on rfl ?_; refine rw_v (op_pure rfl) ?_)
    first | refine rw_off rfl ?_ | (refine rw_on rfl ?_; (first | refine rw_v (op_b (b := true) rfl (decide_eq_true (by omega))) ?_ | refine rw_v (op_b (b := false) rfl (decide_eq_false (by omega))) ?_ | refine rw_v (op_pure rfl) ?_))
    iterate 2 refine rw_v (op_pure rfl) ?_
    first | refine rw_end ?_ | (refine rw_nil ?_; show CW _ _ _ _ _ _) | refine rw_nil ?_
    repeat refine cw_seq ?_
    refine cw_true rfl ?_
    repeat refine cw_seq ?_
    refine cw_region ?_
    iterate 2 refine rw_v (op_pure rfl) ?_
    first | refine rw_end ?_ | (refine rw_nil ?_; show CW _ _ _ _ _ _) | refine rw_nil ?_
    repeat refine cw_seq ?_
    refine cw_ret ?_
    repeat first | refine ret_then ?_ | refine ret_inb ?_
    exact res2 rfl rfl ⟨rfl, S.out⟩
  · skip
    have S := St.start W
    refine Fn_enter Try.func30 rfl Try.results30 Try.ntmps30 (by kernel_rfl) (by kernel_rfl) ?_
    repeat refine cw_seq ?_
    refine cw_region ?_
    iterate 2 refine rw_v (op_pure rfl) ?_
    first | refine rw_end ?_ | (refine rw_nil ?_; show CW _ _ _ _ _ _) | refine rw_nil ?_
    repeat refine cw_seq ?_
    refine cw_region ?_
    iterate 2 refine rw_v (op_pure rfl) ?_
    refine rw_call rfl (zvals_E (hG.gr S.out)) ?_
    rintro _ w1_ ⟨A_vs, c_vs, rfl, hR_vs, hf_vs, g1_⟩
    have S := S.pushRow hR_vs hf_vs g1_
    iterate 7 refine rw_v (op_pure rfl) ?_
    first | refine rw_end ?_ | (refine rw_nil ?_; show CW _ _ _ _ _ _) | refine rw_nil ?_
    repeat refine cw_seq ?_
    refine cw_block ?_
    repeat refine cw_seq ?_
    refine cw_region ?_
    refine rw_v (op_pure rfl) ?_
    refine rw_v (op_b (b := false) rfl (bne_eq_false_iff_eq.2 (by omega))) ?_
    refine rw_v (op_pure rfl) ?_
    first | refine rw_end ?_ | (refine rw_nil ?_; show CW _ _ _ _ _ _) | refine rw_nil ?_
    repeat refine cw_seq ?_
    refine cw_false rfl ?_
    repeat refine cw_seq ?_
    refine cw_region ?_
    refine rw_v (op_pure rfl) ?_
    refine rw_v (op_b (b := false) rfl (decide_eq_false (by omega))) ?_
    refine rw_v (op_pure rfl) ?_
    first | refine rw_off rfl ?_ | (refine rw_on rfl ?_; refine rw_v (op_pure rfl) ?_)
    first | refine rw_off rfl ?_ | (refine rw_on rfl ?_; refine rw_v (op_b (b := true) rfl (decide_eq_true (by omega))) ?_)
    iterate 2 refine rw_v (op_pure rfl) ?_
    first | refine rw_end ?_ | (refine rw_nil ?_; show CW _ _ _ _ _ _) | refine rw_nil ?_
    repeat refine cw_seq ?_
    refine cw_true rfl ?_
    repeat refine cw_seq ?_
    refine cw_region ?_
    iterate 2 refine rw_v (op_pure rfl) ?_
    first | refine rw_end ?_ | (refine rw_nil ?_; show CW _ _ _ _ _ _) | refine rw_nil ?_
    repeat refine cw_seq ?_
    refine cw_ret ?_
    repeat first | refine ret_then ?_ | refine ret_inb ?_
    exact res2 rfl rfl ⟨rfl, S.out⟩
/-- one part alone -/
def maskF (cc : Nat → Int) (L : List Int) (label v : Int) (i : Nat) : Int := if L.getD i 0 = label then cc i else v
set_option maxHeartbeats 1000000 in
theorem zmask_E (label v : Int) (hv : mayB v = true) (hmay : ∀ i, i < gw * gh → mayB (cc i) = true) (hL : L.length = gw * gh) (hB : Rd W B (ints L)) (hG : GridAt W p gw gh cc A cap bs Rs) :
    Fn Try.prog 30 [.pointer (some ⟨p, 0, none⟩), .slice B (gw * gh) cb, .int .i64 label, .int .i64 v] W (RetGrid (fun p => .tuple #[p, .int .i64 0]) gw gh (fun i => (gridL gw gh (maskF cc L label v)).getD i 0) W) := by
  have hv' := (mayB_iff v).1 hv
  have hw := hG.sw
  have hh := hG.sh
  have hm : gw * gh ≤ 1024 * 1024 := Nat.mul_le_mul hw.2 hh.2
  have hpos : 1 ≤ gw * gh := Nat.mul_le_mul hw.1 hh.1
  have sa_B : SomeA B := hB.someA (by rw [ints_len]; omega)
  have eq1 : ((gw * gh : Nat) : Int) / gw = gh := by
    push_cast
    exact Int.mul_ediv_cancel_left _ (by omega)
  have hmm : ∀ x ∈ gridL gw gh (maskF cc L label v), mayB x = true := fun x hx => by
    obtain ⟨i, hi, rfl⟩ := List.mem_map.1 hx
    unfold maskF
    split
    · exact hmay i (by simpa using hi)
    · exact hv
  have S := St.start W
  refine Fn_enter Try.func30 rfl Try.results30 Try.ntmps30 (by kernel_rfl) (by kernel_rfl) ?_
  repeat refine cw_seq ?_
  refine cw_region ?_
  iterate 2 refine rw_v (op_pure rfl) ?_
  first | refine rw_end ?_ | (refine rw_nil ?_; show CW _ _ _ _ _ _) | refine rw_nil ?_
  repeat refine cw_seq ?_
  refine cw_region ?_
  iterate 2 refine rw_v (op_pure rfl) ?_
  refine rw_call rfl (zvals_E (hG.gr S.out)) ?_
  rintro _ w1_ ⟨A_vs, c_vs, rfl, hR_vs, hf_vs, g1_⟩
  have S := S.pushRow hR_vs hf_vs g1_
  iterate 7 refine rw_v (op_pure rfl) ?_
  first | refine rw_end ?_ | (refine rw_nil ?_; show CW _ _ _ _ _ _) | refine rw_nil ?_
  repeat refine cw_seq ?_
  refine cw_block ?_
  repeat refine cw_seq ?_
  refine cw_region ?_
  refine rw_v (op_pure rfl) ?_
  refine rw_v (op_b (b := false) rfl (bne_eq_false_iff_eq.2 (by omega))) ?_
  refine rw_v (op_pure rfl) ?_
  first | refine rw_end ?_ | (refine rw_nil ?_; show CW _ _ _ _ _ _) | refine rw_nil ?_
  repeat refine cw_seq ?_
  refine cw_false rfl ?_
  repeat refine cw_seq ?_
  refine cw_region ?_
  refine rw_v (op_pure rfl) ?_
  refine rw_v (op_b (b := false) rfl (decide_eq_false (by omega))) ?_
  refine rw_v (op_pure rfl) ?_
  first | refine rw_off rfl ?_ | (refine rw_on rfl ?_; refine rw_v (op_pure rfl) ?_)
  first | refine rw_off rfl ?_ | (refine rw_on rfl ?_; refine rw_v (op_b (b := false) rfl (decide_eq_false (by omega))) ?_)
  iterate 2 refine rw_v (op_pure rfl) ?_
  first | refine rw_end ?_ | (refine rw_nil ?_; show CW _ _ _ _ _ _) | refine rw_nil ?_
  repeat refine cw_seq ?_
  refine cw_false rfl ?_
  repeat refine cw_seq ?_
  refine cw_skip ?_
  try show CW _ _ _ _ _ _
  repeat refine cw_seq ?_
  refine cw_region ?_
  refine rw_v (op_pure rfl) ?_
  refine rw_v (op_len Try.underlying22 rfl) ?_
  refine rw_v (op_pure rfl) ?_
  first | refine rw_end ?_ | (refine rw_nil ?_; show CW _ _ _ _ _ _) | refine rw_nil ?_
  repeat refine cw_seq ?_
  refine cw_block ?_
  repeat refine cw_seq ?_
  rw [show ints (gridL gw gh cc) = cellsQ (gw * gh) (fun i => if i < 0 then maskF cc L label v i else cc i) by rw [cellsQ_ints]; rfl] at S
  refine cw_loop (fun m e w => ∃ k : Nat, k + m = gw * gh ∧ SL e [(1, .slice B (gw * gh) cb), (2, .int .i64 label), (3, .int .i64 v), (10, .slice A_vs (gw * gh) c_vs), (11, .int .i64 gw), (33, .int .i64 (gw * gh : Nat)), (34, .int .i64 k)] ∧
    St No W w [.row 2 1 A_vs (gw * gh) c_vs (cellsQ (gw * gh) (fun i => if i < k then maskF cc L label v i else cc i))]) (gw * gh)
    ⟨0, by omega, ⟨rfl, rfl, rfl, rfl, rfl, rfl, rfl, trivial⟩, S⟩ ?_
  clear S
  rintro m e w ⟨k, hk, hsl, S⟩
  rw [hsl.fold]
  repeat refine cw_seq ?_
  refine cw_region ?_
  refine rw_v (op_pure rfl) ?_
  first | refine rw_end ?_ | (refine rw_nil ?_; show CW _ _ _ _ _ _) | refine rw_nil ?_
  repeat refine cw_seq ?_
  refine cw_cond rfl (fun hc => ?_) (fun hc => ?_)
  · try simp only [decide_eq_true_eq, decide_eq_false_iff_not, beq_iff_eq, bne_iff_ne, beq_eq_false_iff_ne, bne_eq_false_iff_eq, Bool.not_eq_true', Bool.not_eq_false', ne_eq, Decidable.not_not, Int.natCast_inj, Int.ofNat_lt, Int.ofNat_le, gt_iff_lt, ge_iff_le, Int.not_lt, Int.not_le] at hc
    have hkn : k < gw * gh := by omega
    have hget : (ints L)[(k : Int).toNat * 1]? = some (.int .i64 (L.getD k 0)) := by rw [Nat.mul_one, Int.toNat_natCast]; exact ints_get (getD_at (by omega))
    have sa_vs : SomeA A_vs := (S.row (i := 0) rfl).someA (by omega)
    by_cases hl : L.getD k 0 = label
    · skip
      repeat refine cw_seq ?_
      refine cw_skip ?_
      try show CW _ _ _ _ _ _
      repeat refine cw_seq ?_
      refine cw_block ?_
      repeat refine cw_seq ?_
      refine cw_region ?_
      iterate 2 refine rw_v (op_pure rfl) ?_
      first | refine rw_end ?_ | (refine rw_nil ?_; show CW _ _ _ _ _ _) | refine rw_nil ?_
      repeat refine cw_seq ?_
      refine cw_region ?_
      iterate 2 refine rw_v (op_pure rfl) ?_
      refine rw_v (op_idx Try.underlying22 Try.sizeOf2 rfl rfl sa_B (by omega) (by omega)) ?_
      refine rw_r (op_ldR Try.underlying2 rfl rfl (hB.gr S.out) hget) ?_
      refine rw_v (op_pure rfl) ?_
      refine rw_v (op_b (b := false) rfl (bne_eq_false_iff_eq.2 (by omega))) ?_
      first | refine rw_end ?_ | (refine rw_nil ?_; show CW _ _ _ _ _ _) | refine rw_nil ?_
      repeat refine cw_seq ?_
      refine cw_false rfl ?_
      repeat refine cw_seq ?_
      refine cw_skip ?_
      try show CW _ _ _ _ _ _
      repeat refine cw_seq ?_
      refine cw_region ?_
      refine rw_v (op_rng rfl (by omega)) ?_
      refine rw_v (op_pure rfl) ?_
      first | refine rw_end ?_ | (refine rw_nil ?_; show CW _ _ _ _ _ _) | refine rw_nil ?_
      rw [cellsQ_congr (o' := fun i => if i < k + 1 then maskF cc L label v i else cc i) (fun i hi => by
        (try dsimp only)
        by_cases e1 : i < k
        · rw [if_pos e1, if_pos (by omega)]
        · by_cases e2 : i = k
          · subst e2; rw [if_neg e1, if_pos (by omega)]; unfold maskF; rw [if_pos hl]
          · rw [if_neg e1, if_neg (by omega)])] at S
      exact ⟨m - 1, by omega, k + 1, by omega, ⟨rfl, rfl, rfl, rfl, rfl, rfl, ie (by omega), trivial⟩, S⟩
    · skip
      repeat refine cw_seq ?_
      refine cw_skip ?_
      try show CW _ _ _ _ _ _
      repeat refine cw_seq ?_
      refine cw_block ?_
      repeat refine cw_seq ?_
      refine cw_region ?_
      iterate 2 refine rw_v (op_pure rfl) ?_
      first | refine rw_end ?_ | (refine rw_nil ?_; show CW _ _ _ _ _ _) | refine rw_nil ?_
      repeat refine cw_seq ?_
      refine cw_region ?_
      iterate 2 refine rw_v (op_pure rfl) ?_
      refine rw_v (op_idx Try.underlying22 Try.sizeOf2 rfl rfl sa_B (by omega) (by omega)) ?_
      refine rw_r (op_ldR Try.underlying2 rfl rfl (hB.gr S.out) hget) ?_
      refine rw_v (op_pure rfl) ?_
      refine rw_v (op_b (b := true) rfl (bne_iff_ne.2 (by omega))) ?_
      first | refine rw_end ?_ | (refine rw_nil ?_; show CW _ _ _ _ _ _) | refine rw_nil ?_
      repeat refine cw_seq ?_
      refine cw_true rfl ?_
      repeat refine cw_seq ?_
      refine cw_region ?_
      iterate 3 refine rw_v (op_pure rfl) ?_
      refine rw_v (op_idx Try.underlying22 Try.sizeOf2 rfl rfl sa_vs (by omega) (by omega)) ?_
      refine rw_storeR (i := 0) S rfl (Try.sizeOf2 _) rfl rfl rfl rfl (by rw [cellsQ_len]; omega) rfl ?_
      intro w2_ S
      first | refine rw_end ?_ | (refine rw_nil ?_; show CW _ _ _ _ _ _) | refine rw_nil ?_
      repeat refine cw_seq ?_
      refine cw_region ?_
      refine rw_v (op_rng rfl (by omega)) ?_
      refine rw_v (op_pure rfl) ?_
      first | refine rw_end ?_ | (refine rw_nil ?_; show CW _ _ _ _ _ _) | refine rw_nil ?_
      rw [cellsQ_set, cellsQ_congr (o' := fun i => if i < k + 1 then maskF cc L label v i else cc i) (fun i hi => by
        unfold updI
        by_cases e2 : i = k
        · subst e2; rw [if_pos rfl, if_pos (by omega)]; unfold maskF; rw [if_neg hl]
        · rw [if_neg e2]
          (try dsimp only)
          by_cases e1 : i < k
          · rw [if_pos e1, if_pos (by omega)]
          · rw [if_neg e1, if_neg (by omega)])] at S
      exact ⟨m - 1, by omega, k + 1, by omega, ⟨rfl, rfl, rfl, rfl, rfl, rfl, ie (by omega), trivial⟩, S⟩
  · try simp only [decide_eq_true_eq, decide_eq_false_iff_not, beq_iff_eq, bne_iff_ne, beq_eq_false_iff_ne, bne_eq_false_iff_eq, Bool.not_eq_true', Bool.not_eq_false', ne_eq, Decidable.not_not, Int.natCast_inj, Int.ofNat_lt, Int.ofNat_le, gt_iff_lt, ge_iff_le, Int.not_lt, Int.not_le] at hc
    obtain rfl : k = gw * gh := by omega
    rw [cellsQ_congr (o' := maskF cc L label v) (fun i hi => by rw [if_pos hi]), cellsQ_ints] at S
    have S : St No W w [.row 2 1 A_vs (gw * gh) c_vs (ints (gridL gw gh (maskF cc L label v)))] := S
    have hfr := fun w h => from_E (W := w) (B := A_vs) (gw := gw) (gh := gh) c_vs hw hh (gridL_len gw gh (maskF cc L label v)) hmm h
    rw [gridL_len] at hfr
    repeat refine cw_seq ?_
    refine cw_exit ?_
    repeat first | refine exit_then ?_ | refine exit_inb ?_
    show CW _ _ _ _ _ _
    repeat refine cw_seq ?_
    refine cw_region ?_
    iterate 2 refine rw_v (op_pure rfl) ?_
    refine rw_v (op_len Try.underlying22 rfl) ?_
    refine rw_v (op_pure rfl) ?_
    refine rw_v (op_div rfl rfl (by omega) (by omega)) ?_
    rw [eq1]
    refine rw_v (op_pure rfl) ?_
    refine rw_call rfl (hfr w (S.rd (i := 0) rfl)) ?_
    rintro _ w3_ ⟨p2, B2, bc, bs2, Rs2, rfl, hG2, hf2, g3_⟩
    have S := S.pushGrid hG2 hf2 g3_
    iterate 4 refine rw_v (op_pure rfl) ?_
    first | refine rw_end ?_ | (refine rw_nil ?_; show CW _ _ _ _ _ _) | refine rw_nil ?_
    repeat refine cw_seq ?_
    refine cw_ret ?_
    repeat first | refine ret_then ?_ | refine ret_inb ?_
    exact res2 rfl rfl (S.retGrid (i := 0) rfl)
theorem zonesNil_E {n : Nat} (label v : Int) (hn : n ≤ 9223372036854775807) : Fn Try.prog 8 [.slice B n cb, .int .i64 label, .int .i64 v] W (RetG (.bool true) W) := by
  by_cases h : n ≤ 100
  · skip
    have S := St.start W
    refine Fn_enter Try.func8 rfl Try.results8 Try.ntmps8 (by kernel_rfl) (by kernel_rfl) ?_
    repeat refine cw_seq ?_
    refine cw_region ?_
    refine rw_v (op_pure rfl) ?_
    first | refine rw_end ?_ | (refine rw_nil ?_; show CW _ _ _ _ _ _) | refine rw_nil ?_
    repeat refine cw_seq ?_
    refine cw_region ?_
    refine rw_call rfl (awake49_E W) ?_
    rintro _ w1_ ⟨rfl, g1_⟩
    have S := S.gr g1_
    refine rw_v (op_pure rfl) ?_
    first | refine rw_end ?_ | (refine rw_nil ?_; show CW _ _ _ _ _ _) | refine rw_nil ?_
    repeat refine cw_seq ?_
    refine cw_false rfl ?_
    repeat refine cw_seq ?_
    refine cw_skip ?_
    try show CW _ _ _ _ _ _
    repeat refine cw_seq ?_
    refine cw_region ?_
    refine rw_v (op_pure rfl) ?_
    refine rw_v (op_len Try.underlying22 rfl) ?_
    refine rw_v (op_b (b := false) rfl (decide_eq_false (by omega))) ?_
    first | refine rw_end ?_ | (refine rw_nil ?_; show CW _ _ _ _ _ _) | refine rw_nil ?_
    repeat refine cw_seq ?_
    refine cw_false rfl ?_
    repeat refine cw_seq ?_
    refine cw_skip ?_
    try show CW _ _ _ _ _ _
    repeat refine cw_seq ?_
    refine cw_region ?_
    refine rw_v (op_pure rfl) ?_
    refine rw_call rfl (zofNil_E) ?_
    rintro _ w2_ ⟨rfl, g2_⟩
    have S := S.gr g2_
    iterate 5 refine rw_v (op_pure rfl) ?_
    first | refine rw_end ?_ | (refine rw_nil ?_; show CW _ _ _ _ _ _) | refine rw_nil ?_
    repeat refine cw_seq ?_
    refine cw_region ?_
    refine rw_v (op_pure rfl) ?_
    refine rw_call rfl (zbordNil_E) ?_
    rintro _ w3_ ⟨rfl, g3_⟩
    have S := S.gr g3_
    iterate 5 refine rw_v (op_pure rfl) ?_
    first | refine rw_end ?_ | (refine rw_nil ?_; show CW _ _ _ _ _ _) | refine rw_nil ?_
    repeat refine cw_seq ?_
    refine cw_region ?_
    iterate 3 refine rw_v (op_pure rfl) ?_
    refine rw_call rfl (zmaskNil_E label v) ?_
    rintro _ w4_ ⟨rfl, g4_⟩
    have S := S.gr g4_
    iterate 5 refine rw_v (op_pure rfl) ?_
    first | refine rw_end ?_ | (refine rw_nil ?_; show CW _ _ _ _ _ _) | refine rw_nil ?_
    repeat refine cw_seq ?_
    refine cw_region ?_
    refine rw_v (op_pure rfl) ?_
    refine rw_v (op_len Try.underlying52 rfl) ?_
    refine rw_v (op_b (b := true) rfl (beq_iff_eq.2 (by omega))) ?_
    refine rw_v (op_pure rfl) ?_
    first | refine rw_off rfl ?_ | (refine rw_on rfl ?_; refine rw_v (op_pure rfl) ?_)
    first | refine rw_off rfl ?_ | (refine rw_on rfl ?_; refine rw_v (op_b (b := true) rfl (beq_iff_eq.2 (by omega))) ?_)
    iterate 2 refine rw_v (op_pure rfl) ?_
    first | refine rw_off rfl ?_ | (refine rw_on rfl ?_; refine rw_v (op_pure rfl) ?_)
    first | refine rw_off rfl ?_ | (refine rw_on rfl ?_; refine rw_v (op_len Try.underlying61 rfl) ?_)
    first | refine rw_off rfl ?_ | (refine rw_on rfl ?_; refine rw_v (op_b (b := true) rfl (beq_iff_eq.2 (by omega))) ?_)
    iterate 2 refine rw_v (op_pure rfl) ?_
    first | refine rw_off rfl ?_ | (refine rw_on rfl ?_; refine rw_v (op_pure rfl) ?_)
    first | refine rw_off rfl ?_ | (refine rw_on rfl ?_; refine rw_v (op_b (b := true) rfl (beq_iff_eq.2 (by omega))) ?_)
    iterate 2 refine rw_v (op_pure rfl) ?_
    first | refine rw_off rfl ?_ | (refine rw_on rfl ?_; refine rw_v (op_pure rfl) ?_)
    first | refine rw_off rfl ?_ | (refine rw_on rfl ?_; refine rw_v (op_nilp Try.underlying28 rfl rfl) ?_)
    iterate 2 refine rw_v (op_pure rfl) ?_
    first | refine rw_off rfl ?_ | (refine rw_on rfl ?_; refine rw_v (op_pure rfl) ?_)
    first | refine rw_off rfl ?_ | (refine rw_on rfl ?_; refine rw_v (op_b (b := true) rfl (beq_iff_eq.2 (by omega))) ?_)
    iterate 2 refine rw_v (op_pure rfl) ?_
    first | refine rw_end ?_ | (refine rw_nil ?_; show CW _ _ _ _ _ _) | refine rw_nil ?_
    repeat refine cw_seq ?_
    refine cw_ret ?_
    repeat first | refine ret_then ?_ | refine ret_inb ?_
    exact res1 rfl ⟨rfl, S.out⟩
  · skip
    have S := St.start W
    refine Fn_enter Try.func8 rfl Try.results8 Try.ntmps8 (by kernel_rfl) (by kernel_rfl) ?_
    repeat refine cw_seq ?_
    refine cw_region ?_
    refine rw_v (op_pure rfl) ?_
    first | refine rw_end ?_ | (refine rw_nil ?_; show CW _ _ _ _ _ _) | refine rw_nil ?_
    repeat refine cw_seq ?_
    refine cw_region ?_
    refine rw_call rfl (awake49_E W) ?_
    rintro _ w1_ ⟨rfl, g1_⟩
    have S := S.gr g1_
    refine rw_v (op_pure rfl) ?_
    first | refine rw_end ?_ | (refine rw_nil ?_; show CW _ _ _ _ _ _) | refine rw_nil ?_
    repeat refine cw_seq ?_
    refine cw_false rfl ?_
    repeat refine cw_seq ?_
    refine cw_skip ?_
    try show CW _ _ _ _ _ _
    repeat refine cw_seq ?_
    refine cw_region ?_
    refine rw_v (op_pure rfl) ?_
    refine rw_v (op_len Try.underlying22 rfl) ?_
    refine rw_v (op_b (b := true) rfl (decide_eq_true (by omega))) ?_
    first | refine rw_end ?_ | (refine rw_nil ?_; show CW _ _ _ _ _ _) | refine rw_nil ?_
    repeat refine cw_seq ?_
    refine cw_true rfl ?_
    repeat refine cw_seq ?_
    refine cw_region ?_
    refine rw_v (op_pure rfl) ?_
    first | refine rw_end ?_ | (refine rw_nil ?_; show CW _ _ _ _ _ _) | refine rw_nil ?_
    repeat refine cw_seq ?_
    refine cw_ret ?_
    repeat first | refine ret_then ?_ | refine ret_inb ?_
    exact res1 rfl ⟨rfl, S.out⟩
end
end Go.Proofs.Yteihfmifelcidaa
/- hachurelaw49.ZonesMask: the walk. -/
namespace Go.Proofs.Yteihfmifelcidaa
open Go.RowKit
set_option linter.unusedVariables false
set_option linter.unusedSimpArgs false
set_option maxRecDepth 100000

section
variable {W : World} {A B : Option Addr} {V L : List Int}
theorem rebuildM {gw gh : Nat} {cc : Nat → Int} : gridL gw gh (fun i => (gridL gw gh cc).getD i 0) = gridL gw gh cc := gridL_made (gridL_len gw gh cc)
set_option maxHeartbeats 4000000 in
theorem zonesMask_E (w h : Int) (cap cb : Nat) (label n : Int) (hl : V.length ≤ 9223372036854775807) (hlL : L.length ≤ 9223372036854775807) (hA : Rd W A (ints V)) (hB : Rd W B (ints L)) :
    Fn Try.prog 9 [.int .i64 w, .int .i64 h, .slice A V.length cap, .slice B L.length cb, .int .i64 label, .int .i64 n] W (RetG (.bool true) W) := by
  by_cases hok : LandOk w h V 1000
  · by_cases hl5 : L.length ≤ 1500
    · obtain ⟨gw, rfl⟩ := Int.eq_ofNat_of_zero_le (show 0 ≤ w by have := hok.w1; omega)
      obtain ⟨gh, rfl⟩ := Int.eq_ofNat_of_zero_le (show 0 ≤ h by have := hok.h1; omega)
      have hw : 1 ≤ gw ∧ gw ≤ 1024 := by have := hok.w1; have := hok.wm; omega
      have hh : 1 ≤ gh ∧ gh ≤ 1024 := by have := hok.h1; have := hok.hm; omega
      have hmi : (gw : Int) * gh = ((gw * gh : Nat) : Int) := by push_cast; rfl
      have hVg : V.length = gw * gh := by have := hok.len; rw [hmi] at this; omega
      have hm : gw * gh ≤ 1000 := by have := hok.area; rw [hmi] at this; omega
      have hmay := hok.may
      by_cases hcnt : L.length = V.length
      · cases hmv : mayB n with
        | false =>
          have hmn := fun (p : Nat) (B2 : Option Addr) (bc : Nat) (bs : Nat → Nat) (Rs : Nat → Option Nat) (w : World) (hG : GridAt w p gw gh (fun i => V.getD i 0) B2 bc bs Rs) => zmaskVal_E (W := w) (B := B) (cb := cb) label n hmv hG
          rw [← hVg, ← hcnt] at hmn
          have G := Gr.refl W
          have S := St.start W
          refine Fn_enter Try.func9 rfl Try.results9 Try.ntmps9 (by kernel_rfl) (by kernel_rfl) ?_
          repeat refine cw_seq ?_
          refine cw_region ?_
          refine rw_v (op_pure rfl) ?_
          first | refine rw_end ?_ | (refine rw_nil ?_; show CW _ _ _ _ _ _) | refine rw_nil ?_
          repeat refine cw_seq ?_
          refine cw_region ?_
          refine rw_call rfl (awake49_E W) ?_
          rintro _ w1_ ⟨rfl, g1_⟩
          have S := S.gr g1_
          refine rw_v (op_pure rfl) ?_
          first | refine rw_end ?_ | (refine rw_nil ?_; show CW _ _ _ _ _ _) | refine rw_nil ?_
          repeat refine cw_seq ?_
          refine cw_false rfl ?_
          repeat refine cw_seq ?_
          refine cw_skip ?_
          try show CW _ _ _ _ _ _
          repeat refine cw_seq ?_
          refine cw_region ?_
          iterate 3 refine rw_v (op_pure rfl) ?_
          refine rw_call rfl (land_E gw gh 1000 cap (by omega) hok (hA.gr S.out)) ?_
          rintro _ w2_ ⟨rfl, g2_⟩
          have S := S.gr g2_
          iterate 3 refine rw_v (op_pure rfl) ?_
          refine rw_newB (op_alloc Try.zeroValue25 rfl) S ?_
          intro b_md w4_ g4_ S
          refine rw_storeSA (i := 0) S rfl (Try.sizeOf25 _) rfl rfl rfl rfl rfl rfl ?_
          intro w5_ S
          refine rw_v (op_pure rfl) ?_
          first | refine rw_end ?_ | (refine rw_nil ?_; show CW _ _ _ _ _ _) | refine rw_nil ?_
          repeat refine cw_seq ?_
          refine cw_region ?_
          iterate 3 refine rw_v (op_pure rfl) ?_
          first | refine rw_off rfl ?_ | (refine rw_on rfl ?_; refine rw_v (op_pure rfl) ?_)
          first | refine rw_off rfl ?_ | (refine rw_on rfl ?_; refine rw_v (op_len Try.underlying22 rfl) ?_)
          first | refine rw_off rfl ?_ | (refine rw_on rfl ?_; refine rw_v (op_b (b := false) rfl (decide_eq_false (by omega))) ?_)
          refine rw_v (op_pure rfl) ?_
          first | refine rw_end ?_ | (refine rw_nil ?_; show CW _ _ _ _ _ _) | refine rw_nil ?_
          repeat refine cw_seq ?_
          refine cw_false rfl ?_
          repeat refine cw_seq ?_
          refine cw_skip ?_
          try show CW _ _ _ _ _ _
          repeat refine cw_seq ?_
          refine cw_region ?_
          iterate 3 refine rw_v (op_pure rfl) ?_
          refine rw_call rfl (made_E gw gh cap hw hh hVg hmay (hA.gr S.out)) ?_
          rintro _ w6_ ⟨p, B2, bc, bs, Rs, rfl, hG, hf, g6_⟩
          have S := S.pushGrid hG hf g6_
          iterate 5 refine rw_v (op_pure rfl) ?_
          first | refine rw_end ?_ | (refine rw_nil ?_; show CW _ _ _ _ _ _) | refine rw_nil ?_
          repeat refine cw_seq ?_
          refine cw_region ?_
          iterate 2 refine rw_v (op_pure rfl) ?_
          first | refine rw_end ?_ | (refine rw_nil ?_; show CW _ _ _ _ _ _) | refine rw_nil ?_
          repeat refine cw_seq ?_
          refine cw_false rfl ?_
          repeat refine cw_seq ?_
          refine cw_skip ?_
          try show CW _ _ _ _ _ _
          repeat refine cw_seq ?_
          refine cw_region ?_
          iterate 4 refine rw_v (op_pure rfl) ?_
          refine rw_call rfl (hmn p B2 bc bs Rs w6_ (S.grid (i := 0) rfl)) ?_
          rintro _ w7_ ⟨rfl, g7_⟩
          have S := S.gr g7_
          iterate 5 refine rw_v (op_pure rfl) ?_
          first | refine rw_end ?_ | (refine rw_nil ?_; show CW _ _ _ _ _ _) | refine rw_nil ?_
          repeat refine cw_seq ?_
          refine cw_region ?_
          iterate 2 refine rw_v (op_pure rfl) ?_
          refine rw_v (op_build (pl := [(0, 1), (1, 1), (2, 1)]) Try.underlying25 Try.zeroValue25 (fun w => by kernel_rfl) rfl rfl) ?_
          refine rw_newB (op_alloc Try.zeroValue25 rfl) S ?_
          intro b_m2 w9_ g9_ S
          refine rw_storeSA (i := 0) S rfl (Try.sizeOf25 _) rfl rfl rfl rfl rfl rfl ?_
          intro w10_ S
          first | refine rw_end ?_ | (refine rw_nil ?_; show CW _ _ _ _ _ _) | refine rw_nil ?_
          repeat refine cw_seq ?_
          refine cw_region ?_
          refine rw_v (op_pure rfl) ?_
          first | refine rw_end ?_ | (refine rw_nil ?_; show CW _ _ _ _ _ _) | refine rw_nil ?_
          repeat refine cw_seq ?_
          refine cw_region ?_
          refine rw_v (op_pure rfl) ?_
          refine rw_v (op_len Try.underlying22 rfl) ?_
          refine rw_v (op_pure rfl) ?_
          refine rw_v (op_len Try.underlying22 rfl) ?_
          refine rw_v (op_b (b := false) rfl (bne_eq_false_iff_eq.2 (by omega))) ?_
          first | refine rw_end ?_ | (refine rw_nil ?_; show CW _ _ _ _ _ _) | refine rw_nil ?_
          repeat refine cw_seq ?_
          refine cw_false rfl ?_
          repeat refine cw_seq ?_
          refine cw_region ?_
          refine rw_v (op_pure rfl) ?_
          refine rw_call rfl (rmay_E n w10_) ?_
          rintro _ w11_ ⟨rfl, g11_⟩
          have S := S.gr g11_
          rw [hmv]
          refine rw_v (op_pure rfl) ?_
          first | refine rw_end ?_ | (refine rw_nil ?_; show CW _ _ _ _ _ _) | refine rw_nil ?_
          repeat refine cw_seq ?_
          refine cw_true rfl ?_
          repeat refine cw_seq ?_
          refine cw_region ?_
          refine rw_v (op_pure rfl) ?_
          first | refine rw_end ?_ | (refine rw_nil ?_; show CW _ _ _ _ _ _) | refine rw_nil ?_
          repeat refine cw_seq ?_
          refine cw_region ?_
          refine rw_v (op_pure rfl) ?_
          refine rw_v (op_b (b := true) rfl (bne_iff_ne.2 (by omega))) ?_
          first | refine rw_end ?_ | (refine rw_nil ?_; show CW _ _ _ _ _ _) | refine rw_nil ?_
          repeat refine cw_seq ?_
          refine cw_true rfl ?_
          repeat refine cw_seq ?_
          refine cw_region ?_
          refine rw_v (op_pure rfl) ?_
          refine rw_v (op_nilp Try.underlying28 rfl rfl) ?_
          refine rw_v (op_pure rfl) ?_
          first | refine rw_off rfl ?_ | (refine rw_on rfl ?_; refine rw_v (op_pure rfl) ?_)
          first | refine rw_off rfl ?_ | (refine rw_on rfl ?_; refine rw_v (op_pure rfl) ?_)
          first | refine rw_off rfl ?_ | (refine rw_on rfl ?_; refine rw_v (op_b (b := true) rfl (beq_iff_eq.2 (by omega))) ?_)
          iterate 2 refine rw_v (op_pure rfl) ?_
          first | refine rw_end ?_ | (refine rw_nil ?_; show CW _ _ _ _ _ _) | refine rw_nil ?_
          repeat refine cw_seq ?_
          refine cw_ret ?_
          repeat first | refine ret_then ?_ | refine ret_inb ?_
          exact res1 rfl ⟨rfl, S.out⟩
        | true =>
          have hmayc : ∀ i, i < gw * gh → mayB ((fun i => V.getD i 0) i) = true := fun i hi => hmay _ (by (try dsimp only); rw [List.getD_eq_getElem?_getD, List.getElem?_eq_getElem (by omega)]; exact List.getElem_mem _)
          have hmn := fun (p : Nat) (B2 : Option Addr) (bc : Nat) (bs : Nat → Nat) (Rs : Nat → Option Nat) (w : World) (hb : Rd w B (ints L)) (hG : GridAt w p gw gh (fun i => V.getD i 0) B2 bc bs Rs) => zmask_E (W := w) (cb := cb) label n hmv hmayc (by omega) hb hG
          have hmn1 : gw * gh = L.length := by omega
          rw [hmn1] at hmn
          have hGl := gridL_made hVg
          have hisM := fun (p : Nat) (B2 B3 : Option Addr) (bc c3 : Nat) (bs : Nat → Nat) (Rs : Nat → Option Nat) (w : World) (hG : GridAt w p gw gh (fun i => (gridL gw gh (maskF (fun i => V.getD i 0) L label n)).getD i 0) B2 bc bs Rs) (hR : Rd w B3 (ints (gridL gw gh (maskF (fun i => V.getD i 0) L label n)))) => is_E (W := w) (cu := c3) (gridL_len _ _ _) hG hR
          rw [rebuildM] at hisM
          have hisG := fun (p : Nat) (B2 : Option Addr) (bc : Nat) (bs : Nat → Nat) (Rs : Nat → Option Nat) (w : World) (hG : GridAt w p gw gh (fun i => V.getD i 0) B2 bc bs Rs) (hR : Rd w A (ints V)) => is_E (W := w) (cu := cap) hVg hG hR
          rw [hGl, ← hVg] at hisG
          have hglt : ∀ k, k < gw * gh → (ints V)[(k : Int).toNat * 1]? = some (.int .i64 (V.getD k 0)) := fun k hk => by rw [Nat.mul_one, Int.toNat_natCast]; exact ints_get (getD_at (by omega))
          have hglL : ∀ k, k < gw * gh → (ints L)[(k : Int).toNat * 1]? = some (.int .i64 (L.getD k 0)) := fun k hk => by rw [Nat.mul_one, Int.toNat_natCast]; exact ints_get (getD_at (by omega))
          have hstep : ∀ k, k < gw * gh → ints ((gridL gw gh (maskF (fun i => V.getD i 0) L label n)).take (k + 1)) = ints ((gridL gw gh (maskF (fun i => V.getD i 0) L label n)).take k) ++ [.int .i64 (maskF (fun i => V.getD i 0) L label n k)] := fun k hk => by
            unfold gridL ints
            rw [List.take_add_one, List.getElem?_map, List.getElem?_range hk, List.map_append]
            rfl
          have htl : ∀ k, k ≤ gw * gh → ((gridL gw gh (maskF (fun i => V.getD i 0) L label n)).take k).length = k := fun k hk => by rw [List.length_take, gridL_len]; omega
          have hfull : (gridL gw gh (maskF (fun i => V.getD i 0) L label n)).take (gw * gh) = gridL gw gh (maskF (fun i => V.getD i 0) L label n) := List.take_of_length_le (by rw [gridL_len]; omega)
          have hmk : ∀ k, maskF (fun i => V.getD i 0) L label n k = if L.getD k 0 = label then V.getD k 0 else n := fun k => rfl
          generalize hMk : gridL gw gh (maskF (fun i => V.getD i 0) L label n) = M at *
          generalize maskF (fun i => V.getD i 0) L label n = mf at *
          have sa_A : SomeA A := hA.someA (by rw [ints_len]; have := Nat.mul_le_mul hw.1 hh.1; omega)
          have sa_B : SomeA B := hB.someA (by rw [ints_len]; have := Nat.mul_le_mul hw.1 hh.1; omega)
          have G := Gr.refl W
          have S := St.start W
          refine Fn_enter Try.func9 rfl Try.results9 Try.ntmps9 (by kernel_rfl) (by kernel_rfl) ?_
          repeat refine cw_seq ?_
          refine cw_region ?_
          refine rw_v (op_pure rfl) ?_
          first | refine rw_end ?_ | (refine rw_nil ?_; show CW _ _ _ _ _ _) | refine rw_nil ?_
          repeat refine cw_seq ?_
          refine cw_region ?_
          refine rw_call rfl (awake49_E W) ?_
          rintro _ w1_ ⟨rfl, g1_⟩
          have S := S.gr g1_
          refine rw_v (op_pure rfl) ?_
          first | refine rw_end ?_ | (refine rw_nil ?_; show CW _ _ _ _ _ _) | refine rw_nil ?_
          repeat refine cw_seq ?_
          refine cw_false rfl ?_
          repeat refine cw_seq ?_
          refine cw_skip ?_
          try show CW _ _ _ _ _ _
          repeat refine cw_seq ?_
          refine cw_region ?_
          iterate 3 refine rw_v (op_pure rfl) ?_
          refine rw_call rfl (land_E gw gh 1000 cap (by omega) hok (hA.gr S.out)) ?_
          rintro _ w2_ ⟨rfl, g2_⟩
          have S := S.gr g2_
          iterate 3 refine rw_v (op_pure rfl) ?_
          refine rw_newB (op_alloc Try.zeroValue25 rfl) S ?_
          intro b_md w4_ g4_ S
          refine rw_storeSA (i := 0) S rfl (Try.sizeOf25 _) rfl rfl rfl rfl rfl rfl ?_
          intro w5_ S
          refine rw_v (op_pure rfl) ?_
          first | refine rw_end ?_ | (refine rw_nil ?_; show CW _ _ _ _ _ _) | refine rw_nil ?_
          repeat refine cw_seq ?_
          refine cw_region ?_
          iterate 3 refine rw_v (op_pure rfl) ?_
          first | refine rw_off rfl ?_ | (refine rw_on rfl ?_; refine rw_v (op_pure rfl) ?_)
          first | refine rw_off rfl ?_ | (refine rw_on rfl ?_; refine rw_v (op_len Try.underlying22 rfl) ?_)
          first | refine rw_off rfl ?_ | (refine rw_on rfl ?_; refine rw_v (op_b (b := false) rfl (decide_eq_false (by omega))) ?_)
          refine rw_v (op_pure rfl) ?_
          first | refine rw_end ?_ | (refine rw_nil ?_; show CW _ _ _ _ _ _) | refine rw_nil ?_
          repeat refine cw_seq ?_
          refine cw_false rfl ?_
          repeat refine cw_seq ?_
          refine cw_skip ?_
          try show CW _ _ _ _ _ _
          repeat refine cw_seq ?_
          refine cw_region ?_
          iterate 3 refine rw_v (op_pure rfl) ?_
          refine rw_call rfl (made_E gw gh cap hw hh hVg hmay (hA.gr S.out)) ?_
          rintro _ w6_ ⟨p, B2, bc, bs, Rs, rfl, hG, hf, g6_⟩
          have S := S.pushGrid hG hf g6_
          iterate 5 refine rw_v (op_pure rfl) ?_
          first | refine rw_end ?_ | (refine rw_nil ?_; show CW _ _ _ _ _ _) | refine rw_nil ?_
          repeat refine cw_seq ?_
          refine cw_region ?_
          iterate 2 refine rw_v (op_pure rfl) ?_
          first | refine rw_end ?_ | (refine rw_nil ?_; show CW _ _ _ _ _ _) | refine rw_nil ?_
          repeat refine cw_seq ?_
          refine cw_false rfl ?_
          repeat refine cw_seq ?_
          refine cw_skip ?_
          try show CW _ _ _ _ _ _
          repeat refine cw_seq ?_
          refine cw_region ?_
          iterate 4 refine rw_v (op_pure rfl) ?_
          refine rw_call rfl (hmn p B2 bc bs Rs w6_ (hB.gr S.out) (S.grid (i := 0) rfl)) ?_
          rintro _ w7_ ⟨p2, B3, bc2, bs2, Rs2, rfl, hG2, hf2, g7_⟩
          have S := S.pushGrid hG2 hf2 g7_
          iterate 5 refine rw_v (op_pure rfl) ?_
          first | refine rw_end ?_ | (refine rw_nil ?_; show CW _ _ _ _ _ _) | refine rw_nil ?_
          repeat refine cw_seq ?_
          refine cw_region ?_
          iterate 2 refine rw_v (op_pure rfl) ?_
          refine rw_v (op_build (pl := [(0, 1), (1, 1), (2, 1)]) Try.underlying25 Try.zeroValue25 (fun w => by kernel_rfl) rfl rfl) ?_
          refine rw_newB (op_alloc Try.zeroValue25 rfl) S ?_
          intro b_m2 w9_ g9_ S
          refine rw_storeSA (i := 0) S rfl (Try.sizeOf25 _) rfl rfl rfl rfl rfl rfl ?_
          intro w10_ S
          first | refine rw_end ?_ | (refine rw_nil ?_; show CW _ _ _ _ _ _) | refine rw_nil ?_
          repeat refine cw_seq ?_
          refine cw_region ?_
          refine rw_v (op_pure rfl) ?_
          first | refine rw_end ?_ | (refine rw_nil ?_; show CW _ _ _ _ _ _) | refine rw_nil ?_
          repeat refine cw_seq ?_
          refine cw_region ?_
          refine rw_v (op_pure rfl) ?_
          refine rw_v (op_len Try.underlying22 rfl) ?_
          refine rw_v (op_pure rfl) ?_
          refine rw_v (op_len Try.underlying22 rfl) ?_
          refine rw_v (op_b (b := false) rfl (bne_eq_false_iff_eq.2 (by omega))) ?_
          first | refine rw_end ?_ | (refine rw_nil ?_; show CW _ _ _ _ _ _) | refine rw_nil ?_
          repeat refine cw_seq ?_
          refine cw_false rfl ?_
          repeat refine cw_seq ?_
          refine cw_region ?_
          refine rw_v (op_pure rfl) ?_
          refine rw_call rfl (rmay_E n w10_) ?_
          rintro _ w11_ ⟨rfl, g11_⟩
          have S := S.gr g11_
          rw [hmv]
          refine rw_v (op_pure rfl) ?_
          first | refine rw_end ?_ | (refine rw_nil ?_; show CW _ _ _ _ _ _) | refine rw_nil ?_
          repeat refine cw_seq ?_
          refine cw_false rfl ?_
          repeat refine cw_seq ?_
          refine cw_skip ?_
          try show CW _ _ _ _ _ _
          repeat refine cw_seq ?_
          refine cw_region ?_
          refine rw_v (op_pure rfl) ?_
          refine rw_v (op_b (b := false) rfl (bne_eq_false_iff_eq.2 (by omega))) ?_
          first | refine rw_end ?_ | (refine rw_nil ?_; show CW _ _ _ _ _ _) | refine rw_nil ?_
          repeat refine cw_seq ?_
          refine cw_false rfl ?_
          repeat refine cw_seq ?_
          refine cw_skip ?_
          try show CW _ _ _ _ _ _
          repeat refine cw_seq ?_
          refine cw_region ?_
          refine rw_v (op_pure rfl) ?_
          first | refine rw_end ?_ | (refine rw_nil ?_; show CW _ _ _ _ _ _) | refine rw_nil ?_
          repeat refine cw_seq ?_
          refine cw_block ?_
          repeat refine cw_seq ?_
          have S := S.pushNil 2 1
          refine cw_loop (fun m e w => ∃ (k : Nat) (A4 : Option Addr) (c4 : Nat), k + m = gw * gh ∧ SL e [(2, .slice A V.length cap), (3, .slice B L.length cb), (4, .int .i64 label), (5, .int .i64 n), (13, .pointer (some ⟨b_md, 0, none⟩)), (15, .pointer (some ⟨p, 0, none⟩)), (16, .pointer (some ⟨p2, 0, none⟩)), (17, .int .i64 0), (18, .pointer (some ⟨b_m2, 0, none⟩)), (20, .int .i64 k)] ∧
            St No W w [.row 2 1 A4 k c4 (ints (M.take k)), .blk b_m2 25 [.int .i64 gw, .int .i64 gh, .slice A4 k c4], .grid p2 gw gh (fun i => M.getD i 0) B3 bc2 bs2 Rs2, .grid p gw gh (fun i => V.getD i 0) B2 bc bs Rs, .blk b_md 25 [.int .i64 gw, .int .i64 gh, .slice A V.length cap]]) (gw * gh)
            ⟨0, none, 0, by omega, ⟨rfl, rfl, rfl, rfl, rfl, rfl, rfl, rfl, rfl, rfl, trivial⟩, S⟩ ?_
          clear S
          rintro m e w ⟨k, A4, c4, hk, hsl, S⟩
          rw [hsl.fold]
          repeat refine cw_seq ?_
          refine cw_region ?_
          iterate 2 refine rw_v (op_pure rfl) ?_
          refine rw_v (op_len Try.underlying22 rfl) ?_
          refine rw_v (op_pure rfl) ?_
          first | refine rw_end ?_ | (refine rw_nil ?_; show CW _ _ _ _ _ _) | refine rw_nil ?_
          repeat refine cw_seq ?_
          refine cw_cond rfl (fun hc => ?_) (fun hc => ?_)
          · try simp only [decide_eq_true_eq, decide_eq_false_iff_not, beq_iff_eq, bne_iff_ne, beq_eq_false_iff_ne, bne_eq_false_iff_eq, Bool.not_eq_true', Bool.not_eq_false', ne_eq, Decidable.not_not, Int.natCast_inj, Int.ofNat_lt, Int.ofNat_le, gt_iff_lt, ge_iff_le, Int.not_lt, Int.not_le] at hc
            have hkn : k < gw * gh := by omega
            have hst := hstep k hkn
            have hmkk := hmk k
            by_cases hlk : L.getD k 0 = label
            · rw [if_pos hlk] at hmkk
              repeat refine cw_seq ?_
              refine cw_skip ?_
              try show CW _ _ _ _ _ _
              repeat refine cw_seq ?_
              refine cw_block ?_
              repeat refine cw_seq ?_
              refine cw_region ?_
              iterate 2 refine rw_v (op_pure rfl) ?_
              refine rw_v (op_idx Try.underlying22 Try.sizeOf2 rfl rfl sa_B (by omega) (by omega)) ?_
              refine rw_r (op_ldR Try.underlying2 rfl rfl (hB.gr S.out) (hglL k hkn)) ?_
              refine rw_v (op_pure rfl) ?_
              refine rw_v (op_b (b := true) rfl (beq_iff_eq.2 (by omega))) ?_
              first | refine rw_end ?_ | (refine rw_nil ?_; show CW _ _ _ _ _ _) | refine rw_nil ?_
              repeat refine cw_seq ?_
              refine cw_true rfl ?_
              repeat refine cw_seq ?_
              refine cw_tri (C := (fun σ wq => CS No W [.row 2 1 A4 k c4 (ints (M.take k)), .blk b_m2 25 [.int .i64 gw, .int .i64 gh, .slice A4 k c4], .grid p2 gw gh (fun i => M.getD i 0) B3 bc2 bs2 Rs2, .grid p gw gh (fun i => V.getD i 0) B2 bc bs Rs, .blk b_md 25 [.int .i64 gw, .int .i64 gh, .slice A V.length cap]] 0 2 1 k (ints (M.take k)) [.int .i64 (V.getD k 0)] wq σ)) [6, 7] [0, 1, 2, 3, 4, 5, 6, 7] [8, 9] (by kernel_rfl) (by kernel_rfl) (S.gr (Gr.drew _)) ?_
              simp only [pickI, pickL, List.drop_succ_cons, List.drop_zero]
              refine rs_v rfl (op_fieldAddr Try.underlying25 rfl Try.sizeOf22 rfl rfl) ?_
              refine rs_r rfl (fun τ wq hq => op_loadB Try.underlying22 rfl rfl (hq.ok (j := 1) (by decide) rfl) rfl) ?_
              refine rs_v rfl (op_pure rfl) ?_
              refine rs_v rfl (op_pure rfl) ?_
              refine rs_v rfl (op_idx Try.underlying22 Try.sizeOf2 rfl rfl sa_A (by omega) (by omega)) ?_
              refine rs_r rfl (fun τ wq hq => op_ldR Try.underlying2 rfl rfl (hA.fr (CS.frw hq) (fun _ _ h => h)) (hglt k hkn)) ?_
              refine rs_special rfl rfl (fun wq hq => to_buildCS hq Try.underlying22 Try.sizeOf2 Try.zeroValue2 rfl rfl rfl rfl rfl rfl) ?_
              rintro v6 w6 ⟨A6, rfl, _⟩
              refine rs_special rfl rfl (fun wq hq => to_appCS hq rfl (fun h => ⟨_, rfl⟩) Try.underlying22 info_t2 rfl rfl rfl rfl rfl rfl (by omega)) ?_
              rintro v7 w7 ⟨A7, c7, L7, rfl, _, _⟩
              refine rs_nil ?_
              rintro w8 ⟨A8_, c8_, L_st, e_st, h_st, S⟩
              cases e_st
              obtain rfl := Option.some.inj h_st
              refine rw_v (op_fieldAddr Try.underlying25 rfl Try.sizeOf22 rfl rfl) ?_
              refine rw_storeS (i := 1) S rfl (Try.sizeOf22 _) rfl rfl rfl rfl rfl rfl ?_
              intro w13_ S
              first | refine rw_end ?_ | (refine rw_nil ?_; show CW _ _ _ _ _ _) | refine rw_nil ?_
              repeat refine cw_seq ?_
              refine cw_region ?_
              refine rw_v (op_pure rfl) ?_
              refine rw_v (op_rng rfl (by omega)) ?_
              refine rw_v (op_pure rfl) ?_
              first | refine rw_end ?_ | (refine rw_nil ?_; show CW _ _ _ _ _ _) | refine rw_nil ?_
              exact ⟨m - 1, by omega, k + 1, A7, c7, by omega, ⟨rfl, rfl, rfl, rfl, rfl, rfl, rfl, rfl, rfl, ie (by omega), trivial⟩, by rw [hst, hmkk]; exact S⟩
            · rw [if_neg hlk] at hmkk
              repeat refine cw_seq ?_
              refine cw_skip ?_
              try show CW _ _ _ _ _ _
              repeat refine cw_seq ?_
              refine cw_block ?_
              repeat refine cw_seq ?_
              refine cw_region ?_
              iterate 2 refine rw_v (op_pure rfl) ?_
              refine rw_v (op_idx Try.underlying22 Try.sizeOf2 rfl rfl sa_B (by omega) (by omega)) ?_
              refine rw_r (op_ldR Try.underlying2 rfl rfl (hB.gr S.out) (hglL k hkn)) ?_
              refine rw_v (op_pure rfl) ?_
              refine rw_v (op_b (b := false) rfl (beq_eq_false_iff_ne.2 (by omega))) ?_
              first | refine rw_end ?_ | (refine rw_nil ?_; show CW _ _ _ _ _ _) | refine rw_nil ?_
              repeat refine cw_seq ?_
              refine cw_false rfl ?_
              repeat refine cw_seq ?_
              refine cw_region ?_
              refine rw_v (op_fieldAddr Try.underlying25 rfl Try.sizeOf22 rfl rfl) ?_
              refine rw_r (op_loadB Try.underlying22 rfl rfl (S.blk (i := 1) rfl) rfl) ?_
              refine rw_v (op_pure rfl) ?_
              refine rw_buildS Try.underlying22 Try.sizeOf2 Try.zeroValue2 rfl rfl rfl rfl rfl rfl S ?_
              intro A_b14 w15_ g15_ S sa_b14
              refine rw_appS (i := 1) S rfl (fun h => rfl) Try.underlying22 info_t2 rfl rfl rfl rfl (by simp) (by omega) (S.rd (i := 0) rfl) rfl (by omega) ?_
              intro A_a5 c_a5 w16_ S sa_mr
              refine rw_v (op_fieldAddr Try.underlying25 rfl Try.sizeOf22 rfl rfl) ?_
              refine rw_storeS (i := 2) S rfl (Try.sizeOf22 _) rfl rfl rfl rfl rfl rfl ?_
              intro w17_ S
              first | refine rw_end ?_ | (refine rw_nil ?_; show CW _ _ _ _ _ _) | refine rw_nil ?_
              repeat refine cw_seq ?_
              refine cw_region ?_
              refine rw_v (op_pure rfl) ?_
              refine rw_v (op_rng rfl (by omega)) ?_
              refine rw_v (op_pure rfl) ?_
              first | refine rw_end ?_ | (refine rw_nil ?_; show CW _ _ _ _ _ _) | refine rw_nil ?_
              have S := S.sub (.cons _ (.cons_cons _ (.cons_cons _ (.cons_cons _ (.cons_cons _ (.cons_cons _ (.slnil)))))))
              exact ⟨m - 1, by omega, k + 1, A_a5, c_a5, by omega, ⟨rfl, rfl, rfl, rfl, rfl, rfl, rfl, rfl, rfl, ie (by omega), trivial⟩, by rw [hst, hmkk]; exact S⟩
          · try simp only [decide_eq_true_eq, decide_eq_false_iff_not, beq_iff_eq, bne_iff_ne, beq_eq_false_iff_ne, bne_eq_false_iff_eq, Bool.not_eq_true', Bool.not_eq_false', ne_eq, Decidable.not_not, Int.natCast_inj, Int.ofNat_lt, Int.ofNat_le, gt_iff_lt, ge_iff_le, Int.not_lt, Int.not_le] at hc
            obtain rfl : k = gw * gh := by omega
            rw [hfull] at S
            simp only [eq_self, decide_true] at hisM hisG
            have hisM' := fun w h1 h2 => hisM p2 B3 A4 bc2 c4 bs2 Rs2 w h1 h2
            have hisG' := fun w h1 h2 => hisG p B2 bc bs Rs w h1 h2
            repeat refine cw_seq ?_
            refine cw_exit ?_
            repeat first | refine exit_then ?_ | refine exit_inb ?_
            show CW _ _ _ _ _ _
            repeat refine cw_seq ?_
            refine cw_region ?_
            refine rw_v (op_pure rfl) ?_
            refine rw_v (op_b (b := true) rfl (beq_iff_eq.2 (by omega))) ?_
            refine rw_v (op_pure rfl) ?_
            first | refine rw_off rfl ?_ | (refine rw_on rfl ?_; refine rw_v (op_pure rfl) ?_)
            first | refine rw_off rfl ?_ | (refine rw_on rfl ?_; refine rw_r (op_loadAB Try.underlying25 rfl (Try.sizeOf25 _) rfl (S.blk (i := 1) rfl) rfl rfl) ?_)
            refine rw_on rfl ?_
            refine rw_call rfl (hisM' w (S.grid (i := 2) rfl) (S.rd (i := 0) rfl)) ?_
            rintro _ w18_ ⟨rfl, g18_⟩
            have S := S.gr g18_
            iterate 2 refine rw_v (op_pure rfl) ?_
            first | refine rw_off rfl ?_ | (refine rw_on rfl ?_; refine rw_v (op_pure rfl) ?_)
            first | refine rw_off rfl ?_ | (refine rw_on rfl ?_; refine rw_r (op_loadAB Try.underlying25 rfl (Try.sizeOf25 _) rfl (S.blk (i := 4) rfl) rfl rfl) ?_)
            refine rw_on rfl ?_
            refine rw_call rfl (hisG' w18_ (S.grid (i := 3) rfl) (hA.gr S.out)) ?_
            rintro _ w19_ ⟨rfl, g19_⟩
            have S := S.gr g19_
            iterate 2 refine rw_v (op_pure rfl) ?_
            first | refine rw_end ?_ | (refine rw_nil ?_; show CW _ _ _ _ _ _) | refine rw_nil ?_
            repeat refine cw_seq ?_
            refine cw_ret ?_
            repeat first | refine ret_then ?_ | refine ret_inb ?_
            exact res1 rfl ⟨rfl, S.out⟩
      · have hmn := fun (p : Nat) (B2 : Option Addr) (bc : Nat) (bs : Nat → Nat) (Rs : Nat → Option Nat) (w : World) (hG : GridAt w p gw gh (fun i => V.getD i 0) B2 bc bs Rs) => zmaskNo_E (W := w) (B := B) (cb := cb) (n := L.length) label n (by omega) hG
        have G := Gr.refl W
        have S := St.start W
        refine Fn_enter Try.func9 rfl Try.results9 Try.ntmps9 (by kernel_rfl) (by kernel_rfl) ?_
        repeat refine cw_seq ?_
        refine cw_region ?_
        refine rw_v (op_pure rfl) ?_
        first | refine rw_end ?_ | (refine rw_nil ?_; show CW _ _ _ _ _ _) | refine rw_nil ?_
        repeat refine cw_seq ?_
        refine cw_region ?_
        refine rw_call rfl (awake49_E W) ?_
        rintro _ w1_ ⟨rfl, g1_⟩
        have S := S.gr g1_
        refine rw_v (op_pure rfl) ?_
        first | refine rw_end ?_ | (refine rw_nil ?_; show CW _ _ _ _ _ _) | refine rw_nil ?_
        repeat refine cw_seq ?_
        refine cw_false rfl ?_
        repeat refine cw_seq ?_
        refine cw_skip ?_
        try show CW _ _ _ _ _ _
        repeat refine cw_seq ?_
        refine cw_region ?_
        iterate 3 refine rw_v (op_pure rfl) ?_
        refine rw_call rfl (land_E gw gh 1000 cap (by omega) hok (hA.gr S.out)) ?_
        rintro _ w2_ ⟨rfl, g2_⟩
        have S := S.gr g2_
        iterate 3 refine rw_v (op_pure rfl) ?_
        refine rw_newB (op_alloc Try.zeroValue25 rfl) S ?_
        intro b_md w4_ g4_ S
        refine rw_storeSA (i := 0) S rfl (Try.sizeOf25 _) rfl rfl rfl rfl rfl rfl ?_
        intro w5_ S
        refine rw_v (op_pure rfl) ?_
        first | refine rw_end ?_ | (refine rw_nil ?_; show CW _ _ _ _ _ _) | refine rw_nil ?_
        repeat refine cw_seq ?_
        refine cw_region ?_
        iterate 3 refine rw_v (op_pure rfl) ?_
        first | refine rw_off rfl ?_ | (refine rw_on rfl ?_; refine rw_v (op_pure rfl) ?_)
        first | refine rw_off rfl ?_ | (refine rw_on rfl ?_; refine rw_v (op_len Try.underlying22 rfl) ?_)
        first | refine rw_off rfl ?_ | (refine rw_on rfl ?_; refine rw_v (op_b (b := false) rfl (decide_eq_false (by omega))) ?_)
        refine rw_v (op_pure rfl) ?_
        first | refine rw_end ?_ | (refine rw_nil ?_; show CW _ _ _ _ _ _) | refine rw_nil ?_
        repeat refine cw_seq ?_
        refine cw_false rfl ?_
        repeat refine cw_seq ?_
        refine cw_skip ?_
        try show CW _ _ _ _ _ _
        repeat refine cw_seq ?_
        refine cw_region ?_
        iterate 3 refine rw_v (op_pure rfl) ?_
        refine rw_call rfl (made_E gw gh cap hw hh hVg hmay (hA.gr S.out)) ?_
        rintro _ w6_ ⟨p, B2, bc, bs, Rs, rfl, hG, hf, g6_⟩
        have S := S.pushGrid hG hf g6_
        iterate 5 refine rw_v (op_pure rfl) ?_
        first | refine rw_end ?_ | (refine rw_nil ?_; show CW _ _ _ _ _ _) | refine rw_nil ?_
        repeat refine cw_seq ?_
        refine cw_region ?_
        iterate 2 refine rw_v (op_pure rfl) ?_
        first | refine rw_end ?_ | (refine rw_nil ?_; show CW _ _ _ _ _ _) | refine rw_nil ?_
        repeat refine cw_seq ?_
        refine cw_false rfl ?_
        repeat refine cw_seq ?_
        refine cw_skip ?_
        try show CW _ _ _ _ _ _
        repeat refine cw_seq ?_
        refine cw_region ?_
        iterate 4 refine rw_v (op_pure rfl) ?_
        refine rw_call rfl (hmn p B2 bc bs Rs w6_ (S.grid (i := 0) rfl)) ?_
        rintro _ w7_ ⟨rfl, g7_⟩
        have S := S.gr g7_
        iterate 5 refine rw_v (op_pure rfl) ?_
        first | refine rw_end ?_ | (refine rw_nil ?_; show CW _ _ _ _ _ _) | refine rw_nil ?_
        repeat refine cw_seq ?_
        refine cw_region ?_
        iterate 2 refine rw_v (op_pure rfl) ?_
        refine rw_v (op_build (pl := [(0, 1), (1, 1), (2, 1)]) Try.underlying25 Try.zeroValue25 (fun w => by kernel_rfl) rfl rfl) ?_
        refine rw_newB (op_alloc Try.zeroValue25 rfl) S ?_
        intro b_m2 w9_ g9_ S
        refine rw_storeSA (i := 0) S rfl (Try.sizeOf25 _) rfl rfl rfl rfl rfl rfl ?_
        intro w10_ S
        first | refine rw_end ?_ | (refine rw_nil ?_; show CW _ _ _ _ _ _) | refine rw_nil ?_
        repeat refine cw_seq ?_
        refine cw_region ?_
        refine rw_v (op_pure rfl) ?_
        first | refine rw_end ?_ | (refine rw_nil ?_; show CW _ _ _ _ _ _) | refine rw_nil ?_
        repeat refine cw_seq ?_
        refine cw_region ?_
        refine rw_v (op_pure rfl) ?_
        refine rw_v (op_len Try.underlying22 rfl) ?_
        refine rw_v (op_pure rfl) ?_
        refine rw_v (op_len Try.underlying22 rfl) ?_
        refine rw_v (op_b (b := true) rfl (bne_iff_ne.2 (by omega))) ?_
        first | refine rw_end ?_ | (refine rw_nil ?_; show CW _ _ _ _ _ _) | refine rw_nil ?_
        repeat refine cw_seq ?_
        refine cw_true rfl ?_
        repeat refine cw_seq ?_
        refine cw_region ?_
        refine rw_v (op_pure rfl) ?_
        first | refine rw_end ?_ | (refine rw_nil ?_; show CW _ _ _ _ _ _) | refine rw_nil ?_
        repeat refine cw_seq ?_
        refine cw_region ?_
        refine rw_v (op_pure rfl) ?_
        refine rw_v (op_b (b := true) rfl (bne_iff_ne.2 (by omega))) ?_
        first | refine rw_end ?_ | (refine rw_nil ?_; show CW _ _ _ _ _ _) | refine rw_nil ?_
        repeat refine cw_seq ?_
        refine cw_true rfl ?_
        repeat refine cw_seq ?_
        refine cw_region ?_
        refine rw_v (op_pure rfl) ?_
        refine rw_v (op_nilp Try.underlying28 rfl rfl) ?_
        refine rw_v (op_pure rfl) ?_
        first | refine rw_off rfl ?_ | (refine rw_on rfl ?_; refine rw_v (op_pure rfl) ?_)
        first | refine rw_off rfl ?_ | (refine rw_on rfl ?_; refine rw_v (op_pure rfl) ?_)
        first | refine rw_off rfl ?_ | (refine rw_on rfl ?_; refine rw_v (op_b (b := true) rfl (beq_iff_eq.2 (by omega))) ?_)
        iterate 2 refine rw_v (op_pure rfl) ?_
        first | refine rw_end ?_ | (refine rw_nil ?_; show CW _ _ _ _ _ _) | refine rw_nil ?_
        repeat refine cw_seq ?_
        refine cw_ret ?_
        repeat first | refine ret_then ?_ | refine ret_inb ?_
        exact res1 rfl ⟨rfl, S.out⟩
    · obtain ⟨gw, rfl⟩ := Int.eq_ofNat_of_zero_le (show 0 ≤ w by have := hok.w1; omega)
      obtain ⟨gh, rfl⟩ := Int.eq_ofNat_of_zero_le (show 0 ≤ h by have := hok.h1; omega)
      have G := Gr.refl W
      have S := St.start W
      refine Fn_enter Try.func9 rfl Try.results9 Try.ntmps9 (by kernel_rfl) (by kernel_rfl) ?_
      repeat refine cw_seq ?_
      refine cw_region ?_
      refine rw_v (op_pure rfl) ?_
      first | refine rw_end ?_ | (refine rw_nil ?_; show CW _ _ _ _ _ _) | refine rw_nil ?_
      repeat refine cw_seq ?_
      refine cw_region ?_
      refine rw_call rfl (awake49_E W) ?_
      rintro _ w1_ ⟨rfl, g1_⟩
      have S := S.gr g1_
      refine rw_v (op_pure rfl) ?_
      first | refine rw_end ?_ | (refine rw_nil ?_; show CW _ _ _ _ _ _) | refine rw_nil ?_
      repeat refine cw_seq ?_
      refine cw_false rfl ?_
      repeat refine cw_seq ?_
      refine cw_skip ?_
      try show CW _ _ _ _ _ _
      repeat refine cw_seq ?_
      refine cw_region ?_
      iterate 3 refine rw_v (op_pure rfl) ?_
      refine rw_call rfl (land_E gw gh 1000 cap (by omega) hok (hA.gr S.out)) ?_
      rintro _ w2_ ⟨rfl, g2_⟩
      have S := S.gr g2_
      iterate 3 refine rw_v (op_pure rfl) ?_
      refine rw_newB (op_alloc Try.zeroValue25 rfl) S ?_
      intro b_md w4_ g4_ S
      refine rw_storeSA (i := 0) S rfl (Try.sizeOf25 _) rfl rfl rfl rfl rfl rfl ?_
      intro w5_ S
      refine rw_v (op_pure rfl) ?_
      first | refine rw_end ?_ | (refine rw_nil ?_; show CW _ _ _ _ _ _) | refine rw_nil ?_
      repeat refine cw_seq ?_
      refine cw_region ?_
      iterate 3 refine rw_v (op_pure rfl) ?_
      first | refine rw_off rfl ?_ | (refine rw_on rfl ?_; refine rw_v (op_pure rfl) ?_)
      first | refine rw_off rfl ?_ | (refine rw_on rfl ?_; refine rw_v (op_len Try.underlying22 rfl) ?_)
      first | refine rw_off rfl ?_ | (refine rw_on rfl ?_; refine rw_v (op_b (b := true) rfl (decide_eq_true (by omega))) ?_)
      refine rw_v (op_pure rfl) ?_
      first | refine rw_end ?_ | (refine rw_nil ?_; show CW _ _ _ _ _ _) | refine rw_nil ?_
      repeat refine cw_seq ?_
      refine cw_true rfl ?_
      repeat refine cw_seq ?_
      refine cw_region ?_
      refine rw_v (op_pure rfl) ?_
      first | refine rw_end ?_ | (refine rw_nil ?_; show CW _ _ _ _ _ _) | refine rw_nil ?_
      repeat refine cw_seq ?_
      refine cw_ret ?_
      repeat first | refine ret_then ?_ | refine ret_inb ?_
      exact res1 rfl ⟨rfl, S.out⟩
  · skip
    have G := Gr.refl W
    have S := St.start W
    refine Fn_enter Try.func9 rfl Try.results9 Try.ntmps9 (by kernel_rfl) (by kernel_rfl) ?_
    repeat refine cw_seq ?_
    refine cw_region ?_
    refine rw_v (op_pure rfl) ?_
    first | refine rw_end ?_ | (refine rw_nil ?_; show CW _ _ _ _ _ _) | refine rw_nil ?_
    repeat refine cw_seq ?_
    refine cw_region ?_
    refine rw_call rfl (awake49_E W) ?_
    rintro _ w1_ ⟨rfl, g1_⟩
    have S := S.gr g1_
    refine rw_v (op_pure rfl) ?_
    first | refine rw_end ?_ | (refine rw_nil ?_; show CW _ _ _ _ _ _) | refine rw_nil ?_
    repeat refine cw_seq ?_
    refine cw_false rfl ?_
    repeat refine cw_seq ?_
    refine cw_skip ?_
    try show CW _ _ _ _ _ _
    repeat refine cw_seq ?_
    refine cw_region ?_
    iterate 3 refine rw_v (op_pure rfl) ?_
    refine rw_call rfl (landNo_E w h 1000 cap (by omega) hl hok (hA.gr S.out)) ?_
    rintro _ w2_ ⟨rfl, g2_⟩
    have S := S.gr g2_
    iterate 3 refine rw_v (op_pure rfl) ?_
    refine rw_newB (op_alloc Try.zeroValue25 rfl) S ?_
    intro b_b3 w4_ g4_ S
    refine rw_storeSA (i := 0) S rfl (Try.sizeOf25 _) rfl rfl rfl rfl rfl rfl ?_
    intro w5_ S
    refine rw_v (op_pure rfl) ?_
    first | refine rw_end ?_ | (refine rw_nil ?_; show CW _ _ _ _ _ _) | refine rw_nil ?_
    repeat refine cw_seq ?_
    refine cw_region ?_
    iterate 3 refine rw_v (op_pure rfl) ?_
    first | refine rw_off rfl ?_ | (refine rw_on rfl ?_; refine rw_v (op_pure rfl) ?_)
    first | refine rw_off rfl ?_ | (refine rw_on rfl ?_; refine rw_v (op_len Try.underlying22 rfl) ?_)
    first | refine rw_off rfl ?_ | (refine rw_on rfl ?_; (first | refine rw_v (op_b (b := true) rfl (decide_eq_true (by omega))) ?_ | refine rw_v (op_b (b := false) rfl (decide_eq_false (by omega))) ?_ | refine rw_v (op_pure rfl) ?_))
    refine rw_v (op_pure rfl) ?_
    first | refine rw_end ?_ | (refine rw_nil ?_; show CW _ _ _ _ _ _) | refine rw_nil ?_
    repeat refine cw_seq ?_
    refine cw_true rfl ?_
    repeat refine cw_seq ?_
    refine cw_region ?_
    refine rw_v (op_pure rfl) ?_
    first | refine rw_end ?_ | (refine rw_nil ?_; show CW _ _ _ _ _ _) | refine rw_nil ?_
    repeat refine cw_seq ?_
    refine cw_ret ?_
    repeat first | refine ret_then ?_ | refine ret_inb ?_
    exact res1 rfl ⟨rfl, S.out⟩
end
end Go.Proofs.Yteihfmifelcidaa
/- What an argument reads stays what it was where all that was there stands as it was; a law's row out of that. -/
namespace Go.Proofs.Yteihfmifelcidaa
open Go.RowKit Go.WideShapes Go.ChangeShapes
set_option linter.unusedVariables false
set_option linter.unusedSimpArgs false

section
variable {H : Type} {enc : TypeId × Value → H} {P : Program} {w w' : World} {base : Nat} {sp : Nat → Bool} {held : Bool}
theorem cells_lt {a : Addr} {n : Nat} {l : List Value} (h : w.cells? base a n = some l) (hn : 0 < n) : a.block < w.heap.size := by
  unfold World.cells? at h
  split at h
  · obtain ⟨y, hy⟩ := mapM_each h 0 (List.mem_range.2 hn)
    rcases Nat.lt_or_ge a.block w.heap.size with h' | h'
    · exact h'
    · have e : a.add 0 = a := rfl
      rw [e] at hy
      simp [World.cell?, Array.getElem?_eq_none h'] at hy
  · cases h
theorem add_block (a : Addr) (k : Nat) : (a.add k).block = a.block := by unfold Addr.add; split <;> rfl
theorem cells_stay (hc : ∀ a v, w.cell? a = some v → w'.cell? a = some v) {a : Addr} {n : Nat} {l : List Value} (h : w.cells? base a n = some l) : w'.cells? base a n = some l := by
  unfold World.cells? at h ⊢
  split at h
  · rename_i hb
    rw [if_pos hb]
    exact mapM_mono (fun i y hy => hc _ _ hy) h
  · cases h
theorem bind_stay {α β : Type} {x x' : Option α} {f f' : α → Option β} {y : β} (hx : ∀ a, x = some a → x' = some a) (hf : ∀ a b, f a = some b → f' a = some b) (h : x.bind f = some y) : x'.bind f' = some y := by
  obtain ⟨a, h1, h2⟩ := Option.bind_eq_some_iff.1 h
  exact Option.bind_eq_some_iff.2 ⟨a, hx a h1, hf a y h2⟩
theorem map_stay {α β : Type} {x x' : Option α} {f : α → β} {y : β} (hx : ∀ a, x = some a → x' = some a) (h : x.map f = some y) : x'.map f = some y := by
  obtain ⟨a, h1, h2⟩ := Option.map_eq_some_iff.1 h
  exact Option.map_eq_some_iff.2 ⟨a, hx a h1, h2⟩
theorem mapM_mem {α β : Type} {f g : α → Option β} : ∀ {l : List α} {r : List β}, (∀ x ∈ l, ∀ y, f x = some y → g x = some y) → l.mapM f = some r → l.mapM g = some r
  | [], r, _, h => by simpa using h
  | x :: xs, r, hfg, h => by
    rw [List.mapM_cons] at h ⊢
    obtain ⟨a, ha, h2⟩ := Option.bind_eq_some_iff.1 h
    obtain ⟨b, hb, h3⟩ := Option.bind_eq_some_iff.1 h2
    exact Option.bind_eq_some_iff.2 ⟨a, hfg x (by simp) a ha, Option.bind_eq_some_iff.2 ⟨b, mapM_mem (fun z hz => hfg z (by simp [hz])) hb, h3⟩⟩
/-- Types of plain data: numbers, bools, strings, structs, arrays and slices of such. -/
def plainB (P : Program) : Nat → TypeId → Bool
  | 0, _ => false
  | n + 1, t => match P.underlying t with
    | some .bool => true
    | some (.int _) => true
    | some (.float _) => true
    | some .string => true
    | some (.slice e) => Nat.blt 0 (P.cellsOf e) && plainB P n e
    | some (.struct fs) => fs.toList.all fun f => plainB P n f.type
    | some (.array _ e) => plainB P n e
    | _ => false
def Plain (P : Program) (t : TypeId) : Prop := ∃ n, plainB P n t = true
theorem Plain.slice {t e : TypeId} (h : Plain P t) (hu : P.underlying t = some (.slice e)) : 0 < P.cellsOf e ∧ Plain P e := by
  obtain ⟨n, h⟩ := h
  cases n with
  | zero => cases h
  | succ n =>
    simp only [plainB, hu, Bool.and_eq_true] at h
    exact ⟨Nat.le_of_ble_eq_true h.1, n, h.2⟩
theorem Plain.struct {t : TypeId} {fs : Array Field} (h : Plain P t) (hu : P.underlying t = some (.struct fs)) {f : Field} (hf : f ∈ fs.toList) : Plain P f.type := by
  obtain ⟨n, h⟩ := h
  cases n with
  | zero => cases h
  | succ n =>
    simp only [plainB, hu] at h
    exact ⟨n, List.all_eq_true.1 h f hf⟩
theorem Plain.array {t e : TypeId} {m : Nat} (h : Plain P t) (hu : P.underlying t = some (.array m e)) : Plain P e := by
  obtain ⟨n, h⟩ := h
  cases n with
  | zero => cases h
  | succ n =>
    simp only [plainB, hu] at h
    exact ⟨n, h⟩
theorem Plain.noptr {t e : TypeId} (h : Plain P t) (hu : P.underlying t = some (.pointer e)) : False := by
  obtain ⟨n, h⟩ := h
  cases n with
  | zero => cases h
  | succ n => simp [plainB, hu] at h
theorem Plain.noiface {t : TypeId} {ms : Array (String × TypeId)} (h : Plain P t) (hu : P.underlying t = some (.interface ms)) : False := by
  obtain ⟨n, h⟩ := h
  cases n with
  | zero => cases h
  | succ n => simp [plainB, hu] at h
theorem Plain.nomap {t k e : TypeId} (h : Plain P t) (hu : P.underlying t = some (.map k e)) : False := by
  obtain ⟨n, h⟩ := h
  cases n with
  | zero => cases h
  | succ n => simp [plainB, hu] at h
theorem step_stay (hc : ∀ a v, w.cell? a = some v → w'.cell? a = some v) {r r' : TypeId → List Value → Option (DataW H × List MemPlace)}
    (hr : ∀ t, Plain P t → ∀ cs x, r t cs = some x → r' t cs = some x) (hsp : ∀ b, b < w.heap.size → sp b = true) {t : TypeId} (ht : Plain P t) {cs : List Value} {x : DataW H × List MemPlace} (h : DataW.trodStep enc P w base (fun _ => true) held r t cs = some x) : DataW.trodStep enc P w' base sp held r' t cs = some x := by
  unfold DataW.trodStep at h ⊢
  split at h
  case h_6 => rename_i heq; exact (ht.noptr heq).elim
  case h_8 =>
    rename_i e a len cap heq
    have hz := ht.slice heq
    dsimp only at h ⊢
    split at h
    · rename_i hb
      rw [if_pos hb]
      refine bind_stay (fun _ => mapM_mono (fun i y => bind_stay (fun _ => cells_stay hc) (fun _ _ => hr _ hz.2 _ _))) (fun elems z => map_stay (fun rest hrest => ?_)) h
      rw [if_pos rfl] at hrest
      by_cases hs : sp a.block = true
      · rw [if_pos hs]
        exact mapM_mono (fun j y => bind_stay (fun _ => cells_stay hc) (fun _ _ => hr _ hz.2 _ _)) hrest
      · rw [if_neg hs]
        by_cases hcl : cap - len = 0
        · rw [hcl] at hrest
          simpa using hrest
        · obtain ⟨y, hy⟩ := mapM_each hrest 0 (List.mem_range.2 (by omega))
          obtain ⟨l, hl, _⟩ := Option.bind_eq_some_iff.1 hy
          have := cells_lt hl hz.1
          rw [add_block] at this
          exact absurd (hsp _ this) hs
    · cases h
  case h_9 =>
    rename_i heq
    split at h
    · rename_i hb
      rw [if_pos hb]
      exact map_stay (fun _ => mapM_mem (fun f hf y => hr _ (ht.struct heq hf) _ _)) h
    · cases h
  case h_10 =>
    rename_i heq
    split at h
    · rename_i hb
      rw [if_pos hb]
      exact map_stay (fun _ => mapM_mono (fun f y => hr _ (ht.array heq) _ _)) h
    · cases h
  case h_12 => rename_i heq; exact (ht.noiface heq).elim
  case h_14 => rename_i heq; exact (ht.nomap heq).elim
  all_goals first | exact h | (cases h; done)
theorem trod_stay_ (hc : ∀ a v, w.cell? a = some v → w'.cell? a = some v) (hsp : ∀ b, b < w.heap.size → sp b = true) :
    ∀ (n : Nat) (t : TypeId), Plain P t → ∀ (cs : List Value) (x : DataW H × List MemPlace), DataW.trod enc P w base (fun _ => true) held n t cs = some x → DataW.trod enc P w' base sp held n t cs = some x
  | 0, t, _, cs, x, h => by simp [DataW.trod] at h
  | n + 1, t, ht, cs, x, h => step_stay hc (trod_stay_ hc hsp n) hsp ht h
theorem Gr.cells {W W' : World} (g : Gr W W') (a : Addr) (v : Value) (h : W.cell? a = some v) : W'.cell? a = some v := by
  have hlt : a.block < W.heap.size := by
    rcases Nat.lt_or_ge a.block W.heap.size with h' | h'
    · exact h'
    · simp [World.cell?, Array.getElem?_eq_none h'] at h
  rw [World.cell?_of_block (g.block _ hlt)]
  exact h
theorem trodAll_gr {W W' : World} (g : Gr W W') (hsp : ∀ b, b < W.heap.size → sp b = true) : ∀ {ts : List TypeId} {vs : List Value} {ds : List (DataW H)} {p : List MemPlace}, (∀ t ∈ ts, Plain P t) → DataW.TrodAll enc P W base (fun _ => true) held ts vs ds p → DataW.TrodAll enc P W' base sp held ts vs ds p
  | [], vs, ds, p, _, h => by cases vs <;> cases ds <;> first | exact h | cases h
  | t :: ts, vs, ds, p, ht, h => by
    obtain ⟨v, vs', d, ds', p, q, rfl, rfl, rfl, ⟨f, h1⟩, h2⟩ := trodAll_cons h
    exact trodAll_cons_mk ⟨f, trod_stay_ g.cells hsp f _ (ht t (by simp)) _ _ h1⟩ (trodAll_gr g hsp (fun t h => ht t (by simp [h])) h2)
theorem plain_all {ts : List TypeId} (h : (ts.all fun t => plainB P 8 t) = true) : ∀ t ∈ ts, Plain P t := fun t ht => ⟨8, List.all_eq_true.1 h t ht⟩
/-- A law that answers true and leaves what was there as it was. -/
theorem post_of_gr {f : Func} {s : ChangeSpec} {apart fresh handsOn again : Bool} {W W' : World} {args : Array Value} {v : Value} {ds gs : List (DataW H)} {before : List MemPlace} (hz : ∀ t ∈ f.params.toList, Plain P t)
    (hW : DataW.Whole enc P f.params.toList s.vars apart W args.toList ds gs before) (hv : s.vars = []) (hg : Gr W W') (ha : (s.fn H (ds ++ gs)).args = ds) (hvs : (s.fn H (ds ++ gs)).vars = [])
    (hres : ∀ (b : Nat) (sp : Nat → Bool) (hd : Bool), DataW.TrodAll enc P W' b sp hd f.resultTypes.toList (v.resultList f.resultTypes.size) (s.fn H (ds ++ gs)).results [])
    (hok : ∀ (j : Nat) (t : TypeId) (r : Value), f.resultTypes[j]? = some t → (v.resultList f.resultTypes.size)[j]? = some r → Value.okWide P W' .any 0 t r) :
    s.post enc P f apart fresh handsOn again W args v W' := by
  have hW' := hW
  obtain ⟨p, q, hA, hV, rfl, hfz, hnd⟩ := hW
  rw [hv] at hV
  obtain ⟨rfl, rfl⟩ := trodVars_none hV
  have hlt : ∀ x ∈ p ++ [], x.block < W.heap.size := fun x hx => hW'.lt x hx
  have hold : ∀ b, b < W.heap.size → (fun b => decide (b < W.heap.size)) b = true := fun b hb => by simpa using hb
  have h1 : ∀ sp : Nat → Bool, (∀ b, b < W.heap.size → sp b = true) → DataW.TrodAll enc P W' 0 sp true f.params.toList args.toList (s.fn H (ds ++ [])).args p := fun sp hsp => by rw [ha]; exact trodAll_gr hg hsp hz hA
  have hvr : ∀ sp : Nat → Bool, DataW.TrodVars enc P W' sp s.vars (s.fn H (ds ++ [])).vars [] := fun sp => by rw [hv, hvs]; rfl
  refine ⟨ds, [], p ++ [], [], p, [], hW', hres _ _ _, h1 _ hold, hvr _, World.keptBut_mono (fun x hx => ⟨hx, ?_⟩) (hg.frame (· ∈ p ++ [])), fun _ => ?_⟩
  · rw [List.mem_append] at hx
    exact Or.inr hx
  · refine ⟨hok, _, _, ([] ++ p) ++ [], ⟨[] ++ p, [], trodAll_append (h1 _ (fun _ _ => rfl)) (hres _ _ _), hvr _, rfl, ?_, ?_⟩, ?_⟩
    · intro b off hp
      have hin : MemPlace.cell b off ∈ p ++ [] := by simpa using hp
      rw [Below.frozen hg (hlt _ hin)]
      exact hfz b off hin
    · intro hap
      have := hnd hap
      simpa using this
    · intro x hp _
      simpa using hp
end
end Go.Proofs.Yteihfmifelcidaa
/- Arguments, opened: numbers, lists of numbers, cells, rectangles. -/
namespace Go.Proofs.Yteihfmifelcidaa.args
open Go.ChangeShapes Go.WideShapes Go.ChangeAt Go.RowKit Go.Joins
set_option linter.unusedVariables false
set_option linter.unusedSimpArgs false
set_option maxRecDepth 100000

theorem ints_of {H : Type} {enc : TypeId × Value → H} {W : World} {base : Nat} {held : Bool} {fuel : Nat} {v : Value} {x : DataW H × List MemPlace} (h : DataW.trod enc Try.prog W base (fun _ => true) held fuel 22 [v] = some x) :
    ∃ A c xs, v = .slice A xs.length c ∧ xs.length ≤ 9223372036854775807 ∧ (∀ b ∈ xs, -9223372036854775808 ≤ b ∧ b ≤ 9223372036854775807) ∧ Rd W A (ints xs) := by
  rcases open_ints Try.underlying22 Try.underlying2 (by kernel_rfl) h with ⟨h1, _⟩ | ⟨a, len, cap, zs, h1, _, hl, hmx, hz, _, hc, hw⟩
  · injection h1 with h1
    subst h1
    exact ⟨_, _, [], rfl, by simp, (by intro b hb; cases hb), .inl rfl⟩
  · injection h1 with h1
    subst h1
    rw [if_pos rfl] at hz
    have hlen : (zs.take len).length = len := by simp; omega
    refine ⟨some a, cap, zs.take len, by rw [hlen], by rw [hlen]; unfold maxLen at hmx; omega, fun b hb => ?_, ?_⟩
    · have := hw b (List.mem_of_mem_take hb)
      simpa [Lit.wf, IntKind.min, IntKind.max, IntKind.signed, IntKind.bits] using this
    · by_cases h0 : len = 0
      · subst h0; exact .inl rfl
      · have hc0 := hc 0 (by omega)
        have e0 : a.add 0 = a := rfl
        rw [e0] at hc0
        have hlt : a.block < W.heap.size := by
          rcases Nat.lt_or_ge a.block W.heap.size with h' | h'
          · exact h'
          · simp [World.cell?, Array.getElem?_eq_none h'] at hc0
        have hsp : a.spot = none := by
          unfold World.cell? at hc0
          split at hc0
          · split at hc0
            · cases hc0
            · rename_i h; simpa using h
          · cases hc0
        obtain ⟨b, o, sp⟩ := a
        dsimp only at hsp hlt
        subst hsp
        refine .inr ⟨b, o, rfl, hlt, fun j v hj => ?_⟩
        have h3 : j < (ints (zs.take len)).length := (List.getElem?_eq_some_iff.1 hj).1
        rw [ints_len, hlen] at h3
        have h4 := hc j (by omega)
        rw [addr_add] at h4
        rw [h4, ← hj, ints, List.getElem?_map, List.getElem?_take, if_pos (by omega), List.getD_eq_getElem?_getD, List.getElem?_eq_getElem (by omega)]
        rfl
theorem list_of {H : Type} {enc : TypeId × Value → H} {W : World} {base : Nat} {held : Bool} {v : Value} {d : DataW H} {p : List MemPlace} (hv : Value.okWide Try.prog W .any base 22 v) (h : DataW.Trod enc Try.prog W 0 (fun _ => true) held 22 v d p) :
    ∃ A c xs, v = .slice A xs.length c ∧ xs.length ≤ 9223372036854775807 ∧ (∀ b ∈ xs, -9223372036854775808 ≤ b ∧ b ≤ 9223372036854775807) ∧ Rd W A (ints xs) := by
  obtain ⟨A, n, c, rfl⟩ := okWide_slice Try.underlying22 hv
  obtain ⟨f, t⟩ := h
  exact ints_of t
theorem num_of {H : Type} {enc : TypeId × Value → H} {W : World} {base : Nat} {held : Bool} {v : Value} {d : DataW H} {p : List MemPlace} {t : TypeId} (ht : Try.prog.underlying t = some (.int .i64)) (hv : Value.okWide Try.prog W .any base t v) (h : DataW.Trod enc Try.prog W 0 (fun _ => true) held t v d p) :
    ∃ n : Int, v = .int .i64 n ∧ -9223372036854775808 ≤ n ∧ n ≤ 9223372036854775807 := by
  obtain ⟨n, rfl, _, _, w⟩ := open_int ht hv h
  have : -9223372036854775808 ≤ n ∧ n ≤ 9223372036854775807 := by simpa [Lit.wf, IntKind.min, IntKind.max, IntKind.signed, IntKind.bits] using w
  exact ⟨n, rfl, this.1, this.2⟩

/-! ### Cells, rectangles -/
def i64B (n : Int) : Prop := -9223372036854775808 ≤ n ∧ n ≤ 9223372036854775807
theorem cell_of {H : Type} {enc : TypeId × Value → H} {W : World} {base : Nat} {held : Bool} {v : Value} {d : DataW H} {p : List MemPlace} (hv : Value.okWide Try.prog W .any base 39 v) (h : DataW.Trod enc Try.prog W 0 (fun _ => true) held 39 v d p) :
    ∃ x y : Int, v = .agg #[.int .i64 x, .int .i64 y] ∧ i64B x ∧ i64B y := by
  obtain ⟨u0, u1, y0, y1, n, rfl, _, _, t0, t1⟩ := open_agg2 Try.underlying39 (by kernel_rfl) (by kernel_rfl) hv h
  obtain ⟨a, e0, _, w0⟩ := DataW.trod_int Try.underlying2 t0
  obtain ⟨b, e1, _, w1⟩ := DataW.trod_int Try.underlying2 t1
  injection e0 with e0; injection e1 with e1
  subst e0; subst e1
  exact ⟨a, b, rfl, by simpa [i64B, Lit.wf, IntKind.min, IntKind.max, IntKind.signed, IntKind.bits] using w0, by simpa [i64B, Lit.wf, IntKind.min, IntKind.max, IntKind.signed, IntKind.bits] using w1⟩
theorem rect_of {H : Type} {enc : TypeId × Value → H} {W : World} {base : Nat} {held : Bool} {v : Value} {d : DataW H} {p : List MemPlace} (hv : Value.okWide Try.prog W .any base 81 v) (h : DataW.Trod enc Try.prog W 0 (fun _ => true) held 81 v d p) :
    ∃ x0 y0 x1 y1 : Int, v = .agg #[.int .i64 x0, .int .i64 y0, .int .i64 x1, .int .i64 y1] ∧ i64B x0 ∧ i64B y0 ∧ i64B x1 ∧ i64B y1 := by
  obtain ⟨u0, u1, u2, u3, y0, y1, y2, y3, n, rfl, _, _, t0, t1, t2, t3⟩ := open_agg4 Try.underlying81 (by kernel_rfl) (by kernel_rfl) hv h
  obtain ⟨a, e0, _, w0⟩ := DataW.trod_int Try.underlying2 t0
  obtain ⟨b, e1, _, w1⟩ := DataW.trod_int Try.underlying2 t1
  obtain ⟨c, e2, _, w2⟩ := DataW.trod_int Try.underlying2 t2
  obtain ⟨f, e3, _, w3⟩ := DataW.trod_int Try.underlying2 t3
  injection e0 with e0; injection e1 with e1; injection e2 with e2; injection e3 with e3
  subst e0; subst e1; subst e2; subst e3
  exact ⟨a, b, c, f, rfl, by simpa [i64B, Lit.wf, IntKind.min, IntKind.max, IntKind.signed, IntKind.bits] using w0, by simpa [i64B, Lit.wf, IntKind.min, IntKind.max, IntKind.signed, IntKind.bits] using w1,
    by simpa [i64B, Lit.wf, IntKind.min, IntKind.max, IntKind.signed, IntKind.bits] using w2, by simpa [i64B, Lit.wf, IntKind.min, IntKind.max, IntKind.signed, IntKind.bits] using w3⟩
theorem zone_of {H : Type} {enc : TypeId × Value → H} {W : World} {base : Nat} {held : Bool} {v : Value} {d : DataW H} {p : List MemPlace} (hv : Value.okWide Try.prog W .any base 59 v) (h : DataW.Trod enc Try.prog W 0 (fun _ => true) held 59 v d p) :
    ∃ a b c x y z u : Int, v = .agg #[.int .i64 a, .int .i64 b, .int .i64 c, .int .i64 x, .int .i64 y, .int .i64 z, .int .i64 u] ∧ i64B c := by
  obtain ⟨cs, rfl, hsz⟩ := okWide_struct Try.underlying59 hv
  have hC : Try.prog.cellsOf 59 = 7 := by kernel_rfl
  have h1 : Try.prog.cellsOf 2 = 1 := by kernel_rfl
  have h2 : Try.prog.cellsOf 39 = 2 := by kernel_rfl
  rw [hC] at hsz
  obtain ⟨l⟩ := cs
  match l, hsz with
  | [c0, c1, c2, c3, c4, c5, c6], _ =>
    obtain ⟨fuel, hf⟩ := h
    obtain ⟨xs, n, _, _, _, hlen, hF⟩ := DataW.trod_struct Try.underlying59 hf
    have get : ∀ i, i < 6 → ∃ y, xs[i]? = some y := fun i hi => ⟨_, List.getElem?_eq_getElem (by rw [hlen]; exact hi)⟩
    have f0 : DataW.trod enc Try.prog W 0 (fun _ => true) held n 2 (([c0, c1, c2, c3, c4, c5, c6].drop 0).take (Try.prog.cellsOf 2)) = xs[0]? := hF 0 _ rfl
    have f1 : DataW.trod enc Try.prog W 0 (fun _ => true) held n 2 (([c0, c1, c2, c3, c4, c5, c6].drop 1).take (Try.prog.cellsOf 2)) = xs[1]? := hF 1 _ rfl
    have f2 : DataW.trod enc Try.prog W 0 (fun _ => true) held n 2 (([c0, c1, c2, c3, c4, c5, c6].drop 2).take (Try.prog.cellsOf 2)) = xs[2]? := hF 2 _ rfl
    have f3 : DataW.trod enc Try.prog W 0 (fun _ => true) held n 2 (([c0, c1, c2, c3, c4, c5, c6].drop 3).take (Try.prog.cellsOf 2)) = xs[3]? := hF 3 _ rfl
    have f4 : DataW.trod enc Try.prog W 0 (fun _ => true) held n 2 (([c0, c1, c2, c3, c4, c5, c6].drop 4).take (Try.prog.cellsOf 2)) = xs[4]? := hF 4 _ rfl
    have f5 : DataW.trod enc Try.prog W 0 (fun _ => true) held n 39 (([c0, c1, c2, c3, c4, c5, c6].drop 5).take (Try.prog.cellsOf 39)) = xs[5]? := hF 5 _ rfl
    obtain ⟨y0, e0⟩ := get 0 (by omega)
    obtain ⟨y1, e1⟩ := get 1 (by omega)
    obtain ⟨y2, e2⟩ := get 2 (by omega)
    obtain ⟨y3, e3⟩ := get 3 (by omega)
    obtain ⟨y4, e4⟩ := get 4 (by omega)
    obtain ⟨y5, e5⟩ := get 5 (by omega)
    rw [e0] at f0; rw [e1] at f1; rw [e2] at f2; rw [e3] at f3; rw [e4] at f4; rw [e5] at f5
    rw [h1] at f0 f1 f2 f3 f4
    rw [h2] at f5
    obtain ⟨g0, g1, k, _, _, t5, t6⟩ := trod_struct2 Try.underlying39 f5
    replace t5 : DataW.trod enc Try.prog W 0 (fun _ => true) held k 2 (((([c0, c1, c2, c3, c4, c5, c6].drop 5).take 2).drop 0).take (Try.prog.cellsOf 2)) = some g0 := t5
    replace t6 : DataW.trod enc Try.prog W 0 (fun _ => true) held k 2 (((([c0, c1, c2, c3, c4, c5, c6].drop 5).take 2).drop 1).take (Try.prog.cellsOf 2)) = some g1 := t6
    rw [h1] at t5 t6
    obtain ⟨a, r0, _, w0⟩ := DataW.trod_int Try.underlying2 f0
    obtain ⟨b, r1, _, w1⟩ := DataW.trod_int Try.underlying2 f1
    obtain ⟨c, r2, _, w2⟩ := DataW.trod_int Try.underlying2 f2
    obtain ⟨x, r3, _, w3⟩ := DataW.trod_int Try.underlying2 f3
    obtain ⟨y, r4, _, w4⟩ := DataW.trod_int Try.underlying2 f4
    obtain ⟨z, r5, _, w5⟩ := DataW.trod_int Try.underlying2 t5
    obtain ⟨u, r6, _, w6⟩ := DataW.trod_int Try.underlying2 t6
    simp at r0 r1 r2 r3 r4 r5 r6
    subst r0 r1 r2 r3 r4 r5 r6
    exact ⟨a, b, c, x, y, z, u, rfl, by simpa [i64B, Lit.wf, IntKind.min, IntKind.max, IntKind.signed, IntKind.bits] using w2⟩
end Go.Proofs.Yteihfmifelcidaa.args
