/- area.Table.Sum, Mean; rect.Around; smooth.each, made, Mean: contracts. -/
import Derived.Test.YtbcgbcipigcbhaaArea
import Derived.Test.YtbcgbcipigcbhaaPaintB
import Derived.Test.YtbcgbcipigcbhaaCellN
namespace Go.Proofs.Ytbcgbcipigcbhaa
open Go.RowKit
set_option linter.unusedVariables false
set_option linter.unusedSimpArgs false
set_option maxRecDepth 100000

section
variable {P : Program} {e : Nat → Value} {d : Option Tmp} {ty : TypeId} {ps : String} {af : Array Edge}
theorem op_remT {t t' : TypeId} {x y : Operand} {a b : Int} (hx : ev e x = .int .i64 a) (hy : ev e y = .int .i64 b) (hb : 0 < b) : OpV P e ⟨d, .binOp .rem t x y t', ty, ps, af, none⟩ (.int .i64 (a.tmod b)) := by
  intro w
  have h4 : b ≠ 0 := by omega
  simp [OpR, execOp, hx, hy, eqGuard, binOp, Op.intDiv, h4]
theorem op_quoT {t t' : TypeId} {x y : Operand} {a b c : Int} (hx : ev e x = .int .i64 a) (hy : ev e y = .int .i64 b) (hb : 0 < b) (hc : a.tdiv b = c) (hr : -9223372036854775808 ≤ c ∧ c ≤ 9223372036854775807) : OpV P e ⟨d, .binOp .quo t x y t', ty, ps, af, none⟩ (.int .i64 c) := by
  intro w
  have h4 : b ≠ 0 := by omega
  have h5 : IntKind.i64.wrap c = c := IntWalk.i64_in _ hr
  simp [OpR, execOp, hx, hy, eqGuard, binOp, Op.intDiv, h4, hc, h5]
end
/-- a sum over a rectangle, by the table -/
def rsum (V : List Int) (gw x0 y0 x1 y1 : Nat) : Int := psum V gw (y1 + 1) (x1 + 1) - psum V gw (y1 + 1) x0 - psum V gw y0 (x1 + 1) + psum V gw y0 x0
theorem floor_go {s n : Int} (hn : 0 < n) : -n < s.tmod n ∧ s.tmod n < n ∧ (s.tmod n + n).tmod n = s % n ∧ (s - s % n).tdiv n = s / n := by
  have h1 : -n < s.tmod n ∧ s.tmod n < n := by
    have := Int.tmod_lt_of_pos s hn
    have h2 : -n < s.tmod n := by
      have := Int.lt_tmod_of_pos s hn
      omega
    exact ⟨h2, this⟩
  refine ⟨h1.1, h1.2, ?_, ?_⟩
  · rw [Int.tmod_eq_emod_of_nonneg (by omega), Int.add_emod_right]
    have := Int.mul_tdiv_add_tmod s n
    have h3 : s.tmod n = s - n * s.tdiv n := by omega
    rw [h3, Int.sub_mul_emod_self_left]
  · have h3 := Int.mul_ediv_add_emod s n
    have h4 : s - s % n = s / n * n := by rw [Int.mul_comm]; omega
    rw [h4, Int.mul_tdiv_cancel _ (by omega)]
section
variable {W : World} {tb gw gh : Nat} {V : List Int}
theorem acheck_E (x0 y0 x1 y1 : Nat) (hw : 1 ≤ gw ∧ gw ≤ 1024) (hh : 1 ≤ gh ∧ gh ≤ 1024) (hx : x0 ≤ x1 ∧ x1 < gw) (hy : y0 ≤ y1 ∧ y1 < gh) (hA : AreaAt W tb gw gh V) :
    Fn Try.prog 176 [.pointer (some ⟨tb, 0, none⟩), .agg #[.int .i64 x0, .int .i64 y0, .int .i64 x1, .int .i64 y1]] W (RetG (.int .i64 0) W) := by
  obtain ⟨Ao, co, As, cs, hT, hO, hF⟩ := hA
  have hwi : within x0 y0 x1 y1 gw gh = 0 := within_fine (by omega) (by omega) (by omega) (by omega)
  have S := St.start W
  refine Fn_enter Try.func176 rfl Try.results176 Try.ntmps176 (by kernel_rfl) (by kernel_rfl) ?_
  repeat refine cw_seq ?_
  refine cw_region ?_
  refine rw_newB (op_box rfl) S ?_
  intro b_r w2_ g2_ S
  refine rw_v (op_pure rfl) ?_
  first | refine rw_end ?_ | (refine rw_nil ?_; show CW _ _ _ _ _ _) | refine rw_nil ?_
  repeat refine cw_seq ?_
  refine cw_region ?_
  refine rw_v (op_pure rfl) ?_
  refine rw_v (op_nilp Try.underlying158 rfl rfl) ?_
  first | refine rw_end ?_ | (refine rw_nil ?_; show CW _ _ _ _ _ _) | refine rw_nil ?_
  repeat refine cw_seq ?_
  refine cw_false rfl ?_
  repeat refine cw_seq ?_
  refine cw_skip ?_
  try show CW _ _ _ _ _ _
  repeat refine cw_seq ?_
  refine cw_draw (C := fun wq => Gr w2_ wq) [0, 1, 2, 3, 4, 5, 6, 7, 8, 9, 10] [] (by kernel_rfl) (by kernel_rfl) (Gr.drew _) ?_
  simp only [pickL, List.drop_succ_cons, List.drop_zero]
  refine rq_r (fun wq hq => op_loadAB Try.underlying75 rfl (Try.sizeOf75 _) rfl ((S.gr hq).blk (i := 0) rfl) rfl rfl) ?_
  iterate 2 refine rq_v (op_pure rfl) ?_
  refine rq_v (op_fieldAddr Try.underlying210 rfl Try.sizeOf2 rfl rfl) ?_
  refine rq_r (fun wq hq => op_loadB Try.underlying2 rfl rfl (hT.gr (S.gr hq).out) rfl) ?_
  iterate 2 refine rq_v (op_pure rfl) ?_
  refine rq_v (op_fieldAddr Try.underlying210 rfl Try.sizeOf2 rfl rfl) ?_
  refine rq_r (fun wq hq => op_loadB Try.underlying2 rfl rfl (hT.gr (S.gr hq).out) rfl) ?_
  refine rq_call rfl (fun wq hq => (within_E _ _ _ _ _ _ (by omega) (by omega) wq).mono (fun _ _ ⟨hv, hg⟩ => ⟨hv, hq.trans hg⟩)) ?_
  refine rq_v (op_pure rfl) ?_
  refine rq_nil ?_
  intro w3_ g3_
  have S := S.gr g3_
  first | refine rw_end ?_ | (refine rw_nil ?_; show CW _ _ _ _ _ _) | refine rw_nil ?_
  repeat refine cw_seq ?_
  refine cw_ret ?_
  repeat first | refine ret_then ?_ | refine ret_inb ?_
  exact res1 rfl ⟨by rw [hwi], S.out⟩
set_option maxHeartbeats 2000000 in
theorem asum_E (x0 y0 x1 y1 : Nat) (hB : vB V) (hw : 1 ≤ gw ∧ gw ≤ 1024) (hh : 1 ≤ gh ∧ gh ≤ 1024) (hx : x0 ≤ x1 ∧ x1 < gw) (hy : y0 ≤ y1 ∧ y1 < gh) (hA : AreaAt W tb gw gh V) :
    Fn Try.prog 144 [.pointer (some ⟨tb, 0, none⟩), .agg #[.int .i64 x0, .int .i64 y0, .int .i64 x1, .int .i64 y1]] W (RetG (.tuple #[.int .i64 (rsum V gw x0 y0 x1 y1), .int .i64 0]) W) := by
  have hA' := hA
  obtain ⟨Ao, co, As, cs, hT, hO, hF⟩ := hA'
  have hrt := (hF y0 (by omega)).rd
  have hrb := (hF (y1 + 1) (by omega)).rd
  have hO' := hO.rd
  have sa_O : SomeA Ao := hO.someA (by omega)
  have sa_rt : SomeA (As y0) := (hF y0 (by omega)).someA (by omega)
  have sa_rb : SomeA (As (y1 + 1)) := (hF (y1 + 1) (by omega)).someA (by omega)
  have g0 := slV_get (As := As) (n := gw + 1) (cs := cs) (show y0 < gh + 1 by omega)
  have g1 := slV_get (As := As) (n := gw + 1) (cs := cs) (show y1 + 1 < gh + 1 by omega)
  have ey : (y1 : Int) + 1 = ((y1 + 1 : Nat) : Int) := by push_cast; rfl
  have ex : (x1 : Int) + 1 = ((x1 + 1 : Nat) : Int) := by push_cast; rfl
  have b1 := cellsQ_get (o := psum V gw (y1 + 1)) (show x1 + 1 < gw + 1 by omega)
  have b2 := cellsQ_get (o := psum V gw (y1 + 1)) (show x0 < gw + 1 by omega)
  have b3 := cellsQ_get (o := psum V gw y0) (show x1 + 1 < gw + 1 by omega)
  have b4 := cellsQ_get (o := psum V gw y0) (show x0 < gw + 1 by omega)
  have h1 := psum_bnd hB gw (x := x1 + 1) (by omega) (y1 + 1)
  have h2 := psum_bnd hB gw (x := x0) (by omega) (y1 + 1)
  have h3 := psum_bnd hB gw (x := x1 + 1) (by omega) y0
  have h4 := psum_bnd hB gw (x := x0) (by omega) y0
  unfold rsum
  generalize psum V gw (y1 + 1) (x1 + 1) = p1 at *
  generalize psum V gw (y1 + 1) x0 = p2 at *
  generalize psum V gw y0 (x1 + 1) = p3 at *
  generalize psum V gw y0 x0 = p4 at *
  have S := St.start W
  refine Fn_enter Try.func144 rfl Try.results144 Try.ntmps144 (by kernel_rfl) (by kernel_rfl) ?_
  repeat refine cw_seq ?_
  refine cw_region ?_
  refine rw_newB (op_box rfl) S ?_
  intro b_r w2_ g2_ S
  iterate 2 refine rw_v (op_pure rfl) ?_
  first | refine rw_end ?_ | (refine rw_nil ?_; show CW _ _ _ _ _ _) | refine rw_nil ?_
  repeat refine cw_seq ?_
  refine cw_region ?_
  refine rw_v (op_pure rfl) ?_
  refine rw_r (op_loadAB Try.underlying75 rfl (Try.sizeOf75 _) rfl (S.blk (i := 0) rfl) rfl rfl) ?_
  refine rw_call rfl (acheck_E x0 y0 x1 y1 hw hh hx hy (hA.gr S.out)) ?_
  rintro _ w3_ ⟨rfl, g3_⟩
  have S := S.gr g3_
  refine rw_v (op_pure rfl) ?_
  first | refine rw_end ?_ | (refine rw_nil ?_; show CW _ _ _ _ _ _) | refine rw_nil ?_
  repeat refine cw_seq ?_
  refine cw_region ?_
  refine rw_v (op_pure rfl) ?_
  refine rw_v (op_b (b := false) rfl (bne_eq_false_iff_eq.2 (by omega))) ?_
  first | refine rw_end ?_ | (refine rw_nil ?_; show CW _ _ _ _ _ _) | refine rw_nil ?_
  repeat refine cw_seq ?_
  refine cw_false rfl ?_
  repeat refine cw_seq ?_
  refine cw_skip ?_
  try show CW _ _ _ _ _ _
  repeat refine cw_seq ?_
  refine cw_draw (C := fun wq => Gr w3_ wq) [0, 1, 2, 3, 4, 5, 6, 7, 8, 9, 10, 11, 12, 13, 14, 15, 16, 17, 18] [] (by kernel_rfl) (by kernel_rfl) (Gr.drew _) ?_
  simp only [pickL, List.drop_succ_cons, List.drop_zero]
  iterate 2 refine rq_v (op_pure rfl) ?_
  refine rq_v (op_fieldAddr Try.underlying210 rfl Try.sizeOf208 rfl rfl) ?_
  refine rq_r (fun wq hq => op_loadB Try.underlying208 rfl rfl (hT.gr (S.gr hq).out) rfl) ?_
  refine rq_v (op_fieldAddr Try.underlying75 rfl Try.sizeOf2 rfl rfl) ?_
  refine rq_r (fun wq hq => op_loadB Try.underlying2 rfl rfl ((S.gr hq).blk (i := 0) rfl) rfl) ?_
  refine rq_v (op_idx Try.underlying208 Try.sizeOf22 rfl rfl sa_O (by omega) (by omega)) ?_
  refine rq_r (fun wq hq => op_ldR Try.underlying22 rfl rfl (hO'.gr (S.gr hq).out) g0) ?_
  iterate 2 refine rq_v (op_pure rfl) ?_
  refine rq_v (op_fieldAddr Try.underlying210 rfl Try.sizeOf208 rfl rfl) ?_
  refine rq_r (fun wq hq => op_loadB Try.underlying208 rfl rfl (hT.gr (S.gr hq).out) rfl) ?_
  refine rq_v (op_fieldAddr Try.underlying75 rfl Try.sizeOf2 rfl rfl) ?_
  refine rq_r (fun wq hq => op_loadB Try.underlying2 rfl rfl ((S.gr hq).blk (i := 0) rfl) rfl) ?_
  refine rq_v (op_rng rfl (by omega)) ?_
  rw [ey]
  refine rq_v (op_idx Try.underlying208 Try.sizeOf22 rfl rfl sa_O (by omega) (by omega)) ?_
  refine rq_r (fun wq hq => op_ldR Try.underlying22 rfl rfl (hO'.gr (S.gr hq).out) g1) ?_
  iterate 2 refine rq_v (op_pure rfl) ?_
  refine rq_nil ?_
  intro w4_ g4_
  have S := S.gr g4_
  first | refine rw_end ?_ | (refine rw_nil ?_; show CW _ _ _ _ _ _) | refine rw_nil ?_
  repeat refine cw_seq ?_
  refine cw_draw (C := fun wq => Gr w4_ wq) [0, 1, 2, 3, 4, 5, 6, 7, 8, 9, 10, 11, 12, 13, 14, 15, 16, 17, 18, 19, 20, 21, 22, 23, 24, 25, 26] [] (by kernel_rfl) (by kernel_rfl) (Gr.drew _) ?_
  simp only [pickL, List.drop_succ_cons, List.drop_zero]
  refine rq_v (op_pure rfl) ?_
  refine rq_v (op_fieldAddr Try.underlying75 rfl Try.sizeOf2 rfl rfl) ?_
  refine rq_r (fun wq hq => op_loadB Try.underlying2 rfl rfl ((S.gr hq).blk (i := 0) rfl) rfl) ?_
  refine rq_v (op_rng rfl (by omega)) ?_
  rw [ex]
  refine rq_v (op_idx Try.underlying22 Try.sizeOf2 rfl rfl sa_rb (by omega) (by omega)) ?_
  refine rq_r (fun wq hq => op_ldR Try.underlying2 rfl rfl (hrb.gr (S.gr hq).out) b1) ?_
  refine rq_v (op_pure rfl) ?_
  refine rq_v (op_fieldAddr Try.underlying75 rfl Try.sizeOf2 rfl rfl) ?_
  refine rq_r (fun wq hq => op_loadB Try.underlying2 rfl rfl ((S.gr hq).blk (i := 0) rfl) rfl) ?_
  refine rq_v (op_idx Try.underlying22 Try.sizeOf2 rfl rfl sa_rb (by omega) (by omega)) ?_
  refine rq_r (fun wq hq => op_ldR Try.underlying2 rfl rfl (hrb.gr (S.gr hq).out) b2) ?_
  refine rq_v (op_rng rfl (by omega)) ?_
  refine rq_v (op_pure rfl) ?_
  refine rq_v (op_fieldAddr Try.underlying75 rfl Try.sizeOf2 rfl rfl) ?_
  refine rq_r (fun wq hq => op_loadB Try.underlying2 rfl rfl ((S.gr hq).blk (i := 0) rfl) rfl) ?_
  refine rq_v (op_rng rfl (by omega)) ?_
  rw [ex]
  refine rq_v (op_idx Try.underlying22 Try.sizeOf2 rfl rfl sa_rt (by omega) (by omega)) ?_
  refine rq_r (fun wq hq => op_ldR Try.underlying2 rfl rfl (hrt.gr (S.gr hq).out) b3) ?_
  refine rq_v (op_rng rfl (by omega)) ?_
  refine rq_v (op_pure rfl) ?_
  refine rq_v (op_fieldAddr Try.underlying75 rfl Try.sizeOf2 rfl rfl) ?_
  refine rq_r (fun wq hq => op_loadB Try.underlying2 rfl rfl ((S.gr hq).blk (i := 0) rfl) rfl) ?_
  refine rq_v (op_idx Try.underlying22 Try.sizeOf2 rfl rfl sa_rt (by omega) (by omega)) ?_
  refine rq_r (fun wq hq => op_ldR Try.underlying2 rfl rfl (hrt.gr (S.gr hq).out) b4) ?_
  refine rq_v (op_rng rfl (by omega)) ?_
  iterate 2 refine rq_v (op_pure rfl) ?_
  refine rq_nil ?_
  intro w5_ g5_
  have S := S.gr g5_
  first | refine rw_end ?_ | (refine rw_nil ?_; show CW _ _ _ _ _ _) | refine rw_nil ?_
  repeat refine cw_seq ?_
  refine cw_ret ?_
  repeat first | refine ret_then ?_ | refine ret_inb ?_
  exact res2 rfl rfl ⟨rfl, S.out⟩
theorem amean_E (x0 y0 x1 y1 : Nat) (hB : vB V) (hw : 1 ≤ gw ∧ gw ≤ 1024) (hh : 1 ≤ gh ∧ gh ≤ 1024) (hx : x0 ≤ x1 ∧ x1 < gw) (hy : y0 ≤ y1 ∧ y1 < gh) (hA : AreaAt W tb gw gh V) :
    Fn Try.prog 102 [.pointer (some ⟨tb, 0, none⟩), .agg #[.int .i64 x0, .int .i64 y0, .int .i64 x1, .int .i64 y1]] W (RetG (.tuple #[.int .i64 (rsum V gw x0 y0 x1 y1 / (((x1 + 1 - x0) * (y1 + 1 - y0) : Nat) : Int)), .int .i64 0]) W) := by
  have h1 := psum_bnd hB gw (x := x1 + 1) (by omega) (y1 + 1)
  have h2 := psum_bnd hB gw (x := x0) (by omega) (y1 + 1)
  have h3 := psum_bnd hB gw (x := x1 + 1) (by omega) y0
  have h4 := psum_bnd hB gw (x := x0) (by omega) y0
  have hsb : -9007199254740992 ≤ rsum V gw x0 y0 x1 y1 ∧ rsum V gw x0 y0 x1 y1 ≤ 9007199254740992 := by unfold rsum; omega
  have hs := fun w (g : Gr W w) => asum_E x0 y0 x1 y1 hB hw hh hx hy (hA.gr g)
  generalize rsum V gw x0 y0 x1 y1 = s at *
  obtain ⟨n, hn⟩ : ∃ n, n = (x1 + 1 - x0) * (y1 + 1 - y0) := ⟨_, rfl⟩
  have hn1 : 1 ≤ n := by rw [hn]; exact Nat.mul_pos (by omega) (by omega)
  have hn2 : n ≤ 1024 * 1024 := by rw [hn]; exact Nat.mul_le_mul (by omega) (by omega)
  have har : ((x1 : Int) - x0 + 1) * ((y1 : Int) - y0 + 1) = (n : Int) := by
    rw [hn, Int.natCast_mul]
    congr 1 <;> omega
  rw [← hn]
  obtain ⟨f1, f2, f3, f4⟩ := floor_go (s := s) (n := (n : Int)) (by omega)
  have hq := Int.mul_ediv_add_emod s n
  have hm0 := Int.emod_nonneg s (show (n : Int) ≠ 0 by omega)
  have hm1 := Int.emod_lt_of_pos s (show (0 : Int) < n by omega)
  have hqb : -9223372036854775808 ≤ s / (n : Int) ∧ s / (n : Int) ≤ 9223372036854775807 := by
    constructor
    · exact Int.le_trans (by omega) (Int.le_ediv_of_mul_le (a := -9007199254740992) (by omega) (by
        have : (-9007199254740992 : Int) * n ≤ -9007199254740992 := by omega
        omega))
    · have := Int.ediv_le_self (a := 9007199254740992) n (by omega)
      have h5 := Int.ediv_le_ediv (show (0 : Int) < n by omega) hsb.2
      omega
  have S := St.start W
  refine Fn_enter Try.func102 rfl Try.results102 Try.ntmps102 (by kernel_rfl) (by kernel_rfl) ?_
  repeat refine cw_seq ?_
  refine cw_region ?_
  refine rw_newB (op_box rfl) S ?_
  intro b_r w2_ g2_ S
  iterate 2 refine rw_v (op_pure rfl) ?_
  first | refine rw_end ?_ | (refine rw_nil ?_; show CW _ _ _ _ _ _) | refine rw_nil ?_
  repeat refine cw_seq ?_
  refine cw_region ?_
  refine rw_v (op_pure rfl) ?_
  refine rw_r (op_loadAB Try.underlying75 rfl (Try.sizeOf75 _) rfl (S.blk (i := 0) rfl) rfl rfl) ?_
  refine rw_call rfl (hs w2_ S.out) ?_
  rintro _ w3_ ⟨rfl, g3_⟩
  have S := S.gr g3_
  iterate 5 refine rw_v (op_pure rfl) ?_
  first | refine rw_end ?_ | (refine rw_nil ?_; show CW _ _ _ _ _ _) | refine rw_nil ?_
  repeat refine cw_seq ?_
  refine cw_region ?_
  refine rw_v (op_pure rfl) ?_
  refine rw_v (op_b (b := false) rfl (bne_eq_false_iff_eq.2 (by omega))) ?_
  first | refine rw_end ?_ | (refine rw_nil ?_; show CW _ _ _ _ _ _) | refine rw_nil ?_
  repeat refine cw_seq ?_
  refine cw_false rfl ?_
  repeat refine cw_seq ?_
  refine cw_skip ?_
  try show CW _ _ _ _ _ _
  repeat refine cw_seq ?_
  refine cw_region ?_
  refine rw_r (op_loadAB Try.underlying75 rfl (Try.sizeOf75 _) rfl (S.blk (i := 0) rfl) rfl rfl) ?_
  refine rw_call rfl (area_E _ _ _ _ (by omega) w3_) ?_
  rintro _ w4_ ⟨rfl, g4_⟩
  have S := S.gr g4_
  rw [har]
  refine rw_v (op_pure rfl) ?_
  first | refine rw_end ?_ | (refine rw_nil ?_; show CW _ _ _ _ _ _) | refine rw_nil ?_
  repeat refine cw_seq ?_
  refine cw_region ?_
  iterate 2 refine rw_v (op_pure rfl) ?_
  refine rw_v (op_remT rfl rfl (by omega)) ?_
  refine rw_v (op_pure rfl) ?_
  refine rw_v (op_rng rfl (by omega)) ?_
  refine rw_v (op_pure rfl) ?_
  refine rw_v (op_remT rfl rfl (by omega)) ?_
  rw [f3]
  refine rw_v (op_pure rfl) ?_
  first | refine rw_end ?_ | (refine rw_nil ?_; show CW _ _ _ _ _ _) | refine rw_nil ?_
  repeat refine cw_seq ?_
  refine cw_region ?_
  iterate 2 refine rw_v (op_pure rfl) ?_
  refine rw_v (op_rng rfl (by omega)) ?_
  refine rw_v (op_pure rfl) ?_
  refine rw_v (op_quoT rfl rfl (by omega) f4 hqb) ?_
  iterate 2 refine rw_v (op_pure rfl) ?_
  first | refine rw_end ?_ | (refine rw_nil ?_; show CW _ _ _ _ _ _) | refine rw_nil ?_
  repeat refine cw_seq ?_
  refine cw_ret ?_
  repeat first | refine ret_then ?_ | refine ret_inb ?_
  exact res2 rfl rfl ⟨rfl, S.out⟩
end
end Go.Proofs.Ytbcgbcipigcbhaa
