/- hachurelaw21.SparseNil: the walk. -/
import Derived.Test.YtmdkjohllinphaaSparseD
namespace Go.Proofs.Ytmdkjohllinphaa
open Go.RowKit
set_option linter.unusedVariables false
set_option linter.unusedSimpArgs false
set_option maxRecDepth 100000

theorem eqRange1 (x y : Operand) (w : World) : (eqGuard .eql 50 x y (.agg #[.int .i64 0, .int .i64 0]) (.agg #[.int .i64 0, .int .i64 0])).run Try.prog w = .ok () w := by kernel_rfl
theorem eqRange2 (w : World) : (binOp .eql 50 (.agg #[.int .i64 0, .int .i64 0]) (.agg #[.int .i64 0, .int .i64 0])).run Try.prog w = .ok (.bool true) w := by kernel_rfl
theorem op_eqRange {e : Nat → Value} {d : Option Tmp} {ty : TypeId} {ps : String} {af : Array Edge} {t' : TypeId} {x y : Operand} (hx : ev e x = .agg #[.int .i64 0, .int .i64 0]) (hy : ev e y = .agg #[.int .i64 0, .int .i64 0]) :
    OpV Try.prog e ⟨d, .binOp .eql 50 x y t', ty, ps, af, none⟩ (.bool true) := by
  intro w
  simp [OpR, execOp, hx, hy, eqRange1, eqRange2]
theorem sparseNil_E (k cx cy x0 y0 x1 y1 : Int) (W : World) : Fn Try.prog 4 [.int .i64 k, .agg #[.int .i64 cx, .int .i64 cy], .agg #[.int .i64 x0, .int .i64 y0, .int .i64 x1, .int .i64 y1]] W (RetG (.bool true) W) := by
  have S := St.start W
  refine Fn_enter Try.func4 rfl Try.results4 Try.ntmps4 (by kernel_rfl) (by kernel_rfl) ?_
  repeat refine cw_seq ?_
  refine cw_region ?_
  refine rw_newB (op_box rfl) S ?_
  intro b_c w2_ g2_ S
  refine rw_newB (op_box rfl) S ?_
  intro b_r w4_ g4_ S
  refine rw_v (op_pure rfl) ?_
  first | refine rw_end ?_ | (refine rw_nil ?_; show CW _ _ _ _ _ _) | refine rw_nil ?_
  repeat refine cw_seq ?_
  refine cw_region ?_
  refine rw_call rfl (awake21_E _) ?_
  rintro _ w5_ ⟨rfl, g5_⟩
  have S := S.gr g5_
  refine rw_v (op_pure rfl) ?_
  first | refine rw_end ?_ | (refine rw_nil ?_; show CW _ _ _ _ _ _) | refine rw_nil ?_
  repeat refine cw_seq ?_
  refine cw_false rfl ?_
  repeat refine cw_seq ?_
  refine cw_skip ?_
  try show CW _ _ _ _ _ _
  repeat refine cw_seq ?_
  refine cw_region ?_
  refine rw_call rfl (sbuildNil_E _) ?_
  rintro _ w6_ ⟨rfl, g6_⟩
  have S := S.gr g6_
  refine rw_v (op_pure rfl) ?_
  refine rw_v (op_pure rfl) ?_
  refine rw_v (op_pure rfl) ?_
  refine rw_v (op_pure rfl) ?_
  refine rw_v (op_pure rfl) ?_
  first | refine rw_end ?_ | (refine rw_nil ?_; show CW _ _ _ _ _ _) | refine rw_nil ?_
  repeat refine cw_seq ?_
  refine cw_region ?_
  refine rw_v (op_pure rfl) ?_
  refine rw_call rfl (tsizeNil_E _) ?_
  rintro _ w7_ ⟨rfl, g7_⟩
  have S := S.gr g7_
  refine rw_v (op_pure rfl) ?_
  refine rw_v (op_pure rfl) ?_
  refine rw_v (op_pure rfl) ?_
  refine rw_v (op_pure rfl) ?_
  refine rw_v (op_pure rfl) ?_
  first | refine rw_end ?_ | (refine rw_nil ?_; show CW _ _ _ _ _ _) | refine rw_nil ?_
  repeat refine cw_seq ?_
  refine cw_region ?_
  refine rw_v (op_pure rfl) ?_
  refine rw_v (op_pure rfl) ?_
  refine rw_r (op_loadAB Try.underlying36 rfl (Try.sizeOf36 _) rfl (S.blk (i := 1) rfl) rfl rfl) ?_
  refine rw_call rfl (tsquareNil_E _ _ _ _) ?_
  rintro _ w8_ ⟨rfl, g8_⟩
  have S := S.gr g8_
  refine rw_v (op_pure rfl) ?_
  refine rw_v (op_pure rfl) ?_
  refine rw_v (op_pure rfl) ?_
  refine rw_newB (op_alloc Try.zeroValue50 rfl) S ?_
  intro b_a w10_ g10_ S
  refine rw_storeSA (i := 0) S rfl (Try.sizeOf50 _) rfl rfl rfl rfl rfl rfl ?_
  intro w11_ S
  refine rw_v (op_pure rfl) ?_
  first | refine rw_end ?_ | (refine rw_nil ?_; show CW _ _ _ _ _ _) | refine rw_nil ?_
  repeat refine cw_seq ?_
  refine cw_region ?_
  refine rw_v (op_pure rfl) ?_
  refine rw_r (op_loadAB Try.underlying38 rfl (Try.sizeOf38 _) rfl (S.blk (i := 1) rfl) rfl rfl) ?_
  refine rw_call rfl (trangeNil_E _ _ _ _ _) ?_
  rintro _ w12_ ⟨rfl, g12_⟩
  have S := S.gr g12_
  refine rw_v (op_pure rfl) ?_
  refine rw_v (op_pure rfl) ?_
  refine rw_v (op_pure rfl) ?_
  refine rw_newB (op_alloc Try.zeroValue50 rfl) S ?_
  intro b_b w14_ g14_ S
  refine rw_storeSA (i := 0) S rfl (Try.sizeOf50 _) rfl rfl rfl rfl rfl rfl ?_
  intro w15_ S
  refine rw_v (op_pure rfl) ?_
  first | refine rw_end ?_ | (refine rw_nil ?_; show CW _ _ _ _ _ _) | refine rw_nil ?_
  repeat refine cw_seq ?_
  refine cw_region ?_
  refine rw_v (op_build (pl := [(0, 1), (1, 1)]) Try.underlying50 Try.zeroValue50 (fun w => by kernel_rfl) rfl rfl) ?_
  refine rw_newB (op_alloc Try.zeroValue50 rfl) S ?_
  intro b_z w17_ g17_ S
  refine rw_storeSA (i := 0) S rfl (Try.sizeOf50 _) rfl rfl rfl rfl rfl rfl ?_
  intro w18_ S
  first | refine rw_end ?_ | (refine rw_nil ?_; show CW _ _ _ _ _ _) | refine rw_nil ?_
  repeat refine cw_seq ?_
  refine cw_region ?_
  refine rw_v (op_pure rfl) ?_
  refine rw_v (op_nilp Try.underlying44 rfl rfl) ?_
  refine rw_v (op_pure rfl) ?_
  first | refine rw_off rfl ?_ | (refine rw_on rfl ?_; refine rw_v (op_pure rfl) ?_)
  first | refine rw_off rfl ?_ | (refine rw_on rfl ?_; (first | refine rw_v (op_b (b := true) rfl (beq_iff_eq.2 (by omega))) ?_ | refine rw_v (op_b (b := false) rfl (beq_eq_false_iff_ne.2 (by omega))) ?_ | refine rw_v (op_pure rfl) ?_))
  refine rw_v (op_pure rfl) ?_
  refine rw_v (op_pure rfl) ?_
  first | refine rw_off rfl ?_ | (refine rw_on rfl ?_; refine rw_v (op_pure rfl) ?_)
  first | refine rw_off rfl ?_ | (refine rw_on rfl ?_; (first | refine rw_v (op_b (b := true) rfl (beq_iff_eq.2 (by omega))) ?_ | refine rw_v (op_b (b := false) rfl (beq_eq_false_iff_ne.2 (by omega))) ?_ | refine rw_v (op_pure rfl) ?_))
  refine rw_v (op_pure rfl) ?_
  refine rw_v (op_pure rfl) ?_
  first | refine rw_off rfl ?_ | (refine rw_on rfl ?_; refine rw_v (op_pure rfl) ?_)
  first | refine rw_off rfl ?_ | (refine rw_on rfl ?_; (first | refine rw_v (op_b (b := true) rfl (beq_iff_eq.2 (by omega))) ?_ | refine rw_v (op_b (b := false) rfl (beq_eq_false_iff_ne.2 (by omega))) ?_ | refine rw_v (op_pure rfl) ?_))
  refine rw_v (op_pure rfl) ?_
  refine rw_v (op_pure rfl) ?_
  first | refine rw_off rfl ?_ | (refine rw_on rfl ?_; refine rw_v (op_pure rfl) ?_)
  refine rw_on rfl ?_
  refine rw_call rfl (tstepsNil_E _) ?_
  rintro _ w19_ ⟨rfl, g19_⟩
  have S := S.gr g19_
  first | refine rw_off rfl ?_ | (refine rw_on rfl ?_; (first | refine rw_v (op_b (b := true) rfl (beq_iff_eq.2 (by omega))) ?_ | refine rw_v (op_b (b := false) rfl (beq_eq_false_iff_ne.2 (by omega))) ?_ | refine rw_v (op_pure rfl) ?_))
  refine rw_v (op_pure rfl) ?_
  refine rw_v (op_pure rfl) ?_
  first | refine rw_off rfl ?_ | (refine rw_on rfl ?_; refine rw_r (op_loadAB Try.underlying50 rfl (Try.sizeOf50 _) rfl (S.blk (i := 2) rfl) rfl rfl) ?_)
  first | refine rw_off rfl ?_ | (refine rw_on rfl ?_; refine rw_r (op_loadAB Try.underlying50 rfl (Try.sizeOf50 _) rfl (S.blk (i := 0) rfl) rfl rfl) ?_)
  refine rw_on rfl ?_
  refine rw_v (op_eqRange rfl rfl) ?_
  refine rw_v (op_pure rfl) ?_
  refine rw_v (op_pure rfl) ?_
  first | refine rw_off rfl ?_ | (refine rw_on rfl ?_; refine rw_r (op_loadAB Try.underlying50 rfl (Try.sizeOf50 _) rfl (S.blk (i := 1) rfl) rfl rfl) ?_)
  first | refine rw_off rfl ?_ | (refine rw_on rfl ?_; refine rw_r (op_loadAB Try.underlying50 rfl (Try.sizeOf50 _) rfl (S.blk (i := 0) rfl) rfl rfl) ?_)
  refine rw_on rfl ?_
  refine rw_v (op_eqRange rfl rfl) ?_
  refine rw_v (op_pure rfl) ?_
  refine rw_v (op_pure rfl) ?_
  first | refine rw_off rfl ?_ | (refine rw_on rfl ?_; refine rw_v (op_pure rfl) ?_)
  first | refine rw_off rfl ?_ | (refine rw_on rfl ?_; (first | refine rw_v (op_b (b := true) rfl (beq_iff_eq.2 (by omega))) ?_ | refine rw_v (op_b (b := false) rfl (beq_eq_false_iff_ne.2 (by omega))) ?_ | refine rw_v (op_pure rfl) ?_))
  refine rw_v (op_pure rfl) ?_
  refine rw_v (op_pure rfl) ?_
  first | refine rw_off rfl ?_ | (refine rw_on rfl ?_; refine rw_v (op_pure rfl) ?_)
  first | refine rw_off rfl ?_ | (refine rw_on rfl ?_; (first | refine rw_v (op_b (b := true) rfl (beq_iff_eq.2 (by omega))) ?_ | refine rw_v (op_b (b := false) rfl (beq_eq_false_iff_ne.2 (by omega))) ?_ | refine rw_v (op_pure rfl) ?_))
  refine rw_v (op_pure rfl) ?_
  refine rw_v (op_pure rfl) ?_
  first | refine rw_end ?_ | (refine rw_nil ?_; show CW _ _ _ _ _ _) | refine rw_nil ?_
  repeat refine cw_seq ?_
  refine cw_ret ?_
  repeat first | refine ret_then ?_ | refine ret_inb ?_
  exact res1 rfl ⟨rfl, S.out⟩
