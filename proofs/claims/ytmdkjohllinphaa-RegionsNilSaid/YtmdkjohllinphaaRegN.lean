/- No grid has regions: contracts, and hachurelaw29.RegionsNil. -/
import Derived.Test.YtmdkjohllinphaaRise
namespace Go.Proofs.Ytmdkjohllinphaa
open Go.RowKit
set_option linter.unusedVariables false
set_option linter.unusedSimpArgs false
set_option maxRecDepth 100000

section
variable {W : World}
theorem regofNil_E : Fn Try.prog 57 [.pointer none] W (RetG (.tuple #[.agg #[.int .i64 0, .int .i64 0, .slice none 0 0], .int .i64 1]) W) := by
  have S := St.start W
  refine Fn_enter Try.func57 rfl Try.results57 Try.ntmps57 (by kernel_rfl) (by kernel_rfl) ?_
  repeat refine cw_seq ?_
  refine cw_region ?_
  refine rw_newB (op_alloc Try.zeroValue99 rfl) S ?_
  intro b_res w2_ g2_ S
  refine rw_v (op_pure rfl) ?_
  first | refine rw_end ?_ | (refine rw_nil ?_; show CW _ _ _ _ _ _) | refine rw_nil ?_
  repeat refine cw_seq ?_
  refine cw_region ?_
  refine rw_v (op_pure rfl) ?_
  refine rw_v (op_nilp Try.underlying28 rfl rfl) ?_
  first | refine rw_end ?_ | (refine rw_nil ?_; show CW _ _ _ _ _ _) | refine rw_nil ?_
  repeat refine cw_seq ?_
  refine cw_true rfl ?_
  repeat refine cw_seq ?_
  refine cw_region ?_
  refine rw_v (op_build (pl := [(0, 1), (1, 1), (2, 1)]) Try.underlying99 Try.zeroValue99 (fun w => by kernel_rfl) rfl rfl) ?_
  refine rw_storeSA (i := 0) S rfl (Try.sizeOf99 _) rfl rfl rfl rfl rfl rfl ?_
  intro w3_ S
  refine rw_v (op_pure rfl) ?_
  first | refine rw_end ?_ | (refine rw_nil ?_; show CW _ _ _ _ _ _) | refine rw_nil ?_
  repeat refine cw_seq ?_
  refine cw_ret ?_
  repeat first | refine ret_then ?_ | refine ret_inb ?_
  exact resAT Try.underlying99 rfl (Try.sizeOf99 _) rfl (S.blk (i := 0) rfl) rfl rfl rfl ⟨rfl, S.out⟩
theorem regOfNil_E (t : Int) : Fn Try.prog 18 [.pointer none, .int .i64 t] W (RetG (.tuple #[.slice none 0 0, .slice none 0 0, .int .i64 1]) W) := by
  have S := St.start W
  refine Fn_enter Try.func18 rfl Try.results18 Try.ntmps18 (by kernel_rfl) (by kernel_rfl) ?_
  repeat refine cw_seq ?_
  refine cw_region ?_
  refine rw_v (op_pure rfl) ?_
  refine rw_v (op_pure rfl) ?_
  refine rw_v (op_pure rfl) ?_
  first | refine rw_end ?_ | (refine rw_nil ?_; show CW _ _ _ _ _ _) | refine rw_nil ?_
  repeat refine cw_seq ?_
  refine cw_region ?_
  refine rw_v (op_pure rfl) ?_
  refine rw_call rfl (regofNil_E (W := W)) ?_
  rintro _ w1_ ⟨rfl, g1_⟩
  have S := S.gr g1_
  refine rw_v (op_pure rfl) ?_
  refine rw_v (op_pure rfl) ?_
  refine rw_v (op_pure rfl) ?_
  refine rw_newB (op_alloc Try.zeroValue99 rfl) S ?_
  intro b_l w3_ g3_ S
  refine rw_storeSA (i := 0) S rfl (Try.sizeOf99 _) rfl rfl rfl rfl rfl rfl ?_
  intro w4_ S
  refine rw_v (op_pure rfl) ?_
  first | refine rw_end ?_ | (refine rw_nil ?_; show CW _ _ _ _ _ _) | refine rw_nil ?_
  repeat refine cw_seq ?_
  refine cw_region ?_
  refine rw_v (op_pure rfl) ?_
  refine rw_v (op_b (b := true) rfl (bne_iff_ne.2 (by omega))) ?_
  first | refine rw_end ?_ | (refine rw_nil ?_; show CW _ _ _ _ _ _) | refine rw_nil ?_
  repeat refine cw_seq ?_
  refine cw_true rfl ?_
  repeat refine cw_seq ?_
  refine cw_region ?_
  refine rw_v (op_pure rfl) ?_
  refine rw_v (op_pure rfl) ?_
  refine rw_v (op_pure rfl) ?_
  refine rw_v (op_pure rfl) ?_
  first | refine rw_end ?_ | (refine rw_nil ?_; show CW _ _ _ _ _ _) | refine rw_nil ?_
  repeat refine cw_seq ?_
  refine cw_ret ?_
  repeat first | refine ret_then ?_ | refine ret_inb ?_
  exact res3 rfl rfl rfl ⟨rfl, S.out⟩
theorem floodNil_E (cx cy t : Int) : Fn Try.prog 53 [.pointer none, .agg #[.int .i64 cx, .int .i64 cy], .int .i64 t] W (RetG (.tuple #[.slice none 0 0, .int .i64 1]) W) := by
  have S := St.start W
  refine Fn_enter Try.func53 rfl Try.results53 Try.ntmps53 (by kernel_rfl) (by kernel_rfl) ?_
  repeat refine cw_seq ?_
  refine cw_region ?_
  refine rw_newB (op_box rfl) S ?_
  intro b_c w2_ g2_ S
  refine rw_v (op_pure rfl) ?_
  refine rw_v (op_pure rfl) ?_
  first | refine rw_end ?_ | (refine rw_nil ?_; show CW _ _ _ _ _ _) | refine rw_nil ?_
  repeat refine cw_seq ?_
  refine cw_region ?_
  refine rw_v (op_pure rfl) ?_
  refine rw_call rfl (regofNil_E (W := w2_)) ?_
  rintro _ w3_ ⟨rfl, g3_⟩
  have S := S.gr g3_
  refine rw_v (op_pure rfl) ?_
  refine rw_v (op_pure rfl) ?_
  refine rw_v (op_pure rfl) ?_
  refine rw_newB (op_alloc Try.zeroValue99 rfl) S ?_
  intro b_l w5_ g5_ S
  refine rw_storeSA (i := 0) S rfl (Try.sizeOf99 _) rfl rfl rfl rfl rfl rfl ?_
  intro w6_ S
  refine rw_v (op_pure rfl) ?_
  first | refine rw_end ?_ | (refine rw_nil ?_; show CW _ _ _ _ _ _) | refine rw_nil ?_
  repeat refine cw_seq ?_
  refine cw_region ?_
  refine rw_v (op_pure rfl) ?_
  refine rw_v (op_b (b := true) rfl (bne_iff_ne.2 (by omega))) ?_
  first | refine rw_end ?_ | (refine rw_nil ?_; show CW _ _ _ _ _ _) | refine rw_nil ?_
  repeat refine cw_seq ?_
  refine cw_true rfl ?_
  repeat refine cw_seq ?_
  refine cw_region ?_
  refine rw_v (op_pure rfl) ?_
  refine rw_v (op_pure rfl) ?_
  refine rw_v (op_pure rfl) ?_
  first | refine rw_end ?_ | (refine rw_nil ?_; show CW _ _ _ _ _ _) | refine rw_nil ?_
  repeat refine cw_seq ?_
  refine cw_ret ?_
  repeat first | refine ret_then ?_ | refine ret_inb ?_
  exact res2 rfl rfl ⟨rfl, S.out⟩
theorem joinedNil_E (ax ay bx bz : Int) : Fn Try.prog 50 [.pointer none, .agg #[.int .i64 ax, .int .i64 ay], .agg #[.int .i64 bx, .int .i64 bz]] W (RetG (.tuple #[.int .i64 0, .int .i64 1]) W) := by
  have S := St.start W
  refine Fn_enter Try.func50 rfl Try.results50 Try.ntmps50 (by kernel_rfl) (by kernel_rfl) ?_
  repeat refine cw_seq ?_
  refine cw_region ?_
  refine rw_newB (op_box rfl) S ?_
  intro b_a w2_ g2_ S
  refine rw_newB (op_box rfl) S ?_
  intro b_b w4_ g4_ S
  refine rw_v (op_pure rfl) ?_
  refine rw_v (op_pure rfl) ?_
  first | refine rw_end ?_ | (refine rw_nil ?_; show CW _ _ _ _ _ _) | refine rw_nil ?_
  repeat refine cw_seq ?_
  refine cw_region ?_
  refine rw_v (op_pure rfl) ?_
  refine rw_call rfl (regofNil_E (W := w4_)) ?_
  rintro _ w5_ ⟨rfl, g5_⟩
  have S := S.gr g5_
  refine rw_v (op_pure rfl) ?_
  refine rw_v (op_pure rfl) ?_
  refine rw_v (op_pure rfl) ?_
  refine rw_newB (op_alloc Try.zeroValue99 rfl) S ?_
  intro b_l w7_ g7_ S
  refine rw_storeSA (i := 0) S rfl (Try.sizeOf99 _) rfl rfl rfl rfl rfl rfl ?_
  intro w8_ S
  refine rw_v (op_pure rfl) ?_
  first | refine rw_end ?_ | (refine rw_nil ?_; show CW _ _ _ _ _ _) | refine rw_nil ?_
  repeat refine cw_seq ?_
  refine cw_region ?_
  refine rw_v (op_pure rfl) ?_
  refine rw_v (op_b (b := true) rfl (bne_iff_ne.2 (by omega))) ?_
  first | refine rw_end ?_ | (refine rw_nil ?_; show CW _ _ _ _ _ _) | refine rw_nil ?_
  repeat refine cw_seq ?_
  refine cw_true rfl ?_
  repeat refine cw_seq ?_
  refine cw_region ?_
  refine rw_v (op_pure rfl) ?_
  refine rw_v (op_pure rfl) ?_
  refine rw_v (op_pure rfl) ?_
  first | refine rw_end ?_ | (refine rw_nil ?_; show CW _ _ _ _ _ _) | refine rw_nil ?_
  repeat refine cw_seq ?_
  refine cw_ret ?_
  repeat first | refine ret_then ?_ | refine ret_inb ?_
  exact res2 rfl rfl ⟨rfl, S.out⟩
theorem regionsNil_E (cx cy t : Int) : Fn Try.prog 14 [.agg #[.int .i64 cx, .int .i64 cy], .int .i64 t] W (RetG (.bool true) W) := by
  have S := St.start W
  refine Fn_enter Try.func14 rfl Try.results14 Try.ntmps14 (by kernel_rfl) (by kernel_rfl) ?_
  repeat refine cw_seq ?_
  refine cw_region ?_
  refine rw_newB (op_box rfl) S ?_
  intro b_c w2_ g2_ S
  refine rw_v (op_pure rfl) ?_
  first | refine rw_end ?_ | (refine rw_nil ?_; show CW _ _ _ _ _ _) | refine rw_nil ?_
  repeat refine cw_seq ?_
  refine cw_region ?_
  refine rw_call rfl (awake29_E w2_) ?_
  rintro _ w3_ ⟨rfl, g3_⟩
  have S := S.gr g3_
  refine rw_v (op_pure rfl) ?_
  first | refine rw_end ?_ | (refine rw_nil ?_; show CW _ _ _ _ _ _) | refine rw_nil ?_
  repeat refine cw_seq ?_
  refine cw_false rfl ?_
  repeat refine cw_seq ?_
  refine cw_skip ?_
  try show CW _ _ _ _ _ _
  repeat refine cw_seq ?_
  refine cw_region ?_
  refine rw_v (op_pure rfl) ?_
  refine rw_call rfl (regOfNil_E (W := w3_) _) ?_
  rintro _ w4_ ⟨rfl, g4_⟩
  have S := S.gr g4_
  refine rw_v (op_pure rfl) ?_
  refine rw_v (op_pure rfl) ?_
  refine rw_v (op_pure rfl) ?_
  refine rw_v (op_pure rfl) ?_
  refine rw_v (op_pure rfl) ?_
  refine rw_v (op_pure rfl) ?_
  refine rw_v (op_pure rfl) ?_
  first | refine rw_end ?_ | (refine rw_nil ?_; show CW _ _ _ _ _ _) | refine rw_nil ?_
  repeat refine cw_seq ?_
  refine cw_region ?_
  refine rw_r (op_loadAB Try.underlying36 rfl (Try.sizeOf36 _) rfl (S.blk (i := 0) rfl) rfl rfl) ?_
  refine rw_v (op_pure rfl) ?_
  refine rw_call rfl (floodNil_E (W := w4_) _ _ _) ?_
  rintro _ w5_ ⟨rfl, g5_⟩
  have S := S.gr g5_
  refine rw_v (op_pure rfl) ?_
  refine rw_v (op_pure rfl) ?_
  refine rw_v (op_pure rfl) ?_
  refine rw_v (op_pure rfl) ?_
  refine rw_v (op_pure rfl) ?_
  first | refine rw_end ?_ | (refine rw_nil ?_; show CW _ _ _ _ _ _) | refine rw_nil ?_
  repeat refine cw_seq ?_
  refine cw_region ?_
  refine rw_r (op_loadAB Try.underlying36 rfl (Try.sizeOf36 _) rfl (S.blk (i := 0) rfl) rfl rfl) ?_
  refine rw_r (op_loadAB Try.underlying36 rfl (Try.sizeOf36 _) rfl (S.blk (i := 0) rfl) rfl rfl) ?_
  refine rw_call rfl (joinedNil_E (W := w5_) _ _ _ _) ?_
  rintro _ w6_ ⟨rfl, g6_⟩
  have S := S.gr g6_
  refine rw_v (op_pure rfl) ?_
  refine rw_v (op_pure rfl) ?_
  refine rw_v (op_pure rfl) ?_
  refine rw_v (op_pure rfl) ?_
  refine rw_v (op_pure rfl) ?_
  first | refine rw_end ?_ | (refine rw_nil ?_; show CW _ _ _ _ _ _) | refine rw_nil ?_
  repeat refine cw_seq ?_
  refine cw_region ?_
  refine rw_v (op_pure rfl) ?_
  refine rw_v (op_len Try.underlying22 rfl) ?_
  first | refine rw_v (op_b (b := true) rfl (beq_iff_eq.2 (by omega))) ?_ | refine rw_v (op_b (b := false) rfl (beq_eq_false_iff_ne.2 (by omega))) ?_ | refine rw_v (op_pure rfl) ?_
  refine rw_v (op_pure rfl) ?_
  first | refine rw_off rfl ?_ | (refine rw_on rfl ?_; refine rw_v (op_pure rfl) ?_)
  first | refine rw_off rfl ?_ | (refine rw_on rfl ?_; refine rw_v (op_len Try.underlying31 rfl) ?_)
  first | refine rw_off rfl ?_ | (refine rw_on rfl ?_; (first | refine rw_v (op_b (b := true) rfl (beq_iff_eq.2 (by omega))) ?_ | refine rw_v (op_b (b := false) rfl (beq_eq_false_iff_ne.2 (by omega))) ?_ | refine rw_v (op_pure rfl) ?_))
  refine rw_v (op_pure rfl) ?_
  refine rw_v (op_pure rfl) ?_
  first | refine rw_off rfl ?_ | (refine rw_on rfl ?_; refine rw_v (op_pure rfl) ?_)
  first | refine rw_off rfl ?_ | (refine rw_on rfl ?_; (first | refine rw_v (op_b (b := true) rfl (beq_iff_eq.2 (by omega))) ?_ | refine rw_v (op_b (b := false) rfl (beq_eq_false_iff_ne.2 (by omega))) ?_ | refine rw_v (op_pure rfl) ?_))
  refine rw_v (op_pure rfl) ?_
  refine rw_v (op_pure rfl) ?_
  first | refine rw_off rfl ?_ | (refine rw_on rfl ?_; refine rw_v (op_pure rfl) ?_)
  first | refine rw_off rfl ?_ | (refine rw_on rfl ?_; refine rw_v (op_len Try.underlying41 rfl) ?_)
  first | refine rw_off rfl ?_ | (refine rw_on rfl ?_; (first | refine rw_v (op_b (b := true) rfl (beq_iff_eq.2 (by omega))) ?_ | refine rw_v (op_b (b := false) rfl (beq_eq_false_iff_ne.2 (by omega))) ?_ | refine rw_v (op_pure rfl) ?_))
  refine rw_v (op_pure rfl) ?_
  refine rw_v (op_pure rfl) ?_
  first | refine rw_off rfl ?_ | (refine rw_on rfl ?_; refine rw_v (op_pure rfl) ?_)
  first | refine rw_off rfl ?_ | (refine rw_on rfl ?_; (first | refine rw_v (op_b (b := true) rfl (beq_iff_eq.2 (by omega))) ?_ | refine rw_v (op_b (b := false) rfl (beq_eq_false_iff_ne.2 (by omega))) ?_ | refine rw_v (op_pure rfl) ?_))
  refine rw_v (op_pure rfl) ?_
  refine rw_v (op_pure rfl) ?_
  first | refine rw_off rfl ?_ | (refine rw_on rfl ?_; refine rw_v (op_pure rfl) ?_)
  first | refine rw_off rfl ?_ | (refine rw_on rfl ?_; (first | refine rw_v (op_b (b := true) rfl (beq_iff_eq.2 (by omega))) ?_ | refine rw_v (op_b (b := false) rfl (beq_eq_false_iff_ne.2 (by omega))) ?_ | refine rw_v (op_pure rfl) ?_))
  refine rw_v (op_pure rfl) ?_
  refine rw_v (op_pure rfl) ?_
  first | refine rw_off rfl ?_ | (refine rw_on rfl ?_; refine rw_v (op_pure rfl) ?_)
  first | refine rw_off rfl ?_ | (refine rw_on rfl ?_; (first | refine rw_v (op_b (b := true) rfl (beq_iff_eq.2 (by omega))) ?_ | refine rw_v (op_b (b := false) rfl (beq_eq_false_iff_ne.2 (by omega))) ?_ | refine rw_v (op_pure rfl) ?_))
  refine rw_v (op_pure rfl) ?_
  refine rw_v (op_pure rfl) ?_
  first | refine rw_end ?_ | (refine rw_nil ?_; show CW _ _ _ _ _ _) | refine rw_nil ?_
  repeat refine cw_seq ?_
  refine cw_ret ?_
  repeat first | refine ret_then ?_ | refine ret_inb ?_
  exact res1 rfl ⟨rfl, S.out⟩
end
end Go.Proofs.Ytmdkjohllinphaa
