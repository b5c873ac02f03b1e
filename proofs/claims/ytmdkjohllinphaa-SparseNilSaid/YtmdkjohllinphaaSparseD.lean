/- hachurelaw21: the chapter's example. -/
import Derived.Test.YtmdkjohllinphaaSparseC
namespace Go.Proofs.Ytmdkjohllinphaa
open Go.RowKit
set_option linter.unusedVariables false
set_option linter.unusedSimpArgs false
set_option maxRecDepth 100000

set_option maxHeartbeats 2000000 in
theorem awake21_E (W : World) : Fn Try.prog 20 [] W (RetG (.bool true) W) := by
  have G := Gr.refl W
  have S := St.start W
  refine Fn_enter Try.func20 rfl Try.results20 Try.ntmps20 (by kernel_rfl) (by kernel_rfl) ?_
  repeat refine cw_seq ?_
  refine cw_region ?_
  refine rw_v (op_pure rfl) ?_
  first | refine rw_end ?_ | (refine rw_nil ?_; show CW _ _ _ _ _ _) | refine rw_nil ?_
  repeat refine cw_seq ?_
  refine cw_region ?_
  refine rw_makeS1 Try.underlying22 info_t2 rfl rfl rfl (n := 15) (c := 15) (by omega) (by omega) (by omega) (by omega) S ?_
  intro A_v w2_ g2_ S sa_v
  refine rw_v (op_pure rfl) ?_
  first | refine rw_end ?_ | (refine rw_nil ?_; show CW _ _ _ _ _ _) | refine rw_nil ?_
  have hv : Rd w2_ A_v (ints (List.replicate 15 0)) := (S.row (i := 0) rfl).rd
  have G := G.trans S.out
  have S := St.start w2_
  have hfrom := fun w (g : Gr w2_ w) => from_E (gw := 5) (gh := 3) (V := List.replicate 15 0) (W := w) 15 (by omega) (by omega) (by simp) (by intro x hx; rw [List.eq_of_mem_replicate hx]; rfl) (hv.gr g)
  repeat refine cw_seq ?_
  refine cw_region ?_
  refine rw_v (op_pure rfl) ?_
  refine rw_call rfl (hfrom _ S.out) ?_
  rintro _ w3_ ⟨p, Ag, cap, bs, Rs, rfl, hG, hGf, g3_⟩
  have S := S.gr g3_
  refine rw_v (op_pure rfl) ?_
  refine rw_v (op_pure rfl) ?_
  refine rw_v (op_pure rfl) ?_
  refine rw_v (op_pure rfl) ?_
  refine rw_v (op_pure rfl) ?_
  first | refine rw_end ?_ | (refine rw_nil ?_; show CW _ _ _ _ _ _) | refine rw_nil ?_
  have G := G.trans S.out
  have S := St.start w3_
  have hb := fun w (g : Gr _ w) => sbuild53_E (W := w) (hG.gr g)
  repeat refine cw_seq ?_
  refine cw_region ?_
  refine rw_v (op_pure rfl) ?_
  refine rw_call rfl (hb _ S.out) ?_
  rintro _ w4_ ⟨tb, As, cs, A0, c0, A1, c1, l0, l1, rfl, hT, hS, hl, hC, g4_⟩
  have S := S.gr g4_
  refine rw_v (op_pure rfl) ?_
  refine rw_v (op_pure rfl) ?_
  refine rw_v (op_pure rfl) ?_
  refine rw_v (op_pure rfl) ?_
  refine rw_v (op_pure rfl) ?_
  first | refine rw_end ?_ | (refine rw_nil ?_; show CW _ _ _ _ _ _) | refine rw_nil ?_
  have G := G.trans S.out
  have S := St.start w4_
  have hq := fun x hx w g => tsquare53_E tb cs c0 c1 As A0 A1 l1 x hx hl w (hT.gr g) (hS.gr g) (hC.gr g)
  repeat refine cw_seq ?_
  refine cw_region ?_
  refine rw_v (op_pure rfl) ?_
  refine rw_v (op_build (pl := [(0, 1), (1, 1)]) Try.underlying36 Try.zeroValue36 (fun w => by kernel_rfl) rfl rfl) ?_
  refine rw_call rfl (hq 3 (.inl rfl) _ S.out) ?_
  rintro _ w5_ ⟨a3, b3, rfl, g5_⟩
  have S := S.gr g5_
  refine rw_v (op_pure rfl) ?_
  refine rw_v (op_pure rfl) ?_
  refine rw_v (op_pure rfl) ?_
  refine rw_newB (op_alloc Try.zeroValue50 rfl) S ?_
  intro b_r3 w7_ g7_ S
  refine rw_storeSA (i := 0) S rfl (Try.sizeOf50 _) rfl rfl rfl rfl rfl rfl ?_
  intro w8_ S
  refine rw_v (op_pure rfl) ?_
  first | refine rw_end ?_ | (refine rw_nil ?_; show CW _ _ _ _ _ _) | refine rw_nil ?_
  repeat refine cw_seq ?_
  refine cw_region ?_
  refine rw_v (op_pure rfl) ?_
  refine rw_v (op_build (pl := [(0, 1), (1, 1)]) Try.underlying36 Try.zeroValue36 (fun w => by kernel_rfl) rfl rfl) ?_
  refine rw_call rfl (hq 4 (.inr rfl) _ S.out) ?_
  rintro _ w9_ ⟨a4, b4, rfl, g9_⟩
  have S := S.gr g9_
  refine rw_v (op_pure rfl) ?_
  refine rw_v (op_pure rfl) ?_
  refine rw_v (op_pure rfl) ?_
  refine rw_newB (op_alloc Try.zeroValue50 rfl) S ?_
  intro b_r4 w11_ g11_ S
  refine rw_storeSA (i := 0) S rfl (Try.sizeOf50 _) rfl rfl rfl rfl rfl rfl ?_
  intro w12_ S
  refine rw_v (op_pure rfl) ?_
  first | refine rw_end ?_ | (refine rw_nil ?_; show CW _ _ _ _ _ _) | refine rw_nil ?_
  repeat refine cw_seq ?_
  refine cw_region ?_
  refine rw_v (op_pure rfl) ?_
  first | refine rw_v (op_b (b := true) rfl (beq_iff_eq.2 (by omega))) ?_ | refine rw_v (op_b (b := false) rfl (beq_eq_false_iff_ne.2 (by omega))) ?_ | refine rw_v (op_pure rfl) ?_
  refine rw_v (op_pure rfl) ?_
  first | refine rw_off rfl ?_ | (refine rw_on rfl ?_; refine rw_v (op_pure rfl) ?_)
  first | refine rw_off rfl ?_ | (refine rw_on rfl ?_; (first | refine rw_v (op_b (b := true) rfl (beq_iff_eq.2 (by omega))) ?_ | refine rw_v (op_b (b := false) rfl (beq_eq_false_iff_ne.2 (by omega))) ?_ | refine rw_v (op_pure rfl) ?_))
  refine rw_v (op_pure rfl) ?_
  refine rw_v (op_pure rfl) ?_
  first | refine rw_off rfl ?_ | (refine rw_on rfl ?_; refine rw_v (op_pure rfl) ?_)
  refine rw_on rfl ?_
  refine rw_call rfl (tsteps_E tb 2 cs As _ _ w12_ (hT.gr S.out)) ?_
  rintro _ w13_ ⟨rfl, g13_⟩
  have S := S.gr g13_
  first | refine rw_off rfl ?_ | (refine rw_on rfl ?_; (first | refine rw_v (op_b (b := true) rfl (beq_iff_eq.2 (by omega))) ?_ | refine rw_v (op_b (b := false) rfl (beq_eq_false_iff_ne.2 (by omega))) ?_ | refine rw_v (op_pure rfl) ?_))
  refine rw_v (op_pure rfl) ?_
  refine rw_v (op_pure rfl) ?_
  first | refine rw_off rfl ?_ | (refine rw_on rfl ?_; refine rw_v (op_pure rfl) ?_)
  first | refine rw_off rfl ?_ | (refine rw_on rfl ?_; (first | refine rw_v (op_b (b := true) rfl (beq_iff_eq.2 (by omega))) ?_ | refine rw_v (op_b (b := false) rfl (beq_eq_false_iff_ne.2 (by omega))) ?_ | refine rw_v (op_pure rfl) ?_))
  refine rw_v (op_pure rfl) ?_
  refine rw_v (op_pure rfl) ?_
  first | refine rw_off rfl ?_ | (refine rw_on rfl ?_; refine rw_v (op_pure rfl) ?_)
  first | refine rw_off rfl ?_ | (refine rw_on rfl ?_; (first | refine rw_v (op_b (b := true) rfl (beq_iff_eq.2 (by omega))) ?_ | refine rw_v (op_b (b := false) rfl (beq_eq_false_iff_ne.2 (by omega))) ?_ | refine rw_v (op_pure rfl) ?_))
  refine rw_v (op_pure rfl) ?_
  refine rw_v (op_pure rfl) ?_
  first | refine rw_end ?_ | (refine rw_nil ?_; show CW _ _ _ _ _ _) | refine rw_nil ?_
  repeat refine cw_seq ?_
  refine cw_ret ?_
  repeat first | refine ret_then ?_ | refine ret_inb ?_
  exact res1 rfl ⟨rfl, G.trans S.out⟩
