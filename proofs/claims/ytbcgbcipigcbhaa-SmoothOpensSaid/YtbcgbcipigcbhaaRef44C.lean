/- hachureref44.Open. -/
import Derived.Test.YtbcgbcipigcbhaaRef44B
namespace Go.Proofs.Ytbcgbcipigcbhaa
open Go.RowKit
set_option linter.unusedVariables false
set_option linter.unusedSimpArgs false
set_option maxRecDepth 100000

section
variable {W : World} {A : Option Addr} {gw gh cap : Nat} {V : List Int}
set_option maxHeartbeats 4000000 in
theorem open44_E (n : Nat) (hw : 1 ≤ gw ∧ gw ≤ 1024) (hh : 1 ≤ gh ∧ gh ≤ 1024) (hn : n ≤ 1024) (hV : V.length = gw * gh) (hA : Rd W A (ints V)) :
    Fn Try.prog 42 [modV gw gh A (gw * gh) cap, .int .i64 n] W (RetNew (fun s => .agg #[.int .i64 gw, .int .i64 gh, s]) 2 1 (gw * gh) (ints (openL V gw gh n)) W) := by
  have hmi : (gw : Int) * gh = ((gw * gh : Nat) : Int) := by push_cast; rfl
  have hm : gw * gh ≤ 1024 * 1024 := Nat.mul_le_mul hw.2 hh.2
  have hr1 := fun (i : Nat) w (hi : i < gw * gh) (h : Rd w A (ints V)) => range44_E (W := w) (cap := cap) i n hw hh hi hn hV h
  have hr2 := fun (A2 : Option Addr) (cap2 i : Nat) w (hi : i < gw * gh) (h : Rd w A2 (ints (lowL V gw gh n))) => range44_E (W := w) (cap := cap2) i n hw hh hi hn (lowL_len V gw gh n) h
  have el : cellsQ (gw * gh) (fun i => (rgW V gw gh i n).lo) = ints (lowL V gw gh n) := cellsQ_ints _ _
  have eh : cellsQ (gw * gh) (fun i => (rgW (lowL V gw gh n) gw gh i n).hi) = ints (openL V gw gh n) := cellsQ_ints _ _
  unfold modV at *
  have S := St.start W
  refine Fn_enter Try.func42 rfl Try.results42 Try.ntmps42 (by kernel_rfl) (by kernel_rfl) ?_
  repeat refine cw_seq ?_
  refine cw_region ?_
  refine rw_newB (op_box rfl) S ?_
  intro b_md w2_ g2_ S
  refine rw_newB (op_alloc Try.zeroValue25 rfl) S ?_
  intro b_res w4_ g4_ S
  first | refine rw_end ?_ | (refine rw_nil ?_; show CW _ _ _ _ _ _) | refine rw_nil ?_
  repeat refine cw_seq ?_
  refine cw_region ?_
  refine rw_v (op_fieldAddr Try.underlying25 rfl Try.sizeOf2 rfl rfl) ?_
  refine rw_r (op_loadB Try.underlying2 rfl rfl (S.blk (i := 1) rfl) rfl) ?_
  refine rw_v (op_fieldAddr Try.underlying25 rfl Try.sizeOf2 rfl rfl) ?_
  refine rw_r (op_loadB Try.underlying2 rfl rfl (S.blk (i := 1) rfl) rfl) ?_
  refine rw_v (op_build (pl := [(0, 1), (1, 1), (2, 1)]) Try.underlying25 Try.zeroValue25 (fun w => by kernel_rfl) rfl rfl) ?_
  refine rw_newB (op_alloc Try.zeroValue25 rfl) S ?_
  intro b_om w6_ g6_ S
  refine rw_storeSA (i := 0) S rfl (Try.sizeOf25 _) rfl rfl rfl rfl rfl rfl ?_
  intro w7_ S
  first | refine rw_end ?_ | (refine rw_nil ?_; show CW _ _ _ _ _ _) | refine rw_nil ?_
  repeat refine cw_seq ?_
  refine cw_region ?_
  refine rw_v (op_pure rfl) ?_
  first | refine rw_end ?_ | (refine rw_nil ?_; show CW _ _ _ _ _ _) | refine rw_nil ?_
  repeat refine cw_seq ?_
  refine cw_block ?_
  repeat refine cw_seq ?_
  have S := S.pushNil 2 1
  refine cw_loop (fun m e w => ∃ (k : Nat) (A_o : Option Addr) (c_o : Nat), k + m = gw * gh ∧ SL e [(1, .int .i64 n), (2, .pointer (some ⟨b_md, 0, none⟩)), (4, .pointer (some ⟨b_res, 0, none⟩)), (5, .pointer (some ⟨b_om, 0, none⟩)), (6, .int .i64 k)] ∧
    St No W w [.row 2 1 A_o k c_o (cellsQ k fun i => (rgW V gw gh i n).lo), .blk b_om 25 [.int .i64 gw, .int .i64 gh, .slice A_o k c_o], .blk b_res 25 [.int .i64 0, .int .i64 0, .slice none 0 0], .blk b_md 25 [.int .i64 gw, .int .i64 gh, .slice A (gw * gh) cap]]) (gw * gh)
    ⟨0, none, 0, by omega, ⟨rfl, rfl, rfl, rfl, rfl, trivial⟩, S⟩ ?_
  clear S
  rintro m e w ⟨k, A_o, c_o, hk, hsl, S⟩
  rw [hsl.fold]
  repeat refine cw_seq ?_
  refine cw_region ?_
  refine rw_v (op_pure rfl) ?_
  refine rw_v (op_fieldAddr Try.underlying25 rfl Try.sizeOf2 rfl rfl) ?_
  refine rw_r (op_loadB Try.underlying2 rfl rfl (S.blk (i := 3) rfl) rfl) ?_
  refine rw_v (op_fieldAddr Try.underlying25 rfl Try.sizeOf2 rfl rfl) ?_
  refine rw_r (op_loadB Try.underlying2 rfl rfl (S.blk (i := 3) rfl) rfl) ?_
  refine rw_v (op_rng rfl (by omega)) ?_
  rw [hmi]
  refine rw_v (op_pure rfl) ?_
  first | refine rw_end ?_ | (refine rw_nil ?_; show CW _ _ _ _ _ _) | refine rw_nil ?_
  repeat refine cw_seq ?_
  refine cw_cond rfl (fun hc => ?_) (fun hc => ?_)
  · try simp only [decide_eq_true_eq, decide_eq_false_iff_not, beq_iff_eq, bne_iff_ne, beq_eq_false_iff_ne, bne_eq_false_iff_eq, Bool.not_eq_true', Bool.not_eq_false', ne_eq, Decidable.not_not, Int.natCast_inj, Int.ofNat_lt, Int.ofNat_le, gt_iff_lt, ge_iff_le, Int.not_lt, Int.not_le] at hc
    have hkn : k < gw * gh := by omega
    have hrk := fun w h => hr1 k w hkn h
    have hpush := cellsQ_push (n := k) (o := fun i => (rgW V gw gh i n).lo) (v := (rgW V gw gh k n).lo) rfl
    generalize rgW V gw gh k n = q at *
    unfold RG.cells at hrk
    repeat refine cw_seq ?_
    refine cw_skip ?_
    try show CW _ _ _ _ _ _
    repeat refine cw_seq ?_
    refine cw_block ?_
    repeat refine cw_seq ?_
    refine cw_tri (C := (fun σ wq => CS No W [.row 2 1 A_o k c_o (cellsQ k fun i => (rgW V gw gh i n).lo), .blk b_om 25 [.int .i64 gw, .int .i64 gh, .slice A_o k c_o], .blk b_res 25 [.int .i64 0, .int .i64 0, .slice none 0 0], .blk b_md 25 [.int .i64 gw, .int .i64 gh, .slice A (gw * gh) cap]] 0 2 1 k (cellsQ k fun i => (rgW V gw gh i n).lo) [.int .i64 q.lo] wq σ)) [7, 8] [0, 1, 2, 3, 4, 5, 6, 7, 8] [9, 10] (by kernel_rfl) (by kernel_rfl) (S.gr (Gr.drew _)) ?_
    simp only [pickI, pickL, List.drop_succ_cons, List.drop_zero]
    refine rs_v rfl (op_fieldAddr Try.underlying25 rfl Try.sizeOf22 rfl rfl) ?_
    refine rs_r rfl (fun τ wq hq => op_loadB Try.underlying22 rfl rfl (hq.ok (j := 1) (by decide) rfl) rfl) ?_
    refine rs_r rfl (fun τ wq hq => op_loadAB Try.underlying25 rfl (Try.sizeOf25 _) rfl (hq.ok (j := 3) (by decide) rfl) rfl rfl) ?_
    refine rs_v rfl (op_pure rfl) ?_
    refine rs_v rfl (op_pure rfl) ?_
    refine rs_call rfl rfl (fun τ wq hq => (hrk wq (hA.gr (hq.frw.gr (fun _ h => h.elim)))).mono (fun _ _ ⟨hv, hg⟩ => ⟨hv, hq.gr hg⟩)) ?_
    refine rs_v rfl (op_field Try.underlying78 rfl Try.underlying2 rfl rfl rfl) ?_
    refine rs_special rfl rfl (fun wq hq => to_buildCS hq Try.underlying22 Try.sizeOf2 Try.zeroValue2 rfl rfl rfl rfl rfl rfl) ?_
    rintro v6 w6 ⟨A6, rfl, _⟩
    refine rs_special rfl rfl (fun wq hq => to_appCS hq rfl (fun h => ⟨_, rfl⟩) Try.underlying22 info_t2 rfl rfl rfl rfl rfl rfl (by omega)) ?_
    rintro v7 w7 ⟨A7, c7, L7, rfl, _, _⟩
    refine rs_nil ?_
    rintro w8 ⟨A8_, c8_, L_st, e_st, h_st, S⟩
    cases e_st
    obtain rfl := Option.some.inj h_st
    refine rw_v (op_fieldAddr Try.underlying25 rfl Try.sizeOf22 rfl rfl) ?_
    refine rw_storeS (i := 1) S rfl (Try.sizeOf22 _) rfl rfl rfl rfl rfl rfl ?_
    intro w9_ S
    first | refine rw_end ?_ | (refine rw_nil ?_; show CW _ _ _ _ _ _) | refine rw_nil ?_
    repeat refine cw_seq ?_
    refine cw_region ?_
    refine rw_v (op_pure rfl) ?_
    refine rw_v (op_rng rfl (by omega)) ?_
    refine rw_v (op_pure rfl) ?_
    first | refine rw_end ?_ | (refine rw_nil ?_; show CW _ _ _ _ _ _) | refine rw_nil ?_
    rw [hpush] at S
    exact ⟨m - 1, by omega, k + 1, A7, c7, by omega, ⟨rfl, rfl, rfl, rfl, ie (by omega), trivial⟩, S⟩
  · try simp only [decide_eq_true_eq, decide_eq_false_iff_not, beq_iff_eq, bne_iff_ne, beq_eq_false_iff_ne, bne_eq_false_iff_eq, Bool.not_eq_true', Bool.not_eq_false', ne_eq, Decidable.not_not, Int.natCast_inj, Int.ofNat_lt, Int.ofNat_le, gt_iff_lt, ge_iff_le, Int.not_lt, Int.not_le] at hc
    have ek : k = gw * gh := by omega
    rw [ek, el] at S
    repeat refine cw_seq ?_
    refine cw_exit ?_
    repeat first | refine exit_then ?_ | refine exit_inb ?_
    show CW _ _ _ _ _ _
    repeat refine cw_seq ?_
    refine cw_region ?_
    refine rw_v (op_fieldAddr Try.underlying25 rfl Try.sizeOf2 rfl rfl) ?_
    refine rw_r (op_loadB Try.underlying2 rfl rfl (S.blk (i := 3) rfl) rfl) ?_
    refine rw_v (op_fieldAddr Try.underlying25 rfl Try.sizeOf2 rfl rfl) ?_
    refine rw_r (op_loadB Try.underlying2 rfl rfl (S.blk (i := 3) rfl) rfl) ?_
    refine rw_v (op_build (pl := [(0, 1), (1, 1), (2, 1)]) Try.underlying25 Try.zeroValue25 (fun w => by kernel_rfl) rfl rfl) ?_
    refine rw_newB (op_alloc Try.zeroValue25 rfl) S ?_
    intro b_op w11_ g11_ S
    refine rw_storeSA (i := 0) S rfl (Try.sizeOf25 _) rfl rfl rfl rfl rfl rfl ?_
    intro w12_ S
    first | refine rw_end ?_ | (refine rw_nil ?_; show CW _ _ _ _ _ _) | refine rw_nil ?_
    repeat refine cw_seq ?_
    refine cw_region ?_
    refine rw_v (op_pure rfl) ?_
    first | refine rw_end ?_ | (refine rw_nil ?_; show CW _ _ _ _ _ _) | refine rw_nil ?_
    repeat refine cw_seq ?_
    refine cw_block ?_
    repeat refine cw_seq ?_
    have S := S.pushNil 2 1
    refine cw_loop (fun m e w => ∃ (k : Nat) (A_p : Option Addr) (c_p : Nat), k + m = gw * gh ∧ SL e [(1, .int .i64 n), (2, .pointer (some ⟨b_md, 0, none⟩)), (4, .pointer (some ⟨b_res, 0, none⟩)), (5, .pointer (some ⟨b_om, 0, none⟩)), (7, .pointer (some ⟨b_op, 0, none⟩)), (8, .int .i64 k)] ∧
      St No W w [.row 2 1 A_p k c_p (cellsQ k fun i => (rgW (lowL V gw gh n) gw gh i n).hi), .blk b_op 25 [.int .i64 gw, .int .i64 gh, .slice A_p k c_p], .row 2 1 A_o (gw * gh) c_o (ints (lowL V gw gh n)), .blk b_om 25 [.int .i64 gw, .int .i64 gh, .slice A_o (gw * gh) c_o], .blk b_res 25 [.int .i64 0, .int .i64 0, .slice none 0 0], .blk b_md 25 [.int .i64 gw, .int .i64 gh, .slice A (gw * gh) cap]]) (gw * gh)
      ⟨0, none, 0, by omega, ⟨rfl, rfl, rfl, rfl, rfl, rfl, trivial⟩, S⟩ ?_
    clear S
    rintro m e w ⟨k, A_p, c_p, hk, hsl, S⟩
    rw [hsl.fold]
    repeat refine cw_seq ?_
    refine cw_region ?_
    refine rw_v (op_pure rfl) ?_
    refine rw_v (op_fieldAddr Try.underlying25 rfl Try.sizeOf2 rfl rfl) ?_
    refine rw_r (op_loadB Try.underlying2 rfl rfl (S.blk (i := 5) rfl) rfl) ?_
    refine rw_v (op_fieldAddr Try.underlying25 rfl Try.sizeOf2 rfl rfl) ?_
    refine rw_r (op_loadB Try.underlying2 rfl rfl (S.blk (i := 5) rfl) rfl) ?_
    refine rw_v (op_rng rfl (by omega)) ?_
    rw [hmi]
    refine rw_v (op_pure rfl) ?_
    first | refine rw_end ?_ | (refine rw_nil ?_; show CW _ _ _ _ _ _) | refine rw_nil ?_
    repeat refine cw_seq ?_
    refine cw_cond rfl (fun hc2 => ?_) (fun hc2 => ?_)
    · try simp only [decide_eq_true_eq, decide_eq_false_iff_not, beq_iff_eq, bne_iff_ne, beq_eq_false_iff_ne, bne_eq_false_iff_eq, Bool.not_eq_true', Bool.not_eq_false', ne_eq, Decidable.not_not, Int.natCast_inj, Int.ofNat_lt, Int.ofNat_le, gt_iff_lt, ge_iff_le, Int.not_lt, Int.not_le] at hc2
      have hkn : k < gw * gh := by omega
      have hrk := fun w h => hr2 A_o c_o k w hkn h
      have hpush := cellsQ_push (n := k) (o := fun i => (rgW (lowL V gw gh n) gw gh i n).hi) (v := (rgW (lowL V gw gh n) gw gh k n).hi) rfl
      generalize rgW (lowL V gw gh n) gw gh k n = q at *
      unfold RG.cells at hrk
      repeat refine cw_seq ?_
      refine cw_skip ?_
      try show CW _ _ _ _ _ _
      repeat refine cw_seq ?_
      refine cw_block ?_
      repeat refine cw_seq ?_
      refine cw_tri (C := (fun σ wq => CS No W [.row 2 1 A_p k c_p (cellsQ k fun i => (rgW (lowL V gw gh n) gw gh i n).hi), .blk b_op 25 [.int .i64 gw, .int .i64 gh, .slice A_p k c_p], .row 2 1 A_o (gw * gh) c_o (ints (lowL V gw gh n)), .blk b_om 25 [.int .i64 gw, .int .i64 gh, .slice A_o (gw * gh) c_o], .blk b_res 25 [.int .i64 0, .int .i64 0, .slice none 0 0], .blk b_md 25 [.int .i64 gw, .int .i64 gh, .slice A (gw * gh) cap]] 0 2 1 k (cellsQ k fun i => (rgW (lowL V gw gh n) gw gh i n).hi) [.int .i64 q.hi] wq σ)) [7, 8] [0, 1, 2, 3, 4, 5, 6, 7, 8] [9, 10] (by kernel_rfl) (by kernel_rfl) (S.gr (Gr.drew _)) ?_
      simp only [pickI, pickL, List.drop_succ_cons, List.drop_zero]
      refine rs_v rfl (op_fieldAddr Try.underlying25 rfl Try.sizeOf22 rfl rfl) ?_
      refine rs_r rfl (fun τ wq hq => op_loadB Try.underlying22 rfl rfl (hq.ok (j := 1) (by decide) rfl) rfl) ?_
      refine rs_r rfl (fun τ wq hq => op_loadAB Try.underlying25 rfl (Try.sizeOf25 _) rfl (hq.ok (j := 3) (by decide) rfl) rfl rfl) ?_
      refine rs_v rfl (op_pure rfl) ?_
      refine rs_v rfl (op_pure rfl) ?_
      refine rs_call rfl rfl (fun τ wq hq => (hrk wq (Row.rd (hq.ok (j := 2) (by decide) rfl))).mono (fun _ _ ⟨hv, hg⟩ => ⟨hv, hq.gr hg⟩)) ?_
      refine rs_v rfl (op_field Try.underlying78 rfl Try.underlying2 rfl rfl rfl) ?_
      refine rs_special rfl rfl (fun wq hq => to_buildCS hq Try.underlying22 Try.sizeOf2 Try.zeroValue2 rfl rfl rfl rfl rfl rfl) ?_
      rintro v6 w6 ⟨A6, rfl, _⟩
      refine rs_special rfl rfl (fun wq hq => to_appCS hq rfl (fun h => ⟨_, rfl⟩) Try.underlying22 info_t2 rfl rfl rfl rfl rfl rfl (by omega)) ?_
      rintro v7 w7 ⟨A7, c7, L7, rfl, _, _⟩
      refine rs_nil ?_
      rintro w8 ⟨A8_, c8_, L_st, e_st, h_st, S⟩
      cases e_st
      obtain rfl := Option.some.inj h_st
      refine rw_v (op_fieldAddr Try.underlying25 rfl Try.sizeOf22 rfl rfl) ?_
      refine rw_storeS (i := 1) S rfl (Try.sizeOf22 _) rfl rfl rfl rfl rfl rfl ?_
      intro w14_ S
      first | refine rw_end ?_ | (refine rw_nil ?_; show CW _ _ _ _ _ _) | refine rw_nil ?_
      repeat refine cw_seq ?_
      refine cw_region ?_
      refine rw_v (op_pure rfl) ?_
      refine rw_v (op_rng rfl (by omega)) ?_
      refine rw_v (op_pure rfl) ?_
      first | refine rw_end ?_ | (refine rw_nil ?_; show CW _ _ _ _ _ _) | refine rw_nil ?_
      rw [hpush] at S
      exact ⟨m - 1, by omega, k + 1, A7, c7, by omega, ⟨rfl, rfl, rfl, rfl, rfl, ie (by omega), trivial⟩, S⟩
    · try simp only [decide_eq_true_eq, decide_eq_false_iff_not, beq_iff_eq, bne_iff_ne, beq_eq_false_iff_ne, bne_eq_false_iff_eq, Bool.not_eq_true', Bool.not_eq_false', ne_eq, Decidable.not_not, Int.natCast_inj, Int.ofNat_lt, Int.ofNat_le, gt_iff_lt, ge_iff_le, Int.not_lt, Int.not_le] at hc2
      have ek2 : k = gw * gh := by omega
      rw [ek2, eh] at S
      repeat refine cw_seq ?_
      refine cw_exit ?_
      repeat first | refine exit_then ?_ | refine exit_inb ?_
      show CW _ _ _ _ _ _
      repeat refine cw_seq ?_
      refine cw_region ?_
      refine rw_r (op_loadAB Try.underlying25 rfl (Try.sizeOf25 _) rfl (S.blk (i := 1) rfl) rfl rfl) ?_
      refine rw_storeSA (i := 4) S rfl (Try.sizeOf25 _) rfl rfl rfl rfl rfl rfl ?_
      intro w15_ S
      first | refine rw_end ?_ | (refine rw_nil ?_; show CW _ _ _ _ _ _) | refine rw_nil ?_
      repeat refine cw_seq ?_
      refine cw_ret ?_
      repeat first | refine ret_then ?_ | refine ret_inb ?_
      exact resA Try.underlying25 rfl (Try.sizeOf25 _) rfl (S.blk (i := 4) rfl) rfl rfl (S.retNew (i := 0) (mk := fun s => .agg #[.int .i64 gw, .int .i64 gh, s]) rfl)
end
end Go.Proofs.Ytbcgbcipigcbhaa
