/- regions.Joined: the walk. -/
import Derived.Test.YtbcgbcipigcbhaaJoinA
namespace Go.Proofs.Ytbcgbcipigcbhaa
open Go.RowKit
set_option linter.unusedVariables false
set_option linter.unusedSimpArgs false
set_option maxRecDepth 100000

section
variable {W : World} {A : Option Addr} {p gw gh cap : Nat} {cc : Nat → Int} {bs : Nat → Nat} {Rs : Nat → Option Nat}
set_option maxHeartbeats 8000000 in
theorem joined_E (a b : Nat) (ha : a < gw * gh) (hb : b < gw * gh) (hB : ∀ i, i < gw * gh → -2147483648 ≤ (gridL gw gh cc).getD i 0) (hG : GridAt W p gw gh cc A cap bs Rs) :
    Fn Try.prog 24 [.pointer (some ⟨p, 0, none⟩), .agg #[.int .i64 (a % gw : Nat), .int .i64 (a / gw : Nat)], .agg #[.int .i64 (b % gw : Nat), .int .i64 (b / gw : Nat)]] W
      (fun v w' => ∃ t, IsJoin gw (gridL gw gh cc) a b t ∧ (∃ x, x < gw * gh ∧ t = (gridL gw gh cc).getD x 0) ∧ v = .tuple #[.int .i64 t, .int .i64 0] ∧ Gr W w') := by
  have hw := hG.sw
  have hh := hG.sh
  have hV := gridL_len gw gh cc
  have hgm : gw * gh ≤ 1024 * 1024 := Nat.mul_le_mul hw.2 hh.2
  have hof := fun w (g : Gr W w) => regof_E (hG.gr g)
  have hat := fun (i : Nat) (hi : i < gw * gh) w (g : Gr W w) => gat_E (i % gw) (i / gw) (Nat.mod_lt i hw.1) (Nat.div_lt_of_lt_mul hi) (hG.gr g)
  generalize gridL gw gh cc = V at *
  have hgetv : ∀ i, i < gw * gh → (ints V)[(i : Int).toNat * 1]? = some (.int .i64 (V.getD i 0)) := fun i hi => by rw [Nat.mul_one, Int.toNat_natCast]; exact ints_get (getD_at (by omega))
  have emod : ∀ i : Nat, ((i % gw : Nat) : Int) = ((i % gw : Nat) : Int) := fun i => rfl
  have S := St.start W
  refine Fn_enter Try.func24 rfl Try.results24 Try.ntmps24 (by kernel_rfl) (by kernel_rfl) ?_
  repeat refine cw_seq ?_
  refine cw_region ?_
  refine rw_newB (op_box rfl) S ?_
  intro b_ca w2_ g2_ S
  refine rw_newB (op_box rfl) S ?_
  intro b_cb w4_ g4_ S
  iterate 2 refine rw_v (op_pure rfl) ?_
  first | refine rw_end ?_ | (refine rw_nil ?_; show CW _ _ _ _ _ _) | refine rw_nil ?_
  repeat refine cw_seq ?_
  refine cw_region ?_
  refine rw_v (op_pure rfl) ?_
  refine rw_call rfl (hof w4_ S.out) ?_
  rintro _ w5_ ⟨A_vs, c_vs, rfl, hR_vs, hf_vs, g5_⟩
  have S := S.pushRow hR_vs hf_vs g5_
  iterate 3 refine rw_v (op_pure rfl) ?_
  refine rw_newB (op_alloc Try.zeroValue118 rfl) S ?_
  intro b_l w7_ g7_ S
  refine rw_storeSA (i := 0) S rfl (Try.sizeOf118 _) rfl rfl rfl rfl rfl rfl ?_
  intro w8_ S
  refine rw_v (op_pure rfl) ?_
  first | refine rw_end ?_ | (refine rw_nil ?_; show CW _ _ _ _ _ _) | refine rw_nil ?_
  repeat refine cw_seq ?_
  refine cw_region ?_
  refine rw_v (op_pure rfl) ?_
  refine rw_v (op_b (b := false) rfl (bne_eq_false_iff_eq.2 (by omega))) ?_
  first | refine rw_end ?_ | (refine rw_nil ?_; show CW _ _ _ _ _ _) | refine rw_nil ?_
  repeat refine cw_seq ?_
  refine cw_false rfl ?_
  repeat refine cw_seq ?_
  refine cw_skip ?_
  try show CW _ _ _ _ _ _
  repeat refine cw_seq ?_
  refine cw_region ?_
  refine rw_r (op_loadAB Try.underlying44 rfl (Try.sizeOf44 _) rfl (S.blk (i := 3) rfl) rfl rfl) ?_
  refine rw_r (op_loadAB Try.underlying44 rfl (Try.sizeOf44 _) rfl (S.blk (i := 2) rfl) rfl rfl) ?_
  refine rw_v (op_buildArr Try.underlying121 Try.sizeOf44 Try.zeroValue121 rfl rfl) ?_
  refine rw_v (op_pure rfl) ?_
  first | refine rw_end ?_ | (refine rw_nil ?_; show CW _ _ _ _ _ _) | refine rw_nil ?_
  repeat refine cw_seq ?_
  refine cw_block ?_
  repeat refine cw_seq ?_
  refine cw_loop (fun m e w => ∃ k : Nat, k + m = 2 ∧ SL e [(0, .pointer (some ⟨p, 0, none⟩)), (4, .pointer (some ⟨b_ca, 0, none⟩)), (5, .pointer (some ⟨b_cb, 0, none⟩)), (8, .pointer (some ⟨b_l, 0, none⟩)), (34, .agg #[.int .i64 (a % gw : Nat), .int .i64 (a / gw : Nat), .int .i64 (b % gw : Nat), .int .i64 (b / gw : Nat)]), (35, .int .i64 k)] ∧
    St No W w [.blk b_l 118 [.int .i64 gw, .int .i64 gh, .slice A_vs (gw * gh) c_vs], .row 2 1 A_vs (gw * gh) c_vs (ints V), .blk b_cb 44 [.int .i64 (b % gw : Nat), .int .i64 (b / gw : Nat)], .blk b_ca 44 [.int .i64 (a % gw : Nat), .int .i64 (a / gw : Nat)]]) 2
    ⟨0, rfl, ⟨rfl, rfl, rfl, rfl, rfl, rfl, trivial⟩, S⟩ ?_
  clear S
  rintro m e w ⟨k, hkm, hsl, S⟩
  rw [hsl.fold]
  by_cases hk2 : k < 2
  · have hk01 : k = 0 ∨ k = 1 := by omega
    rcases hk01 with rfl | rfl
    · skip
      repeat refine cw_seq ?_
      refine cw_region ?_
      refine rw_v (op_b (b := true) rfl (decide_eq_true (by omega))) ?_
      first | refine rw_end ?_ | (refine rw_nil ?_; show CW _ _ _ _ _ _) | refine rw_nil ?_
      repeat refine cw_seq ?_
      refine cw_true rfl ?_
      repeat refine cw_seq ?_
      refine cw_skip ?_
      try show CW _ _ _ _ _ _
      repeat refine cw_seq ?_
      refine cw_block ?_
      repeat refine cw_seq ?_
      refine cw_region ?_
      refine rw_v (op_indexVA Try.underlying121 Try.underlying44 Try.sizeOf44 rfl rfl rfl (by omega) (by omega) rfl) ?_
      refine rw_newB (op_alloc Try.zeroValue44 rfl) S ?_
      intro b_d w10_ g10_ S
      refine rw_storeSA (i := 0) S rfl (Try.sizeOf44 _) rfl rfl rfl rfl rfl rfl ?_
      intro w11_ S
      first | refine rw_end ?_ | (refine rw_nil ?_; show CW _ _ _ _ _ _) | refine rw_nil ?_
      repeat refine cw_seq ?_
      refine cw_region ?_
      refine rw_v (op_pure rfl) ?_
      refine rw_r (op_loadAB Try.underlying44 rfl (Try.sizeOf44 _) rfl (S.blk (i := 0) rfl) rfl rfl) ?_
      refine rw_call rfl (hat a ha w11_ S.out) ?_
      rintro _ w12_ ⟨rfl, g12_⟩
      have S := S.gr g12_
      iterate 5 refine rw_v (op_pure rfl) ?_
      first | refine rw_end ?_ | (refine rw_nil ?_; show CW _ _ _ _ _ _) | refine rw_nil ?_
      repeat refine cw_seq ?_
      refine cw_region ?_
      refine rw_v (op_pure rfl) ?_
      refine rw_v (op_b (b := false) rfl (bne_eq_false_iff_eq.2 (by omega))) ?_
      first | refine rw_end ?_ | (refine rw_nil ?_; show CW _ _ _ _ _ _) | refine rw_nil ?_
      repeat refine cw_seq ?_
      refine cw_false rfl ?_
      repeat refine cw_seq ?_
      refine cw_skip ?_
      try show CW _ _ _ _ _ _
      repeat refine cw_seq ?_
      refine cw_region ?_
      refine rw_v (op_rng rfl (by omega)) ?_
      refine rw_v (op_pure rfl) ?_
      first | refine rw_end ?_ | (refine rw_nil ?_; show CW _ _ _ _ _ _) | refine rw_nil ?_
      exact ⟨m - 1, by omega, 1, by omega, ⟨rfl, rfl, rfl, rfl, rfl, rfl, trivial⟩, S.drop 1⟩
    · skip
      repeat refine cw_seq ?_
      refine cw_region ?_
      refine rw_v (op_b (b := true) rfl (decide_eq_true (by omega))) ?_
      first | refine rw_end ?_ | (refine rw_nil ?_; show CW _ _ _ _ _ _) | refine rw_nil ?_
      repeat refine cw_seq ?_
      refine cw_true rfl ?_
      repeat refine cw_seq ?_
      refine cw_skip ?_
      try show CW _ _ _ _ _ _
      repeat refine cw_seq ?_
      refine cw_block ?_
      repeat refine cw_seq ?_
      refine cw_region ?_
      refine rw_v (op_indexVA Try.underlying121 Try.underlying44 Try.sizeOf44 rfl rfl rfl (by omega) (by omega) rfl) ?_
      refine rw_newB (op_alloc Try.zeroValue44 rfl) S ?_
      intro b_d w14_ g14_ S
      refine rw_storeSA (i := 0) S rfl (Try.sizeOf44 _) rfl rfl rfl rfl rfl rfl ?_
      intro w15_ S
      first | refine rw_end ?_ | (refine rw_nil ?_; show CW _ _ _ _ _ _) | refine rw_nil ?_
      repeat refine cw_seq ?_
      refine cw_region ?_
      refine rw_v (op_pure rfl) ?_
      refine rw_r (op_loadAB Try.underlying44 rfl (Try.sizeOf44 _) rfl (S.blk (i := 0) rfl) rfl rfl) ?_
      refine rw_call rfl (hat b hb w15_ S.out) ?_
      rintro _ w16_ ⟨rfl, g16_⟩
      have S := S.gr g16_
      iterate 5 refine rw_v (op_pure rfl) ?_
      first | refine rw_end ?_ | (refine rw_nil ?_; show CW _ _ _ _ _ _) | refine rw_nil ?_
      repeat refine cw_seq ?_
      refine cw_region ?_
      refine rw_v (op_pure rfl) ?_
      refine rw_v (op_b (b := false) rfl (bne_eq_false_iff_eq.2 (by omega))) ?_
      first | refine rw_end ?_ | (refine rw_nil ?_; show CW _ _ _ _ _ _) | refine rw_nil ?_
      repeat refine cw_seq ?_
      refine cw_false rfl ?_
      repeat refine cw_seq ?_
      refine cw_skip ?_
      try show CW _ _ _ _ _ _
      repeat refine cw_seq ?_
      refine cw_region ?_
      refine rw_v (op_rng rfl (by omega)) ?_
      refine rw_v (op_pure rfl) ?_
      first | refine rw_end ?_ | (refine rw_nil ?_; show CW _ _ _ _ _ _) | refine rw_nil ?_
      exact ⟨m - 1, by omega, 2, by omega, ⟨rfl, rfl, rfl, rfl, rfl, rfl, trivial⟩, S.drop 1⟩
  · obtain rfl : k = 2 := by omega
    repeat refine cw_seq ?_
    refine cw_region ?_
    refine rw_v (op_b (b := false) rfl (decide_eq_false (by omega))) ?_
    first | refine rw_end ?_ | (refine rw_nil ?_; show CW _ _ _ _ _ _) | refine rw_nil ?_
    repeat refine cw_seq ?_
    refine cw_false rfl ?_
    repeat refine cw_seq ?_
    refine cw_exit ?_
    repeat first | refine exit_then ?_ | refine exit_inb ?_
    show CW _ _ _ _ _ _
    repeat refine cw_seq ?_
    refine cw_region ?_
    refine rw_v (op_fieldAddr Try.underlying118 rfl Try.sizeOf22 rfl rfl) ?_
    refine rw_r (op_loadB Try.underlying22 rfl rfl (S.blk (i := 0) rfl) rfl) ?_
    refine rw_v (op_len Try.underlying22 rfl) ?_
    refine rw_makeS1 Try.underlying122 info_t3 rfl rfl rfl (n := gw * gh) (c := gw * gh) (by omega) (by omega) (by omega) (by omega) S ?_
    intro A_od w18_ g18_ S sa_od
    refine rw_v (op_pure rfl) ?_
    first | refine rw_end ?_ | (refine rw_nil ?_; show CW _ _ _ _ _ _) | refine rw_nil ?_
    repeat refine cw_seq ?_
    refine cw_region ?_
    refine rw_v (op_pure rfl) ?_
    refine rw_v (op_len Try.underlying122 rfl) ?_
    refine rw_v (op_pure rfl) ?_
    first | refine rw_end ?_ | (refine rw_nil ?_; show CW _ _ _ _ _ _) | refine rw_nil ?_
    repeat refine cw_seq ?_
    refine cw_block ?_
    repeat refine cw_seq ?_
    have hz : List.replicate (gw * gh) (Value.int .i64 0) = cellsN (gw * gh) (fun j => if j < 0 then j else 0) := by
      unfold cellsN
      simp only [Nat.not_lt_zero, if_false]
      rw [List.map_const', List.length_range]
      rfl
    rw [hz] at S
    refine cw_loop (fun m e w => ∃ k : Nat, k + m = gw * gh ∧ SL e [(4, .pointer (some ⟨b_ca, 0, none⟩)), (5, .pointer (some ⟨b_cb, 0, none⟩)), (8, .pointer (some ⟨b_l, 0, none⟩)), (14, .slice A_od (gw * gh) (gw * gh)), (53, .int .i64 (gw * gh : Nat)), (54, .int .i64 k)] ∧
      St No W w [.row 3 1 A_od (gw * gh) (gw * gh) (cellsN (gw * gh) (fun j => if j < k then j else 0)), .blk b_l 118 [.int .i64 gw, .int .i64 gh, .slice A_vs (gw * gh) c_vs], .row 2 1 A_vs (gw * gh) c_vs (ints V), .blk b_cb 44 [.int .i64 (b % gw : Nat), .int .i64 (b / gw : Nat)], .blk b_ca 44 [.int .i64 (a % gw : Nat), .int .i64 (a / gw : Nat)]]) (gw * gh)
      ⟨0, by omega, ⟨rfl, rfl, rfl, rfl, rfl, rfl, trivial⟩, S⟩ ?_
    clear S hz
    rintro m e w ⟨k, hk, hsl, S⟩
    rw [hsl.fold]
    have sa_od : 0 < gw * gh → SomeA A_od := fun h => (S.row (i := 0) rfl).someA h
    have sa_od := sa_od (by omega)
    by_cases hkn : k < gw * gh
    · skip
      repeat refine cw_seq ?_
      refine cw_region ?_
      refine rw_v (op_b (b := true) rfl (decide_eq_true (by omega))) ?_
      first | refine rw_end ?_ | (refine rw_nil ?_; show CW _ _ _ _ _ _) | refine rw_nil ?_
      repeat refine cw_seq ?_
      refine cw_true rfl ?_
      repeat refine cw_seq ?_
      refine cw_skip ?_
      try show CW _ _ _ _ _ _
      repeat refine cw_seq ?_
      refine cw_block ?_
      repeat refine cw_seq ?_
      refine cw_region ?_
      iterate 2 refine rw_v (op_pure rfl) ?_
      first | refine rw_end ?_ | (refine rw_nil ?_; show CW _ _ _ _ _ _) | refine rw_nil ?_
      repeat refine cw_seq ?_
      refine cw_region ?_
      iterate 3 refine rw_v (op_pure rfl) ?_
      refine rw_v (op_idx Try.underlying122 Try.sizeOf3 rfl rfl sa_od (by omega) (by omega)) ?_
      refine rw_storeR (i := 0) S rfl (Try.sizeOf3 _) rfl rfl rfl rfl (by rw [cellsN_len]; omega) rfl ?_
      intro w19_ S
      first | refine rw_end ?_ | (refine rw_nil ?_; show CW _ _ _ _ _ _) | refine rw_nil ?_
      repeat refine cw_seq ?_
      refine cw_region ?_
      refine rw_v (op_rng rfl (by omega)) ?_
      refine rw_v (op_pure rfl) ?_
      first | refine rw_end ?_ | (refine rw_nil ?_; show CW _ _ _ _ _ _) | refine rw_nil ?_
      rw [Nat.mul_one, Int.toNat_natCast, cellsN_set, cellsN_congr (f' := fun j => if j < k + 1 then j else 0) (fun j hj => by
        unfold updF
        (try dsimp only)
        by_cases e1 : j = k
        · rw [if_pos e1, if_pos (by omega), e1]
        · by_cases e2 : j < k
          · rw [if_neg e1, if_pos e2, if_pos (by omega)]
          · rw [if_neg e1, if_neg e2, if_neg (by omega)])] at S
      exact ⟨m - 1, by omega, k + 1, by omega, ⟨rfl, rfl, rfl, rfl, rfl, ie (by omega), trivial⟩, S⟩
    · obtain rfl : k = gw * gh := by omega
      rw [cellsN_congr (f' := fun j => j) (fun j hj => by (try dsimp only); rw [if_pos hj]), ← rowE_I] at S
      have hcmp : Cmp (ownA A_od) w (gw * gh) 70 [.pointer (some ⟨b_l, 0, none⟩)] valI (fun a b => cmpI (V.getD b 0) (V.getD a 0)) := fun w' hfr x y hx hy => by
        have S' := S.hole (i := 0) rfl rfl hfr
        have hbl := S'.blk (i := 1) rfl
        rw [← hV] at hbl
        exact joinC_E x y (by omega) (by omega) hbl (S'.rd (i := 2) rfl)
      repeat refine cw_seq ?_
      refine cw_region ?_
      refine rw_v (op_b (b := false) rfl (decide_eq_false (by omega))) ?_
      first | refine rw_end ?_ | (refine rw_nil ?_; show CW _ _ _ _ _ _) | refine rw_nil ?_
      repeat refine cw_seq ?_
      refine cw_false rfl ?_
      repeat refine cw_seq ?_
      refine cw_exit ?_
      repeat first | refine exit_then ?_ | refine exit_inb ?_
      show CW _ _ _ _ _ _
      repeat refine cw_seq ?_
      refine cw_region ?_
      iterate 2 refine rw_v (op_pure rfl) ?_
      refine rw_call rfl (sortStable_I (fid := 70) (caps := [.pointer (some ⟨b_l, 0, none⟩)]) (by omega) (wk_down fun i => V.getD i 0) XA.self hcmp (S.row (i := 0) rfl)) ?_
      rintro _ w20_ ⟨rfl, o, hP, hO, hR, hF⟩
      have S := S.set (i := 0) (h' := .row 3 1 A_od (gw * gh) (gw * gh) (rowE encI (gw * gh) o)) rfl rfl hF (fun g h => .inl h) hR (fun g h => .inl h)
      first | refine rw_end ?_ | (refine rw_nil ?_; show CW _ _ _ _ _ _) | refine rw_nil ?_
      repeat refine cw_seq ?_
      refine cw_region ?_
      refine rw_v (op_fieldAddr Try.underlying118 rfl Try.sizeOf22 rfl rfl) ?_
      refine rw_r (op_loadB Try.underlying22 rfl rfl (S.blk (i := 1) rfl) rfl) ?_
      refine rw_v (op_len Try.underlying22 rfl) ?_
      refine rw_call rfl (trees_E (gw * gh) (by omega) w20_) ?_
      rintro _ w21_ ⟨A_F, c_F, rfl, hR_F, hf_F, g21_⟩
      have S := S.pushRow hR_F hf_F g21_
      refine rw_v (op_pure rfl) ?_
      first | refine rw_end ?_ | (refine rw_nil ?_; show CW _ _ _ _ _ _) | refine rw_nil ?_
      repeat refine cw_seq ?_
      refine cw_draw (C := fun wq => Gr w21_ wq) [0, 1, 2, 3, 4, 5, 6, 7] [] (by kernel_rfl) (by kernel_rfl) (Gr.drew _) ?_
      simp only [pickL, List.drop_succ_cons, List.drop_zero]
      refine rq_r (fun wq hq => op_loadAB Try.underlying118 rfl (Try.sizeOf118 _) rfl ((S.gr hq).blk (i := 2) rfl) rfl rfl) ?_
      refine rq_r (fun wq hq => op_loadAB Try.underlying44 rfl (Try.sizeOf44 _) rfl ((S.gr hq).blk (i := 5) rfl) rfl rfl) ?_
      refine rq_call rfl (fun wq hq => (regplace_E (W := wq) a (gw * gh) hw.1 ha (by omega)).mono (fun _ _ ⟨hv, hg⟩ => ⟨hv, hq.trans hg⟩)) ?_
      refine rq_r (fun wq hq => op_loadAB Try.underlying118 rfl (Try.sizeOf118 _) rfl ((S.gr hq).blk (i := 2) rfl) rfl rfl) ?_
      refine rq_r (fun wq hq => op_loadAB Try.underlying44 rfl (Try.sizeOf44 _) rfl ((S.gr hq).blk (i := 4) rfl) rfl rfl) ?_
      refine rq_call rfl (fun wq hq => (regplace_E (W := wq) b (gw * gh) hw.1 hb (by omega)).mono (fun _ _ ⟨hv, hg⟩ => ⟨hv, hq.trans hg⟩)) ?_
      iterate 2 refine rq_v (op_pure rfl) ?_
      refine rq_nil ?_
      intro w22_ g22_
      have S := S.gr g22_
      first | refine rw_end ?_ | (refine rw_nil ?_; show CW _ _ _ _ _ _) | refine rw_nil ?_
      repeat refine cw_seq ?_
      refine cw_region ?_
      refine rw_v (op_fieldAddr Try.underlying118 rfl Try.sizeOf22 rfl rfl) ?_
      refine rw_r (op_loadB Try.underlying22 rfl rfl (S.blk (i := 2) rfl) rfl) ?_
      refine rw_v (op_len Try.underlying22 rfl) ?_
      refine rw_makeS1 Try.underlying86 info_t4 rfl rfl rfl (n := gw * gh) (c := gw * gh) (by omega) (by omega) (by omega) (by omega) S ?_
      intro A_laid w24_ g24_ S sa_laid
      refine rw_v (op_pure rfl) ?_
      first | refine rw_end ?_ | (refine rw_nil ?_; show CW _ _ _ _ _ _) | refine rw_nil ?_
      repeat refine cw_seq ?_
      refine cw_region ?_
      refine rw_v (op_pure rfl) ?_
      refine rw_v (op_len Try.underlying122 rfl) ?_
      refine rw_v (op_pure rfl) ?_
      first | refine rw_end ?_ | (refine rw_nil ?_; show CW _ _ _ _ _ _) | refine rw_nil ?_
      repeat refine cw_seq ?_
      refine cw_block ?_
      repeat refine cw_seq ?_
      rw [rowE_I, bitsV_zero] at S
      have S := S.sub (.cons_cons _ (.cons_cons _ (.cons_cons _ (.cons_cons _ (.cons_cons _ (.cons _ (.cons _ (.slnil))))))))
      have hord := hP.ord
      have hdn : ∀ x y, x ≤ y → y < gw * gh → V.getD (o y) 0 ≤ V.getD (o x) 0 := fun x y hxy hy => so_down (g := fun i => V.getD i 0) hO hxy hy
      rw [← hV] at hord
      have hst := NJ.start (gw := gw) (q := b) hord (show a < V.length by omega)
      have hlt : ∀ x, x < gw * gh → o x < gw * gh := fun x hx => by rw [← hV] at hx ⊢; exact hord.lt x hx
      have sa_laid : SomeA A_laid := (S.row (i := 0) rfl).someA (by omega)
      have sa_F : SomeA A_F := (S.row (i := 1) rfl).someA (by omega)
      have sa_vs : SomeA A_vs := (S.row (i := 4) rfl).someA (by omega)
      refine cw_loop (fun m e w => ∃ (k : Nat) (f : Nat → Nat) (B : Nat → Bool), k + m = gw * gh ∧ FOk (gw * gh) f ∧ JN gw V o k (rootF f) ∧ NJ gw V o a b k ∧ (∀ j, B j = true ↔ ∃ x, x < k ∧ o x = j) ∧
        SL e [(8, .pointer (some ⟨b_l, 0, none⟩)), (14, .slice A_od (gw * gh) (gw * gh)), (16, .slice A_F (gw * gh) c_F), (17, .int .i64 a), (18, .int .i64 b), (19, .slice A_laid (gw * gh) (gw * gh)), (79, .slice A_od (gw * gh) (gw * gh)), (80, .int .i64 (gw * gh : Nat)), (81, .int .i64 k)] ∧
        St No W w [.row 4 1 A_laid (gw * gh) (gw * gh) (bitsV (gw * gh) B), .row 3 1 A_F (gw * gh) c_F (cellsN (gw * gh) f), .row 3 1 A_od (gw * gh) (gw * gh) (cellsN (gw * gh) o), .blk b_l 118 [.int .i64 gw, .int .i64 gh, .slice A_vs (gw * gh) c_vs], .row 2 1 A_vs (gw * gh) c_vs (ints V)]) (gw * gh)
        ⟨0, fun i => i, fun _ => false, by omega, fun i _ => Nat.le_refl i, (JN.start (gw := gw) (V := V) (o := o)).same (fun x hx => by omega) (fun j _ => rootF_ge (by omega)), hst, fun j => ⟨fun h => by simp at h, fun ⟨x, hx, _⟩ => by omega⟩, ⟨rfl, rfl, rfl, rfl, rfl, rfl, rfl, rfl, rfl, trivial⟩, S⟩ ?_
      clear S hst hR hF hP hO
      rintro m e w ⟨k, f, B, hkm, hf, hJ, hN, hBk, hsl, S⟩
      rw [hsl.fold]
      by_cases hkn : k < gw * gh
      · have hgo : (cellsN (gw * gh) o)[((k : Nat) : Int).toNat * 1]? = some (.int .i64 (o k : Nat)) := by rw [Nat.mul_one, Int.toNat_natCast]; exact cellsN_get hkn
        have hil := hlt k hkn
        have hlt' : ∀ x, x < k + 1 → o x < V.length := fun x hx => by rw [hV]; exact hlt x (by omega)
        have hBk2 : ∀ j, updT B (o k) j = true ↔ ∃ x, x < k + 1 ∧ o x = j := fun j => by
          unfold updT
          by_cases e1 : j = o k
          · rw [if_pos e1]; exact ⟨fun _ => ⟨k, by omega, e1.symm⟩, fun _ => rfl⟩
          · rw [if_neg e1, hBk]
            exact ⟨fun ⟨x, hx, e⟩ => ⟨x, by omega, e⟩, fun ⟨x, hx, e⟩ => ⟨x, by
              rcases Nat.lt_or_ge x k with h | h
              · exact h
              · exact absurd (by rw [← e, show x = k by omega]) e1, e⟩⟩
        have hnl := nearN_len gw (gw * gh) (o k)
        have hmemN : ∀ y, y ∈ nearN gw (gw * gh) (o k) ↔ y < gw * gh ∧ Side gw (o k) y := fun y => nearN_mem hw.1 hil
        repeat refine cw_seq ?_
        refine cw_region ?_
        refine rw_v (op_b (b := true) rfl (decide_eq_true (by omega))) ?_
        first | refine rw_end ?_ | (refine rw_nil ?_; show CW _ _ _ _ _ _) | refine rw_nil ?_
        repeat refine cw_seq ?_
        refine cw_true rfl ?_
        repeat refine cw_seq ?_
        refine cw_skip ?_
        try show CW _ _ _ _ _ _
        repeat refine cw_seq ?_
        refine cw_block ?_
        repeat refine cw_seq ?_
        refine cw_region ?_
        refine rw_v (op_idx Try.underlying122 Try.sizeOf3 rfl rfl sa_od (by omega) (by omega)) ?_
        refine rw_r (op_ldR Try.underlying3 rfl rfl (S.rd (i := 2) rfl) hgo) ?_
        refine rw_v (op_pure rfl) ?_
        first | refine rw_end ?_ | (refine rw_nil ?_; show CW _ _ _ _ _ _) | refine rw_nil ?_
        repeat refine cw_seq ?_
        refine cw_region ?_
        iterate 2 refine rw_v (op_pure rfl) ?_
        refine rw_v (op_idx Try.underlying86 Try.sizeOf4 rfl rfl sa_laid (by omega) (by omega)) ?_
        refine rw_storeR (i := 0) S rfl (Try.sizeOf4 _) rfl rfl rfl rfl (by rw [bitsV_len]; omega) rfl ?_
        intro w25_ S
        first | refine rw_end ?_ | (refine rw_nil ?_; show CW _ _ _ _ _ _) | refine rw_nil ?_
        repeat refine cw_seq ?_
        refine cw_region ?_
        refine rw_r (op_loadAB Try.underlying118 rfl (Try.sizeOf118 _) rfl (S.blk (i := 3) rfl) rfl rfl) ?_
        refine rw_v (op_pure rfl) ?_
        refine rw_call rfl (rnear29p_E (W := w25_) (A := A_vs) (gh := gh) (c := c_vs) (o k) (gw * gh) ⟨hw.1, by omega⟩ hil (by omega)) ?_
        rintro _ w26_ ⟨A_near, c_near, rfl, hR_near, hf_near, g26_⟩
        have S := S.pushRow hR_near hf_near g26_
        refine rw_v (op_len Try.underlying122 rfl) ?_
        refine rw_v (op_pure rfl) ?_
        first | refine rw_end ?_ | (refine rw_nil ?_; show CW _ _ _ _ _ _) | refine rw_nil ?_
        repeat refine cw_seq ?_
        refine cw_block ?_
        repeat refine cw_seq ?_
        rw [bitsV_set] at S
        generalize nearN gw (gw * gh) (o k) = Nr at *
        have sa_near : 0 < Nr.length → SomeA A_near := fun h => (S.row (i := 0) rfl).someA h
        generalize updT B (o k) = B2 at *
        refine cw_loop (fun m2 e w => ∃ (j : Nat) (f : Nat → Nat), j + m2 = Nr.length ∧ FOk (gw * gh) f ∧ JP gw V o k (fun y => ∃ x, x < j ∧ Nr[x]? = some y) (rootF f) ∧
          SL e [(8, .pointer (some ⟨b_l, 0, none⟩)), (14, .slice A_od (gw * gh) (gw * gh)), (16, .slice A_F (gw * gh) c_F), (17, .int .i64 a), (18, .int .i64 b), (19, .slice A_laid (gw * gh) (gw * gh)), (21, .int .i64 (o k : Nat)), (79, .slice A_od (gw * gh) (gw * gh)), (80, .int .i64 (gw * gh : Nat)), (81, .int .i64 k), (90, .slice A_near Nr.length c_near), (91, .int .i64 Nr.length), (92, .int .i64 j)] ∧
          St No W w [.row 3 1 A_near Nr.length c_near (natsV Nr), .row 4 1 A_laid (gw * gh) (gw * gh) (bitsV (gw * gh) B2), .row 3 1 A_F (gw * gh) c_F (cellsN (gw * gh) f), .row 3 1 A_od (gw * gh) (gw * gh) (cellsN (gw * gh) o), .blk b_l 118 [.int .i64 gw, .int .i64 gh, .slice A_vs (gw * gh) c_vs], .row 2 1 A_vs (gw * gh) c_vs (ints V)]) Nr.length
          ⟨0, f, by omega, hf, hJ.enter.weak (fun x hx ⟨y, hy, _⟩ => by omega), ⟨rfl, rfl, rfl, rfl, rfl, rfl, rfl, rfl, rfl, rfl, rfl, rfl, rfl, trivial⟩, S⟩ ?_
        clear S hf hJ
        rintro m2 e2 w2 ⟨j, f, hjm, hf, hJ, hsl2, S⟩
        rw [hsl2.fold]
        by_cases hjl : j < Nr.length
        · have sa_near := sa_near (by omega)
          obtain ⟨y, hy⟩ : ∃ y, Nr[j]? = some y := ⟨_, List.getElem?_eq_getElem hjl⟩
          obtain ⟨hyl, hys⟩ := (hmemN y).1 (List.mem_of_getElem? hy)
          have hgb := bitsV_get (n := gw * gh) (f := B2) hyl
          cases hby : B2 y with
          | true =>
            rw [hby] at hgb
            obtain ⟨x0, hx0, hox⟩ := (hBk2 y).1 hby
            repeat refine cw_seq ?_
            refine cw_region ?_
            refine rw_v (op_b (b := true) rfl (decide_eq_true (by omega))) ?_
            first | refine rw_end ?_ | (refine rw_nil ?_; show CW _ _ _ _ _ _) | refine rw_nil ?_
            repeat refine cw_seq ?_
            refine cw_true rfl ?_
            repeat refine cw_seq ?_
            refine cw_skip ?_
            try show CW _ _ _ _ _ _
            repeat refine cw_seq ?_
            refine cw_block ?_
            repeat refine cw_seq ?_
            refine cw_region ?_
            refine rw_v (op_idx Try.underlying122 Try.sizeOf3 rfl rfl sa_near (by omega) (by omega)) ?_
            refine rw_r (op_ldR Try.underlying3 rfl rfl (S.rd (i := 0) rfl) (natsV_get hy)) ?_
            refine rw_v (op_pure rfl) ?_
            first | refine rw_end ?_ | (refine rw_nil ?_; show CW _ _ _ _ _ _) | refine rw_nil ?_
            repeat refine cw_seq ?_
            refine cw_region ?_
            iterate 2 refine rw_v (op_pure rfl) ?_
            refine rw_v (op_idx Try.underlying86 Try.sizeOf4 rfl rfl sa_laid (by omega) (by omega)) ?_
            refine rw_r (op_ldR Try.underlying4 rfl rfl (S.rd (i := 1) rfl) hgb) ?_
            first | refine rw_end ?_ | (refine rw_nil ?_; show CW _ _ _ _ _ _) | refine rw_nil ?_
            repeat refine cw_seq ?_
            refine cw_true rfl ?_
            repeat refine cw_seq ?_
            refine cw_region ?_
            iterate 3 refine rw_v (op_pure rfl) ?_
            refine rw_call rfl (join_E (o k) y (by omega) hil hyl hf (S.row (i := 2) rfl)) ?_
            rintro _ w27_ ⟨rfl, f1, hf1, hr1, hR1, hF1⟩
            have S := S.set (i := 2) (h' := .row 3 1 A_F (gw * gh) c_F (cellsN (gw * gh) f1)) rfl rfl hF1 (fun g h => .inl h) hR1 (fun g h => .inl h)
            first | refine rw_end ?_ | (refine rw_nil ?_; show CW _ _ _ _ _ _) | refine rw_nil ?_
            repeat refine cw_seq ?_
            refine cw_region ?_
            refine rw_v (op_rng rfl (by omega)) ?_
            refine rw_v (op_pure rfl) ?_
            first | refine rw_end ?_ | (refine rw_nil ?_; show CW _ _ _ _ _ _) | refine rw_nil ?_
            refine ⟨m2 - 1, by omega, j + 1, f1, by omega, hf1, ?_, ⟨rfl, rfl, rfl, rfl, rfl, rfl, rfl, rfl, rfl, rfl, rfl, rfl, ie (by omega), trivial⟩, S⟩
            rw [← hox] at hys hr1 hy
            rw [← hV] at hr1
            refine (hJ.join hlt' hx0 hys hr1).weak fun x hx ⟨z, hz, hzx⟩ => ?_
            by_cases e1 : z = j
            · subst e1; rw [hy] at hzx; exact .inr (Option.some.inj hzx).symm
            · exact .inl ⟨z, by omega, hzx⟩
          | false =>
            rw [hby] at hgb
            repeat refine cw_seq ?_
            refine cw_region ?_
            refine rw_v (op_b (b := true) rfl (decide_eq_true (by omega))) ?_
            first | refine rw_end ?_ | (refine rw_nil ?_; show CW _ _ _ _ _ _) | refine rw_nil ?_
            repeat refine cw_seq ?_
            refine cw_true rfl ?_
            repeat refine cw_seq ?_
            refine cw_skip ?_
            try show CW _ _ _ _ _ _
            repeat refine cw_seq ?_
            refine cw_block ?_
            repeat refine cw_seq ?_
            refine cw_region ?_
            refine rw_v (op_idx Try.underlying122 Try.sizeOf3 rfl rfl sa_near (by omega) (by omega)) ?_
            refine rw_r (op_ldR Try.underlying3 rfl rfl (S.rd (i := 0) rfl) (natsV_get hy)) ?_
            refine rw_v (op_pure rfl) ?_
            first | refine rw_end ?_ | (refine rw_nil ?_; show CW _ _ _ _ _ _) | refine rw_nil ?_
            repeat refine cw_seq ?_
            refine cw_region ?_
            iterate 2 refine rw_v (op_pure rfl) ?_
            refine rw_v (op_idx Try.underlying86 Try.sizeOf4 rfl rfl sa_laid (by omega) (by omega)) ?_
            refine rw_r (op_ldR Try.underlying4 rfl rfl (S.rd (i := 1) rfl) hgb) ?_
            first | refine rw_end ?_ | (refine rw_nil ?_; show CW _ _ _ _ _ _) | refine rw_nil ?_
            repeat refine cw_seq ?_
            refine cw_false rfl ?_
            repeat refine cw_seq ?_
            refine cw_skip ?_
            try show CW _ _ _ _ _ _
            repeat refine cw_seq ?_
            refine cw_region ?_
            refine rw_v (op_rng rfl (by omega)) ?_
            refine rw_v (op_pure rfl) ?_
            first | refine rw_end ?_ | (refine rw_nil ?_; show CW _ _ _ _ _ _) | refine rw_nil ?_
            refine ⟨m2 - 1, by omega, j + 1, f, by omega, hf, hJ.weak fun x hx ⟨z, hz, hzx⟩ => ?_, ⟨rfl, rfl, rfl, rfl, rfl, rfl, rfl, rfl, rfl, rfl, rfl, rfl, ie (by omega), trivial⟩, S⟩
            by_cases e1 : z = j
            · subst e1
              rw [hy] at hzx
              have : B2 y = true := (hBk2 y).2 ⟨x, hx, (Option.some.inj hzx).symm⟩
              rw [hby] at this; cases this
            · exact ⟨z, by omega, hzx⟩
        · obtain rfl : j = Nr.length := by omega
          have hJ2 : JN gw V o (k + 1) (rootF f) := (hJ.weak (D' := fun y => Side gw (o k) y) (fun x hx hs => by
            have hm := (hmemN (o x)).2 ⟨by rw [← hV]; exact hlt' x hx, hs⟩
            obtain ⟨z, hz, he⟩ := List.mem_iff_getElem.1 hm
            exact ⟨z, hz, by rw [List.getElem?_eq_getElem hz, he]⟩)).leave
          have S := S.drop 1
          have hga := bitsV_get (n := gw * gh) (f := B2) ha
          have hgb := bitsV_get (n := gw * gh) (f := B2) hb
          cases hba : B2 a with
          | false =>
            rw [hba] at hga
            repeat refine cw_seq ?_
            refine cw_region ?_
            refine rw_v (op_b (b := false) rfl (decide_eq_false (by omega))) ?_
            first | refine rw_end ?_ | (refine rw_nil ?_; show CW _ _ _ _ _ _) | refine rw_nil ?_
            repeat refine cw_seq ?_
            refine cw_false rfl ?_
            repeat refine cw_seq ?_
            refine cw_exit ?_
            repeat first | refine exit_then ?_ | refine exit_inb ?_
            show CW _ _ _ _ _ _
            repeat refine cw_seq ?_
            refine cw_region ?_
            iterate 2 refine rw_v (op_pure rfl) ?_
            refine rw_v (op_idx Try.underlying86 Try.sizeOf4 rfl rfl sa_laid (by omega) (by omega)) ?_
            refine rw_r (op_ldR Try.underlying4 rfl rfl (S.rd (i := 0) rfl) hga) ?_
            refine rw_v (op_pure rfl) ?_
            refine rw_off rfl ?_
            refine rw_off rfl ?_
            refine rw_off rfl ?_
            refine rw_off rfl ?_
            iterate 2 refine rw_v (op_pure rfl) ?_
            refine rw_off rfl ?_
            refine rw_off rfl ?_
            refine rw_off rfl ?_
            refine rw_off rfl ?_
            refine rw_off rfl ?_
            refine rw_off rfl ?_
            refine rw_off rfl ?_
            refine rw_v (op_pure rfl) ?_
            first | refine rw_end ?_ | (refine rw_nil ?_; show CW _ _ _ _ _ _) | refine rw_nil ?_
            repeat refine cw_seq ?_
            refine cw_false rfl ?_
            repeat refine cw_seq ?_
            refine cw_skip ?_
            try show CW _ _ _ _ _ _
            repeat refine cw_seq ?_
            refine cw_region ?_
            refine rw_v (op_rng rfl (by omega)) ?_
            refine rw_v (op_pure rfl) ?_
            first | refine rw_end ?_ | (refine rw_nil ?_; show CW _ _ _ _ _ _) | refine rw_nil ?_
            refine ⟨m - 1, by omega, k + 1, f, B2, by omega, hf, hJ2, hN.step hord (by omega) (by omega) (by omega) hJ2 (fun x y hx hy ex ey => ?_), hBk2, ⟨rfl, rfl, rfl, rfl, rfl, rfl, rfl, rfl, ie (by omega), trivial⟩, S⟩
            have := (hBk2 a).2 ⟨x, hx, ex⟩
            rw [hba] at this; cases this
          | true =>
            rw [hba] at hga
            obtain ⟨xa, hxa, exa⟩ := (hBk2 a).1 hba
            cases hbb : B2 b with
            | false =>
              rw [hbb] at hgb
              repeat refine cw_seq ?_
              refine cw_region ?_
              refine rw_v (op_b (b := false) rfl (decide_eq_false (by omega))) ?_
              first | refine rw_end ?_ | (refine rw_nil ?_; show CW _ _ _ _ _ _) | refine rw_nil ?_
              repeat refine cw_seq ?_
              refine cw_false rfl ?_
              repeat refine cw_seq ?_
              refine cw_exit ?_
              repeat first | refine exit_then ?_ | refine exit_inb ?_
              show CW _ _ _ _ _ _
              repeat refine cw_seq ?_
              refine cw_region ?_
              iterate 2 refine rw_v (op_pure rfl) ?_
              refine rw_v (op_idx Try.underlying86 Try.sizeOf4 rfl rfl sa_laid (by omega) (by omega)) ?_
              refine rw_r (op_ldR Try.underlying4 rfl rfl (S.rd (i := 0) rfl) hga) ?_
              refine rw_v (op_pure rfl) ?_
              first | refine rw_off rfl ?_ | (refine rw_on rfl ?_; refine rw_v (op_pure rfl) ?_)
              first | refine rw_off rfl ?_ | (refine rw_on rfl ?_; refine rw_v (op_pure rfl) ?_)
              first | refine rw_off rfl ?_ | (refine rw_on rfl ?_; refine rw_v (op_idx Try.underlying86 Try.sizeOf4 rfl rfl sa_laid (by omega) (by omega)) ?_)
              first | refine rw_off rfl ?_ | (refine rw_on rfl ?_; refine rw_r (op_ldR Try.underlying4 rfl rfl (S.rd (i := 0) rfl) hgb) ?_)
              iterate 2 refine rw_v (op_pure rfl) ?_
              refine rw_off rfl ?_
              refine rw_off rfl ?_
              refine rw_off rfl ?_
              refine rw_off rfl ?_
              refine rw_off rfl ?_
              refine rw_off rfl ?_
              refine rw_off rfl ?_
              refine rw_v (op_pure rfl) ?_
              first | refine rw_end ?_ | (refine rw_nil ?_; show CW _ _ _ _ _ _) | refine rw_nil ?_
              repeat refine cw_seq ?_
              refine cw_false rfl ?_
              repeat refine cw_seq ?_
              refine cw_skip ?_
              try show CW _ _ _ _ _ _
              repeat refine cw_seq ?_
              refine cw_region ?_
              refine rw_v (op_rng rfl (by omega)) ?_
              refine rw_v (op_pure rfl) ?_
              first | refine rw_end ?_ | (refine rw_nil ?_; show CW _ _ _ _ _ _) | refine rw_nil ?_
              refine ⟨m - 1, by omega, k + 1, f, B2, by omega, hf, hJ2, hN.step hord (by omega) (by omega) (by omega) hJ2 (fun x y hx hy ex ey => ?_), hBk2, ⟨rfl, rfl, rfl, rfl, rfl, rfl, rfl, rfl, ie (by omega), trivial⟩, S⟩
              have := (hBk2 b).2 ⟨y, hy, ey⟩
              rw [hbb] at this; cases this
            | true =>
              rw [hbb] at hgb
              obtain ⟨xb, hxb, exb⟩ := (hBk2 b).1 hbb
              repeat refine cw_seq ?_
              refine cw_region ?_
              refine rw_v (op_b (b := false) rfl (decide_eq_false (by omega))) ?_
              first | refine rw_end ?_ | (refine rw_nil ?_; show CW _ _ _ _ _ _) | refine rw_nil ?_
              repeat refine cw_seq ?_
              refine cw_false rfl ?_
              repeat refine cw_seq ?_
              refine cw_exit ?_
              repeat first | refine exit_then ?_ | refine exit_inb ?_
              show CW _ _ _ _ _ _
              repeat refine cw_seq ?_
              refine cw_region ?_
              iterate 2 refine rw_v (op_pure rfl) ?_
              refine rw_v (op_idx Try.underlying86 Try.sizeOf4 rfl rfl sa_laid (by omega) (by omega)) ?_
              refine rw_r (op_ldR Try.underlying4 rfl rfl (S.rd (i := 0) rfl) hga) ?_
              refine rw_v (op_pure rfl) ?_
              first | refine rw_off rfl ?_ | (refine rw_on rfl ?_; refine rw_v (op_pure rfl) ?_)
              first | refine rw_off rfl ?_ | (refine rw_on rfl ?_; refine rw_v (op_pure rfl) ?_)
              first | refine rw_off rfl ?_ | (refine rw_on rfl ?_; refine rw_v (op_idx Try.underlying86 Try.sizeOf4 rfl rfl sa_laid (by omega) (by omega)) ?_)
              first | refine rw_off rfl ?_ | (refine rw_on rfl ?_; refine rw_r (op_ldR Try.underlying4 rfl rfl (S.rd (i := 0) rfl) hgb) ?_)
              iterate 2 refine rw_v (op_pure rfl) ?_
              first | refine rw_off rfl ?_ | (refine rw_on rfl ?_; refine rw_v (op_pure rfl) ?_)
              first | refine rw_off rfl ?_ | (refine rw_on rfl ?_; refine rw_v (op_pure rfl) ?_)
              refine rw_on rfl ?_
              refine rw_call rfl (root_E a (by omega) ha hf (S.row (i := 1) rfl)) ?_
              rintro _ w28_ ⟨rfl, f1, hf1, hr1, hR1, hF1⟩
              have S := S.set (i := 1) (h' := .row 3 1 A_F (gw * gh) c_F (cellsN (gw * gh) f1)) rfl rfl hF1 (fun g h => .inl h) hR1 (fun g h => .inl h)
              first | refine rw_off rfl ?_ | (refine rw_on rfl ?_; refine rw_v (op_pure rfl) ?_)
              first | refine rw_off rfl ?_ | (refine rw_on rfl ?_; refine rw_v (op_pure rfl) ?_)
              refine rw_on rfl ?_
              refine rw_call rfl (root_E b (by omega) hb hf1 (S.row (i := 1) rfl)) ?_
              rintro _ w29_ ⟨rfl, f2, hf2, hr2, hR2, hF2⟩
              have S := S.set (i := 1) (h' := .row 3 1 A_F (gw * gh) c_F (cellsN (gw * gh) f2)) rfl rfl hF2 (fun g h => .inl h) hR2 (fun g h => .inl h)
              rw [hr1 b hb]
              first | refine rw_off rfl ?_ | (refine rw_on rfl ?_; (first | refine rw_v (op_b (b := true) rfl (beq_iff_eq.2 (by omega))) ?_ | refine rw_v (op_b (b := false) rfl (beq_eq_false_iff_ne.2 (by omega))) ?_ | refine rw_v (op_pure rfl) ?_))
              refine rw_v (op_pure rfl) ?_
              first | refine rw_end ?_ | (refine rw_nil ?_; show CW _ _ _ _ _ _) | refine rw_nil ?_
              repeat refine cw_seq ?_
              refine cw_cond rfl (fun heq => ?_) (fun heq => ?_)
              · try simp only [decide_eq_true_eq, decide_eq_false_iff_not, beq_iff_eq, bne_iff_ne, beq_eq_false_iff_ne, bne_eq_false_iff_eq, Bool.not_eq_true', Bool.not_eq_false', ne_eq, Decidable.not_not, Int.natCast_inj, Int.ofNat_lt, Int.ofNat_le, gt_iff_lt, ge_iff_le, Int.not_lt, Int.not_le] at heq
                have heq' : rootF f a = rootF f b := by omega
                repeat refine cw_seq ?_
                refine cw_region ?_
                refine rw_v (op_fieldAddr Try.underlying118 rfl Try.sizeOf22 rfl rfl) ?_
                refine rw_r (op_loadB Try.underlying22 rfl rfl (S.blk (i := 3) rfl) rfl) ?_
                refine rw_v (op_pure rfl) ?_
                refine rw_v (op_idx Try.underlying22 Try.sizeOf2 rfl rfl sa_vs (by omega) (by omega)) ?_
                refine rw_r (op_ldR Try.underlying2 rfl rfl (S.rd (i := 4) rfl) (hgetv _ hil)) ?_
                iterate 2 refine rw_v (op_pure rfl) ?_
                first | refine rw_end ?_ | (refine rw_nil ?_; show CW _ _ _ _ _ _) | refine rw_nil ?_
                repeat refine cw_seq ?_
                refine cw_ret ?_
                repeat first | refine ret_then ?_ | refine ret_inb ?_
                exact res2 rfl rfl ⟨_, hJ2.joined hN (by omega) (fun x y hxy hy => hdn x y hxy (by omega)) (by omega) (by omega) hxa hxb exa exb heq', ⟨_, hil, rfl⟩, rfl, S.out⟩
              · try simp only [decide_eq_true_eq, decide_eq_false_iff_not, beq_iff_eq, bne_iff_ne, beq_eq_false_iff_ne, bne_eq_false_iff_eq, Bool.not_eq_true', Bool.not_eq_false', ne_eq, Decidable.not_not, Int.natCast_inj, Int.ofNat_lt, Int.ofNat_le, gt_iff_lt, ge_iff_le, Int.not_lt, Int.not_le] at heq
                have hne : rootF f a ≠ rootF f b := fun e => heq (by rw [e])
                have hrr : ∀ j, j < V.length → rootF f2 j = rootF f j := fun j hj => by rw [hr2 j (by omega), hr1 j (by omega)]
                repeat refine cw_seq ?_
                refine cw_skip ?_
                try show CW _ _ _ _ _ _
                repeat refine cw_seq ?_
                refine cw_region ?_
                refine rw_v (op_rng rfl (by omega)) ?_
                refine rw_v (op_pure rfl) ?_
                first | refine rw_end ?_ | (refine rw_nil ?_; show CW _ _ _ _ _ _) | refine rw_nil ?_
                exact ⟨m - 1, by omega, k + 1, f2, B2, by omega, hf2, hJ2.same hlt' hrr, hN.step hord (by omega) (by omega) (by omega) hJ2 (fun _ _ _ _ _ _ => hne), hBk2, ⟨rfl, rfl, rfl, rfl, rfl, rfl, rfl, rfl, ie (by omega), trivial⟩, S⟩
      · exfalso
        obtain rfl : k = V.length := by omega
        exact hN.never (gh := gh) hw.1 (fun i hi => hB i (by omega)) (by omega) (by omega)
end
end Go.Proofs.Ytbcgbcipigcbhaa
