/- fill.Lakes, hachureref45.Lakes, grid.Same; hachurelaw45.FillLakes: the walk. -/
import Derived.Test.YtbcgbcipigcbhaaFillV
import Derived.Test.YtbcgbcipigcbhaaOf29
import Derived.Test.YtbcgbcipigcbhaaGridE
namespace Go.Proofs.Ytbcgbcipigcbhaa
open Go.RowKit
set_option linter.unusedVariables false
set_option linter.unusedSimpArgs false
set_option maxRecDepth 100000

/-- what is under water -/
def wetL (n : Nat) (lv : Nat → Int) (V : List Int) : List Int := (List.range n).map fun i => min (lv i - V.getD i 0) 1
theorem wetL_len (n : Nat) (lv : Nat → Int) (V : List Int) : (wetL n lv V).length = n := by simp [wetL]
def RetLakes (gw : Nat) (U : List Int) (W : World) (v : Value) (w' : World) : Prop := ∃ r, Roots gw U 1 r ∧ RetNew (fun s => .tuple #[s, .int .i64 0]) 108 8 (cntR U 1 r U.length) (partsV (partsAt gw U 1 r U.length)) W v w'
section
variable {W : World} {A : Option Addr} {p gw gh cap : Nat} {cc : Nat → Int} {bs : Nat → Nat} {Rs : Nat → Option Nat}
set_option maxHeartbeats 2000000 in
theorem lakes_E (hB : vB (gridL gw gh cc)) (hG : GridAt W p gw gh cc A cap bs Rs) :
    Fn Try.prog 17 [.pointer (some ⟨p, 0, none⟩)] W (fun v w' => ∃ lv rk, IsLev gw gh (gridL gw gh cc) lv rk ∧ RetLakes gw (wetL (gw * gh) lv (gridL gw gh cc)) W v w') := by
  have hw := hG.sw
  have hh := hG.sh
  have hn : gw * gh ≤ 1024 * 1024 := Nat.mul_le_mul hw.2 hh.2
  have hV := gridL_len gw gh cc
  have S := St.start W
  refine Fn_enter Try.func17 rfl Try.results17 Try.ntmps17 (by kernel_rfl) (by kernel_rfl) ?_
  repeat refine cw_seq ?_
  refine cw_region ?_
  iterate 2 refine rw_v (op_pure rfl) ?_
  first | refine rw_end ?_ | (refine rw_nil ?_; show CW _ _ _ _ _ _) | refine rw_nil ?_
  repeat refine cw_seq ?_
  refine cw_region ?_
  refine rw_v (op_pure rfl) ?_
  refine rw_call rfl (depths_E hB hG) ?_
  rintro _ w1_ ⟨lv, rk, hlev, A_d, c_d, rfl, hRd, hFd, g1_⟩
  have S := S.pushRow hRd hFd g1_
  iterate 5 refine rw_v (op_pure rfl) ?_
  first | refine rw_end ?_ | (refine rw_nil ?_; show CW _ _ _ _ _ _) | refine rw_nil ?_
  repeat refine cw_seq ?_
  refine cw_region ?_
  refine rw_v (op_pure rfl) ?_
  refine rw_v (op_b (b := false) rfl (bne_eq_false_iff_eq.2 (by omega))) ?_
  first | refine rw_end ?_ | (refine rw_nil ?_; show CW _ _ _ _ _ _) | refine rw_nil ?_
  repeat refine cw_seq ?_
  refine cw_false rfl ?_
  repeat refine cw_seq ?_
  refine cw_skip ?_
  try show CW _ _ _ _ _ _
  repeat refine cw_seq ?_
  refine cw_region ?_
  refine rw_v (op_pure rfl) ?_
  refine rw_v (op_len Try.underlying22 rfl) ?_
  refine rw_v (op_pure rfl) ?_
  first | refine rw_end ?_ | (refine rw_nil ?_; show CW _ _ _ _ _ _) | refine rw_nil ?_
  repeat refine cw_seq ?_
  refine cw_block ?_
  repeat refine cw_seq ?_
  generalize gridL gw gh cc = V at *
  refine cw_loop (fun m e w => ∃ k : Nat, k + m = gw * gh ∧ SL e [(0, .pointer (some ⟨p, 0, none⟩)), (4, .slice A_d (gw * gh) c_d), (22, .int .i64 (gw * gh : Nat)), (23, .int .i64 k)] ∧
    St No W w [.row 2 1 A_d (gw * gh) c_d (cellsQ (gw * gh) (fun i => if i < k then min (lv i - V.getD i 0) 1 else lv i - V.getD i 0))]) (gw * gh)
    ⟨0, by omega, ⟨rfl, rfl, rfl, rfl, trivial⟩, by simpa using S⟩ ?_
  clear S
  rintro m e w ⟨k, hk, hsl, S⟩
  rw [hsl.fold]
  repeat refine cw_seq ?_
  refine cw_region ?_
  refine rw_v (op_pure rfl) ?_
  first | refine rw_end ?_ | (refine rw_nil ?_; show CW _ _ _ _ _ _) | refine rw_nil ?_
  repeat refine cw_seq ?_
  refine cw_cond rfl (fun hc => ?_) (fun hc => ?_)
  · try simp only [decide_eq_true_eq, decide_eq_false_iff_not, beq_iff_eq, bne_iff_ne, beq_eq_false_iff_ne, bne_eq_false_iff_eq, Bool.not_eq_true', Bool.not_eq_false', ne_eq, Decidable.not_not, Int.natCast_inj, Int.ofNat_lt, Int.ofNat_le, gt_iff_lt, ge_iff_le, Int.not_lt, Int.not_le] at hc
    have hkn : k < gw * gh := by omega
    have sa_d : SomeA A_d := (S.row (i := 0) rfl).someA (by omega)
    have hdget := cellsQ_get (o := fun i => if i < k then min (lv i - V.getD i 0) 1 else lv i - V.getD i 0) hkn
    simp only [Nat.lt_irrefl, if_false] at hdget
    repeat refine cw_seq ?_
    refine cw_skip ?_
    try show CW _ _ _ _ _ _
    repeat refine cw_seq ?_
    refine cw_block ?_
    repeat refine cw_seq ?_
    refine cw_region ?_
    iterate 2 refine rw_v (op_pure rfl) ?_
    first | refine rw_end ?_ | (refine rw_nil ?_; show CW _ _ _ _ _ _) | refine rw_nil ?_
    repeat refine cw_seq ?_
    refine cw_region ?_
    iterate 4 refine rw_v (op_pure rfl) ?_
    refine rw_v (op_idx Try.underlying22 Try.sizeOf2 rfl rfl sa_d (by omega) (by omega)) ?_
    refine rw_r (op_ldR Try.underlying2 rfl rfl (S.rd (i := 0) rfl) hdget) ?_
    refine rw_v (op_pure rfl) ?_
    refine rw_v (op_idx Try.underlying22 Try.sizeOf2 rfl rfl sa_d (by omega) (by omega)) ?_
    refine rw_storeR (i := 0) S rfl (Try.sizeOf2 _) rfl rfl rfl rfl (by rw [cellsQ_len]; omega) rfl ?_
    intro w2_ S
    first | refine rw_end ?_ | (refine rw_nil ?_; show CW _ _ _ _ _ _) | refine rw_nil ?_
    repeat refine cw_seq ?_
    refine cw_region ?_
    refine rw_v (op_rng rfl (by omega)) ?_
    refine rw_v (op_pure rfl) ?_
    first | refine rw_end ?_ | (refine rw_nil ?_; show CW _ _ _ _ _ _) | refine rw_nil ?_
    rw [cellsQ_set, cellsQ_congr (o' := fun i => if i < k + 1 then min (lv i - V.getD i 0) 1 else lv i - V.getD i 0) (fun i hi => by
      unfold updI
      (try dsimp only)
      by_cases e1 : i = k
      · rw [if_pos e1, if_pos (by omega), e1]
      · by_cases e2 : i < k
        · rw [if_neg e1, if_pos e2, if_pos (by omega)]
        · rw [if_neg e1, if_neg e2, if_neg (by omega)])] at S
    exact ⟨m - 1, by omega, k + 1, by omega, ⟨rfl, rfl, rfl, ie (by omega), trivial⟩, S⟩
  · try simp only [decide_eq_true_eq, decide_eq_false_iff_not, beq_iff_eq, bne_iff_ne, beq_eq_false_iff_ne, bne_eq_false_iff_eq, Bool.not_eq_true', Bool.not_eq_false', ne_eq, Decidable.not_not, Int.natCast_inj, Int.ofNat_lt, Int.ofNat_le, gt_iff_lt, ge_iff_le, Int.not_lt, Int.not_le] at hc
    rw [cellsQ_congr (o' := fun i => min (lv i - V.getD i 0) 1) (fun i hi => by (try dsimp only); rw [if_pos (by omega)])] at S
    have hlr := (S.row (i := 0) rfl).rd
    rw [cellsQ_ints] at hlr
    have hwl := wetL_len (gw * gh) lv V
    have hmay : ∀ v ∈ wetL (gw * gh) lv V, mayB v = true := fun v hv => by
      obtain ⟨i, hi, rfl⟩ := List.mem_map.1 hv
      have := hlev.ge i (List.mem_range.1 hi)
      exact (mayB_iff _).2 (by omega)
    have hGw : gridL gw gh (fun i => (wetL (gw * gh) lv V).getD i 0) = wetL (gw * gh) lv V := gridL_made hwl
    have hfrom := fun w (hR : Rd w A_d (ints (wetL (gw * gh) lv V))) => from_E (V := wetL (gw * gh) lv V) c_d hw hh hwl hmay hR
    rw [hwl] at hfrom
    repeat refine cw_seq ?_
    refine cw_exit ?_
    repeat first | refine exit_then ?_ | refine exit_inb ?_
    show CW _ _ _ _ _ _
    repeat refine cw_seq ?_
    refine cw_region ?_
    refine rw_v (op_pure rfl) ?_
    refine rw_call rfl (gsize_E p gw gh _ w (hG.top.gr S.out)) ?_
    rintro _ w3_ ⟨rfl, g3_⟩
    have S := S.gr g3_
    iterate 5 refine rw_v (op_pure rfl) ?_
    first | refine rw_end ?_ | (refine rw_nil ?_; show CW _ _ _ _ _ _) | refine rw_nil ?_
    repeat refine cw_seq ?_
    refine cw_region ?_
    iterate 3 refine rw_v (op_pure rfl) ?_
    refine rw_call rfl (hfrom w3_ (hlr.gr (by assumption))) ?_
    rintro _ w4_ ⟨p2, B, bc, bs2, Rs2, rfl, hG2, hf2, g4_⟩
    have S := S.pushGrid hG2 hf2 g4_
    iterate 5 refine rw_v (op_pure rfl) ?_
    first | refine rw_end ?_ | (refine rw_nil ?_; show CW _ _ _ _ _ _) | refine rw_nil ?_
    repeat refine cw_seq ?_
    refine cw_region ?_
    refine rw_v (op_pure rfl) ?_
    refine rw_call rfl (regionsOf_E 1 (S.grid (i := 0) rfl)) ?_
    rintro _ w5_ ⟨r, hro, A1, c1, A2, c2, rfl, _, hR2, _, hF2, g5_⟩
    have S := S.pushRow hR2 hF2 g5_
    iterate 7 refine rw_v (op_pure rfl) ?_
    first | refine rw_end ?_ | (refine rw_nil ?_; show CW _ _ _ _ _ _) | refine rw_nil ?_
    repeat refine cw_seq ?_
    refine cw_region ?_
    iterate 4 refine rw_v (op_pure rfl) ?_
    first | refine rw_end ?_ | (refine rw_nil ?_; show CW _ _ _ _ _ _) | refine rw_nil ?_
    repeat refine cw_seq ?_
    refine cw_ret ?_
    repeat first | refine ret_then ?_ | refine ret_inb ?_
    rw [hGw] at hro S
    rw [hGw]
    exact res2 rfl rfl ⟨lv, rk, hlev, r, hro, S.retNew (i := 0) (mk := fun s => .tuple #[s, .int .i64 0]) rfl⟩
set_option maxHeartbeats 2000000 in
theorem rlakes_E {V : List Int} (L : Nat → Int) (rk : Nat → Nat) (r : Nat → Nat) (hgw : 1 ≤ gw ∧ gw ≤ 1024) (hgh : 1 ≤ gh ∧ gh ≤ 1024) (hV : V.length = gw * gh) (hn : gw * gh ≤ 1048576) (hB : vB V) (hL : IsLev gw gh V L rk) (hro : Roots gw (wetL (gw * gh) L V) 1 r) (hA : Rd W A (ints V)) :
    Fn Try.prog 21 [modV gw gh A V.length cap] W (RetNew id 108 8 (cntR (wetL (gw * gh) L V) 1 r (gw * gh)) (partsV (partsAt gw (wetL (gw * gh) L V) 1 r (gw * gh))) W) := by
  have hpos : 1 ≤ gw * gh := Nat.mul_le_mul hgw.1 hgh.1
  have sa_A : SomeA A := hA.someA (by rw [ints_len]; omega)
  have S := St.start W
  refine Fn_enter Try.func21 rfl Try.results21 Try.ntmps21 (by kernel_rfl) (by kernel_rfl) ?_
  repeat refine cw_seq ?_
  refine cw_region ?_
  refine rw_newB (op_box rfl) S ?_
  intro b_md w2_ g2_ S
  refine rw_v (op_pure rfl) ?_
  first | refine rw_end ?_ | (refine rw_nil ?_; show CW _ _ _ _ _ _) | refine rw_nil ?_
  repeat refine cw_seq ?_
  refine cw_region ?_
  refine rw_r (op_loadAB Try.underlying25 rfl (Try.sizeOf25 _) rfl (S.blk (i := 0) rfl) rfl rfl) ?_
  refine rw_call rfl (rlevels_E L rk hgw hgh hV hn hB hL (hA.gr S.out)) ?_
  rintro _ w3_ ⟨A_lv, c_lv, rfl, hRl, hFl, g3_⟩
  have S := S.pushRow hRl hFl g3_
  refine rw_newB (op_alloc Try.zeroValue25 rfl) S ?_
  intro b_lm w5_ g5_ S
  refine rw_storeSA (i := 0) S rfl (Try.sizeOf25 _) rfl rfl rfl rfl rfl rfl ?_
  intro w6_ S
  first | refine rw_end ?_ | (refine rw_nil ?_; show CW _ _ _ _ _ _) | refine rw_nil ?_
  repeat refine cw_seq ?_
  refine cw_region ?_
  refine rw_v (op_fieldAddr Try.underlying25 rfl Try.sizeOf2 rfl rfl) ?_
  refine rw_r (op_loadB Try.underlying2 rfl rfl (S.blk (i := 2) rfl) rfl) ?_
  refine rw_v (op_fieldAddr Try.underlying25 rfl Try.sizeOf2 rfl rfl) ?_
  refine rw_r (op_loadB Try.underlying2 rfl rfl (S.blk (i := 2) rfl) rfl) ?_
  refine rw_v (op_build (pl := [(0, 1), (1, 1), (2, 1)]) Try.underlying25 Try.zeroValue25 (fun w => by kernel_rfl) rfl rfl) ?_
  refine rw_newB (op_alloc Try.zeroValue25 rfl) S ?_
  intro b_om w8_ g8_ S
  refine rw_storeSA (i := 0) S rfl (Try.sizeOf25 _) rfl rfl rfl rfl rfl rfl ?_
  intro w9_ S
  first | refine rw_end ?_ | (refine rw_nil ?_; show CW _ _ _ _ _ _) | refine rw_nil ?_
  repeat refine cw_seq ?_
  refine cw_region ?_
  refine rw_v (op_pure rfl) ?_
  first | refine rw_end ?_ | (refine rw_nil ?_; show CW _ _ _ _ _ _) | refine rw_nil ?_
  repeat refine cw_seq ?_
  refine cw_block ?_
  repeat refine cw_seq ?_
  have S := S.pushNil 2 1
  refine cw_loop (fun m e w => ∃ (k : Nat) (A_o : Option Addr) (c_o : Nat), k + m = gw * gh ∧ SL e [(1, .pointer (some ⟨b_md, 0, none⟩)), (3, .pointer (some ⟨b_lm, 0, none⟩)), (4, .pointer (some ⟨b_om, 0, none⟩)), (5, .int .i64 k)] ∧
    St No W w [.row 2 1 A_o k c_o (cellsQ k (fun i => min (L i - V.getD i 0) 1)), .blk b_om 25 [.int .i64 gw, .int .i64 gh, .slice A_o k c_o], .blk b_lm 25 [.int .i64 gw, .int .i64 gh, .slice A_lv (gw * gh) c_lv], .row 2 1 A_lv (gw * gh) c_lv (cellsQ (gw * gh) L), .blk b_md 25 [.int .i64 gw, .int .i64 gh, .slice A V.length cap]]) (gw * gh)
    ⟨0, none, 0, by omega, ⟨rfl, rfl, rfl, rfl, trivial⟩, S⟩ ?_
  clear S
  rintro m e w ⟨k, A_o, c_o, hk, hsl, S⟩
  rw [hsl.fold]
  repeat refine cw_seq ?_
  refine cw_region ?_
  refine rw_v (op_pure rfl) ?_
  refine rw_v (op_fieldAddr Try.underlying25 rfl Try.sizeOf22 rfl rfl) ?_
  refine rw_r (op_loadB Try.underlying22 rfl rfl (S.blk (i := 4) rfl) rfl) ?_
  refine rw_v (op_len Try.underlying22 rfl) ?_
  refine rw_v (op_pure rfl) ?_
  first | refine rw_end ?_ | (refine rw_nil ?_; show CW _ _ _ _ _ _) | refine rw_nil ?_
  repeat refine cw_seq ?_
  refine cw_cond rfl (fun hc => ?_) (fun hc => ?_)
  · try simp only [decide_eq_true_eq, decide_eq_false_iff_not, beq_iff_eq, bne_iff_ne, beq_eq_false_iff_ne, bne_eq_false_iff_eq, Bool.not_eq_true', Bool.not_eq_false', ne_eq, Decidable.not_not, Int.natCast_inj, Int.ofNat_lt, Int.ofNat_le, gt_iff_lt, ge_iff_le, Int.not_lt, Int.not_le] at hc
    have hkn : k < gw * gh := by omega
    have sa_lv : SomeA A_lv := (S.row (i := 3) rfl).someA (by omega)
    have hvget : (ints V)[(k : Int).toNat * 1]? = some (.int .i64 (V.getD k 0)) := by rw [Nat.mul_one, Int.toNat_natCast]; exact ints_get (getD_at (by omega))
    have hlget := cellsQ_get (o := L) hkn
    have hge := hL.ge k hkn
    have hsucc : ∀ x : Int, x = min (L k - V.getD k 0) 1 → cellsQ k (fun i => min (L i - V.getD i 0) 1) ++ [.int .i64 x] = cellsQ (k + 1) (fun i => min (L i - V.getD i 0) 1) := fun x hx => by
      subst hx
      unfold cellsQ
      rw [List.range_succ, List.map_append]
      rfl
    by_cases hwet : V.getD k 0 < L k
    · skip
      repeat refine cw_seq ?_
      refine cw_skip ?_
      try show CW _ _ _ _ _ _
      repeat refine cw_seq ?_
      refine cw_block ?_
      repeat refine cw_seq ?_
      refine cw_region ?_
      refine rw_v (op_pure rfl) ?_
      first | refine rw_end ?_ | (refine rw_nil ?_; show CW _ _ _ _ _ _) | refine rw_nil ?_
      repeat refine cw_seq ?_
      refine cw_draw (C := fun wq => Gr w wq) [0, 1, 2, 3, 4, 5, 6, 7, 8, 9, 10] [] (by kernel_rfl) (by kernel_rfl) (Gr.drew _) ?_
      simp only [pickL, List.drop_succ_cons, List.drop_zero]
      refine rq_v (op_fieldAddr Try.underlying25 rfl Try.sizeOf22 rfl rfl) ?_
      refine rq_r (fun wq hq => op_loadB Try.underlying22 rfl rfl ((S.gr hq).blk (i := 2) rfl) rfl) ?_
      refine rq_v (op_pure rfl) ?_
      refine rq_v (op_idx Try.underlying22 Try.sizeOf2 rfl rfl sa_lv (by omega) (by omega)) ?_
      refine rq_r (fun wq hq => op_ldR Try.underlying2 rfl rfl ((S.gr hq).rd (i := 3) rfl) hlget) ?_
      refine rq_v (op_fieldAddr Try.underlying25 rfl Try.sizeOf22 rfl rfl) ?_
      refine rq_r (fun wq hq => op_loadB Try.underlying22 rfl rfl ((S.gr hq).blk (i := 4) rfl) rfl) ?_
      refine rq_v (op_pure rfl) ?_
      refine rq_v (op_idx Try.underlying22 Try.sizeOf2 rfl rfl sa_A (by omega) (by omega)) ?_
      refine rq_r (fun wq hq => op_ldR Try.underlying2 rfl rfl (hA.gr (S.gr hq).out) hvget) ?_
      first | refine rq_v (op_b (b := true) rfl (decide_eq_true (by omega))) ?_ | refine rq_v (op_b (b := false) rfl (decide_eq_false (by omega))) ?_ | refine rq_v (op_pure rfl) ?_
      refine rq_nil ?_
      intro w10_ g10_
      have S := S.gr g10_
      first | refine rw_end ?_ | (refine rw_nil ?_; show CW _ _ _ _ _ _) | refine rw_nil ?_
      repeat refine cw_seq ?_
      refine cw_true rfl ?_
      repeat refine cw_seq ?_
      refine cw_region ?_
      refine rw_v (op_pure rfl) ?_
      first | refine rw_end ?_ | (refine rw_nil ?_; show CW _ _ _ _ _ _) | refine rw_nil ?_
      repeat refine cw_seq ?_
      refine cw_region ?_
      refine rw_v (op_fieldAddr Try.underlying25 rfl Try.sizeOf22 rfl rfl) ?_
      refine rw_r (op_loadB Try.underlying22 rfl rfl (S.blk (i := 1) rfl) rfl) ?_
      refine rw_v (op_pure rfl) ?_
      refine rw_buildS Try.underlying22 Try.sizeOf2 Try.zeroValue2 rfl rfl rfl rfl rfl rfl S ?_
      intro A_lit w12_ g12_ S sa_lit
      refine rw_appS (i := 1) S rfl (fun h => rfl) Try.underlying22 info_t2 rfl rfl rfl rfl (by simp) (by omega) (S.rd (i := 0) rfl) rfl (by omega) ?_
      intro A_o2 c_o2 w13_ S sa_o
      refine rw_v (op_fieldAddr Try.underlying25 rfl Try.sizeOf22 rfl rfl) ?_
      refine rw_storeS (i := 2) S rfl (Try.sizeOf22 _) rfl rfl rfl rfl rfl rfl ?_
      intro w14_ S
      first | refine rw_end ?_ | (refine rw_nil ?_; show CW _ _ _ _ _ _) | refine rw_nil ?_
      repeat refine cw_seq ?_
      refine cw_region ?_
      refine rw_v (op_pure rfl) ?_
      refine rw_v (op_rng rfl (by omega)) ?_
      refine rw_v (op_pure rfl) ?_
      first | refine rw_end ?_ | (refine rw_nil ?_; show CW _ _ _ _ _ _) | refine rw_nil ?_
      have S := S.drop 1
      rw [hsucc 1 (by omega)] at S
      exact ⟨m - 1, by omega, k + 1, A_o2, c_o2, by omega, ⟨rfl, rfl, rfl, ie (by omega), trivial⟩, S⟩
    · skip
      repeat refine cw_seq ?_
      refine cw_skip ?_
      try show CW _ _ _ _ _ _
      repeat refine cw_seq ?_
      refine cw_block ?_
      repeat refine cw_seq ?_
      refine cw_region ?_
      refine rw_v (op_pure rfl) ?_
      first | refine rw_end ?_ | (refine rw_nil ?_; show CW _ _ _ _ _ _) | refine rw_nil ?_
      repeat refine cw_seq ?_
      refine cw_draw (C := fun wq => Gr w wq) [0, 1, 2, 3, 4, 5, 6, 7, 8, 9, 10] [] (by kernel_rfl) (by kernel_rfl) (Gr.drew _) ?_
      simp only [pickL, List.drop_succ_cons, List.drop_zero]
      refine rq_v (op_fieldAddr Try.underlying25 rfl Try.sizeOf22 rfl rfl) ?_
      refine rq_r (fun wq hq => op_loadB Try.underlying22 rfl rfl ((S.gr hq).blk (i := 2) rfl) rfl) ?_
      refine rq_v (op_pure rfl) ?_
      refine rq_v (op_idx Try.underlying22 Try.sizeOf2 rfl rfl sa_lv (by omega) (by omega)) ?_
      refine rq_r (fun wq hq => op_ldR Try.underlying2 rfl rfl ((S.gr hq).rd (i := 3) rfl) hlget) ?_
      refine rq_v (op_fieldAddr Try.underlying25 rfl Try.sizeOf22 rfl rfl) ?_
      refine rq_r (fun wq hq => op_loadB Try.underlying22 rfl rfl ((S.gr hq).blk (i := 4) rfl) rfl) ?_
      refine rq_v (op_pure rfl) ?_
      refine rq_v (op_idx Try.underlying22 Try.sizeOf2 rfl rfl sa_A (by omega) (by omega)) ?_
      refine rq_r (fun wq hq => op_ldR Try.underlying2 rfl rfl (hA.gr (S.gr hq).out) hvget) ?_
      first | refine rq_v (op_b (b := true) rfl (decide_eq_true (by omega))) ?_ | refine rq_v (op_b (b := false) rfl (decide_eq_false (by omega))) ?_ | refine rq_v (op_pure rfl) ?_
      refine rq_nil ?_
      intro w15_ g15_
      have S := S.gr g15_
      first | refine rw_end ?_ | (refine rw_nil ?_; show CW _ _ _ _ _ _) | refine rw_nil ?_
      repeat refine cw_seq ?_
      refine cw_false rfl ?_
      repeat refine cw_seq ?_
      refine cw_skip ?_
      try show CW _ _ _ _ _ _
      repeat refine cw_seq ?_
      refine cw_region ?_
      refine rw_v (op_fieldAddr Try.underlying25 rfl Try.sizeOf22 rfl rfl) ?_
      refine rw_r (op_loadB Try.underlying22 rfl rfl (S.blk (i := 1) rfl) rfl) ?_
      refine rw_v (op_pure rfl) ?_
      refine rw_buildS Try.underlying22 Try.sizeOf2 Try.zeroValue2 rfl rfl rfl rfl rfl rfl S ?_
      intro A_lit w17_ g17_ S sa_lit
      refine rw_appS (i := 1) S rfl (fun h => rfl) Try.underlying22 info_t2 rfl rfl rfl rfl (by simp) (by omega) (S.rd (i := 0) rfl) rfl (by omega) ?_
      intro A_o2 c_o2 w18_ S sa_o
      refine rw_v (op_fieldAddr Try.underlying25 rfl Try.sizeOf22 rfl rfl) ?_
      refine rw_storeS (i := 2) S rfl (Try.sizeOf22 _) rfl rfl rfl rfl rfl rfl ?_
      intro w19_ S
      first | refine rw_end ?_ | (refine rw_nil ?_; show CW _ _ _ _ _ _) | refine rw_nil ?_
      repeat refine cw_seq ?_
      refine cw_region ?_
      refine rw_v (op_pure rfl) ?_
      refine rw_v (op_rng rfl (by omega)) ?_
      refine rw_v (op_pure rfl) ?_
      first | refine rw_end ?_ | (refine rw_nil ?_; show CW _ _ _ _ _ _) | refine rw_nil ?_
      have S := S.drop 1
      rw [hsucc 0 (by omega)] at S
      exact ⟨m - 1, by omega, k + 1, A_o2, c_o2, by omega, ⟨rfl, rfl, rfl, ie (by omega), trivial⟩, S⟩
  · try simp only [decide_eq_true_eq, decide_eq_false_iff_not, beq_iff_eq, bne_iff_ne, beq_eq_false_iff_ne, bne_eq_false_iff_eq, Bool.not_eq_true', Bool.not_eq_false', ne_eq, Decidable.not_not, Int.natCast_inj, Int.ofNat_lt, Int.ofNat_le, gt_iff_lt, ge_iff_le, Int.not_lt, Int.not_le] at hc
    obtain rfl : k = gw * gh := by omega
    have hwl := wetL_len (gw * gh) L V
    have hRo := (S.row (i := 0) rfl).rd
    rw [cellsQ_ints] at hRo
    have hof := fun w (hR : Rd w A_o (ints (wetL (gw * gh) L V))) => of29_E (cap := c_o) 1 hgw hgh hwl hro hR
    rw [hwl] at hof
    repeat refine cw_seq ?_
    refine cw_exit ?_
    repeat first | refine exit_then ?_ | refine exit_inb ?_
    show CW _ _ _ _ _ _
    repeat refine cw_seq ?_
    refine cw_region ?_
    refine rw_r (op_loadAB Try.underlying25 rfl (Try.sizeOf25 _) rfl (S.blk (i := 1) rfl) rfl rfl) ?_
    refine rw_call rfl (hof w hRo) ?_
    rintro _ w20_ ⟨A1, c1, A2, c2, rfl, _, hR2, _, hF2, g20_⟩
    rw [hwl] at hR2
    have S := S.pushRow hR2 hF2 g20_
    rw [hwl]
    iterate 5 refine rw_v (op_pure rfl) ?_
    first | refine rw_end ?_ | (refine rw_nil ?_; show CW _ _ _ _ _ _) | refine rw_nil ?_
    repeat refine cw_seq ?_
    refine cw_region ?_
    iterate 2 refine rw_v (op_pure rfl) ?_
    first | refine rw_end ?_ | (refine rw_nil ?_; show CW _ _ _ _ _ _) | refine rw_nil ?_
    repeat refine cw_seq ?_
    refine cw_ret ?_
    repeat first | refine ret_then ?_ | refine ret_inb ?_
    exact res1 rfl (S.retNew (i := 0) (mk := id) rfl)
end
/-! ### grid.Same -/
section
variable {W : World}
theorem scells_E (b : Nat) (R : Option Nat) (sw sh : Nat) (c : Nat → Int) (hw : 1 ≤ sw ∧ sw ≤ 16) (hh : 1 ≤ sh ∧ sh ≤ 16) (W : World) (hS : SlabIs W b R sw sh c) :
    Fn Try.prog 67 [.pointer (some ⟨b, 0, none⟩)] W (RetNew id 2 1 (sw * sh) (cellsQ (sw * sh) c) W) := by
  have hsz : sw * sh ≤ 16 * 16 := Nat.mul_le_mul hw.2 hh.2
  have hpos : 1 ≤ sw * sh := Nat.mul_le_mul hw.1 hh.1
  have hmi : (sw : Int) * sh = ((sw * sh : Nat) : Int) := by push_cast; rfl
  have hsucc : ∀ k, k < sw * sh → cellsQ (sw * sh) (updI (fun i => if i < k then c i else 0) k (c k)) = cellsQ (sw * sh) (fun i => if i < k + 1 then c i else 0) := fun k hk => cellsQ_congr fun i hi => by
    unfold updI
    (try dsimp only)
    by_cases e1 : i = k
    · rw [if_pos e1, if_pos (by omega), e1]
    · by_cases e2 : i < k
      · rw [if_neg e1, if_pos e2, if_pos (by omega)]
      · rw [if_neg e1, if_neg e2, if_neg (by omega)]
  obtain ⟨hr, hS⟩ := hS
  cases R with
  | none =>
    obtain ⟨v, hB, hv, hc⟩ := hS
    have S := St.start W
    refine Fn_enter Try.func67 rfl Try.results67 Try.ntmps67 (by kernel_rfl) (by kernel_rfl) ?_
    repeat refine cw_seq ?_
    refine cw_region ?_
    refine rw_v (op_pure rfl) ?_
    first | refine rw_end ?_ | (refine rw_nil ?_; show CW _ _ _ _ _ _) | refine rw_nil ?_
    repeat refine cw_seq ?_
    refine cw_region ?_
    refine rw_v (op_pure rfl) ?_
    refine rw_v (op_nilp Try.underlying114 rfl rfl) ?_
    first | refine rw_end ?_ | (refine rw_nil ?_; show CW _ _ _ _ _ _) | refine rw_nil ?_
    repeat refine cw_seq ?_
    refine cw_false rfl ?_
    repeat refine cw_seq ?_
    refine cw_skip ?_
    try show CW _ _ _ _ _ _
    repeat refine cw_seq ?_
    refine cw_draw (C := fun wq => Gr W wq) [0, 1, 2, 3, 4, 5, 6, 7] [8, 9, 10] (by kernel_rfl) (by kernel_rfl) (Gr.drew _) ?_
    simp only [pickL, List.drop_succ_cons, List.drop_zero]
    iterate 2 refine rq_v (op_pure rfl) ?_
    refine rq_v (op_fieldAddr Try.underlying196 rfl Try.sizeOf2 rfl rfl) ?_
    refine rq_r (fun wq hq => op_loadB Try.underlying2 rfl rfl (hB.gr (S.gr hq).out) rfl) ?_
    iterate 2 refine rq_v (op_pure rfl) ?_
    refine rq_v (op_fieldAddr Try.underlying196 rfl Try.sizeOf2 rfl rfl) ?_
    refine rq_r (fun wq hq => op_loadB Try.underlying2 rfl rfl (hB.gr (S.gr hq).out) rfl) ?_
    refine rq_nil ?_
    intro w1_ g1_
    have S := S.gr g1_
    refine rw_v (op_rng rfl (by omega)) ?_
    rw [hmi]
    refine rw_makeS1 Try.underlying22 info_t2 rfl rfl rfl (n := sw * sh) (c := sw * sh) (by omega) (by omega) (by omega) (by omega) S ?_
    intro A_out w3_ g3_ S sa_out
    refine rw_v (op_pure rfl) ?_
    first | refine rw_end ?_ | (refine rw_nil ?_; show CW _ _ _ _ _ _) | refine rw_nil ?_
    repeat refine cw_seq ?_
    refine cw_region ?_
    refine rw_v (op_pure rfl) ?_
    refine rw_v (op_len Try.underlying22 rfl) ?_
    refine rw_v (op_pure rfl) ?_
    first | refine rw_end ?_ | (refine rw_nil ?_; show CW _ _ _ _ _ _) | refine rw_nil ?_
    repeat refine cw_seq ?_
    refine cw_block ?_
    repeat refine cw_seq ?_
    rw [cellsQ_zero] at S
    refine cw_loop (fun m e w => ∃ k : Nat, k + m = sw * sh ∧ SL e [(0, .pointer (some ⟨b, 0, none⟩)), (3, .slice A_out (sw * sh) (sw * sh)), (18, .int .i64 (sw * sh : Nat)), (19, .int .i64 k)] ∧
      St No W w [.row 2 1 A_out (sw * sh) (sw * sh) (cellsQ (sw * sh) (fun i => if i < k then c i else 0))]) (sw * sh)
      ⟨0, by omega, ⟨rfl, rfl, rfl, rfl, trivial⟩, by simpa using S⟩ ?_
    clear S
    rintro m e w ⟨k, hk, hsl, S⟩
    rw [hsl.fold]
    repeat refine cw_seq ?_
    refine cw_region ?_
    refine rw_v (op_pure rfl) ?_
    first | refine rw_end ?_ | (refine rw_nil ?_; show CW _ _ _ _ _ _) | refine rw_nil ?_
    repeat refine cw_seq ?_
    refine cw_cond rfl (fun hcl => ?_) (fun hcl => ?_)
    · try simp only [decide_eq_true_eq, decide_eq_false_iff_not, beq_iff_eq, bne_iff_ne, beq_eq_false_iff_ne, bne_eq_false_iff_eq, Bool.not_eq_true', Bool.not_eq_false', ne_eq, Decidable.not_not, Int.natCast_inj, Int.ofNat_lt, Int.ofNat_le, gt_iff_lt, ge_iff_le, Int.not_lt, Int.not_le] at hcl
      have hkn : k < sw * sh := by omega
      repeat refine cw_seq ?_
      refine cw_skip ?_
      try show CW _ _ _ _ _ _
      repeat refine cw_seq ?_
      refine cw_block ?_
      repeat refine cw_seq ?_
      refine cw_region ?_
      iterate 2 refine rw_v (op_pure rfl) ?_
      first | refine rw_end ?_ | (refine rw_nil ?_; show CW _ _ _ _ _ _) | refine rw_nil ?_
      repeat refine cw_seq ?_
      refine cw_region ?_
      iterate 4 refine rw_v (op_pure rfl) ?_
      refine rw_v (op_fieldAddr Try.underlying196 rfl Try.sizeOf194 rfl rfl) ?_
      refine rw_r (op_loadB Try.underlying194 rfl rfl (hB.gr S.out) rfl) ?_
      refine rw_v (op_pure rfl) ?_
      refine rw_invoke rfl (meth_flat _ _) rfl (flatAt_E v k hv w) ?_
      rintro _ w4_ ⟨rfl, g4_⟩
      have S := S.gr g4_
      refine rw_v (op_idx Try.underlying22 Try.sizeOf2 rfl rfl sa_out (by omega) (by omega)) ?_
      refine rw_storeR (i := 0) S rfl (Try.sizeOf2 _) rfl rfl rfl rfl (by rw [cellsQ_len]; omega) rfl ?_
      intro w5_ S
      first | refine rw_end ?_ | (refine rw_nil ?_; show CW _ _ _ _ _ _) | refine rw_nil ?_
      repeat refine cw_seq ?_
      refine cw_region ?_
      refine rw_v (op_rng rfl (by omega)) ?_
      refine rw_v (op_pure rfl) ?_
      first | refine rw_end ?_ | (refine rw_nil ?_; show CW _ _ _ _ _ _) | refine rw_nil ?_
      rw [cellsQ_set, ← hc k hkn, hsucc k hkn] at S
      exact ⟨m - 1, by omega, k + 1, by omega, ⟨rfl, rfl, rfl, ie (by omega), trivial⟩, S⟩
    · try simp only [decide_eq_true_eq, decide_eq_false_iff_not, beq_iff_eq, bne_iff_ne, beq_eq_false_iff_ne, bne_eq_false_iff_eq, Bool.not_eq_true', Bool.not_eq_false', ne_eq, Decidable.not_not, Int.natCast_inj, Int.ofNat_lt, Int.ofNat_le, gt_iff_lt, ge_iff_le, Int.not_lt, Int.not_le] at hcl
      rw [cellsQ_congr (o' := c) (fun i hi => by (try dsimp only); rw [if_pos (by omega)])] at S
      repeat refine cw_seq ?_
      refine cw_exit ?_
      repeat first | refine exit_then ?_ | refine exit_inb ?_
      show CW _ _ _ _ _ _
      repeat refine cw_seq ?_
      refine cw_region ?_
      iterate 2 refine rw_v (op_pure rfl) ?_
      first | refine rw_end ?_ | (refine rw_nil ?_; show CW _ _ _ _ _ _) | refine rw_nil ?_
      repeat refine cw_seq ?_
      refine cw_ret ?_
      repeat first | refine ret_then ?_ | refine ret_inb ?_
      exact res1 rfl (S.retNew (i := 0) (mk := id) rfl)
  | some g =>
    obtain ⟨cap, hB, hL⟩ := hS
    have S := St.start W
    refine Fn_enter Try.func67 rfl Try.results67 Try.ntmps67 (by kernel_rfl) (by kernel_rfl) ?_
    repeat refine cw_seq ?_
    refine cw_region ?_
    refine rw_v (op_pure rfl) ?_
    first | refine rw_end ?_ | (refine rw_nil ?_; show CW _ _ _ _ _ _) | refine rw_nil ?_
    repeat refine cw_seq ?_
    refine cw_region ?_
    refine rw_v (op_pure rfl) ?_
    refine rw_v (op_nilp Try.underlying114 rfl rfl) ?_
    first | refine rw_end ?_ | (refine rw_nil ?_; show CW _ _ _ _ _ _) | refine rw_nil ?_
    repeat refine cw_seq ?_
    refine cw_false rfl ?_
    repeat refine cw_seq ?_
    refine cw_skip ?_
    try show CW _ _ _ _ _ _
    repeat refine cw_seq ?_
    refine cw_draw (C := fun wq => Gr W wq) [0, 1, 2, 3, 4, 5, 6, 7] [8, 9, 10] (by kernel_rfl) (by kernel_rfl) (Gr.drew _) ?_
    simp only [pickL, List.drop_succ_cons, List.drop_zero]
    iterate 2 refine rq_v (op_pure rfl) ?_
    refine rq_v (op_fieldAddr Try.underlying196 rfl Try.sizeOf2 rfl rfl) ?_
    refine rq_r (fun wq hq => op_loadB Try.underlying2 rfl rfl (hB.gr (S.gr hq).out) rfl) ?_
    iterate 2 refine rq_v (op_pure rfl) ?_
    refine rq_v (op_fieldAddr Try.underlying196 rfl Try.sizeOf2 rfl rfl) ?_
    refine rq_r (fun wq hq => op_loadB Try.underlying2 rfl rfl (hB.gr (S.gr hq).out) rfl) ?_
    refine rq_nil ?_
    intro w1_ g1_
    have S := S.gr g1_
    refine rw_v (op_rng rfl (by omega)) ?_
    rw [hmi]
    refine rw_makeS1 Try.underlying22 info_t2 rfl rfl rfl (n := sw * sh) (c := sw * sh) (by omega) (by omega) (by omega) (by omega) S ?_
    intro A_out w3_ g3_ S sa_out
    refine rw_v (op_pure rfl) ?_
    first | refine rw_end ?_ | (refine rw_nil ?_; show CW _ _ _ _ _ _) | refine rw_nil ?_
    repeat refine cw_seq ?_
    refine cw_region ?_
    refine rw_v (op_pure rfl) ?_
    refine rw_v (op_len Try.underlying22 rfl) ?_
    refine rw_v (op_pure rfl) ?_
    first | refine rw_end ?_ | (refine rw_nil ?_; show CW _ _ _ _ _ _) | refine rw_nil ?_
    repeat refine cw_seq ?_
    refine cw_block ?_
    repeat refine cw_seq ?_
    rw [cellsQ_zero] at S
    refine cw_loop (fun m e w => ∃ k : Nat, k + m = sw * sh ∧ SL e [(0, .pointer (some ⟨b, 0, none⟩)), (3, .slice A_out (sw * sh) (sw * sh)), (18, .int .i64 (sw * sh : Nat)), (19, .int .i64 k)] ∧
      St No W w [.row 2 1 A_out (sw * sh) (sw * sh) (cellsQ (sw * sh) (fun i => if i < k then c i else 0))]) (sw * sh)
      ⟨0, by omega, ⟨rfl, rfl, rfl, rfl, trivial⟩, by simpa using S⟩ ?_
    clear S
    rintro m e w ⟨k, hk, hsl, S⟩
    rw [hsl.fold]
    repeat refine cw_seq ?_
    refine cw_region ?_
    refine rw_v (op_pure rfl) ?_
    first | refine rw_end ?_ | (refine rw_nil ?_; show CW _ _ _ _ _ _) | refine rw_nil ?_
    repeat refine cw_seq ?_
    refine cw_cond rfl (fun hcl => ?_) (fun hcl => ?_)
    · try simp only [decide_eq_true_eq, decide_eq_false_iff_not, beq_iff_eq, bne_iff_ne, beq_eq_false_iff_ne, bne_eq_false_iff_eq, Bool.not_eq_true', Bool.not_eq_false', ne_eq, Decidable.not_not, Int.natCast_inj, Int.ofNat_lt, Int.ofNat_le, gt_iff_lt, ge_iff_le, Int.not_lt, Int.not_le] at hcl
      have hkn : k < sw * sh := by omega
      have hck := cellsI_get (c := c) hkn
      repeat refine cw_seq ?_
      refine cw_skip ?_
      try show CW _ _ _ _ _ _
      repeat refine cw_seq ?_
      refine cw_block ?_
      repeat refine cw_seq ?_
      refine cw_region ?_
      iterate 2 refine rw_v (op_pure rfl) ?_
      first | refine rw_end ?_ | (refine rw_nil ?_; show CW _ _ _ _ _ _) | refine rw_nil ?_
      repeat refine cw_seq ?_
      refine cw_region ?_
      iterate 4 refine rw_v (op_pure rfl) ?_
      refine rw_v (op_fieldAddr Try.underlying196 rfl Try.sizeOf194 rfl rfl) ?_
      refine rw_r (op_loadB Try.underlying194 rfl rfl (hB.gr S.out) rfl) ?_
      refine rw_v (op_pure rfl) ?_
      refine rw_invoke rfl (meth_rough _ _) rfl (roughAt_E (some ⟨g, 0, none⟩) (sw * sh) cap k (c k) (cellsI (sw * sh) c) (hr k hkn) w (hL.rd.gr S.out) ⟨_, _, rfl⟩ (by omega) (by omega) (by rw [Int.toNat_natCast]; exact hck)) ?_
      rintro _ w4_ ⟨rfl, g4_⟩
      have S := S.gr g4_
      refine rw_v (op_idx Try.underlying22 Try.sizeOf2 rfl rfl sa_out (by omega) (by omega)) ?_
      refine rw_storeR (i := 0) S rfl (Try.sizeOf2 _) rfl rfl rfl rfl (by rw [cellsQ_len]; omega) rfl ?_
      intro w5_ S
      first | refine rw_end ?_ | (refine rw_nil ?_; show CW _ _ _ _ _ _) | refine rw_nil ?_
      repeat refine cw_seq ?_
      refine cw_region ?_
      refine rw_v (op_rng rfl (by omega)) ?_
      refine rw_v (op_pure rfl) ?_
      first | refine rw_end ?_ | (refine rw_nil ?_; show CW _ _ _ _ _ _) | refine rw_nil ?_
      rw [cellsQ_set, hsucc k hkn] at S
      exact ⟨m - 1, by omega, k + 1, by omega, ⟨rfl, rfl, rfl, ie (by omega), trivial⟩, S⟩
    · try simp only [decide_eq_true_eq, decide_eq_false_iff_not, beq_iff_eq, bne_iff_ne, beq_eq_false_iff_ne, bne_eq_false_iff_eq, Bool.not_eq_true', Bool.not_eq_false', ne_eq, Decidable.not_not, Int.natCast_inj, Int.ofNat_lt, Int.ofNat_le, gt_iff_lt, ge_iff_le, Int.not_lt, Int.not_le] at hcl
      rw [cellsQ_congr (o' := c) (fun i hi => by (try dsimp only); rw [if_pos (by omega)])] at S
      repeat refine cw_seq ?_
      refine cw_exit ?_
      repeat first | refine exit_then ?_ | refine exit_inb ?_
      show CW _ _ _ _ _ _
      repeat refine cw_seq ?_
      refine cw_region ?_
      iterate 2 refine rw_v (op_pure rfl) ?_
      first | refine rw_end ?_ | (refine rw_nil ?_; show CW _ _ _ _ _ _) | refine rw_nil ?_
      repeat refine cw_seq ?_
      refine cw_ret ?_
      repeat first | refine ret_then ?_ | refine ret_inb ?_
      exact res1 rfl (S.retNew (i := 0) (mk := id) rfl)
theorem sequal_E (n : Nat) (f : Nat → Int) (A B : Option Addr) (c d : Nat) (hn : n ≤ 1048576) (W : World) (hA : Rd W A (cellsQ n f)) (hB : Rd W B (cellsQ n f)) : Fn Try.prog 66 [.slice A n c, .slice B n d] W (RetG (.bool true) W) := by
  have S := St.start W
  refine Fn_enter Try.func66 rfl Try.results66 Try.ntmps66 (by kernel_rfl) (by kernel_rfl) ?_
  repeat refine cw_seq ?_
  refine cw_region ?_
  refine rw_v (op_pure rfl) ?_
  first | refine rw_end ?_ | (refine rw_nil ?_; show CW _ _ _ _ _ _) | refine rw_nil ?_
  repeat refine cw_seq ?_
  refine cw_region ?_
  refine rw_v (op_pure rfl) ?_
  refine rw_v (op_len Try.underlying22 rfl) ?_
  refine rw_v (op_pure rfl) ?_
  refine rw_v (op_len Try.underlying22 rfl) ?_
  refine rw_v (op_b (b := false) rfl (bne_eq_false_iff_eq.2 (by omega))) ?_
  first | refine rw_end ?_ | (refine rw_nil ?_; show CW _ _ _ _ _ _) | refine rw_nil ?_
  repeat refine cw_seq ?_
  refine cw_false rfl ?_
  repeat refine cw_seq ?_
  refine cw_skip ?_
  try show CW _ _ _ _ _ _
  repeat refine cw_seq ?_
  refine cw_region ?_
  refine rw_v (op_pure rfl) ?_
  refine rw_v (op_len Try.underlying22 rfl) ?_
  refine rw_v (op_pure rfl) ?_
  first | refine rw_end ?_ | (refine rw_nil ?_; show CW _ _ _ _ _ _) | refine rw_nil ?_
  repeat refine cw_seq ?_
  refine cw_block ?_
  repeat refine cw_seq ?_
  refine cw_loop (fun m e w => ∃ k : Nat, k + m = n ∧ SL e [(0, .slice A n c), (1, .slice B n d), (12, .int .i64 n), (13, .int .i64 k)] ∧ St No W w []) n
    ⟨0, by omega, ⟨rfl, rfl, rfl, rfl, trivial⟩, S⟩ ?_
  rintro m e w ⟨k, hk, hsl, S⟩
  rw [hsl.fold]
  repeat refine cw_seq ?_
  refine cw_region ?_
  refine rw_v (op_pure rfl) ?_
  first | refine rw_end ?_ | (refine rw_nil ?_; show CW _ _ _ _ _ _) | refine rw_nil ?_
  repeat refine cw_seq ?_
  refine cw_cond rfl (fun hk1 => ?_) (fun hk1 => ?_)
  · try simp only [decide_eq_true_eq, decide_eq_false_iff_not, beq_iff_eq, bne_iff_ne, beq_eq_false_iff_ne, bne_eq_false_iff_eq, Bool.not_eq_true', Bool.not_eq_false', ne_eq, Decidable.not_not, Int.natCast_inj, Int.ofNat_lt, Int.ofNat_le, gt_iff_lt, ge_iff_le, Int.not_lt, Int.not_le] at hk1
    have hk1 : k < n := by omega
    have sa_A : SomeA A := hA.someA (by rw [cellsQ_len]; omega)
    have sa_B : SomeA B := hB.someA (by rw [cellsQ_len]; omega)
    have hx := cellsQ_get (o := f) hk1
    repeat refine cw_seq ?_
    refine cw_skip ?_
    try show CW _ _ _ _ _ _
    repeat refine cw_seq ?_
    refine cw_block ?_
    repeat refine cw_seq ?_
    refine cw_region ?_
    iterate 2 refine rw_v (op_pure rfl) ?_
    first | refine rw_end ?_ | (refine rw_nil ?_; show CW _ _ _ _ _ _) | refine rw_nil ?_
    repeat refine cw_seq ?_
    refine cw_draw (C := fun wq => Gr w wq) [0, 1, 2, 3, 4, 5, 6, 7, 8] [] (by kernel_rfl) (by kernel_rfl) (Gr.drew _) ?_
    simp only [pickL, List.drop_succ_cons, List.drop_zero]
    iterate 2 refine rq_v (op_pure rfl) ?_
    refine rq_v (op_idx Try.underlying22 Try.sizeOf2 rfl rfl sa_A (by omega) (by omega)) ?_
    refine rq_r (fun wq hq => op_ldR Try.underlying2 rfl rfl (hA.gr (S.gr hq).out) hx) ?_
    iterate 2 refine rq_v (op_pure rfl) ?_
    refine rq_v (op_idx Try.underlying22 Try.sizeOf2 rfl rfl sa_B (by omega) (by omega)) ?_
    refine rq_r (fun wq hq => op_ldR Try.underlying2 rfl rfl (hB.gr (S.gr hq).out) hx) ?_
    first | refine rq_v (op_b (b := true) rfl (bne_iff_ne.2 (by omega))) ?_ | refine rq_v (op_b (b := false) rfl (bne_eq_false_iff_eq.2 (by omega))) ?_ | refine rq_v (op_pure rfl) ?_
    refine rq_nil ?_
    intro w1_ g1_
    have S := S.gr g1_
    first | refine rw_end ?_ | (refine rw_nil ?_; show CW _ _ _ _ _ _) | refine rw_nil ?_
    repeat refine cw_seq ?_
    refine cw_false rfl ?_
    repeat refine cw_seq ?_
    refine cw_skip ?_
    try show CW _ _ _ _ _ _
    repeat refine cw_seq ?_
    refine cw_region ?_
    refine rw_v (op_rng rfl (by omega)) ?_
    refine rw_v (op_pure rfl) ?_
    first | refine rw_end ?_ | (refine rw_nil ?_; show CW _ _ _ _ _ _) | refine rw_nil ?_
    exact ⟨m - 1, by omega, k + 1, by omega, ⟨rfl, rfl, rfl, ie (by omega), trivial⟩, S⟩
  · try simp only [decide_eq_true_eq, decide_eq_false_iff_not, beq_iff_eq, bne_iff_ne, beq_eq_false_iff_ne, bne_eq_false_iff_eq, Bool.not_eq_true', Bool.not_eq_false', ne_eq, Decidable.not_not, Int.natCast_inj, Int.ofNat_lt, Int.ofNat_le, gt_iff_lt, ge_iff_le, Int.not_lt, Int.not_le] at hk1
    repeat refine cw_seq ?_
    refine cw_exit ?_
    repeat first | refine exit_then ?_ | refine exit_inb ?_
    show CW _ _ _ _ _ _
    repeat refine cw_seq ?_
    refine cw_region ?_
    refine rw_v (op_pure rfl) ?_
    first | refine rw_end ?_ | (refine rw_nil ?_; show CW _ _ _ _ _ _) | refine rw_nil ?_
    repeat refine cw_seq ?_
    refine cw_ret ?_
    repeat first | refine ret_then ?_ | refine ret_inb ?_
    exact res1 rfl ⟨rfl, S.out⟩
theorem same1_E (b b2 : Nat) (R R2 : Option Nat) (sw sh : Nat) (c : Nat → Int) (hw : 1 ≤ sw ∧ sw ≤ 16) (hh : 1 ≤ sh ∧ sh ≤ 16) (W : World) (hS : SlabIs W b R sw sh c) (hS2 : SlabIs W b2 R2 sw sh c) :
    Fn Try.prog 65 [.pointer (some ⟨b, 0, none⟩), .pointer (some ⟨b2, 0, none⟩)] W (RetG (.bool true) W) := by
  have hsz : sw * sh ≤ 16 * 16 := Nat.mul_le_mul hw.2 hh.2
  have S := St.start W
  refine Fn_enter Try.func65 rfl Try.results65 Try.ntmps65 (by kernel_rfl) (by kernel_rfl) ?_
  repeat refine cw_seq ?_
  refine cw_region ?_
  refine rw_v (op_pure rfl) ?_
  first | refine rw_end ?_ | (refine rw_nil ?_; show CW _ _ _ _ _ _) | refine rw_nil ?_
  repeat refine cw_seq ?_
  refine cw_region ?_
  refine rw_v (op_pure rfl) ?_
  refine rw_call rfl (scells_E b R sw sh c hw hh W (hS.gr S.out)) ?_
  rintro _ w1_ ⟨A_x, c_x, rfl, hR_x, hf_x, g1_⟩
  have S := S.pushRow hR_x hf_x g1_
  refine rw_v (op_pure rfl) ?_
  refine rw_call rfl (scells_E b2 R2 sw sh c hw hh w1_ (hS2.gr S.out)) ?_
  rintro _ w2_ ⟨A_y, c_y, rfl, hR_y, hf_y, g2_⟩
  have S := S.pushRow hR_y hf_y g2_
  refine rw_call rfl (sequal_E (sw * sh) c _ _ _ _ (by omega) w2_ (S.rd (i := 1) rfl) (S.rd (i := 0) rfl)) ?_
  rintro _ w3_ ⟨rfl, g3_⟩
  have S := S.gr g3_
  refine rw_v (op_pure rfl) ?_
  first | refine rw_end ?_ | (refine rw_nil ?_; show CW _ _ _ _ _ _) | refine rw_nil ?_
  repeat refine cw_seq ?_
  refine cw_ret ?_
  repeat first | refine ret_then ?_ | refine ret_inb ?_
  exact res1 rfl ⟨rfl, S.out⟩
theorem equalFunc_E (n fid : Nat) (bs bs2 : Nat → Nat) (A B : Option Addr) (c d : Nat) (hn : n ≤ 1048576) (W : World) (hA : Rd W A (ptrs n bs)) (hB : Rd W B (ptrs n bs2))
    (hf : ∀ t, t < n → ∀ w', Gr W w' → Fn Try.prog fid (([] : List Value) ++ [.pointer (some ⟨bs t, 0, none⟩), .pointer (some ⟨bs2 t, 0, none⟩)] ++ ([] : List Value)) w' (RetG (.bool true) w')) :
    Fn Try.prog 64 [.slice A n c, .slice B n d, .func (.func fid) (([] : List Value).toArray) (([] : List Value).toArray)] W (RetG (.bool true) W) := by
  have S := St.start W
  refine Fn_enter Try.func64 rfl Try.results64 Try.ntmps64 (by kernel_rfl) (by kernel_rfl) ?_
  repeat refine cw_seq ?_
  refine cw_region ?_
  refine rw_v (op_pure rfl) ?_
  first | refine rw_end ?_ | (refine rw_nil ?_; show CW _ _ _ _ _ _) | refine rw_nil ?_
  repeat refine cw_seq ?_
  refine cw_region ?_
  refine rw_v (op_pure rfl) ?_
  refine rw_v (op_len Try.underlying110 rfl) ?_
  refine rw_v (op_pure rfl) ?_
  refine rw_v (op_len Try.underlying110 rfl) ?_
  refine rw_v (op_b (b := false) rfl (bne_eq_false_iff_eq.2 (by omega))) ?_
  first | refine rw_end ?_ | (refine rw_nil ?_; show CW _ _ _ _ _ _) | refine rw_nil ?_
  repeat refine cw_seq ?_
  refine cw_false rfl ?_
  repeat refine cw_seq ?_
  refine cw_skip ?_
  try show CW _ _ _ _ _ _
  repeat refine cw_seq ?_
  refine cw_region ?_
  refine rw_v (op_pure rfl) ?_
  refine rw_v (op_len Try.underlying110 rfl) ?_
  refine rw_v (op_pure rfl) ?_
  first | refine rw_end ?_ | (refine rw_nil ?_; show CW _ _ _ _ _ _) | refine rw_nil ?_
  repeat refine cw_seq ?_
  refine cw_block ?_
  repeat refine cw_seq ?_
  refine cw_loop (fun m e w => ∃ k : Nat, k + m = n ∧ SL e [(0, .slice A n c), (1, .slice B n d), (2, .func (.func fid) (([] : List Value).toArray) (([] : List Value).toArray)), (15, .slice A n c), (16, .int .i64 n), (17, .int .i64 k)] ∧ St No W w []) n
    ⟨0, by omega, ⟨rfl, rfl, rfl, rfl, rfl, rfl, trivial⟩, S⟩ ?_
  rintro m e w ⟨k, hk, hsl, S⟩
  rw [hsl.fold]
  repeat refine cw_seq ?_
  refine cw_region ?_
  refine rw_v (op_pure rfl) ?_
  first | refine rw_end ?_ | (refine rw_nil ?_; show CW _ _ _ _ _ _) | refine rw_nil ?_
  repeat refine cw_seq ?_
  refine cw_cond rfl (fun hk1 => ?_) (fun hk1 => ?_)
  · try simp only [decide_eq_true_eq, decide_eq_false_iff_not, beq_iff_eq, bne_iff_ne, beq_eq_false_iff_ne, bne_eq_false_iff_eq, Bool.not_eq_true', Bool.not_eq_false', ne_eq, Decidable.not_not, Int.natCast_inj, Int.ofNat_lt, Int.ofNat_le, gt_iff_lt, ge_iff_le, Int.not_lt, Int.not_le] at hk1
    have hk1 : k < n := by omega
    have hx : (ptrs n bs)[(k : Int).toNat * 1]? = some (.pointer (some ⟨bs k, 0, none⟩)) := by rw [Nat.mul_one, Int.toNat_natCast]; exact ptrs_get hk1
    have hy : (ptrs n bs2)[(k : Int).toNat * 1]? = some (.pointer (some ⟨bs2 k, 0, none⟩)) := by rw [Nat.mul_one, Int.toNat_natCast]; exact ptrs_get hk1
    have hlenp : 0 < (ptrs n bs).length ∧ 0 < (ptrs n bs2).length := ⟨by have := (List.getElem?_eq_some_iff.1 hx).1; omega, by have := (List.getElem?_eq_some_iff.1 hy).1; omega⟩
    have sa_A : SomeA A := hA.someA hlenp.1
    have sa_B : SomeA B := hB.someA hlenp.2
    repeat refine cw_seq ?_
    refine cw_skip ?_
    try show CW _ _ _ _ _ _
    repeat refine cw_seq ?_
    refine cw_block ?_
    repeat refine cw_seq ?_
    refine cw_region ?_
    refine rw_v (op_pure rfl) ?_
    refine rw_v (op_idx Try.underlying110 Try.sizeOf114 rfl rfl sa_A (by omega) (by omega)) ?_
    refine rw_r (op_ldR Try.underlying114 rfl rfl (hA.gr S.out) hx) ?_
    iterate 2 refine rw_v (op_pure rfl) ?_
    first | refine rw_end ?_ | (refine rw_nil ?_; show CW _ _ _ _ _ _) | refine rw_nil ?_
    repeat refine cw_seq ?_
    refine cw_region ?_
    iterate 2 refine rw_v (op_pure rfl) ?_
    refine rw_v (op_idx Try.underlying110 Try.sizeOf114 rfl rfl sa_B (by omega) (by omega)) ?_
    refine rw_r (op_ldR Try.underlying114 rfl rfl (hB.gr S.out) hy) ?_
    refine rw_v (op_pure rfl) ?_
    first | refine rw_end ?_ | (refine rw_nil ?_; show CW _ _ _ _ _ _) | refine rw_nil ?_
    repeat refine cw_seq ?_
    refine cw_region ?_
    iterate 3 refine rw_v (op_pure rfl) ?_
    refine rw_callv rfl rfl (hf k hk1 _ S.out) ?_
    rintro _ w1_ ⟨rfl, g1_⟩
    have S := S.gr g1_
    refine rw_v (op_pure rfl) ?_
    first | refine rw_end ?_ | (refine rw_nil ?_; show CW _ _ _ _ _ _) | refine rw_nil ?_
    repeat refine cw_seq ?_
    refine cw_false rfl ?_
    repeat refine cw_seq ?_
    refine cw_skip ?_
    try show CW _ _ _ _ _ _
    repeat refine cw_seq ?_
    refine cw_region ?_
    refine rw_v (op_rng rfl (by omega)) ?_
    refine rw_v (op_pure rfl) ?_
    first | refine rw_end ?_ | (refine rw_nil ?_; show CW _ _ _ _ _ _) | refine rw_nil ?_
    exact ⟨m - 1, by omega, k + 1, by omega, ⟨rfl, rfl, rfl, rfl, rfl, ie (by omega), trivial⟩, S⟩
  · try simp only [decide_eq_true_eq, decide_eq_false_iff_not, beq_iff_eq, bne_iff_ne, beq_eq_false_iff_ne, bne_eq_false_iff_eq, Bool.not_eq_true', Bool.not_eq_false', ne_eq, Decidable.not_not, Int.natCast_inj, Int.ofNat_lt, Int.ofNat_le, gt_iff_lt, ge_iff_le, Int.not_lt, Int.not_le] at hk1
    repeat refine cw_seq ?_
    refine cw_exit ?_
    repeat first | refine exit_then ?_ | refine exit_inb ?_
    show CW _ _ _ _ _ _
    repeat refine cw_seq ?_
    refine cw_region ?_
    refine rw_v (op_pure rfl) ?_
    first | refine rw_end ?_ | (refine rw_nil ?_; show CW _ _ _ _ _ _) | refine rw_nil ?_
    repeat refine cw_seq ?_
    refine cw_ret ?_
    repeat first | refine ret_then ?_ | refine ret_inb ?_
    exact res1 rfl ⟨rfl, S.out⟩
theorem gsame_E {p p2 gw gh cap cap2 : Nat} {A A2 : Option Addr} {cc : Nat → Int} {bs bs2 : Nat → Nat} {Rs Rs2 : Nat → Option Nat} (hG : GridAt W p gw gh cc A cap bs Rs) (hG2 : GridAt W p2 gw gh cc A2 cap2 bs2 Rs2) :
    Fn Try.prog 22 [.pointer (some ⟨p, 0, none⟩), .pointer (some ⟨p2, 0, none⟩)] W (RetG (.bool true) W) := by
  have hN : acr gw * acr gh ≤ 1048576 := by
    have h1 := hG.sw
    have h2 := hG.sh
    have : acr gw * acr gh ≤ 1024 * 1024 := Nat.mul_le_mul (by unfold acr; omega) (by unfold acr; omega)
    omega
  have hf : ∀ w, Gr W w → ∀ t, t < acr gw * acr gh → ∀ w', Gr w w' → Fn Try.prog 65 (([] : List Value) ++ [.pointer (some ⟨bs t, 0, none⟩), .pointer (some ⟨bs2 t, 0, none⟩)] ++ ([] : List Value)) w' (RetG (.bool true) w') := fun w g t ht w' g' => by
    have hpos : 0 < acr gw := by have h1 := hG.sw; unfold acr; omega
    exact same1_E _ _ _ _ _ _ _ (tsz_pos (Nat.mod_lt _ hpos)) (tsz_pos (Nat.div_lt_of_lt_mul ht)) w' ((hG.slab t ht).gr (g.trans g')) ((hG2.slab t ht).gr (g.trans g'))
  have S := St.start W
  refine Fn_enter Try.func22 rfl Try.results22 Try.ntmps22 (by kernel_rfl) (by kernel_rfl) ?_
  repeat refine cw_seq ?_
  refine cw_region ?_
  refine rw_v (op_pure rfl) ?_
  first | refine rw_end ?_ | (refine rw_nil ?_; show CW _ _ _ _ _ _) | refine rw_nil ?_
  repeat refine cw_seq ?_
  refine cw_region ?_
  refine rw_v (op_pure rfl) ?_
  refine rw_v (op_nilp Try.underlying28 rfl rfl) ?_
  refine rw_v (op_pure rfl) ?_
  first | refine rw_off rfl ?_ | (refine rw_on rfl ?_; refine rw_v (op_pure rfl) ?_)
  first | refine rw_off rfl ?_ | (refine rw_on rfl ?_; refine rw_v (op_nilp Try.underlying28 rfl rfl) ?_)
  refine rw_v (op_pure rfl) ?_
  first | refine rw_end ?_ | (refine rw_nil ?_; show CW _ _ _ _ _ _) | refine rw_nil ?_
  repeat refine cw_seq ?_
  refine cw_false rfl ?_
  repeat refine cw_seq ?_
  refine cw_skip ?_
  try show CW _ _ _ _ _ _
  repeat refine cw_seq ?_
  refine cw_draw (C := fun wq => Gr W wq) [0, 1, 2, 3, 4, 5, 6, 7, 8, 9, 10, 11, 12, 13, 14, 15, 16, 17, 18, 19, 20, 21, 22, 23, 24, 25, 26, 27, 28, 29, 30, 31] [] (by kernel_rfl) (by kernel_rfl) (Gr.drew _) ?_
  simp only [pickL, List.drop_succ_cons, List.drop_zero]
  iterate 2 refine rq_v (op_pure rfl) ?_
  refine rq_v (op_fieldAddr Try.underlying112 rfl Try.sizeOf2 rfl rfl) ?_
  refine rq_r (fun wq hq => op_loadB Try.underlying2 rfl rfl (hG.top.gr (S.gr hq).out) rfl) ?_
  iterate 2 refine rq_v (op_pure rfl) ?_
  refine rq_v (op_fieldAddr Try.underlying112 rfl Try.sizeOf2 rfl rfl) ?_
  refine rq_r (fun wq hq => op_loadB Try.underlying2 rfl rfl (hG2.top.gr (S.gr hq).out) rfl) ?_
  first | refine rq_v (op_b (b := true) rfl (beq_iff_eq.2 (by omega))) ?_ | refine rq_v (op_b (b := false) rfl (beq_eq_false_iff_ne.2 (by omega))) ?_ | refine rq_v (op_pure rfl) ?_
  refine rq_v (op_pure rfl) ?_
  first | refine rq_off rfl ?_ | (refine rq_on rfl ?_; refine rq_v (op_pure rfl) ?_)
  first | refine rq_off rfl ?_ | (refine rq_on rfl ?_; refine rq_v (op_pure rfl) ?_)
  first | refine rq_off rfl ?_ | (refine rq_on rfl ?_; refine rq_v (op_fieldAddr Try.underlying112 rfl Try.sizeOf2 rfl rfl) ?_)
  first | refine rq_off rfl ?_ | (refine rq_on rfl ?_; refine rq_r (fun wq hq => op_loadB Try.underlying2 rfl rfl (hG.top.gr (S.gr hq).out) rfl) ?_)
  first | refine rq_off rfl ?_ | (refine rq_on rfl ?_; refine rq_v (op_pure rfl) ?_)
  first | refine rq_off rfl ?_ | (refine rq_on rfl ?_; refine rq_v (op_pure rfl) ?_)
  first | refine rq_off rfl ?_ | (refine rq_on rfl ?_; refine rq_v (op_fieldAddr Try.underlying112 rfl Try.sizeOf2 rfl rfl) ?_)
  first | refine rq_off rfl ?_ | (refine rq_on rfl ?_; refine rq_r (fun wq hq => op_loadB Try.underlying2 rfl rfl (hG2.top.gr (S.gr hq).out) rfl) ?_)
  first | refine rq_off rfl ?_ | (refine rq_on rfl ?_; (first | refine rq_v (op_b (b := true) rfl (beq_iff_eq.2 (by omega))) ?_ | refine rq_v (op_b (b := false) rfl (beq_eq_false_iff_ne.2 (by omega))) ?_ | refine rq_v (op_pure rfl) ?_))
  iterate 2 refine rq_v (op_pure rfl) ?_
  first | refine rq_off rfl ?_ | (refine rq_on rfl ?_; refine rq_v (op_pure rfl) ?_)
  first | refine rq_off rfl ?_ | (refine rq_on rfl ?_; refine rq_v (op_pure rfl) ?_)
  first | refine rq_off rfl ?_ | (refine rq_on rfl ?_; refine rq_v (op_fieldAddr Try.underlying112 rfl Try.sizeOf110 rfl rfl) ?_)
  first | refine rq_off rfl ?_ | (refine rq_on rfl ?_; refine rq_r (fun wq hq => op_loadB Try.underlying110 rfl rfl (hG.top.gr (S.gr hq).out) rfl) ?_)
  first | refine rq_off rfl ?_ | (refine rq_on rfl ?_; refine rq_v (op_pure rfl) ?_)
  first | refine rq_off rfl ?_ | (refine rq_on rfl ?_; refine rq_v (op_pure rfl) ?_)
  first | refine rq_off rfl ?_ | (refine rq_on rfl ?_; refine rq_v (op_fieldAddr Try.underlying112 rfl Try.sizeOf110 rfl rfl) ?_)
  first | refine rq_off rfl ?_ | (refine rq_on rfl ?_; refine rq_r (fun wq hq => op_loadB Try.underlying110 rfl rfl (hG2.top.gr (S.gr hq).out) rfl) ?_)
  refine rq_on rfl ?_
  refine rq_call rfl (fun wq hq => (equalFunc_E (acr gw * acr gh) _ bs bs2 _ _ _ _ hN wq (hG.row.rd.gr (S.gr hq).out) (hG2.row.rd.gr (S.gr hq).out) (hf wq (S.gr hq).out)).mono (fun _ _ ⟨hv, hg⟩ => ⟨hv, hq.trans hg⟩)) ?_
  iterate 2 refine rq_v (op_pure rfl) ?_
  refine rq_nil ?_
  intro w1_ g1_
  have S := S.gr g1_
  first | refine rw_end ?_ | (refine rw_nil ?_; show CW _ _ _ _ _ _) | refine rw_nil ?_
  repeat refine cw_seq ?_
  refine cw_ret ?_
  repeat first | refine ret_then ?_ | refine ret_inb ?_
  exact res1 rfl ⟨rfl, S.out⟩
end
/-! ### The law -/
theorem sumF_none : ∀ k : Nat, sumF k (fun _ => 0) = 0
  | 0 => rfl
  | k + 1 => by simp only [sumF]; rw [sumF_none k]; rfl
theorem dry_none {n gw : Nat} {lv : Nat → Int} {U : List Int} {r : Nat → Nat} (h : ∀ i, i < n → lv i = U.getD i 0) : cntR (wetL n lv U) 1 r n = 0 := by
  unfold cntR rootsL
  rw [List.filter_eq_nil_iff.2 (fun i hi => ?_)]
  · rfl
  · have hi := List.mem_range.1 hi
    have e : (wetL n lv U).getD i 0 = min (lv i - U.getD i 0) 1 := levL_getD (f := fun i => min (lv i - U.getD i 0) 1) hi
    have := h i hi
    unfold isRoot
    simp only [Bool.and_eq_true, decide_eq_true_eq, e]
    omega
section
variable {W : World} {A : Option Addr} {V : List Int}
set_option maxHeartbeats 8000000 in
theorem fillLakes_E (w h : Int) (cap : Nat) (hl : V.length ≤ 9223372036854775807) (hA : Rd W A (ints V)) :
    Fn Try.prog 3 [.int .i64 w, .int .i64 h, .slice A V.length cap] W (RetG (.bool true) W) := by
  by_cases hok : LandOk w h V 400
  · obtain ⟨gw, rfl⟩ := Int.eq_ofNat_of_zero_le (show 0 ≤ w by have := hok.w1; omega)
    obtain ⟨gh, rfl⟩ := Int.eq_ofNat_of_zero_le (show 0 ≤ h by have := hok.h1; omega)
    have hw : 1 ≤ gw ∧ gw ≤ 1024 := by have := hok.w1; have := hok.wm; omega
    have hh : 1 ≤ gh ∧ gh ≤ 1024 := by have := hok.h1; have := hok.hm; omega
    have hmi : (gw : Int) * gh = ((gw * gh : Nat) : Int) := by push_cast; rfl
    have hVg : V.length = gw * gh := by have := hok.len; rw [hmi] at this; omega
    have hm : gw * gh ≤ 400 := by have := hok.area; rw [hmi] at this; omega
    have hmay := hok.may
    have hB := vB_of_may hmay
    have hGl := gridL_made hVg
    have hBg : vB (gridL gw gh (fun i => V.getD i 0)) := by rw [hGl]; exact hB
    have hpos : 1 ≤ gw * gh := Nat.mul_le_mul hw.1 hh.1
    have sa_A : SomeA A := hA.someA (by rw [ints_len]; omega)
    have hGU : ∀ f : Nat → Int, gridL gw gh (fun i => ((List.range (gw * gh)).map f).getD i 0) = (List.range (gw * gh)).map f := fun f => gridL_made (by simp)
    have S := St.start W
    refine Fn_enter Try.func3 rfl Try.results3 Try.ntmps3 (by kernel_rfl) (by kernel_rfl) ?_
    repeat refine cw_seq ?_
    refine cw_region ?_
    refine rw_v (op_pure rfl) ?_
    first | refine rw_end ?_ | (refine rw_nil ?_; show CW _ _ _ _ _ _) | refine rw_nil ?_
    repeat refine cw_seq ?_
    refine cw_region ?_
    refine rw_call rfl (awake45_E W) ?_
    rintro _ w1_ ⟨rfl, g1_⟩
    have S := S.gr g1_
    refine rw_v (op_pure rfl) ?_
    first | refine rw_end ?_ | (refine rw_nil ?_; show CW _ _ _ _ _ _) | refine rw_nil ?_
    repeat refine cw_seq ?_
    refine cw_false rfl ?_
    repeat refine cw_seq ?_
    refine cw_skip ?_
    try show CW _ _ _ _ _ _
    repeat refine cw_seq ?_
    refine cw_region ?_
    iterate 3 refine rw_v (op_pure rfl) ?_
    refine rw_call rfl (land_E gw gh 400 cap (by omega) hok (hA.gr S.out)) ?_
    rintro _ w2_ ⟨rfl, g2_⟩
    have S := S.gr g2_
    iterate 3 refine rw_v (op_pure rfl) ?_
    refine rw_newB (op_alloc Try.zeroValue25 rfl) S ?_
    intro b_md w4_ g4_ S
    refine rw_storeSA (i := 0) S rfl (Try.sizeOf25 _) rfl rfl rfl rfl rfl rfl ?_
    intro w5_ S
    refine rw_v (op_pure rfl) ?_
    first | refine rw_end ?_ | (refine rw_nil ?_; show CW _ _ _ _ _ _) | refine rw_nil ?_
    repeat refine cw_seq ?_
    refine cw_region ?_
    iterate 2 refine rw_v (op_pure rfl) ?_
    first | refine rw_end ?_ | (refine rw_nil ?_; show CW _ _ _ _ _ _) | refine rw_nil ?_
    repeat refine cw_seq ?_
    refine cw_false rfl ?_
    repeat refine cw_seq ?_
    refine cw_skip ?_
    try show CW _ _ _ _ _ _
    repeat refine cw_seq ?_
    refine cw_region ?_
    iterate 3 refine rw_v (op_pure rfl) ?_
    refine rw_call rfl (made_E gw gh cap hw hh hVg hmay (hA.gr S.out)) ?_
    rintro _ w6_ ⟨p, B, bc, bs, Rs, rfl, hG, hf, g6_⟩
    have S := S.pushGrid hG hf g6_
    iterate 5 refine rw_v (op_pure rfl) ?_
    first | refine rw_end ?_ | (refine rw_nil ?_; show CW _ _ _ _ _ _) | refine rw_nil ?_
    repeat refine cw_seq ?_
    refine cw_region ?_
    iterate 2 refine rw_v (op_pure rfl) ?_
    first | refine rw_end ?_ | (refine rw_nil ?_; show CW _ _ _ _ _ _) | refine rw_nil ?_
    repeat refine cw_seq ?_
    refine cw_false rfl ?_
    repeat refine cw_seq ?_
    refine cw_skip ?_
    try show CW _ _ _ _ _ _
    repeat refine cw_seq ?_
    refine cw_region ?_
    refine rw_v (op_pure rfl) ?_
    refine rw_call rfl (lakes_E hBg (S.grid (i := 0) rfl)) ?_
    rintro _ w7_ ⟨lv, rk, hlev, r, hro, A_p, c_p, rfl, hRp, hFp, g7_⟩
    rw [hGl] at hlev hro hRp
    rw [wetL_len] at hRp
    rw [hGl, wetL_len]
    have S := S.pushRow hRp hFp g7_
    iterate 5 refine rw_v (op_pure rfl) ?_
    first | refine rw_end ?_ | (refine rw_nil ?_; show CW _ _ _ _ _ _) | refine rw_nil ?_
    repeat refine cw_seq ?_
    refine cw_region ?_
    refine rw_v (op_pure rfl) ?_
    refine rw_call rfl (levels_E hBg (S.grid (i := 1) rfl)) ?_
    rintro _ w8_ ⟨lv2, rk2, hlev2, p2, B2, bc2, bs2, Rs2, rfl, hG2, hf2, g8_⟩
    have S := S.pushGrid hG2 hf2 g8_
    rw [hGl] at hlev2
    iterate 5 refine rw_v (op_pure rfl) ?_
    first | refine rw_end ?_ | (refine rw_nil ?_; show CW _ _ _ _ _ _) | refine rw_nil ?_
    have hBg2 : vB (gridL gw gh (fun i => ((List.range (gw * gh)).map lv2).getD i 0)) := by
      rw [hGU]
      refine vB_small fun i hi => ?_
      rw [List.length_map, List.length_range] at hi
      rw [levL_getD hi]
      exact hlev2.may hB hi
    have hag : ∀ (lv' : Nat → Int) (rk' : Nat → Nat), IsLev gw gh ((List.range (gw * gh)).map lv2) lv' rk' → ∀ i, i < gw * gh → lv' i = lv2 i := fun lv' rk' h' => hlev2.again (fun i hi => levL_getD hi) h'
    repeat refine cw_seq ?_
    refine cw_region ?_
    refine rw_v (op_pure rfl) ?_
    refine rw_call rfl (lakes_E hBg2 (S.grid (i := 0) rfl)) ?_
    rintro _ w9_ ⟨lv3, rk3, hlev3, r3, hro3, A_q, c_q, rfl, hRq, hFq, g9_⟩
    rw [hGU] at hlev3 hRq
    rw [wetL_len] at hRq
    rw [hGU, wetL_len]
    have S := S.pushRow hRq hFq g9_
    iterate 5 refine rw_v (op_pure rfl) ?_
    first | refine rw_end ?_ | (refine rw_nil ?_; show CW _ _ _ _ _ _) | refine rw_nil ?_
    repeat refine cw_seq ?_
    refine cw_region ?_
    refine rw_v (op_pure rfl) ?_
    refine rw_call rfl (levels_E hBg2 (S.grid (i := 1) rfl)) ?_
    rintro _ w10_ ⟨lv4, rk4, hlev4, p4, B4, bc4, bs4, Rs4, rfl, hG4, hf4, g10_⟩
    rw [hGU] at hlev4
    have hG4 := hG4.congr (c' := fun i => ((List.range (gw * gh)).map lv2).getD i 0) (fun i hi => by (try dsimp only); rw [levL_getD hi, levL_getD hi]; exact hag _ _ hlev4 i hi)
    have S := S.pushGrid hG4 hf4 g10_
    iterate 5 refine rw_v (op_pure rfl) ?_
    first | refine rw_end ?_ | (refine rw_nil ?_; show CW _ _ _ _ _ _) | refine rw_nil ?_
    repeat refine cw_seq ?_
    refine cw_region ?_
    refine rw_v (op_pure rfl) ?_
    refine rw_call rfl (volume_E hBg2 (S.grid (i := 2) rfl)) ?_
    rintro _ w11_ ⟨lv5, rk5, hlev5, rfl, g11_⟩
    have S := S.gr g11_
    rw [hGU] at hlev5
    iterate 5 refine rw_v (op_pure rfl) ?_
    first | refine rw_end ?_ | (refine rw_nil ?_; show CW _ _ _ _ _ _) | refine rw_nil ?_
    have hsum : sumF (gw * gh) (fun i => lv5 i - (gridL gw gh (fun i => ((List.range (gw * gh)).map lv2).getD i 0)).getD i 0) = 0 := by
      rw [hGU, sumF_congr (g := fun _ => 0) (fun i hi => by (try dsimp only); rw [levL_getD hi, hag _ _ hlev5 i hi]; omega)]
      exact sumF_none _
    rw [hsum]
    have hq0 : cntR (wetL (gw * gh) lv3 ((List.range (gw * gh)).map lv2)) 1 r3 (gw * gh) = 0 := dry_none (gw := gw) (fun i hi => by rw [levL_getD hi]; exact hag _ _ hlev3 i hi)
    rw [hq0]
    have hpl : (partsAt gw (wetL (gw * gh) lv V) 1 r (gw * gh)).length = cntR (wetL (gw * gh) lv V) 1 r (gw * gh) := by unfold partsAt cntR; rw [List.length_map]
    have hsp : ∀ (A1 A2 : Option Addr) (c1 c2 : Nat) (w : World), Rd w A1 (partsV (partsAt gw (wetL (gw * gh) lv V) 1 r (gw * gh))) → Rd w A2 (partsV (partsAt gw (wetL (gw * gh) lv V) 1 r (gw * gh))) → Fn Try.prog 20 [.slice A1 (cntR (wetL (gw * gh) lv V) 1 r (gw * gh)) c1, .slice A2 (cntR (wetL (gw * gh) lv V) 1 r (gw * gh)) c2] w (RetG (.bool true) w) := fun A1 A2 c1 c2 w h1 h2 => by
      have hcl := cntR_le (wetL (gw * gh) lv V) 1 r (gw * gh)
      have := sameParts_E A1 A2 c1 c2 (partsAt gw (wetL (gw * gh) lv V) 1 r (gw * gh)) (by rw [hpl]; omega) w h1 h2
      rw [hpl] at this
      exact this
    repeat refine cw_seq ?_
    refine cw_region ?_
    refine rw_v (op_pure rfl) ?_
    first | refine rw_v (op_b (b := true) rfl (beq_iff_eq.2 (by omega))) ?_ | refine rw_v (op_b (b := false) rfl (beq_eq_false_iff_ne.2 (by omega))) ?_ | refine rw_v (op_pure rfl) ?_
    refine rw_v (op_pure rfl) ?_
    first | refine rw_off rfl ?_ | (refine rw_on rfl ?_; refine rw_v (op_pure rfl) ?_)
    first | refine rw_off rfl ?_ | (refine rw_on rfl ?_; (first | refine rw_v (op_b (b := true) rfl (beq_iff_eq.2 (by omega))) ?_ | refine rw_v (op_b (b := false) rfl (beq_eq_false_iff_ne.2 (by omega))) ?_ | refine rw_v (op_pure rfl) ?_))
    iterate 2 refine rw_v (op_pure rfl) ?_
    first | refine rw_off rfl ?_ | (refine rw_on rfl ?_; refine rw_v (op_pure rfl) ?_)
    first | refine rw_off rfl ?_ | (refine rw_on rfl ?_; (first | refine rw_v (op_b (b := true) rfl (beq_iff_eq.2 (by omega))) ?_ | refine rw_v (op_b (b := false) rfl (beq_eq_false_iff_ne.2 (by omega))) ?_ | refine rw_v (op_pure rfl) ?_))
    iterate 2 refine rw_v (op_pure rfl) ?_
    first | refine rw_off rfl ?_ | (refine rw_on rfl ?_; refine rw_v (op_pure rfl) ?_)
    first | refine rw_off rfl ?_ | (refine rw_on rfl ?_; (first | refine rw_v (op_b (b := true) rfl (beq_iff_eq.2 (by omega))) ?_ | refine rw_v (op_b (b := false) rfl (beq_eq_false_iff_ne.2 (by omega))) ?_ | refine rw_v (op_pure rfl) ?_))
    iterate 2 refine rw_v (op_pure rfl) ?_
    first | refine rw_off rfl ?_ | (refine rw_on rfl ?_; refine rw_v (op_pure rfl) ?_)
    first | refine rw_off rfl ?_ | (refine rw_on rfl ?_; (first | refine rw_v (op_b (b := true) rfl (beq_iff_eq.2 (by omega))) ?_ | refine rw_v (op_b (b := false) rfl (beq_eq_false_iff_ne.2 (by omega))) ?_ | refine rw_v (op_pure rfl) ?_))
    iterate 2 refine rw_v (op_pure rfl) ?_
    first | refine rw_off rfl ?_ | (refine rw_on rfl ?_; refine rw_v (op_pure rfl) ?_)
    first | refine rw_off rfl ?_ | (refine rw_on rfl ?_; refine rw_r (op_loadAB Try.underlying25 rfl (Try.sizeOf25 _) rfl (S.blk (i := 5) rfl) rfl rfl) ?_)
    refine rw_on rfl ?_
    refine rw_call rfl (rlakes_E lv rk r hw hh hVg (by omega) hB hlev hro (hA.gr S.out)) ?_
    rintro _ w12_ ⟨A_w, c_w, rfl, hRw, hFw, g12_⟩
    have S := S.pushRow hRw hFw g12_
    refine rw_on rfl ?_
    refine rw_call rfl (hsp _ _ _ _ w12_ (S.rd (i := 4) rfl) (S.rd (i := 0) rfl)) ?_
    rintro _ w13_ ⟨rfl, g13_⟩
    have S := S.gr g13_
    iterate 2 refine rw_v (op_pure rfl) ?_
    first | refine rw_off rfl ?_ | (refine rw_on rfl ?_; refine rw_v (op_pure rfl) ?_)
    first | refine rw_off rfl ?_ | (refine rw_on rfl ?_; refine rw_v (op_len Try.underlying31 rfl) ?_)
    first | refine rw_off rfl ?_ | (refine rw_on rfl ?_; (first | refine rw_v (op_b (b := true) rfl (beq_iff_eq.2 (by omega))) ?_ | refine rw_v (op_b (b := false) rfl (beq_eq_false_iff_ne.2 (by omega))) ?_ | refine rw_v (op_pure rfl) ?_))
    iterate 2 refine rw_v (op_pure rfl) ?_
    first | refine rw_off rfl ?_ | (refine rw_on rfl ?_; refine rw_v (op_pure rfl) ?_)
    first | refine rw_off rfl ?_ | (refine rw_on rfl ?_; refine rw_v (op_pure rfl) ?_)
    refine rw_on rfl ?_
    refine rw_call rfl (gsame_E (S.grid (i := 1) rfl) (S.grid (i := 3) rfl)) ?_
    rintro _ w14_ ⟨rfl, g14_⟩
    have S := S.gr g14_
    iterate 2 refine rw_v (op_pure rfl) ?_
    first | refine rw_off rfl ?_ | (refine rw_on rfl ?_; refine rw_v (op_pure rfl) ?_)
    first | refine rw_off rfl ?_ | (refine rw_on rfl ?_; (first | refine rw_v (op_b (b := true) rfl (beq_iff_eq.2 (by omega))) ?_ | refine rw_v (op_b (b := false) rfl (beq_eq_false_iff_ne.2 (by omega))) ?_ | refine rw_v (op_pure rfl) ?_))
    iterate 2 refine rw_v (op_pure rfl) ?_
    first | refine rw_end ?_ | (refine rw_nil ?_; show CW _ _ _ _ _ _) | refine rw_nil ?_
    repeat refine cw_seq ?_
    refine cw_ret ?_
    repeat first | refine ret_then ?_ | refine ret_inb ?_
    exact res1 rfl ⟨rfl, S.out⟩
  · skip
    have G := Gr.refl W
    have S := St.start W
    refine Fn_enter Try.func3 rfl Try.results3 Try.ntmps3 (by kernel_rfl) (by kernel_rfl) ?_
    repeat refine cw_seq ?_
    refine cw_region ?_
    refine rw_v (op_pure rfl) ?_
    first | refine rw_end ?_ | (refine rw_nil ?_; show CW _ _ _ _ _ _) | refine rw_nil ?_
    repeat refine cw_seq ?_
    refine cw_region ?_
    refine rw_call rfl (awake45_E W) ?_
    rintro _ w1_ ⟨rfl, g1_⟩
    have S := S.gr g1_
    refine rw_v (op_pure rfl) ?_
    first | refine rw_end ?_ | (refine rw_nil ?_; show CW _ _ _ _ _ _) | refine rw_nil ?_
    repeat refine cw_seq ?_
    refine cw_false rfl ?_
    repeat refine cw_seq ?_
    refine cw_skip ?_
    try show CW _ _ _ _ _ _
    repeat refine cw_seq ?_
    refine cw_region ?_
    iterate 3 refine rw_v (op_pure rfl) ?_
    refine rw_call rfl (landNo_E w h 400 cap (by omega) hl hok (hA.gr S.out)) ?_
    rintro _ w2_ ⟨rfl, g2_⟩
    have S := S.gr g2_
    iterate 3 refine rw_v (op_pure rfl) ?_
    refine rw_newB (op_alloc Try.zeroValue25 rfl) S ?_
    intro b_b3 w4_ g4_ S
    refine rw_storeSA (i := 0) S rfl (Try.sizeOf25 _) rfl rfl rfl rfl rfl rfl ?_
    intro w5_ S
    refine rw_v (op_pure rfl) ?_
    first | refine rw_end ?_ | (refine rw_nil ?_; show CW _ _ _ _ _ _) | refine rw_nil ?_
    repeat refine cw_seq ?_
    refine cw_region ?_
    iterate 2 refine rw_v (op_pure rfl) ?_
    first | refine rw_end ?_ | (refine rw_nil ?_; show CW _ _ _ _ _ _) | refine rw_nil ?_
    repeat refine cw_seq ?_
    refine cw_true rfl ?_
    repeat refine cw_seq ?_
    refine cw_region ?_
    refine rw_v (op_pure rfl) ?_
    first | refine rw_end ?_ | (refine rw_nil ?_; show CW _ _ _ _ _ _) | refine rw_nil ?_
    repeat refine cw_seq ?_
    refine cw_ret ?_
    repeat first | refine ret_then ?_ | refine ret_inb ?_
    exact res1 rfl ⟨rfl, S.out⟩
end
end Go.Proofs.Ytbcgbcipigcbhaa
