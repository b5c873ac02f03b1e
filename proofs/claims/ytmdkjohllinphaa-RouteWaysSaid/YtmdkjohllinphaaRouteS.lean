/- The document's costs: hachureref32.Costs comes to the cheapest ones. -/
import Derived.Test.YtmdkjohllinphaaRouteR
namespace Go.Proofs.Ytmdkjohllinphaa
open Go.RowKit
set_option linter.unusedVariables false
set_option linter.unusedSimpArgs false
set_option maxRecDepth 100000

section
variable {W : World} {A : Option Addr} {gw gh cap : Nat} {V : List Int}
set_option maxHeartbeats 8000000 in
theorem rcostsR_E (a : Nat) (d : Nat → Int) (hgw : 1 ≤ gw ∧ gw ≤ 1024) (hgh : 1 ≤ gh ∧ gh ≤ 1024) (hV : V.length = gw * gh) (hn : gw * gh ≤ 1048576) (ha : a < gw * gh) (hB : vB V) (hd : IsDist gw V a d) (hA : Rd W A (ints V)) :
    Fn Try.prog 35 [modV gw gh A V.length cap, .agg #[.int .i64 (a % gw : Nat), .int .i64 (a / gw : Nat)]] W (RetNew id 2 1 V.length (cellsQ V.length d) W) := by
  have hmi : (gw : Int) * gh = ((gw * gh : Nat) : Int) := by push_cast; rfl
  have hpos : 1 ≤ gw * gh := Nat.mul_le_mul hgw.1 hgh.1
  have S := St.start W
  refine Fn_enter Try.func35 rfl Try.results35 Try.ntmps35 (by kernel_rfl) (by kernel_rfl) ?_
  repeat refine cw_seq ?_
  refine cw_region ?_
  refine rw_newB (op_box rfl) S ?_
  intro b_md w2_ g2_ S
  refine rw_newB (op_box rfl) S ?_
  intro b_ca w4_ g4_ S
  refine rw_v (op_pure rfl) ?_
  first | refine rw_end ?_ | (refine rw_nil ?_; show CW _ _ _ _ _ _) | refine rw_nil ?_
  repeat refine cw_seq ?_
  refine cw_region ?_
  refine rw_buildS0 Try.underlying22 Try.sizeOf2 S ?_
  intro A_out w6_ g6_ S sa_out
  refine rw_v (op_pure rfl) ?_
  first | refine rw_end ?_ | (refine rw_nil ?_; show CW _ _ _ _ _ _) | refine rw_nil ?_
  repeat refine cw_seq ?_
  refine cw_region ?_
  refine rw_v (op_pure rfl) ?_
  first | refine rw_end ?_ | (refine rw_nil ?_; show CW _ _ _ _ _ _) | refine rw_nil ?_
  repeat refine cw_seq ?_
  refine cw_block ?_
  repeat refine cw_seq ?_
  refine cw_loop (fun m e w => ∃ (k : Nat) (A_out : Option Addr) (c_out : Nat), k + m = V.length ∧ SL e [(2, .pointer (some ⟨b_md, 0, none⟩)), (3, .pointer (some ⟨b_ca, 0, none⟩)), (5, .slice A_out k c_out), (6, .int .i64 k)] ∧
    St No W w [.row 2 1 A_out k c_out (cellsQ k (fun _ => -1)), .blk b_ca 36 [.int .i64 (a % gw : Nat), .int .i64 (a / gw : Nat)], .blk b_md 25 [.int .i64 gw, .int .i64 gh, .slice A V.length cap]]) V.length
    ⟨0, _, _, by omega, ⟨rfl, rfl, rfl, rfl, trivial⟩, S⟩ ?_
  clear S
  rintro m e w ⟨k, A_out, c_out, hk, hsl, S⟩
  rw [hsl.fold]
  repeat refine cw_seq ?_
  refine cw_region ?_
  refine rw_v (op_pure rfl) ?_
  refine rw_v (op_fieldAddr Try.underlying25 rfl Try.sizeOf22 rfl rfl) ?_
  refine rw_r (op_loadB Try.underlying22 rfl rfl (S.blk (i := 2) rfl) rfl) ?_
  refine rw_v (op_len Try.underlying22 rfl) ?_
  refine rw_v (op_pure rfl) ?_
  first | refine rw_end ?_ | (refine rw_nil ?_; show CW _ _ _ _ _ _) | refine rw_nil ?_
  repeat refine cw_seq ?_
  refine cw_cond rfl (fun hc => ?_) (fun hc => ?_)
  · try simp only [decide_eq_true_eq, decide_eq_false_iff_not, beq_iff_eq, bne_iff_ne, beq_eq_false_iff_ne, bne_eq_false_iff_eq, Bool.not_eq_true', Bool.not_eq_false', ne_eq, Decidable.not_not, Int.natCast_inj, Int.ofNat_lt, Int.ofNat_le, gt_iff_lt, ge_iff_le, Int.not_lt, Int.not_le] at hc
    repeat refine cw_seq ?_
    refine cw_skip ?_
    try show CW _ _ _ _ _ _
    repeat refine cw_seq ?_
    refine cw_block ?_
    repeat refine cw_seq ?_
    refine cw_region ?_
    refine rw_v (op_pure rfl) ?_
    refine rw_buildS Try.underlying22 Try.sizeOf2 Try.zeroValue2 rfl rfl rfl rfl rfl rfl S ?_
    intro A_lit w8_ g8_ S sa_lit
    refine rw_appS (i := 1) S rfl (fun h => rfl) Try.underlying22 info_t2 rfl rfl rfl rfl (by simp) (by omega) (S.rd (i := 0) rfl) rfl (by omega) ?_
    intro A_out9 c_out9 w9_ S sa_out
    refine rw_v (op_pure rfl) ?_
    first | refine rw_end ?_ | (refine rw_nil ?_; show CW _ _ _ _ _ _) | refine rw_nil ?_
    repeat refine cw_seq ?_
    refine cw_region ?_
    refine rw_v (op_pure rfl) ?_
    refine rw_v (op_rng rfl (by omega)) ?_
    refine rw_v (op_pure rfl) ?_
    first | refine rw_end ?_ | (refine rw_nil ?_; show CW _ _ _ _ _ _) | refine rw_nil ?_
    have S := S.drop 1
    rw [show cellsQ k (fun _ => (-1 : Int)) ++ [.int .i64 (-1)] = cellsQ (k + 1) (fun _ => -1) from (cellsQ_snoc _ _).symm] at S
    exact ⟨m - 1, by omega, k + 1, _, _, by omega, ⟨rfl, rfl, rfl, ie (by omega), trivial⟩, S⟩
  · try simp only [decide_eq_true_eq, decide_eq_false_iff_not, beq_iff_eq, bne_iff_ne, beq_eq_false_iff_ne, bne_eq_false_iff_eq, Bool.not_eq_true', Bool.not_eq_false', ne_eq, Decidable.not_not, Int.natCast_inj, Int.ofNat_lt, Int.ofNat_le, gt_iff_lt, ge_iff_le, Int.not_lt, Int.not_le] at hc
    obtain rfl : k = V.length := by omega
    have ediv : ((a / gw : Nat) : Int) * gw = ((a / gw * gw : Nat) : Int) := by push_cast; rfl
    have edm : a / gw * gw + a % gw = a := by rw [Nat.mul_comm]; exact Nat.div_add_mod _ _
    have eat : ((a / gw * gw : Nat) : Int) + (a % gw : Nat) = ((a : Nat) : Int) := by omega
    have sa_out : SomeA A_out := (S.row (i := 0) rfl).someA (by omega)
    repeat refine cw_seq ?_
    refine cw_exit ?_
    repeat first | refine exit_then ?_ | refine exit_inb ?_
    show CW _ _ _ _ _ _
    repeat refine cw_seq ?_
    refine cw_region ?_
    refine rw_v (op_pure rfl) ?_
    refine rw_v (op_fieldAddr Try.underlying36 rfl Try.sizeOf2 rfl rfl) ?_
    refine rw_r (op_loadB Try.underlying2 rfl rfl (S.blk (i := 1) rfl) rfl) ?_
    refine rw_v (op_fieldAddr Try.underlying25 rfl Try.sizeOf2 rfl rfl) ?_
    refine rw_r (op_loadB Try.underlying2 rfl rfl (S.blk (i := 2) rfl) rfl) ?_
    refine rw_v (op_rng rfl (by omega)) ?_
    rw [ediv]
    refine rw_v (op_fieldAddr Try.underlying36 rfl Try.sizeOf2 rfl rfl) ?_
    refine rw_r (op_loadB Try.underlying2 rfl rfl (S.blk (i := 1) rfl) rfl) ?_
    refine rw_v (op_rng rfl (by omega)) ?_
    rw [eat]
    refine rw_v (op_idx Try.underlying22 Try.sizeOf2 rfl rfl sa_out (by omega) (by omega)) ?_
    refine rw_storeR (i := 0) S rfl (Try.sizeOf2 _) rfl rfl rfl rfl (by rw [cellsQ_len]; omega) rfl ?_
    intro w10_ S
    first | refine rw_end ?_ | (refine rw_nil ?_; show CW _ _ _ _ _ _) | refine rw_nil ?_
    repeat refine cw_seq ?_
    refine cw_region ?_
    refine rw_v (op_pure rfl) ?_
    first | refine rw_end ?_ | (refine rw_nil ?_; show CW _ _ _ _ _ _) | refine rw_nil ?_
    repeat refine cw_seq ?_
    refine cw_block ?_
    repeat refine cw_seq ?_
    rw [cellsQ_set] at S
    have hb0 := BF.start hV hd ha
    have S := S.sub (.cons_cons _ (.cons _ (.cons_cons _ .slnil)))
    refine cw_loop (fun m e w => ∃ (r : Nat) (o : Nat → Int), r + m = V.length + 1 ∧ SL e [(2, .pointer (some ⟨b_md, 0, none⟩)), (5, .slice A_out V.length c_out), (7, .int .i64 r)] ∧ BF gw gh V a d r false (fun _ _ => False) o ∧ St No W w [.row 2 1 A_out V.length c_out (cellsQ V.length o), .blk b_md 25 [.int .i64 gw, .int .i64 gh, .slice A V.length cap]]) (V.length + 1)
      ⟨0, _, by omega, ⟨rfl, rfl, rfl, trivial⟩, hb0, S⟩ ?_
    clear S hb0
    rintro m e w ⟨r, o, hr, hsl, hb, S⟩
    rw [hsl.fold]
    repeat refine cw_seq ?_
    refine cw_region ?_
    refine rw_v (op_pure rfl) ?_
    refine rw_v (op_fieldAddr Try.underlying25 rfl Try.sizeOf22 rfl rfl) ?_
    refine rw_r (op_loadB Try.underlying22 rfl rfl (S.blk (i := 1) rfl) rfl) ?_
    refine rw_v (op_len Try.underlying22 rfl) ?_
    refine rw_v (op_rng rfl (by omega)) ?_
    refine rw_v (op_pure rfl) ?_
    first | refine rw_end ?_ | (refine rw_nil ?_; show CW _ _ _ _ _ _) | refine rw_nil ?_
    repeat refine cw_seq ?_
    refine cw_cond rfl (fun hc2 => ?_) (fun hc2 => ?_)
    · try simp only [decide_eq_true_eq, decide_eq_false_iff_not, beq_iff_eq, bne_iff_ne, beq_eq_false_iff_ne, bne_eq_false_iff_eq, Bool.not_eq_true', Bool.not_eq_false', ne_eq, Decidable.not_not, Int.natCast_inj, Int.ofNat_lt, Int.ofNat_le, gt_iff_lt, ge_iff_le, Int.not_lt, Int.not_le] at hc2
      repeat refine cw_seq ?_
      refine cw_skip ?_
      try show CW _ _ _ _ _ _
      repeat refine cw_seq ?_
      refine cw_block ?_
      repeat refine cw_seq ?_
      refine cw_region ?_
      refine rw_v (op_pure rfl) ?_
      first | refine rw_end ?_ | (refine rw_nil ?_; show CW _ _ _ _ _ _) | refine rw_nil ?_
      repeat refine cw_seq ?_
      refine cw_region ?_
      refine rw_v (op_pure rfl) ?_
      first | refine rw_end ?_ | (refine rw_nil ?_; show CW _ _ _ _ _ _) | refine rw_nil ?_
      repeat refine cw_seq ?_
      refine cw_block ?_
      repeat refine cw_seq ?_
      refine cw_loop (fun m' e w => ∃ (i : Nat) (fell : Bool) (o : Nat → Int), i + m' = gw * gh ∧ SL e [(2, .pointer (some ⟨b_md, 0, none⟩)), (5, .slice A_out V.length c_out), (7, .int .i64 r), (8, .bool fell), (9, .int .i64 i)] ∧ BF gw gh V a d r fell (fun p _ => p < i) o ∧ St No W w [.row 2 1 A_out V.length c_out (cellsQ V.length o), .blk b_md 25 [.int .i64 gw, .int .i64 gh, .slice A V.length cap]]) (gw * gh)
        ⟨0, false, o, by omega, ⟨rfl, rfl, rfl, rfl, rfl, trivial⟩, hb.weaken (fun p j _ _ _ e => by omega), S⟩ ?_
      clear S hb
      rintro m' e w ⟨i, fell, o, hi, hsl, hb, S⟩
      rw [hsl.fold]
      repeat refine cw_seq ?_
      refine cw_region ?_
      refine rw_v (op_pure rfl) ?_
      refine rw_v (op_fieldAddr Try.underlying25 rfl Try.sizeOf2 rfl rfl) ?_
      refine rw_r (op_loadB Try.underlying2 rfl rfl (S.blk (i := 1) rfl) rfl) ?_
      refine rw_v (op_fieldAddr Try.underlying25 rfl Try.sizeOf2 rfl rfl) ?_
      refine rw_r (op_loadB Try.underlying2 rfl rfl (S.blk (i := 1) rfl) rfl) ?_
      refine rw_v (op_rng rfl (by omega)) ?_
      rw [hmi]
      refine rw_v (op_pure rfl) ?_
      first | refine rw_end ?_ | (refine rw_nil ?_; show CW _ _ _ _ _ _) | refine rw_nil ?_
      repeat refine cw_seq ?_
      refine cw_cond rfl (fun hc3 => ?_) (fun hc3 => ?_)
      · try simp only [decide_eq_true_eq, decide_eq_false_iff_not, beq_iff_eq, bne_iff_ne, beq_eq_false_iff_ne, bne_eq_false_iff_eq, Bool.not_eq_true', Bool.not_eq_false', ne_eq, Decidable.not_not, Int.natCast_inj, Int.ofNat_lt, Int.ofNat_le, gt_iff_lt, ge_iff_le, Int.not_lt, Int.not_le] at hc3
        by_cases ho : o i < 0
        · skip
          repeat refine cw_seq ?_
          refine cw_skip ?_
          try show CW _ _ _ _ _ _
          repeat refine cw_seq ?_
          refine cw_block ?_
          repeat refine cw_seq ?_
          refine cw_region ?_
          refine rw_v (op_pure rfl) ?_
          refine rw_v (op_pure rfl) ?_
          refine rw_v (op_idx Try.underlying22 Try.sizeOf2 rfl rfl sa_out (by omega) (by omega)) ?_
          refine rw_r (op_ldR Try.underlying2 rfl rfl (S.rd (i := 0) rfl) (cellsQ_get (by omega))) ?_
          refine rw_v (op_b (b := true) rfl (decide_eq_true (by omega))) ?_
          first | refine rw_end ?_ | (refine rw_nil ?_; show CW _ _ _ _ _ _) | refine rw_nil ?_
          repeat refine cw_seq ?_
          refine cw_true rfl ?_
          repeat refine cw_seq ?_
          refine cw_exit ?_
          repeat first | refine exit_then ?_ | refine exit_inb ?_
          show CW _ _ _ _ _ _
          repeat refine cw_seq ?_
          refine cw_region ?_
          refine rw_v (op_pure rfl) ?_
          refine rw_v (op_rng rfl (by omega)) ?_
          refine rw_v (op_pure rfl) ?_
          first | refine rw_end ?_ | (refine rw_nil ?_; show CW _ _ _ _ _ _) | refine rw_nil ?_
          exact ⟨m' - 1, by omega, i + 1, fell, o, by omega, ⟨rfl, rfl, rfl, rfl, ie (by omega), trivial⟩, hb.pass hV hd (by omega) ho, S⟩
        · have em : (i : Int) % gw = ((i % gw : Nat) : Int) := by push_cast; rfl
          have ed : (i : Int) / gw = ((i / gw : Nat) : Int) := by push_cast; rfl
          have hen := hb.enter (i := i) (by omega) (by omega)
          rw [← hV] at hen
          have hmem := fun j => nearN_mem (gw := gw) (gh := gh) (i := i) (j := j) (by omega) (by omega)
          rw [← hV] at hmem
          repeat refine cw_seq ?_
          refine cw_skip ?_
          try show CW _ _ _ _ _ _
          repeat refine cw_seq ?_
          refine cw_block ?_
          repeat refine cw_seq ?_
          refine cw_region ?_
          refine rw_v (op_pure rfl) ?_
          refine rw_v (op_pure rfl) ?_
          refine rw_v (op_idx Try.underlying22 Try.sizeOf2 rfl rfl sa_out (by omega) (by omega)) ?_
          refine rw_r (op_ldR Try.underlying2 rfl rfl (S.rd (i := 0) rfl) (cellsQ_get (by omega))) ?_
          refine rw_v (op_b (b := false) rfl (decide_eq_false (by omega))) ?_
          first | refine rw_end ?_ | (refine rw_nil ?_; show CW _ _ _ _ _ _) | refine rw_nil ?_
          repeat refine cw_seq ?_
          refine cw_false rfl ?_
          repeat refine cw_seq ?_
          refine cw_skip ?_
          try show CW _ _ _ _ _ _
          repeat refine cw_seq ?_
          refine cw_tri (C := (fun σ wq => Gr w wq ∧ SpA w wq 36 [.int .i64 0, .int .i64 0] σ)) [9] [0, 1, 2, 3, 4, 5, 6, 7, 8, 9] [10] (by kernel_rfl) (by kernel_rfl) ⟨Gr.drew _, trivial⟩ ?_
          simp only [pickI, pickL, List.drop_succ_cons, List.drop_zero]
          refine rs_v rfl (op_pure rfl) ?_
          refine rs_v rfl (op_fieldAddr Try.underlying25 rfl Try.sizeOf2 rfl rfl) ?_
          refine rs_r rfl (fun τ wq hq => op_loadB Try.underlying2 rfl rfl ((S.gr hq.1).blk (i := 1) rfl) rfl) ?_
          refine rs_v rfl (op_rem rfl rfl (by omega) (by omega)) ?_
          rw [em]
          refine rs_v rfl (op_pure rfl) ?_
          refine rs_v rfl (op_fieldAddr Try.underlying25 rfl Try.sizeOf2 rfl rfl) ?_
          refine rs_r rfl (fun τ wq hq => op_loadB Try.underlying2 rfl rfl ((S.gr hq.1).blk (i := 1) rfl) rfl) ?_
          refine rs_v rfl (op_div rfl rfl (by omega) (by omega)) ?_
          rw [ed]
          refine rs_v rfl (op_build (pl := [(0, 1), (1, 1)]) Try.underlying36 Try.zeroValue36 (fun w => by kernel_rfl) rfl rfl) ?_
          refine rs_special rfl rfl (fun wq hq => to_alloc1 Try.zeroValue36 rfl hq.1 (fun v w' g h => ⟨g, h⟩)) ?_
          rintro v9 w9 ⟨_, hsp9⟩
          refine rs_nil ?_
          rintro wz ⟨gz, hsp⟩
          obtain ⟨b_c, he1, hB1, hs1⟩ := hsp
          cases he1
          have S := S.push gz (h := .blk b_c 36 _) hB1 (fun g h => h ▸ hs1)
          refine rw_storeSA (i := 0) S rfl (Try.sizeOf36 _) rfl rfl rfl rfl rfl rfl ?_
          intro wy S
          first | refine rw_end ?_ | (refine rw_nil ?_; show CW _ _ _ _ _ _) | refine rw_nil ?_
          repeat refine cw_seq ?_
          refine cw_region ?_
          refine rw_r (op_loadAB Try.underlying25 rfl (Try.sizeOf25 _) rfl (S.blk (i := 2) rfl) rfl rfl) ?_
          refine rw_r (op_loadAB Try.underlying36 rfl (Try.sizeOf36 _) rfl (S.blk (i := 0) rfl) rfl rfl) ?_
          refine rw_call rfl (nearI_E (W := wy) i (by omega) (by omega) hV hn (hA.gr S.out)) ?_
          rintro _ w12_ ⟨A_near, c_near, rfl, hR_near, hf_near, g12_⟩
          have S := S.pushRow hR_near hf_near g12_
          refine rw_v (op_pure rfl) ?_
          first | refine rw_end ?_ | (refine rw_nil ?_; show CW _ _ _ _ _ _) | refine rw_nil ?_
          repeat refine cw_seq ?_
          refine cw_region ?_
          refine rw_v (op_pure rfl) ?_
          first | refine rw_end ?_ | (refine rw_nil ?_; show CW _ _ _ _ _ _) | refine rw_nil ?_
          repeat refine cw_seq ?_
          refine cw_block ?_
          repeat refine cw_seq ?_
          have hnl := nearN_len gw V.length i
          generalize nearN gw V.length i = Ln at *
          refine cw_loop (fun m2 e w => ∃ (k : Nat) (fell : Bool) (o : Nat → Int), k + m2 = Ln.length ∧ 0 ≤ o i ∧ SL e [(2, .pointer (some ⟨b_md, 0, none⟩)), (5, .slice A_out V.length c_out), (7, .int .i64 r), (8, .bool fell), (9, .int .i64 i), (10, .pointer (some ⟨b_c, 0, none⟩)), (11, .slice A_near Ln.length c_near), (12, .int .i64 k)] ∧ BF gw gh V a d r fell (EdgT i (Ln.drop k)) o ∧
            St No W w [.row 36 2 A_near Ln.length c_near (cellsZ (Ln.map (cz gw))), .blk b_c 36 [.int .i64 (i % gw : Nat), .int .i64 (i / gw : Nat)], .row 2 1 A_out V.length c_out (cellsQ V.length o), .blk b_md 25 [.int .i64 gw, .int .i64 gh, .slice A V.length cap]]) Ln.length
            ⟨0, fell, o, by omega, by omega, ⟨rfl, rfl, rfl, rfl, rfl, rfl, rfl, rfl, trivial⟩, by rw [List.drop_zero]; exact hen, S⟩ ?_
          clear S hen hb ho
          rintro m2 e w ⟨k, fell, o, hk2, ho, hsl, hb, S⟩
          rw [hsl.fold]
          repeat refine cw_seq ?_
          refine cw_region ?_
          refine rw_v (op_pure rfl) ?_
          refine rw_v (op_pure rfl) ?_
          refine rw_v (op_len Try.underlying41 rfl) ?_
          refine rw_v (op_pure rfl) ?_
          first | refine rw_end ?_ | (refine rw_nil ?_; show CW _ _ _ _ _ _) | refine rw_nil ?_
          repeat refine cw_seq ?_
          refine cw_cond rfl (fun hc4 => ?_) (fun hc4 => ?_)
          · try simp only [decide_eq_true_eq, decide_eq_false_iff_not, beq_iff_eq, bne_iff_ne, beq_eq_false_iff_ne, bne_eq_false_iff_eq, Bool.not_eq_true', Bool.not_eq_false', ne_eq, Decidable.not_not, Int.natCast_inj, Int.ofNat_lt, Int.ofNat_le, gt_iff_lt, ge_iff_le, Int.not_lt, Int.not_le] at hc4
            have hkl : k < Ln.length := by omega
            obtain ⟨y, hy, hdr⟩ : ∃ y, Ln[k]? = some y ∧ Ln.drop k = y :: Ln.drop (k + 1) := ⟨Ln[k]'hkl, List.getElem?_eq_getElem hkl, List.drop_eq_getElem_cons hkl⟩
            rw [hdr] at hb
            have hyt := (hmem y).1 (List.mem_of_getElem? hy)
            rw [hV] at hyt
            have hmy : (Ln.map (cz gw))[k]? = some (cz gw y) := by rw [List.getElem?_map, hy]; rfl
            have sa_near : SomeA A_near := (S.row (i := 0) rfl).someA (by omega)
            have hat : ((cellsZ (Ln.map (cz gw))).drop ((k : Int).toNat * 2)).take 2 = [.int .i64 (y % gw : Nat), .int .i64 (y / gw : Nat)] := by rw [Int.toNat_natCast]; exact cellsZ_at hmy
            have hcx : (cellsZ (Ln.map (cz gw)))[(k : Int).toNat * 2 + 0]? = some (.int .i64 (y % gw : Nat)) := by rw [Int.toNat_natCast]; exact cellsZ_x hmy
            have hcy : (cellsZ (Ln.map (cz gw)))[(k : Int).toNat * 2 + 1]? = some (.int .i64 (y / gw : Nat)) := by rw [Int.toNat_natCast]; exact cellsZ_y hmy
            have ey : ((y / gw : Nat) : Int) * gw = ((y / gw * gw : Nat) : Int) := by push_cast; rfl
            have eym : y / gw * gw + y % gw = y := by rw [Nat.mul_comm]; exact Nat.div_add_mod _ _
            have ey2 : ((y / gw * gw : Nat) : Int) + (y % gw : Nat) = ((y : Nat) : Int) := by omega
            have hst := st_far hB i y
            have hst0 := st_pos V i y
            have hbi := hb.bnd i (by omega)
            have hcl := cntS_le (gw * gh) o
            by_cases h1 : o y < 0
            · skip
              repeat refine cw_seq ?_
              refine cw_skip ?_
              try show CW _ _ _ _ _ _
              repeat refine cw_seq ?_
              refine cw_block ?_
              repeat refine cw_seq ?_
              refine cw_draw (C := fun wq => Gr w wq) [0, 1, 2, 3, 4, 5, 6, 7, 8, 9, 10, 11, 12, 13, 14] [] (by kernel_rfl) (by kernel_rfl) (Gr.drew _) ?_
              simp only [pickL, List.drop_succ_cons, List.drop_zero]
              refine rq_v (op_pure rfl) ?_
              refine rq_v (op_pure rfl) ?_
              refine rq_v (op_idx Try.underlying41 Try.sizeOf36 rfl rfl sa_near (by omega) (by omega)) ?_
              refine rq_v (op_fld Try.underlying36 rfl Try.sizeOf2 rfl rfl sa_near) ?_
              refine rq_r (fun wq hq => op_ldR Try.underlying2 rfl rfl ((S.gr hq).rd (i := 0) rfl) hcy) ?_
              refine rq_v (op_fieldAddr Try.underlying25 rfl Try.sizeOf2 rfl rfl) ?_
              refine rq_r (fun wq hq => op_loadB Try.underlying2 rfl rfl ((S.gr hq).blk (i := 3) rfl) rfl) ?_
              refine rq_v (op_rng rfl (by omega)) ?_
              rw [ey]
              refine rq_v (op_pure rfl) ?_
              refine rq_v (op_pure rfl) ?_
              refine rq_v (op_idx Try.underlying41 Try.sizeOf36 rfl rfl sa_near (by omega) (by omega)) ?_
              refine rq_v (op_fld Try.underlying36 rfl Try.sizeOf2 rfl rfl sa_near) ?_
              refine rq_r (fun wq hq => op_ldR Try.underlying2 rfl rfl ((S.gr hq).rd (i := 0) rfl) hcx) ?_
              refine rq_v (op_rng rfl (by omega)) ?_
              rw [ey2]
              refine rq_v (op_pure rfl) ?_
              refine rq_nil ?_
              intro w13_ g13_
              have S := S.gr g13_
              first | refine rw_end ?_ | (refine rw_nil ?_; show CW _ _ _ _ _ _) | refine rw_nil ?_
              repeat refine cw_seq ?_
              refine cw_draw (C := fun wq => Gr w13_ wq) [0, 1, 2, 3, 4, 5, 6, 7, 8, 9, 10, 11, 12] [] (by kernel_rfl) (by kernel_rfl) (Gr.drew _) ?_
              simp only [pickL, List.drop_succ_cons, List.drop_zero]
              refine rq_v (op_pure rfl) ?_
              refine rq_v (op_pure rfl) ?_
              refine rq_v (op_idx Try.underlying22 Try.sizeOf2 rfl rfl sa_out (by omega) (by omega)) ?_
              refine rq_r (fun wq hq => op_ldR Try.underlying2 rfl rfl ((S.gr hq).rd (i := 2) rfl) (cellsQ_get (by omega))) ?_
              refine rq_r (fun wq hq => op_loadAB Try.underlying25 rfl (Try.sizeOf25 _) rfl ((S.gr hq).blk (i := 3) rfl) rfl rfl) ?_
              refine rq_r (fun wq hq => op_loadAB Try.underlying36 rfl (Try.sizeOf36 _) rfl ((S.gr hq).blk (i := 1) rfl) rfl rfl) ?_
              refine rq_v (op_pure rfl) ?_
              refine rq_v (op_pure rfl) ?_
              refine rq_v (op_idx Try.underlying41 Try.sizeOf36 rfl rfl sa_near (by omega) (by omega)) ?_
              refine rq_r (fun wq hq => op_ldRA Try.underlying36 rfl (Try.sizeOf36 _) rfl ((S.gr hq).rd (i := 0) rfl) hat rfl rfl) ?_
              refine rq_call rfl (fun wq hq => (rstepR_E i y (by omega) (by omega) hyt.1 hV hn hB (hA.gr (S.gr hq).out)).mono (fun _ _ ⟨hv, hg⟩ => ⟨hv, hq.trans hg⟩)) ?_
              refine rq_v (op_rng rfl (by unfold far at *; omega)) ?_
              refine rq_v (op_pure rfl) ?_
              refine rq_nil ?_
              intro w14_ g14_
              have S := S.gr g14_
              first | refine rw_end ?_ | (refine rw_nil ?_; show CW _ _ _ _ _ _) | refine rw_nil ?_
              repeat refine cw_seq ?_
              refine cw_region ?_
              refine rw_v (op_pure rfl) ?_
              refine rw_v (op_pure rfl) ?_
              refine rw_v (op_idx Try.underlying22 Try.sizeOf2 rfl rfl sa_out (by omega) (by omega)) ?_
              refine rw_r (op_ldR Try.underlying2 rfl rfl (S.rd (i := 2) rfl) (cellsQ_get (by omega))) ?_
              first | refine rw_v (op_b (b := true) rfl (decide_eq_true (by omega))) ?_ | refine rw_v (op_b (b := false) rfl (decide_eq_false (by omega))) ?_ | refine rw_v (op_pure rfl) ?_
              refine rw_v (op_pure rfl) ?_
              first | refine rw_off rfl ?_ | (refine rw_on rfl ?_; refine rw_v (op_pure rfl) ?_)
              first | refine rw_off rfl ?_ | (refine rw_on rfl ?_; refine rw_v (op_pure rfl) ?_)
              first | refine rw_off rfl ?_ | (refine rw_on rfl ?_; refine rw_v (op_pure rfl) ?_)
              first | refine rw_off rfl ?_ | (refine rw_on rfl ?_; refine rw_v (op_idx Try.underlying22 Try.sizeOf2 rfl rfl sa_out (by omega) (by omega)) ?_)
              first | refine rw_off rfl ?_ | (refine rw_on rfl ?_; refine rw_r (op_ldR Try.underlying2 rfl rfl (S.rd (i := 2) rfl) (cellsQ_get (by omega))) ?_)
              refine rw_off rfl ?_
              refine rw_v (op_pure rfl) ?_
              first | refine rw_end ?_ | (refine rw_nil ?_; show CW _ _ _ _ _ _) | refine rw_nil ?_
              repeat refine cw_seq ?_
              refine cw_true rfl ?_
              repeat refine cw_seq ?_
              refine cw_region ?_
              refine rw_v (op_pure rfl) ?_
              refine rw_v (op_pure rfl) ?_
              refine rw_v (op_pure rfl) ?_
              refine rw_v (op_idx Try.underlying22 Try.sizeOf2 rfl rfl sa_out (by omega) (by omega)) ?_
              refine rw_storeR (i := 2) S rfl (Try.sizeOf2 _) rfl rfl rfl rfl (by rw [cellsQ_len]; omega) rfl ?_
              intro w15_ S
              first | refine rw_end ?_ | (refine rw_nil ?_; show CW _ _ _ _ _ _) | refine rw_nil ?_
              repeat refine cw_seq ?_
              refine cw_region ?_
              refine rw_v (op_pure rfl) ?_
              first | refine rw_end ?_ | (refine rw_nil ?_; show CW _ _ _ _ _ _) | refine rw_nil ?_
              repeat refine cw_seq ?_
              refine cw_region ?_
              refine rw_v (op_pure rfl) ?_
              refine rw_v (op_rng rfl (by omega)) ?_
              refine rw_v (op_pure rfl) ?_
              first | refine rw_end ?_ | (refine rw_nil ?_; show CW _ _ _ _ _ _) | refine rw_nil ?_
              rw [cellsQ_set] at S
              exact ⟨m2 - 1, by omega, k + 1, true, _, by omega, by unfold updI; split <;> omega, ⟨rfl, rfl, rfl, rfl, rfl, rfl, rfl, ie (by omega), trivial⟩, hb.fall hV hd (by omega) hyt.1 hyt.2 hst ho (.inl h1), S⟩
            · by_cases h2 : o i + st V i y < o y
              · skip
                repeat refine cw_seq ?_
                refine cw_skip ?_
                try show CW _ _ _ _ _ _
                repeat refine cw_seq ?_
                refine cw_block ?_
                repeat refine cw_seq ?_
                refine cw_draw (C := fun wq => Gr w wq) [0, 1, 2, 3, 4, 5, 6, 7, 8, 9, 10, 11, 12, 13, 14] [] (by kernel_rfl) (by kernel_rfl) (Gr.drew _) ?_
                simp only [pickL, List.drop_succ_cons, List.drop_zero]
                refine rq_v (op_pure rfl) ?_
                refine rq_v (op_pure rfl) ?_
                refine rq_v (op_idx Try.underlying41 Try.sizeOf36 rfl rfl sa_near (by omega) (by omega)) ?_
                refine rq_v (op_fld Try.underlying36 rfl Try.sizeOf2 rfl rfl sa_near) ?_
                refine rq_r (fun wq hq => op_ldR Try.underlying2 rfl rfl ((S.gr hq).rd (i := 0) rfl) hcy) ?_
                refine rq_v (op_fieldAddr Try.underlying25 rfl Try.sizeOf2 rfl rfl) ?_
                refine rq_r (fun wq hq => op_loadB Try.underlying2 rfl rfl ((S.gr hq).blk (i := 3) rfl) rfl) ?_
                refine rq_v (op_rng rfl (by omega)) ?_
                rw [ey]
                refine rq_v (op_pure rfl) ?_
                refine rq_v (op_pure rfl) ?_
                refine rq_v (op_idx Try.underlying41 Try.sizeOf36 rfl rfl sa_near (by omega) (by omega)) ?_
                refine rq_v (op_fld Try.underlying36 rfl Try.sizeOf2 rfl rfl sa_near) ?_
                refine rq_r (fun wq hq => op_ldR Try.underlying2 rfl rfl ((S.gr hq).rd (i := 0) rfl) hcx) ?_
                refine rq_v (op_rng rfl (by omega)) ?_
                rw [ey2]
                refine rq_v (op_pure rfl) ?_
                refine rq_nil ?_
                intro w16_ g16_
                have S := S.gr g16_
                first | refine rw_end ?_ | (refine rw_nil ?_; show CW _ _ _ _ _ _) | refine rw_nil ?_
                repeat refine cw_seq ?_
                refine cw_draw (C := fun wq => Gr w16_ wq) [0, 1, 2, 3, 4, 5, 6, 7, 8, 9, 10, 11, 12] [] (by kernel_rfl) (by kernel_rfl) (Gr.drew _) ?_
                simp only [pickL, List.drop_succ_cons, List.drop_zero]
                refine rq_v (op_pure rfl) ?_
                refine rq_v (op_pure rfl) ?_
                refine rq_v (op_idx Try.underlying22 Try.sizeOf2 rfl rfl sa_out (by omega) (by omega)) ?_
                refine rq_r (fun wq hq => op_ldR Try.underlying2 rfl rfl ((S.gr hq).rd (i := 2) rfl) (cellsQ_get (by omega))) ?_
                refine rq_r (fun wq hq => op_loadAB Try.underlying25 rfl (Try.sizeOf25 _) rfl ((S.gr hq).blk (i := 3) rfl) rfl rfl) ?_
                refine rq_r (fun wq hq => op_loadAB Try.underlying36 rfl (Try.sizeOf36 _) rfl ((S.gr hq).blk (i := 1) rfl) rfl rfl) ?_
                refine rq_v (op_pure rfl) ?_
                refine rq_v (op_pure rfl) ?_
                refine rq_v (op_idx Try.underlying41 Try.sizeOf36 rfl rfl sa_near (by omega) (by omega)) ?_
                refine rq_r (fun wq hq => op_ldRA Try.underlying36 rfl (Try.sizeOf36 _) rfl ((S.gr hq).rd (i := 0) rfl) hat rfl rfl) ?_
                refine rq_call rfl (fun wq hq => (rstepR_E i y (by omega) (by omega) hyt.1 hV hn hB (hA.gr (S.gr hq).out)).mono (fun _ _ ⟨hv, hg⟩ => ⟨hv, hq.trans hg⟩)) ?_
                refine rq_v (op_rng rfl (by unfold far at *; omega)) ?_
                refine rq_v (op_pure rfl) ?_
                refine rq_nil ?_
                intro w17_ g17_
                have S := S.gr g17_
                first | refine rw_end ?_ | (refine rw_nil ?_; show CW _ _ _ _ _ _) | refine rw_nil ?_
                repeat refine cw_seq ?_
                refine cw_region ?_
                refine rw_v (op_pure rfl) ?_
                refine rw_v (op_pure rfl) ?_
                refine rw_v (op_idx Try.underlying22 Try.sizeOf2 rfl rfl sa_out (by omega) (by omega)) ?_
                refine rw_r (op_ldR Try.underlying2 rfl rfl (S.rd (i := 2) rfl) (cellsQ_get (by omega))) ?_
                first | refine rw_v (op_b (b := true) rfl (decide_eq_true (by omega))) ?_ | refine rw_v (op_b (b := false) rfl (decide_eq_false (by omega))) ?_ | refine rw_v (op_pure rfl) ?_
                refine rw_v (op_pure rfl) ?_
                first | refine rw_off rfl ?_ | (refine rw_on rfl ?_; refine rw_v (op_pure rfl) ?_)
                first | refine rw_off rfl ?_ | (refine rw_on rfl ?_; refine rw_v (op_pure rfl) ?_)
                first | refine rw_off rfl ?_ | (refine rw_on rfl ?_; refine rw_v (op_pure rfl) ?_)
                first | refine rw_off rfl ?_ | (refine rw_on rfl ?_; refine rw_v (op_idx Try.underlying22 Try.sizeOf2 rfl rfl sa_out (by omega) (by omega)) ?_)
                first | refine rw_off rfl ?_ | (refine rw_on rfl ?_; refine rw_r (op_ldR Try.underlying2 rfl rfl (S.rd (i := 2) rfl) (cellsQ_get (by omega))) ?_)
                first | refine rw_off rfl ?_ | (refine rw_on rfl ?_; (first | refine rw_v (op_b (b := true) rfl (decide_eq_true (by omega))) ?_ | refine rw_v (op_b (b := false) rfl (decide_eq_false (by omega))) ?_ | refine rw_v (op_pure rfl) ?_))
                refine rw_v (op_pure rfl) ?_
                first | refine rw_end ?_ | (refine rw_nil ?_; show CW _ _ _ _ _ _) | refine rw_nil ?_
                repeat refine cw_seq ?_
                refine cw_true rfl ?_
                repeat refine cw_seq ?_
                refine cw_region ?_
                refine rw_v (op_pure rfl) ?_
                refine rw_v (op_pure rfl) ?_
                refine rw_v (op_pure rfl) ?_
                refine rw_v (op_idx Try.underlying22 Try.sizeOf2 rfl rfl sa_out (by omega) (by omega)) ?_
                refine rw_storeR (i := 2) S rfl (Try.sizeOf2 _) rfl rfl rfl rfl (by rw [cellsQ_len]; omega) rfl ?_
                intro w18_ S
                first | refine rw_end ?_ | (refine rw_nil ?_; show CW _ _ _ _ _ _) | refine rw_nil ?_
                repeat refine cw_seq ?_
                refine cw_region ?_
                refine rw_v (op_pure rfl) ?_
                first | refine rw_end ?_ | (refine rw_nil ?_; show CW _ _ _ _ _ _) | refine rw_nil ?_
                repeat refine cw_seq ?_
                refine cw_region ?_
                refine rw_v (op_pure rfl) ?_
                refine rw_v (op_rng rfl (by omega)) ?_
                refine rw_v (op_pure rfl) ?_
                first | refine rw_end ?_ | (refine rw_nil ?_; show CW _ _ _ _ _ _) | refine rw_nil ?_
                rw [cellsQ_set] at S
                exact ⟨m2 - 1, by omega, k + 1, true, _, by omega, by unfold updI; split <;> omega, ⟨rfl, rfl, rfl, rfl, rfl, rfl, rfl, ie (by omega), trivial⟩, hb.fall hV hd (by omega) hyt.1 hyt.2 hst ho (.inr h2), S⟩
              · skip
                repeat refine cw_seq ?_
                refine cw_skip ?_
                try show CW _ _ _ _ _ _
                repeat refine cw_seq ?_
                refine cw_block ?_
                repeat refine cw_seq ?_
                refine cw_draw (C := fun wq => Gr w wq) [0, 1, 2, 3, 4, 5, 6, 7, 8, 9, 10, 11, 12, 13, 14] [] (by kernel_rfl) (by kernel_rfl) (Gr.drew _) ?_
                simp only [pickL, List.drop_succ_cons, List.drop_zero]
                refine rq_v (op_pure rfl) ?_
                refine rq_v (op_pure rfl) ?_
                refine rq_v (op_idx Try.underlying41 Try.sizeOf36 rfl rfl sa_near (by omega) (by omega)) ?_
                refine rq_v (op_fld Try.underlying36 rfl Try.sizeOf2 rfl rfl sa_near) ?_
                refine rq_r (fun wq hq => op_ldR Try.underlying2 rfl rfl ((S.gr hq).rd (i := 0) rfl) hcy) ?_
                refine rq_v (op_fieldAddr Try.underlying25 rfl Try.sizeOf2 rfl rfl) ?_
                refine rq_r (fun wq hq => op_loadB Try.underlying2 rfl rfl ((S.gr hq).blk (i := 3) rfl) rfl) ?_
                refine rq_v (op_rng rfl (by omega)) ?_
                rw [ey]
                refine rq_v (op_pure rfl) ?_
                refine rq_v (op_pure rfl) ?_
                refine rq_v (op_idx Try.underlying41 Try.sizeOf36 rfl rfl sa_near (by omega) (by omega)) ?_
                refine rq_v (op_fld Try.underlying36 rfl Try.sizeOf2 rfl rfl sa_near) ?_
                refine rq_r (fun wq hq => op_ldR Try.underlying2 rfl rfl ((S.gr hq).rd (i := 0) rfl) hcx) ?_
                refine rq_v (op_rng rfl (by omega)) ?_
                rw [ey2]
                refine rq_v (op_pure rfl) ?_
                refine rq_nil ?_
                intro w19_ g19_
                have S := S.gr g19_
                first | refine rw_end ?_ | (refine rw_nil ?_; show CW _ _ _ _ _ _) | refine rw_nil ?_
                repeat refine cw_seq ?_
                refine cw_draw (C := fun wq => Gr w19_ wq) [0, 1, 2, 3, 4, 5, 6, 7, 8, 9, 10, 11, 12] [] (by kernel_rfl) (by kernel_rfl) (Gr.drew _) ?_
                simp only [pickL, List.drop_succ_cons, List.drop_zero]
                refine rq_v (op_pure rfl) ?_
                refine rq_v (op_pure rfl) ?_
                refine rq_v (op_idx Try.underlying22 Try.sizeOf2 rfl rfl sa_out (by omega) (by omega)) ?_
                refine rq_r (fun wq hq => op_ldR Try.underlying2 rfl rfl ((S.gr hq).rd (i := 2) rfl) (cellsQ_get (by omega))) ?_
                refine rq_r (fun wq hq => op_loadAB Try.underlying25 rfl (Try.sizeOf25 _) rfl ((S.gr hq).blk (i := 3) rfl) rfl rfl) ?_
                refine rq_r (fun wq hq => op_loadAB Try.underlying36 rfl (Try.sizeOf36 _) rfl ((S.gr hq).blk (i := 1) rfl) rfl rfl) ?_
                refine rq_v (op_pure rfl) ?_
                refine rq_v (op_pure rfl) ?_
                refine rq_v (op_idx Try.underlying41 Try.sizeOf36 rfl rfl sa_near (by omega) (by omega)) ?_
                refine rq_r (fun wq hq => op_ldRA Try.underlying36 rfl (Try.sizeOf36 _) rfl ((S.gr hq).rd (i := 0) rfl) hat rfl rfl) ?_
                refine rq_call rfl (fun wq hq => (rstepR_E i y (by omega) (by omega) hyt.1 hV hn hB (hA.gr (S.gr hq).out)).mono (fun _ _ ⟨hv, hg⟩ => ⟨hv, hq.trans hg⟩)) ?_
                refine rq_v (op_rng rfl (by unfold far at *; omega)) ?_
                refine rq_v (op_pure rfl) ?_
                refine rq_nil ?_
                intro w20_ g20_
                have S := S.gr g20_
                first | refine rw_end ?_ | (refine rw_nil ?_; show CW _ _ _ _ _ _) | refine rw_nil ?_
                repeat refine cw_seq ?_
                refine cw_region ?_
                refine rw_v (op_pure rfl) ?_
                refine rw_v (op_pure rfl) ?_
                refine rw_v (op_idx Try.underlying22 Try.sizeOf2 rfl rfl sa_out (by omega) (by omega)) ?_
                refine rw_r (op_ldR Try.underlying2 rfl rfl (S.rd (i := 2) rfl) (cellsQ_get (by omega))) ?_
                first | refine rw_v (op_b (b := true) rfl (decide_eq_true (by omega))) ?_ | refine rw_v (op_b (b := false) rfl (decide_eq_false (by omega))) ?_ | refine rw_v (op_pure rfl) ?_
                refine rw_v (op_pure rfl) ?_
                first | refine rw_off rfl ?_ | (refine rw_on rfl ?_; refine rw_v (op_pure rfl) ?_)
                first | refine rw_off rfl ?_ | (refine rw_on rfl ?_; refine rw_v (op_pure rfl) ?_)
                first | refine rw_off rfl ?_ | (refine rw_on rfl ?_; refine rw_v (op_pure rfl) ?_)
                first | refine rw_off rfl ?_ | (refine rw_on rfl ?_; refine rw_v (op_idx Try.underlying22 Try.sizeOf2 rfl rfl sa_out (by omega) (by omega)) ?_)
                first | refine rw_off rfl ?_ | (refine rw_on rfl ?_; refine rw_r (op_ldR Try.underlying2 rfl rfl (S.rd (i := 2) rfl) (cellsQ_get (by omega))) ?_)
                first | refine rw_off rfl ?_ | (refine rw_on rfl ?_; (first | refine rw_v (op_b (b := true) rfl (decide_eq_true (by omega))) ?_ | refine rw_v (op_b (b := false) rfl (decide_eq_false (by omega))) ?_ | refine rw_v (op_pure rfl) ?_))
                refine rw_v (op_pure rfl) ?_
                first | refine rw_end ?_ | (refine rw_nil ?_; show CW _ _ _ _ _ _) | refine rw_nil ?_
                repeat refine cw_seq ?_
                refine cw_false rfl ?_
                repeat refine cw_seq ?_
                refine cw_skip ?_
                try show CW _ _ _ _ _ _
                repeat refine cw_seq ?_
                refine cw_region ?_
                refine rw_v (op_pure rfl) ?_
                refine rw_v (op_rng rfl (by omega)) ?_
                refine rw_v (op_pure rfl) ?_
                first | refine rw_end ?_ | (refine rw_nil ?_; show CW _ _ _ _ _ _) | refine rw_nil ?_
                exact ⟨m2 - 1, by omega, k + 1, fell, o, by omega, ho, ⟨rfl, rfl, rfl, rfl, rfl, rfl, rfl, ie (by omega), trivial⟩, hb.stay (by omega) (by omega) (by omega), S⟩
          · try simp only [decide_eq_true_eq, decide_eq_false_iff_not, beq_iff_eq, bne_iff_ne, beq_eq_false_iff_ne, bne_eq_false_iff_eq, Bool.not_eq_true', Bool.not_eq_false', ne_eq, Decidable.not_not, Int.natCast_inj, Int.ofNat_lt, Int.ofNat_le, gt_iff_lt, ge_iff_le, Int.not_lt, Int.not_le] at hc4
            rw [List.drop_eq_nil_of_le (by omega)] at hb
            repeat refine cw_seq ?_
            refine cw_exit ?_
            repeat first | refine exit_then ?_ | refine exit_inb ?_
            show CW _ _ _ _ _ _
            repeat refine cw_seq ?_
            refine cw_region ?_
            refine rw_v (op_pure rfl) ?_
            refine rw_v (op_rng rfl (by omega)) ?_
            refine rw_v (op_pure rfl) ?_
            first | refine rw_end ?_ | (refine rw_nil ?_; show CW _ _ _ _ _ _) | refine rw_nil ?_
            exact ⟨m' - 1, by omega, i + 1, fell, o, by omega, ⟨rfl, rfl, rfl, rfl, ie (by omega), trivial⟩, hb.leave, S.drop 2⟩
      · try simp only [decide_eq_true_eq, decide_eq_false_iff_not, beq_iff_eq, bne_iff_ne, beq_eq_false_iff_ne, bne_eq_false_iff_eq, Bool.not_eq_true', Bool.not_eq_false', ne_eq, Decidable.not_not, Int.natCast_inj, Int.ofNat_lt, Int.ofNat_le, gt_iff_lt, ge_iff_le, Int.not_lt, Int.not_le] at hc3
        obtain rfl : i = gw * gh := by omega
        cases fell with
        | false =>
          repeat refine cw_seq ?_
          refine cw_exit ?_
          repeat first | refine exit_then ?_ | refine exit_inb ?_
          show CW _ _ _ _ _ _
          repeat refine cw_seq ?_
          refine cw_region ?_
          refine rw_v (op_pure rfl) ?_
          refine rw_v (op_pure rfl) ?_
          first | refine rw_end ?_ | (refine rw_nil ?_; show CW _ _ _ _ _ _) | refine rw_nil ?_
          repeat refine cw_seq ?_
          refine cw_true rfl ?_
          repeat refine cw_seq ?_
          refine cw_region ?_
          refine rw_v (op_pure rfl) ?_
          refine rw_v (op_pure rfl) ?_
          first | refine rw_end ?_ | (refine rw_nil ?_; show CW _ _ _ _ _ _) | refine rw_nil ?_
          repeat refine cw_seq ?_
          refine cw_ret ?_
          repeat first | refine ret_then ?_ | refine ret_inb ?_
          rw [cellsQ_congr (fun j hj => hb.still hV hd ha (by omega) j (by omega))] at S
          exact res1 rfl (S.retNew (i := 0) (mk := id) rfl)
        | true =>
          repeat refine cw_seq ?_
          refine cw_exit ?_
          repeat first | refine exit_then ?_ | refine exit_inb ?_
          show CW _ _ _ _ _ _
          repeat refine cw_seq ?_
          refine cw_region ?_
          refine rw_v (op_pure rfl) ?_
          refine rw_v (op_pure rfl) ?_
          first | refine rw_end ?_ | (refine rw_nil ?_; show CW _ _ _ _ _ _) | refine rw_nil ?_
          repeat refine cw_seq ?_
          refine cw_false rfl ?_
          repeat refine cw_seq ?_
          refine cw_skip ?_
          try show CW _ _ _ _ _ _
          repeat refine cw_seq ?_
          refine cw_region ?_
          refine rw_v (op_pure rfl) ?_
          refine rw_v (op_rng rfl (by omega)) ?_
          refine rw_v (op_pure rfl) ?_
          first | refine rw_end ?_ | (refine rw_nil ?_; show CW _ _ _ _ _ _) | refine rw_nil ?_
          exact ⟨m - 1, by omega, r + 1, o, by omega, ⟨rfl, rfl, ie (by omega), trivial⟩, hb.next hV hd, S⟩
    · try simp only [decide_eq_true_eq, decide_eq_false_iff_not, beq_iff_eq, bne_iff_ne, beq_eq_false_iff_ne, bne_eq_false_iff_eq, Bool.not_eq_true', Bool.not_eq_false', ne_eq, Decidable.not_not, Int.natCast_inj, Int.ofNat_lt, Int.ofNat_le, gt_iff_lt, ge_iff_le, Int.not_lt, Int.not_le] at hc2
      repeat refine cw_seq ?_
      refine cw_exit ?_
      repeat first | refine exit_then ?_ | refine exit_inb ?_
      show CW _ _ _ _ _ _
      repeat refine cw_seq ?_
      refine cw_region ?_
      refine rw_v (op_pure rfl) ?_
      refine rw_v (op_pure rfl) ?_
      first | refine rw_end ?_ | (refine rw_nil ?_; show CW _ _ _ _ _ _) | refine rw_nil ?_
      repeat refine cw_seq ?_
      refine cw_ret ?_
      repeat first | refine ret_then ?_ | refine ret_inb ?_
      rw [cellsQ_congr (fun j hj => hb.last (by omega) j (by omega))] at S
      exact res1 rfl (S.retNew (i := 0) (mk := id) rfl)
end
end Go.Proofs.Ytmdkjohllinphaa
