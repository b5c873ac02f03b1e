/- hachureref49.Of, hachurelaw49.same: contracts. -/
import Derived.Test.YteihfmifelcidaaZLZOOf
import Derived.Test.YteihfmifelcidaaZK
namespace Go.Proofs.Yteihfmifelcidaa
open Go.RowKit
set_option linter.unusedVariables false
set_option linter.unusedSimpArgs false
set_option maxRecDepth 100000

theorem arT_bnd {l : List Zn} {M : Nat} (h : ∀ z, z ∈ l → 0 ≤ z.ar ∧ z.ar ≤ M) : ∀ i : Nat, i ≤ l.length → 0 ≤ arT l i ∧ arT l i ≤ M * i
  | 0, _ => by simp [arT]
  | i + 1, hi => by
    have ih := arT_bnd h i (by omega)
    have hz := h _ (List.getElem_mem (show i < l.length by omega))
    rw [arT_succ (List.getElem?_eq_getElem (show i < l.length by omega))]
    generalize l[i].ar = x at *
    have : (M : Int) * ((i + 1 : Nat) : Int) = M * i + M := by push_cast; rw [Int.mul_add, Int.mul_one]
    rw [this]
    generalize (M : Int) * i = y at *
    omega
theorem smT_bnd {l : List Zn} {M : Nat} (h : ∀ z, z ∈ l → -(M : Int) ≤ z.sm ∧ z.sm ≤ M) : ∀ i : Nat, i ≤ l.length → -((M : Int) * i) ≤ smT l i ∧ smT l i ≤ M * i
  | 0, _ => by simp [smT]
  | i + 1, hi => by
    have ih := smT_bnd h i (by omega)
    have hz := h _ (List.getElem_mem (show i < l.length by omega))
    rw [smT_succ (List.getElem?_eq_getElem (show i < l.length by omega))]
    generalize l[i].sm = x at *
    have : (M : Int) * ((i + 1 : Nat) : Int) = M * i + M := by push_cast; rw [Int.mul_add, Int.mul_one]
    rw [this]
    generalize (M : Int) * i = y at *
    omega
section
variable {W : World} {A B : Option Addr} {gw gh m n c cb : Nat} {V L : List Int}
set_option maxHeartbeats 8000000 in
theorem rzones_E (hw : 1 ≤ gw) (hm : gw * gh ≤ 1048576) (hV : V.length = gw * gh) (hL : L.length = gw * gh) (hmV : m = gw * gh) (hn : n = gw * gh) (hb : ∀ j, -2147483648 ≤ V.getD j 0 ∧ V.getD j 0 ≤ 2147483647) (hA : Rd W A (ints V)) (hB : Rd W B (ints L)) :
    Fn Try.prog 24 [.agg #[.int .i64 gw, .int .i64 gh, .slice A m c], .slice B n cb] W (RetNew id 127 7 (refLab L (gw * gh)).length (((refLab L (gw * gh)).map fun a => znN V L a (gw * gh)).flatMap (encZ gw)) W) := by
  subst hmV hn
  have hlab := fun w (h : Rd w B (ints L)) => rlab_E (W := w) (A := B) (cap := cb) (L := L) (by omega) h
  rw [hL] at hlab
  have hll := refLab_len (L := L) (gw * gh)
  generalize hlb : refLab L (gw * gh) = lb at *
  have hgetV : ∀ i, i < gw * gh → (ints V)[(i : Int).toNat * 1]? = some (.int .i64 (V.getD i 0)) := fun i hi => by rw [Nat.mul_one, Int.toNat_natCast]; exact ints_get (getD_at (by omega))
  have hgetL : ∀ i, i < gw * gh → (ints L)[(i : Int).toNat * 1]? = some (.int .i64 (L.getD i 0)) := fun i hi => by rw [Nat.mul_one, Int.toNat_natCast]; exact ints_get (getD_at (by omega))
  have S := St.start W
  refine Fn_enter Try.func24 rfl Try.results24 Try.ntmps24 (by kernel_rfl) (by kernel_rfl) ?_
  repeat refine cw_seq ?_
  refine cw_region ?_
  refine rw_newB (op_box rfl) S ?_
  intro b_md w2_ g2_ S
  refine rw_v (op_pure rfl) ?_
  first | refine rw_end ?_ | (refine rw_nil ?_; show CW _ _ _ _ _ _) | refine rw_nil ?_
  repeat refine cw_seq ?_
  refine cw_region ?_
  refine rw_v (op_pure rfl) ?_
  refine rw_call rfl (hlab w2_ (hB.gr S.out)) ?_
  rintro _ w3_ ⟨A_lab, c_lab, rfl, hR_lab, hf_lab, g3_⟩
  have S := S.pushRow hR_lab hf_lab g3_
  refine rw_v (op_pure rfl) ?_
  first | refine rw_end ?_ | (refine rw_nil ?_; show CW _ _ _ _ _ _) | refine rw_nil ?_
  repeat refine cw_seq ?_
  refine cw_region ?_
  refine rw_buildS0 Try.underlying56 Try.sizeOf127 S ?_
  intro A_out w5_ g5_ S sa_out
  refine rw_v (op_pure rfl) ?_
  first | refine rw_end ?_ | (refine rw_nil ?_; show CW _ _ _ _ _ _) | refine rw_nil ?_
  repeat refine cw_seq ?_
  refine cw_region ?_
  refine rw_v (op_pure rfl) ?_
  first | refine rw_end ?_ | (refine rw_nil ?_; show CW _ _ _ _ _ _) | refine rw_nil ?_
  repeat refine cw_seq ?_
  refine cw_block ?_
  repeat refine cw_seq ?_
  refine cw_loop (fun q e w => ∃ (k : Nat) (A2 : Option Addr) (c2 : Nat), k + q = lb.length ∧ SL e [(1, .slice B (gw * gh) cb), (2, .pointer (some ⟨b_md, 0, none⟩)), (5, .slice A_lab lb.length c_lab), (6, .slice A2 k c2), (7, .int .i64 k)] ∧
    St No W w [.row 127 7 A2 k c2 (((lb.take k).map fun a => znN V L a (gw * gh)).flatMap (encZ gw)), .row 2 1 A_lab lb.length c_lab (ints lb), .blk b_md 25 [.int .i64 gw, .int .i64 gh, .slice A (gw * gh) c]]) lb.length
    ⟨0, A_out, 0, by omega, ⟨rfl, rfl, rfl, rfl, rfl, trivial⟩, S⟩ ?_
  clear S sa_out
  rintro q e w ⟨k, A2, c2, hk, hsl, S⟩
  rw [hsl.fold]
  repeat refine cw_seq ?_
  refine cw_region ?_
  iterate 2 refine rw_v (op_pure rfl) ?_
  refine rw_v (op_len Try.underlying22 rfl) ?_
  refine rw_v (op_pure rfl) ?_
  first | refine rw_end ?_ | (refine rw_nil ?_; show CW _ _ _ _ _ _) | refine rw_nil ?_
  repeat refine cw_seq ?_
  refine cw_cond rfl (fun hc => ?_) (fun hc => ?_)
  · try simp only [decide_eq_true_eq, decide_eq_false_iff_not, beq_iff_eq, bne_iff_ne, beq_eq_false_iff_ne, bne_eq_false_iff_eq, Bool.not_eq_true', Bool.not_eq_false', ne_eq, Decidable.not_not, Int.natCast_inj, Int.ofNat_lt, Int.ofNat_le, gt_iff_lt, ge_iff_le, Int.not_lt, Int.not_le] at hc
    have hkn : k < lb.length := by omega
    have hlk : (ints lb)[(k : Int).toNat * 1]? = some (.int .i64 (lb.getD k 0)) := by rw [Nat.mul_one, Int.toNat_natCast]; exact ints_get (getD_at hkn)
    have htk : ((lb.take (k + 1)).map fun a => znN V L a (gw * gh)).flatMap (encZ gw) = ((lb.take k).map fun a => znN V L a (gw * gh)).flatMap (encZ gw) ++ encZ gw (znN V L (lb.getD k 0) (gw * gh)) := by
      rw [List.take_add_one, getD_at hkn, List.map_append, List.flatMap_append]; simp
    have sa_lab : SomeA A_lab := (S.row (i := 1) rfl).someA (by omega)
    generalize hak : lb.getD k 0 = a at *
    repeat refine cw_seq ?_
    refine cw_skip ?_
    try show CW _ _ _ _ _ _
    repeat refine cw_seq ?_
    refine cw_block ?_
    repeat refine cw_seq ?_
    refine cw_region ?_
    iterate 2 refine rw_v (op_pure rfl) ?_
    refine rw_v (op_idx Try.underlying22 Try.sizeOf2 rfl rfl sa_lab (by omega) (by omega)) ?_
    refine rw_r (op_ldR Try.underlying2 rfl rfl (S.rd (i := 1) rfl) hlk) ?_
    refine rw_v (op_build (pl := [(0, 1), (1, 1), (2, 1), (3, 1), (4, 1), (5, 2)]) Try.underlying127 Try.zeroValue127 (fun w => by kernel_rfl) rfl rfl) ?_
    refine rw_newB (op_alloc Try.zeroValue127 rfl) S ?_
    intro b_z w7_ g7_ S
    refine rw_storeSA (i := 0) S rfl (Try.sizeOf127 _) rfl rfl rfl rfl rfl rfl ?_
    intro w8_ S
    first | refine rw_end ?_ | (refine rw_nil ?_; show CW _ _ _ _ _ _) | refine rw_nil ?_
    repeat refine cw_seq ?_
    refine cw_region ?_
    refine rw_v (op_pure rfl) ?_
    first | refine rw_end ?_ | (refine rw_nil ?_; show CW _ _ _ _ _ _) | refine rw_nil ?_
    repeat refine cw_seq ?_
    refine cw_block ?_
    repeat refine cw_seq ?_
    refine cw_loop (fun q2 e w => ∃ i : Nat, i + q2 = gw * gh ∧ SL e [(1, .slice B (gw * gh) cb), (2, .pointer (some ⟨b_md, 0, none⟩)), (5, .slice A_lab lb.length c_lab), (6, .slice A2 k c2), (7, .int .i64 k), (8, .pointer (some ⟨b_z, 0, none⟩)), (9, .int .i64 i)] ∧
      St No W w [.blk b_z 127 (encZ gw (znN V L a i)), .row 127 7 A2 k c2 (((lb.take k).map fun a => znN V L a (gw * gh)).flatMap (encZ gw)), .row 2 1 A_lab lb.length c_lab (ints lb), .blk b_md 25 [.int .i64 gw, .int .i64 gh, .slice A (gw * gh) c]]) (gw * gh)
      ⟨0, by omega, ⟨rfl, rfl, rfl, rfl, rfl, rfl, rfl, trivial⟩, by rw [show encZ gw (znN V L a 0) = [.int .i64 a, .int .i64 0, .int .i64 0, .int .i64 0, .int .i64 0, .int .i64 0, .int .i64 0] by simp [encZ, znN]]; exact S⟩ ?_
    clear S
    rintro q2 e2 w2 ⟨i, hi, hsl2, S⟩
    rw [hsl2.fold]
    by_cases hin : i < gw * gh
    · have hsa : 0 < gw * gh := by omega
      have sa_A : SomeA A := hA.someA (by rw [ints_len]; omega)
      have sa_B : SomeA B := hB.someA (by rw [ints_len]; omega)
      have hbi := hb i
      have hgV := hgetV i hin
      have hgL := hgetL i hin
      by_cases hla : L.getD i 0 = a
      · have hz1 : znN V L a (i + 1) = znAdd (znN V L a i) (V.getD i 0) i := by show (if _ then _ else _) = _; rw [if_pos hla]
        have hzb := znN_bnd (L := L) (k := a) hb i
        have em : (i : Int) % gw = ((i % gw : Nat) : Int) := by push_cast; rfl
        have ed : (i : Int) / gw = ((i / gw : Nat) : Int) := by push_cast; rfl
        generalize V.getD i 0 = v at *
        generalize znN V L a i = z0 at *
        obtain ⟨zl, za, zs, zn, zx, zf⟩ := z0
        unfold encZ at S
        dsimp only at S hzb
        unfold znAdd at hz1
        dsimp only at hz1
        by_cases h0 : za = 0
        · rw [if_pos h0] at hz1
          subst h0
          repeat refine cw_seq ?_
          refine cw_region ?_
          iterate 2 refine rw_v (op_pure rfl) ?_
          refine rw_v (op_len Try.underlying22 rfl) ?_
          refine rw_v (op_b (b := true) rfl (decide_eq_true (by omega))) ?_
          first | refine rw_end ?_ | (refine rw_nil ?_; show CW _ _ _ _ _ _) | refine rw_nil ?_
          repeat refine cw_seq ?_
          refine cw_true rfl ?_
          repeat refine cw_seq ?_
          refine cw_skip ?_
          try show CW _ _ _ _ _ _
          repeat refine cw_seq ?_
          refine cw_block ?_
          repeat refine cw_seq ?_
          refine cw_draw (C := fun wq => Gr w2 wq) [0, 1, 2, 3, 4, 5, 6, 7, 8] [] (by kernel_rfl) (by kernel_rfl) (Gr.drew _) ?_
          simp only [pickL, List.drop_succ_cons, List.drop_zero]
          iterate 2 refine rq_v (op_pure rfl) ?_
          refine rq_v (op_idx Try.underlying22 Try.sizeOf2 rfl rfl sa_B (by omega) (by omega)) ?_
          refine rq_r (fun wq hq => op_ldR Try.underlying2 rfl rfl (hB.gr (S.gr hq).out) hgL) ?_
          iterate 2 refine rq_v (op_pure rfl) ?_
          refine rq_v (op_idx Try.underlying22 Try.sizeOf2 rfl rfl sa_lab (by omega) (by omega)) ?_
          refine rq_r (fun wq hq => op_ldR Try.underlying2 rfl rfl ((S.gr hq).rd (i := 2) rfl) hlk) ?_
          refine rq_v (op_b (b := false) rfl (bne_eq_false_iff_eq.2 (by omega))) ?_
          refine rq_nil ?_
          intro w9_ g9_
          have S := S.gr g9_
          first | refine rw_end ?_ | (refine rw_nil ?_; show CW _ _ _ _ _ _) | refine rw_nil ?_
          repeat refine cw_seq ?_
          refine cw_false rfl ?_
          repeat refine cw_seq ?_
          refine cw_skip ?_
          try show CW _ _ _ _ _ _
          repeat refine cw_seq ?_
          refine cw_region ?_
          refine rw_v (op_fieldAddr Try.underlying127 rfl Try.sizeOf2 rfl rfl) ?_
          refine rw_r (op_loadB Try.underlying2 rfl rfl (S.blk (i := 0) rfl) rfl) ?_
          refine rw_v (op_b (b := true) rfl (beq_iff_eq.2 (by omega))) ?_
          first | refine rw_end ?_ | (refine rw_nil ?_; show CW _ _ _ _ _ _) | refine rw_nil ?_
          repeat refine cw_seq ?_
          refine cw_true rfl ?_
          repeat refine cw_seq ?_
          refine cw_region ?_
          refine rw_v (op_fieldAddr Try.underlying25 rfl Try.sizeOf22 rfl rfl) ?_
          refine rw_r (op_loadB Try.underlying22 rfl rfl (S.blk (i := 3) rfl) rfl) ?_
          refine rw_v (op_pure rfl) ?_
          refine rw_v (op_idx Try.underlying22 Try.sizeOf2 rfl rfl sa_A (by omega) (by omega)) ?_
          refine rw_r (op_ldR Try.underlying2 rfl rfl (hA.gr S.out) hgV) ?_
          refine rw_v (op_fieldAddr Try.underlying127 rfl Try.sizeOf2 rfl rfl) ?_
          refine rw_storeS (i := 0) S rfl (Try.sizeOf2 _) rfl rfl rfl rfl rfl rfl ?_
          intro w10_ S
          first | refine rw_end ?_ | (refine rw_nil ?_; show CW _ _ _ _ _ _) | refine rw_nil ?_
          repeat refine cw_seq ?_
          refine cw_region ?_
          refine rw_v (op_fieldAddr Try.underlying25 rfl Try.sizeOf22 rfl rfl) ?_
          refine rw_r (op_loadB Try.underlying22 rfl rfl (S.blk (i := 3) rfl) rfl) ?_
          refine rw_v (op_pure rfl) ?_
          refine rw_v (op_idx Try.underlying22 Try.sizeOf2 rfl rfl sa_A (by omega) (by omega)) ?_
          refine rw_r (op_ldR Try.underlying2 rfl rfl (hA.gr S.out) hgV) ?_
          refine rw_v (op_fieldAddr Try.underlying127 rfl Try.sizeOf2 rfl rfl) ?_
          refine rw_storeS (i := 0) S rfl (Try.sizeOf2 _) rfl rfl rfl rfl rfl rfl ?_
          intro w11_ S
          first | refine rw_end ?_ | (refine rw_nil ?_; show CW _ _ _ _ _ _) | refine rw_nil ?_
          repeat refine cw_seq ?_
          refine cw_draw (C := fun wq => Gr w11_ wq) [0, 1, 2, 3, 4, 5, 6, 7] [8, 9, 10] (by kernel_rfl) (by kernel_rfl) (Gr.drew _) ?_
          simp only [pickL, List.drop_succ_cons, List.drop_zero]
          refine rq_v (op_pure rfl) ?_
          refine rq_v (op_fieldAddr Try.underlying25 rfl Try.sizeOf2 rfl rfl) ?_
          refine rq_r (fun wq hq => op_loadB Try.underlying2 rfl rfl ((S.gr hq).blk (i := 3) rfl) rfl) ?_
          refine rq_v (op_rem rfl rfl (by omega) (by omega)) ?_
          rw [em]
          refine rq_v (op_pure rfl) ?_
          refine rq_v (op_fieldAddr Try.underlying25 rfl Try.sizeOf2 rfl rfl) ?_
          refine rq_r (fun wq hq => op_loadB Try.underlying2 rfl rfl ((S.gr hq).blk (i := 3) rfl) rfl) ?_
          refine rq_v (op_div rfl rfl (by omega) (by omega)) ?_
          rw [ed]
          refine rq_nil ?_
          intro w12_ g12_
          have S := S.gr g12_
          refine rw_v (op_build (pl := [(0, 1), (1, 1)]) Try.underlying39 Try.zeroValue39 (fun w => by kernel_rfl) rfl rfl) ?_
          refine rw_v (op_fieldAddr Try.underlying127 rfl Try.sizeOf39 rfl rfl) ?_
          refine rw_storeSA (i := 0) S rfl (Try.sizeOf39 _) rfl rfl rfl rfl rfl rfl ?_
          intro w13_ S
          first | refine rw_end ?_ | (refine rw_nil ?_; show CW _ _ _ _ _ _) | refine rw_nil ?_
          repeat refine cw_seq ?_
          refine cw_region ?_
          refine rw_v (op_fieldAddr Try.underlying127 rfl Try.sizeOf2 rfl rfl) ?_
          refine rw_r (op_loadB Try.underlying2 rfl rfl (S.blk (i := 0) rfl) rfl) ?_
          refine rw_v (op_rng rfl (by omega)) ?_
          refine rw_v (op_fieldAddr Try.underlying127 rfl Try.sizeOf2 rfl rfl) ?_
          refine rw_storeS (i := 0) S rfl (Try.sizeOf2 _) rfl rfl rfl rfl rfl rfl ?_
          intro w14_ S
          first | refine rw_end ?_ | (refine rw_nil ?_; show CW _ _ _ _ _ _) | refine rw_nil ?_
          repeat refine cw_seq ?_
          refine cw_draw (C := fun wq => Gr w14_ wq) [0, 1, 2, 3, 4, 5, 6] [7, 8, 9] (by kernel_rfl) (by kernel_rfl) (Gr.drew _) ?_
          simp only [pickL, List.drop_succ_cons, List.drop_zero]
          refine rq_v (op_fieldAddr Try.underlying127 rfl Try.sizeOf2 rfl rfl) ?_
          refine rq_r (fun wq hq => op_loadB Try.underlying2 rfl rfl ((S.gr hq).blk (i := 0) rfl) rfl) ?_
          refine rq_v (op_fieldAddr Try.underlying25 rfl Try.sizeOf22 rfl rfl) ?_
          refine rq_r (fun wq hq => op_loadB Try.underlying22 rfl rfl ((S.gr hq).blk (i := 3) rfl) rfl) ?_
          refine rq_v (op_pure rfl) ?_
          refine rq_v (op_idx Try.underlying22 Try.sizeOf2 rfl rfl sa_A (by omega) (by omega)) ?_
          refine rq_r (fun wq hq => op_ldR Try.underlying2 rfl rfl (hA.gr (S.gr hq).out) hgV) ?_
          refine rq_nil ?_
          intro w15_ g15_
          have S := S.gr g15_
          refine rw_v (op_rng rfl (by omega)) ?_
          refine rw_v (op_fieldAddr Try.underlying127 rfl Try.sizeOf2 rfl rfl) ?_
          refine rw_storeS (i := 0) S rfl (Try.sizeOf2 _) rfl rfl rfl rfl rfl rfl ?_
          intro w16_ S
          first | refine rw_end ?_ | (refine rw_nil ?_; show CW _ _ _ _ _ _) | refine rw_nil ?_
          repeat refine cw_seq ?_
          refine cw_draw (C := fun wq => Gr w16_ wq) [0, 1, 2, 3, 4, 5, 6, 7] [] (by kernel_rfl) (by kernel_rfl) (Gr.drew _) ?_
          simp only [pickL, List.drop_succ_cons, List.drop_zero]
          refine rq_v (op_fieldAddr Try.underlying25 rfl Try.sizeOf22 rfl rfl) ?_
          refine rq_r (fun wq hq => op_loadB Try.underlying22 rfl rfl ((S.gr hq).blk (i := 3) rfl) rfl) ?_
          refine rq_v (op_pure rfl) ?_
          refine rq_v (op_idx Try.underlying22 Try.sizeOf2 rfl rfl sa_A (by omega) (by omega)) ?_
          refine rq_r (fun wq hq => op_ldR Try.underlying2 rfl rfl (hA.gr (S.gr hq).out) hgV) ?_
          refine rq_v (op_fieldAddr Try.underlying127 rfl Try.sizeOf2 rfl rfl) ?_
          refine rq_r (fun wq hq => op_loadB Try.underlying2 rfl rfl ((S.gr hq).blk (i := 0) rfl) rfl) ?_
          refine rq_v (op_b (b := false) rfl (decide_eq_false (by omega))) ?_
          refine rq_nil ?_
          intro w17_ g17_
          have S := S.gr g17_
          first | refine rw_end ?_ | (refine rw_nil ?_; show CW _ _ _ _ _ _) | refine rw_nil ?_
          repeat refine cw_seq ?_
          refine cw_false rfl ?_
          repeat refine cw_seq ?_
          refine cw_skip ?_
          try show CW _ _ _ _ _ _
          repeat refine cw_seq ?_
          refine cw_draw (C := fun wq => Gr w17_ wq) [0, 1, 2, 3, 4, 5, 6, 7] [] (by kernel_rfl) (by kernel_rfl) (Gr.drew _) ?_
          simp only [pickL, List.drop_succ_cons, List.drop_zero]
          refine rq_v (op_fieldAddr Try.underlying25 rfl Try.sizeOf22 rfl rfl) ?_
          refine rq_r (fun wq hq => op_loadB Try.underlying22 rfl rfl ((S.gr hq).blk (i := 3) rfl) rfl) ?_
          refine rq_v (op_pure rfl) ?_
          refine rq_v (op_idx Try.underlying22 Try.sizeOf2 rfl rfl sa_A (by omega) (by omega)) ?_
          refine rq_r (fun wq hq => op_ldR Try.underlying2 rfl rfl (hA.gr (S.gr hq).out) hgV) ?_
          refine rq_v (op_fieldAddr Try.underlying127 rfl Try.sizeOf2 rfl rfl) ?_
          refine rq_r (fun wq hq => op_loadB Try.underlying2 rfl rfl ((S.gr hq).blk (i := 0) rfl) rfl) ?_
          refine rq_v (op_b (b := false) rfl (decide_eq_false (by omega))) ?_
          refine rq_nil ?_
          intro w18_ g18_
          have S := S.gr g18_
          first | refine rw_end ?_ | (refine rw_nil ?_; show CW _ _ _ _ _ _) | refine rw_nil ?_
          repeat refine cw_seq ?_
          refine cw_false rfl ?_
          repeat refine cw_seq ?_
          refine cw_skip ?_
          try show CW _ _ _ _ _ _
          repeat refine cw_seq ?_
          refine cw_region ?_
          refine rw_v (op_pure rfl) ?_
          refine rw_v (op_rng rfl (by omega)) ?_
          refine rw_v (op_pure rfl) ?_
          first | refine rw_end ?_ | (refine rw_nil ?_; show CW _ _ _ _ _ _) | refine rw_nil ?_
          exact ⟨q2 - 1, by omega, i + 1, by omega, ⟨rfl, rfl, rfl, rfl, rfl, rfl, ie (by omega), trivial⟩, by rw [hz1]; exact S⟩
        · rw [if_neg h0] at hz1
          by_cases hmn : v < zn
          · rw [Int.min_eq_right (by omega)] at hz1
            by_cases hmx : v > zx
            · rw [Int.max_eq_right (by omega)] at hz1
              repeat refine cw_seq ?_
              refine cw_region ?_
              iterate 2 refine rw_v (op_pure rfl) ?_
              refine rw_v (op_len Try.underlying22 rfl) ?_
              refine rw_v (op_b (b := true) rfl (decide_eq_true (by omega))) ?_
              first | refine rw_end ?_ | (refine rw_nil ?_; show CW _ _ _ _ _ _) | refine rw_nil ?_
              repeat refine cw_seq ?_
              refine cw_true rfl ?_
              repeat refine cw_seq ?_
              refine cw_skip ?_
              try show CW _ _ _ _ _ _
              repeat refine cw_seq ?_
              refine cw_block ?_
              repeat refine cw_seq ?_
              refine cw_draw (C := fun wq => Gr w2 wq) [0, 1, 2, 3, 4, 5, 6, 7, 8] [] (by kernel_rfl) (by kernel_rfl) (Gr.drew _) ?_
              simp only [pickL, List.drop_succ_cons, List.drop_zero]
              iterate 2 refine rq_v (op_pure rfl) ?_
              refine rq_v (op_idx Try.underlying22 Try.sizeOf2 rfl rfl sa_B (by omega) (by omega)) ?_
              refine rq_r (fun wq hq => op_ldR Try.underlying2 rfl rfl (hB.gr (S.gr hq).out) hgL) ?_
              iterate 2 refine rq_v (op_pure rfl) ?_
              refine rq_v (op_idx Try.underlying22 Try.sizeOf2 rfl rfl sa_lab (by omega) (by omega)) ?_
              refine rq_r (fun wq hq => op_ldR Try.underlying2 rfl rfl ((S.gr hq).rd (i := 2) rfl) hlk) ?_
              refine rq_v (op_b (b := false) rfl (bne_eq_false_iff_eq.2 (by omega))) ?_
              refine rq_nil ?_
              intro w19_ g19_
              have S := S.gr g19_
              first | refine rw_end ?_ | (refine rw_nil ?_; show CW _ _ _ _ _ _) | refine rw_nil ?_
              repeat refine cw_seq ?_
              refine cw_false rfl ?_
              repeat refine cw_seq ?_
              refine cw_skip ?_
              try show CW _ _ _ _ _ _
              repeat refine cw_seq ?_
              refine cw_region ?_
              refine rw_v (op_fieldAddr Try.underlying127 rfl Try.sizeOf2 rfl rfl) ?_
              refine rw_r (op_loadB Try.underlying2 rfl rfl (S.blk (i := 0) rfl) rfl) ?_
              refine rw_v (op_b (b := false) rfl (beq_eq_false_iff_ne.2 (by omega))) ?_
              first | refine rw_end ?_ | (refine rw_nil ?_; show CW _ _ _ _ _ _) | refine rw_nil ?_
              repeat refine cw_seq ?_
              refine cw_false rfl ?_
              repeat refine cw_seq ?_
              refine cw_skip ?_
              try show CW _ _ _ _ _ _
              repeat refine cw_seq ?_
              refine cw_region ?_
              refine rw_v (op_fieldAddr Try.underlying127 rfl Try.sizeOf2 rfl rfl) ?_
              refine rw_r (op_loadB Try.underlying2 rfl rfl (S.blk (i := 0) rfl) rfl) ?_
              refine rw_v (op_rng rfl (by omega)) ?_
              refine rw_v (op_fieldAddr Try.underlying127 rfl Try.sizeOf2 rfl rfl) ?_
              refine rw_storeS (i := 0) S rfl (Try.sizeOf2 _) rfl rfl rfl rfl rfl rfl ?_
              intro w20_ S
              first | refine rw_end ?_ | (refine rw_nil ?_; show CW _ _ _ _ _ _) | refine rw_nil ?_
              repeat refine cw_seq ?_
              refine cw_draw (C := fun wq => Gr w20_ wq) [0, 1, 2, 3, 4, 5, 6] [7, 8, 9] (by kernel_rfl) (by kernel_rfl) (Gr.drew _) ?_
              simp only [pickL, List.drop_succ_cons, List.drop_zero]
              refine rq_v (op_fieldAddr Try.underlying127 rfl Try.sizeOf2 rfl rfl) ?_
              refine rq_r (fun wq hq => op_loadB Try.underlying2 rfl rfl ((S.gr hq).blk (i := 0) rfl) rfl) ?_
              refine rq_v (op_fieldAddr Try.underlying25 rfl Try.sizeOf22 rfl rfl) ?_
              refine rq_r (fun wq hq => op_loadB Try.underlying22 rfl rfl ((S.gr hq).blk (i := 3) rfl) rfl) ?_
              refine rq_v (op_pure rfl) ?_
              refine rq_v (op_idx Try.underlying22 Try.sizeOf2 rfl rfl sa_A (by omega) (by omega)) ?_
              refine rq_r (fun wq hq => op_ldR Try.underlying2 rfl rfl (hA.gr (S.gr hq).out) hgV) ?_
              refine rq_nil ?_
              intro w21_ g21_
              have S := S.gr g21_
              refine rw_v (op_rng rfl (by omega)) ?_
              refine rw_v (op_fieldAddr Try.underlying127 rfl Try.sizeOf2 rfl rfl) ?_
              refine rw_storeS (i := 0) S rfl (Try.sizeOf2 _) rfl rfl rfl rfl rfl rfl ?_
              intro w22_ S
              first | refine rw_end ?_ | (refine rw_nil ?_; show CW _ _ _ _ _ _) | refine rw_nil ?_
              repeat refine cw_seq ?_
              refine cw_draw (C := fun wq => Gr w22_ wq) [0, 1, 2, 3, 4, 5, 6, 7] [] (by kernel_rfl) (by kernel_rfl) (Gr.drew _) ?_
              simp only [pickL, List.drop_succ_cons, List.drop_zero]
              refine rq_v (op_fieldAddr Try.underlying25 rfl Try.sizeOf22 rfl rfl) ?_
              refine rq_r (fun wq hq => op_loadB Try.underlying22 rfl rfl ((S.gr hq).blk (i := 3) rfl) rfl) ?_
              refine rq_v (op_pure rfl) ?_
              refine rq_v (op_idx Try.underlying22 Try.sizeOf2 rfl rfl sa_A (by omega) (by omega)) ?_
              refine rq_r (fun wq hq => op_ldR Try.underlying2 rfl rfl (hA.gr (S.gr hq).out) hgV) ?_
              refine rq_v (op_fieldAddr Try.underlying127 rfl Try.sizeOf2 rfl rfl) ?_
              refine rq_r (fun wq hq => op_loadB Try.underlying2 rfl rfl ((S.gr hq).blk (i := 0) rfl) rfl) ?_
              refine rq_v (op_b (b := true) rfl (decide_eq_true (by omega))) ?_
              refine rq_nil ?_
              intro w23_ g23_
              have S := S.gr g23_
              first | refine rw_end ?_ | (refine rw_nil ?_; show CW _ _ _ _ _ _) | refine rw_nil ?_
              repeat refine cw_seq ?_
              refine cw_true rfl ?_
              repeat refine cw_seq ?_
              refine cw_region ?_
              refine rw_v (op_fieldAddr Try.underlying25 rfl Try.sizeOf22 rfl rfl) ?_
              refine rw_r (op_loadB Try.underlying22 rfl rfl (S.blk (i := 3) rfl) rfl) ?_
              refine rw_v (op_pure rfl) ?_
              refine rw_v (op_idx Try.underlying22 Try.sizeOf2 rfl rfl sa_A (by omega) (by omega)) ?_
              refine rw_r (op_ldR Try.underlying2 rfl rfl (hA.gr S.out) hgV) ?_
              refine rw_v (op_fieldAddr Try.underlying127 rfl Try.sizeOf2 rfl rfl) ?_
              refine rw_storeS (i := 0) S rfl (Try.sizeOf2 _) rfl rfl rfl rfl rfl rfl ?_
              intro w24_ S
              first | refine rw_end ?_ | (refine rw_nil ?_; show CW _ _ _ _ _ _) | refine rw_nil ?_
              repeat refine cw_seq ?_
              refine cw_draw (C := fun wq => Gr w24_ wq) [0, 1, 2, 3, 4, 5, 6, 7] [] (by kernel_rfl) (by kernel_rfl) (Gr.drew _) ?_
              simp only [pickL, List.drop_succ_cons, List.drop_zero]
              refine rq_v (op_fieldAddr Try.underlying25 rfl Try.sizeOf22 rfl rfl) ?_
              refine rq_r (fun wq hq => op_loadB Try.underlying22 rfl rfl ((S.gr hq).blk (i := 3) rfl) rfl) ?_
              refine rq_v (op_pure rfl) ?_
              refine rq_v (op_idx Try.underlying22 Try.sizeOf2 rfl rfl sa_A (by omega) (by omega)) ?_
              refine rq_r (fun wq hq => op_ldR Try.underlying2 rfl rfl (hA.gr (S.gr hq).out) hgV) ?_
              refine rq_v (op_fieldAddr Try.underlying127 rfl Try.sizeOf2 rfl rfl) ?_
              refine rq_r (fun wq hq => op_loadB Try.underlying2 rfl rfl ((S.gr hq).blk (i := 0) rfl) rfl) ?_
              refine rq_v (op_b (b := true) rfl (decide_eq_true (by omega))) ?_
              refine rq_nil ?_
              intro w25_ g25_
              have S := S.gr g25_
              first | refine rw_end ?_ | (refine rw_nil ?_; show CW _ _ _ _ _ _) | refine rw_nil ?_
              repeat refine cw_seq ?_
              refine cw_true rfl ?_
              repeat refine cw_seq ?_
              refine cw_region ?_
              refine rw_v (op_fieldAddr Try.underlying25 rfl Try.sizeOf22 rfl rfl) ?_
              refine rw_r (op_loadB Try.underlying22 rfl rfl (S.blk (i := 3) rfl) rfl) ?_
              refine rw_v (op_pure rfl) ?_
              refine rw_v (op_idx Try.underlying22 Try.sizeOf2 rfl rfl sa_A (by omega) (by omega)) ?_
              refine rw_r (op_ldR Try.underlying2 rfl rfl (hA.gr S.out) hgV) ?_
              refine rw_v (op_fieldAddr Try.underlying127 rfl Try.sizeOf2 rfl rfl) ?_
              refine rw_storeS (i := 0) S rfl (Try.sizeOf2 _) rfl rfl rfl rfl rfl rfl ?_
              intro w26_ S
              first | refine rw_end ?_ | (refine rw_nil ?_; show CW _ _ _ _ _ _) | refine rw_nil ?_
              repeat refine cw_seq ?_
              refine cw_region ?_
              refine rw_v (op_pure rfl) ?_
              refine rw_v (op_rng rfl (by omega)) ?_
              refine rw_v (op_pure rfl) ?_
              first | refine rw_end ?_ | (refine rw_nil ?_; show CW _ _ _ _ _ _) | refine rw_nil ?_
              exact ⟨q2 - 1, by omega, i + 1, by omega, ⟨rfl, rfl, rfl, rfl, rfl, rfl, ie (by omega), trivial⟩, by rw [hz1]; exact S⟩
            · rw [Int.max_eq_left (by omega)] at hz1
              repeat refine cw_seq ?_
              refine cw_region ?_
              iterate 2 refine rw_v (op_pure rfl) ?_
              refine rw_v (op_len Try.underlying22 rfl) ?_
              refine rw_v (op_b (b := true) rfl (decide_eq_true (by omega))) ?_
              first | refine rw_end ?_ | (refine rw_nil ?_; show CW _ _ _ _ _ _) | refine rw_nil ?_
              repeat refine cw_seq ?_
              refine cw_true rfl ?_
              repeat refine cw_seq ?_
              refine cw_skip ?_
              try show CW _ _ _ _ _ _
              repeat refine cw_seq ?_
              refine cw_block ?_
              repeat refine cw_seq ?_
              refine cw_draw (C := fun wq => Gr w2 wq) [0, 1, 2, 3, 4, 5, 6, 7, 8] [] (by kernel_rfl) (by kernel_rfl) (Gr.drew _) ?_
              simp only [pickL, List.drop_succ_cons, List.drop_zero]
              iterate 2 refine rq_v (op_pure rfl) ?_
              refine rq_v (op_idx Try.underlying22 Try.sizeOf2 rfl rfl sa_B (by omega) (by omega)) ?_
              refine rq_r (fun wq hq => op_ldR Try.underlying2 rfl rfl (hB.gr (S.gr hq).out) hgL) ?_
              iterate 2 refine rq_v (op_pure rfl) ?_
              refine rq_v (op_idx Try.underlying22 Try.sizeOf2 rfl rfl sa_lab (by omega) (by omega)) ?_
              refine rq_r (fun wq hq => op_ldR Try.underlying2 rfl rfl ((S.gr hq).rd (i := 2) rfl) hlk) ?_
              refine rq_v (op_b (b := false) rfl (bne_eq_false_iff_eq.2 (by omega))) ?_
              refine rq_nil ?_
              intro w27_ g27_
              have S := S.gr g27_
              first | refine rw_end ?_ | (refine rw_nil ?_; show CW _ _ _ _ _ _) | refine rw_nil ?_
              repeat refine cw_seq ?_
              refine cw_false rfl ?_
              repeat refine cw_seq ?_
              refine cw_skip ?_
              try show CW _ _ _ _ _ _
              repeat refine cw_seq ?_
              refine cw_region ?_
              refine rw_v (op_fieldAddr Try.underlying127 rfl Try.sizeOf2 rfl rfl) ?_
              refine rw_r (op_loadB Try.underlying2 rfl rfl (S.blk (i := 0) rfl) rfl) ?_
              refine rw_v (op_b (b := false) rfl (beq_eq_false_iff_ne.2 (by omega))) ?_
              first | refine rw_end ?_ | (refine rw_nil ?_; show CW _ _ _ _ _ _) | refine rw_nil ?_
              repeat refine cw_seq ?_
              refine cw_false rfl ?_
              repeat refine cw_seq ?_
              refine cw_skip ?_
              try show CW _ _ _ _ _ _
              repeat refine cw_seq ?_
              refine cw_region ?_
              refine rw_v (op_fieldAddr Try.underlying127 rfl Try.sizeOf2 rfl rfl) ?_
              refine rw_r (op_loadB Try.underlying2 rfl rfl (S.blk (i := 0) rfl) rfl) ?_
              refine rw_v (op_rng rfl (by omega)) ?_
              refine rw_v (op_fieldAddr Try.underlying127 rfl Try.sizeOf2 rfl rfl) ?_
              refine rw_storeS (i := 0) S rfl (Try.sizeOf2 _) rfl rfl rfl rfl rfl rfl ?_
              intro w28_ S
              first | refine rw_end ?_ | (refine rw_nil ?_; show CW _ _ _ _ _ _) | refine rw_nil ?_
              repeat refine cw_seq ?_
              refine cw_draw (C := fun wq => Gr w28_ wq) [0, 1, 2, 3, 4, 5, 6] [7, 8, 9] (by kernel_rfl) (by kernel_rfl) (Gr.drew _) ?_
              simp only [pickL, List.drop_succ_cons, List.drop_zero]
              refine rq_v (op_fieldAddr Try.underlying127 rfl Try.sizeOf2 rfl rfl) ?_
              refine rq_r (fun wq hq => op_loadB Try.underlying2 rfl rfl ((S.gr hq).blk (i := 0) rfl) rfl) ?_
              refine rq_v (op_fieldAddr Try.underlying25 rfl Try.sizeOf22 rfl rfl) ?_
              refine rq_r (fun wq hq => op_loadB Try.underlying22 rfl rfl ((S.gr hq).blk (i := 3) rfl) rfl) ?_
              refine rq_v (op_pure rfl) ?_
              refine rq_v (op_idx Try.underlying22 Try.sizeOf2 rfl rfl sa_A (by omega) (by omega)) ?_
              refine rq_r (fun wq hq => op_ldR Try.underlying2 rfl rfl (hA.gr (S.gr hq).out) hgV) ?_
              refine rq_nil ?_
              intro w29_ g29_
              have S := S.gr g29_
              refine rw_v (op_rng rfl (by omega)) ?_
              refine rw_v (op_fieldAddr Try.underlying127 rfl Try.sizeOf2 rfl rfl) ?_
              refine rw_storeS (i := 0) S rfl (Try.sizeOf2 _) rfl rfl rfl rfl rfl rfl ?_
              intro w30_ S
              first | refine rw_end ?_ | (refine rw_nil ?_; show CW _ _ _ _ _ _) | refine rw_nil ?_
              repeat refine cw_seq ?_
              refine cw_draw (C := fun wq => Gr w30_ wq) [0, 1, 2, 3, 4, 5, 6, 7] [] (by kernel_rfl) (by kernel_rfl) (Gr.drew _) ?_
              simp only [pickL, List.drop_succ_cons, List.drop_zero]
              refine rq_v (op_fieldAddr Try.underlying25 rfl Try.sizeOf22 rfl rfl) ?_
              refine rq_r (fun wq hq => op_loadB Try.underlying22 rfl rfl ((S.gr hq).blk (i := 3) rfl) rfl) ?_
              refine rq_v (op_pure rfl) ?_
              refine rq_v (op_idx Try.underlying22 Try.sizeOf2 rfl rfl sa_A (by omega) (by omega)) ?_
              refine rq_r (fun wq hq => op_ldR Try.underlying2 rfl rfl (hA.gr (S.gr hq).out) hgV) ?_
              refine rq_v (op_fieldAddr Try.underlying127 rfl Try.sizeOf2 rfl rfl) ?_
              refine rq_r (fun wq hq => op_loadB Try.underlying2 rfl rfl ((S.gr hq).blk (i := 0) rfl) rfl) ?_
              refine rq_v (op_b (b := true) rfl (decide_eq_true (by omega))) ?_
              refine rq_nil ?_
              intro w31_ g31_
              have S := S.gr g31_
              first | refine rw_end ?_ | (refine rw_nil ?_; show CW _ _ _ _ _ _) | refine rw_nil ?_
              repeat refine cw_seq ?_
              refine cw_true rfl ?_
              repeat refine cw_seq ?_
              refine cw_region ?_
              refine rw_v (op_fieldAddr Try.underlying25 rfl Try.sizeOf22 rfl rfl) ?_
              refine rw_r (op_loadB Try.underlying22 rfl rfl (S.blk (i := 3) rfl) rfl) ?_
              refine rw_v (op_pure rfl) ?_
              refine rw_v (op_idx Try.underlying22 Try.sizeOf2 rfl rfl sa_A (by omega) (by omega)) ?_
              refine rw_r (op_ldR Try.underlying2 rfl rfl (hA.gr S.out) hgV) ?_
              refine rw_v (op_fieldAddr Try.underlying127 rfl Try.sizeOf2 rfl rfl) ?_
              refine rw_storeS (i := 0) S rfl (Try.sizeOf2 _) rfl rfl rfl rfl rfl rfl ?_
              intro w32_ S
              first | refine rw_end ?_ | (refine rw_nil ?_; show CW _ _ _ _ _ _) | refine rw_nil ?_
              repeat refine cw_seq ?_
              refine cw_draw (C := fun wq => Gr w32_ wq) [0, 1, 2, 3, 4, 5, 6, 7] [] (by kernel_rfl) (by kernel_rfl) (Gr.drew _) ?_
              simp only [pickL, List.drop_succ_cons, List.drop_zero]
              refine rq_v (op_fieldAddr Try.underlying25 rfl Try.sizeOf22 rfl rfl) ?_
              refine rq_r (fun wq hq => op_loadB Try.underlying22 rfl rfl ((S.gr hq).blk (i := 3) rfl) rfl) ?_
              refine rq_v (op_pure rfl) ?_
              refine rq_v (op_idx Try.underlying22 Try.sizeOf2 rfl rfl sa_A (by omega) (by omega)) ?_
              refine rq_r (fun wq hq => op_ldR Try.underlying2 rfl rfl (hA.gr (S.gr hq).out) hgV) ?_
              refine rq_v (op_fieldAddr Try.underlying127 rfl Try.sizeOf2 rfl rfl) ?_
              refine rq_r (fun wq hq => op_loadB Try.underlying2 rfl rfl ((S.gr hq).blk (i := 0) rfl) rfl) ?_
              refine rq_v (op_b (b := false) rfl (decide_eq_false (by omega))) ?_
              refine rq_nil ?_
              intro w33_ g33_
              have S := S.gr g33_
              first | refine rw_end ?_ | (refine rw_nil ?_; show CW _ _ _ _ _ _) | refine rw_nil ?_
              repeat refine cw_seq ?_
              refine cw_false rfl ?_
              repeat refine cw_seq ?_
              refine cw_skip ?_
              try show CW _ _ _ _ _ _
              repeat refine cw_seq ?_
              refine cw_region ?_
              refine rw_v (op_pure rfl) ?_
              refine rw_v (op_rng rfl (by omega)) ?_
              refine rw_v (op_pure rfl) ?_
              first | refine rw_end ?_ | (refine rw_nil ?_; show CW _ _ _ _ _ _) | refine rw_nil ?_
              exact ⟨q2 - 1, by omega, i + 1, by omega, ⟨rfl, rfl, rfl, rfl, rfl, rfl, ie (by omega), trivial⟩, by rw [hz1]; exact S⟩
          · rw [Int.min_eq_left (by omega)] at hz1
            by_cases hmx : v > zx
            · rw [Int.max_eq_right (by omega)] at hz1
              repeat refine cw_seq ?_
              refine cw_region ?_
              iterate 2 refine rw_v (op_pure rfl) ?_
              refine rw_v (op_len Try.underlying22 rfl) ?_
              refine rw_v (op_b (b := true) rfl (decide_eq_true (by omega))) ?_
              first | refine rw_end ?_ | (refine rw_nil ?_; show CW _ _ _ _ _ _) | refine rw_nil ?_
              repeat refine cw_seq ?_
              refine cw_true rfl ?_
              repeat refine cw_seq ?_
              refine cw_skip ?_
              try show CW _ _ _ _ _ _
              repeat refine cw_seq ?_
              refine cw_block ?_
              repeat refine cw_seq ?_
              refine cw_draw (C := fun wq => Gr w2 wq) [0, 1, 2, 3, 4, 5, 6, 7, 8] [] (by kernel_rfl) (by kernel_rfl) (Gr.drew _) ?_
              simp only [pickL, List.drop_succ_cons, List.drop_zero]
              iterate 2 refine rq_v (op_pure rfl) ?_
              refine rq_v (op_idx Try.underlying22 Try.sizeOf2 rfl rfl sa_B (by omega) (by omega)) ?_
              refine rq_r (fun wq hq => op_ldR Try.underlying2 rfl rfl (hB.gr (S.gr hq).out) hgL) ?_
              iterate 2 refine rq_v (op_pure rfl) ?_
              refine rq_v (op_idx Try.underlying22 Try.sizeOf2 rfl rfl sa_lab (by omega) (by omega)) ?_
              refine rq_r (fun wq hq => op_ldR Try.underlying2 rfl rfl ((S.gr hq).rd (i := 2) rfl) hlk) ?_
              refine rq_v (op_b (b := false) rfl (bne_eq_false_iff_eq.2 (by omega))) ?_
              refine rq_nil ?_
              intro w34_ g34_
              have S := S.gr g34_
              first | refine rw_end ?_ | (refine rw_nil ?_; show CW _ _ _ _ _ _) | refine rw_nil ?_
              repeat refine cw_seq ?_
              refine cw_false rfl ?_
              repeat refine cw_seq ?_
              refine cw_skip ?_
              try show CW _ _ _ _ _ _
              repeat refine cw_seq ?_
              refine cw_region ?_
              refine rw_v (op_fieldAddr Try.underlying127 rfl Try.sizeOf2 rfl rfl) ?_
              refine rw_r (op_loadB Try.underlying2 rfl rfl (S.blk (i := 0) rfl) rfl) ?_
              refine rw_v (op_b (b := false) rfl (beq_eq_false_iff_ne.2 (by omega))) ?_
              first | refine rw_end ?_ | (refine rw_nil ?_; show CW _ _ _ _ _ _) | refine rw_nil ?_
              repeat refine cw_seq ?_
              refine cw_false rfl ?_
              repeat refine cw_seq ?_
              refine cw_skip ?_
              try show CW _ _ _ _ _ _
              repeat refine cw_seq ?_
              refine cw_region ?_
              refine rw_v (op_fieldAddr Try.underlying127 rfl Try.sizeOf2 rfl rfl) ?_
              refine rw_r (op_loadB Try.underlying2 rfl rfl (S.blk (i := 0) rfl) rfl) ?_
              refine rw_v (op_rng rfl (by omega)) ?_
              refine rw_v (op_fieldAddr Try.underlying127 rfl Try.sizeOf2 rfl rfl) ?_
              refine rw_storeS (i := 0) S rfl (Try.sizeOf2 _) rfl rfl rfl rfl rfl rfl ?_
              intro w35_ S
              first | refine rw_end ?_ | (refine rw_nil ?_; show CW _ _ _ _ _ _) | refine rw_nil ?_
              repeat refine cw_seq ?_
              refine cw_draw (C := fun wq => Gr w35_ wq) [0, 1, 2, 3, 4, 5, 6] [7, 8, 9] (by kernel_rfl) (by kernel_rfl) (Gr.drew _) ?_
              simp only [pickL, List.drop_succ_cons, List.drop_zero]
              refine rq_v (op_fieldAddr Try.underlying127 rfl Try.sizeOf2 rfl rfl) ?_
              refine rq_r (fun wq hq => op_loadB Try.underlying2 rfl rfl ((S.gr hq).blk (i := 0) rfl) rfl) ?_
              refine rq_v (op_fieldAddr Try.underlying25 rfl Try.sizeOf22 rfl rfl) ?_
              refine rq_r (fun wq hq => op_loadB Try.underlying22 rfl rfl ((S.gr hq).blk (i := 3) rfl) rfl) ?_
              refine rq_v (op_pure rfl) ?_
              refine rq_v (op_idx Try.underlying22 Try.sizeOf2 rfl rfl sa_A (by omega) (by omega)) ?_
              refine rq_r (fun wq hq => op_ldR Try.underlying2 rfl rfl (hA.gr (S.gr hq).out) hgV) ?_
              refine rq_nil ?_
              intro w36_ g36_
              have S := S.gr g36_
              refine rw_v (op_rng rfl (by omega)) ?_
              refine rw_v (op_fieldAddr Try.underlying127 rfl Try.sizeOf2 rfl rfl) ?_
              refine rw_storeS (i := 0) S rfl (Try.sizeOf2 _) rfl rfl rfl rfl rfl rfl ?_
              intro w37_ S
              first | refine rw_end ?_ | (refine rw_nil ?_; show CW _ _ _ _ _ _) | refine rw_nil ?_
              repeat refine cw_seq ?_
              refine cw_draw (C := fun wq => Gr w37_ wq) [0, 1, 2, 3, 4, 5, 6, 7] [] (by kernel_rfl) (by kernel_rfl) (Gr.drew _) ?_
              simp only [pickL, List.drop_succ_cons, List.drop_zero]
              refine rq_v (op_fieldAddr Try.underlying25 rfl Try.sizeOf22 rfl rfl) ?_
              refine rq_r (fun wq hq => op_loadB Try.underlying22 rfl rfl ((S.gr hq).blk (i := 3) rfl) rfl) ?_
              refine rq_v (op_pure rfl) ?_
              refine rq_v (op_idx Try.underlying22 Try.sizeOf2 rfl rfl sa_A (by omega) (by omega)) ?_
              refine rq_r (fun wq hq => op_ldR Try.underlying2 rfl rfl (hA.gr (S.gr hq).out) hgV) ?_
              refine rq_v (op_fieldAddr Try.underlying127 rfl Try.sizeOf2 rfl rfl) ?_
              refine rq_r (fun wq hq => op_loadB Try.underlying2 rfl rfl ((S.gr hq).blk (i := 0) rfl) rfl) ?_
              refine rq_v (op_b (b := false) rfl (decide_eq_false (by omega))) ?_
              refine rq_nil ?_
              intro w38_ g38_
              have S := S.gr g38_
              first | refine rw_end ?_ | (refine rw_nil ?_; show CW _ _ _ _ _ _) | refine rw_nil ?_
              repeat refine cw_seq ?_
              refine cw_false rfl ?_
              repeat refine cw_seq ?_
              refine cw_skip ?_
              try show CW _ _ _ _ _ _
              repeat refine cw_seq ?_
              refine cw_draw (C := fun wq => Gr w38_ wq) [0, 1, 2, 3, 4, 5, 6, 7] [] (by kernel_rfl) (by kernel_rfl) (Gr.drew _) ?_
              simp only [pickL, List.drop_succ_cons, List.drop_zero]
              refine rq_v (op_fieldAddr Try.underlying25 rfl Try.sizeOf22 rfl rfl) ?_
              refine rq_r (fun wq hq => op_loadB Try.underlying22 rfl rfl ((S.gr hq).blk (i := 3) rfl) rfl) ?_
              refine rq_v (op_pure rfl) ?_
              refine rq_v (op_idx Try.underlying22 Try.sizeOf2 rfl rfl sa_A (by omega) (by omega)) ?_
              refine rq_r (fun wq hq => op_ldR Try.underlying2 rfl rfl (hA.gr (S.gr hq).out) hgV) ?_
              refine rq_v (op_fieldAddr Try.underlying127 rfl Try.sizeOf2 rfl rfl) ?_
              refine rq_r (fun wq hq => op_loadB Try.underlying2 rfl rfl ((S.gr hq).blk (i := 0) rfl) rfl) ?_
              refine rq_v (op_b (b := true) rfl (decide_eq_true (by omega))) ?_
              refine rq_nil ?_
              intro w39_ g39_
              have S := S.gr g39_
              first | refine rw_end ?_ | (refine rw_nil ?_; show CW _ _ _ _ _ _) | refine rw_nil ?_
              repeat refine cw_seq ?_
              refine cw_true rfl ?_
              repeat refine cw_seq ?_
              refine cw_region ?_
              refine rw_v (op_fieldAddr Try.underlying25 rfl Try.sizeOf22 rfl rfl) ?_
              refine rw_r (op_loadB Try.underlying22 rfl rfl (S.blk (i := 3) rfl) rfl) ?_
              refine rw_v (op_pure rfl) ?_
              refine rw_v (op_idx Try.underlying22 Try.sizeOf2 rfl rfl sa_A (by omega) (by omega)) ?_
              refine rw_r (op_ldR Try.underlying2 rfl rfl (hA.gr S.out) hgV) ?_
              refine rw_v (op_fieldAddr Try.underlying127 rfl Try.sizeOf2 rfl rfl) ?_
              refine rw_storeS (i := 0) S rfl (Try.sizeOf2 _) rfl rfl rfl rfl rfl rfl ?_
              intro w40_ S
              first | refine rw_end ?_ | (refine rw_nil ?_; show CW _ _ _ _ _ _) | refine rw_nil ?_
              repeat refine cw_seq ?_
              refine cw_region ?_
              refine rw_v (op_pure rfl) ?_
              refine rw_v (op_rng rfl (by omega)) ?_
              refine rw_v (op_pure rfl) ?_
              first | refine rw_end ?_ | (refine rw_nil ?_; show CW _ _ _ _ _ _) | refine rw_nil ?_
              exact ⟨q2 - 1, by omega, i + 1, by omega, ⟨rfl, rfl, rfl, rfl, rfl, rfl, ie (by omega), trivial⟩, by rw [hz1]; exact S⟩
            · rw [Int.max_eq_left (by omega)] at hz1
              repeat refine cw_seq ?_
              refine cw_region ?_
              iterate 2 refine rw_v (op_pure rfl) ?_
              refine rw_v (op_len Try.underlying22 rfl) ?_
              refine rw_v (op_b (b := true) rfl (decide_eq_true (by omega))) ?_
              first | refine rw_end ?_ | (refine rw_nil ?_; show CW _ _ _ _ _ _) | refine rw_nil ?_
              repeat refine cw_seq ?_
              refine cw_true rfl ?_
              repeat refine cw_seq ?_
              refine cw_skip ?_
              try show CW _ _ _ _ _ _
              repeat refine cw_seq ?_
              refine cw_block ?_
              repeat refine cw_seq ?_
              refine cw_draw (C := fun wq => Gr w2 wq) [0, 1, 2, 3, 4, 5, 6, 7, 8] [] (by kernel_rfl) (by kernel_rfl) (Gr.drew _) ?_
              simp only [pickL, List.drop_succ_cons, List.drop_zero]
              iterate 2 refine rq_v (op_pure rfl) ?_
              refine rq_v (op_idx Try.underlying22 Try.sizeOf2 rfl rfl sa_B (by omega) (by omega)) ?_
              refine rq_r (fun wq hq => op_ldR Try.underlying2 rfl rfl (hB.gr (S.gr hq).out) hgL) ?_
              iterate 2 refine rq_v (op_pure rfl) ?_
              refine rq_v (op_idx Try.underlying22 Try.sizeOf2 rfl rfl sa_lab (by omega) (by omega)) ?_
              refine rq_r (fun wq hq => op_ldR Try.underlying2 rfl rfl ((S.gr hq).rd (i := 2) rfl) hlk) ?_
              refine rq_v (op_b (b := false) rfl (bne_eq_false_iff_eq.2 (by omega))) ?_
              refine rq_nil ?_
              intro w41_ g41_
              have S := S.gr g41_
              first | refine rw_end ?_ | (refine rw_nil ?_; show CW _ _ _ _ _ _) | refine rw_nil ?_
              repeat refine cw_seq ?_
              refine cw_false rfl ?_
              repeat refine cw_seq ?_
              refine cw_skip ?_
              try show CW _ _ _ _ _ _
              repeat refine cw_seq ?_
              refine cw_region ?_
              refine rw_v (op_fieldAddr Try.underlying127 rfl Try.sizeOf2 rfl rfl) ?_
              refine rw_r (op_loadB Try.underlying2 rfl rfl (S.blk (i := 0) rfl) rfl) ?_
              refine rw_v (op_b (b := false) rfl (beq_eq_false_iff_ne.2 (by omega))) ?_
              first | refine rw_end ?_ | (refine rw_nil ?_; show CW _ _ _ _ _ _) | refine rw_nil ?_
              repeat refine cw_seq ?_
              refine cw_false rfl ?_
              repeat refine cw_seq ?_
              refine cw_skip ?_
              try show CW _ _ _ _ _ _
              repeat refine cw_seq ?_
              refine cw_region ?_
              refine rw_v (op_fieldAddr Try.underlying127 rfl Try.sizeOf2 rfl rfl) ?_
              refine rw_r (op_loadB Try.underlying2 rfl rfl (S.blk (i := 0) rfl) rfl) ?_
              refine rw_v (op_rng rfl (by omega)) ?_
              refine rw_v (op_fieldAddr Try.underlying127 rfl Try.sizeOf2 rfl rfl) ?_
              refine rw_storeS (i := 0) S rfl (Try.sizeOf2 _) rfl rfl rfl rfl rfl rfl ?_
              intro w42_ S
              first | refine rw_end ?_ | (refine rw_nil ?_; show CW _ _ _ _ _ _) | refine rw_nil ?_
              repeat refine cw_seq ?_
              refine cw_draw (C := fun wq => Gr w42_ wq) [0, 1, 2, 3, 4, 5, 6] [7, 8, 9] (by kernel_rfl) (by kernel_rfl) (Gr.drew _) ?_
              simp only [pickL, List.drop_succ_cons, List.drop_zero]
              refine rq_v (op_fieldAddr Try.underlying127 rfl Try.sizeOf2 rfl rfl) ?_
              refine rq_r (fun wq hq => op_loadB Try.underlying2 rfl rfl ((S.gr hq).blk (i := 0) rfl) rfl) ?_
              refine rq_v (op_fieldAddr Try.underlying25 rfl Try.sizeOf22 rfl rfl) ?_
              refine rq_r (fun wq hq => op_loadB Try.underlying22 rfl rfl ((S.gr hq).blk (i := 3) rfl) rfl) ?_
              refine rq_v (op_pure rfl) ?_
              refine rq_v (op_idx Try.underlying22 Try.sizeOf2 rfl rfl sa_A (by omega) (by omega)) ?_
              refine rq_r (fun wq hq => op_ldR Try.underlying2 rfl rfl (hA.gr (S.gr hq).out) hgV) ?_
              refine rq_nil ?_
              intro w43_ g43_
              have S := S.gr g43_
              refine rw_v (op_rng rfl (by omega)) ?_
              refine rw_v (op_fieldAddr Try.underlying127 rfl Try.sizeOf2 rfl rfl) ?_
              refine rw_storeS (i := 0) S rfl (Try.sizeOf2 _) rfl rfl rfl rfl rfl rfl ?_
              intro w44_ S
              first | refine rw_end ?_ | (refine rw_nil ?_; show CW _ _ _ _ _ _) | refine rw_nil ?_
              repeat refine cw_seq ?_
              refine cw_draw (C := fun wq => Gr w44_ wq) [0, 1, 2, 3, 4, 5, 6, 7] [] (by kernel_rfl) (by kernel_rfl) (Gr.drew _) ?_
              simp only [pickL, List.drop_succ_cons, List.drop_zero]
              refine rq_v (op_fieldAddr Try.underlying25 rfl Try.sizeOf22 rfl rfl) ?_
              refine rq_r (fun wq hq => op_loadB Try.underlying22 rfl rfl ((S.gr hq).blk (i := 3) rfl) rfl) ?_
              refine rq_v (op_pure rfl) ?_
              refine rq_v (op_idx Try.underlying22 Try.sizeOf2 rfl rfl sa_A (by omega) (by omega)) ?_
              refine rq_r (fun wq hq => op_ldR Try.underlying2 rfl rfl (hA.gr (S.gr hq).out) hgV) ?_
              refine rq_v (op_fieldAddr Try.underlying127 rfl Try.sizeOf2 rfl rfl) ?_
              refine rq_r (fun wq hq => op_loadB Try.underlying2 rfl rfl ((S.gr hq).blk (i := 0) rfl) rfl) ?_
              refine rq_v (op_b (b := false) rfl (decide_eq_false (by omega))) ?_
              refine rq_nil ?_
              intro w45_ g45_
              have S := S.gr g45_
              first | refine rw_end ?_ | (refine rw_nil ?_; show CW _ _ _ _ _ _) | refine rw_nil ?_
              repeat refine cw_seq ?_
              refine cw_false rfl ?_
              repeat refine cw_seq ?_
              refine cw_skip ?_
              try show CW _ _ _ _ _ _
              repeat refine cw_seq ?_
              refine cw_draw (C := fun wq => Gr w45_ wq) [0, 1, 2, 3, 4, 5, 6, 7] [] (by kernel_rfl) (by kernel_rfl) (Gr.drew _) ?_
              simp only [pickL, List.drop_succ_cons, List.drop_zero]
              refine rq_v (op_fieldAddr Try.underlying25 rfl Try.sizeOf22 rfl rfl) ?_
              refine rq_r (fun wq hq => op_loadB Try.underlying22 rfl rfl ((S.gr hq).blk (i := 3) rfl) rfl) ?_
              refine rq_v (op_pure rfl) ?_
              refine rq_v (op_idx Try.underlying22 Try.sizeOf2 rfl rfl sa_A (by omega) (by omega)) ?_
              refine rq_r (fun wq hq => op_ldR Try.underlying2 rfl rfl (hA.gr (S.gr hq).out) hgV) ?_
              refine rq_v (op_fieldAddr Try.underlying127 rfl Try.sizeOf2 rfl rfl) ?_
              refine rq_r (fun wq hq => op_loadB Try.underlying2 rfl rfl ((S.gr hq).blk (i := 0) rfl) rfl) ?_
              refine rq_v (op_b (b := false) rfl (decide_eq_false (by omega))) ?_
              refine rq_nil ?_
              intro w46_ g46_
              have S := S.gr g46_
              first | refine rw_end ?_ | (refine rw_nil ?_; show CW _ _ _ _ _ _) | refine rw_nil ?_
              repeat refine cw_seq ?_
              refine cw_false rfl ?_
              repeat refine cw_seq ?_
              refine cw_skip ?_
              try show CW _ _ _ _ _ _
              repeat refine cw_seq ?_
              refine cw_region ?_
              refine rw_v (op_pure rfl) ?_
              refine rw_v (op_rng rfl (by omega)) ?_
              refine rw_v (op_pure rfl) ?_
              first | refine rw_end ?_ | (refine rw_nil ?_; show CW _ _ _ _ _ _) | refine rw_nil ?_
              exact ⟨q2 - 1, by omega, i + 1, by omega, ⟨rfl, rfl, rfl, rfl, rfl, rfl, ie (by omega), trivial⟩, by rw [hz1]; exact S⟩
      · have hz1 := znN_ne (V := V) hla
        repeat refine cw_seq ?_
        refine cw_region ?_
        iterate 2 refine rw_v (op_pure rfl) ?_
        refine rw_v (op_len Try.underlying22 rfl) ?_
        refine rw_v (op_b (b := true) rfl (decide_eq_true (by omega))) ?_
        first | refine rw_end ?_ | (refine rw_nil ?_; show CW _ _ _ _ _ _) | refine rw_nil ?_
        repeat refine cw_seq ?_
        refine cw_true rfl ?_
        repeat refine cw_seq ?_
        refine cw_skip ?_
        try show CW _ _ _ _ _ _
        repeat refine cw_seq ?_
        refine cw_block ?_
        repeat refine cw_seq ?_
        refine cw_draw (C := fun wq => Gr w2 wq) [0, 1, 2, 3, 4, 5, 6, 7, 8] [] (by kernel_rfl) (by kernel_rfl) (Gr.drew _) ?_
        simp only [pickL, List.drop_succ_cons, List.drop_zero]
        iterate 2 refine rq_v (op_pure rfl) ?_
        refine rq_v (op_idx Try.underlying22 Try.sizeOf2 rfl rfl sa_B (by omega) (by omega)) ?_
        refine rq_r (fun wq hq => op_ldR Try.underlying2 rfl rfl (hB.gr (S.gr hq).out) hgL) ?_
        iterate 2 refine rq_v (op_pure rfl) ?_
        refine rq_v (op_idx Try.underlying22 Try.sizeOf2 rfl rfl sa_lab (by omega) (by omega)) ?_
        refine rq_r (fun wq hq => op_ldR Try.underlying2 rfl rfl ((S.gr hq).rd (i := 2) rfl) hlk) ?_
        refine rq_v (op_b (b := true) rfl (bne_iff_ne.2 (by omega))) ?_
        refine rq_nil ?_
        intro w47_ g47_
        have S := S.gr g47_
        first | refine rw_end ?_ | (refine rw_nil ?_; show CW _ _ _ _ _ _) | refine rw_nil ?_
        repeat refine cw_seq ?_
        refine cw_true rfl ?_
        repeat refine cw_seq ?_
        refine cw_exit ?_
        repeat first | refine exit_then ?_ | refine exit_inb ?_
        show CW _ _ _ _ _ _
        repeat refine cw_seq ?_
        refine cw_region ?_
        refine rw_v (op_pure rfl) ?_
        refine rw_v (op_rng rfl (by omega)) ?_
        refine rw_v (op_pure rfl) ?_
        first | refine rw_end ?_ | (refine rw_nil ?_; show CW _ _ _ _ _ _) | refine rw_nil ?_
        exact ⟨q2 - 1, by omega, i + 1, by omega, ⟨rfl, rfl, rfl, rfl, rfl, rfl, ie (by omega), trivial⟩, by rw [hz1]; exact S⟩
    · obtain rfl : i = gw * gh := by omega
      repeat refine cw_seq ?_
      refine cw_region ?_
      iterate 2 refine rw_v (op_pure rfl) ?_
      refine rw_v (op_len Try.underlying22 rfl) ?_
      refine rw_v (op_b (b := false) rfl (decide_eq_false (by omega))) ?_
      first | refine rw_end ?_ | (refine rw_nil ?_; show CW _ _ _ _ _ _) | refine rw_nil ?_
      repeat refine cw_seq ?_
      refine cw_false rfl ?_
      repeat refine cw_seq ?_
      refine cw_exit ?_
      repeat first | refine exit_then ?_ | refine exit_inb ?_
      show CW _ _ _ _ _ _
      repeat refine cw_seq ?_
      refine cw_region ?_
      refine rw_v (op_pure rfl) ?_
      refine rw_r (op_loadAB Try.underlying127 rfl (Try.sizeOf127 _) rfl (S.blk (i := 0) rfl) rfl rfl) ?_
      refine rw_buildS Try.underlying56 Try.sizeOf127 Try.zeroValue127 rfl rfl rfl rfl rfl rfl S ?_
      intro A_x1 w49_ g49_ S sa_x1
      refine rw_appS (i := 2) S rfl (fun h => rfl) Try.underlying56 info_t127 rfl rfl rfl rfl (by simp) (by omega) (S.rd (i := 0) rfl) rfl (by omega) ?_
      intro A_o2 c_o2 w50_ S sa_out
      refine rw_v (op_pure rfl) ?_
      first | refine rw_end ?_ | (refine rw_nil ?_; show CW _ _ _ _ _ _) | refine rw_nil ?_
      repeat refine cw_seq ?_
      refine cw_region ?_
      refine rw_v (op_pure rfl) ?_
      refine rw_v (op_rng rfl (by omega)) ?_
      refine rw_v (op_pure rfl) ?_
      first | refine rw_end ?_ | (refine rw_nil ?_; show CW _ _ _ _ _ _) | refine rw_nil ?_
      have S := S.sub (.cons _ (.cons _ (.cons_cons _ (.cons_cons _ (.cons_cons _ (.slnil))))))
      have S := S.row0 htk.symm
      exact ⟨q - 1, by omega, k + 1, A_o2, c_o2, by omega, ⟨rfl, rfl, rfl, rfl, ie (by omega), trivial⟩, S⟩
  · try simp only [decide_eq_true_eq, decide_eq_false_iff_not, beq_iff_eq, bne_iff_ne, beq_eq_false_iff_ne, bne_eq_false_iff_eq, Bool.not_eq_true', Bool.not_eq_false', ne_eq, Decidable.not_not, Int.natCast_inj, Int.ofNat_lt, Int.ofNat_le, gt_iff_lt, ge_iff_le, Int.not_lt, Int.not_le] at hc
    obtain rfl : k = lb.length := by omega
    rw [List.take_length] at S
    repeat refine cw_seq ?_
    refine cw_exit ?_
    repeat first | refine exit_then ?_ | refine exit_inb ?_
    show CW _ _ _ _ _ _
    repeat refine cw_seq ?_
    refine cw_region ?_
    iterate 2 refine rw_v (op_pure rfl) ?_
    first | refine rw_end ?_ | (refine rw_nil ?_; show CW _ _ _ _ _ _) | refine rw_nil ?_
    repeat refine cw_seq ?_
    refine cw_ret ?_
    repeat first | refine ret_then ?_ | refine ret_inb ?_
    exact res1 rfl (S.retNew (i := 0) rfl)
set_option maxHeartbeats 4000000 in
theorem zsame_E (l : List Zn) (hl : l.length ≤ 1048576) (hA : Rd W A (l.flatMap (encZ gw))) (hB : Rd W B (l.flatMap (encZ gw))) : Fn Try.prog 23 [.slice A l.length c, .slice B l.length cb] W (RetG (.bool true) W) := by
  have S := St.start W
  refine Fn_enter Try.func23 rfl Try.results23 Try.ntmps23 (by kernel_rfl) (by kernel_rfl) ?_
  repeat refine cw_seq ?_
  refine cw_region ?_
  refine rw_v (op_pure rfl) ?_
  first | refine rw_end ?_ | (refine rw_nil ?_; show CW _ _ _ _ _ _) | refine rw_nil ?_
  repeat refine cw_seq ?_
  refine cw_region ?_
  refine rw_v (op_pure rfl) ?_
  refine rw_v (op_len Try.underlying52 rfl) ?_
  refine rw_v (op_pure rfl) ?_
  refine rw_v (op_len Try.underlying56 rfl) ?_
  refine rw_v (op_b (b := false) rfl (bne_eq_false_iff_eq.2 (by omega))) ?_
  first | refine rw_end ?_ | (refine rw_nil ?_; show CW _ _ _ _ _ _) | refine rw_nil ?_
  repeat refine cw_seq ?_
  refine cw_false rfl ?_
  repeat refine cw_seq ?_
  refine cw_skip ?_
  try show CW _ _ _ _ _ _
  repeat refine cw_seq ?_
  refine cw_region ?_
  refine rw_v (op_pure rfl) ?_
  first | refine rw_end ?_ | (refine rw_nil ?_; show CW _ _ _ _ _ _) | refine rw_nil ?_
  repeat refine cw_seq ?_
  refine cw_block ?_
  repeat refine cw_seq ?_
  refine cw_loop (fun q e w => ∃ k : Nat, k + q = l.length ∧ SL e [(0, .slice A l.length c), (1, .slice B l.length cb), (5, .int .i64 k)] ∧ St No W w []) l.length
    ⟨0, by omega, ⟨rfl, rfl, rfl, trivial⟩, S⟩ ?_
  clear S
  rintro q e w ⟨k, hk, hsl, S⟩
  rw [hsl.fold]
  repeat refine cw_seq ?_
  refine cw_region ?_
  iterate 2 refine rw_v (op_pure rfl) ?_
  refine rw_v (op_len Try.underlying52 rfl) ?_
  refine rw_v (op_pure rfl) ?_
  first | refine rw_end ?_ | (refine rw_nil ?_; show CW _ _ _ _ _ _) | refine rw_nil ?_
  repeat refine cw_seq ?_
  refine cw_cond rfl (fun hc => ?_) (fun hc => ?_)
  · try simp only [decide_eq_true_eq, decide_eq_false_iff_not, beq_iff_eq, bne_iff_ne, beq_eq_false_iff_ne, bne_eq_false_iff_eq, Bool.not_eq_true', Bool.not_eq_false', ne_eq, Decidable.not_not, Int.natCast_inj, Int.ofNat_lt, Int.ofNat_le, gt_iff_lt, ge_iff_le, Int.not_lt, Int.not_le] at hc
    have hkl : k < l.length := by omega
    have hz : l[k]? = some l[k] := List.getElem?_eq_getElem hkl
    have hlen : (l.flatMap (encZ gw)).length = l.length * 7 := flat_len (k := 7) (fun _ => rfl) l
    have sa_A : SomeA A := hA.someA (by omega)
    have sa_B : SomeA B := hB.someA (by omega)
    generalize l[k] = z at *
    have hcell : ((l.flatMap (encZ gw)).drop ((k : Int).toNat * 7 + 5)).take 2 = [.int .i64 (z.fs % gw : Nat), .int .i64 (z.fs / gw : Nat)] := by
      apply List.ext_getElem?
      intro r
      rw [List.getElem?_take, List.getElem?_drop, Nat.add_assoc]
      match r with
      | 0 => rw [if_pos (by omega), fldZ hz 5 (by omega)]; rfl
      | 1 => rw [if_pos (by omega), fldZ hz 6 (by omega)]; rfl
      | r + 2 => rw [if_neg (by omega)]; rfl
    repeat refine cw_seq ?_
    refine cw_skip ?_
    try show CW _ _ _ _ _ _
    repeat refine cw_seq ?_
    refine cw_block ?_
    repeat refine cw_seq ?_
    refine cw_draw (C := fun wq => Gr w wq) [0, 1, 2, 3, 4, 5, 6, 7, 8, 9, 10, 11, 12, 13, 14, 15, 16, 17, 18, 19, 20, 21, 22, 23, 24, 25, 26, 27, 28, 29, 30, 31, 32, 33, 34, 35, 36, 37, 38, 39, 40, 41, 42, 43, 44, 45, 46, 47, 48, 49, 50, 51, 52, 53, 54, 55, 56, 57, 58, 59, 60, 61, 62, 63, 64, 65, 66, 67, 68, 69, 70, 71, 72, 73, 74, 75] [] (by kernel_rfl) (by kernel_rfl) (Gr.drew _) ?_
    simp only [pickL, List.drop_succ_cons, List.drop_zero]
    iterate 2 refine rq_v (op_pure rfl) ?_
    refine rq_v (op_idx Try.underlying52 Try.sizeOf59 rfl rfl sa_A (by omega) (by omega)) ?_
    refine rq_v (op_fld Try.underlying59 rfl Try.sizeOf2 rfl rfl sa_A) ?_
    refine rq_r (fun wq hq => op_ldR Try.underlying2 rfl rfl (hA.gr (S.gr hq).out) (fldZ hz 0 (by omega))) ?_
    iterate 2 refine rq_v (op_pure rfl) ?_
    refine rq_v (op_idx Try.underlying56 Try.sizeOf127 rfl rfl sa_B (by omega) (by omega)) ?_
    refine rq_v (op_fld Try.underlying127 rfl Try.sizeOf2 rfl rfl sa_B) ?_
    refine rq_r (fun wq hq => op_ldR Try.underlying2 rfl rfl (hB.gr (S.gr hq).out) (fldZ hz 0 (by omega))) ?_
    refine rq_v (op_b (b := false) rfl (bne_eq_false_iff_eq.2 (by omega))) ?_
    refine rq_v (op_pure rfl) ?_
    first | refine rq_off rfl ?_ | (refine rq_on rfl ?_; refine rq_v (op_pure rfl) ?_)
    first | refine rq_off rfl ?_ | (refine rq_on rfl ?_; refine rq_v (op_pure rfl) ?_)
    first | refine rq_off rfl ?_ | (refine rq_on rfl ?_; refine rq_v (op_idx Try.underlying52 Try.sizeOf59 rfl rfl sa_A (by omega) (by omega)) ?_)
    first | refine rq_off rfl ?_ | (refine rq_on rfl ?_; refine rq_v (op_fld Try.underlying59 rfl Try.sizeOf2 rfl rfl sa_A) ?_)
    first | refine rq_off rfl ?_ | (refine rq_on rfl ?_; refine rq_r (fun wq hq => op_ldR Try.underlying2 rfl rfl (hA.gr (S.gr hq).out) (fldZ hz 1 (by omega))) ?_)
    first | refine rq_off rfl ?_ | (refine rq_on rfl ?_; refine rq_v (op_pure rfl) ?_)
    first | refine rq_off rfl ?_ | (refine rq_on rfl ?_; refine rq_v (op_pure rfl) ?_)
    first | refine rq_off rfl ?_ | (refine rq_on rfl ?_; refine rq_v (op_idx Try.underlying56 Try.sizeOf127 rfl rfl sa_B (by omega) (by omega)) ?_)
    first | refine rq_off rfl ?_ | (refine rq_on rfl ?_; refine rq_v (op_fld Try.underlying127 rfl Try.sizeOf2 rfl rfl sa_B) ?_)
    first | refine rq_off rfl ?_ | (refine rq_on rfl ?_; refine rq_r (fun wq hq => op_ldR Try.underlying2 rfl rfl (hB.gr (S.gr hq).out) (fldZ hz 1 (by omega))) ?_)
    first | refine rq_off rfl ?_ | (refine rq_on rfl ?_; refine rq_v (op_b (b := false) rfl (bne_eq_false_iff_eq.2 (by omega))) ?_)
    iterate 2 refine rq_v (op_pure rfl) ?_
    first | refine rq_off rfl ?_ | (refine rq_on rfl ?_; refine rq_v (op_pure rfl) ?_)
    first | refine rq_off rfl ?_ | (refine rq_on rfl ?_; refine rq_v (op_pure rfl) ?_)
    first | refine rq_off rfl ?_ | (refine rq_on rfl ?_; refine rq_v (op_idx Try.underlying52 Try.sizeOf59 rfl rfl sa_A (by omega) (by omega)) ?_)
    first | refine rq_off rfl ?_ | (refine rq_on rfl ?_; refine rq_v (op_fld Try.underlying59 rfl Try.sizeOf2 rfl rfl sa_A) ?_)
    first | refine rq_off rfl ?_ | (refine rq_on rfl ?_; refine rq_r (fun wq hq => op_ldR Try.underlying2 rfl rfl (hA.gr (S.gr hq).out) (fldZ hz 2 (by omega))) ?_)
    first | refine rq_off rfl ?_ | (refine rq_on rfl ?_; refine rq_v (op_pure rfl) ?_)
    first | refine rq_off rfl ?_ | (refine rq_on rfl ?_; refine rq_v (op_pure rfl) ?_)
    first | refine rq_off rfl ?_ | (refine rq_on rfl ?_; refine rq_v (op_idx Try.underlying56 Try.sizeOf127 rfl rfl sa_B (by omega) (by omega)) ?_)
    first | refine rq_off rfl ?_ | (refine rq_on rfl ?_; refine rq_v (op_fld Try.underlying127 rfl Try.sizeOf2 rfl rfl sa_B) ?_)
    first | refine rq_off rfl ?_ | (refine rq_on rfl ?_; refine rq_r (fun wq hq => op_ldR Try.underlying2 rfl rfl (hB.gr (S.gr hq).out) (fldZ hz 2 (by omega))) ?_)
    first | refine rq_off rfl ?_ | (refine rq_on rfl ?_; refine rq_v (op_b (b := false) rfl (bne_eq_false_iff_eq.2 (by omega))) ?_)
    iterate 2 refine rq_v (op_pure rfl) ?_
    first | refine rq_off rfl ?_ | (refine rq_on rfl ?_; refine rq_v (op_pure rfl) ?_)
    first | refine rq_off rfl ?_ | (refine rq_on rfl ?_; refine rq_v (op_pure rfl) ?_)
    first | refine rq_off rfl ?_ | (refine rq_on rfl ?_; refine rq_v (op_idx Try.underlying52 Try.sizeOf59 rfl rfl sa_A (by omega) (by omega)) ?_)
    first | refine rq_off rfl ?_ | (refine rq_on rfl ?_; refine rq_v (op_fld Try.underlying59 rfl Try.sizeOf2 rfl rfl sa_A) ?_)
    first | refine rq_off rfl ?_ | (refine rq_on rfl ?_; refine rq_r (fun wq hq => op_ldR Try.underlying2 rfl rfl (hA.gr (S.gr hq).out) (fldZ hz 3 (by omega))) ?_)
    first | refine rq_off rfl ?_ | (refine rq_on rfl ?_; refine rq_v (op_pure rfl) ?_)
    first | refine rq_off rfl ?_ | (refine rq_on rfl ?_; refine rq_v (op_pure rfl) ?_)
    first | refine rq_off rfl ?_ | (refine rq_on rfl ?_; refine rq_v (op_idx Try.underlying56 Try.sizeOf127 rfl rfl sa_B (by omega) (by omega)) ?_)
    first | refine rq_off rfl ?_ | (refine rq_on rfl ?_; refine rq_v (op_fld Try.underlying127 rfl Try.sizeOf2 rfl rfl sa_B) ?_)
    first | refine rq_off rfl ?_ | (refine rq_on rfl ?_; refine rq_r (fun wq hq => op_ldR Try.underlying2 rfl rfl (hB.gr (S.gr hq).out) (fldZ hz 3 (by omega))) ?_)
    first | refine rq_off rfl ?_ | (refine rq_on rfl ?_; refine rq_v (op_b (b := false) rfl (bne_eq_false_iff_eq.2 (by omega))) ?_)
    iterate 2 refine rq_v (op_pure rfl) ?_
    first | refine rq_off rfl ?_ | (refine rq_on rfl ?_; refine rq_v (op_pure rfl) ?_)
    first | refine rq_off rfl ?_ | (refine rq_on rfl ?_; refine rq_v (op_pure rfl) ?_)
    first | refine rq_off rfl ?_ | (refine rq_on rfl ?_; refine rq_v (op_idx Try.underlying52 Try.sizeOf59 rfl rfl sa_A (by omega) (by omega)) ?_)
    first | refine rq_off rfl ?_ | (refine rq_on rfl ?_; refine rq_v (op_fld Try.underlying59 rfl Try.sizeOf2 rfl rfl sa_A) ?_)
    first | refine rq_off rfl ?_ | (refine rq_on rfl ?_; refine rq_r (fun wq hq => op_ldR Try.underlying2 rfl rfl (hA.gr (S.gr hq).out) (fldZ hz 4 (by omega))) ?_)
    first | refine rq_off rfl ?_ | (refine rq_on rfl ?_; refine rq_v (op_pure rfl) ?_)
    first | refine rq_off rfl ?_ | (refine rq_on rfl ?_; refine rq_v (op_pure rfl) ?_)
    first | refine rq_off rfl ?_ | (refine rq_on rfl ?_; refine rq_v (op_idx Try.underlying56 Try.sizeOf127 rfl rfl sa_B (by omega) (by omega)) ?_)
    first | refine rq_off rfl ?_ | (refine rq_on rfl ?_; refine rq_v (op_fld Try.underlying127 rfl Try.sizeOf2 rfl rfl sa_B) ?_)
    first | refine rq_off rfl ?_ | (refine rq_on rfl ?_; refine rq_r (fun wq hq => op_ldR Try.underlying2 rfl rfl (hB.gr (S.gr hq).out) (fldZ hz 4 (by omega))) ?_)
    first | refine rq_off rfl ?_ | (refine rq_on rfl ?_; refine rq_v (op_b (b := false) rfl (bne_eq_false_iff_eq.2 (by omega))) ?_)
    iterate 2 refine rq_v (op_pure rfl) ?_
    first | refine rq_off rfl ?_ | (refine rq_on rfl ?_; refine rq_v (op_pure rfl) ?_)
    first | refine rq_off rfl ?_ | (refine rq_on rfl ?_; refine rq_v (op_pure rfl) ?_)
    first | refine rq_off rfl ?_ | (refine rq_on rfl ?_; refine rq_v (op_idx Try.underlying52 Try.sizeOf59 rfl rfl sa_A (by omega) (by omega)) ?_)
    first | refine rq_off rfl ?_ | (refine rq_on rfl ?_; refine rq_v (op_fld Try.underlying59 rfl Try.sizeOf39 rfl rfl sa_A) ?_)
    first | refine rq_off rfl ?_ | (refine rq_on rfl ?_; refine rq_r (fun wq hq => op_ldRA Try.underlying39 rfl (Try.sizeOf39 _) rfl (hA.gr (S.gr hq).out) hcell rfl rfl) ?_)
    first | refine rq_off rfl ?_ | (refine rq_on rfl ?_; refine rq_v (op_pure rfl) ?_)
    first | refine rq_off rfl ?_ | (refine rq_on rfl ?_; refine rq_v (op_pure rfl) ?_)
    first | refine rq_off rfl ?_ | (refine rq_on rfl ?_; refine rq_v (op_idx Try.underlying56 Try.sizeOf127 rfl rfl sa_B (by omega) (by omega)) ?_)
    first | refine rq_off rfl ?_ | (refine rq_on rfl ?_; refine rq_v (op_fld Try.underlying127 rfl Try.sizeOf39 rfl rfl sa_B) ?_)
    first | refine rq_off rfl ?_ | (refine rq_on rfl ?_; refine rq_r (fun wq hq => op_ldRA Try.underlying39 rfl (Try.sizeOf39 _) rfl (hB.gr (S.gr hq).out) hcell rfl rfl) ?_)
    refine rq_on rfl ?_
    refine rq_v (op_neCell (r := false) rfl rfl (by simp)) ?_
    refine rq_v (op_pure rfl) ?_
    refine rq_nil ?_
    intro w1_ g1_
    have S := S.gr g1_
    first | refine rw_end ?_ | (refine rw_nil ?_; show CW _ _ _ _ _ _) | refine rw_nil ?_
    repeat refine cw_seq ?_
    refine cw_false rfl ?_
    repeat refine cw_seq ?_
    refine cw_skip ?_
    try show CW _ _ _ _ _ _
    repeat refine cw_seq ?_
    refine cw_region ?_
    refine rw_v (op_pure rfl) ?_
    refine rw_v (op_rng rfl (by omega)) ?_
    refine rw_v (op_pure rfl) ?_
    first | refine rw_end ?_ | (refine rw_nil ?_; show CW _ _ _ _ _ _) | refine rw_nil ?_
    exact ⟨q - 1, by omega, k + 1, by omega, ⟨rfl, rfl, ie (by omega), trivial⟩, S⟩
  · try simp only [decide_eq_true_eq, decide_eq_false_iff_not, beq_iff_eq, bne_iff_ne, beq_eq_false_iff_ne, bne_eq_false_iff_eq, Bool.not_eq_true', Bool.not_eq_false', ne_eq, Decidable.not_not, Int.natCast_inj, Int.ofNat_lt, Int.ofNat_le, gt_iff_lt, ge_iff_le, Int.not_lt, Int.not_le] at hc
    repeat refine cw_seq ?_
    refine cw_exit ?_
    repeat first | refine exit_then ?_ | refine exit_inb ?_
    show CW _ _ _ _ _ _
    repeat refine cw_seq ?_
    refine cw_region ?_
    refine rw_v (op_pure rfl) ?_
    first | refine rw_end ?_ | (refine rw_nil ?_; show CW _ _ _ _ _ _) | refine rw_nil ?_
    repeat refine cw_seq ?_
    refine cw_ret ?_
    repeat first | refine ret_then ?_ | refine ret_inb ?_
    exact res1 rfl ⟨rfl, S.out⟩
end
end Go.Proofs.Yteihfmifelcidaa
/- hachurelaw49.ZonesOf: the walk. -/
namespace Go.Proofs.Yteihfmifelcidaa
open Go.RowKit
set_option linter.unusedVariables false
set_option linter.unusedSimpArgs false
set_option maxRecDepth 100000

section
variable {W : World} {A B : Option Addr} {V L : List Int}
set_option maxHeartbeats 8000000 in
theorem zonesOf_E (w h : Int) (cap cb : Nat) (hl : V.length ≤ 9223372036854775807) (hlL : L.length ≤ 9223372036854775807) (hA : Rd W A (ints V)) (hB : Rd W B (ints L)) :
    Fn Try.prog 5 [.int .i64 w, .int .i64 h, .slice A V.length cap, .slice B L.length cb] W (RetG (.bool true) W) := by
  by_cases hok : LandOk w h V 400
  · by_cases hl5 : L.length ≤ 600
    · obtain ⟨gw, rfl⟩ := Int.eq_ofNat_of_zero_le (show 0 ≤ w by have := hok.w1; omega)
      obtain ⟨gh, rfl⟩ := Int.eq_ofNat_of_zero_le (show 0 ≤ h by have := hok.h1; omega)
      have hw : 1 ≤ gw ∧ gw ≤ 1024 := by have := hok.w1; have := hok.wm; omega
      have hh : 1 ≤ gh ∧ gh ≤ 1024 := by have := hok.h1; have := hok.hm; omega
      have hmi : (gw : Int) * gh = ((gw * gh : Nat) : Int) := by push_cast; rfl
      have hVg : V.length = gw * gh := by have := hok.len; rw [hmi] at this; omega
      have hm : gw * gh ≤ 400 := by have := hok.area; rw [hmi] at this; omega
      have hmay := hok.may
      have hGl := gridL_made hVg
      have hbd := may_bnd hmay
      by_cases hcnt : L.length = V.length
      · have hLg : L.length = gw * gh := by omega
        have hzo := fun (p : Nat) (B2 : Option Addr) (bc : Nat) (bs : Nat → Nat) (Rs : Nat → Option Nat) (w : World) (hb : Rd w B (ints L)) (hG : GridAt w p gw gh (fun i => V.getD i 0) B2 bc bs Rs) => zof_E (W := w) (cb := cb) (by rw [hGl]; exact hbd) hLg hb hG
        rw [hGl, ← hLg] at hzo
        have hrz := fun w (ha : Rd w A (ints V)) (hb : Rd w B (ints L)) => rzones_E (W := w) (gw := gw) (gh := gh) (m := V.length) (n := L.length) (c := cap) (cb := cb) hw.1 (by omega) hVg hLg hVg hLg hbd ha hb
        rw [← hLg] at hrz
        have hsum := sums_all (V := V) (L := L) (n := L.length)
        have hsame := fun (A1 B1 : Option Addr) (c1 c2 : Nat) w (ha : Rd w A1 (((refLab L L.length).map fun a => znN V L a L.length).flatMap (encZ gw))) (hb : Rd w B1 (((refLab L L.length).map fun a => znN V L a L.length).flatMap (encZ gw))) => zsame_E (W := w) (A := A1) (B := B1) (c := c1) (cb := c2) (gw := gw) ((refLab L L.length).map fun a => znN V L a L.length) (by rw [List.length_map]; have := refLab_len (L := L) L.length; omega) ha hb
        rw [List.length_map] at hsame
        have hll := refLab_len (L := L) L.length
        have hzn : ∀ z, z ∈ (refLab L L.length).map (fun a => znN V L a L.length) → (0 ≤ z.ar ∧ z.ar ≤ (L.length : Nat)) ∧ (-((2147483648 * L.length : Nat) : Int) ≤ z.sm ∧ z.sm ≤ (2147483648 * L.length : Nat)) := fun z hz => by
          obtain ⟨a, _, rfl⟩ := List.mem_map.1 hz
          have := znN_bnd (L := L) (k := a) hbd L.length
          omega
        have hzl : ((refLab L L.length).map (fun a => znN V L a L.length)).length = (refLab L L.length).length := List.length_map _
        have har := fun i hi => arT_bnd (M := L.length) (fun z hz => (hzn z hz).1) i hi
        have hsr := fun i hi => smT_bnd (M := 2147483648 * L.length) (fun z hz => (hzn z hz).2) i hi
        rw [hzl] at har hsr
        have hgz : ∀ i, i < (refLab L L.length).length → ∃ z, ((refLab L L.length).map (fun a => znN V L a L.length))[i]? = some z := fun i hi => ⟨_, List.getElem?_eq_getElem (by omega)⟩
        generalize (refLab L L.length).map (fun a => znN V L a L.length) = Z at *
        generalize hzn2 : (refLab L L.length).length = zn at *
        have hgetV : ∀ i, i < V.length → (ints V)[(i : Int).toNat * 1]? = some (.int .i64 (V.getD i 0)) := fun i hi => by rw [Nat.mul_one, Int.toNat_natCast]; exact ints_get (getD_at hi)
        have hgetL : ∀ i, i < L.length → (ints L)[(i : Int).toNat * 1]? = some (.int .i64 (L.getD i 0)) := fun i hi => by rw [Nat.mul_one, Int.toNat_natCast]; exact ints_get (getD_at hi)
        have G := Gr.refl W
        have S := St.start W
        refine Fn_enter Try.func5 rfl Try.results5 Try.ntmps5 (by kernel_rfl) (by kernel_rfl) ?_
        repeat refine cw_seq ?_
        refine cw_region ?_
        refine rw_v (op_pure rfl) ?_
        first | refine rw_end ?_ | (refine rw_nil ?_; show CW _ _ _ _ _ _) | refine rw_nil ?_
        repeat refine cw_seq ?_
        refine cw_region ?_
        refine rw_call rfl (awake49_E W) ?_
        rintro _ w1_ ⟨rfl, g1_⟩
        have S := S.gr g1_
        refine rw_v (op_pure rfl) ?_
        first | refine rw_end ?_ | (refine rw_nil ?_; show CW _ _ _ _ _ _) | refine rw_nil ?_
        repeat refine cw_seq ?_
        refine cw_false rfl ?_
        repeat refine cw_seq ?_
        refine cw_skip ?_
        try show CW _ _ _ _ _ _
        repeat refine cw_seq ?_
        refine cw_region ?_
        iterate 3 refine rw_v (op_pure rfl) ?_
        refine rw_call rfl (land_E gw gh 400 cap (by omega) hok (hA.gr S.out)) ?_
        rintro _ w2_ ⟨rfl, g2_⟩
        have S := S.gr g2_
        iterate 3 refine rw_v (op_pure rfl) ?_
        refine rw_newB (op_alloc Try.zeroValue25 rfl) S ?_
        intro b_md w4_ g4_ S
        refine rw_storeSA (i := 0) S rfl (Try.sizeOf25 _) rfl rfl rfl rfl rfl rfl ?_
        intro w5_ S
        refine rw_v (op_pure rfl) ?_
        first | refine rw_end ?_ | (refine rw_nil ?_; show CW _ _ _ _ _ _) | refine rw_nil ?_
        repeat refine cw_seq ?_
        refine cw_region ?_
        iterate 3 refine rw_v (op_pure rfl) ?_
        first | refine rw_off rfl ?_ | (refine rw_on rfl ?_; refine rw_v (op_pure rfl) ?_)
        first | refine rw_off rfl ?_ | (refine rw_on rfl ?_; refine rw_v (op_len Try.underlying22 rfl) ?_)
        first | refine rw_off rfl ?_ | (refine rw_on rfl ?_; refine rw_v (op_b (b := false) rfl (decide_eq_false (by omega))) ?_)
        refine rw_v (op_pure rfl) ?_
        first | refine rw_end ?_ | (refine rw_nil ?_; show CW _ _ _ _ _ _) | refine rw_nil ?_
        repeat refine cw_seq ?_
        refine cw_false rfl ?_
        repeat refine cw_seq ?_
        refine cw_skip ?_
        try show CW _ _ _ _ _ _
        repeat refine cw_seq ?_
        refine cw_region ?_
        iterate 3 refine rw_v (op_pure rfl) ?_
        refine rw_call rfl (made_E gw gh cap hw hh hVg hmay (hA.gr S.out)) ?_
        rintro _ w6_ ⟨p, B2, bc, bs, Rs, rfl, hG, hf, g6_⟩
        have S := S.pushGrid hG hf g6_
        iterate 5 refine rw_v (op_pure rfl) ?_
        first | refine rw_end ?_ | (refine rw_nil ?_; show CW _ _ _ _ _ _) | refine rw_nil ?_
        repeat refine cw_seq ?_
        refine cw_region ?_
        iterate 2 refine rw_v (op_pure rfl) ?_
        first | refine rw_end ?_ | (refine rw_nil ?_; show CW _ _ _ _ _ _) | refine rw_nil ?_
        repeat refine cw_seq ?_
        refine cw_false rfl ?_
        repeat refine cw_seq ?_
        refine cw_skip ?_
        try show CW _ _ _ _ _ _
        repeat refine cw_seq ?_
        refine cw_region ?_
        iterate 2 refine rw_v (op_pure rfl) ?_
        refine rw_call rfl (hzo p B2 bc bs Rs w6_ (hB.gr S.out) (S.grid (i := 0) rfl)) ?_
        rintro _ w7_ ⟨A_z, c_z, rfl, hR_z, hf_z, g7_⟩
        have S := S.pushRow hR_z hf_z g7_
        iterate 5 refine rw_v (op_pure rfl) ?_
        first | refine rw_end ?_ | (refine rw_nil ?_; show CW _ _ _ _ _ _) | refine rw_nil ?_
        repeat refine cw_seq ?_
        refine cw_region ?_
        refine rw_v (op_pure rfl) ?_
        refine rw_v (op_len Try.underlying22 rfl) ?_
        refine rw_v (op_pure rfl) ?_
        refine rw_v (op_len Try.underlying22 rfl) ?_
        refine rw_v (op_b (b := false) rfl (bne_eq_false_iff_eq.2 (by omega))) ?_
        first | refine rw_end ?_ | (refine rw_nil ?_; show CW _ _ _ _ _ _) | refine rw_nil ?_
        repeat refine cw_seq ?_
        refine cw_false rfl ?_
        repeat refine cw_seq ?_
        refine cw_skip ?_
        try show CW _ _ _ _ _ _
        repeat refine cw_seq ?_
        refine cw_region ?_
        refine rw_v (op_pure rfl) ?_
        refine rw_v (op_b (b := false) rfl (bne_eq_false_iff_eq.2 (by omega))) ?_
        refine rw_v (op_pure rfl) ?_
        first | refine rw_off rfl ?_ | (refine rw_on rfl ?_; refine rw_v (op_pure rfl) ?_)
        refine rw_on rfl ?_
        refine rw_r (op_loadAB Try.underlying25 rfl (Try.sizeOf25 _) rfl (S.blk (i := 2) rfl) rfl rfl) ?_
        refine rw_on rfl ?_
        refine rw_v (op_pure rfl) ?_
        refine rw_on rfl ?_
        refine rw_call rfl (hrz w7_ (hA.gr S.out) (hB.gr S.out)) ?_
        rintro _ w8_ ⟨A_rz, c_rz, rfl, hR_rz, hf_rz, g8_⟩
        have S := S.pushRow hR_rz hf_rz g8_
        refine rw_on rfl ?_
        refine rw_call rfl (hsame A_z A_rz c_z c_rz w8_ (S.rd (i := 1) rfl) (S.rd (i := 0) rfl)) ?_
        rintro _ w9_ ⟨rfl, g9_⟩
        have S := S.gr g9_
        refine rw_on rfl ?_
        iterate 2 refine rw_v (op_pure rfl) ?_
        first | refine rw_end ?_ | (refine rw_nil ?_; show CW _ _ _ _ _ _) | refine rw_nil ?_
        repeat refine cw_seq ?_
        refine cw_false rfl ?_
        repeat refine cw_seq ?_
        refine cw_skip ?_
        try show CW _ _ _ _ _ _
        repeat refine cw_seq ?_
        refine cw_region ?_
        iterate 2 refine rw_v (op_pure rfl) ?_
        first | refine rw_end ?_ | (refine rw_nil ?_; show CW _ _ _ _ _ _) | refine rw_nil ?_
        repeat refine cw_seq ?_
        refine cw_region ?_
        refine rw_v (op_pure rfl) ?_
        first | refine rw_end ?_ | (refine rw_nil ?_; show CW _ _ _ _ _ _) | refine rw_nil ?_
        repeat refine cw_seq ?_
        refine cw_block ?_
        repeat refine cw_seq ?_
        have S := S.sub (.cons _ (.cons_cons _ (.cons _ (.cons _ (.slnil)))))
        have hlL : L.length ≤ 400 := by omega
        have hposL : 1 ≤ L.length := by have := Nat.mul_le_mul hw.1 hh.1; omega
        refine cw_loop (fun m e w => ∃ i : Nat, i + m = L.length ∧ SL e [(2, .slice A V.length cap), (3, .slice B L.length cb), (12, .slice A_z zn c_z), (14, .int .i64 (arN L i)), (15, .int .i64 (smN V L i)), (16, .int .i64 i)] ∧
          St No W w [.row 59 7 A_z zn c_z (Z.flatMap (encZ gw))]) L.length
          ⟨0, by omega, ⟨rfl, rfl, rfl, rfl, rfl, rfl, trivial⟩, S⟩ ?_
        clear S
        rintro m e w ⟨i, hi, hsl, S⟩
        rw [hsl.fold]
        by_cases hin : i < L.length
        · have sa_A : SomeA A := hA.someA (by rw [ints_len]; omega)
          have sa_B : SomeA B := hB.someA (by rw [ints_len]; omega)
          have ha := arN_bnd (L := L) i
          have hs := smN_bnd (L := L) hbd i
          have hbi := hbd i
          have h1 : arN L (i + 1) = if L.getD i 0 ≠ 0 then arN L i + 1 else arN L i := rfl
          have h2 : smN V L (i + 1) = if L.getD i 0 ≠ 0 then smN V L i + V.getD i 0 else smN V L i := rfl
          have hgLi := hgetL i hin
          have hgVi := hgetV i (by omega)
          by_cases h0 : L.getD i 0 ≠ 0
          · rw [if_pos h0] at h1 h2
            repeat refine cw_seq ?_
            refine cw_region ?_
            iterate 2 refine rw_v (op_pure rfl) ?_
            refine rw_v (op_len Try.underlying22 rfl) ?_
            refine rw_v (op_b (b := true) rfl (decide_eq_true (by omega))) ?_
            first | refine rw_end ?_ | (refine rw_nil ?_; show CW _ _ _ _ _ _) | refine rw_nil ?_
            repeat refine cw_seq ?_
            refine cw_true rfl ?_
            repeat refine cw_seq ?_
            refine cw_skip ?_
            try show CW _ _ _ _ _ _
            repeat refine cw_seq ?_
            refine cw_block ?_
            repeat refine cw_seq ?_
            refine cw_region ?_
            iterate 2 refine rw_v (op_pure rfl) ?_
            refine rw_v (op_idx Try.underlying22 Try.sizeOf2 rfl rfl sa_B (by omega) (by omega)) ?_
            refine rw_r (op_ldR Try.underlying2 rfl rfl (((hB.gr G).gr S.out)) hgLi) ?_
            refine rw_v (op_b (b := true) rfl (bne_iff_ne.2 (by omega))) ?_
            first | refine rw_end ?_ | (refine rw_nil ?_; show CW _ _ _ _ _ _) | refine rw_nil ?_
            repeat refine cw_seq ?_
            refine cw_true rfl ?_
            repeat refine cw_seq ?_
            refine cw_region ?_
            refine rw_v (op_pure rfl) ?_
            refine rw_v (op_rng rfl (by omega)) ?_
            refine rw_v (op_pure rfl) ?_
            first | refine rw_end ?_ | (refine rw_nil ?_; show CW _ _ _ _ _ _) | refine rw_nil ?_
            repeat refine cw_seq ?_
            refine cw_region ?_
            iterate 3 refine rw_v (op_pure rfl) ?_
            refine rw_v (op_idx Try.underlying22 Try.sizeOf2 rfl rfl sa_A (by omega) (by omega)) ?_
            refine rw_r (op_ldR Try.underlying2 rfl rfl (((hA.gr G).gr S.out)) hgVi) ?_
            refine rw_v (op_rng rfl (by omega)) ?_
            refine rw_v (op_pure rfl) ?_
            first | refine rw_end ?_ | (refine rw_nil ?_; show CW _ _ _ _ _ _) | refine rw_nil ?_
            repeat refine cw_seq ?_
            refine cw_region ?_
            refine rw_v (op_pure rfl) ?_
            refine rw_v (op_rng rfl (by omega)) ?_
            refine rw_v (op_pure rfl) ?_
            first | refine rw_end ?_ | (refine rw_nil ?_; show CW _ _ _ _ _ _) | refine rw_nil ?_
            exact ⟨m - 1, by omega, i + 1, by omega, ⟨rfl, rfl, rfl, ie (by rw [h1]), ie (by rw [h2]), ie (by omega), trivial⟩, S⟩
          · rw [if_neg h0] at h1 h2
            repeat refine cw_seq ?_
            refine cw_region ?_
            iterate 2 refine rw_v (op_pure rfl) ?_
            refine rw_v (op_len Try.underlying22 rfl) ?_
            refine rw_v (op_b (b := true) rfl (decide_eq_true (by omega))) ?_
            first | refine rw_end ?_ | (refine rw_nil ?_; show CW _ _ _ _ _ _) | refine rw_nil ?_
            repeat refine cw_seq ?_
            refine cw_true rfl ?_
            repeat refine cw_seq ?_
            refine cw_skip ?_
            try show CW _ _ _ _ _ _
            repeat refine cw_seq ?_
            refine cw_block ?_
            repeat refine cw_seq ?_
            refine cw_region ?_
            iterate 2 refine rw_v (op_pure rfl) ?_
            refine rw_v (op_idx Try.underlying22 Try.sizeOf2 rfl rfl sa_B (by omega) (by omega)) ?_
            refine rw_r (op_ldR Try.underlying2 rfl rfl (((hB.gr G).gr S.out)) hgLi) ?_
            refine rw_v (op_b (b := false) rfl (bne_eq_false_iff_eq.2 (by omega))) ?_
            first | refine rw_end ?_ | (refine rw_nil ?_; show CW _ _ _ _ _ _) | refine rw_nil ?_
            repeat refine cw_seq ?_
            refine cw_false rfl ?_
            repeat refine cw_seq ?_
            refine cw_skip ?_
            try show CW _ _ _ _ _ _
            repeat refine cw_seq ?_
            refine cw_region ?_
            refine rw_v (op_pure rfl) ?_
            refine rw_v (op_rng rfl (by omega)) ?_
            refine rw_v (op_pure rfl) ?_
            first | refine rw_end ?_ | (refine rw_nil ?_; show CW _ _ _ _ _ _) | refine rw_nil ?_
            exact ⟨m - 1, by omega, i + 1, by omega, ⟨rfl, rfl, rfl, ie (by rw [h1]), ie (by rw [h2]), ie (by omega), trivial⟩, S⟩
        · obtain rfl : i = L.length := by omega
          have ha := arN_bnd (L := L) L.length
          have hs := smN_bnd (L := L) hbd L.length
          generalize arN L L.length = aN at *
          generalize smN V L L.length = sN at *
          have z0 : arT Z 0 = 0 := by simp [arT]
          have z1 : smT Z 0 = 0 := by simp [smT]
          repeat refine cw_seq ?_
          refine cw_region ?_
          iterate 2 refine rw_v (op_pure rfl) ?_
          refine rw_v (op_len Try.underlying22 rfl) ?_
          refine rw_v (op_b (b := false) rfl (decide_eq_false (by omega))) ?_
          first | refine rw_end ?_ | (refine rw_nil ?_; show CW _ _ _ _ _ _) | refine rw_nil ?_
          repeat refine cw_seq ?_
          refine cw_false rfl ?_
          repeat refine cw_seq ?_
          refine cw_exit ?_
          repeat first | refine exit_then ?_ | refine exit_inb ?_
          show CW _ _ _ _ _ _
          repeat refine cw_seq ?_
          refine cw_region ?_
          refine rw_v (op_pure rfl) ?_
          first | refine rw_end ?_ | (refine rw_nil ?_; show CW _ _ _ _ _ _) | refine rw_nil ?_
          repeat refine cw_seq ?_
          refine cw_block ?_
          repeat refine cw_seq ?_
          refine cw_loop (fun m e w => ∃ i : Nat, i + m = zn ∧ SL e [(2, .slice A V.length cap), (3, .slice B L.length cb), (12, .slice A_z zn c_z), (14, .int .i64 (aN - arT Z i)), (15, .int .i64 (sN - smT Z i)), (17, .int .i64 i)] ∧
            St No W w [.row 59 7 A_z zn c_z (Z.flatMap (encZ gw))]) zn
            ⟨0, by omega, ⟨rfl, rfl, rfl, ie (by omega), ie (by omega), rfl, trivial⟩, S⟩ ?_
          clear S
          rintro m e w ⟨i, hi, hsl, S⟩
          rw [hsl.fold]
          by_cases hin : i < zn
          · obtain ⟨x, hx⟩ := hgz i hin
            have hxm := hzn x (List.mem_of_getElem? hx)
            have hgx1 : (Z.flatMap (encZ gw))[(i : Int).toNat * 7 + 1]? = some (.int .i64 x.ar) := fldZ hx 1 (by omega)
            have hgx2 : (Z.flatMap (encZ gw))[(i : Int).toNat * 7 + 2]? = some (.int .i64 x.sm) := fldZ hx 2 (by omega)
            have sa_z : SomeA A_z := (S.row (i := 0) rfl).someA (by omega)
            have ha1 := har i (by omega)
            have hs1 := hsr i (by omega)
            have hi2 : (i : Int) ≤ 400 := by omega
            have hmul1 : ((L.length : Nat) : Int) * i ≤ 400 * 400 := Int.mul_le_mul (by omega) hi2 (by omega) (by omega)
            have hmul2 : ((2147483648 * L.length : Nat) : Int) * i ≤ 858993459200 * 400 := Int.mul_le_mul (by omega) hi2 (by omega) (by omega)
            have e1 := arT_succ hx
            have e2 := smT_succ hx
            generalize ((L.length : Nat) : Int) * i = y1 at *
            generalize ((2147483648 * L.length : Nat) : Int) * i = y2 at *
            repeat refine cw_seq ?_
            refine cw_region ?_
            iterate 2 refine rw_v (op_pure rfl) ?_
            refine rw_v (op_len Try.underlying52 rfl) ?_
            refine rw_v (op_b (b := true) rfl (decide_eq_true (by omega))) ?_
            first | refine rw_end ?_ | (refine rw_nil ?_; show CW _ _ _ _ _ _) | refine rw_nil ?_
            repeat refine cw_seq ?_
            refine cw_true rfl ?_
            repeat refine cw_seq ?_
            refine cw_skip ?_
            try show CW _ _ _ _ _ _
            repeat refine cw_seq ?_
            refine cw_block ?_
            repeat refine cw_seq ?_
            refine cw_region ?_
            iterate 3 refine rw_v (op_pure rfl) ?_
            refine rw_v (op_idx Try.underlying52 Try.sizeOf59 rfl rfl sa_z (by omega) (by omega)) ?_
            refine rw_v (op_fld Try.underlying59 rfl Try.sizeOf2 rfl rfl sa_z) ?_
            refine rw_r (op_ldR Try.underlying2 rfl rfl (S.rd (i := 0) rfl) hgx1) ?_
            refine rw_v (op_rng rfl (by omega)) ?_
            refine rw_v (op_pure rfl) ?_
            first | refine rw_end ?_ | (refine rw_nil ?_; show CW _ _ _ _ _ _) | refine rw_nil ?_
            repeat refine cw_seq ?_
            refine cw_region ?_
            iterate 3 refine rw_v (op_pure rfl) ?_
            refine rw_v (op_idx Try.underlying52 Try.sizeOf59 rfl rfl sa_z (by omega) (by omega)) ?_
            refine rw_v (op_fld Try.underlying59 rfl Try.sizeOf2 rfl rfl sa_z) ?_
            refine rw_r (op_ldR Try.underlying2 rfl rfl (S.rd (i := 0) rfl) hgx2) ?_
            refine rw_v (op_rng rfl (by omega)) ?_
            refine rw_v (op_pure rfl) ?_
            first | refine rw_end ?_ | (refine rw_nil ?_; show CW _ _ _ _ _ _) | refine rw_nil ?_
            repeat refine cw_seq ?_
            refine cw_region ?_
            refine rw_v (op_pure rfl) ?_
            refine rw_v (op_rng rfl (by omega)) ?_
            refine rw_v (op_pure rfl) ?_
            first | refine rw_end ?_ | (refine rw_nil ?_; show CW _ _ _ _ _ _) | refine rw_nil ?_
            exact ⟨m - 1, by omega, i + 1, by omega, ⟨rfl, rfl, rfl, ie (by rw [e1]; omega), ie (by rw [e2]; omega), ie (by omega), trivial⟩, S⟩
          · obtain rfl : i = zn := by omega
            rw [hsum.1, hsum.2]
            repeat refine cw_seq ?_
            refine cw_region ?_
            iterate 2 refine rw_v (op_pure rfl) ?_
            refine rw_v (op_len Try.underlying52 rfl) ?_
            refine rw_v (op_b (b := false) rfl (decide_eq_false (by omega))) ?_
            first | refine rw_end ?_ | (refine rw_nil ?_; show CW _ _ _ _ _ _) | refine rw_nil ?_
            repeat refine cw_seq ?_
            refine cw_false rfl ?_
            repeat refine cw_seq ?_
            refine cw_exit ?_
            repeat first | refine exit_then ?_ | refine exit_inb ?_
            show CW _ _ _ _ _ _
            repeat refine cw_seq ?_
            refine cw_region ?_
            refine rw_v (op_pure rfl) ?_
            refine rw_v (op_b (b := true) rfl (beq_iff_eq.2 (by omega))) ?_
            refine rw_v (op_pure rfl) ?_
            first | refine rw_off rfl ?_ | (refine rw_on rfl ?_; refine rw_v (op_pure rfl) ?_)
            first | refine rw_off rfl ?_ | (refine rw_on rfl ?_; refine rw_v (op_b (b := true) rfl (beq_iff_eq.2 (by omega))) ?_)
            iterate 2 refine rw_v (op_pure rfl) ?_
            first | refine rw_end ?_ | (refine rw_nil ?_; show CW _ _ _ _ _ _) | refine rw_nil ?_
            repeat refine cw_seq ?_
            refine cw_ret ?_
            repeat first | refine ret_then ?_ | refine ret_inb ?_
            exact res1 rfl ⟨rfl, S.out⟩
      · have hzo := fun (p : Nat) (B2 : Option Addr) (bc : Nat) (bs : Nat → Nat) (Rs : Nat → Option Nat) (w : World) (hG : GridAt w p gw gh (fun i => V.getD i 0) B2 bc bs Rs) => zofNo_E (W := w) (B := B) (cb := cb) (n := L.length) (by omega) hG
        have G := Gr.refl W
        have S := St.start W
        refine Fn_enter Try.func5 rfl Try.results5 Try.ntmps5 (by kernel_rfl) (by kernel_rfl) ?_
        repeat refine cw_seq ?_
        refine cw_region ?_
        refine rw_v (op_pure rfl) ?_
        first | refine rw_end ?_ | (refine rw_nil ?_; show CW _ _ _ _ _ _) | refine rw_nil ?_
        repeat refine cw_seq ?_
        refine cw_region ?_
        refine rw_call rfl (awake49_E W) ?_
        rintro _ w1_ ⟨rfl, g1_⟩
        have S := S.gr g1_
        refine rw_v (op_pure rfl) ?_
        first | refine rw_end ?_ | (refine rw_nil ?_; show CW _ _ _ _ _ _) | refine rw_nil ?_
        repeat refine cw_seq ?_
        refine cw_false rfl ?_
        repeat refine cw_seq ?_
        refine cw_skip ?_
        try show CW _ _ _ _ _ _
        repeat refine cw_seq ?_
        refine cw_region ?_
        iterate 3 refine rw_v (op_pure rfl) ?_
        refine rw_call rfl (land_E gw gh 400 cap (by omega) hok (hA.gr S.out)) ?_
        rintro _ w2_ ⟨rfl, g2_⟩
        have S := S.gr g2_
        iterate 3 refine rw_v (op_pure rfl) ?_
        refine rw_newB (op_alloc Try.zeroValue25 rfl) S ?_
        intro b_md w4_ g4_ S
        refine rw_storeSA (i := 0) S rfl (Try.sizeOf25 _) rfl rfl rfl rfl rfl rfl ?_
        intro w5_ S
        refine rw_v (op_pure rfl) ?_
        first | refine rw_end ?_ | (refine rw_nil ?_; show CW _ _ _ _ _ _) | refine rw_nil ?_
        repeat refine cw_seq ?_
        refine cw_region ?_
        iterate 3 refine rw_v (op_pure rfl) ?_
        first | refine rw_off rfl ?_ | (refine rw_on rfl ?_; refine rw_v (op_pure rfl) ?_)
        first | refine rw_off rfl ?_ | (refine rw_on rfl ?_; refine rw_v (op_len Try.underlying22 rfl) ?_)
        first | refine rw_off rfl ?_ | (refine rw_on rfl ?_; refine rw_v (op_b (b := false) rfl (decide_eq_false (by omega))) ?_)
        refine rw_v (op_pure rfl) ?_
        first | refine rw_end ?_ | (refine rw_nil ?_; show CW _ _ _ _ _ _) | refine rw_nil ?_
        repeat refine cw_seq ?_
        refine cw_false rfl ?_
        repeat refine cw_seq ?_
        refine cw_skip ?_
        try show CW _ _ _ _ _ _
        repeat refine cw_seq ?_
        refine cw_region ?_
        iterate 3 refine rw_v (op_pure rfl) ?_
        refine rw_call rfl (made_E gw gh cap hw hh hVg hmay (hA.gr S.out)) ?_
        rintro _ w6_ ⟨p, B2, bc, bs, Rs, rfl, hG, hf, g6_⟩
        have S := S.pushGrid hG hf g6_
        iterate 5 refine rw_v (op_pure rfl) ?_
        first | refine rw_end ?_ | (refine rw_nil ?_; show CW _ _ _ _ _ _) | refine rw_nil ?_
        repeat refine cw_seq ?_
        refine cw_region ?_
        iterate 2 refine rw_v (op_pure rfl) ?_
        first | refine rw_end ?_ | (refine rw_nil ?_; show CW _ _ _ _ _ _) | refine rw_nil ?_
        repeat refine cw_seq ?_
        refine cw_false rfl ?_
        repeat refine cw_seq ?_
        refine cw_skip ?_
        try show CW _ _ _ _ _ _
        repeat refine cw_seq ?_
        refine cw_region ?_
        iterate 2 refine rw_v (op_pure rfl) ?_
        refine rw_call rfl (hzo p B2 bc bs Rs w6_ (S.grid (i := 0) rfl)) ?_
        rintro _ w7_ ⟨rfl, g7_⟩
        have S := S.gr g7_
        iterate 5 refine rw_v (op_pure rfl) ?_
        first | refine rw_end ?_ | (refine rw_nil ?_; show CW _ _ _ _ _ _) | refine rw_nil ?_
        repeat refine cw_seq ?_
        refine cw_region ?_
        refine rw_v (op_pure rfl) ?_
        refine rw_v (op_len Try.underlying22 rfl) ?_
        refine rw_v (op_pure rfl) ?_
        refine rw_v (op_len Try.underlying22 rfl) ?_
        refine rw_v (op_b (b := true) rfl (bne_iff_ne.2 (by omega))) ?_
        first | refine rw_end ?_ | (refine rw_nil ?_; show CW _ _ _ _ _ _) | refine rw_nil ?_
        repeat refine cw_seq ?_
        refine cw_true rfl ?_
        repeat refine cw_seq ?_
        refine cw_region ?_
        refine rw_v (op_pure rfl) ?_
        refine rw_v (op_len Try.underlying52 rfl) ?_
        refine rw_v (op_b (b := true) rfl (beq_iff_eq.2 (by omega))) ?_
        refine rw_v (op_pure rfl) ?_
        first | refine rw_off rfl ?_ | (refine rw_on rfl ?_; refine rw_v (op_pure rfl) ?_)
        first | refine rw_off rfl ?_ | (refine rw_on rfl ?_; refine rw_v (op_b (b := true) rfl (beq_iff_eq.2 (by omega))) ?_)
        iterate 2 refine rw_v (op_pure rfl) ?_
        first | refine rw_end ?_ | (refine rw_nil ?_; show CW _ _ _ _ _ _) | refine rw_nil ?_
        repeat refine cw_seq ?_
        refine cw_ret ?_
        repeat first | refine ret_then ?_ | refine ret_inb ?_
        exact res1 rfl ⟨rfl, S.out⟩
    · obtain ⟨gw, rfl⟩ := Int.eq_ofNat_of_zero_le (show 0 ≤ w by have := hok.w1; omega)
      obtain ⟨gh, rfl⟩ := Int.eq_ofNat_of_zero_le (show 0 ≤ h by have := hok.h1; omega)
      have G := Gr.refl W
      have S := St.start W
      refine Fn_enter Try.func5 rfl Try.results5 Try.ntmps5 (by kernel_rfl) (by kernel_rfl) ?_
      repeat refine cw_seq ?_
      refine cw_region ?_
      refine rw_v (op_pure rfl) ?_
      first | refine rw_end ?_ | (refine rw_nil ?_; show CW _ _ _ _ _ _) | refine rw_nil ?_
      repeat refine cw_seq ?_
      refine cw_region ?_
      refine rw_call rfl (awake49_E W) ?_
      rintro _ w1_ ⟨rfl, g1_⟩
      have S := S.gr g1_
      refine rw_v (op_pure rfl) ?_
      first | refine rw_end ?_ | (refine rw_nil ?_; show CW _ _ _ _ _ _) | refine rw_nil ?_
      repeat refine cw_seq ?_
      refine cw_false rfl ?_
      repeat refine cw_seq ?_
      refine cw_skip ?_
      try show CW _ _ _ _ _ _
      repeat refine cw_seq ?_
      refine cw_region ?_
      iterate 3 refine rw_v (op_pure rfl) ?_
      refine rw_call rfl (land_E gw gh 400 cap (by omega) hok (hA.gr S.out)) ?_
      rintro _ w2_ ⟨rfl, g2_⟩
      have S := S.gr g2_
      iterate 3 refine rw_v (op_pure rfl) ?_
      refine rw_newB (op_alloc Try.zeroValue25 rfl) S ?_
      intro b_md w4_ g4_ S
      refine rw_storeSA (i := 0) S rfl (Try.sizeOf25 _) rfl rfl rfl rfl rfl rfl ?_
      intro w5_ S
      refine rw_v (op_pure rfl) ?_
      first | refine rw_end ?_ | (refine rw_nil ?_; show CW _ _ _ _ _ _) | refine rw_nil ?_
      repeat refine cw_seq ?_
      refine cw_region ?_
      iterate 3 refine rw_v (op_pure rfl) ?_
      first | refine rw_off rfl ?_ | (refine rw_on rfl ?_; refine rw_v (op_pure rfl) ?_)
      first | refine rw_off rfl ?_ | (refine rw_on rfl ?_; refine rw_v (op_len Try.underlying22 rfl) ?_)
      first | refine rw_off rfl ?_ | (refine rw_on rfl ?_; refine rw_v (op_b (b := true) rfl (decide_eq_true (by omega))) ?_)
      refine rw_v (op_pure rfl) ?_
      first | refine rw_end ?_ | (refine rw_nil ?_; show CW _ _ _ _ _ _) | refine rw_nil ?_
      repeat refine cw_seq ?_
      refine cw_true rfl ?_
      repeat refine cw_seq ?_
      refine cw_region ?_
      refine rw_v (op_pure rfl) ?_
      first | refine rw_end ?_ | (refine rw_nil ?_; show CW _ _ _ _ _ _) | refine rw_nil ?_
      repeat refine cw_seq ?_
      refine cw_ret ?_
      repeat first | refine ret_then ?_ | refine ret_inb ?_
      exact res1 rfl ⟨rfl, S.out⟩
  · skip
    have G := Gr.refl W
    have S := St.start W
    refine Fn_enter Try.func5 rfl Try.results5 Try.ntmps5 (by kernel_rfl) (by kernel_rfl) ?_
    repeat refine cw_seq ?_
    refine cw_region ?_
    refine rw_v (op_pure rfl) ?_
    first | refine rw_end ?_ | (refine rw_nil ?_; show CW _ _ _ _ _ _) | refine rw_nil ?_
    repeat refine cw_seq ?_
    refine cw_region ?_
    refine rw_call rfl (awake49_E W) ?_
    rintro _ w1_ ⟨rfl, g1_⟩
    have S := S.gr g1_
    refine rw_v (op_pure rfl) ?_
    first | refine rw_end ?_ | (refine rw_nil ?_; show CW _ _ _ _ _ _) | refine rw_nil ?_
    repeat refine cw_seq ?_
    refine cw_false rfl ?_
    repeat refine cw_seq ?_
    refine cw_skip ?_
    try show CW _ _ _ _ _ _
    repeat refine cw_seq ?_
    refine cw_region ?_
    iterate 3 refine rw_v (op_pure rfl) ?_
    refine rw_call rfl (landNo_E w h 400 cap (by omega) hl hok (hA.gr S.out)) ?_
    rintro _ w2_ ⟨rfl, g2_⟩
    have S := S.gr g2_
    iterate 3 refine rw_v (op_pure rfl) ?_
    refine rw_newB (op_alloc Try.zeroValue25 rfl) S ?_
    intro b_b3 w4_ g4_ S
    refine rw_storeSA (i := 0) S rfl (Try.sizeOf25 _) rfl rfl rfl rfl rfl rfl ?_
    intro w5_ S
    refine rw_v (op_pure rfl) ?_
    first | refine rw_end ?_ | (refine rw_nil ?_; show CW _ _ _ _ _ _) | refine rw_nil ?_
    repeat refine cw_seq ?_
    refine cw_region ?_
    iterate 3 refine rw_v (op_pure rfl) ?_
    first | refine rw_off rfl ?_ | (refine rw_on rfl ?_; refine rw_v (op_pure rfl) ?_)
    first | refine rw_off rfl ?_ | (refine rw_on rfl ?_; refine rw_v (op_len Try.underlying22 rfl) ?_)
    first | refine rw_off rfl ?_ | (refine rw_on rfl ?_; (first | refine rw_v (op_b (b := true) rfl (decide_eq_true (by omega))) ?_ | refine rw_v (op_b (b := false) rfl (decide_eq_false (by omega))) ?_ | refine rw_v (op_pure rfl) ?_))
    refine rw_v (op_pure rfl) ?_
    first | refine rw_end ?_ | (refine rw_nil ?_; show CW _ _ _ _ _ _) | refine rw_nil ?_
    repeat refine cw_seq ?_
    refine cw_true rfl ?_
    repeat refine cw_seq ?_
    refine cw_region ?_
    refine rw_v (op_pure rfl) ?_
    first | refine rw_end ?_ | (refine rw_nil ?_; show CW _ _ _ _ _ _) | refine rw_nil ?_
    repeat refine cw_seq ?_
    refine cw_ret ?_
    repeat first | refine ret_then ?_ | refine ret_inb ?_
    exact res1 rfl ⟨rfl, S.out⟩
end
end Go.Proofs.Yteihfmifelcidaa
