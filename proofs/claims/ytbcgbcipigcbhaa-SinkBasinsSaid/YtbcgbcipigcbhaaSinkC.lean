/- sink.Next, Way and the document's: contracts. -/
import Derived.Test.YtbcgbcipigcbhaaSinkB
namespace Go.Proofs.Ytbcgbcipigcbhaa
open Go.RowKit
set_option linter.unusedVariables false
set_option linter.unusedSimpArgs false
set_option maxRecDepth 100000

/-- the next cell, or the nought cell where there is none -/
def nxZ (gw : Nat) (f : Nat → Nat) (i : Nat) : Int × Int := if f i = i then (0, 0) else cz gw (f i)
theorem in_cz {gw gh : Nat} {x y : Int} (h : inG gw gh (x, y) = true) : ∃ i, i < gw * gh ∧ x = (i % gw : Nat) ∧ y = (i / gw : Nat) := by
  have h := inG_iff.1 h
  dsimp only at h
  obtain ⟨a, rfl⟩ := Int.eq_ofNat_of_zero_le h.1
  obtain ⟨b, rfl⟩ := Int.eq_ofNat_of_zero_le h.2.2.1
  have h1 := cell_split (Y := b) (X := a) (gw := gw) (by omega)
  refine ⟨b * gw + a, ?_, by rw [h1.1], by rw [h1.2]⟩
  have := Nat.mul_le_mul_right gw (show b + 1 ≤ gh by omega)
  rw [Nat.succ_mul, Nat.mul_comm gh] at this
  omega
theorem cellsZ_push (gw : Nat) (l : List Nat) (j : Nat) : cellsZ (l.map (cz gw)) ++ [.int .i64 (j % gw : Nat), .int .i64 (j / gw : Nat)] = cellsZ ((l ++ [j]).map (cz gw)) := by simp [cellsZ, cz]
section
variable {W : World} {A : Option Addr} {p gw gh cap c : Nat} {cc : Nat → Int} {bs : Nat → Nat} {Rs : Nat → Option Nat} {V : List Int}
theorem sbeginI_E (i : Nat) (hi : i < gw * gh) (hG : GridAt W p gw gh cc A cap bs Rs) : Fn Try.prog 83 [.pointer (some ⟨p, 0, none⟩), .agg #[.int .i64 (i % gw : Nat), .int .i64 (i / gw : Nat)]] W
    (RetSL gw gh (gridL gw gh cc) (fun l => .tuple #[l, .int .i64 i, .int .i64 0]) W) := by
  have hgw := hG.sw.1
  have := sbegin_E (i % gw) (i / gw) (Nat.mod_lt i hgw) (Nat.div_lt_of_lt_mul hi) hG
  rw [show i / gw * gw + i % gw = i by rw [Nat.mul_comm]; exact Nat.div_add_mod i gw] at this
  exact this
theorem snextNil_E (x y : Int) : Fn Try.prog 32 [.pointer none, .agg #[.int .i64 x, .int .i64 y]] W (RetG (.tuple #[.agg #[.int .i64 0, .int .i64 0], .bool false, .int .i64 1]) W) := by
  have S := St.start W
  refine Fn_enter Try.func32 rfl Try.results32 Try.ntmps32 (by kernel_rfl) (by kernel_rfl) ?_
  repeat refine cw_seq ?_
  refine cw_region ?_
  refine rw_newB (op_box rfl) S ?_
  intro b_c w2_ g2_ S
  refine rw_newB (op_alloc Try.zeroValue44 rfl) S ?_
  intro b_res w4_ g4_ S
  iterate 2 refine rw_v (op_pure rfl) ?_
  first | refine rw_end ?_ | (refine rw_nil ?_; show CW _ _ _ _ _ _) | refine rw_nil ?_
  repeat refine cw_seq ?_
  refine cw_region ?_
  refine rw_v (op_pure rfl) ?_
  refine rw_r (op_loadAB Try.underlying44 rfl (Try.sizeOf44 _) rfl (S.blk (i := 1) rfl) rfl rfl) ?_
  refine rw_call rfl (sbeginNil_E x y) ?_
  rintro _ w5_ ⟨rfl, g5_⟩
  have S := S.gr g5_
  iterate 4 refine rw_v (op_pure rfl) ?_
  refine rw_newB (op_alloc Try.zeroValue136 rfl) S ?_
  intro b_l w7_ g7_ S
  refine rw_storeSA (i := 0) S rfl (Try.sizeOf136 _) rfl rfl rfl rfl rfl rfl ?_
  intro w8_ S
  iterate 2 refine rw_v (op_pure rfl) ?_
  first | refine rw_end ?_ | (refine rw_nil ?_; show CW _ _ _ _ _ _) | refine rw_nil ?_
  repeat refine cw_seq ?_
  refine cw_region ?_
  refine rw_v (op_pure rfl) ?_
  refine rw_v (op_b (b := true) rfl (bne_iff_ne.2 (by omega))) ?_
  refine rw_v (op_pure rfl) ?_
  refine rw_off rfl ?_
  refine rw_off rfl ?_
  refine rw_off rfl ?_
  refine rw_off rfl ?_
  refine rw_off rfl ?_
  refine rw_off rfl ?_
  refine rw_off rfl ?_
  refine rw_v (op_pure rfl) ?_
  first | refine rw_end ?_ | (refine rw_nil ?_; show CW _ _ _ _ _ _) | refine rw_nil ?_
  repeat refine cw_seq ?_
  refine cw_true rfl ?_
  repeat refine cw_seq ?_
  refine cw_region ?_
  refine rw_v (op_build (pl := [(0, 1), (1, 1)]) Try.underlying44 Try.zeroValue44 (fun w => by kernel_rfl) rfl rfl) ?_
  refine rw_v (op_pure rfl) ?_
  refine rw_storeSA (i := 1) S rfl (Try.sizeOf44 _) rfl rfl rfl rfl rfl rfl ?_
  intro w9_ S
  iterate 2 refine rw_v (op_pure rfl) ?_
  first | refine rw_end ?_ | (refine rw_nil ?_; show CW _ _ _ _ _ _) | refine rw_nil ?_
  repeat refine cw_seq ?_
  refine cw_ret ?_
  repeat first | refine ret_then ?_ | refine ret_inb ?_
  exact resATT Try.underlying44 rfl (Try.sizeOf44 _) rfl (S.blk (i := 1) rfl) rfl rfl rfl rfl ⟨rfl, S.out⟩
theorem snextNo_E (x y : Int) (hno : inG gw gh (x, y) = false) (hG : GridAt W p gw gh cc A cap bs Rs) : Fn Try.prog 32 [.pointer (some ⟨p, 0, none⟩), .agg #[.int .i64 x, .int .i64 y]] W (RetG (.tuple #[.agg #[.int .i64 0, .int .i64 0], .bool false, .int .i64 4]) W) := by
  have S := St.start W
  refine Fn_enter Try.func32 rfl Try.results32 Try.ntmps32 (by kernel_rfl) (by kernel_rfl) ?_
  repeat refine cw_seq ?_
  refine cw_region ?_
  refine rw_newB (op_box rfl) S ?_
  intro b_c w2_ g2_ S
  refine rw_newB (op_alloc Try.zeroValue44 rfl) S ?_
  intro b_res w4_ g4_ S
  iterate 2 refine rw_v (op_pure rfl) ?_
  first | refine rw_end ?_ | (refine rw_nil ?_; show CW _ _ _ _ _ _) | refine rw_nil ?_
  repeat refine cw_seq ?_
  refine cw_region ?_
  refine rw_v (op_pure rfl) ?_
  refine rw_r (op_loadAB Try.underlying44 rfl (Try.sizeOf44 _) rfl (S.blk (i := 1) rfl) rfl rfl) ?_
  refine rw_call rfl (sbeginNo_E (W := w4_) x y hno (hG.gr S.out)) ?_
  rintro _ w5_ ⟨rfl, g5_⟩
  have S := S.gr g5_
  iterate 4 refine rw_v (op_pure rfl) ?_
  refine rw_newB (op_alloc Try.zeroValue136 rfl) S ?_
  intro b_l w7_ g7_ S
  refine rw_storeSA (i := 0) S rfl (Try.sizeOf136 _) rfl rfl rfl rfl rfl rfl ?_
  intro w8_ S
  iterate 2 refine rw_v (op_pure rfl) ?_
  first | refine rw_end ?_ | (refine rw_nil ?_; show CW _ _ _ _ _ _) | refine rw_nil ?_
  repeat refine cw_seq ?_
  refine cw_region ?_
  refine rw_v (op_pure rfl) ?_
  refine rw_v (op_b (b := true) rfl (bne_iff_ne.2 (by omega))) ?_
  refine rw_v (op_pure rfl) ?_
  refine rw_off rfl ?_
  refine rw_off rfl ?_
  refine rw_off rfl ?_
  refine rw_off rfl ?_
  refine rw_off rfl ?_
  refine rw_off rfl ?_
  refine rw_off rfl ?_
  refine rw_v (op_pure rfl) ?_
  first | refine rw_end ?_ | (refine rw_nil ?_; show CW _ _ _ _ _ _) | refine rw_nil ?_
  repeat refine cw_seq ?_
  refine cw_true rfl ?_
  repeat refine cw_seq ?_
  refine cw_region ?_
  refine rw_v (op_build (pl := [(0, 1), (1, 1)]) Try.underlying44 Try.zeroValue44 (fun w => by kernel_rfl) rfl rfl) ?_
  refine rw_v (op_pure rfl) ?_
  refine rw_storeSA (i := 1) S rfl (Try.sizeOf44 _) rfl rfl rfl rfl rfl rfl ?_
  intro w9_ S
  iterate 2 refine rw_v (op_pure rfl) ?_
  first | refine rw_end ?_ | (refine rw_nil ?_; show CW _ _ _ _ _ _) | refine rw_nil ?_
  repeat refine cw_seq ?_
  refine cw_ret ?_
  repeat first | refine ret_then ?_ | refine ret_inb ?_
  exact resATT Try.underlying44 rfl (Try.sizeOf44 _) rfl (S.blk (i := 1) rfl) rfl rfl rfl rfl ⟨rfl, S.out⟩
set_option maxHeartbeats 2000000 in
theorem snext_E (i : Nat) (hi : i < gw * gh) (hG : GridAt W p gw gh cc A cap bs Rs) : Fn Try.prog 32 [.pointer (some ⟨p, 0, none⟩), .agg #[.int .i64 (i % gw : Nat), .int .i64 (i / gw : Nat)]] W
    (RetG (.tuple #[.agg #[.int .i64 (nxZ gw (flowN gw (gridL gw gh cc)) i).1, .int .i64 (nxZ gw (flowN gw (gridL gw gh cc)) i).2], .bool (!decide (flowN gw (gridL gw gh cc) i = i)), .int .i64 0]) W) := by
  have hw := hG.sw
  have hh := hG.sh
  have hV := gridL_len gw gh cc
  have hgm : gw * gh ≤ 1024 * 1024 := Nat.mul_le_mul hw.2 hh.2
  have hfl := flowN_lt hw.1 hV hi
  have hget : (cellsN (gw * gh) (flowN gw (gridL gw gh cc)))[((i : Nat) : Int).toNat * 1]? = some (.int .i64 (flowN gw (gridL gw gh cc) i : Nat)) := by rw [Nat.mul_one, Int.toNat_natCast]; exact cellsN_get hi
  have hbeg := fun w (g : Gr W w) => sbeginI_E i hi (hG.gr g)
  generalize gridL gw gh cc = V at *
  by_cases hf : flowN gw V i = i
  · have hnx : nxZ gw (flowN gw V) i = (0, 0) := if_pos hf
    have hget2 := hget
    rw [hf] at hget2
    rw [hnx]
    have S := St.start W
    refine Fn_enter Try.func32 rfl Try.results32 Try.ntmps32 (by kernel_rfl) (by kernel_rfl) ?_
    repeat refine cw_seq ?_
    refine cw_region ?_
    refine rw_newB (op_box rfl) S ?_
    intro b_c w2_ g2_ S
    refine rw_newB (op_alloc Try.zeroValue44 rfl) S ?_
    intro b_res w4_ g4_ S
    iterate 2 refine rw_v (op_pure rfl) ?_
    first | refine rw_end ?_ | (refine rw_nil ?_; show CW _ _ _ _ _ _) | refine rw_nil ?_
    repeat refine cw_seq ?_
    refine cw_region ?_
    refine rw_v (op_pure rfl) ?_
    refine rw_r (op_loadAB Try.underlying44 rfl (Try.sizeOf44 _) rfl (S.blk (i := 1) rfl) rfl rfl) ?_
    refine rw_call rfl (hbeg w4_ S.out) ?_
    rintro _ w5_ ⟨A_v, c_v, A_to, c_to, rfl, hv, hFv, hto, hFt, hd, g5_⟩
    have sa_to : SomeA A_to := hto.someA (by omega)
    have S := S.push2 g5_ (h1 := .row 2 1 A_v _ c_v _) (h2 := .row 3 1 A_to _ c_to _) hv hto hFv hFt hd
    iterate 4 refine rw_v (op_pure rfl) ?_
    refine rw_newB (op_alloc Try.zeroValue136 rfl) S ?_
    intro b_l w7_ g7_ S
    refine rw_storeSA (i := 0) S rfl (Try.sizeOf136 _) rfl rfl rfl rfl rfl rfl ?_
    intro w8_ S
    iterate 2 refine rw_v (op_pure rfl) ?_
    first | refine rw_end ?_ | (refine rw_nil ?_; show CW _ _ _ _ _ _) | refine rw_nil ?_
    repeat refine cw_seq ?_
    refine cw_region ?_
    refine rw_v (op_pure rfl) ?_
    refine rw_v (op_b (b := false) rfl (bne_eq_false_iff_eq.2 (by omega))) ?_
    refine rw_v (op_pure rfl) ?_
    first | refine rw_off rfl ?_ | (refine rw_on rfl ?_; refine rw_v (op_fieldAddr Try.underlying136 rfl Try.sizeOf122 rfl rfl) ?_)
    first | refine rw_off rfl ?_ | (refine rw_on rfl ?_; refine rw_r (op_loadB Try.underlying122 rfl rfl (S.blk (i := 0) rfl) rfl) ?_)
    first | refine rw_off rfl ?_ | (refine rw_on rfl ?_; refine rw_v (op_pure rfl) ?_)
    first | refine rw_off rfl ?_ | (refine rw_on rfl ?_; refine rw_v (op_idx Try.underlying122 Try.sizeOf3 rfl rfl sa_to (by omega) (by omega)) ?_)
    first | refine rw_off rfl ?_ | (refine rw_on rfl ?_; refine rw_r (op_ldR Try.underlying3 rfl rfl (S.rd (i := 2) rfl) hget2) ?_)
    first | refine rw_off rfl ?_ | (refine rw_on rfl ?_; refine rw_v (op_pure rfl) ?_)
    first | refine rw_off rfl ?_ | (refine rw_on rfl ?_; refine rw_v (op_b (b := true) rfl (beq_iff_eq.2 (by omega))) ?_)
    refine rw_v (op_pure rfl) ?_
    first | refine rw_end ?_ | (refine rw_nil ?_; show CW _ _ _ _ _ _) | refine rw_nil ?_
    repeat refine cw_seq ?_
    refine cw_true rfl ?_
    repeat refine cw_seq ?_
    refine cw_region ?_
    refine rw_v (op_build (pl := [(0, 1), (1, 1)]) Try.underlying44 Try.zeroValue44 (fun w => by kernel_rfl) rfl rfl) ?_
    refine rw_v (op_pure rfl) ?_
    refine rw_storeSA (i := 3) S rfl (Try.sizeOf44 _) rfl rfl rfl rfl rfl rfl ?_
    intro w9_ S
    iterate 2 refine rw_v (op_pure rfl) ?_
    first | refine rw_end ?_ | (refine rw_nil ?_; show CW _ _ _ _ _ _) | refine rw_nil ?_
    repeat refine cw_seq ?_
    refine cw_ret ?_
    repeat first | refine ret_then ?_ | refine ret_inb ?_
    exact resATT Try.underlying44 rfl (Try.sizeOf44 _) rfl (S.blk (i := 3) rfl) rfl rfl rfl rfl ⟨by simp [hf], S.out⟩
  · have hnx : nxZ gw (flowN gw V) i = cz gw (flowN gw V i) := if_neg hf
    rw [hnx]
    have S := St.start W
    refine Fn_enter Try.func32 rfl Try.results32 Try.ntmps32 (by kernel_rfl) (by kernel_rfl) ?_
    repeat refine cw_seq ?_
    refine cw_region ?_
    refine rw_newB (op_box rfl) S ?_
    intro b_c w2_ g2_ S
    refine rw_newB (op_alloc Try.zeroValue44 rfl) S ?_
    intro b_res w4_ g4_ S
    iterate 2 refine rw_v (op_pure rfl) ?_
    first | refine rw_end ?_ | (refine rw_nil ?_; show CW _ _ _ _ _ _) | refine rw_nil ?_
    repeat refine cw_seq ?_
    refine cw_region ?_
    refine rw_v (op_pure rfl) ?_
    refine rw_r (op_loadAB Try.underlying44 rfl (Try.sizeOf44 _) rfl (S.blk (i := 1) rfl) rfl rfl) ?_
    refine rw_call rfl (hbeg w4_ S.out) ?_
    rintro _ w5_ ⟨A_v, c_v, A_to, c_to, rfl, hv, hFv, hto, hFt, hd, g5_⟩
    have sa_to : SomeA A_to := hto.someA (by omega)
    have S := S.push2 g5_ (h1 := .row 2 1 A_v _ c_v _) (h2 := .row 3 1 A_to _ c_to _) hv hto hFv hFt hd
    iterate 4 refine rw_v (op_pure rfl) ?_
    refine rw_newB (op_alloc Try.zeroValue136 rfl) S ?_
    intro b_l w7_ g7_ S
    refine rw_storeSA (i := 0) S rfl (Try.sizeOf136 _) rfl rfl rfl rfl rfl rfl ?_
    intro w8_ S
    iterate 2 refine rw_v (op_pure rfl) ?_
    first | refine rw_end ?_ | (refine rw_nil ?_; show CW _ _ _ _ _ _) | refine rw_nil ?_
    repeat refine cw_seq ?_
    refine cw_region ?_
    refine rw_v (op_pure rfl) ?_
    refine rw_v (op_b (b := false) rfl (bne_eq_false_iff_eq.2 (by omega))) ?_
    refine rw_v (op_pure rfl) ?_
    first | refine rw_off rfl ?_ | (refine rw_on rfl ?_; refine rw_v (op_fieldAddr Try.underlying136 rfl Try.sizeOf122 rfl rfl) ?_)
    first | refine rw_off rfl ?_ | (refine rw_on rfl ?_; refine rw_r (op_loadB Try.underlying122 rfl rfl (S.blk (i := 0) rfl) rfl) ?_)
    first | refine rw_off rfl ?_ | (refine rw_on rfl ?_; refine rw_v (op_pure rfl) ?_)
    first | refine rw_off rfl ?_ | (refine rw_on rfl ?_; refine rw_v (op_idx Try.underlying122 Try.sizeOf3 rfl rfl sa_to (by omega) (by omega)) ?_)
    first | refine rw_off rfl ?_ | (refine rw_on rfl ?_; refine rw_r (op_ldR Try.underlying3 rfl rfl (S.rd (i := 2) rfl) hget) ?_)
    first | refine rw_off rfl ?_ | (refine rw_on rfl ?_; refine rw_v (op_pure rfl) ?_)
    first | refine rw_off rfl ?_ | (refine rw_on rfl ?_; refine rw_v (op_b (b := false) rfl (beq_eq_false_iff_ne.2 (by omega))) ?_)
    refine rw_v (op_pure rfl) ?_
    first | refine rw_end ?_ | (refine rw_nil ?_; show CW _ _ _ _ _ _) | refine rw_nil ?_
    repeat refine cw_seq ?_
    refine cw_false rfl ?_
    repeat refine cw_seq ?_
    refine cw_skip ?_
    try show CW _ _ _ _ _ _
    repeat refine cw_seq ?_
    refine cw_draw (C := fun wq => Gr w8_ wq) [0, 1, 2, 3, 4, 5] [6, 7, 8, 9] (by kernel_rfl) (by kernel_rfl) (Gr.drew _) ?_
    simp only [pickL, List.drop_succ_cons, List.drop_zero]
    refine rq_r (fun wq hq => op_loadAB Try.underlying136 rfl (Try.sizeOf136 _) rfl ((S.gr hq).blk (i := 0) rfl) rfl rfl) ?_
    refine rq_v (op_fieldAddr Try.underlying136 rfl Try.sizeOf122 rfl rfl) ?_
    refine rq_r (fun wq hq => op_loadB Try.underlying122 rfl rfl ((S.gr hq).blk (i := 0) rfl) rfl) ?_
    refine rq_v (op_pure rfl) ?_
    refine rq_v (op_idx Try.underlying122 Try.sizeOf3 rfl rfl sa_to (by omega) (by omega)) ?_
    refine rq_r (fun wq hq => op_ldR Try.underlying3 rfl rfl ((S.gr hq).rd (i := 2) rfl) hget) ?_
    refine rq_nil ?_
    intro w9_ g9_
    have S := S.gr g9_
    refine rw_call rfl (satt_E (W := w9_) (flowN gw V i) (gw * gh) hw.1 (by omega)) ?_
    rintro _ w10_ ⟨rfl, g10_⟩
    have S := S.gr g10_
    refine rw_storeSA (i := 3) S rfl (Try.sizeOf44 _) rfl rfl rfl rfl rfl rfl ?_
    intro w11_ S
    iterate 2 refine rw_v (op_pure rfl) ?_
    first | refine rw_end ?_ | (refine rw_nil ?_; show CW _ _ _ _ _ _) | refine rw_nil ?_
    repeat refine cw_seq ?_
    refine cw_ret ?_
    repeat first | refine ret_then ?_ | refine ret_inb ?_
    exact resATT Try.underlying44 rfl (Try.sizeOf44 _) rfl (S.blk (i := 3) rfl) rfl rfl rfl rfl ⟨by simp [hf, cz], S.out⟩
theorem swayNil_E (x y : Int) : Fn Try.prog 33 [.pointer none, .agg #[.int .i64 x, .int .i64 y]] W (RetG (.tuple #[.slice none 0 0, .int .i64 1]) W) := by
  have S := St.start W
  refine Fn_enter Try.func33 rfl Try.results33 Try.ntmps33 (by kernel_rfl) (by kernel_rfl) ?_
  repeat refine cw_seq ?_
  refine cw_region ?_
  refine rw_newB (op_box rfl) S ?_
  intro b_c w2_ g2_ S
  iterate 2 refine rw_v (op_pure rfl) ?_
  first | refine rw_end ?_ | (refine rw_nil ?_; show CW _ _ _ _ _ _) | refine rw_nil ?_
  repeat refine cw_seq ?_
  refine cw_region ?_
  refine rw_v (op_pure rfl) ?_
  refine rw_r (op_loadAB Try.underlying44 rfl (Try.sizeOf44 _) rfl (S.blk (i := 0) rfl) rfl rfl) ?_
  refine rw_call rfl (sbeginNil_E x y) ?_
  rintro _ w3_ ⟨rfl, g3_⟩
  have S := S.gr g3_
  iterate 4 refine rw_v (op_pure rfl) ?_
  refine rw_newB (op_alloc Try.zeroValue136 rfl) S ?_
  intro b_l w5_ g5_ S
  refine rw_storeSA (i := 0) S rfl (Try.sizeOf136 _) rfl rfl rfl rfl rfl rfl ?_
  intro w6_ S
  iterate 2 refine rw_v (op_pure rfl) ?_
  first | refine rw_end ?_ | (refine rw_nil ?_; show CW _ _ _ _ _ _) | refine rw_nil ?_
  repeat refine cw_seq ?_
  refine cw_region ?_
  refine rw_v (op_pure rfl) ?_
  refine rw_v (op_b (b := true) rfl (bne_iff_ne.2 (by omega))) ?_
  first | refine rw_end ?_ | (refine rw_nil ?_; show CW _ _ _ _ _ _) | refine rw_nil ?_
  repeat refine cw_seq ?_
  refine cw_true rfl ?_
  repeat refine cw_seq ?_
  refine cw_region ?_
  iterate 3 refine rw_v (op_pure rfl) ?_
  first | refine rw_end ?_ | (refine rw_nil ?_; show CW _ _ _ _ _ _) | refine rw_nil ?_
  repeat refine cw_seq ?_
  refine cw_ret ?_
  repeat first | refine ret_then ?_ | refine ret_inb ?_
  exact res2 rfl rfl ⟨rfl, S.out⟩
theorem swayNo_E (x y : Int) (hno : inG gw gh (x, y) = false) (hG : GridAt W p gw gh cc A cap bs Rs) : Fn Try.prog 33 [.pointer (some ⟨p, 0, none⟩), .agg #[.int .i64 x, .int .i64 y]] W (RetG (.tuple #[.slice none 0 0, .int .i64 4]) W) := by
  have S := St.start W
  refine Fn_enter Try.func33 rfl Try.results33 Try.ntmps33 (by kernel_rfl) (by kernel_rfl) ?_
  repeat refine cw_seq ?_
  refine cw_region ?_
  refine rw_newB (op_box rfl) S ?_
  intro b_c w2_ g2_ S
  iterate 2 refine rw_v (op_pure rfl) ?_
  first | refine rw_end ?_ | (refine rw_nil ?_; show CW _ _ _ _ _ _) | refine rw_nil ?_
  repeat refine cw_seq ?_
  refine cw_region ?_
  refine rw_v (op_pure rfl) ?_
  refine rw_r (op_loadAB Try.underlying44 rfl (Try.sizeOf44 _) rfl (S.blk (i := 0) rfl) rfl rfl) ?_
  refine rw_call rfl (sbeginNo_E (W := w2_) x y hno (hG.gr S.out)) ?_
  rintro _ w3_ ⟨rfl, g3_⟩
  have S := S.gr g3_
  iterate 4 refine rw_v (op_pure rfl) ?_
  refine rw_newB (op_alloc Try.zeroValue136 rfl) S ?_
  intro b_l w5_ g5_ S
  refine rw_storeSA (i := 0) S rfl (Try.sizeOf136 _) rfl rfl rfl rfl rfl rfl ?_
  intro w6_ S
  iterate 2 refine rw_v (op_pure rfl) ?_
  first | refine rw_end ?_ | (refine rw_nil ?_; show CW _ _ _ _ _ _) | refine rw_nil ?_
  repeat refine cw_seq ?_
  refine cw_region ?_
  refine rw_v (op_pure rfl) ?_
  refine rw_v (op_b (b := true) rfl (bne_iff_ne.2 (by omega))) ?_
  first | refine rw_end ?_ | (refine rw_nil ?_; show CW _ _ _ _ _ _) | refine rw_nil ?_
  repeat refine cw_seq ?_
  refine cw_true rfl ?_
  repeat refine cw_seq ?_
  refine cw_region ?_
  iterate 3 refine rw_v (op_pure rfl) ?_
  first | refine rw_end ?_ | (refine rw_nil ?_; show CW _ _ _ _ _ _) | refine rw_nil ?_
  repeat refine cw_seq ?_
  refine cw_ret ?_
  repeat first | refine ret_then ?_ | refine ret_inb ?_
  exact res2 rfl rfl ⟨rfl, S.out⟩
set_option maxHeartbeats 2000000 in
theorem sway_E (i k : Nat) (hi : i < gw * gh) (hkn : k < gw * gh) (hk : Stop (flowN gw (gridL gw gh cc)) i k) (hG : GridAt W p gw gh cc A cap bs Rs) : Fn Try.prog 33 [.pointer (some ⟨p, 0, none⟩), .agg #[.int .i64 (i % gw : Nat), .int .i64 (i / gw : Nat)]] W
    (RetNew (fun s => .tuple #[s, .int .i64 0]) 44 2 (k + 1) (cellsZ ((wayN (flowN gw (gridL gw gh cc)) i k).map (cz gw))) W) := by
  have hw := hG.sw
  have hh := hG.sh
  have hV := gridL_len gw gh cc
  have hgm : gw * gh ≤ 1024 * 1024 := Nat.mul_le_mul hw.2 hh.2
  have hF := flow_fall hw.1 hV
  have hget : ∀ i, i < gw * gh → (cellsN (gw * gh) (flowN gw (gridL gw gh cc)))[((i : Nat) : Int).toNat * 1]? = some (.int .i64 (flowN gw (gridL gw gh cc) i : Nat)) := fun i hi => by rw [Nat.mul_one, Int.toNat_natCast]; exact cellsN_get hi
  have hbeg := fun w (g : Gr W w) => sbeginI_E i hi (hG.gr g)
  generalize gridL gw gh cc = V at *
  have S := St.start W
  refine Fn_enter Try.func33 rfl Try.results33 Try.ntmps33 (by kernel_rfl) (by kernel_rfl) ?_
  repeat refine cw_seq ?_
  refine cw_region ?_
  refine rw_newB (op_box rfl) S ?_
  intro b_c w2_ g2_ S
  iterate 2 refine rw_v (op_pure rfl) ?_
  first | refine rw_end ?_ | (refine rw_nil ?_; show CW _ _ _ _ _ _) | refine rw_nil ?_
  repeat refine cw_seq ?_
  refine cw_region ?_
  refine rw_v (op_pure rfl) ?_
  refine rw_r (op_loadAB Try.underlying44 rfl (Try.sizeOf44 _) rfl (S.blk (i := 0) rfl) rfl rfl) ?_
  refine rw_call rfl (hbeg w2_ S.out) ?_
  rintro _ w3_ ⟨A_v, c_v, A_to, c_to, rfl, hv, hFv, hto, hFt, hd, g3_⟩
  have sa_to : SomeA A_to := hto.someA (by omega)
  have S := S.push2 g3_ (h1 := .row 2 1 A_v _ c_v _) (h2 := .row 3 1 A_to _ c_to _) hv hto hFv hFt hd
  iterate 4 refine rw_v (op_pure rfl) ?_
  refine rw_newB (op_alloc Try.zeroValue136 rfl) S ?_
  intro b_l w5_ g5_ S
  refine rw_storeSA (i := 0) S rfl (Try.sizeOf136 _) rfl rfl rfl rfl rfl rfl ?_
  intro w6_ S
  iterate 2 refine rw_v (op_pure rfl) ?_
  first | refine rw_end ?_ | (refine rw_nil ?_; show CW _ _ _ _ _ _) | refine rw_nil ?_
  repeat refine cw_seq ?_
  refine cw_region ?_
  refine rw_v (op_pure rfl) ?_
  refine rw_v (op_b (b := false) rfl (bne_eq_false_iff_eq.2 (by omega))) ?_
  first | refine rw_end ?_ | (refine rw_nil ?_; show CW _ _ _ _ _ _) | refine rw_nil ?_
  repeat refine cw_seq ?_
  refine cw_false rfl ?_
  repeat refine cw_seq ?_
  refine cw_skip ?_
  try show CW _ _ _ _ _ _
  repeat refine cw_seq ?_
  refine cw_region ?_
  refine rw_r (op_loadAB Try.underlying44 rfl (Try.sizeOf44 _) rfl (S.blk (i := 3) rfl) rfl rfl) ?_
  refine rw_buildS Try.underlying50 Try.sizeOf44 Try.zeroValue44 rfl rfl rfl rfl rfl rfl S ?_
  intro A_out w8_ g8_ S sa_out
  refine rw_v (op_pure rfl) ?_
  first | refine rw_end ?_ | (refine rw_nil ?_; show CW _ _ _ _ _ _) | refine rw_nil ?_
  repeat refine cw_seq ?_
  refine cw_block ?_
  repeat refine cw_seq ?_
  generalize hff : flowN gw V = f at *
  refine cw_loop (fun m e w => ∃ (j : Nat) (A_out : Option Addr) (c_out : Nat), j + m = k ∧ SL e [(6, .pointer (some ⟨b_l, 0, none⟩)), (7, .int .i64 (itr f j i : Nat)), (9, .slice A_out (j + 1) c_out)] ∧
    St No W w [.row 44 2 A_out (j + 1) c_out (cellsZ ((wayN f i j).map (cz gw))), .blk b_l 136 [.int .i64 gw, .slice A_v (gw * gh) c_v, .slice A_to (gw * gh) c_to], .row 2 1 A_v (gw * gh) c_v (ints V), .row 3 1 A_to (gw * gh) c_to (cellsN (gw * gh) f), .blk b_c 44 [.int .i64 (i % gw : Nat), .int .i64 (i / gw : Nat)]]) k
    ⟨0, A_out, 1, by omega, ⟨rfl, rfl, rfl, trivial⟩, S⟩ ?_
  clear S
  rintro m e w ⟨j, A_out, c_out, hjm, hsl, S⟩
  rw [hsl.fold]
  have hlt := hF.itr_lt hi j
  have hlt1 := hF.itr_lt hi (j + 1)
  have hg1 := hget _ hlt
  have e1 : f (itr f j i) = itr f (j + 1) i := rfl
  rw [e1] at hg1
  by_cases hjk : j < k
  · have hne := hk.1 j hjk
    repeat refine cw_seq ?_
    refine cw_region ?_
    refine rw_v (op_fieldAddr Try.underlying136 rfl Try.sizeOf122 rfl rfl) ?_
    refine rw_r (op_loadB Try.underlying122 rfl rfl (S.blk (i := 1) rfl) rfl) ?_
    refine rw_v (op_pure rfl) ?_
    refine rw_v (op_idx Try.underlying122 Try.sizeOf3 rfl rfl sa_to (by omega) (by omega)) ?_
    refine rw_r (op_ldR Try.underlying3 rfl rfl (S.rd (i := 3) rfl) hg1) ?_
    refine rw_v (op_pure rfl) ?_
    refine rw_v (op_b (b := true) rfl (bne_iff_ne.2 (by omega))) ?_
    first | refine rw_end ?_ | (refine rw_nil ?_; show CW _ _ _ _ _ _) | refine rw_nil ?_
    repeat refine cw_seq ?_
    refine cw_true rfl ?_
    repeat refine cw_seq ?_
    refine cw_skip ?_
    try show CW _ _ _ _ _ _
    repeat refine cw_seq ?_
    refine cw_block ?_
    repeat refine cw_seq ?_
    refine cw_region ?_
    refine rw_v (op_fieldAddr Try.underlying136 rfl Try.sizeOf122 rfl rfl) ?_
    refine rw_r (op_loadB Try.underlying122 rfl rfl (S.blk (i := 1) rfl) rfl) ?_
    refine rw_v (op_pure rfl) ?_
    refine rw_v (op_idx Try.underlying122 Try.sizeOf3 rfl rfl sa_to (by omega) (by omega)) ?_
    refine rw_r (op_ldR Try.underlying3 rfl rfl (S.rd (i := 3) rfl) hg1) ?_
    refine rw_v (op_pure rfl) ?_
    first | refine rw_end ?_ | (refine rw_nil ?_; show CW _ _ _ _ _ _) | refine rw_nil ?_
    repeat refine cw_seq ?_
    refine cw_region ?_
    refine rw_v (op_pure rfl) ?_
    refine rw_r (op_loadAB Try.underlying136 rfl (Try.sizeOf136 _) rfl (S.blk (i := 1) rfl) rfl rfl) ?_
    refine rw_v (op_pure rfl) ?_
    refine rw_call rfl (satt_E (W := w) (itr f (j + 1) i) (gw * gh) hw.1 (by omega)) ?_
    rintro _ w9_ ⟨rfl, g9_⟩
    have S := S.gr g9_
    refine rw_buildS Try.underlying50 Try.sizeOf44 Try.zeroValue44 rfl rfl rfl rfl rfl rfl S ?_
    intro A_lit w11_ g11_ S sa_lit
    refine rw_appS (i := 1) S rfl (fun h => rfl) Try.underlying50 info_t44 rfl rfl rfl rfl (by simp) (by omega) (S.rd (i := 0) rfl) rfl (by omega) ?_
    intro A_o2 c_o2 w12_ S sa_out
    refine rw_v (op_pure rfl) ?_
    first | refine rw_end ?_ | (refine rw_nil ?_; show CW _ _ _ _ _ _) | refine rw_nil ?_
    have S := S.drop 1
    rw [cellsZ_push, ← wayN_succ] at S
    exact ⟨m - 1, by omega, j + 1, A_o2, c_o2, by omega, ⟨rfl, rfl, rfl, trivial⟩, S⟩
  · obtain rfl : j = k := by omega
    have he := hk.2
    rw [he] at hg1
    repeat refine cw_seq ?_
    refine cw_region ?_
    refine rw_v (op_fieldAddr Try.underlying136 rfl Try.sizeOf122 rfl rfl) ?_
    refine rw_r (op_loadB Try.underlying122 rfl rfl (S.blk (i := 1) rfl) rfl) ?_
    refine rw_v (op_pure rfl) ?_
    refine rw_v (op_idx Try.underlying122 Try.sizeOf3 rfl rfl sa_to (by omega) (by omega)) ?_
    refine rw_r (op_ldR Try.underlying3 rfl rfl (S.rd (i := 3) rfl) hg1) ?_
    refine rw_v (op_pure rfl) ?_
    refine rw_v (op_b (b := false) rfl (bne_eq_false_iff_eq.2 (by omega))) ?_
    first | refine rw_end ?_ | (refine rw_nil ?_; show CW _ _ _ _ _ _) | refine rw_nil ?_
    repeat refine cw_seq ?_
    refine cw_false rfl ?_
    repeat refine cw_seq ?_
    refine cw_exit ?_
    repeat first | refine exit_then ?_ | refine exit_inb ?_
    show CW _ _ _ _ _ _
    repeat refine cw_seq ?_
    refine cw_region ?_
    iterate 3 refine rw_v (op_pure rfl) ?_
    first | refine rw_end ?_ | (refine rw_nil ?_; show CW _ _ _ _ _ _) | refine rw_nil ?_
    repeat refine cw_seq ?_
    refine cw_ret ?_
    repeat first | refine ret_then ?_ | refine ret_inb ?_
    exact res2 rfl rfl (S.retNew (i := 0) (mk := fun s => .tuple #[s, .int .i64 0]) rfl)
set_option maxHeartbeats 2000000 in
theorem rsnext_E (i : Nat) (hgw : 1 ≤ gw) (hi : i < gw * gh) (hV : V.length = gw * gh) (hm : gw * gh ≤ 1048576) (hA : Rd W A (ints V)) : Fn Try.prog 34 [modV gw gh A V.length cap, .agg #[.int .i64 (i % gw : Nat), .int .i64 (i / gw : Nat)]] W
    (RetG (.tuple #[.agg #[.int .i64 (nxZ gw (flowN gw V) i).1, .int .i64 (nxZ gw (flowN gw V) i).2], .bool (!decide (flowN gw V i = i))]) W) := by
  have sa_A : SomeA A := hA.someA (by rw [ints_len]; omega)
  have hnl := nearN_len gw V.length i
  have hmemN : ∀ y, y ∈ nearN gw V.length i → y < gw * gh := fun y hy => by rw [hV] at hy; exact ((nearN_mem hgw hi).1 hy).1
  have hflow : flowN gw V i = flw V i ((nearN gw V.length i).take (nearN gw V.length i).length) := by rw [List.take_length]; rfl
  have S := St.start W
  refine Fn_enter Try.func34 rfl Try.results34 Try.ntmps34 (by kernel_rfl) (by kernel_rfl) ?_
  repeat refine cw_seq ?_
  refine cw_region ?_
  refine rw_newB (op_box rfl) S ?_
  intro b_md w2_ g2_ S
  refine rw_newB (op_box rfl) S ?_
  intro b_c w4_ g4_ S
  refine rw_newB (op_alloc Try.zeroValue44 rfl) S ?_
  intro b_res w6_ g6_ S
  refine rw_v (op_pure rfl) ?_
  first | refine rw_end ?_ | (refine rw_nil ?_; show CW _ _ _ _ _ _) | refine rw_nil ?_
  repeat refine cw_seq ?_
  refine cw_region ?_
  refine rw_r (op_loadAB Try.underlying25 rfl (Try.sizeOf25 _) rfl (S.blk (i := 2) rfl) rfl rfl) ?_
  refine rw_r (op_loadAB Try.underlying44 rfl (Try.sizeOf44 _) rfl (S.blk (i := 1) rfl) rfl rfl) ?_
  refine rw_call rfl (matI_E (W := w6_) i hgw hi hV hm (hA.gr S.out)) ?_
  rintro _ w7_ ⟨rfl, g7_⟩
  have S := S.gr g7_
  iterate 5 refine rw_v (op_pure rfl) ?_
  first | refine rw_end ?_ | (refine rw_nil ?_; show CW _ _ _ _ _ _) | refine rw_nil ?_
  repeat refine cw_seq ?_
  refine cw_region ?_
  refine rw_v (op_build (pl := [(0, 1), (1, 1)]) Try.underlying44 Try.zeroValue44 (fun w => by kernel_rfl) rfl rfl) ?_
  refine rw_newB (op_alloc Try.zeroValue44 rfl) S ?_
  intro b_best w9_ g9_ S
  refine rw_storeSA (i := 0) S rfl (Try.sizeOf44 _) rfl rfl rfl rfl rfl rfl ?_
  intro w10_ S
  refine rw_v (op_pure rfl) ?_
  first | refine rw_end ?_ | (refine rw_nil ?_; show CW _ _ _ _ _ _) | refine rw_nil ?_
  repeat refine cw_seq ?_
  refine cw_region ?_
  refine rw_r (op_loadAB Try.underlying25 rfl (Try.sizeOf25 _) rfl (S.blk (i := 3) rfl) rfl rfl) ?_
  refine rw_r (op_loadAB Try.underlying44 rfl (Try.sizeOf44 _) rfl (S.blk (i := 2) rfl) rfl rfl) ?_
  refine rw_call rfl (nearI_E (W := w10_) i hgw hi hV hm (hA.gr S.out)) ?_
  rintro _ w11_ ⟨A_near, c_near, rfl, hR_near, hf_near, g11_⟩
  have S := S.pushRow hR_near hf_near g11_
  refine rw_v (op_pure rfl) ?_
  first | refine rw_end ?_ | (refine rw_nil ?_; show CW _ _ _ _ _ _) | refine rw_nil ?_
  repeat refine cw_seq ?_
  refine cw_region ?_
  refine rw_v (op_pure rfl) ?_
  first | refine rw_end ?_ | (refine rw_nil ?_; show CW _ _ _ _ _ _) | refine rw_nil ?_
  repeat refine cw_seq ?_
  refine cw_block ?_
  repeat refine cw_seq ?_
  generalize nearN gw V.length i = Nr at *
  have sa_near : 0 < Nr.length → SomeA A_near := fun h => (S.row (i := 0) rfl).someA h
  have hfst : ∀ (b : Nat), b = i → (if b = i then ((0, 0) : Int × Int) else cz gw b) = (0, 0) := fun b h => if_pos h
  refine cw_loop (fun m e w => ∃ (k b : Nat), k + m = Nr.length ∧ b = flw V i (Nr.take k) ∧ SL e [(2, .pointer (some ⟨b_md, 0, none⟩)), (4, .pointer (some ⟨b_res, 0, none⟩)), (6, .int .i64 (V.getD b 0)), (8, .pointer (some ⟨b_best, 0, none⟩)), (9, .bool (!decide (b = i))), (10, .slice A_near Nr.length c_near), (11, .int .i64 k)] ∧
    St No W w [.row 44 2 A_near Nr.length c_near (cellsZ (Nr.map (cz gw))), .blk b_best 44 [.int .i64 (if b = i then ((0, 0) : Int × Int) else cz gw b).1, .int .i64 (if b = i then ((0, 0) : Int × Int) else cz gw b).2], .blk b_res 44 [.int .i64 0, .int .i64 0], .blk b_c 44 [.int .i64 (i % gw : Nat), .int .i64 (i / gw : Nat)], .blk b_md 25 [.int .i64 gw, .int .i64 gh, .slice A V.length cap]]) Nr.length
    ⟨0, i, by omega, rfl, ⟨rfl, rfl, rfl, rfl, be (by simp), rfl, rfl, trivial⟩, by rw [hfst i rfl]; exact S⟩ ?_
  clear S
  rintro m e w ⟨k, b, hkm, hb, hsl, S⟩
  rw [hsl.fold]
  repeat refine cw_seq ?_
  refine cw_region ?_
  iterate 2 refine rw_v (op_pure rfl) ?_
  refine rw_v (op_len Try.underlying50 rfl) ?_
  refine rw_v (op_pure rfl) ?_
  first | refine rw_end ?_ | (refine rw_nil ?_; show CW _ _ _ _ _ _) | refine rw_nil ?_
  repeat refine cw_seq ?_
  refine cw_cond rfl (fun hc => ?_) (fun hc => ?_)
  · try simp only [decide_eq_true_eq, decide_eq_false_iff_not, beq_iff_eq, bne_iff_ne, beq_eq_false_iff_ne, bne_eq_false_iff_eq, Bool.not_eq_true', Bool.not_eq_false', ne_eq, Decidable.not_not, Int.natCast_inj, Int.ofNat_lt, Int.ofNat_le, gt_iff_lt, ge_iff_le, Int.not_lt, Int.not_le] at hc
    have hkl : k < Nr.length := by omega
    have sa_near := sa_near (by omega)
    obtain ⟨j, hj⟩ : ∃ j, Nr[k]? = some j := ⟨_, List.getElem?_eq_getElem hkl⟩
    have hjlt := hmemN j (List.mem_of_getElem? hj)
    have hat : ((cellsZ (Nr.map (cz gw))).drop ((k : Int).toNat * 2)).take 2 = [.int .i64 (j % gw : Nat), .int .i64 (j / gw : Nat)] := by
      rw [Int.toNat_natCast]; exact cellsZ_at (c := cz gw j) (by rw [List.getElem?_map, hj]; rfl)
    have htk : Nr.take (k + 1) = Nr.take k ++ [j] := by
      rw [List.take_add_one, hj]; rfl
    have hstep : flw V i (Nr.take (k + 1)) = if V.getD j 0 < V.getD b 0 then j else b := by rw [htk, flw_app, ← hb]; rfl
    have hle : V.getD b 0 ≤ V.getD i 0 := by
      rcases flw_cases V (Nr.take k) i with h | h
      · rw [hb, h]; exact Int.le_refl _
      · rw [hb]; omega
    by_cases hlt : V.getD j 0 < V.getD b 0
    · rw [if_pos hlt] at hstep
      have hji : j ≠ i := fun e => by rw [e] at hlt; omega
      have hz : (if j = i then ((0, 0) : Int × Int) else cz gw j) = cz gw j := if_neg hji
      repeat refine cw_seq ?_
      refine cw_skip ?_
      try show CW _ _ _ _ _ _
      repeat refine cw_seq ?_
      refine cw_block ?_
      repeat refine cw_seq ?_
      refine cw_draw (C := fun wq => Gr w wq) [0, 1, 2, 3, 4, 5, 6, 7, 8, 9, 10] [] (by kernel_rfl) (by kernel_rfl) (Gr.drew _) ?_
      simp only [pickL, List.drop_succ_cons, List.drop_zero]
      refine rq_r (fun wq hq => op_loadAB Try.underlying25 rfl (Try.sizeOf25 _) rfl ((S.gr hq).blk (i := 4) rfl) rfl rfl) ?_
      iterate 2 refine rq_v (op_pure rfl) ?_
      refine rq_v (op_idx Try.underlying50 Try.sizeOf44 rfl rfl sa_near (by omega) (by omega)) ?_
      refine rq_r (fun wq hq => op_ldRA Try.underlying44 rfl (Try.sizeOf44 _) rfl ((S.gr hq).rd (i := 0) rfl) hat rfl rfl) ?_
      refine rq_call rfl (fun wq hq => (matI_E (W := wq) j hgw hjlt hV hm (hA.gr (S.gr hq).out)).mono (fun _ _ ⟨hv, hg⟩ => ⟨hv, hq.trans hg⟩)) ?_
      iterate 5 refine rq_v (op_pure rfl) ?_
      refine rq_nil ?_
      intro w12_ g12_
      have S := S.gr g12_
      first | refine rw_end ?_ | (refine rw_nil ?_; show CW _ _ _ _ _ _) | refine rw_nil ?_
      repeat refine cw_seq ?_
      refine cw_region ?_
      iterate 2 refine rw_v (op_pure rfl) ?_
      refine rw_v (op_b (b := true) rfl (decide_eq_true (by omega))) ?_
      first | refine rw_end ?_ | (refine rw_nil ?_; show CW _ _ _ _ _ _) | refine rw_nil ?_
      repeat refine cw_seq ?_
      refine cw_true rfl ?_
      repeat refine cw_seq ?_
      refine cw_region ?_
      iterate 2 refine rw_v (op_pure rfl) ?_
      first | refine rw_end ?_ | (refine rw_nil ?_; show CW _ _ _ _ _ _) | refine rw_nil ?_
      repeat refine cw_seq ?_
      refine cw_region ?_
      iterate 2 refine rw_v (op_pure rfl) ?_
      refine rw_v (op_idx Try.underlying50 Try.sizeOf44 rfl rfl sa_near (by omega) (by omega)) ?_
      refine rw_r (op_ldRA Try.underlying44 rfl (Try.sizeOf44 _) rfl (S.rd (i := 0) rfl) hat rfl rfl) ?_
      refine rw_storeSA (i := 1) S rfl (Try.sizeOf44 _) rfl rfl rfl rfl rfl rfl ?_
      intro w13_ S
      first | refine rw_end ?_ | (refine rw_nil ?_; show CW _ _ _ _ _ _) | refine rw_nil ?_
      repeat refine cw_seq ?_
      refine cw_region ?_
      refine rw_v (op_pure rfl) ?_
      first | refine rw_end ?_ | (refine rw_nil ?_; show CW _ _ _ _ _ _) | refine rw_nil ?_
      repeat refine cw_seq ?_
      refine cw_region ?_
      refine rw_v (op_pure rfl) ?_
      refine rw_v (op_rng rfl (by omega)) ?_
      refine rw_v (op_pure rfl) ?_
      first | refine rw_end ?_ | (refine rw_nil ?_; show CW _ _ _ _ _ _) | refine rw_nil ?_
      refine ⟨m - 1, by omega, k + 1, j, by omega, hstep.symm, ⟨rfl, rfl, rfl, rfl, be (by simp [hji]), rfl, ie (by omega), trivial⟩, ?_⟩
      rw [hz]
      exact S
    · rw [if_neg hlt] at hstep
      repeat refine cw_seq ?_
      refine cw_skip ?_
      try show CW _ _ _ _ _ _
      repeat refine cw_seq ?_
      refine cw_block ?_
      repeat refine cw_seq ?_
      refine cw_draw (C := fun wq => Gr w wq) [0, 1, 2, 3, 4, 5, 6, 7, 8, 9, 10] [] (by kernel_rfl) (by kernel_rfl) (Gr.drew _) ?_
      simp only [pickL, List.drop_succ_cons, List.drop_zero]
      refine rq_r (fun wq hq => op_loadAB Try.underlying25 rfl (Try.sizeOf25 _) rfl ((S.gr hq).blk (i := 4) rfl) rfl rfl) ?_
      iterate 2 refine rq_v (op_pure rfl) ?_
      refine rq_v (op_idx Try.underlying50 Try.sizeOf44 rfl rfl sa_near (by omega) (by omega)) ?_
      refine rq_r (fun wq hq => op_ldRA Try.underlying44 rfl (Try.sizeOf44 _) rfl ((S.gr hq).rd (i := 0) rfl) hat rfl rfl) ?_
      refine rq_call rfl (fun wq hq => (matI_E (W := wq) j hgw hjlt hV hm (hA.gr (S.gr hq).out)).mono (fun _ _ ⟨hv, hg⟩ => ⟨hv, hq.trans hg⟩)) ?_
      iterate 5 refine rq_v (op_pure rfl) ?_
      refine rq_nil ?_
      intro w14_ g14_
      have S := S.gr g14_
      first | refine rw_end ?_ | (refine rw_nil ?_; show CW _ _ _ _ _ _) | refine rw_nil ?_
      repeat refine cw_seq ?_
      refine cw_region ?_
      iterate 2 refine rw_v (op_pure rfl) ?_
      refine rw_v (op_b (b := false) rfl (decide_eq_false (by omega))) ?_
      first | refine rw_end ?_ | (refine rw_nil ?_; show CW _ _ _ _ _ _) | refine rw_nil ?_
      repeat refine cw_seq ?_
      refine cw_false rfl ?_
      repeat refine cw_seq ?_
      refine cw_skip ?_
      try show CW _ _ _ _ _ _
      repeat refine cw_seq ?_
      refine cw_region ?_
      refine rw_v (op_pure rfl) ?_
      refine rw_v (op_rng rfl (by omega)) ?_
      refine rw_v (op_pure rfl) ?_
      first | refine rw_end ?_ | (refine rw_nil ?_; show CW _ _ _ _ _ _) | refine rw_nil ?_
      exact ⟨m - 1, by omega, k + 1, b, by omega, hstep.symm, ⟨rfl, rfl, rfl, rfl, rfl, rfl, ie (by omega), trivial⟩, S⟩
  · try simp only [decide_eq_true_eq, decide_eq_false_iff_not, beq_iff_eq, bne_iff_ne, beq_eq_false_iff_ne, bne_eq_false_iff_eq, Bool.not_eq_true', Bool.not_eq_false', ne_eq, Decidable.not_not, Int.natCast_inj, Int.ofNat_lt, Int.ofNat_le, gt_iff_lt, ge_iff_le, Int.not_lt, Int.not_le] at hc
    obtain rfl : k = Nr.length := by omega
    rw [← hflow] at hb
    have hz : (if b = i then ((0, 0) : Int × Int) else cz gw b) = nxZ gw (flowN gw V) i := by unfold nxZ; rw [hb]
    rw [hz] at S
    rw [← hb]
    repeat refine cw_seq ?_
    refine cw_exit ?_
    repeat first | refine exit_then ?_ | refine exit_inb ?_
    show CW _ _ _ _ _ _
    repeat refine cw_seq ?_
    refine cw_region ?_
    refine rw_r (op_loadAB Try.underlying44 rfl (Try.sizeOf44 _) rfl (S.blk (i := 1) rfl) rfl rfl) ?_
    refine rw_v (op_pure rfl) ?_
    refine rw_storeSA (i := 2) S rfl (Try.sizeOf44 _) rfl rfl rfl rfl rfl rfl ?_
    intro w15_ S
    refine rw_v (op_pure rfl) ?_
    first | refine rw_end ?_ | (refine rw_nil ?_; show CW _ _ _ _ _ _) | refine rw_nil ?_
    repeat refine cw_seq ?_
    refine cw_ret ?_
    repeat first | refine ret_then ?_ | refine ret_inb ?_
    exact resAT Try.underlying44 rfl (Try.sizeOf44 _) rfl (S.blk (i := 2) rfl) rfl rfl rfl ⟨rfl, S.out⟩
set_option maxHeartbeats 2000000 in
theorem rsway_E (i k : Nat) (hgw : 1 ≤ gw) (hi : i < gw * gh) (hkn : k < gw * gh) (hk : Stop (flowN gw V) i k) (hV : V.length = gw * gh) (hm : gw * gh ≤ 1048576) (hA : Rd W A (ints V)) : Fn Try.prog 35 [modV gw gh A V.length cap, .agg #[.int .i64 (i % gw : Nat), .int .i64 (i / gw : Nat)]] W
    (RetNew id 44 2 (k + 1) (cellsZ ((wayN (flowN gw V) i k).map (cz gw))) W) := by
  have hF := flow_fall hgw hV
  have hnext := fun (j : Nat) (hj : j < gw * gh) (w : World) (hA : Rd w A (ints V)) => rsnext_E (W := w) (cap := cap) j hgw hj hV hm hA
  have S := St.start W
  refine Fn_enter Try.func35 rfl Try.results35 Try.ntmps35 (by kernel_rfl) (by kernel_rfl) ?_
  repeat refine cw_seq ?_
  refine cw_region ?_
  refine rw_newB (op_box rfl) S ?_
  intro b_md w2_ g2_ S
  refine rw_newB (op_box rfl) S ?_
  intro b_c w4_ g4_ S
  refine rw_v (op_pure rfl) ?_
  first | refine rw_end ?_ | (refine rw_nil ?_; show CW _ _ _ _ _ _) | refine rw_nil ?_
  repeat refine cw_seq ?_
  refine cw_region ?_
  refine rw_r (op_loadAB Try.underlying44 rfl (Try.sizeOf44 _) rfl (S.blk (i := 0) rfl) rfl rfl) ?_
  refine rw_buildS Try.underlying50 Try.sizeOf44 Try.zeroValue44 rfl rfl rfl rfl rfl rfl S ?_
  intro A_out w6_ g6_ S sa_out
  refine rw_v (op_pure rfl) ?_
  first | refine rw_end ?_ | (refine rw_nil ?_; show CW _ _ _ _ _ _) | refine rw_nil ?_
  repeat refine cw_seq ?_
  refine cw_region ?_
  refine rw_r (op_loadAB Try.underlying25 rfl (Try.sizeOf25 _) rfl (S.blk (i := 2) rfl) rfl rfl) ?_
  refine rw_r (op_loadAB Try.underlying44 rfl (Try.sizeOf44 _) rfl (S.blk (i := 1) rfl) rfl rfl) ?_
  refine rw_call rfl (hnext i hi w6_ (hA.gr S.out)) ?_
  rintro _ w7_ ⟨rfl, g7_⟩
  have S := S.gr g7_
  iterate 3 refine rw_v (op_pure rfl) ?_
  refine rw_newB (op_alloc Try.zeroValue44 rfl) S ?_
  intro b_nx w9_ g9_ S
  refine rw_storeSA (i := 0) S rfl (Try.sizeOf44 _) rfl rfl rfl rfl rfl rfl ?_
  intro w10_ S
  refine rw_v (op_pure rfl) ?_
  first | refine rw_end ?_ | (refine rw_nil ?_; show CW _ _ _ _ _ _) | refine rw_nil ?_
  repeat refine cw_seq ?_
  refine cw_block ?_
  repeat refine cw_seq ?_
  generalize hff : flowN gw V = f at *
  refine cw_loop (fun m e w => ∃ (j : Nat) (A_out : Option Addr) (c_out : Nat), j + m = k ∧ SL e [(2, .pointer (some ⟨b_md, 0, none⟩)), (5, .slice A_out (j + 1) c_out), (6, .pointer (some ⟨b_nx, 0, none⟩)), (7, .bool (!decide (f (itr f j i) = itr f j i)))] ∧
    St No W w [.blk b_nx 44 [.int .i64 (nxZ gw f (itr f j i)).1, .int .i64 (nxZ gw f (itr f j i)).2], .row 44 2 A_out (j + 1) c_out (cellsZ ((wayN f i j).map (cz gw))), .blk b_c 44 [.int .i64 (i % gw : Nat), .int .i64 (i / gw : Nat)], .blk b_md 25 [.int .i64 gw, .int .i64 gh, .slice A V.length cap]]) k
    ⟨0, A_out, 1, by omega, ⟨rfl, rfl, rfl, rfl, trivial⟩, S⟩ ?_
  clear S
  rintro m e w ⟨j, A_out, c_out, hjm, hsl, S⟩
  rw [hsl.fold]
  have hlt1 := hF.itr_lt hi (j + 1)
  by_cases hjk : j < k
  · have hne : f (itr f j i) ≠ itr f j i := hk.1 j hjk
    have hz : nxZ gw f (itr f j i) = cz gw (itr f (j + 1) i) := if_neg hne
    rw [hz] at S
    have hd : (!decide (f (itr f j i) = itr f j i)) = true := by simp [hne]
    rw [hd]
    repeat refine cw_seq ?_
    refine cw_region ?_
    refine rw_v (op_pure rfl) ?_
    first | refine rw_end ?_ | (refine rw_nil ?_; show CW _ _ _ _ _ _) | refine rw_nil ?_
    repeat refine cw_seq ?_
    refine cw_true rfl ?_
    repeat refine cw_seq ?_
    refine cw_skip ?_
    try show CW _ _ _ _ _ _
    repeat refine cw_seq ?_
    refine cw_block ?_
    repeat refine cw_seq ?_
    refine cw_region ?_
    refine rw_v (op_pure rfl) ?_
    refine rw_r (op_loadAB Try.underlying44 rfl (Try.sizeOf44 _) rfl (S.blk (i := 0) rfl) rfl rfl) ?_
    refine rw_buildS Try.underlying50 Try.sizeOf44 Try.zeroValue44 rfl rfl rfl rfl rfl rfl S ?_
    intro A_lit w12_ g12_ S sa_lit
    refine rw_appS (i := 2) S rfl (fun h => rfl) Try.underlying50 info_t44 rfl rfl rfl rfl (by simp) (by omega) (S.rd (i := 0) rfl) rfl (by omega) ?_
    intro A_o2 c_o2 w13_ S sa_out
    refine rw_v (op_pure rfl) ?_
    first | refine rw_end ?_ | (refine rw_nil ?_; show CW _ _ _ _ _ _) | refine rw_nil ?_
    repeat refine cw_seq ?_
    refine cw_region ?_
    refine rw_r (op_loadAB Try.underlying25 rfl (Try.sizeOf25 _) rfl (S.blk (i := 4) rfl) rfl rfl) ?_
    refine rw_r (op_loadAB Try.underlying44 rfl (Try.sizeOf44 _) rfl (S.blk (i := 1) rfl) rfl rfl) ?_
    refine rw_call rfl (hnext (itr f (j + 1) i) hlt1 w13_ (hA.gr S.out)) ?_
    rintro _ w14_ ⟨rfl, g14_⟩
    have S := S.gr g14_
    iterate 3 refine rw_v (op_pure rfl) ?_
    refine rw_storeSA (i := 1) S rfl (Try.sizeOf44 _) rfl rfl rfl rfl rfl rfl ?_
    intro w15_ S
    refine rw_v (op_pure rfl) ?_
    first | refine rw_end ?_ | (refine rw_nil ?_; show CW _ _ _ _ _ _) | refine rw_nil ?_
    have S := S.drop 1
    have hpush := cellsZ_push gw (wayN f i j) (itr f (j + 1) i)
    rw [← wayN_succ] at hpush
    rw [show (cellsZ ((wayN f i j).map (cz gw)) ++ [Value.int .i64 (cz gw (itr f (j + 1) i)).1, Value.int .i64 (cz gw (itr f (j + 1) i)).2]) = cellsZ ((wayN f i (j + 1)).map (cz gw)) from hpush] at S
    exact ⟨m - 1, by omega, j + 1, A_o2, c_o2, by omega, ⟨rfl, rfl, rfl, rfl, trivial⟩, S⟩
  · obtain rfl : j = k := by omega
    have he : f (itr f j i) = itr f j i := hk.2
    have hd : (!decide (f (itr f j i) = itr f j i)) = false := by simp [he]
    rw [hd]
    repeat refine cw_seq ?_
    refine cw_region ?_
    refine rw_v (op_pure rfl) ?_
    first | refine rw_end ?_ | (refine rw_nil ?_; show CW _ _ _ _ _ _) | refine rw_nil ?_
    repeat refine cw_seq ?_
    refine cw_false rfl ?_
    repeat refine cw_seq ?_
    refine cw_exit ?_
    repeat first | refine exit_then ?_ | refine exit_inb ?_
    show CW _ _ _ _ _ _
    repeat refine cw_seq ?_
    refine cw_region ?_
    iterate 2 refine rw_v (op_pure rfl) ?_
    first | refine rw_end ?_ | (refine rw_nil ?_; show CW _ _ _ _ _ _) | refine rw_nil ?_
    repeat refine cw_seq ?_
    refine cw_ret ?_
    repeat first | refine ret_then ?_ | refine ret_inb ?_
    exact res1 rfl (S.retNew (i := 1) (mk := id) rfl)
end
end Go.Proofs.Ytbcgbcipigcbhaa
