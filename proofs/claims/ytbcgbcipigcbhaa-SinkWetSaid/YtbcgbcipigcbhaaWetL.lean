/- sink.Next, Way and the document's: contracts. -/
import Derived.Test.YtbcgbcipigcbhaaWetK
import Derived.Test.YtbcgbcipigcbhaaWetC
import Derived.Maps.Own
import Derived.Test.YtbcgbcipigcbhaaWetJ
namespace Go.Proofs.Ytbcgbcipigcbhaa
open Go.RowKit
set_option linter.unusedVariables false
set_option linter.unusedSimpArgs false
set_option maxRecDepth 100000

/-- the next cell, or the nought cell where there is none -/
def nxZ (gw : Nat) (f : Nat → Nat) (i : Nat) : Int × Int := if f i = i then (0, 0) else cz gw (f i)
theorem in_cz {gw gh : Nat} {x y : Int} (h : inG gw gh (x, y) = true) : ∃ i, i < gw * gh ∧ x = (i % gw : Nat) ∧ y = (i / gw : Nat) := by
  have h := inG_iff.1 h
  dsimp only at h
  obtain ⟨a, rfl⟩ := Int.eq_ofNat_of_zero_le h.1
  obtain ⟨b, rfl⟩ := Int.eq_ofNat_of_zero_le h.2.2.1
  have h1 := cell_split (Y := b) (X := a) (gw := gw) (by omega)
  refine ⟨b * gw + a, ?_, by rw [h1.1], by rw [h1.2]⟩
  have := Nat.mul_le_mul_right gw (show b + 1 ≤ gh by omega)
  rw [Nat.succ_mul, Nat.mul_comm gh] at this
  omega
theorem cellsZ_push (gw : Nat) (l : List Nat) (j : Nat) : cellsZ (l.map (cz gw)) ++ [.int .i64 (j % gw : Nat), .int .i64 (j / gw : Nat)] = cellsZ ((l ++ [j]).map (cz gw)) := by simp [cellsZ, cz]
section
variable {W : World} {A : Option Addr} {p gw gh cap c : Nat} {cc : Nat → Int} {bs : Nat → Nat} {Rs : Nat → Option Nat} {V : List Int}
theorem sbeginI_E (i : Nat) (hi : i < gw * gh) (hG : GridAt W p gw gh cc A cap bs Rs) : Fn Try.prog 83 [.pointer (some ⟨p, 0, none⟩), .agg #[.int .i64 (i % gw : Nat), .int .i64 (i / gw : Nat)]] W
    (RetSL gw gh (gridL gw gh cc) (fun l => .tuple #[l, .int .i64 i, .int .i64 0]) W) := by
  have hgw := hG.sw.1
  have := sbegin_E (i % gw) (i / gw) (Nat.mod_lt i hgw) (Nat.div_lt_of_lt_mul hi) hG
  rw [show i / gw * gw + i % gw = i by rw [Nat.mul_comm]; exact Nat.div_add_mod i gw] at this
  exact this
theorem snextNil_E (x y : Int) : Fn Try.prog 32 [.pointer none, .agg #[.int .i64 x, .int .i64 y]] W (RetG (.tuple #[.agg #[.int .i64 0, .int .i64 0], .bool false, .int .i64 1]) W) := by
  have S := St.start W
  refine Fn_enter Try.func32 rfl Try.results32 Try.ntmps32 (by kernel_rfl) (by kernel_rfl) ?_
  repeat refine cw_seq ?_
  refine cw_region ?_
  refine rw_newB (op_box rfl) S ?_
  intro b_c w2_ g2_ S
  refine rw_newB (op_alloc Try.zeroValue44 rfl) S ?_
  intro b_res w4_ g4_ S
  iterate 2 refine rw_v (op_pure rfl) ?_
  first | refine rw_end ?_ | (refine rw_nil ?_; show CW _ _ _ _ _ _) | refine rw_nil ?_
  repeat refine cw_seq ?_
  refine cw_region ?_
  refine rw_v (op_pure rfl) ?_
  refine rw_r (op_loadAB Try.underlying44 rfl (Try.sizeOf44 _) rfl (S.blk (i := 1) rfl) rfl rfl) ?_
  refine rw_call rfl (sbeginNil_E x y) ?_
  rintro _ w5_ ⟨rfl, g5_⟩
  have S := S.gr g5_
  iterate 4 refine rw_v (op_pure rfl) ?_
  refine rw_newB (op_alloc Try.zeroValue136 rfl) S ?_
  intro b_l w7_ g7_ S
  refine rw_storeSA (i := 0) S rfl (Try.sizeOf136 _) rfl rfl rfl rfl rfl rfl ?_
  intro w8_ S
  iterate 2 refine rw_v (op_pure rfl) ?_
  first | refine rw_end ?_ | (refine rw_nil ?_; show CW _ _ _ _ _ _) | refine rw_nil ?_
  repeat refine cw_seq ?_
  refine cw_region ?_
  refine rw_v (op_pure rfl) ?_
  refine rw_v (op_b (b := true) rfl (bne_iff_ne.2 (by omega))) ?_
  refine rw_v (op_pure rfl) ?_
  refine rw_off rfl ?_
  refine rw_off rfl ?_
  refine rw_off rfl ?_
  refine rw_off rfl ?_
  refine rw_off rfl ?_
  refine rw_off rfl ?_
  refine rw_off rfl ?_
  refine rw_v (op_pure rfl) ?_
  first | refine rw_end ?_ | (refine rw_nil ?_; show CW _ _ _ _ _ _) | refine rw_nil ?_
  repeat refine cw_seq ?_
  refine cw_true rfl ?_
  repeat refine cw_seq ?_
  refine cw_region ?_
  refine rw_v (op_build (pl := [(0, 1), (1, 1)]) Try.underlying44 Try.zeroValue44 (fun w => by kernel_rfl) rfl rfl) ?_
  refine rw_v (op_pure rfl) ?_
  refine rw_storeSA (i := 1) S rfl (Try.sizeOf44 _) rfl rfl rfl rfl rfl rfl ?_
  intro w9_ S
  iterate 2 refine rw_v (op_pure rfl) ?_
  first | refine rw_end ?_ | (refine rw_nil ?_; show CW _ _ _ _ _ _) | refine rw_nil ?_
  repeat refine cw_seq ?_
  refine cw_ret ?_
  repeat first | refine ret_then ?_ | refine ret_inb ?_
  exact resATT Try.underlying44 rfl (Try.sizeOf44 _) rfl (S.blk (i := 1) rfl) rfl rfl rfl rfl ⟨rfl, S.out⟩
theorem snextNo_E (x y : Int) (hno : inG gw gh (x, y) = false) (hG : GridAt W p gw gh cc A cap bs Rs) : Fn Try.prog 32 [.pointer (some ⟨p, 0, none⟩), .agg #[.int .i64 x, .int .i64 y]] W (RetG (.tuple #[.agg #[.int .i64 0, .int .i64 0], .bool false, .int .i64 4]) W) := by
  have S := St.start W
  refine Fn_enter Try.func32 rfl Try.results32 Try.ntmps32 (by kernel_rfl) (by kernel_rfl) ?_
  repeat refine cw_seq ?_
  refine cw_region ?_
  refine rw_newB (op_box rfl) S ?_
  intro b_c w2_ g2_ S
  refine rw_newB (op_alloc Try.zeroValue44 rfl) S ?_
  intro b_res w4_ g4_ S
  iterate 2 refine rw_v (op_pure rfl) ?_
  first | refine rw_end ?_ | (refine rw_nil ?_; show CW _ _ _ _ _ _) | refine rw_nil ?_
  repeat refine cw_seq ?_
  refine cw_region ?_
  refine rw_v (op_pure rfl) ?_
  refine rw_r (op_loadAB Try.underlying44 rfl (Try.sizeOf44 _) rfl (S.blk (i := 1) rfl) rfl rfl) ?_
  refine rw_call rfl (sbeginNo_E (W := w4_) x y hno (hG.gr S.out)) ?_
  rintro _ w5_ ⟨rfl, g5_⟩
  have S := S.gr g5_
  iterate 4 refine rw_v (op_pure rfl) ?_
  refine rw_newB (op_alloc Try.zeroValue136 rfl) S ?_
  intro b_l w7_ g7_ S
  refine rw_storeSA (i := 0) S rfl (Try.sizeOf136 _) rfl rfl rfl rfl rfl rfl ?_
  intro w8_ S
  iterate 2 refine rw_v (op_pure rfl) ?_
  first | refine rw_end ?_ | (refine rw_nil ?_; show CW _ _ _ _ _ _) | refine rw_nil ?_
  repeat refine cw_seq ?_
  refine cw_region ?_
  refine rw_v (op_pure rfl) ?_
  refine rw_v (op_b (b := true) rfl (bne_iff_ne.2 (by omega))) ?_
  refine rw_v (op_pure rfl) ?_
  refine rw_off rfl ?_
  refine rw_off rfl ?_
  refine rw_off rfl ?_
  refine rw_off rfl ?_
  refine rw_off rfl ?_
  refine rw_off rfl ?_
  refine rw_off rfl ?_
  refine rw_v (op_pure rfl) ?_
  first | refine rw_end ?_ | (refine rw_nil ?_; show CW _ _ _ _ _ _) | refine rw_nil ?_
  repeat refine cw_seq ?_
  refine cw_true rfl ?_
  repeat refine cw_seq ?_
  refine cw_region ?_
  refine rw_v (op_build (pl := [(0, 1), (1, 1)]) Try.underlying44 Try.zeroValue44 (fun w => by kernel_rfl) rfl rfl) ?_
  refine rw_v (op_pure rfl) ?_
  refine rw_storeSA (i := 1) S rfl (Try.sizeOf44 _) rfl rfl rfl rfl rfl rfl ?_
  intro w9_ S
  iterate 2 refine rw_v (op_pure rfl) ?_
  first | refine rw_end ?_ | (refine rw_nil ?_; show CW _ _ _ _ _ _) | refine rw_nil ?_
  repeat refine cw_seq ?_
  refine cw_ret ?_
  repeat first | refine ret_then ?_ | refine ret_inb ?_
  exact resATT Try.underlying44 rfl (Try.sizeOf44 _) rfl (S.blk (i := 1) rfl) rfl rfl rfl rfl ⟨rfl, S.out⟩
set_option maxHeartbeats 2000000 in
theorem snext_E (i : Nat) (hi : i < gw * gh) (hG : GridAt W p gw gh cc A cap bs Rs) : Fn Try.prog 32 [.pointer (some ⟨p, 0, none⟩), .agg #[.int .i64 (i % gw : Nat), .int .i64 (i / gw : Nat)]] W
    (RetG (.tuple #[.agg #[.int .i64 (nxZ gw (flowN gw (gridL gw gh cc)) i).1, .int .i64 (nxZ gw (flowN gw (gridL gw gh cc)) i).2], .bool (!decide (flowN gw (gridL gw gh cc) i = i)), .int .i64 0]) W) := by
  have hw := hG.sw
  have hh := hG.sh
  have hV := gridL_len gw gh cc
  have hgm : gw * gh ≤ 1024 * 1024 := Nat.mul_le_mul hw.2 hh.2
  have hfl := flowN_lt hw.1 hV hi
  have hget : (cellsN (gw * gh) (flowN gw (gridL gw gh cc)))[((i : Nat) : Int).toNat * 1]? = some (.int .i64 (flowN gw (gridL gw gh cc) i : Nat)) := by rw [Nat.mul_one, Int.toNat_natCast]; exact cellsN_get hi
  have hbeg := fun w (g : Gr W w) => sbeginI_E i hi (hG.gr g)
  generalize gridL gw gh cc = V at *
  by_cases hf : flowN gw V i = i
  · have hnx : nxZ gw (flowN gw V) i = (0, 0) := if_pos hf
    have hget2 := hget
    rw [hf] at hget2
    rw [hnx]
    have S := St.start W
    refine Fn_enter Try.func32 rfl Try.results32 Try.ntmps32 (by kernel_rfl) (by kernel_rfl) ?_
    repeat refine cw_seq ?_
    refine cw_region ?_
    refine rw_newB (op_box rfl) S ?_
    intro b_c w2_ g2_ S
    refine rw_newB (op_alloc Try.zeroValue44 rfl) S ?_
    intro b_res w4_ g4_ S
    iterate 2 refine rw_v (op_pure rfl) ?_
    first | refine rw_end ?_ | (refine rw_nil ?_; show CW _ _ _ _ _ _) | refine rw_nil ?_
    repeat refine cw_seq ?_
    refine cw_region ?_
    refine rw_v (op_pure rfl) ?_
    refine rw_r (op_loadAB Try.underlying44 rfl (Try.sizeOf44 _) rfl (S.blk (i := 1) rfl) rfl rfl) ?_
    refine rw_call rfl (hbeg w4_ S.out) ?_
    rintro _ w5_ ⟨A_v, c_v, A_to, c_to, rfl, hv, hFv, hto, hFt, hd, g5_⟩
    have sa_to : SomeA A_to := hto.someA (by omega)
    have S := S.push2 g5_ (h1 := .row 2 1 A_v _ c_v _) (h2 := .row 3 1 A_to _ c_to _) hv hto hFv hFt hd
    iterate 4 refine rw_v (op_pure rfl) ?_
    refine rw_newB (op_alloc Try.zeroValue136 rfl) S ?_
    intro b_l w7_ g7_ S
    refine rw_storeSA (i := 0) S rfl (Try.sizeOf136 _) rfl rfl rfl rfl rfl rfl ?_
    intro w8_ S
    iterate 2 refine rw_v (op_pure rfl) ?_
    first | refine rw_end ?_ | (refine rw_nil ?_; show CW _ _ _ _ _ _) | refine rw_nil ?_
    repeat refine cw_seq ?_
    refine cw_region ?_
    refine rw_v (op_pure rfl) ?_
    refine rw_v (op_b (b := false) rfl (bne_eq_false_iff_eq.2 (by omega))) ?_
    refine rw_v (op_pure rfl) ?_
    first | refine rw_off rfl ?_ | (refine rw_on rfl ?_; refine rw_v (op_fieldAddr Try.underlying136 rfl Try.sizeOf122 rfl rfl) ?_)
    first | refine rw_off rfl ?_ | (refine rw_on rfl ?_; refine rw_r (op_loadB Try.underlying122 rfl rfl (S.blk (i := 0) rfl) rfl) ?_)
    first | refine rw_off rfl ?_ | (refine rw_on rfl ?_; refine rw_v (op_pure rfl) ?_)
    first | refine rw_off rfl ?_ | (refine rw_on rfl ?_; refine rw_v (op_idx Try.underlying122 Try.sizeOf3 rfl rfl sa_to (by omega) (by omega)) ?_)
    first | refine rw_off rfl ?_ | (refine rw_on rfl ?_; refine rw_r (op_ldR Try.underlying3 rfl rfl (S.rd (i := 2) rfl) hget2) ?_)
    first | refine rw_off rfl ?_ | (refine rw_on rfl ?_; refine rw_v (op_pure rfl) ?_)
    first | refine rw_off rfl ?_ | (refine rw_on rfl ?_; refine rw_v (op_b (b := true) rfl (beq_iff_eq.2 (by omega))) ?_)
    refine rw_v (op_pure rfl) ?_
    first | refine rw_end ?_ | (refine rw_nil ?_; show CW _ _ _ _ _ _) | refine rw_nil ?_
    repeat refine cw_seq ?_
    refine cw_true rfl ?_
    repeat refine cw_seq ?_
    refine cw_region ?_
    refine rw_v (op_build (pl := [(0, 1), (1, 1)]) Try.underlying44 Try.zeroValue44 (fun w => by kernel_rfl) rfl rfl) ?_
    refine rw_v (op_pure rfl) ?_
    refine rw_storeSA (i := 3) S rfl (Try.sizeOf44 _) rfl rfl rfl rfl rfl rfl ?_
    intro w9_ S
    iterate 2 refine rw_v (op_pure rfl) ?_
    first | refine rw_end ?_ | (refine rw_nil ?_; show CW _ _ _ _ _ _) | refine rw_nil ?_
    repeat refine cw_seq ?_
    refine cw_ret ?_
    repeat first | refine ret_then ?_ | refine ret_inb ?_
    exact resATT Try.underlying44 rfl (Try.sizeOf44 _) rfl (S.blk (i := 3) rfl) rfl rfl rfl rfl ⟨by simp [hf], S.out⟩
  · have hnx : nxZ gw (flowN gw V) i = cz gw (flowN gw V i) := if_neg hf
    rw [hnx]
    have S := St.start W
    refine Fn_enter Try.func32 rfl Try.results32 Try.ntmps32 (by kernel_rfl) (by kernel_rfl) ?_
    repeat refine cw_seq ?_
    refine cw_region ?_
    refine rw_newB (op_box rfl) S ?_
    intro b_c w2_ g2_ S
    refine rw_newB (op_alloc Try.zeroValue44 rfl) S ?_
    intro b_res w4_ g4_ S
    iterate 2 refine rw_v (op_pure rfl) ?_
    first | refine rw_end ?_ | (refine rw_nil ?_; show CW _ _ _ _ _ _) | refine rw_nil ?_
    repeat refine cw_seq ?_
    refine cw_region ?_
    refine rw_v (op_pure rfl) ?_
    refine rw_r (op_loadAB Try.underlying44 rfl (Try.sizeOf44 _) rfl (S.blk (i := 1) rfl) rfl rfl) ?_
    refine rw_call rfl (hbeg w4_ S.out) ?_
    rintro _ w5_ ⟨A_v, c_v, A_to, c_to, rfl, hv, hFv, hto, hFt, hd, g5_⟩
    have sa_to : SomeA A_to := hto.someA (by omega)
    have S := S.push2 g5_ (h1 := .row 2 1 A_v _ c_v _) (h2 := .row 3 1 A_to _ c_to _) hv hto hFv hFt hd
    iterate 4 refine rw_v (op_pure rfl) ?_
    refine rw_newB (op_alloc Try.zeroValue136 rfl) S ?_
    intro b_l w7_ g7_ S
    refine rw_storeSA (i := 0) S rfl (Try.sizeOf136 _) rfl rfl rfl rfl rfl rfl ?_
    intro w8_ S
    iterate 2 refine rw_v (op_pure rfl) ?_
    first | refine rw_end ?_ | (refine rw_nil ?_; show CW _ _ _ _ _ _) | refine rw_nil ?_
    repeat refine cw_seq ?_
    refine cw_region ?_
    refine rw_v (op_pure rfl) ?_
    refine rw_v (op_b (b := false) rfl (bne_eq_false_iff_eq.2 (by omega))) ?_
    refine rw_v (op_pure rfl) ?_
    first | refine rw_off rfl ?_ | (refine rw_on rfl ?_; refine rw_v (op_fieldAddr Try.underlying136 rfl Try.sizeOf122 rfl rfl) ?_)
    first | refine rw_off rfl ?_ | (refine rw_on rfl ?_; refine rw_r (op_loadB Try.underlying122 rfl rfl (S.blk (i := 0) rfl) rfl) ?_)
    first | refine rw_off rfl ?_ | (refine rw_on rfl ?_; refine rw_v (op_pure rfl) ?_)
    first | refine rw_off rfl ?_ | (refine rw_on rfl ?_; refine rw_v (op_idx Try.underlying122 Try.sizeOf3 rfl rfl sa_to (by omega) (by omega)) ?_)
    first | refine rw_off rfl ?_ | (refine rw_on rfl ?_; refine rw_r (op_ldR Try.underlying3 rfl rfl (S.rd (i := 2) rfl) hget) ?_)
    first | refine rw_off rfl ?_ | (refine rw_on rfl ?_; refine rw_v (op_pure rfl) ?_)
    first | refine rw_off rfl ?_ | (refine rw_on rfl ?_; refine rw_v (op_b (b := false) rfl (beq_eq_false_iff_ne.2 (by omega))) ?_)
    refine rw_v (op_pure rfl) ?_
    first | refine rw_end ?_ | (refine rw_nil ?_; show CW _ _ _ _ _ _) | refine rw_nil ?_
    repeat refine cw_seq ?_
    refine cw_false rfl ?_
    repeat refine cw_seq ?_
    refine cw_skip ?_
    try show CW _ _ _ _ _ _
    repeat refine cw_seq ?_
    refine cw_draw (C := fun wq => Gr w8_ wq) [0, 1, 2, 3, 4, 5] [6, 7, 8, 9] (by kernel_rfl) (by kernel_rfl) (Gr.drew _) ?_
    simp only [pickL, List.drop_succ_cons, List.drop_zero]
    refine rq_r (fun wq hq => op_loadAB Try.underlying136 rfl (Try.sizeOf136 _) rfl ((S.gr hq).blk (i := 0) rfl) rfl rfl) ?_
    refine rq_v (op_fieldAddr Try.underlying136 rfl Try.sizeOf122 rfl rfl) ?_
    refine rq_r (fun wq hq => op_loadB Try.underlying122 rfl rfl ((S.gr hq).blk (i := 0) rfl) rfl) ?_
    refine rq_v (op_pure rfl) ?_
    refine rq_v (op_idx Try.underlying122 Try.sizeOf3 rfl rfl sa_to (by omega) (by omega)) ?_
    refine rq_r (fun wq hq => op_ldR Try.underlying3 rfl rfl ((S.gr hq).rd (i := 2) rfl) hget) ?_
    refine rq_nil ?_
    intro w9_ g9_
    have S := S.gr g9_
    refine rw_call rfl (satt_E (W := w9_) (flowN gw V i) (gw * gh) hw.1 (by omega)) ?_
    rintro _ w10_ ⟨rfl, g10_⟩
    have S := S.gr g10_
    refine rw_storeSA (i := 3) S rfl (Try.sizeOf44 _) rfl rfl rfl rfl rfl rfl ?_
    intro w11_ S
    iterate 2 refine rw_v (op_pure rfl) ?_
    first | refine rw_end ?_ | (refine rw_nil ?_; show CW _ _ _ _ _ _) | refine rw_nil ?_
    repeat refine cw_seq ?_
    refine cw_ret ?_
    repeat first | refine ret_then ?_ | refine ret_inb ?_
    exact resATT Try.underlying44 rfl (Try.sizeOf44 _) rfl (S.blk (i := 3) rfl) rfl rfl rfl rfl ⟨by simp [hf, cz], S.out⟩
theorem swayNil_E (x y : Int) : Fn Try.prog 33 [.pointer none, .agg #[.int .i64 x, .int .i64 y]] W (RetG (.tuple #[.slice none 0 0, .int .i64 1]) W) := by
  have S := St.start W
  refine Fn_enter Try.func33 rfl Try.results33 Try.ntmps33 (by kernel_rfl) (by kernel_rfl) ?_
  repeat refine cw_seq ?_
  refine cw_region ?_
  refine rw_newB (op_box rfl) S ?_
  intro b_c w2_ g2_ S
  iterate 2 refine rw_v (op_pure rfl) ?_
  first | refine rw_end ?_ | (refine rw_nil ?_; show CW _ _ _ _ _ _) | refine rw_nil ?_
  repeat refine cw_seq ?_
  refine cw_region ?_
  refine rw_v (op_pure rfl) ?_
  refine rw_r (op_loadAB Try.underlying44 rfl (Try.sizeOf44 _) rfl (S.blk (i := 0) rfl) rfl rfl) ?_
  refine rw_call rfl (sbeginNil_E x y) ?_
  rintro _ w3_ ⟨rfl, g3_⟩
  have S := S.gr g3_
  iterate 4 refine rw_v (op_pure rfl) ?_
  refine rw_newB (op_alloc Try.zeroValue136 rfl) S ?_
  intro b_l w5_ g5_ S
  refine rw_storeSA (i := 0) S rfl (Try.sizeOf136 _) rfl rfl rfl rfl rfl rfl ?_
  intro w6_ S
  iterate 2 refine rw_v (op_pure rfl) ?_
  first | refine rw_end ?_ | (refine rw_nil ?_; show CW _ _ _ _ _ _) | refine rw_nil ?_
  repeat refine cw_seq ?_
  refine cw_region ?_
  refine rw_v (op_pure rfl) ?_
  refine rw_v (op_b (b := true) rfl (bne_iff_ne.2 (by omega))) ?_
  first | refine rw_end ?_ | (refine rw_nil ?_; show CW _ _ _ _ _ _) | refine rw_nil ?_
  repeat refine cw_seq ?_
  refine cw_true rfl ?_
  repeat refine cw_seq ?_
  refine cw_region ?_
  iterate 3 refine rw_v (op_pure rfl) ?_
  first | refine rw_end ?_ | (refine rw_nil ?_; show CW _ _ _ _ _ _) | refine rw_nil ?_
  repeat refine cw_seq ?_
  refine cw_ret ?_
  repeat first | refine ret_then ?_ | refine ret_inb ?_
  exact res2 rfl rfl ⟨rfl, S.out⟩
theorem swayNo_E (x y : Int) (hno : inG gw gh (x, y) = false) (hG : GridAt W p gw gh cc A cap bs Rs) : Fn Try.prog 33 [.pointer (some ⟨p, 0, none⟩), .agg #[.int .i64 x, .int .i64 y]] W (RetG (.tuple #[.slice none 0 0, .int .i64 4]) W) := by
  have S := St.start W
  refine Fn_enter Try.func33 rfl Try.results33 Try.ntmps33 (by kernel_rfl) (by kernel_rfl) ?_
  repeat refine cw_seq ?_
  refine cw_region ?_
  refine rw_newB (op_box rfl) S ?_
  intro b_c w2_ g2_ S
  iterate 2 refine rw_v (op_pure rfl) ?_
  first | refine rw_end ?_ | (refine rw_nil ?_; show CW _ _ _ _ _ _) | refine rw_nil ?_
  repeat refine cw_seq ?_
  refine cw_region ?_
  refine rw_v (op_pure rfl) ?_
  refine rw_r (op_loadAB Try.underlying44 rfl (Try.sizeOf44 _) rfl (S.blk (i := 0) rfl) rfl rfl) ?_
  refine rw_call rfl (sbeginNo_E (W := w2_) x y hno (hG.gr S.out)) ?_
  rintro _ w3_ ⟨rfl, g3_⟩
  have S := S.gr g3_
  iterate 4 refine rw_v (op_pure rfl) ?_
  refine rw_newB (op_alloc Try.zeroValue136 rfl) S ?_
  intro b_l w5_ g5_ S
  refine rw_storeSA (i := 0) S rfl (Try.sizeOf136 _) rfl rfl rfl rfl rfl rfl ?_
  intro w6_ S
  iterate 2 refine rw_v (op_pure rfl) ?_
  first | refine rw_end ?_ | (refine rw_nil ?_; show CW _ _ _ _ _ _) | refine rw_nil ?_
  repeat refine cw_seq ?_
  refine cw_region ?_
  refine rw_v (op_pure rfl) ?_
  refine rw_v (op_b (b := true) rfl (bne_iff_ne.2 (by omega))) ?_
  first | refine rw_end ?_ | (refine rw_nil ?_; show CW _ _ _ _ _ _) | refine rw_nil ?_
  repeat refine cw_seq ?_
  refine cw_true rfl ?_
  repeat refine cw_seq ?_
  refine cw_region ?_
  iterate 3 refine rw_v (op_pure rfl) ?_
  first | refine rw_end ?_ | (refine rw_nil ?_; show CW _ _ _ _ _ _) | refine rw_nil ?_
  repeat refine cw_seq ?_
  refine cw_ret ?_
  repeat first | refine ret_then ?_ | refine ret_inb ?_
  exact res2 rfl rfl ⟨rfl, S.out⟩
set_option maxHeartbeats 2000000 in
theorem sway_E (i k : Nat) (hi : i < gw * gh) (hkn : k < gw * gh) (hk : Stop (flowN gw (gridL gw gh cc)) i k) (hG : GridAt W p gw gh cc A cap bs Rs) : Fn Try.prog 33 [.pointer (some ⟨p, 0, none⟩), .agg #[.int .i64 (i % gw : Nat), .int .i64 (i / gw : Nat)]] W
    (RetNew (fun s => .tuple #[s, .int .i64 0]) 44 2 (k + 1) (cellsZ ((wayN (flowN gw (gridL gw gh cc)) i k).map (cz gw))) W) := by
  have hw := hG.sw
  have hh := hG.sh
  have hV := gridL_len gw gh cc
  have hgm : gw * gh ≤ 1024 * 1024 := Nat.mul_le_mul hw.2 hh.2
  have hF := flow_fall hw.1 hV
  have hget : ∀ i, i < gw * gh → (cellsN (gw * gh) (flowN gw (gridL gw gh cc)))[((i : Nat) : Int).toNat * 1]? = some (.int .i64 (flowN gw (gridL gw gh cc) i : Nat)) := fun i hi => by rw [Nat.mul_one, Int.toNat_natCast]; exact cellsN_get hi
  have hbeg := fun w (g : Gr W w) => sbeginI_E i hi (hG.gr g)
  generalize gridL gw gh cc = V at *
  have S := St.start W
  refine Fn_enter Try.func33 rfl Try.results33 Try.ntmps33 (by kernel_rfl) (by kernel_rfl) ?_
  repeat refine cw_seq ?_
  refine cw_region ?_
  refine rw_newB (op_box rfl) S ?_
  intro b_c w2_ g2_ S
  iterate 2 refine rw_v (op_pure rfl) ?_
  first | refine rw_end ?_ | (refine rw_nil ?_; show CW _ _ _ _ _ _) | refine rw_nil ?_
  repeat refine cw_seq ?_
  refine cw_region ?_
  refine rw_v (op_pure rfl) ?_
  refine rw_r (op_loadAB Try.underlying44 rfl (Try.sizeOf44 _) rfl (S.blk (i := 0) rfl) rfl rfl) ?_
  refine rw_call rfl (hbeg w2_ S.out) ?_
  rintro _ w3_ ⟨A_v, c_v, A_to, c_to, rfl, hv, hFv, hto, hFt, hd, g3_⟩
  have sa_to : SomeA A_to := hto.someA (by omega)
  have S := S.push2 g3_ (h1 := .row 2 1 A_v _ c_v _) (h2 := .row 3 1 A_to _ c_to _) hv hto hFv hFt hd
  iterate 4 refine rw_v (op_pure rfl) ?_
  refine rw_newB (op_alloc Try.zeroValue136 rfl) S ?_
  intro b_l w5_ g5_ S
  refine rw_storeSA (i := 0) S rfl (Try.sizeOf136 _) rfl rfl rfl rfl rfl rfl ?_
  intro w6_ S
  iterate 2 refine rw_v (op_pure rfl) ?_
  first | refine rw_end ?_ | (refine rw_nil ?_; show CW _ _ _ _ _ _) | refine rw_nil ?_
  repeat refine cw_seq ?_
  refine cw_region ?_
  refine rw_v (op_pure rfl) ?_
  refine rw_v (op_b (b := false) rfl (bne_eq_false_iff_eq.2 (by omega))) ?_
  first | refine rw_end ?_ | (refine rw_nil ?_; show CW _ _ _ _ _ _) | refine rw_nil ?_
  repeat refine cw_seq ?_
  refine cw_false rfl ?_
  repeat refine cw_seq ?_
  refine cw_skip ?_
  try show CW _ _ _ _ _ _
  repeat refine cw_seq ?_
  refine cw_region ?_
  refine rw_r (op_loadAB Try.underlying44 rfl (Try.sizeOf44 _) rfl (S.blk (i := 3) rfl) rfl rfl) ?_
  refine rw_buildS Try.underlying50 Try.sizeOf44 Try.zeroValue44 rfl rfl rfl rfl rfl rfl S ?_
  intro A_out w8_ g8_ S sa_out
  refine rw_v (op_pure rfl) ?_
  first | refine rw_end ?_ | (refine rw_nil ?_; show CW _ _ _ _ _ _) | refine rw_nil ?_
  repeat refine cw_seq ?_
  refine cw_block ?_
  repeat refine cw_seq ?_
  generalize hff : flowN gw V = f at *
  refine cw_loop (fun m e w => ∃ (j : Nat) (A_out : Option Addr) (c_out : Nat), j + m = k ∧ SL e [(6, .pointer (some ⟨b_l, 0, none⟩)), (7, .int .i64 (itr f j i : Nat)), (9, .slice A_out (j + 1) c_out)] ∧
    St No W w [.row 44 2 A_out (j + 1) c_out (cellsZ ((wayN f i j).map (cz gw))), .blk b_l 136 [.int .i64 gw, .slice A_v (gw * gh) c_v, .slice A_to (gw * gh) c_to], .row 2 1 A_v (gw * gh) c_v (ints V), .row 3 1 A_to (gw * gh) c_to (cellsN (gw * gh) f), .blk b_c 44 [.int .i64 (i % gw : Nat), .int .i64 (i / gw : Nat)]]) k
    ⟨0, A_out, 1, by omega, ⟨rfl, rfl, rfl, trivial⟩, S⟩ ?_
  clear S
  rintro m e w ⟨j, A_out, c_out, hjm, hsl, S⟩
  rw [hsl.fold]
  have hlt := hF.itr_lt hi j
  have hlt1 := hF.itr_lt hi (j + 1)
  have hg1 := hget _ hlt
  have e1 : f (itr f j i) = itr f (j + 1) i := rfl
  rw [e1] at hg1
  by_cases hjk : j < k
  · have hne := hk.1 j hjk
    repeat refine cw_seq ?_
    refine cw_region ?_
    refine rw_v (op_fieldAddr Try.underlying136 rfl Try.sizeOf122 rfl rfl) ?_
    refine rw_r (op_loadB Try.underlying122 rfl rfl (S.blk (i := 1) rfl) rfl) ?_
    refine rw_v (op_pure rfl) ?_
    refine rw_v (op_idx Try.underlying122 Try.sizeOf3 rfl rfl sa_to (by omega) (by omega)) ?_
    refine rw_r (op_ldR Try.underlying3 rfl rfl (S.rd (i := 3) rfl) hg1) ?_
    refine rw_v (op_pure rfl) ?_
    refine rw_v (op_b (b := true) rfl (bne_iff_ne.2 (by omega))) ?_
    first | refine rw_end ?_ | (refine rw_nil ?_; show CW _ _ _ _ _ _) | refine rw_nil ?_
    repeat refine cw_seq ?_
    refine cw_true rfl ?_
    repeat refine cw_seq ?_
    refine cw_skip ?_
    try show CW _ _ _ _ _ _
    repeat refine cw_seq ?_
    refine cw_block ?_
    repeat refine cw_seq ?_
    refine cw_region ?_
    refine rw_v (op_fieldAddr Try.underlying136 rfl Try.sizeOf122 rfl rfl) ?_
    refine rw_r (op_loadB Try.underlying122 rfl rfl (S.blk (i := 1) rfl) rfl) ?_
    refine rw_v (op_pure rfl) ?_
    refine rw_v (op_idx Try.underlying122 Try.sizeOf3 rfl rfl sa_to (by omega) (by omega)) ?_
    refine rw_r (op_ldR Try.underlying3 rfl rfl (S.rd (i := 3) rfl) hg1) ?_
    refine rw_v (op_pure rfl) ?_
    first | refine rw_end ?_ | (refine rw_nil ?_; show CW _ _ _ _ _ _) | refine rw_nil ?_
    repeat refine cw_seq ?_
    refine cw_region ?_
    refine rw_v (op_pure rfl) ?_
    refine rw_r (op_loadAB Try.underlying136 rfl (Try.sizeOf136 _) rfl (S.blk (i := 1) rfl) rfl rfl) ?_
    refine rw_v (op_pure rfl) ?_
    refine rw_call rfl (satt_E (W := w) (itr f (j + 1) i) (gw * gh) hw.1 (by omega)) ?_
    rintro _ w9_ ⟨rfl, g9_⟩
    have S := S.gr g9_
    refine rw_buildS Try.underlying50 Try.sizeOf44 Try.zeroValue44 rfl rfl rfl rfl rfl rfl S ?_
    intro A_lit w11_ g11_ S sa_lit
    refine rw_appS (i := 1) S rfl (fun h => rfl) Try.underlying50 info_t44 rfl rfl rfl rfl (by simp) (by omega) (S.rd (i := 0) rfl) rfl (by omega) ?_
    intro A_o2 c_o2 w12_ S sa_out
    refine rw_v (op_pure rfl) ?_
    first | refine rw_end ?_ | (refine rw_nil ?_; show CW _ _ _ _ _ _) | refine rw_nil ?_
    have S := S.drop 1
    rw [cellsZ_push, ← wayN_succ] at S
    exact ⟨m - 1, by omega, j + 1, A_o2, c_o2, by omega, ⟨rfl, rfl, rfl, trivial⟩, S⟩
  · obtain rfl : j = k := by omega
    have he := hk.2
    rw [he] at hg1
    repeat refine cw_seq ?_
    refine cw_region ?_
    refine rw_v (op_fieldAddr Try.underlying136 rfl Try.sizeOf122 rfl rfl) ?_
    refine rw_r (op_loadB Try.underlying122 rfl rfl (S.blk (i := 1) rfl) rfl) ?_
    refine rw_v (op_pure rfl) ?_
    refine rw_v (op_idx Try.underlying122 Try.sizeOf3 rfl rfl sa_to (by omega) (by omega)) ?_
    refine rw_r (op_ldR Try.underlying3 rfl rfl (S.rd (i := 3) rfl) hg1) ?_
    refine rw_v (op_pure rfl) ?_
    refine rw_v (op_b (b := false) rfl (bne_eq_false_iff_eq.2 (by omega))) ?_
    first | refine rw_end ?_ | (refine rw_nil ?_; show CW _ _ _ _ _ _) | refine rw_nil ?_
    repeat refine cw_seq ?_
    refine cw_false rfl ?_
    repeat refine cw_seq ?_
    refine cw_exit ?_
    repeat first | refine exit_then ?_ | refine exit_inb ?_
    show CW _ _ _ _ _ _
    repeat refine cw_seq ?_
    refine cw_region ?_
    iterate 3 refine rw_v (op_pure rfl) ?_
    first | refine rw_end ?_ | (refine rw_nil ?_; show CW _ _ _ _ _ _) | refine rw_nil ?_
    repeat refine cw_seq ?_
    refine cw_ret ?_
    repeat first | refine ret_then ?_ | refine ret_inb ?_
    exact res2 rfl rfl (S.retNew (i := 0) (mk := fun s => .tuple #[s, .int .i64 0]) rfl)
set_option maxHeartbeats 2000000 in
theorem rsnext_E (i : Nat) (hgw : 1 ≤ gw) (hi : i < gw * gh) (hV : V.length = gw * gh) (hm : gw * gh ≤ 1048576) (hA : Rd W A (ints V)) : Fn Try.prog 34 [modV gw gh A V.length cap, .agg #[.int .i64 (i % gw : Nat), .int .i64 (i / gw : Nat)]] W
    (RetG (.tuple #[.agg #[.int .i64 (nxZ gw (flowN gw V) i).1, .int .i64 (nxZ gw (flowN gw V) i).2], .bool (!decide (flowN gw V i = i))]) W) := by
  have sa_A : SomeA A := hA.someA (by rw [ints_len]; omega)
  have hnl := nearN_len gw V.length i
  have hmemN : ∀ y, y ∈ nearN gw V.length i → y < gw * gh := fun y hy => by rw [hV] at hy; exact ((nearN_mem hgw hi).1 hy).1
  have hflow : flowN gw V i = flw V i ((nearN gw V.length i).take (nearN gw V.length i).length) := by rw [List.take_length]; rfl
  have S := St.start W
  refine Fn_enter Try.func34 rfl Try.results34 Try.ntmps34 (by kernel_rfl) (by kernel_rfl) ?_
  repeat refine cw_seq ?_
  refine cw_region ?_
  refine rw_newB (op_box rfl) S ?_
  intro b_md w2_ g2_ S
  refine rw_newB (op_box rfl) S ?_
  intro b_c w4_ g4_ S
  refine rw_newB (op_alloc Try.zeroValue44 rfl) S ?_
  intro b_res w6_ g6_ S
  refine rw_v (op_pure rfl) ?_
  first | refine rw_end ?_ | (refine rw_nil ?_; show CW _ _ _ _ _ _) | refine rw_nil ?_
  repeat refine cw_seq ?_
  refine cw_region ?_
  refine rw_r (op_loadAB Try.underlying25 rfl (Try.sizeOf25 _) rfl (S.blk (i := 2) rfl) rfl rfl) ?_
  refine rw_r (op_loadAB Try.underlying44 rfl (Try.sizeOf44 _) rfl (S.blk (i := 1) rfl) rfl rfl) ?_
  refine rw_call rfl (matI_E (W := w6_) i hgw hi hV hm (hA.gr S.out)) ?_
  rintro _ w7_ ⟨rfl, g7_⟩
  have S := S.gr g7_
  iterate 5 refine rw_v (op_pure rfl) ?_
  first | refine rw_end ?_ | (refine rw_nil ?_; show CW _ _ _ _ _ _) | refine rw_nil ?_
  repeat refine cw_seq ?_
  refine cw_region ?_
  refine rw_v (op_build (pl := [(0, 1), (1, 1)]) Try.underlying44 Try.zeroValue44 (fun w => by kernel_rfl) rfl rfl) ?_
  refine rw_newB (op_alloc Try.zeroValue44 rfl) S ?_
  intro b_best w9_ g9_ S
  refine rw_storeSA (i := 0) S rfl (Try.sizeOf44 _) rfl rfl rfl rfl rfl rfl ?_
  intro w10_ S
  refine rw_v (op_pure rfl) ?_
  first | refine rw_end ?_ | (refine rw_nil ?_; show CW _ _ _ _ _ _) | refine rw_nil ?_
  repeat refine cw_seq ?_
  refine cw_region ?_
  refine rw_r (op_loadAB Try.underlying25 rfl (Try.sizeOf25 _) rfl (S.blk (i := 3) rfl) rfl rfl) ?_
  refine rw_r (op_loadAB Try.underlying44 rfl (Try.sizeOf44 _) rfl (S.blk (i := 2) rfl) rfl rfl) ?_
  refine rw_call rfl (nearI_E (W := w10_) i hgw hi hV hm (hA.gr S.out)) ?_
  rintro _ w11_ ⟨A_near, c_near, rfl, hR_near, hf_near, g11_⟩
  have S := S.pushRow hR_near hf_near g11_
  refine rw_v (op_pure rfl) ?_
  first | refine rw_end ?_ | (refine rw_nil ?_; show CW _ _ _ _ _ _) | refine rw_nil ?_
  repeat refine cw_seq ?_
  refine cw_region ?_
  refine rw_v (op_pure rfl) ?_
  first | refine rw_end ?_ | (refine rw_nil ?_; show CW _ _ _ _ _ _) | refine rw_nil ?_
  repeat refine cw_seq ?_
  refine cw_block ?_
  repeat refine cw_seq ?_
  generalize nearN gw V.length i = Nr at *
  have sa_near : 0 < Nr.length → SomeA A_near := fun h => (S.row (i := 0) rfl).someA h
  have hfst : ∀ (b : Nat), b = i → (if b = i then ((0, 0) : Int × Int) else cz gw b) = (0, 0) := fun b h => if_pos h
  refine cw_loop (fun m e w => ∃ (k b : Nat), k + m = Nr.length ∧ b = flw V i (Nr.take k) ∧ SL e [(2, .pointer (some ⟨b_md, 0, none⟩)), (4, .pointer (some ⟨b_res, 0, none⟩)), (6, .int .i64 (V.getD b 0)), (8, .pointer (some ⟨b_best, 0, none⟩)), (9, .bool (!decide (b = i))), (10, .slice A_near Nr.length c_near), (11, .int .i64 k)] ∧
    St No W w [.row 44 2 A_near Nr.length c_near (cellsZ (Nr.map (cz gw))), .blk b_best 44 [.int .i64 (if b = i then ((0, 0) : Int × Int) else cz gw b).1, .int .i64 (if b = i then ((0, 0) : Int × Int) else cz gw b).2], .blk b_res 44 [.int .i64 0, .int .i64 0], .blk b_c 44 [.int .i64 (i % gw : Nat), .int .i64 (i / gw : Nat)], .blk b_md 25 [.int .i64 gw, .int .i64 gh, .slice A V.length cap]]) Nr.length
    ⟨0, i, by omega, rfl, ⟨rfl, rfl, rfl, rfl, be (by simp), rfl, rfl, trivial⟩, by rw [hfst i rfl]; exact S⟩ ?_
  clear S
  rintro m e w ⟨k, b, hkm, hb, hsl, S⟩
  rw [hsl.fold]
  repeat refine cw_seq ?_
  refine cw_region ?_
  iterate 2 refine rw_v (op_pure rfl) ?_
  refine rw_v (op_len Try.underlying50 rfl) ?_
  refine rw_v (op_pure rfl) ?_
  first | refine rw_end ?_ | (refine rw_nil ?_; show CW _ _ _ _ _ _) | refine rw_nil ?_
  repeat refine cw_seq ?_
  refine cw_cond rfl (fun hc => ?_) (fun hc => ?_)
  · try simp only [decide_eq_true_eq, decide_eq_false_iff_not, beq_iff_eq, bne_iff_ne, beq_eq_false_iff_ne, bne_eq_false_iff_eq, Bool.not_eq_true', Bool.not_eq_false', ne_eq, Decidable.not_not, Int.natCast_inj, Int.ofNat_lt, Int.ofNat_le, gt_iff_lt, ge_iff_le, Int.not_lt, Int.not_le] at hc
    have hkl : k < Nr.length := by omega
    have sa_near := sa_near (by omega)
    obtain ⟨j, hj⟩ : ∃ j, Nr[k]? = some j := ⟨_, List.getElem?_eq_getElem hkl⟩
    have hjlt := hmemN j (List.mem_of_getElem? hj)
    have hat : ((cellsZ (Nr.map (cz gw))).drop ((k : Int).toNat * 2)).take 2 = [.int .i64 (j % gw : Nat), .int .i64 (j / gw : Nat)] := by
      rw [Int.toNat_natCast]; exact cellsZ_at (c := cz gw j) (by rw [List.getElem?_map, hj]; rfl)
    have htk : Nr.take (k + 1) = Nr.take k ++ [j] := by
      rw [List.take_add_one, hj]; rfl
    have hstep : flw V i (Nr.take (k + 1)) = if V.getD j 0 < V.getD b 0 then j else b := by rw [htk, flw_app, ← hb]; rfl
    have hle : V.getD b 0 ≤ V.getD i 0 := by
      rcases flw_cases V (Nr.take k) i with h | h
      · rw [hb, h]; exact Int.le_refl _
      · rw [hb]; omega
    by_cases hlt : V.getD j 0 < V.getD b 0
    · rw [if_pos hlt] at hstep
      have hji : j ≠ i := fun e => by rw [e] at hlt; omega
      have hz : (if j = i then ((0, 0) : Int × Int) else cz gw j) = cz gw j := if_neg hji
      repeat refine cw_seq ?_
      refine cw_skip ?_
      try show CW _ _ _ _ _ _
      repeat refine cw_seq ?_
      refine cw_block ?_
      repeat refine cw_seq ?_
      refine cw_draw (C := fun wq => Gr w wq) [0, 1, 2, 3, 4, 5, 6, 7, 8, 9, 10] [] (by kernel_rfl) (by kernel_rfl) (Gr.drew _) ?_
      simp only [pickL, List.drop_succ_cons, List.drop_zero]
      refine rq_r (fun wq hq => op_loadAB Try.underlying25 rfl (Try.sizeOf25 _) rfl ((S.gr hq).blk (i := 4) rfl) rfl rfl) ?_
      iterate 2 refine rq_v (op_pure rfl) ?_
      refine rq_v (op_idx Try.underlying50 Try.sizeOf44 rfl rfl sa_near (by omega) (by omega)) ?_
      refine rq_r (fun wq hq => op_ldRA Try.underlying44 rfl (Try.sizeOf44 _) rfl ((S.gr hq).rd (i := 0) rfl) hat rfl rfl) ?_
      refine rq_call rfl (fun wq hq => (matI_E (W := wq) j hgw hjlt hV hm (hA.gr (S.gr hq).out)).mono (fun _ _ ⟨hv, hg⟩ => ⟨hv, hq.trans hg⟩)) ?_
      iterate 5 refine rq_v (op_pure rfl) ?_
      refine rq_nil ?_
      intro w12_ g12_
      have S := S.gr g12_
      first | refine rw_end ?_ | (refine rw_nil ?_; show CW _ _ _ _ _ _) | refine rw_nil ?_
      repeat refine cw_seq ?_
      refine cw_region ?_
      iterate 2 refine rw_v (op_pure rfl) ?_
      refine rw_v (op_b (b := true) rfl (decide_eq_true (by omega))) ?_
      first | refine rw_end ?_ | (refine rw_nil ?_; show CW _ _ _ _ _ _) | refine rw_nil ?_
      repeat refine cw_seq ?_
      refine cw_true rfl ?_
      repeat refine cw_seq ?_
      refine cw_region ?_
      iterate 2 refine rw_v (op_pure rfl) ?_
      first | refine rw_end ?_ | (refine rw_nil ?_; show CW _ _ _ _ _ _) | refine rw_nil ?_
      repeat refine cw_seq ?_
      refine cw_region ?_
      iterate 2 refine rw_v (op_pure rfl) ?_
      refine rw_v (op_idx Try.underlying50 Try.sizeOf44 rfl rfl sa_near (by omega) (by omega)) ?_
      refine rw_r (op_ldRA Try.underlying44 rfl (Try.sizeOf44 _) rfl (S.rd (i := 0) rfl) hat rfl rfl) ?_
      refine rw_storeSA (i := 1) S rfl (Try.sizeOf44 _) rfl rfl rfl rfl rfl rfl ?_
      intro w13_ S
      first | refine rw_end ?_ | (refine rw_nil ?_; show CW _ _ _ _ _ _) | refine rw_nil ?_
      repeat refine cw_seq ?_
      refine cw_region ?_
      refine rw_v (op_pure rfl) ?_
      first | refine rw_end ?_ | (refine rw_nil ?_; show CW _ _ _ _ _ _) | refine rw_nil ?_
      repeat refine cw_seq ?_
      refine cw_region ?_
      refine rw_v (op_pure rfl) ?_
      refine rw_v (op_rng rfl (by omega)) ?_
      refine rw_v (op_pure rfl) ?_
      first | refine rw_end ?_ | (refine rw_nil ?_; show CW _ _ _ _ _ _) | refine rw_nil ?_
      refine ⟨m - 1, by omega, k + 1, j, by omega, hstep.symm, ⟨rfl, rfl, rfl, rfl, be (by simp [hji]), rfl, ie (by omega), trivial⟩, ?_⟩
      rw [hz]
      exact S
    · rw [if_neg hlt] at hstep
      repeat refine cw_seq ?_
      refine cw_skip ?_
      try show CW _ _ _ _ _ _
      repeat refine cw_seq ?_
      refine cw_block ?_
      repeat refine cw_seq ?_
      refine cw_draw (C := fun wq => Gr w wq) [0, 1, 2, 3, 4, 5, 6, 7, 8, 9, 10] [] (by kernel_rfl) (by kernel_rfl) (Gr.drew _) ?_
      simp only [pickL, List.drop_succ_cons, List.drop_zero]
      refine rq_r (fun wq hq => op_loadAB Try.underlying25 rfl (Try.sizeOf25 _) rfl ((S.gr hq).blk (i := 4) rfl) rfl rfl) ?_
      iterate 2 refine rq_v (op_pure rfl) ?_
      refine rq_v (op_idx Try.underlying50 Try.sizeOf44 rfl rfl sa_near (by omega) (by omega)) ?_
      refine rq_r (fun wq hq => op_ldRA Try.underlying44 rfl (Try.sizeOf44 _) rfl ((S.gr hq).rd (i := 0) rfl) hat rfl rfl) ?_
      refine rq_call rfl (fun wq hq => (matI_E (W := wq) j hgw hjlt hV hm (hA.gr (S.gr hq).out)).mono (fun _ _ ⟨hv, hg⟩ => ⟨hv, hq.trans hg⟩)) ?_
      iterate 5 refine rq_v (op_pure rfl) ?_
      refine rq_nil ?_
      intro w14_ g14_
      have S := S.gr g14_
      first | refine rw_end ?_ | (refine rw_nil ?_; show CW _ _ _ _ _ _) | refine rw_nil ?_
      repeat refine cw_seq ?_
      refine cw_region ?_
      iterate 2 refine rw_v (op_pure rfl) ?_
      refine rw_v (op_b (b := false) rfl (decide_eq_false (by omega))) ?_
      first | refine rw_end ?_ | (refine rw_nil ?_; show CW _ _ _ _ _ _) | refine rw_nil ?_
      repeat refine cw_seq ?_
      refine cw_false rfl ?_
      repeat refine cw_seq ?_
      refine cw_skip ?_
      try show CW _ _ _ _ _ _
      repeat refine cw_seq ?_
      refine cw_region ?_
      refine rw_v (op_pure rfl) ?_
      refine rw_v (op_rng rfl (by omega)) ?_
      refine rw_v (op_pure rfl) ?_
      first | refine rw_end ?_ | (refine rw_nil ?_; show CW _ _ _ _ _ _) | refine rw_nil ?_
      exact ⟨m - 1, by omega, k + 1, b, by omega, hstep.symm, ⟨rfl, rfl, rfl, rfl, rfl, rfl, ie (by omega), trivial⟩, S⟩
  · try simp only [decide_eq_true_eq, decide_eq_false_iff_not, beq_iff_eq, bne_iff_ne, beq_eq_false_iff_ne, bne_eq_false_iff_eq, Bool.not_eq_true', Bool.not_eq_false', ne_eq, Decidable.not_not, Int.natCast_inj, Int.ofNat_lt, Int.ofNat_le, gt_iff_lt, ge_iff_le, Int.not_lt, Int.not_le] at hc
    obtain rfl : k = Nr.length := by omega
    rw [← hflow] at hb
    have hz : (if b = i then ((0, 0) : Int × Int) else cz gw b) = nxZ gw (flowN gw V) i := by unfold nxZ; rw [hb]
    rw [hz] at S
    rw [← hb]
    repeat refine cw_seq ?_
    refine cw_exit ?_
    repeat first | refine exit_then ?_ | refine exit_inb ?_
    show CW _ _ _ _ _ _
    repeat refine cw_seq ?_
    refine cw_region ?_
    refine rw_r (op_loadAB Try.underlying44 rfl (Try.sizeOf44 _) rfl (S.blk (i := 1) rfl) rfl rfl) ?_
    refine rw_v (op_pure rfl) ?_
    refine rw_storeSA (i := 2) S rfl (Try.sizeOf44 _) rfl rfl rfl rfl rfl rfl ?_
    intro w15_ S
    refine rw_v (op_pure rfl) ?_
    first | refine rw_end ?_ | (refine rw_nil ?_; show CW _ _ _ _ _ _) | refine rw_nil ?_
    repeat refine cw_seq ?_
    refine cw_ret ?_
    repeat first | refine ret_then ?_ | refine ret_inb ?_
    exact resAT Try.underlying44 rfl (Try.sizeOf44 _) rfl (S.blk (i := 2) rfl) rfl rfl rfl ⟨rfl, S.out⟩
set_option maxHeartbeats 2000000 in
theorem rsway_E (i k : Nat) (hgw : 1 ≤ gw) (hi : i < gw * gh) (hkn : k < gw * gh) (hk : Stop (flowN gw V) i k) (hV : V.length = gw * gh) (hm : gw * gh ≤ 1048576) (hA : Rd W A (ints V)) : Fn Try.prog 35 [modV gw gh A V.length cap, .agg #[.int .i64 (i % gw : Nat), .int .i64 (i / gw : Nat)]] W
    (RetNew id 44 2 (k + 1) (cellsZ ((wayN (flowN gw V) i k).map (cz gw))) W) := by
  have hF := flow_fall hgw hV
  have hnext := fun (j : Nat) (hj : j < gw * gh) (w : World) (hA : Rd w A (ints V)) => rsnext_E (W := w) (cap := cap) j hgw hj hV hm hA
  have S := St.start W
  refine Fn_enter Try.func35 rfl Try.results35 Try.ntmps35 (by kernel_rfl) (by kernel_rfl) ?_
  repeat refine cw_seq ?_
  refine cw_region ?_
  refine rw_newB (op_box rfl) S ?_
  intro b_md w2_ g2_ S
  refine rw_newB (op_box rfl) S ?_
  intro b_c w4_ g4_ S
  refine rw_v (op_pure rfl) ?_
  first | refine rw_end ?_ | (refine rw_nil ?_; show CW _ _ _ _ _ _) | refine rw_nil ?_
  repeat refine cw_seq ?_
  refine cw_region ?_
  refine rw_r (op_loadAB Try.underlying44 rfl (Try.sizeOf44 _) rfl (S.blk (i := 0) rfl) rfl rfl) ?_
  refine rw_buildS Try.underlying50 Try.sizeOf44 Try.zeroValue44 rfl rfl rfl rfl rfl rfl S ?_
  intro A_out w6_ g6_ S sa_out
  refine rw_v (op_pure rfl) ?_
  first | refine rw_end ?_ | (refine rw_nil ?_; show CW _ _ _ _ _ _) | refine rw_nil ?_
  repeat refine cw_seq ?_
  refine cw_region ?_
  refine rw_r (op_loadAB Try.underlying25 rfl (Try.sizeOf25 _) rfl (S.blk (i := 2) rfl) rfl rfl) ?_
  refine rw_r (op_loadAB Try.underlying44 rfl (Try.sizeOf44 _) rfl (S.blk (i := 1) rfl) rfl rfl) ?_
  refine rw_call rfl (hnext i hi w6_ (hA.gr S.out)) ?_
  rintro _ w7_ ⟨rfl, g7_⟩
  have S := S.gr g7_
  iterate 3 refine rw_v (op_pure rfl) ?_
  refine rw_newB (op_alloc Try.zeroValue44 rfl) S ?_
  intro b_nx w9_ g9_ S
  refine rw_storeSA (i := 0) S rfl (Try.sizeOf44 _) rfl rfl rfl rfl rfl rfl ?_
  intro w10_ S
  refine rw_v (op_pure rfl) ?_
  first | refine rw_end ?_ | (refine rw_nil ?_; show CW _ _ _ _ _ _) | refine rw_nil ?_
  repeat refine cw_seq ?_
  refine cw_block ?_
  repeat refine cw_seq ?_
  generalize hff : flowN gw V = f at *
  refine cw_loop (fun m e w => ∃ (j : Nat) (A_out : Option Addr) (c_out : Nat), j + m = k ∧ SL e [(2, .pointer (some ⟨b_md, 0, none⟩)), (5, .slice A_out (j + 1) c_out), (6, .pointer (some ⟨b_nx, 0, none⟩)), (7, .bool (!decide (f (itr f j i) = itr f j i)))] ∧
    St No W w [.blk b_nx 44 [.int .i64 (nxZ gw f (itr f j i)).1, .int .i64 (nxZ gw f (itr f j i)).2], .row 44 2 A_out (j + 1) c_out (cellsZ ((wayN f i j).map (cz gw))), .blk b_c 44 [.int .i64 (i % gw : Nat), .int .i64 (i / gw : Nat)], .blk b_md 25 [.int .i64 gw, .int .i64 gh, .slice A V.length cap]]) k
    ⟨0, A_out, 1, by omega, ⟨rfl, rfl, rfl, rfl, trivial⟩, S⟩ ?_
  clear S
  rintro m e w ⟨j, A_out, c_out, hjm, hsl, S⟩
  rw [hsl.fold]
  have hlt1 := hF.itr_lt hi (j + 1)
  by_cases hjk : j < k
  · have hne : f (itr f j i) ≠ itr f j i := hk.1 j hjk
    have hz : nxZ gw f (itr f j i) = cz gw (itr f (j + 1) i) := if_neg hne
    rw [hz] at S
    have hd : (!decide (f (itr f j i) = itr f j i)) = true := by simp [hne]
    rw [hd]
    repeat refine cw_seq ?_
    refine cw_region ?_
    refine rw_v (op_pure rfl) ?_
    first | refine rw_end ?_ | (refine rw_nil ?_; show CW _ _ _ _ _ _) | refine rw_nil ?_
    repeat refine cw_seq ?_
    refine cw_true rfl ?_
    repeat refine cw_seq ?_
    refine cw_skip ?_
    try show CW _ _ _ _ _ _
    repeat refine cw_seq ?_
    refine cw_block ?_
    repeat refine cw_seq ?_
    refine cw_region ?_
    refine rw_v (op_pure rfl) ?_
    refine rw_r (op_loadAB Try.underlying44 rfl (Try.sizeOf44 _) rfl (S.blk (i := 0) rfl) rfl rfl) ?_
    refine rw_buildS Try.underlying50 Try.sizeOf44 Try.zeroValue44 rfl rfl rfl rfl rfl rfl S ?_
    intro A_lit w12_ g12_ S sa_lit
    refine rw_appS (i := 2) S rfl (fun h => rfl) Try.underlying50 info_t44 rfl rfl rfl rfl (by simp) (by omega) (S.rd (i := 0) rfl) rfl (by omega) ?_
    intro A_o2 c_o2 w13_ S sa_out
    refine rw_v (op_pure rfl) ?_
    first | refine rw_end ?_ | (refine rw_nil ?_; show CW _ _ _ _ _ _) | refine rw_nil ?_
    repeat refine cw_seq ?_
    refine cw_region ?_
    refine rw_r (op_loadAB Try.underlying25 rfl (Try.sizeOf25 _) rfl (S.blk (i := 4) rfl) rfl rfl) ?_
    refine rw_r (op_loadAB Try.underlying44 rfl (Try.sizeOf44 _) rfl (S.blk (i := 1) rfl) rfl rfl) ?_
    refine rw_call rfl (hnext (itr f (j + 1) i) hlt1 w13_ (hA.gr S.out)) ?_
    rintro _ w14_ ⟨rfl, g14_⟩
    have S := S.gr g14_
    iterate 3 refine rw_v (op_pure rfl) ?_
    refine rw_storeSA (i := 1) S rfl (Try.sizeOf44 _) rfl rfl rfl rfl rfl rfl ?_
    intro w15_ S
    refine rw_v (op_pure rfl) ?_
    first | refine rw_end ?_ | (refine rw_nil ?_; show CW _ _ _ _ _ _) | refine rw_nil ?_
    have S := S.drop 1
    have hpush := cellsZ_push gw (wayN f i j) (itr f (j + 1) i)
    rw [← wayN_succ] at hpush
    rw [show (cellsZ ((wayN f i j).map (cz gw)) ++ [Value.int .i64 (cz gw (itr f (j + 1) i)).1, Value.int .i64 (cz gw (itr f (j + 1) i)).2]) = cellsZ ((wayN f i (j + 1)).map (cz gw)) from hpush] at S
    exact ⟨m - 1, by omega, j + 1, A_o2, c_o2, by omega, ⟨rfl, rfl, rfl, rfl, trivial⟩, S⟩
  · obtain rfl : j = k := by omega
    have he : f (itr f j i) = itr f j i := hk.2
    have hd : (!decide (f (itr f j i) = itr f j i)) = false := by simp [he]
    rw [hd]
    repeat refine cw_seq ?_
    refine cw_region ?_
    refine rw_v (op_pure rfl) ?_
    first | refine rw_end ?_ | (refine rw_nil ?_; show CW _ _ _ _ _ _) | refine rw_nil ?_
    repeat refine cw_seq ?_
    refine cw_false rfl ?_
    repeat refine cw_seq ?_
    refine cw_exit ?_
    repeat first | refine exit_then ?_ | refine exit_inb ?_
    show CW _ _ _ _ _ _
    repeat refine cw_seq ?_
    refine cw_region ?_
    iterate 2 refine rw_v (op_pure rfl) ?_
    first | refine rw_end ?_ | (refine rw_nil ?_; show CW _ _ _ _ _ _) | refine rw_nil ?_
    repeat refine cw_seq ?_
    refine cw_ret ?_
    repeat first | refine ret_then ?_ | refine ret_inb ?_
    exact res1 rfl (S.retNew (i := 1) (mk := id) rfl)
end
end Go.Proofs.Ytbcgbcipigcbhaa
/- Maps from whole numbers to whole numbers that a call makes: a look-up, a store, a new one. -/
namespace Go.Proofs.Ytbcgbcipigcbhaa
open Go.RowKit
set_option linter.unusedVariables false
set_option linter.unusedSimpArgs false

def entOk (e : MapEntry) : Prop := ∃ x y : Int, e.key = .int .i64 x ∧ e.val = .int .i64 y
def keyME (e : MapEntry) : Int := match e.key with
  | .int _ x => x
  | _ => 0
def valME (e : MapEntry) : Int := match e.val with
  | .int _ x => x
  | _ => 0
theorem entOk.key {e : MapEntry} (h : entOk e) : e.key = .int .i64 (keyME e) := by obtain ⟨x, y, h1, h2⟩ := h; unfold keyME; rw [h1]
theorem entOk.val {e : MapEntry} (h : entOk e) : e.val = .int .i64 (valME e) := by obtain ⟨x, y, h1, h2⟩ := h; unfold valME; rw [h2]
def lookE : List MapEntry → Int → Option Int
  | [], _ => none
  | e :: r, k => if keyME e = k then some (valME e) else lookE r k
def updM (m : Int → Option Int) (k v : Int) : Int → Option Int := fun x => if x = k then some v else m x
theorem updM_at {m : Int → Option Int} {k v : Int} : updM m k v k = some v := if_pos rfl
theorem updM_ne {m : Int → Option Int} {k v x : Int} (h : x ≠ k) : updM m k v x = m x := if_neg h
theorem find_none {k : Int} : ∀ {l : List MapEntry} {i : Nat}, (∀ e ∈ l, entOk e) → lookE l k = none → Instr.findNow (.int .i64) (.int .i64 k) l i = some none
  | [], _, _, _ => rfl
  | e :: r, i, h, hl => by
    have he := h e (by simp)
    unfold lookE at hl
    split at hl
    · cases hl
    · rename_i hne
      have hs : Instr.sameNow (.int .i64) (.int .i64 k) e.key = some false := by rw [he.key]; simp [Instr.sameNow]; exact fun h => hne h.symm
      unfold Instr.findNow
      rw [hs]
      exact find_none (l := r) (fun e he => h e (List.mem_cons_of_mem _ he)) hl
theorem find_some {k y : Int} : ∀ {l : List MapEntry} {i : Nat}, (∀ e ∈ l, entOk e) → lookE l k = some y → ∃ j, Instr.findNow (.int .i64) (.int .i64 k) l i = some (some (i + j, .int .i64 y)) ∧ (l[j]?).map (·.key) = some (.int .i64 k) ∧
      ∀ v k' : Int, lookE (l.modify j fun e => { e with key := .int .i64 k, val := .int .i64 v }) k' = if k' = k then some v else lookE l k'
  | [], _, _, h => by cases h
  | e :: r, i, h, hl => by
    have he := h e (by simp)
    unfold lookE at hl
    split at hl
    · rename_i hk
      injection hl with hl
      have hs : Instr.sameNow (.int .i64) (.int .i64 k) e.key = some true := by rw [he.key]; simp [Instr.sameNow, hk]
      refine ⟨0, ?_, by simp [he.key, hk], fun v k' => ?_⟩
      · unfold Instr.findNow
        rw [hs]
        show some (some (i, e.val)) = _
        rw [he.val, hl, Nat.add_zero]
      · simp only [List.modify_zero_cons, lookE]
        have e1 : keyME { key := .int .i64 k, val := .int .i64 v, born := e.born } = k := rfl
        have e2 : valME { key := .int .i64 k, val := .int .i64 v, born := e.born } = v := rfl
        rw [e1, e2, hk]
        by_cases hkk : k' = k
        · rw [if_pos hkk.symm, if_pos hkk]
        · rw [if_neg (fun h => hkk h.symm), if_neg hkk, if_neg (fun h => hkk h.symm)]
    · rename_i hne
      have hs : Instr.sameNow (.int .i64) (.int .i64 k) e.key = some false := by rw [he.key]; simp [Instr.sameNow]; exact fun h => hne h.symm
      obtain ⟨j, h1, h2, h3⟩ := find_some (l := r) (i := i + 1) (fun e he => h e (List.mem_cons_of_mem _ he)) hl
      refine ⟨j + 1, ?_, by simpa using h2, fun v k' => ?_⟩
      · unfold Instr.findNow
        rw [hs]
        show Instr.findNow _ _ r (i + 1) = _
        rw [h1]
        congr 3
        omega
      · simp only [List.modify_succ_cons, lookE]
        by_cases hkk : keyME e = k'
        · rw [if_pos hkk, if_neg (fun e1 => hne (hkk.trans e1)), if_pos hkk]
        · rw [if_neg hkk, if_neg hkk]; exact h3 v k'
theorem lookE_push {k v : Int} {c : Nat} : ∀ {l : List MapEntry}, lookE l k = none → ∀ k', lookE (l ++ [⟨.int .i64 k, .int .i64 v, c⟩]) k' = if k' = k then some v else lookE l k'
  | [], _, k' => by
    show (if keyME ⟨.int .i64 k, .int .i64 v, c⟩ = k' then _ else _) = _
    have e1 : keyME ⟨.int .i64 k, .int .i64 v, c⟩ = k := rfl
    rw [e1]
    by_cases hkk : k' = k
    · rw [if_pos hkk.symm, if_pos hkk]; rfl
    · rw [if_neg (fun h => hkk h.symm), if_neg hkk]
  | e :: r, hl, k' => by
    unfold lookE at hl
    split at hl
    · cases hl
    · rename_i hne
      simp only [List.cons_append, lookE]
      by_cases hkk : keyME e = k'
      · rw [if_pos hkk, if_neg (fun e1 => hne (hkk.trans e1)), if_pos hkk]
      · rw [if_neg hkk, if_neg hkk]; exact lookE_push (l := r) hl k'
/-- block b is a map that tells m -/
def MpI (w : World) (b : Nat) (m : Int → Option Int) : Prop := ∃ es clock, w.heap[b]? = some (.map es clock) ∧ (∀ e ∈ es.toList, entOk e) ∧ ∀ k, lookE es.toList k = m k
section
variable {P : Program} {ops : Array Oper} {Q : (Nat → Value) → World → Prop} {e : Nat → Value} {w w' : World} {rest : List Oper} {d : Option Tmp} {ty : TypeId} {ps : String} {af : Array Edge} {b : Nat} {m : Int → Option Int}
theorem MpI.lt (h : MpI w b m) : b < w.heap.size := by
  obtain ⟨es, c, h, _⟩ := h
  rcases Nat.lt_or_ge b w.heap.size with hlt | hge
  · exact hlt
  · rw [Array.getElem?_eq_none hge] at h; cases h
theorem MpI.keep (h : MpI w b m) (hk : w'.heap[b]? = w.heap[b]?) : MpI w' b m := by
  obtain ⟨es, c, h, h2⟩ := h
  exact ⟨es, c, hk.trans h, h2⟩
theorem MpI.congr {m' : Int → Option Int} (h : MpI w b m) (hm : ∀ k, m k = m' k) : MpI w b m' := by
  obtain ⟨es, c, h, h2, h3⟩ := h
  exact ⟨es, c, h, h2, fun k => (h3 k).trans (hm k)⟩
def HA.map (b : Nat) (m : Int → Option Int) : HA := ⟨fun g => g = b, fun w => MpI w b m, fun _ _ h _ hB => hB.keep (h b rfl), fun _ hB g hg => hg ▸ hB.lt⟩
theorem run_getObj_E {r : Nat} {es : Array MapEntry} {c : Nat} (h : w.heap[r]? = some (.map es c)) : (getObj r).run P w = .ok (.map es c) w := by
  simp [getObj, Sem.run, h]
theorem run_setObj_map {r : Nat} {es : Array MapEntry} {c : Nat} (o : Obj) (h : w.heap[r]? = some (.map es c)) : (setObj r o).run P w = .ok () { w with heap := w.heap.setIfInBounds r o } := by
  simp [setObj, Sem.run, h]
theorem run_checkKey_int {kt : TypeId} (hk : P.underlying kt = some (.int .i64)) (em : Bool) (k : Int) : (Instr.checkKey em 10000 kt (.int .i64 k)).run P w = .ok () w := by
  unfold Instr.checkKey
  simp [run_underlying hk]
theorem run_look {t kt et : TypeId} (hu : P.underlying t = some (.map kt et)) (hk : P.underlying kt = some (.int .i64)) (hz : (zeroValue et).run P w = .ok (.int .i64 0) w) (h : MpI w b m) (k : Int) (ok : Bool) :
    (Instr.lookup t (.map (some b)) (.int .i64 k) ok).run P w = .ok (if ok then .tuple #[.int .i64 ((m k).getD 0), .bool (m k).isSome] else .int .i64 ((m k).getD 0)) w := by
  obtain ⟨es, c, hb, hent, hm⟩ := h
  cases hl : lookE es.toList k with
  | none =>
    have h1 := find_none (i := 0) hent hl
    have h2 : m k = none := (hm k).symm.trans hl
    cases ok <;> simp [Instr.lookup, run_underlying hu, run_getObj_E hb, run_checkKey_int hk, Instr.findKey, run_underlying hk, h1, hz, h2]
  | some y =>
    obtain ⟨j, h1, _⟩ := find_some (i := 0) hent hl
    have h2 : m k = some y := (hm k).symm.trans hl
    cases ok <;> simp [Instr.lookup, run_underlying hu, run_getObj_E hb, run_checkKey_int hk, Instr.findKey, run_underlying hk, h1, h2]
theorem run_upd {t kt et : TypeId} (hu : P.underlying t = some (.map kt et)) (hk : P.underlying kt = some (.int .i64)) (h : MpI w b m) (k v : Int) :
    ∃ w', (Instr.mapUpdate t (.map (some b)) (.int .i64 k) (.int .i64 v)).run P w = .ok () w' ∧ w.grownBy w' (some b) ∧ MpI w' b (updM m k v) := by
  obtain ⟨es, c, hb, hent, hm⟩ := h
  have hlt : b < w.heap.size := MpI.lt ⟨es, c, hb, hent, hm⟩
  have hgr : ∀ o : Obj, w.grownBy { w with heap := w.heap.setIfInBounds b o } (some b) := fun o =>
    ⟨rfl, rfl, rfl, by simp, fun i _ hi => by simp only [Array.getElem?_setIfInBounds]; rw [if_neg (fun e => hi (by rw [e]))]⟩
  have hat : ∀ o : Obj, ({ w with heap := w.heap.setIfInBounds b o } : World).heap[b]? = some o := fun o => by simp [hlt]
  cases hl : lookE es.toList k with
  | none =>
    have h1 := find_none (i := 0) hent hl
    refine ⟨_, ?_, hgr (.map (es.push ⟨.int .i64 k, .int .i64 v, c⟩) (c + 1)), _, _, hat _, fun e he => ?_, fun k' => ?_⟩
    · simp [Instr.mapUpdate, run_underlying hu, run_getObj_E hb, run_checkKey_int hk, Instr.findKey, run_underlying hk, h1, run_setObj_map _ hb]
    · simp only [Array.toList_push, List.mem_append, List.mem_singleton] at he
      rcases he with he | rfl
      · exact hent e he
      · exact ⟨k, v, rfl, rfl⟩
    · rw [Array.toList_push, lookE_push hl, hm k']; rfl
  | some y =>
    obtain ⟨j, h1, h2, h3⟩ := find_some (i := 0) hent hl
    rw [Nat.zero_add] at h1
    refine ⟨_, ?_, hgr (.map (es.modify j fun e => { e with key := .int .i64 k, val := .int .i64 v }) c), _, _, hat _, fun e he => ?_, fun k' => ?_⟩
    · have h4 : (es[j]?.map (·.key)).getD (.int .i64 k) = .int .i64 k := by
        have : es.toList[j]? = es[j]? := by simp
        rw [this] at h2
        rw [h2]; rfl
      have h5 : Instr.sameBits 10000 (.int .i64 k) (.int .i64 k) = true := by unfold Instr.sameBits; simp
      have h6 : (Instr.keyThatStays (.int .i64 k) (.int .i64 k)).run P w = .ok (.int .i64 k) w := by unfold Instr.keyThatStays; simp [h5]
      simp only [Instr.mapUpdate, Sem.run_bind, run_underlying hu, Result.andThen_ok, run_getObj_E hb, run_checkKey_int hk, Instr.findKey, run_underlying hk, h1, Sem.run_pure, h4, h6, run_setObj_map _ hb]
    · simp only [Array.toList_modify] at he
      obtain ⟨i, hi, rfl⟩ := List.mem_iff_getElem.1 he
      rw [List.getElem_modify]
      split
      · exact ⟨k, v, rfl, rfl⟩
      · exact hent _ (List.getElem_mem _)
    · rw [Array.toList_modify, h3 v k', hm k']; rfl
theorem op_look {t kt et : TypeId} {x i : Operand} {k : Int} (hu : P.underlying t = some (.map kt et)) (hk : P.underlying kt = some (.int .i64)) (hz : (zeroValue et).run P w = .ok (.int .i64 0) w) (hx : ev e x = .map (some b)) (hi : ev e i = .int .i64 k) (h : MpI w b m) :
    OpR P e ⟨d, .lookup t x i false, ty, ps, af, none⟩ w (.int .i64 ((m k).getD 0)) := by
  have := run_look (P := P) hu hk hz h k false
  simp [OpR, execOp, hx, hi, this]
theorem op_lookOk {t kt et : TypeId} {x i : Operand} {k : Int} (hu : P.underlying t = some (.map kt et)) (hk : P.underlying kt = some (.int .i64)) (hz : (zeroValue et).run P w = .ok (.int .i64 0) w) (hx : ev e x = .map (some b)) (hi : ev e i = .int .i64 k) (h : MpI w b m) :
    OpR P e ⟨d, .lookup t x i true, ty, ps, af, none⟩ w (.tuple #[.int .i64 ((m k).getD 0), .bool (m k).isSome]) := by
  have := run_look (P := P) hu hk hz h k true
  simp [OpR, execOp, hx, hi, this]
variable {F : Nat → Prop} {W : World} {L L' : List HA}
theorem St.map (S : St F W w L) {i : Nat} (hi : getO L i = some (.map b m)) : MpI w b m := S.ok hi
theorem rw_mapUpd {i : Nat} {t kt et : TypeId} {x y z : Operand} {k v : Int} (S : St F W w L) (hi : getO L i = some (.map b m)) (hu : P.underlying t = some (.map kt et)) (hk : P.underlying kt = some (.int .i64)) (hx : ev e x = .map (some b)) (hy : ev e y = .int .i64 k) (hv : ev e z = .int .i64 v)
    (hs : setO L i (.map b (updM m k v)) = some L') (hr : ∀ w', St F W w' L' → RW P ops Q rest (updO e d undef) w') : RW P ops Q (⟨d, .mapUpdate t x y z, ty, ps, af, none⟩ :: rest) e w := by
  obtain ⟨w', hrun, hg, hM⟩ := run_upd (P := P) hu hk (S.map hi) k v
  refine rw_s (w' := w') ?_ (hr w' ?_)
  · simp [execOp, hx, hy, hv, hrun]
  · exact S.set hi hs (Fr.of_grown (F := fun b' => b' = b) hg (fun b e => by injection e with e; exact e.symm)) (fun b e => .inl e) hM (fun b e => .inl e)
theorem rw_makeMap {t : TypeId} (S : St F W w L) (hr : ∀ b w', Gr w w' → St F W w' (.map b (fun _ => none) :: L) → RW P ops Q rest (updO e d (.map (some b))) w') : RW P ops Q (⟨d, .makeMap t none, ty, ps, af, none⟩ :: rest) e w := by
  refine rw_w (v := .map (some w.heap.size)) (w' := w.alloc (.map #[] 0)) ?_ (hr _ _ (Gr.alloc w _) ?_)
  · have := @run_makeMap P t w
    simp [execOp, this]
  · exact S.push (Gr.alloc w _) (h := .map w.heap.size fun _ => none) ⟨#[], 0, heap_alloc_new w _, (fun e he => by simp at he), fun k => rfl⟩ (fun g hg => by rw [hg]; exact Nat.le_refl _)
end
end Go.Proofs.Ytbcgbcipigcbhaa
/- sink.rising, Basins and the document's: contracts. -/
namespace Go.Proofs.Ytbcgbcipigcbhaa
open Go.RowKit
set_option linter.unusedVariables false
set_option linter.unusedSimpArgs false
set_option maxRecDepth 100000

/-! ### Who comes up first -/
def firsts (s : Nat → Nat) : Nat → List Nat
  | 0 => []
  | m + 1 => if s m ∈ firsts s m then firsts s m else firsts s m ++ [s m]
section
variable {s : Nat → Nat} {n m i k : Nat}
theorem firsts_succ : firsts s (n + 1) = if s n ∈ firsts s n then firsts s n else firsts s n ++ [s n] := rfl
theorem firsts_le (h : m ≤ n) : ∃ r, firsts s n = firsts s m ++ r := by
  induction n with
  | zero => obtain rfl : m = 0 := by omega
            exact ⟨[], by simp⟩
  | succ n ih =>
    by_cases e : m = n + 1
    · subst e; exact ⟨[], by simp⟩
    · obtain ⟨r, hr⟩ := ih (by omega)
      rw [firsts_succ]
      split
      · exact ⟨r, hr⟩
      · exact ⟨r ++ [s n], by rw [hr, List.append_assoc]⟩
theorem firsts_mem (h : i < n) : s i ∈ firsts s n := by
  have h1 : s i ∈ firsts s (i + 1) := by
    rw [firsts_succ]
    split
    · assumption
    · simp
  obtain ⟨r, hr⟩ := firsts_le (s := s) (show i + 1 ≤ n from h)
  rw [hr]; exact List.mem_append_left _ h1
theorem firsts_of (h : k ∈ firsts s n) : ∃ i, i < n ∧ s i = k := by
  induction n with
  | zero => cases h
  | succ n ih =>
    rw [firsts_succ] at h
    split at h
    · obtain ⟨i, hi, e⟩ := ih h; exact ⟨i, by omega, e⟩
    · rcases List.mem_append.1 h with h | h
      · obtain ⟨i, hi, e⟩ := ih h; exact ⟨i, by omega, e⟩
      · simp only [List.mem_singleton] at h; exact ⟨n, by omega, h.symm⟩
theorem firsts_len : (firsts s n).length ≤ n := by
  induction n with
  | zero => exact Nat.le_refl _
  | succ n ih =>
    rw [firsts_succ]
    split
    · omega
    · rw [List.length_append, List.length_singleton]; omega
theorem firsts_nodup : (firsts s n).Nodup := by
  induction n with
  | zero => exact List.nodup_nil
  | succ n ih =>
    rw [firsts_succ]
    split
    · exact ih
    · rename_i h
      rw [List.nodup_append]
      exact ⟨ih, by simp, fun a ha b hb => by simp only [List.mem_singleton] at hb; subst hb; intro e; exact h (e ▸ ha)⟩
/-- a place's label -/
def labS (s : Nat → Nat) (n i : Nat) : Nat := (firsts s n).idxOf (s i) + 1
theorem labS_at (h : m < n) : labS s n m = (firsts s (m + 1)).idxOf (s m) + 1 := by
  obtain ⟨r, hr⟩ := firsts_le (s := s) (show m + 1 ≤ n from h)
  unfold labS
  rw [hr, List.idxOf_append, if_pos (firsts_mem (Nat.lt_succ_self m))]
theorem labS_old (h : m < n) (hm : s m ∈ firsts s m) : labS s n m = (firsts s m).idxOf (s m) + 1 ∧ firsts s (m + 1) = firsts s m := by
  have e : firsts s (m + 1) = firsts s m := if_pos hm
  exact ⟨by rw [labS_at h, e], e⟩
theorem labS_new (h : m < n) (hm : s m ∉ firsts s m) : labS s n m = (firsts s m).length + 1 ∧ firsts s (m + 1) = firsts s m ++ [s m] := by
  have e : firsts s (m + 1) = firsts s m ++ [s m] := if_neg hm
  refine ⟨?_, e⟩
  rw [labS_at h, e, List.idxOf_append, if_neg hm]
  simp
theorem labS_le (h : m < n) : labS s n m ≤ n := by
  have h1 := List.idxOf_lt_length_of_mem (firsts_mem (s := s) h)
  have := firsts_len (s := s) (n := n)
  unfold labS
  omega
end
/-- the numbers of those that came up, as a map -/
def numM (l : List Nat) (k : Int) : Option Int := if 0 ≤ k ∧ k.toNat ∈ l then some ((l.idxOf k.toNat + 1 : Nat) : Int) else none
theorem numM_in {l : List Nat} {j : Nat} (h : j ∈ l) : numM l j = some ((l.idxOf j + 1 : Nat) : Int) := by
  unfold numM
  rw [if_pos ⟨by omega, by simpa using h⟩, Int.toNat_natCast]
theorem numM_out {l : List Nat} {j : Nat} (h : j ∉ l) : numM l j = none := by
  unfold numM
  exact if_neg (fun e => h (by simpa using e.2))
theorem numM_push {l : List Nat} {j : Nat} (h : j ∉ l) : updM (numM l) (j : Nat) ((l.length + 1 : Nat) : Int) = numM (l ++ [j]) := by
  funext k
  by_cases e : k = (j : Nat)
  · subst e
    rw [updM_at, numM_in (by simp), List.idxOf_append, if_neg h]
    simp
  · rw [updM_ne e]
    unfold numM
    by_cases h1 : 0 ≤ k ∧ k.toNat ∈ l
    · rw [if_pos h1, if_pos ⟨h1.1, List.mem_append_left _ h1.2⟩, List.idxOf_append, if_pos h1.2]
    · rw [if_neg h1, if_neg]
      rintro ⟨h2, h3⟩
      rcases List.mem_append.1 h3 with h4 | h4
      · exact h1 ⟨h2, h4⟩
      · simp only [List.mem_singleton] at h4; omega
/-- labels and sinks -/
def RetBas (gw n : Nat) (s : Nat → Nat) (mk : Value → Value → Value) (W : World) (v : Value) (w' : World) : Prop :=
  ∃ A1 c1 A2 c2, v = mk (.slice A1 n c1) (.slice A2 (firsts s n).length c2) ∧ Row w' 2 1 A1 n c1 (cellsN n (labS s n)) ∧ FreshA W A1 ∧ Row w' 44 2 A2 (firsts s n).length c2 (cellsZ ((firsts s n).map (cz gw))) ∧ FreshA W A2 ∧ (∀ g, ownA A1 g → ¬ ownA A2 g) ∧ Gr W w'
section
variable {W : World} {A B : Option Addr} {p gw gh cap c n2 c2 C : Nat} {cc : Nat → Int} {bs : Nat → Nat} {Rs : Nat → Option Nat} {V : List Int}
theorem riseC_E (a b : Nat) (ha : a < V.length) (hb : b < V.length) (hC : Blk W C 136 [.int .i64 gw, .slice A V.length c, .slice B n2 c2]) (hA : Rd W A (ints V)) :
    Fn Try.prog 132 ([] ++ [.int .i64 a, .int .i64 b] ++ [.pointer (some ⟨C, 0, none⟩)]) W (RetG (.int .i64 (cmpI (V.getD a 0) (V.getD b 0))) W) := by
  have sa_A : SomeA A := hA.someA (by rw [ints_len]; omega)
  have hget : ∀ i, i < V.length → (ints V)[(i : Int).toNat * 1]? = some (.int .i64 (V.getD i 0)) := fun i hi => by rw [Nat.mul_one, Int.toNat_natCast]; exact ints_get (getD_at hi)
  have S := St.start W
  refine Fn_enter Try.func132 rfl Try.results132 Try.ntmps132 (by kernel_rfl) (by kernel_rfl) ?_
  repeat refine cw_seq ?_
  refine cw_region ?_
  refine rw_v (op_pure rfl) ?_
  first | refine rw_end ?_ | (refine rw_nil ?_; show CW _ _ _ _ _ _) | refine rw_nil ?_
  repeat refine cw_seq ?_
  refine cw_draw (C := fun wq => Gr W wq) [0, 1, 2, 3, 4, 5, 6, 7, 8, 9, 10, 11] [] (by kernel_rfl) (by kernel_rfl) (Gr.drew _) ?_
  simp only [pickL, List.drop_succ_cons, List.drop_zero]
  refine rq_v (op_fieldAddr Try.underlying136 rfl Try.sizeOf22 rfl rfl) ?_
  refine rq_r (fun wq hq => op_loadB Try.underlying22 rfl rfl (hC.gr (S.gr hq).out) rfl) ?_
  refine rq_v (op_pure rfl) ?_
  refine rq_v (op_idx Try.underlying22 Try.sizeOf2 rfl rfl sa_A (by omega) (by omega)) ?_
  refine rq_r (fun wq hq => op_ldR Try.underlying2 rfl rfl (hA.gr (S.gr hq).out) (hget a ha)) ?_
  refine rq_v (op_fieldAddr Try.underlying136 rfl Try.sizeOf22 rfl rfl) ?_
  refine rq_r (fun wq hq => op_loadB Try.underlying22 rfl rfl (hC.gr (S.gr hq).out) rfl) ?_
  refine rq_v (op_pure rfl) ?_
  refine rq_v (op_idx Try.underlying22 Try.sizeOf2 rfl rfl sa_A (by omega) (by omega)) ?_
  refine rq_r (fun wq hq => op_ldR Try.underlying2 rfl rfl (hA.gr (S.gr hq).out) (hget b hb)) ?_
  refine rq_call rfl (fun wq hq => (compare_E _ _).mono (fun _ _ ⟨hv, hg⟩ => ⟨hv, hq.trans hg⟩)) ?_
  refine rq_v (op_pure rfl) ?_
  refine rq_nil ?_
  intro w1_ g1_
  have S := S.gr g1_
  first | refine rw_end ?_ | (refine rw_nil ?_; show CW _ _ _ _ _ _) | refine rw_nil ?_
  repeat refine cw_seq ?_
  refine cw_ret ?_
  repeat first | refine ret_then ?_ | refine ret_inb ?_
  exact res1 rfl ⟨rfl, S.out⟩
theorem rising_E (hV : V.length ≤ 1048576) (hA : Rd W A (ints V)) : Fn Try.prog 81 [.agg #[.int .i64 gw, .slice A V.length c, .slice B n2 c2]] W
    (fun v w' => ∃ o, Ord V.length o ∧ (∀ x y, x ≤ y → y < V.length → V.getD (o x) 0 ≤ V.getD (o y) 0) ∧ RetNew id 3 1 V.length (cellsN V.length o) W v w') := by
  have S := St.start W
  refine Fn_enter Try.func81 rfl Try.results81 Try.ntmps81 (by kernel_rfl) (by kernel_rfl) ?_
  repeat refine cw_seq ?_
  refine cw_region ?_
  refine rw_newB (op_box rfl) S ?_
  intro b_l w2_ g2_ S
  refine rw_v (op_pure rfl) ?_
  first | refine rw_end ?_ | (refine rw_nil ?_; show CW _ _ _ _ _ _) | refine rw_nil ?_
  repeat refine cw_seq ?_
  refine cw_region ?_
  refine rw_v (op_fieldAddr Try.underlying136 rfl Try.sizeOf22 rfl rfl) ?_
  refine rw_r (op_loadB Try.underlying22 rfl rfl (S.blk (i := 0) rfl) rfl) ?_
  refine rw_v (op_len Try.underlying22 rfl) ?_
  refine rw_makeS1 Try.underlying122 info_t3 rfl rfl rfl (n := V.length) (c := V.length) (by omega) (by omega) (by omega) (by omega) S ?_
  intro A_out w4_ g4_ S sa_out
  refine rw_v (op_pure rfl) ?_
  first | refine rw_end ?_ | (refine rw_nil ?_; show CW _ _ _ _ _ _) | refine rw_nil ?_
  repeat refine cw_seq ?_
  refine cw_region ?_
  refine rw_v (op_pure rfl) ?_
  refine rw_v (op_len Try.underlying122 rfl) ?_
  refine rw_v (op_pure rfl) ?_
  first | refine rw_end ?_ | (refine rw_nil ?_; show CW _ _ _ _ _ _) | refine rw_nil ?_
  repeat refine cw_seq ?_
  refine cw_block ?_
  repeat refine cw_seq ?_
  have hz : List.replicate V.length (Value.int .i64 0) = cellsN V.length (fun j => if j < 0 then j else 0) := by
    unfold cellsN
    simp only [Nat.not_lt_zero, if_false]
    rw [List.map_const', List.length_range]
    rfl
  rw [hz] at S
  refine cw_loop (fun m e w => ∃ k : Nat, k + m = V.length ∧ SL e [(1, .pointer (some ⟨b_l, 0, none⟩)), (3, .slice A_out V.length V.length), (10, .int .i64 V.length), (11, .int .i64 k)] ∧
    St No W w [.row 3 1 A_out V.length V.length (cellsN V.length (fun j => if j < k then j else 0)), .blk b_l 136 [.int .i64 gw, .slice A V.length c, .slice B n2 c2]]) V.length
    ⟨0, by omega, ⟨rfl, rfl, rfl, rfl, trivial⟩, S⟩ ?_
  clear S hz
  rintro m e w ⟨k, hk, hsl, S⟩
  rw [hsl.fold]
  repeat refine cw_seq ?_
  refine cw_region ?_
  refine rw_v (op_pure rfl) ?_
  first | refine rw_end ?_ | (refine rw_nil ?_; show CW _ _ _ _ _ _) | refine rw_nil ?_
  repeat refine cw_seq ?_
  refine cw_cond rfl (fun hc => ?_) (fun hc => ?_)
  · try simp only [decide_eq_true_eq, decide_eq_false_iff_not, beq_iff_eq, bne_iff_ne, beq_eq_false_iff_ne, bne_eq_false_iff_eq, Bool.not_eq_true', Bool.not_eq_false', ne_eq, Decidable.not_not, Int.natCast_inj, Int.ofNat_lt, Int.ofNat_le, gt_iff_lt, ge_iff_le, Int.not_lt, Int.not_le] at hc
    have hkn : k < V.length := by omega
    have sa_out : SomeA A_out := (S.row (i := 0) rfl).someA (by omega)
    repeat refine cw_seq ?_
    refine cw_skip ?_
    try show CW _ _ _ _ _ _
    repeat refine cw_seq ?_
    refine cw_block ?_
    repeat refine cw_seq ?_
    refine cw_region ?_
    iterate 2 refine rw_v (op_pure rfl) ?_
    first | refine rw_end ?_ | (refine rw_nil ?_; show CW _ _ _ _ _ _) | refine rw_nil ?_
    repeat refine cw_seq ?_
    refine cw_region ?_
    iterate 3 refine rw_v (op_pure rfl) ?_
    refine rw_v (op_idx Try.underlying122 Try.sizeOf3 rfl rfl sa_out (by omega) (by omega)) ?_
    refine rw_storeR (i := 0) S rfl (Try.sizeOf3 _) rfl rfl rfl rfl (by rw [cellsN_len]; omega) rfl ?_
    intro w5_ S
    first | refine rw_end ?_ | (refine rw_nil ?_; show CW _ _ _ _ _ _) | refine rw_nil ?_
    repeat refine cw_seq ?_
    refine cw_region ?_
    refine rw_v (op_rng rfl (by omega)) ?_
    refine rw_v (op_pure rfl) ?_
    first | refine rw_end ?_ | (refine rw_nil ?_; show CW _ _ _ _ _ _) | refine rw_nil ?_
    rw [Nat.mul_one, Int.toNat_natCast, cellsN_set, cellsN_congr (f' := fun j => if j < k + 1 then j else 0) (fun j hj => by
      unfold updF
      (try dsimp only)
      by_cases e1 : j = k
      · rw [if_pos e1, if_pos (by omega), e1]
      · by_cases e2 : j < k
        · rw [if_neg e1, if_pos e2, if_pos (by omega)]
        · rw [if_neg e1, if_neg e2, if_neg (by omega)])] at S
    exact ⟨m - 1, by omega, k + 1, by omega, ⟨rfl, rfl, rfl, ie (by omega), trivial⟩, S⟩
  · try simp only [decide_eq_true_eq, decide_eq_false_iff_not, beq_iff_eq, bne_iff_ne, beq_eq_false_iff_ne, bne_eq_false_iff_eq, Bool.not_eq_true', Bool.not_eq_false', ne_eq, Decidable.not_not, Int.natCast_inj, Int.ofNat_lt, Int.ofNat_le, gt_iff_lt, ge_iff_le, Int.not_lt, Int.not_le] at hc
    obtain rfl : k = V.length := by omega
    rw [cellsN_congr (f' := fun j => j) (fun j hj => by (try dsimp only); rw [if_pos hj]), ← rowE_I] at S
    have hcmp : Cmp (ownA A_out) w V.length 132 [.pointer (some ⟨b_l, 0, none⟩)] valI (fun a b => cmpI (V.getD a 0) (V.getD b 0)) := fun w' hfr x y hx hy => by
      have S' := S.hole (i := 0) rfl rfl hfr
      exact riseC_E x y hx hy (S'.blk (i := 1) rfl) (hA.gr S'.out)
    repeat refine cw_seq ?_
    refine cw_exit ?_
    repeat first | refine exit_then ?_ | refine exit_inb ?_
    show CW _ _ _ _ _ _
    repeat refine cw_seq ?_
    refine cw_region ?_
    iterate 2 refine rw_v (op_pure rfl) ?_
    refine rw_call rfl (sortStable_I (fid := 132) (caps := [.pointer (some ⟨b_l, 0, none⟩)]) hV (wk_up fun i => V.getD i 0) XA.self hcmp (S.row (i := 0) rfl)) ?_
    rintro _ w6_ ⟨rfl, o, hP, hO, hR, hF⟩
    have S := S.set (i := 0) (h' := .row 3 1 A_out V.length V.length (rowE encI V.length o)) rfl rfl hF (fun g h => .inl h) hR (fun g h => .inl h)
    first | refine rw_end ?_ | (refine rw_nil ?_; show CW _ _ _ _ _ _) | refine rw_nil ?_
    repeat refine cw_seq ?_
    refine cw_region ?_
    iterate 2 refine rw_v (op_pure rfl) ?_
    first | refine rw_end ?_ | (refine rw_nil ?_; show CW _ _ _ _ _ _) | refine rw_nil ?_
    repeat refine cw_seq ?_
    refine cw_ret ?_
    repeat first | refine ret_then ?_ | refine ret_inb ?_
    rw [rowE_I] at S
    exact res1 rfl ⟨o, hP.ord, fun x y hxy hy => so_up (g := fun i => V.getD i 0) hO hxy hy, S.retNew (i := 0) (mk := id) rfl⟩
end
end Go.Proofs.Ytbcgbcipigcbhaa
/- sink.Basins and the document's: contracts; the chapter's example. -/
namespace Go.Proofs.Ytbcgbcipigcbhaa
open Go.RowKit
set_option linter.unusedVariables false
set_option linter.unusedSimpArgs false
set_option maxRecDepth 100000

section
variable {W : World} {A B : Option Addr} {p gw gh cap c : Nat} {cc : Nat → Int} {bs : Nat → Nat} {Rs : Nat → Option Nat} {V : List Int}
theorem sbasNil_E : Fn Try.prog 28 [.pointer none] W (RetG (.tuple #[.slice none 0 0, .slice none 0 0, .int .i64 1]) W) := by
  have S := St.start W
  refine Fn_enter Try.func28 rfl Try.results28 Try.ntmps28 (by kernel_rfl) (by kernel_rfl) ?_
  repeat refine cw_seq ?_
  refine cw_region ?_
  iterate 3 refine rw_v (op_pure rfl) ?_
  first | refine rw_end ?_ | (refine rw_nil ?_; show CW _ _ _ _ _ _) | refine rw_nil ?_
  repeat refine cw_seq ?_
  refine cw_region ?_
  refine rw_v (op_pure rfl) ?_
  refine rw_call rfl (sofNil_E) ?_
  rintro _ w1_ ⟨rfl, g1_⟩
  have S := S.gr g1_
  iterate 3 refine rw_v (op_pure rfl) ?_
  refine rw_newB (op_alloc Try.zeroValue136 rfl) S ?_
  intro b_l w3_ g3_ S
  refine rw_storeSA (i := 0) S rfl (Try.sizeOf136 _) rfl rfl rfl rfl rfl rfl ?_
  intro w4_ S
  refine rw_v (op_pure rfl) ?_
  first | refine rw_end ?_ | (refine rw_nil ?_; show CW _ _ _ _ _ _) | refine rw_nil ?_
  repeat refine cw_seq ?_
  refine cw_region ?_
  refine rw_v (op_pure rfl) ?_
  refine rw_v (op_b (b := true) rfl (bne_iff_ne.2 (by omega))) ?_
  first | refine rw_end ?_ | (refine rw_nil ?_; show CW _ _ _ _ _ _) | refine rw_nil ?_
  repeat refine cw_seq ?_
  refine cw_true rfl ?_
  repeat refine cw_seq ?_
  refine cw_region ?_
  iterate 4 refine rw_v (op_pure rfl) ?_
  first | refine rw_end ?_ | (refine rw_nil ?_; show CW _ _ _ _ _ _) | refine rw_nil ?_
  repeat refine cw_seq ?_
  refine cw_ret ?_
  repeat first | refine ret_then ?_ | refine ret_inb ?_
  exact res3 rfl rfl rfl ⟨rfl, S.out⟩
set_option maxHeartbeats 4000000 in
theorem sbas_E (hG : GridAt W p gw gh cc A cap bs Rs) : Fn Try.prog 28 [.pointer (some ⟨p, 0, none⟩)] W
    (RetBas gw (gw * gh) (sinkN (flowN gw (gridL gw gh cc)) (gw * gh)) (fun a b => .tuple #[a, b, .int .i64 0]) W) := by
  have hw := hG.sw
  have hh := hG.sh
  have hV := gridL_len gw gh cc
  have hgm : gw * gh ≤ 1024 * 1024 := Nat.mul_le_mul hw.2 hh.2
  have hF := flow_fall hw.1 hV
  have hof := fun w (g : Gr W w) => sof_E (hG.gr g)
  generalize gridL gw gh cc = V at *
  have hrise := fun (A : Option Addr) (c : Nat) (B : Option Addr) (c2 : Nat) (w : World) (hA : Rd w A (ints V)) => rising_E (W := w) (A := A) (B := B) (gw := gw) (c := c) (n2 := gw * gh) (c2 := c2) (V := V) (by omega) hA
  rw [hV] at hrise
  have S := St.start W
  refine Fn_enter Try.func28 rfl Try.results28 Try.ntmps28 (by kernel_rfl) (by kernel_rfl) ?_
  repeat refine cw_seq ?_
  refine cw_region ?_
  iterate 3 refine rw_v (op_pure rfl) ?_
  first | refine rw_end ?_ | (refine rw_nil ?_; show CW _ _ _ _ _ _) | refine rw_nil ?_
  repeat refine cw_seq ?_
  refine cw_region ?_
  refine rw_v (op_pure rfl) ?_
  refine rw_call rfl (hof W S.out) ?_
  rintro _ w1_ ⟨A_v, c_v, A_to, c_to, rfl, hv, hFv, hto, hFt, hd, g1_⟩
  have S := S.push2 g1_ (h1 := .row 2 1 A_v _ c_v _) (h2 := .row 3 1 A_to _ c_to _) hv hto hFv hFt hd
  iterate 3 refine rw_v (op_pure rfl) ?_
  refine rw_newB (op_alloc Try.zeroValue136 rfl) S ?_
  intro b_l w3_ g3_ S
  refine rw_storeSA (i := 0) S rfl (Try.sizeOf136 _) rfl rfl rfl rfl rfl rfl ?_
  intro w4_ S
  refine rw_v (op_pure rfl) ?_
  first | refine rw_end ?_ | (refine rw_nil ?_; show CW _ _ _ _ _ _) | refine rw_nil ?_
  repeat refine cw_seq ?_
  refine cw_region ?_
  refine rw_v (op_pure rfl) ?_
  refine rw_v (op_b (b := false) rfl (bne_eq_false_iff_eq.2 (by omega))) ?_
  first | refine rw_end ?_ | (refine rw_nil ?_; show CW _ _ _ _ _ _) | refine rw_nil ?_
  repeat refine cw_seq ?_
  refine cw_false rfl ?_
  repeat refine cw_seq ?_
  refine cw_skip ?_
  try show CW _ _ _ _ _ _
  repeat refine cw_seq ?_
  refine cw_region ?_
  refine rw_v (op_fieldAddr Try.underlying136 rfl Try.sizeOf22 rfl rfl) ?_
  refine rw_r (op_loadB Try.underlying22 rfl rfl (S.blk (i := 0) rfl) rfl) ?_
  refine rw_v (op_len Try.underlying22 rfl) ?_
  refine rw_makeS1 Try.underlying122 info_t3 rfl rfl rfl (n := gw * gh) (c := gw * gh) (by omega) (by omega) (by omega) (by omega) S ?_
  intro A_sk w6_ g6_ S sa_sk
  refine rw_v (op_pure rfl) ?_
  first | refine rw_end ?_ | (refine rw_nil ?_; show CW _ _ _ _ _ _) | refine rw_nil ?_
  repeat refine cw_seq ?_
  refine cw_region ?_
  refine rw_r (op_loadAB Try.underlying136 rfl (Try.sizeOf136 _) rfl (S.blk (i := 1) rfl) rfl rfl) ?_
  refine rw_call rfl (hrise A_v c_v A_to c_to w6_ (S.rd (i := 2) rfl)) ?_
  rintro _ w7_ ⟨o, hord, hup, A_od, c_od, rfl, hRo, hFo, g7_⟩
  have S := S.pushRow hRo hFo g7_
  refine rw_v (op_len Try.underlying122 rfl) ?_
  refine rw_v (op_pure rfl) ?_
  first | refine rw_end ?_ | (refine rw_nil ?_; show CW _ _ _ _ _ _) | refine rw_nil ?_
  repeat refine cw_seq ?_
  refine cw_block ?_
  repeat refine cw_seq ?_
  have hz : List.replicate (gw * gh) (Value.int .i64 0) = cellsN (gw * gh) (fun _ => 0) := by
    unfold cellsN
    rw [List.map_const', List.length_range]
    rfl
  rw [hz] at S
  generalize hff : flowN gw V = f at *
  have hget : ∀ i, i < gw * gh → (cellsN (gw * gh) f)[((i : Nat) : Int).toNat * 1]? = some (.int .i64 (f i : Nat)) := fun i hi => by rw [Nat.mul_one, Int.toNat_natCast]; exact cellsN_get hi
  refine cw_loop (fun m e w => ∃ (k : Nat) (s : Nat → Nat), k + m = gw * gh ∧ (∀ x, x < k → s (o x) = sinkN f (gw * gh) (o x)) ∧ SL e [(5, .pointer (some ⟨b_l, 0, none⟩)), (7, .slice A_sk (gw * gh) (gw * gh)), (28, .slice A_od (gw * gh) c_od), (29, .int .i64 (gw * gh : Nat)), (30, .int .i64 k)] ∧
    St No W w [.row 3 1 A_od (gw * gh) c_od (cellsN (gw * gh) o), .row 3 1 A_sk (gw * gh) (gw * gh) (cellsN (gw * gh) s), .blk b_l 136 [.int .i64 gw, .slice A_v (gw * gh) c_v, .slice A_to (gw * gh) c_to], .row 2 1 A_v (gw * gh) c_v (ints V), .row 3 1 A_to (gw * gh) c_to (cellsN (gw * gh) f)]) (gw * gh)
    ⟨0, fun _ => 0, by omega, fun x hx => by omega, ⟨rfl, rfl, rfl, rfl, rfl, trivial⟩, S⟩ ?_
  clear S
  rintro m e w ⟨k, s, hkm, hs, hsl, S⟩
  rw [hsl.fold]
  by_cases hk : k < gw * gh
  · have sa_od : SomeA A_od := (S.row (i := 0) rfl).someA (by omega)
    have sa_sk : SomeA A_sk := (S.row (i := 1) rfl).someA (by omega)
    have sa_to : SomeA A_to := (S.row (i := 4) rfl).someA (by omega)
    have hgo : (cellsN (gw * gh) o)[((k : Nat) : Int).toNat * 1]? = some (.int .i64 (o k : Nat)) := by rw [Nat.mul_one, Int.toNat_natCast]; exact cellsN_get hk
    have hik := hord.lt k hk
    have hold : ∀ x, x < k → o x ≠ o k → o x ≠ o k := fun _ _ h => h
    by_cases hfi : f (o k) = o k
    · have hgi := hget _ hik
      rw [hfi] at hgi
      repeat refine cw_seq ?_
      refine cw_region ?_
      refine rw_v (op_b (b := true) rfl (decide_eq_true (by omega))) ?_
      first | refine rw_end ?_ | (refine rw_nil ?_; show CW _ _ _ _ _ _) | refine rw_nil ?_
      repeat refine cw_seq ?_
      refine cw_true rfl ?_
      repeat refine cw_seq ?_
      refine cw_skip ?_
      try show CW _ _ _ _ _ _
      repeat refine cw_seq ?_
      refine cw_block ?_
      repeat refine cw_seq ?_
      refine cw_region ?_
      refine rw_v (op_idx Try.underlying122 Try.sizeOf3 rfl rfl sa_od (by omega) (by omega)) ?_
      refine rw_r (op_ldR Try.underlying3 rfl rfl (S.rd (i := 0) rfl) hgo) ?_
      refine rw_v (op_pure rfl) ?_
      first | refine rw_end ?_ | (refine rw_nil ?_; show CW _ _ _ _ _ _) | refine rw_nil ?_
      repeat refine cw_seq ?_
      refine cw_region ?_
      iterate 3 refine rw_v (op_pure rfl) ?_
      refine rw_v (op_idx Try.underlying122 Try.sizeOf3 rfl rfl sa_sk (by omega) (by omega)) ?_
      refine rw_storeR (i := 1) S rfl (Try.sizeOf3 _) rfl rfl rfl rfl (by rw [cellsN_len]; omega) rfl ?_
      intro w8_ S
      first | refine rw_end ?_ | (refine rw_nil ?_; show CW _ _ _ _ _ _) | refine rw_nil ?_
      repeat refine cw_seq ?_
      refine cw_region ?_
      refine rw_v (op_fieldAddr Try.underlying136 rfl Try.sizeOf122 rfl rfl) ?_
      refine rw_r (op_loadB Try.underlying122 rfl rfl (S.blk (i := 2) rfl) rfl) ?_
      refine rw_v (op_pure rfl) ?_
      refine rw_v (op_idx Try.underlying122 Try.sizeOf3 rfl rfl sa_to (by omega) (by omega)) ?_
      refine rw_r (op_ldR Try.underlying3 rfl rfl (S.rd (i := 4) rfl) hgi) ?_
      refine rw_v (op_pure rfl) ?_
      refine rw_v (op_b (b := false) rfl (bne_eq_false_iff_eq.2 (by omega))) ?_
      first | refine rw_end ?_ | (refine rw_nil ?_; show CW _ _ _ _ _ _) | refine rw_nil ?_
      repeat refine cw_seq ?_
      refine cw_false rfl ?_
      repeat refine cw_seq ?_
      refine cw_skip ?_
      try show CW _ _ _ _ _ _
      repeat refine cw_seq ?_
      refine cw_region ?_
      refine rw_v (op_rng rfl (by omega)) ?_
      refine rw_v (op_pure rfl) ?_
      first | refine rw_end ?_ | (refine rw_nil ?_; show CW _ _ _ _ _ _) | refine rw_nil ?_
      rw [Nat.mul_one, Int.toNat_natCast, cellsN_set] at S
      refine ⟨m - 1, by omega, k + 1, updF s (o k) (o k), by omega, fun x hx => ?_, ⟨rfl, rfl, rfl, rfl, ie (by omega), trivial⟩, S⟩
      by_cases e1 : o x = o k
      · rw [e1, updF_at, sink_here _ hfi]
      · have : x ≠ k := fun e2 => e1 (by rw [e2])
        rw [updF_ne e1]; exact hs x (by omega)
    · have hgi := hget _ hik
      have hlt := hF.lt _ hik
      have hfall := (hF.fall _ hik).resolve_left hfi
      obtain ⟨x, hx, hox⟩ := hord.all _ hlt
      have hxk : x < k := by
        rcases Nat.lt_or_ge x k with h | h
        · exact h
        · have := hup k x h hx
          rw [hox] at this
          omega
      have hsf := hs x hxk
      rw [hox, hF.sink_next hik] at hsf
      have hgs : (cellsN (gw * gh) (updF s (o k) (o k)))[((f (o k) : Nat) : Int).toNat * 1]? = some (.int .i64 (s (f (o k)) : Nat)) := by rw [Nat.mul_one, Int.toNat_natCast, cellsN_get hlt, updF_ne hfi]
      repeat refine cw_seq ?_
      refine cw_region ?_
      refine rw_v (op_b (b := true) rfl (decide_eq_true (by omega))) ?_
      first | refine rw_end ?_ | (refine rw_nil ?_; show CW _ _ _ _ _ _) | refine rw_nil ?_
      repeat refine cw_seq ?_
      refine cw_true rfl ?_
      repeat refine cw_seq ?_
      refine cw_skip ?_
      try show CW _ _ _ _ _ _
      repeat refine cw_seq ?_
      refine cw_block ?_
      repeat refine cw_seq ?_
      refine cw_region ?_
      refine rw_v (op_idx Try.underlying122 Try.sizeOf3 rfl rfl sa_od (by omega) (by omega)) ?_
      refine rw_r (op_ldR Try.underlying3 rfl rfl (S.rd (i := 0) rfl) hgo) ?_
      refine rw_v (op_pure rfl) ?_
      first | refine rw_end ?_ | (refine rw_nil ?_; show CW _ _ _ _ _ _) | refine rw_nil ?_
      repeat refine cw_seq ?_
      refine cw_region ?_
      iterate 3 refine rw_v (op_pure rfl) ?_
      refine rw_v (op_idx Try.underlying122 Try.sizeOf3 rfl rfl sa_sk (by omega) (by omega)) ?_
      refine rw_storeR (i := 1) S rfl (Try.sizeOf3 _) rfl rfl rfl rfl (by rw [cellsN_len]; omega) rfl ?_
      intro w9_ S
      rw [Nat.mul_one, Int.toNat_natCast, cellsN_set] at S
      first | refine rw_end ?_ | (refine rw_nil ?_; show CW _ _ _ _ _ _) | refine rw_nil ?_
      repeat refine cw_seq ?_
      refine cw_region ?_
      refine rw_v (op_fieldAddr Try.underlying136 rfl Try.sizeOf122 rfl rfl) ?_
      refine rw_r (op_loadB Try.underlying122 rfl rfl (S.blk (i := 2) rfl) rfl) ?_
      refine rw_v (op_pure rfl) ?_
      refine rw_v (op_idx Try.underlying122 Try.sizeOf3 rfl rfl sa_to (by omega) (by omega)) ?_
      refine rw_r (op_ldR Try.underlying3 rfl rfl (S.rd (i := 4) rfl) hgi) ?_
      refine rw_v (op_pure rfl) ?_
      refine rw_v (op_b (b := true) rfl (bne_iff_ne.2 (by omega))) ?_
      first | refine rw_end ?_ | (refine rw_nil ?_; show CW _ _ _ _ _ _) | refine rw_nil ?_
      repeat refine cw_seq ?_
      refine cw_true rfl ?_
      repeat refine cw_seq ?_
      refine cw_region ?_
      iterate 3 refine rw_v (op_pure rfl) ?_
      refine rw_v (op_fieldAddr Try.underlying136 rfl Try.sizeOf122 rfl rfl) ?_
      refine rw_r (op_loadB Try.underlying122 rfl rfl (S.blk (i := 2) rfl) rfl) ?_
      refine rw_v (op_pure rfl) ?_
      refine rw_v (op_idx Try.underlying122 Try.sizeOf3 rfl rfl sa_to (by omega) (by omega)) ?_
      refine rw_r (op_ldR Try.underlying3 rfl rfl (S.rd (i := 4) rfl) hgi) ?_
      refine rw_v (op_idx Try.underlying122 Try.sizeOf3 rfl rfl sa_sk (by omega) (by omega)) ?_
      refine rw_r (op_ldR Try.underlying3 rfl rfl (S.rd (i := 1) rfl) hgs) ?_
      refine rw_v (op_idx Try.underlying122 Try.sizeOf3 rfl rfl sa_sk (by omega) (by omega)) ?_
      refine rw_storeR (i := 1) S rfl (Try.sizeOf3 _) rfl rfl rfl rfl (by rw [cellsN_len]; omega) rfl ?_
      intro w10_ S
      first | refine rw_end ?_ | (refine rw_nil ?_; show CW _ _ _ _ _ _) | refine rw_nil ?_
      repeat refine cw_seq ?_
      refine cw_region ?_
      refine rw_v (op_rng rfl (by omega)) ?_
      refine rw_v (op_pure rfl) ?_
      first | refine rw_end ?_ | (refine rw_nil ?_; show CW _ _ _ _ _ _) | refine rw_nil ?_
      rw [Nat.mul_one, Int.toNat_natCast, cellsN_set] at S
      refine ⟨m - 1, by omega, k + 1, updF (updF s (o k) (o k)) (o k) (s (f (o k))), by omega, fun x hx => ?_, ⟨rfl, rfl, rfl, rfl, ie (by omega), trivial⟩, S⟩
      by_cases e1 : o x = o k
      · rw [e1, updF_at, hsf]
      · have : x ≠ k := fun e2 => e1 (by rw [e2])
        rw [updF_ne e1, updF_ne e1]; exact hs x (by omega)
  · obtain rfl : k = gw * gh := by omega
    have hs2 : ∀ j, j < gw * gh → s j = sinkN f (gw * gh) j := fun j hj => by
      obtain ⟨x, hx, rfl⟩ := hord.all j hj
      exact hs x hx
    rw [cellsN_congr (f' := sinkN f (gw * gh)) hs2] at S
    have hslt : ∀ j, j < gw * gh → sinkN f (gw * gh) j < gw * gh := fun j hj => hF.sink_lt hj
    generalize sinkN f (gw * gh) = s2 at *
    have sa_sk : 0 < gw * gh → SomeA A_sk := fun h => (S.row (i := 1) rfl).someA h
    repeat refine cw_seq ?_
    refine cw_region ?_
    refine rw_v (op_b (b := false) rfl (decide_eq_false (by omega))) ?_
    first | refine rw_end ?_ | (refine rw_nil ?_; show CW _ _ _ _ _ _) | refine rw_nil ?_
    repeat refine cw_seq ?_
    refine cw_false rfl ?_
    repeat refine cw_seq ?_
    refine cw_exit ?_
    repeat first | refine exit_then ?_ | refine exit_inb ?_
    show CW _ _ _ _ _ _
    repeat refine cw_seq ?_
    refine cw_region ?_
    refine rw_v (op_fieldAddr Try.underlying136 rfl Try.sizeOf22 rfl rfl) ?_
    refine rw_r (op_loadB Try.underlying22 rfl rfl (S.blk (i := 2) rfl) rfl) ?_
    refine rw_v (op_len Try.underlying22 rfl) ?_
    refine rw_makeS1 Try.underlying22 info_t2 rfl rfl rfl (n := gw * gh) (c := gw * gh) (by omega) (by omega) (by omega) (by omega) S ?_
    intro A_lb w12_ g12_ S sa_lb
    refine rw_v (op_pure rfl) ?_
    first | refine rw_end ?_ | (refine rw_nil ?_; show CW _ _ _ _ _ _) | refine rw_nil ?_
    repeat refine cw_seq ?_
    refine cw_region ?_
    refine rw_makeMap S ?_
    intro b_mp w14_ g14_ S
    refine rw_v (op_pure rfl) ?_
    first | refine rw_end ?_ | (refine rw_nil ?_; show CW _ _ _ _ _ _) | refine rw_nil ?_
    repeat refine cw_seq ?_
    refine cw_region ?_
    refine rw_v (op_pure rfl) ?_
    first | refine rw_end ?_ | (refine rw_nil ?_; show CW _ _ _ _ _ _) | refine rw_nil ?_
    repeat refine cw_seq ?_
    refine cw_region ?_
    refine rw_v (op_pure rfl) ?_
    refine rw_v (op_len Try.underlying122 rfl) ?_
    refine rw_v (op_pure rfl) ?_
    first | refine rw_end ?_ | (refine rw_nil ?_; show CW _ _ _ _ _ _) | refine rw_nil ?_
    repeat refine cw_seq ?_
    refine cw_block ?_
    repeat refine cw_seq ?_
    rw [hz] at S
    have S := S.pushNil 44 2
    have hm0 : (fun _ => none : Int → Option Int) = numM (firsts s2 0) := by
      funext x
      unfold numM
      rw [if_neg (fun h => by cases h.2)]
    rw [hm0] at S
    have hl0 : cellsN (gw * gh) (fun _ => 0) = cellsN (gw * gh) (fun j => if j < 0 then labS s2 (gw * gh) j else 0) := by simp
    rw [hl0] at S
    refine cw_loop (fun m e w => ∃ (k : Nat) (A_cl : Option Addr) (c_cl : Nat), k + m = gw * gh ∧ SL e [(5, .pointer (some ⟨b_l, 0, none⟩)), (7, .slice A_sk (gw * gh) (gw * gh)), (10, .slice A_lb (gw * gh) (gw * gh)), (11, .map (some b_mp)), (12, .slice A_cl (firsts s2 k).length c_cl), (62, .slice A_sk (gw * gh) (gw * gh)), (63, .int .i64 (gw * gh : Nat)), (64, .int .i64 k)] ∧
      St No W w [.row 44 2 A_cl (firsts s2 k).length c_cl (cellsZ ((firsts s2 k).map (cz gw))), .map b_mp (numM (firsts s2 k)), .row 2 1 A_lb (gw * gh) (gw * gh) (cellsN (gw * gh) fun j => if j < k then labS s2 (gw * gh) j else 0), .row 3 1 A_od (gw * gh) c_od (cellsN (gw * gh) o), .row 3 1 A_sk (gw * gh) (gw * gh) (cellsN (gw * gh) s2), .blk b_l 136 [.int .i64 gw, .slice A_v (gw * gh) c_v, .slice A_to (gw * gh) c_to], .row 2 1 A_v (gw * gh) c_v (ints V), .row 3 1 A_to (gw * gh) c_to (cellsN (gw * gh) f)]) (gw * gh)
      ⟨0, none, 0, by omega, ⟨rfl, rfl, rfl, rfl, rfl, rfl, rfl, rfl, trivial⟩, S⟩ ?_
    clear S hz hm0 hl0
    rintro m2 e2 w2 ⟨k, A_cl, c_cl, hkm2, hsl2, S⟩
    rw [hsl2.fold]
    by_cases hkn : k < gw * gh
    · have sa_sk := sa_sk (by omega)
      have sa_lb : SomeA A_lb := (S.row (i := 2) rfl).someA (by omega)
      have hgk : (cellsN (gw * gh) s2)[((k : Nat) : Int).toNat * 1]? = some (.int .i64 (s2 k : Nat)) := by rw [Nat.mul_one, Int.toNat_natCast]; exact cellsN_get hkn
      have hsk := hslt k hkn
      have hfl := firsts_len (s := s2) (n := k)
      have hset : ∀ v, v = labS s2 (gw * gh) k → (cellsN (gw * gh) fun j => if j < k then labS s2 (gw * gh) j else 0).set (((k : Nat) : Int).toNat * 1) (.int .i64 (v : Nat)) = cellsN (gw * gh) fun j => if j < k + 1 then labS s2 (gw * gh) j else 0 := fun v hv => by
        rw [Nat.mul_one, Int.toNat_natCast, cellsN_set]
        refine cellsN_congr fun j hj => ?_
        unfold updF
        (try dsimp only)
        by_cases e1 : j = k
        · rw [if_pos e1, if_pos (by omega), e1, hv]
        · by_cases e2 : j < k
          · rw [if_neg e1, if_pos e2, if_pos (by omega)]
          · rw [if_neg e1, if_neg e2, if_neg (by omega)]
      by_cases hin : s2 k ∈ firsts s2 k
      · obtain ⟨hlab, hfs⟩ := labS_old hkn hin
        have hlk : (numM (firsts s2 k) (s2 k : Nat)).getD 0 = (((firsts s2 k).idxOf (s2 k) + 1 : Nat) : Int) := by rw [numM_in hin]; rfl
        repeat refine cw_seq ?_
        refine cw_region ?_
        refine rw_v (op_b (b := true) rfl (decide_eq_true (by omega))) ?_
        first | refine rw_end ?_ | (refine rw_nil ?_; show CW _ _ _ _ _ _) | refine rw_nil ?_
        repeat refine cw_seq ?_
        refine cw_true rfl ?_
        repeat refine cw_seq ?_
        refine cw_skip ?_
        try show CW _ _ _ _ _ _
        repeat refine cw_seq ?_
        refine cw_block ?_
        repeat refine cw_seq ?_
        refine cw_region ?_
        refine rw_v (op_pure rfl) ?_
        refine rw_v (op_idx Try.underlying122 Try.sizeOf3 rfl rfl sa_sk (by omega) (by omega)) ?_
        refine rw_r (op_ldR Try.underlying3 rfl rfl (S.rd (i := 4) rfl) hgk) ?_
        iterate 2 refine rw_v (op_pure rfl) ?_
        first | refine rw_end ?_ | (refine rw_nil ?_; show CW _ _ _ _ _ _) | refine rw_nil ?_
        repeat refine cw_seq ?_
        refine cw_region ?_
        iterate 2 refine rw_v (op_pure rfl) ?_
        refine rw_r (op_look Try.underlying140 Try.underlying3 (Try.zeroValue2 _) rfl rfl (S.map (i := 1) rfl)) ?_
        rw [hlk]
        refine rw_v (op_b (b := false) rfl (beq_eq_false_iff_ne.2 (by omega))) ?_
        first | refine rw_end ?_ | (refine rw_nil ?_; show CW _ _ _ _ _ _) | refine rw_nil ?_
        repeat refine cw_seq ?_
        refine cw_false rfl ?_
        repeat refine cw_seq ?_
        refine cw_skip ?_
        try show CW _ _ _ _ _ _
        repeat refine cw_seq ?_
        refine cw_region ?_
        iterate 4 refine rw_v (op_pure rfl) ?_
        refine rw_r (op_look Try.underlying140 Try.underlying3 (Try.zeroValue2 _) rfl rfl (S.map (i := 1) rfl)) ?_
        rw [hlk]
        refine rw_v (op_idx Try.underlying22 Try.sizeOf2 rfl rfl sa_lb (by omega) (by omega)) ?_
        refine rw_storeR (i := 2) S rfl (Try.sizeOf2 _) rfl rfl rfl rfl (by rw [cellsN_len]; omega) rfl ?_
        intro w15_ S
        first | refine rw_end ?_ | (refine rw_nil ?_; show CW _ _ _ _ _ _) | refine rw_nil ?_
        repeat refine cw_seq ?_
        refine cw_region ?_
        refine rw_v (op_rng rfl (by omega)) ?_
        refine rw_v (op_pure rfl) ?_
        first | refine rw_end ?_ | (refine rw_nil ?_; show CW _ _ _ _ _ _) | refine rw_nil ?_
        rw [hset _ hlab.symm, ← hfs] at S
        exact ⟨m2 - 1, by omega, k + 1, A_cl, c_cl, by omega, ⟨rfl, rfl, rfl, rfl, by rw [hfs]; rfl, rfl, rfl, ie (by omega), trivial⟩, S⟩
      · obtain ⟨hlab, hfs⟩ := labS_new hkn hin
        have hlk : (numM (firsts s2 k) (s2 k : Nat)).getD 0 = 0 := by rw [numM_out hin]; rfl
        have hlk2 : (numM (firsts s2 (k + 1)) (s2 k : Nat)).getD 0 = (((firsts s2 k).length + 1 : Nat) : Int) := by
          rw [numM_in (firsts_mem (Nat.lt_succ_self k)), hfs, List.idxOf_append, if_neg hin]; simp
        repeat refine cw_seq ?_
        refine cw_region ?_
        refine rw_v (op_b (b := true) rfl (decide_eq_true (by omega))) ?_
        first | refine rw_end ?_ | (refine rw_nil ?_; show CW _ _ _ _ _ _) | refine rw_nil ?_
        repeat refine cw_seq ?_
        refine cw_true rfl ?_
        repeat refine cw_seq ?_
        refine cw_skip ?_
        try show CW _ _ _ _ _ _
        repeat refine cw_seq ?_
        refine cw_block ?_
        repeat refine cw_seq ?_
        refine cw_region ?_
        refine rw_v (op_pure rfl) ?_
        refine rw_v (op_idx Try.underlying122 Try.sizeOf3 rfl rfl sa_sk (by omega) (by omega)) ?_
        refine rw_r (op_ldR Try.underlying3 rfl rfl (S.rd (i := 4) rfl) hgk) ?_
        iterate 2 refine rw_v (op_pure rfl) ?_
        first | refine rw_end ?_ | (refine rw_nil ?_; show CW _ _ _ _ _ _) | refine rw_nil ?_
        repeat refine cw_seq ?_
        refine cw_region ?_
        iterate 2 refine rw_v (op_pure rfl) ?_
        refine rw_r (op_look Try.underlying140 Try.underlying3 (Try.zeroValue2 _) rfl rfl (S.map (i := 1) rfl)) ?_
        rw [hlk]
        refine rw_v (op_b (b := true) rfl (beq_iff_eq.2 (by omega))) ?_
        first | refine rw_end ?_ | (refine rw_nil ?_; show CW _ _ _ _ _ _) | refine rw_nil ?_
        repeat refine cw_seq ?_
        refine cw_true rfl ?_
        repeat refine cw_seq ?_
        refine cw_region ?_
        refine rw_v (op_pure rfl) ?_
        refine rw_r (op_loadAB Try.underlying136 rfl (Try.sizeOf136 _) rfl (S.blk (i := 5) rfl) rfl rfl) ?_
        refine rw_v (op_pure rfl) ?_
        refine rw_call rfl (satt_E (W := w2) (s2 k) (gw * gh) hw.1 (by omega)) ?_
        rintro _ w16_ ⟨rfl, g16_⟩
        have S := S.gr g16_
        refine rw_buildS Try.underlying50 Try.sizeOf44 Try.zeroValue44 rfl rfl rfl rfl rfl rfl S ?_
        intro A_lit w18_ g18_ S sa_lit
        refine rw_appS (i := 1) S rfl (fun h => rfl) Try.underlying50 info_t44 rfl rfl rfl rfl (by simp) (by omega) (S.rd (i := 0) rfl) rfl (by omega) ?_
        intro A_o2 c_o2 w19_ S sa_cl
        refine rw_v (op_pure rfl) ?_
        first | refine rw_end ?_ | (refine rw_nil ?_; show CW _ _ _ _ _ _) | refine rw_nil ?_
        repeat refine cw_seq ?_
        refine cw_region ?_
        iterate 3 refine rw_v (op_pure rfl) ?_
        refine rw_v (op_len Try.underlying50 rfl) ?_
        refine rw_mapUpd (i := 2) S rfl Try.underlying140 Try.underlying3 rfl rfl rfl rfl ?_
        intro w20_ S
        rw [numM_push hin, cellsZ_push, ← hfs] at S
        first | refine rw_end ?_ | (refine rw_nil ?_; show CW _ _ _ _ _ _) | refine rw_nil ?_
        repeat refine cw_seq ?_
        refine cw_region ?_
        iterate 4 refine rw_v (op_pure rfl) ?_
        refine rw_r (op_look Try.underlying140 Try.underlying3 (Try.zeroValue2 _) rfl rfl (S.map (i := 2) rfl)) ?_
        rw [hlk2]
        refine rw_v (op_idx Try.underlying22 Try.sizeOf2 rfl rfl sa_lb (by omega) (by omega)) ?_
        refine rw_storeR (i := 3) S rfl (Try.sizeOf2 _) rfl rfl rfl rfl (by rw [cellsN_len]; omega) rfl ?_
        intro w21_ S
        first | refine rw_end ?_ | (refine rw_nil ?_; show CW _ _ _ _ _ _) | refine rw_nil ?_
        repeat refine cw_seq ?_
        refine cw_region ?_
        refine rw_v (op_rng rfl (by omega)) ?_
        refine rw_v (op_pure rfl) ?_
        first | refine rw_end ?_ | (refine rw_nil ?_; show CW _ _ _ _ _ _) | refine rw_nil ?_
        have S := S.drop 1
        rw [hset _ hlab.symm] at S
        have hl2 : (firsts s2 (k + 1)).length = (firsts s2 k).length + 1 := by rw [hfs]; simp
        exact ⟨m2 - 1, by omega, k + 1, A_o2, c_o2, by omega, ⟨rfl, rfl, rfl, rfl, by rw [hl2]; rfl, rfl, rfl, ie (by omega), trivial⟩, by rw [hl2]; exact S⟩
    · obtain rfl : k = gw * gh := by omega
      rw [cellsN_congr (f' := labS s2 (gw * gh)) (fun j hj => by (try dsimp only); rw [if_pos hj])] at S
      repeat refine cw_seq ?_
      refine cw_region ?_
      refine rw_v (op_b (b := false) rfl (decide_eq_false (by omega))) ?_
      first | refine rw_end ?_ | (refine rw_nil ?_; show CW _ _ _ _ _ _) | refine rw_nil ?_
      repeat refine cw_seq ?_
      refine cw_false rfl ?_
      repeat refine cw_seq ?_
      refine cw_exit ?_
      repeat first | refine exit_then ?_ | refine exit_inb ?_
      show CW _ _ _ _ _ _
      repeat refine cw_seq ?_
      refine cw_region ?_
      iterate 5 refine rw_v (op_pure rfl) ?_
      first | refine rw_end ?_ | (refine rw_nil ?_; show CW _ _ _ _ _ _) | refine rw_nil ?_
      repeat refine cw_seq ?_
      refine cw_ret ?_
      repeat first | refine ret_then ?_ | refine ret_inb ?_
      exact res3 rfl rfl rfl ⟨_, _, _, _, rfl, S.row (i := 2) rfl, SepL.fresh S (i := 2) rfl, S.row (i := 0) rfl, SepL.fresh S (i := 0) rfl, fun g h1 h2 => S.sep.2.1 g h2 _ (List.mem_cons_of_mem _ List.mem_cons_self) h1, S.out⟩
end
end Go.Proofs.Ytbcgbcipigcbhaa
