/- Contracts of package grid's functions that read cells. -/
import Derived.Test.YtbcgbcipigcbhaaGrid
namespace Go.Proofs.Ytbcgbcipigcbhaa
open Go.RowKit
set_option linter.unusedVariables false
set_option linter.unusedSimpArgs false
set_option maxRecDepth 100000

section
variable {W : World} {p gw gh cap : Nat} {c : Nat → Int} {A : Option Addr} {bs : Nat → Nat} {Rs : Nat → Option Nat}
theorem gslab_E (x y : Nat) (hx : x < gw) (hy : y < gh) (hG : GridAt W p gw gh c A cap bs Rs) :
    Fn Try.prog 94 [.pointer (some ⟨p, 0, none⟩), .int .i64 x, .int .i64 y] W (RetG (.pointer (some ⟨bs (y / 16 * acr gw + x / 16), 0, none⟩)) W) := by
  have hT := hG.top
  have hR := hG.row
  have ht := tile_lt hx hy
  have hw := hG.sw
  have hh := hG.sh
  have hN : acr gw * acr gh ≤ 64 * 64 := Nat.mul_le_mul (acr_le hw.2) (acr_le hh.2)
  have sa_R : SomeA A := hR.someA (by omega)
  have hb : y / 16 * acr gw ≤ 64 * 64 := Nat.mul_le_mul (by omega) (acr_le hw.2)
  have e1 : (y : Int) / 16 * (acr gw : Nat) = ((y / 16 * acr gw : Nat) : Int) := by push_cast; rfl
  have e2 : (((y / 16 * acr gw : Nat) : Int) + (x : Int) / 16).toNat * 1 = y / 16 * acr gw + x / 16 := by omega
  have hv := ptrs_get (bs := bs) ht
  have S := St.start W
  refine Fn_enter Try.func94 rfl Try.results94 Try.ntmps94 (by kernel_rfl) (by kernel_rfl) ?_
  repeat refine cw_seq ?_
  refine cw_region ?_
  refine rw_v (op_pure rfl) ?_
  first | refine rw_end ?_ | (refine rw_nil ?_; show CW _ _ _ _ _ _) | refine rw_nil ?_
  repeat refine cw_seq ?_
  refine cw_draw (C := fun wq => Gr W wq) [0, 1, 2, 3, 4, 5, 6, 7, 8, 9, 10, 11, 12, 13, 14, 15, 16] [] (by kernel_rfl) (by kernel_rfl) (Gr.drew _) ?_
  simp only [pickL, List.drop_succ_cons, List.drop_zero]
  iterate 2 refine rq_v (op_pure rfl) ?_
  refine rq_v (op_fieldAddr Try.underlying112 rfl Try.sizeOf110 rfl rfl) ?_
  refine rq_r (fun wq hq => op_loadB Try.underlying110 rfl rfl (hT.gr (S.gr hq).out) rfl) ?_
  refine rq_v (op_pure rfl) ?_
  refine rq_v (op_div rfl rfl (by omega) (by omega)) ?_
  iterate 2 refine rq_v (op_pure rfl) ?_
  refine rq_v (op_fieldAddr Try.underlying112 rfl Try.sizeOf2 rfl rfl) ?_
  refine rq_r (fun wq hq => op_loadB Try.underlying2 rfl rfl (hT.gr (S.gr hq).out) rfl) ?_
  refine rq_v (op_rng rfl (by omega)) ?_
  rw [e1]
  refine rq_v (op_pure rfl) ?_
  refine rq_v (op_div rfl rfl (by omega) (by omega)) ?_
  refine rq_v (op_rng rfl (by omega)) ?_
  refine rq_v (op_idx Try.underlying110 Try.sizeOf114 rfl rfl sa_R (by omega) (by omega)) ?_
  rw [e2]
  refine rq_r (fun wq hq => op_ldR Try.underlying114 rfl rfl (Row.rd (hR.gr (S.gr hq).out)) hv) ?_
  refine rq_v (op_pure rfl) ?_
  refine rq_nil ?_
  intro w1_ g1_
  have S := S.gr g1_
  first | refine rw_end ?_ | (refine rw_nil ?_; show CW _ _ _ _ _ _) | refine rw_nil ?_
  repeat refine cw_seq ?_
  refine cw_ret ?_
  repeat first | refine ret_then ?_ | refine ret_inb ?_
  exact res1 rfl ⟨rfl, S.out⟩
theorem gat_E (x y : Nat) (hx : x < gw) (hy : y < gh) (hG : GridAt W p gw gh c A cap bs Rs) :
    Fn Try.prog 55 [.pointer (some ⟨p, 0, none⟩), .agg #[.int .i64 x, .int .i64 y]] W (RetG (.tuple #[.int .i64 (c (y * gw + x)), .int .i64 0]) W) := by
  have hw := hG.sw
  have hh := hG.sh
  have hwi : within x y x y gw gh = 0 := within_fine (by omega) (by omega) (by omega) (by omega)
  have ht := tile_lt hx hy
  have hS := hG.slab _ ht
  have hto := tile_of (gw := gw) (b := y / 16) (div_lt_acr hx)
  rw [hto.1, hto.2] at hS
  have hmx := mod_lt_tsz hx
  have hmy := mod_lt_tsz hy
  have hz1 := tsz_pos (div_lt_acr hx)
  have hz2 := tsz_pos (div_lt_acr hy)
  have e1 : ((y : Int) % 16 * (tsz gw (x / 16) : Nat) + (x : Int) % 16).toNat = y % 16 * tsz gw (x / 16) + x % 16 := by
    have : (y : Int) % 16 * (tsz gw (x / 16) : Nat) + (x : Int) % 16 = ((y % 16 * tsz gw (x / 16) + x % 16 : Nat) : Int) := by push_cast; rfl
    rw [this]; exact Int.toNat_natCast _
  have S := St.start W
  refine Fn_enter Try.func55 rfl Try.results55 Try.ntmps55 (by kernel_rfl) (by kernel_rfl) ?_
  repeat refine cw_seq ?_
  refine cw_region ?_
  refine rw_newB (op_box rfl) S ?_
  intro b_b1 w2_ g2_ S
  iterate 2 refine rw_v (op_pure rfl) ?_
  first | refine rw_end ?_ | (refine rw_nil ?_; show CW _ _ _ _ _ _) | refine rw_nil ?_
  repeat refine cw_seq ?_
  refine cw_region ?_
  refine rw_v (op_pure rfl) ?_
  refine rw_r (op_loadAB Try.underlying44 rfl (Try.sizeOf44 _) rfl (S.blk (i := 0) rfl) rfl rfl) ?_
  refine rw_call rfl (gspot_E _ _ w2_) ?_
  rintro _ w3_ ⟨rfl, g3_⟩
  have S := S.gr g3_
  refine rw_call rfl (gcheck_E p gw gh x y x y hw.2 hh.2 _ w3_ (hG.top.gr S.out)) ?_
  rintro _ w4_ ⟨rfl, g4_⟩
  have S := S.gr g4_
  refine rw_v (op_pure rfl) ?_
  first | refine rw_end ?_ | (refine rw_nil ?_; show CW _ _ _ _ _ _) | refine rw_nil ?_
  repeat refine cw_seq ?_
  refine cw_region ?_
  refine rw_v (op_pure rfl) ?_
  refine rw_v (op_b (b := false) rfl (bne_eq_false_iff_eq.2 (by omega))) ?_
  first | refine rw_end ?_ | (refine rw_nil ?_; show CW _ _ _ _ _ _) | refine rw_nil ?_
  repeat refine cw_seq ?_
  refine cw_false (by rw [hwi]; rfl) ?_
  repeat refine cw_seq ?_
  refine cw_skip ?_
  try show CW _ _ _ _ _ _
  repeat refine cw_seq ?_
  refine cw_draw (C := fun wq => Gr w4_ wq) [0, 1, 2, 3, 4, 5, 6, 7, 8, 9, 10, 11, 12, 13, 14, 15] [] (by kernel_rfl) (by kernel_rfl) (Gr.drew _) ?_
  simp only [pickL, List.drop_succ_cons, List.drop_zero]
  refine rq_v (op_pure rfl) ?_
  refine rq_v (op_fieldAddr Try.underlying44 rfl Try.sizeOf2 rfl rfl) ?_
  refine rq_r (fun wq hq => op_loadB Try.underlying2 rfl rfl ((S.gr hq).blk (i := 0) rfl) rfl) ?_
  refine rq_v (op_fieldAddr Try.underlying44 rfl Try.sizeOf2 rfl rfl) ?_
  refine rq_r (fun wq hq => op_loadB Try.underlying2 rfl rfl ((S.gr hq).blk (i := 0) rfl) rfl) ?_
  refine rq_call rfl (fun wq hq => (gslab_E x y hx hy (hG.gr (S.gr hq).out)).mono (fun _ _ ⟨hv, hg⟩ => ⟨hv, hq.trans hg⟩)) ?_
  refine rq_v (op_fieldAddr Try.underlying44 rfl Try.sizeOf2 rfl rfl) ?_
  refine rq_r (fun wq hq => op_loadB Try.underlying2 rfl rfl ((S.gr hq).blk (i := 0) rfl) rfl) ?_
  refine rq_v (op_fieldAddr Try.underlying44 rfl Try.sizeOf2 rfl rfl) ?_
  refine rq_r (fun wq hq => op_loadB Try.underlying2 rfl rfl ((S.gr hq).blk (i := 0) rfl) rfl) ?_
  refine rq_call rfl (fun wq hq => (inner_E _ _ (by omega) (by omega) wq).mono (fun _ _ ⟨hv, hg⟩ => ⟨hv, hq.trans hg⟩)) ?_
  refine rq_call rfl (fun wq hq => (sat_E _ _ _ _ (tileC gw c (y / 16 * acr gw + x / 16)) (x % 16) (y % 16) hz1 hz2 (by omega) (by omega) wq (hS.gr (S.gr hq).out)).mono (fun _ _ ⟨hv, hg⟩ => ⟨hv, hq.trans hg⟩)) ?_
  iterate 4 refine rq_v (op_pure rfl) ?_
  refine rq_nil ?_
  intro w5_ g5_
  have S := S.gr g5_
  first | refine rw_end ?_ | (refine rw_nil ?_; show CW _ _ _ _ _ _) | refine rw_nil ?_
  repeat refine cw_seq ?_
  refine cw_ret ?_
  repeat first | refine ret_then ?_ | refine ret_inb ?_
  exact res2 rfl rfl ⟨by rw [e1, tileC_at (gh := gh) hx hy], S.out⟩
theorem gatNo_E (x y : Int) (hno : ¬ (0 ≤ x ∧ x < gw ∧ 0 ≤ y ∧ y < gh)) (hG : GridAt W p gw gh c A cap bs Rs) :
    Fn Try.prog 55 [.pointer (some ⟨p, 0, none⟩), .agg #[.int .i64 x, .int .i64 y]] W (RetG (.tuple #[.int .i64 0, .int .i64 4]) W) := by
  have hw := hG.sw
  have hh := hG.sh
  have hwi : within x y x y gw gh = 4 := by
    have e1 : insideB ((gw : Int) - 1) 1024 = true := by simp [insideB]; omega
    have e2 : insideB ((gh : Int) - 1) 1024 = true := by simp [insideB]; omega
    by_cases hx : 0 ≤ x ∧ x < gw
    · have e3 : insideB x gw = true := by simp [insideB]; omega
      have e4 : insideB y gh = false := by simp [insideB]; omega
      simp [within, e1, e2, e3, e4]
    · have e3 : insideB x gw = false := by simp [insideB]; omega
      simp [within, e1, e2, e3]
  have S := St.start W
  refine Fn_enter Try.func55 rfl Try.results55 Try.ntmps55 (by kernel_rfl) (by kernel_rfl) ?_
  repeat refine cw_seq ?_
  refine cw_region ?_
  refine rw_newB (op_box rfl) S ?_
  intro b_b1 w2_ g2_ S
  iterate 2 refine rw_v (op_pure rfl) ?_
  first | refine rw_end ?_ | (refine rw_nil ?_; show CW _ _ _ _ _ _) | refine rw_nil ?_
  repeat refine cw_seq ?_
  refine cw_region ?_
  refine rw_v (op_pure rfl) ?_
  refine rw_r (op_loadAB Try.underlying44 rfl (Try.sizeOf44 _) rfl (S.blk (i := 0) rfl) rfl rfl) ?_
  refine rw_call rfl (gspot_E _ _ w2_) ?_
  rintro _ w3_ ⟨rfl, g3_⟩
  have S := S.gr g3_
  refine rw_call rfl (gcheck_E p gw gh x y x y hw.2 hh.2 _ w3_ (hG.top.gr S.out)) ?_
  rintro _ w4_ ⟨rfl, g4_⟩
  have S := S.gr g4_
  refine rw_v (op_pure rfl) ?_
  first | refine rw_end ?_ | (refine rw_nil ?_; show CW _ _ _ _ _ _) | refine rw_nil ?_
  repeat refine cw_seq ?_
  refine cw_region ?_
  refine rw_v (op_pure rfl) ?_
  refine rw_v (op_b (b := true) rfl (bne_iff_ne.2 (by omega))) ?_
  first | refine rw_end ?_ | (refine rw_nil ?_; show CW _ _ _ _ _ _) | refine rw_nil ?_
  repeat refine cw_seq ?_
  refine cw_true (by rw [hwi]; rfl) ?_
  repeat refine cw_seq ?_
  refine cw_region ?_
  iterate 3 refine rw_v (op_pure rfl) ?_
  first | refine rw_end ?_ | (refine rw_nil ?_; show CW _ _ _ _ _ _) | refine rw_nil ?_
  repeat refine cw_seq ?_
  refine cw_ret ?_
  repeat first | refine ret_then ?_ | refine ret_inb ?_
  exact res2 rfl rfl ⟨by rw [hwi], S.out⟩

/-! ### Values -/
def ints (xs : List Int) : List Value := xs.map (.int .i64)
theorem ints_len (xs : List Int) : (ints xs).length = xs.length := by simp [ints]
theorem ints_app (xs ys : List Int) : ints xs ++ ints ys = ints (xs ++ ys) := by simp [ints]
theorem ints_get {xs : List Int} {i : Nat} {x : Int} (h : xs[i]? = some x) : (ints xs)[i]? = some (.int .i64 x) := by simp [ints, h]
def rowV (gw : Nat) (c : Nat → Int) (x0 y n : Nat) : List Int := (List.range n).map fun i => c (y * gw + (x0 + i))
def rectV (gw : Nat) (c : Nat → Int) (x0 y0 w h : Nat) : List Int := (List.range h).flatMap fun j => rowV gw c x0 (y0 + j) w
theorem rowV_succ (gw : Nat) (c : Nat → Int) (x0 y n : Nat) : rowV gw c x0 y (n + 1) = rowV gw c x0 y n ++ [c (y * gw + (x0 + n))] := by simp [rowV, List.range_succ]
theorem rectV_succ (gw : Nat) (c : Nat → Int) (x0 y0 w h : Nat) : rectV gw c x0 y0 w (h + 1) = rectV gw c x0 y0 w h ++ rowV gw c x0 (y0 + h) w := by simp [rectV, List.range_succ]
theorem rowV_len (gw : Nat) (c : Nat → Int) (x0 y n : Nat) : (rowV gw c x0 y n).length = n := by simp [rowV]
theorem rectV_len (gw : Nat) (c : Nat → Int) (x0 y0 w h : Nat) : (rectV gw c x0 y0 w h).length = h * w := by
  induction h with
  | zero => simp [rectV]
  | succ h ih => rw [rectV_succ, List.length_append, ih, rowV_len, Nat.succ_mul]
theorem rectV_all (gw gh : Nat) (c : Nat → Int) : rectV gw c 0 0 gw gh = (List.range (gw * gh)).map c := by
  induction gh with
  | zero => simp [rectV]
  | succ h ih =>
    rw [rectV_succ, ih, Nat.mul_succ, List.range_add, List.map_append]
    congr 1
    simp only [rowV, List.map_map]
    refine List.map_congr_left fun i _ => ?_
    simp only [Function.comp, Nat.zero_add, Nat.mul_comm]
set_option maxHeartbeats 1000000 in
theorem gvalues_E (x0 y0 x1 y1 : Nat) (hx : x0 ≤ x1 ∧ x1 < gw) (hy : y0 ≤ y1 ∧ y1 < gh) (hG : GridAt W p gw gh c A cap bs Rs) :
    Fn Try.prog 43 [.pointer (some ⟨p, 0, none⟩), .agg #[.int .i64 x0, .int .i64 y0, .int .i64 x1, .int .i64 y1]] W
      (RetNew (fun v => .tuple #[v, .int .i64 0]) 2 1 ((y1 + 1 - y0) * (x1 + 1 - x0)) (ints (rectV gw c x0 y0 (x1 + 1 - x0) (y1 + 1 - y0))) W) := by
  have hw := hG.sw
  have hh := hG.sh
  have hwi : within x0 y0 x1 y1 gw gh = 0 := within_fine (by omega) (by omega) (by omega) (by omega)
  have hN : (y1 + 1 - y0) * (x1 + 1 - x0) ≤ 1024 * 1024 := Nat.mul_le_mul (by omega) (by omega)
  have har : ((x1 : Int) - x0 + 1) * (y1 - y0 + 1) = (((y1 + 1 - y0) * (x1 + 1 - x0) : Nat) : Int) := by
    rw [show (x1 : Int) - x0 + 1 = ((x1 + 1 - x0 : Nat) : Int) by omega, show (y1 : Int) - y0 + 1 = ((y1 + 1 - y0 : Nat) : Int) by omega]
    push_cast; exact Int.mul_comm _ _
  have S := St.start W
  refine Fn_enter Try.func43 rfl Try.results43 Try.ntmps43 (by kernel_rfl) (by kernel_rfl) ?_
  repeat refine cw_seq ?_
  refine cw_region ?_
  refine rw_newB (op_box rfl) S ?_
  intro b_rc w2_ g2_ S
  iterate 2 refine rw_v (op_pure rfl) ?_
  first | refine rw_end ?_ | (refine rw_nil ?_; show CW _ _ _ _ _ _) | refine rw_nil ?_
  repeat refine cw_seq ?_
  refine cw_region ?_
  refine rw_v (op_pure rfl) ?_
  refine rw_r (op_loadAB Try.underlying75 rfl (Try.sizeOf75 _) rfl (S.blk (i := 0) rfl) rfl rfl) ?_
  refine rw_call rfl (gcheck_E p gw gh x0 y0 x1 y1 hw.2 hh.2 _ w2_ (hG.top.gr S.out)) ?_
  rintro _ w3_ ⟨rfl, g3_⟩
  have S := S.gr g3_
  refine rw_v (op_pure rfl) ?_
  first | refine rw_end ?_ | (refine rw_nil ?_; show CW _ _ _ _ _ _) | refine rw_nil ?_
  repeat refine cw_seq ?_
  refine cw_region ?_
  refine rw_v (op_pure rfl) ?_
  refine rw_v (op_b (b := false) rfl (bne_eq_false_iff_eq.2 (by omega))) ?_
  first | refine rw_end ?_ | (refine rw_nil ?_; show CW _ _ _ _ _ _) | refine rw_nil ?_
  repeat refine cw_seq ?_
  refine cw_false (by rw [hwi]; rfl) ?_
  repeat refine cw_seq ?_
  refine cw_skip ?_
  try show CW _ _ _ _ _ _
  repeat refine cw_seq ?_
  refine cw_region ?_
  refine rw_r (op_loadAB Try.underlying75 rfl (Try.sizeOf75 _) rfl (S.blk (i := 0) rfl) rfl rfl) ?_
  refine rw_call rfl (area_E _ _ _ _ (by omega) w3_) ?_
  rintro _ w4_ ⟨rfl, g4_⟩
  have S := S.gr g4_
  rw [har]
  refine rw_makeS1 Try.underlying22 info_t2 rfl rfl rfl (n := 0) (c := (y1 + 1 - y0) * (x1 + 1 - x0)) (by omega) (by omega) (by omega) (by omega) S ?_
  intro A_out w6_ g6_ S sa_out
  refine rw_v (op_pure rfl) ?_
  first | refine rw_end ?_ | (refine rw_nil ?_; show CW _ _ _ _ _ _) | refine rw_nil ?_
  repeat refine cw_seq ?_
  refine cw_region ?_
  refine rw_v (op_fieldAddr Try.underlying75 rfl Try.sizeOf2 rfl rfl) ?_
  refine rw_r (op_loadB Try.underlying2 rfl rfl (S.blk (i := 1) rfl) rfl) ?_
  refine rw_v (op_pure rfl) ?_
  first | refine rw_end ?_ | (refine rw_nil ?_; show CW _ _ _ _ _ _) | refine rw_nil ?_
  repeat refine cw_seq ?_
  refine cw_block ?_
  repeat refine cw_seq ?_
  refine cw_loop (fun m e w => ∃ (j : Nat) (A : Option Addr) (cp : Nat), j + m = y1 + 1 - y0 ∧ SL e [(0, .pointer (some ⟨p, 0, none⟩)), (3, .pointer (some ⟨b_rc, 0, none⟩)), (7, .slice A (j * (x1 + 1 - x0)) cp), (8, .int .i64 (y0 + j))] ∧
    St No W w [.row 2 1 A (j * (x1 + 1 - x0)) cp (ints (rectV gw c x0 y0 (x1 + 1 - x0) j)), .blk b_rc 75 [.int .i64 x0, .int .i64 y0, .int .i64 x1, .int .i64 y1]]) (y1 + 1 - y0)
    ⟨0, _, _, by omega, ⟨rfl, rfl, se (by omega) rfl, rfl, trivial⟩, by rw [Nat.zero_mul]; exact S⟩ ?_
  rintro m e w ⟨j, A1, cp, hj, hsl, S⟩
  rw [hsl.fold]
  repeat refine cw_seq ?_
  refine cw_region ?_
  refine rw_v (op_pure rfl) ?_
  refine rw_v (op_fieldAddr Try.underlying75 rfl Try.sizeOf2 rfl rfl) ?_
  refine rw_r (op_loadB Try.underlying2 rfl rfl (S.blk (i := 1) rfl) rfl) ?_
  refine rw_v (op_pure rfl) ?_
  first | refine rw_end ?_ | (refine rw_nil ?_; show CW _ _ _ _ _ _) | refine rw_nil ?_
  repeat refine cw_seq ?_
  refine cw_cond rfl (fun hc => ?_) (fun hc => ?_)
  · try simp only [decide_eq_true_eq, decide_eq_false_iff_not, beq_iff_eq, bne_iff_ne, beq_eq_false_iff_ne, bne_eq_false_iff_eq, Bool.not_eq_true', Bool.not_eq_false', ne_eq, Decidable.not_not, Int.natCast_inj, Int.ofNat_lt, Int.ofNat_le, gt_iff_lt, ge_iff_le, Int.not_lt, Int.not_le] at hc
    have hjh : j < y1 + 1 - y0 := by omega
    repeat refine cw_seq ?_
    refine cw_skip ?_
    try show CW _ _ _ _ _ _
    repeat refine cw_seq ?_
    refine cw_block ?_
    repeat refine cw_seq ?_
    refine cw_region ?_
    refine rw_v (op_fieldAddr Try.underlying75 rfl Try.sizeOf2 rfl rfl) ?_
    refine rw_r (op_loadB Try.underlying2 rfl rfl (S.blk (i := 1) rfl) rfl) ?_
    refine rw_v (op_pure rfl) ?_
    first | refine rw_end ?_ | (refine rw_nil ?_; show CW _ _ _ _ _ _) | refine rw_nil ?_
    repeat refine cw_seq ?_
    refine cw_block ?_
    repeat refine cw_seq ?_
    refine cw_loop (fun m e w => ∃ (k : Nat) (A : Option Addr) (cp : Nat), k + m = x1 + 1 - x0 ∧ SL e [(0, .pointer (some ⟨p, 0, none⟩)), (3, .pointer (some ⟨b_rc, 0, none⟩)), (7, .slice A (j * (x1 + 1 - x0) + k) cp), (8, .int .i64 (y0 + j)), (9, .int .i64 (x0 + k))] ∧
      St No W w [.row 2 1 A (j * (x1 + 1 - x0) + k) cp (ints (rectV gw c x0 y0 (x1 + 1 - x0) j ++ rowV gw c x0 (y0 + j) k)), .blk b_rc 75 [.int .i64 x0, .int .i64 y0, .int .i64 x1, .int .i64 y1]]) (x1 + 1 - x0)
      ⟨0, _, _, by omega, ⟨rfl, rfl, rfl, rfl, rfl, trivial⟩, by simpa [rowV] using S⟩ ?_
    rintro m' e w ⟨k, A2, cp2, hk, hsl, S⟩
    rw [hsl.fold]
    repeat refine cw_seq ?_
    refine cw_region ?_
    refine rw_v (op_pure rfl) ?_
    refine rw_v (op_fieldAddr Try.underlying75 rfl Try.sizeOf2 rfl rfl) ?_
    refine rw_r (op_loadB Try.underlying2 rfl rfl (S.blk (i := 1) rfl) rfl) ?_
    refine rw_v (op_pure rfl) ?_
    first | refine rw_end ?_ | (refine rw_nil ?_; show CW _ _ _ _ _ _) | refine rw_nil ?_
    repeat refine cw_seq ?_
    refine cw_cond rfl (fun hc' => ?_) (fun hc' => ?_)
    · try simp only [decide_eq_true_eq, decide_eq_false_iff_not, beq_iff_eq, bne_iff_ne, beq_eq_false_iff_ne, bne_eq_false_iff_eq, Bool.not_eq_true', Bool.not_eq_false', ne_eq, Decidable.not_not, Int.natCast_inj, Int.ofNat_lt, Int.ofNat_le, gt_iff_lt, ge_iff_le, Int.not_lt, Int.not_le] at hc'
      have hkh : k < x1 + 1 - x0 := by omega
      have hxk : x0 + k < gw := by omega
      have hyj : y0 + j < gh := by omega
      have hjk : j * (x1 + 1 - x0) + k + 1 ≤ (y1 + 1 - y0) * (x1 + 1 - x0) := by
        have : (j + 1) * (x1 + 1 - x0) ≤ (y1 + 1 - y0) * (x1 + 1 - x0) := Nat.mul_le_mul_right _ hjh
        rw [Nat.succ_mul] at this
        omega
      have ht := tile_lt hxk hyj
      have hS := hG.slab _ ht
      have hto := tile_of (gw := gw) (b := (y0 + j) / 16) (div_lt_acr hxk)
      rw [hto.1, hto.2] at hS
      have hmx := mod_lt_tsz hxk
      have hmy := mod_lt_tsz hyj
      have hz1 := tsz_pos (div_lt_acr hxk)
      have hz2 := tsz_pos (div_lt_acr hyj)
      have e0 : (x0 : Int) + k = ((x0 + k : Nat) : Int) := by omega
      have e0' : (y0 : Int) + j = ((y0 + j : Nat) : Int) := by omega
      have e1 : (((y0 + j : Nat) : Int) % 16 * (tsz gw ((x0 + k) / 16) : Nat) + ((x0 + k : Nat) : Int) % 16).toNat = (y0 + j) % 16 * tsz gw ((x0 + k) / 16) + (x0 + k) % 16 := by
        have : ((y0 + j : Nat) : Int) % 16 * (tsz gw ((x0 + k) / 16) : Nat) + ((x0 + k : Nat) : Int) % 16 = (((y0 + j) % 16 * tsz gw ((x0 + k) / 16) + (x0 + k) % 16 : Nat) : Int) := by push_cast; rfl
        rw [this]; exact Int.toNat_natCast _
      rw [e0, e0']
      repeat refine cw_seq ?_
      refine cw_skip ?_
      try show CW _ _ _ _ _ _
      repeat refine cw_seq ?_
      refine cw_block ?_
      repeat refine cw_seq ?_
      refine cw_region ?_
      iterate 3 refine rw_v (op_pure rfl) ?_
      refine rw_call rfl (gslab_E (x0 + k) (y0 + j) hxk hyj (hG.gr S.out)) ?_
      rintro _ w7_ ⟨rfl, g7_⟩
      have S := S.gr g7_
      iterate 2 refine rw_v (op_pure rfl) ?_
      refine rw_call rfl (inner_E _ _ (by omega) (by omega) w7_) ?_
      rintro _ w8_ ⟨rfl, g8_⟩
      have S := S.gr g8_
      refine rw_call rfl (sat_E _ _ _ _ (tileC gw c ((y0 + j) / 16 * acr gw + (x0 + k) / 16)) (((x0 + k : Nat) : Int) % 16) (((y0 + j : Nat) : Int) % 16) hz1 hz2 (by omega) (by omega) w8_ (hS.gr S.out)) ?_
      rintro _ w9_ ⟨rfl, g9_⟩
      have S := S.gr g9_
      rw [e1, tileC_at (gh := gh) hxk hyj]
      iterate 5 refine rw_v (op_pure rfl) ?_
      first | refine rw_end ?_ | (refine rw_nil ?_; show CW _ _ _ _ _ _) | refine rw_nil ?_
      repeat refine cw_seq ?_
      refine cw_region ?_
      iterate 2 refine rw_v (op_pure rfl) ?_
      refine rw_buildS Try.underlying22 Try.sizeOf2 Try.zeroValue2 rfl rfl rfl rfl rfl rfl S ?_
      intro A_b10 w11_ g11_ S sa_b10
      refine rw_appS (i := 1) S rfl (fun h => rfl) Try.underlying22 info_t2 rfl rfl rfl rfl (by simp) (by omega) (S.rd (i := 0) rfl) rfl (by omega) ?_
      intro A_out12 c_out12 w12_ S sa_out
      refine rw_v (op_pure rfl) ?_
      first | refine rw_end ?_ | (refine rw_nil ?_; show CW _ _ _ _ _ _) | refine rw_nil ?_
      repeat refine cw_seq ?_
      refine cw_region ?_
      refine rw_v (op_pure rfl) ?_
      refine rw_v (op_rng rfl (by omega)) ?_
      refine rw_v (op_pure rfl) ?_
      first | refine rw_end ?_ | (refine rw_nil ?_; show CW _ _ _ _ _ _) | refine rw_nil ?_
      refine ⟨m' - 1, by omega, k + 1, _, _, by omega, ⟨rfl, rfl, rfl, ie (by omega), ie (by omega), trivial⟩, ?_⟩
      have S := S.sub (.cons _ (.cons_cons _ (.cons_cons _ .slnil)))
      rw [rowV_succ, ← List.append_assoc, ← ints_app]
      exact S
    · try simp only [decide_eq_true_eq, decide_eq_false_iff_not, beq_iff_eq, bne_iff_ne, beq_eq_false_iff_ne, bne_eq_false_iff_eq, Bool.not_eq_true', Bool.not_eq_false', ne_eq, Decidable.not_not, Int.natCast_inj, Int.ofNat_lt, Int.ofNat_le, gt_iff_lt, ge_iff_le, Int.not_lt, Int.not_le] at hc'
      repeat refine cw_seq ?_
      refine cw_exit ?_
      repeat first | refine exit_then ?_ | refine exit_inb ?_
      show CW _ _ _ _ _ _
      repeat refine cw_seq ?_
      refine cw_region ?_
      refine rw_v (op_pure rfl) ?_
      refine rw_v (op_rng rfl (by omega)) ?_
      refine rw_v (op_pure rfl) ?_
      first | refine rw_end ?_ | (refine rw_nil ?_; show CW _ _ _ _ _ _) | refine rw_nil ?_
      obtain rfl : k = x1 + 1 - x0 := by omega
      refine ⟨m - 1, by omega, j + 1, _, _, by omega, ⟨rfl, rfl, se (Nat.succ_mul _ _).symm rfl, ie (by omega), trivial⟩, ?_⟩
      rw [rectV_succ, Nat.succ_mul]
      exact S
  · try simp only [decide_eq_true_eq, decide_eq_false_iff_not, beq_iff_eq, bne_iff_ne, beq_eq_false_iff_ne, bne_eq_false_iff_eq, Bool.not_eq_true', Bool.not_eq_false', ne_eq, Decidable.not_not, Int.natCast_inj, Int.ofNat_lt, Int.ofNat_le, gt_iff_lt, ge_iff_le, Int.not_lt, Int.not_le] at hc
    repeat refine cw_seq ?_
    refine cw_exit ?_
    repeat first | refine exit_then ?_ | refine exit_inb ?_
    show CW _ _ _ _ _ _
    repeat refine cw_seq ?_
    refine cw_region ?_
    iterate 3 refine rw_v (op_pure rfl) ?_
    first | refine rw_end ?_ | (refine rw_nil ?_; show CW _ _ _ _ _ _) | refine rw_nil ?_
    repeat refine cw_seq ?_
    refine cw_ret ?_
    repeat first | refine ret_then ?_ | refine ret_inb ?_
    obtain rfl : j = y1 + 1 - y0 := by omega
    exact res2 rfl rfl (S.retNew (i := 0) (mk := fun v => .tuple #[v, .int .i64 0]) rfl)
end
end Go.Proofs.Ytbcgbcipigcbhaa
