/- smooth.Mean; the chapter's example; hachurelaw44.SmoothNil: the walks. -/
import Derived.Test.YtbcgbcipigcbhaaSmoothB
import Derived.Test.YtbcgbcipigcbhaaSparse
namespace Go.Proofs.Ytbcgbcipigcbhaa
open Go.RowKit
set_option linter.unusedVariables false
set_option linter.unusedSimpArgs false
set_option maxRecDepth 100000

/-! ### means of windows are values -/
def rowD (V : List Int) (o x0 k : Nat) : Int := rowS V o (x0 + k) - rowS V o x0
theorem rowD_bnd {V : List Int} (hB : vB V) (o x0 : Nat) : ∀ k : Nat, -(2147483648 * (k : Int)) ≤ rowD V o x0 k ∧ rowD V o x0 k ≤ 2147483647 * (k : Int)
  | 0 => by simp [rowD]
  | k + 1 => by
    have h1 := rowD_bnd hB o x0 k
    have h2 := hB (o + (x0 + k))
    have h3 : rowD V o x0 (k + 1) = rowD V o x0 k + V.getD (o + (x0 + k)) 0 := by
      have : rowS V o (x0 + (k + 1)) = rowS V o (x0 + k) + V.getD (o + (x0 + k)) 0 := rfl
      unfold rowD
      rw [this]
      omega
    rw [h3]
    omega
theorem rsum_bnd {V : List Int} (hB : vB V) (gw x0 y0 k : Nat) : ∀ j : Nat, -(2147483648 * ((k * j : Nat) : Int)) ≤ psum V gw (y0 + j) (x0 + k) - psum V gw (y0 + j) x0 - psum V gw y0 (x0 + k) + psum V gw y0 x0 ∧
    psum V gw (y0 + j) (x0 + k) - psum V gw (y0 + j) x0 - psum V gw y0 (x0 + k) + psum V gw y0 x0 ≤ 2147483647 * ((k * j : Nat) : Int)
  | 0 => by
    simp only [Nat.add_zero, Nat.mul_zero, Int.natCast_zero, Int.mul_zero, Int.neg_zero]
    omega
  | j + 1 => by
    have h1 := rsum_bnd hB gw x0 y0 k j
    have h2 := rowD_bnd hB ((y0 + j) * gw) x0 k
    have h3 : psum V gw (y0 + (j + 1)) (x0 + k) = rowS V ((y0 + j) * gw) (x0 + k) + psum V gw (y0 + j) (x0 + k) := rfl
    have h4 : psum V gw (y0 + (j + 1)) x0 = rowS V ((y0 + j) * gw) x0 + psum V gw (y0 + j) x0 := rfl
    rw [h3, h4, Nat.mul_succ]
    unfold rowD at h2
    omega
def meanW (V : List Int) (gw gh i n : Nat) : Int := rsum V gw (winW gw gh i n).x0 (winW gw gh i n).y0 (winW gw gh i n).x1 (winW gw gh i n).y1 / ((((winW gw gh i n).x1 + 1 - (winW gw gh i n).x0) * ((winW gw gh i n).y1 + 1 - (winW gw gh i n).y0) : Nat) : Int)
theorem mean_bnd {V : List Int} (hB : vB V) (gw : Nat) {x0 y0 x1 y1 : Nat} (hx : x0 ≤ x1) (hy : y0 ≤ y1) : -2147483648 ≤ rsum V gw x0 y0 x1 y1 / (((x1 + 1 - x0) * (y1 + 1 - y0) : Nat) : Int) ∧ rsum V gw x0 y0 x1 y1 / (((x1 + 1 - x0) * (y1 + 1 - y0) : Nat) : Int) ≤ 2147483647 := by
  have h := rsum_bnd hB gw x0 y0 (x1 + 1 - x0) (y1 + 1 - y0)
  rw [show x0 + (x1 + 1 - x0) = x1 + 1 by omega, show y0 + (y1 + 1 - y0) = y1 + 1 by omega] at h
  have hn : 1 ≤ (x1 + 1 - x0) * (y1 + 1 - y0) := Nat.mul_pos (by omega) (by omega)
  unfold rsum
  generalize psum V gw (y1 + 1) (x1 + 1) - psum V gw (y1 + 1) x0 - psum V gw y0 (x1 + 1) + psum V gw y0 x0 = s at *
  generalize (x1 + 1 - x0) * (y1 + 1 - y0) = n at *
  constructor
  · exact Int.le_ediv_of_mul_le (by omega) (by omega)
  · have : s / (n : Int) < 2147483648 := Int.ediv_lt_of_lt_mul (by omega) (by omega)
    omega
theorem meanW_may {V : List Int} (hB : vB V) {gw gh i n : Nat} (hgw : 0 < gw) (hi : i < gw * gh) : mayB (meanW V gw gh i n) = true := by
  obtain ⟨h1, h2⟩ := winW_ok (n := n) hgw hi
  have := mean_bnd hB gw h1.1 h2.1
  exact (mayB_iff _).2 this
theorem RetGrid.weaken {mk : Value → Value} {gw gh : Nat} {c : Nat → Int} {W w w' : World} {v : Value} (h : RetGrid mk gw gh c w v w') (g : Gr W w) : RetGrid mk gw gh c W v w' := by
  obtain ⟨p, A, cap, bs, Rs, e, hG, hf, hg⟩ := h
  exact ⟨p, A, cap, bs, Rs, e, hG, fun b hb => Nat.le_trans g.le (hf b hb), g.trans hg⟩
section
variable {W : World} {A : Option Addr} {p gw gh cap C tb : Nat} {cc : Nat → Int} {bs : Nat → Nat} {Rs : Nat → Option Nat} {V : List Int}
theorem meanC_E (i n : Nat) (hB : vB V) (hw : 1 ≤ gw ∧ gw ≤ 1024) (hh : 1 ≤ gh ∧ gh ≤ 1024) (hi : i < gw * gh) (hC : Blk W C 158 [.pointer (some ⟨tb, 0, none⟩)]) (hA : AreaAt W tb gw gh V) :
    Fn Try.prog 101 ([] ++ [(winW gw gh i n).val] ++ [.pointer (some ⟨C, 0, none⟩)]) W (RetG (.int .i64 (meanW V gw gh i n)) W) := by
  obtain ⟨h1, h2⟩ := winW_ok (n := n) hw.1 hi
  unfold meanW Win.val
  generalize winW gw gh i n = r at *
  have S := St.start W
  refine Fn_enter Try.func101 rfl Try.results101 Try.ntmps101 (by kernel_rfl) (by kernel_rfl) ?_
  repeat refine cw_seq ?_
  refine cw_region ?_
  refine rw_newB (op_box rfl) S ?_
  intro b_r w2_ g2_ S
  refine rw_v (op_pure rfl) ?_
  first | refine rw_end ?_ | (refine rw_nil ?_; show CW _ _ _ _ _ _) | refine rw_nil ?_
  repeat refine cw_seq ?_
  refine cw_region ?_
  refine rw_r (op_loadB Try.underlying158 rfl rfl (hC.gr S.out) rfl) ?_
  refine rw_r (op_loadAB Try.underlying75 rfl (Try.sizeOf75 _) rfl (S.blk (i := 0) rfl) rfl rfl) ?_
  refine rw_call rfl (amean_E (W := w2_) r.x0 r.y0 r.x1 r.y1 hB hw hh h1 h2 (hA.gr S.out)) ?_
  rintro _ w3_ ⟨rfl, g3_⟩
  have S := S.gr g3_
  iterate 5 refine rw_v (op_pure rfl) ?_
  first | refine rw_end ?_ | (refine rw_nil ?_; show CW _ _ _ _ _ _) | refine rw_nil ?_
  repeat refine cw_seq ?_
  refine cw_region ?_
  iterate 2 refine rw_v (op_pure rfl) ?_
  first | refine rw_end ?_ | (refine rw_nil ?_; show CW _ _ _ _ _ _) | refine rw_nil ?_
  repeat refine cw_seq ?_
  refine cw_ret ?_
  repeat first | refine ret_then ?_ | refine ret_inb ?_
  exact res1 rfl ⟨rfl, S.out⟩
theorem smeanNil_E (n : Int) : Fn Try.prog 46 [.pointer none, .int .i64 n] W (RetG (.tuple #[.pointer none, .int .i64 1]) W) := by
  have S := St.start W
  refine Fn_enter Try.func46 rfl Try.results46 Try.ntmps46 (by kernel_rfl) (by kernel_rfl) ?_
  repeat refine cw_seq ?_
  refine cw_region ?_
  iterate 2 refine rw_v (op_pure rfl) ?_
  first | refine rw_end ?_ | (refine rw_nil ?_; show CW _ _ _ _ _ _) | refine rw_nil ?_
  repeat refine cw_seq ?_
  refine cw_region ?_
  refine rw_v (op_pure rfl) ?_
  refine rw_call rfl (abuildNil_E) ?_
  rintro _ w1_ ⟨rfl, g1_⟩
  have S := S.gr g1_
  iterate 3 refine rw_v (op_pure rfl) ?_
  refine rw_newB (op_alloc Try.zeroValue158 rfl) S ?_
  intro b_tp w3_ g3_ S
  refine rw_storeS (i := 0) S rfl (Try.sizeOf158 _) rfl rfl rfl rfl rfl rfl ?_
  intro w4_ S
  refine rw_v (op_pure rfl) ?_
  first | refine rw_end ?_ | (refine rw_nil ?_; show CW _ _ _ _ _ _) | refine rw_nil ?_
  repeat refine cw_seq ?_
  refine cw_region ?_
  iterate 3 refine rw_v (op_pure rfl) ?_
  refine rw_call rfl (smadeNil_E (fid := 101) (caps := [.pointer (some ⟨b_tp, 0, none⟩)]) n) ?_
  rintro _ w5_ ⟨rfl, g5_⟩
  have S := S.gr g5_
  iterate 4 refine rw_v (op_pure rfl) ?_
  first | refine rw_end ?_ | (refine rw_nil ?_; show CW _ _ _ _ _ _) | refine rw_nil ?_
  repeat refine cw_seq ?_
  refine cw_ret ?_
  repeat first | refine ret_then ?_ | refine ret_inb ?_
  exact res2 rfl rfl ⟨rfl, S.out⟩
theorem smean_E (n : Nat) (hn : n ≤ 1024) (hB : vB (gridL gw gh cc)) (hG : GridAt W p gw gh cc A cap bs Rs) : Fn Try.prog 46 [.pointer (some ⟨p, 0, none⟩), .int .i64 n] W
    (RetGrid (fun p => .tuple #[p, .int .i64 0]) gw gh (fun i => (gridL gw gh fun i => meanW (gridL gw gh cc) gw gh i n).getD i 0) W) := by
  have hw := hG.sw
  have hh := hG.sh
  have hbuild := fun w (g : Gr W w) => abuild_E hB (hG.gr g)
  have hmay : ∀ i, i < gw * gh → mayB (meanW (gridL gw gh cc) gw gh i n) = true := fun i hi => meanW_may hB hw.1 hi
  have hmade := fun (b : Nat) w (g : Gr W w) => smade_E (W := w) (fid := 101) (caps := [.pointer (some ⟨b, 0, none⟩)]) (q := fun i => meanW (gridL gw gh cc) gw gh i n) n hn (hG.gr g) hmay
  generalize gridL gw gh cc = V at *
  have S := St.start W
  refine Fn_enter Try.func46 rfl Try.results46 Try.ntmps46 (by kernel_rfl) (by kernel_rfl) ?_
  repeat refine cw_seq ?_
  refine cw_region ?_
  iterate 2 refine rw_v (op_pure rfl) ?_
  first | refine rw_end ?_ | (refine rw_nil ?_; show CW _ _ _ _ _ _) | refine rw_nil ?_
  repeat refine cw_seq ?_
  refine cw_region ?_
  refine rw_v (op_pure rfl) ?_
  refine rw_call rfl (hbuild W S.out) ?_
  rintro _ w1_ ⟨tb, rfl, hT, g1_⟩
  have G := (S.gr g1_).out
  have S := St.start w1_
  iterate 3 refine rw_v (op_pure rfl) ?_
  refine rw_newB (op_alloc Try.zeroValue158 rfl) S ?_
  intro b_tp w3_ g3_ S
  refine rw_storeS (i := 0) S rfl (Try.sizeOf158 _) rfl rfl rfl rfl rfl rfl ?_
  intro w4_ S
  refine rw_v (op_pure rfl) ?_
  first | refine rw_end ?_ | (refine rw_nil ?_; show CW _ _ _ _ _ _) | refine rw_nil ?_
  have hS1 := S
  repeat refine cw_seq ?_
  refine cw_region ?_
  iterate 3 refine rw_v (op_pure rfl) ?_
  refine rw_call rfl (hmade b_tp w4_ (G.trans S.out) (fun w g i hi => meanC_E i n hB hw hh hi ((hS1.gr g).blk (i := 0) rfl) (hT.gr (hS1.gr g).out))) ?_
  rintro _ w5_ ⟨p2, B2, bc2, bs2, Rs2, rfl, hG2, hf2, g5_⟩
  have S := S.pushGrid hG2 hf2 g5_
  iterate 4 refine rw_v (op_pure rfl) ?_
  first | refine rw_end ?_ | (refine rw_nil ?_; show CW _ _ _ _ _ _) | refine rw_nil ?_
  repeat refine cw_seq ?_
  refine cw_ret ?_
  repeat first | refine ret_then ?_ | refine ret_inb ?_
  exact res2 rfl rfl ((S.retGrid (i := 0) (mk := fun p => .tuple #[p, .int .i64 0]) rfl).weaken G)
theorem smedianNil_E (n : Int) : Fn Try.prog 47 [.pointer none, .int .i64 n] W (RetG (.tuple #[.pointer none, .int .i64 1]) W) := by
  have S := St.start W
  refine Fn_enter Try.func47 rfl Try.results47 Try.ntmps47 (by kernel_rfl) (by kernel_rfl) ?_
  repeat refine cw_seq ?_
  refine cw_region ?_
  refine rw_newB (op_box rfl) S ?_
  intro b_gp w2_ g2_ S
  iterate 2 refine rw_v (op_pure rfl) ?_
  first | refine rw_end ?_ | (refine rw_nil ?_; show CW _ _ _ _ _ _) | refine rw_nil ?_
  repeat refine cw_seq ?_
  refine cw_region ?_
  refine rw_r (op_loadB Try.underlying28 rfl rfl (S.blk (i := 0) rfl) rfl) ?_
  iterate 2 refine rw_v (op_pure rfl) ?_
  refine rw_call rfl (smadeNil_E (fid := 103) (caps := [.pointer (some ⟨b_gp, 0, none⟩)]) n) ?_
  rintro _ w3_ ⟨rfl, g3_⟩
  have S := S.gr g3_
  iterate 4 refine rw_v (op_pure rfl) ?_
  first | refine rw_end ?_ | (refine rw_nil ?_; show CW _ _ _ _ _ _) | refine rw_nil ?_
  repeat refine cw_seq ?_
  refine cw_ret ?_
  repeat first | refine ret_then ?_ | refine ret_inb ?_
  exact res2 rfl rfl ⟨rfl, S.out⟩
theorem sbuildNil44_E : Fn Try.prog 134 [.pointer none] W (RetG (.tuple #[.pointer none, .int .i64 1]) W) := by
  have S := St.start W
  refine Fn_enter Try.func134 rfl Try.results134 Try.ntmps134 (by kernel_rfl) (by kernel_rfl) ?_
  repeat refine cw_seq ?_
  refine cw_region ?_
  iterate 2 refine rw_v (op_pure rfl) ?_
  first | refine rw_end ?_ | (refine rw_nil ?_; show CW _ _ _ _ _ _) | refine rw_nil ?_
  repeat refine cw_seq ?_
  refine cw_region ?_
  refine rw_v (op_pure rfl) ?_
  refine rw_v (op_nilp Try.underlying28 rfl rfl) ?_
  first | refine rw_end ?_ | (refine rw_nil ?_; show CW _ _ _ _ _ _) | refine rw_nil ?_
  repeat refine cw_seq ?_
  refine cw_true rfl ?_
  repeat refine cw_seq ?_
  refine cw_region ?_
  iterate 2 refine rw_v (op_pure rfl) ?_
  first | refine rw_end ?_ | (refine rw_nil ?_; show CW _ _ _ _ _ _) | refine rw_nil ?_
  repeat refine cw_seq ?_
  refine cw_ret ?_
  repeat first | refine ret_then ?_ | refine ret_inb ?_
  exact res2 rfl rfl ⟨rfl, S.out⟩
theorem srangesNil_E : Fn Try.prog 86 [.pointer none] W (fun v w' => ∃ b, v = .func (.func 135) (([] : List Value).toArray) [.pointer (some ⟨b, 0, none⟩)].toArray ∧ Gr W w') := by
  have S := St.start W
  refine Fn_enter Try.func86 rfl Try.results86 Try.ntmps86 (by kernel_rfl) (by kernel_rfl) ?_
  repeat refine cw_seq ?_
  refine cw_region ?_
  refine rw_v (op_pure rfl) ?_
  first | refine rw_end ?_ | (refine rw_nil ?_; show CW _ _ _ _ _ _) | refine rw_nil ?_
  repeat refine cw_seq ?_
  refine cw_region ?_
  refine rw_v (op_pure rfl) ?_
  refine rw_call rfl (sbuildNil44_E) ?_
  rintro _ w1_ ⟨rfl, g1_⟩
  have S := S.gr g1_
  iterate 3 refine rw_v (op_pure rfl) ?_
  refine rw_newB (op_alloc Try.zeroValue201 rfl) S ?_
  intro b_tp w3_ g3_ S
  refine rw_storeS (i := 0) S rfl (Try.sizeOf201 _) rfl rfl rfl rfl rfl rfl ?_
  intro w4_ S
  refine rw_v (op_pure rfl) ?_
  first | refine rw_end ?_ | (refine rw_nil ?_; show CW _ _ _ _ _ _) | refine rw_nil ?_
  repeat refine cw_seq ?_
  refine cw_region ?_
  iterate 2 refine rw_v (op_pure rfl) ?_
  first | refine rw_end ?_ | (refine rw_nil ?_; show CW _ _ _ _ _ _) | refine rw_nil ?_
  repeat refine cw_seq ?_
  refine cw_ret ?_
  repeat first | refine ret_then ?_ | refine ret_inb ?_
  exact res1 rfl ⟨b_tp, rfl, S.out⟩
theorem sspreadNil_E (n : Int) : Fn Try.prog 39 [.pointer none, .int .i64 n] W (RetG (.tuple #[.slice none 0 0, .int .i64 1]) W) := by
  have S := St.start W
  refine Fn_enter Try.func39 rfl Try.results39 Try.ntmps39 (by kernel_rfl) (by kernel_rfl) ?_
  repeat refine cw_seq ?_
  refine cw_region ?_
  iterate 2 refine rw_v (op_pure rfl) ?_
  first | refine rw_end ?_ | (refine rw_nil ?_; show CW _ _ _ _ _ _) | refine rw_nil ?_
  repeat refine cw_seq ?_
  refine cw_region ?_
  refine rw_v (op_pure rfl) ?_
  refine rw_call rfl (srangesNil_E) ?_
  rintro _ w1_ ⟨b, rfl, g1_⟩
  have S := S.gr g1_
  refine rw_newB (op_alloc Try.zeroValue147 rfl) S ?_
  intro b_fp w3_ g3_ S
  refine rw_storeS (i := 0) S rfl (Try.sizeOf147 _) rfl rfl rfl rfl rfl rfl ?_
  intro w4_ S
  first | refine rw_end ?_ | (refine rw_nil ?_; show CW _ _ _ _ _ _) | refine rw_nil ?_
  repeat refine cw_seq ?_
  refine cw_region ?_
  iterate 3 refine rw_v (op_pure rfl) ?_
  refine rw_call rfl (eachNil_E (fid := 88) (caps := [.pointer (some ⟨b_fp, 0, none⟩)]) n) ?_
  rintro _ w5_ ⟨rfl, g5_⟩
  have S := S.gr g5_
  iterate 4 refine rw_v (op_pure rfl) ?_
  first | refine rw_end ?_ | (refine rw_nil ?_; show CW _ _ _ _ _ _) | refine rw_nil ?_
  repeat refine cw_seq ?_
  refine cw_ret ?_
  repeat first | refine ret_then ?_ | refine ret_inb ?_
  exact res2 rfl rfl ⟨rfl, S.out⟩
theorem sopenNil_E (n : Int) : Fn Try.prog 40 [.pointer none, .int .i64 n] W (RetG (.tuple #[.pointer none, .int .i64 1]) W) := by
  have S := St.start W
  refine Fn_enter Try.func40 rfl Try.results40 Try.ntmps40 (by kernel_rfl) (by kernel_rfl) ?_
  repeat refine cw_seq ?_
  refine cw_region ?_
  iterate 2 refine rw_v (op_pure rfl) ?_
  first | refine rw_end ?_ | (refine rw_nil ?_; show CW _ _ _ _ _ _) | refine rw_nil ?_
  repeat refine cw_seq ?_
  refine cw_region ?_
  refine rw_v (op_pure rfl) ?_
  refine rw_call rfl (srangesNil_E) ?_
  rintro _ w1_ ⟨b, rfl, g1_⟩
  have S := S.gr g1_
  refine rw_newB (op_alloc Try.zeroValue147 rfl) S ?_
  intro b_fp w3_ g3_ S
  refine rw_storeS (i := 0) S rfl (Try.sizeOf147 _) rfl rfl rfl rfl rfl rfl ?_
  intro w4_ S
  first | refine rw_end ?_ | (refine rw_nil ?_; show CW _ _ _ _ _ _) | refine rw_nil ?_
  repeat refine cw_seq ?_
  refine cw_region ?_
  iterate 3 refine rw_v (op_pure rfl) ?_
  refine rw_call rfl (smadeNil_E (fid := 90) (caps := [.pointer (some ⟨b_fp, 0, none⟩)]) n) ?_
  rintro _ w5_ ⟨rfl, g5_⟩
  have S := S.gr g5_
  iterate 5 refine rw_v (op_pure rfl) ?_
  first | refine rw_end ?_ | (refine rw_nil ?_; show CW _ _ _ _ _ _) | refine rw_nil ?_
  repeat refine cw_seq ?_
  refine cw_region ?_
  refine rw_v (op_pure rfl) ?_
  refine rw_v (op_b (b := true) rfl (bne_iff_ne.2 (by omega))) ?_
  first | refine rw_end ?_ | (refine rw_nil ?_; show CW _ _ _ _ _ _) | refine rw_nil ?_
  repeat refine cw_seq ?_
  refine cw_true rfl ?_
  repeat refine cw_seq ?_
  refine cw_region ?_
  iterate 3 refine rw_v (op_pure rfl) ?_
  first | refine rw_end ?_ | (refine rw_nil ?_; show CW _ _ _ _ _ _) | refine rw_nil ?_
  repeat refine cw_seq ?_
  refine cw_ret ?_
  repeat first | refine ret_then ?_ | refine ret_inb ?_
  exact res2 rfl rfl ⟨rfl, S.out⟩
theorem awake44_E (W : World) : Fn Try.prog 38 [] W (RetG (.bool true) W) := by
  have hG3 : gridL 3 1 (fun i => ([0, 9, 0] : List Int).getD i 0) = [0, 9, 0] := gridL_made rfl
  have hmay : ∀ v ∈ ([0, 9, 0] : List Int), mayB v = true := fun v hv => by
    simp only [List.mem_cons, List.not_mem_nil, or_false] at hv
    rcases hv with rfl | rfl | rfl <;> rfl
  have hB : vB (gridL 3 1 (fun i => ([0, 9, 0] : List Int).getD i 0)) := by rw [hG3]; exact vB_of_may hmay
  have hmean : (gridL 3 1 fun i => meanW [0, 9, 0] 3 1 i 1) = [4, 3, 4] := by decide
  have hm2 : gridL 3 1 (fun i => (gridL 3 1 fun i => meanW (gridL 3 1 fun i => ([0, 9, 0] : List Int).getD i 0) 3 1 i 1).getD i 0) = [4, 3, 4] := by rw [hG3, hmean]; exact gridL_made rfl
  have hmeanC := fun (W : World) (p : Nat) (A : Option Addr) (cap : Nat) (bs : Nat → Nat) (Rs : Nat → Option Nat) (hG : GridAt W p 3 1 (fun i => ([0, 9, 0] : List Int).getD i 0) A cap bs Rs) => smean_E (W := W) 1 (by omega) hB hG
  have hvals := fun (W : World) (p : Nat) (A : Option Addr) (cap : Nat) (bs : Nat → Nat) (Rs : Nat → Option Nat) (hG : GridAt W p 3 1 (fun i => (gridL 3 1 fun i => meanW (gridL 3 1 fun i => ([0, 9, 0] : List Int).getD i 0) 3 1 i 1).getD i 0) A cap bs Rs) => gvalues_E (W := W) 0 0 2 0 (by omega) (by omega) hG
  have hrect : rectV 3 (fun i => (gridL 3 1 fun i => meanW (gridL 3 1 fun i => ([0, 9, 0] : List Int).getD i 0) 3 1 i 1).getD i 0) 0 0 (2 + 1 - 0) (0 + 1 - 0) = [4, 3, 4] := by
    rw [show (2 + 1 - 0) = 3 by rfl, show (0 + 1 - 0) = 1 by rfl, rectV_all]; exact hm2
  rw [hrect] at hvals
  have S := St.start W
  refine Fn_enter Try.func38 rfl Try.results38 Try.ntmps38 (by kernel_rfl) (by kernel_rfl) ?_
  repeat refine cw_seq ?_
  refine cw_region ?_
  refine rw_v (op_pure rfl) ?_
  first | refine rw_end ?_ | (refine rw_nil ?_; show CW _ _ _ _ _ _) | refine rw_nil ?_
  repeat refine cw_seq ?_
  refine cw_region ?_
  refine rw_buildS Try.underlying22 Try.sizeOf2 Try.zeroValue2 rfl rfl rfl rfl rfl rfl S ?_
  intro A_v3 w2_ g2_ S sa_v3
  refine rw_call rfl (from_E (W := w2_) (V := [0, 9, 0]) (gw := 3) (gh := 1) 3 (by omega) (by omega) rfl hmay (S.rd (i := 0) rfl)) ?_
  rintro _ w3_ ⟨p2, B, bc, bs2, Rs2, rfl, hG2, hf2, g3_⟩
  have S := S.pushGrid hG2 hf2 g3_
  iterate 5 refine rw_v (op_pure rfl) ?_
  first | refine rw_end ?_ | (refine rw_nil ?_; show CW _ _ _ _ _ _) | refine rw_nil ?_
  repeat refine cw_seq ?_
  refine cw_region ?_
  refine rw_v (op_pure rfl) ?_
  refine rw_call rfl (hmeanC _ _ _ _ _ _ (S.grid (i := 0) rfl)) ?_
  rintro _ w4_ ⟨p3, B3, bc3, bs3, Rs3, rfl, hG3_, hf3, g4_⟩
  have S := S.pushGrid hG3_ hf3 g4_
  iterate 5 refine rw_v (op_pure rfl) ?_
  first | refine rw_end ?_ | (refine rw_nil ?_; show CW _ _ _ _ _ _) | refine rw_nil ?_
  repeat refine cw_seq ?_
  refine cw_region ?_
  iterate 2 refine rw_v (op_pure rfl) ?_
  refine rw_call rfl (gall_E p3 3 1 (by omega) (by omega) _ w4_ ((S.grid (i := 0) rfl).top)) ?_
  rintro _ w5_ ⟨rfl, g5_⟩
  have S := S.gr g5_
  refine rw_call rfl (hvals _ _ _ _ _ _ (S.grid (i := 0) rfl)) ?_
  rintro _ w6_ ⟨A_l, c_l, rfl, hR_l, hf_l, g6_⟩
  have S := S.pushRow hR_l hf_l g6_
  iterate 5 refine rw_v (op_pure rfl) ?_
  first | refine rw_end ?_ | (refine rw_nil ?_; show CW _ _ _ _ _ _) | refine rw_nil ?_
  repeat refine cw_seq ?_
  refine cw_region ?_
  refine rw_v (op_pure rfl) ?_
  refine rw_v (op_b (b := true) rfl (beq_iff_eq.2 (by omega))) ?_
  refine rw_v (op_pure rfl) ?_
  first | refine rw_off rfl ?_ | (refine rw_on rfl ?_; refine rw_v (op_pure rfl) ?_)
  first | refine rw_off rfl ?_ | (refine rw_on rfl ?_; refine rw_v (op_b (b := true) rfl (beq_iff_eq.2 (by omega))) ?_)
  iterate 2 refine rw_v (op_pure rfl) ?_
  first | refine rw_off rfl ?_ | (refine rw_on rfl ?_; refine rw_v (op_pure rfl) ?_)
  first | refine rw_off rfl ?_ | (refine rw_on rfl ?_; refine rw_v (op_b (b := true) rfl (beq_iff_eq.2 (by omega))) ?_)
  iterate 2 refine rw_v (op_pure rfl) ?_
  first | refine rw_off rfl ?_ | (refine rw_on rfl ?_; refine rw_v (op_pure rfl) ?_)
  refine rw_on rfl ?_
  refine rw_buildS Try.underlying22 Try.sizeOf2 Try.zeroValue2 rfl rfl rfl rfl rfl rfl S ?_
  intro A_v4 w8_ g8_ S sa_v4
  refine rw_on rfl ?_
  refine rw_call rfl (rsame_E A_l A_v4 c_l 3 [4, 3, 4] [4, 3, 4] w8_ (by decide) (S.rd (i := 1) rfl) (S.rd (i := 0) rfl)) ?_
  rintro _ w9_ ⟨rfl, g9_⟩
  have S := S.gr g9_
  iterate 2 refine rw_v (op_pure rfl) ?_
  first | refine rw_end ?_ | (refine rw_nil ?_; show CW _ _ _ _ _ _) | refine rw_nil ?_
  repeat refine cw_seq ?_
  refine cw_ret ?_
  repeat first | refine ret_then ?_ | refine ret_inb ?_
  exact res1 rfl ⟨rfl, S.out⟩
theorem smoothNil_E (n : Int) (W : World) : Fn Try.prog 10 [.int .i64 n] W (RetG (.bool true) W) := by
  have S := St.start W
  refine Fn_enter Try.func10 rfl Try.results10 Try.ntmps10 (by kernel_rfl) (by kernel_rfl) ?_
  repeat refine cw_seq ?_
  refine cw_region ?_
  refine rw_v (op_pure rfl) ?_
  first | refine rw_end ?_ | (refine rw_nil ?_; show CW _ _ _ _ _ _) | refine rw_nil ?_
  repeat refine cw_seq ?_
  refine cw_region ?_
  refine rw_call rfl (awake44_E W) ?_
  rintro _ w1_ ⟨rfl, g1_⟩
  have S := S.gr g1_
  refine rw_v (op_pure rfl) ?_
  first | refine rw_end ?_ | (refine rw_nil ?_; show CW _ _ _ _ _ _) | refine rw_nil ?_
  repeat refine cw_seq ?_
  refine cw_false rfl ?_
  repeat refine cw_seq ?_
  refine cw_skip ?_
  try show CW _ _ _ _ _ _
  repeat refine cw_seq ?_
  refine cw_region ?_
  refine rw_v (op_pure rfl) ?_
  refine rw_call rfl (smeanNil_E n) ?_
  rintro _ w2_ ⟨rfl, g2_⟩
  have S := S.gr g2_
  iterate 5 refine rw_v (op_pure rfl) ?_
  first | refine rw_end ?_ | (refine rw_nil ?_; show CW _ _ _ _ _ _) | refine rw_nil ?_
  repeat refine cw_seq ?_
  refine cw_region ?_
  refine rw_v (op_pure rfl) ?_
  refine rw_call rfl (smedianNil_E n) ?_
  rintro _ w3_ ⟨rfl, g3_⟩
  have S := S.gr g3_
  iterate 5 refine rw_v (op_pure rfl) ?_
  first | refine rw_end ?_ | (refine rw_nil ?_; show CW _ _ _ _ _ _) | refine rw_nil ?_
  repeat refine cw_seq ?_
  refine cw_region ?_
  refine rw_v (op_pure rfl) ?_
  refine rw_call rfl (sspreadNil_E n) ?_
  rintro _ w4_ ⟨rfl, g4_⟩
  have S := S.gr g4_
  iterate 5 refine rw_v (op_pure rfl) ?_
  first | refine rw_end ?_ | (refine rw_nil ?_; show CW _ _ _ _ _ _) | refine rw_nil ?_
  repeat refine cw_seq ?_
  refine cw_region ?_
  refine rw_v (op_pure rfl) ?_
  refine rw_call rfl (sopenNil_E n) ?_
  rintro _ w5_ ⟨rfl, g5_⟩
  have S := S.gr g5_
  iterate 5 refine rw_v (op_pure rfl) ?_
  first | refine rw_end ?_ | (refine rw_nil ?_; show CW _ _ _ _ _ _) | refine rw_nil ?_
  repeat refine cw_seq ?_
  refine cw_region ?_
  refine rw_v (op_pure rfl) ?_
  refine rw_v (op_nilp Try.underlying28 rfl rfl) ?_
  refine rw_v (op_pure rfl) ?_
  first | refine rw_off rfl ?_ | (refine rw_on rfl ?_; refine rw_v (op_pure rfl) ?_)
  first | refine rw_off rfl ?_ | (refine rw_on rfl ?_; refine rw_v (op_b (b := true) rfl (beq_iff_eq.2 (by omega))) ?_)
  iterate 2 refine rw_v (op_pure rfl) ?_
  first | refine rw_off rfl ?_ | (refine rw_on rfl ?_; refine rw_v (op_pure rfl) ?_)
  first | refine rw_off rfl ?_ | (refine rw_on rfl ?_; refine rw_v (op_nilp Try.underlying28 rfl rfl) ?_)
  iterate 2 refine rw_v (op_pure rfl) ?_
  first | refine rw_off rfl ?_ | (refine rw_on rfl ?_; refine rw_v (op_pure rfl) ?_)
  first | refine rw_off rfl ?_ | (refine rw_on rfl ?_; refine rw_v (op_b (b := true) rfl (beq_iff_eq.2 (by omega))) ?_)
  iterate 2 refine rw_v (op_pure rfl) ?_
  first | refine rw_off rfl ?_ | (refine rw_on rfl ?_; refine rw_v (op_pure rfl) ?_)
  first | refine rw_off rfl ?_ | (refine rw_on rfl ?_; refine rw_v (op_len Try.underlying22 rfl) ?_)
  first | refine rw_off rfl ?_ | (refine rw_on rfl ?_; refine rw_v (op_b (b := true) rfl (beq_iff_eq.2 (by omega))) ?_)
  iterate 2 refine rw_v (op_pure rfl) ?_
  first | refine rw_off rfl ?_ | (refine rw_on rfl ?_; refine rw_v (op_pure rfl) ?_)
  first | refine rw_off rfl ?_ | (refine rw_on rfl ?_; refine rw_v (op_b (b := true) rfl (beq_iff_eq.2 (by omega))) ?_)
  iterate 2 refine rw_v (op_pure rfl) ?_
  first | refine rw_off rfl ?_ | (refine rw_on rfl ?_; refine rw_v (op_pure rfl) ?_)
  first | refine rw_off rfl ?_ | (refine rw_on rfl ?_; refine rw_v (op_nilp Try.underlying28 rfl rfl) ?_)
  iterate 2 refine rw_v (op_pure rfl) ?_
  first | refine rw_off rfl ?_ | (refine rw_on rfl ?_; refine rw_v (op_pure rfl) ?_)
  first | refine rw_off rfl ?_ | (refine rw_on rfl ?_; refine rw_v (op_b (b := true) rfl (beq_iff_eq.2 (by omega))) ?_)
  iterate 2 refine rw_v (op_pure rfl) ?_
  first | refine rw_end ?_ | (refine rw_nil ?_; show CW _ _ _ _ _ _) | refine rw_nil ?_
  repeat refine cw_seq ?_
  refine cw_ret ?_
  repeat first | refine ret_then ?_ | refine ret_inb ?_
  exact res1 rfl ⟨rfl, S.out⟩
end
end Go.Proofs.Ytbcgbcipigcbhaa
