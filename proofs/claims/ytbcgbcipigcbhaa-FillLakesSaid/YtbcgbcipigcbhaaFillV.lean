/- hachurelaw45: the example; a grid against a model; FillLevels. -/
import Derived.Test.YtbcgbcipigcbhaaFillE
import Derived.Test.YtbcgbcipigcbhaaFillS
namespace Go.Proofs.Ytbcgbcipigcbhaa
open Go.RowKit
set_option linter.unusedVariables false
set_option linter.unusedSimpArgs false
set_option maxRecDepth 100000

theorem IsLev.le_of {gw gh : Nat} {V : List Int} {L L' : Nat → Int} {rk rk' : Nat → Nat} (h : IsLev gw gh V L rk) (h' : IsLev gw gh V L' rk') : ∀ i, i < gw * gh → L' i ≤ L i :=
  h.ind (P := fun i => L' i ≤ L i) (fun i hi hb => by rw [h.bord i hi hb, h'.bord i hi hb]; exact Int.le_refl _) (fun i j hi hj hb s he hp => by have := h'.le i j hi hj hb s; omega)
theorem IsLev.uniq {gw gh : Nat} {V : List Int} {L L' : Nat → Int} {rk rk' : Nat → Nat} (h : IsLev gw gh V L rk) (h' : IsLev gw gh V L' rk') {i : Nat} (hi : i < gw * gh) : L' i = L i := by
  have h1 := h.le_of h' i hi
  have h2 := h'.le_of h i hi
  omega
def aw5V : List Int := [3, 3, 3, 3, 1, 2, 3, 3, 3]
def aw5L (i : Nat) : Int := [(3 : Int), 3, 3, 3, 2, 2, 3, 3, 3].getD i 0
def aw5R (i : Nat) : Nat := [0, 0, 0, 0, 1, 0, 0, 0, 0].getD i 0
theorem aw5_lev : IsLev 3 3 aw5V aw5L aw5R := by
  have h1 : ∀ i, i < 9 → bordB 3 (3 * 3) i = true → aw5L i = aw5V.getD i 0 := by decide
  have h2 : ∀ i, i < 9 → aw5V.getD i 0 ≤ aw5L i := by decide
  have h3 : ∀ i, i < 9 → ∀ j, j < 9 → bordB 3 (3 * 3) i = false → Side 3 i j → aw5L i ≤ max (aw5V.getD i 0) (aw5L j) := by decide
  have h4 : ∀ i, i < 9 → bordB 3 (3 * 3) i = false → ∃ j, j < 9 ∧ (Side 3 i j ∧ aw5R j < aw5R i ∧ aw5L i = max (aw5V.getD i 0) (aw5L j)) := by decide
  have h5 : ∀ i, i < 9 → aw5R i < 9 := by decide
  exact ⟨h1, h2, fun i j hi hj => h3 i hi j hj, fun i hi hb => by obtain ⟨j, a, b⟩ := h4 i hi hb; exact ⟨j, a, b⟩, h5⟩
theorem vB_small {V : List Int} (h : ∀ i, i < V.length → -2147483648 ≤ V.getD i 0 ∧ V.getD i 0 ≤ 2147483647) : vB V := by
  intro i
  by_cases hi : i < V.length
  · exact h i hi
  · rw [List.getD_eq_getElem?_getD, List.getElem?_eq_none (by omega)]; simp
theorem awake45_E (W : World) : Fn Try.prog 14 [] W (RetG (.bool true) W) := by
  have hGl : gridL 3 3 (fun i => aw5V.getD i 0) = aw5V := gridL_made rfl
  have hB : vB (gridL 3 3 (fun i => aw5V.getD i 0)) := by rw [hGl]; exact vB_small (by decide)
  have G := Gr.refl W
  have S := St.start W
  refine Fn_enter Try.func14 rfl Try.results14 Try.ntmps14 (by kernel_rfl) (by kernel_rfl) ?_
  repeat refine cw_seq ?_
  refine cw_region ?_
  refine rw_v (op_pure rfl) ?_
  first | refine rw_end ?_ | (refine rw_nil ?_; show CW _ _ _ _ _ _) | refine rw_nil ?_
  repeat refine cw_seq ?_
  refine cw_region ?_
  refine rw_buildS Try.underlying22 Try.sizeOf2 Try.zeroValue2 rfl rfl rfl rfl rfl rfl S ?_
  intro A_v w2_ g2_ S sa_v
  refine rw_call rfl (from_E (W := w2_) (gw := 3) (gh := 3) (V := aw5V) 9 (by omega) (by omega) rfl (by decide) (S.rd (i := 0) rfl)) ?_
  rintro _ w3_ ⟨p, B, bc, bs, Rs, rfl, hG, hf, g3_⟩
  have S := S.gr g3_
  iterate 5 refine rw_v (op_pure rfl) ?_
  first | refine rw_end ?_ | (refine rw_nil ?_; show CW _ _ _ _ _ _) | refine rw_nil ?_
  repeat refine cw_seq ?_
  refine cw_region ?_
  refine rw_v (op_pure rfl) ?_
  refine rw_call rfl (levels_E hB hG) ?_
  rintro _ w4_ ⟨lv, rk, hlev, p2, B2, bc2, bs2, Rs2, rfl, hG2, hf2, g4_⟩
  have S := S.gr g4_
  have hG := hG.gr g4_
  iterate 5 refine rw_v (op_pure rfl) ?_
  first | refine rw_end ?_ | (refine rw_nil ?_; show CW _ _ _ _ _ _) | refine rw_nil ?_
  have hl4 : ((List.range (3 * 3)).map lv).getD (1 * 3 + 1) 0 = 2 := by
    rw [levL_getD (by omega)]
    rw [hGl] at hlev
    exact aw5_lev.uniq hlev (by omega)
  have hat := fun w (g : Gr _ w) => gat_E (W := w) 1 1 (by omega) (by omega) (hG2.gr g)
  rw [hl4] at hat
  have G := G.trans S.out
  have S := St.start w4_
  repeat refine cw_seq ?_
  refine cw_region ?_
  refine rw_v (op_pure rfl) ?_
  refine rw_v (op_build (pl := [(0, 1), (1, 1)]) Try.underlying44 Try.zeroValue44 (fun w => by kernel_rfl) rfl rfl) ?_
  refine rw_call rfl (hat w4_ S.out) ?_
  rintro _ w5_ ⟨rfl, g5_⟩
  have S := S.gr g5_
  iterate 5 refine rw_v (op_pure rfl) ?_
  first | refine rw_end ?_ | (refine rw_nil ?_; show CW _ _ _ _ _ _) | refine rw_nil ?_
  repeat refine cw_seq ?_
  refine cw_region ?_
  refine rw_v (op_pure rfl) ?_
  refine rw_call rfl (volume_E hB (hG.gr S.out)) ?_
  rintro _ w6_ ⟨lv3, rk3, hlev3, rfl, g6_⟩
  have S := S.gr g6_
  iterate 5 refine rw_v (op_pure rfl) ?_
  first | refine rw_end ?_ | (refine rw_nil ?_; show CW _ _ _ _ _ _) | refine rw_nil ?_
  have hsum : sumF (3 * 3) (fun i => lv3 i - (gridL 3 3 (fun i => aw5V.getD i 0)).getD i 0) = 1 := by
    rw [hGl] at hlev3 ⊢
    rw [sumF_congr (g := fun i => aw5L i - aw5V.getD i 0) (fun i hi => by (try dsimp only); rw [aw5_lev.uniq hlev3 hi])]
    decide
  rw [hsum]
  repeat refine cw_seq ?_
  refine cw_region ?_
  refine rw_v (op_pure rfl) ?_
  first | refine rw_v (op_b (b := true) rfl (beq_iff_eq.2 (by omega))) ?_ | refine rw_v (op_b (b := false) rfl (beq_eq_false_iff_ne.2 (by omega))) ?_ | refine rw_v (op_pure rfl) ?_
  refine rw_v (op_pure rfl) ?_
  first | refine rw_off rfl ?_ | (refine rw_on rfl ?_; refine rw_v (op_pure rfl) ?_)
  first | refine rw_off rfl ?_ | (refine rw_on rfl ?_; (first | refine rw_v (op_b (b := true) rfl (beq_iff_eq.2 (by omega))) ?_ | refine rw_v (op_b (b := false) rfl (beq_eq_false_iff_ne.2 (by omega))) ?_ | refine rw_v (op_pure rfl) ?_))
  iterate 2 refine rw_v (op_pure rfl) ?_
  first | refine rw_off rfl ?_ | (refine rw_on rfl ?_; refine rw_v (op_pure rfl) ?_)
  first | refine rw_off rfl ?_ | (refine rw_on rfl ?_; (first | refine rw_v (op_b (b := true) rfl (beq_iff_eq.2 (by omega))) ?_ | refine rw_v (op_b (b := false) rfl (beq_eq_false_iff_ne.2 (by omega))) ?_ | refine rw_v (op_pure rfl) ?_))
  iterate 2 refine rw_v (op_pure rfl) ?_
  first | refine rw_off rfl ?_ | (refine rw_on rfl ?_; refine rw_v (op_pure rfl) ?_)
  first | refine rw_off rfl ?_ | (refine rw_on rfl ?_; (first | refine rw_v (op_b (b := true) rfl (beq_iff_eq.2 (by omega))) ?_ | refine rw_v (op_b (b := false) rfl (beq_eq_false_iff_ne.2 (by omega))) ?_ | refine rw_v (op_pure rfl) ?_))
  iterate 2 refine rw_v (op_pure rfl) ?_
  first | refine rw_off rfl ?_ | (refine rw_on rfl ?_; refine rw_v (op_pure rfl) ?_)
  first | refine rw_off rfl ?_ | (refine rw_on rfl ?_; (first | refine rw_v (op_b (b := true) rfl (beq_iff_eq.2 (by omega))) ?_ | refine rw_v (op_b (b := false) rfl (beq_eq_false_iff_ne.2 (by omega))) ?_ | refine rw_v (op_pure rfl) ?_))
  iterate 2 refine rw_v (op_pure rfl) ?_
  first | refine rw_off rfl ?_ | (refine rw_on rfl ?_; refine rw_v (op_pure rfl) ?_)
  first | refine rw_off rfl ?_ | (refine rw_on rfl ?_; (first | refine rw_v (op_b (b := true) rfl (beq_iff_eq.2 (by omega))) ?_ | refine rw_v (op_b (b := false) rfl (beq_eq_false_iff_ne.2 (by omega))) ?_ | refine rw_v (op_pure rfl) ?_))
  iterate 2 refine rw_v (op_pure rfl) ?_
  first | refine rw_end ?_ | (refine rw_nil ?_; show CW _ _ _ _ _ _) | refine rw_nil ?_
  repeat refine cw_seq ?_
  refine cw_ret ?_
  repeat first | refine ret_then ?_ | refine ret_inb ?_
  exact res1 rfl ⟨rfl, G.trans S.out⟩
section
variable {W : World} {A B : Option Addr} {p gw gh cap cu : Nat} {cc : Nat → Int} {bs : Nat → Nat} {Rs : Nat → Option Nat} {U : List Int}
theorem is_E (hU : U.length = gw * gh) (hG : GridAt W p gw gh cc A cap bs Rs) (hR : Rd W B (ints U)) :
    Fn Try.prog 41 [.pointer (some ⟨p, 0, none⟩), .agg #[.int .i64 gw, .int .i64 gh, .slice B (gw * gh) cu]] W (RetG (.bool (decide (gridL gw gh cc = U))) W) := by
  have hw := hG.sw
  have hh := hG.sh
  have hn : gw * gh ≤ 1024 * 1024 := Nat.mul_le_mul hw.2 hh.2
  have hV := gridL_len gw gh cc
  have e1 : ((gw : Int) - 1) = ((gw - 1 : Nat) : Int) := by omega
  have e2 : ((gh : Int) - 1) = ((gh - 1 : Nat) : Int) := by omega
  have hval : ∀ w, Gr W w → Fn Try.prog 43 [.pointer (some ⟨p, 0, none⟩), .agg #[.int .i64 0, .int .i64 0, .int .i64 (gw - 1), .int .i64 (gh - 1)]] w (RetNew (fun v => .tuple #[v, .int .i64 0]) 2 1 (gw * gh) (ints (gridL gw gh cc)) w) := fun w g => by
    have := gvalues_E (W := w) 0 0 (gw - 1) (gh - 1) (by omega) (by omega) (hG.gr g)
    rw [← e1, ← e2, show gw - 1 + 1 - 0 = gw by omega, show gh - 1 + 1 - 0 = gh by omega, rectV_all, Nat.mul_comm gh gw] at this
    exact this
  have hsame : ∀ (A1 : Option Addr) (c1 : Nat) (w : World), Rd w A1 (ints (gridL gw gh cc)) → Rd w B (ints U) → Fn Try.prog 30 [.slice A1 (gw * gh) c1, .slice B (gw * gh) cu] w (RetG (.bool (decide (gridL gw gh cc = U))) w) := fun A1 c1 w h1 h2 => by
    have := rsame_E A1 B c1 cu (gridL gw gh cc) U w (by omega) h1 h2
    rw [hV, hU] at this
    exact this
  have S := St.start W
  refine Fn_enter Try.func41 rfl Try.results41 Try.ntmps41 (by kernel_rfl) (by kernel_rfl) ?_
  repeat refine cw_seq ?_
  refine cw_region ?_
  refine rw_newB (op_box rfl) S ?_
  intro b_md w2_ g2_ S
  refine rw_v (op_pure rfl) ?_
  first | refine rw_end ?_ | (refine rw_nil ?_; show CW _ _ _ _ _ _) | refine rw_nil ?_
  repeat refine cw_seq ?_
  refine cw_region ?_
  refine rw_v (op_pure rfl) ?_
  refine rw_call rfl (gsize_E p gw gh _ w2_ (hG.top.gr S.out)) ?_
  rintro _ w3_ ⟨rfl, g3_⟩
  have S := S.gr g3_
  iterate 5 refine rw_v (op_pure rfl) ?_
  first | refine rw_end ?_ | (refine rw_nil ?_; show CW _ _ _ _ _ _) | refine rw_nil ?_
  repeat refine cw_seq ?_
  refine cw_region ?_
  iterate 2 refine rw_v (op_pure rfl) ?_
  refine rw_call rfl (gall_E p gw gh hw.2 hh.2 _ w3_ (hG.top.gr S.out)) ?_
  rintro _ w4_ ⟨rfl, g4_⟩
  have S := S.gr g4_
  refine rw_call rfl (hval w4_ S.out) ?_
  rintro _ w5_ ⟨A_v, c_v, rfl, hR_v, hf_v, g5_⟩
  have S := S.pushRow hR_v hf_v g5_
  iterate 5 refine rw_v (op_pure rfl) ?_
  first | refine rw_end ?_ | (refine rw_nil ?_; show CW _ _ _ _ _ _) | refine rw_nil ?_
  repeat refine cw_seq ?_
  refine cw_region ?_
  refine rw_v (op_pure rfl) ?_
  refine rw_v (op_fieldAddr Try.underlying25 rfl Try.sizeOf2 rfl rfl) ?_
  refine rw_r (op_loadB Try.underlying2 rfl rfl (S.blk (i := 1) rfl) rfl) ?_
  first | refine rw_v (op_b (b := true) rfl (beq_iff_eq.2 (by omega))) ?_ | refine rw_v (op_b (b := false) rfl (beq_eq_false_iff_ne.2 (by omega))) ?_ | refine rw_v (op_pure rfl) ?_
  refine rw_v (op_pure rfl) ?_
  first | refine rw_off rfl ?_ | (refine rw_on rfl ?_; refine rw_v (op_pure rfl) ?_)
  first | refine rw_off rfl ?_ | (refine rw_on rfl ?_; refine rw_v (op_fieldAddr Try.underlying25 rfl Try.sizeOf2 rfl rfl) ?_)
  first | refine rw_off rfl ?_ | (refine rw_on rfl ?_; refine rw_r (op_loadB Try.underlying2 rfl rfl (S.blk (i := 1) rfl) rfl) ?_)
  first | refine rw_off rfl ?_ | (refine rw_on rfl ?_; (first | refine rw_v (op_b (b := true) rfl (beq_iff_eq.2 (by omega))) ?_ | refine rw_v (op_b (b := false) rfl (beq_eq_false_iff_ne.2 (by omega))) ?_ | refine rw_v (op_pure rfl) ?_))
  iterate 2 refine rw_v (op_pure rfl) ?_
  first | refine rw_off rfl ?_ | (refine rw_on rfl ?_; refine rw_v (op_pure rfl) ?_)
  first | refine rw_off rfl ?_ | (refine rw_on rfl ?_; (first | refine rw_v (op_b (b := true) rfl (beq_iff_eq.2 (by omega))) ?_ | refine rw_v (op_b (b := false) rfl (beq_eq_false_iff_ne.2 (by omega))) ?_ | refine rw_v (op_pure rfl) ?_))
  iterate 2 refine rw_v (op_pure rfl) ?_
  first | refine rw_off rfl ?_ | (refine rw_on rfl ?_; refine rw_v (op_pure rfl) ?_)
  first | refine rw_off rfl ?_ | (refine rw_on rfl ?_; refine rw_v (op_fieldAddr Try.underlying25 rfl Try.sizeOf22 rfl rfl) ?_)
  first | refine rw_off rfl ?_ | (refine rw_on rfl ?_; refine rw_r (op_loadB Try.underlying22 rfl rfl (S.blk (i := 1) rfl) rfl) ?_)
  refine rw_on rfl ?_
  refine rw_call rfl (hsame A_v c_v w5_ (S.rd (i := 0) rfl) (hR.gr S.out)) ?_
  rintro _ w6_ ⟨rfl, g6_⟩
  have S := S.gr g6_
  iterate 2 refine rw_v (op_pure rfl) ?_
  first | refine rw_end ?_ | (refine rw_nil ?_; show CW _ _ _ _ _ _) | refine rw_nil ?_
  repeat refine cw_seq ?_
  refine cw_ret ?_
  repeat first | refine ret_then ?_ | refine ret_inb ?_
  exact res1 rfl ⟨rfl, S.out⟩
end
end Go.Proofs.Ytbcgbcipigcbhaa
