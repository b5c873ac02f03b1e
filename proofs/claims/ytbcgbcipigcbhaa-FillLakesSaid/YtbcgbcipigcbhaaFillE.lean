/- Package fill: Levels, Depths, Volume; nothing in no grid. -/
import Derived.Test.YtbcgbcipigcbhaaFillD
import Derived.Test.YtbcgbcipigcbhaaPaintB
namespace Go.Proofs.Ytbcgbcipigcbhaa
open Go.RowKit
set_option linter.unusedVariables false
set_option linter.unusedSimpArgs false
set_option maxRecDepth 100000

section
variable {W : World}
theorem gallNil_E : Fn Try.prog 44 [.pointer none] W (RetG (.agg #[.int .i64 0, .int .i64 0, .int .i64 0, .int .i64 0]) W) := by
  have S := St.start W
  refine Fn_enter Try.func44 rfl Try.results44 Try.ntmps44 (by kernel_rfl) (by kernel_rfl) ?_
  repeat refine cw_seq ?_
  refine cw_region ?_
  refine rw_newB (op_alloc Try.zeroValue75 rfl) S ?_
  intro b_r w2_ g2_ S
  first | refine rw_end ?_ | (refine rw_nil ?_; show CW _ _ _ _ _ _) | refine rw_nil ?_
  repeat refine cw_seq ?_
  refine cw_region ?_
  refine rw_v (op_pure rfl) ?_
  refine rw_v (op_nilp Try.underlying28 rfl rfl) ?_
  first | refine rw_end ?_ | (refine rw_nil ?_; show CW _ _ _ _ _ _) | refine rw_nil ?_
  repeat refine cw_seq ?_
  refine cw_true rfl ?_
  repeat refine cw_seq ?_
  refine cw_region ?_
  refine rw_v (op_build (pl := [(0, 1), (1, 1), (2, 1), (3, 1)]) Try.underlying75 Try.zeroValue75 (fun w => by kernel_rfl) rfl rfl) ?_
  refine rw_storeSA (i := 0) S rfl (Try.sizeOf75 _) rfl rfl rfl rfl rfl rfl ?_
  intro w3_ S
  first | refine rw_end ?_ | (refine rw_nil ?_; show CW _ _ _ _ _ _) | refine rw_nil ?_
  repeat refine cw_seq ?_
  refine cw_ret ?_
  repeat first | refine ret_then ?_ | refine ret_inb ?_
  exact resA Try.underlying75 rfl (Try.sizeOf75 _) rfl (S.blk (i := 0) rfl) rfl rfl ⟨rfl, S.out⟩
theorem gsizeNil_E : Fn Try.prog 60 [.pointer none] W (RetG (.tuple #[.int .i64 0, .int .i64 0]) W) := by
  have S := St.start W
  refine Fn_enter Try.func60 rfl Try.results60 Try.ntmps60 (by kernel_rfl) (by kernel_rfl) ?_
  repeat refine cw_seq ?_
  refine cw_region ?_
  iterate 2 refine rw_v (op_pure rfl) ?_
  first | refine rw_end ?_ | (refine rw_nil ?_; show CW _ _ _ _ _ _) | refine rw_nil ?_
  repeat refine cw_seq ?_
  refine cw_region ?_
  refine rw_v (op_pure rfl) ?_
  refine rw_v (op_nilp Try.underlying28 rfl rfl) ?_
  first | refine rw_end ?_ | (refine rw_nil ?_; show CW _ _ _ _ _ _) | refine rw_nil ?_
  repeat refine cw_seq ?_
  refine cw_true rfl ?_
  repeat refine cw_seq ?_
  refine cw_region ?_
  iterate 2 refine rw_v (op_pure rfl) ?_
  first | refine rw_end ?_ | (refine rw_nil ?_; show CW _ _ _ _ _ _) | refine rw_nil ?_
  repeat refine cw_seq ?_
  refine cw_ret ?_
  repeat first | refine ret_then ?_ | refine ret_inb ?_
  exact res2 rfl rfl ⟨rfl, S.out⟩
theorem gcheckNil_E (x0 y0 x1 y1 : Int) : Fn Try.prog 92 [.pointer none, .agg #[.int .i64 x0, .int .i64 y0, .int .i64 x1, .int .i64 y1]] W (RetG (.int .i64 1) W) := by
  have S := St.start W
  refine Fn_enter Try.func92 rfl Try.results92 Try.ntmps92 (by kernel_rfl) (by kernel_rfl) ?_
  repeat refine cw_seq ?_
  refine cw_region ?_
  refine rw_newB (op_box rfl) S ?_
  intro b_b1 w2_ g2_ S
  refine rw_v (op_pure rfl) ?_
  first | refine rw_end ?_ | (refine rw_nil ?_; show CW _ _ _ _ _ _) | refine rw_nil ?_
  repeat refine cw_seq ?_
  refine cw_region ?_
  refine rw_v (op_pure rfl) ?_
  refine rw_v (op_nilp Try.underlying28 rfl rfl) ?_
  first | refine rw_end ?_ | (refine rw_nil ?_; show CW _ _ _ _ _ _) | refine rw_nil ?_
  repeat refine cw_seq ?_
  refine cw_true rfl ?_
  repeat refine cw_seq ?_
  refine cw_region ?_
  refine rw_v (op_pure rfl) ?_
  first | refine rw_end ?_ | (refine rw_nil ?_; show CW _ _ _ _ _ _) | refine rw_nil ?_
  repeat refine cw_seq ?_
  refine cw_ret ?_
  repeat first | refine ret_then ?_ | refine ret_inb ?_
  exact res1 rfl ⟨rfl, S.out⟩
theorem gvaluesNil_E (x0 y0 x1 y1 : Int) : Fn Try.prog 43 [.pointer none, .agg #[.int .i64 x0, .int .i64 y0, .int .i64 x1, .int .i64 y1]] W (RetG (.tuple #[.slice none 0 0, .int .i64 1]) W) := by
  have S := St.start W
  refine Fn_enter Try.func43 rfl Try.results43 Try.ntmps43 (by kernel_rfl) (by kernel_rfl) ?_
  repeat refine cw_seq ?_
  refine cw_region ?_
  refine rw_newB (op_box rfl) S ?_
  intro b_r w2_ g2_ S
  iterate 2 refine rw_v (op_pure rfl) ?_
  first | refine rw_end ?_ | (refine rw_nil ?_; show CW _ _ _ _ _ _) | refine rw_nil ?_
  repeat refine cw_seq ?_
  refine cw_region ?_
  refine rw_v (op_pure rfl) ?_
  refine rw_r (op_loadAB Try.underlying75 rfl (Try.sizeOf75 _) rfl (S.blk (i := 0) rfl) rfl rfl) ?_
  refine rw_call rfl (gcheckNil_E (W := w2_) _ _ _ _) ?_
  rintro _ w3_ ⟨rfl, g3_⟩
  have S := S.gr g3_
  refine rw_v (op_pure rfl) ?_
  first | refine rw_end ?_ | (refine rw_nil ?_; show CW _ _ _ _ _ _) | refine rw_nil ?_
  repeat refine cw_seq ?_
  refine cw_region ?_
  refine rw_v (op_pure rfl) ?_
  refine rw_v (op_b (b := true) rfl (bne_iff_ne.2 (by omega))) ?_
  first | refine rw_end ?_ | (refine rw_nil ?_; show CW _ _ _ _ _ _) | refine rw_nil ?_
  repeat refine cw_seq ?_
  refine cw_true rfl ?_
  repeat refine cw_seq ?_
  refine cw_region ?_
  iterate 3 refine rw_v (op_pure rfl) ?_
  first | refine rw_end ?_ | (refine rw_nil ?_; show CW _ _ _ _ _ _) | refine rw_nil ?_
  repeat refine cw_seq ?_
  refine cw_ret ?_
  repeat first | refine ret_then ?_ | refine ret_inb ?_
  exact res2 rfl rfl ⟨rfl, S.out⟩
theorem fofNil_E : Fn Try.prog 62 [.pointer none] W (RetG (.tuple #[.pointer none, .int .i64 1]) W) := by
  have S := St.start W
  refine Fn_enter Try.func62 rfl Try.results62 Try.ntmps62 (by kernel_rfl) (by kernel_rfl) ?_
  repeat refine cw_seq ?_
  refine cw_region ?_
  iterate 2 refine rw_v (op_pure rfl) ?_
  first | refine rw_end ?_ | (refine rw_nil ?_; show CW _ _ _ _ _ _) | refine rw_nil ?_
  repeat refine cw_seq ?_
  refine cw_region ?_
  iterate 2 refine rw_v (op_pure rfl) ?_
  refine rw_call rfl (gallNil_E (W := W)) ?_
  rintro _ w1_ ⟨rfl, g1_⟩
  have S := S.gr g1_
  refine rw_call rfl (gvaluesNil_E (W := w1_) _ _ _ _) ?_
  rintro _ w2_ ⟨rfl, g2_⟩
  have S := S.gr g2_
  iterate 5 refine rw_v (op_pure rfl) ?_
  first | refine rw_end ?_ | (refine rw_nil ?_; show CW _ _ _ _ _ _) | refine rw_nil ?_
  repeat refine cw_seq ?_
  refine cw_region ?_
  refine rw_v (op_pure rfl) ?_
  refine rw_v (op_b (b := true) rfl (bne_iff_ne.2 (by omega))) ?_
  first | refine rw_end ?_ | (refine rw_nil ?_; show CW _ _ _ _ _ _) | refine rw_nil ?_
  repeat refine cw_seq ?_
  refine cw_true rfl ?_
  repeat refine cw_seq ?_
  refine cw_region ?_
  iterate 3 refine rw_v (op_pure rfl) ?_
  first | refine rw_end ?_ | (refine rw_nil ?_; show CW _ _ _ _ _ _) | refine rw_nil ?_
  repeat refine cw_seq ?_
  refine cw_ret ?_
  repeat first | refine ret_then ?_ | refine ret_inb ?_
  exact res2 rfl rfl ⟨rfl, S.out⟩
theorem levelsNil_E : Fn Try.prog 18 [.pointer none] W (RetG (.tuple #[.pointer none, .int .i64 1]) W) := by
  have S := St.start W
  refine Fn_enter Try.func18 rfl Try.results18 Try.ntmps18 (by kernel_rfl) (by kernel_rfl) ?_
  repeat refine cw_seq ?_
  refine cw_region ?_
  iterate 2 refine rw_v (op_pure rfl) ?_
  first | refine rw_end ?_ | (refine rw_nil ?_; show CW _ _ _ _ _ _) | refine rw_nil ?_
  repeat refine cw_seq ?_
  refine cw_region ?_
  refine rw_v (op_pure rfl) ?_
  refine rw_call rfl (fofNil_E (W := W)) ?_
  rintro _ w1_ ⟨rfl, g1_⟩
  have S := S.gr g1_
  iterate 5 refine rw_v (op_pure rfl) ?_
  first | refine rw_end ?_ | (refine rw_nil ?_; show CW _ _ _ _ _ _) | refine rw_nil ?_
  repeat refine cw_seq ?_
  refine cw_region ?_
  refine rw_v (op_pure rfl) ?_
  refine rw_v (op_b (b := true) rfl (bne_iff_ne.2 (by omega))) ?_
  first | refine rw_end ?_ | (refine rw_nil ?_; show CW _ _ _ _ _ _) | refine rw_nil ?_
  repeat refine cw_seq ?_
  refine cw_true rfl ?_
  repeat refine cw_seq ?_
  refine cw_region ?_
  iterate 3 refine rw_v (op_pure rfl) ?_
  first | refine rw_end ?_ | (refine rw_nil ?_; show CW _ _ _ _ _ _) | refine rw_nil ?_
  repeat refine cw_seq ?_
  refine cw_ret ?_
  repeat first | refine ret_then ?_ | refine ret_inb ?_
  exact res2 rfl rfl ⟨rfl, S.out⟩
theorem depthsNil_E : Fn Try.prog 59 [.pointer none] W (RetG (.tuple #[.slice none 0 0, .int .i64 1]) W) := by
  have S := St.start W
  refine Fn_enter Try.func59 rfl Try.results59 Try.ntmps59 (by kernel_rfl) (by kernel_rfl) ?_
  repeat refine cw_seq ?_
  refine cw_region ?_
  iterate 2 refine rw_v (op_pure rfl) ?_
  first | refine rw_end ?_ | (refine rw_nil ?_; show CW _ _ _ _ _ _) | refine rw_nil ?_
  repeat refine cw_seq ?_
  refine cw_region ?_
  refine rw_v (op_pure rfl) ?_
  refine rw_call rfl (fofNil_E (W := W)) ?_
  rintro _ w1_ ⟨rfl, g1_⟩
  have S := S.gr g1_
  iterate 5 refine rw_v (op_pure rfl) ?_
  first | refine rw_end ?_ | (refine rw_nil ?_; show CW _ _ _ _ _ _) | refine rw_nil ?_
  repeat refine cw_seq ?_
  refine cw_region ?_
  refine rw_v (op_pure rfl) ?_
  refine rw_v (op_b (b := true) rfl (bne_iff_ne.2 (by omega))) ?_
  first | refine rw_end ?_ | (refine rw_nil ?_; show CW _ _ _ _ _ _) | refine rw_nil ?_
  repeat refine cw_seq ?_
  refine cw_true rfl ?_
  repeat refine cw_seq ?_
  refine cw_region ?_
  iterate 3 refine rw_v (op_pure rfl) ?_
  first | refine rw_end ?_ | (refine rw_nil ?_; show CW _ _ _ _ _ _) | refine rw_nil ?_
  repeat refine cw_seq ?_
  refine cw_ret ?_
  repeat first | refine ret_then ?_ | refine ret_inb ?_
  exact res2 rfl rfl ⟨rfl, S.out⟩
theorem lakesNil_E : Fn Try.prog 17 [.pointer none] W (RetG (.tuple #[.slice none 0 0, .int .i64 1]) W) := by
  have S := St.start W
  refine Fn_enter Try.func17 rfl Try.results17 Try.ntmps17 (by kernel_rfl) (by kernel_rfl) ?_
  repeat refine cw_seq ?_
  refine cw_region ?_
  iterate 2 refine rw_v (op_pure rfl) ?_
  first | refine rw_end ?_ | (refine rw_nil ?_; show CW _ _ _ _ _ _) | refine rw_nil ?_
  repeat refine cw_seq ?_
  refine cw_region ?_
  refine rw_v (op_pure rfl) ?_
  refine rw_call rfl (depthsNil_E (W := W)) ?_
  rintro _ w1_ ⟨rfl, g1_⟩
  have S := S.gr g1_
  iterate 5 refine rw_v (op_pure rfl) ?_
  first | refine rw_end ?_ | (refine rw_nil ?_; show CW _ _ _ _ _ _) | refine rw_nil ?_
  repeat refine cw_seq ?_
  refine cw_region ?_
  refine rw_v (op_pure rfl) ?_
  refine rw_v (op_b (b := true) rfl (bne_iff_ne.2 (by omega))) ?_
  first | refine rw_end ?_ | (refine rw_nil ?_; show CW _ _ _ _ _ _) | refine rw_nil ?_
  repeat refine cw_seq ?_
  refine cw_true rfl ?_
  repeat refine cw_seq ?_
  refine cw_region ?_
  iterate 3 refine rw_v (op_pure rfl) ?_
  first | refine rw_end ?_ | (refine rw_nil ?_; show CW _ _ _ _ _ _) | refine rw_nil ?_
  repeat refine cw_seq ?_
  refine cw_ret ?_
  repeat first | refine ret_then ?_ | refine ret_inb ?_
  exact res2 rfl rfl ⟨rfl, S.out⟩
theorem volumeNil_E : Fn Try.prog 19 [.pointer none] W (RetG (.tuple #[.int .i64 0, .int .i64 1]) W) := by
  have S := St.start W
  refine Fn_enter Try.func19 rfl Try.results19 Try.ntmps19 (by kernel_rfl) (by kernel_rfl) ?_
  repeat refine cw_seq ?_
  refine cw_region ?_
  iterate 2 refine rw_v (op_pure rfl) ?_
  first | refine rw_end ?_ | (refine rw_nil ?_; show CW _ _ _ _ _ _) | refine rw_nil ?_
  repeat refine cw_seq ?_
  refine cw_region ?_
  refine rw_v (op_pure rfl) ?_
  refine rw_call rfl (depthsNil_E (W := W)) ?_
  rintro _ w1_ ⟨rfl, g1_⟩
  have S := S.gr g1_
  iterate 5 refine rw_v (op_pure rfl) ?_
  first | refine rw_end ?_ | (refine rw_nil ?_; show CW _ _ _ _ _ _) | refine rw_nil ?_
  repeat refine cw_seq ?_
  refine cw_region ?_
  refine rw_v (op_pure rfl) ?_
  first | refine rw_end ?_ | (refine rw_nil ?_; show CW _ _ _ _ _ _) | refine rw_nil ?_
  repeat refine cw_seq ?_
  refine cw_region ?_
  refine rw_v (op_pure rfl) ?_
  refine rw_v (op_len Try.underlying22 rfl) ?_
  refine rw_v (op_pure rfl) ?_
  first | refine rw_end ?_ | (refine rw_nil ?_; show CW _ _ _ _ _ _) | refine rw_nil ?_
  repeat refine cw_seq ?_
  refine cw_block ?_
  repeat refine cw_seq ?_
  refine cw_loop (fun m e w => SL e [(5, .int .i64 1), (6, .int .i64 0), (14, .slice none 0 0), (15, .int .i64 0), (16, .int .i64 0)] ∧ St No W w []) 0 ⟨⟨rfl, rfl, rfl, rfl, rfl, trivial⟩, S⟩ ?_
  clear S
  rintro m e w ⟨hsl, S⟩
  rw [hsl.fold]
  repeat refine cw_seq ?_
  refine cw_region ?_
  refine rw_v (op_b (b := false) rfl (decide_eq_false (by omega))) ?_
  first | refine rw_end ?_ | (refine rw_nil ?_; show CW _ _ _ _ _ _) | refine rw_nil ?_
  repeat refine cw_seq ?_
  refine cw_false rfl ?_
  repeat refine cw_seq ?_
  refine cw_exit ?_
  repeat first | refine exit_then ?_ | refine exit_inb ?_
  show CW _ _ _ _ _ _
  repeat refine cw_seq ?_
  refine cw_region ?_
  iterate 4 refine rw_v (op_pure rfl) ?_
  first | refine rw_end ?_ | (refine rw_nil ?_; show CW _ _ _ _ _ _) | refine rw_nil ?_
  repeat refine cw_seq ?_
  refine cw_ret ?_
  repeat first | refine ret_then ?_ | refine ret_inb ?_
  exact res2 rfl rfl ⟨rfl, S.out⟩
end

/-! ### In a grid -/
theorem cellsQ_levL (n : Nat) (f : Nat → Int) : cellsQ n f = ints ((List.range n).map f) := cellsQ_ints n f
theorem levL_getD {n i : Nat} {f : Nat → Int} (h : i < n) : ((List.range n).map f).getD i 0 = f i := by
  rw [List.getD_eq_getElem?_getD, List.getElem?_map, List.getElem?_range h]; rfl
theorem IsLev.may {gw gh : Nat} {V : List Int} {L : Nat → Int} {rk : Nat → Nat} (h : IsLev gw gh V L rk) (hB : vB V) {i : Nat} (hi : i < gw * gh) : -2147483648 ≤ L i ∧ L i ≤ 2147483647 := by
  have h1 := h.ge i hi
  have h2 := (hB i).1
  exact ⟨by omega, h.bound (fun i _ => (hB i).2) i hi⟩
def sumF : Nat → (Nat → Int) → Int
  | 0, _ => 0
  | k + 1, f => sumF k f + f k
theorem sumF_bd {f : Nat → Int} {b : Int} (hf : ∀ i, 0 ≤ f i ∧ f i ≤ 4294967295) : ∀ k : Nat, 0 ≤ sumF k f ∧ sumF k f ≤ k * 4294967295
  | 0 => by simp [sumF]
  | k + 1 => by
    have ih := sumF_bd (b := b) hf k
    have := hf k
    simp only [sumF]
    push_cast
    omega
theorem sumF_congr {f g : Nat → Int} : ∀ {k : Nat}, (∀ i, i < k → f i = g i) → sumF k f = sumF k g
  | 0, _ => rfl
  | k + 1, h => by
    have ih := sumF_congr (k := k) (f := f) (g := g) (fun i hi => h i (by omega))
    simp only [sumF]
    rw [ih, h k (by omega)]
section
variable {W : World} {A : Option Addr} {p gw gh cap : Nat} {cc : Nat → Int} {bs : Nat → Nat} {Rs : Nat → Option Nat}
theorem levels_E (hB : vB (gridL gw gh cc)) (hG : GridAt W p gw gh cc A cap bs Rs) :
    Fn Try.prog 18 [.pointer (some ⟨p, 0, none⟩)] W (fun v w' => ∃ lv rk, IsLev gw gh (gridL gw gh cc) lv rk ∧ RetGrid (fun p => .tuple #[p, .int .i64 0]) gw gh (fun i => ((List.range (gw * gh)).map lv).getD i 0) W v w') := by
  have hw := hG.sw
  have hh := hG.sh
  have S := St.start W
  refine Fn_enter Try.func18 rfl Try.results18 Try.ntmps18 (by kernel_rfl) (by kernel_rfl) ?_
  repeat refine cw_seq ?_
  refine cw_region ?_
  iterate 2 refine rw_v (op_pure rfl) ?_
  first | refine rw_end ?_ | (refine rw_nil ?_; show CW _ _ _ _ _ _) | refine rw_nil ?_
  repeat refine cw_seq ?_
  refine cw_region ?_
  refine rw_v (op_pure rfl) ?_
  refine rw_call rfl (fof_E hG) ?_
  rintro _ w1_ ⟨lv, rk, hlev, q, sq, Al, cl, Ak, ck, Av, cv, rfl, S2⟩
  have S := S.app S2
  iterate 5 refine rw_v (op_pure rfl) ?_
  first | refine rw_end ?_ | (refine rw_nil ?_; show CW _ _ _ _ _ _) | refine rw_nil ?_
  repeat refine cw_seq ?_
  refine cw_region ?_
  refine rw_v (op_pure rfl) ?_
  refine rw_v (op_b (b := false) rfl (bne_eq_false_iff_eq.2 (by omega))) ?_
  first | refine rw_end ?_ | (refine rw_nil ?_; show CW _ _ _ _ _ _) | refine rw_nil ?_
  repeat refine cw_seq ?_
  refine cw_false rfl ?_
  repeat refine cw_seq ?_
  refine cw_skip ?_
  try show CW _ _ _ _ _ _
  repeat refine cw_seq ?_
  refine cw_region ?_
  refine rw_v (op_pure rfl) ?_
  refine rw_call rfl (gsize_E p gw gh _ w1_ (hG.top.gr S.out)) ?_
  rintro _ w2_ ⟨rfl, g2_⟩
  have S := S.gr g2_
  iterate 5 refine rw_v (op_pure rfl) ?_
  first | refine rw_end ?_ | (refine rw_nil ?_; show CW _ _ _ _ _ _) | refine rw_nil ?_
  have hlr := (S.row (i := 1) rfl).rd
  rw [cellsQ_ints] at hlr
  have hmay : ∀ v ∈ (List.range (gw * gh)).map lv, mayB v = true := fun v hv => by
    obtain ⟨i, hi, rfl⟩ := List.mem_map.1 hv
    exact (mayB_iff _).2 (hlev.may hB (List.mem_range.1 hi))
  have hfrom := from_E (V := (List.range (gw * gh)).map lv) cl hw hh (by simp) hmay hlr
  rw [List.length_map, List.length_range] at hfrom
  repeat refine cw_seq ?_
  refine cw_region ?_
  iterate 4 refine rw_v (op_pure rfl) ?_
  refine rw_v (op_fieldAddr Try.underlying106 rfl Try.sizeOf22 rfl rfl) ?_
  refine rw_r (op_loadB Try.underlying22 rfl rfl (S.blk (i := 0) rfl) rfl) ?_
  refine rw_call rfl (hfrom) ?_
  rintro _ w3_ ⟨p2, B, bc, bs2, Rs2, rfl, hG2, hf2, g3_⟩
  have S := S.pushGrid hG2 hf2 g3_
  iterate 4 refine rw_v (op_pure rfl) ?_
  first | refine rw_end ?_ | (refine rw_nil ?_; show CW _ _ _ _ _ _) | refine rw_nil ?_
  repeat refine cw_seq ?_
  refine cw_ret ?_
  repeat first | refine ret_then ?_ | refine ret_inb ?_
  exact res2 rfl rfl ⟨lv, rk, hlev, S.retGrid (i := 0) (mk := fun p => .tuple #[p, .int .i64 0]) rfl⟩
theorem depths_E (hB : vB (gridL gw gh cc)) (hG : GridAt W p gw gh cc A cap bs Rs) :
    Fn Try.prog 59 [.pointer (some ⟨p, 0, none⟩)] W (fun v w' => ∃ lv rk, IsLev gw gh (gridL gw gh cc) lv rk ∧ RetNew (fun s => .tuple #[s, .int .i64 0]) 2 1 (gw * gh) (cellsQ (gw * gh) (fun i => lv i - (gridL gw gh cc).getD i 0)) W v w') := by
  have hw := hG.sw
  have hh := hG.sh
  have hn : gw * gh ≤ 1024 * 1024 := Nat.mul_le_mul hw.2 hh.2
  have hV := gridL_len gw gh cc
  have S := St.start W
  refine Fn_enter Try.func59 rfl Try.results59 Try.ntmps59 (by kernel_rfl) (by kernel_rfl) ?_
  repeat refine cw_seq ?_
  refine cw_region ?_
  iterate 2 refine rw_v (op_pure rfl) ?_
  first | refine rw_end ?_ | (refine rw_nil ?_; show CW _ _ _ _ _ _) | refine rw_nil ?_
  repeat refine cw_seq ?_
  refine cw_region ?_
  refine rw_v (op_pure rfl) ?_
  refine rw_call rfl (fof_E hG) ?_
  rintro _ w1_ ⟨lv, rk, hlev, q, sq, Al, cl, Ak, ck, Av, cv, rfl, S2⟩
  have S := S.app S2
  iterate 5 refine rw_v (op_pure rfl) ?_
  first | refine rw_end ?_ | (refine rw_nil ?_; show CW _ _ _ _ _ _) | refine rw_nil ?_
  repeat refine cw_seq ?_
  refine cw_region ?_
  refine rw_v (op_pure rfl) ?_
  refine rw_v (op_b (b := false) rfl (bne_eq_false_iff_eq.2 (by omega))) ?_
  first | refine rw_end ?_ | (refine rw_nil ?_; show CW _ _ _ _ _ _) | refine rw_nil ?_
  repeat refine cw_seq ?_
  refine cw_false rfl ?_
  repeat refine cw_seq ?_
  refine cw_skip ?_
  try show CW _ _ _ _ _ _
  generalize gridL gw gh cc = V at *
  repeat refine cw_seq ?_
  refine cw_region ?_
  iterate 2 refine rw_v (op_pure rfl) ?_
  refine rw_v (op_fieldAddr Try.underlying106 rfl Try.sizeOf22 rfl rfl) ?_
  refine rw_r (op_loadB Try.underlying22 rfl rfl (S.blk (i := 0) rfl) rfl) ?_
  refine rw_v (op_len Try.underlying22 rfl) ?_
  refine rw_v (op_pure rfl) ?_
  first | refine rw_end ?_ | (refine rw_nil ?_; show CW _ _ _ _ _ _) | refine rw_nil ?_
  repeat refine cw_seq ?_
  refine cw_block ?_
  repeat refine cw_seq ?_
  refine cw_loop (fun m e w => ∃ k : Nat, k + m = gw * gh ∧ SL e [(4, .pointer (some ⟨q, 0, none⟩)), (19, .slice Av (gw * gh) cv), (20, .int .i64 (gw * gh : Nat)), (21, .int .i64 k)] ∧
    St No W w [.blk q 106 [.int .i64 gw, .slice Av (gw * gh) cv, .slice Al (gw * gh) cl, .slice Ak (gw * gh) ck, sq], .row 2 1 Al (gw * gh) cl (cellsQ (gw * gh) (fun i => if i < k then lv i - V.getD i 0 else lv i)), .row 2 1 Av (gw * gh) cv (ints V)]) (gw * gh)
    ⟨0, by omega, ⟨rfl, rfl, rfl, rfl, trivial⟩, by simpa using S⟩ ?_
  clear S
  rintro m e w ⟨k, hk, hsl, S⟩
  rw [hsl.fold]
  repeat refine cw_seq ?_
  refine cw_region ?_
  refine rw_v (op_pure rfl) ?_
  first | refine rw_end ?_ | (refine rw_nil ?_; show CW _ _ _ _ _ _) | refine rw_nil ?_
  repeat refine cw_seq ?_
  refine cw_cond rfl (fun hc => ?_) (fun hc => ?_)
  · try simp only [decide_eq_true_eq, decide_eq_false_iff_not, beq_iff_eq, bne_iff_ne, beq_eq_false_iff_ne, bne_eq_false_iff_eq, Bool.not_eq_true', Bool.not_eq_false', ne_eq, Decidable.not_not, Int.natCast_inj, Int.ofNat_lt, Int.ofNat_le, gt_iff_lt, ge_iff_le, Int.not_lt, Int.not_le] at hc
    have hkn : k < gw * gh := by omega
    have sa_lv : SomeA Al := (S.row (i := 1) rfl).someA (by omega)
    have sa_v : SomeA Av := (S.row (i := 2) rfl).someA (by omega)
    have hvget : (ints V)[(k : Int).toNat * 1]? = some (.int .i64 (V.getD k 0)) := by rw [Nat.mul_one, Int.toNat_natCast]; exact ints_get (getD_at (by omega))
    have hlget := cellsQ_get (o := fun i => if i < k then lv i - V.getD i 0 else lv i) hkn
    simp only [Nat.lt_irrefl, if_false] at hlget
    have hm1 := hlev.may hB hkn
    have hm2 := hB k
    repeat refine cw_seq ?_
    refine cw_skip ?_
    try show CW _ _ _ _ _ _
    repeat refine cw_seq ?_
    refine cw_block ?_
    repeat refine cw_seq ?_
    refine cw_region ?_
    refine rw_v (op_pure rfl) ?_
    refine rw_v (op_idx Try.underlying22 Try.sizeOf2 rfl rfl sa_v (by omega) (by omega)) ?_
    refine rw_r (op_ldR Try.underlying2 rfl rfl (S.rd (i := 2) rfl) hvget) ?_
    iterate 2 refine rw_v (op_pure rfl) ?_
    first | refine rw_end ?_ | (refine rw_nil ?_; show CW _ _ _ _ _ _) | refine rw_nil ?_
    repeat refine cw_seq ?_
    refine cw_region ?_
    iterate 2 refine rw_v (op_pure rfl) ?_
    refine rw_v (op_fieldAddr Try.underlying106 rfl Try.sizeOf22 rfl rfl) ?_
    refine rw_r (op_loadB Try.underlying22 rfl rfl (S.blk (i := 0) rfl) rfl) ?_
    refine rw_v (op_pure rfl) ?_
    refine rw_v (op_idx Try.underlying22 Try.sizeOf2 rfl rfl sa_lv (by omega) (by omega)) ?_
    refine rw_r (op_ldR Try.underlying2 rfl rfl (S.rd (i := 1) rfl) hlget) ?_
    refine rw_v (op_pure rfl) ?_
    refine rw_v (op_rng rfl (by omega)) ?_
    refine rw_v (op_idx Try.underlying22 Try.sizeOf2 rfl rfl sa_lv (by omega) (by omega)) ?_
    refine rw_storeR (i := 1) S rfl (Try.sizeOf2 _) rfl rfl rfl rfl (by rw [cellsQ_len]; omega) rfl ?_
    intro w2_ S
    first | refine rw_end ?_ | (refine rw_nil ?_; show CW _ _ _ _ _ _) | refine rw_nil ?_
    repeat refine cw_seq ?_
    refine cw_region ?_
    refine rw_v (op_rng rfl (by omega)) ?_
    refine rw_v (op_pure rfl) ?_
    first | refine rw_end ?_ | (refine rw_nil ?_; show CW _ _ _ _ _ _) | refine rw_nil ?_
    rw [cellsQ_set, cellsQ_congr (o' := fun i => if i < k + 1 then lv i - V.getD i 0 else lv i) (fun i hi => by
      unfold updI
      (try dsimp only)
      by_cases e1 : i = k
      · rw [if_pos e1, if_pos (by omega), e1]
      · by_cases e2 : i < k
        · rw [if_neg e1, if_pos e2, if_pos (by omega)]
        · rw [if_neg e1, if_neg e2, if_neg (by omega)])] at S
    exact ⟨m - 1, by omega, k + 1, by omega, ⟨rfl, rfl, rfl, ie (by omega), trivial⟩, S⟩
  · try simp only [decide_eq_true_eq, decide_eq_false_iff_not, beq_iff_eq, bne_iff_ne, beq_eq_false_iff_ne, bne_eq_false_iff_eq, Bool.not_eq_true', Bool.not_eq_false', ne_eq, Decidable.not_not, Int.natCast_inj, Int.ofNat_lt, Int.ofNat_le, gt_iff_lt, ge_iff_le, Int.not_lt, Int.not_le] at hc
    rw [cellsQ_congr (o' := fun i => lv i - V.getD i 0) (fun i hi => by (try dsimp only); rw [if_pos (by omega)])] at S
    repeat refine cw_seq ?_
    refine cw_exit ?_
    repeat first | refine exit_then ?_ | refine exit_inb ?_
    show CW _ _ _ _ _ _
    repeat refine cw_seq ?_
    refine cw_region ?_
    iterate 2 refine rw_v (op_pure rfl) ?_
    refine rw_v (op_fieldAddr Try.underlying106 rfl Try.sizeOf22 rfl rfl) ?_
    refine rw_r (op_loadB Try.underlying22 rfl rfl (S.blk (i := 0) rfl) rfl) ?_
    iterate 2 refine rw_v (op_pure rfl) ?_
    first | refine rw_end ?_ | (refine rw_nil ?_; show CW _ _ _ _ _ _) | refine rw_nil ?_
    repeat refine cw_seq ?_
    refine cw_ret ?_
    repeat first | refine ret_then ?_ | refine ret_inb ?_
    exact res2 rfl rfl ⟨lv, rk, hlev, S.retNew (i := 1) (mk := fun s => .tuple #[s, .int .i64 0]) rfl⟩
theorem volume_E (hB : vB (gridL gw gh cc)) (hG : GridAt W p gw gh cc A cap bs Rs) :
    Fn Try.prog 19 [.pointer (some ⟨p, 0, none⟩)] W (fun v w' => ∃ lv rk, IsLev gw gh (gridL gw gh cc) lv rk ∧ RetG (.tuple #[.int .i64 (sumF (gw * gh) (fun i => lv i - (gridL gw gh cc).getD i 0)), .int .i64 0]) W v w') := by
  have hw := hG.sw
  have hh := hG.sh
  have hn : gw * gh ≤ 1024 * 1024 := Nat.mul_le_mul hw.2 hh.2
  have S := St.start W
  refine Fn_enter Try.func19 rfl Try.results19 Try.ntmps19 (by kernel_rfl) (by kernel_rfl) ?_
  repeat refine cw_seq ?_
  refine cw_region ?_
  iterate 2 refine rw_v (op_pure rfl) ?_
  first | refine rw_end ?_ | (refine rw_nil ?_; show CW _ _ _ _ _ _) | refine rw_nil ?_
  repeat refine cw_seq ?_
  refine cw_region ?_
  refine rw_v (op_pure rfl) ?_
  refine rw_call rfl (depths_E hB hG) ?_
  rintro _ w1_ ⟨lv, rk, hlev, A_d, c_d, rfl, hR, hF, g1_⟩
  have S := S.pushRow hR hF g1_
  iterate 5 refine rw_v (op_pure rfl) ?_
  first | refine rw_end ?_ | (refine rw_nil ?_; show CW _ _ _ _ _ _) | refine rw_nil ?_
  repeat refine cw_seq ?_
  refine cw_region ?_
  refine rw_v (op_pure rfl) ?_
  first | refine rw_end ?_ | (refine rw_nil ?_; show CW _ _ _ _ _ _) | refine rw_nil ?_
  repeat refine cw_seq ?_
  refine cw_region ?_
  refine rw_v (op_pure rfl) ?_
  refine rw_v (op_len Try.underlying22 rfl) ?_
  refine rw_v (op_pure rfl) ?_
  first | refine rw_end ?_ | (refine rw_nil ?_; show CW _ _ _ _ _ _) | refine rw_nil ?_
  repeat refine cw_seq ?_
  refine cw_block ?_
  repeat refine cw_seq ?_
  generalize gridL gw gh cc = V at *
  refine cw_loop (fun m e w => ∃ k : Nat, k + m = gw * gh ∧ SL e [(5, .int .i64 0), (6, .int .i64 (sumF k (fun i => lv i - V.getD i 0))), (14, .slice A_d (gw * gh) c_d), (15, .int .i64 (gw * gh : Nat)), (16, .int .i64 k)] ∧
    St No W w [.row 2 1 A_d (gw * gh) c_d (cellsQ (gw * gh) (fun i => lv i - V.getD i 0))]) (gw * gh)
    ⟨0, by omega, ⟨rfl, rfl, rfl, rfl, rfl, trivial⟩, S⟩ ?_
  clear S
  rintro m e w ⟨k, hk, hsl, S⟩
  rw [hsl.fold]
  repeat refine cw_seq ?_
  refine cw_region ?_
  refine rw_v (op_pure rfl) ?_
  first | refine rw_end ?_ | (refine rw_nil ?_; show CW _ _ _ _ _ _) | refine rw_nil ?_
  repeat refine cw_seq ?_
  refine cw_cond rfl (fun hc => ?_) (fun hc => ?_)
  · try simp only [decide_eq_true_eq, decide_eq_false_iff_not, beq_iff_eq, bne_iff_ne, beq_eq_false_iff_ne, bne_eq_false_iff_eq, Bool.not_eq_true', Bool.not_eq_false', ne_eq, Decidable.not_not, Int.natCast_inj, Int.ofNat_lt, Int.ofNat_le, gt_iff_lt, ge_iff_le, Int.not_lt, Int.not_le] at hc
    have hkn : k < gw * gh := by omega
    have sa_d : SomeA A_d := (S.row (i := 0) rfl).someA (by omega)
    have hsb : 0 ≤ sumF k (fun i => lv i - V.getD i 0) ∧ sumF k (fun i => lv i - V.getD i 0) ≤ k * 4294967295 := by
      have hcg : sumF k (fun i => lv i - V.getD i 0) = sumF k (fun i => if i < gw * gh then lv i - V.getD i 0 else 0) := sumF_congr fun i hi => by (try dsimp only); rw [if_pos (by omega)]
      rw [hcg]
      exact sumF_bd (b := 0) (fun i => by
        (try dsimp only)
        split
        · rename_i hi
          have h1 := hlev.ge i hi
          have h2 := hlev.may hB hi
          have h3 := hB i
          omega
        · omega) k
    have hm1 := hlev.may hB hkn
    have hm2 := hB k
    repeat refine cw_seq ?_
    refine cw_skip ?_
    try show CW _ _ _ _ _ _
    repeat refine cw_seq ?_
    refine cw_block ?_
    repeat refine cw_seq ?_
    refine cw_region ?_
    refine rw_v (op_idx Try.underlying22 Try.sizeOf2 rfl rfl sa_d (by omega) (by omega)) ?_
    refine rw_r (op_ldR Try.underlying2 rfl rfl (S.rd (i := 0) rfl) (cellsQ_get hkn)) ?_
    refine rw_v (op_pure rfl) ?_
    first | refine rw_end ?_ | (refine rw_nil ?_; show CW _ _ _ _ _ _) | refine rw_nil ?_
    repeat refine cw_seq ?_
    refine cw_region ?_
    iterate 2 refine rw_v (op_pure rfl) ?_
    refine rw_v (op_rng rfl (by omega)) ?_
    refine rw_v (op_pure rfl) ?_
    first | refine rw_end ?_ | (refine rw_nil ?_; show CW _ _ _ _ _ _) | refine rw_nil ?_
    repeat refine cw_seq ?_
    refine cw_region ?_
    refine rw_v (op_rng rfl (by omega)) ?_
    refine rw_v (op_pure rfl) ?_
    first | refine rw_end ?_ | (refine rw_nil ?_; show CW _ _ _ _ _ _) | refine rw_nil ?_
    exact ⟨m - 1, by omega, k + 1, by omega, ⟨rfl, rfl, rfl, rfl, ie (by omega), trivial⟩, S⟩
  · try simp only [decide_eq_true_eq, decide_eq_false_iff_not, beq_iff_eq, bne_iff_ne, beq_eq_false_iff_ne, bne_eq_false_iff_eq, Bool.not_eq_true', Bool.not_eq_false', ne_eq, Decidable.not_not, Int.natCast_inj, Int.ofNat_lt, Int.ofNat_le, gt_iff_lt, ge_iff_le, Int.not_lt, Int.not_le] at hc
    obtain rfl : k = gw * gh := by omega
    repeat refine cw_seq ?_
    refine cw_exit ?_
    repeat first | refine exit_then ?_ | refine exit_inb ?_
    show CW _ _ _ _ _ _
    repeat refine cw_seq ?_
    refine cw_region ?_
    iterate 4 refine rw_v (op_pure rfl) ?_
    first | refine rw_end ?_ | (refine rw_nil ?_; show CW _ _ _ _ _ _) | refine rw_nil ?_
    repeat refine cw_seq ?_
    refine cw_ret ?_
    repeat first | refine ret_then ?_ | refine ret_inb ?_
    exact res2 rfl rfl ⟨lv, rk, hlev, rfl, S.out⟩
end
end Go.Proofs.Ytbcgbcipigcbhaa
