/- smooth.ranges, Spread, Open: contracts. -/
import Derived.Test.YtbcgbcipigcbhaaMeaK
import Derived.Test.YtbcgbcipigcbhaaMeaJ
namespace Go.Proofs.Ytbcgbcipigcbhaa
open Go.RowKit
set_option linter.unusedVariables false
set_option linter.unusedSimpArgs false
set_option maxRecDepth 100000

/-! ### Ranges of windows -/
theorem rgOf_row (v : Nat → Nat → Int) (x0 y : Nat) : ∀ d : Nat, ∃ r, RgOf v (boxP x0 y (x0 + d) y) r
  | 0 => ⟨⟨v x0 y, v x0 y⟩, fun x' y' h => by
      unfold boxP at h
      obtain rfl : x' = x0 := by omega
      obtain rfl : y' = y := by omega
      exact ⟨Int.le_refl _, Int.le_refl _⟩, ⟨x0, y, by unfold boxP; omega, rfl⟩, x0, y, by unfold boxP; omega, rfl⟩
  | d + 1 => by
    obtain ⟨r, hr⟩ := rgOf_row v x0 y d
    have h1 : RgOf v (boxP (x0 + d + 1) y (x0 + d + 1) y) ⟨v (x0 + d + 1) y, v (x0 + d + 1) y⟩ := ⟨fun x' y' h => by
      unfold boxP at h
      obtain rfl : x' = x0 + d + 1 := by omega
      obtain rfl : y' = y := by omega
      exact ⟨Int.le_refl _, Int.le_refl _⟩, ⟨_, y, by unfold boxP; omega, rfl⟩, _, y, by unfold boxP; omega, rfl⟩
    exact ⟨_, hr.join h1 (fun a b => by unfold boxP; omega)⟩
theorem rgOf_box (v : Nat → Nat → Int) (x0 d y0 : Nat) : ∀ d' : Nat, ∃ r, RgOf v (boxP x0 y0 (x0 + d) (y0 + d')) r
  | 0 => rgOf_row v x0 y0 d
  | d' + 1 => by
    obtain ⟨r, hr⟩ := rgOf_box v x0 d y0 d'
    obtain ⟨r', hr'⟩ := rgOf_row v x0 (y0 + d' + 1) d
    exact ⟨_, hr.join hr' (fun a b => by unfold boxP; omega)⟩
theorem rgB_of (V : List Int) (gw : Nat) {x0 y0 x1 y1 : Nat} (hx : x0 ≤ x1) (hy : y0 ≤ y1) : RgOf (cellV V gw) (boxP x0 y0 x1 y1) (rgB V gw x0 y0 x1 y1) := by
  obtain ⟨r, hr⟩ := rgOf_box (cellV V gw) x0 (x1 - x0) y0 (y1 - y0)
  rw [show x0 + (x1 - x0) = x1 by omega, show y0 + (y1 - y0) = y1 by omega] at hr
  rw [rgB_eq hr]
  exact hr
noncomputable def rgW (V : List Int) (gw gh i n : Nat) : RG := rgB V gw (winW gw gh i n).x0 (winW gw gh i n).y0 (winW gw gh i n).x1 (winW gw gh i n).y1
theorem rgW_of (V : List Int) {gw gh i : Nat} (n : Nat) (hgw : 0 < gw) (hi : i < gw * gh) : RgOf (cellV V gw) (boxP (winW gw gh i n).x0 (winW gw gh i n).y0 (winW gw gh i n).x1 (winW gw gh i n).y1) (rgW V gw gh i n) := by
  obtain ⟨h1, h2⟩ := winW_ok (n := n) hgw hi
  exact rgB_of V gw h1.1 h2.1
theorem cellV_may {V : List Int} (hB : vB V) (gw x y : Nat) : mayB (cellV V gw x y) = true := (mayB_iff _).2 (hB _)
theorem rgW_may {V : List Int} (hB : vB V) {gw gh i : Nat} (n : Nat) (hgw : 0 < gw) (hi : i < gw * gh) : mayB (rgW V gw gh i n).lo = true ∧ mayB (rgW V gw gh i n).hi = true := by
  have h := rgW_of V n hgw hi
  obtain ⟨x, y, _, e⟩ := h.lo
  obtain ⟨x', y', _, e'⟩ := h.hi
  rw [← e, ← e']
  exact ⟨cellV_may hB _ _ _, cellV_may hB _ _ _⟩
/-- the least of each window; the greatest of these -/
noncomputable def lowL (V : List Int) (gw gh n : Nat) : List Int := gridL gw gh fun i => (rgW V gw gh i n).lo
noncomputable def openL (V : List Int) (gw gh n : Nat) : List Int := gridL gw gh fun i => (rgW (lowL V gw gh n) gw gh i n).hi
theorem lowL_len (V : List Int) (gw gh n : Nat) : (lowL V gw gh n).length = gw * gh := gridL_len _ _ _
theorem openL_len (V : List Int) (gw gh n : Nat) : (openL V gw gh n).length = gw * gh := gridL_len _ _ _
theorem gridL_at {gw gh i : Nat} (c : Nat → Int) (h : i < gw * gh) : (gridL gw gh c).getD i 0 = c i := by
  unfold gridL
  rw [List.getD_eq_getElem?_getD, List.getElem?_map, List.getElem?_range h]
  rfl
theorem gridL_self {gw gh : Nat} {l : List Int} (h : l.length = gw * gh) : gridL gw gh (fun i => l.getD i 0) = l := by
  apply List.ext_getElem?
  intro i
  by_cases hi : i < gw * gh
  · unfold gridL
    rw [List.getElem?_map, List.getElem?_range hi, Option.map_some, List.getD_eq_getElem?_getD, List.getElem?_eq_getElem (by omega)]
    rfl
  · rw [List.getElem?_eq_none (by rw [gridL_len]; omega), List.getElem?_eq_none (by omega)]
theorem lowL_vB {V : List Int} (hB : vB V) {gw gh : Nat} (n : Nat) (hgw : 0 < gw) : vB (lowL V gw gh n) := vB_of_may fun v hv => by
  obtain ⟨i, hi, rfl⟩ := List.mem_map.1 hv
  exact (rgW_may hB n hgw (List.mem_range.1 hi)).1
theorem openL_vB {V : List Int} (hB : vB V) {gw gh : Nat} (n : Nat) (hgw : 0 < gw) : vB (openL V gw gh n) := vB_of_may fun v hv => by
  obtain ⟨i, hi, rfl⟩ := List.mem_map.1 hv
  exact (rgW_may (lowL_vB hB n hgw) n hgw (List.mem_range.1 hi)).2
section
variable {W : World} {A : Option Addr} {p gw gh cap C D tb : Nat} {cc : Nat → Int} {bs : Nat → Nat} {Rs : Nat → Option Nat} {V : List Int}
theorem rangesC_E (i n : Nat) (hw : 1 ≤ gw ∧ gw ≤ 1024) (hh : 1 ≤ gh ∧ gh ≤ 1024) (hi : i < gw * gh) (hC : Blk W C 201 [.pointer (some ⟨tb, 0, none⟩)]) (hA : SparseAt W tb gw gh V) :
    Fn Try.prog 135 ([] ++ [(winW gw gh i n).val] ++ [.pointer (some ⟨C, 0, none⟩)]) W (RetG (.agg (rgW V gw gh i n).cells.toArray) W) := by
  obtain ⟨h1, h2⟩ := winW_ok (n := n) hw.1 hi
  unfold rgW Win.val
  generalize winW gw gh i n = r at *
  have S := St.start W
  refine Fn_enter Try.func135 rfl Try.results135 Try.ntmps135 (by kernel_rfl) (by kernel_rfl) ?_
  repeat refine cw_seq ?_
  refine cw_region ?_
  refine rw_newB (op_box rfl) S ?_
  intro b_r w2_ g2_ S
  refine rw_newB (op_alloc Try.zeroValue78 rfl) S ?_
  intro b_R w4_ g4_ S
  first | refine rw_end ?_ | (refine rw_nil ?_; show CW _ _ _ _ _ _) | refine rw_nil ?_
  repeat refine cw_seq ?_
  refine cw_region ?_
  refine rw_r (op_loadB Try.underlying201 rfl rfl (hC.gr S.out) rfl) ?_
  refine rw_r (op_loadAB Try.underlying75 rfl (Try.sizeOf75 _) rfl (S.blk (i := 1) rfl) rfl rfl) ?_
  refine rw_call rfl (trangeA_E (W := w4_) r.x0 r.y0 r.x1 r.y1 hw hh h1 h2 (hA.gr S.out)) ?_
  rintro _ w5_ ⟨rfl, g5_⟩
  have S := S.gr g5_
  iterate 3 refine rw_v (op_pure rfl) ?_
  refine rw_newB (op_alloc Try.zeroValue78 rfl) S ?_
  intro b_rg w7_ g7_ S
  refine rw_storeSA (i := 0) S rfl (Try.sizeOf78 _) rfl rfl rfl rfl rfl rfl ?_
  intro w8_ S
  refine rw_v (op_pure rfl) ?_
  first | refine rw_end ?_ | (refine rw_nil ?_; show CW _ _ _ _ _ _) | refine rw_nil ?_
  repeat refine cw_seq ?_
  refine cw_region ?_
  refine rw_r (op_loadAB Try.underlying78 rfl (Try.sizeOf78 _) rfl (S.blk (i := 0) rfl) rfl rfl) ?_
  refine rw_storeSA (i := 1) S rfl (Try.sizeOf78 _) rfl rfl rfl rfl rfl rfl ?_
  intro w9_ S
  first | refine rw_end ?_ | (refine rw_nil ?_; show CW _ _ _ _ _ _) | refine rw_nil ?_
  repeat refine cw_seq ?_
  refine cw_ret ?_
  repeat first | refine ret_then ?_ | refine ret_inb ?_
  exact resA Try.underlying78 rfl (Try.sizeOf78 _) rfl (S.blk (i := 1) rfl) rfl rfl ⟨rfl, S.out⟩
theorem sranges_E (hG : GridAt W p gw gh cc A cap bs Rs) : Fn Try.prog 86 [.pointer (some ⟨p, 0, none⟩)] W
    (fun v w' => ∃ C tb Ao co As cs, v = .func (.func 135) (([] : List Value).toArray) [.pointer (some ⟨C, 0, none⟩)].toArray ∧ St No W w' (.blk C 201 [.pointer (some ⟨tb, 0, none⟩)] :: SpL tb Ao co As cs gw gh (gridL gw gh cc))) := by
  have S := St.start W
  refine Fn_enter Try.func86 rfl Try.results86 Try.ntmps86 (by kernel_rfl) (by kernel_rfl) ?_
  repeat refine cw_seq ?_
  refine cw_region ?_
  refine rw_v (op_pure rfl) ?_
  first | refine rw_end ?_ | (refine rw_nil ?_; show CW _ _ _ _ _ _) | refine rw_nil ?_
  repeat refine cw_seq ?_
  refine cw_region ?_
  refine rw_v (op_pure rfl) ?_
  refine rw_call rfl (sbuild_E (W := W) (hG.gr S.out)) ?_
  rintro _ w1_ ⟨tb, Ao, co, As, cs, rfl, S2⟩
  have S := S.app S2
  iterate 3 refine rw_v (op_pure rfl) ?_
  refine rw_newB (op_alloc Try.zeroValue201 rfl) S ?_
  intro b_tp w3_ g3_ S
  refine rw_storeS (i := 0) S rfl (Try.sizeOf201 _) rfl rfl rfl rfl rfl rfl ?_
  intro w4_ S
  refine rw_v (op_pure rfl) ?_
  first | refine rw_end ?_ | (refine rw_nil ?_; show CW _ _ _ _ _ _) | refine rw_nil ?_
  repeat refine cw_seq ?_
  refine cw_region ?_
  iterate 2 refine rw_v (op_pure rfl) ?_
  first | refine rw_end ?_ | (refine rw_nil ?_; show CW _ _ _ _ _ _) | refine rw_nil ?_
  repeat refine cw_seq ?_
  refine cw_ret ?_
  repeat first | refine ret_then ?_ | refine ret_inb ?_
  exact res1 rfl ⟨b_tp, tb, Ao, co, As, cs, rfl, S⟩
/-- the function of ranges: its variable, its table -/
structure RgFn (w : World) (D gw gh : Nat) (V : List Int) : Prop where
  ex : ∃ C tb, Blk w D 147 [.func (.func 135) (([] : List Value).toArray) [.pointer (some ⟨C, 0, none⟩)].toArray] ∧ Blk w C 201 [.pointer (some ⟨tb, 0, none⟩)] ∧ SparseAt w tb gw gh V
theorem RgFn.gr {w w' : World} {D gw gh : Nat} {V : List Int} (h : RgFn w D gw gh V) (g : Gr w w') : RgFn w' D gw gh V := by
  obtain ⟨C, tb, h1, h2, h3⟩ := h.ex
  exact ⟨C, tb, h1.gr g, h2.gr g, h3.gr g⟩
theorem spreadC_E (i n : Nat) (hB : vB V) (hw : 1 ≤ gw ∧ gw ≤ 1024) (hh : 1 ≤ gh ∧ gh ≤ 1024) (hi : i < gw * gh) (hD : RgFn W D gw gh V) :
    Fn Try.prog 88 ([] ++ [(winW gw gh i n).val] ++ [.pointer (some ⟨D, 0, none⟩)]) W (RetG (.int .i64 ((rgW V gw gh i n).hi - (rgW V gw gh i n).lo)) W) := by
  obtain ⟨C, tb, hF, hC, hA⟩ := hD.ex
  have hm := rgW_may hB n hw.1 hi
  rw [mayB_iff, mayB_iff] at hm
  have hr := fun w (g : Gr W w) => rangesC_E (W := w) i n hw hh hi (hC.gr g) (hA.gr g)
  generalize rgW V gw gh i n = q at *
  unfold Win.val at *
  unfold RG.cells at hr
  have S := St.start W
  refine Fn_enter Try.func88 rfl Try.results88 Try.ntmps88 (by kernel_rfl) (by kernel_rfl) ?_
  repeat refine cw_seq ?_
  refine cw_region ?_
  refine rw_newB (op_box rfl) S ?_
  intro b_r w2_ g2_ S
  refine rw_v (op_pure rfl) ?_
  first | refine rw_end ?_ | (refine rw_nil ?_; show CW _ _ _ _ _ _) | refine rw_nil ?_
  repeat refine cw_seq ?_
  refine cw_region ?_
  refine rw_r (op_loadB Try.underlying147 rfl rfl (hF.gr S.out) rfl) ?_
  refine rw_r (op_loadAB Try.underlying75 rfl (Try.sizeOf75 _) rfl (S.blk (i := 0) rfl) rfl rfl) ?_
  refine rw_callv rfl rfl (hr w2_ S.out) ?_
  rintro _ w3_ ⟨rfl, g3_⟩
  have S := S.gr g3_
  refine rw_newB (op_alloc Try.zeroValue78 rfl) S ?_
  intro b_rg w5_ g5_ S
  refine rw_storeSA (i := 0) S rfl (Try.sizeOf78 _) rfl rfl rfl rfl rfl rfl ?_
  intro w6_ S
  first | refine rw_end ?_ | (refine rw_nil ?_; show CW _ _ _ _ _ _) | refine rw_nil ?_
  repeat refine cw_seq ?_
  refine cw_region ?_
  refine rw_v (op_fieldAddr Try.underlying78 rfl Try.sizeOf2 rfl rfl) ?_
  refine rw_r (op_loadB Try.underlying2 rfl rfl (S.blk (i := 0) rfl) rfl) ?_
  refine rw_v (op_fieldAddr Try.underlying78 rfl Try.sizeOf2 rfl rfl) ?_
  refine rw_r (op_loadB Try.underlying2 rfl rfl (S.blk (i := 0) rfl) rfl) ?_
  refine rw_v (op_rng rfl (by omega)) ?_
  refine rw_v (op_pure rfl) ?_
  first | refine rw_end ?_ | (refine rw_nil ?_; show CW _ _ _ _ _ _) | refine rw_nil ?_
  repeat refine cw_seq ?_
  refine cw_ret ?_
  repeat first | refine ret_then ?_ | refine ret_inb ?_
  exact res1 rfl ⟨rfl, S.out⟩
theorem open1_E (i n : Nat) (hw : 1 ≤ gw ∧ gw ≤ 1024) (hh : 1 ≤ gh ∧ gh ≤ 1024) (hi : i < gw * gh) (hD : RgFn W D gw gh V) :
    Fn Try.prog 90 ([] ++ [(winW gw gh i n).val] ++ [.pointer (some ⟨D, 0, none⟩)]) W (RetG (.int .i64 (rgW V gw gh i n).lo) W) := by
  obtain ⟨C, tb, hF, hC, hA⟩ := hD.ex
  have hr := fun w (g : Gr W w) => rangesC_E (W := w) i n hw hh hi (hC.gr g) (hA.gr g)
  generalize rgW V gw gh i n = q at *
  unfold Win.val at *
  unfold RG.cells at hr
  have S := St.start W
  refine Fn_enter Try.func90 rfl Try.results90 Try.ntmps90 (by kernel_rfl) (by kernel_rfl) ?_
  repeat refine cw_seq ?_
  refine cw_region ?_
  refine rw_newB (op_box rfl) S ?_
  intro b_r w2_ g2_ S
  refine rw_v (op_pure rfl) ?_
  first | refine rw_end ?_ | (refine rw_nil ?_; show CW _ _ _ _ _ _) | refine rw_nil ?_
  repeat refine cw_seq ?_
  refine cw_region ?_
  refine rw_r (op_loadB Try.underlying147 rfl rfl (hF.gr S.out) rfl) ?_
  refine rw_r (op_loadAB Try.underlying75 rfl (Try.sizeOf75 _) rfl (S.blk (i := 0) rfl) rfl rfl) ?_
  refine rw_callv rfl rfl (hr w2_ S.out) ?_
  rintro _ w3_ ⟨rfl, g3_⟩
  have S := S.gr g3_
  refine rw_v (op_field Try.underlying78 rfl Try.underlying2 rfl rfl rfl) ?_
  refine rw_v (op_pure rfl) ?_
  first | refine rw_end ?_ | (refine rw_nil ?_; show CW _ _ _ _ _ _) | refine rw_nil ?_
  repeat refine cw_seq ?_
  refine cw_ret ?_
  repeat first | refine ret_then ?_ | refine ret_inb ?_
  exact res1 rfl ⟨rfl, S.out⟩
theorem open2_E (i n : Nat) (hw : 1 ≤ gw ∧ gw ≤ 1024) (hh : 1 ≤ gh ∧ gh ≤ 1024) (hi : i < gw * gh) (hD : RgFn W D gw gh V) :
    Fn Try.prog 91 ([] ++ [(winW gw gh i n).val] ++ [.pointer (some ⟨D, 0, none⟩)]) W (RetG (.int .i64 (rgW V gw gh i n).hi) W) := by
  obtain ⟨C, tb, hF, hC, hA⟩ := hD.ex
  have hr := fun w (g : Gr W w) => rangesC_E (W := w) i n hw hh hi (hC.gr g) (hA.gr g)
  generalize rgW V gw gh i n = q at *
  unfold Win.val at *
  unfold RG.cells at hr
  have S := St.start W
  refine Fn_enter Try.func91 rfl Try.results91 Try.ntmps91 (by kernel_rfl) (by kernel_rfl) ?_
  repeat refine cw_seq ?_
  refine cw_region ?_
  refine rw_newB (op_box rfl) S ?_
  intro b_r w2_ g2_ S
  refine rw_v (op_pure rfl) ?_
  first | refine rw_end ?_ | (refine rw_nil ?_; show CW _ _ _ _ _ _) | refine rw_nil ?_
  repeat refine cw_seq ?_
  refine cw_region ?_
  refine rw_r (op_loadB Try.underlying147 rfl rfl (hF.gr S.out) rfl) ?_
  refine rw_r (op_loadAB Try.underlying75 rfl (Try.sizeOf75 _) rfl (S.blk (i := 0) rfl) rfl rfl) ?_
  refine rw_callv rfl rfl (hr w2_ S.out) ?_
  rintro _ w3_ ⟨rfl, g3_⟩
  have S := S.gr g3_
  refine rw_v (op_field Try.underlying78 rfl Try.underlying2 rfl rfl rfl) ?_
  refine rw_v (op_pure rfl) ?_
  first | refine rw_end ?_ | (refine rw_nil ?_; show CW _ _ _ _ _ _) | refine rw_nil ?_
  repeat refine cw_seq ?_
  refine cw_ret ?_
  repeat first | refine ret_then ?_ | refine ret_inb ?_
  exact res1 rfl ⟨rfl, S.out⟩
theorem sspread_E (n : Nat) (hn : n ≤ 1024) (hB : vB (gridL gw gh cc)) (hG : GridAt W p gw gh cc A cap bs Rs) : Fn Try.prog 39 [.pointer (some ⟨p, 0, none⟩), .int .i64 n] W
    (RetNew (fun s => .tuple #[s, .int .i64 0]) 2 1 (gw * gh) (cellsQ (gw * gh) fun i => (rgW (gridL gw gh cc) gw gh i n).hi - (rgW (gridL gw gh cc) gw gh i n).lo) W) := by
  have hw := hG.sw
  have hh := hG.sh
  have hrg := fun w (g : Gr W w) => sranges_E (hG.gr g)
  have heach := fun (b : Nat) w (g : Gr W w) => each_E (W := w) (fid := 88) (caps := [.pointer (some ⟨b, 0, none⟩)]) (q := fun i => (rgW (gridL gw gh cc) gw gh i n).hi - (rgW (gridL gw gh cc) gw gh i n).lo) n hn (hG.gr g)
  generalize gridL gw gh cc = V at *
  have S := St.start W
  refine Fn_enter Try.func39 rfl Try.results39 Try.ntmps39 (by kernel_rfl) (by kernel_rfl) ?_
  repeat refine cw_seq ?_
  refine cw_region ?_
  iterate 2 refine rw_v (op_pure rfl) ?_
  first | refine rw_end ?_ | (refine rw_nil ?_; show CW _ _ _ _ _ _) | refine rw_nil ?_
  repeat refine cw_seq ?_
  refine cw_region ?_
  refine rw_v (op_pure rfl) ?_
  refine rw_call rfl (hrg W S.out) ?_
  rintro _ w1_ ⟨C, tb, Ao, co, As, cs, rfl, S2⟩
  have S := S.app S2
  refine rw_newB (op_alloc Try.zeroValue147 rfl) S ?_
  intro b_fp w3_ g3_ S
  refine rw_storeS (i := 0) S rfl (Try.sizeOf147 _) rfl rfl rfl rfl rfl rfl ?_
  intro w4_ S
  first | refine rw_end ?_ | (refine rw_nil ?_; show CW _ _ _ _ _ _) | refine rw_nil ?_
  have hD : RgFn _ b_fp gw gh V := ⟨C, tb, S.blk (i := 0) rfl, S.blk (i := 1) rfl, Ao, co, As, cs, S.blk (i := 4) rfl, S.row (i := 2) rfl, fun k hk => S.grow_ (i := 3) rfl hk⟩
  have hS1 := S
  repeat refine cw_seq ?_
  refine cw_region ?_
  iterate 3 refine rw_v (op_pure rfl) ?_
  refine rw_call rfl (heach b_fp w4_ S.out (fun w g i hi => spreadC_E i n hB hw hh hi (hD.gr g))) ?_
  rintro _ w5_ ⟨A_l, c_l, rfl, hR_l, hf_l, g5_⟩
  have S := S.pushRow hR_l hf_l g5_
  iterate 4 refine rw_v (op_pure rfl) ?_
  first | refine rw_end ?_ | (refine rw_nil ?_; show CW _ _ _ _ _ _) | refine rw_nil ?_
  repeat refine cw_seq ?_
  refine cw_ret ?_
  repeat first | refine ret_then ?_ | refine ret_inb ?_
  exact res2 rfl rfl (S.retNew (i := 0) (mk := fun s => .tuple #[s, .int .i64 0]) rfl)
set_option maxHeartbeats 2000000 in
theorem sopen_E (n : Nat) (hn : n ≤ 1024) (hB : vB (gridL gw gh cc)) (hG : GridAt W p gw gh cc A cap bs Rs) : Fn Try.prog 40 [.pointer (some ⟨p, 0, none⟩), .int .i64 n] W
    (RetGrid (fun p => .tuple #[p, .int .i64 0]) gw gh (fun i => (openL (gridL gw gh cc) gw gh n).getD i 0) W) := by
  have hw := hG.sw
  have hh := hG.sh
  have hrg := fun w (g : Gr W w) => sranges_E (hG.gr g)
  have hmade := fun (b : Nat) w (g : Gr W w) => smade_E (W := w) (fid := 90) (caps := [.pointer (some ⟨b, 0, none⟩)]) (q := fun i => (rgW (gridL gw gh cc) gw gh i n).lo) n hn (hG.gr g) (fun i hi => (rgW_may hB n hw.1 hi).1)
  generalize gridL gw gh cc = V at *
  have hBl := lowL_vB hB (gw := gw) (gh := gh) n hw.1
  have elow : gridL gw gh (fun i => (lowL V gw gh n).getD i 0) = lowL V gw gh n := gridL_self (lowL_len _ _ _ _)
  have hrg2 := fun w (p2 cap2 : Nat) (A2 : Option Addr) (bs2 : Nat → Nat) (Rs2 : Nat → Option Nat) (h : GridAt w p2 gw gh (fun i => (lowL V gw gh n).getD i 0) A2 cap2 bs2 Rs2) => sranges_E h
  have hmade2 := fun (b : Nat) w (p2 cap2 : Nat) (A2 : Option Addr) (bs2 : Nat → Nat) (Rs2 : Nat → Option Nat) (h : GridAt w p2 gw gh (fun i => (lowL V gw gh n).getD i 0) A2 cap2 bs2 Rs2) => smade_E (W := w) (fid := 91) (caps := [.pointer (some ⟨b, 0, none⟩)]) (q := fun i => (rgW (lowL V gw gh n) gw gh i n).hi) n hn h (fun i hi => (rgW_may hBl n hw.1 hi).2)
  rw [elow] at hrg2
  have S := St.start W
  refine Fn_enter Try.func40 rfl Try.results40 Try.ntmps40 (by kernel_rfl) (by kernel_rfl) ?_
  repeat refine cw_seq ?_
  refine cw_region ?_
  iterate 2 refine rw_v (op_pure rfl) ?_
  first | refine rw_end ?_ | (refine rw_nil ?_; show CW _ _ _ _ _ _) | refine rw_nil ?_
  repeat refine cw_seq ?_
  refine cw_region ?_
  refine rw_v (op_pure rfl) ?_
  refine rw_call rfl (hrg W S.out) ?_
  rintro _ w1_ ⟨C, tb, Ao, co, As, cs, rfl, S2⟩
  have S := S.app S2
  refine rw_newB (op_alloc Try.zeroValue147 rfl) S ?_
  intro b_fp w3_ g3_ S
  refine rw_storeS (i := 0) S rfl (Try.sizeOf147 _) rfl rfl rfl rfl rfl rfl ?_
  intro w4_ S
  first | refine rw_end ?_ | (refine rw_nil ?_; show CW _ _ _ _ _ _) | refine rw_nil ?_
  have hD : RgFn _ b_fp gw gh V := ⟨C, tb, S.blk (i := 0) rfl, S.blk (i := 1) rfl, Ao, co, As, cs, S.blk (i := 4) rfl, S.row (i := 2) rfl, fun k hk => S.grow_ (i := 3) rfl hk⟩
  have S := S.sub (.cons_cons _ (.cons _ (.cons _ (.cons _ (.cons _ (.slnil))))))
  repeat refine cw_seq ?_
  refine cw_region ?_
  iterate 3 refine rw_v (op_pure rfl) ?_
  refine rw_call rfl (hmade b_fp w4_ S.out (fun w g i hi => open1_E i n hw hh hi (hD.gr g))) ?_
  rintro _ w5_ ⟨p2, B2, bc2, bs2, Rs2, rfl, hG2, hf2, g5_⟩
  have S := S.pushGrid hG2 hf2 g5_
  iterate 5 refine rw_v (op_pure rfl) ?_
  first | refine rw_end ?_ | (refine rw_nil ?_; show CW _ _ _ _ _ _) | refine rw_nil ?_
  repeat refine cw_seq ?_
  refine cw_region ?_
  refine rw_v (op_pure rfl) ?_
  refine rw_v (op_b (b := false) rfl (bne_eq_false_iff_eq.2 (by omega))) ?_
  first | refine rw_end ?_ | (refine rw_nil ?_; show CW _ _ _ _ _ _) | refine rw_nil ?_
  repeat refine cw_seq ?_
  refine cw_false rfl ?_
  repeat refine cw_seq ?_
  refine cw_skip ?_
  try show CW _ _ _ _ _ _
  repeat refine cw_seq ?_
  refine cw_region ?_
  refine rw_v (op_pure rfl) ?_
  refine rw_call rfl (hrg2 w5_ _ _ _ _ _ (S.grid (i := 0) rfl)) ?_
  rintro _ w6_ ⟨C2, tb2, Ao2, co2, As2, cs2, rfl, S2⟩
  have S := S.app S2
  refine rw_storeS (i := 5) S rfl (Try.sizeOf147 _) rfl rfl rfl rfl rfl rfl ?_
  intro w7_ S
  first | refine rw_end ?_ | (refine rw_nil ?_; show CW _ _ _ _ _ _) | refine rw_nil ?_
  have hD2 : RgFn _ b_fp gw gh (lowL V gw gh n) := ⟨C2, tb2, S.blk (i := 5) rfl, S.blk (i := 0) rfl, Ao2, co2, As2, cs2, S.blk (i := 3) rfl, S.row (i := 1) rfl, fun k hk => S.grow_ (i := 2) rfl hk⟩
  repeat refine cw_seq ?_
  refine cw_region ?_
  iterate 3 refine rw_v (op_pure rfl) ?_
  refine rw_call rfl (hmade2 b_fp w7_ _ _ _ _ _ (S.grid (i := 4) rfl) (fun w g i hi => open2_E i n hw hh hi (hD2.gr g))) ?_
  rintro _ w8_ ⟨p3, B3, bc3, bs3, Rs3, rfl, hG3, hf3, g8_⟩
  have S := S.pushGrid hG3 hf3 g8_
  iterate 4 refine rw_v (op_pure rfl) ?_
  first | refine rw_end ?_ | (refine rw_nil ?_; show CW _ _ _ _ _ _) | refine rw_nil ?_
  repeat refine cw_seq ?_
  refine cw_ret ?_
  repeat first | refine ret_then ?_ | refine ret_inb ?_
  exact res2 rfl rfl (S.retGrid (i := 0) (mk := fun p => .tuple #[p, .int .i64 0]) rfl)
end
end Go.Proofs.Ytbcgbcipigcbhaa
/- hachureref09.Values, hachureref08.Range, hachureref44.window, Range: contracts. -/
namespace Go.Proofs.Ytbcgbcipigcbhaa
open Go.RowKit
set_option linter.unusedVariables false
set_option linter.unusedSimpArgs false
set_option maxRecDepth 100000

/-- the values of a box, up to a place -/
structure IsVals (V : List Int) (gw x0 y0 x1 y1 y x : Nat) (L : List Int) : Prop where
  of : ∀ v ∈ L, ∃ a b, boxP x0 y0 x1 y1 a b ∧ cellV V gw a b = v
  all : ∀ a b, boxP x0 y0 x1 y1 a b → (b < y ∨ (b = y ∧ a < x)) → cellV V gw a b ∈ L
theorem IsVals.push {V : List Int} {gw x0 y0 x1 y1 y x : Nat} {L : List Int} (h : IsVals V gw x0 y0 x1 y1 y x L) (hb : boxP x0 y0 x1 y1 x y) : IsVals V gw x0 y0 x1 y1 y (x + 1) (L ++ [cellV V gw x y]) := by
  refine ⟨fun v hv => ?_, fun a b hab hlt => ?_⟩
  · rcases List.mem_append.1 hv with hv | hv
    · exact h.of v hv
    · exact ⟨x, y, hb, (List.mem_singleton.1 hv).symm⟩
  · by_cases e : b = y ∧ a = x
    · obtain ⟨rfl, rfl⟩ := e
      exact List.mem_append_right _ (List.mem_singleton.2 rfl)
    · exact List.mem_append_left _ (h.all a b hab (by omega))
/-- the range of a list -/
def RgL (L : List Int) (lo hi : Int) : Prop := (∀ v ∈ L, lo ≤ v ∧ v ≤ hi) ∧ lo ∈ L ∧ hi ∈ L
theorem RgL.push {L : List Int} {lo hi lo' hi' v : Int} (h : RgL L lo hi) (e1 : lo' = min lo v) (e2 : hi' = max hi v) : RgL (L ++ [v]) lo' hi' := by
  obtain ⟨h1, h2, h3⟩ := h
  refine ⟨fun u hu => ?_, ?_, ?_⟩
  · rcases List.mem_append.1 hu with hu | hu
    · have := h1 u hu; omega
    · rw [List.mem_singleton.1 hu]; omega
  · by_cases e : lo ≤ v
    · rw [e1, show min lo v = lo by omega]; exact List.mem_append_left _ h2
    · rw [e1, show min lo v = v by omega]; exact List.mem_append_right _ (List.mem_singleton.2 rfl)
  · by_cases e : v ≤ hi
    · rw [e2, show max hi v = hi by omega]; exact List.mem_append_left _ h3
    · rw [e2, show max hi v = v by omega]; exact List.mem_append_right _ (List.mem_singleton.2 rfl)
theorem rg_vals {V : List Int} {gw x0 y0 x1 y1 : Nat} {L : List Int} {lo hi : Int} (h : IsVals V gw x0 y0 x1 y1 (y1 + 1) x0 L) (hr : RgL L lo hi) : rgB V gw x0 y0 x1 y1 = ⟨lo, hi⟩ := by
  obtain ⟨h1, h2, h3⟩ := hr
  obtain ⟨a, b, hab, e⟩ := h.of lo h2
  obtain ⟨a', b', hab', e'⟩ := h.of hi h3
  exact rgB_eq ⟨fun x y hxy => h1 _ (h.all x y hxy (.inl (by unfold boxP at hxy; omega))), ⟨a, b, hab, e⟩, a', b', hab', e'⟩
/-- a region that draws and holds one call that tells a fresh row -/
def VC (W : World) (L : List HA) (Q : List Int → Prop) (σ : List Value) (wq : World) : Prop := match σ with
  | [] => St No W wq L
  | [v] => ∃ l A c, v = .tuple #[.slice A l.length c, .int .i64 0] ∧ Q l ∧ St No W wq (.row 2 1 A l.length c (ints l) :: L)
  | _ => False
section
variable {W w w' : World} {L : List HA} {Q : List Int → Prop} {σ : List Value}
theorem VC.gr (h : VC W L Q σ w) (g : Gr w w') : VC W L Q σ w' := by
  match σ, h with
  | [], h => exact St.gr (show St No W w L from h) g
  | [v], ⟨l, A, c, e, q, S⟩ => exact ⟨l, A, c, e, q, S.gr g⟩
theorem VC.blk (h : VC W L Q σ w) {i b t : Nat} {l : List Value} (hi : getO L i = some (.blk b t l)) : Blk w b t l := by
  match σ, h with
  | [], h => exact St.blk (show St No W w L from h) hi
  | [v], ⟨_, _, _, e, q, S⟩ => exact S.blk (i := i + 1) hi
theorem VC.out (h : VC W L Q [] w) : Gr W w := St.out (show St No W w L from h)
theorem VC.step (h : VC W L Q [] w) (v : Value) (w' : World) (hv : ∃ L : List Int, Q L ∧ RetNew (fun s => .tuple #[s, .int .i64 0]) 2 1 L.length (ints L) w v w') : VC W L Q [v] w' := by
  obtain ⟨l, q, A, c, rfl, hR, hF, g⟩ := hv
  exact ⟨l, A, c, rfl, q, St.pushRow (show St No W w L from h) hR hF g⟩
end
theorem tup_inj {A A2 : Option Addr} {n n2 c c2 : Nat} {z : Value} (h : Value.tuple #[.slice A n c, z] = .tuple #[.slice A2 n2 c2, z]) : A = A2 ∧ n = n2 ∧ c = c2 := by simpa using h
section
variable {W : World} {A : Option Addr} {gw gh cap : Nat} {V : List Int}
set_option maxHeartbeats 2000000 in
theorem values9_E (x0 y0 x1 y1 : Nat) (hw : 1 ≤ gw ∧ gw ≤ 1024) (hh : 1 ≤ gh ∧ gh ≤ 1024) (hx : x0 ≤ x1 ∧ x1 < gw) (hy : y0 ≤ y1 ∧ y1 < gh) (hV : V.length = gw * gh) (hA : Rd W A (ints V)) :
    Fn Try.prog 97 [modV gw gh A (gw * gh) cap, .agg #[.int .i64 x0, .int .i64 y0, .int .i64 x1, .int .i64 y1]] W
    (fun v w' => ∃ L : List Int, (IsVals V gw x0 y0 x1 y1 (y1 + 1) x0 L ∧ L.length ≤ 1048576 ∧ L ≠ []) ∧ RetNew (fun s => .tuple #[s, .int .i64 0]) 2 1 L.length (ints L) W v w') := by
  have hwi := fun w => within44_E x0 y0 x1 y1 gw gh hw hh hx hy w
  have hm : 1 ≤ gw * gh ∧ gw * gh ≤ 1024 * 1024 := ⟨Nat.mul_le_mul hw.1 hh.1, Nat.mul_le_mul hw.2 hh.2⟩
  obtain ⟨nx, hnx⟩ : ∃ nx, nx = x1 + 1 - x0 := ⟨_, rfl⟩
  have sa_A : SomeA A := hA.someA (by rw [ints_len]; omega)
  unfold modV
  have S := St.start W
  refine Fn_enter Try.func97 rfl Try.results97 Try.ntmps97 (by kernel_rfl) (by kernel_rfl) ?_
  repeat refine cw_seq ?_
  refine cw_region ?_
  refine rw_newB (op_box rfl) S ?_
  intro b_md w2_ g2_ S
  refine rw_newB (op_box rfl) S ?_
  intro b_r w4_ g4_ S
  iterate 2 refine rw_v (op_pure rfl) ?_
  first | refine rw_end ?_ | (refine rw_nil ?_; show CW _ _ _ _ _ _) | refine rw_nil ?_
  repeat refine cw_seq ?_
  refine cw_region ?_
  refine rw_r (op_loadAB Try.underlying75 rfl (Try.sizeOf75 _) rfl (S.blk (i := 0) rfl) rfl rfl) ?_
  refine rw_v (op_fieldAddr Try.underlying25 rfl Try.sizeOf2 rfl rfl) ?_
  refine rw_r (op_loadB Try.underlying2 rfl rfl (S.blk (i := 1) rfl) rfl) ?_
  refine rw_v (op_fieldAddr Try.underlying25 rfl Try.sizeOf2 rfl rfl) ?_
  refine rw_r (op_loadB Try.underlying2 rfl rfl (S.blk (i := 1) rfl) rfl) ?_
  refine rw_call rfl (hwi w4_) ?_
  rintro _ w5_ ⟨rfl, g5_⟩
  have S := S.gr g5_
  refine rw_v (op_pure rfl) ?_
  first | refine rw_end ?_ | (refine rw_nil ?_; show CW _ _ _ _ _ _) | refine rw_nil ?_
  repeat refine cw_seq ?_
  refine cw_region ?_
  refine rw_v (op_pure rfl) ?_
  refine rw_v (op_b (b := false) rfl (bne_eq_false_iff_eq.2 (by omega))) ?_
  first | refine rw_end ?_ | (refine rw_nil ?_; show CW _ _ _ _ _ _) | refine rw_nil ?_
  repeat refine cw_seq ?_
  refine cw_false rfl ?_
  repeat refine cw_seq ?_
  refine cw_skip ?_
  try show CW _ _ _ _ _ _
  repeat refine cw_seq ?_
  refine cw_region ?_
  refine rw_buildS0 Try.underlying22 Try.sizeOf2 S ?_
  intro A_l w7_ g7_ S sa_l
  refine rw_v (op_pure rfl) ?_
  first | refine rw_end ?_ | (refine rw_nil ?_; show CW _ _ _ _ _ _) | refine rw_nil ?_
  repeat refine cw_seq ?_
  refine cw_region ?_
  refine rw_v (op_fieldAddr Try.underlying75 rfl Try.sizeOf2 rfl rfl) ?_
  refine rw_r (op_loadB Try.underlying2 rfl rfl (S.blk (i := 1) rfl) rfl) ?_
  refine rw_v (op_pure rfl) ?_
  first | refine rw_end ?_ | (refine rw_nil ?_; show CW _ _ _ _ _ _) | refine rw_nil ?_
  repeat refine cw_seq ?_
  refine cw_block ?_
  repeat refine cw_seq ?_
  refine cw_loop (fun m e w => ∃ (y : Nat) (L : List Int) (A_l : Option Addr) (c_l : Nat), y + m = y1 + 1 ∧ y0 ≤ y ∧ L.length = (y - y0) * nx ∧ IsVals V gw x0 y0 x1 y1 y x0 L ∧ SL e [(2, .pointer (some ⟨b_md, 0, none⟩)), (3, .pointer (some ⟨b_r, 0, none⟩)), (7, .slice A_l L.length c_l), (8, .int .i64 y)] ∧
    St No W w [.row 2 1 A_l L.length c_l (ints L), .blk b_r 75 [.int .i64 x0, .int .i64 y0, .int .i64 x1, .int .i64 y1], .blk b_md 25 [.int .i64 gw, .int .i64 gh, .slice A (gw * gh) cap]]) (y1 + 1 - y0)
    ⟨y0, [], A_l, _, by omega, Nat.le_refl _, by simp, ⟨fun v hv => (nomatch hv), fun a b h hlt => by unfold boxP at h; omega⟩, ⟨rfl, rfl, rfl, rfl, trivial⟩, S⟩ ?_
  clear S
  rintro m e w ⟨y, L, A_l, c_l, hym, hy0, hLl, hL, hsl, S⟩
  rw [hsl.fold]
  by_cases hyn : y ≤ y1
  · have hq : (y - y0 + 1) * nx ≤ 1024 * 1024 := Nat.mul_le_mul (by omega) (by omega)
    rw [Nat.succ_mul, ← hLl] at hq
    obtain ⟨q, hqe⟩ : ∃ q, q = L.length := ⟨_, rfl⟩
    repeat refine cw_seq ?_
    refine cw_region ?_
    refine rw_v (op_pure rfl) ?_
    refine rw_v (op_fieldAddr Try.underlying75 rfl Try.sizeOf2 rfl rfl) ?_
    refine rw_r (op_loadB Try.underlying2 rfl rfl (S.blk (i := 1) rfl) rfl) ?_
    refine rw_v (op_b (b := true) rfl (decide_eq_true (by omega))) ?_
    first | refine rw_end ?_ | (refine rw_nil ?_; show CW _ _ _ _ _ _) | refine rw_nil ?_
    repeat refine cw_seq ?_
    refine cw_true rfl ?_
    repeat refine cw_seq ?_
    refine cw_skip ?_
    try show CW _ _ _ _ _ _
    repeat refine cw_seq ?_
    refine cw_block ?_
    repeat refine cw_seq ?_
    refine cw_region ?_
    refine rw_v (op_fieldAddr Try.underlying75 rfl Try.sizeOf2 rfl rfl) ?_
    refine rw_r (op_loadB Try.underlying2 rfl rfl (S.blk (i := 1) rfl) rfl) ?_
    refine rw_v (op_pure rfl) ?_
    first | refine rw_end ?_ | (refine rw_nil ?_; show CW _ _ _ _ _ _) | refine rw_nil ?_
    repeat refine cw_seq ?_
    refine cw_block ?_
    repeat refine cw_seq ?_
    refine cw_loop (fun m e w => ∃ (x : Nat) (L : List Int) (A_l : Option Addr) (c_l : Nat), x + m = x1 + 1 ∧ x0 ≤ x ∧ L.length = q + (x - x0) ∧ IsVals V gw x0 y0 x1 y1 y x L ∧ SL e [(2, .pointer (some ⟨b_md, 0, none⟩)), (3, .pointer (some ⟨b_r, 0, none⟩)), (7, .slice A_l L.length c_l), (8, .int .i64 y), (9, .int .i64 x)] ∧
      St No W w [.row 2 1 A_l L.length c_l (ints L), .blk b_r 75 [.int .i64 x0, .int .i64 y0, .int .i64 x1, .int .i64 y1], .blk b_md 25 [.int .i64 gw, .int .i64 gh, .slice A (gw * gh) cap]]) (x1 + 1 - x0)
      ⟨x0, L, A_l, c_l, by omega, Nat.le_refl _, by omega, hL, ⟨rfl, rfl, rfl, rfl, rfl, trivial⟩, S⟩ ?_
    rw [← hqe] at hq
    rw [← hqe] at hLl
    clear S hL
    rintro m2 e w ⟨x, L, A_l, c_l, hxm, hx0, hLx, hL, hsl, S⟩
    rw [hsl.fold]
    by_cases hxn : x ≤ x1
    · have hlt : y * gw + x < gw * gh := by
        have := Nat.mul_le_mul_right gw (show y + 1 ≤ gh by omega)
        rw [Nat.succ_mul, Nat.mul_comm gh] at this
        omega
      have e1 : (y : Int) * (gw : Int) = ((y * gw : Nat) : Int) := by push_cast; rfl
      have hcv : cellV V gw x y = V.getD (y * gw + x) 0 := rfl
      have hpush := hL.push (by unfold boxP; omega)
      rw [hcv] at hpush
      generalize y * gw = yg at *
      have hget : (ints V)[((yg : Int) + (x : Int)).toNat * 1]? = some (.int .i64 (V.getD (yg + x) 0)) := by rw [Nat.mul_one, show ((yg : Int) + (x : Int)).toNat = yg + x by omega]; exact ints_get (getD_at (by omega))
      repeat refine cw_seq ?_
      refine cw_region ?_
      refine rw_v (op_pure rfl) ?_
      refine rw_v (op_fieldAddr Try.underlying75 rfl Try.sizeOf2 rfl rfl) ?_
      refine rw_r (op_loadB Try.underlying2 rfl rfl (S.blk (i := 1) rfl) rfl) ?_
      refine rw_v (op_b (b := true) rfl (decide_eq_true (by omega))) ?_
      first | refine rw_end ?_ | (refine rw_nil ?_; show CW _ _ _ _ _ _) | refine rw_nil ?_
      repeat refine cw_seq ?_
      refine cw_true rfl ?_
      repeat refine cw_seq ?_
      refine cw_skip ?_
      try show CW _ _ _ _ _ _
      repeat refine cw_seq ?_
      refine cw_block ?_
      repeat refine cw_seq ?_
      refine cw_region ?_
      refine rw_v (op_pure rfl) ?_
      refine rw_v (op_fieldAddr Try.underlying25 rfl Try.sizeOf22 rfl rfl) ?_
      refine rw_r (op_loadB Try.underlying22 rfl rfl (S.blk (i := 2) rfl) rfl) ?_
      refine rw_v (op_pure rfl) ?_
      refine rw_v (op_fieldAddr Try.underlying25 rfl Try.sizeOf2 rfl rfl) ?_
      refine rw_r (op_loadB Try.underlying2 rfl rfl (S.blk (i := 2) rfl) rfl) ?_
      refine rw_v (op_rng rfl (by rw [e1]; omega)) ?_
      rw [e1]
      refine rw_v (op_pure rfl) ?_
      refine rw_v (op_rng rfl (by omega)) ?_
      refine rw_v (op_idx Try.underlying22 Try.sizeOf2 rfl rfl sa_A (by omega) (by omega)) ?_
      refine rw_r (op_ldR Try.underlying2 rfl rfl (hA.gr S.out) hget) ?_
      refine rw_buildS Try.underlying22 Try.sizeOf2 Try.zeroValue2 rfl rfl rfl rfl rfl rfl S ?_
      intro A_lit w9_ g9_ S sa_lit
      refine rw_appS (i := 1) S rfl (fun h => rfl) Try.underlying22 info_t2 rfl rfl rfl rfl (by simp) (by omega) (S.rd (i := 0) rfl) rfl (by omega) ?_
      intro A_l2 c_l2 w10_ S sa_l
      refine rw_v (op_pure rfl) ?_
      first | refine rw_end ?_ | (refine rw_nil ?_; show CW _ _ _ _ _ _) | refine rw_nil ?_
      repeat refine cw_seq ?_
      refine cw_region ?_
      refine rw_v (op_pure rfl) ?_
      refine rw_v (op_rng rfl (by omega)) ?_
      refine rw_v (op_pure rfl) ?_
      first | refine rw_end ?_ | (refine rw_nil ?_; show CW _ _ _ _ _ _) | refine rw_nil ?_
      have S := S.sub (.cons _ (.cons_cons _ (.cons_cons _ (.cons_cons _ (.slnil)))))
      refine ⟨m2 - 1, by omega, x + 1, L ++ [V.getD (yg + x) 0], A_l2, c_l2, by omega, by omega, by simp; omega, hpush, ⟨rfl, rfl, ?_, rfl, ie (by omega), trivial⟩, ?_⟩
      · rw [List.length_append]; rfl
      · rw [List.length_append, ← ints_app]; exact S
    · have ex : x = x1 + 1 := by omega
      repeat refine cw_seq ?_
      refine cw_region ?_
      refine rw_v (op_pure rfl) ?_
      refine rw_v (op_fieldAddr Try.underlying75 rfl Try.sizeOf2 rfl rfl) ?_
      refine rw_r (op_loadB Try.underlying2 rfl rfl (S.blk (i := 1) rfl) rfl) ?_
      refine rw_v (op_b (b := false) rfl (decide_eq_false (by omega))) ?_
      first | refine rw_end ?_ | (refine rw_nil ?_; show CW _ _ _ _ _ _) | refine rw_nil ?_
      repeat refine cw_seq ?_
      refine cw_false rfl ?_
      repeat refine cw_seq ?_
      refine cw_exit ?_
      repeat first | refine exit_then ?_ | refine exit_inb ?_
      show CW _ _ _ _ _ _
      repeat refine cw_seq ?_
      refine cw_region ?_
      refine rw_v (op_pure rfl) ?_
      refine rw_v (op_rng rfl (by omega)) ?_
      refine rw_v (op_pure rfl) ?_
      first | refine rw_end ?_ | (refine rw_nil ?_; show CW _ _ _ _ _ _) | refine rw_nil ?_
      exact ⟨m - 1, by omega, y + 1, L, A_l, c_l, by omega, by omega, by rw [show y + 1 - y0 = (y - y0) + 1 by omega, Nat.succ_mul]; omega, ⟨hL.of, fun a b hab hlt => hL.all a b hab (by unfold boxP at hab; omega)⟩, ⟨rfl, rfl, rfl, ie (by omega), trivial⟩, S⟩
  · have ey : y = y1 + 1 := by omega
    rw [ey] at hL hLl
    have hle : (y1 + 1 - y0) * nx ≤ 1024 * 1024 := Nat.mul_le_mul (by omega) (by omega)
    have hne : L ≠ [] := fun e => by
      have := hL.all x0 y0 (by unfold boxP; omega) (by omega)
      rw [e] at this
      cases this
    repeat refine cw_seq ?_
    refine cw_region ?_
    refine rw_v (op_pure rfl) ?_
    refine rw_v (op_fieldAddr Try.underlying75 rfl Try.sizeOf2 rfl rfl) ?_
    refine rw_r (op_loadB Try.underlying2 rfl rfl (S.blk (i := 1) rfl) rfl) ?_
    refine rw_v (op_b (b := false) rfl (decide_eq_false (by omega))) ?_
    first | refine rw_end ?_ | (refine rw_nil ?_; show CW _ _ _ _ _ _) | refine rw_nil ?_
    repeat refine cw_seq ?_
    refine cw_false rfl ?_
    repeat refine cw_seq ?_
    refine cw_exit ?_
    repeat first | refine exit_then ?_ | refine exit_inb ?_
    show CW _ _ _ _ _ _
    repeat refine cw_seq ?_
    refine cw_region ?_
    iterate 3 refine rw_v (op_pure rfl) ?_
    first | refine rw_end ?_ | (refine rw_nil ?_; show CW _ _ _ _ _ _) | refine rw_nil ?_
    repeat refine cw_seq ?_
    refine cw_ret ?_
    repeat first | refine ret_then ?_ | refine ret_inb ?_
    exact res2 rfl rfl ⟨L, ⟨hL, by omega, hne⟩, S.retNew (i := 0) (mk := fun s => .tuple #[s, .int .i64 0]) rfl⟩
set_option maxHeartbeats 2000000 in
theorem range8_E (L : List Int) (c : Nat) (hne : L ≠ []) (hlen : L.length ≤ 1048576) (hR : Rd W A (ints L)) :
    Fn Try.prog 99 [.slice A L.length c] W (fun v w' => ∃ lo hi, v = .agg #[.int .i64 lo, .int .i64 hi] ∧ RgL L lo hi ∧ Gr W w') := by
  have hl1 : 1 ≤ L.length := by
    cases L with
    | nil => exact absurd rfl hne
    | cons a l => simp
  have sa_A : SomeA A := hR.someA (by rw [ints_len]; omega)
  have hget0 : (ints L)[(0 : Int).toNat * 1]? = some (.int .i64 (L.getD 0 0)) := ints_get (getD_at (by omega))
  have htk : L.take 1 = [L.getD 0 0] := by
    cases L with
    | nil => exact absurd rfl hne
    | cons a l => simp
  have S := St.start W
  refine Fn_enter Try.func99 rfl Try.results99 Try.ntmps99 (by kernel_rfl) (by kernel_rfl) ?_
  repeat refine cw_seq ?_
  refine cw_region ?_
  refine rw_newB (op_alloc Try.zeroValue78 rfl) S ?_
  intro b_res w2_ g2_ S
  first | refine rw_end ?_ | (refine rw_nil ?_; show CW _ _ _ _ _ _) | refine rw_nil ?_
  repeat refine cw_seq ?_
  refine cw_region ?_
  refine rw_v (op_pure rfl) ?_
  refine rw_v (op_len Try.underlying22 rfl) ?_
  refine rw_v (op_b (b := false) rfl (beq_eq_false_iff_ne.2 (by omega))) ?_
  first | refine rw_end ?_ | (refine rw_nil ?_; show CW _ _ _ _ _ _) | refine rw_nil ?_
  repeat refine cw_seq ?_
  refine cw_false rfl ?_
  repeat refine cw_seq ?_
  refine cw_skip ?_
  try show CW _ _ _ _ _ _
  repeat refine cw_seq ?_
  refine cw_tri (C := (CA No W [.blk b_res 78 [.int .i64 0, .int .i64 0]] 78 [.int .i64 0, .int .i64 0] [.int .i64 (L.getD 0 0), .int .i64 (L.getD 0 0)])) [7, 8] [0, 1, 2, 3, 4, 5, 6, 7, 8] [] (by kernel_rfl) (by kernel_rfl) (CA.start (S.gr (Gr.drew _))) ?_
  simp only [pickI, pickL, List.drop_succ_cons, List.drop_zero]
  refine rs_v rfl (op_pure rfl) ?_
  refine rs_v rfl (op_idx Try.underlying22 Try.sizeOf2 rfl rfl sa_A (by omega) (by omega)) ?_
  refine rs_r rfl (fun τ wq hq => op_ldR Try.underlying2 rfl rfl (hR.gr (CA.st hq).out) hget0) ?_
  refine rs_v rfl (op_pure rfl) ?_
  refine rs_v rfl (op_idx Try.underlying22 Try.sizeOf2 rfl rfl sa_A (by omega) (by omega)) ?_
  refine rs_r rfl (fun τ wq hq => op_ldR Try.underlying2 rfl rfl (hR.gr (CA.st hq).out) hget0) ?_
  refine rs_v rfl (op_build (pl := [(0, 1), (1, 1)]) Try.underlying78 Try.zeroValue78 (fun w => by kernel_rfl) rfl rfl) ?_
  refine rs_special rfl rfl (fun wq hq => to_allocCA hq Try.zeroValue78 rfl) ?_
  rintro v14 w14 ⟨b_r, rfl, _⟩
  refine rs_special rfl rfl (fun wq hq => to_storeCA hq (Try.sizeOf78 _) rfl rfl rfl rfl rfl) ?_
  rintro v15 w15 _
  refine rs_nil ?_
  rintro wz hz
  first | refine rw_end ?_ | (refine rw_nil ?_; show CW _ _ _ _ _ _) | refine rw_nil ?_
  repeat refine cw_seq ?_
  refine cw_region ?_
  obtain ⟨b_r2, e_r2, S⟩ := hz.fin
  cases e_r2
  refine rw_v (op_pure rfl) ?_
  first | refine rw_end ?_ | (refine rw_nil ?_; show CW _ _ _ _ _ _) | refine rw_nil ?_
  repeat refine cw_seq ?_
  refine cw_block ?_
  repeat refine cw_seq ?_
  refine cw_loop (fun m e w => ∃ (i : Nat) (lo hi : Int), i + m = L.length ∧ 1 ≤ i ∧ RgL (L.take i) lo hi ∧ SL e [(0, .slice A L.length c), (2, .pointer (some ⟨b_res, 0, none⟩)), (3, .pointer (some ⟨b_r, 0, none⟩)), (4, .int .i64 i)] ∧
    St No W w [.blk b_r 78 [.int .i64 lo, .int .i64 hi], .blk b_res 78 [.int .i64 0, .int .i64 0]]) (L.length - 1)
    ⟨1, L.getD 0 0, L.getD 0 0, by omega, by omega, by rw [htk]; exact ⟨fun v hv => by rw [List.mem_singleton.1 hv]; omega, by simp, by simp⟩, ⟨rfl, rfl, rfl, rfl, trivial⟩, S⟩ ?_
  clear S
  rintro m e w ⟨i, lo, hi, him, hi1, hL, hsl, S⟩
  rw [hsl.fold]
  by_cases hin : i < L.length
  · have hget : (ints L)[(i : Int).toNat * 1]? = some (.int .i64 (L.getD i 0)) := by rw [Nat.mul_one, Int.toNat_natCast]; exact ints_get (getD_at hin)
    have htk1 : L.take (i + 1) = L.take i ++ [L.getD i 0] := by
      rw [List.take_add_one, getD_at hin]; rfl
    have hpush := fun lo' hi' (e1 : lo' = min lo (L.getD i 0)) (e2 : hi' = max hi (L.getD i 0)) => hL.push (v := L.getD i 0) e1 e2
    rw [← htk1] at hpush
    generalize L.getD i 0 = v at *
    by_cases c1 : v < lo
    · by_cases c2 : v > hi
      · skip
        repeat refine cw_seq ?_
        refine cw_region ?_
        iterate 2 refine rw_v (op_pure rfl) ?_
        refine rw_v (op_len Try.underlying22 rfl) ?_
        refine rw_v (op_b (b := true) rfl (decide_eq_true (by omega))) ?_
        first | refine rw_end ?_ | (refine rw_nil ?_; show CW _ _ _ _ _ _) | refine rw_nil ?_
        repeat refine cw_seq ?_
        refine cw_true rfl ?_
        repeat refine cw_seq ?_
        refine cw_skip ?_
        try show CW _ _ _ _ _ _
        repeat refine cw_seq ?_
        refine cw_block ?_
        repeat refine cw_seq ?_
        refine cw_draw (C := fun wq => Gr w wq) [0, 1, 2, 3, 4, 5, 6] [] (by kernel_rfl) (by kernel_rfl) (Gr.drew _) ?_
        simp only [pickL, List.drop_succ_cons, List.drop_zero]
        iterate 2 refine rq_v (op_pure rfl) ?_
        refine rq_v (op_idx Try.underlying22 Try.sizeOf2 rfl rfl sa_A (by omega) (by omega)) ?_
        refine rq_r (fun wq hq => op_ldR Try.underlying2 rfl rfl (hR.gr (S.gr hq).out) hget) ?_
        refine rq_v (op_fieldAddr Try.underlying78 rfl Try.sizeOf2 rfl rfl) ?_
        refine rq_r (fun wq hq => op_loadB Try.underlying2 rfl rfl ((S.gr hq).blk (i := 0) rfl) rfl) ?_
        first | refine rq_v (op_b (b := true) rfl (decide_eq_true (by omega))) ?_ | refine rq_v (op_b (b := false) rfl (decide_eq_false (by omega))) ?_ | refine rq_v (op_pure rfl) ?_
        refine rq_nil ?_
        intro w4_ g4_
        have S := S.gr g4_
        first | refine rw_end ?_ | (refine rw_nil ?_; show CW _ _ _ _ _ _) | refine rw_nil ?_
        repeat refine cw_seq ?_
        refine cw_true rfl ?_
        repeat refine cw_seq ?_
        refine cw_region ?_
        iterate 2 refine rw_v (op_pure rfl) ?_
        refine rw_v (op_idx Try.underlying22 Try.sizeOf2 rfl rfl sa_A (by omega) (by omega)) ?_
        refine rw_r (op_ldR Try.underlying2 rfl rfl (hR.gr S.out) hget) ?_
        refine rw_v (op_fieldAddr Try.underlying78 rfl Try.sizeOf2 rfl rfl) ?_
        refine rw_storeS (i := 0) S rfl (Try.sizeOf2 _) rfl rfl rfl rfl rfl rfl ?_
        intro w5_ S
        first | refine rw_end ?_ | (refine rw_nil ?_; show CW _ _ _ _ _ _) | refine rw_nil ?_
        repeat refine cw_seq ?_
        refine cw_draw (C := fun wq => Gr w5_ wq) [0, 1, 2, 3, 4, 5, 6] [] (by kernel_rfl) (by kernel_rfl) (Gr.drew _) ?_
        simp only [pickL, List.drop_succ_cons, List.drop_zero]
        iterate 2 refine rq_v (op_pure rfl) ?_
        refine rq_v (op_idx Try.underlying22 Try.sizeOf2 rfl rfl sa_A (by omega) (by omega)) ?_
        refine rq_r (fun wq hq => op_ldR Try.underlying2 rfl rfl (hR.gr (S.gr hq).out) hget) ?_
        refine rq_v (op_fieldAddr Try.underlying78 rfl Try.sizeOf2 rfl rfl) ?_
        refine rq_r (fun wq hq => op_loadB Try.underlying2 rfl rfl ((S.gr hq).blk (i := 0) rfl) rfl) ?_
        first | refine rq_v (op_b (b := true) rfl (decide_eq_true (by omega))) ?_ | refine rq_v (op_b (b := false) rfl (decide_eq_false (by omega))) ?_ | refine rq_v (op_pure rfl) ?_
        refine rq_nil ?_
        intro w6_ g6_
        have S := S.gr g6_
        first | refine rw_end ?_ | (refine rw_nil ?_; show CW _ _ _ _ _ _) | refine rw_nil ?_
        repeat refine cw_seq ?_
        refine cw_true rfl ?_
        repeat refine cw_seq ?_
        refine cw_region ?_
        iterate 2 refine rw_v (op_pure rfl) ?_
        refine rw_v (op_idx Try.underlying22 Try.sizeOf2 rfl rfl sa_A (by omega) (by omega)) ?_
        refine rw_r (op_ldR Try.underlying2 rfl rfl (hR.gr S.out) hget) ?_
        refine rw_v (op_fieldAddr Try.underlying78 rfl Try.sizeOf2 rfl rfl) ?_
        refine rw_storeS (i := 0) S rfl (Try.sizeOf2 _) rfl rfl rfl rfl rfl rfl ?_
        intro w7_ S
        first | refine rw_end ?_ | (refine rw_nil ?_; show CW _ _ _ _ _ _) | refine rw_nil ?_
        repeat refine cw_seq ?_
        refine cw_region ?_
        refine rw_v (op_pure rfl) ?_
        refine rw_v (op_rng rfl (by omega)) ?_
        refine rw_v (op_pure rfl) ?_
        first | refine rw_end ?_ | (refine rw_nil ?_; show CW _ _ _ _ _ _) | refine rw_nil ?_
        exact ⟨m - 1, by omega, i + 1, v, v, by omega, by omega, hpush _ _ (by omega) (by omega), ⟨rfl, rfl, rfl, ie (by omega), trivial⟩, S⟩
      · skip
        repeat refine cw_seq ?_
        refine cw_region ?_
        iterate 2 refine rw_v (op_pure rfl) ?_
        refine rw_v (op_len Try.underlying22 rfl) ?_
        refine rw_v (op_b (b := true) rfl (decide_eq_true (by omega))) ?_
        first | refine rw_end ?_ | (refine rw_nil ?_; show CW _ _ _ _ _ _) | refine rw_nil ?_
        repeat refine cw_seq ?_
        refine cw_true rfl ?_
        repeat refine cw_seq ?_
        refine cw_skip ?_
        try show CW _ _ _ _ _ _
        repeat refine cw_seq ?_
        refine cw_block ?_
        repeat refine cw_seq ?_
        refine cw_draw (C := fun wq => Gr w wq) [0, 1, 2, 3, 4, 5, 6] [] (by kernel_rfl) (by kernel_rfl) (Gr.drew _) ?_
        simp only [pickL, List.drop_succ_cons, List.drop_zero]
        iterate 2 refine rq_v (op_pure rfl) ?_
        refine rq_v (op_idx Try.underlying22 Try.sizeOf2 rfl rfl sa_A (by omega) (by omega)) ?_
        refine rq_r (fun wq hq => op_ldR Try.underlying2 rfl rfl (hR.gr (S.gr hq).out) hget) ?_
        refine rq_v (op_fieldAddr Try.underlying78 rfl Try.sizeOf2 rfl rfl) ?_
        refine rq_r (fun wq hq => op_loadB Try.underlying2 rfl rfl ((S.gr hq).blk (i := 0) rfl) rfl) ?_
        first | refine rq_v (op_b (b := true) rfl (decide_eq_true (by omega))) ?_ | refine rq_v (op_b (b := false) rfl (decide_eq_false (by omega))) ?_ | refine rq_v (op_pure rfl) ?_
        refine rq_nil ?_
        intro w8_ g8_
        have S := S.gr g8_
        first | refine rw_end ?_ | (refine rw_nil ?_; show CW _ _ _ _ _ _) | refine rw_nil ?_
        repeat refine cw_seq ?_
        refine cw_true rfl ?_
        repeat refine cw_seq ?_
        refine cw_region ?_
        iterate 2 refine rw_v (op_pure rfl) ?_
        refine rw_v (op_idx Try.underlying22 Try.sizeOf2 rfl rfl sa_A (by omega) (by omega)) ?_
        refine rw_r (op_ldR Try.underlying2 rfl rfl (hR.gr S.out) hget) ?_
        refine rw_v (op_fieldAddr Try.underlying78 rfl Try.sizeOf2 rfl rfl) ?_
        refine rw_storeS (i := 0) S rfl (Try.sizeOf2 _) rfl rfl rfl rfl rfl rfl ?_
        intro w9_ S
        first | refine rw_end ?_ | (refine rw_nil ?_; show CW _ _ _ _ _ _) | refine rw_nil ?_
        repeat refine cw_seq ?_
        refine cw_draw (C := fun wq => Gr w9_ wq) [0, 1, 2, 3, 4, 5, 6] [] (by kernel_rfl) (by kernel_rfl) (Gr.drew _) ?_
        simp only [pickL, List.drop_succ_cons, List.drop_zero]
        iterate 2 refine rq_v (op_pure rfl) ?_
        refine rq_v (op_idx Try.underlying22 Try.sizeOf2 rfl rfl sa_A (by omega) (by omega)) ?_
        refine rq_r (fun wq hq => op_ldR Try.underlying2 rfl rfl (hR.gr (S.gr hq).out) hget) ?_
        refine rq_v (op_fieldAddr Try.underlying78 rfl Try.sizeOf2 rfl rfl) ?_
        refine rq_r (fun wq hq => op_loadB Try.underlying2 rfl rfl ((S.gr hq).blk (i := 0) rfl) rfl) ?_
        first | refine rq_v (op_b (b := true) rfl (decide_eq_true (by omega))) ?_ | refine rq_v (op_b (b := false) rfl (decide_eq_false (by omega))) ?_ | refine rq_v (op_pure rfl) ?_
        refine rq_nil ?_
        intro w10_ g10_
        have S := S.gr g10_
        first | refine rw_end ?_ | (refine rw_nil ?_; show CW _ _ _ _ _ _) | refine rw_nil ?_
        repeat refine cw_seq ?_
        refine cw_false rfl ?_
        repeat refine cw_seq ?_
        refine cw_skip ?_
        try show CW _ _ _ _ _ _
        repeat refine cw_seq ?_
        refine cw_region ?_
        refine rw_v (op_pure rfl) ?_
        refine rw_v (op_rng rfl (by omega)) ?_
        refine rw_v (op_pure rfl) ?_
        first | refine rw_end ?_ | (refine rw_nil ?_; show CW _ _ _ _ _ _) | refine rw_nil ?_
        exact ⟨m - 1, by omega, i + 1, v, hi, by omega, by omega, hpush _ _ (by omega) (by omega), ⟨rfl, rfl, rfl, ie (by omega), trivial⟩, S⟩
    · by_cases c2 : v > hi
      · skip
        repeat refine cw_seq ?_
        refine cw_region ?_
        iterate 2 refine rw_v (op_pure rfl) ?_
        refine rw_v (op_len Try.underlying22 rfl) ?_
        refine rw_v (op_b (b := true) rfl (decide_eq_true (by omega))) ?_
        first | refine rw_end ?_ | (refine rw_nil ?_; show CW _ _ _ _ _ _) | refine rw_nil ?_
        repeat refine cw_seq ?_
        refine cw_true rfl ?_
        repeat refine cw_seq ?_
        refine cw_skip ?_
        try show CW _ _ _ _ _ _
        repeat refine cw_seq ?_
        refine cw_block ?_
        repeat refine cw_seq ?_
        refine cw_draw (C := fun wq => Gr w wq) [0, 1, 2, 3, 4, 5, 6] [] (by kernel_rfl) (by kernel_rfl) (Gr.drew _) ?_
        simp only [pickL, List.drop_succ_cons, List.drop_zero]
        iterate 2 refine rq_v (op_pure rfl) ?_
        refine rq_v (op_idx Try.underlying22 Try.sizeOf2 rfl rfl sa_A (by omega) (by omega)) ?_
        refine rq_r (fun wq hq => op_ldR Try.underlying2 rfl rfl (hR.gr (S.gr hq).out) hget) ?_
        refine rq_v (op_fieldAddr Try.underlying78 rfl Try.sizeOf2 rfl rfl) ?_
        refine rq_r (fun wq hq => op_loadB Try.underlying2 rfl rfl ((S.gr hq).blk (i := 0) rfl) rfl) ?_
        first | refine rq_v (op_b (b := true) rfl (decide_eq_true (by omega))) ?_ | refine rq_v (op_b (b := false) rfl (decide_eq_false (by omega))) ?_ | refine rq_v (op_pure rfl) ?_
        refine rq_nil ?_
        intro w11_ g11_
        have S := S.gr g11_
        first | refine rw_end ?_ | (refine rw_nil ?_; show CW _ _ _ _ _ _) | refine rw_nil ?_
        repeat refine cw_seq ?_
        refine cw_false rfl ?_
        repeat refine cw_seq ?_
        refine cw_skip ?_
        try show CW _ _ _ _ _ _
        repeat refine cw_seq ?_
        refine cw_draw (C := fun wq => Gr w11_ wq) [0, 1, 2, 3, 4, 5, 6] [] (by kernel_rfl) (by kernel_rfl) (Gr.drew _) ?_
        simp only [pickL, List.drop_succ_cons, List.drop_zero]
        iterate 2 refine rq_v (op_pure rfl) ?_
        refine rq_v (op_idx Try.underlying22 Try.sizeOf2 rfl rfl sa_A (by omega) (by omega)) ?_
        refine rq_r (fun wq hq => op_ldR Try.underlying2 rfl rfl (hR.gr (S.gr hq).out) hget) ?_
        refine rq_v (op_fieldAddr Try.underlying78 rfl Try.sizeOf2 rfl rfl) ?_
        refine rq_r (fun wq hq => op_loadB Try.underlying2 rfl rfl ((S.gr hq).blk (i := 0) rfl) rfl) ?_
        first | refine rq_v (op_b (b := true) rfl (decide_eq_true (by omega))) ?_ | refine rq_v (op_b (b := false) rfl (decide_eq_false (by omega))) ?_ | refine rq_v (op_pure rfl) ?_
        refine rq_nil ?_
        intro w12_ g12_
        have S := S.gr g12_
        first | refine rw_end ?_ | (refine rw_nil ?_; show CW _ _ _ _ _ _) | refine rw_nil ?_
        repeat refine cw_seq ?_
        refine cw_true rfl ?_
        repeat refine cw_seq ?_
        refine cw_region ?_
        iterate 2 refine rw_v (op_pure rfl) ?_
        refine rw_v (op_idx Try.underlying22 Try.sizeOf2 rfl rfl sa_A (by omega) (by omega)) ?_
        refine rw_r (op_ldR Try.underlying2 rfl rfl (hR.gr S.out) hget) ?_
        refine rw_v (op_fieldAddr Try.underlying78 rfl Try.sizeOf2 rfl rfl) ?_
        refine rw_storeS (i := 0) S rfl (Try.sizeOf2 _) rfl rfl rfl rfl rfl rfl ?_
        intro w13_ S
        first | refine rw_end ?_ | (refine rw_nil ?_; show CW _ _ _ _ _ _) | refine rw_nil ?_
        repeat refine cw_seq ?_
        refine cw_region ?_
        refine rw_v (op_pure rfl) ?_
        refine rw_v (op_rng rfl (by omega)) ?_
        refine rw_v (op_pure rfl) ?_
        first | refine rw_end ?_ | (refine rw_nil ?_; show CW _ _ _ _ _ _) | refine rw_nil ?_
        exact ⟨m - 1, by omega, i + 1, lo, v, by omega, by omega, hpush _ _ (by omega) (by omega), ⟨rfl, rfl, rfl, ie (by omega), trivial⟩, S⟩
      · skip
        repeat refine cw_seq ?_
        refine cw_region ?_
        iterate 2 refine rw_v (op_pure rfl) ?_
        refine rw_v (op_len Try.underlying22 rfl) ?_
        refine rw_v (op_b (b := true) rfl (decide_eq_true (by omega))) ?_
        first | refine rw_end ?_ | (refine rw_nil ?_; show CW _ _ _ _ _ _) | refine rw_nil ?_
        repeat refine cw_seq ?_
        refine cw_true rfl ?_
        repeat refine cw_seq ?_
        refine cw_skip ?_
        try show CW _ _ _ _ _ _
        repeat refine cw_seq ?_
        refine cw_block ?_
        repeat refine cw_seq ?_
        refine cw_draw (C := fun wq => Gr w wq) [0, 1, 2, 3, 4, 5, 6] [] (by kernel_rfl) (by kernel_rfl) (Gr.drew _) ?_
        simp only [pickL, List.drop_succ_cons, List.drop_zero]
        iterate 2 refine rq_v (op_pure rfl) ?_
        refine rq_v (op_idx Try.underlying22 Try.sizeOf2 rfl rfl sa_A (by omega) (by omega)) ?_
        refine rq_r (fun wq hq => op_ldR Try.underlying2 rfl rfl (hR.gr (S.gr hq).out) hget) ?_
        refine rq_v (op_fieldAddr Try.underlying78 rfl Try.sizeOf2 rfl rfl) ?_
        refine rq_r (fun wq hq => op_loadB Try.underlying2 rfl rfl ((S.gr hq).blk (i := 0) rfl) rfl) ?_
        first | refine rq_v (op_b (b := true) rfl (decide_eq_true (by omega))) ?_ | refine rq_v (op_b (b := false) rfl (decide_eq_false (by omega))) ?_ | refine rq_v (op_pure rfl) ?_
        refine rq_nil ?_
        intro w14_ g14_
        have S := S.gr g14_
        first | refine rw_end ?_ | (refine rw_nil ?_; show CW _ _ _ _ _ _) | refine rw_nil ?_
        repeat refine cw_seq ?_
        refine cw_false rfl ?_
        repeat refine cw_seq ?_
        refine cw_skip ?_
        try show CW _ _ _ _ _ _
        repeat refine cw_seq ?_
        refine cw_draw (C := fun wq => Gr w14_ wq) [0, 1, 2, 3, 4, 5, 6] [] (by kernel_rfl) (by kernel_rfl) (Gr.drew _) ?_
        simp only [pickL, List.drop_succ_cons, List.drop_zero]
        iterate 2 refine rq_v (op_pure rfl) ?_
        refine rq_v (op_idx Try.underlying22 Try.sizeOf2 rfl rfl sa_A (by omega) (by omega)) ?_
        refine rq_r (fun wq hq => op_ldR Try.underlying2 rfl rfl (hR.gr (S.gr hq).out) hget) ?_
        refine rq_v (op_fieldAddr Try.underlying78 rfl Try.sizeOf2 rfl rfl) ?_
        refine rq_r (fun wq hq => op_loadB Try.underlying2 rfl rfl ((S.gr hq).blk (i := 0) rfl) rfl) ?_
        first | refine rq_v (op_b (b := true) rfl (decide_eq_true (by omega))) ?_ | refine rq_v (op_b (b := false) rfl (decide_eq_false (by omega))) ?_ | refine rq_v (op_pure rfl) ?_
        refine rq_nil ?_
        intro w15_ g15_
        have S := S.gr g15_
        first | refine rw_end ?_ | (refine rw_nil ?_; show CW _ _ _ _ _ _) | refine rw_nil ?_
        repeat refine cw_seq ?_
        refine cw_false rfl ?_
        repeat refine cw_seq ?_
        refine cw_skip ?_
        try show CW _ _ _ _ _ _
        repeat refine cw_seq ?_
        refine cw_region ?_
        refine rw_v (op_pure rfl) ?_
        refine rw_v (op_rng rfl (by omega)) ?_
        refine rw_v (op_pure rfl) ?_
        first | refine rw_end ?_ | (refine rw_nil ?_; show CW _ _ _ _ _ _) | refine rw_nil ?_
        exact ⟨m - 1, by omega, i + 1, lo, hi, by omega, by omega, hpush _ _ (by omega) (by omega), ⟨rfl, rfl, rfl, ie (by omega), trivial⟩, S⟩
  · have ei : i = L.length := by omega
    rw [ei, List.take_length] at hL
    repeat refine cw_seq ?_
    refine cw_region ?_
    iterate 2 refine rw_v (op_pure rfl) ?_
    refine rw_v (op_len Try.underlying22 rfl) ?_
    refine rw_v (op_b (b := false) rfl (decide_eq_false (by omega))) ?_
    first | refine rw_end ?_ | (refine rw_nil ?_; show CW _ _ _ _ _ _) | refine rw_nil ?_
    repeat refine cw_seq ?_
    refine cw_false rfl ?_
    repeat refine cw_seq ?_
    refine cw_exit ?_
    repeat first | refine exit_then ?_ | refine exit_inb ?_
    show CW _ _ _ _ _ _
    repeat refine cw_seq ?_
    refine cw_region ?_
    refine rw_r (op_loadAB Try.underlying78 rfl (Try.sizeOf78 _) rfl (S.blk (i := 0) rfl) rfl rfl) ?_
    refine rw_storeSA (i := 1) S rfl (Try.sizeOf78 _) rfl rfl rfl rfl rfl rfl ?_
    intro w16_ S
    first | refine rw_end ?_ | (refine rw_nil ?_; show CW _ _ _ _ _ _) | refine rw_nil ?_
    repeat refine cw_seq ?_
    refine cw_ret ?_
    repeat first | refine ret_then ?_ | refine ret_inb ?_
    exact resA Try.underlying78 rfl (Try.sizeOf78 _) rfl (S.blk (i := 1) rfl) rfl rfl ⟨lo, hi, rfl, hL, S.out⟩
theorem window44_E (i n : Nat) (nc cap : Nat) (hw : 1 ≤ gw ∧ gw ≤ 1024) (hh : 1 ≤ gh ∧ gh ≤ 1024) (hi : i < gw * gh) (hn : n ≤ 1024) : Fn Try.prog 98 [modV gw gh A nc cap, .int .i64 i, .int .i64 n] W (RetG (winW gw gh i n).val W) := by
  have e1 : (i : Int) % gw = ((i % gw : Nat) : Int) := by push_cast; rfl
  have e2 : (i : Int) / gw = ((i / gw : Nat) : Int) := by push_cast; rfl
  have hm : gw * gh ≤ 1024 * 1024 := Nat.mul_le_mul hw.2 hh.2
  unfold modV
  have S := St.start W
  refine Fn_enter Try.func98 rfl Try.results98 Try.ntmps98 (by kernel_rfl) (by kernel_rfl) ?_
  repeat refine cw_seq ?_
  refine cw_region ?_
  refine rw_newB (op_box rfl) S ?_
  intro b_md w2_ g2_ S
  refine rw_newB (op_alloc Try.zeroValue75 rfl) S ?_
  intro b_res w4_ g4_ S
  first | refine rw_end ?_ | (refine rw_nil ?_; show CW _ _ _ _ _ _) | refine rw_nil ?_
  repeat refine cw_seq ?_
  refine cw_tri (C := (CA No W [.blk b_res 75 [.int .i64 0, .int .i64 0, .int .i64 0, .int .i64 0], .blk b_md 25 [.int .i64 gw, .int .i64 gh, .slice A nc cap]] 75 [.int .i64 0, .int .i64 0, .int .i64 0, .int .i64 0] [.int .i64 (winW gw gh i n).x0, .int .i64 (winW gw gh i n).y0, .int .i64 (winW gw gh i n).x1, .int .i64 (winW gw gh i n).y1])) [18, 19] [0, 1, 2, 3, 4, 5, 6, 7, 8, 9, 10, 11, 12, 13, 14, 15, 16, 17, 18, 19] [20] (by kernel_rfl) (by kernel_rfl) (CA.start (S.gr (Gr.drew _))) ?_
  simp only [pickI, pickL, List.drop_succ_cons, List.drop_zero]
  refine rs_v rfl (op_pure rfl) ?_
  refine rs_v rfl (op_fieldAddr Try.underlying25 rfl Try.sizeOf2 rfl rfl) ?_
  refine rs_r rfl (fun τ wq hq => op_loadB Try.underlying2 rfl rfl ((CA.st hq).blk (i := 1) rfl) rfl) ?_
  refine rs_v rfl (op_rem rfl rfl (by omega) (by omega)) ?_
  rw [e1]
  refine rs_v rfl (op_pure rfl) ?_
  refine rs_v rfl (op_fieldAddr Try.underlying25 rfl Try.sizeOf2 rfl rfl) ?_
  refine rs_r rfl (fun τ wq hq => op_loadB Try.underlying2 rfl rfl ((CA.st hq).blk (i := 1) rfl) rfl) ?_
  refine rs_v rfl (op_div rfl rfl (by omega) (by omega)) ?_
  rw [e2]
  refine rs_v rfl (op_build (pl := [(0, 1), (1, 1)]) Try.underlying44 Try.zeroValue44 (fun w => by kernel_rfl) rfl rfl) ?_
  refine rs_v rfl (op_pure rfl) ?_
  refine rs_v rfl (op_fieldAddr Try.underlying25 rfl Try.sizeOf2 rfl rfl) ?_
  refine rs_r rfl (fun τ wq hq => op_loadB Try.underlying2 rfl rfl ((CA.st hq).blk (i := 1) rfl) rfl) ?_
  refine rs_v rfl (op_fieldAddr Try.underlying25 rfl Try.sizeOf2 rfl rfl) ?_
  refine rs_r rfl (fun τ wq hq => op_loadB Try.underlying2 rfl rfl ((CA.st hq).blk (i := 1) rfl) rfl) ?_
  refine rs_call rfl rfl (fun τ wq hq => (around44_E i n gw gh hw hh hi hn wq).mono (fun _ _ ⟨hv, hg⟩ => ⟨hv, CA.gr hq hg⟩)) ?_
  refine rs_v rfl (op_pure rfl) ?_
  refine rs_v rfl (op_pure rfl) ?_
  refine rs_v rfl (op_pure rfl) ?_
  refine rs_special rfl rfl (fun wq hq => to_allocCA hq Try.zeroValue75 rfl) ?_
  rintro v14 w14 ⟨b_r, rfl, _⟩
  refine rs_special rfl rfl (fun wq hq => to_storeCA hq (Try.sizeOf75 _) rfl rfl rfl rfl rfl) ?_
  rintro v15 w15 _
  refine rs_nil ?_
  rintro wz hz
  obtain ⟨b_r2, e_r2, S⟩ := hz.fin
  cases e_r2
  refine rw_v (op_pure rfl) ?_
  first | refine rw_end ?_ | (refine rw_nil ?_; show CW _ _ _ _ _ _) | refine rw_nil ?_
  repeat refine cw_seq ?_
  refine cw_region ?_
  refine rw_r (op_loadAB Try.underlying75 rfl (Try.sizeOf75 _) rfl (S.blk (i := 0) rfl) rfl rfl) ?_
  refine rw_storeSA (i := 1) S rfl (Try.sizeOf75 _) rfl rfl rfl rfl rfl rfl ?_
  intro w6_ S
  first | refine rw_end ?_ | (refine rw_nil ?_; show CW _ _ _ _ _ _) | refine rw_nil ?_
  repeat refine cw_seq ?_
  refine cw_ret ?_
  repeat first | refine ret_then ?_ | refine ret_inb ?_
  exact resA Try.underlying75 rfl (Try.sizeOf75 _) rfl (S.blk (i := 1) rfl) rfl rfl ⟨rfl, S.out⟩
theorem range44_E (i n cap : Nat) (hw : 1 ≤ gw ∧ gw ≤ 1024) (hh : 1 ≤ gh ∧ gh ≤ 1024) (hi : i < gw * gh) (hn : n ≤ 1024) (hV : V.length = gw * gh) (hA : Rd W A (ints V)) :
    Fn Try.prog 45 [modV gw gh A (gw * gh) cap, .int .i64 i, .int .i64 n] W (RetG (.agg (rgW V gw gh i n).cells.toArray) W) := by
  obtain ⟨h1, h2⟩ := winW_ok (n := n) hw.1 hi
  have hwin := fun w => window44_E (W := w) (A := A) i n (gw * gh) cap hw hh hi hn
  have hval := fun w (g : Gr W w) => values9_E (W := w) (cap := cap) (winW gw gh i n).x0 (winW gw gh i n).y0 (winW gw gh i n).x1 (winW gw gh i n).y1 hw hh h1 h2 hV (hA.gr g)
  unfold rgW
  unfold Win.val at hwin
  unfold modV at *
  generalize winW gw gh i n = r at *
  have S := St.start W
  refine Fn_enter Try.func45 rfl Try.results45 Try.ntmps45 (by kernel_rfl) (by kernel_rfl) ?_
  repeat refine cw_seq ?_
  refine cw_region ?_
  refine rw_newB (op_box rfl) S ?_
  intro b_md w2_ g2_ S
  refine rw_newB (op_alloc Try.zeroValue78 rfl) S ?_
  intro b_R w4_ g4_ S
  first | refine rw_end ?_ | (refine rw_nil ?_; show CW _ _ _ _ _ _) | refine rw_nil ?_
  repeat refine cw_seq ?_
  refine cw_tri (C := (VC W [.blk b_R 78 [.int .i64 0, .int .i64 0], .blk b_md 25 [.int .i64 gw, .int .i64 gh, .slice A (gw * gh) cap]] (fun L => IsVals V gw r.x0 r.y0 r.x1 r.y1 (r.y1 + 1) r.x0 L ∧ L.length ≤ 1048576 ∧ L ≠ []))) [5] [0, 1, 2, 3, 4, 5, 6, 7, 8, 9] [10] (by kernel_rfl) (by kernel_rfl) (S.gr (Gr.drew _)) ?_
  simp only [pickI, pickL, List.drop_succ_cons, List.drop_zero]
  refine rs_r rfl (fun τ wq hq => op_loadAB Try.underlying25 rfl (Try.sizeOf25 _) rfl (VC.blk hq (i := 1) rfl) rfl rfl) ?_
  refine rs_r rfl (fun τ wq hq => op_loadAB Try.underlying25 rfl (Try.sizeOf25 _) rfl (VC.blk hq (i := 1) rfl) rfl rfl) ?_
  refine rs_v rfl (op_pure rfl) ?_
  refine rs_v rfl (op_pure rfl) ?_
  refine rs_call rfl rfl (fun τ wq hq => (hwin wq).mono (fun _ _ ⟨hv, hg⟩ => ⟨hv, VC.gr hq hg⟩)) ?_
  refine rs_special rfl rfl (fun wq hq => to_call rfl ((hval wq (VC.out hq)).mono (VC.step hq))) ?_
  rintro v5 w5 ⟨L, A_l, c_l, rfl, _, _⟩
  refine rs_v rfl (op_pure rfl) ?_
  refine rs_v rfl (op_pure rfl) ?_
  refine rs_v rfl (op_pure rfl) ?_
  refine rs_v rfl (op_pure rfl) ?_
  refine rs_nil ?_
  rintro wz hz
  obtain ⟨L2, A_l2, c_l2, e2, ⟨hL, hLl, hLn⟩, S⟩ := hz
  obtain ⟨rfl, hlen, rfl⟩ := tup_inj e2
  rw [hlen]
  refine rw_v (op_pure rfl) ?_
  first | refine rw_end ?_ | (refine rw_nil ?_; show CW _ _ _ _ _ _) | refine rw_nil ?_
  have hrd := (S.row (i := 0) rfl).rd
  repeat refine cw_seq ?_
  refine cw_region ?_
  refine rw_v (op_pure rfl) ?_
  refine rw_call rfl (range8_E L2 c_l hLn hLl hrd) ?_
  rintro _ w6_ ⟨lo, hi2, rfl, hrg, g6_⟩
  have S := S.gr g6_
  refine rw_storeSA (i := 1) S rfl (Try.sizeOf78 _) rfl rfl rfl rfl rfl rfl ?_
  intro w7_ S
  first | refine rw_end ?_ | (refine rw_nil ?_; show CW _ _ _ _ _ _) | refine rw_nil ?_
  repeat refine cw_seq ?_
  refine cw_ret ?_
  repeat first | refine ret_then ?_ | refine ret_inb ?_
  have hfin := rg_vals hL hrg
  rw [hfin]
  exact resA Try.underlying78 rfl (Try.sizeOf78 _) rfl (S.blk (i := 1) rfl) rfl rfl ⟨rfl, S.out⟩
end
end Go.Proofs.Ytbcgbcipigcbhaa
/- hachureref09.Values told exactly; hachureref19.Sum, hachureref07.Area, hachureref20.Mean. -/
namespace Go.Proofs.Ytbcgbcipigcbhaa
open Go.RowKit
set_option linter.unusedVariables false
set_option linter.unusedSimpArgs false
set_option maxRecDepth 100000

/-- the values of a box, row by row -/
def winL (V : List Int) (gw x0 y0 x1 y1 : Nat) : List Int := rectV gw (fun j => V.getD j 0) x0 y0 (x1 + 1 - x0) (y1 + 1 - y0)
theorem winL_len (V : List Int) (gw x0 y0 x1 y1 : Nat) : (winL V gw x0 y0 x1 y1).length = (y1 + 1 - y0) * (x1 + 1 - x0) := rectV_len _ _ _ _ _ _
theorem rowV_sum (V : List Int) (gw x0 y : Nat) : ∀ n, (rowV gw (fun j => V.getD j 0) x0 y n).sum = rowS V (y * gw) (x0 + n) - rowS V (y * gw) x0
  | 0 => by simp [rowV]
  | n + 1 => by
    rw [rowV_succ, List.sum_append, rowV_sum V gw x0 y n]
    have : rowS V (y * gw) (x0 + (n + 1)) = rowS V (y * gw) (x0 + n) + V.getD (y * gw + (x0 + n)) 0 := rfl
    rw [this]
    simp
    omega
theorem rectV_sum (V : List Int) (gw x0 y0 n : Nat) : ∀ h, (rectV gw (fun j => V.getD j 0) x0 y0 n h).sum = psum V gw (y0 + h) (x0 + n) - psum V gw (y0 + h) x0 - psum V gw y0 (x0 + n) + psum V gw y0 x0
  | 0 => by simp [rectV]; omega
  | h + 1 => by
    rw [rectV_succ, List.sum_append, rectV_sum V gw x0 y0 n h, rowV_sum]
    have e := fun x => show psum V gw (y0 + (h + 1)) x = rowS V ((y0 + h) * gw) x + psum V gw (y0 + h) x from rfl
    rw [e, e]
    omega
theorem winL_sum (V : List Int) (gw : Nat) {x0 y0 x1 y1 : Nat} (hx : x0 ≤ x1) (hy : y0 ≤ y1) : (winL V gw x0 y0 x1 y1).sum = rsum V gw x0 y0 x1 y1 := by
  unfold winL rsum
  rw [rectV_sum, show y0 + (y1 + 1 - y0) = y1 + 1 by omega, show x0 + (x1 + 1 - x0) = x1 + 1 by omega]
theorem sum_bnd : ∀ {l : List Int}, (∀ v ∈ l, -2147483648 ≤ v ∧ v ≤ 2147483647) → -(2147483648 * (l.length : Int)) ≤ l.sum ∧ l.sum ≤ 2147483647 * (l.length : Int)
  | [], _ => by simp
  | a :: l, h => by
    have h1 := h a (List.mem_cons_self ..)
    have h2 := sum_bnd (l := l) (fun v hv => h v (List.mem_cons_of_mem _ hv))
    rw [List.sum_cons, List.length_cons]
    push_cast
    omega
theorem winL_mem {V : List Int} {gw x0 y0 x1 y1 : Nat} {v : Int} (h : v ∈ winL V gw x0 y0 x1 y1) : ∃ j, v = V.getD j 0 := by
  unfold winL rectV at h
  obtain ⟨b, _, hb⟩ := List.mem_flatMap.1 h
  unfold rowV at hb
  obtain ⟨a, _, ha⟩ := List.mem_map.1 hb
  exact ⟨_, ha.symm⟩
section
variable {W : World} {A : Option Addr} {gw gh cap : Nat} {V : List Int}
set_option maxHeartbeats 2000000 in
theorem values9X_E (x0 y0 x1 y1 : Nat) (hw : 1 ≤ gw ∧ gw ≤ 1024) (hh : 1 ≤ gh ∧ gh ≤ 1024) (hx : x0 ≤ x1 ∧ x1 < gw) (hy : y0 ≤ y1 ∧ y1 < gh) (hV : V.length = gw * gh) (hA : Rd W A (ints V)) :
    Fn Try.prog 97 [modV gw gh A (gw * gh) cap, .agg #[.int .i64 x0, .int .i64 y0, .int .i64 x1, .int .i64 y1]] W
    (RetNew (fun s => .tuple #[s, .int .i64 0]) 2 1 (winL V gw x0 y0 x1 y1).length (ints (winL V gw x0 y0 x1 y1)) W) := by
  have hwi := fun w => within44_E x0 y0 x1 y1 gw gh hw hh hx hy w
  have hm : 1 ≤ gw * gh ∧ gw * gh ≤ 1024 * 1024 := ⟨Nat.mul_le_mul hw.1 hh.1, Nat.mul_le_mul hw.2 hh.2⟩
  obtain ⟨nx, hnx⟩ : ∃ nx, nx = x1 + 1 - x0 := ⟨_, rfl⟩
  have sa_A : SomeA A := hA.someA (by rw [ints_len]; omega)
  unfold modV
  have S := St.start W
  refine Fn_enter Try.func97 rfl Try.results97 Try.ntmps97 (by kernel_rfl) (by kernel_rfl) ?_
  repeat refine cw_seq ?_
  refine cw_region ?_
  refine rw_newB (op_box rfl) S ?_
  intro b_md w2_ g2_ S
  refine rw_newB (op_box rfl) S ?_
  intro b_r w4_ g4_ S
  iterate 2 refine rw_v (op_pure rfl) ?_
  first | refine rw_end ?_ | (refine rw_nil ?_; show CW _ _ _ _ _ _) | refine rw_nil ?_
  repeat refine cw_seq ?_
  refine cw_region ?_
  refine rw_r (op_loadAB Try.underlying75 rfl (Try.sizeOf75 _) rfl (S.blk (i := 0) rfl) rfl rfl) ?_
  refine rw_v (op_fieldAddr Try.underlying25 rfl Try.sizeOf2 rfl rfl) ?_
  refine rw_r (op_loadB Try.underlying2 rfl rfl (S.blk (i := 1) rfl) rfl) ?_
  refine rw_v (op_fieldAddr Try.underlying25 rfl Try.sizeOf2 rfl rfl) ?_
  refine rw_r (op_loadB Try.underlying2 rfl rfl (S.blk (i := 1) rfl) rfl) ?_
  refine rw_call rfl (hwi w4_) ?_
  rintro _ w5_ ⟨rfl, g5_⟩
  have S := S.gr g5_
  refine rw_v (op_pure rfl) ?_
  first | refine rw_end ?_ | (refine rw_nil ?_; show CW _ _ _ _ _ _) | refine rw_nil ?_
  repeat refine cw_seq ?_
  refine cw_region ?_
  refine rw_v (op_pure rfl) ?_
  refine rw_v (op_b (b := false) rfl (bne_eq_false_iff_eq.2 (by omega))) ?_
  first | refine rw_end ?_ | (refine rw_nil ?_; show CW _ _ _ _ _ _) | refine rw_nil ?_
  repeat refine cw_seq ?_
  refine cw_false rfl ?_
  repeat refine cw_seq ?_
  refine cw_skip ?_
  try show CW _ _ _ _ _ _
  repeat refine cw_seq ?_
  refine cw_region ?_
  refine rw_buildS0 Try.underlying22 Try.sizeOf2 S ?_
  intro A_l w7_ g7_ S sa_l
  refine rw_v (op_pure rfl) ?_
  first | refine rw_end ?_ | (refine rw_nil ?_; show CW _ _ _ _ _ _) | refine rw_nil ?_
  repeat refine cw_seq ?_
  refine cw_region ?_
  refine rw_v (op_fieldAddr Try.underlying75 rfl Try.sizeOf2 rfl rfl) ?_
  refine rw_r (op_loadB Try.underlying2 rfl rfl (S.blk (i := 1) rfl) rfl) ?_
  refine rw_v (op_pure rfl) ?_
  first | refine rw_end ?_ | (refine rw_nil ?_; show CW _ _ _ _ _ _) | refine rw_nil ?_
  repeat refine cw_seq ?_
  refine cw_block ?_
  repeat refine cw_seq ?_
  refine cw_loop (fun m e w => ∃ (y : Nat) (L : List Int) (A_l : Option Addr) (c_l : Nat), y + m = y1 + 1 ∧ y0 ≤ y ∧ L.length = (y - y0) * nx ∧ L = rectV gw (fun j => V.getD j 0) x0 y0 nx (y - y0) ∧ SL e [(2, .pointer (some ⟨b_md, 0, none⟩)), (3, .pointer (some ⟨b_r, 0, none⟩)), (7, .slice A_l L.length c_l), (8, .int .i64 y)] ∧
    St No W w [.row 2 1 A_l L.length c_l (ints L), .blk b_r 75 [.int .i64 x0, .int .i64 y0, .int .i64 x1, .int .i64 y1], .blk b_md 25 [.int .i64 gw, .int .i64 gh, .slice A (gw * gh) cap]]) (y1 + 1 - y0)
    ⟨y0, [], A_l, _, by omega, Nat.le_refl _, by simp, by rw [Nat.sub_self]; rfl, ⟨rfl, rfl, rfl, rfl, trivial⟩, S⟩ ?_
  clear S
  rintro m e w ⟨y, L, A_l, c_l, hym, hy0, hLl, hL, hsl, S⟩
  rw [hsl.fold]
  by_cases hyn : y ≤ y1
  · have hq : (y - y0 + 1) * nx ≤ 1024 * 1024 := Nat.mul_le_mul (by omega) (by omega)
    rw [Nat.succ_mul, ← hLl] at hq
    obtain ⟨q, hqe⟩ : ∃ q, q = L.length := ⟨_, rfl⟩
    repeat refine cw_seq ?_
    refine cw_region ?_
    refine rw_v (op_pure rfl) ?_
    refine rw_v (op_fieldAddr Try.underlying75 rfl Try.sizeOf2 rfl rfl) ?_
    refine rw_r (op_loadB Try.underlying2 rfl rfl (S.blk (i := 1) rfl) rfl) ?_
    refine rw_v (op_b (b := true) rfl (decide_eq_true (by omega))) ?_
    first | refine rw_end ?_ | (refine rw_nil ?_; show CW _ _ _ _ _ _) | refine rw_nil ?_
    repeat refine cw_seq ?_
    refine cw_true rfl ?_
    repeat refine cw_seq ?_
    refine cw_skip ?_
    try show CW _ _ _ _ _ _
    repeat refine cw_seq ?_
    refine cw_block ?_
    repeat refine cw_seq ?_
    refine cw_region ?_
    refine rw_v (op_fieldAddr Try.underlying75 rfl Try.sizeOf2 rfl rfl) ?_
    refine rw_r (op_loadB Try.underlying2 rfl rfl (S.blk (i := 1) rfl) rfl) ?_
    refine rw_v (op_pure rfl) ?_
    first | refine rw_end ?_ | (refine rw_nil ?_; show CW _ _ _ _ _ _) | refine rw_nil ?_
    repeat refine cw_seq ?_
    refine cw_block ?_
    repeat refine cw_seq ?_
    refine cw_loop (fun m e w => ∃ (x : Nat) (L : List Int) (A_l : Option Addr) (c_l : Nat), x + m = x1 + 1 ∧ x0 ≤ x ∧ L.length = q + (x - x0) ∧ L = rectV gw (fun j => V.getD j 0) x0 y0 nx (y - y0) ++ rowV gw (fun j => V.getD j 0) x0 y (x - x0) ∧ SL e [(2, .pointer (some ⟨b_md, 0, none⟩)), (3, .pointer (some ⟨b_r, 0, none⟩)), (7, .slice A_l L.length c_l), (8, .int .i64 y), (9, .int .i64 x)] ∧
      St No W w [.row 2 1 A_l L.length c_l (ints L), .blk b_r 75 [.int .i64 x0, .int .i64 y0, .int .i64 x1, .int .i64 y1], .blk b_md 25 [.int .i64 gw, .int .i64 gh, .slice A (gw * gh) cap]]) (x1 + 1 - x0)
      ⟨x0, L, A_l, c_l, by omega, Nat.le_refl _, by omega, by rw [Nat.sub_self, ← hL]; exact (List.append_nil L).symm, ⟨rfl, rfl, rfl, rfl, rfl, trivial⟩, S⟩ ?_
    rw [← hqe] at hq
    rw [← hqe] at hLl
    clear S hL
    rintro m2 e w ⟨x, L, A_l, c_l, hxm, hx0, hLx, hL, hsl, S⟩
    rw [hsl.fold]
    by_cases hxn : x ≤ x1
    · have hlt : y * gw + x < gw * gh := by
        have := Nat.mul_le_mul_right gw (show y + 1 ≤ gh by omega)
        rw [Nat.succ_mul, Nat.mul_comm gh] at this
        omega
      have e1 : (y : Int) * (gw : Int) = ((y * gw : Nat) : Int) := by push_cast; rfl
      have hpush : L ++ [V.getD (y * gw + x) 0] = rectV gw (fun j => V.getD j 0) x0 y0 nx (y - y0) ++ rowV gw (fun j => V.getD j 0) x0 y (x + 1 - x0) := by
        rw [hL, List.append_assoc, show x + 1 - x0 = (x - x0) + 1 by omega, rowV_succ, show x0 + (x - x0) = x by omega]
      generalize y * gw = yg at *
      have hget : (ints V)[((yg : Int) + (x : Int)).toNat * 1]? = some (.int .i64 (V.getD (yg + x) 0)) := by rw [Nat.mul_one, show ((yg : Int) + (x : Int)).toNat = yg + x by omega]; exact ints_get (getD_at (by omega))
      repeat refine cw_seq ?_
      refine cw_region ?_
      refine rw_v (op_pure rfl) ?_
      refine rw_v (op_fieldAddr Try.underlying75 rfl Try.sizeOf2 rfl rfl) ?_
      refine rw_r (op_loadB Try.underlying2 rfl rfl (S.blk (i := 1) rfl) rfl) ?_
      refine rw_v (op_b (b := true) rfl (decide_eq_true (by omega))) ?_
      first | refine rw_end ?_ | (refine rw_nil ?_; show CW _ _ _ _ _ _) | refine rw_nil ?_
      repeat refine cw_seq ?_
      refine cw_true rfl ?_
      repeat refine cw_seq ?_
      refine cw_skip ?_
      try show CW _ _ _ _ _ _
      repeat refine cw_seq ?_
      refine cw_block ?_
      repeat refine cw_seq ?_
      refine cw_region ?_
      refine rw_v (op_pure rfl) ?_
      refine rw_v (op_fieldAddr Try.underlying25 rfl Try.sizeOf22 rfl rfl) ?_
      refine rw_r (op_loadB Try.underlying22 rfl rfl (S.blk (i := 2) rfl) rfl) ?_
      refine rw_v (op_pure rfl) ?_
      refine rw_v (op_fieldAddr Try.underlying25 rfl Try.sizeOf2 rfl rfl) ?_
      refine rw_r (op_loadB Try.underlying2 rfl rfl (S.blk (i := 2) rfl) rfl) ?_
      refine rw_v (op_rng rfl (by rw [e1]; omega)) ?_
      rw [e1]
      refine rw_v (op_pure rfl) ?_
      refine rw_v (op_rng rfl (by omega)) ?_
      refine rw_v (op_idx Try.underlying22 Try.sizeOf2 rfl rfl sa_A (by omega) (by omega)) ?_
      refine rw_r (op_ldR Try.underlying2 rfl rfl (hA.gr S.out) hget) ?_
      refine rw_buildS Try.underlying22 Try.sizeOf2 Try.zeroValue2 rfl rfl rfl rfl rfl rfl S ?_
      intro A_lit w9_ g9_ S sa_lit
      refine rw_appS (i := 1) S rfl (fun h => rfl) Try.underlying22 info_t2 rfl rfl rfl rfl (by simp) (by omega) (S.rd (i := 0) rfl) rfl (by omega) ?_
      intro A_l2 c_l2 w10_ S sa_l
      refine rw_v (op_pure rfl) ?_
      first | refine rw_end ?_ | (refine rw_nil ?_; show CW _ _ _ _ _ _) | refine rw_nil ?_
      repeat refine cw_seq ?_
      refine cw_region ?_
      refine rw_v (op_pure rfl) ?_
      refine rw_v (op_rng rfl (by omega)) ?_
      refine rw_v (op_pure rfl) ?_
      first | refine rw_end ?_ | (refine rw_nil ?_; show CW _ _ _ _ _ _) | refine rw_nil ?_
      have S := S.sub (.cons _ (.cons_cons _ (.cons_cons _ (.cons_cons _ (.slnil)))))
      refine ⟨m2 - 1, by omega, x + 1, L ++ [V.getD (yg + x) 0], A_l2, c_l2, by omega, by omega, by simp; omega, hpush, ⟨rfl, rfl, ?_, rfl, ie (by omega), trivial⟩, ?_⟩
      · rw [List.length_append]; rfl
      · rw [List.length_append, ← ints_app]; exact S
    · have enx : x - x0 = nx := by omega
      rw [enx] at hL
      repeat refine cw_seq ?_
      refine cw_region ?_
      refine rw_v (op_pure rfl) ?_
      refine rw_v (op_fieldAddr Try.underlying75 rfl Try.sizeOf2 rfl rfl) ?_
      refine rw_r (op_loadB Try.underlying2 rfl rfl (S.blk (i := 1) rfl) rfl) ?_
      refine rw_v (op_b (b := false) rfl (decide_eq_false (by omega))) ?_
      first | refine rw_end ?_ | (refine rw_nil ?_; show CW _ _ _ _ _ _) | refine rw_nil ?_
      repeat refine cw_seq ?_
      refine cw_false rfl ?_
      repeat refine cw_seq ?_
      refine cw_exit ?_
      repeat first | refine exit_then ?_ | refine exit_inb ?_
      show CW _ _ _ _ _ _
      repeat refine cw_seq ?_
      refine cw_region ?_
      refine rw_v (op_pure rfl) ?_
      refine rw_v (op_rng rfl (by omega)) ?_
      refine rw_v (op_pure rfl) ?_
      first | refine rw_end ?_ | (refine rw_nil ?_; show CW _ _ _ _ _ _) | refine rw_nil ?_
      exact ⟨m - 1, by omega, y + 1, L, A_l, c_l, by omega, by omega, by rw [show y + 1 - y0 = (y - y0) + 1 by omega, Nat.succ_mul]; omega, by rw [show y + 1 - y0 = (y - y0) + 1 by omega, rectV_succ, show y0 + (y - y0) = y by omega]; exact hL, ⟨rfl, rfl, rfl, ie (by omega), trivial⟩, S⟩
  · have ey : y = y1 + 1 := by omega
    rw [ey] at hL hLl
    have hle : (y1 + 1 - y0) * nx ≤ 1024 * 1024 := Nat.mul_le_mul (by omega) (by omega)
    rw [hnx] at hL
    have hL' : winL V gw x0 y0 x1 y1 = L := hL.symm
    rw [hL']
    repeat refine cw_seq ?_
    refine cw_region ?_
    refine rw_v (op_pure rfl) ?_
    refine rw_v (op_fieldAddr Try.underlying75 rfl Try.sizeOf2 rfl rfl) ?_
    refine rw_r (op_loadB Try.underlying2 rfl rfl (S.blk (i := 1) rfl) rfl) ?_
    refine rw_v (op_b (b := false) rfl (decide_eq_false (by omega))) ?_
    first | refine rw_end ?_ | (refine rw_nil ?_; show CW _ _ _ _ _ _) | refine rw_nil ?_
    repeat refine cw_seq ?_
    refine cw_false rfl ?_
    repeat refine cw_seq ?_
    refine cw_exit ?_
    repeat first | refine exit_then ?_ | refine exit_inb ?_
    show CW _ _ _ _ _ _
    repeat refine cw_seq ?_
    refine cw_region ?_
    iterate 3 refine rw_v (op_pure rfl) ?_
    first | refine rw_end ?_ | (refine rw_nil ?_; show CW _ _ _ _ _ _) | refine rw_nil ?_
    repeat refine cw_seq ?_
    refine cw_ret ?_
    repeat first | refine ret_then ?_ | refine ret_inb ?_
    exact res2 rfl rfl (S.retNew (i := 0) (mk := fun s => .tuple #[s, .int .i64 0]) rfl)
set_option maxHeartbeats 2000000 in
theorem sum19_E (x0 y0 x1 y1 : Nat) (hB : vB V) (hw : 1 ≤ gw ∧ gw ≤ 1024) (hh : 1 ≤ gh ∧ gh ≤ 1024) (hx : x0 ≤ x1 ∧ x1 < gw) (hy : y0 ≤ y1 ∧ y1 < gh) (hV : V.length = gw * gh) (hA : Rd W A (ints V)) :
    Fn Try.prog 147 [modV gw gh A (gw * gh) cap, .agg #[.int .i64 x0, .int .i64 y0, .int .i64 x1, .int .i64 y1]] W (fun v w' => v = .tuple #[.int .i64 (rsum V gw x0 y0 x1 y1), .int .i64 0] ∧ Gr W w') := by
  have hwi := fun w => within44_E x0 y0 x1 y1 gw gh hw hh hx hy w
  have hval := fun w (g : Gr W w) => values9X_E (W := w) (cap := cap) x0 y0 x1 y1 hw hh hx hy hV (hA.gr g)
  rw [← winL_sum V gw hx.1 hy.1]
  have hlen : (winL V gw x0 y0 x1 y1).length ≤ 1024 * 1024 := by rw [winL_len]; exact Nat.mul_le_mul (by omega) (by omega)
  have hmem : ∀ v ∈ winL V gw x0 y0 x1 y1, -2147483648 ≤ v ∧ v ≤ 2147483647 := fun v hv => by
    obtain ⟨j, rfl⟩ := winL_mem hv
    exact hB j
  generalize winL V gw x0 y0 x1 y1 = L at *
  unfold modV at *
  have S := St.start W
  refine Fn_enter Try.func147 rfl Try.results147 Try.ntmps147 (by kernel_rfl) (by kernel_rfl) ?_
  repeat refine cw_seq ?_
  refine cw_region ?_
  refine rw_newB (op_box rfl) S ?_
  intro b_md w2_ g2_ S
  refine rw_newB (op_box rfl) S ?_
  intro b_r w4_ g4_ S
  iterate 2 refine rw_v (op_pure rfl) ?_
  first | refine rw_end ?_ | (refine rw_nil ?_; show CW _ _ _ _ _ _) | refine rw_nil ?_
  repeat refine cw_seq ?_
  refine cw_region ?_
  refine rw_r (op_loadAB Try.underlying75 rfl (Try.sizeOf75 _) rfl (S.blk (i := 0) rfl) rfl rfl) ?_
  refine rw_v (op_fieldAddr Try.underlying25 rfl Try.sizeOf2 rfl rfl) ?_
  refine rw_r (op_loadB Try.underlying2 rfl rfl (S.blk (i := 1) rfl) rfl) ?_
  refine rw_v (op_fieldAddr Try.underlying25 rfl Try.sizeOf2 rfl rfl) ?_
  refine rw_r (op_loadB Try.underlying2 rfl rfl (S.blk (i := 1) rfl) rfl) ?_
  refine rw_call rfl (hwi w4_) ?_
  rintro _ w5_ ⟨rfl, g5_⟩
  have S := S.gr g5_
  refine rw_v (op_pure rfl) ?_
  first | refine rw_end ?_ | (refine rw_nil ?_; show CW _ _ _ _ _ _) | refine rw_nil ?_
  repeat refine cw_seq ?_
  refine cw_region ?_
  refine rw_v (op_pure rfl) ?_
  refine rw_v (op_b (b := false) rfl (bne_eq_false_iff_eq.2 (by omega))) ?_
  first | refine rw_end ?_ | (refine rw_nil ?_; show CW _ _ _ _ _ _) | refine rw_nil ?_
  repeat refine cw_seq ?_
  refine cw_false rfl ?_
  repeat refine cw_seq ?_
  refine cw_skip ?_
  try show CW _ _ _ _ _ _
  repeat refine cw_seq ?_
  refine cw_region ?_
  refine rw_r (op_loadAB Try.underlying25 rfl (Try.sizeOf25 _) rfl (S.blk (i := 1) rfl) rfl rfl) ?_
  refine rw_r (op_loadAB Try.underlying75 rfl (Try.sizeOf75 _) rfl (S.blk (i := 0) rfl) rfl rfl) ?_
  refine rw_call rfl (hval w5_ S.out) ?_
  rintro _ w6_ ⟨A_l, c_l, rfl, hR_l, hf_l, g6_⟩
  have S := S.pushRow hR_l hf_l g6_
  iterate 5 refine rw_v (op_pure rfl) ?_
  first | refine rw_end ?_ | (refine rw_nil ?_; show CW _ _ _ _ _ _) | refine rw_nil ?_
  repeat refine cw_seq ?_
  refine cw_region ?_
  refine rw_v (op_pure rfl) ?_
  first | refine rw_end ?_ | (refine rw_nil ?_; show CW _ _ _ _ _ _) | refine rw_nil ?_
  repeat refine cw_seq ?_
  refine cw_region ?_
  refine rw_v (op_pure rfl) ?_
  first | refine rw_end ?_ | (refine rw_nil ?_; show CW _ _ _ _ _ _) | refine rw_nil ?_
  repeat refine cw_seq ?_
  refine cw_block ?_
  repeat refine cw_seq ?_
  have S := S.sub (.cons_cons _ (.cons _ (.cons _ (.slnil))))
  refine cw_loop (fun m e w => ∃ i : Nat, i + m = L.length ∧ SL e [(7, .slice A_l L.length c_l), (9, .int .i64 (L.take i).sum), (10, .int .i64 i)] ∧ St No W w [.row 2 1 A_l L.length c_l (ints L)]) L.length
    ⟨0, by omega, ⟨rfl, rfl, rfl, trivial⟩, S⟩ ?_
  clear S
  rintro m e w ⟨i, him, hsl, S⟩
  rw [hsl.fold]
  by_cases hin : i < L.length
  · have hget : (ints L)[(i : Int).toNat * 1]? = some (.int .i64 (L.getD i 0)) := by rw [Nat.mul_one, Int.toNat_natCast]; exact ints_get (getD_at hin)
    have htk1 : (L.take (i + 1)).sum = (L.take i).sum + L.getD i 0 := by
      rw [List.take_add_one, getD_at hin, List.sum_append]; simp
    have hb1 := sum_bnd (l := L.take i) (fun v hv => hmem v (List.mem_of_mem_take hv))
    have hb2 := sum_bnd (l := L.take (i + 1)) (fun v hv => hmem v (List.mem_of_mem_take hv))
    rw [List.length_take] at hb1 hb2
    rw [htk1] at hb2
    have sa_l : SomeA A_l := (S.row (i := 0) rfl).someA (by omega)
    repeat refine cw_seq ?_
    refine cw_region ?_
    iterate 2 refine rw_v (op_pure rfl) ?_
    refine rw_v (op_len Try.underlying22 rfl) ?_
    refine rw_v (op_b (b := true) rfl (decide_eq_true (by omega))) ?_
    first | refine rw_end ?_ | (refine rw_nil ?_; show CW _ _ _ _ _ _) | refine rw_nil ?_
    repeat refine cw_seq ?_
    refine cw_true rfl ?_
    repeat refine cw_seq ?_
    refine cw_skip ?_
    try show CW _ _ _ _ _ _
    repeat refine cw_seq ?_
    refine cw_block ?_
    repeat refine cw_seq ?_
    refine cw_region ?_
    iterate 3 refine rw_v (op_pure rfl) ?_
    refine rw_v (op_idx Try.underlying22 Try.sizeOf2 rfl rfl sa_l (by omega) (by omega)) ?_
    refine rw_r (op_ldR Try.underlying2 rfl rfl (S.rd (i := 0) rfl) hget) ?_
    refine rw_v (op_rng rfl (by omega)) ?_
    refine rw_v (op_pure rfl) ?_
    first | refine rw_end ?_ | (refine rw_nil ?_; show CW _ _ _ _ _ _) | refine rw_nil ?_
    repeat refine cw_seq ?_
    refine cw_region ?_
    refine rw_v (op_pure rfl) ?_
    refine rw_v (op_rng rfl (by omega)) ?_
    refine rw_v (op_pure rfl) ?_
    first | refine rw_end ?_ | (refine rw_nil ?_; show CW _ _ _ _ _ _) | refine rw_nil ?_
    exact ⟨m - 1, by omega, i + 1, by omega, ⟨rfl, ie htk1.symm, ie (by omega), trivial⟩, S⟩
  · have ei : i = L.length := by omega
    rw [ei, List.take_length]
    repeat refine cw_seq ?_
    refine cw_region ?_
    iterate 2 refine rw_v (op_pure rfl) ?_
    refine rw_v (op_len Try.underlying22 rfl) ?_
    refine rw_v (op_b (b := false) rfl (decide_eq_false (by omega))) ?_
    first | refine rw_end ?_ | (refine rw_nil ?_; show CW _ _ _ _ _ _) | refine rw_nil ?_
    repeat refine cw_seq ?_
    refine cw_false rfl ?_
    repeat refine cw_seq ?_
    refine cw_exit ?_
    repeat first | refine exit_then ?_ | refine exit_inb ?_
    show CW _ _ _ _ _ _
    repeat refine cw_seq ?_
    refine cw_region ?_
    iterate 3 refine rw_v (op_pure rfl) ?_
    first | refine rw_end ?_ | (refine rw_nil ?_; show CW _ _ _ _ _ _) | refine rw_nil ?_
    repeat refine cw_seq ?_
    refine cw_ret ?_
    repeat first | refine ret_then ?_ | refine ret_inb ?_
    exact res2 rfl rfl ⟨rfl, S.out⟩
end
end Go.Proofs.Ytbcgbcipigcbhaa
/- hachureref07.Area, hachureref20.Mean, hachureref44.Mean. -/
namespace Go.Proofs.Ytbcgbcipigcbhaa
open Go.RowKit
set_option linter.unusedVariables false
set_option linter.unusedSimpArgs false
set_option maxRecDepth 100000

theorem tdiv_floor (s : Int) {n : Int} (hn : 0 < n) : ∃ m : Nat, s.tdiv n = s / n + m := by
  rw [Int.tdiv_eq_ediv]
  split
  · exact ⟨0, by simp⟩
  · exact ⟨1, by rw [Int.sign_eq_one_of_pos hn]; rfl⟩
section
variable {W : World} {A : Option Addr} {gw gh cap : Nat} {V : List Int}
theorem area7_E (x0 y0 x1 y1 : Nat) (hx : x0 ≤ x1 ∧ x1 < 1024) (hy : y0 ≤ y1 ∧ y1 < 1024) (W : World) : Fn Try.prog 148 [.agg #[.int .i64 x0, .int .i64 y0, .int .i64 x1, .int .i64 y1]] W (RetG (.int .i64 ((x1 + 1 - x0) * (y1 + 1 - y0) : Nat)) W) := by
  have hr := fun w => right44_E x0 y0 x1 y1 hx hy w
  have hm : (x1 + 1 - x0) * (y1 + 1 - y0) ≤ 1024 * 1024 := Nat.mul_le_mul (by omega) (by omega)
  have e1 : (x1 : Int) + 1 - x0 = ((x1 + 1 - x0 : Nat) : Int) := by omega
  have e2 : (y1 : Int) + 1 - y0 = ((y1 + 1 - y0 : Nat) : Int) := by omega
  generalize x1 + 1 - x0 = a at *
  generalize y1 + 1 - y0 = b at *
  have e3 : (a : Int) * (b : Int) = ((a * b : Nat) : Int) := by push_cast; rfl
  have S := St.start W
  refine Fn_enter Try.func148 rfl Try.results148 Try.ntmps148 (by kernel_rfl) (by kernel_rfl) ?_
  repeat refine cw_seq ?_
  refine cw_region ?_
  refine rw_newB (op_box rfl) S ?_
  intro b_r w2_ g2_ S
  refine rw_v (op_pure rfl) ?_
  first | refine rw_end ?_ | (refine rw_nil ?_; show CW _ _ _ _ _ _) | refine rw_nil ?_
  repeat refine cw_seq ?_
  refine cw_region ?_
  refine rw_r (op_loadAB Try.underlying75 rfl (Try.sizeOf75 _) rfl (S.blk (i := 0) rfl) rfl rfl) ?_
  refine rw_call rfl (hr w2_) ?_
  rintro _ w3_ ⟨rfl, g3_⟩
  have S := S.gr g3_
  refine rw_v (op_pure rfl) ?_
  first | refine rw_end ?_ | (refine rw_nil ?_; show CW _ _ _ _ _ _) | refine rw_nil ?_
  repeat refine cw_seq ?_
  refine cw_false rfl ?_
  repeat refine cw_seq ?_
  refine cw_skip ?_
  try show CW _ _ _ _ _ _
  repeat refine cw_seq ?_
  refine cw_region ?_
  refine rw_v (op_fieldAddr Try.underlying75 rfl Try.sizeOf2 rfl rfl) ?_
  refine rw_r (op_loadB Try.underlying2 rfl rfl (S.blk (i := 0) rfl) rfl) ?_
  refine rw_v (op_rng rfl (by omega)) ?_
  refine rw_v (op_fieldAddr Try.underlying75 rfl Try.sizeOf2 rfl rfl) ?_
  refine rw_r (op_loadB Try.underlying2 rfl rfl (S.blk (i := 0) rfl) rfl) ?_
  refine rw_v (op_rng rfl (by omega)) ?_
  rw [e1]
  refine rw_v (op_fieldAddr Try.underlying75 rfl Try.sizeOf2 rfl rfl) ?_
  refine rw_r (op_loadB Try.underlying2 rfl rfl (S.blk (i := 0) rfl) rfl) ?_
  refine rw_v (op_rng rfl (by omega)) ?_
  refine rw_v (op_fieldAddr Try.underlying75 rfl Try.sizeOf2 rfl rfl) ?_
  refine rw_r (op_loadB Try.underlying2 rfl rfl (S.blk (i := 0) rfl) rfl) ?_
  refine rw_v (op_rng rfl (by omega)) ?_
  rw [e2]
  refine rw_v (op_rng rfl (by rw [e3]; omega)) ?_
  rw [e3]
  refine rw_v (op_pure rfl) ?_
  first | refine rw_end ?_ | (refine rw_nil ?_; show CW _ _ _ _ _ _) | refine rw_nil ?_
  repeat refine cw_seq ?_
  refine cw_ret ?_
  repeat first | refine ret_then ?_ | refine ret_inb ?_
  exact res1 rfl ⟨rfl, S.out⟩
set_option maxHeartbeats 2000000 in
theorem mean20_E (x0 y0 x1 y1 : Nat) (hB : vB V) (hw : 1 ≤ gw ∧ gw ≤ 1024) (hh : 1 ≤ gh ∧ gh ≤ 1024) (hx : x0 ≤ x1 ∧ x1 < gw) (hy : y0 ≤ y1 ∧ y1 < gh) (hV : V.length = gw * gh) (hA : Rd W A (ints V)) :
    Fn Try.prog 105 [modV gw gh A (gw * gh) cap, .agg #[.int .i64 x0, .int .i64 y0, .int .i64 x1, .int .i64 y1]] W (RetG (.tuple #[.int .i64 (rsum V gw x0 y0 x1 y1 / (((x1 + 1 - x0) * (y1 + 1 - y0) : Nat) : Int)), .int .i64 0]) W) := by
  have hsum := fun w (g : Gr W w) => sum19_E (W := w) (cap := cap) x0 y0 x1 y1 hB hw hh hx hy hV (hA.gr g)
  have harea := fun w => area7_E x0 y0 x1 y1 (by omega) (by omega) w
  have hsb : -9007199254740992 ≤ rsum V gw x0 y0 x1 y1 ∧ rsum V gw x0 y0 x1 y1 ≤ 9007199254740992 := by
    have h := sum_bnd (l := winL V gw x0 y0 x1 y1) (fun v hv => by
      obtain ⟨j, rfl⟩ := winL_mem hv
      exact hB j)
    have hl : (winL V gw x0 y0 x1 y1).length ≤ 1024 * 1024 := by rw [winL_len]; exact Nat.mul_le_mul (by omega) (by omega)
    rw [winL_sum V gw hx.1 hy.1] at h
    omega
  have hm : (x1 + 1 - x0) * (y1 + 1 - y0) ≤ 1024 * 1024 := Nat.mul_le_mul (by omega) (by omega)
  have hm1 : 1 ≤ (x1 + 1 - x0) * (y1 + 1 - y0) := Nat.mul_pos (by omega) (by omega)
  generalize rsum V gw x0 y0 x1 y1 = s at *
  generalize (x1 + 1 - x0) * (y1 + 1 - y0) = n at *
  obtain ⟨m0, htd⟩ := tdiv_floor s (n := (n : Int)) (by omega)
  have hq := Int.mul_ediv_add_emod s n
  have hm0 := Int.emod_nonneg s (show (n : Int) ≠ 0 by omega)
  have hmlt := Int.emod_lt_of_pos s (show (0 : Int) < n by omega)
  have hm01 : m0 ≤ 1 := by
    rw [Int.tdiv_eq_ediv] at htd
    split at htd
    · omega
    · rw [Int.sign_eq_one_of_pos (show (0 : Int) < n by omega)] at htd; omega
  have hqb : -9007199254740992 ≤ s / (n : Int) ∧ s / (n : Int) ≤ 9007199254740992 := by
    constructor
    · exact Int.le_ediv_of_mul_le (by omega) (by
        have : (-9007199254740992 : Int) * n ≤ -9007199254740992 := by omega
        omega)
    · have := Int.ediv_le_self (a := 9007199254740992) n (by omega)
      have h5 := Int.ediv_le_ediv (show (0 : Int) < n by omega) hsb.2
      omega
  generalize s / (n : Int) = q at *
  have hm1' : m0 = 0 ∨ m0 = 1 := by omega
  have eq0 : (q + (0 : Nat)) * (n : Int) ≤ s ∧ -9223372036854775808 ≤ (q + (0 : Nat)) * (n : Int) ∧ (q + (0 : Nat)) * (n : Int) ≤ 9223372036854775807 := by
    rw [Int.mul_comm, Int.natCast_zero, Int.add_zero]; omega
  have eq1 : s < (q + (1 : Nat)) * (n : Int) ∧ -9223372036854775808 ≤ (q + (1 : Nat)) * (n : Int) ∧ (q + (1 : Nat)) * (n : Int) ≤ 9223372036854775807 := by
    rw [Int.mul_comm, Int.mul_add, Int.natCast_one, Int.mul_one]; omega
  unfold modV at *
  have S := St.start W
  refine Fn_enter Try.func105 rfl Try.results105 Try.ntmps105 (by kernel_rfl) (by kernel_rfl) ?_
  repeat refine cw_seq ?_
  refine cw_region ?_
  refine rw_newB (op_box rfl) S ?_
  intro b_md w2_ g2_ S
  refine rw_newB (op_box rfl) S ?_
  intro b_r w4_ g4_ S
  iterate 2 refine rw_v (op_pure rfl) ?_
  first | refine rw_end ?_ | (refine rw_nil ?_; show CW _ _ _ _ _ _) | refine rw_nil ?_
  repeat refine cw_seq ?_
  refine cw_region ?_
  refine rw_r (op_loadAB Try.underlying25 rfl (Try.sizeOf25 _) rfl (S.blk (i := 1) rfl) rfl rfl) ?_
  refine rw_r (op_loadAB Try.underlying75 rfl (Try.sizeOf75 _) rfl (S.blk (i := 0) rfl) rfl rfl) ?_
  refine rw_call rfl (hsum w4_ S.out) ?_
  rintro _ w5_ ⟨rfl, g5_⟩
  have S := S.gr g5_
  iterate 5 refine rw_v (op_pure rfl) ?_
  first | refine rw_end ?_ | (refine rw_nil ?_; show CW _ _ _ _ _ _) | refine rw_nil ?_
  repeat refine cw_seq ?_
  refine cw_region ?_
  refine rw_v (op_pure rfl) ?_
  refine rw_v (op_b (b := false) rfl (bne_eq_false_iff_eq.2 (by omega))) ?_
  first | refine rw_end ?_ | (refine rw_nil ?_; show CW _ _ _ _ _ _) | refine rw_nil ?_
  repeat refine cw_seq ?_
  refine cw_false rfl ?_
  repeat refine cw_seq ?_
  refine cw_skip ?_
  try show CW _ _ _ _ _ _
  repeat refine cw_seq ?_
  refine cw_region ?_
  refine rw_r (op_loadAB Try.underlying75 rfl (Try.sizeOf75 _) rfl (S.blk (i := 0) rfl) rfl rfl) ?_
  refine rw_call rfl (harea w5_) ?_
  rintro _ w6_ ⟨rfl, g6_⟩
  have S := S.gr g6_
  refine rw_v (op_pure rfl) ?_
  first | refine rw_end ?_ | (refine rw_nil ?_; show CW _ _ _ _ _ _) | refine rw_nil ?_
  repeat refine cw_seq ?_
  refine cw_region ?_
  iterate 2 refine rw_v (op_pure rfl) ?_
  refine rw_v (op_quoT rfl rfl (by omega) htd (by omega)) ?_
  refine rw_v (op_pure rfl) ?_
  first | refine rw_end ?_ | (refine rw_nil ?_; show CW _ _ _ _ _ _) | refine rw_nil ?_
  repeat refine cw_seq ?_
  refine cw_block ?_
  repeat refine cw_seq ?_
  refine cw_loop (fun m e w => m ≤ 1 ∧ SL e [(6, .int .i64 s), (8, .int .i64 n), (9, .int .i64 (q + m))] ∧ St No W w []) m0
    ⟨hm01, ⟨rfl, rfl, rfl, trivial⟩, S.drop 2⟩ ?_
  clear S
  rintro m e w ⟨hm2, hsl, S⟩
  rw [hsl.fold]
  rcases (show m = 0 ∨ m = 1 by omega) with rfl | rfl
  · skip
    repeat refine cw_seq ?_
    refine cw_region ?_
    iterate 2 refine rw_v (op_pure rfl) ?_
    refine rw_v (op_rng rfl (by omega)) ?_
    refine rw_v (op_pure rfl) ?_
    refine rw_v (op_b (b := false) rfl (decide_eq_false (by omega))) ?_
    first | refine rw_end ?_ | (refine rw_nil ?_; show CW _ _ _ _ _ _) | refine rw_nil ?_
    repeat refine cw_seq ?_
    refine cw_false rfl ?_
    repeat refine cw_seq ?_
    refine cw_exit ?_
    repeat first | refine exit_then ?_ | refine exit_inb ?_
    show CW _ _ _ _ _ _
    repeat refine cw_seq ?_
    refine cw_region ?_
    iterate 3 refine rw_v (op_pure rfl) ?_
    first | refine rw_end ?_ | (refine rw_nil ?_; show CW _ _ _ _ _ _) | refine rw_nil ?_
    repeat refine cw_seq ?_
    refine cw_ret ?_
    repeat first | refine ret_then ?_ | refine ret_inb ?_
    rw [Int.natCast_zero, Int.add_zero]
    exact res2 rfl rfl ⟨rfl, S.out⟩
  · skip
    repeat refine cw_seq ?_
    refine cw_region ?_
    iterate 2 refine rw_v (op_pure rfl) ?_
    refine rw_v (op_rng rfl (by omega)) ?_
    refine rw_v (op_pure rfl) ?_
    refine rw_v (op_b (b := true) rfl (decide_eq_true (by omega))) ?_
    first | refine rw_end ?_ | (refine rw_nil ?_; show CW _ _ _ _ _ _) | refine rw_nil ?_
    repeat refine cw_seq ?_
    refine cw_true rfl ?_
    repeat refine cw_seq ?_
    refine cw_skip ?_
    try show CW _ _ _ _ _ _
    repeat refine cw_seq ?_
    refine cw_block ?_
    repeat refine cw_seq ?_
    refine cw_region ?_
    refine rw_v (op_pure rfl) ?_
    refine rw_v (op_rng rfl (by omega)) ?_
    refine rw_v (op_pure rfl) ?_
    first | refine rw_end ?_ | (refine rw_nil ?_; show CW _ _ _ _ _ _) | refine rw_nil ?_
    exact ⟨0, by omega, by omega, ⟨rfl, rfl, ie (by omega), trivial⟩, S⟩
end
end Go.Proofs.Ytbcgbcipigcbhaa
/- hachureref44.Mean. -/
namespace Go.Proofs.Ytbcgbcipigcbhaa
open Go.RowKit
set_option linter.unusedVariables false
set_option linter.unusedSimpArgs false
set_option maxRecDepth 100000

section
variable {W : World} {A : Option Addr} {gw gh cap : Nat} {V : List Int}
set_option maxHeartbeats 4000000 in
theorem mean44_E (n : Nat) (hB : vB V) (hw : 1 ≤ gw ∧ gw ≤ 1024) (hh : 1 ≤ gh ∧ gh ≤ 1024) (hn : n ≤ 1024) (hV : V.length = gw * gh) (hA : Rd W A (ints V)) :
    Fn Try.prog 48 [modV gw gh A (gw * gh) cap, .int .i64 n] W (RetNew (fun s => .agg #[.int .i64 gw, .int .i64 gh, s]) 2 1 (gw * gh) (ints (gridL gw gh fun i => meanW V gw gh i n)) W) := by
  have hmi : (gw : Int) * gh = ((gw * gh : Nat) : Int) := by push_cast; rfl
  have hm : gw * gh ≤ 1024 * 1024 := Nat.mul_le_mul hw.2 hh.2
  have hwin := fun (i : Nat) w (hi : i < gw * gh) => window44_E (W := w) (A := A) i n (gw * gh) cap hw hh hi hn
  have hmean := fun (i : Nat) w (g : Gr W w) (hi : i < gw * gh) => mean20_E (W := w) (cap := cap) (winW gw gh i n).x0 (winW gw gh i n).y0 (winW gw gh i n).x1 (winW gw gh i n).y1 hB hw hh (winW_ok (n := n) hw.1 hi).1 (winW_ok (n := n) hw.1 hi).2 hV (hA.gr g)
  have em : cellsQ (gw * gh) (fun i => meanW V gw gh i n) = ints (gridL gw gh fun i => meanW V gw gh i n) := cellsQ_ints _ _
  unfold modV Win.val at *
  have S := St.start W
  refine Fn_enter Try.func48 rfl Try.results48 Try.ntmps48 (by kernel_rfl) (by kernel_rfl) ?_
  repeat refine cw_seq ?_
  refine cw_region ?_
  refine rw_newB (op_box rfl) S ?_
  intro b_md w2_ g2_ S
  refine rw_newB (op_alloc Try.zeroValue25 rfl) S ?_
  intro b_res w4_ g4_ S
  first | refine rw_end ?_ | (refine rw_nil ?_; show CW _ _ _ _ _ _) | refine rw_nil ?_
  repeat refine cw_seq ?_
  refine cw_region ?_
  refine rw_v (op_fieldAddr Try.underlying25 rfl Try.sizeOf2 rfl rfl) ?_
  refine rw_r (op_loadB Try.underlying2 rfl rfl (S.blk (i := 1) rfl) rfl) ?_
  refine rw_v (op_fieldAddr Try.underlying25 rfl Try.sizeOf2 rfl rfl) ?_
  refine rw_r (op_loadB Try.underlying2 rfl rfl (S.blk (i := 1) rfl) rfl) ?_
  refine rw_v (op_build (pl := [(0, 1), (1, 1), (2, 1)]) Try.underlying25 Try.zeroValue25 (fun w => by kernel_rfl) rfl rfl) ?_
  refine rw_newB (op_alloc Try.zeroValue25 rfl) S ?_
  intro b_om w6_ g6_ S
  refine rw_storeSA (i := 0) S rfl (Try.sizeOf25 _) rfl rfl rfl rfl rfl rfl ?_
  intro w7_ S
  first | refine rw_end ?_ | (refine rw_nil ?_; show CW _ _ _ _ _ _) | refine rw_nil ?_
  repeat refine cw_seq ?_
  refine cw_region ?_
  refine rw_v (op_pure rfl) ?_
  first | refine rw_end ?_ | (refine rw_nil ?_; show CW _ _ _ _ _ _) | refine rw_nil ?_
  repeat refine cw_seq ?_
  refine cw_block ?_
  repeat refine cw_seq ?_
  have S := S.pushNil 2 1
  refine cw_loop (fun m e w => ∃ (k : Nat) (A_o : Option Addr) (c_o : Nat), k + m = gw * gh ∧ SL e [(1, .int .i64 n), (2, .pointer (some ⟨b_md, 0, none⟩)), (4, .pointer (some ⟨b_res, 0, none⟩)), (5, .pointer (some ⟨b_om, 0, none⟩)), (6, .int .i64 k)] ∧
    St No W w [.row 2 1 A_o k c_o (cellsQ k fun i => meanW V gw gh i n), .blk b_om 25 [.int .i64 gw, .int .i64 gh, .slice A_o k c_o], .blk b_res 25 [.int .i64 0, .int .i64 0, .slice none 0 0], .blk b_md 25 [.int .i64 gw, .int .i64 gh, .slice A (gw * gh) cap]]) (gw * gh)
    ⟨0, none, 0, by omega, ⟨rfl, rfl, rfl, rfl, rfl, trivial⟩, S⟩ ?_
  clear S
  rintro m e w ⟨k, A_o, c_o, hk, hsl, S⟩
  rw [hsl.fold]
  repeat refine cw_seq ?_
  refine cw_region ?_
  refine rw_v (op_pure rfl) ?_
  refine rw_v (op_fieldAddr Try.underlying25 rfl Try.sizeOf2 rfl rfl) ?_
  refine rw_r (op_loadB Try.underlying2 rfl rfl (S.blk (i := 3) rfl) rfl) ?_
  refine rw_v (op_fieldAddr Try.underlying25 rfl Try.sizeOf2 rfl rfl) ?_
  refine rw_r (op_loadB Try.underlying2 rfl rfl (S.blk (i := 3) rfl) rfl) ?_
  refine rw_v (op_rng rfl (by omega)) ?_
  rw [hmi]
  refine rw_v (op_pure rfl) ?_
  first | refine rw_end ?_ | (refine rw_nil ?_; show CW _ _ _ _ _ _) | refine rw_nil ?_
  repeat refine cw_seq ?_
  refine cw_cond rfl (fun hc => ?_) (fun hc => ?_)
  · try simp only [decide_eq_true_eq, decide_eq_false_iff_not, beq_iff_eq, bne_iff_ne, beq_eq_false_iff_ne, bne_eq_false_iff_eq, Bool.not_eq_true', Bool.not_eq_false', ne_eq, Decidable.not_not, Int.natCast_inj, Int.ofNat_lt, Int.ofNat_le, gt_iff_lt, ge_iff_le, Int.not_lt, Int.not_le] at hc
    have hkn : k < gw * gh := by omega
    have hpush := cellsQ_push (n := k) (o := fun i => meanW V gw gh i n) (v := meanW V gw gh k n) rfl
    have hwk := fun w => hwin k w hkn
    have hmk := fun w (g : Gr W w) => hmean k w g hkn
    have emk : rsum V gw (winW gw gh k n).x0 (winW gw gh k n).y0 (winW gw gh k n).x1 (winW gw gh k n).y1 / ((((winW gw gh k n).x1 + 1 - (winW gw gh k n).x0) * ((winW gw gh k n).y1 + 1 - (winW gw gh k n).y0) : Nat) : Int) = meanW V gw gh k n := rfl
    rw [emk] at hmk
    generalize meanW V gw gh k n = q at *
    repeat refine cw_seq ?_
    refine cw_skip ?_
    try show CW _ _ _ _ _ _
    repeat refine cw_seq ?_
    refine cw_block ?_
    repeat refine cw_seq ?_
    refine cw_draw (C := fun wq => Gr w wq) [0, 1, 2, 3, 4, 5, 6, 7, 8, 9, 10] [] (by kernel_rfl) (by kernel_rfl) (Gr.drew _) ?_
    simp only [pickL, List.drop_succ_cons, List.drop_zero]
    refine rq_r (fun wq hq => op_loadAB Try.underlying25 rfl (Try.sizeOf25 _) rfl ((S.gr hq).blk (i := 3) rfl) rfl rfl) ?_
    refine rq_r (fun wq hq => op_loadAB Try.underlying25 rfl (Try.sizeOf25 _) rfl ((S.gr hq).blk (i := 3) rfl) rfl rfl) ?_
    iterate 2 refine rq_v (op_pure rfl) ?_
    refine rq_call rfl (fun wq hq => (hwk wq).mono (fun _ _ ⟨hv, hg⟩ => ⟨hv, hq.trans hg⟩)) ?_
    refine rq_call rfl (fun wq hq => (hmk wq (S.gr hq).out).mono (fun _ _ ⟨hv, hg⟩ => ⟨hv, hq.trans hg⟩)) ?_
    iterate 5 refine rq_v (op_pure rfl) ?_
    refine rq_nil ?_
    intro w8_ g8_
    have S := S.gr g8_
    first | refine rw_end ?_ | (refine rw_nil ?_; show CW _ _ _ _ _ _) | refine rw_nil ?_
    repeat refine cw_seq ?_
    refine cw_region ?_
    refine rw_v (op_fieldAddr Try.underlying25 rfl Try.sizeOf22 rfl rfl) ?_
    refine rw_r (op_loadB Try.underlying22 rfl rfl (S.blk (i := 1) rfl) rfl) ?_
    refine rw_v (op_pure rfl) ?_
    refine rw_buildS Try.underlying22 Try.sizeOf2 Try.zeroValue2 rfl rfl rfl rfl rfl rfl S ?_
    intro A_lit w10_ g10_ S sa_lit
    refine rw_appS (i := 1) S rfl (fun h => rfl) Try.underlying22 info_t2 rfl rfl rfl rfl (by simp) (by omega) (S.rd (i := 0) rfl) rfl (by omega) ?_
    intro A_o2 c_o2 w11_ S sa_o
    refine rw_v (op_fieldAddr Try.underlying25 rfl Try.sizeOf22 rfl rfl) ?_
    refine rw_storeS (i := 2) S rfl (Try.sizeOf22 _) rfl rfl rfl rfl rfl rfl ?_
    intro w12_ S
    first | refine rw_end ?_ | (refine rw_nil ?_; show CW _ _ _ _ _ _) | refine rw_nil ?_
    repeat refine cw_seq ?_
    refine cw_region ?_
    refine rw_v (op_pure rfl) ?_
    refine rw_v (op_rng rfl (by omega)) ?_
    refine rw_v (op_pure rfl) ?_
    first | refine rw_end ?_ | (refine rw_nil ?_; show CW _ _ _ _ _ _) | refine rw_nil ?_
    have S := S.sub (.cons _ (.cons_cons _ (.cons_cons _ (.cons_cons _ (.cons_cons _ (.slnil))))))
    rw [hpush] at S
    exact ⟨m - 1, by omega, k + 1, A_o2, c_o2, by omega, ⟨rfl, rfl, rfl, rfl, ie (by omega), trivial⟩, S⟩
  · try simp only [decide_eq_true_eq, decide_eq_false_iff_not, beq_iff_eq, bne_iff_ne, beq_eq_false_iff_ne, bne_eq_false_iff_eq, Bool.not_eq_true', Bool.not_eq_false', ne_eq, Decidable.not_not, Int.natCast_inj, Int.ofNat_lt, Int.ofNat_le, gt_iff_lt, ge_iff_le, Int.not_lt, Int.not_le] at hc
    have ek : k = gw * gh := by omega
    rw [ek, em] at S
    repeat refine cw_seq ?_
    refine cw_exit ?_
    repeat first | refine exit_then ?_ | refine exit_inb ?_
    show CW _ _ _ _ _ _
    repeat refine cw_seq ?_
    refine cw_region ?_
    refine rw_r (op_loadAB Try.underlying25 rfl (Try.sizeOf25 _) rfl (S.blk (i := 1) rfl) rfl rfl) ?_
    refine rw_storeSA (i := 2) S rfl (Try.sizeOf25 _) rfl rfl rfl rfl rfl rfl ?_
    intro w13_ S
    first | refine rw_end ?_ | (refine rw_nil ?_; show CW _ _ _ _ _ _) | refine rw_nil ?_
    repeat refine cw_seq ?_
    refine cw_ret ?_
    repeat first | refine ret_then ?_ | refine ret_inb ?_
    exact resA Try.underlying25 rfl (Try.sizeOf25 _) rfl (S.blk (i := 2) rfl) rfl rfl (S.retNew (i := 0) (mk := fun s => .agg #[.int .i64 gw, .int .i64 gh, s]) rfl)
end
end Go.Proofs.Ytbcgbcipigcbhaa
