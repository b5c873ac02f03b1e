/- smooth.ranges, Spread, Open: contracts. -/
import Derived.Test.YtbcgbcipigcbhaaSparseI
import Derived.Test.YtbcgbcipigcbhaaSmoothC
namespace Go.Proofs.Ytbcgbcipigcbhaa
open Go.RowKit
set_option linter.unusedVariables false
set_option linter.unusedSimpArgs false
set_option maxRecDepth 100000

/-! ### Ranges of windows -/
theorem rgOf_row (v : Nat → Nat → Int) (x0 y : Nat) : ∀ d : Nat, ∃ r, RgOf v (boxP x0 y (x0 + d) y) r
  | 0 => ⟨⟨v x0 y, v x0 y⟩, fun x' y' h => by
      unfold boxP at h
      obtain rfl : x' = x0 := by omega
      obtain rfl : y' = y := by omega
      exact ⟨Int.le_refl _, Int.le_refl _⟩, ⟨x0, y, by unfold boxP; omega, rfl⟩, x0, y, by unfold boxP; omega, rfl⟩
  | d + 1 => by
    obtain ⟨r, hr⟩ := rgOf_row v x0 y d
    have h1 : RgOf v (boxP (x0 + d + 1) y (x0 + d + 1) y) ⟨v (x0 + d + 1) y, v (x0 + d + 1) y⟩ := ⟨fun x' y' h => by
      unfold boxP at h
      obtain rfl : x' = x0 + d + 1 := by omega
      obtain rfl : y' = y := by omega
      exact ⟨Int.le_refl _, Int.le_refl _⟩, ⟨_, y, by unfold boxP; omega, rfl⟩, _, y, by unfold boxP; omega, rfl⟩
    exact ⟨_, hr.join h1 (fun a b => by unfold boxP; omega)⟩
theorem rgOf_box (v : Nat → Nat → Int) (x0 d y0 : Nat) : ∀ d' : Nat, ∃ r, RgOf v (boxP x0 y0 (x0 + d) (y0 + d')) r
  | 0 => rgOf_row v x0 y0 d
  | d' + 1 => by
    obtain ⟨r, hr⟩ := rgOf_box v x0 d y0 d'
    obtain ⟨r', hr'⟩ := rgOf_row v x0 (y0 + d' + 1) d
    exact ⟨_, hr.join hr' (fun a b => by unfold boxP; omega)⟩
theorem rgB_of (V : List Int) (gw : Nat) {x0 y0 x1 y1 : Nat} (hx : x0 ≤ x1) (hy : y0 ≤ y1) : RgOf (cellV V gw) (boxP x0 y0 x1 y1) (rgB V gw x0 y0 x1 y1) := by
  obtain ⟨r, hr⟩ := rgOf_box (cellV V gw) x0 (x1 - x0) y0 (y1 - y0)
  rw [show x0 + (x1 - x0) = x1 by omega, show y0 + (y1 - y0) = y1 by omega] at hr
  rw [rgB_eq hr]
  exact hr
noncomputable def rgW (V : List Int) (gw gh i n : Nat) : RG := rgB V gw (winW gw gh i n).x0 (winW gw gh i n).y0 (winW gw gh i n).x1 (winW gw gh i n).y1
theorem rgW_of (V : List Int) {gw gh i : Nat} (n : Nat) (hgw : 0 < gw) (hi : i < gw * gh) : RgOf (cellV V gw) (boxP (winW gw gh i n).x0 (winW gw gh i n).y0 (winW gw gh i n).x1 (winW gw gh i n).y1) (rgW V gw gh i n) := by
  obtain ⟨h1, h2⟩ := winW_ok (n := n) hgw hi
  exact rgB_of V gw h1.1 h2.1
theorem cellV_may {V : List Int} (hB : vB V) (gw x y : Nat) : mayB (cellV V gw x y) = true := (mayB_iff _).2 (hB _)
theorem rgW_may {V : List Int} (hB : vB V) {gw gh i : Nat} (n : Nat) (hgw : 0 < gw) (hi : i < gw * gh) : mayB (rgW V gw gh i n).lo = true ∧ mayB (rgW V gw gh i n).hi = true := by
  have h := rgW_of V n hgw hi
  obtain ⟨x, y, _, e⟩ := h.lo
  obtain ⟨x', y', _, e'⟩ := h.hi
  rw [← e, ← e']
  exact ⟨cellV_may hB _ _ _, cellV_may hB _ _ _⟩
/-- the least of each window; the greatest of these -/
noncomputable def lowL (V : List Int) (gw gh n : Nat) : List Int := gridL gw gh fun i => (rgW V gw gh i n).lo
noncomputable def openL (V : List Int) (gw gh n : Nat) : List Int := gridL gw gh fun i => (rgW (lowL V gw gh n) gw gh i n).hi
theorem lowL_len (V : List Int) (gw gh n : Nat) : (lowL V gw gh n).length = gw * gh := gridL_len _ _ _
theorem openL_len (V : List Int) (gw gh n : Nat) : (openL V gw gh n).length = gw * gh := gridL_len _ _ _
theorem gridL_at {gw gh i : Nat} (c : Nat → Int) (h : i < gw * gh) : (gridL gw gh c).getD i 0 = c i := by
  unfold gridL
  rw [List.getD_eq_getElem?_getD, List.getElem?_map, List.getElem?_range h]
  rfl
theorem gridL_self {gw gh : Nat} {l : List Int} (h : l.length = gw * gh) : gridL gw gh (fun i => l.getD i 0) = l := by
  apply List.ext_getElem?
  intro i
  by_cases hi : i < gw * gh
  · unfold gridL
    rw [List.getElem?_map, List.getElem?_range hi, Option.map_some, List.getD_eq_getElem?_getD, List.getElem?_eq_getElem (by omega)]
    rfl
  · rw [List.getElem?_eq_none (by rw [gridL_len]; omega), List.getElem?_eq_none (by omega)]
theorem lowL_vB {V : List Int} (hB : vB V) {gw gh : Nat} (n : Nat) (hgw : 0 < gw) : vB (lowL V gw gh n) := vB_of_may fun v hv => by
  obtain ⟨i, hi, rfl⟩ := List.mem_map.1 hv
  exact (rgW_may hB n hgw (List.mem_range.1 hi)).1
theorem openL_vB {V : List Int} (hB : vB V) {gw gh : Nat} (n : Nat) (hgw : 0 < gw) : vB (openL V gw gh n) := vB_of_may fun v hv => by
  obtain ⟨i, hi, rfl⟩ := List.mem_map.1 hv
  exact (rgW_may (lowL_vB hB n hgw) n hgw (List.mem_range.1 hi)).2
section
variable {W : World} {A : Option Addr} {p gw gh cap C D tb : Nat} {cc : Nat → Int} {bs : Nat → Nat} {Rs : Nat → Option Nat} {V : List Int}
theorem rangesC_E (i n : Nat) (hw : 1 ≤ gw ∧ gw ≤ 1024) (hh : 1 ≤ gh ∧ gh ≤ 1024) (hi : i < gw * gh) (hC : Blk W C 201 [.pointer (some ⟨tb, 0, none⟩)]) (hA : SparseAt W tb gw gh V) :
    Fn Try.prog 135 ([] ++ [(winW gw gh i n).val] ++ [.pointer (some ⟨C, 0, none⟩)]) W (RetG (.agg (rgW V gw gh i n).cells.toArray) W) := by
  obtain ⟨h1, h2⟩ := winW_ok (n := n) hw.1 hi
  unfold rgW Win.val
  generalize winW gw gh i n = r at *
  have S := St.start W
  refine Fn_enter Try.func135 rfl Try.results135 Try.ntmps135 (by kernel_rfl) (by kernel_rfl) ?_
  repeat refine cw_seq ?_
  refine cw_region ?_
  refine rw_newB (op_box rfl) S ?_
  intro b_r w2_ g2_ S
  refine rw_newB (op_alloc Try.zeroValue78 rfl) S ?_
  intro b_R w4_ g4_ S
  first | refine rw_end ?_ | (refine rw_nil ?_; show CW _ _ _ _ _ _) | refine rw_nil ?_
  repeat refine cw_seq ?_
  refine cw_region ?_
  refine rw_r (op_loadB Try.underlying201 rfl rfl (hC.gr S.out) rfl) ?_
  refine rw_r (op_loadAB Try.underlying75 rfl (Try.sizeOf75 _) rfl (S.blk (i := 1) rfl) rfl rfl) ?_
  refine rw_call rfl (trangeA_E (W := w4_) r.x0 r.y0 r.x1 r.y1 hw hh h1 h2 (hA.gr S.out)) ?_
  rintro _ w5_ ⟨rfl, g5_⟩
  have S := S.gr g5_
  iterate 3 refine rw_v (op_pure rfl) ?_
  refine rw_newB (op_alloc Try.zeroValue78 rfl) S ?_
  intro b_rg w7_ g7_ S
  refine rw_storeSA (i := 0) S rfl (Try.sizeOf78 _) rfl rfl rfl rfl rfl rfl ?_
  intro w8_ S
  refine rw_v (op_pure rfl) ?_
  first | refine rw_end ?_ | (refine rw_nil ?_; show CW _ _ _ _ _ _) | refine rw_nil ?_
  repeat refine cw_seq ?_
  refine cw_region ?_
  refine rw_r (op_loadAB Try.underlying78 rfl (Try.sizeOf78 _) rfl (S.blk (i := 0) rfl) rfl rfl) ?_
  refine rw_storeSA (i := 1) S rfl (Try.sizeOf78 _) rfl rfl rfl rfl rfl rfl ?_
  intro w9_ S
  first | refine rw_end ?_ | (refine rw_nil ?_; show CW _ _ _ _ _ _) | refine rw_nil ?_
  repeat refine cw_seq ?_
  refine cw_ret ?_
  repeat first | refine ret_then ?_ | refine ret_inb ?_
  exact resA Try.underlying78 rfl (Try.sizeOf78 _) rfl (S.blk (i := 1) rfl) rfl rfl ⟨rfl, S.out⟩
theorem sranges_E (hG : GridAt W p gw gh cc A cap bs Rs) : Fn Try.prog 86 [.pointer (some ⟨p, 0, none⟩)] W
    (fun v w' => ∃ C tb Ao co As cs, v = .func (.func 135) (([] : List Value).toArray) [.pointer (some ⟨C, 0, none⟩)].toArray ∧ St No W w' (.blk C 201 [.pointer (some ⟨tb, 0, none⟩)] :: SpL tb Ao co As cs gw gh (gridL gw gh cc))) := by
  have S := St.start W
  refine Fn_enter Try.func86 rfl Try.results86 Try.ntmps86 (by kernel_rfl) (by kernel_rfl) ?_
  repeat refine cw_seq ?_
  refine cw_region ?_
  refine rw_v (op_pure rfl) ?_
  first | refine rw_end ?_ | (refine rw_nil ?_; show CW _ _ _ _ _ _) | refine rw_nil ?_
  repeat refine cw_seq ?_
  refine cw_region ?_
  refine rw_v (op_pure rfl) ?_
  refine rw_call rfl (sbuild_E (W := W) (hG.gr S.out)) ?_
  rintro _ w1_ ⟨tb, Ao, co, As, cs, rfl, S2⟩
  have S := S.app S2
  iterate 3 refine rw_v (op_pure rfl) ?_
  refine rw_newB (op_alloc Try.zeroValue201 rfl) S ?_
  intro b_tp w3_ g3_ S
  refine rw_storeS (i := 0) S rfl (Try.sizeOf201 _) rfl rfl rfl rfl rfl rfl ?_
  intro w4_ S
  refine rw_v (op_pure rfl) ?_
  first | refine rw_end ?_ | (refine rw_nil ?_; show CW _ _ _ _ _ _) | refine rw_nil ?_
  repeat refine cw_seq ?_
  refine cw_region ?_
  iterate 2 refine rw_v (op_pure rfl) ?_
  first | refine rw_end ?_ | (refine rw_nil ?_; show CW _ _ _ _ _ _) | refine rw_nil ?_
  repeat refine cw_seq ?_
  refine cw_ret ?_
  repeat first | refine ret_then ?_ | refine ret_inb ?_
  exact res1 rfl ⟨b_tp, tb, Ao, co, As, cs, rfl, S⟩
/-- the function of ranges: its variable, its table -/
structure RgFn (w : World) (D gw gh : Nat) (V : List Int) : Prop where
  ex : ∃ C tb, Blk w D 147 [.func (.func 135) (([] : List Value).toArray) [.pointer (some ⟨C, 0, none⟩)].toArray] ∧ Blk w C 201 [.pointer (some ⟨tb, 0, none⟩)] ∧ SparseAt w tb gw gh V
theorem RgFn.gr {w w' : World} {D gw gh : Nat} {V : List Int} (h : RgFn w D gw gh V) (g : Gr w w') : RgFn w' D gw gh V := by
  obtain ⟨C, tb, h1, h2, h3⟩ := h.ex
  exact ⟨C, tb, h1.gr g, h2.gr g, h3.gr g⟩
theorem spreadC_E (i n : Nat) (hB : vB V) (hw : 1 ≤ gw ∧ gw ≤ 1024) (hh : 1 ≤ gh ∧ gh ≤ 1024) (hi : i < gw * gh) (hD : RgFn W D gw gh V) :
    Fn Try.prog 88 ([] ++ [(winW gw gh i n).val] ++ [.pointer (some ⟨D, 0, none⟩)]) W (RetG (.int .i64 ((rgW V gw gh i n).hi - (rgW V gw gh i n).lo)) W) := by
  obtain ⟨C, tb, hF, hC, hA⟩ := hD.ex
  have hm := rgW_may hB n hw.1 hi
  rw [mayB_iff, mayB_iff] at hm
  have hr := fun w (g : Gr W w) => rangesC_E (W := w) i n hw hh hi (hC.gr g) (hA.gr g)
  generalize rgW V gw gh i n = q at *
  unfold Win.val at *
  unfold RG.cells at hr
  have S := St.start W
  refine Fn_enter Try.func88 rfl Try.results88 Try.ntmps88 (by kernel_rfl) (by kernel_rfl) ?_
  repeat refine cw_seq ?_
  refine cw_region ?_
  refine rw_newB (op_box rfl) S ?_
  intro b_r w2_ g2_ S
  refine rw_v (op_pure rfl) ?_
  first | refine rw_end ?_ | (refine rw_nil ?_; show CW _ _ _ _ _ _) | refine rw_nil ?_
  repeat refine cw_seq ?_
  refine cw_region ?_
  refine rw_r (op_loadB Try.underlying147 rfl rfl (hF.gr S.out) rfl) ?_
  refine rw_r (op_loadAB Try.underlying75 rfl (Try.sizeOf75 _) rfl (S.blk (i := 0) rfl) rfl rfl) ?_
  refine rw_callv rfl rfl (hr w2_ S.out) ?_
  rintro _ w3_ ⟨rfl, g3_⟩
  have S := S.gr g3_
  refine rw_newB (op_alloc Try.zeroValue78 rfl) S ?_
  intro b_rg w5_ g5_ S
  refine rw_storeSA (i := 0) S rfl (Try.sizeOf78 _) rfl rfl rfl rfl rfl rfl ?_
  intro w6_ S
  first | refine rw_end ?_ | (refine rw_nil ?_; show CW _ _ _ _ _ _) | refine rw_nil ?_
  repeat refine cw_seq ?_
  refine cw_region ?_
  refine rw_v (op_fieldAddr Try.underlying78 rfl Try.sizeOf2 rfl rfl) ?_
  refine rw_r (op_loadB Try.underlying2 rfl rfl (S.blk (i := 0) rfl) rfl) ?_
  refine rw_v (op_fieldAddr Try.underlying78 rfl Try.sizeOf2 rfl rfl) ?_
  refine rw_r (op_loadB Try.underlying2 rfl rfl (S.blk (i := 0) rfl) rfl) ?_
  refine rw_v (op_rng rfl (by omega)) ?_
  refine rw_v (op_pure rfl) ?_
  first | refine rw_end ?_ | (refine rw_nil ?_; show CW _ _ _ _ _ _) | refine rw_nil ?_
  repeat refine cw_seq ?_
  refine cw_ret ?_
  repeat first | refine ret_then ?_ | refine ret_inb ?_
  exact res1 rfl ⟨rfl, S.out⟩
theorem open1_E (i n : Nat) (hw : 1 ≤ gw ∧ gw ≤ 1024) (hh : 1 ≤ gh ∧ gh ≤ 1024) (hi : i < gw * gh) (hD : RgFn W D gw gh V) :
    Fn Try.prog 90 ([] ++ [(winW gw gh i n).val] ++ [.pointer (some ⟨D, 0, none⟩)]) W (RetG (.int .i64 (rgW V gw gh i n).lo) W) := by
  obtain ⟨C, tb, hF, hC, hA⟩ := hD.ex
  have hr := fun w (g : Gr W w) => rangesC_E (W := w) i n hw hh hi (hC.gr g) (hA.gr g)
  generalize rgW V gw gh i n = q at *
  unfold Win.val at *
  unfold RG.cells at hr
  have S := St.start W
  refine Fn_enter Try.func90 rfl Try.results90 Try.ntmps90 (by kernel_rfl) (by kernel_rfl) ?_
  repeat refine cw_seq ?_
  refine cw_region ?_
  refine rw_newB (op_box rfl) S ?_
  intro b_r w2_ g2_ S
  refine rw_v (op_pure rfl) ?_
  first | refine rw_end ?_ | (refine rw_nil ?_; show CW _ _ _ _ _ _) | refine rw_nil ?_
  repeat refine cw_seq ?_
  refine cw_region ?_
  refine rw_r (op_loadB Try.underlying147 rfl rfl (hF.gr S.out) rfl) ?_
  refine rw_r (op_loadAB Try.underlying75 rfl (Try.sizeOf75 _) rfl (S.blk (i := 0) rfl) rfl rfl) ?_
  refine rw_callv rfl rfl (hr w2_ S.out) ?_
  rintro _ w3_ ⟨rfl, g3_⟩
  have S := S.gr g3_
  refine rw_v (op_field Try.underlying78 rfl Try.underlying2 rfl rfl rfl) ?_
  refine rw_v (op_pure rfl) ?_
  first | refine rw_end ?_ | (refine rw_nil ?_; show CW _ _ _ _ _ _) | refine rw_nil ?_
  repeat refine cw_seq ?_
  refine cw_ret ?_
  repeat first | refine ret_then ?_ | refine ret_inb ?_
  exact res1 rfl ⟨rfl, S.out⟩
theorem open2_E (i n : Nat) (hw : 1 ≤ gw ∧ gw ≤ 1024) (hh : 1 ≤ gh ∧ gh ≤ 1024) (hi : i < gw * gh) (hD : RgFn W D gw gh V) :
    Fn Try.prog 91 ([] ++ [(winW gw gh i n).val] ++ [.pointer (some ⟨D, 0, none⟩)]) W (RetG (.int .i64 (rgW V gw gh i n).hi) W) := by
  obtain ⟨C, tb, hF, hC, hA⟩ := hD.ex
  have hr := fun w (g : Gr W w) => rangesC_E (W := w) i n hw hh hi (hC.gr g) (hA.gr g)
  generalize rgW V gw gh i n = q at *
  unfold Win.val at *
  unfold RG.cells at hr
  have S := St.start W
  refine Fn_enter Try.func91 rfl Try.results91 Try.ntmps91 (by kernel_rfl) (by kernel_rfl) ?_
  repeat refine cw_seq ?_
  refine cw_region ?_
  refine rw_newB (op_box rfl) S ?_
  intro b_r w2_ g2_ S
  refine rw_v (op_pure rfl) ?_
  first | refine rw_end ?_ | (refine rw_nil ?_; show CW _ _ _ _ _ _) | refine rw_nil ?_
  repeat refine cw_seq ?_
  refine cw_region ?_
  refine rw_r (op_loadB Try.underlying147 rfl rfl (hF.gr S.out) rfl) ?_
  refine rw_r (op_loadAB Try.underlying75 rfl (Try.sizeOf75 _) rfl (S.blk (i := 0) rfl) rfl rfl) ?_
  refine rw_callv rfl rfl (hr w2_ S.out) ?_
  rintro _ w3_ ⟨rfl, g3_⟩
  have S := S.gr g3_
  refine rw_v (op_field Try.underlying78 rfl Try.underlying2 rfl rfl rfl) ?_
  refine rw_v (op_pure rfl) ?_
  first | refine rw_end ?_ | (refine rw_nil ?_; show CW _ _ _ _ _ _) | refine rw_nil ?_
  repeat refine cw_seq ?_
  refine cw_ret ?_
  repeat first | refine ret_then ?_ | refine ret_inb ?_
  exact res1 rfl ⟨rfl, S.out⟩
theorem sspread_E (n : Nat) (hn : n ≤ 1024) (hB : vB (gridL gw gh cc)) (hG : GridAt W p gw gh cc A cap bs Rs) : Fn Try.prog 39 [.pointer (some ⟨p, 0, none⟩), .int .i64 n] W
    (RetNew (fun s => .tuple #[s, .int .i64 0]) 2 1 (gw * gh) (cellsQ (gw * gh) fun i => (rgW (gridL gw gh cc) gw gh i n).hi - (rgW (gridL gw gh cc) gw gh i n).lo) W) := by
  have hw := hG.sw
  have hh := hG.sh
  have hrg := fun w (g : Gr W w) => sranges_E (hG.gr g)
  have heach := fun (b : Nat) w (g : Gr W w) => each_E (W := w) (fid := 88) (caps := [.pointer (some ⟨b, 0, none⟩)]) (q := fun i => (rgW (gridL gw gh cc) gw gh i n).hi - (rgW (gridL gw gh cc) gw gh i n).lo) n hn (hG.gr g)
  generalize gridL gw gh cc = V at *
  have S := St.start W
  refine Fn_enter Try.func39 rfl Try.results39 Try.ntmps39 (by kernel_rfl) (by kernel_rfl) ?_
  repeat refine cw_seq ?_
  refine cw_region ?_
  iterate 2 refine rw_v (op_pure rfl) ?_
  first | refine rw_end ?_ | (refine rw_nil ?_; show CW _ _ _ _ _ _) | refine rw_nil ?_
  repeat refine cw_seq ?_
  refine cw_region ?_
  refine rw_v (op_pure rfl) ?_
  refine rw_call rfl (hrg W S.out) ?_
  rintro _ w1_ ⟨C, tb, Ao, co, As, cs, rfl, S2⟩
  have S := S.app S2
  refine rw_newB (op_alloc Try.zeroValue147 rfl) S ?_
  intro b_fp w3_ g3_ S
  refine rw_storeS (i := 0) S rfl (Try.sizeOf147 _) rfl rfl rfl rfl rfl rfl ?_
  intro w4_ S
  first | refine rw_end ?_ | (refine rw_nil ?_; show CW _ _ _ _ _ _) | refine rw_nil ?_
  have hD : RgFn _ b_fp gw gh V := ⟨C, tb, S.blk (i := 0) rfl, S.blk (i := 1) rfl, Ao, co, As, cs, S.blk (i := 4) rfl, S.row (i := 2) rfl, fun k hk => S.grow_ (i := 3) rfl hk⟩
  have hS1 := S
  repeat refine cw_seq ?_
  refine cw_region ?_
  iterate 3 refine rw_v (op_pure rfl) ?_
  refine rw_call rfl (heach b_fp w4_ S.out (fun w g i hi => spreadC_E i n hB hw hh hi (hD.gr g))) ?_
  rintro _ w5_ ⟨A_l, c_l, rfl, hR_l, hf_l, g5_⟩
  have S := S.pushRow hR_l hf_l g5_
  iterate 4 refine rw_v (op_pure rfl) ?_
  first | refine rw_end ?_ | (refine rw_nil ?_; show CW _ _ _ _ _ _) | refine rw_nil ?_
  repeat refine cw_seq ?_
  refine cw_ret ?_
  repeat first | refine ret_then ?_ | refine ret_inb ?_
  exact res2 rfl rfl (S.retNew (i := 0) (mk := fun s => .tuple #[s, .int .i64 0]) rfl)
set_option maxHeartbeats 2000000 in
theorem sopen_E (n : Nat) (hn : n ≤ 1024) (hB : vB (gridL gw gh cc)) (hG : GridAt W p gw gh cc A cap bs Rs) : Fn Try.prog 40 [.pointer (some ⟨p, 0, none⟩), .int .i64 n] W
    (RetGrid (fun p => .tuple #[p, .int .i64 0]) gw gh (fun i => (openL (gridL gw gh cc) gw gh n).getD i 0) W) := by
  have hw := hG.sw
  have hh := hG.sh
  have hrg := fun w (g : Gr W w) => sranges_E (hG.gr g)
  have hmade := fun (b : Nat) w (g : Gr W w) => smade_E (W := w) (fid := 90) (caps := [.pointer (some ⟨b, 0, none⟩)]) (q := fun i => (rgW (gridL gw gh cc) gw gh i n).lo) n hn (hG.gr g) (fun i hi => (rgW_may hB n hw.1 hi).1)
  generalize gridL gw gh cc = V at *
  have hBl := lowL_vB hB (gw := gw) (gh := gh) n hw.1
  have elow : gridL gw gh (fun i => (lowL V gw gh n).getD i 0) = lowL V gw gh n := gridL_self (lowL_len _ _ _ _)
  have hrg2 := fun w (p2 cap2 : Nat) (A2 : Option Addr) (bs2 : Nat → Nat) (Rs2 : Nat → Option Nat) (h : GridAt w p2 gw gh (fun i => (lowL V gw gh n).getD i 0) A2 cap2 bs2 Rs2) => sranges_E h
  have hmade2 := fun (b : Nat) w (p2 cap2 : Nat) (A2 : Option Addr) (bs2 : Nat → Nat) (Rs2 : Nat → Option Nat) (h : GridAt w p2 gw gh (fun i => (lowL V gw gh n).getD i 0) A2 cap2 bs2 Rs2) => smade_E (W := w) (fid := 91) (caps := [.pointer (some ⟨b, 0, none⟩)]) (q := fun i => (rgW (lowL V gw gh n) gw gh i n).hi) n hn h (fun i hi => (rgW_may hBl n hw.1 hi).2)
  rw [elow] at hrg2
  have S := St.start W
  refine Fn_enter Try.func40 rfl Try.results40 Try.ntmps40 (by kernel_rfl) (by kernel_rfl) ?_
  repeat refine cw_seq ?_
  refine cw_region ?_
  iterate 2 refine rw_v (op_pure rfl) ?_
  first | refine rw_end ?_ | (refine rw_nil ?_; show CW _ _ _ _ _ _) | refine rw_nil ?_
  repeat refine cw_seq ?_
  refine cw_region ?_
  refine rw_v (op_pure rfl) ?_
  refine rw_call rfl (hrg W S.out) ?_
  rintro _ w1_ ⟨C, tb, Ao, co, As, cs, rfl, S2⟩
  have S := S.app S2
  refine rw_newB (op_alloc Try.zeroValue147 rfl) S ?_
  intro b_fp w3_ g3_ S
  refine rw_storeS (i := 0) S rfl (Try.sizeOf147 _) rfl rfl rfl rfl rfl rfl ?_
  intro w4_ S
  first | refine rw_end ?_ | (refine rw_nil ?_; show CW _ _ _ _ _ _) | refine rw_nil ?_
  have hD : RgFn _ b_fp gw gh V := ⟨C, tb, S.blk (i := 0) rfl, S.blk (i := 1) rfl, Ao, co, As, cs, S.blk (i := 4) rfl, S.row (i := 2) rfl, fun k hk => S.grow_ (i := 3) rfl hk⟩
  have S := S.sub (.cons_cons _ (.cons _ (.cons _ (.cons _ (.cons _ (.slnil))))))
  repeat refine cw_seq ?_
  refine cw_region ?_
  iterate 3 refine rw_v (op_pure rfl) ?_
  refine rw_call rfl (hmade b_fp w4_ S.out (fun w g i hi => open1_E i n hw hh hi (hD.gr g))) ?_
  rintro _ w5_ ⟨p2, B2, bc2, bs2, Rs2, rfl, hG2, hf2, g5_⟩
  have S := S.pushGrid hG2 hf2 g5_
  iterate 5 refine rw_v (op_pure rfl) ?_
  first | refine rw_end ?_ | (refine rw_nil ?_; show CW _ _ _ _ _ _) | refine rw_nil ?_
  repeat refine cw_seq ?_
  refine cw_region ?_
  refine rw_v (op_pure rfl) ?_
  refine rw_v (op_b (b := false) rfl (bne_eq_false_iff_eq.2 (by omega))) ?_
  first | refine rw_end ?_ | (refine rw_nil ?_; show CW _ _ _ _ _ _) | refine rw_nil ?_
  repeat refine cw_seq ?_
  refine cw_false rfl ?_
  repeat refine cw_seq ?_
  refine cw_skip ?_
  try show CW _ _ _ _ _ _
  repeat refine cw_seq ?_
  refine cw_region ?_
  refine rw_v (op_pure rfl) ?_
  refine rw_call rfl (hrg2 w5_ _ _ _ _ _ (S.grid (i := 0) rfl)) ?_
  rintro _ w6_ ⟨C2, tb2, Ao2, co2, As2, cs2, rfl, S2⟩
  have S := S.app S2
  refine rw_storeS (i := 5) S rfl (Try.sizeOf147 _) rfl rfl rfl rfl rfl rfl ?_
  intro w7_ S
  first | refine rw_end ?_ | (refine rw_nil ?_; show CW _ _ _ _ _ _) | refine rw_nil ?_
  have hD2 : RgFn _ b_fp gw gh (lowL V gw gh n) := ⟨C2, tb2, S.blk (i := 5) rfl, S.blk (i := 0) rfl, Ao2, co2, As2, cs2, S.blk (i := 3) rfl, S.row (i := 1) rfl, fun k hk => S.grow_ (i := 2) rfl hk⟩
  repeat refine cw_seq ?_
  refine cw_region ?_
  iterate 3 refine rw_v (op_pure rfl) ?_
  refine rw_call rfl (hmade2 b_fp w7_ _ _ _ _ _ (S.grid (i := 4) rfl) (fun w g i hi => open2_E i n hw hh hi (hD2.gr g))) ?_
  rintro _ w8_ ⟨p3, B3, bc3, bs3, Rs3, rfl, hG3, hf3, g8_⟩
  have S := S.pushGrid hG3 hf3 g8_
  iterate 4 refine rw_v (op_pure rfl) ?_
  first | refine rw_end ?_ | (refine rw_nil ?_; show CW _ _ _ _ _ _) | refine rw_nil ?_
  repeat refine cw_seq ?_
  refine cw_ret ?_
  repeat first | refine ret_then ?_ | refine ret_inb ?_
  exact res2 rfl rfl (S.retGrid (i := 0) (mk := fun p => .tuple #[p, .int .i64 0]) rfl)
end
end Go.Proofs.Ytbcgbcipigcbhaa
