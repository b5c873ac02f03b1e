/- sink.begin, Next, Way and the document's: contracts. -/
import Derived.Test.YtbcgbcipigcbhaaSinkA
import Derived.Test.YtbcgbcipigcbhaaRouteR
namespace Go.Proofs.Ytbcgbcipigcbhaa
open Go.RowKit
set_option linter.unusedVariables false
set_option linter.unusedSimpArgs false
set_option maxRecDepth 100000

/-- one store that may come up at any time beside loads that do not mind -/
def CSt (F : Nat → Prop) (W : World) (L L1 : List HA) (σ : List Value) (w : World) : Prop := match σ with
  | [] => St F W w L
  | _ :: _ => St F W w L1
section
variable {F : Nat → Prop} {W w w' : World} {L L1 : List HA} {σ : List Value}
theorem CSt.start (S : St F W w L) : CSt F W L L1 [] w := S
theorem CSt.ok (h : CSt F W L L1 σ w) {i : Nat} {x : HA} (hi : getO L i = some x) (hi1 : getO L1 i = some x) : x.ok w := by
  cases σ with
  | nil => exact St.ok h hi
  | cons v σ => exact St.ok h hi1
theorem CSt.blk (h : CSt F W L L1 σ w) {i b t : Nat} {l : List Value} (hi : getO L i = some (.blk b t l)) (hi1 : getO L1 i = some (.blk b t l)) : Blk w b t l := h.ok hi hi1
end
section
variable {P : Program} {e : Nat → Value} {d : Option Tmp} {ty : TypeId} {ps : String} {af : Array Edge} {F : Nat → Prop} {W w : World} {L L' : List HA} {R : Value → World → Prop}
theorem to_storeSA {i : Nat} {t tb : TypeId} {x y : Operand} {b o n : Nat} {l cs l' : List Value} (S : St F W w L) (hi : getO L i = some (.blk b t l)) (hz : (sizeOf tb).run P w = .ok n w) (hx : ev e x = .pointer (some ⟨b, o, none⟩)) (hy : ev e y = .agg cs.toArray) (hn : cs.length = n)
    (hl' : fzl (l.take o ++ cs ++ l.drop (o + n)) = some l') (ho : ((cs.all fun v => v.oneCell') && Nat.ble (o + n) l.length) = true) (hs : setO L i (.blk b t l') = some L') (hr : ∀ w', St F W w' L' → R undef w') : opTo P e ⟨d, .store tb x y, ty, ps, af, none⟩ w R :=
  opTo_of_rw (rw_storeSA S hi hz hx hy hn hl' ho hs (fun w' S' => hr w' S'))
end
section
variable {W : World} {A : Option Addr} {p gw gh cap c : Nat} {cc : Nat → Int} {bs : Nat → Nat} {Rs : Nat → Option Nat} {V : List Int}
theorem sbeginNil_E (x y : Int) : Fn Try.prog 83 [.pointer none, .agg #[.int .i64 x, .int .i64 y]] W (RetG (.tuple #[.agg #[.int .i64 0, .slice none 0 0, .slice none 0 0], .int .i64 0, .int .i64 1]) W) := by
  have S := St.start W
  refine Fn_enter Try.func83 rfl Try.results83 Try.ntmps83 (by kernel_rfl) (by kernel_rfl) ?_
  repeat refine cw_seq ?_
  refine cw_region ?_
  refine rw_newB (op_box rfl) S ?_
  intro b_c w2_ g2_ S
  refine rw_newB (op_alloc Try.zeroValue136 rfl) S ?_
  intro b_res w4_ g4_ S
  iterate 2 refine rw_v (op_pure rfl) ?_
  first | refine rw_end ?_ | (refine rw_nil ?_; show CW _ _ _ _ _ _) | refine rw_nil ?_
  repeat refine cw_seq ?_
  refine cw_region ?_
  refine rw_v (op_pure rfl) ?_
  refine rw_call rfl (sofNil_E) ?_
  rintro _ w5_ ⟨rfl, g5_⟩
  have S := S.gr g5_
  iterate 3 refine rw_v (op_pure rfl) ?_
  refine rw_newB (op_alloc Try.zeroValue136 rfl) S ?_
  intro b_l w7_ g7_ S
  refine rw_storeSA (i := 0) S rfl (Try.sizeOf136 _) rfl rfl rfl rfl rfl rfl ?_
  intro w8_ S
  refine rw_v (op_pure rfl) ?_
  first | refine rw_end ?_ | (refine rw_nil ?_; show CW _ _ _ _ _ _) | refine rw_nil ?_
  repeat refine cw_seq ?_
  refine cw_region ?_
  refine rw_v (op_pure rfl) ?_
  refine rw_v (op_b (b := false) rfl (beq_eq_false_iff_ne.2 (by omega))) ?_
  first | refine rw_end ?_ | (refine rw_nil ?_; show CW _ _ _ _ _ _) | refine rw_nil ?_
  repeat refine cw_seq ?_
  refine cw_false rfl ?_
  repeat refine cw_seq ?_
  refine cw_skip ?_
  try show CW _ _ _ _ _ _
  repeat refine cw_seq ?_
  refine cw_region ?_
  refine rw_v (op_pure rfl) ?_
  refine rw_v (op_b (b := true) rfl (bne_iff_ne.2 (by omega))) ?_
  first | refine rw_end ?_ | (refine rw_nil ?_; show CW _ _ _ _ _ _) | refine rw_nil ?_
  repeat refine cw_seq ?_
  refine cw_true rfl ?_
  repeat refine cw_seq ?_
  refine cw_region ?_
  refine rw_v (op_build (pl := [(0, 1), (1, 1), (2, 1)]) Try.underlying136 Try.zeroValue136 (fun w => by kernel_rfl) rfl rfl) ?_
  refine rw_v (op_pure rfl) ?_
  refine rw_storeSA (i := 1) S rfl (Try.sizeOf136 _) rfl rfl rfl rfl rfl rfl ?_
  intro w9_ S
  iterate 2 refine rw_v (op_pure rfl) ?_
  first | refine rw_end ?_ | (refine rw_nil ?_; show CW _ _ _ _ _ _) | refine rw_nil ?_
  repeat refine cw_seq ?_
  refine cw_ret ?_
  repeat first | refine ret_then ?_ | refine ret_inb ?_
  exact resATT Try.underlying136 rfl (Try.sizeOf136 _) rfl (S.blk (i := 1) rfl) rfl rfl rfl rfl ⟨rfl, S.out⟩
theorem sbeginNo_E (x y : Int) (hno : inG gw gh (x, y) = false) (hG : GridAt W p gw gh cc A cap bs Rs) : Fn Try.prog 83 [.pointer (some ⟨p, 0, none⟩), .agg #[.int .i64 x, .int .i64 y]] W (RetG (.tuple #[.agg #[.int .i64 0, .slice none 0 0, .slice none 0 0], .int .i64 0, .int .i64 4]) W) := by
  have hno' : ¬ (0 ≤ x ∧ x < gw ∧ 0 ≤ y ∧ y < gh) := fun h => by rw [inG_iff.2 h] at hno; cases hno
  have S := St.start W
  refine Fn_enter Try.func83 rfl Try.results83 Try.ntmps83 (by kernel_rfl) (by kernel_rfl) ?_
  repeat refine cw_seq ?_
  refine cw_region ?_
  refine rw_newB (op_box rfl) S ?_
  intro b_c w2_ g2_ S
  refine rw_newB (op_alloc Try.zeroValue136 rfl) S ?_
  intro b_res w4_ g4_ S
  iterate 2 refine rw_v (op_pure rfl) ?_
  first | refine rw_end ?_ | (refine rw_nil ?_; show CW _ _ _ _ _ _) | refine rw_nil ?_
  repeat refine cw_seq ?_
  refine cw_region ?_
  refine rw_v (op_pure rfl) ?_
  refine rw_call rfl (sof_E (W := w4_) (hG.gr S.out)) ?_
  rintro _ w5_ ⟨A_v, c_v, A_to, c_to, rfl, hv, hFv, hto, hFt, hd, g5_⟩
  have S := S.push2 g5_ (h1 := .row 2 1 A_v _ c_v _) (h2 := .row 3 1 A_to _ c_to _) hv hto hFv hFt hd
  iterate 3 refine rw_v (op_pure rfl) ?_
  refine rw_newB (op_alloc Try.zeroValue136 rfl) S ?_
  intro b_l w7_ g7_ S
  refine rw_storeSA (i := 0) S rfl (Try.sizeOf136 _) rfl rfl rfl rfl rfl rfl ?_
  intro w8_ S
  refine rw_v (op_pure rfl) ?_
  first | refine rw_end ?_ | (refine rw_nil ?_; show CW _ _ _ _ _ _) | refine rw_nil ?_
  repeat refine cw_seq ?_
  refine cw_region ?_
  refine rw_v (op_pure rfl) ?_
  refine rw_v (op_b (b := true) rfl (beq_iff_eq.2 (by omega))) ?_
  first | refine rw_end ?_ | (refine rw_nil ?_; show CW _ _ _ _ _ _) | refine rw_nil ?_
  repeat refine cw_seq ?_
  refine cw_true rfl ?_
  repeat refine cw_seq ?_
  refine cw_region ?_
  refine rw_v (op_pure rfl) ?_
  refine rw_r (op_loadAB Try.underlying44 rfl (Try.sizeOf44 _) rfl (S.blk (i := 4) rfl) rfl rfl) ?_
  refine rw_call rfl (gatNo_E (W := w8_) x y hno' (hG.gr S.out)) ?_
  rintro _ w9_ ⟨rfl, g9_⟩
  have S := S.gr g9_
  iterate 4 refine rw_v (op_pure rfl) ?_
  first | refine rw_end ?_ | (refine rw_nil ?_; show CW _ _ _ _ _ _) | refine rw_nil ?_
  repeat refine cw_seq ?_
  refine cw_region ?_
  refine rw_v (op_pure rfl) ?_
  refine rw_v (op_b (b := true) rfl (bne_iff_ne.2 (by omega))) ?_
  first | refine rw_end ?_ | (refine rw_nil ?_; show CW _ _ _ _ _ _) | refine rw_nil ?_
  repeat refine cw_seq ?_
  refine cw_true rfl ?_
  repeat refine cw_seq ?_
  refine cw_region ?_
  refine rw_v (op_build (pl := [(0, 1), (1, 1), (2, 1)]) Try.underlying136 Try.zeroValue136 (fun w => by kernel_rfl) rfl rfl) ?_
  refine rw_v (op_pure rfl) ?_
  refine rw_storeSA (i := 3) S rfl (Try.sizeOf136 _) rfl rfl rfl rfl rfl rfl ?_
  intro w10_ S
  iterate 2 refine rw_v (op_pure rfl) ?_
  first | refine rw_end ?_ | (refine rw_nil ?_; show CW _ _ _ _ _ _) | refine rw_nil ?_
  repeat refine cw_seq ?_
  refine cw_ret ?_
  repeat first | refine ret_then ?_ | refine ret_inb ?_
  exact resATT Try.underlying136 rfl (Try.sizeOf136 _) rfl (S.blk (i := 3) rfl) rfl rfl rfl rfl ⟨rfl, S.out⟩
set_option maxHeartbeats 2000000 in
theorem sbegin_E (x y : Nat) (hx : x < gw) (hy : y < gh) (hG : GridAt W p gw gh cc A cap bs Rs) : Fn Try.prog 83 [.pointer (some ⟨p, 0, none⟩), .agg #[.int .i64 x, .int .i64 y]] W
    (RetSL gw gh (gridL gw gh cc) (fun l => .tuple #[l, .int .i64 (y * gw + x : Nat), .int .i64 0]) W) := by
  have hw := hG.sw
  have hh := hG.sh
  have em : (y : Int) * gw = ((y * gw : Nat) : Int) := by push_cast; rfl
  have ea : ((y * gw : Nat) : Int) + x = ((y * gw + x : Nat) : Int) := by push_cast; rfl
  have hyg : (y + 1) * gw ≤ gh * gw := Nat.mul_le_mul_right _ (by omega)
  have hgm : gh * gw ≤ 1024 * 1024 := Nat.mul_le_mul hh.2 hw.2
  rw [Nat.succ_mul] at hyg
  have S := St.start W
  refine Fn_enter Try.func83 rfl Try.results83 Try.ntmps83 (by kernel_rfl) (by kernel_rfl) ?_
  repeat refine cw_seq ?_
  refine cw_region ?_
  refine rw_newB (op_box rfl) S ?_
  intro b_c w2_ g2_ S
  refine rw_newB (op_alloc Try.zeroValue136 rfl) S ?_
  intro b_res w4_ g4_ S
  iterate 2 refine rw_v (op_pure rfl) ?_
  first | refine rw_end ?_ | (refine rw_nil ?_; show CW _ _ _ _ _ _) | refine rw_nil ?_
  repeat refine cw_seq ?_
  refine cw_region ?_
  refine rw_v (op_pure rfl) ?_
  refine rw_call rfl (sof_E (W := w4_) (hG.gr S.out)) ?_
  rintro _ w5_ ⟨A_v, c_v, A_to, c_to, rfl, hv, hFv, hto, hFt, hd, g5_⟩
  have S := S.push2 g5_ (h1 := .row 2 1 A_v _ c_v _) (h2 := .row 3 1 A_to _ c_to _) hv hto hFv hFt hd
  iterate 3 refine rw_v (op_pure rfl) ?_
  refine rw_newB (op_alloc Try.zeroValue136 rfl) S ?_
  intro b_l w7_ g7_ S
  refine rw_storeSA (i := 0) S rfl (Try.sizeOf136 _) rfl rfl rfl rfl rfl rfl ?_
  intro w8_ S
  refine rw_v (op_pure rfl) ?_
  first | refine rw_end ?_ | (refine rw_nil ?_; show CW _ _ _ _ _ _) | refine rw_nil ?_
  repeat refine cw_seq ?_
  refine cw_region ?_
  refine rw_v (op_pure rfl) ?_
  refine rw_v (op_b (b := true) rfl (beq_iff_eq.2 (by omega))) ?_
  first | refine rw_end ?_ | (refine rw_nil ?_; show CW _ _ _ _ _ _) | refine rw_nil ?_
  repeat refine cw_seq ?_
  refine cw_true rfl ?_
  repeat refine cw_seq ?_
  refine cw_region ?_
  refine rw_v (op_pure rfl) ?_
  refine rw_r (op_loadAB Try.underlying44 rfl (Try.sizeOf44 _) rfl (S.blk (i := 4) rfl) rfl rfl) ?_
  refine rw_call rfl (gat_E (W := w8_) x y hx hy (hG.gr S.out)) ?_
  rintro _ w9_ ⟨rfl, g9_⟩
  have S := S.gr g9_
  iterate 4 refine rw_v (op_pure rfl) ?_
  first | refine rw_end ?_ | (refine rw_nil ?_; show CW _ _ _ _ _ _) | refine rw_nil ?_
  repeat refine cw_seq ?_
  refine cw_region ?_
  refine rw_v (op_pure rfl) ?_
  refine rw_v (op_b (b := false) rfl (bne_eq_false_iff_eq.2 (by omega))) ?_
  first | refine rw_end ?_ | (refine rw_nil ?_; show CW _ _ _ _ _ _) | refine rw_nil ?_
  repeat refine cw_seq ?_
  refine cw_false rfl ?_
  repeat refine cw_seq ?_
  refine cw_skip ?_
  try show CW _ _ _ _ _ _
  repeat refine cw_seq ?_
  refine cw_cutT (M := fun e w => SL e [(4, .pointer (some ⟨b_res, 0, none⟩)), (5, .int .i64 (y * gw + x : Nat)), (6, .int .i64 0)] ∧ St No W w [.blk b_l 136 [.int .i64 gw, .slice A_v (gw * gh) c_v, .slice A_to (gw * gh) c_to], .row 2 1 A_v (gw * gh) c_v (ints (gridL gw gh cc)), .row 3 1 A_to (gw * gh) c_to (cellsN (gw * gh) (flowN gw (gridL gw gh cc))), .blk b_res 136 [.int .i64 gw, .slice A_v (gw * gh) c_v, .slice A_to (gw * gh) c_to], .blk b_c 44 [.int .i64 x, .int .i64 y]]) ?_ ?_
  · skip
    repeat refine cw_seq ?_
    refine cw_tri (C := (CSt No W [.blk b_l 136 [.int .i64 gw, .slice A_v (gw * gh) c_v, .slice A_to (gw * gh) c_to], .row 2 1 A_v (gw * gh) c_v (ints (gridL gw gh cc)), .row 3 1 A_to (gw * gh) c_to (cellsN (gw * gh) (flowN gw (gridL gw gh cc))), .blk b_res 136 [.int .i64 0, .slice none 0 0, .slice none 0 0], .blk b_c 44 [.int .i64 x, .int .i64 y]] [.blk b_l 136 [.int .i64 gw, .slice A_v (gw * gh) c_v, .slice A_to (gw * gh) c_to], .row 2 1 A_v (gw * gh) c_v (ints (gridL gw gh cc)), .row 3 1 A_to (gw * gh) c_to (cellsN (gw * gh) (flowN gw (gridL gw gh cc))), .blk b_res 136 [.int .i64 gw, .slice A_v (gw * gh) c_v, .slice A_to (gw * gh) c_to], .blk b_c 44 [.int .i64 x, .int .i64 y]])) [9] [0, 1, 2, 3, 4, 5, 6, 7, 8, 9] [10, 11] (by kernel_rfl) (by kernel_rfl) (CSt.start (S.gr (Gr.drew _))) ?_
    simp only [pickI, pickL, List.drop_succ_cons, List.drop_zero]
    refine rs_r rfl (fun τ wq hq => op_loadAB Try.underlying136 rfl (Try.sizeOf136 _) rfl (hq.blk (i := 0) rfl rfl) rfl rfl) ?_
    refine rs_v rfl (op_fieldAddr Try.underlying44 rfl Try.sizeOf2 rfl rfl) ?_
    refine rs_r rfl (fun τ wq hq => op_loadB Try.underlying2 rfl rfl (hq.blk (i := 4) rfl rfl) rfl) ?_
    refine rs_v rfl (op_fieldAddr Try.underlying136 rfl Try.sizeOf3 rfl rfl) ?_
    refine rs_r rfl (fun τ wq hq => op_loadB Try.underlying3 rfl rfl (hq.blk (i := 0) rfl rfl) rfl) ?_
    refine rs_v rfl (op_rng rfl (by omega)) ?_
    rw [em]
    refine rs_v rfl (op_fieldAddr Try.underlying44 rfl Try.sizeOf2 rfl rfl) ?_
    refine rs_r rfl (fun τ wq hq => op_loadB Try.underlying2 rfl rfl (hq.blk (i := 4) rfl rfl) rfl) ?_
    refine rs_v rfl (op_rng rfl (by omega)) ?_
    rw [ea]
    refine rs_special rfl rfl (fun wq hq => to_storeSA (i := 3) hq rfl (Try.sizeOf136 _) rfl rfl rfl rfl rfl rfl (fun w' S' => S')) ?_
    rintro v13 w13 _
    refine rs_nil ?_
    rintro wz hz
    have S : St No W wz _ := hz
    iterate 2 refine rw_v (op_pure rfl) ?_
    first | refine rw_end ?_ | (refine rw_nil ?_; show CW _ _ _ _ _ _) | refine rw_nil ?_
    exact ⟨⟨rfl, rfl, rfl, trivial⟩, S⟩
  · clear S
    rintro e w ⟨hsl, S⟩
    rw [hsl.fold]
    repeat refine cw_seq ?_
    refine cw_ret ?_
    repeat first | refine ret_then ?_ | refine ret_inb ?_
    exact resATT Try.underlying136 rfl (Try.sizeOf136 _) rfl (S.blk (i := 3) rfl) rfl rfl rfl rfl ⟨_, _, _, _, rfl, S.row (i := 1) rfl, SepL.fresh S (i := 1) rfl, S.row (i := 2) rfl, SepL.fresh S (i := 2) rfl, fun g hg => S.sep.2.2.2.1 g hg _ List.mem_cons_self, S.out⟩
end
end Go.Proofs.Ytbcgbcipigcbhaa
