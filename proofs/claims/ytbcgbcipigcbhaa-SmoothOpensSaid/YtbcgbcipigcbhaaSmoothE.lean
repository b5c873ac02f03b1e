/- Opening: no higher than the land, and the same when done again; no radius. -/
import Derived.Test.YtbcgbcipigcbhaaRef44C
namespace Go.Proofs.Ytbcgbcipigcbhaa
open Go.RowKit
set_option linter.unusedVariables false
set_option linter.unusedSimpArgs false
set_option maxRecDepth 100000

/-! ### The plain law -/
def inW (gw gh n i a b : Nat) : Prop := boxP (winW gw gh i n).x0 (winW gw gh i n).y0 (winW gw gh i n).x1 (winW gw gh i n).y1 a b
section
variable {V : List Int} {gw gh n i a b : Nat}
theorem inW.lt (hw : 0 < gw) (hi : i < gw * gh) (h : inW gw gh n i a b) : a < gw ∧ b < gh := by
  obtain ⟨h1, h2⟩ := winW_ok (n := n) hw hi
  unfold inW boxP at h
  omega
theorem inW.idx (hw : 0 < gw) (hi : i < gw * gh) (h : inW gw gh n i a b) : b * gw + a < gw * gh ∧ (b * gw + a) % gw = a ∧ (b * gw + a) / gw = b := by
  obtain ⟨ha, hb⟩ := h.lt hw hi
  have hs := cell_split (Y := b) ha
  have := Nat.mul_le_mul_right gw (show b + 1 ≤ gh by omega)
  rw [Nat.succ_mul, Nat.mul_comm gh] at this
  exact ⟨by omega, hs.1, hs.2⟩
theorem inW.symm (hw : 0 < gw) (hi : i < gw * gh) (h : inW gw gh n i a b) : inW gw gh n (b * gw + a) (i % gw) (i / gw) := by
  obtain ⟨h1, h2, h3⟩ := h.idx hw hi
  obtain ⟨ha, hb⟩ := h.lt hw hi
  have hx := Nat.mod_lt i hw
  have hy : i / gw < gh := Nat.div_lt_of_lt_mul hi
  unfold inW boxP winW at *
  dsimp only at *
  rw [h2, h3]
  generalize i % gw = X at *
  generalize i / gw = Y at *
  omega
theorem cellV_self (V : List Int) (gw i : Nat) : cellV V gw (i % gw) (i / gw) = V.getD i 0 := by
  unfold cellV
  rw [Nat.mul_comm, Nat.div_add_mod]
theorem rgW_le (hw : 0 < gw) (hi : i < gw * gh) (h : inW gw gh n i a b) : (rgW V gw gh i n).lo ≤ V.getD (b * gw + a) 0 ∧ V.getD (b * gw + a) 0 ≤ (rgW V gw gh i n).hi := (rgW_of V n hw hi).all a b h
theorem rgW_lo (V : List Int) (n : Nat) (hw : 0 < gw) (hi : i < gw * gh) : ∃ a b, inW gw gh n i a b ∧ V.getD (b * gw + a) 0 = (rgW V gw gh i n).lo := (rgW_of V n hw hi).lo
theorem rgW_hi (V : List Int) (n : Nat) (hw : 0 < gw) (hi : i < gw * gh) : ∃ a b, inW gw gh n i a b ∧ V.getD (b * gw + a) 0 = (rgW V gw gh i n).hi := (rgW_of V n hw hi).hi
theorem lowL_at (V : List Int) (n : Nat) (hi : i < gw * gh) : (lowL V gw gh n).getD i 0 = (rgW V gw gh i n).lo := gridL_at _ hi
theorem openL_at (V : List Int) (n : Nat) (hi : i < gw * gh) : (openL V gw gh n).getD i 0 = (rgW (lowL V gw gh n) gw gh i n).hi := gridL_at _ hi
theorem open_le (V : List Int) (n : Nat) (hw : 0 < gw) (hi : i < gw * gh) : (openL V gw gh n).getD i 0 ≤ V.getD i 0 := by
  obtain ⟨a, b, hab, e⟩ := rgW_hi (lowL V gw gh n) n hw hi
  obtain ⟨hj, _, _⟩ := hab.idx hw hi
  rw [openL_at V n hi, ← e, lowL_at V n hj]
  have := (rgW_le (V := V) hw hj (hab.symm hw hi)).1
  rw [Nat.mul_comm (i / gw), Nat.div_add_mod] at this
  exact this
theorem low_open (V : List Int) (n : Nat) (hw : 0 < gw) : lowL (openL V gw gh n) gw gh n = lowL V gw gh n := by
  unfold lowL
  unfold gridL
  refine List.map_congr_left fun j hj => ?_
  have hj : j < gw * gh := List.mem_range.1 hj
  obtain ⟨a, b, hab, e⟩ := rgW_lo V n hw hj
  obtain ⟨a2, b2, hab2, e2⟩ := rgW_lo (openL V gw gh n) n hw hj
  have h1 := (rgW_le (V := openL V gw gh n) hw hj hab).1
  have h2 := open_le V n hw (hab.idx hw hj).1
  have hi2 := (hab2.idx hw hj).1
  have h3 := (rgW_le (V := lowL V gw gh n) hw hi2 (hab2.symm hw hj)).2
  rw [Nat.mul_comm (j / gw), Nat.div_add_mod, lowL_at V n hj] at h3
  rw [openL_at V n hi2] at e2
  omega
theorem open_open (V : List Int) (n : Nat) (hw : 0 < gw) : openL (openL V gw gh n) gw gh n = openL V gw gh n := by
  have h := low_open (gh := gh) V n hw
  show gridL gw gh (fun i => (rgW (lowL (openL V gw gh n) gw gh n) gw gh i n).hi) = _
  rw [h]
  rfl
end
/-! ### No radius -/
section
variable {W : World} {A : Option Addr} {p gw gh cap : Nat} {cc : Nat → Int} {bs : Nat → Nat} {Rs : Nat → Option Nat}
theorem sspreadFar_E (n : Int) (hn : n < 0 ∨ 1024 < n) (hG : GridAt W p gw gh cc A cap bs Rs) : Fn Try.prog 39 [.pointer (some ⟨p, 0, none⟩), .int .i64 n] W (RetG (.tuple #[.slice none 0 0, .int .i64 9]) W) := by
  have hrg := fun w (g : Gr W w) => sranges_E (hG.gr g)
  have S := St.start W
  refine Fn_enter Try.func39 rfl Try.results39 Try.ntmps39 (by kernel_rfl) (by kernel_rfl) ?_
  repeat refine cw_seq ?_
  refine cw_region ?_
  iterate 2 refine rw_v (op_pure rfl) ?_
  first | refine rw_end ?_ | (refine rw_nil ?_; show CW _ _ _ _ _ _) | refine rw_nil ?_
  repeat refine cw_seq ?_
  refine cw_region ?_
  refine rw_v (op_pure rfl) ?_
  refine rw_call rfl (hrg W S.out) ?_
  rintro _ w1_ ⟨C, tb, Ao, co, As, cs, rfl, S2⟩
  have S := S.app S2
  refine rw_newB (op_alloc Try.zeroValue147 rfl) S ?_
  intro b_fp w3_ g3_ S
  refine rw_storeS (i := 0) S rfl (Try.sizeOf147 _) rfl rfl rfl rfl rfl rfl ?_
  intro w4_ S
  first | refine rw_end ?_ | (refine rw_nil ?_; show CW _ _ _ _ _ _) | refine rw_nil ?_
  repeat refine cw_seq ?_
  refine cw_region ?_
  iterate 3 refine rw_v (op_pure rfl) ?_
  refine rw_call rfl (eachFar_E (W := w4_) (fid := 88) (caps := [.pointer (some ⟨b_fp, 0, none⟩)]) n hn (hG.gr S.out)) ?_
  rintro _ w5_ ⟨rfl, g5_⟩
  have S := S.gr g5_
  iterate 4 refine rw_v (op_pure rfl) ?_
  first | refine rw_end ?_ | (refine rw_nil ?_; show CW _ _ _ _ _ _) | refine rw_nil ?_
  repeat refine cw_seq ?_
  refine cw_ret ?_
  repeat first | refine ret_then ?_ | refine ret_inb ?_
  exact res2 rfl rfl ⟨rfl, S.out⟩
theorem sopenFar_E (n : Int) (hn : n < 0 ∨ 1024 < n) (hG : GridAt W p gw gh cc A cap bs Rs) : Fn Try.prog 40 [.pointer (some ⟨p, 0, none⟩), .int .i64 n] W (RetG (.tuple #[.pointer none, .int .i64 9]) W) := by
  have hrg := fun w (g : Gr W w) => sranges_E (hG.gr g)
  have S := St.start W
  refine Fn_enter Try.func40 rfl Try.results40 Try.ntmps40 (by kernel_rfl) (by kernel_rfl) ?_
  repeat refine cw_seq ?_
  refine cw_region ?_
  iterate 2 refine rw_v (op_pure rfl) ?_
  first | refine rw_end ?_ | (refine rw_nil ?_; show CW _ _ _ _ _ _) | refine rw_nil ?_
  repeat refine cw_seq ?_
  refine cw_region ?_
  refine rw_v (op_pure rfl) ?_
  refine rw_call rfl (hrg W S.out) ?_
  rintro _ w1_ ⟨C, tb, Ao, co, As, cs, rfl, S2⟩
  have S := S.app S2
  refine rw_newB (op_alloc Try.zeroValue147 rfl) S ?_
  intro b_fp w3_ g3_ S
  refine rw_storeS (i := 0) S rfl (Try.sizeOf147 _) rfl rfl rfl rfl rfl rfl ?_
  intro w4_ S
  first | refine rw_end ?_ | (refine rw_nil ?_; show CW _ _ _ _ _ _) | refine rw_nil ?_
  repeat refine cw_seq ?_
  refine cw_region ?_
  iterate 3 refine rw_v (op_pure rfl) ?_
  refine rw_call rfl (smadeFar_E (W := w4_) (fid := 90) (caps := [.pointer (some ⟨b_fp, 0, none⟩)]) n hn (hG.gr S.out)) ?_
  rintro _ w5_ ⟨rfl, g5_⟩
  have S := S.gr g5_
  iterate 5 refine rw_v (op_pure rfl) ?_
  first | refine rw_end ?_ | (refine rw_nil ?_; show CW _ _ _ _ _ _) | refine rw_nil ?_
  repeat refine cw_seq ?_
  refine cw_region ?_
  refine rw_v (op_pure rfl) ?_
  refine rw_v (op_b (b := true) rfl (bne_iff_ne.2 (by omega))) ?_
  first | refine rw_end ?_ | (refine rw_nil ?_; show CW _ _ _ _ _ _) | refine rw_nil ?_
  repeat refine cw_seq ?_
  refine cw_true rfl ?_
  repeat refine cw_seq ?_
  refine cw_region ?_
  iterate 3 refine rw_v (op_pure rfl) ?_
  first | refine rw_end ?_ | (refine rw_nil ?_; show CW _ _ _ _ _ _) | refine rw_nil ?_
  repeat refine cw_seq ?_
  refine cw_ret ?_
  repeat first | refine ret_then ?_ | refine ret_inb ?_
  exact res2 rfl rfl ⟨rfl, S.out⟩
end
end Go.Proofs.Ytbcgbcipigcbhaa
