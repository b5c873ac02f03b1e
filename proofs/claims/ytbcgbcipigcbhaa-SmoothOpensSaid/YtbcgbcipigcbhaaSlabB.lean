/- Slabs that are written: contracts of package slab's other functions. -/
import Derived.Test.YtbcgbcipigcbhaaGen
import Derived.Test.YtbcgbcipigcbhaaSep
namespace Go.Proofs.Ytbcgbcipigcbhaa
open Go.RowKit
set_option linter.unusedVariables false
set_option linter.unusedSimpArgs false
set_option maxRecDepth 100000
theorem info_t21 : (Try.prog.info? 21).map (fun i => (i.zero, i.size, i.bytes)) = some (some (.int .i32 0), 1, 4) := by kernel_rfl
theorem info_t2 : (Try.prog.info? 2).map (fun i => (i.zero, i.size, i.bytes)) = some (some (.int .i64 0), 1, 8) := by kernel_rfl
theorem info_t3 : (Try.prog.info? 3).map (fun i => (i.zero, i.size, i.bytes)) = some (some (.int .i64 0), 1, 8) := by kernel_rfl
theorem info_t4 : (Try.prog.info? 4).map (fun i => (i.zero, i.size, i.bytes)) = some (some (.bool false), 1, 1) := by kernel_rfl
theorem info_t44 : (Try.prog.info? 44).map (fun i => (i.zero, i.size, i.bytes)) = some (some (.agg #[.int .i64 0, .int .i64 0]), 2, 16) := by kernel_rfl
theorem info_t75 : (Try.prog.info? 75).map (fun i => (i.zero, i.size, i.bytes)) = some (some (.agg #[.int .i64 0, .int .i64 0, .int .i64 0, .int .i64 0]), 4, 32) := by kernel_rfl
theorem info_t78 : (Try.prog.info? 78).map (fun i => (i.zero, i.size, i.bytes)) = some (some (.agg #[.int .i64 0, .int .i64 0]), 2, 16) := by kernel_rfl
theorem info_t108 : (Try.prog.info? 108).map (fun i => (i.zero, i.size, i.bytes)) = some (some (.agg #[.int .i64 0, .int .i64 0, .int .i64 0, .int .i64 0, .int .i64 0, .int .i64 0, .int .i64 0, .int .i64 0]), 8, 64) := by kernel_rfl
theorem info_t114 : (Try.prog.info? 114).map (fun i => (i.zero, i.size, i.bytes)) = some (some (.pointer none), 1, 8) := by kernel_rfl
theorem info_t187 : (Try.prog.info? 187).map (fun i => (i.zero, i.size, i.bytes)) = some (some (.agg #[.int .i64 0, .int .i64 0]), 2, 16) := by kernel_rfl
theorem info_t88 : (Try.prog.info? 88).map (fun i => (i.zero, i.size, i.bytes)) = some (some (.agg #[.int .i64 0, .int .i64 0, .int .i64 0, .int .i64 0, .int .i64 0]), 5, 40) := by kernel_rfl
theorem info_t216 : (Try.prog.info? 216).map (fun i => (i.zero, i.size, i.bytes)) = some (some (.pointer none), 1, 8) := by kernel_rfl
theorem info_t242 : (Try.prog.info? 242).map (fun i => (i.zero, i.size, i.bytes)) = some (some (.agg #[.int .i64 0, .slice none 0 0]), 2, 32) := by kernel_rfl

/-- a new row -/
def SpRow (w wq : World) (el k n : Nat) (xs : List Value) (v : Value) : Prop := ∃ A, v = .slice A n n ∧ Row wq el k A n n xs ∧ FreshA w A
theorem SpRow.gr {w wq w' : World} {el k n : Nat} {xs : List Value} {v : Value} (h : SpRow w wq el k n xs v) (g : Gr wq w') : SpRow w w' el k n xs v := by
  obtain ⟨A, h1, h2, h3⟩ := h
  exact ⟨A, h1, h2.gr g, h3⟩
theorem to_buildS {P : Program} {e : Nat → Value} {w0 w : World} {d : Option Tmp} {ty : TypeId} {ps : String} {af : Array Edge} {t el : TypeId} {n k : Nat} {parts : List (Nat × Operand)} {z : Value} {l0 l : List Value} {R : Value → World → Prop}
    (hu : P.underlying t = some (.slice el)) (hs : ∀ w, (sizeOf el).run P w = .ok k w) (hz : ∀ w, (zeroValue el).run P w = .ok z w) (hk : z.cells.toList.length = k) (hk0 : Nat.beq (n * k) 0 = false) (hn : Nat.ble (n * k) 16777216 = true)
    (h1 : lay (fun i => some (i * k, k)) ((List.replicate n z.cells.toList).flatten) (evp e parts) = some l0) (h2 : fzl l0 = some l) (hl : Nat.beq l.length (n * k) = true) (g0 : Gr w0 w)
    (hr : ∀ v w', Gr w w' → SpRow w0 w' el k n l v → R v w') : opTo P e ⟨d, .buildSlice t n parts.toArray, ty, ps, af, none⟩ w R := by
  refine to_w (op_buildSlice hu hs hz hk hk0 hn h1 h2) (hr _ _ (Gr.alloc _ _) ?_)
  have hnk : n * k ≠ 0 := by intro h; rw [h] at hk0; cases hk0
  have hk1 : 0 < k := by rcases Nat.eq_zero_or_pos k with h | h; · rw [h] at hnk; simp at hnk
                         · exact h
  have hle : n ≤ n * k := Nat.le_mul_of_pos_right _ hk1
  exact ⟨_, rfl, Row.of_blk (Blk.new _ _ _) (Nat.eq_of_beq_eq_true hl) (by have := Nat.le_of_ble_eq_true hn; unfold maxLen; omega), fun g hg => by injection hg with hg; have := g0.le; dsimp at hg; omega⟩

/-- cells that stand one by one are told -/
theorem srough_E (b : Nat) (v0 v1 : Value) (A : Option Addr) (n c : Nat) (W : World) (hB : Blk W b 196 [v0, v1, .iface 268 (.slice A n c)]) :
    Fn Try.prog 192 [.pointer (some ⟨b, 0, none⟩)] W (RetG (.slice A n c) W) := by
  have S := St.start W
  refine Fn_enter Try.func192 rfl Try.results192 Try.ntmps192 (by kernel_rfl) (by kernel_rfl) ?_
  repeat refine cw_seq ?_
  refine cw_region ?_
  refine rw_v (op_pure rfl) ?_
  first | refine rw_end ?_ | (refine rw_nil ?_; show CW _ _ _ _ _ _) | refine rw_nil ?_
  repeat refine cw_seq ?_
  refine cw_region ?_
  iterate 2 refine rw_v (op_pure rfl) ?_
  refine rw_v (op_fieldAddr Try.underlying196 rfl Try.sizeOf194 rfl rfl) ?_
  refine rw_r (op_loadB Try.underlying194 rfl rfl (hB.gr S.out) rfl) ?_
  refine rw_v (op_assert Try.underlying268 rfl rfl) ?_
  iterate 5 refine rw_v (op_pure rfl) ?_
  first | refine rw_end ?_ | (refine rw_nil ?_; show CW _ _ _ _ _ _) | refine rw_nil ?_
  repeat refine cw_seq ?_
  refine cw_region ?_
  refine rw_v (op_pure rfl) ?_
  first | refine rw_end ?_ | (refine rw_nil ?_; show CW _ _ _ _ _ _) | refine rw_nil ?_
  repeat refine cw_seq ?_
  refine cw_true rfl ?_
  repeat refine cw_seq ?_
  refine cw_region ?_
  iterate 2 refine rw_v (op_pure rfl) ?_
  first | refine rw_end ?_ | (refine rw_nil ?_; show CW _ _ _ _ _ _) | refine rw_nil ?_
  repeat refine cw_seq ?_
  refine cw_ret ?_
  repeat first | refine ret_then ?_ | refine ret_inb ?_
  exact res1 rfl ⟨rfl, S.out⟩
/-- one value for all becomes one for each -/
theorem sroughNew_E (b sw sh : Nat) (x : Int) (hx : -2147483648 ≤ x ∧ x ≤ 2147483647) (hw : 1 ≤ sw ∧ sw ≤ 16) (hh : 1 ≤ sh ∧ sh ≤ 16) (W : World) (hB : Blk W b 196 [.int .i64 sw, .int .i64 sh, .iface 227 (.int .i32 x)]) :
    Fn Try.prog 192 [.pointer (some ⟨b, 0, none⟩)] W (fun r w' => ∃ g, r = .slice (some ⟨g, 0, none⟩) (sw * sh) (sw * sh) ∧ W.heap.size ≤ g ∧
      Blk w' b 196 [.int .i64 sw, .int .i64 sh, .iface 268 (.slice (some ⟨g, 0, none⟩) (sw * sh) (sw * sh))] ∧ Blk w' g 21 (List.replicate (sw * sh) (.int .i32 x)) ∧ Fr (fun g => g = b) W w') := by
  have S := St.start1 W (.blk b 196 [.int .i64 sw, .int .i64 sh, .iface 227 (.int .i32 x)]) hB
  have hm : 1 ≤ sw * sh ∧ sw * sh ≤ 16 * 16 := ⟨Nat.mul_le_mul hw.1 hh.1, Nat.mul_le_mul hw.2 hh.2⟩
  have hmi : (sw : Int) * sh = ((sw * sh : Nat) : Int) := by push_cast; rfl
  refine Fn_enter Try.func192 rfl Try.results192 Try.ntmps192 (by kernel_rfl) (by kernel_rfl) ?_
  repeat refine cw_seq ?_
  refine cw_region ?_
  refine rw_v (op_pure rfl) ?_
  first | refine rw_end ?_ | (refine rw_nil ?_; show CW _ _ _ _ _ _) | refine rw_nil ?_
  repeat refine cw_seq ?_
  refine cw_region ?_
  iterate 2 refine rw_v (op_pure rfl) ?_
  refine rw_v (op_fieldAddr Try.underlying196 rfl Try.sizeOf194 rfl rfl) ?_
  refine rw_r (op_loadB Try.underlying194 rfl rfl (S.blk (i := 0) rfl) rfl) ?_
  refine rw_v (op_assertN Try.underlying268 rfl rfl rfl Try.zeroValue268) ?_
  iterate 5 refine rw_v (op_pure rfl) ?_
  first | refine rw_end ?_ | (refine rw_nil ?_; show CW _ _ _ _ _ _) | refine rw_nil ?_
  repeat refine cw_seq ?_
  refine cw_region ?_
  refine rw_v (op_pure rfl) ?_
  first | refine rw_end ?_ | (refine rw_nil ?_; show CW _ _ _ _ _ _) | refine rw_nil ?_
  repeat refine cw_seq ?_
  refine cw_false rfl ?_
  repeat refine cw_seq ?_
  refine cw_skip ?_
  try show CW _ _ _ _ _ _
  have hB := S.blk (i := 0) rfl
  repeat refine cw_seq ?_
  refine cw_tri (C := (fun σ wq => Gr W wq ∧ (match σ with | [] => True | v :: _ => SpRow W wq 21 1 1 [.int .i32 x] v))) [5] [0, 1, 2, 3, 4, 6, 7, 8, 9, 10, 11, 12, 13, 14, 5] [15, 16] (by kernel_rfl) (by kernel_rfl) ⟨Gr.drew _, trivial⟩ ?_
  simp only [pickI, pickL, List.drop_succ_cons, List.drop_zero]
  refine rs_v rfl (op_pure rfl) ?_
  refine rs_v rfl (op_pure rfl) ?_
  refine rs_v rfl (op_fieldAddr Try.underlying196 rfl Try.sizeOf194 rfl rfl) ?_
  refine rs_r rfl (fun τ wq hq => op_loadB Try.underlying194 rfl rfl ((S.gr hq.1).blk (i := 0) rfl) rfl) ?_
  refine rs_v rfl (op_assert1 Try.underlying227 rfl rfl rfl) ?_
  refine rs_v rfl (op_pure rfl) ?_
  refine rs_v rfl (op_pure rfl) ?_
  refine rs_v rfl (op_fieldAddr Try.underlying196 rfl Try.sizeOf2 rfl rfl) ?_
  refine rs_r rfl (fun τ wq hq => op_loadB Try.underlying2 rfl rfl ((S.gr hq.1).blk (i := 0) rfl) rfl) ?_
  refine rs_v rfl (op_pure rfl) ?_
  refine rs_v rfl (op_pure rfl) ?_
  refine rs_v rfl (op_fieldAddr Try.underlying196 rfl Try.sizeOf2 rfl rfl) ?_
  refine rs_r rfl (fun τ wq hq => op_loadB Try.underlying2 rfl rfl ((S.gr hq.1).blk (i := 0) rfl) rfl) ?_
  refine rs_v rfl (op_rng rfl (by omega)) ?_
  refine rs_special rfl rfl (fun wq hq => to_buildS Try.underlying268 Try.sizeOf21 Try.zeroValue21 rfl rfl rfl rfl rfl rfl hq.1 (fun v w' g h => ⟨hq.1.trans g, h⟩)) ?_
  rintro v5 w5 ⟨_, A5, rfl, _, _⟩
  refine rs_nil ?_
  rintro w1_ ⟨g1_, hsp⟩
  have S := S.gr g1_
  have hle := S.le
  obtain ⟨A6, he6, hR6, hF6⟩ := hsp
  injection he6 with h61
  subst h61
  obtain ⟨g5, rfl, hB5⟩ := hR6.one
  refine rw_call rfl (repeat_E g5 (.int .i32 x) (sw * sh) (by omega) rfl _ hB5) ?_
  rintro _ w2_ ⟨g6, rfl, hge, hB6, g6'⟩
  have S := S.push g6' (h := .blk g6 21 _) hB6 (fun g hg => by rw [hg]; exact hge)
  refine rw_v (op_pure rfl) ?_
  first | refine rw_end ?_ | (refine rw_nil ?_; show CW _ _ _ _ _ _) | refine rw_nil ?_
  repeat refine cw_seq ?_
  refine cw_region ?_
  iterate 2 refine rw_v (op_pure rfl) ?_
  refine rw_v (op_iface Try.underlying268 rfl rfl) ?_
  refine rw_v (op_pure rfl) ?_
  refine rw_v (op_fieldAddr Try.underlying196 rfl Try.sizeOf194 rfl rfl) ?_
  refine rw_storeS (i := 1) S rfl (Try.sizeOf194 _) rfl rfl rfl rfl rfl rfl ?_
  intro w3_ S
  first | refine rw_end ?_ | (refine rw_nil ?_; show CW _ _ _ _ _ _) | refine rw_nil ?_
  repeat refine cw_seq ?_
  refine cw_region ?_
  iterate 2 refine rw_v (op_pure rfl) ?_
  first | refine rw_end ?_ | (refine rw_nil ?_; show CW _ _ _ _ _ _) | refine rw_nil ?_
  repeat refine cw_seq ?_
  refine cw_ret ?_
  repeat first | refine ret_then ?_ | refine ret_inb ?_
  exact res1 rfl ⟨g6, rfl, by omega, S.blk (i := 1) rfl, S.blk (i := 0) rfl, S.fr⟩

theorem indexFunc32_E (A : Option Addr) (n c fid : Nat) (caps : List Value) (xs : List Int) (hn : n = xs.length) (hn1 : n ≤ 9223372036854775807) (p : Int → Bool) (W : World) (hA : Rd W A (xs.map (.int .i32)))
    (hf : ∀ x ∈ xs, ∀ w', Gr W w' → Fn Try.prog fid ([] ++ [.int .i32 x] ++ caps) w' (RetG (.bool (p x)) w')) :
    Fn Try.prog 204 [.slice A n c, .func (.func fid) (([] : List Value).toArray) caps.toArray] W (fun v w' => ∃ r : Int, v = .int .i64 r ∧ Gr W w' ∧ (0 ≤ r ↔ xs.any p = true)) := by
  subst hn
  have S := St.start W
  refine Fn_enter Try.func204 rfl Try.results204 Try.ntmps204 (by kernel_rfl) (by kernel_rfl) ?_
  repeat refine cw_seq ?_
  refine cw_region ?_
  refine rw_v (op_pure rfl) ?_
  first | refine rw_end ?_ | (refine rw_nil ?_; show CW _ _ _ _ _ _) | refine rw_nil ?_
  repeat refine cw_seq ?_
  refine cw_region ?_
  refine rw_v (op_pure rfl) ?_
  refine rw_v (op_len Try.underlying268 rfl) ?_
  refine rw_v (op_pure rfl) ?_
  first | refine rw_end ?_ | (refine rw_nil ?_; show CW _ _ _ _ _ _) | refine rw_nil ?_
  repeat refine cw_seq ?_
  refine cw_block ?_
  repeat refine cw_seq ?_
  refine cw_loop (fun m e w => ∃ k : Nat, k + m = xs.length ∧ SL e [(0, .slice A xs.length c), (1, .func (.func fid) (([] : List Value).toArray) caps.toArray), (7, .int .i64 xs.length), (8, .int .i64 k)] ∧ (∀ i x, i < k → xs[i]? = some x → p x = false) ∧ St No W w []) xs.length
    ⟨0, by omega, ⟨rfl, rfl, rfl, rfl, trivial⟩, fun i x hi => by omega, S⟩ ?_
  rintro m e w ⟨k, hkm, hsl, hI, S⟩
  rw [hsl.fold]
  repeat refine cw_seq ?_
  refine cw_region ?_
  refine rw_v (op_pure rfl) ?_
  first | refine rw_end ?_ | (refine rw_nil ?_; show CW _ _ _ _ _ _) | refine rw_nil ?_
  repeat refine cw_seq ?_
  refine cw_cond rfl (fun hc => ?_) (fun hc => ?_)
  · try simp only [decide_eq_true_eq, decide_eq_false_iff_not, beq_iff_eq, bne_iff_ne, beq_eq_false_iff_ne, bne_eq_false_iff_eq, Bool.not_eq_true', Bool.not_eq_false', ne_eq, Decidable.not_not, Int.natCast_inj, Int.ofNat_lt, Int.ofNat_le, gt_iff_lt, ge_iff_le, Int.not_lt, Int.not_le] at hc
    obtain ⟨x, hx⟩ : ∃ x, xs[k]? = some x := ⟨xs[k], List.getElem?_eq_getElem (by omega)⟩
    have sa_A : SomeA A := hA.someA (by simp; omega)
    have hx' : (xs.map (Value.int .i32))[(k : Int).toNat * 1]? = some (.int .i32 x) := by simp [hx]
    repeat refine cw_seq ?_
    refine cw_skip ?_
    try show CW _ _ _ _ _ _
    repeat refine cw_seq ?_
    refine cw_block ?_
    repeat refine cw_seq ?_
    refine cw_region ?_
    iterate 2 refine rw_v (op_pure rfl) ?_
    first | refine rw_end ?_ | (refine rw_nil ?_; show CW _ _ _ _ _ _) | refine rw_nil ?_
    repeat refine cw_seq ?_
    refine cw_region ?_
    iterate 3 refine rw_v (op_pure rfl) ?_
    refine rw_v (op_idx Try.underlying268 Try.sizeOf21 rfl rfl sa_A (by omega) (by omega)) ?_
    refine rw_r (op_ldR Try.underlying21 rfl rfl (hA.gr S.out) (by assumption)) ?_
    refine rw_callv rfl rfl (hf x (List.mem_of_getElem? hx) _ S.out) ?_
    rintro _ w1_ ⟨rfl, g1_⟩
    have S := S.gr g1_
    first | refine rw_end ?_ | (refine rw_nil ?_; show CW _ _ _ _ _ _) | refine rw_nil ?_
    repeat refine cw_seq ?_
    refine cw_cond rfl (fun hp => ?_) (fun hp => ?_)
    · try simp only [decide_eq_true_eq, decide_eq_false_iff_not, beq_iff_eq, bne_iff_ne, beq_eq_false_iff_ne, bne_eq_false_iff_eq, Bool.not_eq_true', Bool.not_eq_false', ne_eq, Decidable.not_not, Int.natCast_inj, Int.ofNat_lt, Int.ofNat_le, gt_iff_lt, ge_iff_le, Int.not_lt, Int.not_le] at hp
      repeat refine cw_seq ?_
      refine cw_region ?_
      iterate 2 refine rw_v (op_pure rfl) ?_
      first | refine rw_end ?_ | (refine rw_nil ?_; show CW _ _ _ _ _ _) | refine rw_nil ?_
      repeat refine cw_seq ?_
      refine cw_ret ?_
      repeat first | refine ret_then ?_ | refine ret_inb ?_
      exact res1 rfl ⟨_, rfl, S.out, by simp; exact ⟨x, List.mem_of_getElem? hx, hp⟩⟩
    · try simp only [decide_eq_true_eq, decide_eq_false_iff_not, beq_iff_eq, bne_iff_ne, beq_eq_false_iff_ne, bne_eq_false_iff_eq, Bool.not_eq_true', Bool.not_eq_false', ne_eq, Decidable.not_not, Int.natCast_inj, Int.ofNat_lt, Int.ofNat_le, gt_iff_lt, ge_iff_le, Int.not_lt, Int.not_le] at hp
      repeat refine cw_seq ?_
      refine cw_skip ?_
      try show CW _ _ _ _ _ _
      repeat refine cw_seq ?_
      refine cw_region ?_
      refine rw_v (op_rng rfl (by omega)) ?_
      refine rw_v (op_pure rfl) ?_
      first | refine rw_end ?_ | (refine rw_nil ?_; show CW _ _ _ _ _ _) | refine rw_nil ?_
      exact ⟨m - 1, by omega, k + 1, by omega, ⟨rfl, rfl, rfl, ie (by omega), trivial⟩, fun i y hi hy => by
        by_cases hik : i = k
        · subst hik; rw [hx] at hy; cases hy; exact hp
        · exact hI i y (by omega) hy, S⟩
  · try simp only [decide_eq_true_eq, decide_eq_false_iff_not, beq_iff_eq, bne_iff_ne, beq_eq_false_iff_ne, bne_eq_false_iff_eq, Bool.not_eq_true', Bool.not_eq_false', ne_eq, Decidable.not_not, Int.natCast_inj, Int.ofNat_lt, Int.ofNat_le, gt_iff_lt, ge_iff_le, Int.not_lt, Int.not_le] at hc
    repeat refine cw_seq ?_
    refine cw_exit ?_
    repeat first | refine exit_then ?_ | refine exit_inb ?_
    show CW _ _ _ _ _ _
    repeat refine cw_seq ?_
    refine cw_region ?_
    refine rw_v (op_pure rfl) ?_
    first | refine rw_end ?_ | (refine rw_nil ?_; show CW _ _ _ _ _ _) | refine rw_nil ?_
    repeat refine cw_seq ?_
    refine cw_ret ?_
    repeat first | refine ret_then ?_ | refine ret_inb ?_
    refine res1 rfl ⟨_, rfl, S.out, ?_⟩
    simp only [List.any_eq_true]
    refine ⟨fun h => by omega, fun ⟨x, hx, hp⟩ => ?_⟩
    obtain ⟨i, hi, rfl⟩ := List.mem_iff_getElem.1 hx
    rw [hI i _ (by omega) (List.getElem?_eq_getElem hi)] at hp
    cases hp

theorem containsFunc32_E (A : Option Addr) (n c fid : Nat) (caps : List Value) (xs : List Int) (hn : n = xs.length) (hn1 : n ≤ 9223372036854775807) (p : Int → Bool) (W : World) (hA : Rd W A (xs.map (.int .i32)))
    (hf : ∀ x ∈ xs, ∀ w', Gr W w' → Fn Try.prog fid ([] ++ [.int .i32 x] ++ caps) w' (RetG (.bool (p x)) w')) :
    Fn Try.prog 193 [.slice A n c, .func (.func fid) (([] : List Value).toArray) caps.toArray] W (RetG (.bool (xs.any p)) W) := by
  have S := St.start W
  refine Fn_enter Try.func193 rfl Try.results193 Try.ntmps193 (by kernel_rfl) (by kernel_rfl) ?_
  repeat refine cw_seq ?_
  refine cw_region ?_
  refine rw_v (op_pure rfl) ?_
  first | refine rw_end ?_ | (refine rw_nil ?_; show CW _ _ _ _ _ _) | refine rw_nil ?_
  repeat refine cw_seq ?_
  refine cw_region ?_
  iterate 2 refine rw_v (op_pure rfl) ?_
  refine rw_call rfl (indexFunc32_E A n c fid caps xs hn hn1 p _ (hA.gr S.out) (by intro x hx w' g; exact hf x hx w' (S.out.trans g))) ?_
  rintro _ w1_ ⟨r, rfl, g1_, hr⟩
  have S := S.gr g1_
  iterate 2 refine rw_v (op_pure rfl) ?_
  first | refine rw_end ?_ | (refine rw_nil ?_; show CW _ _ _ _ _ _) | refine rw_nil ?_
  repeat refine cw_seq ?_
  refine cw_ret ?_
  repeat first | refine ret_then ?_ | refine ret_inb ?_
  exact res1 rfl ⟨be (by rw [Bool.eq_iff_iff, ← hr]; simp), S.out⟩

theorem fillC_E (C : Nat) (A : Option Addr) (n c : Nat) (x x0 : Int) (xs : List Value) (hn : 0 < n) (W : World) (hC : Blk W C 268 [.slice A n c]) (hA : Rd W A (.int .i32 x0 :: xs)) :
    Fn Try.prog 194 ([] ++ [.int .i32 x] ++ [.pointer (some ⟨C, 0, none⟩)]) W (RetG (.bool (x != x0)) W) := by
  have sa_A : SomeA A := hA.someA (by simp)
  have S := St.start W
  refine Fn_enter Try.func194 rfl Try.results194 Try.ntmps194 (by kernel_rfl) (by kernel_rfl) ?_
  repeat refine cw_seq ?_
  refine cw_region ?_
  refine rw_v (op_pure rfl) ?_
  first | refine rw_end ?_ | (refine rw_nil ?_; show CW _ _ _ _ _ _) | refine rw_nil ?_
  repeat refine cw_seq ?_
  refine cw_region ?_
  refine rw_v (op_pure rfl) ?_
  refine rw_r (op_loadB Try.underlying268 rfl rfl (hC.gr S.out) rfl) ?_
  refine rw_v (op_idx Try.underlying268 Try.sizeOf21 rfl rfl sa_A (by omega) (by omega)) ?_
  refine rw_r (op_ldR Try.underlying21 rfl rfl (hA.gr S.out) rfl) ?_
  iterate 2 refine rw_v (op_pure rfl) ?_
  first | refine rw_end ?_ | (refine rw_nil ?_; show CW _ _ _ _ _ _) | refine rw_nil ?_
  repeat refine cw_seq ?_
  refine cw_ret ?_
  repeat first | refine ret_then ?_ | refine ret_inb ?_
  exact res1 rfl ⟨rfl, S.out⟩

/-! ### Fill -/
/-- a rectangle's cells, of a value -/
def inR (sw : Nat) (x0 y0 x1 y1 : Int) (i : Nat) : Prop := x0 ≤ (i % sw : Nat) ∧ ((i % sw : Nat) : Int) ≤ x1 ∧ y0 ≤ (i / sw : Nat) ∧ ((i / sw : Nat) : Int) ≤ y1
instance (sw : Nat) (x0 y0 x1 y1 : Int) (i : Nat) : Decidable (inR sw x0 y0 x1 y1 i) := by unfold inR; infer_instance
def fillC (sw : Nat) (x0 y0 x1 y1 v : Int) (c : Nat → Int) : Nat → Int := fun i => if inR sw x0 y0 x1 y1 i then v else c i
/-- what a slab is behind a fill -/
def SlabP (W : World) (b : Nat) (R : Option Nat) (sw sh : Nat) (c : Nat → Int) (w' : World) : Prop := ∃ R', SlabIs w' b R' sw sh c ∧ Fr (fun g => g = b ∨ R = some g) W w' ∧ ∀ g, R' = some g → R = some g ∨ W.heap.size ≤ g
theorem SlabIs.mayC {w : World} {b : Nat} {R : Option Nat} {sw sh : Nat} {c : Nat → Int} (h : SlabIs w b R sw sh c) {x0 y0 x1 y1 v : Int} (hv : -2147483648 ≤ v ∧ v ≤ 2147483647) : ∀ i, i < sw * sh → -2147483648 ≤ fillC sw x0 y0 x1 y1 v c i ∧ fillC sw x0 y0 x1 y1 v c i ≤ 2147483647 := fun i hi => by
  unfold fillC
  split
  · exact hv
  · exact h.1 i hi
theorem within_fine {x0 y0 x1 y1 w h : Int} (hw : 1 ≤ w ∧ w ≤ 1024) (hh : 1 ≤ h ∧ h ≤ 1024) (hx : 0 ≤ x0 ∧ x0 ≤ x1 ∧ x1 < w) (hy : 0 ≤ y0 ∧ y0 ≤ y1 ∧ y1 < h) : within x0 y0 x1 y1 w h = 0 := by
  have e1 : insideB (w - 1) 1024 = true := by simp [insideB]; omega
  have e2 : insideB (h - 1) 1024 = true := by simp [insideB]; omega
  have e3 : insideB x0 w = true := by simp [insideB]; omega
  have e4 : insideB y0 h = true := by simp [insideB]; omega
  have e5 : insideB x1 w = true := by simp [insideB]; omega
  have e6 : insideB y1 h = true := by simp [insideB]; omega
  have e7 : ¬ (x1 < x0 ∨ y1 < y0) := by omega
  simp [within, e1, e2, e3, e4, e5, e6]
  omega
theorem whole_in {sw sh : Nat} {x0 y0 x1 y1 : Int} (hx : 0 ≤ x0 ∧ x0 ≤ x1 ∧ x1 < sw) (hy : 0 ≤ y0 ∧ y0 ≤ y1 ∧ y1 < sh) (h : (x1 - x0 + 1) * (y1 - y0 + 1) = sw * sh) : x0 = 0 ∧ y0 = 0 ∧ x1 = sw - 1 ∧ y1 = sh - 1 := by
  have h1 : (x1 - x0 + 1) * (y1 - y0 + 1) ≤ (x1 - x0 + 1) * sh := Int.mul_le_mul_of_nonneg_left (by omega) (by omega)
  have h2 : (x1 - x0 + 1) * sh ≤ sw * sh := Int.mul_le_mul_of_nonneg_right (by omega) (by omega)
  have e2 : (x1 - x0 + 1) * sh = sw * sh := by omega
  have e1 : (x1 - x0 + 1) * (y1 - y0 + 1) = (x1 - x0 + 1) * sh := by omega
  have e3 : x1 - x0 + 1 = sw := Int.eq_of_mul_eq_mul_right (by omega) e2
  have e4 : y1 - y0 + 1 = sh := Int.eq_of_mul_eq_mul_left (by omega) e1
  clear h1 h2 e1 e2 h
  omega
theorem in_whole {sw sh : Nat} {i : Nat} (hw : 1 ≤ sw) (hi : i < sw * sh) {x1 y1 : Int} (hx : x1 = sw - 1) (hy : y1 = sh - 1) : inR sw 0 0 x1 y1 i := by
  have h1 : i % sw < sw := Nat.mod_lt _ (by omega)
  have h2 : i / sw < sh := Nat.div_lt_of_lt_mul hi
  unfold inR
  generalize i % sw = p at *
  generalize i / sw = q at *
  omega
theorem blk_ne_row {w : World} {b t el k n c : Nat} {l : List Value} {A : Option Addr} {xs : List Value} (hB : Blk w b t l) (hR : Row w el k A n c xs) (hne : t ≠ el) : ¬ ownA A b := by
  intro ho
  rcases hR.form with ⟨rfl, _⟩ | ⟨g, l', rfl, hB', _⟩
  · cases ho
  · have : g = b := by injection ho
    subst this
    exact hne (hB.inj hB').1

set_option maxHeartbeats 1000000 in
/-- all of one value, behind it -/
theorem sfillFlat_E (b sw sh : Nat) (R : Option Nat) (c : Nat → Int) (x0 y0 x1 y1 v : Int) (hw : 1 ≤ sw ∧ sw ≤ 16) (hh : 1 ≤ sh ∧ sh ≤ 16) (hx : 0 ≤ x0 ∧ x0 ≤ x1 ∧ x1 < sw) (hy : 0 ≤ y0 ∧ y0 ≤ y1 ∧ y1 < sh) (hv : -2147483648 ≤ v ∧ v ≤ 2147483647) (cl : Value) (hcl : cl = .iface 227 (.int .i32 v) ∨
    ((∃ u, cl = .iface 227 (.int .i32 u) ∧ u ≠ v) ∨ (∃ A n c, cl = .iface 268 (.slice A n c))) ∧ (x1 - x0 + 1) * (y1 - y0 + 1) = sw * sh) (W : World) (hB : Blk W b 196 [.int .i64 sw, .int .i64 sh, cl]) :
    Fn Try.prog 165 [.pointer (some ⟨b, 0, none⟩), .agg #[.int .i64 x0, .int .i64 y0, .int .i64 x1, .int .i64 y1], .int .i64 v] W
      (fun r w' => r = .int .i64 0 ∧ Blk w' b 196 [.int .i64 sw, .int .i64 sh, .iface 227 (.int .i32 v)] ∧ Fr (fun g => g = b) W w') := by
  have hwi : within x0 y0 x1 y1 sw sh = 0 := within_fine (by omega) (by omega) (by omega) (by omega)
  have hm : sw * sh ≤ 16 * 16 := Nat.mul_le_mul hw.2 hh.2
  have hmi : (sw : Int) * sh = ((sw * sh : Nat) : Int) := by push_cast; rfl
  have S := St.start1 W (.blk b 196 [.int .i64 sw, .int .i64 sh, cl]) hB
  rcases hcl with rfl | ⟨⟨u, rfl, hne⟩ | ⟨A, n, cp, rfl⟩, har⟩
  · skip
    refine Fn_enter Try.func165 rfl Try.results165 Try.ntmps165 (by kernel_rfl) (by kernel_rfl) ?_
    repeat refine cw_seq ?_
    refine cw_region ?_
    refine rw_newB (op_box rfl) S ?_
    intro b_rc w2_ g2_ S
    refine rw_v (op_pure rfl) ?_
    first | refine rw_end ?_ | (refine rw_nil ?_; show CW _ _ _ _ _ _) | refine rw_nil ?_
    repeat refine cw_seq ?_
    refine cw_region ?_
    refine rw_v (op_pure rfl) ?_
    refine rw_r (op_loadAB Try.underlying75 rfl (Try.sizeOf75 _) rfl (S.blk (i := 0) rfl) rfl rfl) ?_
    refine rw_call rfl (scheck_E b sw sh x0 y0 x1 y1 _ (by omega) (by omega) w2_ (S.blk (i := 1) rfl)) ?_
    rintro _ w3_ ⟨rfl, g3_⟩
    have S := S.gr g3_
    refine rw_v (op_pure rfl) ?_
    first | refine rw_end ?_ | (refine rw_nil ?_; show CW _ _ _ _ _ _) | refine rw_nil ?_
    repeat refine cw_seq ?_
    refine cw_region ?_
    refine rw_v (op_pure rfl) ?_
    refine rw_v (op_b (b := false) rfl (bne_eq_false_iff_eq.2 (by omega))) ?_
    first | refine rw_end ?_ | (refine rw_nil ?_; show CW _ _ _ _ _ _) | refine rw_nil ?_
    repeat refine cw_seq ?_
    refine cw_false (by rw [hwi]; rfl) ?_
    repeat refine cw_seq ?_
    refine cw_skip ?_
    try show CW _ _ _ _ _ _
    repeat refine cw_seq ?_
    refine cw_region ?_
    refine rw_v (op_pure rfl) ?_
    refine rw_call rfl (may_E _ w3_) ?_
    rintro _ w4_ ⟨rfl, g4_⟩
    have S := S.gr g4_
    refine rw_v (op_pure rfl) ?_
    first | refine rw_end ?_ | (refine rw_nil ?_; show CW _ _ _ _ _ _) | refine rw_nil ?_
    repeat refine cw_seq ?_
    refine cw_false (by rw [(mayB_iff v).2 hv]; rfl) ?_
    repeat refine cw_seq ?_
    refine cw_skip ?_
    try show CW _ _ _ _ _ _
    repeat refine cw_seq ?_
    refine cw_region ?_
    iterate 2 refine rw_v (op_pure rfl) ?_
    refine rw_v (op_fieldAddr Try.underlying196 rfl Try.sizeOf194 rfl rfl) ?_
    refine rw_r (op_loadB Try.underlying194 rfl rfl (S.blk (i := 1) rfl) rfl) ?_
    refine rw_v (op_assert Try.underlying227 rfl rfl) ?_
    iterate 5 refine rw_v (op_pure rfl) ?_
    first | refine rw_end ?_ | (refine rw_nil ?_; show CW _ _ _ _ _ _) | refine rw_nil ?_
    repeat refine cw_seq ?_
    refine cw_draw (C := fun wq => Gr w4_ wq) [0, 1, 2, 3, 4, 5, 6, 7, 8, 9, 10, 11, 12, 13, 14, 15, 16, 17, 18, 19, 20] [] (by kernel_rfl) (by kernel_rfl) (Gr.drew _) ?_
    simp only [pickL, List.drop_succ_cons, List.drop_zero]
    iterate 2 refine rq_v (op_pure rfl) ?_
    first | refine rq_off rfl ?_ | (refine rq_on rfl ?_; refine rq_v (op_pure rfl) ?_)
    first | refine rq_off rfl ?_ | (refine rq_on rfl ?_; refine rq_v (op_pure rfl) ?_)
    first | refine rq_off rfl ?_ | (refine rq_on rfl ?_; refine rq_v (op_conv Try.underlying2 Try.underlying227 rfl (i32_in _ hv)) ?_)
    first | refine rq_off rfl ?_ | (refine rq_on rfl ?_; (first | refine rq_v (op_b (b := true) rfl (beq_iff_eq.2 (by omega))) ?_ | refine rq_v (op_b (b := false) rfl (beq_eq_false_iff_ne.2 (by omega))) ?_ | refine rq_v (op_pure rfl) ?_))
    iterate 2 refine rq_v (op_pure rfl) ?_
    first | refine rq_off rfl ?_ | (refine rq_on rfl ?_; refine rq_r (fun wq hq => op_loadAB Try.underlying75 rfl (Try.sizeOf75 _) rfl ((S.gr hq).blk (i := 0) rfl) rfl rfl) ?_)
    first | refine rq_off rfl ?_ | (refine rq_on rfl ?_; refine rq_call rfl (fun wq hq => (area_E _ _ _ _ (by omega) wq).mono (fun _ _ ⟨hv, hg⟩ => ⟨hv, hq.trans hg⟩)) ?_)
    first | refine rq_off rfl ?_ | (refine rq_on rfl ?_; refine rq_v (op_pure rfl) ?_)
    first | refine rq_off rfl ?_ | (refine rq_on rfl ?_; refine rq_v (op_pure rfl) ?_)
    first | refine rq_off rfl ?_ | (refine rq_on rfl ?_; refine rq_v (op_fieldAddr Try.underlying196 rfl Try.sizeOf2 rfl rfl) ?_)
    first | refine rq_off rfl ?_ | (refine rq_on rfl ?_; refine rq_r (fun wq hq => op_loadB Try.underlying2 rfl rfl ((S.gr hq).blk (i := 1) rfl) rfl) ?_)
    first | refine rq_off rfl ?_ | (refine rq_on rfl ?_; refine rq_v (op_pure rfl) ?_)
    first | refine rq_off rfl ?_ | (refine rq_on rfl ?_; refine rq_v (op_pure rfl) ?_)
    first | refine rq_off rfl ?_ | (refine rq_on rfl ?_; refine rq_v (op_fieldAddr Try.underlying196 rfl Try.sizeOf2 rfl rfl) ?_)
    first | refine rq_off rfl ?_ | (refine rq_on rfl ?_; refine rq_r (fun wq hq => op_loadB Try.underlying2 rfl rfl ((S.gr hq).blk (i := 1) rfl) rfl) ?_)
    first | refine rq_off rfl ?_ | (refine rq_on rfl ?_; refine rq_v (op_rng rfl (by omega)) ?_)
    first | refine rq_off rfl ?_ | (refine rq_on rfl ?_; (first | refine rq_v (op_b (b := true) rfl (beq_iff_eq.2 (by omega))) ?_ | refine rq_v (op_b (b := false) rfl (beq_eq_false_iff_ne.2 (by omega))) ?_ | refine rq_v (op_pure rfl) ?_))
    refine rq_v (op_pure rfl) ?_
    refine rq_nil ?_
    intro w5_ g5_
    have S := S.gr g5_
    first | refine rw_end ?_ | (refine rw_nil ?_; show CW _ _ _ _ _ _) | refine rw_nil ?_
    repeat refine cw_seq ?_
    refine cw_true rfl ?_
    repeat refine cw_seq ?_
    refine cw_region ?_
    iterate 2 refine rw_v (op_pure rfl) ?_
    refine rw_v (op_conv Try.underlying2 Try.underlying227 rfl (i32_in _ hv)) ?_
    refine rw_v (op_iface Try.underlying227 rfl rfl) ?_
    refine rw_v (op_pure rfl) ?_
    refine rw_v (op_fieldAddr Try.underlying196 rfl Try.sizeOf194 rfl rfl) ?_
    refine rw_storeS (i := 1) S rfl (Try.sizeOf194 _) rfl rfl rfl rfl rfl rfl ?_
    intro w6_ S
    first | refine rw_end ?_ | (refine rw_nil ?_; show CW _ _ _ _ _ _) | refine rw_nil ?_
    repeat refine cw_seq ?_
    refine cw_region ?_
    refine rw_v (op_pure rfl) ?_
    first | refine rw_end ?_ | (refine rw_nil ?_; show CW _ _ _ _ _ _) | refine rw_nil ?_
    repeat refine cw_seq ?_
    refine cw_ret ?_
    repeat first | refine ret_then ?_ | refine ret_inb ?_
    exact res1 rfl ⟨rfl, S.blk (i := 1) rfl, S.fr⟩
  · skip
    refine Fn_enter Try.func165 rfl Try.results165 Try.ntmps165 (by kernel_rfl) (by kernel_rfl) ?_
    repeat refine cw_seq ?_
    refine cw_region ?_
    refine rw_newB (op_box rfl) S ?_
    intro b_rc w2_ g2_ S
    refine rw_v (op_pure rfl) ?_
    first | refine rw_end ?_ | (refine rw_nil ?_; show CW _ _ _ _ _ _) | refine rw_nil ?_
    repeat refine cw_seq ?_
    refine cw_region ?_
    refine rw_v (op_pure rfl) ?_
    refine rw_r (op_loadAB Try.underlying75 rfl (Try.sizeOf75 _) rfl (S.blk (i := 0) rfl) rfl rfl) ?_
    refine rw_call rfl (scheck_E b sw sh x0 y0 x1 y1 _ (by omega) (by omega) w2_ (S.blk (i := 1) rfl)) ?_
    rintro _ w3_ ⟨rfl, g3_⟩
    have S := S.gr g3_
    refine rw_v (op_pure rfl) ?_
    first | refine rw_end ?_ | (refine rw_nil ?_; show CW _ _ _ _ _ _) | refine rw_nil ?_
    repeat refine cw_seq ?_
    refine cw_region ?_
    refine rw_v (op_pure rfl) ?_
    refine rw_v (op_b (b := false) rfl (bne_eq_false_iff_eq.2 (by omega))) ?_
    first | refine rw_end ?_ | (refine rw_nil ?_; show CW _ _ _ _ _ _) | refine rw_nil ?_
    repeat refine cw_seq ?_
    refine cw_false (by rw [hwi]; rfl) ?_
    repeat refine cw_seq ?_
    refine cw_skip ?_
    try show CW _ _ _ _ _ _
    repeat refine cw_seq ?_
    refine cw_region ?_
    refine rw_v (op_pure rfl) ?_
    refine rw_call rfl (may_E _ w3_) ?_
    rintro _ w4_ ⟨rfl, g4_⟩
    have S := S.gr g4_
    refine rw_v (op_pure rfl) ?_
    first | refine rw_end ?_ | (refine rw_nil ?_; show CW _ _ _ _ _ _) | refine rw_nil ?_
    repeat refine cw_seq ?_
    refine cw_false (by rw [(mayB_iff v).2 hv]; rfl) ?_
    repeat refine cw_seq ?_
    refine cw_skip ?_
    try show CW _ _ _ _ _ _
    repeat refine cw_seq ?_
    refine cw_region ?_
    iterate 2 refine rw_v (op_pure rfl) ?_
    refine rw_v (op_fieldAddr Try.underlying196 rfl Try.sizeOf194 rfl rfl) ?_
    refine rw_r (op_loadB Try.underlying194 rfl rfl (S.blk (i := 1) rfl) rfl) ?_
    refine rw_v (op_assert Try.underlying227 rfl rfl) ?_
    iterate 5 refine rw_v (op_pure rfl) ?_
    first | refine rw_end ?_ | (refine rw_nil ?_; show CW _ _ _ _ _ _) | refine rw_nil ?_
    repeat refine cw_seq ?_
    refine cw_draw (C := fun wq => Gr w4_ wq) [0, 1, 2, 3, 4, 5, 6, 7, 8, 9, 10, 11, 12, 13, 14, 15, 16, 17, 18, 19, 20] [] (by kernel_rfl) (by kernel_rfl) (Gr.drew _) ?_
    simp only [pickL, List.drop_succ_cons, List.drop_zero]
    iterate 2 refine rq_v (op_pure rfl) ?_
    first | refine rq_off rfl ?_ | (refine rq_on rfl ?_; refine rq_v (op_pure rfl) ?_)
    first | refine rq_off rfl ?_ | (refine rq_on rfl ?_; refine rq_v (op_pure rfl) ?_)
    first | refine rq_off rfl ?_ | (refine rq_on rfl ?_; refine rq_v (op_conv Try.underlying2 Try.underlying227 rfl (i32_in _ hv)) ?_)
    first | refine rq_off rfl ?_ | (refine rq_on rfl ?_; (first | refine rq_v (op_b (b := true) rfl (beq_iff_eq.2 (by omega))) ?_ | refine rq_v (op_b (b := false) rfl (beq_eq_false_iff_ne.2 (by omega))) ?_ | refine rq_v (op_pure rfl) ?_))
    iterate 2 refine rq_v (op_pure rfl) ?_
    first | refine rq_off rfl ?_ | (refine rq_on rfl ?_; refine rq_r (fun wq hq => op_loadAB Try.underlying75 rfl (Try.sizeOf75 _) rfl ((S.gr hq).blk (i := 0) rfl) rfl rfl) ?_)
    first | refine rq_off rfl ?_ | (refine rq_on rfl ?_; refine rq_call rfl (fun wq hq => (area_E _ _ _ _ (by omega) wq).mono (fun _ _ ⟨hv, hg⟩ => ⟨hv, hq.trans hg⟩)) ?_)
    first | refine rq_off rfl ?_ | (refine rq_on rfl ?_; refine rq_v (op_pure rfl) ?_)
    first | refine rq_off rfl ?_ | (refine rq_on rfl ?_; refine rq_v (op_pure rfl) ?_)
    first | refine rq_off rfl ?_ | (refine rq_on rfl ?_; refine rq_v (op_fieldAddr Try.underlying196 rfl Try.sizeOf2 rfl rfl) ?_)
    first | refine rq_off rfl ?_ | (refine rq_on rfl ?_; refine rq_r (fun wq hq => op_loadB Try.underlying2 rfl rfl ((S.gr hq).blk (i := 1) rfl) rfl) ?_)
    first | refine rq_off rfl ?_ | (refine rq_on rfl ?_; refine rq_v (op_pure rfl) ?_)
    first | refine rq_off rfl ?_ | (refine rq_on rfl ?_; refine rq_v (op_pure rfl) ?_)
    first | refine rq_off rfl ?_ | (refine rq_on rfl ?_; refine rq_v (op_fieldAddr Try.underlying196 rfl Try.sizeOf2 rfl rfl) ?_)
    first | refine rq_off rfl ?_ | (refine rq_on rfl ?_; refine rq_r (fun wq hq => op_loadB Try.underlying2 rfl rfl ((S.gr hq).blk (i := 1) rfl) rfl) ?_)
    first | refine rq_off rfl ?_ | (refine rq_on rfl ?_; refine rq_v (op_rng rfl (by omega)) ?_)
    first | refine rq_off rfl ?_ | (refine rq_on rfl ?_; (first | refine rq_v (op_b (b := true) rfl (beq_iff_eq.2 (by omega))) ?_ | refine rq_v (op_b (b := false) rfl (beq_eq_false_iff_ne.2 (by omega))) ?_ | refine rq_v (op_pure rfl) ?_))
    refine rq_v (op_pure rfl) ?_
    refine rq_nil ?_
    intro w5_ g5_
    have S := S.gr g5_
    first | refine rw_end ?_ | (refine rw_nil ?_; show CW _ _ _ _ _ _) | refine rw_nil ?_
    repeat refine cw_seq ?_
    refine cw_true rfl ?_
    repeat refine cw_seq ?_
    refine cw_region ?_
    iterate 2 refine rw_v (op_pure rfl) ?_
    refine rw_v (op_conv Try.underlying2 Try.underlying227 rfl (i32_in _ hv)) ?_
    refine rw_v (op_iface Try.underlying227 rfl rfl) ?_
    refine rw_v (op_pure rfl) ?_
    refine rw_v (op_fieldAddr Try.underlying196 rfl Try.sizeOf194 rfl rfl) ?_
    refine rw_storeS (i := 1) S rfl (Try.sizeOf194 _) rfl rfl rfl rfl rfl rfl ?_
    intro w6_ S
    first | refine rw_end ?_ | (refine rw_nil ?_; show CW _ _ _ _ _ _) | refine rw_nil ?_
    repeat refine cw_seq ?_
    refine cw_region ?_
    refine rw_v (op_pure rfl) ?_
    first | refine rw_end ?_ | (refine rw_nil ?_; show CW _ _ _ _ _ _) | refine rw_nil ?_
    repeat refine cw_seq ?_
    refine cw_ret ?_
    repeat first | refine ret_then ?_ | refine ret_inb ?_
    exact res1 rfl ⟨rfl, S.blk (i := 1) rfl, S.fr⟩
  · skip
    refine Fn_enter Try.func165 rfl Try.results165 Try.ntmps165 (by kernel_rfl) (by kernel_rfl) ?_
    repeat refine cw_seq ?_
    refine cw_region ?_
    refine rw_newB (op_box rfl) S ?_
    intro b_rc w2_ g2_ S
    refine rw_v (op_pure rfl) ?_
    first | refine rw_end ?_ | (refine rw_nil ?_; show CW _ _ _ _ _ _) | refine rw_nil ?_
    repeat refine cw_seq ?_
    refine cw_region ?_
    refine rw_v (op_pure rfl) ?_
    refine rw_r (op_loadAB Try.underlying75 rfl (Try.sizeOf75 _) rfl (S.blk (i := 0) rfl) rfl rfl) ?_
    refine rw_call rfl (scheck_E b sw sh x0 y0 x1 y1 _ (by omega) (by omega) w2_ (S.blk (i := 1) rfl)) ?_
    rintro _ w3_ ⟨rfl, g3_⟩
    have S := S.gr g3_
    refine rw_v (op_pure rfl) ?_
    first | refine rw_end ?_ | (refine rw_nil ?_; show CW _ _ _ _ _ _) | refine rw_nil ?_
    repeat refine cw_seq ?_
    refine cw_region ?_
    refine rw_v (op_pure rfl) ?_
    refine rw_v (op_b (b := false) rfl (bne_eq_false_iff_eq.2 (by omega))) ?_
    first | refine rw_end ?_ | (refine rw_nil ?_; show CW _ _ _ _ _ _) | refine rw_nil ?_
    repeat refine cw_seq ?_
    refine cw_false (by rw [hwi]; rfl) ?_
    repeat refine cw_seq ?_
    refine cw_skip ?_
    try show CW _ _ _ _ _ _
    repeat refine cw_seq ?_
    refine cw_region ?_
    refine rw_v (op_pure rfl) ?_
    refine rw_call rfl (may_E _ w3_) ?_
    rintro _ w4_ ⟨rfl, g4_⟩
    have S := S.gr g4_
    refine rw_v (op_pure rfl) ?_
    first | refine rw_end ?_ | (refine rw_nil ?_; show CW _ _ _ _ _ _) | refine rw_nil ?_
    repeat refine cw_seq ?_
    refine cw_false (by rw [(mayB_iff v).2 hv]; rfl) ?_
    repeat refine cw_seq ?_
    refine cw_skip ?_
    try show CW _ _ _ _ _ _
    repeat refine cw_seq ?_
    refine cw_region ?_
    iterate 2 refine rw_v (op_pure rfl) ?_
    refine rw_v (op_fieldAddr Try.underlying196 rfl Try.sizeOf194 rfl rfl) ?_
    refine rw_r (op_loadB Try.underlying194 rfl rfl (S.blk (i := 1) rfl) rfl) ?_
    refine rw_v (op_assertN Try.underlying227 rfl rfl rfl Try.zeroValue227) ?_
    iterate 5 refine rw_v (op_pure rfl) ?_
    first | refine rw_end ?_ | (refine rw_nil ?_; show CW _ _ _ _ _ _) | refine rw_nil ?_
    repeat refine cw_seq ?_
    refine cw_draw (C := fun wq => Gr w4_ wq) [0, 1, 2, 3, 4, 5, 6, 7, 8, 9, 10, 11, 12, 13, 14, 15, 16, 17, 18, 19, 20] [] (by kernel_rfl) (by kernel_rfl) (Gr.drew _) ?_
    simp only [pickL, List.drop_succ_cons, List.drop_zero]
    iterate 2 refine rq_v (op_pure rfl) ?_
    first | refine rq_off rfl ?_ | (refine rq_on rfl ?_; refine rq_v (op_pure rfl) ?_)
    first | refine rq_off rfl ?_ | (refine rq_on rfl ?_; refine rq_v (op_pure rfl) ?_)
    first | refine rq_off rfl ?_ | (refine rq_on rfl ?_; refine rq_v (op_conv Try.underlying2 Try.underlying227 rfl (IntWalk.i64_in _ (by omega))) ?_)
    first | refine rq_off rfl ?_ | (refine rq_on rfl ?_; (first | refine rq_v (op_b (b := true) rfl (beq_iff_eq.2 (by omega))) ?_ | refine rq_v (op_b (b := false) rfl (beq_eq_false_iff_ne.2 (by omega))) ?_ | refine rq_v (op_pure rfl) ?_))
    iterate 2 refine rq_v (op_pure rfl) ?_
    first | refine rq_off rfl ?_ | (refine rq_on rfl ?_; refine rq_r (fun wq hq => op_loadAB Try.underlying75 rfl (Try.sizeOf75 _) rfl ((S.gr hq).blk (i := 0) rfl) rfl rfl) ?_)
    first | refine rq_off rfl ?_ | (refine rq_on rfl ?_; refine rq_call rfl (fun wq hq => (area_E _ _ _ _ (by omega) wq).mono (fun _ _ ⟨hv, hg⟩ => ⟨hv, hq.trans hg⟩)) ?_)
    first | refine rq_off rfl ?_ | (refine rq_on rfl ?_; refine rq_v (op_pure rfl) ?_)
    first | refine rq_off rfl ?_ | (refine rq_on rfl ?_; refine rq_v (op_pure rfl) ?_)
    first | refine rq_off rfl ?_ | (refine rq_on rfl ?_; refine rq_v (op_fieldAddr Try.underlying196 rfl Try.sizeOf2 rfl rfl) ?_)
    first | refine rq_off rfl ?_ | (refine rq_on rfl ?_; refine rq_r (fun wq hq => op_loadB Try.underlying2 rfl rfl ((S.gr hq).blk (i := 1) rfl) rfl) ?_)
    first | refine rq_off rfl ?_ | (refine rq_on rfl ?_; refine rq_v (op_pure rfl) ?_)
    first | refine rq_off rfl ?_ | (refine rq_on rfl ?_; refine rq_v (op_pure rfl) ?_)
    first | refine rq_off rfl ?_ | (refine rq_on rfl ?_; refine rq_v (op_fieldAddr Try.underlying196 rfl Try.sizeOf2 rfl rfl) ?_)
    first | refine rq_off rfl ?_ | (refine rq_on rfl ?_; refine rq_r (fun wq hq => op_loadB Try.underlying2 rfl rfl ((S.gr hq).blk (i := 1) rfl) rfl) ?_)
    first | refine rq_off rfl ?_ | (refine rq_on rfl ?_; refine rq_v (op_rng rfl (by omega)) ?_)
    first | refine rq_off rfl ?_ | (refine rq_on rfl ?_; (first | refine rq_v (op_b (b := true) rfl (beq_iff_eq.2 (by omega))) ?_ | refine rq_v (op_b (b := false) rfl (beq_eq_false_iff_ne.2 (by omega))) ?_ | refine rq_v (op_pure rfl) ?_))
    refine rq_v (op_pure rfl) ?_
    refine rq_nil ?_
    intro w5_ g5_
    have S := S.gr g5_
    first | refine rw_end ?_ | (refine rw_nil ?_; show CW _ _ _ _ _ _) | refine rw_nil ?_
    repeat refine cw_seq ?_
    refine cw_true rfl ?_
    repeat refine cw_seq ?_
    refine cw_region ?_
    iterate 2 refine rw_v (op_pure rfl) ?_
    refine rw_v (op_conv Try.underlying2 Try.underlying227 rfl (i32_in _ hv)) ?_
    refine rw_v (op_iface Try.underlying227 rfl rfl) ?_
    refine rw_v (op_pure rfl) ?_
    refine rw_v (op_fieldAddr Try.underlying196 rfl Try.sizeOf194 rfl rfl) ?_
    refine rw_storeS (i := 1) S rfl (Try.sizeOf194 _) rfl rfl rfl rfl rfl rfl ?_
    intro w6_ S
    first | refine rw_end ?_ | (refine rw_nil ?_; show CW _ _ _ _ _ _) | refine rw_nil ?_
    repeat refine cw_seq ?_
    refine cw_region ?_
    refine rw_v (op_pure rfl) ?_
    first | refine rw_end ?_ | (refine rw_nil ?_; show CW _ _ _ _ _ _) | refine rw_nil ?_
    repeat refine cw_seq ?_
    refine cw_ret ?_
    repeat first | refine ret_then ?_ | refine ret_inb ?_
    exact res1 rfl ⟨rfl, S.blk (i := 1) rfl, S.fr⟩

theorem fillC_empty {sw : Nat} {x0 y0 x1 y1 v : Int} {c : Nat → Int} (h : x1 < x0 ∨ y1 < y0) (i : Nat) : fillC sw x0 y0 x1 y1 v c i = c i := by
  unfold fillC; rw [if_neg]; unfold inR; omega
theorem fillC_row {sw : Nat} {x0 y0 x1 Y v : Int} {c : Nat → Int} (hy : y0 ≤ Y) (i : Nat) : fillC sw x0 Y x1 Y v (fillC sw x0 y0 x1 (Y - 1) v c) i = fillC sw x0 y0 x1 Y v c i := by
  have key : inR sw x0 y0 x1 Y i ↔ inR sw x0 Y x1 Y i ∨ inR sw x0 y0 x1 (Y - 1) i := by
    unfold inR
    generalize ((i % sw : Nat) : Int) = p
    generalize ((i / sw : Nat) : Int) = q
    omega
  unfold fillC
  by_cases h1 : inR sw x0 Y x1 Y i
  · rw [if_pos h1, if_pos (key.2 (.inl h1))]
  · rw [if_neg h1]
    by_cases h2 : inR sw x0 y0 x1 (Y - 1) i
    · rw [if_pos h2, if_pos (key.2 (.inr h2))]
    · rw [if_neg h2, if_neg (fun h => (key.1 h).elim h1 h2)]
theorem split_iff {sw : Nat} {X Y : Int} (hX : 0 ≤ X ∧ X < sw) (hY : 0 ≤ Y) (i : Nat) : ((i % sw : Nat) : Int) = X ∧ ((i / sw : Nat) : Int) = Y ↔ i = (Y * sw + X).toNat := by
  obtain ⟨a, rfl⟩ := Int.eq_ofNat_of_zero_le hX.1
  obtain ⟨b, rfl⟩ := Int.eq_ofNat_of_zero_le hY
  have h1 : ((b : Int) * sw + a).toNat = b * sw + a := by
    have : ((b : Int) * sw + a) = ((b * sw + a : Nat) : Int) := by push_cast; rfl
    rw [this]; exact Int.toNat_natCast _
  have ha : a < sw := by omega
  rw [h1]
  constructor
  · rintro ⟨h2, h3⟩
    have h2 : i % sw = a := by exact_mod_cast h2
    have h3 : i / sw = b := by exact_mod_cast h3
    have := Nat.div_add_mod i sw
    rw [h2, h3, Nat.mul_comm] at this
    exact this.symm
  · rintro rfl
    constructor
    · rw [Nat.mul_add_mod_self_right, Nat.mod_eq_of_lt ha]
    · rw [Nat.add_comm, Nat.add_mul_div_right _ _ (by omega), Nat.div_eq_of_lt ha, Nat.zero_add]
theorem fillC_cell {sw : Nat} {x0 X Y v : Int} {c : Nat → Int} (hX : 0 ≤ X ∧ X < sw) (hx : x0 ≤ X) (hY : 0 ≤ Y) (i : Nat) : fillC sw x0 Y X Y v c i = if i = (Y * sw + X).toNat then v else fillC sw x0 Y (X - 1) Y v c i := by
  have hs := split_iff hX hY i
  have key : inR sw x0 Y X Y i ↔ i = (Y * sw + X).toNat ∨ inR sw x0 Y (X - 1) Y i := by
    rw [← hs]
    unfold inR
    generalize ((i % sw : Nat) : Int) = p
    generalize ((i / sw : Nat) : Int) = q
    omega
  unfold fillC
  by_cases h1 : i = (Y * sw + X).toNat
  · rw [if_pos h1, if_pos (key.2 (.inl h1))]
  · rw [if_neg h1]
    by_cases h2 : inR sw x0 Y (X - 1) Y i
    · rw [if_pos h2, if_pos (key.2 (.inr h2))]
    · rw [if_neg h2, if_neg (fun h => (key.1 h).elim h1 h2)]
end Go.Proofs.Ytbcgbcipigcbhaa
