/- Slabs that are written: contracts of package slab's other functions. -/
import Derived.Test.YtiidmiebckkloaaPC
import Derived.Test.YtiidmiebckkloaaPB
namespace Go.Proofs.Ytiidmiebckkloaa
open Go.RowKit
set_option linter.unusedVariables false
set_option linter.unusedSimpArgs false
set_option maxRecDepth 100000
theorem info_t21 : (Try.prog.info? 21).map (fun i => (i.zero, i.size, i.bytes)) = some (some (.int .i32 0), 1, 4) := by kernel_rfl
theorem info_t2 : (Try.prog.info? 2).map (fun i => (i.zero, i.size, i.bytes)) = some (some (.int .i64 0), 1, 8) := by kernel_rfl
theorem info_t3 : (Try.prog.info? 3).map (fun i => (i.zero, i.size, i.bytes)) = some (some (.int .i64 0), 1, 8) := by kernel_rfl
theorem info_t4 : (Try.prog.info? 4).map (fun i => (i.zero, i.size, i.bytes)) = some (some (.bool false), 1, 1) := by kernel_rfl
theorem info_t40 : (Try.prog.info? 40).map (fun i => (i.zero, i.size, i.bytes)) = some (some (.agg #[.int .i64 0, .int .i64 0]), 2, 16) := by kernel_rfl
theorem info_t61 : (Try.prog.info? 61).map (fun i => (i.zero, i.size, i.bytes)) = some (some (.agg #[.int .i64 0, .int .i64 0, .int .i64 0, .int .i64 0]), 4, 32) := by kernel_rfl
theorem info_t80 : (Try.prog.info? 80).map (fun i => (i.zero, i.size, i.bytes)) = some (some (.agg #[.int .i64 0, .int .i64 0]), 2, 16) := by kernel_rfl
theorem info_t87 : (Try.prog.info? 87).map (fun i => (i.zero, i.size, i.bytes)) = some (some (.agg #[.int .i64 0, .int .i64 0, .int .i64 0, .int .i64 0, .int .i64 0, .int .i64 0, .int .i64 0, .int .i64 0]), 8, 64) := by kernel_rfl
theorem info_t103 : (Try.prog.info? 103).map (fun i => (i.zero, i.size, i.bytes)) = some (some (.pointer none), 1, 8) := by kernel_rfl
theorem info_t42 : (Try.prog.info? 42).map (fun i => (i.zero, i.size, i.bytes)) = some (some (.agg #[.int .i64 0, .int .i64 0, .int .i64 0, .int .i64 0, .int .i64 0]), 5, 40) := by kernel_rfl
theorem info_t113 : (Try.prog.info? 113).map (fun i => (i.zero, i.size, i.bytes)) = some (some (.pointer none), 1, 8) := by kernel_rfl
theorem info_t46 : (Try.prog.info? 46).map (fun i => (i.zero, i.size, i.bytes)) = some (some (.agg #[.int .i64 0, .int .i64 0, .int .i64 0, .int .i64 0, .int .i64 0]), 5, 40) := by kernel_rfl

/-- a new row -/
def SpRow (w wq : World) (el k n : Nat) (xs : List Value) (v : Value) : Prop := ∃ A, v = .slice A n n ∧ Row wq el k A n n xs ∧ FreshA w A
theorem SpRow.gr {w wq w' : World} {el k n : Nat} {xs : List Value} {v : Value} (h : SpRow w wq el k n xs v) (g : Gr wq w') : SpRow w w' el k n xs v := by
  obtain ⟨A, h1, h2, h3⟩ := h
  exact ⟨A, h1, h2.gr g, h3⟩
theorem to_buildS {P : Program} {e : Nat → Value} {w0 w : World} {d : Option Tmp} {ty : TypeId} {ps : String} {af : Array Edge} {t el : TypeId} {n k : Nat} {parts : List (Nat × Operand)} {z : Value} {l0 l : List Value} {R : Value → World → Prop}
    (hu : P.underlying t = some (.slice el)) (hs : ∀ w, (sizeOf el).run P w = .ok k w) (hz : ∀ w, (zeroValue el).run P w = .ok z w) (hk : z.cells.toList.length = k) (hk0 : Nat.beq (n * k) 0 = false) (hn : Nat.ble (n * k) 16777216 = true)
    (h1 : lay (fun i => some (i * k, k)) ((List.replicate n z.cells.toList).flatten) (evp e parts) = some l0) (h2 : fzl l0 = some l) (hl : Nat.beq l.length (n * k) = true) (g0 : Gr w0 w)
    (hr : ∀ v w', Gr w w' → SpRow w0 w' el k n l v → R v w') : opTo P e ⟨d, .buildSlice t n parts.toArray, ty, ps, af, none⟩ w R := by
  refine to_w (op_buildSlice hu hs hz hk hk0 hn h1 h2) (hr _ _ (Gr.alloc _ _) ?_)
  have hnk : n * k ≠ 0 := by intro h; rw [h] at hk0; cases hk0
  have hk1 : 0 < k := by rcases Nat.eq_zero_or_pos k with h | h; · rw [h] at hnk; simp at hnk
                         · exact h
  have hle : n ≤ n * k := Nat.le_mul_of_pos_right _ hk1
  exact ⟨_, rfl, Row.of_blk (Blk.new _ _ _) (Nat.eq_of_beq_eq_true hl) (by have := Nat.le_of_ble_eq_true hn; unfold maxLen; omega), fun g hg => by injection hg with hg; have := g0.le; dsimp at hg; omega⟩

/-- cells that stand one by one are told -/
theorem srough_E (b : Nat) (v0 v1 : Value) (A : Option Addr) (n c : Nat) (W : World) (hB : Blk W b 139 [v0, v1, .iface 157 (.slice A n c)]) :
    Fn Try.prog 90 [.pointer (some ⟨b, 0, none⟩)] W (RetG (.slice A n c) W) := by
  have S := St.start W
  refine Fn_enter Try.func90 rfl Try.results90 Try.ntmps90 (by kernel_rfl) (by kernel_rfl) ?_
  repeat refine cw_seq ?_
  refine cw_region ?_
  refine rw_v (op_pure rfl) ?_
  first | refine rw_end ?_ | (refine rw_nil ?_; show CW _ _ _ _ _ _) | refine rw_nil ?_
  repeat refine cw_seq ?_
  refine cw_region ?_
  iterate 2 refine rw_v (op_pure rfl) ?_
  refine rw_v (op_fieldAddr Try.underlying139 rfl Try.sizeOf137 rfl rfl) ?_
  refine rw_r (op_loadB Try.underlying137 rfl rfl (hB.gr S.out) rfl) ?_
  refine rw_v (op_assert Try.underlying157 rfl rfl) ?_
  iterate 5 refine rw_v (op_pure rfl) ?_
  first | refine rw_end ?_ | (refine rw_nil ?_; show CW _ _ _ _ _ _) | refine rw_nil ?_
  repeat refine cw_seq ?_
  refine cw_region ?_
  refine rw_v (op_pure rfl) ?_
  first | refine rw_end ?_ | (refine rw_nil ?_; show CW _ _ _ _ _ _) | refine rw_nil ?_
  repeat refine cw_seq ?_
  refine cw_true rfl ?_
  repeat refine cw_seq ?_
  refine cw_region ?_
  iterate 2 refine rw_v (op_pure rfl) ?_
  first | refine rw_end ?_ | (refine rw_nil ?_; show CW _ _ _ _ _ _) | refine rw_nil ?_
  repeat refine cw_seq ?_
  refine cw_ret ?_
  repeat first | refine ret_then ?_ | refine ret_inb ?_
  exact res1 rfl ⟨rfl, S.out⟩
/-- one value for all becomes one for each -/
theorem sroughNew_E (b sw sh : Nat) (x : Int) (hx : -2147483648 ≤ x ∧ x ≤ 2147483647) (hw : 1 ≤ sw ∧ sw ≤ 16) (hh : 1 ≤ sh ∧ sh ≤ 16) (W : World) (hB : Blk W b 139 [.int .i64 sw, .int .i64 sh, .iface 148 (.int .i32 x)]) :
    Fn Try.prog 90 [.pointer (some ⟨b, 0, none⟩)] W (fun r w' => ∃ g, r = .slice (some ⟨g, 0, none⟩) (sw * sh) (sw * sh) ∧ W.heap.size ≤ g ∧
      Blk w' b 139 [.int .i64 sw, .int .i64 sh, .iface 157 (.slice (some ⟨g, 0, none⟩) (sw * sh) (sw * sh))] ∧ Blk w' g 21 (List.replicate (sw * sh) (.int .i32 x)) ∧ Fr (fun g => g = b) W w') := by
  have S := St.start1 W (.blk b 139 [.int .i64 sw, .int .i64 sh, .iface 148 (.int .i32 x)]) hB
  have hm : 1 ≤ sw * sh ∧ sw * sh ≤ 16 * 16 := ⟨Nat.mul_le_mul hw.1 hh.1, Nat.mul_le_mul hw.2 hh.2⟩
  have hmi : (sw : Int) * sh = ((sw * sh : Nat) : Int) := by push_cast; rfl
  refine Fn_enter Try.func90 rfl Try.results90 Try.ntmps90 (by kernel_rfl) (by kernel_rfl) ?_
  repeat refine cw_seq ?_
  refine cw_region ?_
  refine rw_v (op_pure rfl) ?_
  first | refine rw_end ?_ | (refine rw_nil ?_; show CW _ _ _ _ _ _) | refine rw_nil ?_
  repeat refine cw_seq ?_
  refine cw_region ?_
  iterate 2 refine rw_v (op_pure rfl) ?_
  refine rw_v (op_fieldAddr Try.underlying139 rfl Try.sizeOf137 rfl rfl) ?_
  refine rw_r (op_loadB Try.underlying137 rfl rfl (S.blk (i := 0) rfl) rfl) ?_
  refine rw_v (op_assertN Try.underlying157 rfl rfl rfl Try.zeroValue157) ?_
  iterate 5 refine rw_v (op_pure rfl) ?_
  first | refine rw_end ?_ | (refine rw_nil ?_; show CW _ _ _ _ _ _) | refine rw_nil ?_
  repeat refine cw_seq ?_
  refine cw_region ?_
  refine rw_v (op_pure rfl) ?_
  first | refine rw_end ?_ | (refine rw_nil ?_; show CW _ _ _ _ _ _) | refine rw_nil ?_
  repeat refine cw_seq ?_
  refine cw_false rfl ?_
  repeat refine cw_seq ?_
  refine cw_skip ?_
  try show CW _ _ _ _ _ _
  have hB := S.blk (i := 0) rfl
  repeat refine cw_seq ?_
  refine cw_tri (C := (fun σ wq => Gr W wq ∧ (match σ with | [] => True | v :: _ => SpRow W wq 21 1 1 [.int .i32 x] v))) [5] [0, 1, 2, 3, 4, 6, 7, 8, 9, 10, 11, 12, 13, 14, 5] [15, 16] (by kernel_rfl) (by kernel_rfl) ⟨Gr.drew _, trivial⟩ ?_
  simp only [pickI, pickL, List.drop_succ_cons, List.drop_zero]
  refine rs_v rfl (op_pure rfl) ?_
  refine rs_v rfl (op_pure rfl) ?_
  refine rs_v rfl (op_fieldAddr Try.underlying139 rfl Try.sizeOf137 rfl rfl) ?_
  refine rs_r rfl (fun τ wq hq => op_loadB Try.underlying137 rfl rfl ((S.gr hq.1).blk (i := 0) rfl) rfl) ?_
  refine rs_v rfl (op_assert1 Try.underlying148 rfl rfl rfl) ?_
  refine rs_v rfl (op_pure rfl) ?_
  refine rs_v rfl (op_pure rfl) ?_
  refine rs_v rfl (op_fieldAddr Try.underlying139 rfl Try.sizeOf2 rfl rfl) ?_
  refine rs_r rfl (fun τ wq hq => op_loadB Try.underlying2 rfl rfl ((S.gr hq.1).blk (i := 0) rfl) rfl) ?_
  refine rs_v rfl (op_pure rfl) ?_
  refine rs_v rfl (op_pure rfl) ?_
  refine rs_v rfl (op_fieldAddr Try.underlying139 rfl Try.sizeOf2 rfl rfl) ?_
  refine rs_r rfl (fun τ wq hq => op_loadB Try.underlying2 rfl rfl ((S.gr hq.1).blk (i := 0) rfl) rfl) ?_
  refine rs_v rfl (op_rng rfl (by omega)) ?_
  refine rs_special rfl rfl (fun wq hq => to_buildS Try.underlying157 Try.sizeOf21 Try.zeroValue21 rfl rfl rfl rfl rfl rfl hq.1 (fun v w' g h => ⟨hq.1.trans g, h⟩)) ?_
  rintro v5 w5 ⟨_, A5, rfl, _, _⟩
  refine rs_nil ?_
  rintro w1_ ⟨g1_, hsp⟩
  have S := S.gr g1_
  have hle := S.le
  obtain ⟨A6, he6, hR6, hF6⟩ := hsp
  injection he6 with h61
  subst h61
  obtain ⟨g5, rfl, hB5⟩ := hR6.one
  refine rw_call rfl (repeat_E g5 (.int .i32 x) (sw * sh) (by omega) rfl _ hB5) ?_
  rintro _ w2_ ⟨g6, rfl, hge, hB6, g6'⟩
  have S := S.push g6' (h := .blk g6 21 _) hB6 (fun g hg => by rw [hg]; exact hge)
  refine rw_v (op_pure rfl) ?_
  first | refine rw_end ?_ | (refine rw_nil ?_; show CW _ _ _ _ _ _) | refine rw_nil ?_
  repeat refine cw_seq ?_
  refine cw_region ?_
  iterate 2 refine rw_v (op_pure rfl) ?_
  refine rw_v (op_iface Try.underlying157 rfl rfl) ?_
  refine rw_v (op_pure rfl) ?_
  refine rw_v (op_fieldAddr Try.underlying139 rfl Try.sizeOf137 rfl rfl) ?_
  refine rw_storeS (i := 1) S rfl (Try.sizeOf137 _) rfl rfl rfl rfl rfl rfl ?_
  intro w3_ S
  first | refine rw_end ?_ | (refine rw_nil ?_; show CW _ _ _ _ _ _) | refine rw_nil ?_
  repeat refine cw_seq ?_
  refine cw_region ?_
  iterate 2 refine rw_v (op_pure rfl) ?_
  first | refine rw_end ?_ | (refine rw_nil ?_; show CW _ _ _ _ _ _) | refine rw_nil ?_
  repeat refine cw_seq ?_
  refine cw_ret ?_
  repeat first | refine ret_then ?_ | refine ret_inb ?_
  exact res1 rfl ⟨g6, rfl, by omega, S.blk (i := 1) rfl, S.blk (i := 0) rfl, S.fr⟩

theorem indexFunc32_E (A : Option Addr) (n c fid : Nat) (caps : List Value) (xs : List Int) (hn : n = xs.length) (hn1 : n ≤ 9223372036854775807) (p : Int → Bool) (W : World) (hA : Rd W A (xs.map (.int .i32)))
    (hf : ∀ x ∈ xs, ∀ w', Gr W w' → Fn Try.prog fid ([] ++ [.int .i32 x] ++ caps) w' (RetG (.bool (p x)) w')) :
    Fn Try.prog 96 [.slice A n c, .func (.func fid) (([] : List Value).toArray) caps.toArray] W (fun v w' => ∃ r : Int, v = .int .i64 r ∧ Gr W w' ∧ (0 ≤ r ↔ xs.any p = true)) := by
  subst hn
  have S := St.start W
  refine Fn_enter Try.func96 rfl Try.results96 Try.ntmps96 (by kernel_rfl) (by kernel_rfl) ?_
  repeat refine cw_seq ?_
  refine cw_region ?_
  refine rw_v (op_pure rfl) ?_
  first | refine rw_end ?_ | (refine rw_nil ?_; show CW _ _ _ _ _ _) | refine rw_nil ?_
  repeat refine cw_seq ?_
  refine cw_region ?_
  refine rw_v (op_pure rfl) ?_
  refine rw_v (op_len Try.underlying157 rfl) ?_
  refine rw_v (op_pure rfl) ?_
  first | refine rw_end ?_ | (refine rw_nil ?_; show CW _ _ _ _ _ _) | refine rw_nil ?_
  repeat refine cw_seq ?_
  refine cw_block ?_
  repeat refine cw_seq ?_
  refine cw_loop (fun m e w => ∃ k : Nat, k + m = xs.length ∧ SL e [(0, .slice A xs.length c), (1, .func (.func fid) (([] : List Value).toArray) caps.toArray), (7, .int .i64 xs.length), (8, .int .i64 k)] ∧ (∀ i x, i < k → xs[i]? = some x → p x = false) ∧ St No W w []) xs.length
    ⟨0, by omega, ⟨rfl, rfl, rfl, rfl, trivial⟩, fun i x hi => by omega, S⟩ ?_
  rintro m e w ⟨k, hkm, hsl, hI, S⟩
  rw [hsl.fold]
  repeat refine cw_seq ?_
  refine cw_region ?_
  refine rw_v (op_pure rfl) ?_
  first | refine rw_end ?_ | (refine rw_nil ?_; show CW _ _ _ _ _ _) | refine rw_nil ?_
  repeat refine cw_seq ?_
  refine cw_cond rfl (fun hc => ?_) (fun hc => ?_)
  · try simp only [decide_eq_true_eq, decide_eq_false_iff_not, beq_iff_eq, bne_iff_ne, beq_eq_false_iff_ne, bne_eq_false_iff_eq, Bool.not_eq_true', Bool.not_eq_false', ne_eq, Decidable.not_not, Int.natCast_inj, Int.ofNat_lt, Int.ofNat_le, gt_iff_lt, ge_iff_le, Int.not_lt, Int.not_le] at hc
    obtain ⟨x, hx⟩ : ∃ x, xs[k]? = some x := ⟨xs[k], List.getElem?_eq_getElem (by omega)⟩
    have sa_A : SomeA A := hA.someA (by simp; omega)
    have hx' : (xs.map (Value.int .i32))[(k : Int).toNat * 1]? = some (.int .i32 x) := by simp [hx]
    repeat refine cw_seq ?_
    refine cw_skip ?_
    try show CW _ _ _ _ _ _
    repeat refine cw_seq ?_
    refine cw_block ?_
    repeat refine cw_seq ?_
    refine cw_region ?_
    iterate 2 refine rw_v (op_pure rfl) ?_
    first | refine rw_end ?_ | (refine rw_nil ?_; show CW _ _ _ _ _ _) | refine rw_nil ?_
    repeat refine cw_seq ?_
    refine cw_region ?_
    iterate 3 refine rw_v (op_pure rfl) ?_
    refine rw_v (op_idx Try.underlying157 Try.sizeOf21 rfl rfl sa_A (by omega) (by omega)) ?_
    refine rw_r (op_ldR Try.underlying21 rfl rfl (hA.gr S.out) (by assumption)) ?_
    refine rw_callv rfl rfl (hf x (List.mem_of_getElem? hx) _ S.out) ?_
    rintro _ w1_ ⟨rfl, g1_⟩
    have S := S.gr g1_
    first | refine rw_end ?_ | (refine rw_nil ?_; show CW _ _ _ _ _ _) | refine rw_nil ?_
    repeat refine cw_seq ?_
    refine cw_cond rfl (fun hp => ?_) (fun hp => ?_)
    · try simp only [decide_eq_true_eq, decide_eq_false_iff_not, beq_iff_eq, bne_iff_ne, beq_eq_false_iff_ne, bne_eq_false_iff_eq, Bool.not_eq_true', Bool.not_eq_false', ne_eq, Decidable.not_not, Int.natCast_inj, Int.ofNat_lt, Int.ofNat_le, gt_iff_lt, ge_iff_le, Int.not_lt, Int.not_le] at hp
      repeat refine cw_seq ?_
      refine cw_region ?_
      iterate 2 refine rw_v (op_pure rfl) ?_
      first | refine rw_end ?_ | (refine rw_nil ?_; show CW _ _ _ _ _ _) | refine rw_nil ?_
      repeat refine cw_seq ?_
      refine cw_ret ?_
      repeat first | refine ret_then ?_ | refine ret_inb ?_
      exact res1 rfl ⟨_, rfl, S.out, by simp; exact ⟨x, List.mem_of_getElem? hx, hp⟩⟩
    · try simp only [decide_eq_true_eq, decide_eq_false_iff_not, beq_iff_eq, bne_iff_ne, beq_eq_false_iff_ne, bne_eq_false_iff_eq, Bool.not_eq_true', Bool.not_eq_false', ne_eq, Decidable.not_not, Int.natCast_inj, Int.ofNat_lt, Int.ofNat_le, gt_iff_lt, ge_iff_le, Int.not_lt, Int.not_le] at hp
      repeat refine cw_seq ?_
      refine cw_skip ?_
      try show CW _ _ _ _ _ _
      repeat refine cw_seq ?_
      refine cw_region ?_
      refine rw_v (op_rng rfl (by omega)) ?_
      refine rw_v (op_pure rfl) ?_
      first | refine rw_end ?_ | (refine rw_nil ?_; show CW _ _ _ _ _ _) | refine rw_nil ?_
      exact ⟨m - 1, by omega, k + 1, by omega, ⟨rfl, rfl, rfl, ie (by omega), trivial⟩, fun i y hi hy => by
        by_cases hik : i = k
        · subst hik; rw [hx] at hy; cases hy; exact hp
        · exact hI i y (by omega) hy, S⟩
  · try simp only [decide_eq_true_eq, decide_eq_false_iff_not, beq_iff_eq, bne_iff_ne, beq_eq_false_iff_ne, bne_eq_false_iff_eq, Bool.not_eq_true', Bool.not_eq_false', ne_eq, Decidable.not_not, Int.natCast_inj, Int.ofNat_lt, Int.ofNat_le, gt_iff_lt, ge_iff_le, Int.not_lt, Int.not_le] at hc
    repeat refine cw_seq ?_
    refine cw_exit ?_
    repeat first | refine exit_then ?_ | refine exit_inb ?_
    show CW _ _ _ _ _ _
    repeat refine cw_seq ?_
    refine cw_region ?_
    refine rw_v (op_pure rfl) ?_
    first | refine rw_end ?_ | (refine rw_nil ?_; show CW _ _ _ _ _ _) | refine rw_nil ?_
    repeat refine cw_seq ?_
    refine cw_ret ?_
    repeat first | refine ret_then ?_ | refine ret_inb ?_
    refine res1 rfl ⟨_, rfl, S.out, ?_⟩
    simp only [List.any_eq_true]
    refine ⟨fun h => by omega, fun ⟨x, hx, hp⟩ => ?_⟩
    obtain ⟨i, hi, rfl⟩ := List.mem_iff_getElem.1 hx
    rw [hI i _ (by omega) (List.getElem?_eq_getElem hi)] at hp
    cases hp

theorem containsFunc32_E (A : Option Addr) (n c fid : Nat) (caps : List Value) (xs : List Int) (hn : n = xs.length) (hn1 : n ≤ 9223372036854775807) (p : Int → Bool) (W : World) (hA : Rd W A (xs.map (.int .i32)))
    (hf : ∀ x ∈ xs, ∀ w', Gr W w' → Fn Try.prog fid ([] ++ [.int .i32 x] ++ caps) w' (RetG (.bool (p x)) w')) :
    Fn Try.prog 91 [.slice A n c, .func (.func fid) (([] : List Value).toArray) caps.toArray] W (RetG (.bool (xs.any p)) W) := by
  have S := St.start W
  refine Fn_enter Try.func91 rfl Try.results91 Try.ntmps91 (by kernel_rfl) (by kernel_rfl) ?_
  repeat refine cw_seq ?_
  refine cw_region ?_
  refine rw_v (op_pure rfl) ?_
  first | refine rw_end ?_ | (refine rw_nil ?_; show CW _ _ _ _ _ _) | refine rw_nil ?_
  repeat refine cw_seq ?_
  refine cw_region ?_
  iterate 2 refine rw_v (op_pure rfl) ?_
  refine rw_call rfl (indexFunc32_E A n c fid caps xs hn hn1 p _ (hA.gr S.out) (by intro x hx w' g; exact hf x hx w' (S.out.trans g))) ?_
  rintro _ w1_ ⟨r, rfl, g1_, hr⟩
  have S := S.gr g1_
  iterate 2 refine rw_v (op_pure rfl) ?_
  first | refine rw_end ?_ | (refine rw_nil ?_; show CW _ _ _ _ _ _) | refine rw_nil ?_
  repeat refine cw_seq ?_
  refine cw_ret ?_
  repeat first | refine ret_then ?_ | refine ret_inb ?_
  exact res1 rfl ⟨be (by rw [Bool.eq_iff_iff, ← hr]; simp), S.out⟩

theorem fillC_E (C : Nat) (A : Option Addr) (n c : Nat) (x x0 : Int) (xs : List Value) (hn : 0 < n) (W : World) (hC : Blk W C 157 [.slice A n c]) (hA : Rd W A (.int .i32 x0 :: xs)) :
    Fn Try.prog 92 ([] ++ [.int .i32 x] ++ [.pointer (some ⟨C, 0, none⟩)]) W (RetG (.bool (x != x0)) W) := by
  have sa_A : SomeA A := hA.someA (by simp)
  have S := St.start W
  refine Fn_enter Try.func92 rfl Try.results92 Try.ntmps92 (by kernel_rfl) (by kernel_rfl) ?_
  repeat refine cw_seq ?_
  refine cw_region ?_
  refine rw_v (op_pure rfl) ?_
  first | refine rw_end ?_ | (refine rw_nil ?_; show CW _ _ _ _ _ _) | refine rw_nil ?_
  repeat refine cw_seq ?_
  refine cw_region ?_
  refine rw_v (op_pure rfl) ?_
  refine rw_r (op_loadB Try.underlying157 rfl rfl (hC.gr S.out) rfl) ?_
  refine rw_v (op_idx Try.underlying157 Try.sizeOf21 rfl rfl sa_A (by omega) (by omega)) ?_
  refine rw_r (op_ldR Try.underlying21 rfl rfl (hA.gr S.out) rfl) ?_
  iterate 2 refine rw_v (op_pure rfl) ?_
  first | refine rw_end ?_ | (refine rw_nil ?_; show CW _ _ _ _ _ _) | refine rw_nil ?_
  repeat refine cw_seq ?_
  refine cw_ret ?_
  repeat first | refine ret_then ?_ | refine ret_inb ?_
  exact res1 rfl ⟨rfl, S.out⟩

/-! ### Fill -/
/-- a rectangle's cells, of a value -/
def inR (sw : Nat) (x0 y0 x1 y1 : Int) (i : Nat) : Prop := x0 ≤ (i % sw : Nat) ∧ ((i % sw : Nat) : Int) ≤ x1 ∧ y0 ≤ (i / sw : Nat) ∧ ((i / sw : Nat) : Int) ≤ y1
instance (sw : Nat) (x0 y0 x1 y1 : Int) (i : Nat) : Decidable (inR sw x0 y0 x1 y1 i) := by unfold inR; infer_instance
def fillC (sw : Nat) (x0 y0 x1 y1 v : Int) (c : Nat → Int) : Nat → Int := fun i => if inR sw x0 y0 x1 y1 i then v else c i
/-- what a slab is behind a fill -/
def SlabP (W : World) (b : Nat) (R : Option Nat) (sw sh : Nat) (c : Nat → Int) (w' : World) : Prop := ∃ R', SlabIs w' b R' sw sh c ∧ Fr (fun g => g = b ∨ R = some g) W w' ∧ ∀ g, R' = some g → R = some g ∨ W.heap.size ≤ g
theorem SlabIs.mayC {w : World} {b : Nat} {R : Option Nat} {sw sh : Nat} {c : Nat → Int} (h : SlabIs w b R sw sh c) {x0 y0 x1 y1 v : Int} (hv : -2147483648 ≤ v ∧ v ≤ 2147483647) : ∀ i, i < sw * sh → -2147483648 ≤ fillC sw x0 y0 x1 y1 v c i ∧ fillC sw x0 y0 x1 y1 v c i ≤ 2147483647 := fun i hi => by
  unfold fillC
  split
  · exact hv
  · exact h.1 i hi
theorem within_fine {x0 y0 x1 y1 w h : Int} (hw : 1 ≤ w ∧ w ≤ 1024) (hh : 1 ≤ h ∧ h ≤ 1024) (hx : 0 ≤ x0 ∧ x0 ≤ x1 ∧ x1 < w) (hy : 0 ≤ y0 ∧ y0 ≤ y1 ∧ y1 < h) : within x0 y0 x1 y1 w h = 0 := by
  have e1 : insideB (w - 1) 1024 = true := by simp [insideB]; omega
  have e2 : insideB (h - 1) 1024 = true := by simp [insideB]; omega
  have e3 : insideB x0 w = true := by simp [insideB]; omega
  have e4 : insideB y0 h = true := by simp [insideB]; omega
  have e5 : insideB x1 w = true := by simp [insideB]; omega
  have e6 : insideB y1 h = true := by simp [insideB]; omega
  have e7 : ¬ (x1 < x0 ∨ y1 < y0) := by omega
  simp [within, e1, e2, e3, e4, e5, e6]
  omega
theorem whole_in {sw sh : Nat} {x0 y0 x1 y1 : Int} (hx : 0 ≤ x0 ∧ x0 ≤ x1 ∧ x1 < sw) (hy : 0 ≤ y0 ∧ y0 ≤ y1 ∧ y1 < sh) (h : (x1 - x0 + 1) * (y1 - y0 + 1) = sw * sh) : x0 = 0 ∧ y0 = 0 ∧ x1 = sw - 1 ∧ y1 = sh - 1 := by
  have h1 : (x1 - x0 + 1) * (y1 - y0 + 1) ≤ (x1 - x0 + 1) * sh := Int.mul_le_mul_of_nonneg_left (by omega) (by omega)
  have h2 : (x1 - x0 + 1) * sh ≤ sw * sh := Int.mul_le_mul_of_nonneg_right (by omega) (by omega)
  have e2 : (x1 - x0 + 1) * sh = sw * sh := by omega
  have e1 : (x1 - x0 + 1) * (y1 - y0 + 1) = (x1 - x0 + 1) * sh := by omega
  have e3 : x1 - x0 + 1 = sw := Int.eq_of_mul_eq_mul_right (by omega) e2
  have e4 : y1 - y0 + 1 = sh := Int.eq_of_mul_eq_mul_left (by omega) e1
  clear h1 h2 e1 e2 h
  omega
theorem in_whole {sw sh : Nat} {i : Nat} (hw : 1 ≤ sw) (hi : i < sw * sh) {x1 y1 : Int} (hx : x1 = sw - 1) (hy : y1 = sh - 1) : inR sw 0 0 x1 y1 i := by
  have h1 : i % sw < sw := Nat.mod_lt _ (by omega)
  have h2 : i / sw < sh := Nat.div_lt_of_lt_mul hi
  unfold inR
  generalize i % sw = p at *
  generalize i / sw = q at *
  omega
theorem blk_ne_row {w : World} {b t el k n c : Nat} {l : List Value} {A : Option Addr} {xs : List Value} (hB : Blk w b t l) (hR : Row w el k A n c xs) (hne : t ≠ el) : ¬ ownA A b := by
  intro ho
  rcases hR.form with ⟨rfl, _⟩ | ⟨g, l', rfl, hB', _⟩
  · cases ho
  · have : g = b := by injection ho
    subst this
    exact hne (hB.inj hB').1

set_option maxHeartbeats 1000000 in
/-- all of one value, behind it -/
theorem sfillFlat_E (b sw sh : Nat) (R : Option Nat) (c : Nat → Int) (x0 y0 x1 y1 v : Int) (hw : 1 ≤ sw ∧ sw ≤ 16) (hh : 1 ≤ sh ∧ sh ≤ 16) (hx : 0 ≤ x0 ∧ x0 ≤ x1 ∧ x1 < sw) (hy : 0 ≤ y0 ∧ y0 ≤ y1 ∧ y1 < sh) (hv : -2147483648 ≤ v ∧ v ≤ 2147483647) (cl : Value) (hcl : cl = .iface 148 (.int .i32 v) ∨
    ((∃ u, cl = .iface 148 (.int .i32 u) ∧ u ≠ v) ∨ (∃ A n c, cl = .iface 157 (.slice A n c))) ∧ (x1 - x0 + 1) * (y1 - y0 + 1) = sw * sh) (W : World) (hB : Blk W b 139 [.int .i64 sw, .int .i64 sh, cl]) :
    Fn Try.prog 83 [.pointer (some ⟨b, 0, none⟩), .agg #[.int .i64 x0, .int .i64 y0, .int .i64 x1, .int .i64 y1], .int .i64 v] W
      (fun r w' => r = .int .i64 0 ∧ Blk w' b 139 [.int .i64 sw, .int .i64 sh, .iface 148 (.int .i32 v)] ∧ Fr (fun g => g = b) W w') := by
  have hwi : within x0 y0 x1 y1 sw sh = 0 := within_fine (by omega) (by omega) (by omega) (by omega)
  have hm : sw * sh ≤ 16 * 16 := Nat.mul_le_mul hw.2 hh.2
  have hmi : (sw : Int) * sh = ((sw * sh : Nat) : Int) := by push_cast; rfl
  have S := St.start1 W (.blk b 139 [.int .i64 sw, .int .i64 sh, cl]) hB
  rcases hcl with rfl | ⟨⟨u, rfl, hne⟩ | ⟨A, n, cp, rfl⟩, har⟩
  · skip
    refine Fn_enter Try.func83 rfl Try.results83 Try.ntmps83 (by kernel_rfl) (by kernel_rfl) ?_
    repeat refine cw_seq ?_
    refine cw_region ?_
    refine rw_newB (op_box rfl) S ?_
    intro b_rc w2_ g2_ S
    refine rw_v (op_pure rfl) ?_
    first | refine rw_end ?_ | (refine rw_nil ?_; show CW _ _ _ _ _ _) | refine rw_nil ?_
    repeat refine cw_seq ?_
    refine cw_region ?_
    refine rw_v (op_pure rfl) ?_
    refine rw_r (op_loadAB Try.underlying61 rfl (Try.sizeOf61 _) rfl (S.blk (i := 0) rfl) rfl rfl) ?_
    refine rw_call rfl (scheck_E b sw sh x0 y0 x1 y1 _ (by omega) (by omega) w2_ (S.blk (i := 1) rfl)) ?_
    rintro _ w3_ ⟨rfl, g3_⟩
    have S := S.gr g3_
    refine rw_v (op_pure rfl) ?_
    first | refine rw_end ?_ | (refine rw_nil ?_; show CW _ _ _ _ _ _) | refine rw_nil ?_
    repeat refine cw_seq ?_
    refine cw_region ?_
    refine rw_v (op_pure rfl) ?_
    refine rw_v (op_b (b := false) rfl (bne_eq_false_iff_eq.2 (by omega))) ?_
    first | refine rw_end ?_ | (refine rw_nil ?_; show CW _ _ _ _ _ _) | refine rw_nil ?_
    repeat refine cw_seq ?_
    refine cw_false (by rw [hwi]; rfl) ?_
    repeat refine cw_seq ?_
    refine cw_skip ?_
    try show CW _ _ _ _ _ _
    repeat refine cw_seq ?_
    refine cw_region ?_
    refine rw_v (op_pure rfl) ?_
    refine rw_call rfl (may_E _ w3_) ?_
    rintro _ w4_ ⟨rfl, g4_⟩
    have S := S.gr g4_
    refine rw_v (op_pure rfl) ?_
    first | refine rw_end ?_ | (refine rw_nil ?_; show CW _ _ _ _ _ _) | refine rw_nil ?_
    repeat refine cw_seq ?_
    refine cw_false (by rw [(mayB_iff v).2 hv]; rfl) ?_
    repeat refine cw_seq ?_
    refine cw_skip ?_
    try show CW _ _ _ _ _ _
    repeat refine cw_seq ?_
    refine cw_region ?_
    iterate 2 refine rw_v (op_pure rfl) ?_
    refine rw_v (op_fieldAddr Try.underlying139 rfl Try.sizeOf137 rfl rfl) ?_
    refine rw_r (op_loadB Try.underlying137 rfl rfl (S.blk (i := 1) rfl) rfl) ?_
    refine rw_v (op_assert Try.underlying148 rfl rfl) ?_
    iterate 5 refine rw_v (op_pure rfl) ?_
    first | refine rw_end ?_ | (refine rw_nil ?_; show CW _ _ _ _ _ _) | refine rw_nil ?_
    repeat refine cw_seq ?_
    refine cw_draw (C := fun wq => Gr w4_ wq) [0, 1, 2, 3, 4, 5, 6, 7, 8, 9, 10, 11, 12, 13, 14, 15, 16, 17, 18, 19, 20] [] (by kernel_rfl) (by kernel_rfl) (Gr.drew _) ?_
    simp only [pickL, List.drop_succ_cons, List.drop_zero]
    iterate 2 refine rq_v (op_pure rfl) ?_
    first | refine rq_off rfl ?_ | (refine rq_on rfl ?_; refine rq_v (op_pure rfl) ?_)
    first | refine rq_off rfl ?_ | (refine rq_on rfl ?_; refine rq_v (op_pure rfl) ?_)
    first | refine rq_off rfl ?_ | (refine rq_on rfl ?_; refine rq_v (op_conv Try.underlying2 Try.underlying148 rfl (i32_in _ hv)) ?_)
    first | refine rq_off rfl ?_ | (refine rq_on rfl ?_; (first | refine rq_v (op_b (b := true) rfl (beq_iff_eq.2 (by omega))) ?_ | refine rq_v (op_b (b := false) rfl (beq_eq_false_iff_ne.2 (by omega))) ?_ | refine rq_v (op_pure rfl) ?_))
    iterate 2 refine rq_v (op_pure rfl) ?_
    first | refine rq_off rfl ?_ | (refine rq_on rfl ?_; refine rq_r (fun wq hq => op_loadAB Try.underlying61 rfl (Try.sizeOf61 _) rfl ((S.gr hq).blk (i := 0) rfl) rfl rfl) ?_)
    first | refine rq_off rfl ?_ | (refine rq_on rfl ?_; refine rq_call rfl (fun wq hq => (area_E _ _ _ _ (by omega) wq).mono (fun _ _ ⟨hv, hg⟩ => ⟨hv, hq.trans hg⟩)) ?_)
    first | refine rq_off rfl ?_ | (refine rq_on rfl ?_; refine rq_v (op_pure rfl) ?_)
    first | refine rq_off rfl ?_ | (refine rq_on rfl ?_; refine rq_v (op_pure rfl) ?_)
    first | refine rq_off rfl ?_ | (refine rq_on rfl ?_; refine rq_v (op_fieldAddr Try.underlying139 rfl Try.sizeOf2 rfl rfl) ?_)
    first | refine rq_off rfl ?_ | (refine rq_on rfl ?_; refine rq_r (fun wq hq => op_loadB Try.underlying2 rfl rfl ((S.gr hq).blk (i := 1) rfl) rfl) ?_)
    first | refine rq_off rfl ?_ | (refine rq_on rfl ?_; refine rq_v (op_pure rfl) ?_)
    first | refine rq_off rfl ?_ | (refine rq_on rfl ?_; refine rq_v (op_pure rfl) ?_)
    first | refine rq_off rfl ?_ | (refine rq_on rfl ?_; refine rq_v (op_fieldAddr Try.underlying139 rfl Try.sizeOf2 rfl rfl) ?_)
    first | refine rq_off rfl ?_ | (refine rq_on rfl ?_; refine rq_r (fun wq hq => op_loadB Try.underlying2 rfl rfl ((S.gr hq).blk (i := 1) rfl) rfl) ?_)
    first | refine rq_off rfl ?_ | (refine rq_on rfl ?_; refine rq_v (op_rng rfl (by omega)) ?_)
    first | refine rq_off rfl ?_ | (refine rq_on rfl ?_; (first | refine rq_v (op_b (b := true) rfl (beq_iff_eq.2 (by omega))) ?_ | refine rq_v (op_b (b := false) rfl (beq_eq_false_iff_ne.2 (by omega))) ?_ | refine rq_v (op_pure rfl) ?_))
    refine rq_v (op_pure rfl) ?_
    refine rq_nil ?_
    intro w5_ g5_
    have S := S.gr g5_
    first | refine rw_end ?_ | (refine rw_nil ?_; show CW _ _ _ _ _ _) | refine rw_nil ?_
    repeat refine cw_seq ?_
    refine cw_true rfl ?_
    repeat refine cw_seq ?_
    refine cw_region ?_
    iterate 2 refine rw_v (op_pure rfl) ?_
    refine rw_v (op_conv Try.underlying2 Try.underlying148 rfl (i32_in _ hv)) ?_
    refine rw_v (op_iface Try.underlying148 rfl rfl) ?_
    refine rw_v (op_pure rfl) ?_
    refine rw_v (op_fieldAddr Try.underlying139 rfl Try.sizeOf137 rfl rfl) ?_
    refine rw_storeS (i := 1) S rfl (Try.sizeOf137 _) rfl rfl rfl rfl rfl rfl ?_
    intro w6_ S
    first | refine rw_end ?_ | (refine rw_nil ?_; show CW _ _ _ _ _ _) | refine rw_nil ?_
    repeat refine cw_seq ?_
    refine cw_region ?_
    refine rw_v (op_pure rfl) ?_
    first | refine rw_end ?_ | (refine rw_nil ?_; show CW _ _ _ _ _ _) | refine rw_nil ?_
    repeat refine cw_seq ?_
    refine cw_ret ?_
    repeat first | refine ret_then ?_ | refine ret_inb ?_
    exact res1 rfl ⟨rfl, S.blk (i := 1) rfl, S.fr⟩
  · skip
    refine Fn_enter Try.func83 rfl Try.results83 Try.ntmps83 (by kernel_rfl) (by kernel_rfl) ?_
    repeat refine cw_seq ?_
    refine cw_region ?_
    refine rw_newB (op_box rfl) S ?_
    intro b_rc w2_ g2_ S
    refine rw_v (op_pure rfl) ?_
    first | refine rw_end ?_ | (refine rw_nil ?_; show CW _ _ _ _ _ _) | refine rw_nil ?_
    repeat refine cw_seq ?_
    refine cw_region ?_
    refine rw_v (op_pure rfl) ?_
    refine rw_r (op_loadAB Try.underlying61 rfl (Try.sizeOf61 _) rfl (S.blk (i := 0) rfl) rfl rfl) ?_
    refine rw_call rfl (scheck_E b sw sh x0 y0 x1 y1 _ (by omega) (by omega) w2_ (S.blk (i := 1) rfl)) ?_
    rintro _ w3_ ⟨rfl, g3_⟩
    have S := S.gr g3_
    refine rw_v (op_pure rfl) ?_
    first | refine rw_end ?_ | (refine rw_nil ?_; show CW _ _ _ _ _ _) | refine rw_nil ?_
    repeat refine cw_seq ?_
    refine cw_region ?_
    refine rw_v (op_pure rfl) ?_
    refine rw_v (op_b (b := false) rfl (bne_eq_false_iff_eq.2 (by omega))) ?_
    first | refine rw_end ?_ | (refine rw_nil ?_; show CW _ _ _ _ _ _) | refine rw_nil ?_
    repeat refine cw_seq ?_
    refine cw_false (by rw [hwi]; rfl) ?_
    repeat refine cw_seq ?_
    refine cw_skip ?_
    try show CW _ _ _ _ _ _
    repeat refine cw_seq ?_
    refine cw_region ?_
    refine rw_v (op_pure rfl) ?_
    refine rw_call rfl (may_E _ w3_) ?_
    rintro _ w4_ ⟨rfl, g4_⟩
    have S := S.gr g4_
    refine rw_v (op_pure rfl) ?_
    first | refine rw_end ?_ | (refine rw_nil ?_; show CW _ _ _ _ _ _) | refine rw_nil ?_
    repeat refine cw_seq ?_
    refine cw_false (by rw [(mayB_iff v).2 hv]; rfl) ?_
    repeat refine cw_seq ?_
    refine cw_skip ?_
    try show CW _ _ _ _ _ _
    repeat refine cw_seq ?_
    refine cw_region ?_
    iterate 2 refine rw_v (op_pure rfl) ?_
    refine rw_v (op_fieldAddr Try.underlying139 rfl Try.sizeOf137 rfl rfl) ?_
    refine rw_r (op_loadB Try.underlying137 rfl rfl (S.blk (i := 1) rfl) rfl) ?_
    refine rw_v (op_assert Try.underlying148 rfl rfl) ?_
    iterate 5 refine rw_v (op_pure rfl) ?_
    first | refine rw_end ?_ | (refine rw_nil ?_; show CW _ _ _ _ _ _) | refine rw_nil ?_
    repeat refine cw_seq ?_
    refine cw_draw (C := fun wq => Gr w4_ wq) [0, 1, 2, 3, 4, 5, 6, 7, 8, 9, 10, 11, 12, 13, 14, 15, 16, 17, 18, 19, 20] [] (by kernel_rfl) (by kernel_rfl) (Gr.drew _) ?_
    simp only [pickL, List.drop_succ_cons, List.drop_zero]
    iterate 2 refine rq_v (op_pure rfl) ?_
    first | refine rq_off rfl ?_ | (refine rq_on rfl ?_; refine rq_v (op_pure rfl) ?_)
    first | refine rq_off rfl ?_ | (refine rq_on rfl ?_; refine rq_v (op_pure rfl) ?_)
    first | refine rq_off rfl ?_ | (refine rq_on rfl ?_; refine rq_v (op_conv Try.underlying2 Try.underlying148 rfl (i32_in _ hv)) ?_)
    first | refine rq_off rfl ?_ | (refine rq_on rfl ?_; (first | refine rq_v (op_b (b := true) rfl (beq_iff_eq.2 (by omega))) ?_ | refine rq_v (op_b (b := false) rfl (beq_eq_false_iff_ne.2 (by omega))) ?_ | refine rq_v (op_pure rfl) ?_))
    iterate 2 refine rq_v (op_pure rfl) ?_
    first | refine rq_off rfl ?_ | (refine rq_on rfl ?_; refine rq_r (fun wq hq => op_loadAB Try.underlying61 rfl (Try.sizeOf61 _) rfl ((S.gr hq).blk (i := 0) rfl) rfl rfl) ?_)
    first | refine rq_off rfl ?_ | (refine rq_on rfl ?_; refine rq_call rfl (fun wq hq => (area_E _ _ _ _ (by omega) wq).mono (fun _ _ ⟨hv, hg⟩ => ⟨hv, hq.trans hg⟩)) ?_)
    first | refine rq_off rfl ?_ | (refine rq_on rfl ?_; refine rq_v (op_pure rfl) ?_)
    first | refine rq_off rfl ?_ | (refine rq_on rfl ?_; refine rq_v (op_pure rfl) ?_)
    first | refine rq_off rfl ?_ | (refine rq_on rfl ?_; refine rq_v (op_fieldAddr Try.underlying139 rfl Try.sizeOf2 rfl rfl) ?_)
    first | refine rq_off rfl ?_ | (refine rq_on rfl ?_; refine rq_r (fun wq hq => op_loadB Try.underlying2 rfl rfl ((S.gr hq).blk (i := 1) rfl) rfl) ?_)
    first | refine rq_off rfl ?_ | (refine rq_on rfl ?_; refine rq_v (op_pure rfl) ?_)
    first | refine rq_off rfl ?_ | (refine rq_on rfl ?_; refine rq_v (op_pure rfl) ?_)
    first | refine rq_off rfl ?_ | (refine rq_on rfl ?_; refine rq_v (op_fieldAddr Try.underlying139 rfl Try.sizeOf2 rfl rfl) ?_)
    first | refine rq_off rfl ?_ | (refine rq_on rfl ?_; refine rq_r (fun wq hq => op_loadB Try.underlying2 rfl rfl ((S.gr hq).blk (i := 1) rfl) rfl) ?_)
    first | refine rq_off rfl ?_ | (refine rq_on rfl ?_; refine rq_v (op_rng rfl (by omega)) ?_)
    first | refine rq_off rfl ?_ | (refine rq_on rfl ?_; (first | refine rq_v (op_b (b := true) rfl (beq_iff_eq.2 (by omega))) ?_ | refine rq_v (op_b (b := false) rfl (beq_eq_false_iff_ne.2 (by omega))) ?_ | refine rq_v (op_pure rfl) ?_))
    refine rq_v (op_pure rfl) ?_
    refine rq_nil ?_
    intro w5_ g5_
    have S := S.gr g5_
    first | refine rw_end ?_ | (refine rw_nil ?_; show CW _ _ _ _ _ _) | refine rw_nil ?_
    repeat refine cw_seq ?_
    refine cw_true rfl ?_
    repeat refine cw_seq ?_
    refine cw_region ?_
    iterate 2 refine rw_v (op_pure rfl) ?_
    refine rw_v (op_conv Try.underlying2 Try.underlying148 rfl (i32_in _ hv)) ?_
    refine rw_v (op_iface Try.underlying148 rfl rfl) ?_
    refine rw_v (op_pure rfl) ?_
    refine rw_v (op_fieldAddr Try.underlying139 rfl Try.sizeOf137 rfl rfl) ?_
    refine rw_storeS (i := 1) S rfl (Try.sizeOf137 _) rfl rfl rfl rfl rfl rfl ?_
    intro w6_ S
    first | refine rw_end ?_ | (refine rw_nil ?_; show CW _ _ _ _ _ _) | refine rw_nil ?_
    repeat refine cw_seq ?_
    refine cw_region ?_
    refine rw_v (op_pure rfl) ?_
    first | refine rw_end ?_ | (refine rw_nil ?_; show CW _ _ _ _ _ _) | refine rw_nil ?_
    repeat refine cw_seq ?_
    refine cw_ret ?_
    repeat first | refine ret_then ?_ | refine ret_inb ?_
    exact res1 rfl ⟨rfl, S.blk (i := 1) rfl, S.fr⟩
  · skip
    refine Fn_enter Try.func83 rfl Try.results83 Try.ntmps83 (by kernel_rfl) (by kernel_rfl) ?_
    repeat refine cw_seq ?_
    refine cw_region ?_
    refine rw_newB (op_box rfl) S ?_
    intro b_rc w2_ g2_ S
    refine rw_v (op_pure rfl) ?_
    first | refine rw_end ?_ | (refine rw_nil ?_; show CW _ _ _ _ _ _) | refine rw_nil ?_
    repeat refine cw_seq ?_
    refine cw_region ?_
    refine rw_v (op_pure rfl) ?_
    refine rw_r (op_loadAB Try.underlying61 rfl (Try.sizeOf61 _) rfl (S.blk (i := 0) rfl) rfl rfl) ?_
    refine rw_call rfl (scheck_E b sw sh x0 y0 x1 y1 _ (by omega) (by omega) w2_ (S.blk (i := 1) rfl)) ?_
    rintro _ w3_ ⟨rfl, g3_⟩
    have S := S.gr g3_
    refine rw_v (op_pure rfl) ?_
    first | refine rw_end ?_ | (refine rw_nil ?_; show CW _ _ _ _ _ _) | refine rw_nil ?_
    repeat refine cw_seq ?_
    refine cw_region ?_
    refine rw_v (op_pure rfl) ?_
    refine rw_v (op_b (b := false) rfl (bne_eq_false_iff_eq.2 (by omega))) ?_
    first | refine rw_end ?_ | (refine rw_nil ?_; show CW _ _ _ _ _ _) | refine rw_nil ?_
    repeat refine cw_seq ?_
    refine cw_false (by rw [hwi]; rfl) ?_
    repeat refine cw_seq ?_
    refine cw_skip ?_
    try show CW _ _ _ _ _ _
    repeat refine cw_seq ?_
    refine cw_region ?_
    refine rw_v (op_pure rfl) ?_
    refine rw_call rfl (may_E _ w3_) ?_
    rintro _ w4_ ⟨rfl, g4_⟩
    have S := S.gr g4_
    refine rw_v (op_pure rfl) ?_
    first | refine rw_end ?_ | (refine rw_nil ?_; show CW _ _ _ _ _ _) | refine rw_nil ?_
    repeat refine cw_seq ?_
    refine cw_false (by rw [(mayB_iff v).2 hv]; rfl) ?_
    repeat refine cw_seq ?_
    refine cw_skip ?_
    try show CW _ _ _ _ _ _
    repeat refine cw_seq ?_
    refine cw_region ?_
    iterate 2 refine rw_v (op_pure rfl) ?_
    refine rw_v (op_fieldAddr Try.underlying139 rfl Try.sizeOf137 rfl rfl) ?_
    refine rw_r (op_loadB Try.underlying137 rfl rfl (S.blk (i := 1) rfl) rfl) ?_
    refine rw_v (op_assertN Try.underlying148 rfl rfl rfl Try.zeroValue148) ?_
    iterate 5 refine rw_v (op_pure rfl) ?_
    first | refine rw_end ?_ | (refine rw_nil ?_; show CW _ _ _ _ _ _) | refine rw_nil ?_
    repeat refine cw_seq ?_
    refine cw_draw (C := fun wq => Gr w4_ wq) [0, 1, 2, 3, 4, 5, 6, 7, 8, 9, 10, 11, 12, 13, 14, 15, 16, 17, 18, 19, 20] [] (by kernel_rfl) (by kernel_rfl) (Gr.drew _) ?_
    simp only [pickL, List.drop_succ_cons, List.drop_zero]
    iterate 2 refine rq_v (op_pure rfl) ?_
    first | refine rq_off rfl ?_ | (refine rq_on rfl ?_; refine rq_v (op_pure rfl) ?_)
    first | refine rq_off rfl ?_ | (refine rq_on rfl ?_; refine rq_v (op_pure rfl) ?_)
    first | refine rq_off rfl ?_ | (refine rq_on rfl ?_; refine rq_v (op_conv Try.underlying2 Try.underlying148 rfl (IntWalk.i64_in _ (by omega))) ?_)
    first | refine rq_off rfl ?_ | (refine rq_on rfl ?_; (first | refine rq_v (op_b (b := true) rfl (beq_iff_eq.2 (by omega))) ?_ | refine rq_v (op_b (b := false) rfl (beq_eq_false_iff_ne.2 (by omega))) ?_ | refine rq_v (op_pure rfl) ?_))
    iterate 2 refine rq_v (op_pure rfl) ?_
    first | refine rq_off rfl ?_ | (refine rq_on rfl ?_; refine rq_r (fun wq hq => op_loadAB Try.underlying61 rfl (Try.sizeOf61 _) rfl ((S.gr hq).blk (i := 0) rfl) rfl rfl) ?_)
    first | refine rq_off rfl ?_ | (refine rq_on rfl ?_; refine rq_call rfl (fun wq hq => (area_E _ _ _ _ (by omega) wq).mono (fun _ _ ⟨hv, hg⟩ => ⟨hv, hq.trans hg⟩)) ?_)
    first | refine rq_off rfl ?_ | (refine rq_on rfl ?_; refine rq_v (op_pure rfl) ?_)
    first | refine rq_off rfl ?_ | (refine rq_on rfl ?_; refine rq_v (op_pure rfl) ?_)
    first | refine rq_off rfl ?_ | (refine rq_on rfl ?_; refine rq_v (op_fieldAddr Try.underlying139 rfl Try.sizeOf2 rfl rfl) ?_)
    first | refine rq_off rfl ?_ | (refine rq_on rfl ?_; refine rq_r (fun wq hq => op_loadB Try.underlying2 rfl rfl ((S.gr hq).blk (i := 1) rfl) rfl) ?_)
    first | refine rq_off rfl ?_ | (refine rq_on rfl ?_; refine rq_v (op_pure rfl) ?_)
    first | refine rq_off rfl ?_ | (refine rq_on rfl ?_; refine rq_v (op_pure rfl) ?_)
    first | refine rq_off rfl ?_ | (refine rq_on rfl ?_; refine rq_v (op_fieldAddr Try.underlying139 rfl Try.sizeOf2 rfl rfl) ?_)
    first | refine rq_off rfl ?_ | (refine rq_on rfl ?_; refine rq_r (fun wq hq => op_loadB Try.underlying2 rfl rfl ((S.gr hq).blk (i := 1) rfl) rfl) ?_)
    first | refine rq_off rfl ?_ | (refine rq_on rfl ?_; refine rq_v (op_rng rfl (by omega)) ?_)
    first | refine rq_off rfl ?_ | (refine rq_on rfl ?_; (first | refine rq_v (op_b (b := true) rfl (beq_iff_eq.2 (by omega))) ?_ | refine rq_v (op_b (b := false) rfl (beq_eq_false_iff_ne.2 (by omega))) ?_ | refine rq_v (op_pure rfl) ?_))
    refine rq_v (op_pure rfl) ?_
    refine rq_nil ?_
    intro w5_ g5_
    have S := S.gr g5_
    first | refine rw_end ?_ | (refine rw_nil ?_; show CW _ _ _ _ _ _) | refine rw_nil ?_
    repeat refine cw_seq ?_
    refine cw_true rfl ?_
    repeat refine cw_seq ?_
    refine cw_region ?_
    iterate 2 refine rw_v (op_pure rfl) ?_
    refine rw_v (op_conv Try.underlying2 Try.underlying148 rfl (i32_in _ hv)) ?_
    refine rw_v (op_iface Try.underlying148 rfl rfl) ?_
    refine rw_v (op_pure rfl) ?_
    refine rw_v (op_fieldAddr Try.underlying139 rfl Try.sizeOf137 rfl rfl) ?_
    refine rw_storeS (i := 1) S rfl (Try.sizeOf137 _) rfl rfl rfl rfl rfl rfl ?_
    intro w6_ S
    first | refine rw_end ?_ | (refine rw_nil ?_; show CW _ _ _ _ _ _) | refine rw_nil ?_
    repeat refine cw_seq ?_
    refine cw_region ?_
    refine rw_v (op_pure rfl) ?_
    first | refine rw_end ?_ | (refine rw_nil ?_; show CW _ _ _ _ _ _) | refine rw_nil ?_
    repeat refine cw_seq ?_
    refine cw_ret ?_
    repeat first | refine ret_then ?_ | refine ret_inb ?_
    exact res1 rfl ⟨rfl, S.blk (i := 1) rfl, S.fr⟩

theorem fillC_empty {sw : Nat} {x0 y0 x1 y1 v : Int} {c : Nat → Int} (h : x1 < x0 ∨ y1 < y0) (i : Nat) : fillC sw x0 y0 x1 y1 v c i = c i := by
  unfold fillC; rw [if_neg]; unfold inR; omega
theorem fillC_row {sw : Nat} {x0 y0 x1 Y v : Int} {c : Nat → Int} (hy : y0 ≤ Y) (i : Nat) : fillC sw x0 Y x1 Y v (fillC sw x0 y0 x1 (Y - 1) v c) i = fillC sw x0 y0 x1 Y v c i := by
  have key : inR sw x0 y0 x1 Y i ↔ inR sw x0 Y x1 Y i ∨ inR sw x0 y0 x1 (Y - 1) i := by
    unfold inR
    generalize ((i % sw : Nat) : Int) = p
    generalize ((i / sw : Nat) : Int) = q
    omega
  unfold fillC
  by_cases h1 : inR sw x0 Y x1 Y i
  · rw [if_pos h1, if_pos (key.2 (.inl h1))]
  · rw [if_neg h1]
    by_cases h2 : inR sw x0 y0 x1 (Y - 1) i
    · rw [if_pos h2, if_pos (key.2 (.inr h2))]
    · rw [if_neg h2, if_neg (fun h => (key.1 h).elim h1 h2)]
theorem split_iff {sw : Nat} {X Y : Int} (hX : 0 ≤ X ∧ X < sw) (hY : 0 ≤ Y) (i : Nat) : ((i % sw : Nat) : Int) = X ∧ ((i / sw : Nat) : Int) = Y ↔ i = (Y * sw + X).toNat := by
  obtain ⟨a, rfl⟩ := Int.eq_ofNat_of_zero_le hX.1
  obtain ⟨b, rfl⟩ := Int.eq_ofNat_of_zero_le hY
  have h1 : ((b : Int) * sw + a).toNat = b * sw + a := by
    have : ((b : Int) * sw + a) = ((b * sw + a : Nat) : Int) := by push_cast; rfl
    rw [this]; exact Int.toNat_natCast _
  have ha : a < sw := by omega
  rw [h1]
  constructor
  · rintro ⟨h2, h3⟩
    have h2 : i % sw = a := by exact_mod_cast h2
    have h3 : i / sw = b := by exact_mod_cast h3
    have := Nat.div_add_mod i sw
    rw [h2, h3, Nat.mul_comm] at this
    exact this.symm
  · rintro rfl
    constructor
    · rw [Nat.mul_add_mod_self_right, Nat.mod_eq_of_lt ha]
    · rw [Nat.add_comm, Nat.add_mul_div_right _ _ (by omega), Nat.div_eq_of_lt ha, Nat.zero_add]
theorem fillC_cell {sw : Nat} {x0 X Y v : Int} {c : Nat → Int} (hX : 0 ≤ X ∧ X < sw) (hx : x0 ≤ X) (hY : 0 ≤ Y) (i : Nat) : fillC sw x0 Y X Y v c i = if i = (Y * sw + X).toNat then v else fillC sw x0 Y (X - 1) Y v c i := by
  have hs := split_iff hX hY i
  have key : inR sw x0 Y X Y i ↔ i = (Y * sw + X).toNat ∨ inR sw x0 Y (X - 1) Y i := by
    rw [← hs]
    unfold inR
    generalize ((i % sw : Nat) : Int) = p
    generalize ((i / sw : Nat) : Int) = q
    omega
  unfold fillC
  by_cases h1 : i = (Y * sw + X).toNat
  · rw [if_pos h1, if_pos (key.2 (.inl h1))]
  · rw [if_neg h1]
    by_cases h2 : inR sw x0 Y (X - 1) Y i
    · rw [if_pos h2, if_pos (key.2 (.inr h2))]
    · rw [if_neg h2, if_neg (fun h => (key.1 h).elim h1 h2)]
end Go.Proofs.Ytiidmiebckkloaa
/- A slab that is filled: cells that stand one by one. -/
namespace Go.Proofs.Ytiidmiebckkloaa
open Go.RowKit
set_option linter.unusedVariables false
set_option linter.unusedSimpArgs false
set_option maxRecDepth 100000

theorem ptr_eq {g a j : Nat} (h : a = j) : Value.pointer (some ⟨g, a, none⟩) = .pointer (at_ (some ⟨g, 0, none⟩) j) := by rw [h, at_some, Nat.zero_add]
theorem mul_bound {sw sh : Nat} {Y : Int} (h0 : 0 ≤ Y) (h1 : Y < sh) : 0 ≤ Y * sw ∧ Y * sw + sw ≤ ((sw * sh : Nat) : Int) ∧ (Y + 1) * sw = Y * sw + sw := by
  obtain ⟨b, rfl⟩ := Int.eq_ofNat_of_zero_le h0
  have h2 : (b + 1) * sw ≤ sh * sw := Nat.mul_le_mul_right _ (by omega)
  rw [Nat.succ_mul, Nat.mul_comm sh sw] at h2
  refine ⟨Int.mul_nonneg (by omega) (by omega), ?_, by rw [Int.add_mul, Int.one_mul]⟩
  exact_mod_cast h2

set_option maxHeartbeats 2000000 in
theorem sfillRough_E (b sw sh : Nat) (R : Option Nat) (c : Nat → Int) (x0 y0 x1 y1 v : Int) (hw : 1 ≤ sw ∧ sw ≤ 16) (hh : 1 ≤ sh ∧ sh ≤ 16) (hx : 0 ≤ x0 ∧ x0 ≤ x1 ∧ x1 < sw) (hy : 0 ≤ y0 ∧ y0 ≤ y1 ∧ y1 < sh) (hv : -2147483648 ≤ v ∧ v ≤ 2147483647)
    (har : (x1 - x0 + 1) * (y1 - y0 + 1) ≠ sw * sh) (W : World) (hS : SlabIs W b R sw sh c) (hfl : R = none → ∀ u, Blk W b 139 [.int .i64 sw, .int .i64 sh, .iface 148 (.int .i32 u)] → u ≠ v) :
    Fn Try.prog 83 [.pointer (some ⟨b, 0, none⟩), .agg #[.int .i64 x0, .int .i64 y0, .int .i64 x1, .int .i64 y1], .int .i64 v] W
      (fun r w' => r = .int .i64 0 ∧ SlabP W b R sw sh (fillC sw x0 y0 x1 y1 v c) w') := by
  have hwi : within x0 y0 x1 y1 sw sh = 0 := within_fine (by omega) (by omega) (by omega) (by omega)
  have hm : 1 ≤ sw * sh ∧ sw * sh ≤ 16 * 16 := ⟨Nat.mul_le_mul hw.1 hh.1, Nat.mul_le_mul hw.2 hh.2⟩
  have hmi : (sw : Int) * sh = ((sw * sh : Nat) : Int) := by push_cast; rfl
  have hmay := hS.mayC (x0 := x0) (y0 := y0) (x1 := x1) (y1 := y1) hv
  have hmay0 := hS.1
  rw [hmi] at har
  have S := St.start W
  refine Fn_enter Try.func83 rfl Try.results83 Try.ntmps83 (by kernel_rfl) (by kernel_rfl) ?_
  obtain ⟨cl, hB⟩ : ∃ cl, Blk W b 139 [.int .i64 sw, .int .i64 sh, cl] := by
    obtain ⟨_, h⟩ := hS
    cases R with
    | none => obtain ⟨u, h, _⟩ := h; exact ⟨_, h⟩
    | some g => obtain ⟨cap, h, _⟩ := h; exact ⟨_, h⟩
  repeat refine cw_seq ?_
  refine cw_region ?_
  refine rw_newB (op_box rfl) S ?_
  intro b_rc w2_ g2_ S
  refine rw_v (op_pure rfl) ?_
  first | refine rw_end ?_ | (refine rw_nil ?_; show CW _ _ _ _ _ _) | refine rw_nil ?_
  repeat refine cw_seq ?_
  refine cw_region ?_
  refine rw_v (op_pure rfl) ?_
  refine rw_r (op_loadAB Try.underlying61 rfl (Try.sizeOf61 _) rfl (S.blk (i := 0) rfl) rfl rfl) ?_
  refine rw_call rfl (scheck_E b sw sh x0 y0 x1 y1 _ (by omega) (by omega) w2_ (hB.gr S.out)) ?_
  rintro _ w3_ ⟨rfl, g3_⟩
  have S := S.gr g3_
  refine rw_v (op_pure rfl) ?_
  first | refine rw_end ?_ | (refine rw_nil ?_; show CW _ _ _ _ _ _) | refine rw_nil ?_
  repeat refine cw_seq ?_
  refine cw_region ?_
  refine rw_v (op_pure rfl) ?_
  refine rw_v (op_b (b := false) rfl (bne_eq_false_iff_eq.2 (by omega))) ?_
  first | refine rw_end ?_ | (refine rw_nil ?_; show CW _ _ _ _ _ _) | refine rw_nil ?_
  repeat refine cw_seq ?_
  refine cw_false (by rw [hwi]; rfl) ?_
  repeat refine cw_seq ?_
  refine cw_skip ?_
  try show CW _ _ _ _ _ _
  repeat refine cw_seq ?_
  refine cw_region ?_
  refine rw_v (op_pure rfl) ?_
  refine rw_call rfl (may_E _ w3_) ?_
  rintro _ w4_ ⟨rfl, g4_⟩
  have S := S.gr g4_
  refine rw_v (op_pure rfl) ?_
  first | refine rw_end ?_ | (refine rw_nil ?_; show CW _ _ _ _ _ _) | refine rw_nil ?_
  repeat refine cw_seq ?_
  refine cw_false (by rw [(mayB_iff v).2 hv]; rfl) ?_
  repeat refine cw_seq ?_
  refine cw_skip ?_
  try show CW _ _ _ _ _ _
  repeat refine cw_seq ?_
  refine cw_cutT (M := fun e w => ∃ (u : Int) (ok : Bool), SL e [(0, .pointer (some ⟨b, 0, none⟩)), (2, .int .i64 v), (4, .pointer (some ⟨b_rc, 0, none⟩)), (8, .int .i32 u), (9, .bool ok)] ∧ (ok = true → u ≠ v) ∧ St No W w [.blk b_rc 61 [.int .i64 x0, .int .i64 y0, .int .i64 x1, .int .i64 y1]]) ?_ ?_
  · cases R with
    | none =>
      obtain ⟨_, u, hB', _⟩ := hS
      obtain rfl : cl = .iface 148 (.int .i32 u) := by have := (hB.inj hB').2; simpa using this
      repeat refine cw_seq ?_
      refine cw_region ?_
      iterate 2 refine rw_v (op_pure rfl) ?_
      refine rw_v (op_fieldAddr Try.underlying139 rfl Try.sizeOf137 rfl rfl) ?_
      refine rw_r (op_loadB Try.underlying137 rfl rfl (hB.gr S.out) rfl) ?_
      refine rw_v (op_assert Try.underlying148 rfl rfl) ?_
      iterate 5 refine rw_v (op_pure rfl) ?_
      first | refine rw_end ?_ | (refine rw_nil ?_; show CW _ _ _ _ _ _) | refine rw_nil ?_
      exact ⟨u, true, ⟨rfl, rfl, rfl, rfl, rfl, trivial⟩, fun _ => hfl rfl u hB', S⟩
    | some g =>
      obtain ⟨_, cap, hB', _⟩ := hS
      obtain rfl := (by have := (hB.inj hB').2; simpa using this : cl = .iface 157 (.slice (some ⟨g, 0, none⟩) (sw * sh) cap))
      repeat refine cw_seq ?_
      refine cw_region ?_
      iterate 2 refine rw_v (op_pure rfl) ?_
      refine rw_v (op_fieldAddr Try.underlying139 rfl Try.sizeOf137 rfl rfl) ?_
      refine rw_r (op_loadB Try.underlying137 rfl rfl (hB.gr S.out) rfl) ?_
      refine rw_v (op_assertN Try.underlying148 rfl rfl rfl Try.zeroValue148) ?_
      iterate 5 refine rw_v (op_pure rfl) ?_
      first | refine rw_end ?_ | (refine rw_nil ?_; show CW _ _ _ _ _ _) | refine rw_nil ?_
      exact ⟨0, false, ⟨rfl, rfl, rfl, rfl, rfl, trivial⟩, (fun h => by cases h), S⟩
  · rintro e1 w1 ⟨u, ok, hsl, hok, S⟩
    rw [hsl.fold]
    repeat refine cw_seq ?_
    refine cw_cutT (M := fun e w => SL e [(0, .pointer (some ⟨b, 0, none⟩)), (2, .int .i64 v), (4, .pointer (some ⟨b_rc, 0, none⟩)), (51, .bool false)] ∧ St No W w [.blk b_rc 61 [.int .i64 x0, .int .i64 y0, .int .i64 x1, .int .i64 y1]]) ?_ ?_
    · rcases ok with _ | _
      · skip
        repeat refine cw_seq ?_
        refine cw_draw (C := fun wq => Gr w1 wq) [0, 1, 2, 3, 4, 5, 6, 7, 8, 9, 10, 11, 12, 13, 14, 15, 16, 17, 18, 19, 20] [] (by kernel_rfl) (by kernel_rfl) (Gr.drew _) ?_
        simp only [pickL, List.drop_succ_cons, List.drop_zero]
        iterate 2 refine rq_v (op_pure rfl) ?_
        first | refine rq_off rfl ?_ | (refine rq_on rfl ?_; refine rq_v (op_pure rfl) ?_)
        first | refine rq_off rfl ?_ | (refine rq_on rfl ?_; refine rq_v (op_pure rfl) ?_)
        first | refine rq_off rfl ?_ | (refine rq_on rfl ?_; refine rq_v (op_conv Try.underlying2 Try.underlying148 rfl (i32_in _ hv)) ?_)
        first | refine rq_off rfl ?_ | (refine rq_on rfl ?_; (first | refine rq_v (op_b (b := true) rfl (beq_iff_eq.2 (by omega))) ?_ | refine rq_v (op_b (b := false) rfl (beq_eq_false_iff_ne.2 (by omega))) ?_ | refine rq_v (op_pure rfl) ?_))
        iterate 2 refine rq_v (op_pure rfl) ?_
        first | refine rq_off rfl ?_ | (refine rq_on rfl ?_; refine rq_r (fun wq hq => op_loadAB Try.underlying61 rfl (Try.sizeOf61 _) rfl ((S.gr hq).blk (i := 0) rfl) rfl rfl) ?_)
        first | refine rq_off rfl ?_ | (refine rq_on rfl ?_; refine rq_call rfl (fun wq hq => (area_E _ _ _ _ (by omega) wq).mono (fun _ _ ⟨hv, hg⟩ => ⟨hv, hq.trans hg⟩)) ?_)
        first | refine rq_off rfl ?_ | (refine rq_on rfl ?_; refine rq_v (op_pure rfl) ?_)
        first | refine rq_off rfl ?_ | (refine rq_on rfl ?_; refine rq_v (op_pure rfl) ?_)
        first | refine rq_off rfl ?_ | (refine rq_on rfl ?_; refine rq_v (op_fieldAddr Try.underlying139 rfl Try.sizeOf2 rfl rfl) ?_)
        first | refine rq_off rfl ?_ | (refine rq_on rfl ?_; refine rq_r (fun wq hq => op_loadB Try.underlying2 rfl rfl (hB.gr (S.gr hq).out) rfl) ?_)
        first | refine rq_off rfl ?_ | (refine rq_on rfl ?_; refine rq_v (op_pure rfl) ?_)
        first | refine rq_off rfl ?_ | (refine rq_on rfl ?_; refine rq_v (op_pure rfl) ?_)
        first | refine rq_off rfl ?_ | (refine rq_on rfl ?_; refine rq_v (op_fieldAddr Try.underlying139 rfl Try.sizeOf2 rfl rfl) ?_)
        first | refine rq_off rfl ?_ | (refine rq_on rfl ?_; refine rq_r (fun wq hq => op_loadB Try.underlying2 rfl rfl (hB.gr (S.gr hq).out) rfl) ?_)
        first | refine rq_off rfl ?_ | (refine rq_on rfl ?_; refine rq_v (op_rng rfl (by omega)) ?_)
        first | refine rq_off rfl ?_ | (refine rq_on rfl ?_; (first | refine rq_v (op_b (b := true) rfl (beq_iff_eq.2 (by omega))) ?_ | refine rq_v (op_b (b := false) rfl (beq_eq_false_iff_ne.2 (by omega))) ?_ | refine rq_v (op_pure rfl) ?_))
        refine rq_v (op_pure rfl) ?_
        refine rq_nil ?_
        intro w5_ g5_
        have S := S.gr g5_
        first | refine rw_end ?_ | (refine rw_nil ?_; show CW _ _ _ _ _ _) | refine rw_nil ?_
        exact ⟨⟨rfl, rfl, rfl, rfl, trivial⟩, S⟩
      · have hok := hok rfl
        repeat refine cw_seq ?_
        refine cw_draw (C := fun wq => Gr w1 wq) [0, 1, 2, 3, 4, 5, 6, 7, 8, 9, 10, 11, 12, 13, 14, 15, 16, 17, 18, 19, 20] [] (by kernel_rfl) (by kernel_rfl) (Gr.drew _) ?_
        simp only [pickL, List.drop_succ_cons, List.drop_zero]
        iterate 2 refine rq_v (op_pure rfl) ?_
        first | refine rq_off rfl ?_ | (refine rq_on rfl ?_; refine rq_v (op_pure rfl) ?_)
        first | refine rq_off rfl ?_ | (refine rq_on rfl ?_; refine rq_v (op_pure rfl) ?_)
        first | refine rq_off rfl ?_ | (refine rq_on rfl ?_; refine rq_v (op_conv Try.underlying2 Try.underlying148 rfl (i32_in _ hv)) ?_)
        first | refine rq_off rfl ?_ | (refine rq_on rfl ?_; (first | refine rq_v (op_b (b := true) rfl (beq_iff_eq.2 (by omega))) ?_ | refine rq_v (op_b (b := false) rfl (beq_eq_false_iff_ne.2 (by omega))) ?_ | refine rq_v (op_pure rfl) ?_))
        iterate 2 refine rq_v (op_pure rfl) ?_
        first | refine rq_off rfl ?_ | (refine rq_on rfl ?_; refine rq_r (fun wq hq => op_loadAB Try.underlying61 rfl (Try.sizeOf61 _) rfl ((S.gr hq).blk (i := 0) rfl) rfl rfl) ?_)
        first | refine rq_off rfl ?_ | (refine rq_on rfl ?_; refine rq_call rfl (fun wq hq => (area_E _ _ _ _ (by omega) wq).mono (fun _ _ ⟨hv, hg⟩ => ⟨hv, hq.trans hg⟩)) ?_)
        first | refine rq_off rfl ?_ | (refine rq_on rfl ?_; refine rq_v (op_pure rfl) ?_)
        first | refine rq_off rfl ?_ | (refine rq_on rfl ?_; refine rq_v (op_pure rfl) ?_)
        first | refine rq_off rfl ?_ | (refine rq_on rfl ?_; refine rq_v (op_fieldAddr Try.underlying139 rfl Try.sizeOf2 rfl rfl) ?_)
        first | refine rq_off rfl ?_ | (refine rq_on rfl ?_; refine rq_r (fun wq hq => op_loadB Try.underlying2 rfl rfl (hB.gr (S.gr hq).out) rfl) ?_)
        first | refine rq_off rfl ?_ | (refine rq_on rfl ?_; refine rq_v (op_pure rfl) ?_)
        first | refine rq_off rfl ?_ | (refine rq_on rfl ?_; refine rq_v (op_pure rfl) ?_)
        first | refine rq_off rfl ?_ | (refine rq_on rfl ?_; refine rq_v (op_fieldAddr Try.underlying139 rfl Try.sizeOf2 rfl rfl) ?_)
        first | refine rq_off rfl ?_ | (refine rq_on rfl ?_; refine rq_r (fun wq hq => op_loadB Try.underlying2 rfl rfl (hB.gr (S.gr hq).out) rfl) ?_)
        first | refine rq_off rfl ?_ | (refine rq_on rfl ?_; refine rq_v (op_rng rfl (by omega)) ?_)
        first | refine rq_off rfl ?_ | (refine rq_on rfl ?_; (first | refine rq_v (op_b (b := true) rfl (beq_iff_eq.2 (by omega))) ?_ | refine rq_v (op_b (b := false) rfl (beq_eq_false_iff_ne.2 (by omega))) ?_ | refine rq_v (op_pure rfl) ?_))
        refine rq_v (op_pure rfl) ?_
        refine rq_nil ?_
        intro w6_ g6_
        have S := S.gr g6_
        first | refine rw_end ?_ | (refine rw_nil ?_; show CW _ _ _ _ _ _) | refine rw_nil ?_
        exact ⟨⟨rfl, rfl, rfl, rfl, trivial⟩, S⟩
    · rintro e2 w2 ⟨hsl, S⟩
      have hle2 := S.le
      rw [hsl.fold]
      repeat refine cw_seq ?_
      refine cw_false rfl ?_
      repeat refine cw_seq ?_
      refine cw_skip ?_
      try show CW _ _ _ _ _ _
      repeat refine cw_seq ?_
      refine cw_cutT (M := fun e w => ∃ (g cap C : Nat), SL e [(0, .pointer (some ⟨b, 0, none⟩)), (2, .int .i64 v), (4, .pointer (some ⟨b_rc, 0, none⟩)), (10, .pointer (some ⟨C, 0, none⟩))] ∧ (R = some g ∨ W.heap.size ≤ g) ∧ St (fun g => g = b ∨ R = some g) W w [.blk C 157 [.slice (some ⟨g, 0, none⟩) (sw * sh) cap], .row 21 1 (some ⟨g, 0, none⟩) (sw * sh) cap (cellsI (sw * sh) c), .blk b 139 [.int .i64 sw, .int .i64 sh, .iface 157 (.slice (some ⟨g, 0, none⟩) (sw * sh) cap)], .blk b_rc 61 [.int .i64 x0, .int .i64 y0, .int .i64 x1, .int .i64 y1]]) ?_ ?_
      · cases R with
        | none =>
          obtain ⟨_, x, hB', hxr, hcx⟩ := hS
          have S := (S.own1 (.blk b 139 [.int .i64 sw, .int .i64 sh, .iface 148 (.int .i32 x)]) hB').frw (F' := fun g => g = b ∨ none = some g) (fun g h => .inl h)
          repeat refine cw_seq ?_
          refine cw_region ?_
          refine rw_v (op_pure rfl) ?_
          refine rw_call rfl (sroughNew_E b sw sh x hxr hw hh w2 (S.blk (i := 0) rfl)) ?_
          rintro _ w7_ ⟨g, rfl, hge, hB2, hR2, hF2⟩
          have S := S.setPush (i := 0) (h' := .blk b 139 _) (h2 := .row 21 1 (some ⟨g, 0, none⟩) (sw * sh) (sw * sh) (cellsI (sw * sh) c)) rfl rfl hF2 (fun g h => .inl h) hB2 (fun g h => .inl h) ((Row.of_blk hR2 (by simp) (by unfold maxLen; omega)).congr (cellsI_const hcx).symm) (fun b' hb' => by have := ownA_eq hb'; omega) (fun b' hb' hb2 => by have := ownA_eq hb'; have h3 := hB'.lt; have : b' = b := hb2; omega)
          refine rw_newB (op_alloc Try.zeroValue157 rfl) S ?_
          intro b_C w9_ g9_ S
          refine rw_storeS (i := 0) S rfl (Try.sizeOf157 _) rfl rfl rfl rfl rfl rfl ?_
          intro w10_ S
          first | refine rw_end ?_ | (refine rw_nil ?_; show CW _ _ _ _ _ _) | refine rw_nil ?_
          exact ⟨g, _, _, ⟨rfl, rfl, rfl, rfl, trivial⟩, .inr (by omega), S⟩
        | some g =>
          obtain ⟨_, cap, hB', hR'⟩ := hS
          have S := (S.own2 (.row 21 1 (some ⟨g, 0, none⟩) (sw * sh) cap (cellsI (sw * sh) c)) (.blk b 139 [.int .i64 sw, .int .i64 sh, .iface 157 (.slice (some ⟨g, 0, none⟩) (sw * sh) cap)]) hR' hB'
            (fun g' h1 h2 => blk_ne_row hB' hR' (by decide) (by have : g' = b := h2; rw [← this]; exact h1))).frw (F' := fun g' => g' = b ∨ some g = some g') (fun g' h => h.elim (fun e => .inr e) .inl)
          repeat refine cw_seq ?_
          refine cw_region ?_
          refine rw_v (op_pure rfl) ?_
          refine rw_call rfl (srough_E b _ _ _ _ _ w2 (S.blk (i := 1) rfl)) ?_
          rintro _ w11_ ⟨rfl, g11_⟩
          have S := S.gr g11_
          refine rw_newB (op_alloc Try.zeroValue157 rfl) S ?_
          intro b_C w13_ g13_ S
          refine rw_storeS (i := 0) S rfl (Try.sizeOf157 _) rfl rfl rfl rfl rfl rfl ?_
          intro w14_ S
          first | refine rw_end ?_ | (refine rw_nil ?_; show CW _ _ _ _ _ _) | refine rw_nil ?_
          exact ⟨g, _, _, ⟨rfl, rfl, rfl, rfl, trivial⟩, .inl rfl, S⟩
      · rintro e3 w3 ⟨g, cap, C, hsl, hg, S⟩
        rw [hsl.fold]
        have hcap := (S.row (i := 1) rfl).cap
        have sa_Rr : SomeA (some ⟨g, 0, none⟩) := someA_some _ _
        repeat refine cw_seq ?_
        refine cw_region ?_
        refine rw_v (op_fieldAddr Try.underlying61 rfl Try.sizeOf2 rfl rfl) ?_
        refine rw_r (op_loadB Try.underlying2 rfl rfl (S.blk (i := 3) rfl) rfl) ?_
        refine rw_v (op_pure rfl) ?_
        first | refine rw_end ?_ | (refine rw_nil ?_; show CW _ _ _ _ _ _) | refine rw_nil ?_
        repeat refine cw_seq ?_
        refine cw_block ?_
        repeat refine cw_seq ?_
        refine cw_loop (fun m e w => ∃ Y : Int, y0 ≤ Y ∧ Y + m = y1 + 1 ∧ SL e [(0, .pointer (some ⟨b, 0, none⟩)), (2, .int .i64 v), (4, .pointer (some ⟨b_rc, 0, none⟩)), (10, .pointer (some ⟨C, 0, none⟩)), (11, .int .i64 Y)] ∧ St (fun g => g = b ∨ R = some g) W w [.blk C 157 [.slice (some ⟨g, 0, none⟩) (sw * sh) cap], .row 21 1 (some ⟨g, 0, none⟩) (sw * sh) cap (cellsI (sw * sh) (fillC sw x0 y0 x1 (Y - 1) v c)), .blk b 139 [.int .i64 sw, .int .i64 sh, .iface 157 (.slice (some ⟨g, 0, none⟩) (sw * sh) cap)], .blk b_rc 61 [.int .i64 x0, .int .i64 y0, .int .i64 x1, .int .i64 y1]]) (y1 + 1 - y0).toNat
          ⟨y0, by omega, by omega, ⟨rfl, rfl, rfl, rfl, rfl, trivial⟩, by rw [cellsI_congr (c' := c) (fun i _ => fillC_empty (by omega) i)]; exact S⟩ ?_
        rintro m e w ⟨Y, hY0, hY1, hsl, S⟩
        rw [hsl.fold]
        repeat refine cw_seq ?_
        refine cw_region ?_
        refine rw_v (op_pure rfl) ?_
        refine rw_v (op_fieldAddr Try.underlying61 rfl Try.sizeOf2 rfl rfl) ?_
        refine rw_r (op_loadB Try.underlying2 rfl rfl (S.blk (i := 3) rfl) rfl) ?_
        refine rw_v (op_pure rfl) ?_
        first | refine rw_end ?_ | (refine rw_nil ?_; show CW _ _ _ _ _ _) | refine rw_nil ?_
        repeat refine cw_seq ?_
        refine cw_cond rfl (fun hc => ?_) (fun hc => ?_)
        · try simp only [decide_eq_true_eq, decide_eq_false_iff_not, beq_iff_eq, bne_iff_ne, beq_eq_false_iff_ne, bne_eq_false_iff_eq, Bool.not_eq_true', Bool.not_eq_false', ne_eq, Decidable.not_not, Int.natCast_inj, Int.ofNat_lt, Int.ofNat_le, gt_iff_lt, ge_iff_le, Int.not_lt, Int.not_le] at hc
          have hb := mul_bound (sw := sw) (sh := sh) (Y := Y) (by omega) (by omega)
          repeat refine cw_seq ?_
          refine cw_skip ?_
          try show CW _ _ _ _ _ _
          repeat refine cw_seq ?_
          refine cw_block ?_
          repeat refine cw_seq ?_
          refine cw_draw (C := fun wq => Gr w wq) [0, 1, 2, 3, 4, 5, 6, 7, 8, 9, 10, 11, 12, 13, 14, 15] [] (by kernel_rfl) (by kernel_rfl) (Gr.drew _) ?_
          simp only [pickL, List.drop_succ_cons, List.drop_zero]
          refine rq_r (fun wq hq => op_loadB Try.underlying157 rfl rfl ((S.gr hq).blk (i := 0) rfl) rfl) ?_
          iterate 3 refine rq_v (op_pure rfl) ?_
          refine rq_v (op_fieldAddr Try.underlying139 rfl Try.sizeOf2 rfl rfl) ?_
          refine rq_r (fun wq hq => op_loadB Try.underlying2 rfl rfl ((S.gr hq).blk (i := 2) rfl) rfl) ?_
          refine rq_v (op_rng rfl (by omega)) ?_
          refine rq_v (op_pure rfl) ?_
          refine rq_v (op_rng rfl (by omega)) ?_
          iterate 2 refine rq_v (op_pure rfl) ?_
          refine rq_v (op_fieldAddr Try.underlying139 rfl Try.sizeOf2 rfl rfl) ?_
          refine rq_r (fun wq hq => op_loadB Try.underlying2 rfl rfl ((S.gr hq).blk (i := 2) rfl) rfl) ?_
          refine rq_v (op_rng rfl (by omega)) ?_
          refine rq_v (op_slice_lh Try.underlying157 Try.sizeOf21 rfl rfl rfl (by omega) (by omega) (by omega) (by omega)) ?_
          refine rq_v (op_pure rfl) ?_
          refine rq_nil ?_
          intro w15_ g15_
          have S := S.gr g15_
          first | refine rw_end ?_ | (refine rw_nil ?_; show CW _ _ _ _ _ _) | refine rw_nil ?_
          repeat refine cw_seq ?_
          refine cw_region ?_
          refine rw_v (op_fieldAddr Try.underlying61 rfl Try.sizeOf2 rfl rfl) ?_
          refine rw_r (op_loadB Try.underlying2 rfl rfl (S.blk (i := 3) rfl) rfl) ?_
          refine rw_v (op_pure rfl) ?_
          first | refine rw_end ?_ | (refine rw_nil ?_; show CW _ _ _ _ _ _) | refine rw_nil ?_
          repeat refine cw_seq ?_
          refine cw_block ?_
          repeat refine cw_seq ?_
          refine cw_loop (fun m e w => ∃ X : Int, x0 ≤ X ∧ X + m = x1 + 1 ∧ SL e [(0, .pointer (some ⟨b, 0, none⟩)), (2, .int .i64 v), (4, .pointer (some ⟨b_rc, 0, none⟩)), (10, .pointer (some ⟨C, 0, none⟩)), (11, .int .i64 Y), (12, .slice (some ⟨g, 0 + (Y * sw).toNat * 1, none⟩) (((Y + 1) * sw).toNat - (Y * sw).toNat) (cap - (Y * sw).toNat)), (13, .int .i64 X)] ∧ St (fun g => g = b ∨ R = some g) W w [.blk C 157 [.slice (some ⟨g, 0, none⟩) (sw * sh) cap], .row 21 1 (some ⟨g, 0, none⟩) (sw * sh) cap (cellsI (sw * sh) (fillC sw x0 Y (X - 1) Y v (fillC sw x0 y0 x1 (Y - 1) v c))), .blk b 139 [.int .i64 sw, .int .i64 sh, .iface 157 (.slice (some ⟨g, 0, none⟩) (sw * sh) cap)], .blk b_rc 61 [.int .i64 x0, .int .i64 y0, .int .i64 x1, .int .i64 y1]]) (x1 + 1 - x0).toNat
            ⟨x0, by omega, by omega, ⟨rfl, rfl, rfl, rfl, rfl, rfl, rfl, trivial⟩, by rw [cellsI_congr (fun i _ => fillC_empty (c := fillC sw x0 y0 x1 (Y - 1) v c) (by omega) i)]; exact S⟩ ?_
          rintro m' e w ⟨X, hX0, hX1, hsl, S⟩
          rw [hsl.fold]
          repeat refine cw_seq ?_
          refine cw_region ?_
          refine rw_v (op_pure rfl) ?_
          refine rw_v (op_fieldAddr Try.underlying61 rfl Try.sizeOf2 rfl rfl) ?_
          refine rw_r (op_loadB Try.underlying2 rfl rfl (S.blk (i := 3) rfl) rfl) ?_
          refine rw_v (op_pure rfl) ?_
          first | refine rw_end ?_ | (refine rw_nil ?_; show CW _ _ _ _ _ _) | refine rw_nil ?_
          repeat refine cw_seq ?_
          refine cw_cond rfl (fun hc' => ?_) (fun hc' => ?_)
          · try simp only [decide_eq_true_eq, decide_eq_false_iff_not, beq_iff_eq, bne_iff_ne, beq_eq_false_iff_ne, bne_eq_false_iff_eq, Bool.not_eq_true', Bool.not_eq_false', ne_eq, Decidable.not_not, Int.natCast_inj, Int.ofNat_lt, Int.ofNat_le, gt_iff_lt, ge_iff_le, Int.not_lt, Int.not_le] at hc'
            repeat refine cw_seq ?_
            refine cw_skip ?_
            try show CW _ _ _ _ _ _
            repeat refine cw_seq ?_
            refine cw_block ?_
            repeat refine cw_seq ?_
            refine cw_region ?_
            iterate 3 refine rw_v (op_pure rfl) ?_
            refine rw_v (op_conv Try.underlying2 Try.underlying21 rfl (i32_in _ hv)) ?_
            refine rw_v (op_indexAddr Try.underlying157 Try.sizeOf21 rfl rfl (by omega) (by omega)) ?_
            refine rw_storeR (i := 1) S rfl (Try.sizeOf21 _) (j := (Y * sw + X).toNat) (ptr_eq (by have := hY0; rw [Nat.mul_one, Nat.mul_one]; omega)) rfl rfl rfl (by rw [cellsI_len]; omega) rfl ?_
            intro w16_ S
            first | refine rw_end ?_ | (refine rw_nil ?_; show CW _ _ _ _ _ _) | refine rw_nil ?_
            repeat refine cw_seq ?_
            refine cw_region ?_
            refine rw_v (op_pure rfl) ?_
            refine rw_v (op_rng rfl (by omega)) ?_
            refine rw_v (op_pure rfl) ?_
            first | refine rw_end ?_ | (refine rw_nil ?_; show CW _ _ _ _ _ _) | refine rw_nil ?_
            rw [cellsI_set (fun i _ => fillC_cell (by omega) hX0 (by omega) i)] at S
            exact ⟨m' - 1, by omega, X + 1, by omega, by omega, ⟨rfl, rfl, rfl, rfl, rfl, rfl, rfl, trivial⟩, by rw [show X + 1 - 1 = X by omega]; exact S⟩
          · try simp only [decide_eq_true_eq, decide_eq_false_iff_not, beq_iff_eq, bne_iff_ne, beq_eq_false_iff_ne, bne_eq_false_iff_eq, Bool.not_eq_true', Bool.not_eq_false', ne_eq, Decidable.not_not, Int.natCast_inj, Int.ofNat_lt, Int.ofNat_le, gt_iff_lt, ge_iff_le, Int.not_lt, Int.not_le] at hc'
            repeat refine cw_seq ?_
            refine cw_exit ?_
            repeat first | refine exit_then ?_ | refine exit_inb ?_
            show CW _ _ _ _ _ _
            repeat refine cw_seq ?_
            refine cw_region ?_
            refine rw_v (op_pure rfl) ?_
            refine rw_v (op_rng rfl (by omega)) ?_
            refine rw_v (op_pure rfl) ?_
            first | refine rw_end ?_ | (refine rw_nil ?_; show CW _ _ _ _ _ _) | refine rw_nil ?_
            obtain rfl : X = x1 + 1 := by omega
            refine ⟨m - 1, by omega, Y + 1, by omega, by omega, ⟨rfl, rfl, rfl, rfl, rfl, trivial⟩, ?_⟩
            rw [show x1 + 1 - 1 = x1 by omega, cellsI_congr (fun i _ => fillC_row hY0 i)] at S
            rw [show Y + 1 - 1 = Y by omega]
            exact S
        · try simp only [decide_eq_true_eq, decide_eq_false_iff_not, beq_iff_eq, bne_iff_ne, beq_eq_false_iff_ne, bne_eq_false_iff_eq, Bool.not_eq_true', Bool.not_eq_false', ne_eq, Decidable.not_not, Int.natCast_inj, Int.ofNat_lt, Int.ofNat_le, gt_iff_lt, ge_iff_le, Int.not_lt, Int.not_le] at hc
          repeat refine cw_seq ?_
          refine cw_exit ?_
          repeat first | refine exit_then ?_ | refine exit_inb ?_
          show CW _ _ _ _ _ _
          obtain rfl : Y = y1 + 1 := by omega
          rw [show y1 + 1 - 1 = y1 by omega] at S
          have hR := S.row (i := 1) rfl
          have e0 : cellsI (sw * sh) (fillC sw x0 y0 x1 y1 v c) = ((List.range (sw * sh)).map (fillC sw x0 y0 x1 y1 v c)).map (.int .i32) := by simp [cellsI]
          obtain ⟨n', hn'⟩ : ∃ n', sw * sh = n' + 1 := ⟨sw * sh - 1, by omega⟩
          have hp0 : (cellsI (sw * sh) (fillC sw x0 y0 x1 y1 v c))[0]? = some (.int .i32 (fillC sw x0 y0 x1 y1 v c 0)) := cellsI_get (by omega)
          have e1 : .int .i32 (fillC sw x0 y0 x1 y1 v c 0) :: (cellsI (sw * sh) (fillC sw x0 y0 x1 y1 v c)).tail = cellsI (sw * sh) (fillC sw x0 y0 x1 y1 v c) := by
            unfold cellsI; rw [hn', List.range_succ_eq_map]; simp
          cases hany : ((List.range (sw * sh)).map (fillC sw x0 y0 x1 y1 v c)).any (fun x => x != fillC sw x0 y0 x1 y1 v c 0)
          · have hall : ∀ i, i < sw * sh → fillC sw x0 y0 x1 y1 v c i = fillC sw x0 y0 x1 y1 v c 0 := fun i hi => by
              have := List.any_eq_false.1 hany _ (List.mem_map.2 ⟨i, List.mem_range.2 hi, rfl⟩)
              simpa using this
            repeat refine cw_seq ?_
            refine cw_region ?_
            refine rw_r (op_loadB Try.underlying157 rfl rfl (S.blk (i := 0) rfl) rfl) ?_
            refine rw_v (op_pure rfl) ?_
            refine rw_call rfl (containsFunc32_E _ _ _ 92 [.pointer (some ⟨C, 0, none⟩)] ((List.range (sw * sh)).map (fillC sw x0 y0 x1 y1 v c)) (by simp) (by omega) (fun x => x != fillC sw x0 y0 x1 y1 v c 0) w (by rw [← e0]; exact (S.rd (i := 1) rfl)) (fun x hx w' g => fillC_E C _ (sw * sh) cap x _ _ (by omega) w' ((S.blk (i := 0) rfl).gr g) (by rw [e1]; exact ((S.rd (i := 1) rfl).gr g)))) ?_
            rintro _ w17_ ⟨rfl, g17_⟩
            have S := S.gr g17_
            rw [hany]
            refine rw_v (op_pure rfl) ?_
            first | refine rw_end ?_ | (refine rw_nil ?_; show CW _ _ _ _ _ _) | refine rw_nil ?_
            repeat refine cw_seq ?_
            refine cw_true rfl ?_
            repeat refine cw_seq ?_
            refine cw_region ?_
            refine rw_v (op_pure rfl) ?_
            refine rw_r (op_loadB Try.underlying157 rfl rfl (S.blk (i := 0) rfl) rfl) ?_
            refine rw_v (op_idx Try.underlying157 Try.sizeOf21 rfl rfl sa_Rr (by omega) (by omega)) ?_
            refine rw_r (op_ldR Try.underlying21 rfl rfl (S.rd (i := 1) rfl) hp0) ?_
            refine rw_v (op_iface Try.underlying148 rfl rfl) ?_
            refine rw_v (op_pure rfl) ?_
            refine rw_v (op_fieldAddr Try.underlying139 rfl Try.sizeOf137 rfl rfl) ?_
            refine rw_storeS (i := 2) S rfl (Try.sizeOf137 _) rfl rfl rfl rfl rfl rfl ?_
            intro w18_ S
            first | refine rw_end ?_ | (refine rw_nil ?_; show CW _ _ _ _ _ _) | refine rw_nil ?_
            repeat refine cw_seq ?_
            refine cw_region ?_
            refine rw_v (op_pure rfl) ?_
            first | refine rw_end ?_ | (refine rw_nil ?_; show CW _ _ _ _ _ _) | refine rw_nil ?_
            repeat refine cw_seq ?_
            refine cw_ret ?_
            repeat first | refine ret_then ?_ | refine ret_inb ?_
            exact res1 rfl ⟨rfl, none, ⟨hmay, _, S.blk (i := 2) rfl, hmay 0 (by omega), hall⟩, S.fr.weak (fun g h => h), (fun g h => by cases h)⟩
          · skip
            repeat refine cw_seq ?_
            refine cw_region ?_
            refine rw_r (op_loadB Try.underlying157 rfl rfl (S.blk (i := 0) rfl) rfl) ?_
            refine rw_v (op_pure rfl) ?_
            refine rw_call rfl (containsFunc32_E _ _ _ 92 [.pointer (some ⟨C, 0, none⟩)] ((List.range (sw * sh)).map (fillC sw x0 y0 x1 y1 v c)) (by simp) (by omega) (fun x => x != fillC sw x0 y0 x1 y1 v c 0) w (by rw [← e0]; exact (S.rd (i := 1) rfl)) (fun x hx w' g => fillC_E C _ (sw * sh) cap x _ _ (by omega) w' ((S.blk (i := 0) rfl).gr g) (by rw [e1]; exact ((S.rd (i := 1) rfl).gr g)))) ?_
            rintro _ w19_ ⟨rfl, g19_⟩
            have S := S.gr g19_
            rw [hany]
            refine rw_v (op_pure rfl) ?_
            first | refine rw_end ?_ | (refine rw_nil ?_; show CW _ _ _ _ _ _) | refine rw_nil ?_
            repeat refine cw_seq ?_
            refine cw_false rfl ?_
            repeat refine cw_seq ?_
            refine cw_skip ?_
            try show CW _ _ _ _ _ _
            repeat refine cw_seq ?_
            refine cw_region ?_
            refine rw_v (op_pure rfl) ?_
            first | refine rw_end ?_ | (refine rw_nil ?_; show CW _ _ _ _ _ _) | refine rw_nil ?_
            repeat refine cw_seq ?_
            refine cw_ret ?_
            repeat first | refine ret_then ?_ | refine ret_inb ?_
            exact res1 rfl ⟨rfl, some g, ⟨hmay, cap, S.blk (i := 2) rfl, S.row (i := 1) rfl⟩, S.fr.weak (fun g h => h), (fun g' h => by injection h with h; subst h; exact hg)⟩

theorem sfill_E (b sw sh : Nat) (R : Option Nat) (c : Nat → Int) (x0 y0 x1 y1 v : Int) (hw : 1 ≤ sw ∧ sw ≤ 16) (hh : 1 ≤ sh ∧ sh ≤ 16) (hx : 0 ≤ x0 ∧ x0 ≤ x1 ∧ x1 < sw) (hy : 0 ≤ y0 ∧ y0 ≤ y1 ∧ y1 < sh) (hv : -2147483648 ≤ v ∧ v ≤ 2147483647) (W : World) (hS : SlabIs W b R sw sh c) :
    Fn Try.prog 83 [.pointer (some ⟨b, 0, none⟩), .agg #[.int .i64 x0, .int .i64 y0, .int .i64 x1, .int .i64 y1], .int .i64 v] W
      (fun r w' => r = .int .i64 0 ∧ SlabP W b R sw sh (fillC sw x0 y0 x1 y1 v c) w') := by
  have hmay := hS.mayC (x0 := x0) (y0 := y0) (x1 := x1) (y1 := y1) hv
  have hmi : (sw : Int) * sh = ((sw * sh : Nat) : Int) := by push_cast; rfl
  have flat : ∀ cl, (cl = .iface 148 (.int .i32 v) ∨ ((∃ u, cl = .iface 148 (.int .i32 u) ∧ u ≠ v) ∨ (∃ A n c, cl = .iface 157 (.slice A n c))) ∧ (x1 - x0 + 1) * (y1 - y0 + 1) = sw * sh) → Blk W b 139 [.int .i64 sw, .int .i64 sh, cl] →
      (∀ i, i < sw * sh → fillC sw x0 y0 x1 y1 v c i = v) → Fn Try.prog 83 [.pointer (some ⟨b, 0, none⟩), .agg #[.int .i64 x0, .int .i64 y0, .int .i64 x1, .int .i64 y1], .int .i64 v] W
      (fun r w' => r = .int .i64 0 ∧ SlabP W b R sw sh (fillC sw x0 y0 x1 y1 v c) w') := fun cl h1 hB hc =>
    (sfillFlat_E b sw sh R c x0 y0 x1 y1 v hw hh hx hy hv cl h1 W hB).mono fun r w' ⟨hr, hB', hF⟩ => ⟨hr, none, ⟨hmay, v, hB', hv, hc⟩, hF.weak (fun g h => .inl h), fun g h => by cases h⟩
  by_cases har : (x1 - x0 + 1) * (y1 - y0 + 1) = sw * sh
  · have hwh := whole_in hx hy har
    have hall : ∀ i, i < sw * sh → fillC sw x0 y0 x1 y1 v c i = v := fun i hi => by
      unfold fillC; rw [if_pos]; rw [hwh.1, hwh.2.1]; exact in_whole hw.1 hi hwh.2.2.1 hwh.2.2.2
    have hS2 := hS.2
    cases R with
    | none =>
      obtain ⟨x, hB, _, hcx⟩ := hS2
      by_cases hxv : x = v
      · subst hxv; exact flat _ (.inl rfl) hB hall
      · exact flat _ (.inr ⟨.inl ⟨x, rfl, hxv⟩, har⟩) hB hall
    | some g =>
      obtain ⟨cap, hB, _⟩ := hS2
      exact flat _ (.inr ⟨.inr ⟨_, _, _, rfl⟩, har⟩) hB hall
  · by_cases hfl : R = none ∧ Blk W b 139 [.int .i64 sw, .int .i64 sh, .iface 148 (.int .i32 v)]
    · obtain ⟨rfl, hB⟩ := hfl
      obtain ⟨x, hB', _, hcx⟩ := hS.2
      obtain rfl : x = v := by have := (hB'.inj hB).2; simpa using this
      refine flat _ (.inl rfl) hB fun i hi => ?_
      unfold fillC
      split
      · rfl
      · exact hcx i hi
    · exact sfillRough_E b sw sh R c x0 y0 x1 y1 v hw hh hx hy hv har W hS (fun hR u hB hu => hfl ⟨hR, hu ▸ hB⟩)
end Go.Proofs.Ytiidmiebckkloaa
/- Regions that draw their order: two special operations that come up side by side, in both orders. -/
namespace Go.Proofs.Ytiidmiebckkloaa
open Go.RowKit
set_option linter.unusedVariables false
set_option linter.unusedSimpArgs false

section
variable {P : Program} {ops : Array Oper} {C : List Value → World → Prop} {sp pr : Nat → Bool}
def headPB (ops : Array Oper) (sp pr : Nat → Bool) (tl : List Nat) : List Nat → Array Bool → Bool
  | [], listed => tailB ops tl listed
  | [i], listed => (match sp i with
    | true => decide (Region.ready .any ops listed = [i])
    | false => (Region.ready .any ops listed).contains i && Region.free .any ops listed i) && tailB ops tl (listed.setIfInBounds i true)
  | i :: j :: hd, listed => match pr i with
    | true => sp i && sp j && decide (Region.ready .any ops listed = [i, j]) && decide (Region.ready .any ops (listed.setIfInBounds i true) = [j]) && decide (Region.ready .any ops (listed.setIfInBounds j true) = [i]) && headPB ops sp pr tl hd ((listed.setIfInBounds i true).setIfInBounds j true)
    | false => (match sp i with
      | true => decide (Region.ready .any ops listed = [i])
      | false => (Region.ready .any ops listed).contains i && Region.free .any ops listed i) && headPB ops sp pr tl (j :: hd) (listed.setIfInBounds i true)
def orderPB (ops : Array Oper) (sp pr : Nat → Bool) (hd tl : List Nat) : Bool :=
  Region.noSelect ops && decide (hd.length + tl.length = ops.size) && ((List.range ops.size).all fun i => hd.contains i || tl.contains i) &&
  (tl.all fun t => hd.all fun i => (ancsOf ops ops.size t).contains i) && (tl.all fun t => !hd.contains t) && headPB ops sp pr tl hd (Array.replicate ops.size false)
/-- one step of the walk -/
def wp1 (P : Program) (ops : Array Oper) (C : List Value → World → Prop) (sp : Nat → Bool) (i : Nat) (o : Oper) (K : List Value → Act → Prop) (σ : List Value) (a : Act) : Prop :=
  if Region.wanted o (yielded ops a.tmps) then
    match sp i with
    | true => (∀ w, C σ w → yieldsTo P o a w fun v w' => C (v :: σ) w') ∧ ∀ v w', C (v :: σ) w' → K (v :: σ) (a.put o.dst v)
    | false => ∃ v, (∀ τ w, C τ w → yieldsTo P o a w fun u w' => u = v ∧ C τ w') ∧ K σ (a.put o.dst v)
  else K σ (a.put o.dst undef)
def wpP (P : Program) (ops : Array Oper) (C : List Value → World → Prop) (sp pr : Nat → Bool) (Lq : List Value → Act → Prop) : List (Nat × Oper) → List Value → Act → Prop
  | [], σ, a => Lq σ a
  | [(i, o)], σ, a => wp1 P ops C sp i o Lq σ a
  | (i, o) :: (j, o') :: rest, σ, a => match pr i with
    | true => wp1 P ops C sp i o (wp1 P ops C sp j o' (wpP P ops C sp pr Lq rest)) σ a ∧ wp1 P ops C sp j o' (wp1 P ops C sp i o (wpP P ops C sp pr Lq rest)) σ a
    | false => wp1 P ops C sp i o (wpP P ops C sp pr Lq ((j, o') :: rest)) σ a
theorem sOp_of_wp1 {i : Nat} {o : Oper} {K K' : List Value → Act → Prop} {σ : List Value} {a : Act} (h0 : ops[i]? = some o) (hK : ∀ σ a, K σ a → K' σ a) (h : wp1 P ops C sp i o K σ a) : sOp P ops C sp i K' σ a := by
  refine sOp_mono hK ?_
  unfold sOp
  rw [h0]
  exact h
/-- a plain step, moved ahead of all -/
theorem headS_plain {hd tl : List Nat} {Lq : List Value → Act → Prop} (hsel : Region.noSelect ops = true)
    (hcov : ∀ i, i < ops.size → i ∈ hd ∨ i ∈ tl) (hanc : ∀ t ∈ tl, ∀ i ∈ hd, i ∈ ancsOf ops ops.size t) (hdis : ∀ t ∈ tl, t ∉ hd)
    {i : Nat} {o : Oper} {f : Nat} {listed : Array Bool} {σ : List Value} {a : Act} (h0 : ops[i]? = some o) (hs : sp i = false) (hin : i ∈ hd) (hcl : ClosedL ops listed) (hr : i ∈ Region.ready .any ops listed) (hf : Region.free .any ops listed i = true)
    {K : List Value → Act → Prop} (hq : wp1 P ops C sp i o K σ a) (rec_ : ∀ σ a, K σ a → headS P ops C sp hd (fun listed' σ' a' => tailB ops tl listed' = true ∧ Lq σ' a') f (listed.setIfInBounds i true) σ a) :
    headS P ops C sp hd (fun listed' σ' a' => tailB ops tl listed' = true ∧ Lq σ' a') (f + 1) listed σ a := by
  unfold wp1 at hq
  rw [hs] at hq
  have hy : ∃ v, YieldsS P ops C o v a ∧ K σ (a.put o.dst v) := by
    by_cases hw : Region.wanted o (yielded ops a.tmps) = true
    · rw [if_pos hw] at hq
      obtain ⟨v, h1, h2⟩ := hq
      exact ⟨v, .inl ⟨hw, h1⟩, h2⟩
    · rw [if_neg hw] at hq
      exact ⟨undef, .inr ⟨by simpa using hw, rfl⟩, hq⟩
  obtain ⟨v, hy, hK⟩ := hy
  refine headS_first h0 hs (Region.noSelect_spec hsel) ?_ ?_ f listed σ a hcl (Region.free_spec h0 hf) hr hy (rec_ _ _ hK)
  · intro listed' hcl' hun j hj
    obtain ⟨_, oj, hoj, _⟩ := mem_ready.1 hj
    have hjs : j < ops.size := (Array.getElem?_eq_some_iff.1 hoj).1
    rcases hcov j hjs with hh | hh
    · exact hh
    · have hl1 := ancs_listed hcl' ops.size j (preds_ready hj) i (hanc j hh i hin)
      rcases Nat.lt_or_ge i listed'.size with h' | h'
      · simp [h'] at hun hl1; rw [hun] at hl1; cases hl1
      · simp [Array.getElem?_eq_none h'] at hl1
  · intro listed' σ' a' hL j hj hjh
    have hB := hL.1
    cases htl : tl with
    | nil => simp only [htl, tailB, List.isEmpty_iff] at hB; rw [hB] at hj; cases hj
    | cons t tl' =>
      simp only [htl, tailB, Bool.and_eq_true, decide_eq_true_eq] at hB
      rw [hB.1] at hj
      have : j = t := by simpa using hj
      subst this
      exact hdis j (by simp [htl]) hjh
/-- a special step, alone -/
theorem headS_alone {hd : List Nat} {L : Array Bool → List Value → Act → Prop} {i : Nat} {o : Oper} {f : Nat} {listed : Array Bool} {σ : List Value} {a : Act} (h0 : ops[i]? = some o) (hin : i ∈ hd) (hr : Region.ready .any ops listed = [i])
    {K : List Value → Act → Prop} (hq : wp1 P ops C sp i o K σ a) (rec_ : ∀ σ a, K σ a → headS P ops C sp hd L f (listed.setIfInBounds i true) σ a) : headS P ops C sp hd L (f + 1) listed σ a := by
  refine ⟨by rw [hr]; simp, fun j hj => ?_⟩
  rw [hr] at hj
  obtain rfl : j = i := by simpa using hj
  exact ⟨hin, sOp_of_wp1 h0 rec_ hq⟩
theorem headP_lex {hd tl : List Nat} {Lq : List Value → Act → Prop} (hsel : Region.noSelect ops = true)
    (hcov : ∀ i, i < ops.size → i ∈ hd ∨ i ∈ tl) (hanc : ∀ t ∈ tl, ∀ i ∈ hd, i ∈ ancsOf ops ops.size t) (hdis : ∀ t ∈ tl, t ∉ hd) :
    ∀ (n : Nat) (h : List Nat) (lh : List (Nat × Oper)) (listed : Array Bool) (σ : List Value) (a : Act), h.length ≤ n → (∀ i ∈ h, i ∈ hd) → h.map (fun i => (i, ops[i]?)) = lh.map (fun p => (p.1, some p.2)) → ClosedL ops listed → headPB ops sp pr tl h listed = true →
      wpP P ops C sp pr Lq lh σ a → headS P ops C sp hd (fun listed' σ' a' => tailB ops tl listed' = true ∧ Lq σ' a') h.length listed σ a := by
  intro n
  induction n with
  | zero =>
    intro h lh listed σ a hn _ hl _ hB hq
    obtain rfl : h = [] := List.eq_nil_of_length_eq_zero (by omega)
    have : lh = [] := by cases lh with | nil => rfl | cons => simp at hl
    subst this
    exact ⟨by simpa [headPB] using hB, hq⟩
  | succ n ih =>
    intro h lh listed σ a hn hin hl hcl hB hq
    cases h with
    | nil =>
      have : lh = [] := by cases lh with | nil => rfl | cons => simp at hl
      subst this
      exact ⟨by simpa [headPB] using hB, hq⟩
    | cons i h =>
      cases lh with
      | nil => simp at hl
      | cons p lh =>
        obtain ⟨i', o⟩ := p
        simp only [List.map_cons, List.cons.injEq, Prod.mk.injEq] at hl
        obtain ⟨⟨rfl, h0⟩, hl'⟩ := hl
        have single : ∀ {K : List Value → Act → Prop} {B : Bool}, wp1 P ops C sp i o K σ a → ((match sp i with
            | true => decide (Region.ready .any ops listed = [i])
            | false => (Region.ready .any ops listed).contains i && Region.free .any ops listed i) && B) = true →
            (∀ σ a, K σ a → i ∈ Region.ready .any ops listed → B = true → headS P ops C sp hd (fun listed' σ' a' => tailB ops tl listed' = true ∧ Lq σ' a') h.length (listed.setIfInBounds i true) σ a) →
            headS P ops C sp hd (fun listed' σ' a' => tailB ops tl listed' = true ∧ Lq σ' a') (i :: h).length listed σ a := fun {K B} hw hb rec_ => by
          simp only [Bool.and_eq_true] at hb
          cases hs : sp i with
          | true =>
            rw [hs] at hb
            have hr : Region.ready .any ops listed = [i] := by simpa using hb.1
            exact headS_alone h0 (hin i (by simp)) hr hw (fun σ a hk => rec_ σ a hk (by rw [hr]; simp) hb.2)
          | false =>
            rw [hs] at hb
            simp only [Bool.and_eq_true] at hb
            have hr : i ∈ Region.ready .any ops listed := by simpa using hb.1.1
            exact headS_plain hsel hcov hanc hdis h0 hs (hin i (by simp)) hcl hr hb.1.2 hw (fun σ a hk => rec_ σ a hk hr hb.2)
        cases h with
        | nil =>
          have : lh = [] := by cases lh with | nil => rfl | cons => simp at hl'
          subst this
          exact single hq hB (fun σ a hk _ hb => ⟨hb, hk⟩)
        | cons j h =>
          cases lh with
          | nil => simp at hl'
          | cons q lh =>
            obtain ⟨j', o'⟩ := q
            simp only [List.map_cons, List.cons.injEq, Prod.mk.injEq] at hl'
            obtain ⟨⟨rfl, h1⟩, hl''⟩ := hl'
            cases hp : pr i with
            | false =>
              simp only [headPB, hp] at hB
              simp only [wpP, hp] at hq
              exact single hq hB (fun σ a hk hr hb => ih (j :: h) ((j, o') :: lh) _ σ a (by simp at hn ⊢; omega) (fun k hk => hin k (List.mem_cons_of_mem _ hk)) (by simp [h1, hl'']) (hcl.set hr) hb hk)
            | true =>
              simp only [headPB, hp, Bool.and_eq_true, decide_eq_true_eq] at hB
              simp only [wpP, hp] at hq
              obtain ⟨⟨⟨⟨⟨hsi, hsj⟩, hr⟩, hri⟩, hrj⟩, hB'⟩ := hB
              have hne : i ≠ j := by
                rintro rfl
                have hc := (mem_ready.1 (show i ∈ Region.ready .any ops (listed.setIfInBounds i true) by rw [hri]; simp)).1
                have hlt := (Array.getElem?_eq_some_iff.1 h0).1
                have h2 : (listed.setIfInBounds i true).getD i true = true := by
                  rcases Nat.lt_or_ge i listed.size with h' | h'
                  · simp [h']
                  · simp [Array.getElem?_eq_none h']
                rw [h2] at hc
                cases hc
              have hci : ClosedL ops (listed.setIfInBounds i true) := hcl.set (by rw [hr]; simp)
              have hcj : ClosedL ops (listed.setIfInBounds j true) := hcl.set (by rw [hr]; simp)
              have hrest : ∀ σ a, wpP P ops C sp pr Lq lh σ a → headS P ops C sp hd (fun listed' σ' a' => tailB ops tl listed' = true ∧ Lq σ' a') h.length ((listed.setIfInBounds i true).setIfInBounds j true) σ a :=
                fun σ a hk => ih h lh _ σ a (by simp at hn; omega) (fun k hk => hin k (by simp [hk])) hl'' (hci.set (by rw [hri]; simp)) hB' hk
              refine ⟨by rw [hr]; simp, fun k hk => ?_⟩
              rw [hr] at hk
              simp only [List.mem_cons, List.not_mem_nil, or_false] at hk
              refine ⟨hin k (by rcases hk with rfl | rfl <;> simp), ?_⟩
              by_cases hki : k = i
              · subst hki
                exact sOp_of_wp1 h0 (fun σ a hw => headS_alone h1 (hin j (by simp)) hri hw hrest) hq.1
              · obtain rfl : k = j := by rcases hk with e | e; · exact absurd e hki
                                         · exact e
                refine sOp_of_wp1 h1 (fun σ a hw => headS_alone h0 (hin i (by simp)) hrj hw fun σ a hk => ?_) hq.2
                rw [Array.setIfInBounds_comm _ _ (Ne.symm hne)]
                exact hrest σ a hk

theorem wp_region_pair {ro : Option Nat} {id : Nat} {Q : Exit → Act → World → Prop} {a : Act} {w : World} {l : List Oper} (hd tl : List Nat) (lh : List (Nat × Oper)) (lt : List Oper) (hnd : (l.all fun o => !isDefer o.op) = true) (hm : P.follows .mixedOrders = true)
    (hB : orderPB l.toArray sp pr hd tl = true) (hh : hd.map (fun i => (i, l.toArray[i]?)) = lh.map (fun p => (p.1, some p.2))) (ht : tl.map (l.toArray[·]?) = lt.map some) (hC : C [] w.drew)
    (h : wpP P l.toArray C sp pr (fun σ a' => ∀ w', C σ w' → wpListIn (wF ro) 0 P l.toArray Q lt a' w') lh [] a) : (Code.region id l.toArray true).wpIn (wF ro) 0 P Q a w := by
  simp only [orderPB, Bool.and_eq_true, decide_eq_true_eq] at hB
  obtain ⟨⟨⟨⟨⟨hsel, hlen⟩, hcov⟩, hanc⟩, hdis⟩, hhd⟩ := hB
  have H := headP_lex (P := P) (C := C) (sp := sp) (pr := pr) (Lq := fun σ a' => ∀ w', C σ w' → wpListIn (wF ro) 0 P l.toArray Q lt a' w') (hd := hd) (tl := tl) hsel
    (fun i hi => by have := List.all_eq_true.1 hcov i (List.mem_range.2 hi); simpa using this)
    (fun t htl i hi => by have := List.all_eq_true.1 (List.all_eq_true.1 hanc t htl) i hi; simpa using this)
    (fun t htl => by have := List.all_eq_true.1 hdis t htl; simpa using this)
    hd.length hd lh (Array.replicate l.toArray.size false) [] a (Nat.le_refl _) (fun _ hi => hi) hh
    (fun i hi => by
      have h0 : ∀ m j : Nat, (Array.replicate m false).getD j false = false := fun m j => by
        rcases Nat.lt_or_ge j m with h' | h'
        · simp [h']
        · simp [h']
      rw [h0] at hi
      cases hi) hhd h
  refine wpIn_region_any hm ?_
  have := wpAny_of_headS (Q' := Q) (ro := ro) (by simpa using hnd) (g := tl.length) (fun listed σ a' w' hw' hL => wpAnyIn_of_tail tl lt listed a' w' ht hL.1 (hL.2 w' hw')) _ _ _ _ _ hC H
  rw [hlen] at this
  exact this

/-! ### The same over a frame that is a function -/
def R1P (P : Program) (ops : Array Oper) (C : List Value → World → Prop) (sp : Nat → Bool) (i : Nat) (o : Oper) (K : List Value → (Nat → Value) → Prop) (σ : List Value) (e : Nat → Value) : Prop :=
  if wE ops e o = true then
    match sp i with
    | true => (∀ w, C σ w → opTo P e o w fun v w' => C (v :: σ) w') ∧ ∀ v w', C (v :: σ) w' → K (v :: σ) (updO e o.dst v)
    | false => ∃ v, (∀ τ w, C τ w → opTo P e o w fun u w' => u = v ∧ C τ w') ∧ K σ (updO e o.dst v)
  else K σ (updO e o.dst undef)
def RP (P : Program) (ops : Array Oper) (C : List Value → World → Prop) (sp pr : Nat → Bool) (Q : List Value → (Nat → Value) → Prop) : List (Nat × Oper) → List Value → (Nat → Value) → Prop
  | [], σ, e => Q σ e
  | [(i, o)], σ, e => R1P P ops C sp i o Q σ e
  | (i, o) :: (j, o') :: rest, σ, e => match pr i with
    | true => R1P P ops C sp i o (R1P P ops C sp j o' (RP P ops C sp pr Q rest)) σ e ∧ R1P P ops C sp j o' (R1P P ops C sp i o (RP P ops C sp pr Q rest)) σ e
    | false => R1P P ops C sp i o (RP P ops C sp pr Q ((j, o') :: rest)) σ e
theorem wp1_of_R1P {N : Nat} {df : List Deferred} {i : Nat} {o : Oper} {K : List Value → (Nat → Value) → Prop} {K' : List Value → Act → Prop} {σ : List Value} {e : Nat → Value} {a : Act} (hd : dstOk N o.dst = true) (hr : Rep N df e a)
    (hK : ∀ σ e a, Rep N df e a → K σ e → K' σ a) (h : R1P P ops C sp i o K σ e) : wp1 P ops C sp i o K' σ a := by
  unfold wp1
  unfold R1P at h
  rw [hr.wanted]
  have hto : ∀ w R, opTo P e o w R → yieldsTo P o a w R := fun w R hh => by unfold yieldsTo; rw [hr.eval]; exact hh
  split
  · rename_i hw
    rw [if_pos hw] at h
    cases hs : sp i with
    | true =>
      rw [hs] at h
      exact ⟨fun w hC => hto _ _ (h.1 w hC), fun v w' hC => hK _ _ _ (hr.put hd v) (h.2 v w' hC)⟩
    | false =>
      rw [hs] at h
      obtain ⟨v, h1, h2⟩ := h
      exact ⟨v, fun τ w hC => hto _ _ (h1 τ w hC), hK _ _ _ (hr.put hd v) h2⟩
  · rename_i hw
    rw [if_neg hw] at h
    exact hK _ _ _ (hr.put hd undef) h
theorem wpP_of_RP {N : Nat} {df : List Deferred} {Q : List Value → (Nat → Value) → Prop} {Q' : List Value → Act → Prop} (hQ : ∀ σ e a, Rep N df e a → Q σ e → Q' σ a) :
    ∀ (l : List (Nat × Oper)) (σ : List Value) (e : Nat → Value) (a : Act), (l.all fun p => dstOk N p.2.dst) = true → Rep N df e a → RP P ops C sp pr Q l σ e → wpP P ops C sp pr Q' l σ a
  | [], σ, e, a, _, hr, h => hQ σ e a hr h
  | [(i, o)], σ, e, a, hd, hr, h => by
    simp only [List.all_cons, Bool.and_eq_true] at hd
    exact wp1_of_R1P hd.1 hr hQ h
  | (i, o) :: (j, o') :: rest, σ, e, a, hd, hr, h => by
    simp only [List.all_cons, Bool.and_eq_true] at hd
    have rec1 := fun σ e a hr h => wpP_of_RP hQ rest σ e a hd.2.2 hr h
    have rec2 := fun σ e a hr h => wpP_of_RP hQ ((j, o') :: rest) σ e a (by simp only [List.all_cons, Bool.and_eq_true]; exact hd.2) hr h
    cases hp : pr i with
    | true =>
      simp only [RP, hp] at h
      simp only [wpP, hp]
      exact ⟨wp1_of_R1P hd.1 hr (fun σ e a hr h => wp1_of_R1P hd.2.1 hr rec1 h) h.1, wp1_of_R1P hd.2.1 hr (fun σ e a hr h => wp1_of_R1P hd.1 hr rec1 h) h.2⟩
    | false =>
      simp only [RP, hp] at h
      simp only [wpP, hp]
      exact wp1_of_R1P hd.1 hr rec2 h
theorem cw_pair {N : Nat} {Q : Exit → (Nat → Value) → World → Prop} {e : Nat → Value} {w : World} {id : Nat} {l : List Oper} (sp pr : List Nat) (hd tl : List Nat) (hm : P.follows .mixedOrders = true)
    (hB : (orderPB l.toArray (fun i => sp.contains i) (fun i => pr.contains i) hd tl && (hd.all fun i => decide (i < l.length)) && (tl.all fun i => decide (i < l.length))) = true) (hC : C [] w.drew)
    (h : RP P l.toArray C (fun i => sp.contains i) (fun i => pr.contains i) (fun σ e' => ∀ w', C σ w' → RW P l.toArray (fun e w => Q .normal e w) (pickL l tl) e' w') (pickI l hd) [] e) : CW P N (.region id l.toArray true) Q e w := fun hk df a hr ro => by
  simp only [Bool.and_eq_true] at hB
  simp only [codeOk, Bool.and_eq_true] at hk
  have hsub : ∀ is : List Nat, (is.all fun i => decide (i < l.length)) = true → ((pickL l is).all fun o => dstOk N o.dst) = true := fun is his => by
    have h1 := pickL_map l is his
    refine List.all_eq_true.2 fun o ho => ?_
    have h2 : some o ∈ (pickL l is).map some := List.mem_map.2 ⟨o, ho, rfl⟩
    rw [← h1] at h2
    obtain ⟨i, _, hi⟩ := List.mem_map.1 h2
    have h3 : l[i]? = some o := by simpa using hi
    exact List.all_eq_true.1 hk.1 o (List.mem_of_getElem? h3)
  have hsubd : ∀ is : List Nat, (is.all fun i => decide (i < l.length)) = true → ((pickL l is).all fun o => !isDefer o.op) = true := fun is his => by
    have h1 := pickL_map l is his
    refine List.all_eq_true.2 fun o ho => ?_
    have h2 : some o ∈ (pickL l is).map some := List.mem_map.2 ⟨o, ho, rfl⟩
    rw [← h1] at h2
    obtain ⟨i, _, hi⟩ := List.mem_map.1 h2
    have h3 : l[i]? = some o := by simpa using hi
    exact List.all_eq_true.1 hk.2 o (List.mem_of_getElem? h3)
  have hsubI : ∀ is : List Nat, (is.all fun i => decide (i < l.length)) = true → ((pickI l is).all fun p => dstOk N p.2.dst) = true := fun is his => by
    have h1 := pickI_map l is his
    refine List.all_eq_true.2 fun p hp => ?_
    have h2 : (p.1, some p.2) ∈ (pickI l is).map (fun p => (p.1, some p.2)) := List.mem_map.2 ⟨p, hp, rfl⟩
    rw [← h1] at h2
    obtain ⟨i, _, hi⟩ := List.mem_map.1 h2
    simp only [Prod.mk.injEq] at hi
    have h3 : l[i]? = some p.2 := by simpa using hi.2
    exact List.all_eq_true.1 hk.1 p.2 (List.mem_of_getElem? h3)
  refine wp_region_pair (C := C) hd tl _ _ hk.2 hm hB.1.1 (pickI_map l hd hB.1.2) (pickL_map l tl hB.2) hC ?_
  exact wpP_of_RP (fun σ e' a' hr' hq w' hw' => wpList_of_RW (fun e a w hr h => ⟨e, hr, h⟩) _ e' a' w' (hsub tl hB.2) (hsubd tl hB.2) hr' (hq w' hw')) _ [] e a (hsubI hd hB.1.2) hr h
/-- plain steps, till the pair -/
theorem rp_plain {Qs : List Value → (Nat → Value) → Prop} {σ : List Value} {e : Nat → Value} {i : Nat} {o : Oper} {j : Nat} {o' : Oper} {rest : List (Nat × Oper)} (hp : pr i = false) (h : RS P ops C sp (fun σ e => RP P ops C sp pr Qs ((j, o') :: rest) σ e) [(i, o)] σ e) : RP P ops C sp pr Qs ((i, o) :: (j, o') :: rest) σ e := by
  simp only [RP, hp]
  exact h
theorem rp_pair {Qs : List Value → (Nat → Value) → Prop} {σ : List Value} {e : Nat → Value} {i : Nat} {o : Oper} {j : Nat} {o' : Oper} {rest : List (Nat × Oper)} (hp : pr i = true) (h1 : RS P ops C sp (fun σ e => RP P ops C sp pr Qs rest σ e) [(i, o), (j, o')] σ e) (h2 : RS P ops C sp (fun σ e => RP P ops C sp pr Qs rest σ e) [(j, o'), (i, o)] σ e) :
    RP P ops C sp pr Qs ((i, o) :: (j, o') :: rest) σ e := by
  simp only [RP, hp]
  exact ⟨h1, h2⟩
theorem rp_nil {Qs : List Value → (Nat → Value) → Prop} {σ : List Value} {e : Nat → Value} (h : Qs σ e) : RP P ops C sp pr Qs [] σ e := h
end
end Go.Proofs.Ytiidmiebckkloaa
