/- A slab that is filled: cells that stand one by one. -/
import Derived.Test.YtbcgbcipigcbhaaSlabB
namespace Go.Proofs.Ytbcgbcipigcbhaa
open Go.RowKit
set_option linter.unusedVariables false
set_option linter.unusedSimpArgs false
set_option maxRecDepth 100000

theorem ptr_eq {g a j : Nat} (h : a = j) : Value.pointer (some ⟨g, a, none⟩) = .pointer (at_ (some ⟨g, 0, none⟩) j) := by rw [h, at_some, Nat.zero_add]
theorem mul_bound {sw sh : Nat} {Y : Int} (h0 : 0 ≤ Y) (h1 : Y < sh) : 0 ≤ Y * sw ∧ Y * sw + sw ≤ ((sw * sh : Nat) : Int) ∧ (Y + 1) * sw = Y * sw + sw := by
  obtain ⟨b, rfl⟩ := Int.eq_ofNat_of_zero_le h0
  have h2 : (b + 1) * sw ≤ sh * sw := Nat.mul_le_mul_right _ (by omega)
  rw [Nat.succ_mul, Nat.mul_comm sh sw] at h2
  refine ⟨Int.mul_nonneg (by omega) (by omega), ?_, by rw [Int.add_mul, Int.one_mul]⟩
  exact_mod_cast h2

set_option maxHeartbeats 2000000 in
theorem sfillRough_E (b sw sh : Nat) (R : Option Nat) (c : Nat → Int) (x0 y0 x1 y1 v : Int) (hw : 1 ≤ sw ∧ sw ≤ 16) (hh : 1 ≤ sh ∧ sh ≤ 16) (hx : 0 ≤ x0 ∧ x0 ≤ x1 ∧ x1 < sw) (hy : 0 ≤ y0 ∧ y0 ≤ y1 ∧ y1 < sh) (hv : -2147483648 ≤ v ∧ v ≤ 2147483647)
    (har : (x1 - x0 + 1) * (y1 - y0 + 1) ≠ sw * sh) (W : World) (hS : SlabIs W b R sw sh c) (hfl : R = none → ∀ u, Blk W b 196 [.int .i64 sw, .int .i64 sh, .iface 227 (.int .i32 u)] → u ≠ v) :
    Fn Try.prog 165 [.pointer (some ⟨b, 0, none⟩), .agg #[.int .i64 x0, .int .i64 y0, .int .i64 x1, .int .i64 y1], .int .i64 v] W
      (fun r w' => r = .int .i64 0 ∧ SlabP W b R sw sh (fillC sw x0 y0 x1 y1 v c) w') := by
  have hwi : within x0 y0 x1 y1 sw sh = 0 := within_fine (by omega) (by omega) (by omega) (by omega)
  have hm : 1 ≤ sw * sh ∧ sw * sh ≤ 16 * 16 := ⟨Nat.mul_le_mul hw.1 hh.1, Nat.mul_le_mul hw.2 hh.2⟩
  have hmi : (sw : Int) * sh = ((sw * sh : Nat) : Int) := by push_cast; rfl
  have hmay := hS.mayC (x0 := x0) (y0 := y0) (x1 := x1) (y1 := y1) hv
  have hmay0 := hS.1
  rw [hmi] at har
  have S := St.start W
  refine Fn_enter Try.func165 rfl Try.results165 Try.ntmps165 (by kernel_rfl) (by kernel_rfl) ?_
  obtain ⟨cl, hB⟩ : ∃ cl, Blk W b 196 [.int .i64 sw, .int .i64 sh, cl] := by
    obtain ⟨_, h⟩ := hS
    cases R with
    | none => obtain ⟨u, h, _⟩ := h; exact ⟨_, h⟩
    | some g => obtain ⟨cap, h, _⟩ := h; exact ⟨_, h⟩
  repeat refine cw_seq ?_
  refine cw_region ?_
  refine rw_newB (op_box rfl) S ?_
  intro b_rc w2_ g2_ S
  refine rw_v (op_pure rfl) ?_
  first | refine rw_end ?_ | (refine rw_nil ?_; show CW _ _ _ _ _ _) | refine rw_nil ?_
  repeat refine cw_seq ?_
  refine cw_region ?_
  refine rw_v (op_pure rfl) ?_
  refine rw_r (op_loadAB Try.underlying75 rfl (Try.sizeOf75 _) rfl (S.blk (i := 0) rfl) rfl rfl) ?_
  refine rw_call rfl (scheck_E b sw sh x0 y0 x1 y1 _ (by omega) (by omega) w2_ (hB.gr S.out)) ?_
  rintro _ w3_ ⟨rfl, g3_⟩
  have S := S.gr g3_
  refine rw_v (op_pure rfl) ?_
  first | refine rw_end ?_ | (refine rw_nil ?_; show CW _ _ _ _ _ _) | refine rw_nil ?_
  repeat refine cw_seq ?_
  refine cw_region ?_
  refine rw_v (op_pure rfl) ?_
  refine rw_v (op_b (b := false) rfl (bne_eq_false_iff_eq.2 (by omega))) ?_
  first | refine rw_end ?_ | (refine rw_nil ?_; show CW _ _ _ _ _ _) | refine rw_nil ?_
  repeat refine cw_seq ?_
  refine cw_false (by rw [hwi]; rfl) ?_
  repeat refine cw_seq ?_
  refine cw_skip ?_
  try show CW _ _ _ _ _ _
  repeat refine cw_seq ?_
  refine cw_region ?_
  refine rw_v (op_pure rfl) ?_
  refine rw_call rfl (may_E _ w3_) ?_
  rintro _ w4_ ⟨rfl, g4_⟩
  have S := S.gr g4_
  refine rw_v (op_pure rfl) ?_
  first | refine rw_end ?_ | (refine rw_nil ?_; show CW _ _ _ _ _ _) | refine rw_nil ?_
  repeat refine cw_seq ?_
  refine cw_false (by rw [(mayB_iff v).2 hv]; rfl) ?_
  repeat refine cw_seq ?_
  refine cw_skip ?_
  try show CW _ _ _ _ _ _
  repeat refine cw_seq ?_
  refine cw_cutT (M := fun e w => ∃ (u : Int) (ok : Bool), SL e [(0, .pointer (some ⟨b, 0, none⟩)), (2, .int .i64 v), (4, .pointer (some ⟨b_rc, 0, none⟩)), (8, .int .i32 u), (9, .bool ok)] ∧ (ok = true → u ≠ v) ∧ St No W w [.blk b_rc 75 [.int .i64 x0, .int .i64 y0, .int .i64 x1, .int .i64 y1]]) ?_ ?_
  · cases R with
    | none =>
      obtain ⟨_, u, hB', _⟩ := hS
      obtain rfl : cl = .iface 227 (.int .i32 u) := by have := (hB.inj hB').2; simpa using this
      repeat refine cw_seq ?_
      refine cw_region ?_
      iterate 2 refine rw_v (op_pure rfl) ?_
      refine rw_v (op_fieldAddr Try.underlying196 rfl Try.sizeOf194 rfl rfl) ?_
      refine rw_r (op_loadB Try.underlying194 rfl rfl (hB.gr S.out) rfl) ?_
      refine rw_v (op_assert Try.underlying227 rfl rfl) ?_
      iterate 5 refine rw_v (op_pure rfl) ?_
      first | refine rw_end ?_ | (refine rw_nil ?_; show CW _ _ _ _ _ _) | refine rw_nil ?_
      exact ⟨u, true, ⟨rfl, rfl, rfl, rfl, rfl, trivial⟩, fun _ => hfl rfl u hB', S⟩
    | some g =>
      obtain ⟨_, cap, hB', _⟩ := hS
      obtain rfl := (by have := (hB.inj hB').2; simpa using this : cl = .iface 268 (.slice (some ⟨g, 0, none⟩) (sw * sh) cap))
      repeat refine cw_seq ?_
      refine cw_region ?_
      iterate 2 refine rw_v (op_pure rfl) ?_
      refine rw_v (op_fieldAddr Try.underlying196 rfl Try.sizeOf194 rfl rfl) ?_
      refine rw_r (op_loadB Try.underlying194 rfl rfl (hB.gr S.out) rfl) ?_
      refine rw_v (op_assertN Try.underlying227 rfl rfl rfl Try.zeroValue227) ?_
      iterate 5 refine rw_v (op_pure rfl) ?_
      first | refine rw_end ?_ | (refine rw_nil ?_; show CW _ _ _ _ _ _) | refine rw_nil ?_
      exact ⟨0, false, ⟨rfl, rfl, rfl, rfl, rfl, trivial⟩, (fun h => by cases h), S⟩
  · rintro e1 w1 ⟨u, ok, hsl, hok, S⟩
    rw [hsl.fold]
    repeat refine cw_seq ?_
    refine cw_cutT (M := fun e w => SL e [(0, .pointer (some ⟨b, 0, none⟩)), (2, .int .i64 v), (4, .pointer (some ⟨b_rc, 0, none⟩)), (51, .bool false)] ∧ St No W w [.blk b_rc 75 [.int .i64 x0, .int .i64 y0, .int .i64 x1, .int .i64 y1]]) ?_ ?_
    · rcases ok with _ | _
      · skip
        repeat refine cw_seq ?_
        refine cw_draw (C := fun wq => Gr w1 wq) [0, 1, 2, 3, 4, 5, 6, 7, 8, 9, 10, 11, 12, 13, 14, 15, 16, 17, 18, 19, 20] [] (by kernel_rfl) (by kernel_rfl) (Gr.drew _) ?_
        simp only [pickL, List.drop_succ_cons, List.drop_zero]
        iterate 2 refine rq_v (op_pure rfl) ?_
        first | refine rq_off rfl ?_ | (refine rq_on rfl ?_; refine rq_v (op_pure rfl) ?_)
        first | refine rq_off rfl ?_ | (refine rq_on rfl ?_; refine rq_v (op_pure rfl) ?_)
        first | refine rq_off rfl ?_ | (refine rq_on rfl ?_; refine rq_v (op_conv Try.underlying2 Try.underlying227 rfl (i32_in _ hv)) ?_)
        first | refine rq_off rfl ?_ | (refine rq_on rfl ?_; (first | refine rq_v (op_b (b := true) rfl (beq_iff_eq.2 (by omega))) ?_ | refine rq_v (op_b (b := false) rfl (beq_eq_false_iff_ne.2 (by omega))) ?_ | refine rq_v (op_pure rfl) ?_))
        iterate 2 refine rq_v (op_pure rfl) ?_
        first | refine rq_off rfl ?_ | (refine rq_on rfl ?_; refine rq_r (fun wq hq => op_loadAB Try.underlying75 rfl (Try.sizeOf75 _) rfl ((S.gr hq).blk (i := 0) rfl) rfl rfl) ?_)
        first | refine rq_off rfl ?_ | (refine rq_on rfl ?_; refine rq_call rfl (fun wq hq => (area_E _ _ _ _ (by omega) wq).mono (fun _ _ ⟨hv, hg⟩ => ⟨hv, hq.trans hg⟩)) ?_)
        first | refine rq_off rfl ?_ | (refine rq_on rfl ?_; refine rq_v (op_pure rfl) ?_)
        first | refine rq_off rfl ?_ | (refine rq_on rfl ?_; refine rq_v (op_pure rfl) ?_)
        first | refine rq_off rfl ?_ | (refine rq_on rfl ?_; refine rq_v (op_fieldAddr Try.underlying196 rfl Try.sizeOf2 rfl rfl) ?_)
        first | refine rq_off rfl ?_ | (refine rq_on rfl ?_; refine rq_r (fun wq hq => op_loadB Try.underlying2 rfl rfl (hB.gr (S.gr hq).out) rfl) ?_)
        first | refine rq_off rfl ?_ | (refine rq_on rfl ?_; refine rq_v (op_pure rfl) ?_)
        first | refine rq_off rfl ?_ | (refine rq_on rfl ?_; refine rq_v (op_pure rfl) ?_)
        first | refine rq_off rfl ?_ | (refine rq_on rfl ?_; refine rq_v (op_fieldAddr Try.underlying196 rfl Try.sizeOf2 rfl rfl) ?_)
        first | refine rq_off rfl ?_ | (refine rq_on rfl ?_; refine rq_r (fun wq hq => op_loadB Try.underlying2 rfl rfl (hB.gr (S.gr hq).out) rfl) ?_)
        first | refine rq_off rfl ?_ | (refine rq_on rfl ?_; refine rq_v (op_rng rfl (by omega)) ?_)
        first | refine rq_off rfl ?_ | (refine rq_on rfl ?_; (first | refine rq_v (op_b (b := true) rfl (beq_iff_eq.2 (by omega))) ?_ | refine rq_v (op_b (b := false) rfl (beq_eq_false_iff_ne.2 (by omega))) ?_ | refine rq_v (op_pure rfl) ?_))
        refine rq_v (op_pure rfl) ?_
        refine rq_nil ?_
        intro w5_ g5_
        have S := S.gr g5_
        first | refine rw_end ?_ | (refine rw_nil ?_; show CW _ _ _ _ _ _) | refine rw_nil ?_
        exact ⟨⟨rfl, rfl, rfl, rfl, trivial⟩, S⟩
      · have hok := hok rfl
        repeat refine cw_seq ?_
        refine cw_draw (C := fun wq => Gr w1 wq) [0, 1, 2, 3, 4, 5, 6, 7, 8, 9, 10, 11, 12, 13, 14, 15, 16, 17, 18, 19, 20] [] (by kernel_rfl) (by kernel_rfl) (Gr.drew _) ?_
        simp only [pickL, List.drop_succ_cons, List.drop_zero]
        iterate 2 refine rq_v (op_pure rfl) ?_
        first | refine rq_off rfl ?_ | (refine rq_on rfl ?_; refine rq_v (op_pure rfl) ?_)
        first | refine rq_off rfl ?_ | (refine rq_on rfl ?_; refine rq_v (op_pure rfl) ?_)
        first | refine rq_off rfl ?_ | (refine rq_on rfl ?_; refine rq_v (op_conv Try.underlying2 Try.underlying227 rfl (i32_in _ hv)) ?_)
        first | refine rq_off rfl ?_ | (refine rq_on rfl ?_; (first | refine rq_v (op_b (b := true) rfl (beq_iff_eq.2 (by omega))) ?_ | refine rq_v (op_b (b := false) rfl (beq_eq_false_iff_ne.2 (by omega))) ?_ | refine rq_v (op_pure rfl) ?_))
        iterate 2 refine rq_v (op_pure rfl) ?_
        first | refine rq_off rfl ?_ | (refine rq_on rfl ?_; refine rq_r (fun wq hq => op_loadAB Try.underlying75 rfl (Try.sizeOf75 _) rfl ((S.gr hq).blk (i := 0) rfl) rfl rfl) ?_)
        first | refine rq_off rfl ?_ | (refine rq_on rfl ?_; refine rq_call rfl (fun wq hq => (area_E _ _ _ _ (by omega) wq).mono (fun _ _ ⟨hv, hg⟩ => ⟨hv, hq.trans hg⟩)) ?_)
        first | refine rq_off rfl ?_ | (refine rq_on rfl ?_; refine rq_v (op_pure rfl) ?_)
        first | refine rq_off rfl ?_ | (refine rq_on rfl ?_; refine rq_v (op_pure rfl) ?_)
        first | refine rq_off rfl ?_ | (refine rq_on rfl ?_; refine rq_v (op_fieldAddr Try.underlying196 rfl Try.sizeOf2 rfl rfl) ?_)
        first | refine rq_off rfl ?_ | (refine rq_on rfl ?_; refine rq_r (fun wq hq => op_loadB Try.underlying2 rfl rfl (hB.gr (S.gr hq).out) rfl) ?_)
        first | refine rq_off rfl ?_ | (refine rq_on rfl ?_; refine rq_v (op_pure rfl) ?_)
        first | refine rq_off rfl ?_ | (refine rq_on rfl ?_; refine rq_v (op_pure rfl) ?_)
        first | refine rq_off rfl ?_ | (refine rq_on rfl ?_; refine rq_v (op_fieldAddr Try.underlying196 rfl Try.sizeOf2 rfl rfl) ?_)
        first | refine rq_off rfl ?_ | (refine rq_on rfl ?_; refine rq_r (fun wq hq => op_loadB Try.underlying2 rfl rfl (hB.gr (S.gr hq).out) rfl) ?_)
        first | refine rq_off rfl ?_ | (refine rq_on rfl ?_; refine rq_v (op_rng rfl (by omega)) ?_)
        first | refine rq_off rfl ?_ | (refine rq_on rfl ?_; (first | refine rq_v (op_b (b := true) rfl (beq_iff_eq.2 (by omega))) ?_ | refine rq_v (op_b (b := false) rfl (beq_eq_false_iff_ne.2 (by omega))) ?_ | refine rq_v (op_pure rfl) ?_))
        refine rq_v (op_pure rfl) ?_
        refine rq_nil ?_
        intro w6_ g6_
        have S := S.gr g6_
        first | refine rw_end ?_ | (refine rw_nil ?_; show CW _ _ _ _ _ _) | refine rw_nil ?_
        exact ⟨⟨rfl, rfl, rfl, rfl, trivial⟩, S⟩
    · rintro e2 w2 ⟨hsl, S⟩
      have hle2 := S.le
      rw [hsl.fold]
      repeat refine cw_seq ?_
      refine cw_false rfl ?_
      repeat refine cw_seq ?_
      refine cw_skip ?_
      try show CW _ _ _ _ _ _
      repeat refine cw_seq ?_
      refine cw_cutT (M := fun e w => ∃ (g cap C : Nat), SL e [(0, .pointer (some ⟨b, 0, none⟩)), (2, .int .i64 v), (4, .pointer (some ⟨b_rc, 0, none⟩)), (10, .pointer (some ⟨C, 0, none⟩))] ∧ (R = some g ∨ W.heap.size ≤ g) ∧ St (fun g => g = b ∨ R = some g) W w [.blk C 268 [.slice (some ⟨g, 0, none⟩) (sw * sh) cap], .row 21 1 (some ⟨g, 0, none⟩) (sw * sh) cap (cellsI (sw * sh) c), .blk b 196 [.int .i64 sw, .int .i64 sh, .iface 268 (.slice (some ⟨g, 0, none⟩) (sw * sh) cap)], .blk b_rc 75 [.int .i64 x0, .int .i64 y0, .int .i64 x1, .int .i64 y1]]) ?_ ?_
      · cases R with
        | none =>
          obtain ⟨_, x, hB', hxr, hcx⟩ := hS
          have S := (S.own1 (.blk b 196 [.int .i64 sw, .int .i64 sh, .iface 227 (.int .i32 x)]) hB').frw (F' := fun g => g = b ∨ none = some g) (fun g h => .inl h)
          repeat refine cw_seq ?_
          refine cw_region ?_
          refine rw_v (op_pure rfl) ?_
          refine rw_call rfl (sroughNew_E b sw sh x hxr hw hh w2 (S.blk (i := 0) rfl)) ?_
          rintro _ w7_ ⟨g, rfl, hge, hB2, hR2, hF2⟩
          have S := S.setPush (i := 0) (h' := .blk b 196 _) (h2 := .row 21 1 (some ⟨g, 0, none⟩) (sw * sh) (sw * sh) (cellsI (sw * sh) c)) rfl rfl hF2 (fun g h => .inl h) hB2 (fun g h => .inl h) ((Row.of_blk hR2 (by simp) (by unfold maxLen; omega)).congr (cellsI_const hcx).symm) (fun b' hb' => by have := ownA_eq hb'; omega) (fun b' hb' hb2 => by have := ownA_eq hb'; have h3 := hB'.lt; have : b' = b := hb2; omega)
          refine rw_newB (op_alloc Try.zeroValue268 rfl) S ?_
          intro b_C w9_ g9_ S
          refine rw_storeS (i := 0) S rfl (Try.sizeOf268 _) rfl rfl rfl rfl rfl rfl ?_
          intro w10_ S
          first | refine rw_end ?_ | (refine rw_nil ?_; show CW _ _ _ _ _ _) | refine rw_nil ?_
          exact ⟨g, _, _, ⟨rfl, rfl, rfl, rfl, trivial⟩, .inr (by omega), S⟩
        | some g =>
          obtain ⟨_, cap, hB', hR'⟩ := hS
          have S := (S.own2 (.row 21 1 (some ⟨g, 0, none⟩) (sw * sh) cap (cellsI (sw * sh) c)) (.blk b 196 [.int .i64 sw, .int .i64 sh, .iface 268 (.slice (some ⟨g, 0, none⟩) (sw * sh) cap)]) hR' hB'
            (fun g' h1 h2 => blk_ne_row hB' hR' (by decide) (by have : g' = b := h2; rw [← this]; exact h1))).frw (F' := fun g' => g' = b ∨ some g = some g') (fun g' h => h.elim (fun e => .inr e) .inl)
          repeat refine cw_seq ?_
          refine cw_region ?_
          refine rw_v (op_pure rfl) ?_
          refine rw_call rfl (srough_E b _ _ _ _ _ w2 (S.blk (i := 1) rfl)) ?_
          rintro _ w11_ ⟨rfl, g11_⟩
          have S := S.gr g11_
          refine rw_newB (op_alloc Try.zeroValue268 rfl) S ?_
          intro b_C w13_ g13_ S
          refine rw_storeS (i := 0) S rfl (Try.sizeOf268 _) rfl rfl rfl rfl rfl rfl ?_
          intro w14_ S
          first | refine rw_end ?_ | (refine rw_nil ?_; show CW _ _ _ _ _ _) | refine rw_nil ?_
          exact ⟨g, _, _, ⟨rfl, rfl, rfl, rfl, trivial⟩, .inl rfl, S⟩
      · rintro e3 w3 ⟨g, cap, C, hsl, hg, S⟩
        rw [hsl.fold]
        have hcap := (S.row (i := 1) rfl).cap
        have sa_Rr : SomeA (some ⟨g, 0, none⟩) := someA_some _ _
        repeat refine cw_seq ?_
        refine cw_region ?_
        refine rw_v (op_fieldAddr Try.underlying75 rfl Try.sizeOf2 rfl rfl) ?_
        refine rw_r (op_loadB Try.underlying2 rfl rfl (S.blk (i := 3) rfl) rfl) ?_
        refine rw_v (op_pure rfl) ?_
        first | refine rw_end ?_ | (refine rw_nil ?_; show CW _ _ _ _ _ _) | refine rw_nil ?_
        repeat refine cw_seq ?_
        refine cw_block ?_
        repeat refine cw_seq ?_
        refine cw_loop (fun m e w => ∃ Y : Int, y0 ≤ Y ∧ Y + m = y1 + 1 ∧ SL e [(0, .pointer (some ⟨b, 0, none⟩)), (2, .int .i64 v), (4, .pointer (some ⟨b_rc, 0, none⟩)), (10, .pointer (some ⟨C, 0, none⟩)), (11, .int .i64 Y)] ∧ St (fun g => g = b ∨ R = some g) W w [.blk C 268 [.slice (some ⟨g, 0, none⟩) (sw * sh) cap], .row 21 1 (some ⟨g, 0, none⟩) (sw * sh) cap (cellsI (sw * sh) (fillC sw x0 y0 x1 (Y - 1) v c)), .blk b 196 [.int .i64 sw, .int .i64 sh, .iface 268 (.slice (some ⟨g, 0, none⟩) (sw * sh) cap)], .blk b_rc 75 [.int .i64 x0, .int .i64 y0, .int .i64 x1, .int .i64 y1]]) (y1 + 1 - y0).toNat
          ⟨y0, by omega, by omega, ⟨rfl, rfl, rfl, rfl, rfl, trivial⟩, by rw [cellsI_congr (c' := c) (fun i _ => fillC_empty (by omega) i)]; exact S⟩ ?_
        rintro m e w ⟨Y, hY0, hY1, hsl, S⟩
        rw [hsl.fold]
        repeat refine cw_seq ?_
        refine cw_region ?_
        refine rw_v (op_pure rfl) ?_
        refine rw_v (op_fieldAddr Try.underlying75 rfl Try.sizeOf2 rfl rfl) ?_
        refine rw_r (op_loadB Try.underlying2 rfl rfl (S.blk (i := 3) rfl) rfl) ?_
        refine rw_v (op_pure rfl) ?_
        first | refine rw_end ?_ | (refine rw_nil ?_; show CW _ _ _ _ _ _) | refine rw_nil ?_
        repeat refine cw_seq ?_
        refine cw_cond rfl (fun hc => ?_) (fun hc => ?_)
        · try simp only [decide_eq_true_eq, decide_eq_false_iff_not, beq_iff_eq, bne_iff_ne, beq_eq_false_iff_ne, bne_eq_false_iff_eq, Bool.not_eq_true', Bool.not_eq_false', ne_eq, Decidable.not_not, Int.natCast_inj, Int.ofNat_lt, Int.ofNat_le, gt_iff_lt, ge_iff_le, Int.not_lt, Int.not_le] at hc
          have hb := mul_bound (sw := sw) (sh := sh) (Y := Y) (by omega) (by omega)
          repeat refine cw_seq ?_
          refine cw_skip ?_
          try show CW _ _ _ _ _ _
          repeat refine cw_seq ?_
          refine cw_block ?_
          repeat refine cw_seq ?_
          refine cw_draw (C := fun wq => Gr w wq) [0, 1, 2, 3, 4, 5, 6, 7, 8, 9, 10, 11, 12, 13, 14, 15] [] (by kernel_rfl) (by kernel_rfl) (Gr.drew _) ?_
          simp only [pickL, List.drop_succ_cons, List.drop_zero]
          refine rq_r (fun wq hq => op_loadB Try.underlying268 rfl rfl ((S.gr hq).blk (i := 0) rfl) rfl) ?_
          iterate 3 refine rq_v (op_pure rfl) ?_
          refine rq_v (op_fieldAddr Try.underlying196 rfl Try.sizeOf2 rfl rfl) ?_
          refine rq_r (fun wq hq => op_loadB Try.underlying2 rfl rfl ((S.gr hq).blk (i := 2) rfl) rfl) ?_
          refine rq_v (op_rng rfl (by omega)) ?_
          refine rq_v (op_pure rfl) ?_
          refine rq_v (op_rng rfl (by omega)) ?_
          iterate 2 refine rq_v (op_pure rfl) ?_
          refine rq_v (op_fieldAddr Try.underlying196 rfl Try.sizeOf2 rfl rfl) ?_
          refine rq_r (fun wq hq => op_loadB Try.underlying2 rfl rfl ((S.gr hq).blk (i := 2) rfl) rfl) ?_
          refine rq_v (op_rng rfl (by omega)) ?_
          refine rq_v (op_slice_lh Try.underlying268 Try.sizeOf21 rfl rfl rfl (by omega) (by omega) (by omega) (by omega)) ?_
          refine rq_v (op_pure rfl) ?_
          refine rq_nil ?_
          intro w15_ g15_
          have S := S.gr g15_
          first | refine rw_end ?_ | (refine rw_nil ?_; show CW _ _ _ _ _ _) | refine rw_nil ?_
          repeat refine cw_seq ?_
          refine cw_region ?_
          refine rw_v (op_fieldAddr Try.underlying75 rfl Try.sizeOf2 rfl rfl) ?_
          refine rw_r (op_loadB Try.underlying2 rfl rfl (S.blk (i := 3) rfl) rfl) ?_
          refine rw_v (op_pure rfl) ?_
          first | refine rw_end ?_ | (refine rw_nil ?_; show CW _ _ _ _ _ _) | refine rw_nil ?_
          repeat refine cw_seq ?_
          refine cw_block ?_
          repeat refine cw_seq ?_
          refine cw_loop (fun m e w => ∃ X : Int, x0 ≤ X ∧ X + m = x1 + 1 ∧ SL e [(0, .pointer (some ⟨b, 0, none⟩)), (2, .int .i64 v), (4, .pointer (some ⟨b_rc, 0, none⟩)), (10, .pointer (some ⟨C, 0, none⟩)), (11, .int .i64 Y), (12, .slice (some ⟨g, 0 + (Y * sw).toNat * 1, none⟩) (((Y + 1) * sw).toNat - (Y * sw).toNat) (cap - (Y * sw).toNat)), (13, .int .i64 X)] ∧ St (fun g => g = b ∨ R = some g) W w [.blk C 268 [.slice (some ⟨g, 0, none⟩) (sw * sh) cap], .row 21 1 (some ⟨g, 0, none⟩) (sw * sh) cap (cellsI (sw * sh) (fillC sw x0 Y (X - 1) Y v (fillC sw x0 y0 x1 (Y - 1) v c))), .blk b 196 [.int .i64 sw, .int .i64 sh, .iface 268 (.slice (some ⟨g, 0, none⟩) (sw * sh) cap)], .blk b_rc 75 [.int .i64 x0, .int .i64 y0, .int .i64 x1, .int .i64 y1]]) (x1 + 1 - x0).toNat
            ⟨x0, by omega, by omega, ⟨rfl, rfl, rfl, rfl, rfl, rfl, rfl, trivial⟩, by rw [cellsI_congr (fun i _ => fillC_empty (c := fillC sw x0 y0 x1 (Y - 1) v c) (by omega) i)]; exact S⟩ ?_
          rintro m' e w ⟨X, hX0, hX1, hsl, S⟩
          rw [hsl.fold]
          repeat refine cw_seq ?_
          refine cw_region ?_
          refine rw_v (op_pure rfl) ?_
          refine rw_v (op_fieldAddr Try.underlying75 rfl Try.sizeOf2 rfl rfl) ?_
          refine rw_r (op_loadB Try.underlying2 rfl rfl (S.blk (i := 3) rfl) rfl) ?_
          refine rw_v (op_pure rfl) ?_
          first | refine rw_end ?_ | (refine rw_nil ?_; show CW _ _ _ _ _ _) | refine rw_nil ?_
          repeat refine cw_seq ?_
          refine cw_cond rfl (fun hc' => ?_) (fun hc' => ?_)
          · try simp only [decide_eq_true_eq, decide_eq_false_iff_not, beq_iff_eq, bne_iff_ne, beq_eq_false_iff_ne, bne_eq_false_iff_eq, Bool.not_eq_true', Bool.not_eq_false', ne_eq, Decidable.not_not, Int.natCast_inj, Int.ofNat_lt, Int.ofNat_le, gt_iff_lt, ge_iff_le, Int.not_lt, Int.not_le] at hc'
            repeat refine cw_seq ?_
            refine cw_skip ?_
            try show CW _ _ _ _ _ _
            repeat refine cw_seq ?_
            refine cw_block ?_
            repeat refine cw_seq ?_
            refine cw_region ?_
            iterate 3 refine rw_v (op_pure rfl) ?_
            refine rw_v (op_conv Try.underlying2 Try.underlying21 rfl (i32_in _ hv)) ?_
            refine rw_v (op_indexAddr Try.underlying268 Try.sizeOf21 rfl rfl (by omega) (by omega)) ?_
            refine rw_storeR (i := 1) S rfl (Try.sizeOf21 _) (j := (Y * sw + X).toNat) (ptr_eq (by have := hY0; rw [Nat.mul_one, Nat.mul_one]; omega)) rfl rfl rfl (by rw [cellsI_len]; omega) rfl ?_
            intro w16_ S
            first | refine rw_end ?_ | (refine rw_nil ?_; show CW _ _ _ _ _ _) | refine rw_nil ?_
            repeat refine cw_seq ?_
            refine cw_region ?_
            refine rw_v (op_pure rfl) ?_
            refine rw_v (op_rng rfl (by omega)) ?_
            refine rw_v (op_pure rfl) ?_
            first | refine rw_end ?_ | (refine rw_nil ?_; show CW _ _ _ _ _ _) | refine rw_nil ?_
            rw [cellsI_set (fun i _ => fillC_cell (by omega) hX0 (by omega) i)] at S
            exact ⟨m' - 1, by omega, X + 1, by omega, by omega, ⟨rfl, rfl, rfl, rfl, rfl, rfl, rfl, trivial⟩, by rw [show X + 1 - 1 = X by omega]; exact S⟩
          · try simp only [decide_eq_true_eq, decide_eq_false_iff_not, beq_iff_eq, bne_iff_ne, beq_eq_false_iff_ne, bne_eq_false_iff_eq, Bool.not_eq_true', Bool.not_eq_false', ne_eq, Decidable.not_not, Int.natCast_inj, Int.ofNat_lt, Int.ofNat_le, gt_iff_lt, ge_iff_le, Int.not_lt, Int.not_le] at hc'
            repeat refine cw_seq ?_
            refine cw_exit ?_
            repeat first | refine exit_then ?_ | refine exit_inb ?_
            show CW _ _ _ _ _ _
            repeat refine cw_seq ?_
            refine cw_region ?_
            refine rw_v (op_pure rfl) ?_
            refine rw_v (op_rng rfl (by omega)) ?_
            refine rw_v (op_pure rfl) ?_
            first | refine rw_end ?_ | (refine rw_nil ?_; show CW _ _ _ _ _ _) | refine rw_nil ?_
            obtain rfl : X = x1 + 1 := by omega
            refine ⟨m - 1, by omega, Y + 1, by omega, by omega, ⟨rfl, rfl, rfl, rfl, rfl, trivial⟩, ?_⟩
            rw [show x1 + 1 - 1 = x1 by omega, cellsI_congr (fun i _ => fillC_row hY0 i)] at S
            rw [show Y + 1 - 1 = Y by omega]
            exact S
        · try simp only [decide_eq_true_eq, decide_eq_false_iff_not, beq_iff_eq, bne_iff_ne, beq_eq_false_iff_ne, bne_eq_false_iff_eq, Bool.not_eq_true', Bool.not_eq_false', ne_eq, Decidable.not_not, Int.natCast_inj, Int.ofNat_lt, Int.ofNat_le, gt_iff_lt, ge_iff_le, Int.not_lt, Int.not_le] at hc
          repeat refine cw_seq ?_
          refine cw_exit ?_
          repeat first | refine exit_then ?_ | refine exit_inb ?_
          show CW _ _ _ _ _ _
          obtain rfl : Y = y1 + 1 := by omega
          rw [show y1 + 1 - 1 = y1 by omega] at S
          have hR := S.row (i := 1) rfl
          have e0 : cellsI (sw * sh) (fillC sw x0 y0 x1 y1 v c) = ((List.range (sw * sh)).map (fillC sw x0 y0 x1 y1 v c)).map (.int .i32) := by simp [cellsI]
          obtain ⟨n', hn'⟩ : ∃ n', sw * sh = n' + 1 := ⟨sw * sh - 1, by omega⟩
          have hp0 : (cellsI (sw * sh) (fillC sw x0 y0 x1 y1 v c))[0]? = some (.int .i32 (fillC sw x0 y0 x1 y1 v c 0)) := cellsI_get (by omega)
          have e1 : .int .i32 (fillC sw x0 y0 x1 y1 v c 0) :: (cellsI (sw * sh) (fillC sw x0 y0 x1 y1 v c)).tail = cellsI (sw * sh) (fillC sw x0 y0 x1 y1 v c) := by
            unfold cellsI; rw [hn', List.range_succ_eq_map]; simp
          cases hany : ((List.range (sw * sh)).map (fillC sw x0 y0 x1 y1 v c)).any (fun x => x != fillC sw x0 y0 x1 y1 v c 0)
          · have hall : ∀ i, i < sw * sh → fillC sw x0 y0 x1 y1 v c i = fillC sw x0 y0 x1 y1 v c 0 := fun i hi => by
              have := List.any_eq_false.1 hany _ (List.mem_map.2 ⟨i, List.mem_range.2 hi, rfl⟩)
              simpa using this
            repeat refine cw_seq ?_
            refine cw_region ?_
            refine rw_r (op_loadB Try.underlying268 rfl rfl (S.blk (i := 0) rfl) rfl) ?_
            refine rw_v (op_pure rfl) ?_
            refine rw_call rfl (containsFunc32_E _ _ _ 194 [.pointer (some ⟨C, 0, none⟩)] ((List.range (sw * sh)).map (fillC sw x0 y0 x1 y1 v c)) (by simp) (by omega) (fun x => x != fillC sw x0 y0 x1 y1 v c 0) w (by rw [← e0]; exact (S.rd (i := 1) rfl)) (fun x hx w' g => fillC_E C _ (sw * sh) cap x _ _ (by omega) w' ((S.blk (i := 0) rfl).gr g) (by rw [e1]; exact ((S.rd (i := 1) rfl).gr g)))) ?_
            rintro _ w17_ ⟨rfl, g17_⟩
            have S := S.gr g17_
            rw [hany]
            refine rw_v (op_pure rfl) ?_
            first | refine rw_end ?_ | (refine rw_nil ?_; show CW _ _ _ _ _ _) | refine rw_nil ?_
            repeat refine cw_seq ?_
            refine cw_true rfl ?_
            repeat refine cw_seq ?_
            refine cw_region ?_
            refine rw_v (op_pure rfl) ?_
            refine rw_r (op_loadB Try.underlying268 rfl rfl (S.blk (i := 0) rfl) rfl) ?_
            refine rw_v (op_idx Try.underlying268 Try.sizeOf21 rfl rfl sa_Rr (by omega) (by omega)) ?_
            refine rw_r (op_ldR Try.underlying21 rfl rfl (S.rd (i := 1) rfl) hp0) ?_
            refine rw_v (op_iface Try.underlying227 rfl rfl) ?_
            refine rw_v (op_pure rfl) ?_
            refine rw_v (op_fieldAddr Try.underlying196 rfl Try.sizeOf194 rfl rfl) ?_
            refine rw_storeS (i := 2) S rfl (Try.sizeOf194 _) rfl rfl rfl rfl rfl rfl ?_
            intro w18_ S
            first | refine rw_end ?_ | (refine rw_nil ?_; show CW _ _ _ _ _ _) | refine rw_nil ?_
            repeat refine cw_seq ?_
            refine cw_region ?_
            refine rw_v (op_pure rfl) ?_
            first | refine rw_end ?_ | (refine rw_nil ?_; show CW _ _ _ _ _ _) | refine rw_nil ?_
            repeat refine cw_seq ?_
            refine cw_ret ?_
            repeat first | refine ret_then ?_ | refine ret_inb ?_
            exact res1 rfl ⟨rfl, none, ⟨hmay, _, S.blk (i := 2) rfl, hmay 0 (by omega), hall⟩, S.fr.weak (fun g h => h), (fun g h => by cases h)⟩
          · skip
            repeat refine cw_seq ?_
            refine cw_region ?_
            refine rw_r (op_loadB Try.underlying268 rfl rfl (S.blk (i := 0) rfl) rfl) ?_
            refine rw_v (op_pure rfl) ?_
            refine rw_call rfl (containsFunc32_E _ _ _ 194 [.pointer (some ⟨C, 0, none⟩)] ((List.range (sw * sh)).map (fillC sw x0 y0 x1 y1 v c)) (by simp) (by omega) (fun x => x != fillC sw x0 y0 x1 y1 v c 0) w (by rw [← e0]; exact (S.rd (i := 1) rfl)) (fun x hx w' g => fillC_E C _ (sw * sh) cap x _ _ (by omega) w' ((S.blk (i := 0) rfl).gr g) (by rw [e1]; exact ((S.rd (i := 1) rfl).gr g)))) ?_
            rintro _ w19_ ⟨rfl, g19_⟩
            have S := S.gr g19_
            rw [hany]
            refine rw_v (op_pure rfl) ?_
            first | refine rw_end ?_ | (refine rw_nil ?_; show CW _ _ _ _ _ _) | refine rw_nil ?_
            repeat refine cw_seq ?_
            refine cw_false rfl ?_
            repeat refine cw_seq ?_
            refine cw_skip ?_
            try show CW _ _ _ _ _ _
            repeat refine cw_seq ?_
            refine cw_region ?_
            refine rw_v (op_pure rfl) ?_
            first | refine rw_end ?_ | (refine rw_nil ?_; show CW _ _ _ _ _ _) | refine rw_nil ?_
            repeat refine cw_seq ?_
            refine cw_ret ?_
            repeat first | refine ret_then ?_ | refine ret_inb ?_
            exact res1 rfl ⟨rfl, some g, ⟨hmay, cap, S.blk (i := 2) rfl, S.row (i := 1) rfl⟩, S.fr.weak (fun g h => h), (fun g' h => by injection h with h; subst h; exact hg)⟩

theorem sfill_E (b sw sh : Nat) (R : Option Nat) (c : Nat → Int) (x0 y0 x1 y1 v : Int) (hw : 1 ≤ sw ∧ sw ≤ 16) (hh : 1 ≤ sh ∧ sh ≤ 16) (hx : 0 ≤ x0 ∧ x0 ≤ x1 ∧ x1 < sw) (hy : 0 ≤ y0 ∧ y0 ≤ y1 ∧ y1 < sh) (hv : -2147483648 ≤ v ∧ v ≤ 2147483647) (W : World) (hS : SlabIs W b R sw sh c) :
    Fn Try.prog 165 [.pointer (some ⟨b, 0, none⟩), .agg #[.int .i64 x0, .int .i64 y0, .int .i64 x1, .int .i64 y1], .int .i64 v] W
      (fun r w' => r = .int .i64 0 ∧ SlabP W b R sw sh (fillC sw x0 y0 x1 y1 v c) w') := by
  have hmay := hS.mayC (x0 := x0) (y0 := y0) (x1 := x1) (y1 := y1) hv
  have hmi : (sw : Int) * sh = ((sw * sh : Nat) : Int) := by push_cast; rfl
  have flat : ∀ cl, (cl = .iface 227 (.int .i32 v) ∨ ((∃ u, cl = .iface 227 (.int .i32 u) ∧ u ≠ v) ∨ (∃ A n c, cl = .iface 268 (.slice A n c))) ∧ (x1 - x0 + 1) * (y1 - y0 + 1) = sw * sh) → Blk W b 196 [.int .i64 sw, .int .i64 sh, cl] →
      (∀ i, i < sw * sh → fillC sw x0 y0 x1 y1 v c i = v) → Fn Try.prog 165 [.pointer (some ⟨b, 0, none⟩), .agg #[.int .i64 x0, .int .i64 y0, .int .i64 x1, .int .i64 y1], .int .i64 v] W
      (fun r w' => r = .int .i64 0 ∧ SlabP W b R sw sh (fillC sw x0 y0 x1 y1 v c) w') := fun cl h1 hB hc =>
    (sfillFlat_E b sw sh R c x0 y0 x1 y1 v hw hh hx hy hv cl h1 W hB).mono fun r w' ⟨hr, hB', hF⟩ => ⟨hr, none, ⟨hmay, v, hB', hv, hc⟩, hF.weak (fun g h => .inl h), fun g h => by cases h⟩
  by_cases har : (x1 - x0 + 1) * (y1 - y0 + 1) = sw * sh
  · have hwh := whole_in hx hy har
    have hall : ∀ i, i < sw * sh → fillC sw x0 y0 x1 y1 v c i = v := fun i hi => by
      unfold fillC; rw [if_pos]; rw [hwh.1, hwh.2.1]; exact in_whole hw.1 hi hwh.2.2.1 hwh.2.2.2
    have hS2 := hS.2
    cases R with
    | none =>
      obtain ⟨x, hB, _, hcx⟩ := hS2
      by_cases hxv : x = v
      · subst hxv; exact flat _ (.inl rfl) hB hall
      · exact flat _ (.inr ⟨.inl ⟨x, rfl, hxv⟩, har⟩) hB hall
    | some g =>
      obtain ⟨cap, hB, _⟩ := hS2
      exact flat _ (.inr ⟨.inr ⟨_, _, _, rfl⟩, har⟩) hB hall
  · by_cases hfl : R = none ∧ Blk W b 196 [.int .i64 sw, .int .i64 sh, .iface 227 (.int .i32 v)]
    · obtain ⟨rfl, hB⟩ := hfl
      obtain ⟨x, hB', _, hcx⟩ := hS.2
      obtain rfl : x = v := by have := (hB'.inj hB).2; simpa using this
      refine flat _ (.inl rfl) hB fun i hi => ?_
      unfold fillC
      split
      · rfl
      · exact hcx i hi
    · exact sfillRough_E b sw sh R c x0 y0 x1 y1 v hw hh hx hy hv har W hS (fun hR u hB hu => hfl ⟨hR, hu ▸ hB⟩)
end Go.Proofs.Ytbcgbcipigcbhaa
