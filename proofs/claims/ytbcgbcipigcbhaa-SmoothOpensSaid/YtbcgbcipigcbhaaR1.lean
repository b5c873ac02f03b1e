/- Contracts of package rect's functions. -/
import Derived.Test.YtbcgbcipigcbhaaStep
import Derived.Test.YtbcgbcipigcbhaaRect3
namespace Go.Proofs.Ytbcgbcipigcbhaa
open Go.RowKit
set_option linter.unusedVariables false
set_option linter.unusedSimpArgs false
set_option maxRecDepth 100000

/-- returns v, and leaves what was there -/
def RetG (v : Value) (w : World) : Value → World → Prop := fun v' w' => v' = v ∧ Gr w w'
theorem inside_E (n e : Int) (w : World) : Fn Try.prog 161 [.int .i64 n, .int .i64 e] w (RetG (.bool (insideB n e)) w) :=
  Fn_of_calls (by kernel_rfl) ((inside_any n e w).mono fun _ _ ⟨h, hw⟩ => ⟨h, by subst hw; exact Gr.refl _⟩)
theorem within_E (x0 y0 x1 y1 w h : Int) (hw : -9223372036854775808 < w ∧ w ≤ 9223372036854775807) (hh : -9223372036854775808 < h ∧ h ≤ 9223372036854775807) (W : World) :
    Fn Try.prog 115 [.agg #[.int .i64 x0, .int .i64 y0, .int .i64 x1, .int .i64 y1], .int .i64 w, .int .i64 h] W (RetG (.int .i64 (within x0 y0 x1 y1 w h)) W) :=
  Fn_of_calls (by kernel_rfl) (within_any x0 y0 x1 y1 w h hw.1 hw.2 hh.1 hh.2 W)
theorem right_E (x0 y0 x1 y1 : Int) (W : World) : Fn Try.prog 138 [.agg #[.int .i64 x0, .int .i64 y0, .int .i64 x1, .int .i64 y1]] W (RetG (.bool (rightB x0 y0 x1 y1)) W) :=
  Fn_of_calls (by kernel_rfl) (right_any x0 y0 x1 y1 W)
theorem width_E (x0 y0 x1 y1 : Int) (h : 0 ≤ x0 ∧ x0 ≤ x1 ∧ x1 < 1024) (W : World) : Fn Try.prog 139 [.agg #[.int .i64 x0, .int .i64 y0, .int .i64 x1, .int .i64 y1]] W (RetG (.int .i64 (x1 - x0 + 1)) W) :=
  Fn_of_calls (by kernel_rfl) (width_any x0 y0 x1 y1 h W)
theorem area_E (x0 y0 x1 y1 : Int) (h : 0 ≤ x0 ∧ x0 ≤ x1 ∧ x1 < 1024 ∧ 0 ≤ y0 ∧ y0 ≤ y1 ∧ y1 < 1024) (W : World) : Fn Try.prog 93 [.agg #[.int .i64 x0, .int .i64 y0, .int .i64 x1, .int .i64 y1]] W (RetG (.int .i64 ((x1 - x0 + 1) * (y1 - y0 + 1))) W) :=
  Fn_of_calls (by kernel_rfl) (area_any x0 y0 x1 y1 h W)
theorem floor_E (n : Int) (h : 0 ≤ n ∧ n < 1048576) (W : World) : Fn Try.prog 162 [.int .i64 n] W (RetG (.int .i64 (n - n % 16)) W) :=
  Fn_of_calls (by kernel_rfl) ((floor_any n h.1 h.2 W).mono fun _ _ ⟨h, hw⟩ => ⟨h, by subst hw; exact Gr.refl _⟩)

def pieceC (x0 y0 x1 y1 x y : Int) : List Value := [.int .i64 (max x x0), .int .i64 (max y y0), .int .i64 (min (x + 16 - 1) x1), .int .i64 (min (y + 16 - 1) y1)]
def rowC (x0 y0 x1 y1 y : Int) (k : Nat) : List Value := (List.range k).flatMap fun (i : Nat) => pieceC x0 y0 x1 y1 (x0 - x0 % 16 + 16 * (i : Int)) y
def tilesN (a b : Int) : Nat := (b / 16 - a / 16 + 1).toNat
def piecesC (x0 y0 x1 y1 : Int) (k : Nat) : List Value := (List.range k).flatMap fun (j : Nat) => rowC x0 y0 x1 y1 (y0 - y0 % 16 + 16 * (j : Int)) (tilesN x0 x1)
theorem rowC_succ (x0 y0 x1 y1 y : Int) (k : Nat) : rowC x0 y0 x1 y1 y (k + 1) = rowC x0 y0 x1 y1 y k ++ pieceC x0 y0 x1 y1 (x0 - x0 % 16 + 16 * (k : Int)) y := by
  simp [rowC, List.range_succ]
theorem piecesC_succ (x0 y0 x1 y1 : Int) (k : Nat) : piecesC x0 y0 x1 y1 (k + 1) = piecesC x0 y0 x1 y1 k ++ rowC x0 y0 x1 y1 (y0 - y0 % 16 + 16 * (k : Int)) (tilesN x0 x1) := by
  simp [piecesC, List.range_succ]
theorem tiles_lt (a b : Int) (k : Nat) (h0 : 0 ≤ a) (h : a ≤ b) : k < tilesN a b ↔ a - a % 16 + 16 * (k : Int) ≤ b := by
  unfold tilesN; omega
theorem tiles_le (a b : Int) (h0 : 0 ≤ a) (h : a ≤ b) (hb : b < 1024) : 1 ≤ tilesN a b ∧ tilesN a b ≤ 64 := by
  unfold tilesN; omega
theorem info_rect : (Try.prog.info? 75).map (fun i => (i.zero, i.size, i.bytes)) = some (some (.agg #[.int .i64 0, .int .i64 0, .int .i64 0, .int .i64 0]), 4, 32) := by kernel_rfl
/-- returns a row of the call's own -/
def RetRow (el size n : Nat) (xs : List Value) (w : World) : Value → World → Prop := fun v' w' => ∃ A c, v' = .slice A n c ∧ Own w' w.heap.size el size A n c xs ∧ Gr w w'

theorem pieces_E (x0 y0 x1 y1 : Int) (h : 0 ≤ x0 ∧ x0 ≤ x1 ∧ x1 < 1024 ∧ 0 ≤ y0 ∧ y0 ≤ y1 ∧ y1 < 1024) (W : World) :
    Fn Try.prog 116 [.agg #[.int .i64 x0, .int .i64 y0, .int .i64 x1, .int .i64 y1]] W (RetRow 75 4 (tilesN y0 y1 * tilesN x0 x1) (piecesC x0 y0 x1 y1 (tilesN y0 y1)) W) := by
  have hr : rightB x0 y0 x1 y1 = true := (rightB_iff _ _ _ _).2 h
  obtain ⟨h1, h2, h3, h4, h5, h6⟩ := h
  obtain ⟨hx1, hx2⟩ := tiles_le x0 x1 h1 h2 h3
  obtain ⟨hy1, hy2⟩ := tiles_le y0 y1 h4 h5 h6
  refine Fn_enter Try.func116 rfl Try.results116 Try.ntmps116 (by kernel_rfl) (by kernel_rfl) ?_
  repeat refine cw_seq ?_
  refine cw_region ?_
  refine rw_new (op_box rfl) ?_
  intro w1_ g1_ s1_ b1_
  refine rw_v (op_pure rfl) ?_
  first | refine rw_end ?_ | (refine rw_nil ?_; show CW _ _ _ _ _ _) | refine rw_nil ?_
  repeat refine cw_seq ?_
  refine cw_region ?_
  refine rw_r (op_loadAB Try.underlying75 rfl (Try.sizeOf75 _) rfl b1_ rfl rfl) ?_
  refine rw_call rfl (right_E x0 y0 x1 y1 _) ?_
  rintro _ w2 ⟨rfl, g2⟩
  have b1_ := b1_.gr g2
  refine rw_v (op_pure rfl) ?_
  first | refine rw_end ?_ | (refine rw_nil ?_; show CW _ _ _ _ _ _) | refine rw_nil ?_
  repeat refine cw_seq ?_
  refine cw_false (by rw [hr]; rfl) ?_
  refine cw_skip ?_
  try show CW _ _ _ _ _ _
  repeat refine cw_seq ?_
  refine cw_region ?_
  refine rw_v (op_pure rfl) ?_
  first | refine rw_end ?_ | (refine rw_nil ?_; show CW _ _ _ _ _ _) | refine rw_nil ?_
  repeat refine cw_seq ?_
  refine cw_region ?_
  refine rw_v (op_fieldAddr Try.underlying75 rfl Try.sizeOf2 rfl rfl) ?_
  refine rw_r (op_loadB Try.underlying2 rfl rfl b1_ rfl) ?_
  refine rw_call rfl (floor_E y0 (by omega) _) ?_
  rintro _ w3 ⟨rfl, g3⟩
  have b1_ := b1_.gr g3
  refine rw_v (op_pure rfl) ?_
  first | refine rw_end ?_ | (refine rw_nil ?_; show CW _ _ _ _ _ _) | refine rw_nil ?_
  have bz := b1_
  repeat refine cw_seq ?_
  refine cw_block ?_
  refine cw_loop (fun m e w => ∃ (j : Nat) (A : Option Addr) (c : Nat), j + m = tilesN y0 y1 ∧ SL e [(1, .pointer (some ⟨W.heap.size, 0, none⟩)), (3, .slice A (j * tilesN x0 x1) c), (4, .int .i64 (y0 - y0 % 16 + 16 * (j : Int)))] ∧
    Own w w3.heap.size 75 4 A (j * tilesN x0 x1) c (piecesC x0 y0 x1 y1 j) ∧ Gr w3 w) (tilesN y0 y1) ⟨0, none, 0, by omega, ⟨rfl, se (by omega) rfl, ie (by omega), trivial⟩, by simpa [piecesC] using Own.nil _ _ _ _, Gr.refl _⟩ ?_
  rintro m e w ⟨j, A, c, hm, hsl, hown, hg⟩
  rw [hsl.fold]
  have b1_ := b1_.gr hg
  repeat refine cw_seq ?_
  refine cw_region ?_
  refine rw_v (op_pure rfl) ?_
  refine rw_v (op_fieldAddr Try.underlying75 rfl Try.sizeOf2 rfl rfl) ?_
  refine rw_r (op_loadB Try.underlying2 rfl rfl b1_ rfl) ?_
  first | refine rw_v (op_b (b := true) rfl (decide_eq_true (by omega))) ?_ | refine rw_v (op_b (b := false) rfl (decide_eq_false (by omega))) ?_ | refine rw_v (op_pure rfl) ?_
  first | refine rw_end ?_ | (refine rw_nil ?_; show CW _ _ _ _ _ _) | refine rw_nil ?_
  repeat refine cw_seq ?_
  refine cw_cond rfl (fun hc => ?_) (fun hc => ?_)
  · refine cw_skip ?_
    try show CW _ _ _ _ _ _
    have hlt : j < tilesN y0 y1 := (tiles_lt y0 y1 j h4 h5).2 (by simpa using hc)
    have hle := (tiles_lt y0 y1 j h4 h5).1 hlt
    repeat refine cw_seq ?_
    refine cw_block ?_
    repeat refine cw_seq ?_
    refine cw_region ?_
    refine rw_v (op_fieldAddr Try.underlying75 rfl Try.sizeOf2 rfl rfl) ?_
    refine rw_r (op_loadB Try.underlying2 rfl rfl b1_ rfl) ?_
    refine rw_call rfl (floor_E x0 (by omega) _) ?_
    rintro _ w4 ⟨rfl, g4⟩
    have b1_ := b1_.gr g4
    refine rw_v (op_pure rfl) ?_
    first | refine rw_end ?_ | (refine rw_nil ?_; show CW _ _ _ _ _ _) | refine rw_nil ?_
    repeat refine cw_seq ?_
    refine cw_block ?_
    refine cw_loop (fun m e w' => ∃ (k : Nat) (A : Option Addr) (c : Nat), k + m = tilesN x0 x1 ∧ SL e [(1, .pointer (some ⟨W.heap.size, 0, none⟩)), (3, .slice A (j * tilesN x0 x1 + k) c), (4, .int .i64 (y0 - y0 % 16 + 16 * (j : Int))), (5, .int .i64 (x0 - x0 % 16 + 16 * (k : Int)))] ∧
      Own w' w3.heap.size 75 4 A (j * tilesN x0 x1 + k) c (piecesC x0 y0 x1 y1 j ++ rowC x0 y0 x1 y1 (y0 - y0 % 16 + 16 * (j : Int)) k) ∧ Gr w3 w') (tilesN x0 x1) ⟨0, A, c, by omega, ⟨rfl, rfl, rfl, ie (by omega), trivial⟩, by simpa [rowC] using hown.gr g4, hg.trans g4⟩ ?_
    rintro m' e' w' ⟨k, A', c', hm', hsl', hown', hg'⟩
    rw [hsl'.fold]
    have b1_ := bz.gr hg'
    have G0 := Gr.refl w'
    have hl3 := bz.lt
    have hl4 := hg'.le
    repeat refine cw_seq ?_
    refine cw_region ?_
    refine rw_v (op_pure rfl) ?_
    refine rw_v (op_fieldAddr Try.underlying75 rfl Try.sizeOf2 rfl rfl) ?_
    refine rw_r (op_loadB Try.underlying2 rfl rfl b1_ rfl) ?_
    first | refine rw_v (op_b (b := true) rfl (decide_eq_true (by omega))) ?_ | refine rw_v (op_b (b := false) rfl (decide_eq_false (by omega))) ?_ | refine rw_v (op_pure rfl) ?_
    first | refine rw_end ?_ | (refine rw_nil ?_; show CW _ _ _ _ _ _) | refine rw_nil ?_
    repeat refine cw_seq ?_
    refine cw_cond rfl (fun hc' => ?_) (fun hc' => ?_)
    · refine cw_skip ?_
      try show CW _ _ _ _ _ _
      have hlt' : k < tilesN x0 x1 := (tiles_lt x0 x1 k h1 h2).2 (by simpa using hc')
      have hle' := (tiles_lt x0 x1 k h1 h2).1 hlt'
      have hjn : j * tilesN x0 x1 ≤ 64 * 64 := Nat.mul_le_mul (by omega) hx2
      repeat refine cw_seq ?_
      refine cw_block ?_
      repeat refine cw_seq ?_
      refine cw_region ?_
      refine rw_v (op_pure rfl) ?_
      refine rw_v (op_fieldAddr Try.underlying75 rfl Try.sizeOf2 rfl rfl) ?_
      refine rw_r (op_loadB Try.underlying2 rfl rfl b1_ rfl) ?_
      iterate 2 refine rw_v (op_pure rfl) ?_
      refine rw_v (op_fieldAddr Try.underlying75 rfl Try.sizeOf2 rfl rfl) ?_
      refine rw_r (op_loadB Try.underlying2 rfl rfl b1_ rfl) ?_
      iterate 2 refine rw_v (op_pure rfl) ?_
      refine rw_v (op_rng rfl (by omega)) ?_
      refine rw_v (op_rng rfl (by omega)) ?_
      refine rw_v (op_fieldAddr Try.underlying75 rfl Try.sizeOf2 rfl rfl) ?_
      refine rw_r (op_loadB Try.underlying2 rfl rfl b1_ rfl) ?_
      iterate 2 refine rw_v (op_pure rfl) ?_
      refine rw_v (op_rng rfl (by omega)) ?_
      refine rw_v (op_rng rfl (by omega)) ?_
      refine rw_v (op_fieldAddr Try.underlying75 rfl Try.sizeOf2 rfl rfl) ?_
      refine rw_r (op_loadB Try.underlying2 rfl rfl b1_ rfl) ?_
      refine rw_v (op_pure rfl) ?_
      refine rw_v (op_build (pl := [(0, 1), (1, 1), (2, 1), (3, 1)]) Try.underlying75 Try.zeroValue75 (fun w => by kernel_rfl) rfl rfl) ?_
      try have qb2_ := b1_.lt
      try have qb2_ := G0.le
      refine rw_new (op_alloc Try.zeroValue75 rfl) ?_
      intro w2_ g2_ s2_ b2_
      have b1_ := b1_.gr g2_
      have G0 := G0.trans g2_
      refine rw_storeA (n := 4) (Try.sizeOf75 _) rfl rfl rfl b2_ rfl rfl ?_
      intro w3_ g3_ s3_ b3_
      have b1_ := b1_.grown g3_ (by first | (intro hh; simp only [Option.some.injEq] at hh; omega) | (intro hh; have := Option.some.inj hh; omega) | exact fun hh => absurd (Option.some.inj hh) (b1_.ne_ b2_ (by decide)))
      have G0 := G0.store g3_ (by omega)
      have b2_ := b3_
      first | refine rw_end ?_ | (refine rw_nil ?_; show CW _ _ _ _ _ _) | refine rw_nil ?_
      repeat refine cw_seq ?_
      refine cw_region ?_
      refine rw_v (op_pure rfl) ?_
      first | refine rw_r (op_loadAB Try.underlying75 rfl (Try.sizeOf75 _) rfl b2_ rfl rfl) ?_ | refine rw_r (op_loadAB Try.underlying75 rfl (Try.sizeOf75 _) rfl b1_ rfl rfl) ?_
      try have qb4_ := b1_.lt
      try have qb4_ := G0.le
      try have qb4_ := b2_.lt
      refine rw_new (op_buildSlice Try.underlying176 Try.sizeOf75 Try.zeroValue75 rfl rfl rfl rfl rfl) ?_
      intro w4_ g4_ s4_ b4_
      have b1_ := b1_.gr g4_
      have G0 := G0.trans g4_
      have b2_ := b2_.gr g4_
      refine rw_append Try.underlying176 info_rect rfl rfl rfl (hown'.gr G0) rfl b4_ rfl rfl (by omega) (by have := G0.le; omega) ?_
      intro A2 c2 w5 hown5 hb5 hg5
      refine rw_v (op_pure rfl) ?_
      first | refine rw_end ?_ | (refine rw_nil ?_; show CW _ _ _ _ _ _) | refine rw_nil ?_
      repeat refine cw_seq ?_
      refine cw_region ?_
      refine rw_v (op_pure rfl) ?_
      refine rw_v (op_rng rfl (by omega)) ?_
      refine rw_v (op_pure rfl) ?_
      first | refine rw_end ?_ | (refine rw_nil ?_; show CW _ _ _ _ _ _) | refine rw_nil ?_
      refine ⟨m' - 1, by omega, k + 1, A2, c2, by omega, ⟨rfl, rfl, rfl, ie (by omega), trivial⟩, ?_, (hg'.trans G0).below hb5 (Nat.le_refl _)⟩
      rw [rowC_succ, ← List.append_assoc]
      exact hown5
    · refine cw_exit ?_
      show CW _ _ _ _ _ _
      have hk : k = tilesN x0 x1 := by have := mt (tiles_lt x0 x1 k h1 h2).1; simp at hc'; omega
      subst hk
      repeat refine cw_seq ?_
      refine cw_region ?_
      refine rw_v (op_pure rfl) ?_
      refine rw_v (op_rng rfl (by omega)) ?_
      refine rw_v (op_pure rfl) ?_
      first | refine rw_end ?_ | (refine rw_nil ?_; show CW _ _ _ _ _ _) | refine rw_nil ?_
      have hmul : j * tilesN x0 x1 + tilesN x0 x1 = (j + 1) * tilesN x0 x1 := (Nat.succ_mul _ _).symm
      refine ⟨m - 1, by omega, j + 1, A', c', by omega, ⟨rfl, se hmul rfl, ie (by omega), trivial⟩, ?_, hg'⟩
      rw [piecesC_succ, ← hmul]
      exact hown'
  · refine cw_exit ?_
    show CW _ _ _ _ _ _
    repeat refine cw_seq ?_
    refine cw_region ?_
    iterate 2 refine rw_v (op_pure rfl) ?_
    first | refine rw_end ?_ | (refine rw_nil ?_; show CW _ _ _ _ _ _) | refine rw_nil ?_
    have hj : j = tilesN y0 y1 := by have := mt (tiles_lt y0 y1 j h4 h5).1; simp at hc; omega
    subst hj
    refine cw_ret ?_
    exact res1 rfl ⟨_, _, rfl, hown.base ((g1_.trans (g2.trans g3)).le), g1_.trans (g2.trans (g3.trans hg))⟩
end Go.Proofs.Ytbcgbcipigcbhaa
