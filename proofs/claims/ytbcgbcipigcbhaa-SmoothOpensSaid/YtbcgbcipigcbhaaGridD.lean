/- grid.Fill and grid.Set. -/
import Derived.Test.YtbcgbcipigcbhaaGridC
namespace Go.Proofs.Ytbcgbcipigcbhaa
open Go.RowKit
set_option linter.unusedVariables false
set_option linter.unusedSimpArgs false
set_option maxRecDepth 100000

/-! ### Which cells the first pieces have -/
def pX0 (x0 i : Nat) : Nat := max (x0 - x0 % 16 + 16 * i) x0
def pX1 (x0 x1 i : Nat) : Nat := min (x0 - x0 % 16 + 16 * i + 15) x1
theorem p_spec {x0 x1 i : Nat} (h : x0 ≤ x1) (hi : i < tilesN x0 x1) : pX0 x0 i ≤ pX1 x0 x1 i ∧ pX1 x0 x1 i ≤ x1 ∧ x0 ≤ pX0 x0 i ∧ pX0 x0 i / 16 = pX1 x0 x1 i / 16 ∧ pX0 x0 i / 16 = x0 / 16 + i := by
  unfold tilesN at hi
  unfold pX0 pX1
  omega
theorem p_has {x0 x1 X : Nat} (h0 : x0 ≤ X) (h1 : X ≤ x1) : X / 16 - x0 / 16 < tilesN x0 x1 ∧ pX0 x0 (X / 16 - x0 / 16) ≤ X ∧ X ≤ pX1 x0 x1 (X / 16 - x0 / 16) := by
  unfold tilesN pX0 pX1
  omega
theorem pieceC_nat (x0 y0 x1 y1 i j : Nat) : pieceC x0 y0 x1 y1 ((x0 : Int) - (x0 : Int) % 16 + 16 * (i : Int)) ((y0 : Int) - (y0 : Int) % 16 + 16 * (j : Int)) = [.int .i64 (pX0 x0 i), .int .i64 (pX0 y0 j), .int .i64 (pX1 x0 x1 i), .int .i64 (pX1 y0 y1 j)] := by
  unfold pieceC pX0 pX1
  congr 1
  · exact ie (by omega)
  · congr 1
    · exact ie (by omega)
    · congr 1
      · exact ie (by omega)
      · congr 1
        exact ie (by omega)
def doneB (gw x0 y0 x1 y1 k idx : Nat) : Bool := (List.range k).any fun q => decide (inR gw (pX0 x0 (q % tilesN x0 x1)) (pX0 y0 (q / tilesN x0 x1)) (pX1 x0 x1 (q % tilesN x0 x1)) (pX1 y0 y1 (q / tilesN x0 x1)) idx)
def doneC (gw x0 y0 x1 y1 k : Nat) (v : Int) (c : Nat → Int) : Nat → Int := fun idx => if doneB gw x0 y0 x1 y1 k idx then v else c idx
theorem doneC_zero (gw x0 y0 x1 y1 : Nat) (v : Int) (c : Nat → Int) (idx : Nat) : doneC gw x0 y0 x1 y1 0 v c idx = c idx := by simp [doneC, doneB]
theorem doneC_succ (gw x0 y0 x1 y1 k : Nat) (v : Int) (c : Nat → Int) (idx : Nat) :
    fillC gw (pX0 x0 (k % tilesN x0 x1)) (pX0 y0 (k / tilesN x0 x1)) (pX1 x0 x1 (k % tilesN x0 x1)) (pX1 y0 y1 (k / tilesN x0 x1)) v (doneC gw x0 y0 x1 y1 k v c) idx = doneC gw x0 y0 x1 y1 (k + 1) v c idx := by
  have e : doneB gw x0 y0 x1 y1 (k + 1) idx = (doneB gw x0 y0 x1 y1 k idx || decide (inR gw (pX0 x0 (k % tilesN x0 x1)) (pX0 y0 (k / tilesN x0 x1)) (pX1 x0 x1 (k % tilesN x0 x1)) (pX1 y0 y1 (k / tilesN x0 x1)) idx)) := by
    unfold doneB
    rw [List.range_succ, List.any_append]
    simp
  unfold fillC doneC
  rw [e]
  by_cases h : inR gw (pX0 x0 (k % tilesN x0 x1)) (pX0 y0 (k / tilesN x0 x1)) (pX1 x0 x1 (k % tilesN x0 x1)) (pX1 y0 y1 (k / tilesN x0 x1)) idx
  · rw [if_pos h, if_pos (by simp [h])]
  · rw [if_neg h]; simp [h]
theorem doneC_all {gw gh x0 y0 x1 y1 : Nat} (hx : x0 ≤ x1 ∧ x1 < gw) (hy : y0 ≤ y1 ∧ y1 < gh) (v : Int) (c : Nat → Int) (idx : Nat) :
    doneC gw x0 y0 x1 y1 (tilesN y0 y1 * tilesN x0 x1) v c idx = fillC gw x0 y0 x1 y1 v c idx := by
  have key : doneB gw x0 y0 x1 y1 (tilesN y0 y1 * tilesN x0 x1) idx = true ↔ inR gw x0 y0 x1 y1 idx := by
    unfold doneB
    rw [List.any_eq_true]
    constructor
    · rintro ⟨q, hq0, hin0⟩
      have hq := List.mem_range.1 hq0
      have hin := of_decide_eq_true hin0
      clear hin0 hq0
      have hn : 0 < tilesN x0 x1 := by rcases Nat.eq_zero_or_pos (tilesN x0 x1) with h | h; · rw [h] at hq; simp at hq
                                       · exact h
      have h1 := p_spec hx.1 (Nat.mod_lt q hn)
      have h2 := p_spec hy.1 (i := q / tilesN x0 x1) (Nat.div_lt_of_lt_mul (by rw [Nat.mul_comm]; exact hq))
      unfold inR at *
      generalize q % tilesN x0 x1 = i at *
      generalize q / tilesN x0 x1 = j at *
      generalize idx % gw = X at *
      generalize idx / gw = Y at *
      omega
    · intro hin
      unfold inR at hin
      have h1 := p_has (x0 := x0) (x1 := x1) (X := idx % gw) (by omega) (by omega)
      have h2 := p_has (x0 := y0) (x1 := y1) (X := idx / gw) (by omega) (by omega)
      have h3 : (idx / gw / 16 - y0 / 16 + 1) * tilesN x0 x1 ≤ tilesN y0 y1 * tilesN x0 x1 := Nat.mul_le_mul_right _ h2.1
      rw [Nat.succ_mul] at h3
      have hn : 0 < tilesN x0 x1 := by omega
      refine ⟨(idx / gw / 16 - y0 / 16) * tilesN x0 x1 + (idx % gw / 16 - x0 / 16), List.mem_range.2 (by omega), decide_eq_true ?_⟩
      have e := cell_split (gw := tilesN x0 x1) (X := idx % gw / 16 - x0 / 16) (Y := idx / gw / 16 - y0 / 16) h1.1
      rw [e.1, e.2]
      unfold inR
      omega
  unfold doneC fillC
  by_cases h : inR gw x0 y0 x1 y1 idx
  · rw [if_pos h, if_pos (key.2 h)]
  · rw [if_neg h, if_neg (fun e => h (key.1 e))]

theorem GridAt.congr {w : World} {p gw gh cap : Nat} {c c' : Nat → Int} {A : Option Addr} {bs : Nat → Nat} {Rs : Nat → Option Nat} (h1 : GridAt w p gw gh c A cap bs Rs) (hc : ∀ i, i < gw * gh → c i = c' i) : GridAt w p gw gh c' A cap bs Rs :=
  ⟨h1.sw, h1.sh, h1.top, h1.row, fun t ht => (h1.slab t ht).congr fun i hi => tileC_congr hc ht h1.sw.1 hi, h1.inj, h1.injR⟩
/-- a grid behind a fill -/
def GridP (W : World) (p gw gh : Nat) (A : Option Addr) (cap : Nat) (bs : Nat → Nat) (Rs : Nat → Option Nat) (c : Nat → Int) (w' : World) : Prop :=
  ∃ Rs', GridAt w' p gw gh c A cap bs Rs' ∧ Fr (gridB (acr gw * acr gh) p A bs Rs) W w' ∧ ∀ g, gridB (acr gw * acr gh) p A bs Rs' g → gridB (acr gw * acr gh) p A bs Rs g ∨ W.heap.size ≤ g
def SpBlk2 (w wq : World) (t : TypeId) (l : List Value) (v u : Value) : Prop := ∃ b1 b2, v = .pointer (some ⟨b1, 0, none⟩) ∧ u = .pointer (some ⟨b2, 0, none⟩) ∧ Blk wq b1 t l ∧ Blk wq b2 t l ∧ b1 ≠ b2 ∧ w.heap.size ≤ b1 ∧ w.heap.size ≤ b2
def SpBlk1 (w wq : World) (t : TypeId) (l : List Value) (v : Value) : Prop := ∃ b1, v = .pointer (some ⟨b1, 0, none⟩) ∧ Blk wq b1 t l ∧ w.heap.size ≤ b1
def SpA (w wq : World) (t : TypeId) (l : List Value) : List Value → Prop
  | [] => True
  | [v] => SpBlk1 w wq t l v
  | v :: u :: _ => SpBlk2 w wq t l v u
theorem SpA.gr {w wq w' : World} {t : TypeId} {l : List Value} (g : Gr wq w') : ∀ {σ : List Value}, SpA w wq t l σ → SpA w w' t l σ
  | [], h => trivial
  | [v], h => by obtain ⟨b1, h1, h2, h3⟩ := h; exact ⟨b1, h1, h2.gr g, h3⟩
  | v :: u :: _, h => by obtain ⟨b1, b2, h1, h2, h3, h4, h5⟩ := h; exact ⟨b1, b2, h1, h2, h3.gr g, h4.gr g, h5⟩
theorem to_alloc1 {P : Program} {e : Nat → Value} {w0 w : World} {d : Option Tmp} {ty : TypeId} {ps : String} {af : Array Edge} {t : TypeId} {z : Value} {l : List Value} {R : Value → World → Prop} (hz : ∀ w, (zeroValue t).run P w = .ok z w) (hl : z.cells.toList = l) (g0 : Gr w0 w)
    (hr : ∀ v w', Gr w0 w' → SpBlk1 w0 w' t l v → R v w') : opTo P e ⟨d, .alloc t, ty, ps, af, none⟩ w R :=
  to_w (op_alloc hz hl) (hr _ _ (g0.trans (Gr.alloc _ _)) ⟨w.heap.size, rfl, Blk.new _ _ _, g0.le⟩)
theorem to_alloc2 {P : Program} {e : Nat → Value} {w0 w : World} {d : Option Tmp} {ty : TypeId} {ps : String} {af : Array Edge} {t : TypeId} {z u : Value} {l : List Value} {R : Value → World → Prop} (hz : ∀ w, (zeroValue t).run P w = .ok z w) (hl : z.cells.toList = l) (g0 : Gr w0 w) (h1 : SpBlk1 w0 w t l u)
    (hr : ∀ v w', Gr w0 w' → SpBlk2 w0 w' t l v u → R v w') : opTo P e ⟨d, .alloc t, ty, ps, af, none⟩ w R := by
  obtain ⟨b1, rfl, hB, hb⟩ := h1
  exact to_w (op_alloc hz hl) (hr _ _ (g0.trans (Gr.alloc _ _)) ⟨w.heap.size, b1, rfl, rfl, Blk.new _ _ _, hB.gr (Gr.alloc _ _), by have := hB.lt; omega, g0.le, hb⟩)

section
variable {W : World} {p gw gh cap : Nat} {c : Nat → Int} {A : Option Addr} {bs : Nat → Nat} {Rs : Nat → Option Nat}
set_option maxHeartbeats 2000000 in
theorem gfill_E (x0 y0 x1 y1 : Nat) (v : Int) (hx : x0 ≤ x1 ∧ x1 < gw) (hy : y0 ≤ y1 ∧ y1 < gh) (hv : -2147483648 ≤ v ∧ v ≤ 2147483647) (hG : GridAt W p gw gh c A cap bs Rs) :
    Fn Try.prog 118 [.pointer (some ⟨p, 0, none⟩), .agg #[.int .i64 x0, .int .i64 y0, .int .i64 x1, .int .i64 y1], .int .i64 v] W
      (fun r w' => r = .int .i64 0 ∧ GridP W p gw gh A cap bs Rs (fillC gw x0 y0 x1 y1 v c) w') := by
  have hw := hG.sw
  have hh := hG.sh
  have hwi : within x0 y0 x1 y1 gw gh = 0 := within_fine (by omega) (by omega) (by omega) (by omega)
  obtain ⟨hnx, hnx2⟩ := tiles_le x0 x1 (by omega) (by omega) (by omega)
  obtain ⟨hny, hny2⟩ := tiles_le y0 y1 (by omega) (by omega) (by omega)
  have hN : tilesN y0 y1 * tilesN x0 x1 ≤ 64 * 64 := Nat.mul_le_mul hny2 hnx2
  have S := St.start1 W (.grid p gw gh c A cap bs Rs) hG
  refine Fn_enter Try.func118 rfl Try.results118 Try.ntmps118 (by kernel_rfl) (by kernel_rfl) ?_
  repeat refine cw_seq ?_
  refine cw_region ?_
  refine rw_newB (op_box rfl) S ?_
  intro b_rc w2_ g2_ S
  refine rw_v (op_pure rfl) ?_
  first | refine rw_end ?_ | (refine rw_nil ?_; show CW _ _ _ _ _ _) | refine rw_nil ?_
  repeat refine cw_seq ?_
  refine cw_region ?_
  refine rw_v (op_pure rfl) ?_
  refine rw_r (op_loadAB Try.underlying75 rfl (Try.sizeOf75 _) rfl (S.blk (i := 0) rfl) rfl rfl) ?_
  refine rw_call rfl (gcheck_E p gw gh x0 y0 x1 y1 hw.2 hh.2 _ w2_ (S.grid (i := 1) rfl).top) ?_
  rintro _ w3_ ⟨rfl, g3_⟩
  have S := S.gr g3_
  refine rw_v (op_pure rfl) ?_
  first | refine rw_end ?_ | (refine rw_nil ?_; show CW _ _ _ _ _ _) | refine rw_nil ?_
  repeat refine cw_seq ?_
  refine cw_region ?_
  refine rw_v (op_pure rfl) ?_
  refine rw_v (op_b (b := false) rfl (bne_eq_false_iff_eq.2 (by omega))) ?_
  first | refine rw_end ?_ | (refine rw_nil ?_; show CW _ _ _ _ _ _) | refine rw_nil ?_
  repeat refine cw_seq ?_
  refine cw_false (by rw [hwi]; rfl) ?_
  repeat refine cw_seq ?_
  refine cw_skip ?_
  try show CW _ _ _ _ _ _
  repeat refine cw_seq ?_
  refine cw_region ?_
  refine rw_r (op_loadAB Try.underlying75 rfl (Try.sizeOf75 _) rfl (S.blk (i := 0) rfl) rfl rfl) ?_
  refine rw_call rfl (pieces_N x0 y0 x1 y1 (by omega) w3_) ?_
  rintro _ w4_ ⟨A_ps, c_ps, rfl, hR_ps, hf_ps, g4_⟩
  have S := S.pushRow hR_ps hf_ps g4_
  refine rw_v (op_len Try.underlying176 rfl) ?_
  refine rw_v (op_pure rfl) ?_
  first | refine rw_end ?_ | (refine rw_nil ?_; show CW _ _ _ _ _ _) | refine rw_nil ?_
  repeat refine cw_seq ?_
  refine cw_block ?_
  repeat refine cw_seq ?_
  have sa_ps : SomeA A_ps := hR_ps.someA (Nat.mul_pos hny hnx)
  refine cw_loop (fun m e w => ∃ (k : Nat) (Rs' : Nat → Option Nat), k + m = tilesN y0 y1 * tilesN x0 x1 ∧ SL e [(0, .pointer (some ⟨p, 0, none⟩)), (2, .int .i64 v), (20, .slice A_ps (tilesN y0 y1 * tilesN x0 x1) c_ps), (21, .int .i64 (tilesN y0 y1 * tilesN x0 x1 : Nat)), (22, .int .i64 k)] ∧
    St (gridB (acr gw * acr gh) p A bs Rs) W w [.row 75 4 A_ps (tilesN y0 y1 * tilesN x0 x1) c_ps (piecesC x0 y0 x1 y1 (tilesN y0 y1)), .grid p gw gh (doneC gw x0 y0 x1 y1 k v c) A cap bs Rs']) (tilesN y0 y1 * tilesN x0 x1)
    ⟨0, Rs, by omega, ⟨rfl, rfl, rfl, rfl, rfl, trivial⟩, by
      have S := S.sub (.cons_cons _ (.cons _ (.cons_cons _ .slnil)))
      exact S.as_ (i := 1) rfl rfl (fun h => h.congr (fun i _ => (doneC_zero gw x0 y0 x1 y1 v c i).symm)) (fun g h => h)⟩ ?_
  rintro m e w ⟨k, Rs1, hk, hsl, S⟩
  rw [hsl.fold]
  repeat refine cw_seq ?_
  refine cw_region ?_
  refine rw_v (op_pure rfl) ?_
  first | refine rw_end ?_ | (refine rw_nil ?_; show CW _ _ _ _ _ _) | refine rw_nil ?_
  repeat refine cw_seq ?_
  refine cw_cond rfl (fun hc => ?_) (fun hc => ?_)
  · try simp only [decide_eq_true_eq, decide_eq_false_iff_not, beq_iff_eq, bne_iff_ne, beq_eq_false_iff_ne, bne_eq_false_iff_eq, Bool.not_eq_true', Bool.not_eq_false', ne_eq, Decidable.not_not, Int.natCast_inj, Int.ofNat_lt, Int.ofNat_le, gt_iff_lt, ge_iff_le, Int.not_lt, Int.not_le] at hc
    have hkN : k < tilesN y0 y1 * tilesN x0 x1 := by omega
    have hi : k % tilesN x0 x1 < tilesN x0 x1 := Nat.mod_lt _ hnx
    have hj : k / tilesN x0 x1 < tilesN y0 y1 := Nat.div_lt_of_lt_mul (by rw [Nat.mul_comm]; exact hkN)
    have hp1 := p_spec hx.1 hi
    have hp2 := p_spec hy.1 hj
    have hat := piecesC_at x0 y0 x1 y1 (tilesN y0 y1) _ _ hi hj
    rw [show k / tilesN x0 x1 * tilesN x0 x1 + k % tilesN x0 x1 = k by rw [Nat.mul_comm]; exact Nat.div_add_mod _ _, pieceC_nat] at hat
    have hat' : ((piecesC x0 y0 x1 y1 (tilesN y0 y1)).drop ((k : Int).toNat * 4)).take 4 = [.int .i64 (pX0 x0 (k % tilesN x0 x1)), .int .i64 (pX0 y0 (k / tilesN x0 x1)), .int .i64 (pX1 x0 x1 (k % tilesN x0 x1)), .int .i64 (pX1 y0 y1 (k / tilesN x0 x1))] := by rw [Int.toNat_natCast]; exact hat
    have hsucc := doneC_succ gw x0 y0 x1 y1 k v c
    generalize pX0 x0 (k % tilesN x0 x1) = a0 at *
    generalize pX1 x0 x1 (k % tilesN x0 x1) = a1 at *
    generalize pX0 y0 (k / tilesN x0 x1) = b0 at *
    generalize pX1 y0 y1 (k / tilesN x0 x1) = b1 at *
    have ht := tile_lt (gw := gw) (gh := gh) (x := a0) (y := b0) (by omega) (by omega)
    have hto := tile_of (gw := gw) (b := b0 / 16) (div_lt_acr (x := a0) (by omega))
    have hz1 := tsz_pos (div_lt_acr (n := gw) (x := a0) (by omega))
    have hz2 := tsz_pos (div_lt_acr (n := gh) (x := b0) (by omega))
    have hm1 := mod_lt_tsz (n := gw) (x := a0) (by omega)
    have hm2 := mod_lt_tsz (n := gw) (x := a1) (by omega)
    have hm3 := mod_lt_tsz (n := gh) (x := b0) (by omega)
    have hm4 := mod_lt_tsz (n := gh) (x := b1) (by omega)
    have ec : ∀ a : Nat, (a : Int) % 16 = ((a % 16 : Nat) : Int) := fun a => by omega
    rw [← hp1.2.2.2.1] at hm2
    rw [← hp2.2.2.2.1] at hm4
    repeat refine cw_seq ?_
    refine cw_skip ?_
    try show CW _ _ _ _ _ _
    repeat refine cw_seq ?_
    refine cw_block ?_
    repeat refine cw_seq ?_
    refine cw_region ?_
    refine rw_v (op_idx Try.underlying176 Try.sizeOf75 rfl rfl sa_ps (by omega) (by omega)) ?_
    refine rw_r (op_ldRA Try.underlying75 rfl (Try.sizeOf75 _) rfl (S.rd (i := 0) rfl) hat' rfl rfl) ?_
    refine rw_newB (op_alloc Try.zeroValue75 rfl) S ?_
    intro b_pc w6_ g6_ S
    refine rw_storeSA (i := 0) S rfl (Try.sizeOf75 _) rfl rfl rfl rfl rfl rfl ?_
    intro w7_ S
    first | refine rw_end ?_ | (refine rw_nil ?_; show CW _ _ _ _ _ _) | refine rw_nil ?_
    repeat refine cw_seq ?_
    refine cw_cutT (M := fun e w => ∃ (ba bb bp : Nat), SL e [(0, .pointer (some ⟨p, 0, none⟩)), (2, .int .i64 v), (9, .pointer (some ⟨bp, 0, none⟩)), (10, .pointer (some ⟨ba, 0, none⟩)), (11, .pointer (some ⟨bb, 0, none⟩)), (20, .slice A_ps (tilesN y0 y1 * tilesN x0 x1) c_ps), (21, .int .i64 (tilesN y0 y1 * tilesN x0 x1 : Nat)), (22, .int .i64 k)] ∧ St (gridB (acr gw * acr gh) p A bs Rs) W w [.blk ba 44 [.int .i64 ((a0 : Int) % 16), .int .i64 ((b0 : Int) % 16)], .blk bb 44 [.int .i64 ((a1 : Int) % 16), .int .i64 ((b1 : Int) % 16)], .blk bp 75 [.int .i64 a0, .int .i64 b0, .int .i64 a1, .int .i64 b1], .row 75 4 A_ps (tilesN y0 y1 * tilesN x0 x1) c_ps (piecesC x0 y0 x1 y1 (tilesN y0 y1)), .grid p gw gh (doneC gw x0 y0 x1 y1 k v c) A cap bs Rs1]) ?_ ?_
    · skip
      repeat refine cw_seq ?_
      refine cw_pair (C := (fun σ wq => Gr w7_ wq ∧ SpA w7_ wq 44 [.int .i64 0, .int .i64 0] σ)) [10, 11] [10] [0, 1, 2, 3, 4, 5, 6, 7, 8, 9, 10, 11] [12, 13] (by kernel_rfl) (by kernel_rfl) ⟨Gr.drew _, trivial⟩ ?_
      simp only [pickI, pickL, List.drop_succ_cons, List.drop_zero]
      refine rp_plain rfl ?_
      refine rs_v rfl (op_fieldAddr Try.underlying75 rfl Try.sizeOf2 rfl rfl) ?_
      refine rs_nil ?_
      refine rp_plain rfl ?_
      refine rs_r rfl (fun τ wq hq => op_loadB Try.underlying2 rfl rfl ((S.gr hq.1).blk (i := 0) rfl) rfl) ?_
      refine rs_nil ?_
      refine rp_plain rfl ?_
      refine rs_v rfl (op_fieldAddr Try.underlying75 rfl Try.sizeOf2 rfl rfl) ?_
      refine rs_nil ?_
      refine rp_plain rfl ?_
      refine rs_r rfl (fun τ wq hq => op_loadB Try.underlying2 rfl rfl ((S.gr hq.1).blk (i := 0) rfl) rfl) ?_
      refine rs_nil ?_
      refine rp_plain rfl ?_
      refine rs_call rfl rfl (fun τ wq hq => (inner_E _ _ (by omega) (by omega) wq).mono (fun _ _ ⟨hv, hg⟩ => ⟨hv, hq.1.trans hg, SpA.gr hg hq.2⟩)) ?_
      refine rs_nil ?_
      refine rp_plain rfl ?_
      refine rs_v rfl (op_fieldAddr Try.underlying75 rfl Try.sizeOf2 rfl rfl) ?_
      refine rs_nil ?_
      refine rp_plain rfl ?_
      refine rs_r rfl (fun τ wq hq => op_loadB Try.underlying2 rfl rfl ((S.gr hq.1).blk (i := 0) rfl) rfl) ?_
      refine rs_nil ?_
      refine rp_plain rfl ?_
      refine rs_v rfl (op_fieldAddr Try.underlying75 rfl Try.sizeOf2 rfl rfl) ?_
      refine rs_nil ?_
      refine rp_plain rfl ?_
      refine rs_r rfl (fun τ wq hq => op_loadB Try.underlying2 rfl rfl ((S.gr hq.1).blk (i := 0) rfl) rfl) ?_
      refine rs_nil ?_
      refine rp_plain rfl ?_
      refine rs_call rfl rfl (fun τ wq hq => (inner_E _ _ (by omega) (by omega) wq).mono (fun _ _ ⟨hv, hg⟩ => ⟨hv, hq.1.trans hg, SpA.gr hg hq.2⟩)) ?_
      refine rs_nil ?_
      refine rp_pair rfl ?_ ?_
      · refine rs_special rfl rfl (fun wq hq => ?_) ?_
        · first | exact to_alloc1 Try.zeroValue44 rfl hq.1 (fun v w' g h => ⟨g, h⟩) | exact to_alloc2 Try.zeroValue44 rfl hq.1 hq.2 (fun v w' g h => ⟨g, h⟩)
        rintro v10 w10 ⟨_, hsp10⟩
        refine rs_special rfl rfl (fun wq hq => ?_) ?_
        · first | exact to_alloc1 Try.zeroValue44 rfl hq.1 (fun v w' g h => ⟨g, h⟩) | exact to_alloc2 Try.zeroValue44 rfl hq.1 hq.2 (fun v w' g h => ⟨g, h⟩)
        rintro v11 w11 ⟨_, hsp11⟩
        refine rs_nil ?_
        refine rp_nil ?_
        rintro w8_ ⟨g8_, hsp⟩
        obtain ⟨bx_, by_, he1, he2, hB1, hB2, hne, hs1, hs2⟩ := hsp
        cases he1
        cases he2
        have S := S.push2 g8_ (h1 := .blk _ 44 _) (h2 := .blk _ 44 _) hB2 hB1 (fun g h => h ▸ hs2) (fun g h => h ▸ hs1) (fun g h h' => hne (h'.symm.trans h))
        refine rw_storeSA (i := 0) S rfl (Try.sizeOf44 _) rfl rfl rfl rfl rfl rfl ?_
        intro w9_ S
        refine rw_storeSA (i := 1) S rfl (Try.sizeOf44 _) rfl rfl rfl rfl rfl rfl ?_
        intro w10_ S
        first | refine rw_end ?_ | (refine rw_nil ?_; show CW _ _ _ _ _ _) | refine rw_nil ?_
        exact ⟨_, _, _, ⟨rfl, rfl, rfl, rfl, rfl, rfl, rfl, rfl, trivial⟩, S⟩
      · refine rs_special rfl rfl (fun wq hq => ?_) ?_
        · first | exact to_alloc1 Try.zeroValue44 rfl hq.1 (fun v w' g h => ⟨g, h⟩) | exact to_alloc2 Try.zeroValue44 rfl hq.1 hq.2 (fun v w' g h => ⟨g, h⟩)
        rintro v11 w11 ⟨_, hsp11⟩
        refine rs_special rfl rfl (fun wq hq => ?_) ?_
        · first | exact to_alloc1 Try.zeroValue44 rfl hq.1 (fun v w' g h => ⟨g, h⟩) | exact to_alloc2 Try.zeroValue44 rfl hq.1 hq.2 (fun v w' g h => ⟨g, h⟩)
        rintro v10 w10 ⟨_, hsp10⟩
        refine rs_nil ?_
        refine rp_nil ?_
        rintro w11_ ⟨g11_, hsp⟩
        obtain ⟨bx_, by_, he1, he2, hB1, hB2, hne, hs1, hs2⟩ := hsp
        cases he1
        cases he2
        have S := S.push2 g11_ (h1 := .blk _ 44 _) (h2 := .blk _ 44 _) hB1 hB2 (fun g h => h ▸ hs1) (fun g h => h ▸ hs2) (fun g h h' => hne (h.symm.trans h'))
        refine rw_storeSA (i := 0) S rfl (Try.sizeOf44 _) rfl rfl rfl rfl rfl rfl ?_
        intro w12_ S
        refine rw_storeSA (i := 1) S rfl (Try.sizeOf44 _) rfl rfl rfl rfl rfl rfl ?_
        intro w13_ S
        first | refine rw_end ?_ | (refine rw_nil ?_; show CW _ _ _ _ _ _) | refine rw_nil ?_
        exact ⟨_, _, _, ⟨rfl, rfl, rfl, rfl, rfl, rfl, rfl, rfl, trivial⟩, S⟩
    · rintro e2 w2 ⟨ba, bb, bp, hsl, S⟩
      rw [hsl.fold]
      have hle2 := S.le
      have hGk := S.grid (i := 4) rfl
      have hSk := hGk.slab _ ht
      rw [hto.1, hto.2] at hSk
      repeat refine cw_seq ?_
      refine cw_draw (C := fun wq => Gr w2 wq) [0, 1, 2, 3, 4, 5, 6, 7, 8, 9, 10, 11, 12, 13, 14, 15] [16, 17] (by kernel_rfl) (by kernel_rfl) (Gr.drew _) ?_
      simp only [pickL, List.drop_succ_cons, List.drop_zero]
      refine rq_v (op_pure rfl) ?_
      refine rq_v (op_fieldAddr Try.underlying75 rfl Try.sizeOf2 rfl rfl) ?_
      refine rq_r (fun wq hq => op_loadB Try.underlying2 rfl rfl ((S.gr hq).blk (i := 2) rfl) rfl) ?_
      refine rq_v (op_fieldAddr Try.underlying75 rfl Try.sizeOf2 rfl rfl) ?_
      refine rq_r (fun wq hq => op_loadB Try.underlying2 rfl rfl ((S.gr hq).blk (i := 2) rfl) rfl) ?_
      refine rq_call rfl (fun wq hq => (gslab_E a0 b0 (by omega) (by omega) ((S.gr hq).grid (i := 4) rfl)).mono (fun _ _ ⟨hv, hg⟩ => ⟨hv, hq.trans hg⟩)) ?_
      refine rq_v (op_fieldAddr Try.underlying44 rfl Try.sizeOf2 rfl rfl) ?_
      refine rq_r (fun wq hq => op_loadB Try.underlying2 rfl rfl ((S.gr hq).blk (i := 0) rfl) rfl) ?_
      refine rq_v (op_fieldAddr Try.underlying44 rfl Try.sizeOf2 rfl rfl) ?_
      refine rq_r (fun wq hq => op_loadB Try.underlying2 rfl rfl ((S.gr hq).blk (i := 0) rfl) rfl) ?_
      refine rq_v (op_fieldAddr Try.underlying44 rfl Try.sizeOf2 rfl rfl) ?_
      refine rq_r (fun wq hq => op_loadB Try.underlying2 rfl rfl ((S.gr hq).blk (i := 1) rfl) rfl) ?_
      refine rq_v (op_fieldAddr Try.underlying44 rfl Try.sizeOf2 rfl rfl) ?_
      refine rq_r (fun wq hq => op_loadB Try.underlying2 rfl rfl ((S.gr hq).blk (i := 1) rfl) rfl) ?_
      refine rq_v (op_build (pl := [(0, 1), (1, 1), (2, 1), (3, 1)]) Try.underlying75 Try.zeroValue75 (fun w => by kernel_rfl) rfl rfl) ?_
      refine rq_v (op_pure rfl) ?_
      refine rq_nil ?_
      intro w14_ g14_
      have S := S.gr g14_
      refine rw_call rfl (sfill_E _ _ _ _ _ ((a0 : Int) % 16) ((b0 : Int) % 16) ((a1 : Int) % 16) ((b1 : Int) % 16) v hz1 hz2 (by omega) (by omega) hv w14_ (hSk.gr (by assumption))) ?_
      rintro _ w15_ ⟨rfl, hP⟩
      rw [ec, ec, ec, ec] at hP
      obtain ⟨Rs2, hG2, hF2, hO2⟩ := GridAt.fillTile (S.grid (i := 4) rfl) ⟨hp1.1, by omega, hp1.2.2.2.1⟩ ⟨hp2.1, by omega, hp2.2.2.2.1⟩ hP
      have S := S.set (i := 4) (h' := .grid p gw gh _ A cap bs Rs2) rfl rfl hF2 (fun g h => .inl h) hG2 hO2
      refine rw_v (op_pure rfl) ?_
      first | refine rw_end ?_ | (refine rw_nil ?_; show CW _ _ _ _ _ _) | refine rw_nil ?_
      repeat refine cw_seq ?_
      refine cw_region ?_
      refine rw_v (op_pure rfl) ?_
      refine rw_v (op_b (b := false) rfl (bne_eq_false_iff_eq.2 (by omega))) ?_
      first | refine rw_end ?_ | (refine rw_nil ?_; show CW _ _ _ _ _ _) | refine rw_nil ?_
      repeat refine cw_seq ?_
      refine cw_false rfl ?_
      repeat refine cw_seq ?_
      refine cw_skip ?_
      try show CW _ _ _ _ _ _
      repeat refine cw_seq ?_
      refine cw_region ?_
      refine rw_v (op_rng rfl (by omega)) ?_
      refine rw_v (op_pure rfl) ?_
      first | refine rw_end ?_ | (refine rw_nil ?_; show CW _ _ _ _ _ _) | refine rw_nil ?_
      refine ⟨m - 1, by omega, k + 1, Rs2, by omega, ⟨rfl, rfl, rfl, rfl, ie (by omega), trivial⟩, ?_⟩
      have S := S.sub (.cons _ (.cons _ (.cons _ (.cons_cons _ (.cons_cons _ .slnil)))))
      exact S.as_ (i := 1) rfl rfl (fun h => h.congr (fun i _ => hsucc i)) (fun g h => h)
  · try simp only [decide_eq_true_eq, decide_eq_false_iff_not, beq_iff_eq, bne_iff_ne, beq_eq_false_iff_ne, bne_eq_false_iff_eq, Bool.not_eq_true', Bool.not_eq_false', ne_eq, Decidable.not_not, Int.natCast_inj, Int.ofNat_lt, Int.ofNat_le, gt_iff_lt, ge_iff_le, Int.not_lt, Int.not_le] at hc
    repeat refine cw_seq ?_
    refine cw_exit ?_
    repeat first | refine exit_then ?_ | refine exit_inb ?_
    show CW _ _ _ _ _ _
    repeat refine cw_seq ?_
    refine cw_region ?_
    refine rw_v (op_pure rfl) ?_
    first | refine rw_end ?_ | (refine rw_nil ?_; show CW _ _ _ _ _ _) | refine rw_nil ?_
    repeat refine cw_seq ?_
    refine cw_ret ?_
    repeat first | refine ret_then ?_ | refine ret_inb ?_
    obtain rfl : k = tilesN y0 y1 * tilesN x0 x1 := by omega
    exact res1 rfl ⟨rfl, Rs1, (S.grid (i := 1) rfl).congr (fun i _ => doneC_all hx hy v c i), S.fr, fun g hg => (S.sep.get (i := 1) rfl).2 g hg⟩
theorem gset_E (x y : Nat) (v : Int) (hx : x < gw) (hy : y < gh) (hv : -2147483648 ≤ v ∧ v ≤ 2147483647) (hG : GridAt W p gw gh c A cap bs Rs) :
    Fn Try.prog 58 [.pointer (some ⟨p, 0, none⟩), .agg #[.int .i64 x, .int .i64 y], .int .i64 v] W
      (fun r w' => r = .int .i64 0 ∧ GridP W p gw gh A cap bs Rs (fun i => if i = y * gw + x then v else c i) w') := by
  have S := St.start1 W (.grid p gw gh c A cap bs Rs) hG
  refine Fn_enter Try.func58 rfl Try.results58 Try.ntmps58 (by kernel_rfl) (by kernel_rfl) ?_
  repeat refine cw_seq ?_
  refine cw_region ?_
  refine rw_newB (op_box rfl) S ?_
  intro b_b1 w2_ g2_ S
  refine rw_v (op_pure rfl) ?_
  first | refine rw_end ?_ | (refine rw_nil ?_; show CW _ _ _ _ _ _) | refine rw_nil ?_
  repeat refine cw_seq ?_
  refine cw_region ?_
  refine rw_v (op_pure rfl) ?_
  refine rw_r (op_loadAB Try.underlying44 rfl (Try.sizeOf44 _) rfl (S.blk (i := 0) rfl) rfl rfl) ?_
  refine rw_call rfl (gspot_E _ _ w2_) ?_
  rintro _ w3_ ⟨rfl, g3_⟩
  have S := S.gr g3_
  refine rw_v (op_pure rfl) ?_
  refine rw_call rfl (gfill_E x y x y v ⟨Nat.le_refl _, hx⟩ ⟨Nat.le_refl _, hy⟩ hv (S.grid (i := 1) rfl)) ?_
  rintro _ w4_ ⟨rfl, Rs2, hG2, hF2, hO2⟩
  have S := S.set (i := 1) (h' := .grid p gw gh _ A cap bs Rs2) rfl rfl hF2 (fun g h => .inl h) hG2 hO2
  refine rw_v (op_pure rfl) ?_
  first | refine rw_end ?_ | (refine rw_nil ?_; show CW _ _ _ _ _ _) | refine rw_nil ?_
  repeat refine cw_seq ?_
  refine cw_ret ?_
  repeat first | refine ret_then ?_ | refine ret_inb ?_
  refine res1 rfl ⟨rfl, Rs2, (S.grid (i := 1) rfl).congr (fun i _ => ?_), S.fr, fun g hg => (S.sep.get (i := 1) rfl).2 g hg⟩
  have := split_iff (sw := gw) (X := x) (Y := y) (by omega) (by omega) i
  have e : ((y : Int) * gw + x).toNat = y * gw + x := by
    have : (y : Int) * gw + x = ((y * gw + x : Nat) : Int) := by push_cast; rfl
    rw [this]; exact Int.toNat_natCast _
  rw [e] at this
  unfold fillC
  by_cases h : i = y * gw + x
  · rw [if_pos h, if_pos]
    have h1 := this.2 h
    unfold inR
    omega
  · rw [if_neg h, if_neg]
    intro hin
    refine h (this.1 ?_)
    unfold inR at hin
    generalize i % gw = q at *
    generalize i / gw = r at *
    omega
end
end Go.Proofs.Ytbcgbcipigcbhaa
