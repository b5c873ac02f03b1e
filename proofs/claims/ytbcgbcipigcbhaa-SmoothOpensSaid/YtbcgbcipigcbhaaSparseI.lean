/- sparse.Table.Square, Range: contracts. -/
import Derived.Test.YtbcgbcipigcbhaaSparseH
import Derived.Test.YtbcgbcipigcbhaaSmooth
namespace Go.Proofs.Ytbcgbcipigcbhaa
open Go.RowKit
set_option linter.unusedVariables false
set_option linter.unusedSimpArgs false
set_option maxRecDepth 100000

theorem RgOf.congr {v : Nat → Nat → Int} {P Q : Nat → Nat → Prop} {r : RG} (h : RgOf v P r) (hPQ : ∀ x y, P x y ↔ Q x y) : RgOf v Q r := by
  obtain ⟨x1, y1, p1, e1⟩ := h.lo
  obtain ⟨x2, y2, p2, e2⟩ := h.hi
  exact ⟨fun x y hq => h.all x y ((hPQ x y).2 hq), ⟨x1, y1, (hPQ _ _).1 p1, e1⟩, x2, y2, (hPQ _ _).1 p2, e2⟩
/-- the range of a box -/
noncomputable def rgB (V : List Int) (gw x0 y0 x1 y1 : Nat) : RG :=
  open Classical in if h : ∃ r, RgOf (cellV V gw) (boxP x0 y0 x1 y1) r then h.choose else ⟨0, 0⟩
theorem rgB_eq {V : List Int} {gw x0 y0 x1 y1 : Nat} {r : RG} (h : RgOf (cellV V gw) (boxP x0 y0 x1 y1) r) : rgB V gw x0 y0 x1 y1 = r := by
  have h' : ∃ r, RgOf (cellV V gw) (boxP x0 y0 x1 y1) r := ⟨r, h⟩
  unfold rgB
  rw [dif_pos h']
  exact h'.choose_spec.uniq h
section
variable {W : World} {tb gw gh : Nat} {V : List Int}
set_option maxHeartbeats 2000000 in
theorem tsquareA_E (k x y : Nat) (hw : 1 ≤ gw ∧ gw ≤ 1024) (hh : 1 ≤ gh ∧ gh ≤ 1024) (hk : k ≤ Nat.log2 (min gw gh)) (hx : x < acK gw k) (hy : y < acK gh k) (hA : SparseAt W tb gw gh V) :
    Fn Try.prog 173 [.pointer (some ⟨tb, 0, none⟩), .int .i64 k, .agg #[.int .i64 x, .int .i64 y]] W (RetG (.tuple #[.agg (sqR V gw k x y).cells.toArray, .int .i64 0]) W) := by
  obtain ⟨As, cs, Ac, cc, hT, hS, hF⟩ := hA
  generalize Nat.log2 (min gw gh) = K at *
  have hst := stV_at (k := K + 1) (j := k) (ac := acK gw) (As := Ac) (ns := fun k => acK gw k * acK gh k) (cs := cc) (by omega)
  have hC := (hF k (by omega)).rd
  have hS' := hS.rd
  have hat := rgsV_at (levK_at V (gw := gw) (gh := gh) (k := k) hx hy)
  have hlen : (rgsV (levK V gw gh k)).length = acK gw k * acK gh k * 2 := by rw [rgsV_len, levK_len]
  have haw : acK gw k ≤ 1024 := by unfold acK; have := Nat.two_pow_pos k; omega
  have hah : acK gh k ≤ 1024 := by unfold acK; have := Nat.two_pow_pos k; omega
  have hm : acK gw k * acK gh k ≤ 1024 * 1024 := Nat.mul_le_mul haw hah
  have hk2 : k < 1024 := by
    by_cases h : k < 1024
    · exact h
    · exfalso
      have h2 : k < 2 ^ k := Nat.lt_two_pow_self
      unfold acK at hx
      omega
  have hlt : y * acK gw k + x < acK gw k * acK gh k := by
    have := Nat.mul_le_mul_right (acK gw k) (show y + 1 ≤ acK gh k from hy)
    rw [Nat.succ_mul, Nat.mul_comm (acK gh k)] at this
    omega
  have hq : (((acK gw k * acK gh k : Nat) : Int)).tdiv ((acK gw k : Nat) : Int) = ((acK gh k : Nat) : Int) := by
    rw [Int.natCast_mul]
    exact Int.mul_tdiv_cancel_left _ (by omega)
  generalize acK gw k = aw at *
  generalize acK gh k = ah at *
  generalize levK V gw gh k = l at *
  generalize sqR V gw k x y = r at *
  have e1 : (y : Int) * (aw : Int) = ((y * aw : Nat) : Int) := by push_cast; rfl
  generalize y * aw = p at *
  have hat2 : ((rgsV l).drop (((p : Int) + x).toNat * 2)).take 2 = r.cells := by rw [show ((p : Int) + x).toNat = p + x by omega]; exact hat
  have sa_S : SomeA As := hS.someA (by omega)
  have sa_C : SomeA (Ac k) := hC.someA (by omega)
  unfold RG.cells at hat2 ⊢
  have S := St.start W
  refine Fn_enter Try.func173 rfl Try.results173 Try.ntmps173 (by kernel_rfl) (by kernel_rfl) ?_
  repeat refine cw_seq ?_
  refine cw_region ?_
  refine rw_newB (op_box rfl) S ?_
  intro b_c w2_ g2_ S
  refine rw_newB (op_alloc Try.zeroValue78 rfl) S ?_
  intro b_R w4_ g4_ S
  refine rw_v (op_pure rfl) ?_
  first | refine rw_end ?_ | (refine rw_nil ?_; show CW _ _ _ _ _ _) | refine rw_nil ?_
  repeat refine cw_seq ?_
  refine cw_block ?_
  repeat refine cw_seq ?_
  refine cw_region ?_
  refine rw_v (op_pure rfl) ?_
  refine rw_v (op_nilp Try.underlying201 rfl rfl) ?_
  refine rw_v (op_pure rfl) ?_
  first | refine rw_end ?_ | (refine rw_nil ?_; show CW _ _ _ _ _ _) | refine rw_nil ?_
  repeat refine cw_seq ?_
  refine cw_false rfl ?_
  repeat refine cw_seq ?_
  refine cw_region ?_
  refine rw_v (op_pure rfl) ?_
  first | refine rw_v (op_b (b := true) rfl (decide_eq_true (by omega))) ?_ | refine rw_v (op_b (b := false) rfl (decide_eq_false (by omega))) ?_ | refine rw_v (op_pure rfl) ?_
  refine rw_v (op_pure rfl) ?_
  first | refine rw_off rfl ?_ | (refine rw_on rfl ?_; refine rw_v (op_pure rfl) ?_)
  first | refine rw_off rfl ?_ | (refine rw_on rfl ?_; refine rw_v (op_pure rfl) ?_)
  first | refine rw_off rfl ?_ | (refine rw_on rfl ?_; refine rw_v (op_pure rfl) ?_)
  first | refine rw_off rfl ?_ | (refine rw_on rfl ?_; refine rw_v (op_fieldAddr Try.underlying239 rfl Try.sizeOf237 rfl rfl) ?_)
  first | refine rw_off rfl ?_ | (refine rw_on rfl ?_; refine rw_r (op_loadB Try.underlying237 rfl rfl (hT.gr S.out) rfl) ?_)
  first | refine rw_off rfl ?_ | (refine rw_on rfl ?_; refine rw_v (op_len Try.underlying237 rfl) ?_)
  first | refine rw_off rfl ?_ | (refine rw_on rfl ?_; (first | refine rw_v (op_b (b := true) rfl (decide_eq_true (by omega))) ?_ | refine rw_v (op_b (b := false) rfl (decide_eq_false (by omega))) ?_ | refine rw_v (op_pure rfl) ?_))
  iterate 2 refine rw_v (op_pure rfl) ?_
  first | refine rw_end ?_ | (refine rw_nil ?_; show CW _ _ _ _ _ _) | refine rw_nil ?_
  repeat refine cw_seq ?_
  refine cw_false rfl ?_
  repeat refine cw_seq ?_
  refine cw_skip ?_
  try show CW _ _ _ _ _ _
  repeat refine cw_seq ?_
  refine cw_region ?_
  iterate 2 refine rw_v (op_pure rfl) ?_
  refine rw_v (op_fieldAddr Try.underlying239 rfl Try.sizeOf237 rfl rfl) ?_
  refine rw_r (op_loadB Try.underlying237 rfl rfl (hT.gr S.out) rfl) ?_
  refine rw_v (op_pure rfl) ?_
  refine rw_v (op_idx Try.underlying237 Try.sizeOf242 rfl rfl sa_S (by omega) (by omega)) ?_
  refine rw_r (op_ldRA Try.underlying242 rfl (Try.sizeOf242 _) rfl (hS'.gr S.out) hst rfl rfl) ?_
  refine rw_newB (op_alloc Try.zeroValue242 rfl) S ?_
  intro b_s w6_ g6_ S
  refine rw_storeSA (i := 0) S rfl (Try.sizeOf242 _) rfl rfl rfl rfl rfl rfl ?_
  intro w7_ S
  first | refine rw_end ?_ | (refine rw_nil ?_; show CW _ _ _ _ _ _) | refine rw_nil ?_
  repeat refine cw_seq ?_
  refine cw_region ?_
  refine rw_v (op_fieldAddr Try.underlying242 rfl Try.sizeOf240 rfl rfl) ?_
  refine rw_r (op_loadB Try.underlying240 rfl rfl (S.blk (i := 0) rfl) rfl) ?_
  refine rw_v (op_len Try.underlying240 rfl) ?_
  refine rw_v (op_fieldAddr Try.underlying242 rfl Try.sizeOf2 rfl rfl) ?_
  refine rw_r (op_loadB Try.underlying2 rfl rfl (S.blk (i := 0) rfl) rfl) ?_
  refine rw_v (op_quoT rfl rfl (by omega) hq (by omega)) ?_
  refine rw_v (op_pure rfl) ?_
  first | refine rw_end ?_ | (refine rw_nil ?_; show CW _ _ _ _ _ _) | refine rw_nil ?_
  repeat refine cw_seq ?_
  refine cw_region ?_
  refine rw_v (op_fieldAddr Try.underlying44 rfl Try.sizeOf2 rfl rfl) ?_
  refine rw_r (op_loadB Try.underlying2 rfl rfl (S.blk (i := 2) rfl) rfl) ?_
  first | refine rw_v (op_b (b := true) rfl (decide_eq_true (by omega))) ?_ | refine rw_v (op_b (b := false) rfl (decide_eq_false (by omega))) ?_ | refine rw_v (op_pure rfl) ?_
  refine rw_v (op_pure rfl) ?_
  first | refine rw_off rfl ?_ | (refine rw_on rfl ?_; refine rw_v (op_fieldAddr Try.underlying44 rfl Try.sizeOf2 rfl rfl) ?_)
  first | refine rw_off rfl ?_ | (refine rw_on rfl ?_; refine rw_r (op_loadB Try.underlying2 rfl rfl (S.blk (i := 2) rfl) rfl) ?_)
  first | refine rw_off rfl ?_ | (refine rw_on rfl ?_; refine rw_v (op_fieldAddr Try.underlying242 rfl Try.sizeOf2 rfl rfl) ?_)
  first | refine rw_off rfl ?_ | (refine rw_on rfl ?_; refine rw_r (op_loadB Try.underlying2 rfl rfl (S.blk (i := 0) rfl) rfl) ?_)
  first | refine rw_off rfl ?_ | (refine rw_on rfl ?_; (first | refine rw_v (op_b (b := true) rfl (decide_eq_true (by omega))) ?_ | refine rw_v (op_b (b := false) rfl (decide_eq_false (by omega))) ?_ | refine rw_v (op_pure rfl) ?_))
  iterate 2 refine rw_v (op_pure rfl) ?_
  first | refine rw_off rfl ?_ | (refine rw_on rfl ?_; refine rw_v (op_fieldAddr Try.underlying44 rfl Try.sizeOf2 rfl rfl) ?_)
  first | refine rw_off rfl ?_ | (refine rw_on rfl ?_; refine rw_r (op_loadB Try.underlying2 rfl rfl (S.blk (i := 2) rfl) rfl) ?_)
  first | refine rw_off rfl ?_ | (refine rw_on rfl ?_; (first | refine rw_v (op_b (b := true) rfl (decide_eq_true (by omega))) ?_ | refine rw_v (op_b (b := false) rfl (decide_eq_false (by omega))) ?_ | refine rw_v (op_pure rfl) ?_))
  iterate 2 refine rw_v (op_pure rfl) ?_
  first | refine rw_off rfl ?_ | (refine rw_on rfl ?_; refine rw_v (op_fieldAddr Try.underlying44 rfl Try.sizeOf2 rfl rfl) ?_)
  first | refine rw_off rfl ?_ | (refine rw_on rfl ?_; refine rw_r (op_loadB Try.underlying2 rfl rfl (S.blk (i := 2) rfl) rfl) ?_)
  first | refine rw_off rfl ?_ | (refine rw_on rfl ?_; refine rw_v (op_pure rfl) ?_)
  first | refine rw_off rfl ?_ | (refine rw_on rfl ?_; (first | refine rw_v (op_b (b := true) rfl (decide_eq_true (by omega))) ?_ | refine rw_v (op_b (b := false) rfl (decide_eq_false (by omega))) ?_ | refine rw_v (op_pure rfl) ?_))
  refine rw_v (op_pure rfl) ?_
  first | refine rw_end ?_ | (refine rw_nil ?_; show CW _ _ _ _ _ _) | refine rw_nil ?_
  repeat refine cw_seq ?_
  refine cw_false rfl ?_
  repeat refine cw_seq ?_
  refine cw_skip ?_
  try show CW _ _ _ _ _ _
  repeat refine cw_seq ?_
  refine cw_region ?_
  refine rw_v (op_fieldAddr Try.underlying242 rfl Try.sizeOf240 rfl rfl) ?_
  refine rw_r (op_loadB Try.underlying240 rfl rfl (S.blk (i := 0) rfl) rfl) ?_
  refine rw_v (op_fieldAddr Try.underlying44 rfl Try.sizeOf2 rfl rfl) ?_
  refine rw_r (op_loadB Try.underlying2 rfl rfl (S.blk (i := 2) rfl) rfl) ?_
  refine rw_v (op_fieldAddr Try.underlying242 rfl Try.sizeOf2 rfl rfl) ?_
  refine rw_r (op_loadB Try.underlying2 rfl rfl (S.blk (i := 0) rfl) rfl) ?_
  refine rw_v (op_rng rfl (by rw [e1]; omega)) ?_
  rw [e1]
  refine rw_v (op_fieldAddr Try.underlying44 rfl Try.sizeOf2 rfl rfl) ?_
  refine rw_r (op_loadB Try.underlying2 rfl rfl (S.blk (i := 2) rfl) rfl) ?_
  refine rw_v (op_rng rfl (by omega)) ?_
  refine rw_v (op_idx Try.underlying240 Try.sizeOf78 rfl rfl sa_C (by omega) (by omega)) ?_
  refine rw_r (op_ldRA Try.underlying78 rfl (Try.sizeOf78 _) rfl (hC.gr S.out) hat2 rfl rfl) ?_
  refine rw_storeSA (i := 1) S rfl (Try.sizeOf78 _) rfl rfl rfl rfl rfl rfl ?_
  intro w8_ S
  refine rw_v (op_pure rfl) ?_
  first | refine rw_end ?_ | (refine rw_nil ?_; show CW _ _ _ _ _ _) | refine rw_nil ?_
  repeat refine cw_seq ?_
  refine cw_ret ?_
  repeat first | refine ret_then ?_ | refine ret_inb ?_
  exact resAT Try.underlying78 rfl (Try.sizeOf78 _) rfl (S.blk (i := 1) rfl) rfl rfl rfl ⟨rfl, S.out⟩
set_option maxHeartbeats 4000000 in
theorem trangeA_E (x0 y0 x1 y1 : Nat) (hw : 1 ≤ gw ∧ gw ≤ 1024) (hh : 1 ≤ gh ∧ gh ≤ 1024) (hx : x0 ≤ x1 ∧ x1 < gw) (hy : y0 ≤ y1 ∧ y1 < gh) (hA : SparseAt W tb gw gh V) :
    Fn Try.prog 136 [.pointer (some ⟨tb, 0, none⟩), .agg #[.int .i64 x0, .int .i64 y0, .int .i64 x1, .int .i64 y1]] W (RetG (.tuple #[.agg (rgB V gw x0 y0 x1 y1).cells.toArray, .int .i64 0]) W) := by
  have hA' := hA
  obtain ⟨Ao, co, As, cs, hT, hO, hF⟩ := hA'
  have hwi : within x0 y0 x1 y1 gw gh = 0 := within_fine (by omega) (by omega) (by omega) (by omega)
  obtain ⟨mn, hmn⟩ : ∃ mn, mn = min (x1 - x0) (y1 - y0) + 1 := ⟨_, rfl⟩
  have emn : min ((x1 : Int) - x0) ((y1 : Int) - y0) + 1 = ((mn : Nat) : Int) := by omega
  have hsq := fun (k x y : Nat) (w : World) (g : Gr W w) hk hx hy => tsquareA_E (W := w) (V := V) (tb := tb) k x y hw hh hk hx hy (hA.gr g)
  have hkK : Nat.log2 mn ≤ Nat.log2 (min gw gh) := by
    have h1 : 2 ^ Nat.log2 mn ≤ mn := Nat.log2_self_le (by omega)
    exact (Nat.le_log2 (by omega)).2 (by omega)
  have hKb : Nat.log2 (min gw gh) ≤ 1024 := Nat.le_trans (Nat.log2_le_self _) (by omega)
  have h2k : 2 ^ Nat.log2 mn ≤ mn := Nat.log2_self_le (by omega)
  obtain ⟨k, ek⟩ : ∃ k, k = Nat.log2 mn := ⟨_, rfl⟩
  rw [← ek] at hkK h2k
  have hk10 : k ≤ 10 := by
    by_cases h : k ≤ 10
    · exact h
    · have := Nat.pow_le_pow_right (show 0 < 2 by omega) (show 11 ≤ k by omega)
      omega
  have hof := fun x y => sqR_of V gw k x y
  have hhf1 : 1 ≤ 2 ^ k := Nat.two_pow_pos k
  have hsh : IntKind.i64.wrap (1 * 2 ^ (min (k : Int).toNat IntKind.i64.bits)) = ((2 ^ k : Nat) : Int) := by
    have e : (1 : Int) * 2 ^ (min (k : Int).toNat IntKind.i64.bits) = ((2 ^ k : Nat) : Int) := by
      rw [Int.one_mul, show min (k : Int).toNat IntKind.i64.bits = k by unfold IntKind.bits; dsimp only; omega]
      push_cast; rfl
    rw [e]
    exact IntWalk.i64_in _ (by omega)
  have hacw : acK gw k + 2 ^ k = gw + 1 := by unfold acK; omega
  have hach : acK gh k + 2 ^ k = gh + 1 := by unfold acK; omega
  generalize 2 ^ k = hf at *
  generalize hKg : Nat.log2 (min gw gh) = K at *
  obtain ⟨xe, hxe⟩ : ∃ xe, xe + hf = x1 + 1 := ⟨x1 + 1 - hf, by omega⟩
  obtain ⟨ye, hye⟩ : ∃ ye, ye + hf = y1 + 1 := ⟨y1 + 1 - hf, by omega⟩
  have exe : (x1 : Int) - hf + 1 = ((xe : Nat) : Int) := by omega
  have eye : (y1 : Int) - hf + 1 = ((ye : Nat) : Int) := by omega
  have hq0 := fun w g => hsq k x0 y0 w g hkK (by omega) (by omega)
  have S := St.start W
  refine Fn_enter Try.func136 rfl Try.results136 Try.ntmps136 (by kernel_rfl) (by kernel_rfl) ?_
  repeat refine cw_seq ?_
  refine cw_region ?_
  refine rw_newB (op_box rfl) S ?_
  intro b_r w2_ g2_ S
  refine rw_newB (op_alloc Try.zeroValue78 rfl) S ?_
  intro b_R w4_ g4_ S
  refine rw_v (op_pure rfl) ?_
  first | refine rw_end ?_ | (refine rw_nil ?_; show CW _ _ _ _ _ _) | refine rw_nil ?_
  repeat refine cw_seq ?_
  refine cw_region ?_
  refine rw_v (op_pure rfl) ?_
  refine rw_v (op_nilp Try.underlying201 rfl rfl) ?_
  first | refine rw_end ?_ | (refine rw_nil ?_; show CW _ _ _ _ _ _) | refine rw_nil ?_
  repeat refine cw_seq ?_
  refine cw_false rfl ?_
  repeat refine cw_seq ?_
  refine cw_skip ?_
  try show CW _ _ _ _ _ _
  repeat refine cw_seq ?_
  refine cw_draw (C := fun wq => Gr w4_ wq) [0, 1, 2, 3, 4, 5, 6, 7, 8, 9, 10] [] (by kernel_rfl) (by kernel_rfl) (Gr.drew _) ?_
  simp only [pickL, List.drop_succ_cons, List.drop_zero]
  refine rq_r (fun wq hq => op_loadAB Try.underlying75 rfl (Try.sizeOf75 _) rfl ((S.gr hq).blk (i := 1) rfl) rfl rfl) ?_
  iterate 2 refine rq_v (op_pure rfl) ?_
  refine rq_v (op_fieldAddr Try.underlying239 rfl Try.sizeOf2 rfl rfl) ?_
  refine rq_r (fun wq hq => op_loadB Try.underlying2 rfl rfl (hT.gr (S.gr hq).out) rfl) ?_
  iterate 2 refine rq_v (op_pure rfl) ?_
  refine rq_v (op_fieldAddr Try.underlying239 rfl Try.sizeOf2 rfl rfl) ?_
  refine rq_r (fun wq hq => op_loadB Try.underlying2 rfl rfl (hT.gr (S.gr hq).out) rfl) ?_
  refine rq_call rfl (fun wq hq => (within_E _ _ _ _ _ _ (by omega) (by omega) wq).mono (fun _ _ ⟨hv, hg⟩ => ⟨hv, hq.trans hg⟩)) ?_
  rw [hwi]
  refine rq_v (op_pure rfl) ?_
  refine rq_nil ?_
  intro w5_ g5_
  have S := S.gr g5_
  first | refine rw_end ?_ | (refine rw_nil ?_; show CW _ _ _ _ _ _) | refine rw_nil ?_
  repeat refine cw_seq ?_
  refine cw_region ?_
  refine rw_v (op_pure rfl) ?_
  refine rw_v (op_b (b := false) rfl (bne_eq_false_iff_eq.2 (by omega))) ?_
  first | refine rw_end ?_ | (refine rw_nil ?_; show CW _ _ _ _ _ _) | refine rw_nil ?_
  repeat refine cw_seq ?_
  refine cw_false rfl ?_
  repeat refine cw_seq ?_
  refine cw_skip ?_
  try show CW _ _ _ _ _ _
  repeat refine cw_seq ?_
  refine cw_region ?_
  refine rw_v (op_fieldAddr Try.underlying75 rfl Try.sizeOf2 rfl rfl) ?_
  refine rw_r (op_loadB Try.underlying2 rfl rfl (S.blk (i := 1) rfl) rfl) ?_
  refine rw_v (op_fieldAddr Try.underlying75 rfl Try.sizeOf2 rfl rfl) ?_
  refine rw_r (op_loadB Try.underlying2 rfl rfl (S.blk (i := 1) rfl) rfl) ?_
  refine rw_v (op_rng rfl (by omega)) ?_
  refine rw_v (op_fieldAddr Try.underlying75 rfl Try.sizeOf2 rfl rfl) ?_
  refine rw_r (op_loadB Try.underlying2 rfl rfl (S.blk (i := 1) rfl) rfl) ?_
  refine rw_v (op_fieldAddr Try.underlying75 rfl Try.sizeOf2 rfl rfl) ?_
  refine rw_r (op_loadB Try.underlying2 rfl rfl (S.blk (i := 1) rfl) rfl) ?_
  refine rw_v (op_rng rfl (by omega)) ?_
  refine rw_v (op_pure rfl) ?_
  refine rw_v (op_rng rfl (by omega)) ?_
  rw [emn]
  refine rw_call rfl (slog_E mn (by omega) (by omega)) ?_
  rintro _ w6_ ⟨rfl, g6_⟩
  have S := S.gr g6_
  rw [← ek]
  refine rw_v (op_pure rfl) ?_
  first | refine rw_end ?_ | (refine rw_nil ?_; show CW _ _ _ _ _ _) | refine rw_nil ?_
  repeat refine cw_seq ?_
  refine cw_region ?_
  refine rw_v (op_pure rfl) ?_
  refine rw_v (op_shl (c := (hf : Int)) rfl rfl (by omega) hsh) ?_
  refine rw_v (op_pure rfl) ?_
  first | refine rw_end ?_ | (refine rw_nil ?_; show CW _ _ _ _ _ _) | refine rw_nil ?_
  repeat refine cw_seq ?_
  refine cw_draw (C := fun wq => Gr w6_ wq) [0, 1, 2, 3, 4, 5, 6, 7, 8, 9, 10, 11] [] (by kernel_rfl) (by kernel_rfl) (Gr.drew _) ?_
  simp only [pickL, List.drop_succ_cons, List.drop_zero]
  refine rq_v (op_fieldAddr Try.underlying75 rfl Try.sizeOf2 rfl rfl) ?_
  refine rq_r (fun wq hq => op_loadB Try.underlying2 rfl rfl ((S.gr hq).blk (i := 1) rfl) rfl) ?_
  refine rq_v (op_pure rfl) ?_
  refine rq_v (op_rng rfl (by omega)) ?_
  refine rq_v (op_rng rfl (by omega)) ?_
  rw [exe]
  refine rq_v (op_fieldAddr Try.underlying75 rfl Try.sizeOf2 rfl rfl) ?_
  refine rq_r (fun wq hq => op_loadB Try.underlying2 rfl rfl ((S.gr hq).blk (i := 1) rfl) rfl) ?_
  refine rq_v (op_pure rfl) ?_
  refine rq_v (op_rng rfl (by omega)) ?_
  refine rq_v (op_rng rfl (by omega)) ?_
  rw [eye]
  iterate 2 refine rq_v (op_pure rfl) ?_
  refine rq_nil ?_
  intro w7_ g7_
  have S := S.gr g7_
  first | refine rw_end ?_ | (refine rw_nil ?_; show CW _ _ _ _ _ _) | refine rw_nil ?_
  repeat refine cw_seq ?_
  refine cw_region ?_
  iterate 2 refine rw_v (op_pure rfl) ?_
  refine rw_v (op_fieldAddr Try.underlying75 rfl Try.sizeOf2 rfl rfl) ?_
  refine rw_r (op_loadB Try.underlying2 rfl rfl (S.blk (i := 1) rfl) rfl) ?_
  refine rw_v (op_fieldAddr Try.underlying75 rfl Try.sizeOf2 rfl rfl) ?_
  refine rw_r (op_loadB Try.underlying2 rfl rfl (S.blk (i := 1) rfl) rfl) ?_
  refine rw_v (op_build (pl := [(0, 1), (1, 1)]) Try.underlying44 Try.zeroValue44 (fun w => by kernel_rfl) rfl rfl) ?_
  refine rw_call rfl (hq0 w7_ S.out) ?_
  rintro _ w8_ ⟨rfl, g8_⟩
  have S := S.gr g8_
  iterate 3 refine rw_v (op_pure rfl) ?_
  refine rw_newB (op_alloc Try.zeroValue78 rfl) S ?_
  intro b_rr w10_ g10_ S
  refine rw_storeSA (i := 0) S rfl (Try.sizeOf78 _) rfl rfl rfl rfl rfl rfl ?_
  intro w11_ S
  refine rw_v (op_pure rfl) ?_
  first | refine rw_end ?_ | (refine rw_nil ?_; show CW _ _ _ _ _ _) | refine rw_nil ?_
  repeat refine cw_seq ?_
  refine cw_region ?_
  refine rw_v (op_fieldAddr Try.underlying75 rfl Try.sizeOf2 rfl rfl) ?_
  refine rw_r (op_loadB Try.underlying2 rfl rfl (S.blk (i := 2) rfl) rfl) ?_
  refine rw_v (op_pure rfl) ?_
  first | refine rw_end ?_ | (refine rw_nil ?_; show CW _ _ _ _ _ _) | refine rw_nil ?_
  repeat refine cw_seq ?_
  refine cw_block ?_
  repeat refine cw_seq ?_
  refine cw_loop (fun m e w => ∃ (y : Nat) (g : RG) (Q : Nat → Nat → Prop), y + m = ye ∧ y0 ≤ y ∧ RgOf (cellV V gw) Q g ∧ (∀ a b, Q a b → boxP x0 y0 x1 y1 a b) ∧ (∀ a b, boxP x0 y0 x1 y1 a b → b < y → Q a b) ∧
    SL e [(0, .pointer (some ⟨tb, 0, none⟩)), (3, .pointer (some ⟨b_r, 0, none⟩)), (4, .pointer (some ⟨b_R, 0, none⟩)), (7, .int .i64 k), (8, .int .i64 hf), (9, .int .i64 xe), (10, .int .i64 ye), (11, .pointer (some ⟨b_rr, 0, none⟩)), (13, .int .i64 y)] ∧ St No W w [.blk b_rr 78 g.cells, .blk b_R 78 [.int .i64 0, .int .i64 0], .blk b_r 75 [.int .i64 x0, .int .i64 y0, .int .i64 x1, .int .i64 y1]]) (ye - y0)
    ⟨y0, _, _, by omega, Nat.le_refl _, hof x0 y0, fun a b h => by unfold boxP at *; omega, fun a b h hb => by unfold boxP at *; omega, ⟨rfl, rfl, rfl, rfl, rfl, rfl, rfl, rfl, rfl, trivial⟩, S⟩ ?_
  clear S
  rintro m e w ⟨y, g, Q, hym, hy0, hQ, hQ1, hQ2, hsl, S⟩
  rw [hsl.fold]
  repeat refine cw_seq ?_
  refine cw_block ?_
  repeat refine cw_seq ?_
  refine cw_region ?_
  refine rw_v (op_fieldAddr Try.underlying75 rfl Try.sizeOf2 rfl rfl) ?_
  refine rw_r (op_loadB Try.underlying2 rfl rfl (S.blk (i := 2) rfl) rfl) ?_
  refine rw_v (op_pure rfl) ?_
  first | refine rw_end ?_ | (refine rw_nil ?_; show CW _ _ _ _ _ _) | refine rw_nil ?_
  repeat refine cw_seq ?_
  refine cw_block ?_
  repeat refine cw_seq ?_
  refine cw_loop (fun m e w => ∃ (x : Nat) (g : RG) (Q : Nat → Nat → Prop), x + m = xe ∧ x0 ≤ x ∧ RgOf (cellV V gw) Q g ∧ (∀ a b, Q a b → boxP x0 y0 x1 y1 a b) ∧ (∀ a b, boxP x0 y0 x1 y1 a b → b < y → Q a b) ∧ (∀ a b, boxP x0 y0 x1 y1 a b → b < y + hf → a < x → Q a b) ∧
    SL e [(0, .pointer (some ⟨tb, 0, none⟩)), (3, .pointer (some ⟨b_r, 0, none⟩)), (4, .pointer (some ⟨b_R, 0, none⟩)), (7, .int .i64 k), (8, .int .i64 hf), (9, .int .i64 xe), (10, .int .i64 ye), (11, .pointer (some ⟨b_rr, 0, none⟩)), (13, .int .i64 y), (14, .int .i64 x)] ∧ St No W w [.blk b_rr 78 g.cells, .blk b_R 78 [.int .i64 0, .int .i64 0], .blk b_r 75 [.int .i64 x0, .int .i64 y0, .int .i64 x1, .int .i64 y1]]) (xe - x0)
    ⟨x0, g, Q, by omega, Nat.le_refl _, hQ, hQ1, hQ2, fun a b h hb ha => by unfold boxP at h; omega, ⟨rfl, rfl, rfl, rfl, rfl, rfl, rfl, rfl, rfl, rfl, trivial⟩, S⟩ ?_
  clear S hQ hQ1 hQ2 Q g
  rintro m2 e w ⟨x, g, Q, hxm, hx0, hQ, hQ1, hQ2, hQ3, hsl, S⟩
  rw [hsl.fold]
  have hq1 := fun w g => hsq k x y w g hkK (by omega) (by omega)
  have hsq' := hof x y
  generalize sqR V gw k x y = q at *
  have hJ : RgOf (cellV V gw) (fun a b => Q a b ∨ boxP x y (x + hf - 1) (y + hf - 1) a b) (joinR g q) := hQ.join hsq' (fun a b => Iff.rfl)
  have hJ1 : ∀ a b, (Q a b ∨ boxP x y (x + hf - 1) (y + hf - 1) a b) → boxP x0 y0 x1 y1 a b := fun a b h => by
    rcases h with h | h
    · exact hQ1 a b h
    · unfold boxP at *; omega
  have hJ3 : ∀ a b, boxP x0 y0 x1 y1 a b → b < y + hf → a < x + hf → (Q a b ∨ boxP x y (x + hf - 1) (y + hf - 1) a b) := fun a b h hb ha => by
    by_cases hby : b < y
    · exact .inl (hQ2 a b h hby)
    · by_cases hax : a < x
      · exact .inl (hQ3 a b h hb hax)
      · right; unfold boxP at *; omega
  repeat refine cw_seq ?_
  refine cw_block ?_
  repeat refine cw_seq ?_
  refine cw_region ?_
  iterate 4 refine rw_v (op_pure rfl) ?_
  refine rw_v (op_build (pl := [(0, 1), (1, 1)]) Try.underlying44 Try.zeroValue44 (fun w => by kernel_rfl) rfl rfl) ?_
  refine rw_call rfl (hq1 w S.out) ?_
  rintro _ w12_ ⟨rfl, g12_⟩
  have S := S.gr g12_
  iterate 3 refine rw_v (op_pure rfl) ?_
  refine rw_newB (op_alloc Try.zeroValue78 rfl) S ?_
  intro b_sq w14_ g14_ S
  refine rw_storeSA (i := 0) S rfl (Try.sizeOf78 _) rfl rfl rfl rfl rfl rfl ?_
  intro w15_ S
  refine rw_v (op_pure rfl) ?_
  first | refine rw_end ?_ | (refine rw_nil ?_; show CW _ _ _ _ _ _) | refine rw_nil ?_
  repeat refine cw_seq ?_
  refine cw_region ?_
  refine rw_r (op_loadAB Try.underlying78 rfl (Try.sizeOf78 _) rfl (S.blk (i := 1) rfl) rfl rfl) ?_
  refine rw_r (op_loadAB Try.underlying78 rfl (Try.sizeOf78 _) rfl (S.blk (i := 0) rfl) rfl rfl) ?_
  refine rw_call rfl (sjoin_E g q w15_) ?_
  rintro _ w16_ ⟨rfl, g16_⟩
  have S := S.gr g16_
  refine rw_storeSA (i := 1) S rfl (Try.sizeOf78 _) rfl rfl rfl rfl rfl rfl ?_
  intro w17_ S
  first | refine rw_end ?_ | (refine rw_nil ?_; show CW _ _ _ _ _ _) | refine rw_nil ?_
  repeat refine cw_seq ?_
  refine cw_region ?_
  iterate 3 refine rw_v (op_pure rfl) ?_
  first | refine rw_end ?_ | (refine rw_nil ?_; show CW _ _ _ _ _ _) | refine rw_nil ?_
  repeat refine cw_seq ?_
  refine cw_cond rfl (fun hxe => ?_) (fun hxe => ?_)
  · try simp only [decide_eq_true_eq, decide_eq_false_iff_not, beq_iff_eq, bne_iff_ne, beq_eq_false_iff_ne, bne_eq_false_iff_eq, Bool.not_eq_true', Bool.not_eq_false', ne_eq, Decidable.not_not, Int.natCast_inj, Int.ofNat_lt, Int.ofNat_le, gt_iff_lt, ge_iff_le, Int.not_lt, Int.not_le] at hxe
    obtain rfl : x = xe := by omega
    repeat refine cw_seq ?_
    refine cw_exit ?_
    repeat first | refine exit_then ?_ | refine exit_inb ?_
    show CW _ _ _ _ _ _
    repeat refine cw_seq ?_
    refine cw_region ?_
    iterate 3 refine rw_v (op_pure rfl) ?_
    first | refine rw_end ?_ | (refine rw_nil ?_; show CW _ _ _ _ _ _) | refine rw_nil ?_
    repeat refine cw_seq ?_
    refine cw_cond rfl (fun hye => ?_) (fun hye => ?_)
    · try simp only [decide_eq_true_eq, decide_eq_false_iff_not, beq_iff_eq, bne_iff_ne, beq_eq_false_iff_ne, bne_eq_false_iff_eq, Bool.not_eq_true', Bool.not_eq_false', ne_eq, Decidable.not_not, Int.natCast_inj, Int.ofNat_lt, Int.ofNat_le, gt_iff_lt, ge_iff_le, Int.not_lt, Int.not_le] at hye
      have ebx : ∀ a b, (Q a b ∨ boxP x y (x + hf - 1) (y + hf - 1) a b) ↔ boxP x0 y0 x1 y1 a b := fun a b => ⟨hJ1 a b, fun h => hJ3 a b h (by unfold boxP at h; omega) (by unfold boxP at h; omega)⟩
      have hfin := rgB_eq (hJ.congr ebx)
      rw [hfin]
      repeat refine cw_seq ?_
      refine cw_region ?_
      refine rw_r (op_loadAB Try.underlying78 rfl (Try.sizeOf78 _) rfl (S.blk (i := 1) rfl) rfl rfl) ?_
      refine rw_storeSA (i := 2) S rfl (Try.sizeOf78 _) rfl rfl rfl rfl rfl rfl ?_
      intro w18_ S
      refine rw_v (op_pure rfl) ?_
      first | refine rw_end ?_ | (refine rw_nil ?_; show CW _ _ _ _ _ _) | refine rw_nil ?_
      repeat refine cw_seq ?_
      refine cw_ret ?_
      repeat first | refine ret_then ?_ | refine ret_inb ?_
      exact resAT Try.underlying78 rfl (Try.sizeOf78 _) rfl (S.blk (i := 2) rfl) rfl rfl rfl ⟨rfl, S.out⟩
    · try simp only [decide_eq_true_eq, decide_eq_false_iff_not, beq_iff_eq, bne_iff_ne, beq_eq_false_iff_ne, bne_eq_false_iff_eq, Bool.not_eq_true', Bool.not_eq_false', ne_eq, Decidable.not_not, Int.natCast_inj, Int.ofNat_lt, Int.ofNat_le, gt_iff_lt, ge_iff_le, Int.not_lt, Int.not_le] at hye
      repeat refine cw_seq ?_
      refine cw_skip ?_
      try show CW _ _ _ _ _ _
      repeat refine cw_seq ?_
      refine cw_region ?_
      iterate 2 refine rw_v (op_pure rfl) ?_
      refine rw_v (op_rng rfl (by omega)) ?_
      iterate 3 refine rw_v (op_pure rfl) ?_
      first | refine rw_end ?_ | (refine rw_nil ?_; show CW _ _ _ _ _ _) | refine rw_nil ?_
      have S := S.sub (.cons _ (.cons_cons _ (.cons_cons _ (.cons_cons _ (.slnil)))))
      exact ⟨ye - min (y + hf) ye, by omega, min (y + hf) ye, joinR g q, _, by omega, by omega, hJ, hJ1, fun a b h hb => hJ3 a b h (by omega) (by unfold boxP at h; omega), ⟨rfl, rfl, rfl, rfl, rfl, rfl, rfl, rfl, ie (by omega), trivial⟩, S⟩
  · try simp only [decide_eq_true_eq, decide_eq_false_iff_not, beq_iff_eq, bne_iff_ne, beq_eq_false_iff_ne, bne_eq_false_iff_eq, Bool.not_eq_true', Bool.not_eq_false', ne_eq, Decidable.not_not, Int.natCast_inj, Int.ofNat_lt, Int.ofNat_le, gt_iff_lt, ge_iff_le, Int.not_lt, Int.not_le] at hxe
    repeat refine cw_seq ?_
    refine cw_skip ?_
    try show CW _ _ _ _ _ _
    repeat refine cw_seq ?_
    refine cw_region ?_
    iterate 2 refine rw_v (op_pure rfl) ?_
    refine rw_v (op_rng rfl (by omega)) ?_
    iterate 3 refine rw_v (op_pure rfl) ?_
    first | refine rw_end ?_ | (refine rw_nil ?_; show CW _ _ _ _ _ _) | refine rw_nil ?_
    have S := S.sub (.cons _ (.cons_cons _ (.cons_cons _ (.cons_cons _ (.slnil)))))
    exact ⟨xe - min (x + hf) xe, by omega, min (x + hf) xe, joinR g q, _, by omega, by omega, hJ, hJ1, fun a b h hb => .inl (hQ2 a b h hb), fun a b h hb ha => hJ3 a b h hb (by omega), ⟨rfl, rfl, rfl, rfl, rfl, rfl, rfl, rfl, rfl, ie (by omega), trivial⟩, S⟩
end
end Go.Proofs.Ytbcgbcipigcbhaa
