/- Package regions: a grid's cells, and the sets over a height. -/
import Derived.Test.YtbcgbcipigcbhaaForest
namespace Go.Proofs.Ytbcgbcipigcbhaa
open Go.RowKit
set_option linter.unusedVariables false
set_option linter.unusedSimpArgs false
set_option maxRecDepth 100000

def gridL (gw gh : Nat) (c : Nat → Int) : List Int := (List.range (gw * gh)).map c
theorem gridL_len (gw gh : Nat) (c : Nat → Int) : (gridL gw gh c).length = gw * gh := by simp [gridL]
theorem gridL_made {gw gh : Nat} {V : List Int} (h : V.length = gw * gh) : gridL gw gh (fun i => V.getD i 0) = V := by
  apply List.ext_getElem?
  intro i
  unfold gridL
  by_cases hi : i < gw * gh
  · rw [List.getElem?_map, List.getElem?_range hi, Option.map_some, List.getD_eq_getElem?_getD, List.getElem?_eq_getElem (by omega)]; rfl
  · rw [List.getElem?_eq_none (by simp; omega), List.getElem?_eq_none (by omega)]
theorem getD_at {V : List Int} {i : Nat} (h : i < V.length) : V[i]? = some (V.getD i 0) := by
  rw [List.getD_eq_getElem?_getD, List.getElem?_eq_getElem h]; rfl

/-! ### What hangs together -/
def Side (gw i j : Nat) : Prop := (j + 1 = i ∧ 0 < i % gw) ∨ (i + 1 = j ∧ 0 < j % gw) ∨ j + gw = i ∨ i + gw = j
theorem Side.symm {gw i j : Nat} (h : Side gw i j) : Side gw j i := by unfold Side at *; omega
def Adj (gw : Nat) (V : List Int) (t : Int) (i j : Nat) : Prop := i < V.length ∧ j < V.length ∧ t ≤ V.getD i 0 ∧ t ≤ V.getD j 0 ∧ Side gw i j
theorem Adj.symm {gw : Nat} {V : List Int} {t : Int} {i j : Nat} (h : Adj gw V t i j) : Adj gw V t j i := ⟨h.2.1, h.1, h.2.2.2.1, h.2.2.1, h.2.2.2.2.symm⟩
inductive Conn (gw : Nat) (V : List Int) (t : Int) : Nat → Nat → Prop
  | refl (i : Nat) : Conn gw V t i i
  | step {i j k : Nat} : Adj gw V t i j → Conn gw V t j k → Conn gw V t i k
theorem Conn.trans {gw : Nat} {V : List Int} {t : Int} {i j k : Nat} (h : Conn gw V t i j) (h' : Conn gw V t j k) : Conn gw V t i k := by
  induction h with
  | refl => exact h'
  | step a _ ih => exact .step a (ih h')
theorem Conn.symm {gw : Nat} {V : List Int} {t : Int} {i j : Nat} (h : Conn gw V t i j) : Conn gw V t j i := by
  induction h with
  | refl => exact .refl _
  | step a _ ih => exact ih.trans (.step a.symm (.refl _))
theorem Conn.of_adj {gw : Nat} {V : List Int} {t : Int} {i j : Nat} (h : Adj gw V t i j) : Conn gw V t i j := .step h (.refl _)
/-- the sets behind the first so many cells -/
structure SetsOk (gw : Nat) (V : List Int) (t : Int) (k : Nat) (f : Nat → Nat) : Prop where
  ok : FOk V.length f
  le : k ≤ V.length
  conn : ∀ i, i < V.length → Conn gw V t i (rootF f i)
  left : ∀ i, i < k → t ≤ V.getD i 0 → 0 < i % gw → t ≤ V.getD (i - 1) 0 → rootF f i = rootF f (i - 1)
  up : ∀ i, i < k → t ≤ V.getD i 0 → gw ≤ i → t ≤ V.getD (i - gw) 0 → rootF f i = rootF f (i - gw)
theorem SetsOk.join {gw k : Nat} {V : List Int} {t : Int} {f f' : Nat → Nat} (h : SetsOk gw V t k f) {a b : Nat} (ha : a < V.length) (hb : b < V.length) (hab : Adj gw V t a b) (hok : FOk V.length f')
    (hr : ∀ j, j < V.length → rootF f' j = if rootF f j = max (rootF f a) (rootF f b) then min (rootF f a) (rootF f b) else rootF f j) : SetsOk gw V t k f' ∧ rootF f' a = rootF f' b := by
  have hcab : Conn gw V t (rootF f a) (rootF f b) := ((h.conn a ha).symm.trans (.of_adj hab)).trans (h.conn b hb)
  have key : Conn gw V t (max (rootF f a) (rootF f b)) (min (rootF f a) (rootF f b)) := by
    rcases Nat.le_total (rootF f a) (rootF f b) with e | e
    · rw [Nat.max_eq_right e, Nat.min_eq_left e]; exact hcab.symm
    · rw [Nat.max_eq_left e, Nat.min_eq_right e]; exact hcab
  have same : ∀ i j, i < V.length → j < V.length → rootF f i = rootF f j → rootF f' i = rootF f' j := fun i j hi hj e => by rw [hr i hi, hr j hj, e]
  have hle := h.le
  refine ⟨⟨hok, hle, fun i hi => ?_, fun i hi h1 h2 h3 => same _ _ (by omega) (by omega) (h.left i hi h1 h2 h3), fun i hi h1 h2 h3 => same _ _ (by omega) (by omega) (h.up i hi h1 h2 h3)⟩, ?_⟩
  · rw [hr i hi]
    split
    · rename_i e
      have := h.conn i hi
      rw [e] at this
      exact this.trans key
    · exact h.conn i hi
  · rw [hr a ha, hr b hb]
    rcases Nat.le_total (rootF f a) (rootF f b) with e | e
    · rw [Nat.max_eq_right e, Nat.min_eq_left e, if_pos rfl]
      split <;> omega
    · rw [Nat.max_eq_left e, Nat.min_eq_right e, if_pos rfl]
      split <;> omega

section
variable {W : World} {A : Option Addr} {p gw gh cap c : Nat} {V : List Int}
theorem regof_E {cc : Nat → Int} {bs : Nat → Nat} {Rs : Nat → Option Nat} (hG : GridAt W p gw gh cc A cap bs Rs) :
    Fn Try.prog 68 [.pointer (some ⟨p, 0, none⟩)] W (RetNew (fun v => .tuple #[.agg #[.int .i64 gw, .int .i64 gh, v], .int .i64 0]) 2 1 (gw * gh) (ints (gridL gw gh cc)) W) := by
  have hw := hG.sw
  have hh := hG.sh
  have e1 : ((gw : Int) - 1) = ((gw - 1 : Nat) : Int) := by omega
  have e2 : ((gh : Int) - 1) = ((gh - 1 : Nat) : Int) := by omega
  have hval : ∀ w, Gr W w → Fn Try.prog 43 [.pointer (some ⟨p, 0, none⟩), .agg #[.int .i64 0, .int .i64 0, .int .i64 (gw - 1), .int .i64 (gh - 1)]] w (RetNew (fun v => .tuple #[v, .int .i64 0]) 2 1 (gw * gh) (ints (gridL gw gh cc)) w) := fun w g => by
    have := gvalues_E (W := w) 0 0 (gw - 1) (gh - 1) (by omega) (by omega) (hG.gr g)
    rw [← e1, ← e2, show gw - 1 + 1 - 0 = gw by omega, show gh - 1 + 1 - 0 = gh by omega, rectV_all, Nat.mul_comm gh gw] at this
    exact this
  have S := St.start W
  refine Fn_enter Try.func68 rfl Try.results68 Try.ntmps68 (by kernel_rfl) (by kernel_rfl) ?_
  repeat refine cw_seq ?_
  refine cw_region ?_
  refine rw_newB (op_alloc Try.zeroValue118 rfl) S ?_
  intro b_b1 w2_ g2_ S
  refine rw_v (op_pure rfl) ?_
  first | refine rw_end ?_ | (refine rw_nil ?_; show CW _ _ _ _ _ _) | refine rw_nil ?_
  repeat refine cw_seq ?_
  refine cw_region ?_
  refine rw_v (op_pure rfl) ?_
  refine rw_v (op_nilp Try.underlying28 rfl rfl) ?_
  first | refine rw_end ?_ | (refine rw_nil ?_; show CW _ _ _ _ _ _) | refine rw_nil ?_
  repeat refine cw_seq ?_
  refine cw_false rfl ?_
  repeat refine cw_seq ?_
  refine cw_skip ?_
  try show CW _ _ _ _ _ _
  repeat refine cw_seq ?_
  refine cw_region ?_
  refine rw_v (op_pure rfl) ?_
  refine rw_call rfl (gsize_E p gw gh _ w2_ (hG.top.gr S.out)) ?_
  rintro _ w3_ ⟨rfl, g3_⟩
  have S := S.gr g3_
  iterate 5 refine rw_v (op_pure rfl) ?_
  first | refine rw_end ?_ | (refine rw_nil ?_; show CW _ _ _ _ _ _) | refine rw_nil ?_
  repeat refine cw_seq ?_
  refine cw_region ?_
  iterate 2 refine rw_v (op_pure rfl) ?_
  refine rw_call rfl (gall_E p gw gh hw.2 hh.2 _ w3_ (hG.top.gr S.out)) ?_
  rintro _ w4_ ⟨rfl, g4_⟩
  have S := S.gr g4_
  refine rw_call rfl (hval w4_ S.out) ?_
  rintro _ w5_ ⟨A_vs, c_vs, rfl, hR_vs, hf_vs, g5_⟩
  have S := S.pushRow hR_vs hf_vs g5_
  iterate 5 refine rw_v (op_pure rfl) ?_
  first | refine rw_end ?_ | (refine rw_nil ?_; show CW _ _ _ _ _ _) | refine rw_nil ?_
  repeat refine cw_seq ?_
  refine cw_region ?_
  iterate 3 refine rw_v (op_pure rfl) ?_
  refine rw_v (op_build (pl := [(0, 1), (1, 1), (2, 1)]) Try.underlying118 Try.zeroValue118 (fun w => by kernel_rfl) rfl rfl) ?_
  refine rw_storeSA (i := 1) S rfl (Try.sizeOf118 _) rfl rfl rfl rfl rfl rfl ?_
  intro w6_ S
  refine rw_v (op_pure rfl) ?_
  first | refine rw_end ?_ | (refine rw_nil ?_; show CW _ _ _ _ _ _) | refine rw_nil ?_
  repeat refine cw_seq ?_
  refine cw_ret ?_
  repeat first | refine ret_then ?_ | refine ret_inb ?_
  exact resAT Try.underlying118 rfl (Try.sizeOf118 _) rfl (S.blk (i := 1) rfl) rfl rfl rfl ⟨A_vs, c_vs, rfl, S.row (i := 0) rfl, SepL.fresh S (i := 0) rfl, S.out⟩
theorem regat_E (i : Nat) (gh : Int) (n : Nat) (hgw : 1 ≤ gw) (hi : i ≤ 1048576) : Fn Try.prog 120 [.agg #[.int .i64 gw, .int .i64 gh, .slice A n c], .int .i64 i] W (RetG (.agg #[.int .i64 (i % gw : Nat), .int .i64 (i / gw : Nat)]) W) := by
  have e1 : (i : Int) % gw = ((i % gw : Nat) : Int) := by push_cast; rfl
  have e2 : (i : Int) / gw = ((i / gw : Nat) : Int) := by push_cast; rfl
  have S := St.start W
  refine Fn_enter Try.func120 rfl Try.results120 Try.ntmps120 (by kernel_rfl) (by kernel_rfl) ?_
  repeat refine cw_seq ?_
  refine cw_region ?_
  refine rw_newB (op_box rfl) S ?_
  intro b_b1 w2_ g2_ S
  refine rw_newB (op_alloc Try.zeroValue44 rfl) S ?_
  intro b_b3 w4_ g4_ S
  first | refine rw_end ?_ | (refine rw_nil ?_; show CW _ _ _ _ _ _) | refine rw_nil ?_
  repeat refine cw_seq ?_
  refine cw_draw (C := fun wq => Gr w4_ wq) [0, 1, 2, 3, 4, 5, 6, 7] [8, 9] (by kernel_rfl) (by kernel_rfl) (Gr.drew _) ?_
  simp only [pickL, List.drop_succ_cons, List.drop_zero]
  refine rq_v (op_pure rfl) ?_
  refine rq_v (op_fieldAddr Try.underlying118 rfl Try.sizeOf3 rfl rfl) ?_
  refine rq_r (fun wq hq => op_loadB Try.underlying3 rfl rfl ((S.gr hq).blk (i := 1) rfl) rfl) ?_
  refine rq_v (op_rem rfl rfl (by omega) (by omega)) ?_
  rw [e1]
  refine rq_v (op_pure rfl) ?_
  refine rq_v (op_fieldAddr Try.underlying118 rfl Try.sizeOf3 rfl rfl) ?_
  refine rq_r (fun wq hq => op_loadB Try.underlying3 rfl rfl ((S.gr hq).blk (i := 1) rfl) rfl) ?_
  refine rq_v (op_div rfl rfl (by omega) (by omega)) ?_
  rw [e2]
  refine rq_nil ?_
  intro w5_ g5_
  have S := S.gr g5_
  refine rw_v (op_build (pl := [(0, 1), (1, 1)]) Try.underlying44 Try.zeroValue44 (fun w => by kernel_rfl) rfl rfl) ?_
  refine rw_storeSA (i := 0) S rfl (Try.sizeOf44 _) rfl rfl rfl rfl rfl rfl ?_
  intro w6_ S
  first | refine rw_end ?_ | (refine rw_nil ?_; show CW _ _ _ _ _ _) | refine rw_nil ?_
  repeat refine cw_seq ?_
  refine cw_ret ?_
  repeat first | refine ret_then ?_ | refine ret_inb ?_
  exact resA Try.underlying44 rfl (Try.sizeOf44 _) rfl (S.blk (i := 0) rfl) rfl rfl ⟨rfl, S.out⟩
set_option maxHeartbeats 2000000 in
theorem sets_E (t : Int) (gh : Int) (hgw : 1 ≤ gw) (hV : V.length ≤ 1048576) (hV1 : 1 ≤ V.length) (hgwV : gw ≤ V.length) (hA : Rd W A (ints V)) :
    Fn Try.prog 119 [.agg #[.int .i64 gw, .int .i64 gh, .slice A V.length c], .int .i64 t] W (fun v w' => ∃ f, SetsOk gw V t V.length f ∧ RetNew id 3 1 V.length (cellsN V.length f) W v w') := by
  have sa_A : SomeA A := hA.someA (by rw [ints_len]; omega)
  have hget : ∀ i, i < V.length → (ints V)[(i : Int).toNat * 1]? = some (.int .i64 (V.getD i 0)) := fun i hi => by rw [Nat.mul_one, Int.toNat_natCast]; exact ints_get (getD_at hi)
  have S := St.start W
  refine Fn_enter Try.func119 rfl Try.results119 Try.ntmps119 (by kernel_rfl) (by kernel_rfl) ?_
  repeat refine cw_seq ?_
  refine cw_region ?_
  refine rw_newB (op_box rfl) S ?_
  intro b_l w2_ g2_ S
  refine rw_v (op_pure rfl) ?_
  first | refine rw_end ?_ | (refine rw_nil ?_; show CW _ _ _ _ _ _) | refine rw_nil ?_
  repeat refine cw_seq ?_
  refine cw_region ?_
  refine rw_v (op_fieldAddr Try.underlying118 rfl Try.sizeOf22 rfl rfl) ?_
  refine rw_r (op_loadB Try.underlying22 rfl rfl (S.blk (i := 0) rfl) rfl) ?_
  refine rw_v (op_len Try.underlying22 rfl) ?_
  refine rw_call rfl (trees_E V.length hV w2_) ?_
  rintro _ w3_ ⟨A_F, c_F, rfl, hR_F, hf_F, g3_⟩
  have S := S.pushRow hR_F hf_F g3_
  refine rw_v (op_pure rfl) ?_
  first | refine rw_end ?_ | (refine rw_nil ?_; show CW _ _ _ _ _ _) | refine rw_nil ?_
  repeat refine cw_seq ?_
  refine cw_region ?_
  refine rw_v (op_fieldAddr Try.underlying118 rfl Try.sizeOf22 rfl rfl) ?_
  refine rw_r (op_loadB Try.underlying22 rfl rfl (S.blk (i := 1) rfl) rfl) ?_
  refine rw_v (op_len Try.underlying22 rfl) ?_
  refine rw_v (op_pure rfl) ?_
  first | refine rw_end ?_ | (refine rw_nil ?_; show CW _ _ _ _ _ _) | refine rw_nil ?_
  repeat refine cw_seq ?_
  refine cw_block ?_
  repeat refine cw_seq ?_
  refine cw_loop (fun m e w => ∃ (k : Nat) (f : Nat → Nat), k + m = V.length ∧ SL e [(1, .int .i64 t), (2, .pointer (some ⟨b_l, 0, none⟩)), (5, .slice A_F V.length c_F), (13, .slice A V.length c), (14, .int .i64 V.length), (15, .int .i64 k)] ∧ SetsOk gw V t k f ∧
    St No W w [.row 3 1 A_F V.length c_F (cellsN V.length f), .blk b_l 118 [.int .i64 gw, .int .i64 gh, .slice A V.length c]]) V.length
    ⟨0, fun i => i, by omega, ⟨rfl, rfl, rfl, rfl, rfl, rfl, trivial⟩, ⟨fun i _ => Nat.le_refl i, Nat.zero_le _, fun i _ => by rw [rootF_ge (by omega)]; exact .refl _, fun i hi => by omega, fun i hi => by omega⟩, S⟩ ?_
  rintro m e w ⟨k, f, hk, hsl, hf, S⟩
  rw [hsl.fold]
  repeat refine cw_seq ?_
  refine cw_region ?_
  refine rw_v (op_pure rfl) ?_
  first | refine rw_end ?_ | (refine rw_nil ?_; show CW _ _ _ _ _ _) | refine rw_nil ?_
  repeat refine cw_seq ?_
  refine cw_cond rfl (fun hc => ?_) (fun hc => ?_)
  · try simp only [decide_eq_true_eq, decide_eq_false_iff_not, beq_iff_eq, bne_iff_ne, beq_eq_false_iff_ne, bne_eq_false_iff_eq, Bool.not_eq_true', Bool.not_eq_false', ne_eq, Decidable.not_not, Int.natCast_inj, Int.ofNat_lt, Int.ofNat_le, gt_iff_lt, ge_iff_le, Int.not_lt, Int.not_le] at hc
    have hkV : k < V.length := by omega
    have hgk := hget k hkV
    repeat refine cw_seq ?_
    refine cw_skip ?_
    try show CW _ _ _ _ _ _
    repeat refine cw_seq ?_
    refine cw_block ?_
    repeat refine cw_seq ?_
    refine cw_region ?_
    refine rw_v (op_pure rfl) ?_
    refine rw_v (op_idx Try.underlying22 Try.sizeOf2 rfl rfl sa_A (by omega) (by omega)) ?_
    refine rw_r (op_ldR Try.underlying2 rfl rfl (hA.gr S.out) hgk) ?_
    iterate 2 refine rw_v (op_pure rfl) ?_
    first | refine rw_end ?_ | (refine rw_nil ?_; show CW _ _ _ _ _ _) | refine rw_nil ?_
    repeat refine cw_seq ?_
    refine cw_region ?_
    iterate 3 refine rw_v (op_pure rfl) ?_
    first | refine rw_end ?_ | (refine rw_nil ?_; show CW _ _ _ _ _ _) | refine rw_nil ?_
    repeat refine cw_seq ?_
    refine cw_cond rfl (fun hlow => ?_) (fun hlow => ?_)
    · try simp only [decide_eq_true_eq, decide_eq_false_iff_not, beq_iff_eq, bne_iff_ne, beq_eq_false_iff_ne, bne_eq_false_iff_eq, Bool.not_eq_true', Bool.not_eq_false', ne_eq, Decidable.not_not, Int.natCast_inj, Int.ofNat_lt, Int.ofNat_le, gt_iff_lt, ge_iff_le, Int.not_lt, Int.not_le] at hlow
      repeat refine cw_seq ?_
      refine cw_exit ?_
      repeat first | refine exit_then ?_ | refine exit_inb ?_
      show CW _ _ _ _ _ _
      repeat refine cw_seq ?_
      refine cw_region ?_
      refine rw_v (op_rng rfl (by omega)) ?_
      refine rw_v (op_pure rfl) ?_
      first | refine rw_end ?_ | (refine rw_nil ?_; show CW _ _ _ _ _ _) | refine rw_nil ?_
      refine ⟨m - 1, by omega, k + 1, f, by omega, ⟨rfl, rfl, rfl, rfl, rfl, ie (by omega), trivial⟩, ⟨hf.ok, hkV, hf.conn, fun i hi h1 h2 h3 => ?_, fun i hi h1 h2 h3 => ?_⟩, S⟩
      · by_cases e : i = k
        · subst e; omega
        · exact hf.left i (by omega) h1 h2 h3
      · by_cases e : i = k
        · subst e; omega
        · exact hf.up i (by omega) h1 h2 h3
    · try simp only [decide_eq_true_eq, decide_eq_false_iff_not, beq_iff_eq, bne_iff_ne, beq_eq_false_iff_ne, bne_eq_false_iff_eq, Bool.not_eq_true', Bool.not_eq_false', ne_eq, Decidable.not_not, Int.natCast_inj, Int.ofNat_lt, Int.ofNat_le, gt_iff_lt, ge_iff_le, Int.not_lt, Int.not_le] at hlow
      repeat refine cw_seq ?_
      refine cw_skip ?_
      try show CW _ _ _ _ _ _
      have em : (k : Int) % gw = ((k % gw : Nat) : Int) := by push_cast; rfl
      repeat refine cw_seq ?_
      refine cw_cutT (M := fun e w => SL e [(1, .int .i64 t), (2, .pointer (some ⟨b_l, 0, none⟩)), (5, .slice A_F V.length c_F), (6, .int .i64 k), (13, .slice A V.length c), (14, .int .i64 V.length), (15, .int .i64 k), (37, .bool (decide (0 < k % gw ∧ t ≤ V.getD (k - 1) 0)))] ∧ St No W w [.row 3 1 A_F V.length c_F (cellsN V.length f), .blk b_l 118 [.int .i64 gw, .int .i64 gh, .slice A V.length c]]) ?_ ?_
      · by_cases h1 : 0 < k % gw
        · have hk1 : 1 ≤ k := by rcases Nat.eq_zero_or_pos k with h | h; · subst h; simp at h1
                                 · exact h
          have hgk1 := hget (k - 1) (by omega)
          rw [show ((k - 1 : Nat) : Int) = (k : Int) - 1 by omega] at hgk1
          by_cases h2 : t ≤ V.getD (k - 1) 0
          · skip
            repeat refine cw_seq ?_
            refine cw_region ?_
            refine rw_v (op_pure rfl) ?_
            refine rw_v (op_fieldAddr Try.underlying118 rfl Try.sizeOf3 rfl rfl) ?_
            refine rw_r (op_loadB Try.underlying3 rfl rfl (S.blk (i := 1) rfl) rfl) ?_
            refine rw_v (op_rem rfl rfl (by omega) (by omega)) ?_
            rw [em]
            first | refine rw_v (op_b (b := true) rfl (decide_eq_true (by omega))) ?_ | refine rw_v (op_b (b := false) rfl (decide_eq_false (by omega))) ?_ | refine rw_v (op_pure rfl) ?_
            refine rw_v (op_pure rfl) ?_
            first | refine rw_off rfl ?_ | (refine rw_on rfl ?_; refine rw_v (op_fieldAddr Try.underlying118 rfl Try.sizeOf22 rfl rfl) ?_)
            first | refine rw_off rfl ?_ | (refine rw_on rfl ?_; refine rw_r (op_loadB Try.underlying22 rfl rfl (S.blk (i := 1) rfl) rfl) ?_)
            first | refine rw_off rfl ?_ | (refine rw_on rfl ?_; refine rw_v (op_pure rfl) ?_)
            first | refine rw_off rfl ?_ | (refine rw_on rfl ?_; refine rw_v (op_rng rfl (by omega)) ?_)
            first | refine rw_off rfl ?_ | (refine rw_on rfl ?_; refine rw_v (op_idx Try.underlying22 Try.sizeOf2 rfl rfl sa_A (by omega) (by omega)) ?_)
            first | refine rw_off rfl ?_ | (refine rw_on rfl ?_; refine rw_r (op_ldR Try.underlying2 rfl rfl (hA.gr S.out) hgk1) ?_)
            first | refine rw_off rfl ?_ | (refine rw_on rfl ?_; refine rw_v (op_pure rfl) ?_)
            first | refine rw_off rfl ?_ | (refine rw_on rfl ?_; (first | refine rw_v (op_b (b := true) rfl (decide_eq_true (by omega))) ?_ | refine rw_v (op_b (b := false) rfl (decide_eq_false (by omega))) ?_ | refine rw_v (op_pure rfl) ?_))
            refine rw_v (op_pure rfl) ?_
            first | refine rw_end ?_ | (refine rw_nil ?_; show CW _ _ _ _ _ _) | refine rw_nil ?_
            exact ⟨⟨rfl, rfl, rfl, rfl, rfl, rfl, rfl, be (decide_eq_true ⟨h1, h2⟩).symm, trivial⟩, S⟩
          · skip
            repeat refine cw_seq ?_
            refine cw_region ?_
            refine rw_v (op_pure rfl) ?_
            refine rw_v (op_fieldAddr Try.underlying118 rfl Try.sizeOf3 rfl rfl) ?_
            refine rw_r (op_loadB Try.underlying3 rfl rfl (S.blk (i := 1) rfl) rfl) ?_
            refine rw_v (op_rem rfl rfl (by omega) (by omega)) ?_
            rw [em]
            first | refine rw_v (op_b (b := true) rfl (decide_eq_true (by omega))) ?_ | refine rw_v (op_b (b := false) rfl (decide_eq_false (by omega))) ?_ | refine rw_v (op_pure rfl) ?_
            refine rw_v (op_pure rfl) ?_
            first | refine rw_off rfl ?_ | (refine rw_on rfl ?_; refine rw_v (op_fieldAddr Try.underlying118 rfl Try.sizeOf22 rfl rfl) ?_)
            first | refine rw_off rfl ?_ | (refine rw_on rfl ?_; refine rw_r (op_loadB Try.underlying22 rfl rfl (S.blk (i := 1) rfl) rfl) ?_)
            first | refine rw_off rfl ?_ | (refine rw_on rfl ?_; refine rw_v (op_pure rfl) ?_)
            first | refine rw_off rfl ?_ | (refine rw_on rfl ?_; refine rw_v (op_rng rfl (by omega)) ?_)
            first | refine rw_off rfl ?_ | (refine rw_on rfl ?_; refine rw_v (op_idx Try.underlying22 Try.sizeOf2 rfl rfl sa_A (by omega) (by omega)) ?_)
            first | refine rw_off rfl ?_ | (refine rw_on rfl ?_; refine rw_r (op_ldR Try.underlying2 rfl rfl (hA.gr S.out) hgk1) ?_)
            first | refine rw_off rfl ?_ | (refine rw_on rfl ?_; refine rw_v (op_pure rfl) ?_)
            first | refine rw_off rfl ?_ | (refine rw_on rfl ?_; (first | refine rw_v (op_b (b := true) rfl (decide_eq_true (by omega))) ?_ | refine rw_v (op_b (b := false) rfl (decide_eq_false (by omega))) ?_ | refine rw_v (op_pure rfl) ?_))
            refine rw_v (op_pure rfl) ?_
            first | refine rw_end ?_ | (refine rw_nil ?_; show CW _ _ _ _ _ _) | refine rw_nil ?_
            exact ⟨⟨rfl, rfl, rfl, rfl, rfl, rfl, rfl, be (decide_eq_false fun h => h2 h.2).symm, trivial⟩, S⟩
        · skip
          repeat refine cw_seq ?_
          refine cw_region ?_
          refine rw_v (op_pure rfl) ?_
          refine rw_v (op_fieldAddr Try.underlying118 rfl Try.sizeOf3 rfl rfl) ?_
          refine rw_r (op_loadB Try.underlying3 rfl rfl (S.blk (i := 1) rfl) rfl) ?_
          refine rw_v (op_rem rfl rfl (by omega) (by omega)) ?_
          rw [em]
          first | refine rw_v (op_b (b := true) rfl (decide_eq_true (by omega))) ?_ | refine rw_v (op_b (b := false) rfl (decide_eq_false (by omega))) ?_ | refine rw_v (op_pure rfl) ?_
          refine rw_v (op_pure rfl) ?_
          first | refine rw_off rfl ?_ | (refine rw_on rfl ?_; refine rw_v (op_fieldAddr Try.underlying118 rfl Try.sizeOf22 rfl rfl) ?_)
          first | refine rw_off rfl ?_ | (refine rw_on rfl ?_; refine rw_r (op_loadB Try.underlying22 rfl rfl (S.blk (i := 1) rfl) rfl) ?_)
          first | refine rw_off rfl ?_ | (refine rw_on rfl ?_; refine rw_v (op_pure rfl) ?_)
          first | refine rw_off rfl ?_ | (refine rw_on rfl ?_; refine rw_v (op_rng rfl (by omega)) ?_)
          first | refine rw_off rfl ?_ | (refine rw_on rfl ?_; refine rw_v (op_idx Try.underlying22 Try.sizeOf2 rfl rfl sa_A (by omega) (by omega)) ?_)
          first | refine rw_off rfl ?_ | (refine rw_on rfl ?_; refine rw_r (op_ldR Try.underlying2 rfl rfl (hA.gr S.out) (by assumption)) ?_)
          first | refine rw_off rfl ?_ | (refine rw_on rfl ?_; refine rw_v (op_pure rfl) ?_)
          first | refine rw_off rfl ?_ | (refine rw_on rfl ?_; (first | refine rw_v (op_b (b := true) rfl (decide_eq_true (by omega))) ?_ | refine rw_v (op_b (b := false) rfl (decide_eq_false (by omega))) ?_ | refine rw_v (op_pure rfl) ?_))
          refine rw_v (op_pure rfl) ?_
          first | refine rw_end ?_ | (refine rw_nil ?_; show CW _ _ _ _ _ _) | refine rw_nil ?_
          exact ⟨⟨rfl, rfl, rfl, rfl, rfl, rfl, rfl, be (decide_eq_false fun h => h1 h.1).symm, trivial⟩, S⟩
      · rintro e1 w1 ⟨hsl, S⟩
        rw [hsl.fold]
        repeat refine cw_seq ?_
        refine cw_cutT (M := fun e w => ∃ f, SetsOk gw V t k f ∧ (0 < k % gw → t ≤ V.getD (k - 1) 0 → rootF f k = rootF f (k - 1)) ∧ SL e [(1, .int .i64 t), (2, .pointer (some ⟨b_l, 0, none⟩)), (5, .slice A_F V.length c_F), (6, .int .i64 k), (13, .slice A V.length c), (14, .int .i64 V.length), (15, .int .i64 k)] ∧ St No W w [.row 3 1 A_F V.length c_F (cellsN V.length f), .blk b_l 118 [.int .i64 gw, .int .i64 gh, .slice A V.length c]]) ?_ ?_
        · skip
          repeat refine cw_seq ?_
          refine cw_cond rfl (fun hl => ?_) (fun hl => ?_)
          · try simp only [decide_eq_true_eq, decide_eq_false_iff_not, beq_iff_eq, bne_iff_ne, beq_eq_false_iff_ne, bne_eq_false_iff_eq, Bool.not_eq_true', Bool.not_eq_false', ne_eq, Decidable.not_not, Int.natCast_inj, Int.ofNat_lt, Int.ofNat_le, gt_iff_lt, ge_iff_le, Int.not_lt, Int.not_le] at hl
            have hk1 : 1 ≤ k := by rcases Nat.eq_zero_or_pos k with h | h; · subst h; simp at hl
                                   · exact h
            have hadj : Adj gw V t k (k - 1) := ⟨hkV, by omega, hlow, hl.2, .inl ⟨by omega, hl.1⟩⟩
            repeat refine cw_seq ?_
            refine cw_region ?_
            iterate 3 refine rw_v (op_pure rfl) ?_
            refine rw_v (op_rng rfl (by omega)) ?_
            rw [show (k : Int) - 1 = ((k - 1 : Nat) : Int) by omega]
            refine rw_call rfl (join_E k (k - 1) hV hkV (by omega) hf.ok (S.row (i := 0) rfl)) ?_
            rintro _ w4_ ⟨rfl, f1, hf1, hr1, hR1, hF1⟩
            have S := S.set (i := 0) (h' := .row 3 1 A_F V.length c_F (cellsN V.length f1)) rfl rfl hF1 (fun g h => .inl h) hR1 (fun g h => .inl h)
            first | refine rw_end ?_ | (refine rw_nil ?_; show CW _ _ _ _ _ _) | refine rw_nil ?_
            have hj := hf.join hkV (by omega) hadj hf1 hr1
            exact ⟨f1, hj.1, fun _ _ => hj.2, ⟨rfl, rfl, rfl, rfl, rfl, rfl, rfl, trivial⟩, S⟩
          · try simp only [decide_eq_true_eq, decide_eq_false_iff_not, beq_iff_eq, bne_iff_ne, beq_eq_false_iff_ne, bne_eq_false_iff_eq, Bool.not_eq_true', Bool.not_eq_false', ne_eq, Decidable.not_not, Int.natCast_inj, Int.ofNat_lt, Int.ofNat_le, gt_iff_lt, ge_iff_le, Int.not_lt, Int.not_le] at hl
            repeat refine cw_seq ?_
            refine cw_skip ?_
            try show CW _ _ _ _ _ _
            exact ⟨f, hf, fun h1 h2 => absurd ⟨h1, h2⟩ hl, ⟨rfl, rfl, rfl, rfl, rfl, rfl, rfl, trivial⟩, S⟩
        · rintro e2 w2 ⟨f2, hf2, hleft, hsl, S⟩
          rw [hsl.fold]
          repeat refine cw_seq ?_
          refine cw_cutT (M := fun e w => SL e [(1, .int .i64 t), (2, .pointer (some ⟨b_l, 0, none⟩)), (5, .slice A_F V.length c_F), (6, .int .i64 k), (13, .slice A V.length c), (14, .int .i64 V.length), (15, .int .i64 k), (58, .bool (decide (gw ≤ k ∧ t ≤ V.getD (k - gw) 0)))] ∧ St No W w [.row 3 1 A_F V.length c_F (cellsN V.length f2), .blk b_l 118 [.int .i64 gw, .int .i64 gh, .slice A V.length c]]) ?_ ?_
          · by_cases h1 : gw ≤ k
            · have hgk1 := hget (k - gw) (by omega)
              rw [show ((k - gw : Nat) : Int) = (k : Int) - gw by omega] at hgk1
              by_cases h2 : t ≤ V.getD (k - gw) 0
              · skip
                repeat refine cw_seq ?_
                refine cw_region ?_
                refine rw_v (op_pure rfl) ?_
                refine rw_v (op_fieldAddr Try.underlying118 rfl Try.sizeOf3 rfl rfl) ?_
                refine rw_r (op_loadB Try.underlying3 rfl rfl (S.blk (i := 1) rfl) rfl) ?_
                first | refine rw_v (op_b (b := true) rfl (decide_eq_true (by omega))) ?_ | refine rw_v (op_b (b := false) rfl (decide_eq_false (by omega))) ?_ | refine rw_v (op_pure rfl) ?_
                refine rw_v (op_pure rfl) ?_
                first | refine rw_off rfl ?_ | (refine rw_on rfl ?_; refine rw_v (op_fieldAddr Try.underlying118 rfl Try.sizeOf22 rfl rfl) ?_)
                first | refine rw_off rfl ?_ | (refine rw_on rfl ?_; refine rw_r (op_loadB Try.underlying22 rfl rfl (S.blk (i := 1) rfl) rfl) ?_)
                first | refine rw_off rfl ?_ | (refine rw_on rfl ?_; refine rw_v (op_pure rfl) ?_)
                first | refine rw_off rfl ?_ | (refine rw_on rfl ?_; refine rw_v (op_fieldAddr Try.underlying118 rfl Try.sizeOf3 rfl rfl) ?_)
                first | refine rw_off rfl ?_ | (refine rw_on rfl ?_; refine rw_r (op_loadB Try.underlying3 rfl rfl (S.blk (i := 1) rfl) rfl) ?_)
                first | refine rw_off rfl ?_ | (refine rw_on rfl ?_; refine rw_v (op_rng rfl (by omega)) ?_)
                first | refine rw_off rfl ?_ | (refine rw_on rfl ?_; refine rw_v (op_idx Try.underlying22 Try.sizeOf2 rfl rfl sa_A (by omega) (by omega)) ?_)
                first | refine rw_off rfl ?_ | (refine rw_on rfl ?_; refine rw_r (op_ldR Try.underlying2 rfl rfl (hA.gr S.out) hgk1) ?_)
                first | refine rw_off rfl ?_ | (refine rw_on rfl ?_; refine rw_v (op_pure rfl) ?_)
                first | refine rw_off rfl ?_ | (refine rw_on rfl ?_; (first | refine rw_v (op_b (b := true) rfl (decide_eq_true (by omega))) ?_ | refine rw_v (op_b (b := false) rfl (decide_eq_false (by omega))) ?_ | refine rw_v (op_pure rfl) ?_))
                refine rw_v (op_pure rfl) ?_
                first | refine rw_end ?_ | (refine rw_nil ?_; show CW _ _ _ _ _ _) | refine rw_nil ?_
                exact ⟨⟨rfl, rfl, rfl, rfl, rfl, rfl, rfl, be (decide_eq_true ⟨h1, h2⟩).symm, trivial⟩, S⟩
              · skip
                repeat refine cw_seq ?_
                refine cw_region ?_
                refine rw_v (op_pure rfl) ?_
                refine rw_v (op_fieldAddr Try.underlying118 rfl Try.sizeOf3 rfl rfl) ?_
                refine rw_r (op_loadB Try.underlying3 rfl rfl (S.blk (i := 1) rfl) rfl) ?_
                first | refine rw_v (op_b (b := true) rfl (decide_eq_true (by omega))) ?_ | refine rw_v (op_b (b := false) rfl (decide_eq_false (by omega))) ?_ | refine rw_v (op_pure rfl) ?_
                refine rw_v (op_pure rfl) ?_
                first | refine rw_off rfl ?_ | (refine rw_on rfl ?_; refine rw_v (op_fieldAddr Try.underlying118 rfl Try.sizeOf22 rfl rfl) ?_)
                first | refine rw_off rfl ?_ | (refine rw_on rfl ?_; refine rw_r (op_loadB Try.underlying22 rfl rfl (S.blk (i := 1) rfl) rfl) ?_)
                first | refine rw_off rfl ?_ | (refine rw_on rfl ?_; refine rw_v (op_pure rfl) ?_)
                first | refine rw_off rfl ?_ | (refine rw_on rfl ?_; refine rw_v (op_fieldAddr Try.underlying118 rfl Try.sizeOf3 rfl rfl) ?_)
                first | refine rw_off rfl ?_ | (refine rw_on rfl ?_; refine rw_r (op_loadB Try.underlying3 rfl rfl (S.blk (i := 1) rfl) rfl) ?_)
                first | refine rw_off rfl ?_ | (refine rw_on rfl ?_; refine rw_v (op_rng rfl (by omega)) ?_)
                first | refine rw_off rfl ?_ | (refine rw_on rfl ?_; refine rw_v (op_idx Try.underlying22 Try.sizeOf2 rfl rfl sa_A (by omega) (by omega)) ?_)
                first | refine rw_off rfl ?_ | (refine rw_on rfl ?_; refine rw_r (op_ldR Try.underlying2 rfl rfl (hA.gr S.out) hgk1) ?_)
                first | refine rw_off rfl ?_ | (refine rw_on rfl ?_; refine rw_v (op_pure rfl) ?_)
                first | refine rw_off rfl ?_ | (refine rw_on rfl ?_; (first | refine rw_v (op_b (b := true) rfl (decide_eq_true (by omega))) ?_ | refine rw_v (op_b (b := false) rfl (decide_eq_false (by omega))) ?_ | refine rw_v (op_pure rfl) ?_))
                refine rw_v (op_pure rfl) ?_
                first | refine rw_end ?_ | (refine rw_nil ?_; show CW _ _ _ _ _ _) | refine rw_nil ?_
                exact ⟨⟨rfl, rfl, rfl, rfl, rfl, rfl, rfl, be (decide_eq_false fun h => h2 h.2).symm, trivial⟩, S⟩
            · skip
              repeat refine cw_seq ?_
              refine cw_region ?_
              refine rw_v (op_pure rfl) ?_
              refine rw_v (op_fieldAddr Try.underlying118 rfl Try.sizeOf3 rfl rfl) ?_
              refine rw_r (op_loadB Try.underlying3 rfl rfl (S.blk (i := 1) rfl) rfl) ?_
              first | refine rw_v (op_b (b := true) rfl (decide_eq_true (by omega))) ?_ | refine rw_v (op_b (b := false) rfl (decide_eq_false (by omega))) ?_ | refine rw_v (op_pure rfl) ?_
              refine rw_v (op_pure rfl) ?_
              first | refine rw_off rfl ?_ | (refine rw_on rfl ?_; refine rw_v (op_fieldAddr Try.underlying118 rfl Try.sizeOf22 rfl rfl) ?_)
              first | refine rw_off rfl ?_ | (refine rw_on rfl ?_; refine rw_r (op_loadB Try.underlying22 rfl rfl (S.blk (i := 1) rfl) rfl) ?_)
              first | refine rw_off rfl ?_ | (refine rw_on rfl ?_; refine rw_v (op_pure rfl) ?_)
              first | refine rw_off rfl ?_ | (refine rw_on rfl ?_; refine rw_v (op_fieldAddr Try.underlying118 rfl Try.sizeOf3 rfl rfl) ?_)
              first | refine rw_off rfl ?_ | (refine rw_on rfl ?_; refine rw_r (op_loadB Try.underlying3 rfl rfl (S.blk (i := 1) rfl) rfl) ?_)
              first | refine rw_off rfl ?_ | (refine rw_on rfl ?_; refine rw_v (op_rng rfl (by omega)) ?_)
              first | refine rw_off rfl ?_ | (refine rw_on rfl ?_; refine rw_v (op_idx Try.underlying22 Try.sizeOf2 rfl rfl sa_A (by omega) (by omega)) ?_)
              first | refine rw_off rfl ?_ | (refine rw_on rfl ?_; refine rw_r (op_ldR Try.underlying2 rfl rfl (hA.gr S.out) (by assumption)) ?_)
              first | refine rw_off rfl ?_ | (refine rw_on rfl ?_; refine rw_v (op_pure rfl) ?_)
              first | refine rw_off rfl ?_ | (refine rw_on rfl ?_; (first | refine rw_v (op_b (b := true) rfl (decide_eq_true (by omega))) ?_ | refine rw_v (op_b (b := false) rfl (decide_eq_false (by omega))) ?_ | refine rw_v (op_pure rfl) ?_))
              refine rw_v (op_pure rfl) ?_
              first | refine rw_end ?_ | (refine rw_nil ?_; show CW _ _ _ _ _ _) | refine rw_nil ?_
              exact ⟨⟨rfl, rfl, rfl, rfl, rfl, rfl, rfl, be (decide_eq_false fun h => h1 h.1).symm, trivial⟩, S⟩
          · rintro e3 w3 ⟨hsl, S⟩
            rw [hsl.fold]
            repeat refine cw_seq ?_
            refine cw_cond rfl (fun hu => ?_) (fun hu => ?_)
            · try simp only [decide_eq_true_eq, decide_eq_false_iff_not, beq_iff_eq, bne_iff_ne, beq_eq_false_iff_ne, bne_eq_false_iff_eq, Bool.not_eq_true', Bool.not_eq_false', ne_eq, Decidable.not_not, Int.natCast_inj, Int.ofNat_lt, Int.ofNat_le, gt_iff_lt, ge_iff_le, Int.not_lt, Int.not_le] at hu
              have hadj : Adj gw V t k (k - gw) := ⟨hkV, by omega, hlow, hu.2, .inr (.inr (.inl (by omega)))⟩
              repeat refine cw_seq ?_
              refine cw_region ?_
              iterate 3 refine rw_v (op_pure rfl) ?_
              refine rw_v (op_fieldAddr Try.underlying118 rfl Try.sizeOf3 rfl rfl) ?_
              refine rw_r (op_loadB Try.underlying3 rfl rfl (S.blk (i := 1) rfl) rfl) ?_
              refine rw_v (op_rng rfl (by omega)) ?_
              rw [show (k : Int) - gw = ((k - gw : Nat) : Int) by omega]
              refine rw_call rfl (join_E k (k - gw) hV hkV (by omega) hf2.ok (S.row (i := 0) rfl)) ?_
              rintro _ w5_ ⟨rfl, f1, hf1, hr1, hR1, hF1⟩
              have S := S.set (i := 0) (h' := .row 3 1 A_F V.length c_F (cellsN V.length f1)) rfl rfl hF1 (fun g h => .inl h) hR1 (fun g h => .inl h)
              first | refine rw_end ?_ | (refine rw_nil ?_; show CW _ _ _ _ _ _) | refine rw_nil ?_
              repeat refine cw_seq ?_
              refine cw_region ?_
              refine rw_v (op_rng rfl (by omega)) ?_
              refine rw_v (op_pure rfl) ?_
              first | refine rw_end ?_ | (refine rw_nil ?_; show CW _ _ _ _ _ _) | refine rw_nil ?_
              have hj := hf2.join hkV (by omega) hadj hf1 hr1
              have same : ∀ i j, i < V.length → j < V.length → rootF f2 i = rootF f2 j → rootF f1 i = rootF f1 j := fun i j hi hj e => by rw [hr1 i hi, hr1 j hj, e]
              refine ⟨m - 1, by omega, k + 1, f1, by omega, ⟨rfl, rfl, rfl, rfl, rfl, ie (by omega), trivial⟩, ⟨hf1, hkV, hj.1.conn, fun i hi h1 h2 h3 => ?_, fun i hi h1 h2 h3 => ?_⟩, S⟩
              · by_cases e : i = k
                · subst e; exact same _ _ hkV (by omega) (hleft h2 h3)
                · exact hj.1.left i (by omega) h1 h2 h3
              · by_cases e : i = k
                · subst e; exact hj.2
                · exact hj.1.up i (by omega) h1 h2 h3
            · try simp only [decide_eq_true_eq, decide_eq_false_iff_not, beq_iff_eq, bne_iff_ne, beq_eq_false_iff_ne, bne_eq_false_iff_eq, Bool.not_eq_true', Bool.not_eq_false', ne_eq, Decidable.not_not, Int.natCast_inj, Int.ofNat_lt, Int.ofNat_le, gt_iff_lt, ge_iff_le, Int.not_lt, Int.not_le] at hu
              repeat refine cw_seq ?_
              refine cw_skip ?_
              try show CW _ _ _ _ _ _
              repeat refine cw_seq ?_
              refine cw_region ?_
              refine rw_v (op_rng rfl (by omega)) ?_
              refine rw_v (op_pure rfl) ?_
              first | refine rw_end ?_ | (refine rw_nil ?_; show CW _ _ _ _ _ _) | refine rw_nil ?_
              refine ⟨m - 1, by omega, k + 1, f2, by omega, ⟨rfl, rfl, rfl, rfl, rfl, ie (by omega), trivial⟩, ⟨hf2.ok, hkV, hf2.conn, fun i hi h1 h2 h3 => ?_, fun i hi h1 h2 h3 => ?_⟩, S⟩
              · by_cases e : i = k
                · subst e; exact hleft h2 h3
                · exact hf2.left i (by omega) h1 h2 h3
              · by_cases e : i = k
                · subst e; exact absurd ⟨h2, h3⟩ hu
                · exact hf2.up i (by omega) h1 h2 h3
  · try simp only [decide_eq_true_eq, decide_eq_false_iff_not, beq_iff_eq, bne_iff_ne, beq_eq_false_iff_ne, bne_eq_false_iff_eq, Bool.not_eq_true', Bool.not_eq_false', ne_eq, Decidable.not_not, Int.natCast_inj, Int.ofNat_lt, Int.ofNat_le, gt_iff_lt, ge_iff_le, Int.not_lt, Int.not_le] at hc
    repeat refine cw_seq ?_
    refine cw_exit ?_
    repeat first | refine exit_then ?_ | refine exit_inb ?_
    show CW _ _ _ _ _ _
    repeat refine cw_seq ?_
    refine cw_region ?_
    iterate 2 refine rw_v (op_pure rfl) ?_
    first | refine rw_end ?_ | (refine rw_nil ?_; show CW _ _ _ _ _ _) | refine rw_nil ?_
    repeat refine cw_seq ?_
    refine cw_ret ?_
    repeat first | refine ret_then ?_ | refine ret_inb ?_
    obtain rfl : k = V.length := by omega
    exact res1 rfl ⟨f, hf, S.retNew (i := 0) (mk := id) rfl⟩
end
end Go.Proofs.Ytbcgbcipigcbhaa
