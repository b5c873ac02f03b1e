/- grid.Same, hachurelaw09.Is (also in FillK and FillV, here apart from fill). -/
import Derived.Test.YtbcgbcipigcbhaaSmooth
namespace Go.Proofs.Ytbcgbcipigcbhaa
open Go.RowKit
set_option linter.unusedVariables false
set_option linter.unusedSimpArgs false
set_option maxRecDepth 100000

section
variable {W : World}
theorem scells_E (b : Nat) (R : Option Nat) (sw sh : Nat) (c : Nat → Int) (hw : 1 ≤ sw ∧ sw ≤ 16) (hh : 1 ≤ sh ∧ sh ≤ 16) (W : World) (hS : SlabIs W b R sw sh c) :
    Fn Try.prog 67 [.pointer (some ⟨b, 0, none⟩)] W (RetNew id 2 1 (sw * sh) (cellsQ (sw * sh) c) W) := by
  have hsz : sw * sh ≤ 16 * 16 := Nat.mul_le_mul hw.2 hh.2
  have hpos : 1 ≤ sw * sh := Nat.mul_le_mul hw.1 hh.1
  have hmi : (sw : Int) * sh = ((sw * sh : Nat) : Int) := by push_cast; rfl
  have hsucc : ∀ k, k < sw * sh → cellsQ (sw * sh) (updI (fun i => if i < k then c i else 0) k (c k)) = cellsQ (sw * sh) (fun i => if i < k + 1 then c i else 0) := fun k hk => cellsQ_congr fun i hi => by
    unfold updI
    (try dsimp only)
    by_cases e1 : i = k
    · rw [if_pos e1, if_pos (by omega), e1]
    · by_cases e2 : i < k
      · rw [if_neg e1, if_pos e2, if_pos (by omega)]
      · rw [if_neg e1, if_neg e2, if_neg (by omega)]
  obtain ⟨hr, hS⟩ := hS
  cases R with
  | none =>
    obtain ⟨v, hB, hv, hc⟩ := hS
    have S := St.start W
    refine Fn_enter Try.func67 rfl Try.results67 Try.ntmps67 (by kernel_rfl) (by kernel_rfl) ?_
    repeat refine cw_seq ?_
    refine cw_region ?_
    refine rw_v (op_pure rfl) ?_
    first | refine rw_end ?_ | (refine rw_nil ?_; show CW _ _ _ _ _ _) | refine rw_nil ?_
    repeat refine cw_seq ?_
    refine cw_region ?_
    refine rw_v (op_pure rfl) ?_
    refine rw_v (op_nilp Try.underlying114 rfl rfl) ?_
    first | refine rw_end ?_ | (refine rw_nil ?_; show CW _ _ _ _ _ _) | refine rw_nil ?_
    repeat refine cw_seq ?_
    refine cw_false rfl ?_
    repeat refine cw_seq ?_
    refine cw_skip ?_
    try show CW _ _ _ _ _ _
    repeat refine cw_seq ?_
    refine cw_draw (C := fun wq => Gr W wq) [0, 1, 2, 3, 4, 5, 6, 7] [8, 9, 10] (by kernel_rfl) (by kernel_rfl) (Gr.drew _) ?_
    simp only [pickL, List.drop_succ_cons, List.drop_zero]
    iterate 2 refine rq_v (op_pure rfl) ?_
    refine rq_v (op_fieldAddr Try.underlying196 rfl Try.sizeOf2 rfl rfl) ?_
    refine rq_r (fun wq hq => op_loadB Try.underlying2 rfl rfl (hB.gr (S.gr hq).out) rfl) ?_
    iterate 2 refine rq_v (op_pure rfl) ?_
    refine rq_v (op_fieldAddr Try.underlying196 rfl Try.sizeOf2 rfl rfl) ?_
    refine rq_r (fun wq hq => op_loadB Try.underlying2 rfl rfl (hB.gr (S.gr hq).out) rfl) ?_
    refine rq_nil ?_
    intro w1_ g1_
    have S := S.gr g1_
    refine rw_v (op_rng rfl (by omega)) ?_
    rw [hmi]
    refine rw_makeS1 Try.underlying22 info_t2 rfl rfl rfl (n := sw * sh) (c := sw * sh) (by omega) (by omega) (by omega) (by omega) S ?_
    intro A_out w3_ g3_ S sa_out
    refine rw_v (op_pure rfl) ?_
    first | refine rw_end ?_ | (refine rw_nil ?_; show CW _ _ _ _ _ _) | refine rw_nil ?_
    repeat refine cw_seq ?_
    refine cw_region ?_
    refine rw_v (op_pure rfl) ?_
    refine rw_v (op_len Try.underlying22 rfl) ?_
    refine rw_v (op_pure rfl) ?_
    first | refine rw_end ?_ | (refine rw_nil ?_; show CW _ _ _ _ _ _) | refine rw_nil ?_
    repeat refine cw_seq ?_
    refine cw_block ?_
    repeat refine cw_seq ?_
    rw [cellsQ_zero] at S
    refine cw_loop (fun m e w => ∃ k : Nat, k + m = sw * sh ∧ SL e [(0, .pointer (some ⟨b, 0, none⟩)), (3, .slice A_out (sw * sh) (sw * sh)), (18, .int .i64 (sw * sh : Nat)), (19, .int .i64 k)] ∧
      St No W w [.row 2 1 A_out (sw * sh) (sw * sh) (cellsQ (sw * sh) (fun i => if i < k then c i else 0))]) (sw * sh)
      ⟨0, by omega, ⟨rfl, rfl, rfl, rfl, trivial⟩, by simpa using S⟩ ?_
    clear S
    rintro m e w ⟨k, hk, hsl, S⟩
    rw [hsl.fold]
    repeat refine cw_seq ?_
    refine cw_region ?_
    refine rw_v (op_pure rfl) ?_
    first | refine rw_end ?_ | (refine rw_nil ?_; show CW _ _ _ _ _ _) | refine rw_nil ?_
    repeat refine cw_seq ?_
    refine cw_cond rfl (fun hcl => ?_) (fun hcl => ?_)
    · try simp only [decide_eq_true_eq, decide_eq_false_iff_not, beq_iff_eq, bne_iff_ne, beq_eq_false_iff_ne, bne_eq_false_iff_eq, Bool.not_eq_true', Bool.not_eq_false', ne_eq, Decidable.not_not, Int.natCast_inj, Int.ofNat_lt, Int.ofNat_le, gt_iff_lt, ge_iff_le, Int.not_lt, Int.not_le] at hcl
      have hkn : k < sw * sh := by omega
      repeat refine cw_seq ?_
      refine cw_skip ?_
      try show CW _ _ _ _ _ _
      repeat refine cw_seq ?_
      refine cw_block ?_
      repeat refine cw_seq ?_
      refine cw_region ?_
      iterate 2 refine rw_v (op_pure rfl) ?_
      first | refine rw_end ?_ | (refine rw_nil ?_; show CW _ _ _ _ _ _) | refine rw_nil ?_
      repeat refine cw_seq ?_
      refine cw_region ?_
      iterate 4 refine rw_v (op_pure rfl) ?_
      refine rw_v (op_fieldAddr Try.underlying196 rfl Try.sizeOf194 rfl rfl) ?_
      refine rw_r (op_loadB Try.underlying194 rfl rfl (hB.gr S.out) rfl) ?_
      refine rw_v (op_pure rfl) ?_
      refine rw_invoke rfl (meth_flat _ _) rfl (flatAt_E v k hv w) ?_
      rintro _ w4_ ⟨rfl, g4_⟩
      have S := S.gr g4_
      refine rw_v (op_idx Try.underlying22 Try.sizeOf2 rfl rfl sa_out (by omega) (by omega)) ?_
      refine rw_storeR (i := 0) S rfl (Try.sizeOf2 _) rfl rfl rfl rfl (by rw [cellsQ_len]; omega) rfl ?_
      intro w5_ S
      first | refine rw_end ?_ | (refine rw_nil ?_; show CW _ _ _ _ _ _) | refine rw_nil ?_
      repeat refine cw_seq ?_
      refine cw_region ?_
      refine rw_v (op_rng rfl (by omega)) ?_
      refine rw_v (op_pure rfl) ?_
      first | refine rw_end ?_ | (refine rw_nil ?_; show CW _ _ _ _ _ _) | refine rw_nil ?_
      rw [cellsQ_set, ← hc k hkn, hsucc k hkn] at S
      exact ⟨m - 1, by omega, k + 1, by omega, ⟨rfl, rfl, rfl, ie (by omega), trivial⟩, S⟩
    · try simp only [decide_eq_true_eq, decide_eq_false_iff_not, beq_iff_eq, bne_iff_ne, beq_eq_false_iff_ne, bne_eq_false_iff_eq, Bool.not_eq_true', Bool.not_eq_false', ne_eq, Decidable.not_not, Int.natCast_inj, Int.ofNat_lt, Int.ofNat_le, gt_iff_lt, ge_iff_le, Int.not_lt, Int.not_le] at hcl
      rw [cellsQ_congr (o' := c) (fun i hi => by (try dsimp only); rw [if_pos (by omega)])] at S
      repeat refine cw_seq ?_
      refine cw_exit ?_
      repeat first | refine exit_then ?_ | refine exit_inb ?_
      show CW _ _ _ _ _ _
      repeat refine cw_seq ?_
      refine cw_region ?_
      iterate 2 refine rw_v (op_pure rfl) ?_
      first | refine rw_end ?_ | (refine rw_nil ?_; show CW _ _ _ _ _ _) | refine rw_nil ?_
      repeat refine cw_seq ?_
      refine cw_ret ?_
      repeat first | refine ret_then ?_ | refine ret_inb ?_
      exact res1 rfl (S.retNew (i := 0) (mk := id) rfl)
  | some g =>
    obtain ⟨cap, hB, hL⟩ := hS
    have S := St.start W
    refine Fn_enter Try.func67 rfl Try.results67 Try.ntmps67 (by kernel_rfl) (by kernel_rfl) ?_
    repeat refine cw_seq ?_
    refine cw_region ?_
    refine rw_v (op_pure rfl) ?_
    first | refine rw_end ?_ | (refine rw_nil ?_; show CW _ _ _ _ _ _) | refine rw_nil ?_
    repeat refine cw_seq ?_
    refine cw_region ?_
    refine rw_v (op_pure rfl) ?_
    refine rw_v (op_nilp Try.underlying114 rfl rfl) ?_
    first | refine rw_end ?_ | (refine rw_nil ?_; show CW _ _ _ _ _ _) | refine rw_nil ?_
    repeat refine cw_seq ?_
    refine cw_false rfl ?_
    repeat refine cw_seq ?_
    refine cw_skip ?_
    try show CW _ _ _ _ _ _
    repeat refine cw_seq ?_
    refine cw_draw (C := fun wq => Gr W wq) [0, 1, 2, 3, 4, 5, 6, 7] [8, 9, 10] (by kernel_rfl) (by kernel_rfl) (Gr.drew _) ?_
    simp only [pickL, List.drop_succ_cons, List.drop_zero]
    iterate 2 refine rq_v (op_pure rfl) ?_
    refine rq_v (op_fieldAddr Try.underlying196 rfl Try.sizeOf2 rfl rfl) ?_
    refine rq_r (fun wq hq => op_loadB Try.underlying2 rfl rfl (hB.gr (S.gr hq).out) rfl) ?_
    iterate 2 refine rq_v (op_pure rfl) ?_
    refine rq_v (op_fieldAddr Try.underlying196 rfl Try.sizeOf2 rfl rfl) ?_
    refine rq_r (fun wq hq => op_loadB Try.underlying2 rfl rfl (hB.gr (S.gr hq).out) rfl) ?_
    refine rq_nil ?_
    intro w1_ g1_
    have S := S.gr g1_
    refine rw_v (op_rng rfl (by omega)) ?_
    rw [hmi]
    refine rw_makeS1 Try.underlying22 info_t2 rfl rfl rfl (n := sw * sh) (c := sw * sh) (by omega) (by omega) (by omega) (by omega) S ?_
    intro A_out w3_ g3_ S sa_out
    refine rw_v (op_pure rfl) ?_
    first | refine rw_end ?_ | (refine rw_nil ?_; show CW _ _ _ _ _ _) | refine rw_nil ?_
    repeat refine cw_seq ?_
    refine cw_region ?_
    refine rw_v (op_pure rfl) ?_
    refine rw_v (op_len Try.underlying22 rfl) ?_
    refine rw_v (op_pure rfl) ?_
    first | refine rw_end ?_ | (refine rw_nil ?_; show CW _ _ _ _ _ _) | refine rw_nil ?_
    repeat refine cw_seq ?_
    refine cw_block ?_
    repeat refine cw_seq ?_
    rw [cellsQ_zero] at S
    refine cw_loop (fun m e w => ∃ k : Nat, k + m = sw * sh ∧ SL e [(0, .pointer (some ⟨b, 0, none⟩)), (3, .slice A_out (sw * sh) (sw * sh)), (18, .int .i64 (sw * sh : Nat)), (19, .int .i64 k)] ∧
      St No W w [.row 2 1 A_out (sw * sh) (sw * sh) (cellsQ (sw * sh) (fun i => if i < k then c i else 0))]) (sw * sh)
      ⟨0, by omega, ⟨rfl, rfl, rfl, rfl, trivial⟩, by simpa using S⟩ ?_
    clear S
    rintro m e w ⟨k, hk, hsl, S⟩
    rw [hsl.fold]
    repeat refine cw_seq ?_
    refine cw_region ?_
    refine rw_v (op_pure rfl) ?_
    first | refine rw_end ?_ | (refine rw_nil ?_; show CW _ _ _ _ _ _) | refine rw_nil ?_
    repeat refine cw_seq ?_
    refine cw_cond rfl (fun hcl => ?_) (fun hcl => ?_)
    · try simp only [decide_eq_true_eq, decide_eq_false_iff_not, beq_iff_eq, bne_iff_ne, beq_eq_false_iff_ne, bne_eq_false_iff_eq, Bool.not_eq_true', Bool.not_eq_false', ne_eq, Decidable.not_not, Int.natCast_inj, Int.ofNat_lt, Int.ofNat_le, gt_iff_lt, ge_iff_le, Int.not_lt, Int.not_le] at hcl
      have hkn : k < sw * sh := by omega
      have hck := cellsI_get (c := c) hkn
      repeat refine cw_seq ?_
      refine cw_skip ?_
      try show CW _ _ _ _ _ _
      repeat refine cw_seq ?_
      refine cw_block ?_
      repeat refine cw_seq ?_
      refine cw_region ?_
      iterate 2 refine rw_v (op_pure rfl) ?_
      first | refine rw_end ?_ | (refine rw_nil ?_; show CW _ _ _ _ _ _) | refine rw_nil ?_
      repeat refine cw_seq ?_
      refine cw_region ?_
      iterate 4 refine rw_v (op_pure rfl) ?_
      refine rw_v (op_fieldAddr Try.underlying196 rfl Try.sizeOf194 rfl rfl) ?_
      refine rw_r (op_loadB Try.underlying194 rfl rfl (hB.gr S.out) rfl) ?_
      refine rw_v (op_pure rfl) ?_
      refine rw_invoke rfl (meth_rough _ _) rfl (roughAt_E (some ⟨g, 0, none⟩) (sw * sh) cap k (c k) (cellsI (sw * sh) c) (hr k hkn) w (hL.rd.gr S.out) ⟨_, _, rfl⟩ (by omega) (by omega) (by rw [Int.toNat_natCast]; exact hck)) ?_
      rintro _ w4_ ⟨rfl, g4_⟩
      have S := S.gr g4_
      refine rw_v (op_idx Try.underlying22 Try.sizeOf2 rfl rfl sa_out (by omega) (by omega)) ?_
      refine rw_storeR (i := 0) S rfl (Try.sizeOf2 _) rfl rfl rfl rfl (by rw [cellsQ_len]; omega) rfl ?_
      intro w5_ S
      first | refine rw_end ?_ | (refine rw_nil ?_; show CW _ _ _ _ _ _) | refine rw_nil ?_
      repeat refine cw_seq ?_
      refine cw_region ?_
      refine rw_v (op_rng rfl (by omega)) ?_
      refine rw_v (op_pure rfl) ?_
      first | refine rw_end ?_ | (refine rw_nil ?_; show CW _ _ _ _ _ _) | refine rw_nil ?_
      rw [cellsQ_set, hsucc k hkn] at S
      exact ⟨m - 1, by omega, k + 1, by omega, ⟨rfl, rfl, rfl, ie (by omega), trivial⟩, S⟩
    · try simp only [decide_eq_true_eq, decide_eq_false_iff_not, beq_iff_eq, bne_iff_ne, beq_eq_false_iff_ne, bne_eq_false_iff_eq, Bool.not_eq_true', Bool.not_eq_false', ne_eq, Decidable.not_not, Int.natCast_inj, Int.ofNat_lt, Int.ofNat_le, gt_iff_lt, ge_iff_le, Int.not_lt, Int.not_le] at hcl
      rw [cellsQ_congr (o' := c) (fun i hi => by (try dsimp only); rw [if_pos (by omega)])] at S
      repeat refine cw_seq ?_
      refine cw_exit ?_
      repeat first | refine exit_then ?_ | refine exit_inb ?_
      show CW _ _ _ _ _ _
      repeat refine cw_seq ?_
      refine cw_region ?_
      iterate 2 refine rw_v (op_pure rfl) ?_
      first | refine rw_end ?_ | (refine rw_nil ?_; show CW _ _ _ _ _ _) | refine rw_nil ?_
      repeat refine cw_seq ?_
      refine cw_ret ?_
      repeat first | refine ret_then ?_ | refine ret_inb ?_
      exact res1 rfl (S.retNew (i := 0) (mk := id) rfl)
theorem sequal_E (n : Nat) (f : Nat → Int) (A B : Option Addr) (c d : Nat) (hn : n ≤ 1048576) (W : World) (hA : Rd W A (cellsQ n f)) (hB : Rd W B (cellsQ n f)) : Fn Try.prog 66 [.slice A n c, .slice B n d] W (RetG (.bool true) W) := by
  have S := St.start W
  refine Fn_enter Try.func66 rfl Try.results66 Try.ntmps66 (by kernel_rfl) (by kernel_rfl) ?_
  repeat refine cw_seq ?_
  refine cw_region ?_
  refine rw_v (op_pure rfl) ?_
  first | refine rw_end ?_ | (refine rw_nil ?_; show CW _ _ _ _ _ _) | refine rw_nil ?_
  repeat refine cw_seq ?_
  refine cw_region ?_
  refine rw_v (op_pure rfl) ?_
  refine rw_v (op_len Try.underlying22 rfl) ?_
  refine rw_v (op_pure rfl) ?_
  refine rw_v (op_len Try.underlying22 rfl) ?_
  refine rw_v (op_b (b := false) rfl (bne_eq_false_iff_eq.2 (by omega))) ?_
  first | refine rw_end ?_ | (refine rw_nil ?_; show CW _ _ _ _ _ _) | refine rw_nil ?_
  repeat refine cw_seq ?_
  refine cw_false rfl ?_
  repeat refine cw_seq ?_
  refine cw_skip ?_
  try show CW _ _ _ _ _ _
  repeat refine cw_seq ?_
  refine cw_region ?_
  refine rw_v (op_pure rfl) ?_
  refine rw_v (op_len Try.underlying22 rfl) ?_
  refine rw_v (op_pure rfl) ?_
  first | refine rw_end ?_ | (refine rw_nil ?_; show CW _ _ _ _ _ _) | refine rw_nil ?_
  repeat refine cw_seq ?_
  refine cw_block ?_
  repeat refine cw_seq ?_
  refine cw_loop (fun m e w => ∃ k : Nat, k + m = n ∧ SL e [(0, .slice A n c), (1, .slice B n d), (12, .int .i64 n), (13, .int .i64 k)] ∧ St No W w []) n
    ⟨0, by omega, ⟨rfl, rfl, rfl, rfl, trivial⟩, S⟩ ?_
  rintro m e w ⟨k, hk, hsl, S⟩
  rw [hsl.fold]
  repeat refine cw_seq ?_
  refine cw_region ?_
  refine rw_v (op_pure rfl) ?_
  first | refine rw_end ?_ | (refine rw_nil ?_; show CW _ _ _ _ _ _) | refine rw_nil ?_
  repeat refine cw_seq ?_
  refine cw_cond rfl (fun hk1 => ?_) (fun hk1 => ?_)
  · try simp only [decide_eq_true_eq, decide_eq_false_iff_not, beq_iff_eq, bne_iff_ne, beq_eq_false_iff_ne, bne_eq_false_iff_eq, Bool.not_eq_true', Bool.not_eq_false', ne_eq, Decidable.not_not, Int.natCast_inj, Int.ofNat_lt, Int.ofNat_le, gt_iff_lt, ge_iff_le, Int.not_lt, Int.not_le] at hk1
    have hk1 : k < n := by omega
    have sa_A : SomeA A := hA.someA (by rw [cellsQ_len]; omega)
    have sa_B : SomeA B := hB.someA (by rw [cellsQ_len]; omega)
    have hx := cellsQ_get (o := f) hk1
    repeat refine cw_seq ?_
    refine cw_skip ?_
    try show CW _ _ _ _ _ _
    repeat refine cw_seq ?_
    refine cw_block ?_
    repeat refine cw_seq ?_
    refine cw_region ?_
    iterate 2 refine rw_v (op_pure rfl) ?_
    first | refine rw_end ?_ | (refine rw_nil ?_; show CW _ _ _ _ _ _) | refine rw_nil ?_
    repeat refine cw_seq ?_
    refine cw_draw (C := fun wq => Gr w wq) [0, 1, 2, 3, 4, 5, 6, 7, 8] [] (by kernel_rfl) (by kernel_rfl) (Gr.drew _) ?_
    simp only [pickL, List.drop_succ_cons, List.drop_zero]
    iterate 2 refine rq_v (op_pure rfl) ?_
    refine rq_v (op_idx Try.underlying22 Try.sizeOf2 rfl rfl sa_A (by omega) (by omega)) ?_
    refine rq_r (fun wq hq => op_ldR Try.underlying2 rfl rfl (hA.gr (S.gr hq).out) hx) ?_
    iterate 2 refine rq_v (op_pure rfl) ?_
    refine rq_v (op_idx Try.underlying22 Try.sizeOf2 rfl rfl sa_B (by omega) (by omega)) ?_
    refine rq_r (fun wq hq => op_ldR Try.underlying2 rfl rfl (hB.gr (S.gr hq).out) hx) ?_
    first | refine rq_v (op_b (b := true) rfl (bne_iff_ne.2 (by omega))) ?_ | refine rq_v (op_b (b := false) rfl (bne_eq_false_iff_eq.2 (by omega))) ?_ | refine rq_v (op_pure rfl) ?_
    refine rq_nil ?_
    intro w1_ g1_
    have S := S.gr g1_
    first | refine rw_end ?_ | (refine rw_nil ?_; show CW _ _ _ _ _ _) | refine rw_nil ?_
    repeat refine cw_seq ?_
    refine cw_false rfl ?_
    repeat refine cw_seq ?_
    refine cw_skip ?_
    try show CW _ _ _ _ _ _
    repeat refine cw_seq ?_
    refine cw_region ?_
    refine rw_v (op_rng rfl (by omega)) ?_
    refine rw_v (op_pure rfl) ?_
    first | refine rw_end ?_ | (refine rw_nil ?_; show CW _ _ _ _ _ _) | refine rw_nil ?_
    exact ⟨m - 1, by omega, k + 1, by omega, ⟨rfl, rfl, rfl, ie (by omega), trivial⟩, S⟩
  · try simp only [decide_eq_true_eq, decide_eq_false_iff_not, beq_iff_eq, bne_iff_ne, beq_eq_false_iff_ne, bne_eq_false_iff_eq, Bool.not_eq_true', Bool.not_eq_false', ne_eq, Decidable.not_not, Int.natCast_inj, Int.ofNat_lt, Int.ofNat_le, gt_iff_lt, ge_iff_le, Int.not_lt, Int.not_le] at hk1
    repeat refine cw_seq ?_
    refine cw_exit ?_
    repeat first | refine exit_then ?_ | refine exit_inb ?_
    show CW _ _ _ _ _ _
    repeat refine cw_seq ?_
    refine cw_region ?_
    refine rw_v (op_pure rfl) ?_
    first | refine rw_end ?_ | (refine rw_nil ?_; show CW _ _ _ _ _ _) | refine rw_nil ?_
    repeat refine cw_seq ?_
    refine cw_ret ?_
    repeat first | refine ret_then ?_ | refine ret_inb ?_
    exact res1 rfl ⟨rfl, S.out⟩
theorem same1_E (b b2 : Nat) (R R2 : Option Nat) (sw sh : Nat) (c : Nat → Int) (hw : 1 ≤ sw ∧ sw ≤ 16) (hh : 1 ≤ sh ∧ sh ≤ 16) (W : World) (hS : SlabIs W b R sw sh c) (hS2 : SlabIs W b2 R2 sw sh c) :
    Fn Try.prog 65 [.pointer (some ⟨b, 0, none⟩), .pointer (some ⟨b2, 0, none⟩)] W (RetG (.bool true) W) := by
  have hsz : sw * sh ≤ 16 * 16 := Nat.mul_le_mul hw.2 hh.2
  have S := St.start W
  refine Fn_enter Try.func65 rfl Try.results65 Try.ntmps65 (by kernel_rfl) (by kernel_rfl) ?_
  repeat refine cw_seq ?_
  refine cw_region ?_
  refine rw_v (op_pure rfl) ?_
  first | refine rw_end ?_ | (refine rw_nil ?_; show CW _ _ _ _ _ _) | refine rw_nil ?_
  repeat refine cw_seq ?_
  refine cw_region ?_
  refine rw_v (op_pure rfl) ?_
  refine rw_call rfl (scells_E b R sw sh c hw hh W (hS.gr S.out)) ?_
  rintro _ w1_ ⟨A_x, c_x, rfl, hR_x, hf_x, g1_⟩
  have S := S.pushRow hR_x hf_x g1_
  refine rw_v (op_pure rfl) ?_
  refine rw_call rfl (scells_E b2 R2 sw sh c hw hh w1_ (hS2.gr S.out)) ?_
  rintro _ w2_ ⟨A_y, c_y, rfl, hR_y, hf_y, g2_⟩
  have S := S.pushRow hR_y hf_y g2_
  refine rw_call rfl (sequal_E (sw * sh) c _ _ _ _ (by omega) w2_ (S.rd (i := 1) rfl) (S.rd (i := 0) rfl)) ?_
  rintro _ w3_ ⟨rfl, g3_⟩
  have S := S.gr g3_
  refine rw_v (op_pure rfl) ?_
  first | refine rw_end ?_ | (refine rw_nil ?_; show CW _ _ _ _ _ _) | refine rw_nil ?_
  repeat refine cw_seq ?_
  refine cw_ret ?_
  repeat first | refine ret_then ?_ | refine ret_inb ?_
  exact res1 rfl ⟨rfl, S.out⟩
theorem equalFunc_E (n fid : Nat) (bs bs2 : Nat → Nat) (A B : Option Addr) (c d : Nat) (hn : n ≤ 1048576) (W : World) (hA : Rd W A (ptrs n bs)) (hB : Rd W B (ptrs n bs2))
    (hf : ∀ t, t < n → ∀ w', Gr W w' → Fn Try.prog fid (([] : List Value) ++ [.pointer (some ⟨bs t, 0, none⟩), .pointer (some ⟨bs2 t, 0, none⟩)] ++ ([] : List Value)) w' (RetG (.bool true) w')) :
    Fn Try.prog 64 [.slice A n c, .slice B n d, .func (.func fid) (([] : List Value).toArray) (([] : List Value).toArray)] W (RetG (.bool true) W) := by
  have S := St.start W
  refine Fn_enter Try.func64 rfl Try.results64 Try.ntmps64 (by kernel_rfl) (by kernel_rfl) ?_
  repeat refine cw_seq ?_
  refine cw_region ?_
  refine rw_v (op_pure rfl) ?_
  first | refine rw_end ?_ | (refine rw_nil ?_; show CW _ _ _ _ _ _) | refine rw_nil ?_
  repeat refine cw_seq ?_
  refine cw_region ?_
  refine rw_v (op_pure rfl) ?_
  refine rw_v (op_len Try.underlying110 rfl) ?_
  refine rw_v (op_pure rfl) ?_
  refine rw_v (op_len Try.underlying110 rfl) ?_
  refine rw_v (op_b (b := false) rfl (bne_eq_false_iff_eq.2 (by omega))) ?_
  first | refine rw_end ?_ | (refine rw_nil ?_; show CW _ _ _ _ _ _) | refine rw_nil ?_
  repeat refine cw_seq ?_
  refine cw_false rfl ?_
  repeat refine cw_seq ?_
  refine cw_skip ?_
  try show CW _ _ _ _ _ _
  repeat refine cw_seq ?_
  refine cw_region ?_
  refine rw_v (op_pure rfl) ?_
  refine rw_v (op_len Try.underlying110 rfl) ?_
  refine rw_v (op_pure rfl) ?_
  first | refine rw_end ?_ | (refine rw_nil ?_; show CW _ _ _ _ _ _) | refine rw_nil ?_
  repeat refine cw_seq ?_
  refine cw_block ?_
  repeat refine cw_seq ?_
  refine cw_loop (fun m e w => ∃ k : Nat, k + m = n ∧ SL e [(0, .slice A n c), (1, .slice B n d), (2, .func (.func fid) (([] : List Value).toArray) (([] : List Value).toArray)), (15, .slice A n c), (16, .int .i64 n), (17, .int .i64 k)] ∧ St No W w []) n
    ⟨0, by omega, ⟨rfl, rfl, rfl, rfl, rfl, rfl, trivial⟩, S⟩ ?_
  rintro m e w ⟨k, hk, hsl, S⟩
  rw [hsl.fold]
  repeat refine cw_seq ?_
  refine cw_region ?_
  refine rw_v (op_pure rfl) ?_
  first | refine rw_end ?_ | (refine rw_nil ?_; show CW _ _ _ _ _ _) | refine rw_nil ?_
  repeat refine cw_seq ?_
  refine cw_cond rfl (fun hk1 => ?_) (fun hk1 => ?_)
  · try simp only [decide_eq_true_eq, decide_eq_false_iff_not, beq_iff_eq, bne_iff_ne, beq_eq_false_iff_ne, bne_eq_false_iff_eq, Bool.not_eq_true', Bool.not_eq_false', ne_eq, Decidable.not_not, Int.natCast_inj, Int.ofNat_lt, Int.ofNat_le, gt_iff_lt, ge_iff_le, Int.not_lt, Int.not_le] at hk1
    have hk1 : k < n := by omega
    have hx : (ptrs n bs)[(k : Int).toNat * 1]? = some (.pointer (some ⟨bs k, 0, none⟩)) := by rw [Nat.mul_one, Int.toNat_natCast]; exact ptrs_get hk1
    have hy : (ptrs n bs2)[(k : Int).toNat * 1]? = some (.pointer (some ⟨bs2 k, 0, none⟩)) := by rw [Nat.mul_one, Int.toNat_natCast]; exact ptrs_get hk1
    have hlenp : 0 < (ptrs n bs).length ∧ 0 < (ptrs n bs2).length := ⟨by have := (List.getElem?_eq_some_iff.1 hx).1; omega, by have := (List.getElem?_eq_some_iff.1 hy).1; omega⟩
    have sa_A : SomeA A := hA.someA hlenp.1
    have sa_B : SomeA B := hB.someA hlenp.2
    repeat refine cw_seq ?_
    refine cw_skip ?_
    try show CW _ _ _ _ _ _
    repeat refine cw_seq ?_
    refine cw_block ?_
    repeat refine cw_seq ?_
    refine cw_region ?_
    refine rw_v (op_pure rfl) ?_
    refine rw_v (op_idx Try.underlying110 Try.sizeOf114 rfl rfl sa_A (by omega) (by omega)) ?_
    refine rw_r (op_ldR Try.underlying114 rfl rfl (hA.gr S.out) hx) ?_
    iterate 2 refine rw_v (op_pure rfl) ?_
    first | refine rw_end ?_ | (refine rw_nil ?_; show CW _ _ _ _ _ _) | refine rw_nil ?_
    repeat refine cw_seq ?_
    refine cw_region ?_
    iterate 2 refine rw_v (op_pure rfl) ?_
    refine rw_v (op_idx Try.underlying110 Try.sizeOf114 rfl rfl sa_B (by omega) (by omega)) ?_
    refine rw_r (op_ldR Try.underlying114 rfl rfl (hB.gr S.out) hy) ?_
    refine rw_v (op_pure rfl) ?_
    first | refine rw_end ?_ | (refine rw_nil ?_; show CW _ _ _ _ _ _) | refine rw_nil ?_
    repeat refine cw_seq ?_
    refine cw_region ?_
    iterate 3 refine rw_v (op_pure rfl) ?_
    refine rw_callv rfl rfl (hf k hk1 _ S.out) ?_
    rintro _ w1_ ⟨rfl, g1_⟩
    have S := S.gr g1_
    refine rw_v (op_pure rfl) ?_
    first | refine rw_end ?_ | (refine rw_nil ?_; show CW _ _ _ _ _ _) | refine rw_nil ?_
    repeat refine cw_seq ?_
    refine cw_false rfl ?_
    repeat refine cw_seq ?_
    refine cw_skip ?_
    try show CW _ _ _ _ _ _
    repeat refine cw_seq ?_
    refine cw_region ?_
    refine rw_v (op_rng rfl (by omega)) ?_
    refine rw_v (op_pure rfl) ?_
    first | refine rw_end ?_ | (refine rw_nil ?_; show CW _ _ _ _ _ _) | refine rw_nil ?_
    exact ⟨m - 1, by omega, k + 1, by omega, ⟨rfl, rfl, rfl, rfl, rfl, ie (by omega), trivial⟩, S⟩
  · try simp only [decide_eq_true_eq, decide_eq_false_iff_not, beq_iff_eq, bne_iff_ne, beq_eq_false_iff_ne, bne_eq_false_iff_eq, Bool.not_eq_true', Bool.not_eq_false', ne_eq, Decidable.not_not, Int.natCast_inj, Int.ofNat_lt, Int.ofNat_le, gt_iff_lt, ge_iff_le, Int.not_lt, Int.not_le] at hk1
    repeat refine cw_seq ?_
    refine cw_exit ?_
    repeat first | refine exit_then ?_ | refine exit_inb ?_
    show CW _ _ _ _ _ _
    repeat refine cw_seq ?_
    refine cw_region ?_
    refine rw_v (op_pure rfl) ?_
    first | refine rw_end ?_ | (refine rw_nil ?_; show CW _ _ _ _ _ _) | refine rw_nil ?_
    repeat refine cw_seq ?_
    refine cw_ret ?_
    repeat first | refine ret_then ?_ | refine ret_inb ?_
    exact res1 rfl ⟨rfl, S.out⟩
theorem gsame_E {p p2 gw gh cap cap2 : Nat} {A A2 : Option Addr} {cc : Nat → Int} {bs bs2 : Nat → Nat} {Rs Rs2 : Nat → Option Nat} (hG : GridAt W p gw gh cc A cap bs Rs) (hG2 : GridAt W p2 gw gh cc A2 cap2 bs2 Rs2) :
    Fn Try.prog 22 [.pointer (some ⟨p, 0, none⟩), .pointer (some ⟨p2, 0, none⟩)] W (RetG (.bool true) W) := by
  have hN : acr gw * acr gh ≤ 1048576 := by
    have h1 := hG.sw
    have h2 := hG.sh
    have : acr gw * acr gh ≤ 1024 * 1024 := Nat.mul_le_mul (by unfold acr; omega) (by unfold acr; omega)
    omega
  have hf : ∀ w, Gr W w → ∀ t, t < acr gw * acr gh → ∀ w', Gr w w' → Fn Try.prog 65 (([] : List Value) ++ [.pointer (some ⟨bs t, 0, none⟩), .pointer (some ⟨bs2 t, 0, none⟩)] ++ ([] : List Value)) w' (RetG (.bool true) w') := fun w g t ht w' g' => by
    have hpos : 0 < acr gw := by have h1 := hG.sw; unfold acr; omega
    exact same1_E _ _ _ _ _ _ _ (tsz_pos (Nat.mod_lt _ hpos)) (tsz_pos (Nat.div_lt_of_lt_mul ht)) w' ((hG.slab t ht).gr (g.trans g')) ((hG2.slab t ht).gr (g.trans g'))
  have S := St.start W
  refine Fn_enter Try.func22 rfl Try.results22 Try.ntmps22 (by kernel_rfl) (by kernel_rfl) ?_
  repeat refine cw_seq ?_
  refine cw_region ?_
  refine rw_v (op_pure rfl) ?_
  first | refine rw_end ?_ | (refine rw_nil ?_; show CW _ _ _ _ _ _) | refine rw_nil ?_
  repeat refine cw_seq ?_
  refine cw_region ?_
  refine rw_v (op_pure rfl) ?_
  refine rw_v (op_nilp Try.underlying28 rfl rfl) ?_
  refine rw_v (op_pure rfl) ?_
  first | refine rw_off rfl ?_ | (refine rw_on rfl ?_; refine rw_v (op_pure rfl) ?_)
  first | refine rw_off rfl ?_ | (refine rw_on rfl ?_; refine rw_v (op_nilp Try.underlying28 rfl rfl) ?_)
  refine rw_v (op_pure rfl) ?_
  first | refine rw_end ?_ | (refine rw_nil ?_; show CW _ _ _ _ _ _) | refine rw_nil ?_
  repeat refine cw_seq ?_
  refine cw_false rfl ?_
  repeat refine cw_seq ?_
  refine cw_skip ?_
  try show CW _ _ _ _ _ _
  repeat refine cw_seq ?_
  refine cw_draw (C := fun wq => Gr W wq) [0, 1, 2, 3, 4, 5, 6, 7, 8, 9, 10, 11, 12, 13, 14, 15, 16, 17, 18, 19, 20, 21, 22, 23, 24, 25, 26, 27, 28, 29, 30, 31] [] (by kernel_rfl) (by kernel_rfl) (Gr.drew _) ?_
  simp only [pickL, List.drop_succ_cons, List.drop_zero]
  iterate 2 refine rq_v (op_pure rfl) ?_
  refine rq_v (op_fieldAddr Try.underlying112 rfl Try.sizeOf2 rfl rfl) ?_
  refine rq_r (fun wq hq => op_loadB Try.underlying2 rfl rfl (hG.top.gr (S.gr hq).out) rfl) ?_
  iterate 2 refine rq_v (op_pure rfl) ?_
  refine rq_v (op_fieldAddr Try.underlying112 rfl Try.sizeOf2 rfl rfl) ?_
  refine rq_r (fun wq hq => op_loadB Try.underlying2 rfl rfl (hG2.top.gr (S.gr hq).out) rfl) ?_
  first | refine rq_v (op_b (b := true) rfl (beq_iff_eq.2 (by omega))) ?_ | refine rq_v (op_b (b := false) rfl (beq_eq_false_iff_ne.2 (by omega))) ?_ | refine rq_v (op_pure rfl) ?_
  refine rq_v (op_pure rfl) ?_
  first | refine rq_off rfl ?_ | (refine rq_on rfl ?_; refine rq_v (op_pure rfl) ?_)
  first | refine rq_off rfl ?_ | (refine rq_on rfl ?_; refine rq_v (op_pure rfl) ?_)
  first | refine rq_off rfl ?_ | (refine rq_on rfl ?_; refine rq_v (op_fieldAddr Try.underlying112 rfl Try.sizeOf2 rfl rfl) ?_)
  first | refine rq_off rfl ?_ | (refine rq_on rfl ?_; refine rq_r (fun wq hq => op_loadB Try.underlying2 rfl rfl (hG.top.gr (S.gr hq).out) rfl) ?_)
  first | refine rq_off rfl ?_ | (refine rq_on rfl ?_; refine rq_v (op_pure rfl) ?_)
  first | refine rq_off rfl ?_ | (refine rq_on rfl ?_; refine rq_v (op_pure rfl) ?_)
  first | refine rq_off rfl ?_ | (refine rq_on rfl ?_; refine rq_v (op_fieldAddr Try.underlying112 rfl Try.sizeOf2 rfl rfl) ?_)
  first | refine rq_off rfl ?_ | (refine rq_on rfl ?_; refine rq_r (fun wq hq => op_loadB Try.underlying2 rfl rfl (hG2.top.gr (S.gr hq).out) rfl) ?_)
  first | refine rq_off rfl ?_ | (refine rq_on rfl ?_; (first | refine rq_v (op_b (b := true) rfl (beq_iff_eq.2 (by omega))) ?_ | refine rq_v (op_b (b := false) rfl (beq_eq_false_iff_ne.2 (by omega))) ?_ | refine rq_v (op_pure rfl) ?_))
  iterate 2 refine rq_v (op_pure rfl) ?_
  first | refine rq_off rfl ?_ | (refine rq_on rfl ?_; refine rq_v (op_pure rfl) ?_)
  first | refine rq_off rfl ?_ | (refine rq_on rfl ?_; refine rq_v (op_pure rfl) ?_)
  first | refine rq_off rfl ?_ | (refine rq_on rfl ?_; refine rq_v (op_fieldAddr Try.underlying112 rfl Try.sizeOf110 rfl rfl) ?_)
  first | refine rq_off rfl ?_ | (refine rq_on rfl ?_; refine rq_r (fun wq hq => op_loadB Try.underlying110 rfl rfl (hG.top.gr (S.gr hq).out) rfl) ?_)
  first | refine rq_off rfl ?_ | (refine rq_on rfl ?_; refine rq_v (op_pure rfl) ?_)
  first | refine rq_off rfl ?_ | (refine rq_on rfl ?_; refine rq_v (op_pure rfl) ?_)
  first | refine rq_off rfl ?_ | (refine rq_on rfl ?_; refine rq_v (op_fieldAddr Try.underlying112 rfl Try.sizeOf110 rfl rfl) ?_)
  first | refine rq_off rfl ?_ | (refine rq_on rfl ?_; refine rq_r (fun wq hq => op_loadB Try.underlying110 rfl rfl (hG2.top.gr (S.gr hq).out) rfl) ?_)
  refine rq_on rfl ?_
  refine rq_call rfl (fun wq hq => (equalFunc_E (acr gw * acr gh) _ bs bs2 _ _ _ _ hN wq (hG.row.rd.gr (S.gr hq).out) (hG2.row.rd.gr (S.gr hq).out) (hf wq (S.gr hq).out)).mono (fun _ _ ⟨hv, hg⟩ => ⟨hv, hq.trans hg⟩)) ?_
  iterate 2 refine rq_v (op_pure rfl) ?_
  refine rq_nil ?_
  intro w1_ g1_
  have S := S.gr g1_
  first | refine rw_end ?_ | (refine rw_nil ?_; show CW _ _ _ _ _ _) | refine rw_nil ?_
  repeat refine cw_seq ?_
  refine cw_ret ?_
  repeat first | refine ret_then ?_ | refine ret_inb ?_
  exact res1 rfl ⟨rfl, S.out⟩
end
section
variable {W : World} {A B : Option Addr} {p gw gh cap cu : Nat} {cc : Nat → Int} {bs : Nat → Nat} {Rs : Nat → Option Nat} {U : List Int}
theorem is_E (hU : U.length = gw * gh) (hG : GridAt W p gw gh cc A cap bs Rs) (hR : Rd W B (ints U)) :
    Fn Try.prog 41 [.pointer (some ⟨p, 0, none⟩), .agg #[.int .i64 gw, .int .i64 gh, .slice B (gw * gh) cu]] W (RetG (.bool (decide (gridL gw gh cc = U))) W) := by
  have hw := hG.sw
  have hh := hG.sh
  have hn : gw * gh ≤ 1024 * 1024 := Nat.mul_le_mul hw.2 hh.2
  have hV := gridL_len gw gh cc
  have e1 : ((gw : Int) - 1) = ((gw - 1 : Nat) : Int) := by omega
  have e2 : ((gh : Int) - 1) = ((gh - 1 : Nat) : Int) := by omega
  have hval : ∀ w, Gr W w → Fn Try.prog 43 [.pointer (some ⟨p, 0, none⟩), .agg #[.int .i64 0, .int .i64 0, .int .i64 (gw - 1), .int .i64 (gh - 1)]] w (RetNew (fun v => .tuple #[v, .int .i64 0]) 2 1 (gw * gh) (ints (gridL gw gh cc)) w) := fun w g => by
    have := gvalues_E (W := w) 0 0 (gw - 1) (gh - 1) (by omega) (by omega) (hG.gr g)
    rw [← e1, ← e2, show gw - 1 + 1 - 0 = gw by omega, show gh - 1 + 1 - 0 = gh by omega, rectV_all, Nat.mul_comm gh gw] at this
    exact this
  have hsame : ∀ (A1 : Option Addr) (c1 : Nat) (w : World), Rd w A1 (ints (gridL gw gh cc)) → Rd w B (ints U) → Fn Try.prog 30 [.slice A1 (gw * gh) c1, .slice B (gw * gh) cu] w (RetG (.bool (decide (gridL gw gh cc = U))) w) := fun A1 c1 w h1 h2 => by
    have := rsame_E A1 B c1 cu (gridL gw gh cc) U w (by omega) h1 h2
    rw [hV, hU] at this
    exact this
  have S := St.start W
  refine Fn_enter Try.func41 rfl Try.results41 Try.ntmps41 (by kernel_rfl) (by kernel_rfl) ?_
  repeat refine cw_seq ?_
  refine cw_region ?_
  refine rw_newB (op_box rfl) S ?_
  intro b_md w2_ g2_ S
  refine rw_v (op_pure rfl) ?_
  first | refine rw_end ?_ | (refine rw_nil ?_; show CW _ _ _ _ _ _) | refine rw_nil ?_
  repeat refine cw_seq ?_
  refine cw_region ?_
  refine rw_v (op_pure rfl) ?_
  refine rw_call rfl (gsize_E p gw gh _ w2_ (hG.top.gr S.out)) ?_
  rintro _ w3_ ⟨rfl, g3_⟩
  have S := S.gr g3_
  iterate 5 refine rw_v (op_pure rfl) ?_
  first | refine rw_end ?_ | (refine rw_nil ?_; show CW _ _ _ _ _ _) | refine rw_nil ?_
  repeat refine cw_seq ?_
  refine cw_region ?_
  iterate 2 refine rw_v (op_pure rfl) ?_
  refine rw_call rfl (gall_E p gw gh hw.2 hh.2 _ w3_ (hG.top.gr S.out)) ?_
  rintro _ w4_ ⟨rfl, g4_⟩
  have S := S.gr g4_
  refine rw_call rfl (hval w4_ S.out) ?_
  rintro _ w5_ ⟨A_v, c_v, rfl, hR_v, hf_v, g5_⟩
  have S := S.pushRow hR_v hf_v g5_
  iterate 5 refine rw_v (op_pure rfl) ?_
  first | refine rw_end ?_ | (refine rw_nil ?_; show CW _ _ _ _ _ _) | refine rw_nil ?_
  repeat refine cw_seq ?_
  refine cw_region ?_
  refine rw_v (op_pure rfl) ?_
  refine rw_v (op_fieldAddr Try.underlying25 rfl Try.sizeOf2 rfl rfl) ?_
  refine rw_r (op_loadB Try.underlying2 rfl rfl (S.blk (i := 1) rfl) rfl) ?_
  first | refine rw_v (op_b (b := true) rfl (beq_iff_eq.2 (by omega))) ?_ | refine rw_v (op_b (b := false) rfl (beq_eq_false_iff_ne.2 (by omega))) ?_ | refine rw_v (op_pure rfl) ?_
  refine rw_v (op_pure rfl) ?_
  first | refine rw_off rfl ?_ | (refine rw_on rfl ?_; refine rw_v (op_pure rfl) ?_)
  first | refine rw_off rfl ?_ | (refine rw_on rfl ?_; refine rw_v (op_fieldAddr Try.underlying25 rfl Try.sizeOf2 rfl rfl) ?_)
  first | refine rw_off rfl ?_ | (refine rw_on rfl ?_; refine rw_r (op_loadB Try.underlying2 rfl rfl (S.blk (i := 1) rfl) rfl) ?_)
  first | refine rw_off rfl ?_ | (refine rw_on rfl ?_; (first | refine rw_v (op_b (b := true) rfl (beq_iff_eq.2 (by omega))) ?_ | refine rw_v (op_b (b := false) rfl (beq_eq_false_iff_ne.2 (by omega))) ?_ | refine rw_v (op_pure rfl) ?_))
  iterate 2 refine rw_v (op_pure rfl) ?_
  first | refine rw_off rfl ?_ | (refine rw_on rfl ?_; refine rw_v (op_pure rfl) ?_)
  first | refine rw_off rfl ?_ | (refine rw_on rfl ?_; (first | refine rw_v (op_b (b := true) rfl (beq_iff_eq.2 (by omega))) ?_ | refine rw_v (op_b (b := false) rfl (beq_eq_false_iff_ne.2 (by omega))) ?_ | refine rw_v (op_pure rfl) ?_))
  iterate 2 refine rw_v (op_pure rfl) ?_
  first | refine rw_off rfl ?_ | (refine rw_on rfl ?_; refine rw_v (op_pure rfl) ?_)
  first | refine rw_off rfl ?_ | (refine rw_on rfl ?_; refine rw_v (op_fieldAddr Try.underlying25 rfl Try.sizeOf22 rfl rfl) ?_)
  first | refine rw_off rfl ?_ | (refine rw_on rfl ?_; refine rw_r (op_loadB Try.underlying22 rfl rfl (S.blk (i := 1) rfl) rfl) ?_)
  refine rw_on rfl ?_
  refine rw_call rfl (hsame A_v c_v w5_ (S.rd (i := 0) rfl) (hR.gr S.out)) ?_
  rintro _ w6_ ⟨rfl, g6_⟩
  have S := S.gr g6_
  iterate 2 refine rw_v (op_pure rfl) ?_
  first | refine rw_end ?_ | (refine rw_nil ?_; show CW _ _ _ _ _ _) | refine rw_nil ?_
  repeat refine cw_seq ?_
  refine cw_ret ?_
  repeat first | refine ret_then ?_ | refine ret_inb ?_
  exact res1 rfl ⟨rfl, S.out⟩
end
end Go.Proofs.Ytbcgbcipigcbhaa
