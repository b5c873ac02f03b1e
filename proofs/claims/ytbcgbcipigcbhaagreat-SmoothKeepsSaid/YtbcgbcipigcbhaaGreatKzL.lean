/- grid.Same, hachurelaw09.Is (also in FillK and FillV, here apart from fill). -/
import Derived.Test.YtbcgbcipigcbhaaGreatKzG
import Derived.Test.YtbcgbcipigcbhaaGreatKzK
import Derived.Test.YtbcgbcipigcbhaaGreatKzJ
import Derived.Test.YtbcgbcipigcbhaaGreatKzF
import Derived.Test.YtbcgbcipigcbhaaGreatRows
import Derived.WalkKit
import Derived.ProofKit
import Derived.OpenShut
import Derived.Below
import Derived.ChangeSame
import Derived.ChangeReads
import Derived.DataReads
import Derived.Lib.SmallJoins
import Derived.Test.YtbcgbcipigcbhaaGreatKzA
import Derived.Test.YtbcgbcipigcbhaaGreatKzE
namespace Go.Proofs.YtbcgbcipigcbhaaGreat
open Go.RowKit
set_option linter.unusedVariables false
set_option linter.unusedSimpArgs false
set_option maxRecDepth 100000

section
variable {W : World}
theorem scells_E (b : Nat) (R : Option Nat) (sw sh : Nat) (c : Nat → Int) (hw : 1 ≤ sw ∧ sw ≤ 16) (hh : 1 ≤ sh ∧ sh ≤ 16) (W : World) (hS : SlabIs W b R sw sh c) :
    Fn Tryz.prog 31 [.pointer (some ⟨b, 0, none⟩)] W (RetNew id 2 1 (sw * sh) (cellsQ (sw * sh) c) W) := by
  have hsz : sw * sh ≤ 16 * 16 := Nat.mul_le_mul hw.2 hh.2
  have hpos : 1 ≤ sw * sh := Nat.mul_le_mul hw.1 hh.1
  have hmi : (sw : Int) * sh = ((sw * sh : Nat) : Int) := by push_cast; rfl
  have hsucc : ∀ k, k < sw * sh → cellsQ (sw * sh) (updI (fun i => if i < k then c i else 0) k (c k)) = cellsQ (sw * sh) (fun i => if i < k + 1 then c i else 0) := fun k hk => cellsQ_congr fun i hi => by
    unfold updI
    (try dsimp only)
    by_cases e1 : i = k
    · rw [if_pos e1, if_pos (by omega), e1]
    · by_cases e2 : i < k
      · rw [if_neg e1, if_pos e2, if_pos (by omega)]
      · rw [if_neg e1, if_neg e2, if_neg (by omega)]
  obtain ⟨hr, hS⟩ := hS
  cases R with
  | none =>
    obtain ⟨v, hB, hv, hc⟩ := hS
    have S := St.start W
    refine Fn_enter Tryz.func31 rfl Tryz.results31 Tryz.ntmps31 (by kernel_rfl) (by kernel_rfl) ?_
    repeat refine cw_seq ?_
    refine cw_region ?_
    refine rw_v (op_pure rfl) ?_
    first | refine rw_end ?_ | (refine rw_nil ?_; show CW _ _ _ _ _ _) | refine rw_nil ?_
    repeat refine cw_seq ?_
    refine cw_region ?_
    refine rw_v (op_pure rfl) ?_
    refine rw_v (op_nilp Tryz.underlying65 rfl rfl) ?_
    first | refine rw_end ?_ | (refine rw_nil ?_; show CW _ _ _ _ _ _) | refine rw_nil ?_
    repeat refine cw_seq ?_
    refine cw_false rfl ?_
    repeat refine cw_seq ?_
    refine cw_skip ?_
    try show CW _ _ _ _ _ _
    repeat refine cw_seq ?_
    refine cw_draw (C := fun wq => Gr W wq) [0, 1, 2, 3, 4, 5, 6, 7] [8, 9, 10] (by kernel_rfl) (by kernel_rfl) (Gr.drew _) ?_
    simp only [pickL, List.drop_succ_cons, List.drop_zero]
    iterate 2 refine rq_v (op_pure rfl) ?_
    refine rq_v (op_fieldAddr Tryz.underlying100 rfl Tryz.sizeOf2 rfl rfl) ?_
    refine rq_r (fun wq hq => op_loadB Tryz.underlying2 rfl rfl (hB.gr (S.gr hq).out) rfl) ?_
    iterate 2 refine rq_v (op_pure rfl) ?_
    refine rq_v (op_fieldAddr Tryz.underlying100 rfl Tryz.sizeOf2 rfl rfl) ?_
    refine rq_r (fun wq hq => op_loadB Tryz.underlying2 rfl rfl (hB.gr (S.gr hq).out) rfl) ?_
    refine rq_nil ?_
    intro w1_ g1_
    have S := S.gr g1_
    refine rw_v (op_rng rfl (by omega)) ?_
    rw [hmi]
    refine rw_makeS1 Tryz.underlying22 info_t2 rfl rfl rfl (n := sw * sh) (c := sw * sh) (by omega) (by omega) (by omega) (by omega) S ?_
    intro A_out w3_ g3_ S sa_out
    refine rw_v (op_pure rfl) ?_
    first | refine rw_end ?_ | (refine rw_nil ?_; show CW _ _ _ _ _ _) | refine rw_nil ?_
    repeat refine cw_seq ?_
    refine cw_region ?_
    refine rw_v (op_pure rfl) ?_
    refine rw_v (op_len Tryz.underlying22 rfl) ?_
    refine rw_v (op_pure rfl) ?_
    first | refine rw_end ?_ | (refine rw_nil ?_; show CW _ _ _ _ _ _) | refine rw_nil ?_
    repeat refine cw_seq ?_
    refine cw_block ?_
    repeat refine cw_seq ?_
    rw [cellsQ_zero] at S
    refine cw_loop (fun m e w => ∃ k : Nat, k + m = sw * sh ∧ SL e [(0, .pointer (some ⟨b, 0, none⟩)), (3, .slice A_out (sw * sh) (sw * sh)), (18, .int .i64 (sw * sh : Nat)), (19, .int .i64 k)] ∧
      St No W w [.row 2 1 A_out (sw * sh) (sw * sh) (cellsQ (sw * sh) (fun i => if i < k then c i else 0))]) (sw * sh)
      ⟨0, by omega, ⟨rfl, rfl, rfl, rfl, trivial⟩, by simpa using S⟩ ?_
    clear S
    rintro m e w ⟨k, hk, hsl, S⟩
    rw [hsl.fold]
    repeat refine cw_seq ?_
    refine cw_region ?_
    refine rw_v (op_pure rfl) ?_
    first | refine rw_end ?_ | (refine rw_nil ?_; show CW _ _ _ _ _ _) | refine rw_nil ?_
    repeat refine cw_seq ?_
    refine cw_cond rfl (fun hcl => ?_) (fun hcl => ?_)
    · try simp only [decide_eq_true_eq, decide_eq_false_iff_not, beq_iff_eq, bne_iff_ne, beq_eq_false_iff_ne, bne_eq_false_iff_eq, Bool.not_eq_true', Bool.not_eq_false', ne_eq, Decidable.not_not, Int.natCast_inj, Int.ofNat_lt, Int.ofNat_le, gt_iff_lt, ge_iff_le, Int.not_lt, Int.not_le] at hcl
      have hkn : k < sw * sh := by omega
      repeat refine cw_seq ?_
      refine cw_skip ?_
      try show CW _ _ _ _ _ _
      repeat refine cw_seq ?_
      refine cw_block ?_
      repeat refine cw_seq ?_
      refine cw_region ?_
      iterate 2 refine rw_v (op_pure rfl) ?_
      first | refine rw_end ?_ | (refine rw_nil ?_; show CW _ _ _ _ _ _) | refine rw_nil ?_
      repeat refine cw_seq ?_
      refine cw_region ?_
      iterate 4 refine rw_v (op_pure rfl) ?_
      refine rw_v (op_fieldAddr Tryz.underlying100 rfl Tryz.sizeOf98 rfl rfl) ?_
      refine rw_r (op_loadB Tryz.underlying98 rfl rfl (hB.gr S.out) rfl) ?_
      refine rw_v (op_pure rfl) ?_
      refine rw_invoke rfl (meth_flat _ _) rfl (flatAt_E v k hv w) ?_
      rintro _ w4_ ⟨rfl, g4_⟩
      have S := S.gr g4_
      refine rw_v (op_idx Tryz.underlying22 Tryz.sizeOf2 rfl rfl sa_out (by omega) (by omega)) ?_
      refine rw_storeR (i := 0) S rfl (Tryz.sizeOf2 _) rfl rfl rfl rfl (by rw [cellsQ_len]; omega) rfl ?_
      intro w5_ S
      first | refine rw_end ?_ | (refine rw_nil ?_; show CW _ _ _ _ _ _) | refine rw_nil ?_
      repeat refine cw_seq ?_
      refine cw_region ?_
      refine rw_v (op_rng rfl (by omega)) ?_
      refine rw_v (op_pure rfl) ?_
      first | refine rw_end ?_ | (refine rw_nil ?_; show CW _ _ _ _ _ _) | refine rw_nil ?_
      rw [cellsQ_set, ← hc k hkn, hsucc k hkn] at S
      exact ⟨m - 1, by omega, k + 1, by omega, ⟨rfl, rfl, rfl, ie (by omega), trivial⟩, S⟩
    · try simp only [decide_eq_true_eq, decide_eq_false_iff_not, beq_iff_eq, bne_iff_ne, beq_eq_false_iff_ne, bne_eq_false_iff_eq, Bool.not_eq_true', Bool.not_eq_false', ne_eq, Decidable.not_not, Int.natCast_inj, Int.ofNat_lt, Int.ofNat_le, gt_iff_lt, ge_iff_le, Int.not_lt, Int.not_le] at hcl
      rw [cellsQ_congr (o' := c) (fun i hi => by (try dsimp only); rw [if_pos (by omega)])] at S
      repeat refine cw_seq ?_
      refine cw_exit ?_
      repeat first | refine exit_then ?_ | refine exit_inb ?_
      show CW _ _ _ _ _ _
      repeat refine cw_seq ?_
      refine cw_region ?_
      iterate 2 refine rw_v (op_pure rfl) ?_
      first | refine rw_end ?_ | (refine rw_nil ?_; show CW _ _ _ _ _ _) | refine rw_nil ?_
      repeat refine cw_seq ?_
      refine cw_ret ?_
      repeat first | refine ret_then ?_ | refine ret_inb ?_
      exact res1 rfl (S.retNew (i := 0) (mk := id) rfl)
  | some g =>
    obtain ⟨cap, hB, hL⟩ := hS
    have S := St.start W
    refine Fn_enter Tryz.func31 rfl Tryz.results31 Tryz.ntmps31 (by kernel_rfl) (by kernel_rfl) ?_
    repeat refine cw_seq ?_
    refine cw_region ?_
    refine rw_v (op_pure rfl) ?_
    first | refine rw_end ?_ | (refine rw_nil ?_; show CW _ _ _ _ _ _) | refine rw_nil ?_
    repeat refine cw_seq ?_
    refine cw_region ?_
    refine rw_v (op_pure rfl) ?_
    refine rw_v (op_nilp Tryz.underlying65 rfl rfl) ?_
    first | refine rw_end ?_ | (refine rw_nil ?_; show CW _ _ _ _ _ _) | refine rw_nil ?_
    repeat refine cw_seq ?_
    refine cw_false rfl ?_
    repeat refine cw_seq ?_
    refine cw_skip ?_
    try show CW _ _ _ _ _ _
    repeat refine cw_seq ?_
    refine cw_draw (C := fun wq => Gr W wq) [0, 1, 2, 3, 4, 5, 6, 7] [8, 9, 10] (by kernel_rfl) (by kernel_rfl) (Gr.drew _) ?_
    simp only [pickL, List.drop_succ_cons, List.drop_zero]
    iterate 2 refine rq_v (op_pure rfl) ?_
    refine rq_v (op_fieldAddr Tryz.underlying100 rfl Tryz.sizeOf2 rfl rfl) ?_
    refine rq_r (fun wq hq => op_loadB Tryz.underlying2 rfl rfl (hB.gr (S.gr hq).out) rfl) ?_
    iterate 2 refine rq_v (op_pure rfl) ?_
    refine rq_v (op_fieldAddr Tryz.underlying100 rfl Tryz.sizeOf2 rfl rfl) ?_
    refine rq_r (fun wq hq => op_loadB Tryz.underlying2 rfl rfl (hB.gr (S.gr hq).out) rfl) ?_
    refine rq_nil ?_
    intro w1_ g1_
    have S := S.gr g1_
    refine rw_v (op_rng rfl (by omega)) ?_
    rw [hmi]
    refine rw_makeS1 Tryz.underlying22 info_t2 rfl rfl rfl (n := sw * sh) (c := sw * sh) (by omega) (by omega) (by omega) (by omega) S ?_
    intro A_out w3_ g3_ S sa_out
    refine rw_v (op_pure rfl) ?_
    first | refine rw_end ?_ | (refine rw_nil ?_; show CW _ _ _ _ _ _) | refine rw_nil ?_
    repeat refine cw_seq ?_
    refine cw_region ?_
    refine rw_v (op_pure rfl) ?_
    refine rw_v (op_len Tryz.underlying22 rfl) ?_
    refine rw_v (op_pure rfl) ?_
    first | refine rw_end ?_ | (refine rw_nil ?_; show CW _ _ _ _ _ _) | refine rw_nil ?_
    repeat refine cw_seq ?_
    refine cw_block ?_
    repeat refine cw_seq ?_
    rw [cellsQ_zero] at S
    refine cw_loop (fun m e w => ∃ k : Nat, k + m = sw * sh ∧ SL e [(0, .pointer (some ⟨b, 0, none⟩)), (3, .slice A_out (sw * sh) (sw * sh)), (18, .int .i64 (sw * sh : Nat)), (19, .int .i64 k)] ∧
      St No W w [.row 2 1 A_out (sw * sh) (sw * sh) (cellsQ (sw * sh) (fun i => if i < k then c i else 0))]) (sw * sh)
      ⟨0, by omega, ⟨rfl, rfl, rfl, rfl, trivial⟩, by simpa using S⟩ ?_
    clear S
    rintro m e w ⟨k, hk, hsl, S⟩
    rw [hsl.fold]
    repeat refine cw_seq ?_
    refine cw_region ?_
    refine rw_v (op_pure rfl) ?_
    first | refine rw_end ?_ | (refine rw_nil ?_; show CW _ _ _ _ _ _) | refine rw_nil ?_
    repeat refine cw_seq ?_
    refine cw_cond rfl (fun hcl => ?_) (fun hcl => ?_)
    · try simp only [decide_eq_true_eq, decide_eq_false_iff_not, beq_iff_eq, bne_iff_ne, beq_eq_false_iff_ne, bne_eq_false_iff_eq, Bool.not_eq_true', Bool.not_eq_false', ne_eq, Decidable.not_not, Int.natCast_inj, Int.ofNat_lt, Int.ofNat_le, gt_iff_lt, ge_iff_le, Int.not_lt, Int.not_le] at hcl
      have hkn : k < sw * sh := by omega
      have hck := cellsI_get (c := c) hkn
      repeat refine cw_seq ?_
      refine cw_skip ?_
      try show CW _ _ _ _ _ _
      repeat refine cw_seq ?_
      refine cw_block ?_
      repeat refine cw_seq ?_
      refine cw_region ?_
      iterate 2 refine rw_v (op_pure rfl) ?_
      first | refine rw_end ?_ | (refine rw_nil ?_; show CW _ _ _ _ _ _) | refine rw_nil ?_
      repeat refine cw_seq ?_
      refine cw_region ?_
      iterate 4 refine rw_v (op_pure rfl) ?_
      refine rw_v (op_fieldAddr Tryz.underlying100 rfl Tryz.sizeOf98 rfl rfl) ?_
      refine rw_r (op_loadB Tryz.underlying98 rfl rfl (hB.gr S.out) rfl) ?_
      refine rw_v (op_pure rfl) ?_
      refine rw_invoke rfl (meth_rough _ _) rfl (roughAt_E (some ⟨g, 0, none⟩) (sw * sh) cap k (c k) (cellsI (sw * sh) c) (hr k hkn) w (hL.rd.gr S.out) ⟨_, _, rfl⟩ (by omega) (by omega) (by rw [Int.toNat_natCast]; exact hck)) ?_
      rintro _ w4_ ⟨rfl, g4_⟩
      have S := S.gr g4_
      refine rw_v (op_idx Tryz.underlying22 Tryz.sizeOf2 rfl rfl sa_out (by omega) (by omega)) ?_
      refine rw_storeR (i := 0) S rfl (Tryz.sizeOf2 _) rfl rfl rfl rfl (by rw [cellsQ_len]; omega) rfl ?_
      intro w5_ S
      first | refine rw_end ?_ | (refine rw_nil ?_; show CW _ _ _ _ _ _) | refine rw_nil ?_
      repeat refine cw_seq ?_
      refine cw_region ?_
      refine rw_v (op_rng rfl (by omega)) ?_
      refine rw_v (op_pure rfl) ?_
      first | refine rw_end ?_ | (refine rw_nil ?_; show CW _ _ _ _ _ _) | refine rw_nil ?_
      rw [cellsQ_set, hsucc k hkn] at S
      exact ⟨m - 1, by omega, k + 1, by omega, ⟨rfl, rfl, rfl, ie (by omega), trivial⟩, S⟩
    · try simp only [decide_eq_true_eq, decide_eq_false_iff_not, beq_iff_eq, bne_iff_ne, beq_eq_false_iff_ne, bne_eq_false_iff_eq, Bool.not_eq_true', Bool.not_eq_false', ne_eq, Decidable.not_not, Int.natCast_inj, Int.ofNat_lt, Int.ofNat_le, gt_iff_lt, ge_iff_le, Int.not_lt, Int.not_le] at hcl
      rw [cellsQ_congr (o' := c) (fun i hi => by (try dsimp only); rw [if_pos (by omega)])] at S
      repeat refine cw_seq ?_
      refine cw_exit ?_
      repeat first | refine exit_then ?_ | refine exit_inb ?_
      show CW _ _ _ _ _ _
      repeat refine cw_seq ?_
      refine cw_region ?_
      iterate 2 refine rw_v (op_pure rfl) ?_
      first | refine rw_end ?_ | (refine rw_nil ?_; show CW _ _ _ _ _ _) | refine rw_nil ?_
      repeat refine cw_seq ?_
      refine cw_ret ?_
      repeat first | refine ret_then ?_ | refine ret_inb ?_
      exact res1 rfl (S.retNew (i := 0) (mk := id) rfl)
theorem sequal_E (n : Nat) (f : Nat → Int) (A B : Option Addr) (c d : Nat) (hn : n ≤ 1048576) (W : World) (hA : Rd W A (cellsQ n f)) (hB : Rd W B (cellsQ n f)) : Fn Tryz.prog 30 [.slice A n c, .slice B n d] W (RetG (.bool true) W) := by
  have S := St.start W
  refine Fn_enter Tryz.func30 rfl Tryz.results30 Tryz.ntmps30 (by kernel_rfl) (by kernel_rfl) ?_
  repeat refine cw_seq ?_
  refine cw_region ?_
  refine rw_v (op_pure rfl) ?_
  first | refine rw_end ?_ | (refine rw_nil ?_; show CW _ _ _ _ _ _) | refine rw_nil ?_
  repeat refine cw_seq ?_
  refine cw_region ?_
  refine rw_v (op_pure rfl) ?_
  refine rw_v (op_len Tryz.underlying22 rfl) ?_
  refine rw_v (op_pure rfl) ?_
  refine rw_v (op_len Tryz.underlying22 rfl) ?_
  refine rw_v (op_b (b := false) rfl (bne_eq_false_iff_eq.2 (by omega))) ?_
  first | refine rw_end ?_ | (refine rw_nil ?_; show CW _ _ _ _ _ _) | refine rw_nil ?_
  repeat refine cw_seq ?_
  refine cw_false rfl ?_
  repeat refine cw_seq ?_
  refine cw_skip ?_
  try show CW _ _ _ _ _ _
  repeat refine cw_seq ?_
  refine cw_region ?_
  refine rw_v (op_pure rfl) ?_
  refine rw_v (op_len Tryz.underlying22 rfl) ?_
  refine rw_v (op_pure rfl) ?_
  first | refine rw_end ?_ | (refine rw_nil ?_; show CW _ _ _ _ _ _) | refine rw_nil ?_
  repeat refine cw_seq ?_
  refine cw_block ?_
  repeat refine cw_seq ?_
  refine cw_loop (fun m e w => ∃ k : Nat, k + m = n ∧ SL e [(0, .slice A n c), (1, .slice B n d), (12, .int .i64 n), (13, .int .i64 k)] ∧ St No W w []) n
    ⟨0, by omega, ⟨rfl, rfl, rfl, rfl, trivial⟩, S⟩ ?_
  rintro m e w ⟨k, hk, hsl, S⟩
  rw [hsl.fold]
  repeat refine cw_seq ?_
  refine cw_region ?_
  refine rw_v (op_pure rfl) ?_
  first | refine rw_end ?_ | (refine rw_nil ?_; show CW _ _ _ _ _ _) | refine rw_nil ?_
  repeat refine cw_seq ?_
  refine cw_cond rfl (fun hk1 => ?_) (fun hk1 => ?_)
  · try simp only [decide_eq_true_eq, decide_eq_false_iff_not, beq_iff_eq, bne_iff_ne, beq_eq_false_iff_ne, bne_eq_false_iff_eq, Bool.not_eq_true', Bool.not_eq_false', ne_eq, Decidable.not_not, Int.natCast_inj, Int.ofNat_lt, Int.ofNat_le, gt_iff_lt, ge_iff_le, Int.not_lt, Int.not_le] at hk1
    have hk1 : k < n := by omega
    have sa_A : SomeA A := hA.someA (by rw [cellsQ_len]; omega)
    have sa_B : SomeA B := hB.someA (by rw [cellsQ_len]; omega)
    have hx := cellsQ_get (o := f) hk1
    repeat refine cw_seq ?_
    refine cw_skip ?_
    try show CW _ _ _ _ _ _
    repeat refine cw_seq ?_
    refine cw_block ?_
    repeat refine cw_seq ?_
    refine cw_region ?_
    iterate 2 refine rw_v (op_pure rfl) ?_
    first | refine rw_end ?_ | (refine rw_nil ?_; show CW _ _ _ _ _ _) | refine rw_nil ?_
    repeat refine cw_seq ?_
    refine cw_draw (C := fun wq => Gr w wq) [0, 1, 2, 3, 4, 5, 6, 7, 8] [] (by kernel_rfl) (by kernel_rfl) (Gr.drew _) ?_
    simp only [pickL, List.drop_succ_cons, List.drop_zero]
    iterate 2 refine rq_v (op_pure rfl) ?_
    refine rq_v (op_idx Tryz.underlying22 Tryz.sizeOf2 rfl rfl sa_A (by omega) (by omega)) ?_
    refine rq_r (fun wq hq => op_ldR Tryz.underlying2 rfl rfl (hA.gr (S.gr hq).out) hx) ?_
    iterate 2 refine rq_v (op_pure rfl) ?_
    refine rq_v (op_idx Tryz.underlying22 Tryz.sizeOf2 rfl rfl sa_B (by omega) (by omega)) ?_
    refine rq_r (fun wq hq => op_ldR Tryz.underlying2 rfl rfl (hB.gr (S.gr hq).out) hx) ?_
    first | refine rq_v (op_b (b := true) rfl (bne_iff_ne.2 (by omega))) ?_ | refine rq_v (op_b (b := false) rfl (bne_eq_false_iff_eq.2 (by omega))) ?_ | refine rq_v (op_pure rfl) ?_
    refine rq_nil ?_
    intro w1_ g1_
    have S := S.gr g1_
    first | refine rw_end ?_ | (refine rw_nil ?_; show CW _ _ _ _ _ _) | refine rw_nil ?_
    repeat refine cw_seq ?_
    refine cw_false rfl ?_
    repeat refine cw_seq ?_
    refine cw_skip ?_
    try show CW _ _ _ _ _ _
    repeat refine cw_seq ?_
    refine cw_region ?_
    refine rw_v (op_rng rfl (by omega)) ?_
    refine rw_v (op_pure rfl) ?_
    first | refine rw_end ?_ | (refine rw_nil ?_; show CW _ _ _ _ _ _) | refine rw_nil ?_
    exact ⟨m - 1, by omega, k + 1, by omega, ⟨rfl, rfl, rfl, ie (by omega), trivial⟩, S⟩
  · try simp only [decide_eq_true_eq, decide_eq_false_iff_not, beq_iff_eq, bne_iff_ne, beq_eq_false_iff_ne, bne_eq_false_iff_eq, Bool.not_eq_true', Bool.not_eq_false', ne_eq, Decidable.not_not, Int.natCast_inj, Int.ofNat_lt, Int.ofNat_le, gt_iff_lt, ge_iff_le, Int.not_lt, Int.not_le] at hk1
    repeat refine cw_seq ?_
    refine cw_exit ?_
    repeat first | refine exit_then ?_ | refine exit_inb ?_
    show CW _ _ _ _ _ _
    repeat refine cw_seq ?_
    refine cw_region ?_
    refine rw_v (op_pure rfl) ?_
    first | refine rw_end ?_ | (refine rw_nil ?_; show CW _ _ _ _ _ _) | refine rw_nil ?_
    repeat refine cw_seq ?_
    refine cw_ret ?_
    repeat first | refine ret_then ?_ | refine ret_inb ?_
    exact res1 rfl ⟨rfl, S.out⟩
theorem same1_E (b b2 : Nat) (R R2 : Option Nat) (sw sh : Nat) (c : Nat → Int) (hw : 1 ≤ sw ∧ sw ≤ 16) (hh : 1 ≤ sh ∧ sh ≤ 16) (W : World) (hS : SlabIs W b R sw sh c) (hS2 : SlabIs W b2 R2 sw sh c) :
    Fn Tryz.prog 29 [.pointer (some ⟨b, 0, none⟩), .pointer (some ⟨b2, 0, none⟩)] W (RetG (.bool true) W) := by
  have hsz : sw * sh ≤ 16 * 16 := Nat.mul_le_mul hw.2 hh.2
  have S := St.start W
  refine Fn_enter Tryz.func29 rfl Tryz.results29 Tryz.ntmps29 (by kernel_rfl) (by kernel_rfl) ?_
  repeat refine cw_seq ?_
  refine cw_region ?_
  refine rw_v (op_pure rfl) ?_
  first | refine rw_end ?_ | (refine rw_nil ?_; show CW _ _ _ _ _ _) | refine rw_nil ?_
  repeat refine cw_seq ?_
  refine cw_region ?_
  refine rw_v (op_pure rfl) ?_
  refine rw_call rfl (scells_E b R sw sh c hw hh W (hS.gr S.out)) ?_
  rintro _ w1_ ⟨A_x, c_x, rfl, hR_x, hf_x, g1_⟩
  have S := S.pushRow hR_x hf_x g1_
  refine rw_v (op_pure rfl) ?_
  refine rw_call rfl (scells_E b2 R2 sw sh c hw hh w1_ (hS2.gr S.out)) ?_
  rintro _ w2_ ⟨A_y, c_y, rfl, hR_y, hf_y, g2_⟩
  have S := S.pushRow hR_y hf_y g2_
  refine rw_call rfl (sequal_E (sw * sh) c _ _ _ _ (by omega) w2_ (S.rd (i := 1) rfl) (S.rd (i := 0) rfl)) ?_
  rintro _ w3_ ⟨rfl, g3_⟩
  have S := S.gr g3_
  refine rw_v (op_pure rfl) ?_
  first | refine rw_end ?_ | (refine rw_nil ?_; show CW _ _ _ _ _ _) | refine rw_nil ?_
  repeat refine cw_seq ?_
  refine cw_ret ?_
  repeat first | refine ret_then ?_ | refine ret_inb ?_
  exact res1 rfl ⟨rfl, S.out⟩
theorem equalFunc_E (n fid : Nat) (bs bs2 : Nat → Nat) (A B : Option Addr) (c d : Nat) (hn : n ≤ 1048576) (W : World) (hA : Rd W A (ptrs n bs)) (hB : Rd W B (ptrs n bs2))
    (hf : ∀ t, t < n → ∀ w', Gr W w' → Fn Tryz.prog fid (([] : List Value) ++ [.pointer (some ⟨bs t, 0, none⟩), .pointer (some ⟨bs2 t, 0, none⟩)] ++ ([] : List Value)) w' (RetG (.bool true) w')) :
    Fn Tryz.prog 28 [.slice A n c, .slice B n d, .func (.func fid) (([] : List Value).toArray) (([] : List Value).toArray)] W (RetG (.bool true) W) := by
  have S := St.start W
  refine Fn_enter Tryz.func28 rfl Tryz.results28 Tryz.ntmps28 (by kernel_rfl) (by kernel_rfl) ?_
  repeat refine cw_seq ?_
  refine cw_region ?_
  refine rw_v (op_pure rfl) ?_
  first | refine rw_end ?_ | (refine rw_nil ?_; show CW _ _ _ _ _ _) | refine rw_nil ?_
  repeat refine cw_seq ?_
  refine cw_region ?_
  refine rw_v (op_pure rfl) ?_
  refine rw_v (op_len Tryz.underlying61 rfl) ?_
  refine rw_v (op_pure rfl) ?_
  refine rw_v (op_len Tryz.underlying61 rfl) ?_
  refine rw_v (op_b (b := false) rfl (bne_eq_false_iff_eq.2 (by omega))) ?_
  first | refine rw_end ?_ | (refine rw_nil ?_; show CW _ _ _ _ _ _) | refine rw_nil ?_
  repeat refine cw_seq ?_
  refine cw_false rfl ?_
  repeat refine cw_seq ?_
  refine cw_skip ?_
  try show CW _ _ _ _ _ _
  repeat refine cw_seq ?_
  refine cw_region ?_
  refine rw_v (op_pure rfl) ?_
  refine rw_v (op_len Tryz.underlying61 rfl) ?_
  refine rw_v (op_pure rfl) ?_
  first | refine rw_end ?_ | (refine rw_nil ?_; show CW _ _ _ _ _ _) | refine rw_nil ?_
  repeat refine cw_seq ?_
  refine cw_block ?_
  repeat refine cw_seq ?_
  refine cw_loop (fun m e w => ∃ k : Nat, k + m = n ∧ SL e [(0, .slice A n c), (1, .slice B n d), (2, .func (.func fid) (([] : List Value).toArray) (([] : List Value).toArray)), (15, .slice A n c), (16, .int .i64 n), (17, .int .i64 k)] ∧ St No W w []) n
    ⟨0, by omega, ⟨rfl, rfl, rfl, rfl, rfl, rfl, trivial⟩, S⟩ ?_
  rintro m e w ⟨k, hk, hsl, S⟩
  rw [hsl.fold]
  repeat refine cw_seq ?_
  refine cw_region ?_
  refine rw_v (op_pure rfl) ?_
  first | refine rw_end ?_ | (refine rw_nil ?_; show CW _ _ _ _ _ _) | refine rw_nil ?_
  repeat refine cw_seq ?_
  refine cw_cond rfl (fun hk1 => ?_) (fun hk1 => ?_)
  · try simp only [decide_eq_true_eq, decide_eq_false_iff_not, beq_iff_eq, bne_iff_ne, beq_eq_false_iff_ne, bne_eq_false_iff_eq, Bool.not_eq_true', Bool.not_eq_false', ne_eq, Decidable.not_not, Int.natCast_inj, Int.ofNat_lt, Int.ofNat_le, gt_iff_lt, ge_iff_le, Int.not_lt, Int.not_le] at hk1
    have hk1 : k < n := by omega
    have hx : (ptrs n bs)[(k : Int).toNat * 1]? = some (.pointer (some ⟨bs k, 0, none⟩)) := by rw [Nat.mul_one, Int.toNat_natCast]; exact ptrs_get hk1
    have hy : (ptrs n bs2)[(k : Int).toNat * 1]? = some (.pointer (some ⟨bs2 k, 0, none⟩)) := by rw [Nat.mul_one, Int.toNat_natCast]; exact ptrs_get hk1
    have hlenp : 0 < (ptrs n bs).length ∧ 0 < (ptrs n bs2).length := ⟨by have := (List.getElem?_eq_some_iff.1 hx).1; omega, by have := (List.getElem?_eq_some_iff.1 hy).1; omega⟩
    have sa_A : SomeA A := hA.someA hlenp.1
    have sa_B : SomeA B := hB.someA hlenp.2
    repeat refine cw_seq ?_
    refine cw_skip ?_
    try show CW _ _ _ _ _ _
    repeat refine cw_seq ?_
    refine cw_block ?_
    repeat refine cw_seq ?_
    refine cw_region ?_
    refine rw_v (op_pure rfl) ?_
    refine rw_v (op_idx Tryz.underlying61 Tryz.sizeOf65 rfl rfl sa_A (by omega) (by omega)) ?_
    refine rw_r (op_ldR Tryz.underlying65 rfl rfl (hA.gr S.out) hx) ?_
    iterate 2 refine rw_v (op_pure rfl) ?_
    first | refine rw_end ?_ | (refine rw_nil ?_; show CW _ _ _ _ _ _) | refine rw_nil ?_
    repeat refine cw_seq ?_
    refine cw_region ?_
    iterate 2 refine rw_v (op_pure rfl) ?_
    refine rw_v (op_idx Tryz.underlying61 Tryz.sizeOf65 rfl rfl sa_B (by omega) (by omega)) ?_
    refine rw_r (op_ldR Tryz.underlying65 rfl rfl (hB.gr S.out) hy) ?_
    refine rw_v (op_pure rfl) ?_
    first | refine rw_end ?_ | (refine rw_nil ?_; show CW _ _ _ _ _ _) | refine rw_nil ?_
    repeat refine cw_seq ?_
    refine cw_region ?_
    iterate 3 refine rw_v (op_pure rfl) ?_
    refine rw_callv rfl rfl (hf k hk1 _ S.out) ?_
    rintro _ w1_ ⟨rfl, g1_⟩
    have S := S.gr g1_
    refine rw_v (op_pure rfl) ?_
    first | refine rw_end ?_ | (refine rw_nil ?_; show CW _ _ _ _ _ _) | refine rw_nil ?_
    repeat refine cw_seq ?_
    refine cw_false rfl ?_
    repeat refine cw_seq ?_
    refine cw_skip ?_
    try show CW _ _ _ _ _ _
    repeat refine cw_seq ?_
    refine cw_region ?_
    refine rw_v (op_rng rfl (by omega)) ?_
    refine rw_v (op_pure rfl) ?_
    first | refine rw_end ?_ | (refine rw_nil ?_; show CW _ _ _ _ _ _) | refine rw_nil ?_
    exact ⟨m - 1, by omega, k + 1, by omega, ⟨rfl, rfl, rfl, rfl, rfl, ie (by omega), trivial⟩, S⟩
  · try simp only [decide_eq_true_eq, decide_eq_false_iff_not, beq_iff_eq, bne_iff_ne, beq_eq_false_iff_ne, bne_eq_false_iff_eq, Bool.not_eq_true', Bool.not_eq_false', ne_eq, Decidable.not_not, Int.natCast_inj, Int.ofNat_lt, Int.ofNat_le, gt_iff_lt, ge_iff_le, Int.not_lt, Int.not_le] at hk1
    repeat refine cw_seq ?_
    refine cw_exit ?_
    repeat first | refine exit_then ?_ | refine exit_inb ?_
    show CW _ _ _ _ _ _
    repeat refine cw_seq ?_
    refine cw_region ?_
    refine rw_v (op_pure rfl) ?_
    first | refine rw_end ?_ | (refine rw_nil ?_; show CW _ _ _ _ _ _) | refine rw_nil ?_
    repeat refine cw_seq ?_
    refine cw_ret ?_
    repeat first | refine ret_then ?_ | refine ret_inb ?_
    exact res1 rfl ⟨rfl, S.out⟩
theorem gsame_E {p p2 gw gh cap cap2 : Nat} {A A2 : Option Addr} {cc : Nat → Int} {bs bs2 : Nat → Nat} {Rs Rs2 : Nat → Option Nat} (hG : GridAt W p gw gh cc A cap bs Rs) (hG2 : GridAt W p2 gw gh cc A2 cap2 bs2 Rs2) :
    Fn Tryz.prog 10 [.pointer (some ⟨p, 0, none⟩), .pointer (some ⟨p2, 0, none⟩)] W (RetG (.bool true) W) := by
  have hN : acr gw * acr gh ≤ 1048576 := by
    have h1 := hG.sw
    have h2 := hG.sh
    have : acr gw * acr gh ≤ 1024 * 1024 := Nat.mul_le_mul (by unfold acr; omega) (by unfold acr; omega)
    omega
  have hf : ∀ w, Gr W w → ∀ t, t < acr gw * acr gh → ∀ w', Gr w w' → Fn Tryz.prog 29 (([] : List Value) ++ [.pointer (some ⟨bs t, 0, none⟩), .pointer (some ⟨bs2 t, 0, none⟩)] ++ ([] : List Value)) w' (RetG (.bool true) w') := fun w g t ht w' g' => by
    have hpos : 0 < acr gw := by have h1 := hG.sw; unfold acr; omega
    exact same1_E _ _ _ _ _ _ _ (tsz_pos (Nat.mod_lt _ hpos)) (tsz_pos (Nat.div_lt_of_lt_mul ht)) w' ((hG.slab t ht).gr (g.trans g')) ((hG2.slab t ht).gr (g.trans g'))
  have S := St.start W
  refine Fn_enter Tryz.func10 rfl Tryz.results10 Tryz.ntmps10 (by kernel_rfl) (by kernel_rfl) ?_
  repeat refine cw_seq ?_
  refine cw_region ?_
  refine rw_v (op_pure rfl) ?_
  first | refine rw_end ?_ | (refine rw_nil ?_; show CW _ _ _ _ _ _) | refine rw_nil ?_
  repeat refine cw_seq ?_
  refine cw_region ?_
  refine rw_v (op_pure rfl) ?_
  refine rw_v (op_nilp Tryz.underlying28 rfl rfl) ?_
  refine rw_v (op_pure rfl) ?_
  first | refine rw_off rfl ?_ | (refine rw_on rfl ?_; refine rw_v (op_pure rfl) ?_)
  first | refine rw_off rfl ?_ | (refine rw_on rfl ?_; refine rw_v (op_nilp Tryz.underlying28 rfl rfl) ?_)
  refine rw_v (op_pure rfl) ?_
  first | refine rw_end ?_ | (refine rw_nil ?_; show CW _ _ _ _ _ _) | refine rw_nil ?_
  repeat refine cw_seq ?_
  refine cw_false rfl ?_
  repeat refine cw_seq ?_
  refine cw_skip ?_
  try show CW _ _ _ _ _ _
  repeat refine cw_seq ?_
  refine cw_draw (C := fun wq => Gr W wq) [0, 1, 2, 3, 4, 5, 6, 7, 8, 9, 10, 11, 12, 13, 14, 15, 16, 17, 18, 19, 20, 21, 22, 23, 24, 25, 26, 27, 28, 29, 30, 31] [] (by kernel_rfl) (by kernel_rfl) (Gr.drew _) ?_
  simp only [pickL, List.drop_succ_cons, List.drop_zero]
  iterate 2 refine rq_v (op_pure rfl) ?_
  refine rq_v (op_fieldAddr Tryz.underlying63 rfl Tryz.sizeOf2 rfl rfl) ?_
  refine rq_r (fun wq hq => op_loadB Tryz.underlying2 rfl rfl (hG.top.gr (S.gr hq).out) rfl) ?_
  iterate 2 refine rq_v (op_pure rfl) ?_
  refine rq_v (op_fieldAddr Tryz.underlying63 rfl Tryz.sizeOf2 rfl rfl) ?_
  refine rq_r (fun wq hq => op_loadB Tryz.underlying2 rfl rfl (hG2.top.gr (S.gr hq).out) rfl) ?_
  first | refine rq_v (op_b (b := true) rfl (beq_iff_eq.2 (by omega))) ?_ | refine rq_v (op_b (b := false) rfl (beq_eq_false_iff_ne.2 (by omega))) ?_ | refine rq_v (op_pure rfl) ?_
  refine rq_v (op_pure rfl) ?_
  first | refine rq_off rfl ?_ | (refine rq_on rfl ?_; refine rq_v (op_pure rfl) ?_)
  first | refine rq_off rfl ?_ | (refine rq_on rfl ?_; refine rq_v (op_pure rfl) ?_)
  first | refine rq_off rfl ?_ | (refine rq_on rfl ?_; refine rq_v (op_fieldAddr Tryz.underlying63 rfl Tryz.sizeOf2 rfl rfl) ?_)
  first | refine rq_off rfl ?_ | (refine rq_on rfl ?_; refine rq_r (fun wq hq => op_loadB Tryz.underlying2 rfl rfl (hG.top.gr (S.gr hq).out) rfl) ?_)
  first | refine rq_off rfl ?_ | (refine rq_on rfl ?_; refine rq_v (op_pure rfl) ?_)
  first | refine rq_off rfl ?_ | (refine rq_on rfl ?_; refine rq_v (op_pure rfl) ?_)
  first | refine rq_off rfl ?_ | (refine rq_on rfl ?_; refine rq_v (op_fieldAddr Tryz.underlying63 rfl Tryz.sizeOf2 rfl rfl) ?_)
  first | refine rq_off rfl ?_ | (refine rq_on rfl ?_; refine rq_r (fun wq hq => op_loadB Tryz.underlying2 rfl rfl (hG2.top.gr (S.gr hq).out) rfl) ?_)
  first | refine rq_off rfl ?_ | (refine rq_on rfl ?_; (first | refine rq_v (op_b (b := true) rfl (beq_iff_eq.2 (by omega))) ?_ | refine rq_v (op_b (b := false) rfl (beq_eq_false_iff_ne.2 (by omega))) ?_ | refine rq_v (op_pure rfl) ?_))
  iterate 2 refine rq_v (op_pure rfl) ?_
  first | refine rq_off rfl ?_ | (refine rq_on rfl ?_; refine rq_v (op_pure rfl) ?_)
  first | refine rq_off rfl ?_ | (refine rq_on rfl ?_; refine rq_v (op_pure rfl) ?_)
  first | refine rq_off rfl ?_ | (refine rq_on rfl ?_; refine rq_v (op_fieldAddr Tryz.underlying63 rfl Tryz.sizeOf61 rfl rfl) ?_)
  first | refine rq_off rfl ?_ | (refine rq_on rfl ?_; refine rq_r (fun wq hq => op_loadB Tryz.underlying61 rfl rfl (hG.top.gr (S.gr hq).out) rfl) ?_)
  first | refine rq_off rfl ?_ | (refine rq_on rfl ?_; refine rq_v (op_pure rfl) ?_)
  first | refine rq_off rfl ?_ | (refine rq_on rfl ?_; refine rq_v (op_pure rfl) ?_)
  first | refine rq_off rfl ?_ | (refine rq_on rfl ?_; refine rq_v (op_fieldAddr Tryz.underlying63 rfl Tryz.sizeOf61 rfl rfl) ?_)
  first | refine rq_off rfl ?_ | (refine rq_on rfl ?_; refine rq_r (fun wq hq => op_loadB Tryz.underlying61 rfl rfl (hG2.top.gr (S.gr hq).out) rfl) ?_)
  refine rq_on rfl ?_
  refine rq_call rfl (fun wq hq => (equalFunc_E (acr gw * acr gh) _ bs bs2 _ _ _ _ hN wq (hG.row.rd.gr (S.gr hq).out) (hG2.row.rd.gr (S.gr hq).out) (hf wq (S.gr hq).out)).mono (fun _ _ ⟨hv, hg⟩ => ⟨hv, hq.trans hg⟩)) ?_
  iterate 2 refine rq_v (op_pure rfl) ?_
  refine rq_nil ?_
  intro w1_ g1_
  have S := S.gr g1_
  first | refine rw_end ?_ | (refine rw_nil ?_; show CW _ _ _ _ _ _) | refine rw_nil ?_
  repeat refine cw_seq ?_
  refine cw_ret ?_
  repeat first | refine ret_then ?_ | refine ret_inb ?_
  exact res1 rfl ⟨rfl, S.out⟩
end
section
variable {W : World} {A B : Option Addr} {p gw gh cap cu : Nat} {cc : Nat → Int} {bs : Nat → Nat} {Rs : Nat → Option Nat} {U : List Int}
end
end Go.Proofs.YtbcgbcipigcbhaaGreat
/- hachurelaw44.SmoothKeeps: the walk. -/
namespace Go.Proofs.YtbcgbcipigcbhaaGreat
open Go.RowKit
set_option linter.unusedVariables false
set_option linter.unusedSimpArgs false
set_option maxRecDepth 100000

theorem vB_flat {gw gh : Nat} {v : Int} (hv : -2147483648 ≤ v ∧ v ≤ 2147483647) : vB (gridL gw gh fun _ => v) := vB_of_may fun x hx => by
  unfold gridL at hx
  obtain ⟨_, _, rfl⟩ := List.mem_map.1 hx
  exact (mayB_iff _).2 hv
section
variable {W : World} {A : Option Addr} {V : List Int}
set_option maxHeartbeats 8000000 in
theorem smoothKeeps_E (w h : Int) (cap : Nat) (n : Int) (hl : V.length ≤ 9223372036854775807) (hA : Rd W A (ints V)) :
    Fn Tryz.prog 3 [.int .i64 w, .int .i64 h, .slice A V.length cap, .int .i64 n] W (RetG (.bool true) W) := by
  by_cases hok : LandOk w h V 200
  · obtain ⟨gw, rfl⟩ := Int.eq_ofNat_of_zero_le (show 0 ≤ w by have := hok.w1; omega)
    obtain ⟨gh, rfl⟩ := Int.eq_ofNat_of_zero_le (show 0 ≤ h by have := hok.h1; omega)
    have hw : 1 ≤ gw ∧ gw ≤ 1024 := by have := hok.w1; have := hok.wm; omega
    have hh : 1 ≤ gh ∧ gh ≤ 1024 := by have := hok.h1; have := hok.hm; omega
    have hmi : (gw : Int) * gh = ((gw * gh : Nat) : Int) := by push_cast; rfl
    have hVg : V.length = gw * gh := by have := hok.len; rw [hmi] at this; omega
    have hm : gw * gh ≤ 200 := by have := hok.area; rw [hmi] at this; omega
    have hm1 : 1 ≤ gw * gh := Nat.mul_le_mul hw.1 hh.1
    have hmay := hok.may
    have hGl := gridL_made hVg
    have hB : vB V := vB_of_may hmay
    by_cases hn : 0 ≤ n ∧ n ≤ 1024
    · obtain ⟨n, rfl⟩ := Int.eq_ofNat_of_zero_le hn.1
      have hn : n ≤ 1024 := by omega
      have hme := fun (k : Nat) (hk : k ≤ 1024) (p : Nat) (B : Option Addr) (bc : Nat) (bs : Nat → Nat) (Rs : Nat → Option Nat) (w : World) (h : GridAt w p gw gh (fun i => V.getD i 0) B bc bs Rs) => smean_E k hk (by rw [hGl]; exact hB) h
      have hmd := fun (k : Nat) (hk : k ≤ 1024) (p : Nat) (B : Option Addr) (bc : Nat) (bs : Nat → Nat) (Rs : Nat → Option Nat) (w : World) (h : GridAt w p gw gh (fun i => V.getD i 0) B bc bs Rs) => smedian_E k hk hB h
      have hop := fun (p : Nat) (B : Option Addr) (bc : Nat) (bs : Nat → Nat) (Rs : Nat → Option Nat) (w : World) (h : GridAt w p gw gh (fun i => V.getD i 0) B bc bs Rs) => sopen_E 0 (by omega) (by rw [hGl]; exact hB) h
      rw [hGl] at hme hop
      have hme0 := hme 0 (by omega)
      have hmd0 := hmd 0 (by omega)
      rw [gridL_id (f := fun i => meanW V gw gh i 0) hVg (fun i hi => mean_zero hw.1 hi)] at hme0
      rw [gridL_id (f := fun i => medW V gw gh i 0) hVg (fun i hi => med_zero hw.1 hi)] at hmd0
      rw [open_zero hw.1 hVg] at hop
      simp only [Int.natCast_zero] at hme0 hmd0 hop
      have hmeN := hme n hn
      have hmdN := hmd n hn
      have hrr := fun (i : Nat) w (hi : i < gw * gh) (h : Rd w A (ints V)) => range44_E (W := w) (cap := cap) i n hw hh hi hn hVg h
      have hval := fun (U : List Int) (hU : U.length = gw * gh) (p B3 c3 : _) (bs3 : Nat → Nat) (Rs3 : Nat → Option Nat) (w : World) (h : GridAt w p gw gh (fun i => U.getD i 0) B3 c3 bs3 Rs3) => gvalues_E (W := w) 0 0 (gw - 1) (gh - 1) (by omega) (by omega) h
      have e1 : ((gw : Int) - 1) = ((gw - 1 : Nat) : Int) := by omega
      have e2 : ((gh : Int) - 1) = ((gh - 1 : Nat) : Int) := by omega
      have hval1 := hval _ (gridL_len gw gh fun i => meanW V gw gh i n)
      have hval2 := hval _ (gridL_len gw gh fun i => medW V gw gh i n)
      rw [← e1, ← e2, show gw - 1 + 1 - 0 = gw by omega, show gh - 1 + 1 - 0 = gh by omega, rectV_all, Nat.mul_comm gh gw] at hval1 hval2
      have eg : ∀ U : List Int, U.length = gw * gh → (List.range (gw * gh)).map (fun i => U.getD i 0) = U := fun U hU => gridL_self hU
      rw [eg _ (gridL_len gw gh _)] at hval1 hval2
      have hxm : ∀ i, i < gw * gh → (gridL gw gh fun i => meanW V gw gh i n).getD i 0 = meanW V gw gh i n := fun i hi => gridL_at _ hi
      have hxd : ∀ i, i < gw * gh → (gridL gw gh fun i => medW V gw gh i n).getD i 0 = medW V gw gh i n := fun i hi => gridL_at _ hi
      have hinm := fun i (hi : i < gw * gh) => meanW_in (V := V) (n := n) hw.1 hi
      have hind := fun i (hi : i < gw * gh) => medW_in (V := V) (n := n) hw.1 hi
      have hlm := gridL_len gw gh fun i => meanW V gw gh i n
      have hld := gridL_len gw gh fun i => medW V gw gh i n
      -- the flat land
      have hv0 : -2147483648 ≤ V.getD 0 0 ∧ V.getD 0 0 ≤ 2147483647 := hB 0
      have hfm := fun (v : Int) (hv : -2147483648 ≤ v ∧ v ≤ 2147483647) (p : Nat) (B : Option Addr) (bc : Nat) (bs : Nat → Nat) (Rs : Nat → Option Nat) (w : World) (h : GridAt w p gw gh (fun _ => v) B bc bs Rs) => smean_E n hn (vB_flat hv) h
      have hfo := fun (v : Int) (hv : -2147483648 ≤ v ∧ v ≤ 2147483647) (p : Nat) (B : Option Addr) (bc : Nat) (bs : Nat → Nat) (Rs : Nat → Option Nat) (w : World) (h : GridAt w p gw gh (fun _ => v) B bc bs Rs) => sopen_E n hn (vB_flat hv) h
      have hfme : ∀ v i, i < gw * gh → (gridL gw gh fun i => meanW (gridL gw gh fun _ => v) gw gh i n).getD i 0 = v := fun v i hi => by
        rw [gridL_at _ hi]; exact mean_flat hw.1 hi (fun j hj => gridL_at _ hj)
      have hfop : ∀ v i, i < gw * gh → (openL (gridL gw gh fun _ => v) gw gh n).getD i 0 = v := fun v i hi => open_flat hw.1 (fun j hj => gridL_at _ hj) i hi
      generalize hM : (gridL gw gh fun i => meanW V gw gh i n) = M at *
      generalize hD : (gridL gw gh fun i => medW V gw gh i n) = D at *
      unfold modV at hrr
      rw [← hVg] at hrr
      have hv0g : (ints V)[(0 : Int).toNat * 1]? = some (.int .i64 (V.getD 0 0)) := ints_get (getD_at (by omega))
      have G := Gr.refl W
      have S := St.start W
      refine Fn_enter Tryz.func3 rfl Tryz.results3 Tryz.ntmps3 (by kernel_rfl) (by kernel_rfl) ?_
      repeat refine cw_seq ?_
      refine cw_region ?_
      refine rw_v (op_pure rfl) ?_
      first | refine rw_end ?_ | (refine rw_nil ?_; show CW _ _ _ _ _ _) | refine rw_nil ?_
      repeat refine cw_seq ?_
      refine cw_region ?_
      refine rw_call rfl (awake44_E W) ?_
      rintro _ w1_ ⟨rfl, g1_⟩
      have S := S.gr g1_
      refine rw_v (op_pure rfl) ?_
      first | refine rw_end ?_ | (refine rw_nil ?_; show CW _ _ _ _ _ _) | refine rw_nil ?_
      repeat refine cw_seq ?_
      refine cw_false rfl ?_
      repeat refine cw_seq ?_
      refine cw_skip ?_
      try show CW _ _ _ _ _ _
      repeat refine cw_seq ?_
      refine cw_region ?_
      iterate 3 refine rw_v (op_pure rfl) ?_
      refine rw_call rfl (land_E gw gh 200 cap (by omega) hok (hA.gr S.out)) ?_
      rintro _ w2_ ⟨rfl, g2_⟩
      have S := S.gr g2_
      iterate 3 refine rw_v (op_pure rfl) ?_
      refine rw_newB (op_alloc Tryz.zeroValue25 rfl) S ?_
      intro b_md w4_ g4_ S
      refine rw_storeSA (i := 0) S rfl (Tryz.sizeOf25 _) rfl rfl rfl rfl rfl rfl ?_
      intro w5_ S
      refine rw_v (op_pure rfl) ?_
      first | refine rw_end ?_ | (refine rw_nil ?_; show CW _ _ _ _ _ _) | refine rw_nil ?_
      repeat refine cw_seq ?_
      refine cw_region ?_
      iterate 3 refine rw_v (op_pure rfl) ?_
      first | refine rw_off rfl ?_ | (refine rw_on rfl ?_; refine rw_v (op_pure rfl) ?_)
      first | refine rw_off rfl ?_ | (refine rw_on rfl ?_; (first | refine rw_v (op_b (b := true) rfl (decide_eq_true (by omega))) ?_ | refine rw_v (op_b (b := false) rfl (decide_eq_false (by omega))) ?_ | refine rw_v (op_pure rfl) ?_))
      iterate 2 refine rw_v (op_pure rfl) ?_
      first | refine rw_off rfl ?_ | (refine rw_on rfl ?_; refine rw_v (op_pure rfl) ?_)
      first | refine rw_off rfl ?_ | (refine rw_on rfl ?_; (first | refine rw_v (op_b (b := true) rfl (decide_eq_true (by omega))) ?_ | refine rw_v (op_b (b := false) rfl (decide_eq_false (by omega))) ?_ | refine rw_v (op_pure rfl) ?_))
      refine rw_v (op_pure rfl) ?_
      first | refine rw_end ?_ | (refine rw_nil ?_; show CW _ _ _ _ _ _) | refine rw_nil ?_
      repeat refine cw_seq ?_
      refine cw_false rfl ?_
      repeat refine cw_seq ?_
      refine cw_skip ?_
      try show CW _ _ _ _ _ _
      repeat refine cw_seq ?_
      refine cw_region ?_
      iterate 3 refine rw_v (op_pure rfl) ?_
      refine rw_call rfl (made_E gw gh cap hw hh hVg hmay (hA.gr S.out)) ?_
      rintro _ w6_ ⟨p, B, bc, bs, Rs, rfl, hG, hf, g6_⟩
      have S := S.pushGrid hG hf g6_
      iterate 5 refine rw_v (op_pure rfl) ?_
      first | refine rw_end ?_ | (refine rw_nil ?_; show CW _ _ _ _ _ _) | refine rw_nil ?_
      repeat refine cw_seq ?_
      refine cw_region ?_
      iterate 2 refine rw_v (op_pure rfl) ?_
      first | refine rw_end ?_ | (refine rw_nil ?_; show CW _ _ _ _ _ _) | refine rw_nil ?_
      repeat refine cw_seq ?_
      refine cw_false rfl ?_
      repeat refine cw_seq ?_
      refine cw_skip ?_
      try show CW _ _ _ _ _ _
      repeat refine cw_seq ?_
      refine cw_region ?_
      iterate 2 refine rw_v (op_pure rfl) ?_
      refine rw_call rfl (hmeN p B bc bs Rs w6_ (S.grid (i := 0) rfl)) ?_
      rintro _ w7_ ⟨p2, B2, bc2, bs2, Rs2, rfl, hG2, hf2, g7_⟩
      have S := S.pushGrid hG2 hf2 g7_
      iterate 5 refine rw_v (op_pure rfl) ?_
      first | refine rw_end ?_ | (refine rw_nil ?_; show CW _ _ _ _ _ _) | refine rw_nil ?_
      repeat refine cw_seq ?_
      refine cw_region ?_
      iterate 2 refine rw_v (op_pure rfl) ?_
      refine rw_call rfl (hmdN p B bc bs Rs w7_ (S.grid (i := 1) rfl)) ?_
      rintro _ w8_ ⟨p3, B3, bc3, bs3, Rs3, rfl, hG3, hf3, g8_⟩
      have S := S.pushGrid hG3 hf3 g8_
      iterate 5 refine rw_v (op_pure rfl) ?_
      first | refine rw_end ?_ | (refine rw_nil ?_; show CW _ _ _ _ _ _) | refine rw_nil ?_
      repeat refine cw_seq ?_
      refine cw_region ?_
      refine rw_v (op_pure rfl) ?_
      refine rw_call rfl (hme0 p B bc bs Rs w8_ (S.grid (i := 2) rfl)) ?_
      rintro _ w9_ ⟨p4, B4, bc4, bs4, Rs4, rfl, hG4, hf4, g9_⟩
      have S := S.pushGrid hG4 hf4 g9_
      iterate 5 refine rw_v (op_pure rfl) ?_
      first | refine rw_end ?_ | (refine rw_nil ?_; show CW _ _ _ _ _ _) | refine rw_nil ?_
      repeat refine cw_seq ?_
      refine cw_region ?_
      refine rw_v (op_pure rfl) ?_
      refine rw_call rfl (hmd0 p B bc bs Rs w9_ (S.grid (i := 3) rfl)) ?_
      rintro _ w10_ ⟨p5, B5, bc5, bs5, Rs5, rfl, hG5, hf5, g10_⟩
      have S := S.pushGrid hG5 hf5 g10_
      iterate 5 refine rw_v (op_pure rfl) ?_
      first | refine rw_end ?_ | (refine rw_nil ?_; show CW _ _ _ _ _ _) | refine rw_nil ?_
      repeat refine cw_seq ?_
      refine cw_region ?_
      refine rw_v (op_pure rfl) ?_
      refine rw_call rfl (hop p B bc bs Rs w10_ (S.grid (i := 4) rfl)) ?_
      rintro _ w11_ ⟨p6, B6, bc6, bs6, Rs6, rfl, hG6, hf6, g11_⟩
      have S := S.pushGrid hG6 hf6 g11_
      iterate 5 refine rw_v (op_pure rfl) ?_
      first | refine rw_end ?_ | (refine rw_nil ?_; show CW _ _ _ _ _ _) | refine rw_nil ?_
      repeat refine cw_seq ?_
      refine cw_region ?_
      refine rw_v (op_pure rfl) ?_
      refine rw_v (op_b (b := false) rfl (bne_eq_false_iff_eq.2 (by omega))) ?_
      refine rw_v (op_pure rfl) ?_
      first | refine rw_off rfl ?_ | (refine rw_on rfl ?_; refine rw_v (op_pure rfl) ?_)
      first | refine rw_off rfl ?_ | (refine rw_on rfl ?_; refine rw_v (op_b (b := false) rfl (bne_eq_false_iff_eq.2 (by omega))) ?_)
      iterate 2 refine rw_v (op_pure rfl) ?_
      first | refine rw_off rfl ?_ | (refine rw_on rfl ?_; refine rw_v (op_pure rfl) ?_)
      first | refine rw_off rfl ?_ | (refine rw_on rfl ?_; refine rw_v (op_b (b := false) rfl (bne_eq_false_iff_eq.2 (by omega))) ?_)
      iterate 2 refine rw_v (op_pure rfl) ?_
      first | refine rw_off rfl ?_ | (refine rw_on rfl ?_; refine rw_v (op_pure rfl) ?_)
      first | refine rw_off rfl ?_ | (refine rw_on rfl ?_; refine rw_v (op_b (b := false) rfl (bne_eq_false_iff_eq.2 (by omega))) ?_)
      iterate 2 refine rw_v (op_pure rfl) ?_
      first | refine rw_off rfl ?_ | (refine rw_on rfl ?_; refine rw_v (op_pure rfl) ?_)
      first | refine rw_off rfl ?_ | (refine rw_on rfl ?_; refine rw_v (op_b (b := false) rfl (bne_eq_false_iff_eq.2 (by omega))) ?_)
      iterate 2 refine rw_v (op_pure rfl) ?_
      first | refine rw_off rfl ?_ | (refine rw_on rfl ?_; refine rw_v (op_pure rfl) ?_)
      first | refine rw_off rfl ?_ | (refine rw_on rfl ?_; refine rw_v (op_pure rfl) ?_)
      refine rw_on rfl ?_
      refine rw_call rfl (gsame_E (S.grid (i := 2) rfl) (S.grid (i := 5) rfl)) ?_
      rintro _ w12_ ⟨rfl, g12_⟩
      have S := S.gr g12_
      first | refine rw_off rfl ?_ | (refine rw_on rfl ?_; refine rw_v (op_pure rfl) ?_)
      iterate 2 refine rw_v (op_pure rfl) ?_
      first | refine rw_off rfl ?_ | (refine rw_on rfl ?_; refine rw_v (op_pure rfl) ?_)
      first | refine rw_off rfl ?_ | (refine rw_on rfl ?_; refine rw_v (op_pure rfl) ?_)
      refine rw_on rfl ?_
      refine rw_call rfl (gsame_E (S.grid (i := 1) rfl) (S.grid (i := 5) rfl)) ?_
      rintro _ w13_ ⟨rfl, g13_⟩
      have S := S.gr g13_
      first | refine rw_off rfl ?_ | (refine rw_on rfl ?_; refine rw_v (op_pure rfl) ?_)
      iterate 2 refine rw_v (op_pure rfl) ?_
      first | refine rw_off rfl ?_ | (refine rw_on rfl ?_; refine rw_v (op_pure rfl) ?_)
      first | refine rw_off rfl ?_ | (refine rw_on rfl ?_; refine rw_v (op_pure rfl) ?_)
      refine rw_on rfl ?_
      refine rw_call rfl (gsame_E (S.grid (i := 0) rfl) (S.grid (i := 5) rfl)) ?_
      rintro _ w14_ ⟨rfl, g14_⟩
      have S := S.gr g14_
      first | refine rw_off rfl ?_ | (refine rw_on rfl ?_; refine rw_v (op_pure rfl) ?_)
      refine rw_v (op_pure rfl) ?_
      first | refine rw_end ?_ | (refine rw_nil ?_; show CW _ _ _ _ _ _) | refine rw_nil ?_
      repeat refine cw_seq ?_
      refine cw_false rfl ?_
      repeat refine cw_seq ?_
      refine cw_skip ?_
      try show CW _ _ _ _ _ _
      repeat refine cw_seq ?_
      refine cw_region ?_
      iterate 2 refine rw_v (op_pure rfl) ?_
      refine rw_call rfl (gall_E p2 gw gh hw.2 hh.2 _ w14_ ((S.grid (i := 4) rfl).top)) ?_
      rintro _ w15_ ⟨rfl, g15_⟩
      have S := S.gr g15_
      refine rw_call rfl (hval1 p2 B2 bc2 bs2 Rs2 w15_ (S.grid (i := 4) rfl)) ?_
      rintro _ w16_ ⟨A_x, c_x, rfl, hR_x, hf_x, g16_⟩
      have S := S.pushRow hR_x hf_x g16_
      iterate 5 refine rw_v (op_pure rfl) ?_
      first | refine rw_end ?_ | (refine rw_nil ?_; show CW _ _ _ _ _ _) | refine rw_nil ?_
      repeat refine cw_seq ?_
      refine cw_region ?_
      iterate 2 refine rw_v (op_pure rfl) ?_
      refine rw_call rfl (gall_E p3 gw gh hw.2 hh.2 _ w16_ ((S.grid (i := 4) rfl).top)) ?_
      rintro _ w17_ ⟨rfl, g17_⟩
      have S := S.gr g17_
      refine rw_call rfl (hval2 p3 B3 bc3 bs3 Rs3 w17_ (S.grid (i := 4) rfl)) ?_
      rintro _ w18_ ⟨A_y, c_y, rfl, hR_y, hf_y, g18_⟩
      have S := S.pushRow hR_y hf_y g18_
      iterate 5 refine rw_v (op_pure rfl) ?_
      first | refine rw_end ?_ | (refine rw_nil ?_; show CW _ _ _ _ _ _) | refine rw_nil ?_
      have S := S.sub (.cons_cons _ (.cons_cons _ (.cons _ (.cons _ (.cons _ (.cons _ (.cons _ (.cons _ (.cons_cons _ (.slnil))))))))))
      repeat refine cw_seq ?_
      refine cw_region ?_
      refine rw_v (op_pure rfl) ?_
      first | refine rw_v (op_b (b := true) rfl (bne_iff_ne.2 (by omega))) ?_ | refine rw_v (op_b (b := false) rfl (bne_eq_false_iff_eq.2 (by omega))) ?_ | refine rw_v (op_pure rfl) ?_
      refine rw_v (op_pure rfl) ?_
      first | refine rw_off rfl ?_ | (refine rw_on rfl ?_; refine rw_v (op_pure rfl) ?_)
      first | refine rw_off rfl ?_ | (refine rw_on rfl ?_; (first | refine rw_v (op_b (b := true) rfl (bne_iff_ne.2 (by omega))) ?_ | refine rw_v (op_b (b := false) rfl (bne_eq_false_iff_eq.2 (by omega))) ?_ | refine rw_v (op_pure rfl) ?_))
      iterate 2 refine rw_v (op_pure rfl) ?_
      first | refine rw_off rfl ?_ | (refine rw_on rfl ?_; refine rw_v (op_pure rfl) ?_)
      first | refine rw_off rfl ?_ | (refine rw_on rfl ?_; refine rw_v (op_len Tryz.underlying22 rfl) ?_)
      first | refine rw_off rfl ?_ | (refine rw_on rfl ?_; refine rw_v (op_pure rfl) ?_)
      first | refine rw_off rfl ?_ | (refine rw_on rfl ?_; refine rw_v (op_len Tryz.underlying22 rfl) ?_)
      first | refine rw_off rfl ?_ | (refine rw_on rfl ?_; (first | refine rw_v (op_b (b := true) rfl (bne_iff_ne.2 (by omega))) ?_ | refine rw_v (op_b (b := false) rfl (bne_eq_false_iff_eq.2 (by omega))) ?_ | refine rw_v (op_pure rfl) ?_))
      iterate 2 refine rw_v (op_pure rfl) ?_
      first | refine rw_off rfl ?_ | (refine rw_on rfl ?_; refine rw_v (op_pure rfl) ?_)
      first | refine rw_off rfl ?_ | (refine rw_on rfl ?_; refine rw_v (op_len Tryz.underlying22 rfl) ?_)
      first | refine rw_off rfl ?_ | (refine rw_on rfl ?_; refine rw_v (op_pure rfl) ?_)
      first | refine rw_off rfl ?_ | (refine rw_on rfl ?_; refine rw_v (op_len Tryz.underlying22 rfl) ?_)
      first | refine rw_off rfl ?_ | (refine rw_on rfl ?_; (first | refine rw_v (op_b (b := true) rfl (bne_iff_ne.2 (by omega))) ?_ | refine rw_v (op_b (b := false) rfl (bne_eq_false_iff_eq.2 (by omega))) ?_ | refine rw_v (op_pure rfl) ?_))
      refine rw_v (op_pure rfl) ?_
      first | refine rw_end ?_ | (refine rw_nil ?_; show CW _ _ _ _ _ _) | refine rw_nil ?_
      repeat refine cw_seq ?_
      refine cw_false rfl ?_
      repeat refine cw_seq ?_
      refine cw_skip ?_
      try show CW _ _ _ _ _ _
      repeat refine cw_seq ?_
      refine cw_region ?_
      refine rw_v (op_pure rfl) ?_
      first | refine rw_end ?_ | (refine rw_nil ?_; show CW _ _ _ _ _ _) | refine rw_nil ?_
      repeat refine cw_seq ?_
      refine cw_block ?_
      repeat refine cw_seq ?_
      refine cw_loop (fun m e w => ∃ k : Nat, k + m = gw * gh ∧ SL e [(0, .int .i64 gw), (1, .int .i64 gh), (2, .slice A V.length cap), (3, .int .i64 n), (9, .pointer (some ⟨b_md, 0, none⟩)), (22, .slice A_x (gw * gh) c_x), (24, .slice A_y (gw * gh) c_y), (26, .int .i64 k)] ∧
        St No W w [.row 2 1 A_y (gw * gh) c_y (ints D), .row 2 1 A_x (gw * gh) c_x (ints M), .blk b_md 25 [.int .i64 gw, .int .i64 gh, .slice A V.length cap]]) (gw * gh)
        ⟨0, by omega, ⟨rfl, rfl, rfl, rfl, rfl, rfl, rfl, rfl, trivial⟩, S⟩ ?_
      clear S
      rintro m e w ⟨k, hk, hsl, S⟩
      rw [hsl.fold]
      by_cases hkn : k < gw * gh
      · have hx : (ints M)[(k : Int).toNat * 1]? = some (.int .i64 (meanW V gw gh k n)) := by rw [Nat.mul_one, Int.toNat_natCast, ← hxm k hkn]; exact ints_get (getD_at (by omega))
        have hy : (ints D)[(k : Int).toNat * 1]? = some (.int .i64 (medW V gw gh k n)) := by rw [Nat.mul_one, Int.toNat_natCast, ← hxd k hkn]; exact ints_get (getD_at (by omega))
        have hi1 := hinm k hkn
        have hi2 := hind k hkn
        have hrk := fun w h => hrr k w (by omega) h
        have hmq := rgW_may hB (gh := gh) n hw.1 hkn
        rw [mayB_iff, mayB_iff] at hmq
        generalize rgW V gw gh k n = q at *
        unfold RG.cells at hrk
        generalize meanW V gw gh k n = mk at *
        generalize medW V gw gh k n = dk at *
        have sa_x : SomeA A_x := (S.row (i := 1) rfl).someA (by omega)
        have sa_y : SomeA A_y := (S.row (i := 0) rfl).someA (by omega)
        repeat refine cw_seq ?_
        refine cw_region ?_
        iterate 2 refine rw_v (op_pure rfl) ?_
        refine rw_v (op_len Tryz.underlying22 rfl) ?_
        refine rw_v (op_b (b := true) rfl (decide_eq_true (by omega))) ?_
        first | refine rw_end ?_ | (refine rw_nil ?_; show CW _ _ _ _ _ _) | refine rw_nil ?_
        repeat refine cw_seq ?_
        refine cw_true rfl ?_
        repeat refine cw_seq ?_
        refine cw_skip ?_
        try show CW _ _ _ _ _ _
        repeat refine cw_seq ?_
        refine cw_block ?_
        repeat refine cw_seq ?_
        refine cw_region ?_
        refine rw_r (op_loadAB Tryz.underlying25 rfl (Tryz.sizeOf25 _) rfl (S.blk (i := 2) rfl) rfl rfl) ?_
        iterate 2 refine rw_v (op_pure rfl) ?_
        refine rw_call rfl (hrk _ (hA.gr S.out)) ?_
        rintro _ w19_ ⟨rfl, g19_⟩
        have S := S.gr g19_
        refine rw_newB (op_alloc Tryz.zeroValue41 rfl) S ?_
        intro b_rg w21_ g21_ S
        refine rw_storeSA (i := 0) S rfl (Tryz.sizeOf41 _) rfl rfl rfl rfl rfl rfl ?_
        intro w22_ S
        first | refine rw_end ?_ | (refine rw_nil ?_; show CW _ _ _ _ _ _) | refine rw_nil ?_
        repeat refine cw_seq ?_
        refine cw_draw (C := fun wq => Gr w22_ wq) [0, 1, 2, 3, 4, 5, 6, 7, 8, 9, 10, 11, 12, 13, 14, 15, 16, 17, 18, 19, 20, 21, 22, 23, 24, 25, 26, 27, 28, 29, 30, 31, 32, 33] [] (by kernel_rfl) (by kernel_rfl) (Gr.drew _) ?_
        simp only [pickL, List.drop_succ_cons, List.drop_zero]
        iterate 2 refine rq_v (op_pure rfl) ?_
        refine rq_v (op_idx Tryz.underlying22 Tryz.sizeOf2 rfl rfl sa_x (by omega) (by omega)) ?_
        refine rq_r (fun wq hq => op_ldR Tryz.underlying2 rfl rfl ((S.gr hq).rd (i := 2) rfl) hx) ?_
        refine rq_v (op_fieldAddr Tryz.underlying41 rfl Tryz.sizeOf2 rfl rfl) ?_
        refine rq_r (fun wq hq => op_loadB Tryz.underlying2 rfl rfl ((S.gr hq).blk (i := 0) rfl) rfl) ?_
        first | refine rq_v (op_b (b := true) rfl (decide_eq_true (by omega))) ?_ | refine rq_v (op_b (b := false) rfl (decide_eq_false (by omega))) ?_ | refine rq_v (op_pure rfl) ?_
        refine rq_v (op_pure rfl) ?_
        first | refine rq_off rfl ?_ | (refine rq_on rfl ?_; refine rq_v (op_pure rfl) ?_)
        first | refine rq_off rfl ?_ | (refine rq_on rfl ?_; refine rq_v (op_pure rfl) ?_)
        first | refine rq_off rfl ?_ | (refine rq_on rfl ?_; refine rq_v (op_idx Tryz.underlying22 Tryz.sizeOf2 rfl rfl sa_x (by omega) (by omega)) ?_)
        first | refine rq_off rfl ?_ | (refine rq_on rfl ?_; refine rq_r (fun wq hq => op_ldR Tryz.underlying2 rfl rfl ((S.gr hq).rd (i := 2) rfl) hx) ?_)
        first | refine rq_off rfl ?_ | (refine rq_on rfl ?_; refine rq_v (op_fieldAddr Tryz.underlying41 rfl Tryz.sizeOf2 rfl rfl) ?_)
        first | refine rq_off rfl ?_ | (refine rq_on rfl ?_; refine rq_r (fun wq hq => op_loadB Tryz.underlying2 rfl rfl ((S.gr hq).blk (i := 0) rfl) rfl) ?_)
        first | refine rq_off rfl ?_ | (refine rq_on rfl ?_; (first | refine rq_v (op_b (b := true) rfl (decide_eq_true (by omega))) ?_ | refine rq_v (op_b (b := false) rfl (decide_eq_false (by omega))) ?_ | refine rq_v (op_pure rfl) ?_))
        iterate 2 refine rq_v (op_pure rfl) ?_
        first | refine rq_off rfl ?_ | (refine rq_on rfl ?_; refine rq_v (op_pure rfl) ?_)
        first | refine rq_off rfl ?_ | (refine rq_on rfl ?_; refine rq_v (op_pure rfl) ?_)
        first | refine rq_off rfl ?_ | (refine rq_on rfl ?_; refine rq_v (op_idx Tryz.underlying22 Tryz.sizeOf2 rfl rfl sa_y (by omega) (by omega)) ?_)
        first | refine rq_off rfl ?_ | (refine rq_on rfl ?_; refine rq_r (fun wq hq => op_ldR Tryz.underlying2 rfl rfl ((S.gr hq).rd (i := 1) rfl) hy) ?_)
        first | refine rq_off rfl ?_ | (refine rq_on rfl ?_; refine rq_v (op_fieldAddr Tryz.underlying41 rfl Tryz.sizeOf2 rfl rfl) ?_)
        first | refine rq_off rfl ?_ | (refine rq_on rfl ?_; refine rq_r (fun wq hq => op_loadB Tryz.underlying2 rfl rfl ((S.gr hq).blk (i := 0) rfl) rfl) ?_)
        first | refine rq_off rfl ?_ | (refine rq_on rfl ?_; (first | refine rq_v (op_b (b := true) rfl (decide_eq_true (by omega))) ?_ | refine rq_v (op_b (b := false) rfl (decide_eq_false (by omega))) ?_ | refine rq_v (op_pure rfl) ?_))
        iterate 2 refine rq_v (op_pure rfl) ?_
        first | refine rq_off rfl ?_ | (refine rq_on rfl ?_; refine rq_v (op_pure rfl) ?_)
        first | refine rq_off rfl ?_ | (refine rq_on rfl ?_; refine rq_v (op_pure rfl) ?_)
        first | refine rq_off rfl ?_ | (refine rq_on rfl ?_; refine rq_v (op_idx Tryz.underlying22 Tryz.sizeOf2 rfl rfl sa_y (by omega) (by omega)) ?_)
        first | refine rq_off rfl ?_ | (refine rq_on rfl ?_; refine rq_r (fun wq hq => op_ldR Tryz.underlying2 rfl rfl ((S.gr hq).rd (i := 1) rfl) hy) ?_)
        first | refine rq_off rfl ?_ | (refine rq_on rfl ?_; refine rq_v (op_fieldAddr Tryz.underlying41 rfl Tryz.sizeOf2 rfl rfl) ?_)
        first | refine rq_off rfl ?_ | (refine rq_on rfl ?_; refine rq_r (fun wq hq => op_loadB Tryz.underlying2 rfl rfl ((S.gr hq).blk (i := 0) rfl) rfl) ?_)
        first | refine rq_off rfl ?_ | (refine rq_on rfl ?_; (first | refine rq_v (op_b (b := true) rfl (decide_eq_true (by omega))) ?_ | refine rq_v (op_b (b := false) rfl (decide_eq_false (by omega))) ?_ | refine rq_v (op_pure rfl) ?_))
        refine rq_v (op_pure rfl) ?_
        refine rq_nil ?_
        intro w23_ g23_
        have S := S.gr g23_
        first | refine rw_end ?_ | (refine rw_nil ?_; show CW _ _ _ _ _ _) | refine rw_nil ?_
        repeat refine cw_seq ?_
        refine cw_false rfl ?_
        repeat refine cw_seq ?_
        refine cw_skip ?_
        try show CW _ _ _ _ _ _
        repeat refine cw_seq ?_
        refine cw_region ?_
        refine rw_v (op_pure rfl) ?_
        refine rw_v (op_rng rfl (by omega)) ?_
        refine rw_v (op_pure rfl) ?_
        first | refine rw_end ?_ | (refine rw_nil ?_; show CW _ _ _ _ _ _) | refine rw_nil ?_
        have S := S.sub (.cons _ (.cons_cons _ (.cons_cons _ (.cons_cons _ (.slnil)))))
        exact ⟨m - 1, by omega, k + 1, by omega, ⟨rfl, rfl, rfl, rfl, rfl, rfl, rfl, ie (by omega), trivial⟩, S⟩
      · have sa_A : SomeA A := hA.someA (by rw [ints_len]; omega)
        repeat refine cw_seq ?_
        refine cw_region ?_
        iterate 2 refine rw_v (op_pure rfl) ?_
        refine rw_v (op_len Tryz.underlying22 rfl) ?_
        refine rw_v (op_b (b := false) rfl (decide_eq_false (by omega))) ?_
        first | refine rw_end ?_ | (refine rw_nil ?_; show CW _ _ _ _ _ _) | refine rw_nil ?_
        repeat refine cw_seq ?_
        refine cw_false rfl ?_
        repeat refine cw_seq ?_
        refine cw_exit ?_
        repeat first | refine exit_then ?_ | refine exit_inb ?_
        show CW _ _ _ _ _ _
        repeat refine cw_seq ?_
        refine cw_region ?_
        iterate 3 refine rw_v (op_pure rfl) ?_
        refine rw_v (op_idx Tryz.underlying22 Tryz.sizeOf2 rfl rfl sa_A (by omega) (by omega)) ?_
        refine rw_r (op_ldR Tryz.underlying2 rfl rfl (hA.gr S.out) hv0g) ?_
        refine rw_call rfl (gnew_E gw gh (V.getD 0 0) hw hh hv0 w) ?_
        rintro _ w24_ ⟨p7, B7, bc7, bs7, Rs7, rfl, hG7, hf7, g24_⟩
        have S := S.pushGrid hG7 hf7 g24_
        iterate 5 refine rw_v (op_pure rfl) ?_
        first | refine rw_end ?_ | (refine rw_nil ?_; show CW _ _ _ _ _ _) | refine rw_nil ?_
        repeat refine cw_seq ?_
        refine cw_region ?_
        iterate 2 refine rw_v (op_pure rfl) ?_
        refine rw_call rfl (hfm _ hv0 p7 B7 bc7 bs7 Rs7 w24_ (S.grid (i := 0) rfl)) ?_
        rintro _ w25_ ⟨p8, B8, bc8, bs8, Rs8, rfl, hG8, hf8, g25_⟩
        have hG8 := hG8.congr (hfme _)
        have S := S.pushGrid hG8 hf8 g25_
        iterate 5 refine rw_v (op_pure rfl) ?_
        first | refine rw_end ?_ | (refine rw_nil ?_; show CW _ _ _ _ _ _) | refine rw_nil ?_
        repeat refine cw_seq ?_
        refine cw_region ?_
        iterate 2 refine rw_v (op_pure rfl) ?_
        refine rw_call rfl (hfo _ hv0 p7 B7 bc7 bs7 Rs7 w25_ (S.grid (i := 1) rfl)) ?_
        rintro _ w26_ ⟨p9, B9, bc9, bs9, Rs9, rfl, hG9, hf9, g26_⟩
        have hG9 := hG9.congr (hfop _)
        have S := S.pushGrid hG9 hf9 g26_
        iterate 5 refine rw_v (op_pure rfl) ?_
        first | refine rw_end ?_ | (refine rw_nil ?_; show CW _ _ _ _ _ _) | refine rw_nil ?_
        repeat refine cw_seq ?_
        refine cw_region ?_
        refine rw_v (op_pure rfl) ?_
        refine rw_v (op_b (b := true) rfl (beq_iff_eq.2 (by omega))) ?_
        refine rw_v (op_pure rfl) ?_
        first | refine rw_off rfl ?_ | (refine rw_on rfl ?_; refine rw_v (op_pure rfl) ?_)
        first | refine rw_off rfl ?_ | (refine rw_on rfl ?_; refine rw_v (op_b (b := true) rfl (beq_iff_eq.2 (by omega))) ?_)
        iterate 2 refine rw_v (op_pure rfl) ?_
        first | refine rw_off rfl ?_ | (refine rw_on rfl ?_; refine rw_v (op_pure rfl) ?_)
        first | refine rw_off rfl ?_ | (refine rw_on rfl ?_; refine rw_v (op_pure rfl) ?_)
        refine rw_on rfl ?_
        refine rw_call rfl (gsame_E (S.grid (i := 1) rfl) (S.grid (i := 2) rfl)) ?_
        rintro _ w27_ ⟨rfl, g27_⟩
        have S := S.gr g27_
        iterate 2 refine rw_v (op_pure rfl) ?_
        first | refine rw_off rfl ?_ | (refine rw_on rfl ?_; refine rw_v (op_pure rfl) ?_)
        first | refine rw_off rfl ?_ | (refine rw_on rfl ?_; refine rw_v (op_pure rfl) ?_)
        refine rw_on rfl ?_
        refine rw_call rfl (gsame_E (S.grid (i := 0) rfl) (S.grid (i := 2) rfl)) ?_
        rintro _ w28_ ⟨rfl, g28_⟩
        have S := S.gr g28_
        iterate 2 refine rw_v (op_pure rfl) ?_
        first | refine rw_end ?_ | (refine rw_nil ?_; show CW _ _ _ _ _ _) | refine rw_nil ?_
        repeat refine cw_seq ?_
        refine cw_ret ?_
        repeat first | refine ret_then ?_ | refine ret_inb ?_
        exact res1 rfl ⟨rfl, S.out⟩
    · have hn' : n < 0 ∨ 1024 < n := by omega
      rcases hn' with hn0 | hn0
      · skip
        have G := Gr.refl W
        have S := St.start W
        refine Fn_enter Tryz.func3 rfl Tryz.results3 Tryz.ntmps3 (by kernel_rfl) (by kernel_rfl) ?_
        repeat refine cw_seq ?_
        refine cw_region ?_
        refine rw_v (op_pure rfl) ?_
        first | refine rw_end ?_ | (refine rw_nil ?_; show CW _ _ _ _ _ _) | refine rw_nil ?_
        repeat refine cw_seq ?_
        refine cw_region ?_
        refine rw_call rfl (awake44_E W) ?_
        rintro _ w1_ ⟨rfl, g1_⟩
        have S := S.gr g1_
        refine rw_v (op_pure rfl) ?_
        first | refine rw_end ?_ | (refine rw_nil ?_; show CW _ _ _ _ _ _) | refine rw_nil ?_
        repeat refine cw_seq ?_
        refine cw_false rfl ?_
        repeat refine cw_seq ?_
        refine cw_skip ?_
        try show CW _ _ _ _ _ _
        repeat refine cw_seq ?_
        refine cw_region ?_
        iterate 3 refine rw_v (op_pure rfl) ?_
        refine rw_call rfl (land_E gw gh 200 cap (by omega) hok (hA.gr S.out)) ?_
        rintro _ w2_ ⟨rfl, g2_⟩
        have S := S.gr g2_
        iterate 3 refine rw_v (op_pure rfl) ?_
        refine rw_newB (op_alloc Tryz.zeroValue25 rfl) S ?_
        intro b_md w4_ g4_ S
        refine rw_storeSA (i := 0) S rfl (Tryz.sizeOf25 _) rfl rfl rfl rfl rfl rfl ?_
        intro w5_ S
        refine rw_v (op_pure rfl) ?_
        first | refine rw_end ?_ | (refine rw_nil ?_; show CW _ _ _ _ _ _) | refine rw_nil ?_
        repeat refine cw_seq ?_
        refine cw_region ?_
        iterate 3 refine rw_v (op_pure rfl) ?_
        first | refine rw_off rfl ?_ | (refine rw_on rfl ?_; refine rw_v (op_pure rfl) ?_)
        first | refine rw_off rfl ?_ | (refine rw_on rfl ?_; refine rw_v (op_b (b := true) rfl (decide_eq_true (by omega))) ?_)
        iterate 2 refine rw_v (op_pure rfl) ?_
        first | refine rw_off rfl ?_ | (refine rw_on rfl ?_; refine rw_v (op_pure rfl) ?_)
        first | refine rw_off rfl ?_ | (refine rw_on rfl ?_; (first | refine rw_v (op_b (b := true) rfl (decide_eq_true (by omega))) ?_ | refine rw_v (op_b (b := false) rfl (decide_eq_false (by omega))) ?_ | refine rw_v (op_pure rfl) ?_))
        refine rw_v (op_pure rfl) ?_
        first | refine rw_end ?_ | (refine rw_nil ?_; show CW _ _ _ _ _ _) | refine rw_nil ?_
        repeat refine cw_seq ?_
        refine cw_true rfl ?_
        repeat refine cw_seq ?_
        refine cw_region ?_
        refine rw_v (op_pure rfl) ?_
        first | refine rw_end ?_ | (refine rw_nil ?_; show CW _ _ _ _ _ _) | refine rw_nil ?_
        repeat refine cw_seq ?_
        refine cw_ret ?_
        repeat first | refine ret_then ?_ | refine ret_inb ?_
        exact res1 rfl ⟨rfl, S.out⟩
      · skip
        have G := Gr.refl W
        have S := St.start W
        refine Fn_enter Tryz.func3 rfl Tryz.results3 Tryz.ntmps3 (by kernel_rfl) (by kernel_rfl) ?_
        repeat refine cw_seq ?_
        refine cw_region ?_
        refine rw_v (op_pure rfl) ?_
        first | refine rw_end ?_ | (refine rw_nil ?_; show CW _ _ _ _ _ _) | refine rw_nil ?_
        repeat refine cw_seq ?_
        refine cw_region ?_
        refine rw_call rfl (awake44_E W) ?_
        rintro _ w1_ ⟨rfl, g1_⟩
        have S := S.gr g1_
        refine rw_v (op_pure rfl) ?_
        first | refine rw_end ?_ | (refine rw_nil ?_; show CW _ _ _ _ _ _) | refine rw_nil ?_
        repeat refine cw_seq ?_
        refine cw_false rfl ?_
        repeat refine cw_seq ?_
        refine cw_skip ?_
        try show CW _ _ _ _ _ _
        repeat refine cw_seq ?_
        refine cw_region ?_
        iterate 3 refine rw_v (op_pure rfl) ?_
        refine rw_call rfl (land_E gw gh 200 cap (by omega) hok (hA.gr S.out)) ?_
        rintro _ w2_ ⟨rfl, g2_⟩
        have S := S.gr g2_
        iterate 3 refine rw_v (op_pure rfl) ?_
        refine rw_newB (op_alloc Tryz.zeroValue25 rfl) S ?_
        intro b_md w4_ g4_ S
        refine rw_storeSA (i := 0) S rfl (Tryz.sizeOf25 _) rfl rfl rfl rfl rfl rfl ?_
        intro w5_ S
        refine rw_v (op_pure rfl) ?_
        first | refine rw_end ?_ | (refine rw_nil ?_; show CW _ _ _ _ _ _) | refine rw_nil ?_
        repeat refine cw_seq ?_
        refine cw_region ?_
        iterate 3 refine rw_v (op_pure rfl) ?_
        first | refine rw_off rfl ?_ | (refine rw_on rfl ?_; refine rw_v (op_pure rfl) ?_)
        first | refine rw_off rfl ?_ | (refine rw_on rfl ?_; refine rw_v (op_b (b := false) rfl (decide_eq_false (by omega))) ?_)
        iterate 2 refine rw_v (op_pure rfl) ?_
        first | refine rw_off rfl ?_ | (refine rw_on rfl ?_; refine rw_v (op_pure rfl) ?_)
        first | refine rw_off rfl ?_ | (refine rw_on rfl ?_; refine rw_v (op_b (b := true) rfl (decide_eq_true (by omega))) ?_)
        refine rw_v (op_pure rfl) ?_
        first | refine rw_end ?_ | (refine rw_nil ?_; show CW _ _ _ _ _ _) | refine rw_nil ?_
        repeat refine cw_seq ?_
        refine cw_true rfl ?_
        repeat refine cw_seq ?_
        refine cw_region ?_
        refine rw_v (op_pure rfl) ?_
        first | refine rw_end ?_ | (refine rw_nil ?_; show CW _ _ _ _ _ _) | refine rw_nil ?_
        repeat refine cw_seq ?_
        refine cw_ret ?_
        repeat first | refine ret_then ?_ | refine ret_inb ?_
        exact res1 rfl ⟨rfl, S.out⟩
  · skip
    have G := Gr.refl W
    have S := St.start W
    refine Fn_enter Tryz.func3 rfl Tryz.results3 Tryz.ntmps3 (by kernel_rfl) (by kernel_rfl) ?_
    repeat refine cw_seq ?_
    refine cw_region ?_
    refine rw_v (op_pure rfl) ?_
    first | refine rw_end ?_ | (refine rw_nil ?_; show CW _ _ _ _ _ _) | refine rw_nil ?_
    repeat refine cw_seq ?_
    refine cw_region ?_
    refine rw_call rfl (awake44_E W) ?_
    rintro _ w1_ ⟨rfl, g1_⟩
    have S := S.gr g1_
    refine rw_v (op_pure rfl) ?_
    first | refine rw_end ?_ | (refine rw_nil ?_; show CW _ _ _ _ _ _) | refine rw_nil ?_
    repeat refine cw_seq ?_
    refine cw_false rfl ?_
    repeat refine cw_seq ?_
    refine cw_skip ?_
    try show CW _ _ _ _ _ _
    repeat refine cw_seq ?_
    refine cw_region ?_
    iterate 3 refine rw_v (op_pure rfl) ?_
    refine rw_call rfl (landNo_E w h 200 cap (by omega) hl hok (hA.gr S.out)) ?_
    rintro _ w2_ ⟨rfl, g2_⟩
    have S := S.gr g2_
    iterate 3 refine rw_v (op_pure rfl) ?_
    refine rw_newB (op_alloc Tryz.zeroValue25 rfl) S ?_
    intro b_b3 w4_ g4_ S
    refine rw_storeSA (i := 0) S rfl (Tryz.sizeOf25 _) rfl rfl rfl rfl rfl rfl ?_
    intro w5_ S
    refine rw_v (op_pure rfl) ?_
    first | refine rw_end ?_ | (refine rw_nil ?_; show CW _ _ _ _ _ _) | refine rw_nil ?_
    repeat refine cw_seq ?_
    refine cw_region ?_
    iterate 3 refine rw_v (op_pure rfl) ?_
    first | refine rw_off rfl ?_ | (refine rw_on rfl ?_; refine rw_v (op_pure rfl) ?_)
    first | refine rw_off rfl ?_ | (refine rw_on rfl ?_; (first | refine rw_v (op_b (b := true) rfl (decide_eq_true (by omega))) ?_ | refine rw_v (op_b (b := false) rfl (decide_eq_false (by omega))) ?_ | refine rw_v (op_pure rfl) ?_))
    iterate 2 refine rw_v (op_pure rfl) ?_
    first | refine rw_off rfl ?_ | (refine rw_on rfl ?_; refine rw_v (op_pure rfl) ?_)
    first | refine rw_off rfl ?_ | (refine rw_on rfl ?_; (first | refine rw_v (op_b (b := true) rfl (decide_eq_true (by omega))) ?_ | refine rw_v (op_b (b := false) rfl (decide_eq_false (by omega))) ?_ | refine rw_v (op_pure rfl) ?_))
    refine rw_v (op_pure rfl) ?_
    first | refine rw_end ?_ | (refine rw_nil ?_; show CW _ _ _ _ _ _) | refine rw_nil ?_
    repeat refine cw_seq ?_
    refine cw_true rfl ?_
    repeat refine cw_seq ?_
    refine cw_region ?_
    refine rw_v (op_pure rfl) ?_
    first | refine rw_end ?_ | (refine rw_nil ?_; show CW _ _ _ _ _ _) | refine rw_nil ?_
    repeat refine cw_seq ?_
    refine cw_ret ?_
    repeat first | refine ret_then ?_ | refine ret_inb ?_
    exact res1 rfl ⟨rfl, S.out⟩
end
end Go.Proofs.YtbcgbcipigcbhaaGreat
/- What an argument reads stays what it was where all that was there stands as it was; a law's row out of that. -/
namespace Go.Proofs.YtbcgbcipigcbhaaGreat
open Go.RowKit Go.WideShapes Go.ChangeShapes
set_option linter.unusedVariables false
set_option linter.unusedSimpArgs false

section
variable {H : Type} {enc : TypeId × Value → H} {P : Program} {w w' : World} {base : Nat} {sp : Nat → Bool} {held : Bool}
theorem cells_lt {a : Addr} {n : Nat} {l : List Value} (h : w.cells? base a n = some l) (hn : 0 < n) : a.block < w.heap.size := by
  unfold World.cells? at h
  split at h
  · obtain ⟨y, hy⟩ := mapM_each h 0 (List.mem_range.2 hn)
    rcases Nat.lt_or_ge a.block w.heap.size with h' | h'
    · exact h'
    · have e : a.add 0 = a := rfl
      rw [e] at hy
      simp [World.cell?, Array.getElem?_eq_none h'] at hy
  · cases h
theorem add_block (a : Addr) (k : Nat) : (a.add k).block = a.block := by unfold Addr.add; split <;> rfl
theorem cells_stay (hc : ∀ a v, w.cell? a = some v → w'.cell? a = some v) {a : Addr} {n : Nat} {l : List Value} (h : w.cells? base a n = some l) : w'.cells? base a n = some l := by
  unfold World.cells? at h ⊢
  split at h
  · rename_i hb
    rw [if_pos hb]
    exact mapM_mono (fun i y hy => hc _ _ hy) h
  · cases h
theorem bind_stay {α β : Type} {x x' : Option α} {f f' : α → Option β} {y : β} (hx : ∀ a, x = some a → x' = some a) (hf : ∀ a b, f a = some b → f' a = some b) (h : x.bind f = some y) : x'.bind f' = some y := by
  obtain ⟨a, h1, h2⟩ := Option.bind_eq_some_iff.1 h
  exact Option.bind_eq_some_iff.2 ⟨a, hx a h1, hf a y h2⟩
theorem map_stay {α β : Type} {x x' : Option α} {f : α → β} {y : β} (hx : ∀ a, x = some a → x' = some a) (h : x.map f = some y) : x'.map f = some y := by
  obtain ⟨a, h1, h2⟩ := Option.map_eq_some_iff.1 h
  exact Option.map_eq_some_iff.2 ⟨a, hx a h1, h2⟩
theorem mapM_mem {α β : Type} {f g : α → Option β} : ∀ {l : List α} {r : List β}, (∀ x ∈ l, ∀ y, f x = some y → g x = some y) → l.mapM f = some r → l.mapM g = some r
  | [], r, _, h => by simpa using h
  | x :: xs, r, hfg, h => by
    rw [List.mapM_cons] at h ⊢
    obtain ⟨a, ha, h2⟩ := Option.bind_eq_some_iff.1 h
    obtain ⟨b, hb, h3⟩ := Option.bind_eq_some_iff.1 h2
    exact Option.bind_eq_some_iff.2 ⟨a, hfg x (by simp) a ha, Option.bind_eq_some_iff.2 ⟨b, mapM_mem (fun z hz => hfg z (by simp [hz])) hb, h3⟩⟩
/-- Types of plain data: numbers, bools, strings, structs, arrays and slices of such. -/
def plainB (P : Program) : Nat → TypeId → Bool
  | 0, _ => false
  | n + 1, t => match P.underlying t with
    | some .bool => true
    | some (.int _) => true
    | some (.float _) => true
    | some .string => true
    | some (.slice e) => Nat.blt 0 (P.cellsOf e) && plainB P n e
    | some (.struct fs) => fs.toList.all fun f => plainB P n f.type
    | some (.array _ e) => plainB P n e
    | _ => false
def Plain (P : Program) (t : TypeId) : Prop := ∃ n, plainB P n t = true
theorem Plain.slice {t e : TypeId} (h : Plain P t) (hu : P.underlying t = some (.slice e)) : 0 < P.cellsOf e ∧ Plain P e := by
  obtain ⟨n, h⟩ := h
  cases n with
  | zero => cases h
  | succ n =>
    simp only [plainB, hu, Bool.and_eq_true] at h
    exact ⟨Nat.le_of_ble_eq_true h.1, n, h.2⟩
theorem Plain.struct {t : TypeId} {fs : Array Field} (h : Plain P t) (hu : P.underlying t = some (.struct fs)) {f : Field} (hf : f ∈ fs.toList) : Plain P f.type := by
  obtain ⟨n, h⟩ := h
  cases n with
  | zero => cases h
  | succ n =>
    simp only [plainB, hu] at h
    exact ⟨n, List.all_eq_true.1 h f hf⟩
theorem Plain.array {t e : TypeId} {m : Nat} (h : Plain P t) (hu : P.underlying t = some (.array m e)) : Plain P e := by
  obtain ⟨n, h⟩ := h
  cases n with
  | zero => cases h
  | succ n =>
    simp only [plainB, hu] at h
    exact ⟨n, h⟩
theorem Plain.noptr {t e : TypeId} (h : Plain P t) (hu : P.underlying t = some (.pointer e)) : False := by
  obtain ⟨n, h⟩ := h
  cases n with
  | zero => cases h
  | succ n => simp [plainB, hu] at h
theorem Plain.noiface {t : TypeId} {ms : Array (String × TypeId)} (h : Plain P t) (hu : P.underlying t = some (.interface ms)) : False := by
  obtain ⟨n, h⟩ := h
  cases n with
  | zero => cases h
  | succ n => simp [plainB, hu] at h
theorem Plain.nomap {t k e : TypeId} (h : Plain P t) (hu : P.underlying t = some (.map k e)) : False := by
  obtain ⟨n, h⟩ := h
  cases n with
  | zero => cases h
  | succ n => simp [plainB, hu] at h
theorem step_stay (hc : ∀ a v, w.cell? a = some v → w'.cell? a = some v) {r r' : TypeId → List Value → Option (DataW H × List MemPlace)}
    (hr : ∀ t, Plain P t → ∀ cs x, r t cs = some x → r' t cs = some x) (hsp : ∀ b, b < w.heap.size → sp b = true) {t : TypeId} (ht : Plain P t) {cs : List Value} {x : DataW H × List MemPlace} (h : DataW.trodStep enc P w base (fun _ => true) held r t cs = some x) : DataW.trodStep enc P w' base sp held r' t cs = some x := by
  unfold DataW.trodStep at h ⊢
  split at h
  case h_6 => rename_i heq; exact (ht.noptr heq).elim
  case h_8 =>
    rename_i e a len cap heq
    have hz := ht.slice heq
    dsimp only at h ⊢
    split at h
    · rename_i hb
      rw [if_pos hb]
      refine bind_stay (fun _ => mapM_mono (fun i y => bind_stay (fun _ => cells_stay hc) (fun _ _ => hr _ hz.2 _ _))) (fun elems z => map_stay (fun rest hrest => ?_)) h
      rw [if_pos rfl] at hrest
      by_cases hs : sp a.block = true
      · rw [if_pos hs]
        exact mapM_mono (fun j y => bind_stay (fun _ => cells_stay hc) (fun _ _ => hr _ hz.2 _ _)) hrest
      · rw [if_neg hs]
        by_cases hcl : cap - len = 0
        · rw [hcl] at hrest
          simpa using hrest
        · obtain ⟨y, hy⟩ := mapM_each hrest 0 (List.mem_range.2 (by omega))
          obtain ⟨l, hl, _⟩ := Option.bind_eq_some_iff.1 hy
          have := cells_lt hl hz.1
          rw [add_block] at this
          exact absurd (hsp _ this) hs
    · cases h
  case h_9 =>
    rename_i heq
    split at h
    · rename_i hb
      rw [if_pos hb]
      exact map_stay (fun _ => mapM_mem (fun f hf y => hr _ (ht.struct heq hf) _ _)) h
    · cases h
  case h_10 =>
    rename_i heq
    split at h
    · rename_i hb
      rw [if_pos hb]
      exact map_stay (fun _ => mapM_mono (fun f y => hr _ (ht.array heq) _ _)) h
    · cases h
  case h_12 => rename_i heq; exact (ht.noiface heq).elim
  case h_14 => rename_i heq; exact (ht.nomap heq).elim
  all_goals first | exact h | (cases h; done)
theorem trod_stay_ (hc : ∀ a v, w.cell? a = some v → w'.cell? a = some v) (hsp : ∀ b, b < w.heap.size → sp b = true) :
    ∀ (n : Nat) (t : TypeId), Plain P t → ∀ (cs : List Value) (x : DataW H × List MemPlace), DataW.trod enc P w base (fun _ => true) held n t cs = some x → DataW.trod enc P w' base sp held n t cs = some x
  | 0, t, _, cs, x, h => by simp [DataW.trod] at h
  | n + 1, t, ht, cs, x, h => step_stay hc (trod_stay_ hc hsp n) hsp ht h
theorem Gr.cells {W W' : World} (g : Gr W W') (a : Addr) (v : Value) (h : W.cell? a = some v) : W'.cell? a = some v := by
  have hlt : a.block < W.heap.size := by
    rcases Nat.lt_or_ge a.block W.heap.size with h' | h'
    · exact h'
    · simp [World.cell?, Array.getElem?_eq_none h'] at h
  rw [World.cell?_of_block (g.block _ hlt)]
  exact h
theorem trodAll_gr {W W' : World} (g : Gr W W') (hsp : ∀ b, b < W.heap.size → sp b = true) : ∀ {ts : List TypeId} {vs : List Value} {ds : List (DataW H)} {p : List MemPlace}, (∀ t ∈ ts, Plain P t) → DataW.TrodAll enc P W base (fun _ => true) held ts vs ds p → DataW.TrodAll enc P W' base sp held ts vs ds p
  | [], vs, ds, p, _, h => by cases vs <;> cases ds <;> first | exact h | cases h
  | t :: ts, vs, ds, p, ht, h => by
    obtain ⟨v, vs', d, ds', p, q, rfl, rfl, rfl, ⟨f, h1⟩, h2⟩ := trodAll_cons h
    exact trodAll_cons_mk ⟨f, trod_stay_ g.cells hsp f _ (ht t (by simp)) _ _ h1⟩ (trodAll_gr g hsp (fun t h => ht t (by simp [h])) h2)
theorem plain_all {ts : List TypeId} (h : (ts.all fun t => plainB P 8 t) = true) : ∀ t ∈ ts, Plain P t := fun t ht => ⟨8, List.all_eq_true.1 h t ht⟩
/-- A law that answers true and leaves what was there as it was. -/
theorem post_of_gr {f : Func} {s : ChangeSpec} {apart fresh handsOn again : Bool} {W W' : World} {args : Array Value} {v : Value} {ds gs : List (DataW H)} {before : List MemPlace} (hz : ∀ t ∈ f.params.toList, Plain P t)
    (hW : DataW.Whole enc P f.params.toList s.vars apart W args.toList ds gs before) (hv : s.vars = []) (hg : Gr W W') (ha : (s.fn H (ds ++ gs)).args = ds) (hvs : (s.fn H (ds ++ gs)).vars = [])
    (hres : ∀ (b : Nat) (sp : Nat → Bool) (hd : Bool), DataW.TrodAll enc P W' b sp hd f.resultTypes.toList (v.resultList f.resultTypes.size) (s.fn H (ds ++ gs)).results [])
    (hok : ∀ (j : Nat) (t : TypeId) (r : Value), f.resultTypes[j]? = some t → (v.resultList f.resultTypes.size)[j]? = some r → Value.okWide P W' .any 0 t r) :
    s.post enc P f apart fresh handsOn again W args v W' := by
  have hW' := hW
  obtain ⟨p, q, hA, hV, rfl, hfz, hnd⟩ := hW
  rw [hv] at hV
  obtain ⟨rfl, rfl⟩ := trodVars_none hV
  have hlt : ∀ x ∈ p ++ [], x.block < W.heap.size := fun x hx => hW'.lt x hx
  have hold : ∀ b, b < W.heap.size → (fun b => decide (b < W.heap.size)) b = true := fun b hb => by simpa using hb
  have h1 : ∀ sp : Nat → Bool, (∀ b, b < W.heap.size → sp b = true) → DataW.TrodAll enc P W' 0 sp true f.params.toList args.toList (s.fn H (ds ++ [])).args p := fun sp hsp => by rw [ha]; exact trodAll_gr hg hsp hz hA
  have hvr : ∀ sp : Nat → Bool, DataW.TrodVars enc P W' sp s.vars (s.fn H (ds ++ [])).vars [] := fun sp => by rw [hv, hvs]; rfl
  refine ⟨ds, [], p ++ [], [], p, [], hW', hres _ _ _, h1 _ hold, hvr _, World.keptBut_mono (fun x hx => ⟨hx, ?_⟩) (hg.frame (· ∈ p ++ [])), fun _ => ?_⟩
  · rw [List.mem_append] at hx
    exact Or.inr hx
  · refine ⟨hok, _, _, ([] ++ p) ++ [], ⟨[] ++ p, [], trodAll_append (h1 _ (fun _ _ => rfl)) (hres _ _ _), hvr _, rfl, ?_, ?_⟩, ?_⟩
    · intro b off hp
      have hin : MemPlace.cell b off ∈ p ++ [] := by simpa using hp
      rw [Below.frozen hg (hlt _ hin)]
      exact hfz b off hin
    · intro hap
      have := hnd hap
      simpa using this
    · intro x hp _
      simpa using hp
end
end Go.Proofs.YtbcgbcipigcbhaaGreat
/- Arguments, opened: numbers, lists of numbers, cells, rectangles. -/
namespace Go.Proofs.YtbcgbcipigcbhaaGreat.args
open Go.ChangeShapes Go.WideShapes Go.ChangeAt Go.RowKit Go.Joins
set_option linter.unusedVariables false
set_option linter.unusedSimpArgs false
set_option maxRecDepth 100000

theorem ints_of {H : Type} {enc : TypeId × Value → H} {W : World} {base : Nat} {held : Bool} {fuel : Nat} {v : Value} {x : DataW H × List MemPlace} (h : DataW.trod enc Tryz.prog W base (fun _ => true) held fuel 22 [v] = some x) :
    ∃ A c xs, v = .slice A xs.length c ∧ xs.length ≤ 9223372036854775807 ∧ (∀ b ∈ xs, -9223372036854775808 ≤ b ∧ b ≤ 9223372036854775807) ∧ Rd W A (ints xs) := by
  rcases open_ints Tryz.underlying22 Tryz.underlying2 (by kernel_rfl) h with ⟨h1, _⟩ | ⟨a, len, cap, zs, h1, _, hl, hmx, hz, _, hc, hw⟩
  · injection h1 with h1
    subst h1
    exact ⟨_, _, [], rfl, by simp, (by intro b hb; cases hb), .inl rfl⟩
  · injection h1 with h1
    subst h1
    rw [if_pos rfl] at hz
    have hlen : (zs.take len).length = len := by simp; omega
    refine ⟨some a, cap, zs.take len, by rw [hlen], by rw [hlen]; unfold maxLen at hmx; omega, fun b hb => ?_, ?_⟩
    · have := hw b (List.mem_of_mem_take hb)
      simpa [Lit.wf, IntKind.min, IntKind.max, IntKind.signed, IntKind.bits] using this
    · by_cases h0 : len = 0
      · subst h0; exact .inl rfl
      · have hc0 := hc 0 (by omega)
        have e0 : a.add 0 = a := rfl
        rw [e0] at hc0
        have hlt : a.block < W.heap.size := by
          rcases Nat.lt_or_ge a.block W.heap.size with h' | h'
          · exact h'
          · simp [World.cell?, Array.getElem?_eq_none h'] at hc0
        have hsp : a.spot = none := by
          unfold World.cell? at hc0
          split at hc0
          · split at hc0
            · cases hc0
            · rename_i h; simpa using h
          · cases hc0
        obtain ⟨b, o, sp⟩ := a
        dsimp only at hsp hlt
        subst hsp
        refine .inr ⟨b, o, rfl, hlt, fun j v hj => ?_⟩
        have h3 : j < (ints (zs.take len)).length := (List.getElem?_eq_some_iff.1 hj).1
        rw [ints_len, hlen] at h3
        have h4 := hc j (by omega)
        rw [addr_add] at h4
        rw [h4, ← hj, ints, List.getElem?_map, List.getElem?_take, if_pos (by omega), List.getD_eq_getElem?_getD, List.getElem?_eq_getElem (by omega)]
        rfl
theorem list_of {H : Type} {enc : TypeId × Value → H} {W : World} {base : Nat} {held : Bool} {v : Value} {d : DataW H} {p : List MemPlace} (hv : Value.okWide Tryz.prog W .any base 22 v) (h : DataW.Trod enc Tryz.prog W 0 (fun _ => true) held 22 v d p) :
    ∃ A c xs, v = .slice A xs.length c ∧ xs.length ≤ 9223372036854775807 ∧ (∀ b ∈ xs, -9223372036854775808 ≤ b ∧ b ≤ 9223372036854775807) ∧ Rd W A (ints xs) := by
  obtain ⟨A, n, c, rfl⟩ := okWide_slice Tryz.underlying22 hv
  obtain ⟨f, t⟩ := h
  exact ints_of t
theorem num_of {H : Type} {enc : TypeId × Value → H} {W : World} {base : Nat} {held : Bool} {v : Value} {d : DataW H} {p : List MemPlace} {t : TypeId} (ht : Tryz.prog.underlying t = some (.int .i64)) (hv : Value.okWide Tryz.prog W .any base t v) (h : DataW.Trod enc Tryz.prog W 0 (fun _ => true) held t v d p) :
    ∃ n : Int, v = .int .i64 n ∧ -9223372036854775808 ≤ n ∧ n ≤ 9223372036854775807 := by
  obtain ⟨n, rfl, _, _, w⟩ := open_int ht hv h
  have : -9223372036854775808 ≤ n ∧ n ≤ 9223372036854775807 := by simpa [Lit.wf, IntKind.min, IntKind.max, IntKind.signed, IntKind.bits] using w
  exact ⟨n, rfl, this.1, this.2⟩

/-! ### Cells, rectangles -/
def i64B (n : Int) : Prop := -9223372036854775808 ≤ n ∧ n ≤ 9223372036854775807
theorem cell_of {H : Type} {enc : TypeId × Value → H} {W : World} {base : Nat} {held : Bool} {v : Value} {d : DataW H} {p : List MemPlace} (hv : Value.okWide Tryz.prog W .any base 50 v) (h : DataW.Trod enc Tryz.prog W 0 (fun _ => true) held 50 v d p) :
    ∃ x y : Int, v = .agg #[.int .i64 x, .int .i64 y] ∧ i64B x ∧ i64B y := by
  obtain ⟨u0, u1, y0, y1, n, rfl, _, _, t0, t1⟩ := open_agg2 Tryz.underlying50 (by kernel_rfl) (by kernel_rfl) hv h
  obtain ⟨a, e0, _, w0⟩ := DataW.trod_int Tryz.underlying2 t0
  obtain ⟨b, e1, _, w1⟩ := DataW.trod_int Tryz.underlying2 t1
  injection e0 with e0; injection e1 with e1
  subst e0; subst e1
  exact ⟨a, b, rfl, by simpa [i64B, Lit.wf, IntKind.min, IntKind.max, IntKind.signed, IntKind.bits] using w0, by simpa [i64B, Lit.wf, IntKind.min, IntKind.max, IntKind.signed, IntKind.bits] using w1⟩
theorem rect_of {H : Type} {enc : TypeId × Value → H} {W : World} {base : Nat} {held : Bool} {v : Value} {d : DataW H} {p : List MemPlace} (hv : Value.okWide Tryz.prog W .any base 38 v) (h : DataW.Trod enc Tryz.prog W 0 (fun _ => true) held 38 v d p) :
    ∃ x0 y0 x1 y1 : Int, v = .agg #[.int .i64 x0, .int .i64 y0, .int .i64 x1, .int .i64 y1] ∧ i64B x0 ∧ i64B y0 ∧ i64B x1 ∧ i64B y1 := by
  obtain ⟨u0, u1, u2, u3, y0, y1, y2, y3, n, rfl, _, _, t0, t1, t2, t3⟩ := open_agg4 Tryz.underlying38 (by kernel_rfl) (by kernel_rfl) hv h
  obtain ⟨a, e0, _, w0⟩ := DataW.trod_int Tryz.underlying2 t0
  obtain ⟨b, e1, _, w1⟩ := DataW.trod_int Tryz.underlying2 t1
  obtain ⟨c, e2, _, w2⟩ := DataW.trod_int Tryz.underlying2 t2
  obtain ⟨f, e3, _, w3⟩ := DataW.trod_int Tryz.underlying2 t3
  injection e0 with e0; injection e1 with e1; injection e2 with e2; injection e3 with e3
  subst e0; subst e1; subst e2; subst e3
  exact ⟨a, b, c, f, rfl, by simpa [i64B, Lit.wf, IntKind.min, IntKind.max, IntKind.signed, IntKind.bits] using w0, by simpa [i64B, Lit.wf, IntKind.min, IntKind.max, IntKind.signed, IntKind.bits] using w1,
    by simpa [i64B, Lit.wf, IntKind.min, IntKind.max, IntKind.signed, IntKind.bits] using w2, by simpa [i64B, Lit.wf, IntKind.min, IntKind.max, IntKind.signed, IntKind.bits] using w3⟩
end Go.Proofs.YtbcgbcipigcbhaaGreat.args
