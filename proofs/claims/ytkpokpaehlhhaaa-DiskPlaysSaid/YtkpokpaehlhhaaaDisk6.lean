/- A disk that isn't there: the walk. -/
import Derived.Test.YtkpokpaehlhhaaaDisk5
namespace Go.Proofs.Ytkpokpaehlhhaaa
open Go.RowKit
set_option linter.unusedVariables false
set_option linter.unusedSimpArgs false
set_option maxRecDepth 100000

theorem doesNil_E (k file N : Int) (A : Option Addr) (n c : Nat) (hk : 0 ≤ k ∧ k < 5) (W : World) : Fn Try.prog 12 [.pointer none, .agg #[.int .u8 k, .int .i64 file, .slice A n c, .int .i64 N]] W (RetG (.int .i64 1) W) := by
  have G0 := Gr.refl W
  have h5 : k = 0 ∨ k = 1 ∨ k = 2 ∨ k = 3 ∨ k = 4 := by omega
  rcases h5 with rfl | rfl | rfl | rfl | rfl
  · refine Fn_enter Try.func12 rfl Try.results12 Try.ntmps12 (by kernel_rfl) (by kernel_rfl) ?_
    repeat refine cw_seq ?_
    refine cw_region ?_
    try have qb1_ := G0.le
    refine rw_new (op_box rfl) ?_
    intro w1_ g1_ s1_ b1_
    have G0 := G0.trans g1_
    refine rw_v (op_pure rfl) ?_
    first | refine rw_end ?_ | (refine rw_nil ?_; show CW _ _ _ _ _ _) | refine rw_nil ?_
    repeat refine cw_seq ?_
    refine cw_region ?_
    refine rw_v (op_fieldAddr Try.underlying37 rfl Try.sizeOf5 rfl rfl) ?_
    refine rw_r (op_loadB Try.underlying5 rfl rfl b1_ rfl) ?_
    first | refine rw_end ?_ | (refine rw_nil ?_; show CW _ _ _ _ _ _) | refine rw_nil ?_
    repeat refine cw_seq ?_
    refine cw_block ?_
    repeat refine cw_seq ?_
    refine cw_region ?_
    first | refine rw_v (op_b (b := true) rfl (beq_iff_eq.2 (by omega))) ?_ | refine rw_v (op_b (b := false) rfl (beq_eq_false_iff_ne.2 (by omega))) ?_ | refine rw_v (op_pure rfl) ?_
    refine rw_v (op_pure rfl) ?_
    first | refine rw_end ?_ | (refine rw_nil ?_; show CW _ _ _ _ _ _) | refine rw_nil ?_
    repeat refine cw_seq ?_
    refine cw_true rfl ?_
    repeat refine cw_seq ?_
    refine cw_region ?_
    refine rw_v (op_pure rfl) ?_
    refine rw_v (op_fieldAddr Try.underlying37 rfl Try.sizeOf3 rfl rfl) ?_
    refine rw_r (op_loadB Try.underlying3 rfl rfl b1_ rfl) ?_
    refine rw_v (op_fieldAddr Try.underlying37 rfl Try.sizeOf29 rfl rfl) ?_
    refine rw_r (op_loadB Try.underlying29 rfl rfl b1_ rfl) ?_
    refine rw_call rfl (dappNil_E _ _ _) ?_
    rintro _ w9 ⟨rfl, g9⟩
    have G0 := G0.trans g9
    have b1_ := b1_.gr g9
    refine rw_v (op_pure rfl) ?_
    first | refine rw_end ?_ | (refine rw_nil ?_; show CW _ _ _ _ _ _) | refine rw_nil ?_
    refine cw_ret ?_
    repeat first | refine ret_then ?_ | refine ret_inb ?_
    exact res1 rfl ⟨rfl, G0⟩
  · refine Fn_enter Try.func12 rfl Try.results12 Try.ntmps12 (by kernel_rfl) (by kernel_rfl) ?_
    repeat refine cw_seq ?_
    refine cw_region ?_
    try have qb1_ := G0.le
    refine rw_new (op_box rfl) ?_
    intro w1_ g1_ s1_ b1_
    have G0 := G0.trans g1_
    refine rw_v (op_pure rfl) ?_
    first | refine rw_end ?_ | (refine rw_nil ?_; show CW _ _ _ _ _ _) | refine rw_nil ?_
    repeat refine cw_seq ?_
    refine cw_region ?_
    refine rw_v (op_fieldAddr Try.underlying37 rfl Try.sizeOf5 rfl rfl) ?_
    refine rw_r (op_loadB Try.underlying5 rfl rfl b1_ rfl) ?_
    first | refine rw_end ?_ | (refine rw_nil ?_; show CW _ _ _ _ _ _) | refine rw_nil ?_
    repeat refine cw_seq ?_
    refine cw_block ?_
    repeat refine cw_seq ?_
    refine cw_region ?_
    first | refine rw_v (op_b (b := true) rfl (beq_iff_eq.2 (by omega))) ?_ | refine rw_v (op_b (b := false) rfl (beq_eq_false_iff_ne.2 (by omega))) ?_ | refine rw_v (op_pure rfl) ?_
    refine rw_v (op_pure rfl) ?_
    first | refine rw_end ?_ | (refine rw_nil ?_; show CW _ _ _ _ _ _) | refine rw_nil ?_
    repeat refine cw_seq ?_
    refine cw_false rfl ?_
    repeat refine cw_seq ?_
    refine cw_region ?_
    first | refine rw_v (op_b (b := true) rfl (beq_iff_eq.2 (by omega))) ?_ | refine rw_v (op_b (b := false) rfl (beq_eq_false_iff_ne.2 (by omega))) ?_ | refine rw_v (op_pure rfl) ?_
    refine rw_v (op_pure rfl) ?_
    first | refine rw_end ?_ | (refine rw_nil ?_; show CW _ _ _ _ _ _) | refine rw_nil ?_
    repeat refine cw_seq ?_
    refine cw_true rfl ?_
    repeat refine cw_seq ?_
    refine cw_region ?_
    refine rw_v (op_pure rfl) ?_
    refine rw_v (op_fieldAddr Try.underlying37 rfl Try.sizeOf3 rfl rfl) ?_
    refine rw_r (op_loadB Try.underlying3 rfl rfl b1_ rfl) ?_
    refine rw_v (op_fieldAddr Try.underlying37 rfl Try.sizeOf2 rfl rfl) ?_
    refine rw_r (op_loadB Try.underlying2 rfl rfl b1_ rfl) ?_
    refine rw_call rfl (dcutNil_E _ _ _) ?_
    rintro _ w9 ⟨rfl, g9⟩
    have G0 := G0.trans g9
    have b1_ := b1_.gr g9
    refine rw_v (op_pure rfl) ?_
    first | refine rw_end ?_ | (refine rw_nil ?_; show CW _ _ _ _ _ _) | refine rw_nil ?_
    refine cw_ret ?_
    repeat first | refine ret_then ?_ | refine ret_inb ?_
    exact res1 rfl ⟨rfl, G0⟩
  · refine Fn_enter Try.func12 rfl Try.results12 Try.ntmps12 (by kernel_rfl) (by kernel_rfl) ?_
    repeat refine cw_seq ?_
    refine cw_region ?_
    try have qb1_ := G0.le
    refine rw_new (op_box rfl) ?_
    intro w1_ g1_ s1_ b1_
    have G0 := G0.trans g1_
    refine rw_v (op_pure rfl) ?_
    first | refine rw_end ?_ | (refine rw_nil ?_; show CW _ _ _ _ _ _) | refine rw_nil ?_
    repeat refine cw_seq ?_
    refine cw_region ?_
    refine rw_v (op_fieldAddr Try.underlying37 rfl Try.sizeOf5 rfl rfl) ?_
    refine rw_r (op_loadB Try.underlying5 rfl rfl b1_ rfl) ?_
    first | refine rw_end ?_ | (refine rw_nil ?_; show CW _ _ _ _ _ _) | refine rw_nil ?_
    repeat refine cw_seq ?_
    refine cw_block ?_
    repeat refine cw_seq ?_
    refine cw_region ?_
    first | refine rw_v (op_b (b := true) rfl (beq_iff_eq.2 (by omega))) ?_ | refine rw_v (op_b (b := false) rfl (beq_eq_false_iff_ne.2 (by omega))) ?_ | refine rw_v (op_pure rfl) ?_
    refine rw_v (op_pure rfl) ?_
    first | refine rw_end ?_ | (refine rw_nil ?_; show CW _ _ _ _ _ _) | refine rw_nil ?_
    repeat refine cw_seq ?_
    refine cw_false rfl ?_
    repeat refine cw_seq ?_
    refine cw_region ?_
    first | refine rw_v (op_b (b := true) rfl (beq_iff_eq.2 (by omega))) ?_ | refine rw_v (op_b (b := false) rfl (beq_eq_false_iff_ne.2 (by omega))) ?_ | refine rw_v (op_pure rfl) ?_
    refine rw_v (op_pure rfl) ?_
    first | refine rw_end ?_ | (refine rw_nil ?_; show CW _ _ _ _ _ _) | refine rw_nil ?_
    repeat refine cw_seq ?_
    refine cw_false rfl ?_
    repeat refine cw_seq ?_
    refine cw_region ?_
    first | refine rw_v (op_b (b := true) rfl (beq_iff_eq.2 (by omega))) ?_ | refine rw_v (op_b (b := false) rfl (beq_eq_false_iff_ne.2 (by omega))) ?_ | refine rw_v (op_pure rfl) ?_
    refine rw_v (op_pure rfl) ?_
    first | refine rw_end ?_ | (refine rw_nil ?_; show CW _ _ _ _ _ _) | refine rw_nil ?_
    repeat refine cw_seq ?_
    refine cw_true rfl ?_
    repeat refine cw_seq ?_
    refine cw_region ?_
    refine rw_v (op_pure rfl) ?_
    refine rw_call rfl (dsyncNil_E _) ?_
    rintro _ w9 ⟨rfl, g9⟩
    have G0 := G0.trans g9
    have b1_ := b1_.gr g9
    refine rw_v (op_pure rfl) ?_
    first | refine rw_end ?_ | (refine rw_nil ?_; show CW _ _ _ _ _ _) | refine rw_nil ?_
    refine cw_ret ?_
    repeat first | refine ret_then ?_ | refine ret_inb ?_
    exact res1 rfl ⟨rfl, G0⟩
  · refine Fn_enter Try.func12 rfl Try.results12 Try.ntmps12 (by kernel_rfl) (by kernel_rfl) ?_
    repeat refine cw_seq ?_
    refine cw_region ?_
    try have qb1_ := G0.le
    refine rw_new (op_box rfl) ?_
    intro w1_ g1_ s1_ b1_
    have G0 := G0.trans g1_
    refine rw_v (op_pure rfl) ?_
    first | refine rw_end ?_ | (refine rw_nil ?_; show CW _ _ _ _ _ _) | refine rw_nil ?_
    repeat refine cw_seq ?_
    refine cw_region ?_
    refine rw_v (op_fieldAddr Try.underlying37 rfl Try.sizeOf5 rfl rfl) ?_
    refine rw_r (op_loadB Try.underlying5 rfl rfl b1_ rfl) ?_
    first | refine rw_end ?_ | (refine rw_nil ?_; show CW _ _ _ _ _ _) | refine rw_nil ?_
    repeat refine cw_seq ?_
    refine cw_block ?_
    repeat refine cw_seq ?_
    refine cw_region ?_
    first | refine rw_v (op_b (b := true) rfl (beq_iff_eq.2 (by omega))) ?_ | refine rw_v (op_b (b := false) rfl (beq_eq_false_iff_ne.2 (by omega))) ?_ | refine rw_v (op_pure rfl) ?_
    refine rw_v (op_pure rfl) ?_
    first | refine rw_end ?_ | (refine rw_nil ?_; show CW _ _ _ _ _ _) | refine rw_nil ?_
    repeat refine cw_seq ?_
    refine cw_false rfl ?_
    repeat refine cw_seq ?_
    refine cw_region ?_
    first | refine rw_v (op_b (b := true) rfl (beq_iff_eq.2 (by omega))) ?_ | refine rw_v (op_b (b := false) rfl (beq_eq_false_iff_ne.2 (by omega))) ?_ | refine rw_v (op_pure rfl) ?_
    refine rw_v (op_pure rfl) ?_
    first | refine rw_end ?_ | (refine rw_nil ?_; show CW _ _ _ _ _ _) | refine rw_nil ?_
    repeat refine cw_seq ?_
    refine cw_false rfl ?_
    repeat refine cw_seq ?_
    refine cw_region ?_
    first | refine rw_v (op_b (b := true) rfl (beq_iff_eq.2 (by omega))) ?_ | refine rw_v (op_b (b := false) rfl (beq_eq_false_iff_ne.2 (by omega))) ?_ | refine rw_v (op_pure rfl) ?_
    refine rw_v (op_pure rfl) ?_
    first | refine rw_end ?_ | (refine rw_nil ?_; show CW _ _ _ _ _ _) | refine rw_nil ?_
    repeat refine cw_seq ?_
    refine cw_false rfl ?_
    repeat refine cw_seq ?_
    refine cw_region ?_
    first | refine rw_v (op_b (b := true) rfl (beq_iff_eq.2 (by omega))) ?_ | refine rw_v (op_b (b := false) rfl (beq_eq_false_iff_ne.2 (by omega))) ?_ | refine rw_v (op_pure rfl) ?_
    refine rw_v (op_pure rfl) ?_
    first | refine rw_end ?_ | (refine rw_nil ?_; show CW _ _ _ _ _ _) | refine rw_nil ?_
    repeat refine cw_seq ?_
    refine cw_true rfl ?_
    repeat refine cw_seq ?_
    refine cw_region ?_
    refine rw_v (op_pure rfl) ?_
    refine rw_v (op_fieldAddr Try.underlying37 rfl Try.sizeOf2 rfl rfl) ?_
    refine rw_r (op_loadB Try.underlying2 rfl rfl b1_ rfl) ?_
    refine rw_call rfl (dfuseNil_E _ _) ?_
    rintro _ w9 ⟨rfl, g9⟩
    have G0 := G0.trans g9
    have b1_ := b1_.gr g9
    refine rw_v (op_pure rfl) ?_
    first | refine rw_end ?_ | (refine rw_nil ?_; show CW _ _ _ _ _ _) | refine rw_nil ?_
    refine cw_ret ?_
    repeat first | refine ret_then ?_ | refine ret_inb ?_
    exact res1 rfl ⟨rfl, G0⟩
  · refine Fn_enter Try.func12 rfl Try.results12 Try.ntmps12 (by kernel_rfl) (by kernel_rfl) ?_
    repeat refine cw_seq ?_
    refine cw_region ?_
    try have qb1_ := G0.le
    refine rw_new (op_box rfl) ?_
    intro w1_ g1_ s1_ b1_
    have G0 := G0.trans g1_
    refine rw_v (op_pure rfl) ?_
    first | refine rw_end ?_ | (refine rw_nil ?_; show CW _ _ _ _ _ _) | refine rw_nil ?_
    repeat refine cw_seq ?_
    refine cw_region ?_
    refine rw_v (op_fieldAddr Try.underlying37 rfl Try.sizeOf5 rfl rfl) ?_
    refine rw_r (op_loadB Try.underlying5 rfl rfl b1_ rfl) ?_
    first | refine rw_end ?_ | (refine rw_nil ?_; show CW _ _ _ _ _ _) | refine rw_nil ?_
    repeat refine cw_seq ?_
    refine cw_block ?_
    repeat refine cw_seq ?_
    refine cw_region ?_
    first | refine rw_v (op_b (b := true) rfl (beq_iff_eq.2 (by omega))) ?_ | refine rw_v (op_b (b := false) rfl (beq_eq_false_iff_ne.2 (by omega))) ?_ | refine rw_v (op_pure rfl) ?_
    refine rw_v (op_pure rfl) ?_
    first | refine rw_end ?_ | (refine rw_nil ?_; show CW _ _ _ _ _ _) | refine rw_nil ?_
    repeat refine cw_seq ?_
    refine cw_false rfl ?_
    repeat refine cw_seq ?_
    refine cw_region ?_
    first | refine rw_v (op_b (b := true) rfl (beq_iff_eq.2 (by omega))) ?_ | refine rw_v (op_b (b := false) rfl (beq_eq_false_iff_ne.2 (by omega))) ?_ | refine rw_v (op_pure rfl) ?_
    refine rw_v (op_pure rfl) ?_
    first | refine rw_end ?_ | (refine rw_nil ?_; show CW _ _ _ _ _ _) | refine rw_nil ?_
    repeat refine cw_seq ?_
    refine cw_false rfl ?_
    repeat refine cw_seq ?_
    refine cw_region ?_
    first | refine rw_v (op_b (b := true) rfl (beq_iff_eq.2 (by omega))) ?_ | refine rw_v (op_b (b := false) rfl (beq_eq_false_iff_ne.2 (by omega))) ?_ | refine rw_v (op_pure rfl) ?_
    refine rw_v (op_pure rfl) ?_
    first | refine rw_end ?_ | (refine rw_nil ?_; show CW _ _ _ _ _ _) | refine rw_nil ?_
    repeat refine cw_seq ?_
    refine cw_false rfl ?_
    repeat refine cw_seq ?_
    refine cw_region ?_
    first | refine rw_v (op_b (b := true) rfl (beq_iff_eq.2 (by omega))) ?_ | refine rw_v (op_b (b := false) rfl (beq_eq_false_iff_ne.2 (by omega))) ?_ | refine rw_v (op_pure rfl) ?_
    refine rw_v (op_pure rfl) ?_
    first | refine rw_end ?_ | (refine rw_nil ?_; show CW _ _ _ _ _ _) | refine rw_nil ?_
    repeat refine cw_seq ?_
    refine cw_false rfl ?_
    repeat refine cw_seq ?_
    refine cw_region ?_
    first | refine rw_v (op_b (b := true) rfl (beq_iff_eq.2 (by omega))) ?_ | refine rw_v (op_b (b := false) rfl (beq_eq_false_iff_ne.2 (by omega))) ?_ | refine rw_v (op_pure rfl) ?_
    refine rw_v (op_pure rfl) ?_
    first | refine rw_end ?_ | (refine rw_nil ?_; show CW _ _ _ _ _ _) | refine rw_nil ?_
    repeat refine cw_seq ?_
    refine cw_true rfl ?_
    repeat refine cw_seq ?_
    refine cw_region ?_
    refine rw_v (op_pure rfl) ?_
    refine rw_v (op_fieldAddr Try.underlying37 rfl Try.sizeOf2 rfl rfl) ?_
    refine rw_r (op_loadB Try.underlying2 rfl rfl b1_ rfl) ?_
    refine rw_call rfl (dcrashNil_E _ _) ?_
    rintro _ w9 ⟨rfl, g9⟩
    have G0 := G0.trans g9
    have b1_ := b1_.gr g9
    refine rw_v (op_pure rfl) ?_
    first | refine rw_end ?_ | (refine rw_nil ?_; show CW _ _ _ _ _ _) | refine rw_nil ?_
    refine cw_ret ?_
    repeat first | refine ret_then ?_ | refine ret_inb ?_
    exact res1 rfl ⟨rfl, G0⟩

theorem R1.store {w w' : World} {el : TypeId} {g n c k : Nat} {xs l : List Value} {u : Value} (h : R1 w el (.slice (some ⟨g, 0, none⟩) n c) xs) (hB : Blk w g el l) (hB' : Blk w' g el (l.set k u)) : R1 w' el (.slice (some ⟨g, 0, none⟩) n c) (xs.set k u) := by
  obtain ⟨h1, h2⟩ := h
  rcases h2 with ⟨hv, _⟩ | ⟨g', cap, cur, hv, hb, hh, hnc, hcm, hs, ht⟩
  · cases hv
  · cases hv
    have e : cur = l.toArray := by
      have := hh.symm.trans hB
      simpa using this
    subst e
    refine ⟨by simp, .inr ⟨g, c, (l.set k u).toArray, by simp, by omega, hB', by simpa using hnc, hcm, by simpa using hs, ?_⟩⟩
    simp only [List.length_set, Nat.mul_one] at ht ⊢
    rw [List.take_set, ht]
def one200 (bs : List Int) : DS := ⟨200, ([], []), addsOf 0 bs, (bs, []), false, 0, false⟩
theorem deed200 (bs : List Int) : (newDS 200).deed (addsOf 0 bs) = (0, one200 bs) := by
  have h := runs_adds0 bs [] []
  simp only [List.nil_append] at h
  simp [DS.deed, DS.burns, newDS, DS.ticked, h, one200]

theorem diskNil_E (k file N : Int) (A : Option Addr) (n c : Nat) (bs : List Int) (hk : 0 ≤ k ∧ k ≤ 255) (hn : n = bs.length) (hbs : ∀ b ∈ bs, byteB b) (hA : A = none → c = 0) (W : World) (hR : Rd W A (c8 bs)) :
    Fn Try.prog 5 [.agg #[.int .u8 k, .int .i64 file, .slice A n c, .int .i64 N]] W (RetG (.bool true) W) := by
  have G0 := Gr.refl W
  subst hn
  refine Fn_enter Try.func5 rfl Try.results5 Try.ntmps5 (by kernel_rfl) (by kernel_rfl) ?_
  repeat refine cw_seq ?_
  refine cw_region ?_
  try have qb1_ := G0.le
  refine rw_new (op_box rfl) ?_
  intro w1_ g1_ s1_ b1_
  have G0 := G0.trans g1_
  refine rw_v (op_pure rfl) ?_
  first | refine rw_end ?_ | (refine rw_nil ?_; show CW _ _ _ _ _ _) | refine rw_nil ?_
  repeat refine cw_seq ?_
  refine cw_region ?_
  refine rw_call rfl (awake39_E _) ?_
  rintro _ w1 ⟨rfl, g1⟩
  have G0 := G0.trans g1
  have b1_ := b1_.gr g1
  refine rw_v (op_pure rfl) ?_
  first | refine rw_end ?_ | (refine rw_nil ?_; show CW _ _ _ _ _ _) | refine rw_nil ?_
  repeat refine cw_seq ?_
  refine cw_false rfl ?_
  refine cw_skip ?_
  try show CW _ _ _ _ _ _
  repeat refine cw_seq ?_
  refine cw_region ?_
  refine rw_v (op_fieldAddr Try.underlying37 rfl Try.sizeOf29 rfl rfl) ?_
  refine rw_r (op_loadB Try.underlying29 rfl rfl b1_ rfl) ?_
  refine rw_v (op_len Try.underlying29 rfl) ?_
  refine rw_v (op_pure rfl) ?_
  first | refine rw_end ?_ | (refine rw_nil ?_; show CW _ _ _ _ _ _) | refine rw_nil ?_
  repeat refine cw_seq ?_
  refine cw_cond rfl (fun hl => ?_) (fun hl => ?_)
  · repeat refine cw_seq ?_
    refine cw_region ?_
    refine rw_v (op_pure rfl) ?_
    first | refine rw_end ?_ | (refine rw_nil ?_; show CW _ _ _ _ _ _) | refine rw_nil ?_
    refine cw_ret ?_
    repeat first | refine ret_then ?_ | refine ret_inb ?_
    exact res1 rfl ⟨rfl, G0⟩
  refine cw_skip ?_
  try show CW _ _ _ _ _ _
  have hl : bs.length ≤ 100 := by
    have : ¬ (bs.length : Int) > 100 := by simpa using hl
    omega
  repeat refine cw_seq ?_
  refine cw_region ?_
  refine rw_v (op_pure rfl) ?_
  first | refine rw_end ?_ | (refine rw_nil ?_; show CW _ _ _ _ _ _) | refine rw_nil ?_
  repeat refine cw_seq ?_
  refine cw_region ?_
  refine rw_v (op_pure rfl) ?_
  refine rw_v (op_fieldAddr Try.underlying37 rfl Try.sizeOf3 rfl rfl) ?_
  refine rw_r (op_loadB Try.underlying3 rfl rfl b1_ rfl) ?_
  refine rw_call rfl (dreadNil_E _ _) ?_
  rintro _ w2 ⟨rfl, g2⟩
  have G0 := G0.trans g2
  have b1_ := b1_.gr g2
  refine rw_v (op_pure rfl) ?_
  refine rw_v (op_pure rfl) ?_
  refine rw_v (op_pure rfl) ?_
  refine rw_v (op_pure rfl) ?_
  refine rw_v (op_pure rfl) ?_
  first | refine rw_end ?_ | (refine rw_nil ?_; show CW _ _ _ _ _ _) | refine rw_nil ?_
  repeat refine cw_seq ?_
  refine cw_cutT (M := fun e w => SL e [(1, .pointer (some ⟨W.heap.size, 0, none⟩)), (55, .bool false)] ∧ Blk w W.heap.size 37 [.int .u8 k, .int .i64 file, .slice A bs.length c, .int .i64 N] ∧ Gr W w) ?_ ?_
  · by_cases hk5 : k < 5
    · repeat refine cw_seq ?_
      refine cw_region ?_
      refine rw_v (op_pure rfl) ?_
      refine rw_v (op_len Try.underlying29 rfl) ?_
      first | refine rw_v (op_b (b := true) rfl (bne_iff_ne.2 (by omega))) ?_ | refine rw_v (op_b (b := false) rfl (bne_eq_false_iff_eq.2 (by omega))) ?_ | refine rw_v (op_pure rfl) ?_
      refine rw_v (op_pure rfl) ?_
      first | refine rw_off rfl ?_ | (refine rw_on rfl ?_; refine rw_v (op_pure rfl) ?_)
      first | refine rw_off rfl ?_ | (refine rw_on rfl ?_; (first | refine rw_v (op_b (b := true) rfl (bne_iff_ne.2 (by omega))) ?_ | refine rw_v (op_b (b := false) rfl (bne_eq_false_iff_eq.2 (by omega))) ?_ | refine rw_v (op_pure rfl) ?_))
      refine rw_v (op_pure rfl) ?_
      refine rw_v (op_pure rfl) ?_
      first | refine rw_off rfl ?_ | (refine rw_on rfl ?_; refine rw_v (op_pure rfl) ?_)
      refine rw_on rfl ?_
      refine rw_call rfl (dleftNil_E _) ?_
      rintro _ w3 ⟨rfl, g3⟩
      have G0 := G0.trans g3
      have b1_ := b1_.gr g3
      first | refine rw_off rfl ?_ | (refine rw_on rfl ?_; (first | refine rw_v (op_b (b := true) rfl (bne_iff_ne.2 (by omega))) ?_ | refine rw_v (op_b (b := false) rfl (bne_eq_false_iff_eq.2 (by omega))) ?_ | refine rw_v (op_pure rfl) ?_))
      refine rw_v (op_pure rfl) ?_
      refine rw_v (op_pure rfl) ?_
      first | refine rw_off rfl ?_ | (refine rw_on rfl ?_; refine rw_v (op_pure rfl) ?_)
      refine rw_on rfl ?_
      refine rw_call rfl (ddarkNil_E _) ?_
      rintro _ w4 ⟨rfl, g4⟩
      have G0 := G0.trans g4
      have b1_ := b1_.gr g4
      first | refine rw_off rfl ?_ | (refine rw_on rfl ?_; refine rw_v (op_pure rfl) ?_)
      refine rw_v (op_pure rfl) ?_
      refine rw_v (op_pure rfl) ?_
      first | refine rw_off rfl ?_ | (refine rw_on rfl ?_; refine rw_v (op_fieldAddr Try.underlying37 rfl Try.sizeOf5 rfl rfl) ?_)
      first | refine rw_off rfl ?_ | (refine rw_on rfl ?_; refine rw_r (op_loadB Try.underlying5 rfl rfl b1_ rfl) ?_)
      first | refine rw_off rfl ?_ | (refine rw_on rfl ?_; (first | refine rw_v (op_b (b := true) rfl (decide_eq_true (by omega))) ?_ | refine rw_v (op_b (b := false) rfl (decide_eq_false (by omega))) ?_ | refine rw_v (op_pure rfl) ?_))
      first | refine rw_off rfl ?_ | (refine rw_on rfl ?_; refine rw_v (op_pure rfl) ?_)
      first | refine rw_off rfl ?_ | (refine rw_on rfl ?_; refine rw_v (op_pure rfl) ?_)
      first | refine rw_off rfl ?_ | (refine rw_on rfl ?_; refine rw_r (op_loadAB Try.underlying37 rfl (Try.sizeOf37 _) rfl b1_ rfl rfl) ?_)
      refine rw_on rfl ?_
      refine rw_call rfl (doesNil_E k file N A bs.length c (by omega) _) ?_
      rintro _ w5 ⟨rfl, g5⟩
      have G0 := G0.trans g5
      have b1_ := b1_.gr g5
      first | refine rw_off rfl ?_ | (refine rw_on rfl ?_; (first | refine rw_v (op_b (b := true) rfl (bne_iff_ne.2 (by omega))) ?_ | refine rw_v (op_b (b := false) rfl (bne_eq_false_iff_eq.2 (by omega))) ?_ | refine rw_v (op_pure rfl) ?_))
      first | refine rw_off rfl ?_ | (refine rw_on rfl ?_; refine rw_v (op_pure rfl) ?_)
      refine rw_v (op_pure rfl) ?_
      first | refine rw_end ?_ | (refine rw_nil ?_; show CW _ _ _ _ _ _) | refine rw_nil ?_
      exact ⟨⟨rfl, rfl, trivial⟩, b1_, G0⟩
    · repeat refine cw_seq ?_
      refine cw_region ?_
      refine rw_v (op_pure rfl) ?_
      refine rw_v (op_len Try.underlying29 rfl) ?_
      first | refine rw_v (op_b (b := true) rfl (bne_iff_ne.2 (by omega))) ?_ | refine rw_v (op_b (b := false) rfl (bne_eq_false_iff_eq.2 (by omega))) ?_ | refine rw_v (op_pure rfl) ?_
      refine rw_v (op_pure rfl) ?_
      first | refine rw_off rfl ?_ | (refine rw_on rfl ?_; refine rw_v (op_pure rfl) ?_)
      first | refine rw_off rfl ?_ | (refine rw_on rfl ?_; (first | refine rw_v (op_b (b := true) rfl (bne_iff_ne.2 (by omega))) ?_ | refine rw_v (op_b (b := false) rfl (bne_eq_false_iff_eq.2 (by omega))) ?_ | refine rw_v (op_pure rfl) ?_))
      refine rw_v (op_pure rfl) ?_
      refine rw_v (op_pure rfl) ?_
      first | refine rw_off rfl ?_ | (refine rw_on rfl ?_; refine rw_v (op_pure rfl) ?_)
      refine rw_on rfl ?_
      refine rw_call rfl (dleftNil_E _) ?_
      rintro _ w3 ⟨rfl, g3⟩
      have G0 := G0.trans g3
      have b1_ := b1_.gr g3
      first | refine rw_off rfl ?_ | (refine rw_on rfl ?_; (first | refine rw_v (op_b (b := true) rfl (bne_iff_ne.2 (by omega))) ?_ | refine rw_v (op_b (b := false) rfl (bne_eq_false_iff_eq.2 (by omega))) ?_ | refine rw_v (op_pure rfl) ?_))
      refine rw_v (op_pure rfl) ?_
      refine rw_v (op_pure rfl) ?_
      first | refine rw_off rfl ?_ | (refine rw_on rfl ?_; refine rw_v (op_pure rfl) ?_)
      refine rw_on rfl ?_
      refine rw_call rfl (ddarkNil_E _) ?_
      rintro _ w4 ⟨rfl, g4⟩
      have G0 := G0.trans g4
      have b1_ := b1_.gr g4
      first | refine rw_off rfl ?_ | (refine rw_on rfl ?_; refine rw_v (op_pure rfl) ?_)
      refine rw_v (op_pure rfl) ?_
      refine rw_v (op_pure rfl) ?_
      first | refine rw_off rfl ?_ | (refine rw_on rfl ?_; refine rw_v (op_fieldAddr Try.underlying37 rfl Try.sizeOf5 rfl rfl) ?_)
      first | refine rw_off rfl ?_ | (refine rw_on rfl ?_; refine rw_r (op_loadB Try.underlying5 rfl rfl b1_ rfl) ?_)
      first | refine rw_off rfl ?_ | (refine rw_on rfl ?_; (first | refine rw_v (op_b (b := true) rfl (decide_eq_true (by omega))) ?_ | refine rw_v (op_b (b := false) rfl (decide_eq_false (by omega))) ?_ | refine rw_v (op_pure rfl) ?_))
      first | refine rw_off rfl ?_ | (refine rw_on rfl ?_; refine rw_v (op_pure rfl) ?_)
      first | refine rw_off rfl ?_ | (refine rw_on rfl ?_; refine rw_v (op_pure rfl) ?_)
      first | refine rw_off rfl ?_ | (refine rw_on rfl ?_; refine rw_r (op_loadAB Try.underlying37 rfl (Try.sizeOf37 _) rfl b1_ rfl rfl) ?_)
      refine rw_off rfl ?_
      first | refine rw_off rfl ?_ | (refine rw_on rfl ?_; (first | refine rw_v (op_b (b := true) rfl (bne_iff_ne.2 (by omega))) ?_ | refine rw_v (op_b (b := false) rfl (bne_eq_false_iff_eq.2 (by omega))) ?_ | refine rw_v (op_pure rfl) ?_))
      first | refine rw_off rfl ?_ | (refine rw_on rfl ?_; refine rw_v (op_pure rfl) ?_)
      refine rw_v (op_pure rfl) ?_
      first | refine rw_end ?_ | (refine rw_nil ?_; show CW _ _ _ _ _ _) | refine rw_nil ?_
      exact ⟨⟨rfl, rfl, trivial⟩, b1_, G0⟩
  rintro e1 w1 ⟨hsl, hX, G1⟩
  rw [hsl.fold]
  repeat refine cw_seq ?_
  refine cw_false rfl ?_
  refine cw_skip ?_
  try show CW _ _ _ _ _ _
  have hX1 := hX
  have H1 := G1
  repeat refine cw_seq ?_
  refine cw_region ?_
  refine rw_call rfl (dnew_E 200 _ (by omega)) ?_
  rintro _ w2 ⟨p, rfl, hD, g2⟩
  have hX := hX.gr g2
  have G1 := G1.trans g2
  refine rw_v (op_pure rfl) ?_
  refine rw_v (op_pure rfl) ?_
  refine rw_v (op_pure rfl) ?_
  refine rw_v (op_pure rfl) ?_
  refine rw_v (op_pure rfl) ?_
  first | refine rw_end ?_ | (refine rw_nil ?_; show CW _ _ _ _ _ _) | refine rw_nil ?_
  have hD := hD.bound
  repeat refine cw_seq ?_
  refine cw_region ?_
  refine rw_new (op_build0 Try.underlying29 Try.sizeOf5) ?_
  intro w3 g3 s3 b3
  have hX := hX.gr g3
  have r3 := R1.of_blk (l := []) b3 (by simp)
  have hz3 := g3.le
  refine rw_v (op_fieldAddr Try.underlying37 rfl Try.sizeOf29 rfl rfl) ?_
  refine rw_r (op_loadB Try.underlying29 rfl rfl hX rfl) ?_
  refine rw_app Try.underlying29 info_u8 rfl rfl r3 rfl (by simp [c8]) hA (hR.gr (G1.trans g3)) (by simp [c8, Value.oneCell']) (by simp [c8]; omega) ?_
  intro v4 w4 r4 k4 o4
  obtain ⟨A4, c4, e4⟩ := r4.slice
  rw [List.nil_append, c8_length] at e4
  subst e4
  refine rw_v (op_pure rfl) ?_
  first | refine rw_end ?_ | (refine rw_nil ?_; show CW _ _ _ _ _ _) | refine rw_nil ?_
  have G4 : Gr w2 w4 := Fr.gr (Fr.trans (Fr.of_gr (F := fun g => w2.heap.size ≤ g) g3) (Fr.of_grown (F := fun g => w2.heap.size ≤ g) k4 (fun g hg => by cases hg; exact Nat.le_refl _)) (fun g hg => .inl hg)) (fun g hg => hg)
  have ho4 : ∀ g, (Value.slice A4 bs.length c4).ownBlock = some g → w2.heap.size ≤ g := fun g hg => by
    rcases o4 with h | h
    · rw [h] at hg; cases hg; exact Nat.le_refl _
    · rw [h] at hg; cases hg; exact g3.le
  have hD4 := hD.gr G4
  have hcall := dapp_E _ p (newDS 200) 0 (.inl rfl) A4 c4 bs hbs (by omega) rfl (by constructor <;> decide) (by decide) (fun _ => by show (bs.length : Int) ≤ 200; omega) (by decide) (by constructor <;> (simp [addsOf, newDS]; omega)) (by simp [newDS]; omega) w4 hD4 r4.rd (fun g hg => Nat.lt_of_lt_of_le hg.2 G4.le)
  rw [deed200] at hcall
  repeat refine cw_seq ?_
  refine cw_region ?_
  refine rw_v (op_pure rfl) ?_
  refine rw_v (op_pure rfl) ?_
  refine rw_call rfl (hcall) ?_
  rintro _ w5 ⟨rfl, hP⟩
  first | refine rw_end ?_ | (refine rw_nil ?_; show CW _ _ _ _ _ _) | refine rw_nil ?_
  have G5 : Gr w1 w5 := gr_fr (g2.trans G4) hP.2 (fun g hg => hg.1)
  have r5 := r4.fr hP.2 (fun g hg hF => by have := ho4 g hg; have := hF.2; omega)
  have hD5 := hP.1.bound
  have hno5 : ∀ g, (Value.slice A4 bs.length c4).ownBlock = some g → ¬ ((Grow (fun g => w1.heap.size ≤ g ∧ g < w2.heap.size) w4 g) ∧ g < w5.heap.size) := fun g hg hF => by
    have h1 := ho4 g hg
    have h2 := r4.lt hg
    rcases hF.1 with h | h
    · omega
    · omega
  generalize hF2 : (fun g => (Grow (fun g => w1.heap.size ≤ g ∧ g < w2.heap.size) w4 g) ∧ g < w5.heap.size) = F2 at hD5
  have hno5 : ∀ g, (Value.slice A4 bs.length c4).ownBlock = some g → ¬ F2 g := fun g hg h => hno5 g hg (by rw [← hF2] at h; exact h)
  have hown5 : ∀ g, (Value.slice A4 bs.length c4).ownBlock = some g → w1.heap.size ≤ g := fun g hg => by
    have h1 := ho4 g hg
    have h2 := g2.le
    omega
  repeat refine cw_seq ?_
  refine cw_region ?_
  refine rw_v (op_pure rfl) ?_
  first | refine rw_end ?_ | (refine rw_nil ?_; show CW _ _ _ _ _ _) | refine rw_nil ?_
  repeat refine cw_seq ?_
  refine cw_cutT (M := fun e w => SL e [(1, .pointer (some ⟨W.heap.size, 0, none⟩)), (6, .pointer (some ⟨p, 0, none⟩))] ∧ DiskIs w F2 p (one200 bs) ∧ Gr w1 w ∧ w5.heap.size ≤ w.heap.size) ?_ ?_
  · repeat refine cw_seq ?_
    refine cw_block ?_
    refine cw_loop (fun m e w => ∃ k : Nat, k + m = bs.length ∧ SL e [(1, .pointer (some ⟨W.heap.size, 0, none⟩)), (6, .pointer (some ⟨p, 0, none⟩)), (8, .slice A4 bs.length c4), (9, .int .i64 k)] ∧ DiskIs w F2 p (one200 bs) ∧ Gr w1 w ∧ w5.heap.size ≤ w.heap.size ∧ ∃ xs, R1 w 5 (.slice A4 bs.length c4) (c8 xs) ∧ xs.length = bs.length) bs.length
      ⟨0, by omega, ⟨rfl, rfl, rfl, rfl, trivial⟩, hD5, G5, Nat.le_refl _, bs, by simpa using r5, rfl⟩ ?_
    rintro m e w ⟨k, hkm, hsl, hD6, G6, hz6, xs, hrx, hlx⟩
    rw [hsl.fold]
    repeat refine cw_seq ?_
    refine cw_region ?_
    refine rw_v (op_pure rfl) ?_
    refine rw_v (op_pure rfl) ?_
    refine rw_v (op_len Try.underlying29 rfl) ?_
    refine rw_v (op_pure rfl) ?_
    first | refine rw_end ?_ | (refine rw_nil ?_; show CW _ _ _ _ _ _) | refine rw_nil ?_
    repeat refine cw_seq ?_
    refine cw_cond rfl (fun hc => ?_) (fun hc => ?_)
    · refine cw_skip ?_
      try show CW _ _ _ _ _ _
      have hc : k < bs.length := by simpa using hc
      rcases hrx.form with ⟨hv, hn⟩ | ⟨g, c, l, hv, hB, hcc, hl, ht⟩
      · have h0 : xs.length = 0 := by have := congrArg List.length hn; rwa [c8_length] at this
        omega
      injection hv with ha hb' hc'
      subst ha
      subst hc'
      obtain ⟨b, hb⟩ : ∃ b, xs[k]? = some b := ⟨xs[k], List.getElem?_eq_getElem (by omega)⟩
      have hlk : l[k]? = some (.int .u8 b) := by
        have : (c8 xs)[k]? = some (.int .u8 b) := by simp [c8, hb]
        rw [← ht, List.getElem?_take] at this
        split at this
        · exact this
        · cases this
      repeat refine cw_seq ?_
      refine cw_block ?_
      repeat refine cw_seq ?_
      refine cw_region ?_
      refine rw_v (op_pure rfl) ?_
      refine rw_v (op_pure rfl) ?_
      refine rw_v (op_pure rfl) ?_
      refine rw_v (op_pure rfl) ?_
      refine rw_v (op_indexAddrS Try.underlying29 Try.sizeOf5 rfl rfl (by omega) (by omega) (o' := 0 + k) (by simp)) ?_
      refine rw_r (op_load Try.underlying5 rfl rfl (by rw [Nat.zero_add]; exact hB.cellv hlk)) ?_
      refine rw_v (op_pure rfl) ?_
      refine rw_v (op_indexAddrS Try.underlying29 Try.sizeOf5 rfl rfl (by omega) (by omega) (o' := 0 + k) (by simp)) ?_
      refine rw_store (Try.sizeOf5 _) rfl rfl rfl rfl hB (u := .int .u8 b) (by rw [Nat.zero_add]; exact hlk) ?_
      intro w6 g6 s6 b6
      first | refine rw_end ?_ | (refine rw_nil ?_; show CW _ _ _ _ _ _) | refine rw_nil ?_
      rw [Nat.zero_add] at b6
      have hr6 := hrx.store hB b6
      have hF6 : Fr (fun x => x = g) w w6 := Fr.of_grown g6 (fun x hx => by cases hx; rfl)
      repeat refine cw_seq ?_
      refine cw_region ?_
      refine rw_v (op_pure rfl) ?_
      refine rw_v (op_rng rfl (by omega)) ?_
      refine rw_v (op_pure rfl) ?_
      first | refine rw_end ?_ | (refine rw_nil ?_; show CW _ _ _ _ _ _) | refine rw_nil ?_
      refine ⟨m - 1, by omega, k + 1, by omega, ⟨rfl, rfl, rfl, ie (by omega), trivial⟩, hD6.fr hF6 (fun x hx e => hno5 g rfl (e ▸ hx)), gr_fr G6 hF6 (fun x e => by subst e; exact hown5 x rfl), by omega, xs.set k (IntKind.u8.wrap (b + 1)), ?_, by simpa using hlx⟩
      have e7 : c8 (xs.set k (IntKind.u8.wrap (b + 1))) = (c8 xs).set k (.int .u8 (IntKind.u8.wrap (b + 1))) := by simp [c8, List.map_set]
      rw [e7]
      exact hr6
    · refine cw_exit ?_
      repeat first | refine exit_then ?_ | refine exit_inb ?_
      exact ⟨⟨rfl, rfl, trivial⟩, hD6, G6, hz6⟩
  rintro e2 w7 ⟨hsl, hD7, G7, hz7⟩
  rw [hsl.fold]
  have hcall := dread_E F2 p (one200 bs) 0 (.inl rfl) ⟨by simp [one200]; omega, by simp [one200]⟩ w7 hD7 rfl
  repeat refine cw_seq ?_
  refine cw_region ?_
  refine rw_v (op_pure rfl) ?_
  refine rw_call rfl (hcall) ?_
  rintro _ w8 ⟨v8, rfl, r8, g8, ho8⟩
  obtain ⟨A8, c8', e8⟩ := r8.slice
  rw [if_pos rfl, c8_length] at e8
  subst e8
  refine rw_v (op_pure rfl) ?_
  refine rw_v (op_pure rfl) ?_
  refine rw_v (op_pure rfl) ?_
  refine rw_v (op_pure rfl) ?_
  refine rw_v (op_pure rfl) ?_
  first | refine rw_end ?_ | (refine rw_nil ?_; show CW _ _ _ _ _ _) | refine rw_nil ?_
  rw [if_pos rfl] at r8
  have r8 : R1 w8 5 (.slice A8 bs.length c8') (c8 bs) := r8
  have hD8 := hD7.gr g8
  have hb8 : ∀ g, F2 g → g < w7.heap.size := fun g hg => by
    rw [← hF2] at hg
    have := hg.2
    omega
  repeat refine cw_seq ?_
  refine cw_region ?_
  refine rw_v (op_pure rfl) ?_
  first | refine rw_end ?_ | (refine rw_nil ?_; show CW _ _ _ _ _ _) | refine rw_nil ?_
  repeat refine cw_seq ?_
  refine cw_cutT (M := fun e w => SL e [(1, .pointer (some ⟨W.heap.size, 0, none⟩)), (6, .pointer (some ⟨p, 0, none⟩))] ∧ DiskIs w F2 p (one200 bs) ∧ Gr w1 w) ?_ ?_
  · repeat refine cw_seq ?_
    refine cw_block ?_
    refine cw_loop (fun m e w => ∃ k : Nat, k + m = bs.length ∧ SL e [(1, .pointer (some ⟨W.heap.size, 0, none⟩)), (6, .pointer (some ⟨p, 0, none⟩)), (10, .slice A8 bs.length c8'), (12, .int .i64 k)] ∧ DiskIs w F2 p (one200 bs) ∧ Gr w1 w ∧ ∃ xs, R1 w 5 (.slice A8 bs.length c8') (c8 xs) ∧ xs.length = bs.length) bs.length
      ⟨0, by omega, ⟨rfl, rfl, rfl, rfl, trivial⟩, hD8, G7.trans g8, bs, r8, rfl⟩ ?_
    rintro m e w ⟨k, hkm, hsl, hD6, G6, xs, hrx, hlx⟩
    rw [hsl.fold]
    repeat refine cw_seq ?_
    refine cw_region ?_
    refine rw_v (op_pure rfl) ?_
    refine rw_v (op_pure rfl) ?_
    refine rw_v (op_len Try.underlying29 rfl) ?_
    refine rw_v (op_pure rfl) ?_
    first | refine rw_end ?_ | (refine rw_nil ?_; show CW _ _ _ _ _ _) | refine rw_nil ?_
    repeat refine cw_seq ?_
    refine cw_cond rfl (fun hc => ?_) (fun hc => ?_)
    · refine cw_skip ?_
      try show CW _ _ _ _ _ _
      have hc : k < bs.length := by simpa using hc
      rcases hrx.form with ⟨hv, hn⟩ | ⟨g, c, l, hv, hB, hcc, hl, ht⟩
      · have h0 : xs.length = 0 := by have := congrArg List.length hn; rwa [c8_length] at this
        omega
      injection hv with ha hb' hc'
      subst ha
      subst hc'
      obtain ⟨b, hb⟩ : ∃ b, xs[k]? = some b := ⟨xs[k], List.getElem?_eq_getElem (by omega)⟩
      have hlk : l[k]? = some (.int .u8 b) := by
        have : (c8 xs)[k]? = some (.int .u8 b) := by simp [c8, hb]
        rw [← ht, List.getElem?_take] at this
        split at this
        · exact this
        · cases this
      have hg8 : w7.heap.size ≤ g := ho8 g rfl
      repeat refine cw_seq ?_
      refine cw_block ?_
      repeat refine cw_seq ?_
      refine cw_region ?_
      refine rw_v (op_pure rfl) ?_
      refine rw_v (op_pure rfl) ?_
      refine rw_v (op_pure rfl) ?_
      refine rw_v (op_pure rfl) ?_
      refine rw_v (op_indexAddrS Try.underlying29 Try.sizeOf5 rfl rfl (by omega) (by omega) (o' := 0 + k) (by simp)) ?_
      refine rw_r (op_load Try.underlying5 rfl rfl (by rw [Nat.zero_add]; exact hB.cellv hlk)) ?_
      refine rw_v (op_pure rfl) ?_
      refine rw_v (op_indexAddrS Try.underlying29 Try.sizeOf5 rfl rfl (by omega) (by omega) (o' := 0 + k) (by simp)) ?_
      refine rw_store (Try.sizeOf5 _) rfl rfl rfl rfl hB (u := .int .u8 b) (by rw [Nat.zero_add]; exact hlk) ?_
      intro w6 g6 s6 b6
      first | refine rw_end ?_ | (refine rw_nil ?_; show CW _ _ _ _ _ _) | refine rw_nil ?_
      rw [Nat.zero_add] at b6
      have hr6 := hrx.store hB b6
      have hF6 : Fr (fun x => x = g) w w6 := Fr.of_grown g6 (fun x hx => by cases hx; rfl)
      have hz7 := G7.le
      repeat refine cw_seq ?_
      refine cw_region ?_
      refine rw_v (op_pure rfl) ?_
      refine rw_v (op_rng rfl (by omega)) ?_
      refine rw_v (op_pure rfl) ?_
      first | refine rw_end ?_ | (refine rw_nil ?_; show CW _ _ _ _ _ _) | refine rw_nil ?_
      refine ⟨m - 1, by omega, k + 1, by omega, ⟨rfl, rfl, rfl, ie (by omega), trivial⟩, hD6.fr hF6 (fun x hx e => by have := hb8 x hx; omega), gr_fr G6 hF6 (fun x e => by omega), xs.set k (IntKind.u8.wrap (b + 2)), ?_, by simpa using hlx⟩
      have e7 : c8 (xs.set k (IntKind.u8.wrap (b + 2))) = (c8 xs).set k (.int .u8 (IntKind.u8.wrap (b + 2))) := by simp [c8, List.map_set]
      rw [e7]
      exact hr6
    · refine cw_exit ?_
      repeat first | refine exit_then ?_ | refine exit_inb ?_
      exact ⟨⟨rfl, rfl, trivial⟩, hD6, G6⟩
  rintro e3 w9 ⟨hsl, hD9, G9⟩
  rw [hsl.fold]
  have hcall := dread_E F2 p (one200 bs) 0 (.inl rfl) ⟨by simp [one200]; omega, by simp [one200]⟩ w9 hD9 rfl
  have hX0 := hX
  repeat refine cw_seq ?_
  refine cw_region ?_
  refine rw_v (op_pure rfl) ?_
  refine rw_call rfl (hcall) ?_
  rintro _ w10 ⟨v10, rfl, r10, g10, ho10⟩
  obtain ⟨A10, c10, e10⟩ := r10.slice
  rw [if_pos rfl, c8_length] at e10
  subst e10
  refine rw_v (op_pure rfl) ?_
  refine rw_v (op_pure rfl) ?_
  refine rw_v (op_pure rfl) ?_
  refine rw_v (op_pure rfl) ?_
  refine rw_v (op_pure rfl) ?_
  first | refine rw_end ?_ | (refine rw_nil ?_; show CW _ _ _ _ _ _) | refine rw_nil ?_
  rw [if_pos rfl] at r10
  have r10 : Rd w10 A10 (c8 bs) := r10.rd
  have G10 := G9.trans g10
  have hR10 := (hR.gr H1).gr G10
  have hX10 := hX1.gr G10
  repeat refine cw_seq ?_
  refine cw_region ?_
  refine rw_v (op_pure rfl) ?_
  first | refine rw_v (op_b (b := true) rfl (beq_iff_eq.2 (by omega))) ?_ | refine rw_v (op_b (b := false) rfl (beq_eq_false_iff_ne.2 (by omega))) ?_ | refine rw_v (op_pure rfl) ?_
  refine rw_v (op_pure rfl) ?_
  first | refine rw_off rfl ?_ | (refine rw_on rfl ?_; refine rw_v (op_pure rfl) ?_)
  refine rw_on rfl ?_
  refine rw_r (op_str (bs := bs) Try.underlying29 Try.underlying5 Try.underlying9 rfl r10) ?_
  first | refine rw_off rfl ?_ | (refine rw_on rfl ?_; refine rw_v (op_fieldAddr Try.underlying37 rfl Try.sizeOf29 rfl rfl) ?_)
  first | refine rw_off rfl ?_ | (refine rw_on rfl ?_; refine rw_r (op_loadB Try.underlying29 rfl rfl hX10 rfl) ?_)
  refine rw_on rfl ?_
  refine rw_r (op_str (bs := bs) Try.underlying29 Try.underlying5 Try.underlying9 rfl hR10) ?_
  refine rw_on rfl ?_
  refine rw_v (op_b (b := true) rfl (by simp)) ?_
  refine rw_v (op_pure rfl) ?_
  refine rw_v (op_pure rfl) ?_
  first | refine rw_end ?_ | (refine rw_nil ?_; show CW _ _ _ _ _ _) | refine rw_nil ?_
  exact cw_ret (res1 rfl ⟨rfl, H1.trans G10⟩)
end Go.Proofs.Ytkpokpaehlhhaaa
