/- Contracts of the library's generic functions at a slab's cells. -/
import Derived.Test.YtbcgbcipigcbhaaMemC
import Derived.Test.YtbcgbcipigcbhaaSlab
namespace Go.Proofs.Ytbcgbcipigcbhaa
open Go.RowKit
set_option linter.unusedVariables false
set_option linter.unusedSimpArgs false
set_option maxRecDepth 100000

theorem and_mask (c : Int) (h0 : 0 ≤ c) (h1 : c < 4294967296) : bits .and .u64 c 4294967295 = c := by
  rw [u64_and c 4294967295 h0 (by omega) (by omega) (by omega)]
  have : c.toNat &&& (4294967295 : Int).toNat = c.toNat := by
    have e : (4294967295 : Int).toNat = 2 ^ 32 - 1 := by decide
    rw [e, Nat.and_two_pow_sub_one_eq_mod]
    exact Nat.mod_eq_of_lt (by omega)
  rw [this]
  omega
section
variable {P : Program} {e : Nat → Value} {w : World} {d : Option Tmp} {ty : TypeId} {ps : String} {af : Array Edge}
theorem op_u64 {op : BinOp} {t t' : TypeId} {x y : Operand} {a b c : Int} (hx : ev e x = .int .u64 a) (hy : ev e y = .int .u64 b) (hop : (binOp op t (.int .u64 a) (.int .u64 b)).run P w = .ok (.int .u64 c) w) : OpR P e ⟨d, .binOp op t x y t', ty, ps, af, none⟩ w (.int .u64 c) := by
  simp [OpR, execOp, hx, hy, eqGuard, hop]
theorem run_mul_u64 {t : TypeId} {a b c : Int} (h : a * b = c) (hc : 0 ≤ c ∧ c < 18446744073709551616) (w : World) : (binOp .mul t (.int .u64 a) (.int .u64 b)).run P w = .ok (.int .u64 c) w := by
  have : IntKind.u64.wrap (a * b) = c := by rw [h, IntKind.wrap_u64]; omega
  simp [binOp, Op.intArith, this]
theorem run_add_u64 {t : TypeId} {a b c : Int} (h : a + b = c) (hc : 0 ≤ c ∧ c < 18446744073709551616) (w : World) : (binOp .add t (.int .u64 a) (.int .u64 b)).run P w = .ok (.int .u64 c) w := by
  have : IntKind.u64.wrap (a + b) = c := by rw [h, IntKind.wrap_u64]; omega
  simp [binOp, Op.intArith, this]
theorem run_and_u64 {t : TypeId} {a : Int} (h0 : 0 ≤ a) (h1 : a < 4294967296) (w : World) : (binOp .and t (.int .u64 a) (.int .u64 4294967295)).run P w = .ok (.int .u64 a) w := by
  have := and_mask a h0 h1
  simp only [binOp]
  have h2 : (Op.intBits .and .u64 a 4294967295).run P w = .ok (.int .u64 (bits .and .u64 a 4294967295)) w := rfl
  simp [h2, this]
theorem run_shr_u64 {t : TypeId} {a : Int} (h0 : 0 ≤ a) (h1 : a < 4294967296) (w : World) (k : IntKind) : (binOp .shr t (.int .u64 a) (.int k 32)).run P w = .ok (.int .u64 0) w := by
  have : a.fdiv 4294967296 = 0 := by
    rw [Int.fdiv_eq_ediv_of_nonneg _ (by omega)]
    omega
  simp [binOp, Op.shift, IntKind.bits, this]
theorem op_shr {t t' : TypeId} {x y : Operand} {a : Int} {k : IntKind} (hx : ev e x = .int .u64 a) (hy : ev e y = .int k 32) (h0 : 0 ≤ a) (h1 : a < 4294967296) : OpR P e ⟨d, .binOp .shr t x y t', ty, ps, af, none⟩ w (.int .u64 0) := by
  simp [OpR, execOp, hx, hy, eqGuard, run_shr_u64 h0 h1 w k]
theorem op_ugt {t t' : TypeId} {x y : Operand} {a c : Int} {b : Bool} (hx : ev e x = .int .u64 a) (hy : ev e y = .int .u64 c) (hb : decide (a > c) = b) : OpV P e ⟨d, .binOp .gtr t x y t', ty, ps, af, none⟩ (.bool b) := by
  intro w
  subst hb
  simp [OpR, execOp, hx, hy, eqGuard, binOp, Op.intCmp]
end

theorem mul64_E (c : Int) (h0 : 0 ≤ c) (h1 : c < 4294967296) (W : World) : Fn Try.prog 210 [.int .u64 1, .int .u64 c] W (RetG (.tuple #[.int .u64 0, .int .u64 c]) W) := by
  refine Fn_enter Try.func210 rfl Try.results210 Try.ntmps210 (by kernel_rfl) (by kernel_rfl) ?_
  repeat refine cw_seq ?_
  refine cw_region ?_
  iterate 2 refine rw_v (op_pure rfl) ?_
  first | refine rw_end ?_ | (refine rw_nil ?_; show CW _ _ _ _ _ _) | refine rw_nil ?_
  repeat refine cw_seq ?_
  refine cw_region ?_
  refine rw_v (op_pure rfl) ?_
  refine rw_r (op_u64 rfl rfl (run_and_u64 (a := 1) (by omega) (by omega) _)) ?_
  refine rw_v (op_pure rfl) ?_
  first | refine rw_end ?_ | (refine rw_nil ?_; show CW _ _ _ _ _ _) | refine rw_nil ?_
  repeat refine cw_seq ?_
  refine cw_region ?_
  refine rw_v (op_pure rfl) ?_
  refine rw_r (op_shr rfl rfl (by omega) (by omega)) ?_
  refine rw_v (op_pure rfl) ?_
  first | refine rw_end ?_ | (refine rw_nil ?_; show CW _ _ _ _ _ _) | refine rw_nil ?_
  repeat refine cw_seq ?_
  refine cw_region ?_
  refine rw_v (op_pure rfl) ?_
  refine rw_r (op_u64 rfl rfl (run_and_u64 h0 h1 _)) ?_
  refine rw_v (op_pure rfl) ?_
  first | refine rw_end ?_ | (refine rw_nil ?_; show CW _ _ _ _ _ _) | refine rw_nil ?_
  repeat refine cw_seq ?_
  refine cw_region ?_
  refine rw_v (op_pure rfl) ?_
  refine rw_r (op_shr rfl rfl h0 h1) ?_
  refine rw_v (op_pure rfl) ?_
  first | refine rw_end ?_ | (refine rw_nil ?_; show CW _ _ _ _ _ _) | refine rw_nil ?_
  repeat refine cw_seq ?_
  refine cw_region ?_
  iterate 2 refine rw_v (op_pure rfl) ?_
  refine rw_r (op_u64 rfl rfl (run_mul_u64 (c := c) (by omega) (by omega) _)) ?_
  refine rw_v (op_pure rfl) ?_
  first | refine rw_end ?_ | (refine rw_nil ?_; show CW _ _ _ _ _ _) | refine rw_nil ?_
  repeat refine cw_seq ?_
  refine cw_region ?_
  iterate 2 refine rw_v (op_pure rfl) ?_
  refine rw_r (op_u64 rfl rfl (run_mul_u64 (c := 0) (by omega) (by omega) _)) ?_
  refine rw_v (op_pure rfl) ?_
  refine rw_r (op_shr rfl rfl h0 h1) ?_
  refine rw_r (op_u64 rfl rfl (run_add_u64 (c := 0) (by omega) (by omega) _)) ?_
  refine rw_v (op_pure rfl) ?_
  first | refine rw_end ?_ | (refine rw_nil ?_; show CW _ _ _ _ _ _) | refine rw_nil ?_
  repeat refine cw_seq ?_
  refine cw_region ?_
  refine rw_v (op_pure rfl) ?_
  refine rw_r (op_u64 rfl rfl (run_and_u64 (a := 0) (by omega) (by omega) _)) ?_
  refine rw_v (op_pure rfl) ?_
  first | refine rw_end ?_ | (refine rw_nil ?_; show CW _ _ _ _ _ _) | refine rw_nil ?_
  repeat refine cw_seq ?_
  refine cw_region ?_
  refine rw_v (op_pure rfl) ?_
  refine rw_r (op_shr rfl rfl (by omega) (by omega)) ?_
  refine rw_v (op_pure rfl) ?_
  first | refine rw_end ?_ | (refine rw_nil ?_; show CW _ _ _ _ _ _) | refine rw_nil ?_
  repeat refine cw_seq ?_
  refine cw_region ?_
  iterate 3 refine rw_v (op_pure rfl) ?_
  refine rw_r (op_u64 rfl rfl (run_mul_u64 (c := 0) (by omega) (by omega) _)) ?_
  refine rw_r (op_u64 rfl rfl (run_add_u64 (c := 0) (by omega) (by omega) _)) ?_
  refine rw_v (op_pure rfl) ?_
  first | refine rw_end ?_ | (refine rw_nil ?_; show CW _ _ _ _ _ _) | refine rw_nil ?_
  repeat refine cw_seq ?_
  refine cw_region ?_
  iterate 2 refine rw_v (op_pure rfl) ?_
  refine rw_r (op_u64 rfl rfl (run_mul_u64 (c := 0) (by omega) (by omega) _)) ?_
  refine rw_v (op_pure rfl) ?_
  refine rw_r (op_u64 rfl rfl (run_add_u64 (c := 0) (by omega) (by omega) _)) ?_
  refine rw_v (op_pure rfl) ?_
  refine rw_r (op_shr rfl rfl (by omega) (by omega)) ?_
  refine rw_r (op_u64 rfl rfl (run_add_u64 (c := 0) (by omega) (by omega) _)) ?_
  refine rw_v (op_pure rfl) ?_
  first | refine rw_end ?_ | (refine rw_nil ?_; show CW _ _ _ _ _ _) | refine rw_nil ?_
  repeat refine cw_seq ?_
  refine cw_region ?_
  iterate 2 refine rw_v (op_pure rfl) ?_
  refine rw_r (op_u64 rfl rfl (run_mul_u64 (c := c) (by omega) (by omega) _)) ?_
  refine rw_v (op_pure rfl) ?_
  first | refine rw_end ?_ | (refine rw_nil ?_; show CW _ _ _ _ _ _) | refine rw_nil ?_
  exact cw_ret (res2 rfl rfl ⟨rfl, Gr.refl _⟩)
theorem mul_E (c : Int) (h0 : 0 ≤ c) (h1 : c < 4294967296) (W : World) : Fn Try.prog 208 [.int .u64 1, .int .u64 c] W (RetG (.tuple #[.int .u64 0, .int .u64 c]) W) := by
  refine Fn_enter Try.func208 rfl Try.results208 Try.ntmps208 (by kernel_rfl) (by kernel_rfl) ?_
  repeat refine cw_seq ?_
  refine cw_region ?_
  iterate 2 refine rw_v (op_pure rfl) ?_
  first | refine rw_end ?_ | (refine rw_nil ?_; show CW _ _ _ _ _ _) | refine rw_nil ?_
  repeat refine cw_seq ?_
  refine cw_false rfl ?_
  refine cw_skip ?_
  try show CW _ _ _ _ _ _
  repeat refine cw_seq ?_
  refine cw_region ?_
  iterate 2 refine rw_v (op_pure rfl) ?_
  refine rw_call rfl (mul64_E c h0 h1 _) ?_
  rintro _ w1 ⟨rfl, g1⟩
  iterate 5 refine rw_v (op_pure rfl) ?_
  first | refine rw_end ?_ | (refine rw_nil ?_; show CW _ _ _ _ _ _) | refine rw_nil ?_
  repeat refine cw_seq ?_
  refine cw_region ?_
  iterate 4 refine rw_v (op_pure rfl) ?_
  first | refine rw_end ?_ | (refine rw_nil ?_; show CW _ _ _ _ _ _) | refine rw_nil ?_
  exact cw_ret (res2 rfl rfl ⟨rfl, g1⟩)
theorem info_i32 : (Try.prog.info? 21).map (fun i => (i.zero, i.size, i.bytes)) = some (some (.int .i32 0), 1, 4) := by kernel_rfl
theorem u64_in (n : Int) (h : 0 ≤ n ∧ n < 18446744073709551616) : IntKind.u64.wrap n = n := by rw [IntKind.wrap_u64]; omega

theorem repeat_E (g : Nat) (v : Value) (n : Nat) (hn : 1 ≤ n ∧ n ≤ 256) (hv : v.oneCell' = true) (W : World) (hB : Blk W g 21 [v]) :
    Fn Try.prog 203 [.slice (some ⟨g, 0, none⟩) 1 1, .int .i64 n] W
      (fun r w' => ∃ b, r = .slice (some ⟨b, 0, none⟩) n n ∧ W.heap.size ≤ b ∧ Blk w' b 21 (List.replicate n v) ∧ Gr W w') := by
  have G0 := Gr.refl W
  refine Fn_enter Try.func203 rfl Try.results203 Try.ntmps203 (by kernel_rfl) (by kernel_rfl) ?_
  repeat refine cw_seq ?_
  refine cw_region ?_
  refine rw_v (op_pure rfl) ?_
  first | refine rw_end ?_ | (refine rw_nil ?_; show CW _ _ _ _ _ _) | refine rw_nil ?_
  repeat refine cw_seq ?_
  refine cw_region ?_
  refine rw_v (op_pure rfl) ?_
  first | refine rw_v (op_b (b := true) rfl (decide_eq_true (by omega))) ?_ | refine rw_v (op_b (b := false) rfl (decide_eq_false (by omega))) ?_ | refine rw_v (op_pure rfl) ?_
  first | refine rw_end ?_ | (refine rw_nil ?_; show CW _ _ _ _ _ _) | refine rw_nil ?_
  repeat refine cw_seq ?_
  refine cw_false rfl ?_
  refine cw_skip ?_
  try show CW _ _ _ _ _ _
  repeat refine cw_seq ?_
  refine cw_region ?_
  refine rw_v (op_pure rfl) ?_
  refine rw_v (op_len Try.underlying268 rfl) ?_
  refine rw_v (op_conv Try.underlying3 Try.underlying213 rfl (u64_in _ (by omega))) ?_
  refine rw_v (op_pure rfl) ?_
  refine rw_v (op_conv Try.underlying3 Try.underlying213 rfl (u64_in _ (by omega))) ?_
  refine rw_call rfl (mul_E n (by omega) (by omega) _) ?_
  rintro _ w1 ⟨rfl, g1⟩
  have hB := hB.gr g1
  have G0 := G0.trans g1
  iterate 5 refine rw_v (op_pure rfl) ?_
  first | refine rw_end ?_ | (refine rw_nil ?_; show CW _ _ _ _ _ _) | refine rw_nil ?_
  repeat refine cw_seq ?_
  refine cw_region ?_
  refine rw_v (op_pure rfl) ?_
  refine rw_v (op_ugt rfl rfl (b := false) (decide_eq_false (by omega))) ?_
  refine rw_v (op_pure rfl) ?_
  first | refine rw_off rfl ?_ | (refine rw_on rfl ?_; refine rw_v (op_pure rfl) ?_)
  refine rw_on rfl ?_
  refine rw_v (op_ugt rfl rfl (b := false) (decide_eq_false (by omega))) ?_
  refine rw_v (op_pure rfl) ?_
  first | refine rw_end ?_ | (refine rw_nil ?_; show CW _ _ _ _ _ _) | refine rw_nil ?_
  repeat refine cw_seq ?_
  refine cw_false rfl ?_
  refine cw_skip ?_
  try show CW _ _ _ _ _ _
  repeat refine cw_seq ?_
  refine cw_region ?_
  refine rw_v (op_pure rfl) ?_
  refine rw_v (op_conv Try.underlying213 Try.underlying3 rfl (IntWalk.i64_in _ (by omega))) ?_
  try have qb1_ := hB.lt
  try have qb1_ := G0.le
  refine rw_new (op_make1 Try.underlying268 info_i32 rfl rfl rfl (n := n) (c := n) (by omega) (by omega) (by omega) (by omega)) ?_
  intro w1_ g1_ s1_ b1_
  have hB := hB.gr g1_
  have G0 := G0.trans g1_
  refine rw_v (op_pure rfl) ?_
  first | refine rw_end ?_ | (refine rw_nil ?_; show CW _ _ _ _ _ _) | refine rw_nil ?_
  have hb1 := G0.le
  have hq1 := hB.lt
  repeat refine cw_seq ?_
  refine cw_region ?_
  iterate 2 refine rw_v (op_pure rfl) ?_
  refine rw_copy Try.underlying268 Try.sizeOf21 rfl rfl b1_ hB (n := 1) (by omega) rfl rfl (by simp; omega) (by simpa using hv) ?_
  intro w3 g3 s3 b3
  refine rw_v (op_pure rfl) ?_
  first | refine rw_end ?_ | (refine rw_nil ?_; show CW _ _ _ _ _ _) | refine rw_nil ?_
  have G0 := G0.store g3 (by omega)
  repeat refine cw_seq ?_
  refine cw_block ?_
  refine cw_loop (fun m e w => ∃ k : Nat, 1 ≤ k ∧ k ≤ n ∧ k + m = n ∧ SL e [(7, .slice (some ⟨w1.heap.size, 0, none⟩) n n), (8, .int .i64 k)] ∧ (∃ l, Blk w w1.heap.size 21 l ∧ l.length = n ∧ ∀ i, i < k → l[i]? = some v) ∧ Gr W w) (n - 1)
    ⟨1, by omega, by omega, by omega, ⟨rfl, rfl, trivial⟩, ⟨_, b3, by simp; omega, fun i hi => (by rw [show i = 0 by omega]; simp)⟩, G0⟩ ?_
  rintro m e w ⟨k, hk1, hk2, hkm, hsl, ⟨l, hL, hlen, hl⟩, hg⟩
  rw [hsl.fold]
  repeat refine cw_seq ?_
  refine cw_region ?_
  iterate 2 refine rw_v (op_pure rfl) ?_
  refine rw_v (op_len Try.underlying268 rfl) ?_
  first | refine rw_v (op_b (b := true) rfl (decide_eq_true (by omega))) ?_ | refine rw_v (op_b (b := false) rfl (decide_eq_false (by omega))) ?_ | refine rw_v (op_pure rfl) ?_
  first | refine rw_end ?_ | (refine rw_nil ?_; show CW _ _ _ _ _ _) | refine rw_nil ?_
  repeat refine cw_seq ?_
  refine cw_cond rfl (fun hc => ?_) (fun hc => ?_)
  · refine cw_skip ?_
    try show CW _ _ _ _ _ _
    have hkn : k < n := by simp at hc; omega
    have hcell : ∀ u, u ∈ l.take k → u = v := fun u hu => by
      obtain ⟨i, hi, rfl⟩ := List.mem_iff_getElem.1 hu
      have hi' : i < k := by simp at hi; omega
      have := hl i hi'
      rw [List.getElem_take]
      rw [List.getElem?_eq_getElem (by omega)] at this
      exact Option.some.inj this
    repeat refine cw_seq ?_
    refine cw_block ?_
    repeat refine cw_seq ?_
    refine cw_tri (C := (fun σ wq => match σ with | [] => wq = w.drew | v0 :: _ => v0 = .int .i64 (min k (n - k) : Nat) ∧ w.grownBy wq (some w1.heap.size) ∧ Blk wq w1.heap.size 21 (l.take k ++ l.take (min k (n - k)) ++ l.drop (k + min k (n - k))))) [7] [0, 1, 2, 3, 4, 5, 6, 7, 8, 9] [] (by kernel_rfl) (by kernel_rfl) rfl ?_
    simp only [pickI, pickL, List.drop_succ_cons, List.drop_zero]
    refine rs_v rfl (op_pure rfl) ?_
    refine rs_v rfl (op_pure rfl) ?_
    refine rs_v rfl (op_pure rfl) ?_
    refine rs_v rfl (op_slice_l Try.underlying268 Try.sizeOf21 rfl rfl (by omega) (by omega) (by omega)) ?_
    refine rs_v rfl (op_pure rfl) ?_
    refine rs_v rfl (op_pure rfl) ?_
    refine rs_v rfl (op_slice_h Try.underlying268 Try.sizeOf21 rfl rfl (by omega) (by omega)) ?_
    refine rs_special rfl rfl (fun wq hq => ?_) ?_
    · subst hq; refine to_ex (op_copy Try.underlying268 Try.sizeOf21 rfl rfl hL.drew hL.drew (n := min k (n - k)) (by simp) rfl (by simp; omega) (by omega) (fun u hu => by rw [hcell u (by simp only [List.drop_zero, Nat.mul_one] at hu; exact (List.take_subset_take_left l (Nat.min_le_left _ _)) hu)]; exact hv)) ?_; rintro w' ⟨h2, h3, h4⟩; exact ⟨rfl, ⟨h2.os, h2.tape, h2.output, h2.size, h2.block⟩, by simpa using h4⟩
    rintro v0 wq' ⟨rfl, gq, bq⟩
    refine rs_v rfl (op_rng rfl (by omega)) ?_
    refine rs_v rfl (op_pure rfl) ?_
    refine rs_nil ?_
    rintro w4 ⟨_, g4, b4⟩
    first | refine rw_end ?_ | (refine rw_nil ?_; show CW _ _ _ _ _ _) | refine rw_nil ?_
    refine ⟨m - min k (n - k), by omega, k + min k (n - k), by omega, by omega, by omega, ⟨rfl, ie (by omega), trivial⟩, ⟨_, b4, by simp; omega, fun i hi => ?_⟩, ?_⟩
    · by_cases hik : i < k
      · rw [List.append_assoc, List.getElem?_append_left (by simp; omega)]
        simp [hik, hl i hik]
      · rw [List.append_assoc, List.getElem?_append_right (by simp; omega), List.getElem?_append_left (by simp; omega)]
        simp only [List.length_take]
        rw [List.getElem?_take, if_pos (by omega)]
        exact hl _ (by omega)
    · exact hg.store g4 (by omega)
  · refine cw_exit ?_
    show CW _ _ _ _ _ _
    repeat refine cw_seq ?_
    refine cw_region ?_
    iterate 2 refine rw_v (op_pure rfl) ?_
    first | refine rw_end ?_ | (refine rw_nil ?_; show CW _ _ _ _ _ _) | refine rw_nil ?_
    have hkn : k = n := by simp at hc; omega
    subst hkn
    have hle : l = List.replicate k v := by
      apply List.ext_getElem?
      intro i
      by_cases hi : i < k
      · rw [hl i hi]; simp [hi]
      · rw [List.getElem?_eq_none (by omega)]; simp [hi]
    subst hle
    exact cw_ret (res1 rfl ⟨_, rfl, g1.le, hL, hg⟩)
end Go.Proofs.Ytbcgbcipigcbhaa
