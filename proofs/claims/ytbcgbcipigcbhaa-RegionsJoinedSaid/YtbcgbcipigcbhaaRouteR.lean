/- The document's costs: contracts of the references. -/
import Derived.Test.YtbcgbcipigcbhaaCellN
import Derived.Test.YtbcgbcipigcbhaaRouteA
namespace Go.Proofs.Ytbcgbcipigcbhaa
open Go.RowKit
set_option linter.unusedVariables false
set_option linter.unusedSimpArgs false
set_option maxRecDepth 100000

def cellV (gw i : Nat) : Value := .agg #[.int .i64 (i % gw : Nat), .int .i64 (i / gw : Nat)]
theorem cellsQ_snoc (n : Nat) (o : Nat → Int) : cellsQ (n + 1) o = cellsQ n o ++ [.int .i64 (o n)] := by simp [cellsQ, List.range_succ]
section
variable {W : World} {A : Option Addr} {gw gh cap : Nat} {V : List Int}
theorem rcells_E (A B : Option Addr) (c d : Nat) (xs ys : List (Int × Int)) (W : World) (hl : xs.length ≤ 9223372036854775807) (hA : Rd W A (cellsZ xs)) (hB : Rd W B (cellsZ ys)) : Fn Try.prog 31 [.slice A xs.length c, .slice B ys.length d] W (RetG (.bool (decide (xs = ys))) W) := by
  have S := St.start W
  refine Fn_enter Try.func31 rfl Try.results31 Try.ntmps31 (by kernel_rfl) (by kernel_rfl) ?_
  repeat refine cw_seq ?_
  refine cw_region ?_
  refine rw_v (op_pure rfl) ?_
  first | refine rw_end ?_ | (refine rw_nil ?_; show CW _ _ _ _ _ _) | refine rw_nil ?_
  repeat refine cw_seq ?_
  refine cw_region ?_
  refine rw_v (op_pure rfl) ?_
  refine rw_v (op_len Try.underlying50 rfl) ?_
  refine rw_v (op_pure rfl) ?_
  refine rw_v (op_len Try.underlying50 rfl) ?_
  refine rw_v (op_pure rfl) ?_
  first | refine rw_end ?_ | (refine rw_nil ?_; show CW _ _ _ _ _ _) | refine rw_nil ?_
  repeat refine cw_seq ?_
  refine cw_cond rfl (fun hc => ?_) (fun hc => ?_)
  · try simp only [decide_eq_true_eq, decide_eq_false_iff_not, beq_iff_eq, bne_iff_ne, beq_eq_false_iff_ne, bne_eq_false_iff_eq, Bool.not_eq_true', Bool.not_eq_false', ne_eq, Decidable.not_not, Int.natCast_inj, Int.ofNat_lt, Int.ofNat_le, gt_iff_lt, ge_iff_le, Int.not_lt, Int.not_le] at hc
    repeat refine cw_seq ?_
    refine cw_region ?_
    refine rw_v (op_pure rfl) ?_
    first | refine rw_end ?_ | (refine rw_nil ?_; show CW _ _ _ _ _ _) | refine rw_nil ?_
    repeat refine cw_seq ?_
    refine cw_ret ?_
    repeat first | refine ret_then ?_ | refine ret_inb ?_
    exact res1 rfl ⟨be (by simp; intro e; subst e; exact hc rfl), S.out⟩
  · try simp only [decide_eq_true_eq, decide_eq_false_iff_not, beq_iff_eq, bne_iff_ne, beq_eq_false_iff_ne, bne_eq_false_iff_eq, Bool.not_eq_true', Bool.not_eq_false', ne_eq, Decidable.not_not, Int.natCast_inj, Int.ofNat_lt, Int.ofNat_le, gt_iff_lt, ge_iff_le, Int.not_lt, Int.not_le] at hc
    repeat refine cw_seq ?_
    refine cw_skip ?_
    try show CW _ _ _ _ _ _
    repeat refine cw_seq ?_
    refine cw_region ?_
    refine rw_v (op_pure rfl) ?_
    first | refine rw_end ?_ | (refine rw_nil ?_; show CW _ _ _ _ _ _) | refine rw_nil ?_
    repeat refine cw_seq ?_
    refine cw_block ?_
    repeat refine cw_seq ?_
    refine cw_loop (fun m e w => ∃ k : Nat, k + m = xs.length ∧ SL e [(0, .slice A xs.length c), (1, .slice B ys.length d), (5, .int .i64 k)] ∧ (∀ i, i < k → xs[i]? = ys[i]?) ∧ St No W w []) xs.length
      ⟨0, by omega, ⟨rfl, rfl, rfl, trivial⟩, fun i hi => by omega, S⟩ ?_
    rintro m e w ⟨k, hk, hsl, hI, S⟩
    rw [hsl.fold]
    repeat refine cw_seq ?_
    refine cw_region ?_
    iterate 2 refine rw_v (op_pure rfl) ?_
    refine rw_v (op_len Try.underlying50 rfl) ?_
    refine rw_v (op_pure rfl) ?_
    first | refine rw_end ?_ | (refine rw_nil ?_; show CW _ _ _ _ _ _) | refine rw_nil ?_
    repeat refine cw_seq ?_
    refine cw_cond rfl (fun hk1 => ?_) (fun hk1 => ?_)
    · try simp only [decide_eq_true_eq, decide_eq_false_iff_not, beq_iff_eq, bne_iff_ne, beq_eq_false_iff_ne, bne_eq_false_iff_eq, Bool.not_eq_true', Bool.not_eq_false', ne_eq, Decidable.not_not, Int.natCast_inj, Int.ofNat_lt, Int.ofNat_le, gt_iff_lt, ge_iff_le, Int.not_lt, Int.not_le] at hk1
      have hk1 : k < xs.length := by omega
      have hk2 : k < ys.length := by omega
      have sa_A : SomeA A := hA.someA (by rw [cellsZ_len]; omega)
      have sa_B : SomeA B := hB.someA (by rw [cellsZ_len]; omega)
      obtain ⟨p, hp⟩ : ∃ p, xs[k]? = some p := ⟨_, List.getElem?_eq_getElem hk1⟩
      obtain ⟨q, hq⟩ : ∃ q, ys[k]? = some q := ⟨_, List.getElem?_eq_getElem hk2⟩
      have hx : ((cellsZ xs).drop ((k : Int).toNat * 2)).take 2 = [.int .i64 p.1, .int .i64 p.2] := by rw [Int.toNat_natCast]; exact cellsZ_at hp
      have hy : ((cellsZ ys).drop ((k : Int).toNat * 2)).take 2 = [.int .i64 q.1, .int .i64 q.2] := by rw [Int.toNat_natCast]; exact cellsZ_at hq
      by_cases hpq : p.1 = q.1 ∧ p.2 = q.2
      · skip
        repeat refine cw_seq ?_
        refine cw_skip ?_
        try show CW _ _ _ _ _ _
        repeat refine cw_seq ?_
        refine cw_block ?_
        repeat refine cw_seq ?_
        refine cw_draw (C := fun wq => Gr w wq) [0, 1, 2, 3, 4, 5, 6, 7, 8] [] (by kernel_rfl) (by kernel_rfl) (Gr.drew _) ?_
        simp only [pickL, List.drop_succ_cons, List.drop_zero]
        iterate 2 refine rq_v (op_pure rfl) ?_
        refine rq_v (op_idx Try.underlying50 Try.sizeOf44 rfl rfl sa_A (by omega) (by omega)) ?_
        refine rq_r (fun wq hq => op_ldRA Try.underlying44 rfl (Try.sizeOf44 _) rfl (hA.gr (S.gr hq).out) hx rfl rfl) ?_
        iterate 2 refine rq_v (op_pure rfl) ?_
        refine rq_v (op_idx Try.underlying50 Try.sizeOf44 rfl rfl sa_B (by omega) (by omega)) ?_
        refine rq_r (fun wq hq => op_ldRA Try.underlying44 rfl (Try.sizeOf44 _) rfl (hB.gr (S.gr hq).out) hy rfl rfl) ?_
        refine rq_v (op_neCell (r := false) rfl rfl (by rw [decide_eq_true hpq]; rfl)) ?_
        refine rq_nil ?_
        intro w1_ g1_
        have S := S.gr g1_
        first | refine rw_end ?_ | (refine rw_nil ?_; show CW _ _ _ _ _ _) | refine rw_nil ?_
        repeat refine cw_seq ?_
        refine cw_false rfl ?_
        repeat refine cw_seq ?_
        refine cw_skip ?_
        try show CW _ _ _ _ _ _
        repeat refine cw_seq ?_
        refine cw_region ?_
        refine rw_v (op_pure rfl) ?_
        refine rw_v (op_rng rfl (by omega)) ?_
        refine rw_v (op_pure rfl) ?_
        first | refine rw_end ?_ | (refine rw_nil ?_; show CW _ _ _ _ _ _) | refine rw_nil ?_
        refine ⟨m - 1, by omega, k + 1, by omega, ⟨rfl, rfl, ie (by omega), trivial⟩, fun i hi => ?_, S⟩
        by_cases e : i = k
        · subst e; rw [hp, hq, Prod.ext hpq.1 hpq.2]
        · exact hI i (by omega)
      · skip
        repeat refine cw_seq ?_
        refine cw_skip ?_
        try show CW _ _ _ _ _ _
        repeat refine cw_seq ?_
        refine cw_block ?_
        repeat refine cw_seq ?_
        refine cw_draw (C := fun wq => Gr w wq) [0, 1, 2, 3, 4, 5, 6, 7, 8] [] (by kernel_rfl) (by kernel_rfl) (Gr.drew _) ?_
        simp only [pickL, List.drop_succ_cons, List.drop_zero]
        iterate 2 refine rq_v (op_pure rfl) ?_
        refine rq_v (op_idx Try.underlying50 Try.sizeOf44 rfl rfl sa_A (by omega) (by omega)) ?_
        refine rq_r (fun wq hq => op_ldRA Try.underlying44 rfl (Try.sizeOf44 _) rfl (hA.gr (S.gr hq).out) hx rfl rfl) ?_
        iterate 2 refine rq_v (op_pure rfl) ?_
        refine rq_v (op_idx Try.underlying50 Try.sizeOf44 rfl rfl sa_B (by omega) (by omega)) ?_
        refine rq_r (fun wq hq => op_ldRA Try.underlying44 rfl (Try.sizeOf44 _) rfl (hB.gr (S.gr hq).out) hy rfl rfl) ?_
        refine rq_v (op_neCell (r := true) rfl rfl (by rw [decide_eq_false hpq]; rfl)) ?_
        refine rq_nil ?_
        intro w2_ g2_
        have S := S.gr g2_
        first | refine rw_end ?_ | (refine rw_nil ?_; show CW _ _ _ _ _ _) | refine rw_nil ?_
        repeat refine cw_seq ?_
        refine cw_true rfl ?_
        repeat refine cw_seq ?_
        refine cw_region ?_
        refine rw_v (op_pure rfl) ?_
        first | refine rw_end ?_ | (refine rw_nil ?_; show CW _ _ _ _ _ _) | refine rw_nil ?_
        repeat refine cw_seq ?_
        refine cw_ret ?_
        repeat first | refine ret_then ?_ | refine ret_inb ?_
        refine res1 rfl ⟨be ?_, S.out⟩
        symm
        rw [decide_eq_false_iff_not]
        intro e; subst e; rw [hp] at hq; injection hq with hq; subst hq; exact hpq ⟨rfl, rfl⟩
    · try simp only [decide_eq_true_eq, decide_eq_false_iff_not, beq_iff_eq, bne_iff_ne, beq_eq_false_iff_ne, bne_eq_false_iff_eq, Bool.not_eq_true', Bool.not_eq_false', ne_eq, Decidable.not_not, Int.natCast_inj, Int.ofNat_lt, Int.ofNat_le, gt_iff_lt, ge_iff_le, Int.not_lt, Int.not_le] at hk1
      repeat refine cw_seq ?_
      refine cw_exit ?_
      repeat first | refine exit_then ?_ | refine exit_inb ?_
      show CW _ _ _ _ _ _
      repeat refine cw_seq ?_
      refine cw_region ?_
      refine rw_v (op_pure rfl) ?_
      first | refine rw_end ?_ | (refine rw_nil ?_; show CW _ _ _ _ _ _) | refine rw_nil ?_
      repeat refine cw_seq ?_
      refine cw_ret ?_
      repeat first | refine ret_then ?_ | refine ret_inb ?_
      refine res1 rfl ⟨be ?_, S.out⟩
      have e : xs = ys := by
        apply List.ext_getElem?
        intro i
        by_cases hi : i < xs.length
        · exact hI i (by omega)
        · rw [List.getElem?_eq_none (by omega), List.getElem?_eq_none (by omega)]
      simp [e]
theorem matI_E (i : Nat) (hgw : 0 < gw) (hi : i < gw * gh) (hV : V.length = gw * gh) (hm : gw * gh ≤ 1048576) (hA : Rd W A (ints V)) :
    Fn Try.prog 25 [modV gw gh A V.length cap, .agg #[.int .i64 (i % gw : Nat), .int .i64 (i / gw : Nat)]] W (RetG (.tuple #[.int .i64 (V.getD i 0), .int .i64 0]) W) := by
  have := mat_E (W := W) (A := A) (cap := cap) (cz gw i).1 (cz gw i).2 (cz_in hgw hi) hV hm hA
  rw [cz_idx] at this
  exact this
theorem nearI_E (i : Nat) (hgw : 0 < gw) (hi : i < gw * gh) (hV : V.length = gw * gh) (hm : gw * gh ≤ 1048576) (hA : Rd W A (ints V)) :
    Fn Try.prog 84 [modV gw gh A V.length cap, .agg #[.int .i64 (i % gw : Nat), .int .i64 (i / gw : Nat)]] W (RetNew id 44 2 (nearN gw V.length i).length (cellsZ ((nearN gw V.length i).map (cz gw))) W) := by
  have h1 := Nat.mod_le i gw
  have h2 := Nat.div_le_self i gw
  have := rnear_E (W := W) (A := A) (cap := cap) (i % gw : Nat) (i / gw : Nat) (by generalize i % gw = x at *; omega) (by generalize i / gw = y at *; omega) hV hm hA
  rw [nearZ_eq hgw hi, List.length_map, ← hV] at this
  exact this
end
end Go.Proofs.Ytbcgbcipigcbhaa
