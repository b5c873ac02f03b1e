/- regions.near, place, Joined: contracts. -/
import Derived.Test.YtbcgbcipigcbhaaJoinL
import Derived.Test.YtbcgbcipigcbhaaRouteR
import Derived.Test.YtbcgbcipigcbhaaRouteC
namespace Go.Proofs.Ytbcgbcipigcbhaa
open Go.RowKit
set_option linter.unusedVariables false
set_option linter.unusedSimpArgs false
set_option maxRecDepth 100000

def bitsV (n : Nat) (f : Nat → Bool) : List Value := (List.range n).map fun i => .bool (f i)
def updT (f : Nat → Bool) (k : Nat) : Nat → Bool := fun i => if i = k then true else f i
theorem bitsV_len (n : Nat) (f : Nat → Bool) : (bitsV n f).length = n := by simp [bitsV]
theorem bitsV_get {n i : Nat} {f : Nat → Bool} (h : i < n) : (bitsV n f)[(i : Int).toNat * 1]? = some (.bool (f i)) := by
  rw [Nat.mul_one, Int.toNat_natCast, bitsV, List.getElem?_map, List.getElem?_range h]; rfl
theorem bitsV_set {n k : Nat} {f : Nat → Bool} : (bitsV n f).set ((k : Int).toNat * 1) (.bool true) = bitsV n (updT f k) := by
  rw [Nat.mul_one, Int.toNat_natCast]
  apply List.ext_getElem?
  intro i
  rw [List.getElem?_set]
  unfold bitsV updT
  by_cases e : k = i
  · subst e
    rw [if_pos rfl]
    simp only [List.length_map, List.length_range]
    split
    · rename_i h; rw [List.getElem?_map, List.getElem?_range h]; simp
    · rename_i h; rw [List.getElem?_eq_none (by simp; omega)]
  · rw [if_neg e, List.getElem?_map, List.getElem?_map]
    by_cases h : i < n
    · rw [List.getElem?_range h, Option.map_some, Option.map_some, if_neg (fun h => e h.symm)]
    · rw [List.getElem?_eq_none (by simp; omega)]; rfl
theorem bitsV_zero (n : Nat) : List.replicate n (Value.bool false) = bitsV n (fun _ => false) := by
  unfold bitsV
  rw [List.map_const', List.length_range]
section
variable {W : World} {A B : Option Addr} {gw c p gh cap C n2 c2 : Nat} {V : List Int} {cc : Nat → Int} {bs : Nat → Nat} {Rs : Nat → Option Nat}
set_option maxHeartbeats 1000000 in
theorem rnear29p_E (i n : Nat) (hgw : 1 ≤ gw ∧ gw ≤ 1048576) (hi : i < n) (hn : n ≤ 1048576) : Fn Try.prog 74 [.agg #[.int .i64 gw, .int .i64 gh, .slice A n c], .int .i64 i] W (RetNew id 3 1 (nearN gw n i).length (natsV (nearN gw n i)) W) := by
  have em : (i : Int) % gw = ((i % gw : Nat) : Int) := by push_cast; rfl
  have hmod := Nat.mod_lt i hgw.1
  have hpos : 0 < i % gw → 1 ≤ i := fun h => by rcases Nat.eq_zero_or_pos i with h1 | h1; · subst h1; simp at h
                                                · exact h1
  unfold nearN
  generalize i % gw = m at *
  have S := St.start W
  refine Fn_enter Try.func74 rfl Try.results74 Try.ntmps74 (by kernel_rfl) (by kernel_rfl) ?_
  repeat refine cw_seq ?_
  refine cw_region ?_
  refine rw_newB (op_box rfl) S ?_
  intro b_lw w2_ g2_ S
  refine rw_v (op_pure rfl) ?_
  first | refine rw_end ?_ | (refine rw_nil ?_; show CW _ _ _ _ _ _) | refine rw_nil ?_
  repeat refine cw_seq ?_
  refine cw_region ?_
  refine rw_makeS1 Try.underlying122 info_t3 rfl rfl rfl (n := 0) (c := 4) (by omega) (by omega) (by omega) (by omega) S ?_
  intro A_out w4_ g4_ S sa_out
  refine rw_v (op_pure rfl) ?_
  first | refine rw_end ?_ | (refine rw_nil ?_; show CW _ _ _ _ _ _) | refine rw_nil ?_
  repeat refine cw_seq ?_
  refine cw_region ?_
  refine rw_v (op_pure rfl) ?_
  refine rw_v (op_fieldAddr Try.underlying118 rfl Try.sizeOf3 rfl rfl) ?_
  refine rw_r (op_loadB Try.underlying3 rfl rfl (S.blk (i := 1) rfl) rfl) ?_
  refine rw_v (op_pure rfl) ?_
  first | refine rw_end ?_ | (refine rw_nil ?_; show CW _ _ _ _ _ _) | refine rw_nil ?_
  repeat refine cw_seq ?_
  refine cw_cutT (M := fun e w => ∃ (acc : List Nat) (A_o : Option Addr) (c_o : Nat), acc = ([] : List Nat) ++ (if gw ≤ i then [i - gw] else []) ∧ SL e [(1, .int .i64 i), (2, .pointer (some ⟨b_lw, 0, none⟩)), (5, .slice A_o acc.length c_o)] ∧ St No W w [.row 3 1 A_o acc.length c_o (natsV acc), .blk b_lw 118 [.int .i64 gw, .int .i64 gh, .slice A n c]]) ?_ ?_
  · skip
    repeat refine cw_seq ?_
    refine cw_cond rfl (fun hc0 => ?_) (fun hc0 => ?_)
    · try simp only [decide_eq_true_eq, decide_eq_false_iff_not, beq_iff_eq, bne_iff_ne, beq_eq_false_iff_ne, bne_eq_false_iff_eq, Bool.not_eq_true', Bool.not_eq_false', ne_eq, Decidable.not_not, Int.natCast_inj, Int.ofNat_lt, Int.ofNat_le, gt_iff_lt, ge_iff_le, Int.not_lt, Int.not_le] at hc0
      repeat refine cw_seq ?_
      refine cw_region ?_
      iterate 2 refine rw_v (op_pure rfl) ?_
      refine rw_v (op_fieldAddr Try.underlying118 rfl Try.sizeOf3 rfl rfl) ?_
      refine rw_r (op_loadB Try.underlying3 rfl rfl (S.blk (i := 1) rfl) rfl) ?_
      refine rw_v (op_rng rfl (by omega)) ?_
      rw [show (i : Int) - gw = ((i - gw : Nat) : Int) by omega]
      refine rw_buildS Try.underlying122 Try.sizeOf3 Try.zeroValue3 rfl rfl rfl rfl rfl rfl S ?_
      intro A_lit w6_ g6_ S sa_lit
      refine rw_appS (i := 1) S rfl (fun h => rfl) Try.underlying122 info_t3 rfl rfl rfl rfl (by simp) (by omega) (S.rd (i := 0) rfl) rfl (by omega) ?_
      intro A_out7 c_out7 w7_ S sa_out
      refine rw_v (op_pure rfl) ?_
      first | refine rw_end ?_ | (refine rw_nil ?_; show CW _ _ _ _ _ _) | refine rw_nil ?_
      have S := S.drop 1
      have e1 : natsV ([] : List Nat) ++ [Value.int .i64 ((i - gw : Nat) : Int)] = natsV (([] : List Nat) ++ [i - gw]) := by simp [natsV]
      refine ⟨([] : List Nat) ++ [i - gw], _, _, by rw [if_pos (show gw ≤ i by omega)], ⟨rfl, rfl, se (by simp) rfl, trivial⟩, ?_⟩
      rw [← e1, List.length_append]
      exact S
    · try simp only [decide_eq_true_eq, decide_eq_false_iff_not, beq_iff_eq, bne_iff_ne, beq_eq_false_iff_ne, bne_eq_false_iff_eq, Bool.not_eq_true', Bool.not_eq_false', ne_eq, Decidable.not_not, Int.natCast_inj, Int.ofNat_lt, Int.ofNat_le, gt_iff_lt, ge_iff_le, Int.not_lt, Int.not_le] at hc0
      repeat refine cw_seq ?_
      refine cw_skip ?_
      try show CW _ _ _ _ _ _
      exact ⟨([] : List Nat), _, _, by rw [if_neg (show ¬ (gw ≤ i) by omega), List.append_nil], ⟨rfl, rfl, rfl, trivial⟩, S⟩
  · rintro e0 w0 ⟨acc1, A_out, c_out, hacc1, hsl, S⟩
    rw [hsl.fold]
    have hl1 : acc1.length ≤ 1 := by rw [hacc1]; split <;> simp <;> omega
    repeat refine cw_seq ?_
    refine cw_region ?_
    refine rw_v (op_pure rfl) ?_
    refine rw_v (op_fieldAddr Try.underlying118 rfl Try.sizeOf3 rfl rfl) ?_
    refine rw_r (op_loadB Try.underlying3 rfl rfl (S.blk (i := 1) rfl) rfl) ?_
    refine rw_v (op_rem rfl rfl (by omega) (by omega)) ?_
    rw [em]
    refine rw_v (op_pure rfl) ?_
    first | refine rw_end ?_ | (refine rw_nil ?_; show CW _ _ _ _ _ _) | refine rw_nil ?_
    repeat refine cw_seq ?_
    refine cw_cutT (M := fun e w => ∃ (acc : List Nat) (A_o : Option Addr) (c_o : Nat), acc = acc1 ++ (if 0 < m then [i - 1] else []) ∧ SL e [(1, .int .i64 i), (2, .pointer (some ⟨b_lw, 0, none⟩)), (5, .slice A_o acc.length c_o)] ∧ St No W w [.row 3 1 A_o acc.length c_o (natsV acc), .blk b_lw 118 [.int .i64 gw, .int .i64 gh, .slice A n c]]) ?_ ?_
    · skip
      repeat refine cw_seq ?_
      refine cw_cond rfl (fun hc1 => ?_) (fun hc1 => ?_)
      · try simp only [decide_eq_true_eq, decide_eq_false_iff_not, beq_iff_eq, bne_iff_ne, beq_eq_false_iff_ne, bne_eq_false_iff_eq, Bool.not_eq_true', Bool.not_eq_false', ne_eq, Decidable.not_not, Int.natCast_inj, Int.ofNat_lt, Int.ofNat_le, gt_iff_lt, ge_iff_le, Int.not_lt, Int.not_le] at hc1
        repeat refine cw_seq ?_
        refine cw_region ?_
        iterate 2 refine rw_v (op_pure rfl) ?_
        refine rw_v (op_rng rfl (by omega)) ?_
        rw [show (i : Int) - 1 = ((i - 1 : Nat) : Int) by omega]
        refine rw_buildS Try.underlying122 Try.sizeOf3 Try.zeroValue3 rfl rfl rfl rfl rfl rfl S ?_
        intro A_lit w9_ g9_ S sa_lit
        refine rw_appS (i := 1) S rfl (fun h => rfl) Try.underlying122 info_t3 rfl rfl rfl rfl (by simp) (by omega) (S.rd (i := 0) rfl) rfl (by omega) ?_
        intro A_out10 c_out10 w10_ S sa_out
        refine rw_v (op_pure rfl) ?_
        first | refine rw_end ?_ | (refine rw_nil ?_; show CW _ _ _ _ _ _) | refine rw_nil ?_
        have S := S.drop 1
        have e1 : natsV acc1 ++ [Value.int .i64 ((i - 1 : Nat) : Int)] = natsV (acc1 ++ [i - 1]) := by simp [natsV]
        refine ⟨acc1 ++ [i - 1], _, _, by rw [if_pos (show 0 < m by omega)], ⟨rfl, rfl, se (by simp) rfl, trivial⟩, ?_⟩
        rw [← e1, List.length_append]
        exact S
      · try simp only [decide_eq_true_eq, decide_eq_false_iff_not, beq_iff_eq, bne_iff_ne, beq_eq_false_iff_ne, bne_eq_false_iff_eq, Bool.not_eq_true', Bool.not_eq_false', ne_eq, Decidable.not_not, Int.natCast_inj, Int.ofNat_lt, Int.ofNat_le, gt_iff_lt, ge_iff_le, Int.not_lt, Int.not_le] at hc1
        repeat refine cw_seq ?_
        refine cw_skip ?_
        try show CW _ _ _ _ _ _
        exact ⟨acc1, _, _, by rw [if_neg (show ¬ (0 < m) by omega), List.append_nil], ⟨rfl, rfl, rfl, trivial⟩, S⟩
    · rintro e1 w1 ⟨acc2, A_out, c_out, hacc2, hsl, S⟩
      rw [hsl.fold]
      have hl2 : acc2.length ≤ 2 := by rw [hacc2]; split <;> simp <;> omega
      repeat refine cw_seq ?_
      refine cw_draw (C := fun wq => Gr w1 wq) [0, 1, 2, 3, 4, 5, 6, 7] [] (by kernel_rfl) (by kernel_rfl) (Gr.drew _) ?_
      simp only [pickL, List.drop_succ_cons, List.drop_zero]
      refine rq_v (op_pure rfl) ?_
      refine rq_v (op_fieldAddr Try.underlying118 rfl Try.sizeOf3 rfl rfl) ?_
      refine rq_r (fun wq hq => op_loadB Try.underlying3 rfl rfl ((S.gr hq).blk (i := 1) rfl) rfl) ?_
      refine rq_v (op_rem rfl rfl (by omega) (by omega)) ?_
      rw [em]
      refine rq_v (op_fieldAddr Try.underlying118 rfl Try.sizeOf3 rfl rfl) ?_
      refine rq_r (fun wq hq => op_loadB Try.underlying3 rfl rfl ((S.gr hq).blk (i := 1) rfl) rfl) ?_
      refine rq_v (op_rng rfl (by omega)) ?_
      first | refine rq_v (op_b (b := true) rfl (decide_eq_true (by omega))) ?_ | refine rq_v (op_b (b := false) rfl (decide_eq_false (by omega))) ?_ | refine rq_v (op_pure rfl) ?_
      refine rq_nil ?_
      intro w11_ g11_
      have S := S.gr g11_
      first | refine rw_end ?_ | (refine rw_nil ?_; show CW _ _ _ _ _ _) | refine rw_nil ?_
      repeat refine cw_seq ?_
      refine cw_cutT (M := fun e w => ∃ (acc : List Nat) (A_o : Option Addr) (c_o : Nat), acc = acc2 ++ (if m + 1 < gw then [i + 1] else []) ∧ SL e [(1, .int .i64 i), (2, .pointer (some ⟨b_lw, 0, none⟩)), (5, .slice A_o acc.length c_o)] ∧ St No W w [.row 3 1 A_o acc.length c_o (natsV acc), .blk b_lw 118 [.int .i64 gw, .int .i64 gh, .slice A n c]]) ?_ ?_
      · skip
        repeat refine cw_seq ?_
        refine cw_cond rfl (fun hc2 => ?_) (fun hc2 => ?_)
        · try simp only [decide_eq_true_eq, decide_eq_false_iff_not, beq_iff_eq, bne_iff_ne, beq_eq_false_iff_ne, bne_eq_false_iff_eq, Bool.not_eq_true', Bool.not_eq_false', ne_eq, Decidable.not_not, Int.natCast_inj, Int.ofNat_lt, Int.ofNat_le, gt_iff_lt, ge_iff_le, Int.not_lt, Int.not_le] at hc2
          repeat refine cw_seq ?_
          refine cw_region ?_
          iterate 2 refine rw_v (op_pure rfl) ?_
          refine rw_v (op_rng rfl (by omega)) ?_
          rw [show (i : Int) + 1 = ((i + 1 : Nat) : Int) by omega]
          refine rw_buildS Try.underlying122 Try.sizeOf3 Try.zeroValue3 rfl rfl rfl rfl rfl rfl S ?_
          intro A_lit w13_ g13_ S sa_lit
          refine rw_appS (i := 1) S rfl (fun h => rfl) Try.underlying122 info_t3 rfl rfl rfl rfl (by simp) (by omega) (S.rd (i := 0) rfl) rfl (by omega) ?_
          intro A_out14 c_out14 w14_ S sa_out
          refine rw_v (op_pure rfl) ?_
          first | refine rw_end ?_ | (refine rw_nil ?_; show CW _ _ _ _ _ _) | refine rw_nil ?_
          have S := S.drop 1
          have e1 : natsV acc2 ++ [Value.int .i64 ((i + 1 : Nat) : Int)] = natsV (acc2 ++ [i + 1]) := by simp [natsV]
          refine ⟨acc2 ++ [i + 1], _, _, by rw [if_pos (show m + 1 < gw by omega)], ⟨rfl, rfl, se (by simp) rfl, trivial⟩, ?_⟩
          rw [← e1, List.length_append]
          exact S
        · try simp only [decide_eq_true_eq, decide_eq_false_iff_not, beq_iff_eq, bne_iff_ne, beq_eq_false_iff_ne, bne_eq_false_iff_eq, Bool.not_eq_true', Bool.not_eq_false', ne_eq, Decidable.not_not, Int.natCast_inj, Int.ofNat_lt, Int.ofNat_le, gt_iff_lt, ge_iff_le, Int.not_lt, Int.not_le] at hc2
          repeat refine cw_seq ?_
          refine cw_skip ?_
          try show CW _ _ _ _ _ _
          exact ⟨acc2, _, _, by rw [if_neg (show ¬ (m + 1 < gw) by omega), List.append_nil], ⟨rfl, rfl, rfl, trivial⟩, S⟩
      · rintro e2 w2 ⟨acc3, A_out, c_out, hacc3, hsl, S⟩
        rw [hsl.fold]
        have hl3 : acc3.length ≤ 3 := by rw [hacc3]; split <;> simp <;> omega
        repeat refine cw_seq ?_
        refine cw_region ?_
        refine rw_v (op_pure rfl) ?_
        refine rw_v (op_fieldAddr Try.underlying118 rfl Try.sizeOf3 rfl rfl) ?_
        refine rw_r (op_loadB Try.underlying3 rfl rfl (S.blk (i := 1) rfl) rfl) ?_
        refine rw_v (op_rng rfl (by omega)) ?_
        refine rw_v (op_fieldAddr Try.underlying118 rfl Try.sizeOf22 rfl rfl) ?_
        refine rw_r (op_loadB Try.underlying22 rfl rfl (S.blk (i := 1) rfl) rfl) ?_
        refine rw_v (op_len Try.underlying22 rfl) ?_
        refine rw_v (op_pure rfl) ?_
        first | refine rw_end ?_ | (refine rw_nil ?_; show CW _ _ _ _ _ _) | refine rw_nil ?_
        repeat refine cw_seq ?_
        refine cw_cutT (M := fun e w => ∃ (acc : List Nat) (A_o : Option Addr) (c_o : Nat), acc = acc3 ++ (if i + gw < n then [i + gw] else []) ∧ SL e [(1, .int .i64 i), (2, .pointer (some ⟨b_lw, 0, none⟩)), (5, .slice A_o acc.length c_o)] ∧ St No W w [.row 3 1 A_o acc.length c_o (natsV acc), .blk b_lw 118 [.int .i64 gw, .int .i64 gh, .slice A n c]]) ?_ ?_
        · skip
          repeat refine cw_seq ?_
          refine cw_cond rfl (fun hc3 => ?_) (fun hc3 => ?_)
          · try simp only [decide_eq_true_eq, decide_eq_false_iff_not, beq_iff_eq, bne_iff_ne, beq_eq_false_iff_ne, bne_eq_false_iff_eq, Bool.not_eq_true', Bool.not_eq_false', ne_eq, Decidable.not_not, Int.natCast_inj, Int.ofNat_lt, Int.ofNat_le, gt_iff_lt, ge_iff_le, Int.not_lt, Int.not_le] at hc3
            repeat refine cw_seq ?_
            refine cw_region ?_
            iterate 2 refine rw_v (op_pure rfl) ?_
            refine rw_v (op_fieldAddr Try.underlying118 rfl Try.sizeOf3 rfl rfl) ?_
            refine rw_r (op_loadB Try.underlying3 rfl rfl (S.blk (i := 1) rfl) rfl) ?_
            refine rw_v (op_rng rfl (by omega)) ?_
            rw [show (i : Int) + gw = ((i + gw : Nat) : Int) by omega]
            refine rw_buildS Try.underlying122 Try.sizeOf3 Try.zeroValue3 rfl rfl rfl rfl rfl rfl S ?_
            intro A_lit w16_ g16_ S sa_lit
            refine rw_appS (i := 1) S rfl (fun h => rfl) Try.underlying122 info_t3 rfl rfl rfl rfl (by simp) (by omega) (S.rd (i := 0) rfl) rfl (by omega) ?_
            intro A_out17 c_out17 w17_ S sa_out
            refine rw_v (op_pure rfl) ?_
            first | refine rw_end ?_ | (refine rw_nil ?_; show CW _ _ _ _ _ _) | refine rw_nil ?_
            have S := S.drop 1
            have e1 : natsV acc3 ++ [Value.int .i64 ((i + gw : Nat) : Int)] = natsV (acc3 ++ [i + gw]) := by simp [natsV]
            refine ⟨acc3 ++ [i + gw], _, _, by rw [if_pos (show i + gw < n by omega)], ⟨rfl, rfl, se (by simp) rfl, trivial⟩, ?_⟩
            rw [← e1, List.length_append]
            exact S
          · try simp only [decide_eq_true_eq, decide_eq_false_iff_not, beq_iff_eq, bne_iff_ne, beq_eq_false_iff_ne, bne_eq_false_iff_eq, Bool.not_eq_true', Bool.not_eq_false', ne_eq, Decidable.not_not, Int.natCast_inj, Int.ofNat_lt, Int.ofNat_le, gt_iff_lt, ge_iff_le, Int.not_lt, Int.not_le] at hc3
            repeat refine cw_seq ?_
            refine cw_skip ?_
            try show CW _ _ _ _ _ _
            exact ⟨acc3, _, _, by rw [if_neg (show ¬ (i + gw < n) by omega), List.append_nil], ⟨rfl, rfl, rfl, trivial⟩, S⟩
        · rintro e3 w3 ⟨acc4, A_out, c_out, hacc4, hsl, S⟩
          rw [hsl.fold]
          have hl4 : acc4.length ≤ 4 := by rw [hacc4]; split <;> simp <;> omega
          repeat refine cw_seq ?_
          refine cw_region ?_
          iterate 2 refine rw_v (op_pure rfl) ?_
          first | refine rw_end ?_ | (refine rw_nil ?_; show CW _ _ _ _ _ _) | refine rw_nil ?_
          repeat refine cw_seq ?_
          refine cw_ret ?_
          repeat first | refine ret_then ?_ | refine ret_inb ?_
          rw [List.nil_append] at hacc1
          rw [← hacc1, ← hacc2, ← hacc3, ← hacc4]
          exact res1 rfl (S.retNew (i := 0) (mk := id) rfl)
theorem regplace_E (i n : Nat) (hgw : 1 ≤ gw) (hi : i < gw * gh) (hm : gw * gh ≤ 1048576) : Fn Try.prog 73 [.agg #[.int .i64 gw, .int .i64 gh, .slice A n c], .agg #[.int .i64 (i % gw : Nat), .int .i64 (i / gw : Nat)]] W (RetG (.int .i64 i) W) := by
  have hidx : ((i / gw : Nat) : Int) * gw + ((i % gw : Nat) : Int) = (i : Int) := by
    have := Nat.div_add_mod i gw
    rw [Nat.mul_comm] at this
    rw [← Int.natCast_mul, ← Int.natCast_add, this]
  have hprod : 0 ≤ ((i / gw : Nat) : Int) * gw ∧ ((i / gw : Nat) : Int) * gw ≤ 1048576 := by
    have h0 : 0 ≤ ((i % gw : Nat) : Int) := Int.natCast_nonneg _
    have h1 : (0 : Int) ≤ ((i / gw : Nat) : Int) * gw := Int.mul_nonneg (Int.natCast_nonneg _) (Int.natCast_nonneg _)
    generalize ((i / gw : Nat) : Int) * gw = P at *
    generalize ((i % gw : Nat) : Int) = Q at *
    omega
  generalize i / gw = Y at *
  generalize i % gw = X at *
  have S := St.start W
  refine Fn_enter Try.func73 rfl Try.results73 Try.ntmps73 (by kernel_rfl) (by kernel_rfl) ?_
  repeat refine cw_seq ?_
  refine cw_region ?_
  refine rw_newB (op_box rfl) S ?_
  intro b_l w2_ g2_ S
  refine rw_newB (op_box rfl) S ?_
  intro b_c w4_ g4_ S
  refine rw_v (op_pure rfl) ?_
  first | refine rw_end ?_ | (refine rw_nil ?_; show CW _ _ _ _ _ _) | refine rw_nil ?_
  repeat refine cw_seq ?_
  refine cw_region ?_
  refine rw_v (op_fieldAddr Try.underlying44 rfl Try.sizeOf2 rfl rfl) ?_
  refine rw_r (op_loadB Try.underlying2 rfl rfl (S.blk (i := 0) rfl) rfl) ?_
  refine rw_v (op_fieldAddr Try.underlying118 rfl Try.sizeOf3 rfl rfl) ?_
  refine rw_r (op_loadB Try.underlying3 rfl rfl (S.blk (i := 1) rfl) rfl) ?_
  refine rw_v (op_rng rfl (by generalize (Y : Int) * gw = P at *; omega)) ?_
  refine rw_v (op_fieldAddr Try.underlying44 rfl Try.sizeOf2 rfl rfl) ?_
  refine rw_r (op_loadB Try.underlying2 rfl rfl (S.blk (i := 0) rfl) rfl) ?_
  refine rw_v (op_rng rfl (by rw [hidx]; omega)) ?_
  rw [hidx]
  refine rw_v (op_pure rfl) ?_
  first | refine rw_end ?_ | (refine rw_nil ?_; show CW _ _ _ _ _ _) | refine rw_nil ?_
  repeat refine cw_seq ?_
  refine cw_ret ?_
  repeat first | refine ret_then ?_ | refine ret_inb ?_
  exact res1 rfl ⟨rfl, S.out⟩
theorem joinC_E (a b : Nat) (ha : a < V.length) (hb : b < V.length) (hC : Blk W C 118 [.int .i64 gw, .int .i64 gh, .slice A V.length c]) (hA : Rd W A (ints V)) :
    Fn Try.prog 70 ([] ++ [.int .i64 a, .int .i64 b] ++ [.pointer (some ⟨C, 0, none⟩)]) W (RetG (.int .i64 (cmpI (V.getD b 0) (V.getD a 0))) W) := by
  have sa_A : SomeA A := hA.someA (by rw [ints_len]; omega)
  have hget : ∀ i, i < V.length → (ints V)[(i : Int).toNat * 1]? = some (.int .i64 (V.getD i 0)) := fun i hi => by rw [Nat.mul_one, Int.toNat_natCast]; exact ints_get (getD_at hi)
  have S := St.start W
  refine Fn_enter Try.func70 rfl Try.results70 Try.ntmps70 (by kernel_rfl) (by kernel_rfl) ?_
  repeat refine cw_seq ?_
  refine cw_region ?_
  refine rw_v (op_pure rfl) ?_
  first | refine rw_end ?_ | (refine rw_nil ?_; show CW _ _ _ _ _ _) | refine rw_nil ?_
  repeat refine cw_seq ?_
  refine cw_draw (C := fun wq => Gr W wq) [0, 1, 2, 3, 4, 5, 6, 7, 8, 9, 10, 11] [] (by kernel_rfl) (by kernel_rfl) (Gr.drew _) ?_
  simp only [pickL, List.drop_succ_cons, List.drop_zero]
  refine rq_v (op_fieldAddr Try.underlying118 rfl Try.sizeOf22 rfl rfl) ?_
  refine rq_r (fun wq hq => op_loadB Try.underlying22 rfl rfl (hC.gr (S.gr hq).out) rfl) ?_
  refine rq_v (op_pure rfl) ?_
  refine rq_v (op_idx Try.underlying22 Try.sizeOf2 rfl rfl sa_A (by omega) (by omega)) ?_
  refine rq_r (fun wq hq => op_ldR Try.underlying2 rfl rfl (hA.gr (S.gr hq).out) (hget b hb)) ?_
  refine rq_v (op_fieldAddr Try.underlying118 rfl Try.sizeOf22 rfl rfl) ?_
  refine rq_r (fun wq hq => op_loadB Try.underlying22 rfl rfl (hC.gr (S.gr hq).out) rfl) ?_
  refine rq_v (op_pure rfl) ?_
  refine rq_v (op_idx Try.underlying22 Try.sizeOf2 rfl rfl sa_A (by omega) (by omega)) ?_
  refine rq_r (fun wq hq => op_ldR Try.underlying2 rfl rfl (hA.gr (S.gr hq).out) (hget a ha)) ?_
  refine rq_call rfl (fun wq hq => (compare_E _ _).mono (fun _ _ ⟨hv, hg⟩ => ⟨hv, hq.trans hg⟩)) ?_
  refine rq_v (op_pure rfl) ?_
  refine rq_nil ?_
  intro w1_ g1_
  have S := S.gr g1_
  first | refine rw_end ?_ | (refine rw_nil ?_; show CW _ _ _ _ _ _) | refine rw_nil ?_
  repeat refine cw_seq ?_
  refine cw_ret ?_
  repeat first | refine ret_then ?_ | refine ret_inb ?_
  exact res1 rfl ⟨rfl, S.out⟩
end
end Go.Proofs.Ytbcgbcipigcbhaa
