/- The document's levels: hachureref45.Levels. -/
import Derived.Test.YtbcgbcipigcbhaaFillL
import Derived.Test.YtbcgbcipigcbhaaRouteR
namespace Go.Proofs.Ytbcgbcipigcbhaa
open Go.RowKit
set_option linter.unusedVariables false
set_option linter.unusedSimpArgs false
set_option maxRecDepth 100000

theorem bord_iff {gw gh k : Nat} (hgw : 0 < gw) (hk : k < gw * gh) : bordB gw (gw * gh) k = true ↔ k % gw = 0 ∨ k / gw = 0 ∨ k % gw + 1 = gw ∨ k / gw + 1 = gh := by
  have hy : k / gw < gh := Nat.div_lt_of_lt_mul hk
  have hm := Nat.mod_lt k hgw
  have hd := Nat.div_add_mod k gw
  have h1 : k < gw ↔ k / gw = 0 := by
    constructor
    · intro h; exact Nat.div_eq_of_lt h
    · intro h; rw [h] at hd; omega
  have h2 : gw * gh ≤ k + gw ↔ k / gw + 1 = gh := by
    constructor
    · intro h
      rcases Nat.lt_or_ge (k / gw + 1) gh with e | e
      · have h3 : k / gw + 2 ≤ gh := e
        have := Nat.mul_le_mul_left gw h3
        rw [Nat.mul_add] at this
        omega
      · omega
    · intro h
      have := congrArg (gw * ·) h
      simp only [Nat.mul_add, Nat.mul_one] at this
      omega
  unfold bordB
  simp only [Bool.or_eq_true, decide_eq_true_eq, h1, h2]
  constructor
  · rintro (((h | h) | h) | h)
    · exact .inl h
    · exact .inr (.inr (.inl h))
    · exact .inr (.inl h)
    · exact .inr (.inr (.inr h))
  · rintro (h | h | h | h)
    · exact .inl (.inl (.inl h))
    · exact .inl (.inr h)
    · exact .inl (.inl (.inr h))
    · exact .inr h
section
variable {W : World} {A : Option Addr} {gw gh cap : Nat} {V : List Int}
set_option maxHeartbeats 8000000 in
theorem rlevels_E (L : Nat → Int) (rk : Nat → Nat) (hgw : 1 ≤ gw ∧ gw ≤ 1024) (hgh : 1 ≤ gh ∧ gh ≤ 1024) (hV : V.length = gw * gh) (hn : gw * gh ≤ 1048576) (hB : vB V) (hL : IsLev gw gh V L rk) (hA : Rd W A (ints V)) :
    Fn Try.prog 63 [modV gw gh A V.length cap] W (RetNew (fun s => .agg #[.int .i64 gw, .int .i64 gh, s]) 2 1 (gw * gh) (cellsQ (gw * gh) L) W) := by
  have hmi : (gw : Int) * gh = ((gw * gh : Nat) : Int) := by push_cast; rfl
  have hpos : 1 ≤ gw * gh := Nat.mul_le_mul hgw.1 hgh.1
  have sa_A : SomeA A := hA.someA (by rw [ints_len]; omega)
  have S := St.start W
  refine Fn_enter Try.func63 rfl Try.results63 Try.ntmps63 (by kernel_rfl) (by kernel_rfl) ?_
  repeat refine cw_seq ?_
  refine cw_region ?_
  refine rw_newB (op_box rfl) S ?_
  intro b_md w2_ g2_ S
  refine rw_newB (op_alloc Try.zeroValue25 rfl) S ?_
  intro b_res w4_ g4_ S
  first | refine rw_end ?_ | (refine rw_nil ?_; show CW _ _ _ _ _ _) | refine rw_nil ?_
  repeat refine cw_seq ?_
  refine cw_region ?_
  refine rw_v (op_fieldAddr Try.underlying25 rfl Try.sizeOf2 rfl rfl) ?_
  refine rw_r (op_loadB Try.underlying2 rfl rfl (S.blk (i := 1) rfl) rfl) ?_
  refine rw_v (op_fieldAddr Try.underlying25 rfl Try.sizeOf2 rfl rfl) ?_
  refine rw_r (op_loadB Try.underlying2 rfl rfl (S.blk (i := 1) rfl) rfl) ?_
  refine rw_v (op_build (pl := [(0, 1), (1, 1), (2, 1)]) Try.underlying25 Try.zeroValue25 (fun w => by kernel_rfl) rfl rfl) ?_
  refine rw_newB (op_alloc Try.zeroValue25 rfl) S ?_
  intro b_om w6_ g6_ S
  refine rw_storeSA (i := 0) S rfl (Try.sizeOf25 _) rfl rfl rfl rfl rfl rfl ?_
  intro w7_ S
  first | refine rw_end ?_ | (refine rw_nil ?_; show CW _ _ _ _ _ _) | refine rw_nil ?_
  repeat refine cw_seq ?_
  refine cw_region ?_
  refine rw_v (op_pure rfl) ?_
  first | refine rw_end ?_ | (refine rw_nil ?_; show CW _ _ _ _ _ _) | refine rw_nil ?_
  repeat refine cw_seq ?_
  refine cw_block ?_
  repeat refine cw_seq ?_
  have S := S.pushNil 2 1
  refine cw_loop (fun m e w => ∃ (k : Nat) (A_out : Option Addr) (c_out : Nat), k + m = gw * gh ∧ SL e [(1, .pointer (some ⟨b_md, 0, none⟩)), (2, .pointer (some ⟨b_res, 0, none⟩)), (3, .pointer (some ⟨b_om, 0, none⟩)), (4, .int .i64 k)] ∧
    St No W w [.row 2 1 A_out k c_out (cellsQ k (lev0 gw (gw * gh) V)), .blk b_om 25 [.int .i64 gw, .int .i64 gh, .slice A_out k c_out], .blk b_res 25 [.int .i64 0, .int .i64 0, .slice none 0 0], .blk b_md 25 [.int .i64 gw, .int .i64 gh, .slice A V.length cap]]) (gw * gh)
    ⟨0, none, 0, by omega, ⟨rfl, rfl, rfl, rfl, trivial⟩, S⟩ ?_
  clear S
  rintro m e w ⟨k, A_out, c_out, hk, hsl, S⟩
  rw [hsl.fold]
  repeat refine cw_seq ?_
  refine cw_region ?_
  refine rw_v (op_pure rfl) ?_
  refine rw_v (op_fieldAddr Try.underlying25 rfl Try.sizeOf2 rfl rfl) ?_
  refine rw_r (op_loadB Try.underlying2 rfl rfl (S.blk (i := 3) rfl) rfl) ?_
  refine rw_v (op_fieldAddr Try.underlying25 rfl Try.sizeOf2 rfl rfl) ?_
  refine rw_r (op_loadB Try.underlying2 rfl rfl (S.blk (i := 3) rfl) rfl) ?_
  refine rw_v (op_rng rfl (by omega)) ?_
  rw [hmi]
  refine rw_v (op_pure rfl) ?_
  first | refine rw_end ?_ | (refine rw_nil ?_; show CW _ _ _ _ _ _) | refine rw_nil ?_
  repeat refine cw_seq ?_
  refine cw_cond rfl (fun hc => ?_) (fun hc => ?_)
  · try simp only [decide_eq_true_eq, decide_eq_false_iff_not, beq_iff_eq, bne_iff_ne, beq_eq_false_iff_ne, bne_eq_false_iff_eq, Bool.not_eq_true', Bool.not_eq_false', ne_eq, Decidable.not_not, Int.natCast_inj, Int.ofNat_lt, Int.ofNat_le, gt_iff_lt, ge_iff_le, Int.not_lt, Int.not_le] at hc
    have hkn : k < gw * gh := by omega
    have em : (k : Int) % gw = ((k % gw : Nat) : Int) := by push_cast; rfl
    have ed : (k : Int) / gw = ((k / gw : Nat) : Int) := by push_cast; rfl
    have hbi := bord_iff (gw := gw) (gh := gh) (k := k) (by omega) hkn
    have hyl : k / gw < gh := Nat.div_lt_of_lt_mul hkn
    have hml : k % gw < gw := Nat.mod_lt k (by omega)
    have hbt : bordB gw (gw * gh) k = true ↔ k % gw = 0 ∨ k / gw = 0 ∨ k % gw + 1 = gw ∨ k / gw + 1 = gh := hbi
    have hbn : bordB gw (gw * gh) k = false ↔ ¬ k % gw = 0 ∧ ¬ k / gw = 0 ∧ ¬ k % gw + 1 = gw ∧ ¬ k / gw + 1 = gh := by
      rw [← Bool.not_eq_true, hbi]
      constructor
      · intro h; exact ⟨fun e => h (.inl e), fun e => h (.inr (.inl e)), fun e => h (.inr (.inr (.inl e))), fun e => h (.inr (.inr (.inr e)))⟩
      · rintro ⟨h1, h2, h3, h4⟩ (h | h | h | h)
        · exact h1 h
        · exact h2 h
        · exact h3 h
        · exact h4 h
    have hvget : (ints V)[(k : Int).toNat * 1]? = some (.int .i64 (V.getD k 0)) := by rw [Nat.mul_one, Int.toNat_natCast]; exact ints_get (getD_at (by omega))
    have hnext : ∀ v, v = lev0 gw (gw * gh) V k → cellsQ k (lev0 gw (gw * gh) V) ++ [.int .i64 v] = cellsQ (k + 1) (lev0 gw (gw * gh) V) := fun v hv => by rw [hv, cellsQ_snoc]
    repeat refine cw_seq ?_
    refine cw_skip ?_
    try show CW _ _ _ _ _ _
    repeat refine cw_seq ?_
    refine cw_block ?_
    repeat refine cw_seq ?_
    refine cw_draw (C := fun wq => Gr w wq) [0, 1, 2, 3, 4, 5, 6, 7, 8, 9] [] (by kernel_rfl) (by kernel_rfl) (Gr.drew _) ?_
    simp only [pickL, List.drop_succ_cons, List.drop_zero]
    refine rq_v (op_pure rfl) ?_
    refine rq_v (op_fieldAddr Try.underlying25 rfl Try.sizeOf2 rfl rfl) ?_
    refine rq_r (fun wq hq => op_loadB Try.underlying2 rfl rfl ((S.gr hq).blk (i := 3) rfl) rfl) ?_
    refine rq_v (op_rem rfl rfl (by omega) (by omega)) ?_
    rw [em]
    refine rq_v (op_pure rfl) ?_
    refine rq_v (op_fieldAddr Try.underlying25 rfl Try.sizeOf2 rfl rfl) ?_
    refine rq_r (fun wq hq => op_loadB Try.underlying2 rfl rfl ((S.gr hq).blk (i := 3) rfl) rfl) ?_
    refine rq_v (op_div rfl rfl (by omega) (by omega)) ?_
    rw [ed]
    iterate 2 refine rq_v (op_pure rfl) ?_
    refine rq_nil ?_
    intro w8_ g8_
    have S := S.gr g8_
    first | refine rw_end ?_ | (refine rw_nil ?_; show CW _ _ _ _ _ _) | refine rw_nil ?_
    repeat refine cw_seq ?_
    refine cw_cutT (M := fun e w => SL e [(1, .pointer (some ⟨b_md, 0, none⟩)), (2, .pointer (some ⟨b_res, 0, none⟩)), (3, .pointer (some ⟨b_om, 0, none⟩)), (4, .int .i64 k), (54, .bool (bordB gw (gw * gh) k))] ∧ St No W w [.row 2 1 A_out k c_out (cellsQ k (lev0 gw (gw * gh) V)), .blk b_om 25 [.int .i64 gw, .int .i64 gh, .slice A_out k c_out], .blk b_res 25 [.int .i64 0, .int .i64 0, .slice none 0 0], .blk b_md 25 [.int .i64 gw, .int .i64 gh, .slice A V.length cap]]) ?_ ?_
    · generalize hmg : k % gw = m at *
      generalize hyg : k / gw = y at *
      by_cases c0 : m = 0
      · skip
        repeat refine cw_seq ?_
        refine cw_region ?_
        refine rw_v (op_pure rfl) ?_
        first | refine rw_v (op_b (b := true) rfl (beq_iff_eq.2 (by omega))) ?_ | refine rw_v (op_b (b := false) rfl (beq_eq_false_iff_ne.2 (by omega))) ?_ | refine rw_v (op_pure rfl) ?_
        refine rw_v (op_pure rfl) ?_
        first | refine rw_off rfl ?_ | (refine rw_on rfl ?_; refine rw_v (op_pure rfl) ?_)
        first | refine rw_off rfl ?_ | (refine rw_on rfl ?_; (first | refine rw_v (op_b (b := true) rfl (beq_iff_eq.2 (by omega))) ?_ | refine rw_v (op_b (b := false) rfl (beq_eq_false_iff_ne.2 (by omega))) ?_ | refine rw_v (op_pure rfl) ?_))
        iterate 2 refine rw_v (op_pure rfl) ?_
        first | refine rw_off rfl ?_ | (refine rw_on rfl ?_; refine rw_v (op_pure rfl) ?_)
        first | refine rw_off rfl ?_ | (refine rw_on rfl ?_; refine rw_v (op_fieldAddr Try.underlying25 rfl Try.sizeOf2 rfl rfl) ?_)
        first | refine rw_off rfl ?_ | (refine rw_on rfl ?_; refine rw_r (op_loadB Try.underlying2 rfl rfl (S.blk (i := 3) rfl) rfl) ?_)
        first | refine rw_off rfl ?_ | (refine rw_on rfl ?_; refine rw_v (op_rng rfl (by omega)) ?_)
        first | refine rw_off rfl ?_ | (refine rw_on rfl ?_; (first | refine rw_v (op_b (b := true) rfl (beq_iff_eq.2 (by omega))) ?_ | refine rw_v (op_b (b := false) rfl (beq_eq_false_iff_ne.2 (by omega))) ?_ | refine rw_v (op_pure rfl) ?_))
        iterate 2 refine rw_v (op_pure rfl) ?_
        first | refine rw_off rfl ?_ | (refine rw_on rfl ?_; refine rw_v (op_pure rfl) ?_)
        first | refine rw_off rfl ?_ | (refine rw_on rfl ?_; refine rw_v (op_fieldAddr Try.underlying25 rfl Try.sizeOf2 rfl rfl) ?_)
        first | refine rw_off rfl ?_ | (refine rw_on rfl ?_; refine rw_r (op_loadB Try.underlying2 rfl rfl (S.blk (i := 3) rfl) rfl) ?_)
        first | refine rw_off rfl ?_ | (refine rw_on rfl ?_; refine rw_v (op_rng rfl (by omega)) ?_)
        first | refine rw_off rfl ?_ | (refine rw_on rfl ?_; (first | refine rw_v (op_b (b := true) rfl (beq_iff_eq.2 (by omega))) ?_ | refine rw_v (op_b (b := false) rfl (beq_eq_false_iff_ne.2 (by omega))) ?_ | refine rw_v (op_pure rfl) ?_))
        refine rw_v (op_pure rfl) ?_
        first | refine rw_end ?_ | (refine rw_nil ?_; show CW _ _ _ _ _ _) | refine rw_nil ?_
        exact ⟨⟨rfl, rfl, rfl, rfl, be (by symm; rw [hbt]; exact .inl c0), trivial⟩, S⟩
      · by_cases c1 : y = 0
        · skip
          repeat refine cw_seq ?_
          refine cw_region ?_
          refine rw_v (op_pure rfl) ?_
          first | refine rw_v (op_b (b := true) rfl (beq_iff_eq.2 (by omega))) ?_ | refine rw_v (op_b (b := false) rfl (beq_eq_false_iff_ne.2 (by omega))) ?_ | refine rw_v (op_pure rfl) ?_
          refine rw_v (op_pure rfl) ?_
          first | refine rw_off rfl ?_ | (refine rw_on rfl ?_; refine rw_v (op_pure rfl) ?_)
          first | refine rw_off rfl ?_ | (refine rw_on rfl ?_; (first | refine rw_v (op_b (b := true) rfl (beq_iff_eq.2 (by omega))) ?_ | refine rw_v (op_b (b := false) rfl (beq_eq_false_iff_ne.2 (by omega))) ?_ | refine rw_v (op_pure rfl) ?_))
          iterate 2 refine rw_v (op_pure rfl) ?_
          first | refine rw_off rfl ?_ | (refine rw_on rfl ?_; refine rw_v (op_pure rfl) ?_)
          first | refine rw_off rfl ?_ | (refine rw_on rfl ?_; refine rw_v (op_fieldAddr Try.underlying25 rfl Try.sizeOf2 rfl rfl) ?_)
          first | refine rw_off rfl ?_ | (refine rw_on rfl ?_; refine rw_r (op_loadB Try.underlying2 rfl rfl (S.blk (i := 3) rfl) rfl) ?_)
          first | refine rw_off rfl ?_ | (refine rw_on rfl ?_; refine rw_v (op_rng rfl (by omega)) ?_)
          first | refine rw_off rfl ?_ | (refine rw_on rfl ?_; (first | refine rw_v (op_b (b := true) rfl (beq_iff_eq.2 (by omega))) ?_ | refine rw_v (op_b (b := false) rfl (beq_eq_false_iff_ne.2 (by omega))) ?_ | refine rw_v (op_pure rfl) ?_))
          iterate 2 refine rw_v (op_pure rfl) ?_
          first | refine rw_off rfl ?_ | (refine rw_on rfl ?_; refine rw_v (op_pure rfl) ?_)
          first | refine rw_off rfl ?_ | (refine rw_on rfl ?_; refine rw_v (op_fieldAddr Try.underlying25 rfl Try.sizeOf2 rfl rfl) ?_)
          first | refine rw_off rfl ?_ | (refine rw_on rfl ?_; refine rw_r (op_loadB Try.underlying2 rfl rfl (S.blk (i := 3) rfl) rfl) ?_)
          first | refine rw_off rfl ?_ | (refine rw_on rfl ?_; refine rw_v (op_rng rfl (by omega)) ?_)
          first | refine rw_off rfl ?_ | (refine rw_on rfl ?_; (first | refine rw_v (op_b (b := true) rfl (beq_iff_eq.2 (by omega))) ?_ | refine rw_v (op_b (b := false) rfl (beq_eq_false_iff_ne.2 (by omega))) ?_ | refine rw_v (op_pure rfl) ?_))
          refine rw_v (op_pure rfl) ?_
          first | refine rw_end ?_ | (refine rw_nil ?_; show CW _ _ _ _ _ _) | refine rw_nil ?_
          exact ⟨⟨rfl, rfl, rfl, rfl, be (by symm; rw [hbt]; exact .inr (.inl c1)), trivial⟩, S⟩
        · by_cases c2 : m + 1 = gw
          · skip
            repeat refine cw_seq ?_
            refine cw_region ?_
            refine rw_v (op_pure rfl) ?_
            first | refine rw_v (op_b (b := true) rfl (beq_iff_eq.2 (by omega))) ?_ | refine rw_v (op_b (b := false) rfl (beq_eq_false_iff_ne.2 (by omega))) ?_ | refine rw_v (op_pure rfl) ?_
            refine rw_v (op_pure rfl) ?_
            first | refine rw_off rfl ?_ | (refine rw_on rfl ?_; refine rw_v (op_pure rfl) ?_)
            first | refine rw_off rfl ?_ | (refine rw_on rfl ?_; (first | refine rw_v (op_b (b := true) rfl (beq_iff_eq.2 (by omega))) ?_ | refine rw_v (op_b (b := false) rfl (beq_eq_false_iff_ne.2 (by omega))) ?_ | refine rw_v (op_pure rfl) ?_))
            iterate 2 refine rw_v (op_pure rfl) ?_
            first | refine rw_off rfl ?_ | (refine rw_on rfl ?_; refine rw_v (op_pure rfl) ?_)
            first | refine rw_off rfl ?_ | (refine rw_on rfl ?_; refine rw_v (op_fieldAddr Try.underlying25 rfl Try.sizeOf2 rfl rfl) ?_)
            first | refine rw_off rfl ?_ | (refine rw_on rfl ?_; refine rw_r (op_loadB Try.underlying2 rfl rfl (S.blk (i := 3) rfl) rfl) ?_)
            first | refine rw_off rfl ?_ | (refine rw_on rfl ?_; refine rw_v (op_rng rfl (by omega)) ?_)
            first | refine rw_off rfl ?_ | (refine rw_on rfl ?_; (first | refine rw_v (op_b (b := true) rfl (beq_iff_eq.2 (by omega))) ?_ | refine rw_v (op_b (b := false) rfl (beq_eq_false_iff_ne.2 (by omega))) ?_ | refine rw_v (op_pure rfl) ?_))
            iterate 2 refine rw_v (op_pure rfl) ?_
            first | refine rw_off rfl ?_ | (refine rw_on rfl ?_; refine rw_v (op_pure rfl) ?_)
            first | refine rw_off rfl ?_ | (refine rw_on rfl ?_; refine rw_v (op_fieldAddr Try.underlying25 rfl Try.sizeOf2 rfl rfl) ?_)
            first | refine rw_off rfl ?_ | (refine rw_on rfl ?_; refine rw_r (op_loadB Try.underlying2 rfl rfl (S.blk (i := 3) rfl) rfl) ?_)
            first | refine rw_off rfl ?_ | (refine rw_on rfl ?_; refine rw_v (op_rng rfl (by omega)) ?_)
            first | refine rw_off rfl ?_ | (refine rw_on rfl ?_; (first | refine rw_v (op_b (b := true) rfl (beq_iff_eq.2 (by omega))) ?_ | refine rw_v (op_b (b := false) rfl (beq_eq_false_iff_ne.2 (by omega))) ?_ | refine rw_v (op_pure rfl) ?_))
            refine rw_v (op_pure rfl) ?_
            first | refine rw_end ?_ | (refine rw_nil ?_; show CW _ _ _ _ _ _) | refine rw_nil ?_
            exact ⟨⟨rfl, rfl, rfl, rfl, be (by symm; rw [hbt]; exact .inr (.inr (.inl c2))), trivial⟩, S⟩
          · by_cases c3 : y + 1 = gh
            · skip
              repeat refine cw_seq ?_
              refine cw_region ?_
              refine rw_v (op_pure rfl) ?_
              first | refine rw_v (op_b (b := true) rfl (beq_iff_eq.2 (by omega))) ?_ | refine rw_v (op_b (b := false) rfl (beq_eq_false_iff_ne.2 (by omega))) ?_ | refine rw_v (op_pure rfl) ?_
              refine rw_v (op_pure rfl) ?_
              first | refine rw_off rfl ?_ | (refine rw_on rfl ?_; refine rw_v (op_pure rfl) ?_)
              first | refine rw_off rfl ?_ | (refine rw_on rfl ?_; (first | refine rw_v (op_b (b := true) rfl (beq_iff_eq.2 (by omega))) ?_ | refine rw_v (op_b (b := false) rfl (beq_eq_false_iff_ne.2 (by omega))) ?_ | refine rw_v (op_pure rfl) ?_))
              iterate 2 refine rw_v (op_pure rfl) ?_
              first | refine rw_off rfl ?_ | (refine rw_on rfl ?_; refine rw_v (op_pure rfl) ?_)
              first | refine rw_off rfl ?_ | (refine rw_on rfl ?_; refine rw_v (op_fieldAddr Try.underlying25 rfl Try.sizeOf2 rfl rfl) ?_)
              first | refine rw_off rfl ?_ | (refine rw_on rfl ?_; refine rw_r (op_loadB Try.underlying2 rfl rfl (S.blk (i := 3) rfl) rfl) ?_)
              first | refine rw_off rfl ?_ | (refine rw_on rfl ?_; refine rw_v (op_rng rfl (by omega)) ?_)
              first | refine rw_off rfl ?_ | (refine rw_on rfl ?_; (first | refine rw_v (op_b (b := true) rfl (beq_iff_eq.2 (by omega))) ?_ | refine rw_v (op_b (b := false) rfl (beq_eq_false_iff_ne.2 (by omega))) ?_ | refine rw_v (op_pure rfl) ?_))
              iterate 2 refine rw_v (op_pure rfl) ?_
              first | refine rw_off rfl ?_ | (refine rw_on rfl ?_; refine rw_v (op_pure rfl) ?_)
              first | refine rw_off rfl ?_ | (refine rw_on rfl ?_; refine rw_v (op_fieldAddr Try.underlying25 rfl Try.sizeOf2 rfl rfl) ?_)
              first | refine rw_off rfl ?_ | (refine rw_on rfl ?_; refine rw_r (op_loadB Try.underlying2 rfl rfl (S.blk (i := 3) rfl) rfl) ?_)
              first | refine rw_off rfl ?_ | (refine rw_on rfl ?_; refine rw_v (op_rng rfl (by omega)) ?_)
              first | refine rw_off rfl ?_ | (refine rw_on rfl ?_; (first | refine rw_v (op_b (b := true) rfl (beq_iff_eq.2 (by omega))) ?_ | refine rw_v (op_b (b := false) rfl (beq_eq_false_iff_ne.2 (by omega))) ?_ | refine rw_v (op_pure rfl) ?_))
              refine rw_v (op_pure rfl) ?_
              first | refine rw_end ?_ | (refine rw_nil ?_; show CW _ _ _ _ _ _) | refine rw_nil ?_
              exact ⟨⟨rfl, rfl, rfl, rfl, be (by symm; rw [hbt]; exact .inr (.inr (.inr c3))), trivial⟩, S⟩
            · skip
              repeat refine cw_seq ?_
              refine cw_region ?_
              refine rw_v (op_pure rfl) ?_
              first | refine rw_v (op_b (b := true) rfl (beq_iff_eq.2 (by omega))) ?_ | refine rw_v (op_b (b := false) rfl (beq_eq_false_iff_ne.2 (by omega))) ?_ | refine rw_v (op_pure rfl) ?_
              refine rw_v (op_pure rfl) ?_
              first | refine rw_off rfl ?_ | (refine rw_on rfl ?_; refine rw_v (op_pure rfl) ?_)
              first | refine rw_off rfl ?_ | (refine rw_on rfl ?_; (first | refine rw_v (op_b (b := true) rfl (beq_iff_eq.2 (by omega))) ?_ | refine rw_v (op_b (b := false) rfl (beq_eq_false_iff_ne.2 (by omega))) ?_ | refine rw_v (op_pure rfl) ?_))
              iterate 2 refine rw_v (op_pure rfl) ?_
              first | refine rw_off rfl ?_ | (refine rw_on rfl ?_; refine rw_v (op_pure rfl) ?_)
              first | refine rw_off rfl ?_ | (refine rw_on rfl ?_; refine rw_v (op_fieldAddr Try.underlying25 rfl Try.sizeOf2 rfl rfl) ?_)
              first | refine rw_off rfl ?_ | (refine rw_on rfl ?_; refine rw_r (op_loadB Try.underlying2 rfl rfl (S.blk (i := 3) rfl) rfl) ?_)
              first | refine rw_off rfl ?_ | (refine rw_on rfl ?_; refine rw_v (op_rng rfl (by omega)) ?_)
              first | refine rw_off rfl ?_ | (refine rw_on rfl ?_; (first | refine rw_v (op_b (b := true) rfl (beq_iff_eq.2 (by omega))) ?_ | refine rw_v (op_b (b := false) rfl (beq_eq_false_iff_ne.2 (by omega))) ?_ | refine rw_v (op_pure rfl) ?_))
              iterate 2 refine rw_v (op_pure rfl) ?_
              first | refine rw_off rfl ?_ | (refine rw_on rfl ?_; refine rw_v (op_pure rfl) ?_)
              first | refine rw_off rfl ?_ | (refine rw_on rfl ?_; refine rw_v (op_fieldAddr Try.underlying25 rfl Try.sizeOf2 rfl rfl) ?_)
              first | refine rw_off rfl ?_ | (refine rw_on rfl ?_; refine rw_r (op_loadB Try.underlying2 rfl rfl (S.blk (i := 3) rfl) rfl) ?_)
              first | refine rw_off rfl ?_ | (refine rw_on rfl ?_; refine rw_v (op_rng rfl (by omega)) ?_)
              first | refine rw_off rfl ?_ | (refine rw_on rfl ?_; (first | refine rw_v (op_b (b := true) rfl (beq_iff_eq.2 (by omega))) ?_ | refine rw_v (op_b (b := false) rfl (beq_eq_false_iff_ne.2 (by omega))) ?_ | refine rw_v (op_pure rfl) ?_))
              refine rw_v (op_pure rfl) ?_
              first | refine rw_end ?_ | (refine rw_nil ?_; show CW _ _ _ _ _ _) | refine rw_nil ?_
              exact ⟨⟨rfl, rfl, rfl, rfl, be (by symm; rw [hbn]; exact ⟨c0, c1, c2, c3⟩), trivial⟩, S⟩
    · rintro e6 w6 ⟨hsl, S⟩
      rw [hsl.fold]
      cases hb : bordB gw (gw * gh) k with
      | true =>
        have hlv : V.getD k 0 = lev0 gw (gw * gh) V k := by unfold lev0; rw [if_pos hb]
        repeat refine cw_seq ?_
        refine cw_true rfl ?_
        repeat refine cw_seq ?_
        refine cw_tri (C := (fun σ wq => CS No W [.row 2 1 A_out k c_out (cellsQ k (lev0 gw (gw * gh) V)), .blk b_om 25 [.int .i64 gw, .int .i64 gh, .slice A_out k c_out], .blk b_res 25 [.int .i64 0, .int .i64 0, .slice none 0 0], .blk b_md 25 [.int .i64 gw, .int .i64 gh, .slice A V.length cap]] 0 2 1 k (cellsQ k (lev0 gw (gw * gh) V)) [.int .i64 (V.getD k 0)] wq σ)) [7, 8] [0, 1, 2, 3, 4, 5, 6, 7, 8] [9, 10] (by kernel_rfl) (by kernel_rfl) (S.gr (Gr.drew _)) ?_
        simp only [pickI, pickL, List.drop_succ_cons, List.drop_zero]
        refine rs_v rfl (op_fieldAddr Try.underlying25 rfl Try.sizeOf22 rfl rfl) ?_
        refine rs_r rfl (fun τ wq hq => op_loadB Try.underlying22 rfl rfl (hq.ok (j := 1) (by decide) rfl) rfl) ?_
        refine rs_v rfl (op_fieldAddr Try.underlying25 rfl Try.sizeOf22 rfl rfl) ?_
        refine rs_r rfl (fun τ wq hq => op_loadB Try.underlying22 rfl rfl (hq.ok (j := 3) (by decide) rfl) rfl) ?_
        refine rs_v rfl (op_pure rfl) ?_
        refine rs_v rfl (op_idx Try.underlying22 Try.sizeOf2 rfl rfl sa_A (by omega) (by omega)) ?_
        refine rs_r rfl (fun τ wq hq => op_ldR Try.underlying2 rfl rfl (hA.gr (hq.frw.gr (fun _ h => h.elim))) hvget) ?_
        refine rs_special rfl rfl (fun wq hq => to_buildCS hq Try.underlying22 Try.sizeOf2 Try.zeroValue2 rfl rfl rfl rfl rfl rfl) ?_
        rintro v6 w6 ⟨A6, rfl, _⟩
        refine rs_special rfl rfl (fun wq hq => to_appCS hq rfl (fun h => ⟨_, rfl⟩) Try.underlying22 info_t2 rfl rfl rfl rfl rfl rfl (by omega)) ?_
        rintro v7 w7 ⟨A7, c7, L7, rfl, _, _⟩
        refine rs_nil ?_
        rintro w8 ⟨A8_, c8_, L_st, e_st, h_st, S⟩
        cases e_st
        obtain rfl := Option.some.inj h_st
        refine rw_v (op_fieldAddr Try.underlying25 rfl Try.sizeOf22 rfl rfl) ?_
        refine rw_storeS (i := 1) S rfl (Try.sizeOf22 _) rfl rfl rfl rfl rfl rfl ?_
        intro wz S
        first | refine rw_end ?_ | (refine rw_nil ?_; show CW _ _ _ _ _ _) | refine rw_nil ?_
        repeat refine cw_seq ?_
        refine cw_region ?_
        refine rw_v (op_pure rfl) ?_
        refine rw_v (op_rng rfl (by omega)) ?_
        refine rw_v (op_pure rfl) ?_
        first | refine rw_end ?_ | (refine rw_nil ?_; show CW _ _ _ _ _ _) | refine rw_nil ?_
        rw [hnext _ hlv] at S
        exact ⟨m - 1, by omega, k + 1, A7, c7, by omega, ⟨rfl, rfl, rfl, ie (by omega), trivial⟩, S⟩
      | false =>
        have hlv : (2147483647 : Int) = lev0 gw (gw * gh) V k := by unfold lev0; rw [if_neg (by rw [hb]; simp)]
        repeat refine cw_seq ?_
        refine cw_false rfl ?_
        repeat refine cw_seq ?_
        refine cw_region ?_
        refine rw_v (op_fieldAddr Try.underlying25 rfl Try.sizeOf22 rfl rfl) ?_
        refine rw_r (op_loadB Try.underlying22 rfl rfl (S.blk (i := 1) rfl) rfl) ?_
        refine rw_buildS Try.underlying22 Try.sizeOf2 Try.zeroValue2 rfl rfl rfl rfl rfl rfl S ?_
        intro A_lit w11_ g11_ S sa_lit
        refine rw_appS (i := 1) S rfl (fun h => rfl) Try.underlying22 info_t2 rfl rfl rfl rfl (by simp) (by omega) (S.rd (i := 0) rfl) rfl (by omega) ?_
        intro A_out12 c_out12 w12_ S sa_out
        refine rw_v (op_fieldAddr Try.underlying25 rfl Try.sizeOf22 rfl rfl) ?_
        refine rw_storeS (i := 2) S rfl (Try.sizeOf22 _) rfl rfl rfl rfl rfl rfl ?_
        intro w13_ S
        first | refine rw_end ?_ | (refine rw_nil ?_; show CW _ _ _ _ _ _) | refine rw_nil ?_
        repeat refine cw_seq ?_
        refine cw_region ?_
        refine rw_v (op_pure rfl) ?_
        refine rw_v (op_rng rfl (by omega)) ?_
        refine rw_v (op_pure rfl) ?_
        first | refine rw_end ?_ | (refine rw_nil ?_; show CW _ _ _ _ _ _) | refine rw_nil ?_
        have S := S.drop 1
        rw [hnext _ hlv] at S
        exact ⟨m - 1, by omega, k + 1, _, _, by omega, ⟨rfl, rfl, rfl, ie (by omega), trivial⟩, S⟩
  · try simp only [decide_eq_true_eq, decide_eq_false_iff_not, beq_iff_eq, bne_iff_ne, beq_eq_false_iff_ne, bne_eq_false_iff_eq, Bool.not_eq_true', Bool.not_eq_false', ne_eq, Decidable.not_not, Int.natCast_inj, Int.ofNat_lt, Int.ofNat_le, gt_iff_lt, ge_iff_le, Int.not_lt, Int.not_le] at hc
    obtain rfl : k = gw * gh := by omega
    have sa_out : SomeA A_out := (S.row (i := 0) rfl).someA (by omega)
    have hb0 := BL.start hL (fun i _ => (hB i).2)
    repeat refine cw_seq ?_
    refine cw_exit ?_
    repeat first | refine exit_then ?_ | refine exit_inb ?_
    show CW _ _ _ _ _ _
    repeat refine cw_seq ?_
    refine cw_region ?_
    refine rw_v (op_pure rfl) ?_
    first | refine rw_end ?_ | (refine rw_nil ?_; show CW _ _ _ _ _ _) | refine rw_nil ?_
    repeat refine cw_seq ?_
    refine cw_block ?_
    repeat refine cw_seq ?_
    refine cw_loop (fun m e w => ∃ (r : Nat) (o : Nat → Int), r + m = gw * gh + 1 ∧ SL e [(1, .pointer (some ⟨b_md, 0, none⟩)), (2, .pointer (some ⟨b_res, 0, none⟩)), (3, .pointer (some ⟨b_om, 0, none⟩)), (7, .int .i64 r)] ∧ BL gw gh V L rk r false (fun _ _ => False) o ∧ St No W w [.row 2 1 A_out (gw * gh) c_out (cellsQ (gw * gh) o), .blk b_om 25 [.int .i64 gw, .int .i64 gh, .slice A_out (gw * gh) c_out], .blk b_res 25 [.int .i64 0, .int .i64 0, .slice none 0 0], .blk b_md 25 [.int .i64 gw, .int .i64 gh, .slice A V.length cap]]) (gw * gh + 1)
      ⟨0, _, by omega, ⟨rfl, rfl, rfl, rfl, trivial⟩, hb0, S⟩ ?_
    clear S hb0
    rintro m e w ⟨r, o, hr, hsl, hb, S⟩
    rw [hsl.fold]
    repeat refine cw_seq ?_
    refine cw_region ?_
    refine rw_v (op_pure rfl) ?_
    refine rw_v (op_fieldAddr Try.underlying25 rfl Try.sizeOf22 rfl rfl) ?_
    refine rw_r (op_loadB Try.underlying22 rfl rfl (S.blk (i := 3) rfl) rfl) ?_
    refine rw_v (op_len Try.underlying22 rfl) ?_
    refine rw_v (op_pure rfl) ?_
    first | refine rw_end ?_ | (refine rw_nil ?_; show CW _ _ _ _ _ _) | refine rw_nil ?_
    repeat refine cw_seq ?_
    refine cw_cond rfl (fun hc2 => ?_) (fun hc2 => ?_)
    · try simp only [decide_eq_true_eq, decide_eq_false_iff_not, beq_iff_eq, bne_iff_ne, beq_eq_false_iff_ne, bne_eq_false_iff_eq, Bool.not_eq_true', Bool.not_eq_false', ne_eq, Decidable.not_not, Int.natCast_inj, Int.ofNat_lt, Int.ofNat_le, gt_iff_lt, ge_iff_le, Int.not_lt, Int.not_le] at hc2
      repeat refine cw_seq ?_
      refine cw_skip ?_
      try show CW _ _ _ _ _ _
      repeat refine cw_seq ?_
      refine cw_block ?_
      repeat refine cw_seq ?_
      refine cw_region ?_
      refine rw_v (op_pure rfl) ?_
      first | refine rw_end ?_ | (refine rw_nil ?_; show CW _ _ _ _ _ _) | refine rw_nil ?_
      repeat refine cw_seq ?_
      refine cw_region ?_
      refine rw_v (op_pure rfl) ?_
      first | refine rw_end ?_ | (refine rw_nil ?_; show CW _ _ _ _ _ _) | refine rw_nil ?_
      repeat refine cw_seq ?_
      refine cw_block ?_
      repeat refine cw_seq ?_
      refine cw_loop (fun m' e w => ∃ (i : Nat) (fell : Bool) (o : Nat → Int), i + m' = gw * gh ∧ SL e [(1, .pointer (some ⟨b_md, 0, none⟩)), (2, .pointer (some ⟨b_res, 0, none⟩)), (3, .pointer (some ⟨b_om, 0, none⟩)), (7, .int .i64 r), (8, .bool fell), (9, .int .i64 i)] ∧ BL gw gh V L rk r fell (fun p _ => p < i) o ∧ St No W w [.row 2 1 A_out (gw * gh) c_out (cellsQ (gw * gh) o), .blk b_om 25 [.int .i64 gw, .int .i64 gh, .slice A_out (gw * gh) c_out], .blk b_res 25 [.int .i64 0, .int .i64 0, .slice none 0 0], .blk b_md 25 [.int .i64 gw, .int .i64 gh, .slice A V.length cap]]) (gw * gh)
        ⟨0, false, o, by omega, ⟨rfl, rfl, rfl, rfl, rfl, rfl, trivial⟩, hb.weaken (fun p j _ _ _ e => by omega), S⟩ ?_
      clear S hb
      rintro m' e w ⟨i, fell, o, hi, hsl, hb, S⟩
      rw [hsl.fold]
      repeat refine cw_seq ?_
      refine cw_region ?_
      refine rw_v (op_pure rfl) ?_
      refine rw_v (op_fieldAddr Try.underlying25 rfl Try.sizeOf2 rfl rfl) ?_
      refine rw_r (op_loadB Try.underlying2 rfl rfl (S.blk (i := 3) rfl) rfl) ?_
      refine rw_v (op_fieldAddr Try.underlying25 rfl Try.sizeOf2 rfl rfl) ?_
      refine rw_r (op_loadB Try.underlying2 rfl rfl (S.blk (i := 3) rfl) rfl) ?_
      refine rw_v (op_rng rfl (by omega)) ?_
      rw [hmi]
      refine rw_v (op_pure rfl) ?_
      first | refine rw_end ?_ | (refine rw_nil ?_; show CW _ _ _ _ _ _) | refine rw_nil ?_
      repeat refine cw_seq ?_
      refine cw_cond rfl (fun hc3 => ?_) (fun hc3 => ?_)
      · try simp only [decide_eq_true_eq, decide_eq_false_iff_not, beq_iff_eq, bne_iff_ne, beq_eq_false_iff_ne, bne_eq_false_iff_eq, Bool.not_eq_true', Bool.not_eq_false', ne_eq, Decidable.not_not, Int.natCast_inj, Int.ofNat_lt, Int.ofNat_le, gt_iff_lt, ge_iff_le, Int.not_lt, Int.not_le] at hc3
        have hin : i < gw * gh := by omega
        have em : (i : Int) % gw = ((i % gw : Nat) : Int) := by push_cast; rfl
        have ed : (i : Int) / gw = ((i / gw : Nat) : Int) := by push_cast; rfl
        have hen := hb.enter (i := i) (by omega) hin
        rw [← hV] at hen
        have hmem := fun j => nearN_mem (gw := gw) (gh := gh) (i := i) (j := j) (by omega) hin
        rw [← hV] at hmem
        have hvget : (ints V)[(i : Int).toNat * 1]? = some (.int .i64 (V.getD i 0)) := by rw [Nat.mul_one, Int.toNat_natCast]; exact ints_get (getD_at (by omega))
        repeat refine cw_seq ?_
        refine cw_skip ?_
        try show CW _ _ _ _ _ _
        repeat refine cw_seq ?_
        refine cw_block ?_
        repeat refine cw_seq ?_
        refine cw_draw (C := fun wq => Gr w wq) [0, 1, 2, 3, 4, 5, 6, 7, 8, 9] [10, 11] (by kernel_rfl) (by kernel_rfl) (Gr.drew _) ?_
        simp only [pickL, List.drop_succ_cons, List.drop_zero]
        refine rq_r (fun wq hq => op_loadAB Try.underlying25 rfl (Try.sizeOf25 _) rfl ((S.gr hq).blk (i := 3) rfl) rfl rfl) ?_
        refine rq_v (op_pure rfl) ?_
        refine rq_v (op_fieldAddr Try.underlying25 rfl Try.sizeOf2 rfl rfl) ?_
        refine rq_r (fun wq hq => op_loadB Try.underlying2 rfl rfl ((S.gr hq).blk (i := 3) rfl) rfl) ?_
        refine rq_v (op_rem rfl rfl (by omega) (by omega)) ?_
        rw [em]
        refine rq_v (op_pure rfl) ?_
        refine rq_v (op_fieldAddr Try.underlying25 rfl Try.sizeOf2 rfl rfl) ?_
        refine rq_r (fun wq hq => op_loadB Try.underlying2 rfl rfl ((S.gr hq).blk (i := 3) rfl) rfl) ?_
        refine rq_v (op_div rfl rfl (by omega) (by omega)) ?_
        rw [ed]
        refine rq_v (op_build (pl := [(0, 1), (1, 1)]) Try.underlying44 Try.zeroValue44 (fun w => by kernel_rfl) rfl rfl) ?_
        refine rq_nil ?_
        intro w14_ g14_
        have S := S.gr g14_
        refine rw_call rfl (nearI_E (W := w14_) i (by omega) hin hV hn (hA.gr S.out)) ?_
        rintro _ w15_ ⟨A_near, c_near, rfl, hR_near, hf_near, g15_⟩
        have S := S.pushRow hR_near hf_near g15_
        refine rw_v (op_pure rfl) ?_
        first | refine rw_end ?_ | (refine rw_nil ?_; show CW _ _ _ _ _ _) | refine rw_nil ?_
        repeat refine cw_seq ?_
        refine cw_region ?_
        refine rw_v (op_pure rfl) ?_
        first | refine rw_end ?_ | (refine rw_nil ?_; show CW _ _ _ _ _ _) | refine rw_nil ?_
        repeat refine cw_seq ?_
        refine cw_block ?_
        repeat refine cw_seq ?_
        have hnl := nearN_len gw V.length i
        generalize nearN gw V.length i = Ln at *
        refine cw_loop (fun m2 e w => ∃ (k : Nat) (fell : Bool) (o : Nat → Int), k + m2 = Ln.length ∧ SL e [(1, .pointer (some ⟨b_md, 0, none⟩)), (2, .pointer (some ⟨b_res, 0, none⟩)), (3, .pointer (some ⟨b_om, 0, none⟩)), (7, .int .i64 r), (8, .bool fell), (9, .int .i64 i), (10, .slice A_near Ln.length c_near), (11, .int .i64 k)] ∧ BL gw gh V L rk r fell (EdgT i (Ln.drop k)) o ∧
          St No W w [.row 44 2 A_near Ln.length c_near (cellsZ (Ln.map (cz gw))), .row 2 1 A_out (gw * gh) c_out (cellsQ (gw * gh) o), .blk b_om 25 [.int .i64 gw, .int .i64 gh, .slice A_out (gw * gh) c_out], .blk b_res 25 [.int .i64 0, .int .i64 0, .slice none 0 0], .blk b_md 25 [.int .i64 gw, .int .i64 gh, .slice A V.length cap]]) Ln.length
          ⟨0, fell, o, by omega, ⟨rfl, rfl, rfl, rfl, rfl, rfl, rfl, rfl, trivial⟩, by rw [List.drop_zero]; exact hen, S⟩ ?_
        clear S hen hb
        rintro m2 e w ⟨k, fell, o, hk2, hsl, hb, S⟩
        rw [hsl.fold]
        repeat refine cw_seq ?_
        refine cw_region ?_
        iterate 2 refine rw_v (op_pure rfl) ?_
        refine rw_v (op_len Try.underlying50 rfl) ?_
        refine rw_v (op_pure rfl) ?_
        first | refine rw_end ?_ | (refine rw_nil ?_; show CW _ _ _ _ _ _) | refine rw_nil ?_
        repeat refine cw_seq ?_
        refine cw_cond rfl (fun hc4 => ?_) (fun hc4 => ?_)
        · try simp only [decide_eq_true_eq, decide_eq_false_iff_not, beq_iff_eq, bne_iff_ne, beq_eq_false_iff_ne, bne_eq_false_iff_eq, Bool.not_eq_true', Bool.not_eq_false', ne_eq, Decidable.not_not, Int.natCast_inj, Int.ofNat_lt, Int.ofNat_le, gt_iff_lt, ge_iff_le, Int.not_lt, Int.not_le] at hc4
          have hkl : k < Ln.length := by omega
          obtain ⟨y, hy, hdr⟩ : ∃ y, Ln[k]? = some y ∧ Ln.drop k = y :: Ln.drop (k + 1) := ⟨Ln[k]'hkl, List.getElem?_eq_getElem hkl, List.drop_eq_getElem_cons hkl⟩
          rw [hdr] at hb
          have hyt := (hmem y).1 (List.mem_of_getElem? hy)
          rw [hV] at hyt
          have hmy : (Ln.map (cz gw))[k]? = some (cz gw y) := by rw [List.getElem?_map, hy]; rfl
          have sa_near : SomeA A_near := (S.row (i := 0) rfl).someA (by omega)
          have hcx : (cellsZ (Ln.map (cz gw)))[(k : Int).toNat * 2 + 0]? = some (.int .i64 (y % gw : Nat)) := by rw [Int.toNat_natCast]; exact cellsZ_x hmy
          have hcy : (cellsZ (Ln.map (cz gw)))[(k : Int).toNat * 2 + 1]? = some (.int .i64 (y / gw : Nat)) := by rw [Int.toNat_natCast]; exact cellsZ_y hmy
          have ey : ((y / gw : Nat) : Int) * gw = ((y / gw * gw : Nat) : Int) := by push_cast; rfl
          have eym : y / gw * gw + y % gw = y := by rw [Nat.mul_comm]; exact Nat.div_add_mod _ _
          have ey2 : ((y / gw * gw : Nat) : Int) + (y % gw : Nat) = ((y : Nat) : Int) := by omega
          by_cases h1 : o y < V.getD i 0
          · have hmx : max (V.getD i 0) (o y) = V.getD i 0 := by omega
            by_cases h2 : V.getD i 0 < o i
            · have hfa := hb.fall hL hin hyt.1 hyt.2 (by rw [hmx]; exact h2)
              rw [hmx] at hfa
              repeat refine cw_seq ?_
              refine cw_skip ?_
              try show CW _ _ _ _ _ _
              repeat refine cw_seq ?_
              refine cw_block ?_
              repeat refine cw_seq ?_
              refine cw_draw (C := fun wq => Gr w wq) [0, 1, 2, 3, 4, 5, 6, 7, 8, 9, 10, 11, 12, 13, 14, 15, 16, 17, 18] [] (by kernel_rfl) (by kernel_rfl) (Gr.drew _) ?_
              simp only [pickL, List.drop_succ_cons, List.drop_zero]
              refine rq_v (op_fieldAddr Try.underlying25 rfl Try.sizeOf22 rfl rfl) ?_
              refine rq_r (fun wq hq => op_loadB Try.underlying22 rfl rfl ((S.gr hq).blk (i := 2) rfl) rfl) ?_
              iterate 2 refine rq_v (op_pure rfl) ?_
              refine rq_v (op_idx Try.underlying50 Try.sizeOf44 rfl rfl sa_near (by omega) (by omega)) ?_
              refine rq_v (op_fld Try.underlying44 rfl Try.sizeOf2 rfl rfl sa_near) ?_
              refine rq_r (fun wq hq => op_ldR Try.underlying2 rfl rfl ((S.gr hq).rd (i := 0) rfl) hcy) ?_
              refine rq_v (op_fieldAddr Try.underlying25 rfl Try.sizeOf2 rfl rfl) ?_
              refine rq_r (fun wq hq => op_loadB Try.underlying2 rfl rfl ((S.gr hq).blk (i := 4) rfl) rfl) ?_
              refine rq_v (op_rng rfl (by omega)) ?_
              rw [ey]
              iterate 2 refine rq_v (op_pure rfl) ?_
              refine rq_v (op_idx Try.underlying50 Try.sizeOf44 rfl rfl sa_near (by omega) (by omega)) ?_
              refine rq_v (op_fld Try.underlying44 rfl Try.sizeOf2 rfl rfl sa_near) ?_
              refine rq_r (fun wq hq => op_ldR Try.underlying2 rfl rfl ((S.gr hq).rd (i := 0) rfl) hcx) ?_
              refine rq_v (op_rng rfl (by omega)) ?_
              rw [ey2]
              refine rq_v (op_idx Try.underlying22 Try.sizeOf2 rfl rfl sa_out (by omega) (by omega)) ?_
              refine rq_r (fun wq hq => op_ldR Try.underlying2 rfl rfl ((S.gr hq).rd (i := 1) rfl) (cellsQ_get (by omega))) ?_
              refine rq_v (op_pure rfl) ?_
              refine rq_nil ?_
              intro w16_ g16_
              have S := S.gr g16_
              first | refine rw_end ?_ | (refine rw_nil ?_; show CW _ _ _ _ _ _) | refine rw_nil ?_
              repeat refine cw_seq ?_
              refine cw_region ?_
              refine rw_v (op_pure rfl) ?_
              refine rw_v (op_fieldAddr Try.underlying25 rfl Try.sizeOf22 rfl rfl) ?_
              refine rw_r (op_loadB Try.underlying22 rfl rfl (S.blk (i := 4) rfl) rfl) ?_
              refine rw_v (op_pure rfl) ?_
              refine rw_v (op_idx Try.underlying22 Try.sizeOf2 rfl rfl sa_A (by omega) (by omega)) ?_
              refine rw_r (op_ldR Try.underlying2 rfl rfl (hA.gr S.out) hvget) ?_
              refine rw_v (op_b (b := true) rfl (decide_eq_true (by omega))) ?_
              first | refine rw_end ?_ | (refine rw_nil ?_; show CW _ _ _ _ _ _) | refine rw_nil ?_
              repeat refine cw_seq ?_
              refine cw_true rfl ?_
              repeat refine cw_seq ?_
              refine cw_region ?_
              refine rw_v (op_fieldAddr Try.underlying25 rfl Try.sizeOf22 rfl rfl) ?_
              refine rw_r (op_loadB Try.underlying22 rfl rfl (S.blk (i := 4) rfl) rfl) ?_
              refine rw_v (op_pure rfl) ?_
              refine rw_v (op_idx Try.underlying22 Try.sizeOf2 rfl rfl sa_A (by omega) (by omega)) ?_
              refine rw_r (op_ldR Try.underlying2 rfl rfl (hA.gr S.out) hvget) ?_
              refine rw_v (op_pure rfl) ?_
              first | refine rw_end ?_ | (refine rw_nil ?_; show CW _ _ _ _ _ _) | refine rw_nil ?_
              repeat refine cw_seq ?_
              refine cw_region ?_
              refine rw_v (op_pure rfl) ?_
              refine rw_v (op_fieldAddr Try.underlying25 rfl Try.sizeOf22 rfl rfl) ?_
              refine rw_r (op_loadB Try.underlying22 rfl rfl (S.blk (i := 2) rfl) rfl) ?_
              refine rw_v (op_pure rfl) ?_
              refine rw_v (op_idx Try.underlying22 Try.sizeOf2 rfl rfl sa_out (by omega) (by omega)) ?_
              refine rw_r (op_ldR Try.underlying2 rfl rfl (S.rd (i := 1) rfl) (cellsQ_get (by omega))) ?_
              refine rw_v (op_b (b := true) rfl (decide_eq_true (by omega))) ?_
              first | refine rw_end ?_ | (refine rw_nil ?_; show CW _ _ _ _ _ _) | refine rw_nil ?_
              repeat refine cw_seq ?_
              refine cw_true rfl ?_
              repeat refine cw_seq ?_
              refine cw_region ?_
              refine rw_v (op_fieldAddr Try.underlying25 rfl Try.sizeOf22 rfl rfl) ?_
              refine rw_r (op_loadB Try.underlying22 rfl rfl (S.blk (i := 2) rfl) rfl) ?_
              iterate 2 refine rw_v (op_pure rfl) ?_
              refine rw_v (op_idx Try.underlying22 Try.sizeOf2 rfl rfl sa_out (by omega) (by omega)) ?_
              refine rw_storeR (i := 1) S rfl (Try.sizeOf2 _) rfl rfl rfl rfl (by rw [cellsQ_len]; omega) rfl ?_
              intro w17_ S
              first | refine rw_end ?_ | (refine rw_nil ?_; show CW _ _ _ _ _ _) | refine rw_nil ?_
              repeat refine cw_seq ?_
              refine cw_region ?_
              refine rw_v (op_pure rfl) ?_
              first | refine rw_end ?_ | (refine rw_nil ?_; show CW _ _ _ _ _ _) | refine rw_nil ?_
              repeat refine cw_seq ?_
              refine cw_region ?_
              refine rw_v (op_pure rfl) ?_
              refine rw_v (op_rng rfl (by omega)) ?_
              refine rw_v (op_pure rfl) ?_
              first | refine rw_end ?_ | (refine rw_nil ?_; show CW _ _ _ _ _ _) | refine rw_nil ?_
              rw [cellsQ_set] at S
              exact ⟨m2 - 1, by omega, k + 1, true, _, by omega, ⟨rfl, rfl, rfl, rfl, rfl, rfl, rfl, ie (by omega), trivial⟩, hfa, S⟩
            · skip
              repeat refine cw_seq ?_
              refine cw_skip ?_
              try show CW _ _ _ _ _ _
              repeat refine cw_seq ?_
              refine cw_block ?_
              repeat refine cw_seq ?_
              refine cw_draw (C := fun wq => Gr w wq) [0, 1, 2, 3, 4, 5, 6, 7, 8, 9, 10, 11, 12, 13, 14, 15, 16, 17, 18] [] (by kernel_rfl) (by kernel_rfl) (Gr.drew _) ?_
              simp only [pickL, List.drop_succ_cons, List.drop_zero]
              refine rq_v (op_fieldAddr Try.underlying25 rfl Try.sizeOf22 rfl rfl) ?_
              refine rq_r (fun wq hq => op_loadB Try.underlying22 rfl rfl ((S.gr hq).blk (i := 2) rfl) rfl) ?_
              iterate 2 refine rq_v (op_pure rfl) ?_
              refine rq_v (op_idx Try.underlying50 Try.sizeOf44 rfl rfl sa_near (by omega) (by omega)) ?_
              refine rq_v (op_fld Try.underlying44 rfl Try.sizeOf2 rfl rfl sa_near) ?_
              refine rq_r (fun wq hq => op_ldR Try.underlying2 rfl rfl ((S.gr hq).rd (i := 0) rfl) hcy) ?_
              refine rq_v (op_fieldAddr Try.underlying25 rfl Try.sizeOf2 rfl rfl) ?_
              refine rq_r (fun wq hq => op_loadB Try.underlying2 rfl rfl ((S.gr hq).blk (i := 4) rfl) rfl) ?_
              refine rq_v (op_rng rfl (by omega)) ?_
              rw [ey]
              iterate 2 refine rq_v (op_pure rfl) ?_
              refine rq_v (op_idx Try.underlying50 Try.sizeOf44 rfl rfl sa_near (by omega) (by omega)) ?_
              refine rq_v (op_fld Try.underlying44 rfl Try.sizeOf2 rfl rfl sa_near) ?_
              refine rq_r (fun wq hq => op_ldR Try.underlying2 rfl rfl ((S.gr hq).rd (i := 0) rfl) hcx) ?_
              refine rq_v (op_rng rfl (by omega)) ?_
              rw [ey2]
              refine rq_v (op_idx Try.underlying22 Try.sizeOf2 rfl rfl sa_out (by omega) (by omega)) ?_
              refine rq_r (fun wq hq => op_ldR Try.underlying2 rfl rfl ((S.gr hq).rd (i := 1) rfl) (cellsQ_get (by omega))) ?_
              refine rq_v (op_pure rfl) ?_
              refine rq_nil ?_
              intro w18_ g18_
              have S := S.gr g18_
              first | refine rw_end ?_ | (refine rw_nil ?_; show CW _ _ _ _ _ _) | refine rw_nil ?_
              repeat refine cw_seq ?_
              refine cw_region ?_
              refine rw_v (op_pure rfl) ?_
              refine rw_v (op_fieldAddr Try.underlying25 rfl Try.sizeOf22 rfl rfl) ?_
              refine rw_r (op_loadB Try.underlying22 rfl rfl (S.blk (i := 4) rfl) rfl) ?_
              refine rw_v (op_pure rfl) ?_
              refine rw_v (op_idx Try.underlying22 Try.sizeOf2 rfl rfl sa_A (by omega) (by omega)) ?_
              refine rw_r (op_ldR Try.underlying2 rfl rfl (hA.gr S.out) hvget) ?_
              refine rw_v (op_b (b := true) rfl (decide_eq_true (by omega))) ?_
              first | refine rw_end ?_ | (refine rw_nil ?_; show CW _ _ _ _ _ _) | refine rw_nil ?_
              repeat refine cw_seq ?_
              refine cw_true rfl ?_
              repeat refine cw_seq ?_
              refine cw_region ?_
              refine rw_v (op_fieldAddr Try.underlying25 rfl Try.sizeOf22 rfl rfl) ?_
              refine rw_r (op_loadB Try.underlying22 rfl rfl (S.blk (i := 4) rfl) rfl) ?_
              refine rw_v (op_pure rfl) ?_
              refine rw_v (op_idx Try.underlying22 Try.sizeOf2 rfl rfl sa_A (by omega) (by omega)) ?_
              refine rw_r (op_ldR Try.underlying2 rfl rfl (hA.gr S.out) hvget) ?_
              refine rw_v (op_pure rfl) ?_
              first | refine rw_end ?_ | (refine rw_nil ?_; show CW _ _ _ _ _ _) | refine rw_nil ?_
              repeat refine cw_seq ?_
              refine cw_region ?_
              refine rw_v (op_pure rfl) ?_
              refine rw_v (op_fieldAddr Try.underlying25 rfl Try.sizeOf22 rfl rfl) ?_
              refine rw_r (op_loadB Try.underlying22 rfl rfl (S.blk (i := 2) rfl) rfl) ?_
              refine rw_v (op_pure rfl) ?_
              refine rw_v (op_idx Try.underlying22 Try.sizeOf2 rfl rfl sa_out (by omega) (by omega)) ?_
              refine rw_r (op_ldR Try.underlying2 rfl rfl (S.rd (i := 1) rfl) (cellsQ_get (by omega))) ?_
              refine rw_v (op_b (b := false) rfl (decide_eq_false (by omega))) ?_
              first | refine rw_end ?_ | (refine rw_nil ?_; show CW _ _ _ _ _ _) | refine rw_nil ?_
              repeat refine cw_seq ?_
              refine cw_false rfl ?_
              repeat refine cw_seq ?_
              refine cw_skip ?_
              try show CW _ _ _ _ _ _
              repeat refine cw_seq ?_
              refine cw_region ?_
              refine rw_v (op_pure rfl) ?_
              refine rw_v (op_rng rfl (by omega)) ?_
              refine rw_v (op_pure rfl) ?_
              first | refine rw_end ?_ | (refine rw_nil ?_; show CW _ _ _ _ _ _) | refine rw_nil ?_
              exact ⟨m2 - 1, by omega, k + 1, fell, o, by omega, ⟨rfl, rfl, rfl, rfl, rfl, rfl, rfl, ie (by omega), trivial⟩, hb.stay hL (by rw [hmx]; omega), S⟩
          · have hmx : max (V.getD i 0) (o y) = o y := by omega
            by_cases h2 : o y < o i
            · have hfa := hb.fall hL hin hyt.1 hyt.2 (by rw [hmx]; exact h2)
              rw [hmx] at hfa
              repeat refine cw_seq ?_
              refine cw_skip ?_
              try show CW _ _ _ _ _ _
              repeat refine cw_seq ?_
              refine cw_block ?_
              repeat refine cw_seq ?_
              refine cw_draw (C := fun wq => Gr w wq) [0, 1, 2, 3, 4, 5, 6, 7, 8, 9, 10, 11, 12, 13, 14, 15, 16, 17, 18] [] (by kernel_rfl) (by kernel_rfl) (Gr.drew _) ?_
              simp only [pickL, List.drop_succ_cons, List.drop_zero]
              refine rq_v (op_fieldAddr Try.underlying25 rfl Try.sizeOf22 rfl rfl) ?_
              refine rq_r (fun wq hq => op_loadB Try.underlying22 rfl rfl ((S.gr hq).blk (i := 2) rfl) rfl) ?_
              iterate 2 refine rq_v (op_pure rfl) ?_
              refine rq_v (op_idx Try.underlying50 Try.sizeOf44 rfl rfl sa_near (by omega) (by omega)) ?_
              refine rq_v (op_fld Try.underlying44 rfl Try.sizeOf2 rfl rfl sa_near) ?_
              refine rq_r (fun wq hq => op_ldR Try.underlying2 rfl rfl ((S.gr hq).rd (i := 0) rfl) hcy) ?_
              refine rq_v (op_fieldAddr Try.underlying25 rfl Try.sizeOf2 rfl rfl) ?_
              refine rq_r (fun wq hq => op_loadB Try.underlying2 rfl rfl ((S.gr hq).blk (i := 4) rfl) rfl) ?_
              refine rq_v (op_rng rfl (by omega)) ?_
              rw [ey]
              iterate 2 refine rq_v (op_pure rfl) ?_
              refine rq_v (op_idx Try.underlying50 Try.sizeOf44 rfl rfl sa_near (by omega) (by omega)) ?_
              refine rq_v (op_fld Try.underlying44 rfl Try.sizeOf2 rfl rfl sa_near) ?_
              refine rq_r (fun wq hq => op_ldR Try.underlying2 rfl rfl ((S.gr hq).rd (i := 0) rfl) hcx) ?_
              refine rq_v (op_rng rfl (by omega)) ?_
              rw [ey2]
              refine rq_v (op_idx Try.underlying22 Try.sizeOf2 rfl rfl sa_out (by omega) (by omega)) ?_
              refine rq_r (fun wq hq => op_ldR Try.underlying2 rfl rfl ((S.gr hq).rd (i := 1) rfl) (cellsQ_get (by omega))) ?_
              refine rq_v (op_pure rfl) ?_
              refine rq_nil ?_
              intro w19_ g19_
              have S := S.gr g19_
              first | refine rw_end ?_ | (refine rw_nil ?_; show CW _ _ _ _ _ _) | refine rw_nil ?_
              repeat refine cw_seq ?_
              refine cw_region ?_
              refine rw_v (op_pure rfl) ?_
              refine rw_v (op_fieldAddr Try.underlying25 rfl Try.sizeOf22 rfl rfl) ?_
              refine rw_r (op_loadB Try.underlying22 rfl rfl (S.blk (i := 4) rfl) rfl) ?_
              refine rw_v (op_pure rfl) ?_
              refine rw_v (op_idx Try.underlying22 Try.sizeOf2 rfl rfl sa_A (by omega) (by omega)) ?_
              refine rw_r (op_ldR Try.underlying2 rfl rfl (hA.gr S.out) hvget) ?_
              refine rw_v (op_b (b := false) rfl (decide_eq_false (by omega))) ?_
              first | refine rw_end ?_ | (refine rw_nil ?_; show CW _ _ _ _ _ _) | refine rw_nil ?_
              repeat refine cw_seq ?_
              refine cw_false rfl ?_
              repeat refine cw_seq ?_
              refine cw_skip ?_
              try show CW _ _ _ _ _ _
              repeat refine cw_seq ?_
              refine cw_region ?_
              refine rw_v (op_pure rfl) ?_
              refine rw_v (op_fieldAddr Try.underlying25 rfl Try.sizeOf22 rfl rfl) ?_
              refine rw_r (op_loadB Try.underlying22 rfl rfl (S.blk (i := 2) rfl) rfl) ?_
              refine rw_v (op_pure rfl) ?_
              refine rw_v (op_idx Try.underlying22 Try.sizeOf2 rfl rfl sa_out (by omega) (by omega)) ?_
              refine rw_r (op_ldR Try.underlying2 rfl rfl (S.rd (i := 1) rfl) (cellsQ_get (by omega))) ?_
              refine rw_v (op_b (b := true) rfl (decide_eq_true (by omega))) ?_
              first | refine rw_end ?_ | (refine rw_nil ?_; show CW _ _ _ _ _ _) | refine rw_nil ?_
              repeat refine cw_seq ?_
              refine cw_true rfl ?_
              repeat refine cw_seq ?_
              refine cw_region ?_
              refine rw_v (op_fieldAddr Try.underlying25 rfl Try.sizeOf22 rfl rfl) ?_
              refine rw_r (op_loadB Try.underlying22 rfl rfl (S.blk (i := 2) rfl) rfl) ?_
              iterate 2 refine rw_v (op_pure rfl) ?_
              refine rw_v (op_idx Try.underlying22 Try.sizeOf2 rfl rfl sa_out (by omega) (by omega)) ?_
              refine rw_storeR (i := 1) S rfl (Try.sizeOf2 _) rfl rfl rfl rfl (by rw [cellsQ_len]; omega) rfl ?_
              intro w20_ S
              first | refine rw_end ?_ | (refine rw_nil ?_; show CW _ _ _ _ _ _) | refine rw_nil ?_
              repeat refine cw_seq ?_
              refine cw_region ?_
              refine rw_v (op_pure rfl) ?_
              first | refine rw_end ?_ | (refine rw_nil ?_; show CW _ _ _ _ _ _) | refine rw_nil ?_
              repeat refine cw_seq ?_
              refine cw_region ?_
              refine rw_v (op_pure rfl) ?_
              refine rw_v (op_rng rfl (by omega)) ?_
              refine rw_v (op_pure rfl) ?_
              first | refine rw_end ?_ | (refine rw_nil ?_; show CW _ _ _ _ _ _) | refine rw_nil ?_
              rw [cellsQ_set] at S
              exact ⟨m2 - 1, by omega, k + 1, true, _, by omega, ⟨rfl, rfl, rfl, rfl, rfl, rfl, rfl, ie (by omega), trivial⟩, hfa, S⟩
            · skip
              repeat refine cw_seq ?_
              refine cw_skip ?_
              try show CW _ _ _ _ _ _
              repeat refine cw_seq ?_
              refine cw_block ?_
              repeat refine cw_seq ?_
              refine cw_draw (C := fun wq => Gr w wq) [0, 1, 2, 3, 4, 5, 6, 7, 8, 9, 10, 11, 12, 13, 14, 15, 16, 17, 18] [] (by kernel_rfl) (by kernel_rfl) (Gr.drew _) ?_
              simp only [pickL, List.drop_succ_cons, List.drop_zero]
              refine rq_v (op_fieldAddr Try.underlying25 rfl Try.sizeOf22 rfl rfl) ?_
              refine rq_r (fun wq hq => op_loadB Try.underlying22 rfl rfl ((S.gr hq).blk (i := 2) rfl) rfl) ?_
              iterate 2 refine rq_v (op_pure rfl) ?_
              refine rq_v (op_idx Try.underlying50 Try.sizeOf44 rfl rfl sa_near (by omega) (by omega)) ?_
              refine rq_v (op_fld Try.underlying44 rfl Try.sizeOf2 rfl rfl sa_near) ?_
              refine rq_r (fun wq hq => op_ldR Try.underlying2 rfl rfl ((S.gr hq).rd (i := 0) rfl) hcy) ?_
              refine rq_v (op_fieldAddr Try.underlying25 rfl Try.sizeOf2 rfl rfl) ?_
              refine rq_r (fun wq hq => op_loadB Try.underlying2 rfl rfl ((S.gr hq).blk (i := 4) rfl) rfl) ?_
              refine rq_v (op_rng rfl (by omega)) ?_
              rw [ey]
              iterate 2 refine rq_v (op_pure rfl) ?_
              refine rq_v (op_idx Try.underlying50 Try.sizeOf44 rfl rfl sa_near (by omega) (by omega)) ?_
              refine rq_v (op_fld Try.underlying44 rfl Try.sizeOf2 rfl rfl sa_near) ?_
              refine rq_r (fun wq hq => op_ldR Try.underlying2 rfl rfl ((S.gr hq).rd (i := 0) rfl) hcx) ?_
              refine rq_v (op_rng rfl (by omega)) ?_
              rw [ey2]
              refine rq_v (op_idx Try.underlying22 Try.sizeOf2 rfl rfl sa_out (by omega) (by omega)) ?_
              refine rq_r (fun wq hq => op_ldR Try.underlying2 rfl rfl ((S.gr hq).rd (i := 1) rfl) (cellsQ_get (by omega))) ?_
              refine rq_v (op_pure rfl) ?_
              refine rq_nil ?_
              intro w21_ g21_
              have S := S.gr g21_
              first | refine rw_end ?_ | (refine rw_nil ?_; show CW _ _ _ _ _ _) | refine rw_nil ?_
              repeat refine cw_seq ?_
              refine cw_region ?_
              refine rw_v (op_pure rfl) ?_
              refine rw_v (op_fieldAddr Try.underlying25 rfl Try.sizeOf22 rfl rfl) ?_
              refine rw_r (op_loadB Try.underlying22 rfl rfl (S.blk (i := 4) rfl) rfl) ?_
              refine rw_v (op_pure rfl) ?_
              refine rw_v (op_idx Try.underlying22 Try.sizeOf2 rfl rfl sa_A (by omega) (by omega)) ?_
              refine rw_r (op_ldR Try.underlying2 rfl rfl (hA.gr S.out) hvget) ?_
              refine rw_v (op_b (b := false) rfl (decide_eq_false (by omega))) ?_
              first | refine rw_end ?_ | (refine rw_nil ?_; show CW _ _ _ _ _ _) | refine rw_nil ?_
              repeat refine cw_seq ?_
              refine cw_false rfl ?_
              repeat refine cw_seq ?_
              refine cw_skip ?_
              try show CW _ _ _ _ _ _
              repeat refine cw_seq ?_
              refine cw_region ?_
              refine rw_v (op_pure rfl) ?_
              refine rw_v (op_fieldAddr Try.underlying25 rfl Try.sizeOf22 rfl rfl) ?_
              refine rw_r (op_loadB Try.underlying22 rfl rfl (S.blk (i := 2) rfl) rfl) ?_
              refine rw_v (op_pure rfl) ?_
              refine rw_v (op_idx Try.underlying22 Try.sizeOf2 rfl rfl sa_out (by omega) (by omega)) ?_
              refine rw_r (op_ldR Try.underlying2 rfl rfl (S.rd (i := 1) rfl) (cellsQ_get (by omega))) ?_
              refine rw_v (op_b (b := false) rfl (decide_eq_false (by omega))) ?_
              first | refine rw_end ?_ | (refine rw_nil ?_; show CW _ _ _ _ _ _) | refine rw_nil ?_
              repeat refine cw_seq ?_
              refine cw_false rfl ?_
              repeat refine cw_seq ?_
              refine cw_skip ?_
              try show CW _ _ _ _ _ _
              repeat refine cw_seq ?_
              refine cw_region ?_
              refine rw_v (op_pure rfl) ?_
              refine rw_v (op_rng rfl (by omega)) ?_
              refine rw_v (op_pure rfl) ?_
              first | refine rw_end ?_ | (refine rw_nil ?_; show CW _ _ _ _ _ _) | refine rw_nil ?_
              exact ⟨m2 - 1, by omega, k + 1, fell, o, by omega, ⟨rfl, rfl, rfl, rfl, rfl, rfl, rfl, ie (by omega), trivial⟩, hb.stay hL (by rw [hmx]; omega), S⟩
        · try simp only [decide_eq_true_eq, decide_eq_false_iff_not, beq_iff_eq, bne_iff_ne, beq_eq_false_iff_ne, bne_eq_false_iff_eq, Bool.not_eq_true', Bool.not_eq_false', ne_eq, Decidable.not_not, Int.natCast_inj, Int.ofNat_lt, Int.ofNat_le, gt_iff_lt, ge_iff_le, Int.not_lt, Int.not_le] at hc4
          rw [List.drop_eq_nil_of_le (by omega)] at hb
          repeat refine cw_seq ?_
          refine cw_exit ?_
          repeat first | refine exit_then ?_ | refine exit_inb ?_
          show CW _ _ _ _ _ _
          repeat refine cw_seq ?_
          refine cw_region ?_
          refine rw_v (op_pure rfl) ?_
          refine rw_v (op_rng rfl (by omega)) ?_
          refine rw_v (op_pure rfl) ?_
          first | refine rw_end ?_ | (refine rw_nil ?_; show CW _ _ _ _ _ _) | refine rw_nil ?_
          exact ⟨m' - 1, by omega, i + 1, fell, o, by omega, ⟨rfl, rfl, rfl, rfl, rfl, ie (by omega), trivial⟩, hb.leave, S.drop 1⟩
      · try simp only [decide_eq_true_eq, decide_eq_false_iff_not, beq_iff_eq, bne_iff_ne, beq_eq_false_iff_ne, bne_eq_false_iff_eq, Bool.not_eq_true', Bool.not_eq_false', ne_eq, Decidable.not_not, Int.natCast_inj, Int.ofNat_lt, Int.ofNat_le, gt_iff_lt, ge_iff_le, Int.not_lt, Int.not_le] at hc3
        obtain rfl : i = gw * gh := by omega
        cases fell with
        | false =>
          repeat refine cw_seq ?_
          refine cw_exit ?_
          repeat first | refine exit_then ?_ | refine exit_inb ?_
          show CW _ _ _ _ _ _
          repeat refine cw_seq ?_
          refine cw_region ?_
          iterate 2 refine rw_v (op_pure rfl) ?_
          first | refine rw_end ?_ | (refine rw_nil ?_; show CW _ _ _ _ _ _) | refine rw_nil ?_
          repeat refine cw_seq ?_
          refine cw_true rfl ?_
          repeat refine cw_seq ?_
          refine cw_region ?_
          refine rw_r (op_loadAB Try.underlying25 rfl (Try.sizeOf25 _) rfl (S.blk (i := 1) rfl) rfl rfl) ?_
          refine rw_storeSA (i := 2) S rfl (Try.sizeOf25 _) rfl rfl rfl rfl rfl rfl ?_
          intro w22_ S
          first | refine rw_end ?_ | (refine rw_nil ?_; show CW _ _ _ _ _ _) | refine rw_nil ?_
          repeat refine cw_seq ?_
          refine cw_ret ?_
          repeat first | refine ret_then ?_ | refine ret_inb ?_
          rw [cellsQ_congr (fun j hj => hb.still hL j hj)] at S
          exact resA Try.underlying25 rfl (Try.sizeOf25 _) rfl (S.blk (i := 2) rfl) rfl rfl (S.retNew (i := 0) (mk := fun s => .agg #[.int .i64 gw, .int .i64 gh, s]) rfl)
        | true =>
          repeat refine cw_seq ?_
          refine cw_exit ?_
          repeat first | refine exit_then ?_ | refine exit_inb ?_
          show CW _ _ _ _ _ _
          repeat refine cw_seq ?_
          refine cw_region ?_
          iterate 2 refine rw_v (op_pure rfl) ?_
          first | refine rw_end ?_ | (refine rw_nil ?_; show CW _ _ _ _ _ _) | refine rw_nil ?_
          repeat refine cw_seq ?_
          refine cw_false rfl ?_
          repeat refine cw_seq ?_
          refine cw_skip ?_
          try show CW _ _ _ _ _ _
          repeat refine cw_seq ?_
          refine cw_region ?_
          refine rw_v (op_pure rfl) ?_
          refine rw_v (op_rng rfl (by omega)) ?_
          refine rw_v (op_pure rfl) ?_
          first | refine rw_end ?_ | (refine rw_nil ?_; show CW _ _ _ _ _ _) | refine rw_nil ?_
          exact ⟨m - 1, by omega, r + 1, o, by omega, ⟨rfl, rfl, rfl, ie (by omega), trivial⟩, hb.next hL, S⟩
    · try simp only [decide_eq_true_eq, decide_eq_false_iff_not, beq_iff_eq, bne_iff_ne, beq_eq_false_iff_ne, bne_eq_false_iff_eq, Bool.not_eq_true', Bool.not_eq_false', ne_eq, Decidable.not_not, Int.natCast_inj, Int.ofNat_lt, Int.ofNat_le, gt_iff_lt, ge_iff_le, Int.not_lt, Int.not_le] at hc2
      repeat refine cw_seq ?_
      refine cw_exit ?_
      repeat first | refine exit_then ?_ | refine exit_inb ?_
      show CW _ _ _ _ _ _
      repeat refine cw_seq ?_
      refine cw_region ?_
      refine rw_r (op_loadAB Try.underlying25 rfl (Try.sizeOf25 _) rfl (S.blk (i := 1) rfl) rfl rfl) ?_
      refine rw_storeSA (i := 2) S rfl (Try.sizeOf25 _) rfl rfl rfl rfl rfl rfl ?_
      intro w23_ S
      first | refine rw_end ?_ | (refine rw_nil ?_; show CW _ _ _ _ _ _) | refine rw_nil ?_
      repeat refine cw_seq ?_
      refine cw_ret ?_
      repeat first | refine ret_then ?_ | refine ret_inb ?_
      rw [cellsQ_congr (fun j hj => hb.last hL (by omega) j hj)] at S
      exact resA Try.underlying25 rfl (Try.sizeOf25 _) rfl (S.blk (i := 2) rfl) rfl rfl (S.retNew (i := 0) (mk := fun s => .agg #[.int .i64 gw, .int .i64 gh, s]) rfl)
end
end Go.Proofs.Ytbcgbcipigcbhaa
