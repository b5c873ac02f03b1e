/- hachureref49.Sides: its contract. Printed by mksides.py. -/
import Derived.Test.YteihfmifelcidaaZK
namespace Go.Proofs.Yteihfmifelcidaa
open Go.RowKit
set_option linter.unusedVariables false
set_option linter.unusedSimpArgs false
set_option maxRecDepth 100000

theorem sideN_le {gw : Nat} {L : List Int} {a b : Int} : ∀ n, sideN gw L a b n ≤ 2 * n
  | 0 => Nat.le_refl _
  | n + 1 => by
    have := sideN_le (gw := gw) (L := L) (a := a) (b := b) n
    unfold sideN
    split <;> split <;> omega
section
variable {W : World} {A B : Option Addr} {gw gh m n cap cb : Nat} {L : List Int}
set_option maxHeartbeats 4000000 in
theorem rsides_E (a b : Int) (hw : 1 ≤ gw) (hm : gw * gh ≤ 1048576) (hL : L.length = gw * gh) (hn : n = L.length) (hB : Rd W B (ints L)) :
    Fn Try.prog 27 [.agg #[.int .i64 gw, .int .i64 gh, .slice A m cap], .slice B n cb, .int .i64 a, .int .i64 b] W (RetG (.int .i64 (sideN gw L a b (gw * gh) : Nat)) W) := by
  subst hn
  have emul : (gw : Int) * gh = ((gw * gh : Nat) : Int) := by push_cast; rfl
  have S := St.start W
  refine Fn_enter Try.func27 rfl Try.results27 Try.ntmps27 (by kernel_rfl) (by kernel_rfl) ?_
  repeat refine cw_seq ?_
  refine cw_region ?_
  refine rw_newB (op_box rfl) S ?_
  intro b_md w2_ g2_ S
  refine rw_v (op_pure rfl) ?_
  first | refine rw_end ?_ | (refine rw_nil ?_; show CW _ _ _ _ _ _) | refine rw_nil ?_
  repeat refine cw_seq ?_
  refine cw_region ?_
  refine rw_v (op_pure rfl) ?_
  first | refine rw_end ?_ | (refine rw_nil ?_; show CW _ _ _ _ _ _) | refine rw_nil ?_
  repeat refine cw_seq ?_
  refine cw_region ?_
  refine rw_v (op_pure rfl) ?_
  first | refine rw_end ?_ | (refine rw_nil ?_; show CW _ _ _ _ _ _) | refine rw_nil ?_
  repeat refine cw_seq ?_
  refine cw_block ?_
  repeat refine cw_seq ?_
  obtain ⟨n, hn⟩ : ∃ n, n = L.length := ⟨_, rfl⟩
  rw [← hn]
  refine cw_loop (fun q e w => ∃ k : Nat, k + q = gw * gh ∧ SL e [(1, .slice B n cb), (2, .int .i64 a), (3, .int .i64 b), (4, .pointer (some ⟨b_md, 0, none⟩)), (9, .int .i64 (sideN gw L a b k : Nat)), (10, .int .i64 k)] ∧ St No W w [.blk b_md 25 [.int .i64 gw, .int .i64 gh, .slice A m cap]]) (gw * gh)
    ⟨0, by omega, ⟨rfl, rfl, rfl, rfl, rfl, rfl, trivial⟩, S⟩ ?_
  clear S
  rintro q e w ⟨k, hk, hsl, S⟩
  rw [hsl.fold]
  repeat refine cw_seq ?_
  refine cw_region ?_
  refine rw_v (op_pure rfl) ?_
  refine rw_v (op_fieldAddr Try.underlying25 rfl Try.sizeOf2 rfl rfl) ?_
  refine rw_r (op_loadB Try.underlying2 rfl rfl (S.blk (i := 0) rfl) rfl) ?_
  refine rw_v (op_fieldAddr Try.underlying25 rfl Try.sizeOf2 rfl rfl) ?_
  refine rw_r (op_loadB Try.underlying2 rfl rfl (S.blk (i := 0) rfl) rfl) ?_
  refine rw_v (op_rng rfl (by omega)) ?_
  rw [emul]
  refine rw_v (op_pure rfl) ?_
  first | refine rw_end ?_ | (refine rw_nil ?_; show CW _ _ _ _ _ _) | refine rw_nil ?_
  repeat refine cw_seq ?_
  refine cw_cond rfl (fun hc => ?_) (fun hc => ?_)
  · try simp only [decide_eq_true_eq, decide_eq_false_iff_not, beq_iff_eq, bne_iff_ne, beq_eq_false_iff_ne, bne_eq_false_iff_eq, Bool.not_eq_true', Bool.not_eq_false', ne_eq, Decidable.not_not, Int.natCast_inj, Int.ofNat_lt, Int.ofNat_le, gt_iff_lt, ge_iff_le, Int.not_lt, Int.not_le] at hc
    have hkn : k < gw * gh := by omega
    have hget : ∀ i, i < gw * gh → (ints L)[(i : Int).toNat * 1]? = some (.int .i64 (L.getD i 0)) := fun i hi => by rw [Nat.mul_one, Int.toNat_natCast]; exact ints_get (getD_at (by omega))
    have sa_B : SomeA B := hB.someA (by rw [ints_len]; omega)
    have em : (k : Int) % gw = ((k % gw : Nat) : Int) := by push_cast; rfl
    have hle := sideN_le (gw := gw) (L := L) (a := a) (b := b) k
    have hsucc : sideN gw L a b (k + 1) = sideN gw L a b k + (if 0 < k % gw ∧ sdB (L.getD k 0) (L.getD (k - 1) 0) a b = true then 1 else 0) + (if gw ≤ k ∧ sdB (L.getD k 0) (L.getD (k - gw) 0) a b = true then 1 else 0) := rfl
    repeat refine cw_seq ?_
    refine cw_skip ?_
    try show CW _ _ _ _ _ _
    repeat refine cw_seq ?_
    refine cw_block ?_
    repeat refine cw_seq ?_
    refine cw_cutT (M := fun e w => SL e [(1, .slice B n cb), (2, .int .i64 a), (3, .int .i64 b), (4, .pointer (some ⟨b_md, 0, none⟩)), (9, .int .i64 (sideN gw L a b k : Nat)), (10, .int .i64 k), (58, .bool (decide (0 < k % gw ∧ sdB (L.getD k 0) (L.getD (k - 1) 0) a b = true)))] ∧ St No W w [.blk b_md 25 [.int .i64 gw, .int .i64 gh, .slice A m cap]]) ?_ ?_
    · have hg := hget k hkn
      clear hsucc
      generalize hx : L.getD k 0 = x at *
      generalize hy : L.getD (k - 1) 0 = y at *
      by_cases hp0 : 0 < k % gw
      · skip
        have ek : (k : Int) - 1 = ((k - 1 : Nat) : Int) := by have := Nat.mod_le k gw; omega
        have hp := hget (k - 1) (by omega)
        have y0 : L.getD (k - 1) 0 = y := hy
        rw [y0] at hp
        by_cases hp1 : x = a
        · skip
          by_cases hp2 : y = b
          · skip
            repeat refine cw_seq ?_
            refine cw_region ?_
            refine rw_v (op_pure rfl) ?_
            refine rw_v (op_fieldAddr Try.underlying25 rfl Try.sizeOf2 rfl rfl) ?_
            refine rw_r (op_loadB Try.underlying2 rfl rfl (S.blk (i := 0) rfl) rfl) ?_
            refine rw_v (op_rem rfl rfl (by omega) (by omega)) ?_
            rw [em]
            refine rw_v (op_b (b := true) rfl (decide_eq_true (by omega))) ?_
            refine rw_v (op_pure rfl) ?_
            first | refine rw_off rfl ?_ | (refine rw_on rfl ?_; refine rw_v (op_pure rfl) ?_)
            first | refine rw_off rfl ?_ | (refine rw_on rfl ?_; refine rw_v (op_pure rfl) ?_)
            first | refine rw_off rfl ?_ | (refine rw_on rfl ?_; refine rw_v (op_idx Try.underlying22 Try.sizeOf2 rfl rfl sa_B (by omega) (by omega)) ?_)
            first | refine rw_off rfl ?_ | (refine rw_on rfl ?_; refine rw_r (op_ldR Try.underlying2 rfl rfl (hB.gr S.out) hg) ?_)
            first | refine rw_off rfl ?_ | (refine rw_on rfl ?_; refine rw_v (op_pure rfl) ?_)
            first | refine rw_off rfl ?_ | (refine rw_on rfl ?_; refine rw_v (op_b (b := true) rfl (beq_iff_eq.2 (by omega))) ?_)
            first | refine rw_off rfl ?_ | (refine rw_on rfl ?_; refine rw_v (op_pure rfl) ?_)
            first | refine rw_off rfl ?_ | (refine rw_on rfl ?_; refine rw_v (op_pure rfl) ?_)
            first | refine rw_off rfl ?_ | (refine rw_on rfl ?_; refine rw_v (op_pure rfl) ?_)
            first | refine rw_off rfl ?_ | (refine rw_on rfl ?_; refine rw_v (op_rng rfl (by omega)) ?_)
            rw [ek]
            first | refine rw_off rfl ?_ | (refine rw_on rfl ?_; refine rw_v (op_idx Try.underlying22 Try.sizeOf2 rfl rfl sa_B (by omega) (by omega)) ?_)
            first | refine rw_off rfl ?_ | (refine rw_on rfl ?_; refine rw_r (op_ldR Try.underlying2 rfl rfl (hB.gr S.out) hp) ?_)
            first | refine rw_off rfl ?_ | (refine rw_on rfl ?_; refine rw_v (op_pure rfl) ?_)
            first | refine rw_off rfl ?_ | (refine rw_on rfl ?_; refine rw_v (op_b (b := true) rfl (beq_iff_eq.2 (by omega))) ?_)
            first | refine rw_off rfl ?_ | (refine rw_on rfl ?_; refine rw_v (op_pure rfl) ?_)
            first | refine rw_off rfl ?_ | (refine rw_on rfl ?_; refine rw_v (op_pure rfl) ?_)
            first | refine rw_off rfl ?_ | (refine rw_on rfl ?_; refine rw_v (op_pure rfl) ?_)
            first | refine rw_off rfl ?_ | (refine rw_on rfl ?_; refine rw_v (op_pure rfl) ?_)
            first | refine rw_off rfl ?_ | (refine rw_on rfl ?_; refine rw_v (op_idx Try.underlying22 Try.sizeOf2 rfl rfl sa_B (by omega) (by omega)) ?_)
            first | refine rw_off rfl ?_ | (refine rw_on rfl ?_; refine rw_r (op_ldR Try.underlying2 rfl rfl (hB.gr S.out) (by assumption)) ?_)
            first | refine rw_off rfl ?_ | (refine rw_on rfl ?_; refine rw_v (op_pure rfl) ?_)
            first | refine rw_off rfl ?_ | (refine rw_on rfl ?_; (first | refine rw_v (op_b (b := true) rfl (beq_iff_eq.2 (by omega))) ?_ | refine rw_v (op_b (b := false) rfl (beq_eq_false_iff_ne.2 (by omega))) ?_ | refine rw_v (op_pure rfl) ?_))
            first | refine rw_off rfl ?_ | (refine rw_on rfl ?_; refine rw_v (op_pure rfl) ?_)
            first | refine rw_off rfl ?_ | (refine rw_on rfl ?_; refine rw_v (op_pure rfl) ?_)
            first | refine rw_off rfl ?_ | (refine rw_on rfl ?_; refine rw_v (op_pure rfl) ?_)
            first | refine rw_off rfl ?_ | (refine rw_on rfl ?_; refine rw_v (op_rng rfl (by omega)) ?_)
            first | refine rw_off rfl ?_ | (refine rw_on rfl ?_; refine rw_v (op_idx Try.underlying22 Try.sizeOf2 rfl rfl sa_B (by omega) (by omega)) ?_)
            first | refine rw_off rfl ?_ | (refine rw_on rfl ?_; refine rw_r (op_ldR Try.underlying2 rfl rfl (hB.gr S.out) (by assumption)) ?_)
            first | refine rw_off rfl ?_ | (refine rw_on rfl ?_; refine rw_v (op_pure rfl) ?_)
            first | refine rw_off rfl ?_ | (refine rw_on rfl ?_; (first | refine rw_v (op_b (b := true) rfl (beq_iff_eq.2 (by omega))) ?_ | refine rw_v (op_b (b := false) rfl (beq_eq_false_iff_ne.2 (by omega))) ?_ | refine rw_v (op_pure rfl) ?_))
            first | refine rw_off rfl ?_ | (refine rw_on rfl ?_; refine rw_v (op_pure rfl) ?_)
            first | refine rw_off rfl ?_ | (refine rw_on rfl ?_; refine rw_v (op_pure rfl) ?_)
            refine rw_v (op_pure rfl) ?_
            first | refine rw_end ?_ | (refine rw_nil ?_; show CW _ _ _ _ _ _) | refine rw_nil ?_
            exact ⟨⟨rfl, rfl, rfl, rfl, rfl, rfl, be (by first | (simp [hp0]; done) | (unfold sdB; simp_all; done)), trivial⟩, S⟩
          · skip
            by_cases hp3 : x = b
            · skip
              by_cases hp4 : y = a
              · skip
                repeat refine cw_seq ?_
                refine cw_region ?_
                refine rw_v (op_pure rfl) ?_
                refine rw_v (op_fieldAddr Try.underlying25 rfl Try.sizeOf2 rfl rfl) ?_
                refine rw_r (op_loadB Try.underlying2 rfl rfl (S.blk (i := 0) rfl) rfl) ?_
                refine rw_v (op_rem rfl rfl (by omega) (by omega)) ?_
                rw [em]
                refine rw_v (op_b (b := true) rfl (decide_eq_true (by omega))) ?_
                refine rw_v (op_pure rfl) ?_
                first | refine rw_off rfl ?_ | (refine rw_on rfl ?_; refine rw_v (op_pure rfl) ?_)
                first | refine rw_off rfl ?_ | (refine rw_on rfl ?_; refine rw_v (op_pure rfl) ?_)
                first | refine rw_off rfl ?_ | (refine rw_on rfl ?_; refine rw_v (op_idx Try.underlying22 Try.sizeOf2 rfl rfl sa_B (by omega) (by omega)) ?_)
                first | refine rw_off rfl ?_ | (refine rw_on rfl ?_; refine rw_r (op_ldR Try.underlying2 rfl rfl (hB.gr S.out) hg) ?_)
                first | refine rw_off rfl ?_ | (refine rw_on rfl ?_; refine rw_v (op_pure rfl) ?_)
                first | refine rw_off rfl ?_ | (refine rw_on rfl ?_; refine rw_v (op_b (b := true) rfl (beq_iff_eq.2 (by omega))) ?_)
                first | refine rw_off rfl ?_ | (refine rw_on rfl ?_; refine rw_v (op_pure rfl) ?_)
                first | refine rw_off rfl ?_ | (refine rw_on rfl ?_; refine rw_v (op_pure rfl) ?_)
                first | refine rw_off rfl ?_ | (refine rw_on rfl ?_; refine rw_v (op_pure rfl) ?_)
                first | refine rw_off rfl ?_ | (refine rw_on rfl ?_; refine rw_v (op_rng rfl (by omega)) ?_)
                rw [ek]
                first | refine rw_off rfl ?_ | (refine rw_on rfl ?_; refine rw_v (op_idx Try.underlying22 Try.sizeOf2 rfl rfl sa_B (by omega) (by omega)) ?_)
                first | refine rw_off rfl ?_ | (refine rw_on rfl ?_; refine rw_r (op_ldR Try.underlying2 rfl rfl (hB.gr S.out) hp) ?_)
                first | refine rw_off rfl ?_ | (refine rw_on rfl ?_; refine rw_v (op_pure rfl) ?_)
                first | refine rw_off rfl ?_ | (refine rw_on rfl ?_; refine rw_v (op_b (b := false) rfl (beq_eq_false_iff_ne.2 (by omega))) ?_)
                first | refine rw_off rfl ?_ | (refine rw_on rfl ?_; refine rw_v (op_pure rfl) ?_)
                first | refine rw_off rfl ?_ | (refine rw_on rfl ?_; refine rw_v (op_pure rfl) ?_)
                first | refine rw_off rfl ?_ | (refine rw_on rfl ?_; refine rw_v (op_pure rfl) ?_)
                first | refine rw_off rfl ?_ | (refine rw_on rfl ?_; refine rw_v (op_pure rfl) ?_)
                first | refine rw_off rfl ?_ | (refine rw_on rfl ?_; refine rw_v (op_idx Try.underlying22 Try.sizeOf2 rfl rfl sa_B (by omega) (by omega)) ?_)
                first | refine rw_off rfl ?_ | (refine rw_on rfl ?_; refine rw_r (op_ldR Try.underlying2 rfl rfl (hB.gr S.out) hg) ?_)
                first | refine rw_off rfl ?_ | (refine rw_on rfl ?_; refine rw_v (op_pure rfl) ?_)
                first | refine rw_off rfl ?_ | (refine rw_on rfl ?_; refine rw_v (op_b (b := true) rfl (beq_iff_eq.2 (by omega))) ?_)
                first | refine rw_off rfl ?_ | (refine rw_on rfl ?_; refine rw_v (op_pure rfl) ?_)
                first | refine rw_off rfl ?_ | (refine rw_on rfl ?_; refine rw_v (op_pure rfl) ?_)
                first | refine rw_off rfl ?_ | (refine rw_on rfl ?_; refine rw_v (op_pure rfl) ?_)
                first | refine rw_off rfl ?_ | (refine rw_on rfl ?_; refine rw_v (op_rng rfl (by omega)) ?_)
                rw [ek]
                first | refine rw_off rfl ?_ | (refine rw_on rfl ?_; refine rw_v (op_idx Try.underlying22 Try.sizeOf2 rfl rfl sa_B (by omega) (by omega)) ?_)
                first | refine rw_off rfl ?_ | (refine rw_on rfl ?_; refine rw_r (op_ldR Try.underlying2 rfl rfl (hB.gr S.out) hp) ?_)
                first | refine rw_off rfl ?_ | (refine rw_on rfl ?_; refine rw_v (op_pure rfl) ?_)
                first | refine rw_off rfl ?_ | (refine rw_on rfl ?_; refine rw_v (op_b (b := true) rfl (beq_iff_eq.2 (by omega))) ?_)
                first | refine rw_off rfl ?_ | (refine rw_on rfl ?_; refine rw_v (op_pure rfl) ?_)
                first | refine rw_off rfl ?_ | (refine rw_on rfl ?_; refine rw_v (op_pure rfl) ?_)
                refine rw_v (op_pure rfl) ?_
                first | refine rw_end ?_ | (refine rw_nil ?_; show CW _ _ _ _ _ _) | refine rw_nil ?_
                exact ⟨⟨rfl, rfl, rfl, rfl, rfl, rfl, be (by first | (simp [hp0]; done) | (unfold sdB; simp_all; done)), trivial⟩, S⟩
              · skip
                repeat refine cw_seq ?_
                refine cw_region ?_
                refine rw_v (op_pure rfl) ?_
                refine rw_v (op_fieldAddr Try.underlying25 rfl Try.sizeOf2 rfl rfl) ?_
                refine rw_r (op_loadB Try.underlying2 rfl rfl (S.blk (i := 0) rfl) rfl) ?_
                refine rw_v (op_rem rfl rfl (by omega) (by omega)) ?_
                rw [em]
                refine rw_v (op_b (b := true) rfl (decide_eq_true (by omega))) ?_
                refine rw_v (op_pure rfl) ?_
                first | refine rw_off rfl ?_ | (refine rw_on rfl ?_; refine rw_v (op_pure rfl) ?_)
                first | refine rw_off rfl ?_ | (refine rw_on rfl ?_; refine rw_v (op_pure rfl) ?_)
                first | refine rw_off rfl ?_ | (refine rw_on rfl ?_; refine rw_v (op_idx Try.underlying22 Try.sizeOf2 rfl rfl sa_B (by omega) (by omega)) ?_)
                first | refine rw_off rfl ?_ | (refine rw_on rfl ?_; refine rw_r (op_ldR Try.underlying2 rfl rfl (hB.gr S.out) hg) ?_)
                first | refine rw_off rfl ?_ | (refine rw_on rfl ?_; refine rw_v (op_pure rfl) ?_)
                first | refine rw_off rfl ?_ | (refine rw_on rfl ?_; refine rw_v (op_b (b := true) rfl (beq_iff_eq.2 (by omega))) ?_)
                first | refine rw_off rfl ?_ | (refine rw_on rfl ?_; refine rw_v (op_pure rfl) ?_)
                first | refine rw_off rfl ?_ | (refine rw_on rfl ?_; refine rw_v (op_pure rfl) ?_)
                first | refine rw_off rfl ?_ | (refine rw_on rfl ?_; refine rw_v (op_pure rfl) ?_)
                first | refine rw_off rfl ?_ | (refine rw_on rfl ?_; refine rw_v (op_rng rfl (by omega)) ?_)
                rw [ek]
                first | refine rw_off rfl ?_ | (refine rw_on rfl ?_; refine rw_v (op_idx Try.underlying22 Try.sizeOf2 rfl rfl sa_B (by omega) (by omega)) ?_)
                first | refine rw_off rfl ?_ | (refine rw_on rfl ?_; refine rw_r (op_ldR Try.underlying2 rfl rfl (hB.gr S.out) hp) ?_)
                first | refine rw_off rfl ?_ | (refine rw_on rfl ?_; refine rw_v (op_pure rfl) ?_)
                first | refine rw_off rfl ?_ | (refine rw_on rfl ?_; refine rw_v (op_b (b := false) rfl (beq_eq_false_iff_ne.2 (by omega))) ?_)
                first | refine rw_off rfl ?_ | (refine rw_on rfl ?_; refine rw_v (op_pure rfl) ?_)
                first | refine rw_off rfl ?_ | (refine rw_on rfl ?_; refine rw_v (op_pure rfl) ?_)
                first | refine rw_off rfl ?_ | (refine rw_on rfl ?_; refine rw_v (op_pure rfl) ?_)
                first | refine rw_off rfl ?_ | (refine rw_on rfl ?_; refine rw_v (op_pure rfl) ?_)
                first | refine rw_off rfl ?_ | (refine rw_on rfl ?_; refine rw_v (op_idx Try.underlying22 Try.sizeOf2 rfl rfl sa_B (by omega) (by omega)) ?_)
                first | refine rw_off rfl ?_ | (refine rw_on rfl ?_; refine rw_r (op_ldR Try.underlying2 rfl rfl (hB.gr S.out) hg) ?_)
                first | refine rw_off rfl ?_ | (refine rw_on rfl ?_; refine rw_v (op_pure rfl) ?_)
                first | refine rw_off rfl ?_ | (refine rw_on rfl ?_; refine rw_v (op_b (b := true) rfl (beq_iff_eq.2 (by omega))) ?_)
                first | refine rw_off rfl ?_ | (refine rw_on rfl ?_; refine rw_v (op_pure rfl) ?_)
                first | refine rw_off rfl ?_ | (refine rw_on rfl ?_; refine rw_v (op_pure rfl) ?_)
                first | refine rw_off rfl ?_ | (refine rw_on rfl ?_; refine rw_v (op_pure rfl) ?_)
                first | refine rw_off rfl ?_ | (refine rw_on rfl ?_; refine rw_v (op_rng rfl (by omega)) ?_)
                rw [ek]
                first | refine rw_off rfl ?_ | (refine rw_on rfl ?_; refine rw_v (op_idx Try.underlying22 Try.sizeOf2 rfl rfl sa_B (by omega) (by omega)) ?_)
                first | refine rw_off rfl ?_ | (refine rw_on rfl ?_; refine rw_r (op_ldR Try.underlying2 rfl rfl (hB.gr S.out) hp) ?_)
                first | refine rw_off rfl ?_ | (refine rw_on rfl ?_; refine rw_v (op_pure rfl) ?_)
                first | refine rw_off rfl ?_ | (refine rw_on rfl ?_; refine rw_v (op_b (b := false) rfl (beq_eq_false_iff_ne.2 (by omega))) ?_)
                first | refine rw_off rfl ?_ | (refine rw_on rfl ?_; refine rw_v (op_pure rfl) ?_)
                first | refine rw_off rfl ?_ | (refine rw_on rfl ?_; refine rw_v (op_pure rfl) ?_)
                refine rw_v (op_pure rfl) ?_
                first | refine rw_end ?_ | (refine rw_nil ?_; show CW _ _ _ _ _ _) | refine rw_nil ?_
                exact ⟨⟨rfl, rfl, rfl, rfl, rfl, rfl, be (by first | (simp [hp0]; done) | (unfold sdB; simp_all; done)), trivial⟩, S⟩
            · skip
              repeat refine cw_seq ?_
              refine cw_region ?_
              refine rw_v (op_pure rfl) ?_
              refine rw_v (op_fieldAddr Try.underlying25 rfl Try.sizeOf2 rfl rfl) ?_
              refine rw_r (op_loadB Try.underlying2 rfl rfl (S.blk (i := 0) rfl) rfl) ?_
              refine rw_v (op_rem rfl rfl (by omega) (by omega)) ?_
              rw [em]
              refine rw_v (op_b (b := true) rfl (decide_eq_true (by omega))) ?_
              refine rw_v (op_pure rfl) ?_
              first | refine rw_off rfl ?_ | (refine rw_on rfl ?_; refine rw_v (op_pure rfl) ?_)
              first | refine rw_off rfl ?_ | (refine rw_on rfl ?_; refine rw_v (op_pure rfl) ?_)
              first | refine rw_off rfl ?_ | (refine rw_on rfl ?_; refine rw_v (op_idx Try.underlying22 Try.sizeOf2 rfl rfl sa_B (by omega) (by omega)) ?_)
              first | refine rw_off rfl ?_ | (refine rw_on rfl ?_; refine rw_r (op_ldR Try.underlying2 rfl rfl (hB.gr S.out) hg) ?_)
              first | refine rw_off rfl ?_ | (refine rw_on rfl ?_; refine rw_v (op_pure rfl) ?_)
              first | refine rw_off rfl ?_ | (refine rw_on rfl ?_; refine rw_v (op_b (b := true) rfl (beq_iff_eq.2 (by omega))) ?_)
              first | refine rw_off rfl ?_ | (refine rw_on rfl ?_; refine rw_v (op_pure rfl) ?_)
              first | refine rw_off rfl ?_ | (refine rw_on rfl ?_; refine rw_v (op_pure rfl) ?_)
              first | refine rw_off rfl ?_ | (refine rw_on rfl ?_; refine rw_v (op_pure rfl) ?_)
              first | refine rw_off rfl ?_ | (refine rw_on rfl ?_; refine rw_v (op_rng rfl (by omega)) ?_)
              rw [ek]
              first | refine rw_off rfl ?_ | (refine rw_on rfl ?_; refine rw_v (op_idx Try.underlying22 Try.sizeOf2 rfl rfl sa_B (by omega) (by omega)) ?_)
              first | refine rw_off rfl ?_ | (refine rw_on rfl ?_; refine rw_r (op_ldR Try.underlying2 rfl rfl (hB.gr S.out) hp) ?_)
              first | refine rw_off rfl ?_ | (refine rw_on rfl ?_; refine rw_v (op_pure rfl) ?_)
              first | refine rw_off rfl ?_ | (refine rw_on rfl ?_; refine rw_v (op_b (b := false) rfl (beq_eq_false_iff_ne.2 (by omega))) ?_)
              first | refine rw_off rfl ?_ | (refine rw_on rfl ?_; refine rw_v (op_pure rfl) ?_)
              first | refine rw_off rfl ?_ | (refine rw_on rfl ?_; refine rw_v (op_pure rfl) ?_)
              first | refine rw_off rfl ?_ | (refine rw_on rfl ?_; refine rw_v (op_pure rfl) ?_)
              first | refine rw_off rfl ?_ | (refine rw_on rfl ?_; refine rw_v (op_pure rfl) ?_)
              first | refine rw_off rfl ?_ | (refine rw_on rfl ?_; refine rw_v (op_idx Try.underlying22 Try.sizeOf2 rfl rfl sa_B (by omega) (by omega)) ?_)
              first | refine rw_off rfl ?_ | (refine rw_on rfl ?_; refine rw_r (op_ldR Try.underlying2 rfl rfl (hB.gr S.out) hg) ?_)
              first | refine rw_off rfl ?_ | (refine rw_on rfl ?_; refine rw_v (op_pure rfl) ?_)
              first | refine rw_off rfl ?_ | (refine rw_on rfl ?_; refine rw_v (op_b (b := false) rfl (beq_eq_false_iff_ne.2 (by omega))) ?_)
              first | refine rw_off rfl ?_ | (refine rw_on rfl ?_; refine rw_v (op_pure rfl) ?_)
              first | refine rw_off rfl ?_ | (refine rw_on rfl ?_; refine rw_v (op_pure rfl) ?_)
              first | refine rw_off rfl ?_ | (refine rw_on rfl ?_; refine rw_v (op_pure rfl) ?_)
              first | refine rw_off rfl ?_ | (refine rw_on rfl ?_; refine rw_v (op_rng rfl (by omega)) ?_)
              first | refine rw_off rfl ?_ | (refine rw_on rfl ?_; refine rw_v (op_idx Try.underlying22 Try.sizeOf2 rfl rfl sa_B (by omega) (by omega)) ?_)
              first | refine rw_off rfl ?_ | (refine rw_on rfl ?_; refine rw_r (op_ldR Try.underlying2 rfl rfl (hB.gr S.out) (by assumption)) ?_)
              first | refine rw_off rfl ?_ | (refine rw_on rfl ?_; refine rw_v (op_pure rfl) ?_)
              first | refine rw_off rfl ?_ | (refine rw_on rfl ?_; (first | refine rw_v (op_b (b := true) rfl (beq_iff_eq.2 (by omega))) ?_ | refine rw_v (op_b (b := false) rfl (beq_eq_false_iff_ne.2 (by omega))) ?_ | refine rw_v (op_pure rfl) ?_))
              first | refine rw_off rfl ?_ | (refine rw_on rfl ?_; refine rw_v (op_pure rfl) ?_)
              first | refine rw_off rfl ?_ | (refine rw_on rfl ?_; refine rw_v (op_pure rfl) ?_)
              refine rw_v (op_pure rfl) ?_
              first | refine rw_end ?_ | (refine rw_nil ?_; show CW _ _ _ _ _ _) | refine rw_nil ?_
              exact ⟨⟨rfl, rfl, rfl, rfl, rfl, rfl, be (by first | (simp [hp0]; done) | (unfold sdB; simp_all; done)), trivial⟩, S⟩
        · skip
          by_cases hp3 : x = b
          · skip
            by_cases hp4 : y = a
            · skip
              repeat refine cw_seq ?_
              refine cw_region ?_
              refine rw_v (op_pure rfl) ?_
              refine rw_v (op_fieldAddr Try.underlying25 rfl Try.sizeOf2 rfl rfl) ?_
              refine rw_r (op_loadB Try.underlying2 rfl rfl (S.blk (i := 0) rfl) rfl) ?_
              refine rw_v (op_rem rfl rfl (by omega) (by omega)) ?_
              rw [em]
              refine rw_v (op_b (b := true) rfl (decide_eq_true (by omega))) ?_
              refine rw_v (op_pure rfl) ?_
              first | refine rw_off rfl ?_ | (refine rw_on rfl ?_; refine rw_v (op_pure rfl) ?_)
              first | refine rw_off rfl ?_ | (refine rw_on rfl ?_; refine rw_v (op_pure rfl) ?_)
              first | refine rw_off rfl ?_ | (refine rw_on rfl ?_; refine rw_v (op_idx Try.underlying22 Try.sizeOf2 rfl rfl sa_B (by omega) (by omega)) ?_)
              first | refine rw_off rfl ?_ | (refine rw_on rfl ?_; refine rw_r (op_ldR Try.underlying2 rfl rfl (hB.gr S.out) hg) ?_)
              first | refine rw_off rfl ?_ | (refine rw_on rfl ?_; refine rw_v (op_pure rfl) ?_)
              first | refine rw_off rfl ?_ | (refine rw_on rfl ?_; refine rw_v (op_b (b := false) rfl (beq_eq_false_iff_ne.2 (by omega))) ?_)
              first | refine rw_off rfl ?_ | (refine rw_on rfl ?_; refine rw_v (op_pure rfl) ?_)
              first | refine rw_off rfl ?_ | (refine rw_on rfl ?_; refine rw_v (op_pure rfl) ?_)
              first | refine rw_off rfl ?_ | (refine rw_on rfl ?_; refine rw_v (op_pure rfl) ?_)
              first | refine rw_off rfl ?_ | (refine rw_on rfl ?_; refine rw_v (op_rng rfl (by omega)) ?_)
              first | refine rw_off rfl ?_ | (refine rw_on rfl ?_; refine rw_v (op_idx Try.underlying22 Try.sizeOf2 rfl rfl sa_B (by omega) (by omega)) ?_)
              first | refine rw_off rfl ?_ | (refine rw_on rfl ?_; refine rw_r (op_ldR Try.underlying2 rfl rfl (hB.gr S.out) (by assumption)) ?_)
              first | refine rw_off rfl ?_ | (refine rw_on rfl ?_; refine rw_v (op_pure rfl) ?_)
              first | refine rw_off rfl ?_ | (refine rw_on rfl ?_; (first | refine rw_v (op_b (b := true) rfl (beq_iff_eq.2 (by omega))) ?_ | refine rw_v (op_b (b := false) rfl (beq_eq_false_iff_ne.2 (by omega))) ?_ | refine rw_v (op_pure rfl) ?_))
              first | refine rw_off rfl ?_ | (refine rw_on rfl ?_; refine rw_v (op_pure rfl) ?_)
              first | refine rw_off rfl ?_ | (refine rw_on rfl ?_; refine rw_v (op_pure rfl) ?_)
              first | refine rw_off rfl ?_ | (refine rw_on rfl ?_; refine rw_v (op_pure rfl) ?_)
              first | refine rw_off rfl ?_ | (refine rw_on rfl ?_; refine rw_v (op_pure rfl) ?_)
              first | refine rw_off rfl ?_ | (refine rw_on rfl ?_; refine rw_v (op_idx Try.underlying22 Try.sizeOf2 rfl rfl sa_B (by omega) (by omega)) ?_)
              first | refine rw_off rfl ?_ | (refine rw_on rfl ?_; refine rw_r (op_ldR Try.underlying2 rfl rfl (hB.gr S.out) hg) ?_)
              first | refine rw_off rfl ?_ | (refine rw_on rfl ?_; refine rw_v (op_pure rfl) ?_)
              first | refine rw_off rfl ?_ | (refine rw_on rfl ?_; refine rw_v (op_b (b := true) rfl (beq_iff_eq.2 (by omega))) ?_)
              first | refine rw_off rfl ?_ | (refine rw_on rfl ?_; refine rw_v (op_pure rfl) ?_)
              first | refine rw_off rfl ?_ | (refine rw_on rfl ?_; refine rw_v (op_pure rfl) ?_)
              first | refine rw_off rfl ?_ | (refine rw_on rfl ?_; refine rw_v (op_pure rfl) ?_)
              first | refine rw_off rfl ?_ | (refine rw_on rfl ?_; refine rw_v (op_rng rfl (by omega)) ?_)
              rw [ek]
              first | refine rw_off rfl ?_ | (refine rw_on rfl ?_; refine rw_v (op_idx Try.underlying22 Try.sizeOf2 rfl rfl sa_B (by omega) (by omega)) ?_)
              first | refine rw_off rfl ?_ | (refine rw_on rfl ?_; refine rw_r (op_ldR Try.underlying2 rfl rfl (hB.gr S.out) hp) ?_)
              first | refine rw_off rfl ?_ | (refine rw_on rfl ?_; refine rw_v (op_pure rfl) ?_)
              first | refine rw_off rfl ?_ | (refine rw_on rfl ?_; refine rw_v (op_b (b := true) rfl (beq_iff_eq.2 (by omega))) ?_)
              first | refine rw_off rfl ?_ | (refine rw_on rfl ?_; refine rw_v (op_pure rfl) ?_)
              first | refine rw_off rfl ?_ | (refine rw_on rfl ?_; refine rw_v (op_pure rfl) ?_)
              refine rw_v (op_pure rfl) ?_
              first | refine rw_end ?_ | (refine rw_nil ?_; show CW _ _ _ _ _ _) | refine rw_nil ?_
              exact ⟨⟨rfl, rfl, rfl, rfl, rfl, rfl, be (by first | (simp [hp0]; done) | (unfold sdB; simp_all; done)), trivial⟩, S⟩
            · skip
              repeat refine cw_seq ?_
              refine cw_region ?_
              refine rw_v (op_pure rfl) ?_
              refine rw_v (op_fieldAddr Try.underlying25 rfl Try.sizeOf2 rfl rfl) ?_
              refine rw_r (op_loadB Try.underlying2 rfl rfl (S.blk (i := 0) rfl) rfl) ?_
              refine rw_v (op_rem rfl rfl (by omega) (by omega)) ?_
              rw [em]
              refine rw_v (op_b (b := true) rfl (decide_eq_true (by omega))) ?_
              refine rw_v (op_pure rfl) ?_
              first | refine rw_off rfl ?_ | (refine rw_on rfl ?_; refine rw_v (op_pure rfl) ?_)
              first | refine rw_off rfl ?_ | (refine rw_on rfl ?_; refine rw_v (op_pure rfl) ?_)
              first | refine rw_off rfl ?_ | (refine rw_on rfl ?_; refine rw_v (op_idx Try.underlying22 Try.sizeOf2 rfl rfl sa_B (by omega) (by omega)) ?_)
              first | refine rw_off rfl ?_ | (refine rw_on rfl ?_; refine rw_r (op_ldR Try.underlying2 rfl rfl (hB.gr S.out) hg) ?_)
              first | refine rw_off rfl ?_ | (refine rw_on rfl ?_; refine rw_v (op_pure rfl) ?_)
              first | refine rw_off rfl ?_ | (refine rw_on rfl ?_; refine rw_v (op_b (b := false) rfl (beq_eq_false_iff_ne.2 (by omega))) ?_)
              first | refine rw_off rfl ?_ | (refine rw_on rfl ?_; refine rw_v (op_pure rfl) ?_)
              first | refine rw_off rfl ?_ | (refine rw_on rfl ?_; refine rw_v (op_pure rfl) ?_)
              first | refine rw_off rfl ?_ | (refine rw_on rfl ?_; refine rw_v (op_pure rfl) ?_)
              first | refine rw_off rfl ?_ | (refine rw_on rfl ?_; refine rw_v (op_rng rfl (by omega)) ?_)
              first | refine rw_off rfl ?_ | (refine rw_on rfl ?_; refine rw_v (op_idx Try.underlying22 Try.sizeOf2 rfl rfl sa_B (by omega) (by omega)) ?_)
              first | refine rw_off rfl ?_ | (refine rw_on rfl ?_; refine rw_r (op_ldR Try.underlying2 rfl rfl (hB.gr S.out) (by assumption)) ?_)
              first | refine rw_off rfl ?_ | (refine rw_on rfl ?_; refine rw_v (op_pure rfl) ?_)
              first | refine rw_off rfl ?_ | (refine rw_on rfl ?_; (first | refine rw_v (op_b (b := true) rfl (beq_iff_eq.2 (by omega))) ?_ | refine rw_v (op_b (b := false) rfl (beq_eq_false_iff_ne.2 (by omega))) ?_ | refine rw_v (op_pure rfl) ?_))
              first | refine rw_off rfl ?_ | (refine rw_on rfl ?_; refine rw_v (op_pure rfl) ?_)
              first | refine rw_off rfl ?_ | (refine rw_on rfl ?_; refine rw_v (op_pure rfl) ?_)
              first | refine rw_off rfl ?_ | (refine rw_on rfl ?_; refine rw_v (op_pure rfl) ?_)
              first | refine rw_off rfl ?_ | (refine rw_on rfl ?_; refine rw_v (op_pure rfl) ?_)
              first | refine rw_off rfl ?_ | (refine rw_on rfl ?_; refine rw_v (op_idx Try.underlying22 Try.sizeOf2 rfl rfl sa_B (by omega) (by omega)) ?_)
              first | refine rw_off rfl ?_ | (refine rw_on rfl ?_; refine rw_r (op_ldR Try.underlying2 rfl rfl (hB.gr S.out) hg) ?_)
              first | refine rw_off rfl ?_ | (refine rw_on rfl ?_; refine rw_v (op_pure rfl) ?_)
              first | refine rw_off rfl ?_ | (refine rw_on rfl ?_; refine rw_v (op_b (b := true) rfl (beq_iff_eq.2 (by omega))) ?_)
              first | refine rw_off rfl ?_ | (refine rw_on rfl ?_; refine rw_v (op_pure rfl) ?_)
              first | refine rw_off rfl ?_ | (refine rw_on rfl ?_; refine rw_v (op_pure rfl) ?_)
              first | refine rw_off rfl ?_ | (refine rw_on rfl ?_; refine rw_v (op_pure rfl) ?_)
              first | refine rw_off rfl ?_ | (refine rw_on rfl ?_; refine rw_v (op_rng rfl (by omega)) ?_)
              rw [ek]
              first | refine rw_off rfl ?_ | (refine rw_on rfl ?_; refine rw_v (op_idx Try.underlying22 Try.sizeOf2 rfl rfl sa_B (by omega) (by omega)) ?_)
              first | refine rw_off rfl ?_ | (refine rw_on rfl ?_; refine rw_r (op_ldR Try.underlying2 rfl rfl (hB.gr S.out) hp) ?_)
              first | refine rw_off rfl ?_ | (refine rw_on rfl ?_; refine rw_v (op_pure rfl) ?_)
              first | refine rw_off rfl ?_ | (refine rw_on rfl ?_; refine rw_v (op_b (b := false) rfl (beq_eq_false_iff_ne.2 (by omega))) ?_)
              first | refine rw_off rfl ?_ | (refine rw_on rfl ?_; refine rw_v (op_pure rfl) ?_)
              first | refine rw_off rfl ?_ | (refine rw_on rfl ?_; refine rw_v (op_pure rfl) ?_)
              refine rw_v (op_pure rfl) ?_
              first | refine rw_end ?_ | (refine rw_nil ?_; show CW _ _ _ _ _ _) | refine rw_nil ?_
              exact ⟨⟨rfl, rfl, rfl, rfl, rfl, rfl, be (by first | (simp [hp0]; done) | (unfold sdB; simp_all; done)), trivial⟩, S⟩
          · skip
            repeat refine cw_seq ?_
            refine cw_region ?_
            refine rw_v (op_pure rfl) ?_
            refine rw_v (op_fieldAddr Try.underlying25 rfl Try.sizeOf2 rfl rfl) ?_
            refine rw_r (op_loadB Try.underlying2 rfl rfl (S.blk (i := 0) rfl) rfl) ?_
            refine rw_v (op_rem rfl rfl (by omega) (by omega)) ?_
            rw [em]
            refine rw_v (op_b (b := true) rfl (decide_eq_true (by omega))) ?_
            refine rw_v (op_pure rfl) ?_
            first | refine rw_off rfl ?_ | (refine rw_on rfl ?_; refine rw_v (op_pure rfl) ?_)
            first | refine rw_off rfl ?_ | (refine rw_on rfl ?_; refine rw_v (op_pure rfl) ?_)
            first | refine rw_off rfl ?_ | (refine rw_on rfl ?_; refine rw_v (op_idx Try.underlying22 Try.sizeOf2 rfl rfl sa_B (by omega) (by omega)) ?_)
            first | refine rw_off rfl ?_ | (refine rw_on rfl ?_; refine rw_r (op_ldR Try.underlying2 rfl rfl (hB.gr S.out) hg) ?_)
            first | refine rw_off rfl ?_ | (refine rw_on rfl ?_; refine rw_v (op_pure rfl) ?_)
            first | refine rw_off rfl ?_ | (refine rw_on rfl ?_; refine rw_v (op_b (b := false) rfl (beq_eq_false_iff_ne.2 (by omega))) ?_)
            first | refine rw_off rfl ?_ | (refine rw_on rfl ?_; refine rw_v (op_pure rfl) ?_)
            first | refine rw_off rfl ?_ | (refine rw_on rfl ?_; refine rw_v (op_pure rfl) ?_)
            first | refine rw_off rfl ?_ | (refine rw_on rfl ?_; refine rw_v (op_pure rfl) ?_)
            first | refine rw_off rfl ?_ | (refine rw_on rfl ?_; refine rw_v (op_rng rfl (by omega)) ?_)
            first | refine rw_off rfl ?_ | (refine rw_on rfl ?_; refine rw_v (op_idx Try.underlying22 Try.sizeOf2 rfl rfl sa_B (by omega) (by omega)) ?_)
            first | refine rw_off rfl ?_ | (refine rw_on rfl ?_; refine rw_r (op_ldR Try.underlying2 rfl rfl (hB.gr S.out) (by assumption)) ?_)
            first | refine rw_off rfl ?_ | (refine rw_on rfl ?_; refine rw_v (op_pure rfl) ?_)
            first | refine rw_off rfl ?_ | (refine rw_on rfl ?_; (first | refine rw_v (op_b (b := true) rfl (beq_iff_eq.2 (by omega))) ?_ | refine rw_v (op_b (b := false) rfl (beq_eq_false_iff_ne.2 (by omega))) ?_ | refine rw_v (op_pure rfl) ?_))
            first | refine rw_off rfl ?_ | (refine rw_on rfl ?_; refine rw_v (op_pure rfl) ?_)
            first | refine rw_off rfl ?_ | (refine rw_on rfl ?_; refine rw_v (op_pure rfl) ?_)
            first | refine rw_off rfl ?_ | (refine rw_on rfl ?_; refine rw_v (op_pure rfl) ?_)
            first | refine rw_off rfl ?_ | (refine rw_on rfl ?_; refine rw_v (op_pure rfl) ?_)
            first | refine rw_off rfl ?_ | (refine rw_on rfl ?_; refine rw_v (op_idx Try.underlying22 Try.sizeOf2 rfl rfl sa_B (by omega) (by omega)) ?_)
            first | refine rw_off rfl ?_ | (refine rw_on rfl ?_; refine rw_r (op_ldR Try.underlying2 rfl rfl (hB.gr S.out) hg) ?_)
            first | refine rw_off rfl ?_ | (refine rw_on rfl ?_; refine rw_v (op_pure rfl) ?_)
            first | refine rw_off rfl ?_ | (refine rw_on rfl ?_; refine rw_v (op_b (b := false) rfl (beq_eq_false_iff_ne.2 (by omega))) ?_)
            first | refine rw_off rfl ?_ | (refine rw_on rfl ?_; refine rw_v (op_pure rfl) ?_)
            first | refine rw_off rfl ?_ | (refine rw_on rfl ?_; refine rw_v (op_pure rfl) ?_)
            first | refine rw_off rfl ?_ | (refine rw_on rfl ?_; refine rw_v (op_pure rfl) ?_)
            first | refine rw_off rfl ?_ | (refine rw_on rfl ?_; refine rw_v (op_rng rfl (by omega)) ?_)
            first | refine rw_off rfl ?_ | (refine rw_on rfl ?_; refine rw_v (op_idx Try.underlying22 Try.sizeOf2 rfl rfl sa_B (by omega) (by omega)) ?_)
            first | refine rw_off rfl ?_ | (refine rw_on rfl ?_; refine rw_r (op_ldR Try.underlying2 rfl rfl (hB.gr S.out) (by assumption)) ?_)
            first | refine rw_off rfl ?_ | (refine rw_on rfl ?_; refine rw_v (op_pure rfl) ?_)
            first | refine rw_off rfl ?_ | (refine rw_on rfl ?_; (first | refine rw_v (op_b (b := true) rfl (beq_iff_eq.2 (by omega))) ?_ | refine rw_v (op_b (b := false) rfl (beq_eq_false_iff_ne.2 (by omega))) ?_ | refine rw_v (op_pure rfl) ?_))
            first | refine rw_off rfl ?_ | (refine rw_on rfl ?_; refine rw_v (op_pure rfl) ?_)
            first | refine rw_off rfl ?_ | (refine rw_on rfl ?_; refine rw_v (op_pure rfl) ?_)
            refine rw_v (op_pure rfl) ?_
            first | refine rw_end ?_ | (refine rw_nil ?_; show CW _ _ _ _ _ _) | refine rw_nil ?_
            exact ⟨⟨rfl, rfl, rfl, rfl, rfl, rfl, be (by first | (simp [hp0]; done) | (unfold sdB; simp_all; done)), trivial⟩, S⟩
      · skip
        repeat refine cw_seq ?_
        refine cw_region ?_
        refine rw_v (op_pure rfl) ?_
        refine rw_v (op_fieldAddr Try.underlying25 rfl Try.sizeOf2 rfl rfl) ?_
        refine rw_r (op_loadB Try.underlying2 rfl rfl (S.blk (i := 0) rfl) rfl) ?_
        refine rw_v (op_rem rfl rfl (by omega) (by omega)) ?_
        rw [em]
        refine rw_v (op_b (b := false) rfl (decide_eq_false (by omega))) ?_
        refine rw_v (op_pure rfl) ?_
        first | refine rw_off rfl ?_ | (refine rw_on rfl ?_; refine rw_v (op_pure rfl) ?_)
        first | refine rw_off rfl ?_ | (refine rw_on rfl ?_; refine rw_v (op_pure rfl) ?_)
        first | refine rw_off rfl ?_ | (refine rw_on rfl ?_; refine rw_v (op_idx Try.underlying22 Try.sizeOf2 rfl rfl sa_B (by omega) (by omega)) ?_)
        first | refine rw_off rfl ?_ | (refine rw_on rfl ?_; refine rw_r (op_ldR Try.underlying2 rfl rfl (hB.gr S.out) (by assumption)) ?_)
        first | refine rw_off rfl ?_ | (refine rw_on rfl ?_; refine rw_v (op_pure rfl) ?_)
        first | refine rw_off rfl ?_ | (refine rw_on rfl ?_; (first | refine rw_v (op_b (b := true) rfl (beq_iff_eq.2 (by omega))) ?_ | refine rw_v (op_b (b := false) rfl (beq_eq_false_iff_ne.2 (by omega))) ?_ | refine rw_v (op_pure rfl) ?_))
        first | refine rw_off rfl ?_ | (refine rw_on rfl ?_; refine rw_v (op_pure rfl) ?_)
        first | refine rw_off rfl ?_ | (refine rw_on rfl ?_; refine rw_v (op_pure rfl) ?_)
        first | refine rw_off rfl ?_ | (refine rw_on rfl ?_; refine rw_v (op_pure rfl) ?_)
        first | refine rw_off rfl ?_ | (refine rw_on rfl ?_; refine rw_v (op_rng rfl (by omega)) ?_)
        first | refine rw_off rfl ?_ | (refine rw_on rfl ?_; refine rw_v (op_idx Try.underlying22 Try.sizeOf2 rfl rfl sa_B (by omega) (by omega)) ?_)
        first | refine rw_off rfl ?_ | (refine rw_on rfl ?_; refine rw_r (op_ldR Try.underlying2 rfl rfl (hB.gr S.out) (by assumption)) ?_)
        first | refine rw_off rfl ?_ | (refine rw_on rfl ?_; refine rw_v (op_pure rfl) ?_)
        first | refine rw_off rfl ?_ | (refine rw_on rfl ?_; (first | refine rw_v (op_b (b := true) rfl (beq_iff_eq.2 (by omega))) ?_ | refine rw_v (op_b (b := false) rfl (beq_eq_false_iff_ne.2 (by omega))) ?_ | refine rw_v (op_pure rfl) ?_))
        first | refine rw_off rfl ?_ | (refine rw_on rfl ?_; refine rw_v (op_pure rfl) ?_)
        first | refine rw_off rfl ?_ | (refine rw_on rfl ?_; refine rw_v (op_pure rfl) ?_)
        first | refine rw_off rfl ?_ | (refine rw_on rfl ?_; refine rw_v (op_pure rfl) ?_)
        first | refine rw_off rfl ?_ | (refine rw_on rfl ?_; refine rw_v (op_pure rfl) ?_)
        first | refine rw_off rfl ?_ | (refine rw_on rfl ?_; refine rw_v (op_idx Try.underlying22 Try.sizeOf2 rfl rfl sa_B (by omega) (by omega)) ?_)
        first | refine rw_off rfl ?_ | (refine rw_on rfl ?_; refine rw_r (op_ldR Try.underlying2 rfl rfl (hB.gr S.out) (by assumption)) ?_)
        first | refine rw_off rfl ?_ | (refine rw_on rfl ?_; refine rw_v (op_pure rfl) ?_)
        first | refine rw_off rfl ?_ | (refine rw_on rfl ?_; (first | refine rw_v (op_b (b := true) rfl (beq_iff_eq.2 (by omega))) ?_ | refine rw_v (op_b (b := false) rfl (beq_eq_false_iff_ne.2 (by omega))) ?_ | refine rw_v (op_pure rfl) ?_))
        first | refine rw_off rfl ?_ | (refine rw_on rfl ?_; refine rw_v (op_pure rfl) ?_)
        first | refine rw_off rfl ?_ | (refine rw_on rfl ?_; refine rw_v (op_pure rfl) ?_)
        first | refine rw_off rfl ?_ | (refine rw_on rfl ?_; refine rw_v (op_pure rfl) ?_)
        first | refine rw_off rfl ?_ | (refine rw_on rfl ?_; refine rw_v (op_rng rfl (by omega)) ?_)
        first | refine rw_off rfl ?_ | (refine rw_on rfl ?_; refine rw_v (op_idx Try.underlying22 Try.sizeOf2 rfl rfl sa_B (by omega) (by omega)) ?_)
        first | refine rw_off rfl ?_ | (refine rw_on rfl ?_; refine rw_r (op_ldR Try.underlying2 rfl rfl (hB.gr S.out) (by assumption)) ?_)
        first | refine rw_off rfl ?_ | (refine rw_on rfl ?_; refine rw_v (op_pure rfl) ?_)
        first | refine rw_off rfl ?_ | (refine rw_on rfl ?_; (first | refine rw_v (op_b (b := true) rfl (beq_iff_eq.2 (by omega))) ?_ | refine rw_v (op_b (b := false) rfl (beq_eq_false_iff_ne.2 (by omega))) ?_ | refine rw_v (op_pure rfl) ?_))
        first | refine rw_off rfl ?_ | (refine rw_on rfl ?_; refine rw_v (op_pure rfl) ?_)
        first | refine rw_off rfl ?_ | (refine rw_on rfl ?_; refine rw_v (op_pure rfl) ?_)
        refine rw_v (op_pure rfl) ?_
        first | refine rw_end ?_ | (refine rw_nil ?_; show CW _ _ _ _ _ _) | refine rw_nil ?_
        exact ⟨⟨rfl, rfl, rfl, rfl, rfl, rfl, be (by first | (simp [hp0]; done) | (unfold sdB; simp_all; done)), trivial⟩, S⟩
    · clear S
      rintro e w ⟨hsl, S⟩
      rw [hsl.fold]
      repeat refine cw_seq ?_
      refine cw_cutT (M := fun e w => SL e [(1, .slice B n cb), (2, .int .i64 a), (3, .int .i64 b), (4, .pointer (some ⟨b_md, 0, none⟩)), (9, .int .i64 (sideN gw L a b k + (if 0 < k % gw ∧ sdB (L.getD k 0) (L.getD (k - 1) 0) a b = true then 1 else 0) : Nat)), (10, .int .i64 k)] ∧ St No W w [.blk b_md 25 [.int .i64 gw, .int .i64 gh, .slice A m cap]]) ?_ ?_
      · by_cases hb : 0 < k % gw ∧ sdB (L.getD k 0) (L.getD (k - 1) 0) a b = true
        · rw [decide_eq_true hb, if_pos hb]
          repeat refine cw_seq ?_
          refine cw_true rfl ?_
          repeat refine cw_seq ?_
          refine cw_region ?_
          refine rw_v (op_pure rfl) ?_
          refine rw_v (op_rng rfl (by omega)) ?_
          refine rw_v (op_pure rfl) ?_
          first | refine rw_end ?_ | (refine rw_nil ?_; show CW _ _ _ _ _ _) | refine rw_nil ?_
          exact ⟨⟨rfl, rfl, rfl, rfl, ie (by omega), rfl, trivial⟩, S⟩
        · rw [decide_eq_false hb, if_neg hb]
          repeat refine cw_seq ?_
          refine cw_false rfl ?_
          repeat refine cw_seq ?_
          refine cw_skip ?_
          try show CW _ _ _ _ _ _
          exact ⟨⟨rfl, rfl, rfl, rfl, ie (by omega), rfl, trivial⟩, S⟩
      · clear S
        rintro e w ⟨hsl, S⟩
        rw [hsl.fold]
        have hc1 : (sideN gw L a b k + (if 0 < k % gw ∧ sdB (L.getD k 0) (L.getD (k - 1) 0) a b = true then 1 else 0) : Nat) ≤ 2 * k + 1 := by split <;> omega
        generalize hcc : (sideN gw L a b k + (if 0 < k % gw ∧ sdB (L.getD k 0) (L.getD (k - 1) 0) a b = true then 1 else 0) : Nat) = c at *
        have hsucc := hsucc
        repeat refine cw_seq ?_
        refine cw_cutT (M := fun e w => SL e [(1, .slice B n cb), (2, .int .i64 a), (3, .int .i64 b), (4, .pointer (some ⟨b_md, 0, none⟩)), (9, .int .i64 (c : Nat)), (10, .int .i64 k), (102, .bool (decide (gw ≤ k ∧ sdB (L.getD k 0) (L.getD (k - gw) 0) a b = true)))] ∧ St No W w [.blk b_md 25 [.int .i64 gw, .int .i64 gh, .slice A m cap]]) ?_ ?_
        · have hg := hget k hkn
          clear hsucc hcc
          generalize hx : L.getD k 0 = x at *
          generalize hy : L.getD (k - gw) 0 = y at *
          by_cases hp0 : gw ≤ k
          · skip
            have eg : (k : Int) - gw = ((k - gw : Nat) : Int) := by omega
            have hp := hget (k - gw) (by omega)
            have y0 : L.getD (k - gw) 0 = y := hy
            rw [y0] at hp
            by_cases hp1 : x = a
            · skip
              by_cases hp2 : y = b
              · skip
                repeat refine cw_seq ?_
                refine cw_region ?_
                refine rw_v (op_pure rfl) ?_
                refine rw_v (op_fieldAddr Try.underlying25 rfl Try.sizeOf2 rfl rfl) ?_
                refine rw_r (op_loadB Try.underlying2 rfl rfl (S.blk (i := 0) rfl) rfl) ?_
                refine rw_v (op_b (b := true) rfl (decide_eq_true (by omega))) ?_
                refine rw_v (op_pure rfl) ?_
                first | refine rw_off rfl ?_ | (refine rw_on rfl ?_; refine rw_v (op_pure rfl) ?_)
                first | refine rw_off rfl ?_ | (refine rw_on rfl ?_; refine rw_v (op_pure rfl) ?_)
                first | refine rw_off rfl ?_ | (refine rw_on rfl ?_; refine rw_v (op_idx Try.underlying22 Try.sizeOf2 rfl rfl sa_B (by omega) (by omega)) ?_)
                first | refine rw_off rfl ?_ | (refine rw_on rfl ?_; refine rw_r (op_ldR Try.underlying2 rfl rfl (hB.gr S.out) hg) ?_)
                first | refine rw_off rfl ?_ | (refine rw_on rfl ?_; refine rw_v (op_pure rfl) ?_)
                first | refine rw_off rfl ?_ | (refine rw_on rfl ?_; refine rw_v (op_b (b := true) rfl (beq_iff_eq.2 (by omega))) ?_)
                first | refine rw_off rfl ?_ | (refine rw_on rfl ?_; refine rw_v (op_pure rfl) ?_)
                first | refine rw_off rfl ?_ | (refine rw_on rfl ?_; refine rw_v (op_pure rfl) ?_)
                first | refine rw_off rfl ?_ | (refine rw_on rfl ?_; refine rw_v (op_pure rfl) ?_)
                first | refine rw_off rfl ?_ | (refine rw_on rfl ?_; refine rw_v (op_fieldAddr Try.underlying25 rfl Try.sizeOf2 rfl rfl) ?_)
                first | refine rw_off rfl ?_ | (refine rw_on rfl ?_; refine rw_r (op_loadB Try.underlying2 rfl rfl (S.blk (i := 0) rfl) rfl) ?_)
                first | refine rw_off rfl ?_ | (refine rw_on rfl ?_; refine rw_v (op_rng rfl (by omega)) ?_)
                rw [eg]
                first | refine rw_off rfl ?_ | (refine rw_on rfl ?_; refine rw_v (op_idx Try.underlying22 Try.sizeOf2 rfl rfl sa_B (by omega) (by omega)) ?_)
                first | refine rw_off rfl ?_ | (refine rw_on rfl ?_; refine rw_r (op_ldR Try.underlying2 rfl rfl (hB.gr S.out) hp) ?_)
                first | refine rw_off rfl ?_ | (refine rw_on rfl ?_; refine rw_v (op_pure rfl) ?_)
                first | refine rw_off rfl ?_ | (refine rw_on rfl ?_; refine rw_v (op_b (b := true) rfl (beq_iff_eq.2 (by omega))) ?_)
                first | refine rw_off rfl ?_ | (refine rw_on rfl ?_; refine rw_v (op_pure rfl) ?_)
                first | refine rw_off rfl ?_ | (refine rw_on rfl ?_; refine rw_v (op_pure rfl) ?_)
                first | refine rw_off rfl ?_ | (refine rw_on rfl ?_; refine rw_v (op_pure rfl) ?_)
                first | refine rw_off rfl ?_ | (refine rw_on rfl ?_; refine rw_v (op_pure rfl) ?_)
                first | refine rw_off rfl ?_ | (refine rw_on rfl ?_; refine rw_v (op_idx Try.underlying22 Try.sizeOf2 rfl rfl sa_B (by omega) (by omega)) ?_)
                first | refine rw_off rfl ?_ | (refine rw_on rfl ?_; refine rw_r (op_ldR Try.underlying2 rfl rfl (hB.gr S.out) (by assumption)) ?_)
                first | refine rw_off rfl ?_ | (refine rw_on rfl ?_; refine rw_v (op_pure rfl) ?_)
                first | refine rw_off rfl ?_ | (refine rw_on rfl ?_; (first | refine rw_v (op_b (b := true) rfl (beq_iff_eq.2 (by omega))) ?_ | refine rw_v (op_b (b := false) rfl (beq_eq_false_iff_ne.2 (by omega))) ?_ | refine rw_v (op_pure rfl) ?_))
                first | refine rw_off rfl ?_ | (refine rw_on rfl ?_; refine rw_v (op_pure rfl) ?_)
                first | refine rw_off rfl ?_ | (refine rw_on rfl ?_; refine rw_v (op_pure rfl) ?_)
                first | refine rw_off rfl ?_ | (refine rw_on rfl ?_; refine rw_v (op_pure rfl) ?_)
                first | refine rw_off rfl ?_ | (refine rw_on rfl ?_; refine rw_v (op_fieldAddr Try.underlying25 rfl Try.sizeOf2 rfl rfl) ?_)
                first | refine rw_off rfl ?_ | (refine rw_on rfl ?_; refine rw_r (op_loadB Try.underlying2 rfl rfl (S.blk (i := 0) rfl) rfl) ?_)
                first | refine rw_off rfl ?_ | (refine rw_on rfl ?_; refine rw_v (op_rng rfl (by omega)) ?_)
                first | refine rw_off rfl ?_ | (refine rw_on rfl ?_; refine rw_v (op_idx Try.underlying22 Try.sizeOf2 rfl rfl sa_B (by omega) (by omega)) ?_)
                first | refine rw_off rfl ?_ | (refine rw_on rfl ?_; refine rw_r (op_ldR Try.underlying2 rfl rfl (hB.gr S.out) (by assumption)) ?_)
                first | refine rw_off rfl ?_ | (refine rw_on rfl ?_; refine rw_v (op_pure rfl) ?_)
                first | refine rw_off rfl ?_ | (refine rw_on rfl ?_; (first | refine rw_v (op_b (b := true) rfl (beq_iff_eq.2 (by omega))) ?_ | refine rw_v (op_b (b := false) rfl (beq_eq_false_iff_ne.2 (by omega))) ?_ | refine rw_v (op_pure rfl) ?_))
                first | refine rw_off rfl ?_ | (refine rw_on rfl ?_; refine rw_v (op_pure rfl) ?_)
                first | refine rw_off rfl ?_ | (refine rw_on rfl ?_; refine rw_v (op_pure rfl) ?_)
                refine rw_v (op_pure rfl) ?_
                first | refine rw_end ?_ | (refine rw_nil ?_; show CW _ _ _ _ _ _) | refine rw_nil ?_
                exact ⟨⟨rfl, rfl, rfl, rfl, rfl, rfl, be (by first | (simp [hp0]; done) | (unfold sdB; simp_all; done)), trivial⟩, S⟩
              · skip
                by_cases hp3 : x = b
                · skip
                  by_cases hp4 : y = a
                  · skip
                    repeat refine cw_seq ?_
                    refine cw_region ?_
                    refine rw_v (op_pure rfl) ?_
                    refine rw_v (op_fieldAddr Try.underlying25 rfl Try.sizeOf2 rfl rfl) ?_
                    refine rw_r (op_loadB Try.underlying2 rfl rfl (S.blk (i := 0) rfl) rfl) ?_
                    refine rw_v (op_b (b := true) rfl (decide_eq_true (by omega))) ?_
                    refine rw_v (op_pure rfl) ?_
                    first | refine rw_off rfl ?_ | (refine rw_on rfl ?_; refine rw_v (op_pure rfl) ?_)
                    first | refine rw_off rfl ?_ | (refine rw_on rfl ?_; refine rw_v (op_pure rfl) ?_)
                    first | refine rw_off rfl ?_ | (refine rw_on rfl ?_; refine rw_v (op_idx Try.underlying22 Try.sizeOf2 rfl rfl sa_B (by omega) (by omega)) ?_)
                    first | refine rw_off rfl ?_ | (refine rw_on rfl ?_; refine rw_r (op_ldR Try.underlying2 rfl rfl (hB.gr S.out) hg) ?_)
                    first | refine rw_off rfl ?_ | (refine rw_on rfl ?_; refine rw_v (op_pure rfl) ?_)
                    first | refine rw_off rfl ?_ | (refine rw_on rfl ?_; refine rw_v (op_b (b := true) rfl (beq_iff_eq.2 (by omega))) ?_)
                    first | refine rw_off rfl ?_ | (refine rw_on rfl ?_; refine rw_v (op_pure rfl) ?_)
                    first | refine rw_off rfl ?_ | (refine rw_on rfl ?_; refine rw_v (op_pure rfl) ?_)
                    first | refine rw_off rfl ?_ | (refine rw_on rfl ?_; refine rw_v (op_pure rfl) ?_)
                    first | refine rw_off rfl ?_ | (refine rw_on rfl ?_; refine rw_v (op_fieldAddr Try.underlying25 rfl Try.sizeOf2 rfl rfl) ?_)
                    first | refine rw_off rfl ?_ | (refine rw_on rfl ?_; refine rw_r (op_loadB Try.underlying2 rfl rfl (S.blk (i := 0) rfl) rfl) ?_)
                    first | refine rw_off rfl ?_ | (refine rw_on rfl ?_; refine rw_v (op_rng rfl (by omega)) ?_)
                    rw [eg]
                    first | refine rw_off rfl ?_ | (refine rw_on rfl ?_; refine rw_v (op_idx Try.underlying22 Try.sizeOf2 rfl rfl sa_B (by omega) (by omega)) ?_)
                    first | refine rw_off rfl ?_ | (refine rw_on rfl ?_; refine rw_r (op_ldR Try.underlying2 rfl rfl (hB.gr S.out) hp) ?_)
                    first | refine rw_off rfl ?_ | (refine rw_on rfl ?_; refine rw_v (op_pure rfl) ?_)
                    first | refine rw_off rfl ?_ | (refine rw_on rfl ?_; refine rw_v (op_b (b := false) rfl (beq_eq_false_iff_ne.2 (by omega))) ?_)
                    first | refine rw_off rfl ?_ | (refine rw_on rfl ?_; refine rw_v (op_pure rfl) ?_)
                    first | refine rw_off rfl ?_ | (refine rw_on rfl ?_; refine rw_v (op_pure rfl) ?_)
                    first | refine rw_off rfl ?_ | (refine rw_on rfl ?_; refine rw_v (op_pure rfl) ?_)
                    first | refine rw_off rfl ?_ | (refine rw_on rfl ?_; refine rw_v (op_pure rfl) ?_)
                    first | refine rw_off rfl ?_ | (refine rw_on rfl ?_; refine rw_v (op_idx Try.underlying22 Try.sizeOf2 rfl rfl sa_B (by omega) (by omega)) ?_)
                    first | refine rw_off rfl ?_ | (refine rw_on rfl ?_; refine rw_r (op_ldR Try.underlying2 rfl rfl (hB.gr S.out) hg) ?_)
                    first | refine rw_off rfl ?_ | (refine rw_on rfl ?_; refine rw_v (op_pure rfl) ?_)
                    first | refine rw_off rfl ?_ | (refine rw_on rfl ?_; refine rw_v (op_b (b := true) rfl (beq_iff_eq.2 (by omega))) ?_)
                    first | refine rw_off rfl ?_ | (refine rw_on rfl ?_; refine rw_v (op_pure rfl) ?_)
                    first | refine rw_off rfl ?_ | (refine rw_on rfl ?_; refine rw_v (op_pure rfl) ?_)
                    first | refine rw_off rfl ?_ | (refine rw_on rfl ?_; refine rw_v (op_pure rfl) ?_)
                    first | refine rw_off rfl ?_ | (refine rw_on rfl ?_; refine rw_v (op_fieldAddr Try.underlying25 rfl Try.sizeOf2 rfl rfl) ?_)
                    first | refine rw_off rfl ?_ | (refine rw_on rfl ?_; refine rw_r (op_loadB Try.underlying2 rfl rfl (S.blk (i := 0) rfl) rfl) ?_)
                    first | refine rw_off rfl ?_ | (refine rw_on rfl ?_; refine rw_v (op_rng rfl (by omega)) ?_)
                    rw [eg]
                    first | refine rw_off rfl ?_ | (refine rw_on rfl ?_; refine rw_v (op_idx Try.underlying22 Try.sizeOf2 rfl rfl sa_B (by omega) (by omega)) ?_)
                    first | refine rw_off rfl ?_ | (refine rw_on rfl ?_; refine rw_r (op_ldR Try.underlying2 rfl rfl (hB.gr S.out) hp) ?_)
                    first | refine rw_off rfl ?_ | (refine rw_on rfl ?_; refine rw_v (op_pure rfl) ?_)
                    first | refine rw_off rfl ?_ | (refine rw_on rfl ?_; refine rw_v (op_b (b := true) rfl (beq_iff_eq.2 (by omega))) ?_)
                    first | refine rw_off rfl ?_ | (refine rw_on rfl ?_; refine rw_v (op_pure rfl) ?_)
                    first | refine rw_off rfl ?_ | (refine rw_on rfl ?_; refine rw_v (op_pure rfl) ?_)
                    refine rw_v (op_pure rfl) ?_
                    first | refine rw_end ?_ | (refine rw_nil ?_; show CW _ _ _ _ _ _) | refine rw_nil ?_
                    exact ⟨⟨rfl, rfl, rfl, rfl, rfl, rfl, be (by first | (simp [hp0]; done) | (unfold sdB; simp_all; done)), trivial⟩, S⟩
                  · skip
                    repeat refine cw_seq ?_
                    refine cw_region ?_
                    refine rw_v (op_pure rfl) ?_
                    refine rw_v (op_fieldAddr Try.underlying25 rfl Try.sizeOf2 rfl rfl) ?_
                    refine rw_r (op_loadB Try.underlying2 rfl rfl (S.blk (i := 0) rfl) rfl) ?_
                    refine rw_v (op_b (b := true) rfl (decide_eq_true (by omega))) ?_
                    refine rw_v (op_pure rfl) ?_
                    first | refine rw_off rfl ?_ | (refine rw_on rfl ?_; refine rw_v (op_pure rfl) ?_)
                    first | refine rw_off rfl ?_ | (refine rw_on rfl ?_; refine rw_v (op_pure rfl) ?_)
                    first | refine rw_off rfl ?_ | (refine rw_on rfl ?_; refine rw_v (op_idx Try.underlying22 Try.sizeOf2 rfl rfl sa_B (by omega) (by omega)) ?_)
                    first | refine rw_off rfl ?_ | (refine rw_on rfl ?_; refine rw_r (op_ldR Try.underlying2 rfl rfl (hB.gr S.out) hg) ?_)
                    first | refine rw_off rfl ?_ | (refine rw_on rfl ?_; refine rw_v (op_pure rfl) ?_)
                    first | refine rw_off rfl ?_ | (refine rw_on rfl ?_; refine rw_v (op_b (b := true) rfl (beq_iff_eq.2 (by omega))) ?_)
                    first | refine rw_off rfl ?_ | (refine rw_on rfl ?_; refine rw_v (op_pure rfl) ?_)
                    first | refine rw_off rfl ?_ | (refine rw_on rfl ?_; refine rw_v (op_pure rfl) ?_)
                    first | refine rw_off rfl ?_ | (refine rw_on rfl ?_; refine rw_v (op_pure rfl) ?_)
                    first | refine rw_off rfl ?_ | (refine rw_on rfl ?_; refine rw_v (op_fieldAddr Try.underlying25 rfl Try.sizeOf2 rfl rfl) ?_)
                    first | refine rw_off rfl ?_ | (refine rw_on rfl ?_; refine rw_r (op_loadB Try.underlying2 rfl rfl (S.blk (i := 0) rfl) rfl) ?_)
                    first | refine rw_off rfl ?_ | (refine rw_on rfl ?_; refine rw_v (op_rng rfl (by omega)) ?_)
                    rw [eg]
                    first | refine rw_off rfl ?_ | (refine rw_on rfl ?_; refine rw_v (op_idx Try.underlying22 Try.sizeOf2 rfl rfl sa_B (by omega) (by omega)) ?_)
                    first | refine rw_off rfl ?_ | (refine rw_on rfl ?_; refine rw_r (op_ldR Try.underlying2 rfl rfl (hB.gr S.out) hp) ?_)
                    first | refine rw_off rfl ?_ | (refine rw_on rfl ?_; refine rw_v (op_pure rfl) ?_)
                    first | refine rw_off rfl ?_ | (refine rw_on rfl ?_; refine rw_v (op_b (b := false) rfl (beq_eq_false_iff_ne.2 (by omega))) ?_)
                    first | refine rw_off rfl ?_ | (refine rw_on rfl ?_; refine rw_v (op_pure rfl) ?_)
                    first | refine rw_off rfl ?_ | (refine rw_on rfl ?_; refine rw_v (op_pure rfl) ?_)
                    first | refine rw_off rfl ?_ | (refine rw_on rfl ?_; refine rw_v (op_pure rfl) ?_)
                    first | refine rw_off rfl ?_ | (refine rw_on rfl ?_; refine rw_v (op_pure rfl) ?_)
                    first | refine rw_off rfl ?_ | (refine rw_on rfl ?_; refine rw_v (op_idx Try.underlying22 Try.sizeOf2 rfl rfl sa_B (by omega) (by omega)) ?_)
                    first | refine rw_off rfl ?_ | (refine rw_on rfl ?_; refine rw_r (op_ldR Try.underlying2 rfl rfl (hB.gr S.out) hg) ?_)
                    first | refine rw_off rfl ?_ | (refine rw_on rfl ?_; refine rw_v (op_pure rfl) ?_)
                    first | refine rw_off rfl ?_ | (refine rw_on rfl ?_; refine rw_v (op_b (b := true) rfl (beq_iff_eq.2 (by omega))) ?_)
                    first | refine rw_off rfl ?_ | (refine rw_on rfl ?_; refine rw_v (op_pure rfl) ?_)
                    first | refine rw_off rfl ?_ | (refine rw_on rfl ?_; refine rw_v (op_pure rfl) ?_)
                    first | refine rw_off rfl ?_ | (refine rw_on rfl ?_; refine rw_v (op_pure rfl) ?_)
                    first | refine rw_off rfl ?_ | (refine rw_on rfl ?_; refine rw_v (op_fieldAddr Try.underlying25 rfl Try.sizeOf2 rfl rfl) ?_)
                    first | refine rw_off rfl ?_ | (refine rw_on rfl ?_; refine rw_r (op_loadB Try.underlying2 rfl rfl (S.blk (i := 0) rfl) rfl) ?_)
                    first | refine rw_off rfl ?_ | (refine rw_on rfl ?_; refine rw_v (op_rng rfl (by omega)) ?_)
                    rw [eg]
                    first | refine rw_off rfl ?_ | (refine rw_on rfl ?_; refine rw_v (op_idx Try.underlying22 Try.sizeOf2 rfl rfl sa_B (by omega) (by omega)) ?_)
                    first | refine rw_off rfl ?_ | (refine rw_on rfl ?_; refine rw_r (op_ldR Try.underlying2 rfl rfl (hB.gr S.out) hp) ?_)
                    first | refine rw_off rfl ?_ | (refine rw_on rfl ?_; refine rw_v (op_pure rfl) ?_)
                    first | refine rw_off rfl ?_ | (refine rw_on rfl ?_; refine rw_v (op_b (b := false) rfl (beq_eq_false_iff_ne.2 (by omega))) ?_)
                    first | refine rw_off rfl ?_ | (refine rw_on rfl ?_; refine rw_v (op_pure rfl) ?_)
                    first | refine rw_off rfl ?_ | (refine rw_on rfl ?_; refine rw_v (op_pure rfl) ?_)
                    refine rw_v (op_pure rfl) ?_
                    first | refine rw_end ?_ | (refine rw_nil ?_; show CW _ _ _ _ _ _) | refine rw_nil ?_
                    exact ⟨⟨rfl, rfl, rfl, rfl, rfl, rfl, be (by first | (simp [hp0]; done) | (unfold sdB; simp_all; done)), trivial⟩, S⟩
                · skip
                  repeat refine cw_seq ?_
                  refine cw_region ?_
                  refine rw_v (op_pure rfl) ?_
                  refine rw_v (op_fieldAddr Try.underlying25 rfl Try.sizeOf2 rfl rfl) ?_
                  refine rw_r (op_loadB Try.underlying2 rfl rfl (S.blk (i := 0) rfl) rfl) ?_
                  refine rw_v (op_b (b := true) rfl (decide_eq_true (by omega))) ?_
                  refine rw_v (op_pure rfl) ?_
                  first | refine rw_off rfl ?_ | (refine rw_on rfl ?_; refine rw_v (op_pure rfl) ?_)
                  first | refine rw_off rfl ?_ | (refine rw_on rfl ?_; refine rw_v (op_pure rfl) ?_)
                  first | refine rw_off rfl ?_ | (refine rw_on rfl ?_; refine rw_v (op_idx Try.underlying22 Try.sizeOf2 rfl rfl sa_B (by omega) (by omega)) ?_)
                  first | refine rw_off rfl ?_ | (refine rw_on rfl ?_; refine rw_r (op_ldR Try.underlying2 rfl rfl (hB.gr S.out) hg) ?_)
                  first | refine rw_off rfl ?_ | (refine rw_on rfl ?_; refine rw_v (op_pure rfl) ?_)
                  first | refine rw_off rfl ?_ | (refine rw_on rfl ?_; refine rw_v (op_b (b := true) rfl (beq_iff_eq.2 (by omega))) ?_)
                  first | refine rw_off rfl ?_ | (refine rw_on rfl ?_; refine rw_v (op_pure rfl) ?_)
                  first | refine rw_off rfl ?_ | (refine rw_on rfl ?_; refine rw_v (op_pure rfl) ?_)
                  first | refine rw_off rfl ?_ | (refine rw_on rfl ?_; refine rw_v (op_pure rfl) ?_)
                  first | refine rw_off rfl ?_ | (refine rw_on rfl ?_; refine rw_v (op_fieldAddr Try.underlying25 rfl Try.sizeOf2 rfl rfl) ?_)
                  first | refine rw_off rfl ?_ | (refine rw_on rfl ?_; refine rw_r (op_loadB Try.underlying2 rfl rfl (S.blk (i := 0) rfl) rfl) ?_)
                  first | refine rw_off rfl ?_ | (refine rw_on rfl ?_; refine rw_v (op_rng rfl (by omega)) ?_)
                  rw [eg]
                  first | refine rw_off rfl ?_ | (refine rw_on rfl ?_; refine rw_v (op_idx Try.underlying22 Try.sizeOf2 rfl rfl sa_B (by omega) (by omega)) ?_)
                  first | refine rw_off rfl ?_ | (refine rw_on rfl ?_; refine rw_r (op_ldR Try.underlying2 rfl rfl (hB.gr S.out) hp) ?_)
                  first | refine rw_off rfl ?_ | (refine rw_on rfl ?_; refine rw_v (op_pure rfl) ?_)
                  first | refine rw_off rfl ?_ | (refine rw_on rfl ?_; refine rw_v (op_b (b := false) rfl (beq_eq_false_iff_ne.2 (by omega))) ?_)
                  first | refine rw_off rfl ?_ | (refine rw_on rfl ?_; refine rw_v (op_pure rfl) ?_)
                  first | refine rw_off rfl ?_ | (refine rw_on rfl ?_; refine rw_v (op_pure rfl) ?_)
                  first | refine rw_off rfl ?_ | (refine rw_on rfl ?_; refine rw_v (op_pure rfl) ?_)
                  first | refine rw_off rfl ?_ | (refine rw_on rfl ?_; refine rw_v (op_pure rfl) ?_)
                  first | refine rw_off rfl ?_ | (refine rw_on rfl ?_; refine rw_v (op_idx Try.underlying22 Try.sizeOf2 rfl rfl sa_B (by omega) (by omega)) ?_)
                  first | refine rw_off rfl ?_ | (refine rw_on rfl ?_; refine rw_r (op_ldR Try.underlying2 rfl rfl (hB.gr S.out) hg) ?_)
                  first | refine rw_off rfl ?_ | (refine rw_on rfl ?_; refine rw_v (op_pure rfl) ?_)
                  first | refine rw_off rfl ?_ | (refine rw_on rfl ?_; refine rw_v (op_b (b := false) rfl (beq_eq_false_iff_ne.2 (by omega))) ?_)
                  first | refine rw_off rfl ?_ | (refine rw_on rfl ?_; refine rw_v (op_pure rfl) ?_)
                  first | refine rw_off rfl ?_ | (refine rw_on rfl ?_; refine rw_v (op_pure rfl) ?_)
                  first | refine rw_off rfl ?_ | (refine rw_on rfl ?_; refine rw_v (op_pure rfl) ?_)
                  first | refine rw_off rfl ?_ | (refine rw_on rfl ?_; refine rw_v (op_fieldAddr Try.underlying25 rfl Try.sizeOf2 rfl rfl) ?_)
                  first | refine rw_off rfl ?_ | (refine rw_on rfl ?_; refine rw_r (op_loadB Try.underlying2 rfl rfl (S.blk (i := 0) rfl) rfl) ?_)
                  first | refine rw_off rfl ?_ | (refine rw_on rfl ?_; refine rw_v (op_rng rfl (by omega)) ?_)
                  first | refine rw_off rfl ?_ | (refine rw_on rfl ?_; refine rw_v (op_idx Try.underlying22 Try.sizeOf2 rfl rfl sa_B (by omega) (by omega)) ?_)
                  first | refine rw_off rfl ?_ | (refine rw_on rfl ?_; refine rw_r (op_ldR Try.underlying2 rfl rfl (hB.gr S.out) (by assumption)) ?_)
                  first | refine rw_off rfl ?_ | (refine rw_on rfl ?_; refine rw_v (op_pure rfl) ?_)
                  first | refine rw_off rfl ?_ | (refine rw_on rfl ?_; (first | refine rw_v (op_b (b := true) rfl (beq_iff_eq.2 (by omega))) ?_ | refine rw_v (op_b (b := false) rfl (beq_eq_false_iff_ne.2 (by omega))) ?_ | refine rw_v (op_pure rfl) ?_))
                  first | refine rw_off rfl ?_ | (refine rw_on rfl ?_; refine rw_v (op_pure rfl) ?_)
                  first | refine rw_off rfl ?_ | (refine rw_on rfl ?_; refine rw_v (op_pure rfl) ?_)
                  refine rw_v (op_pure rfl) ?_
                  first | refine rw_end ?_ | (refine rw_nil ?_; show CW _ _ _ _ _ _) | refine rw_nil ?_
                  exact ⟨⟨rfl, rfl, rfl, rfl, rfl, rfl, be (by first | (simp [hp0]; done) | (unfold sdB; simp_all; done)), trivial⟩, S⟩
            · skip
              by_cases hp3 : x = b
              · skip
                by_cases hp4 : y = a
                · skip
                  repeat refine cw_seq ?_
                  refine cw_region ?_
                  refine rw_v (op_pure rfl) ?_
                  refine rw_v (op_fieldAddr Try.underlying25 rfl Try.sizeOf2 rfl rfl) ?_
                  refine rw_r (op_loadB Try.underlying2 rfl rfl (S.blk (i := 0) rfl) rfl) ?_
                  refine rw_v (op_b (b := true) rfl (decide_eq_true (by omega))) ?_
                  refine rw_v (op_pure rfl) ?_
                  first | refine rw_off rfl ?_ | (refine rw_on rfl ?_; refine rw_v (op_pure rfl) ?_)
                  first | refine rw_off rfl ?_ | (refine rw_on rfl ?_; refine rw_v (op_pure rfl) ?_)
                  first | refine rw_off rfl ?_ | (refine rw_on rfl ?_; refine rw_v (op_idx Try.underlying22 Try.sizeOf2 rfl rfl sa_B (by omega) (by omega)) ?_)
                  first | refine rw_off rfl ?_ | (refine rw_on rfl ?_; refine rw_r (op_ldR Try.underlying2 rfl rfl (hB.gr S.out) hg) ?_)
                  first | refine rw_off rfl ?_ | (refine rw_on rfl ?_; refine rw_v (op_pure rfl) ?_)
                  first | refine rw_off rfl ?_ | (refine rw_on rfl ?_; refine rw_v (op_b (b := false) rfl (beq_eq_false_iff_ne.2 (by omega))) ?_)
                  first | refine rw_off rfl ?_ | (refine rw_on rfl ?_; refine rw_v (op_pure rfl) ?_)
                  first | refine rw_off rfl ?_ | (refine rw_on rfl ?_; refine rw_v (op_pure rfl) ?_)
                  first | refine rw_off rfl ?_ | (refine rw_on rfl ?_; refine rw_v (op_pure rfl) ?_)
                  first | refine rw_off rfl ?_ | (refine rw_on rfl ?_; refine rw_v (op_fieldAddr Try.underlying25 rfl Try.sizeOf2 rfl rfl) ?_)
                  first | refine rw_off rfl ?_ | (refine rw_on rfl ?_; refine rw_r (op_loadB Try.underlying2 rfl rfl (S.blk (i := 0) rfl) rfl) ?_)
                  first | refine rw_off rfl ?_ | (refine rw_on rfl ?_; refine rw_v (op_rng rfl (by omega)) ?_)
                  first | refine rw_off rfl ?_ | (refine rw_on rfl ?_; refine rw_v (op_idx Try.underlying22 Try.sizeOf2 rfl rfl sa_B (by omega) (by omega)) ?_)
                  first | refine rw_off rfl ?_ | (refine rw_on rfl ?_; refine rw_r (op_ldR Try.underlying2 rfl rfl (hB.gr S.out) (by assumption)) ?_)
                  first | refine rw_off rfl ?_ | (refine rw_on rfl ?_; refine rw_v (op_pure rfl) ?_)
                  first | refine rw_off rfl ?_ | (refine rw_on rfl ?_; (first | refine rw_v (op_b (b := true) rfl (beq_iff_eq.2 (by omega))) ?_ | refine rw_v (op_b (b := false) rfl (beq_eq_false_iff_ne.2 (by omega))) ?_ | refine rw_v (op_pure rfl) ?_))
                  first | refine rw_off rfl ?_ | (refine rw_on rfl ?_; refine rw_v (op_pure rfl) ?_)
                  first | refine rw_off rfl ?_ | (refine rw_on rfl ?_; refine rw_v (op_pure rfl) ?_)
                  first | refine rw_off rfl ?_ | (refine rw_on rfl ?_; refine rw_v (op_pure rfl) ?_)
                  first | refine rw_off rfl ?_ | (refine rw_on rfl ?_; refine rw_v (op_pure rfl) ?_)
                  first | refine rw_off rfl ?_ | (refine rw_on rfl ?_; refine rw_v (op_idx Try.underlying22 Try.sizeOf2 rfl rfl sa_B (by omega) (by omega)) ?_)
                  first | refine rw_off rfl ?_ | (refine rw_on rfl ?_; refine rw_r (op_ldR Try.underlying2 rfl rfl (hB.gr S.out) hg) ?_)
                  first | refine rw_off rfl ?_ | (refine rw_on rfl ?_; refine rw_v (op_pure rfl) ?_)
                  first | refine rw_off rfl ?_ | (refine rw_on rfl ?_; refine rw_v (op_b (b := true) rfl (beq_iff_eq.2 (by omega))) ?_)
                  first | refine rw_off rfl ?_ | (refine rw_on rfl ?_; refine rw_v (op_pure rfl) ?_)
                  first | refine rw_off rfl ?_ | (refine rw_on rfl ?_; refine rw_v (op_pure rfl) ?_)
                  first | refine rw_off rfl ?_ | (refine rw_on rfl ?_; refine rw_v (op_pure rfl) ?_)
                  first | refine rw_off rfl ?_ | (refine rw_on rfl ?_; refine rw_v (op_fieldAddr Try.underlying25 rfl Try.sizeOf2 rfl rfl) ?_)
                  first | refine rw_off rfl ?_ | (refine rw_on rfl ?_; refine rw_r (op_loadB Try.underlying2 rfl rfl (S.blk (i := 0) rfl) rfl) ?_)
                  first | refine rw_off rfl ?_ | (refine rw_on rfl ?_; refine rw_v (op_rng rfl (by omega)) ?_)
                  rw [eg]
                  first | refine rw_off rfl ?_ | (refine rw_on rfl ?_; refine rw_v (op_idx Try.underlying22 Try.sizeOf2 rfl rfl sa_B (by omega) (by omega)) ?_)
                  first | refine rw_off rfl ?_ | (refine rw_on rfl ?_; refine rw_r (op_ldR Try.underlying2 rfl rfl (hB.gr S.out) hp) ?_)
                  first | refine rw_off rfl ?_ | (refine rw_on rfl ?_; refine rw_v (op_pure rfl) ?_)
                  first | refine rw_off rfl ?_ | (refine rw_on rfl ?_; refine rw_v (op_b (b := true) rfl (beq_iff_eq.2 (by omega))) ?_)
                  first | refine rw_off rfl ?_ | (refine rw_on rfl ?_; refine rw_v (op_pure rfl) ?_)
                  first | refine rw_off rfl ?_ | (refine rw_on rfl ?_; refine rw_v (op_pure rfl) ?_)
                  refine rw_v (op_pure rfl) ?_
                  first | refine rw_end ?_ | (refine rw_nil ?_; show CW _ _ _ _ _ _) | refine rw_nil ?_
                  exact ⟨⟨rfl, rfl, rfl, rfl, rfl, rfl, be (by first | (simp [hp0]; done) | (unfold sdB; simp_all; done)), trivial⟩, S⟩
                · skip
                  repeat refine cw_seq ?_
                  refine cw_region ?_
                  refine rw_v (op_pure rfl) ?_
                  refine rw_v (op_fieldAddr Try.underlying25 rfl Try.sizeOf2 rfl rfl) ?_
                  refine rw_r (op_loadB Try.underlying2 rfl rfl (S.blk (i := 0) rfl) rfl) ?_
                  refine rw_v (op_b (b := true) rfl (decide_eq_true (by omega))) ?_
                  refine rw_v (op_pure rfl) ?_
                  first | refine rw_off rfl ?_ | (refine rw_on rfl ?_; refine rw_v (op_pure rfl) ?_)
                  first | refine rw_off rfl ?_ | (refine rw_on rfl ?_; refine rw_v (op_pure rfl) ?_)
                  first | refine rw_off rfl ?_ | (refine rw_on rfl ?_; refine rw_v (op_idx Try.underlying22 Try.sizeOf2 rfl rfl sa_B (by omega) (by omega)) ?_)
                  first | refine rw_off rfl ?_ | (refine rw_on rfl ?_; refine rw_r (op_ldR Try.underlying2 rfl rfl (hB.gr S.out) hg) ?_)
                  first | refine rw_off rfl ?_ | (refine rw_on rfl ?_; refine rw_v (op_pure rfl) ?_)
                  first | refine rw_off rfl ?_ | (refine rw_on rfl ?_; refine rw_v (op_b (b := false) rfl (beq_eq_false_iff_ne.2 (by omega))) ?_)
                  first | refine rw_off rfl ?_ | (refine rw_on rfl ?_; refine rw_v (op_pure rfl) ?_)
                  first | refine rw_off rfl ?_ | (refine rw_on rfl ?_; refine rw_v (op_pure rfl) ?_)
                  first | refine rw_off rfl ?_ | (refine rw_on rfl ?_; refine rw_v (op_pure rfl) ?_)
                  first | refine rw_off rfl ?_ | (refine rw_on rfl ?_; refine rw_v (op_fieldAddr Try.underlying25 rfl Try.sizeOf2 rfl rfl) ?_)
                  first | refine rw_off rfl ?_ | (refine rw_on rfl ?_; refine rw_r (op_loadB Try.underlying2 rfl rfl (S.blk (i := 0) rfl) rfl) ?_)
                  first | refine rw_off rfl ?_ | (refine rw_on rfl ?_; refine rw_v (op_rng rfl (by omega)) ?_)
                  first | refine rw_off rfl ?_ | (refine rw_on rfl ?_; refine rw_v (op_idx Try.underlying22 Try.sizeOf2 rfl rfl sa_B (by omega) (by omega)) ?_)
                  first | refine rw_off rfl ?_ | (refine rw_on rfl ?_; refine rw_r (op_ldR Try.underlying2 rfl rfl (hB.gr S.out) (by assumption)) ?_)
                  first | refine rw_off rfl ?_ | (refine rw_on rfl ?_; refine rw_v (op_pure rfl) ?_)
                  first | refine rw_off rfl ?_ | (refine rw_on rfl ?_; (first | refine rw_v (op_b (b := true) rfl (beq_iff_eq.2 (by omega))) ?_ | refine rw_v (op_b (b := false) rfl (beq_eq_false_iff_ne.2 (by omega))) ?_ | refine rw_v (op_pure rfl) ?_))
                  first | refine rw_off rfl ?_ | (refine rw_on rfl ?_; refine rw_v (op_pure rfl) ?_)
                  first | refine rw_off rfl ?_ | (refine rw_on rfl ?_; refine rw_v (op_pure rfl) ?_)
                  first | refine rw_off rfl ?_ | (refine rw_on rfl ?_; refine rw_v (op_pure rfl) ?_)
                  first | refine rw_off rfl ?_ | (refine rw_on rfl ?_; refine rw_v (op_pure rfl) ?_)
                  first | refine rw_off rfl ?_ | (refine rw_on rfl ?_; refine rw_v (op_idx Try.underlying22 Try.sizeOf2 rfl rfl sa_B (by omega) (by omega)) ?_)
                  first | refine rw_off rfl ?_ | (refine rw_on rfl ?_; refine rw_r (op_ldR Try.underlying2 rfl rfl (hB.gr S.out) hg) ?_)
                  first | refine rw_off rfl ?_ | (refine rw_on rfl ?_; refine rw_v (op_pure rfl) ?_)
                  first | refine rw_off rfl ?_ | (refine rw_on rfl ?_; refine rw_v (op_b (b := true) rfl (beq_iff_eq.2 (by omega))) ?_)
                  first | refine rw_off rfl ?_ | (refine rw_on rfl ?_; refine rw_v (op_pure rfl) ?_)
                  first | refine rw_off rfl ?_ | (refine rw_on rfl ?_; refine rw_v (op_pure rfl) ?_)
                  first | refine rw_off rfl ?_ | (refine rw_on rfl ?_; refine rw_v (op_pure rfl) ?_)
                  first | refine rw_off rfl ?_ | (refine rw_on rfl ?_; refine rw_v (op_fieldAddr Try.underlying25 rfl Try.sizeOf2 rfl rfl) ?_)
                  first | refine rw_off rfl ?_ | (refine rw_on rfl ?_; refine rw_r (op_loadB Try.underlying2 rfl rfl (S.blk (i := 0) rfl) rfl) ?_)
                  first | refine rw_off rfl ?_ | (refine rw_on rfl ?_; refine rw_v (op_rng rfl (by omega)) ?_)
                  rw [eg]
                  first | refine rw_off rfl ?_ | (refine rw_on rfl ?_; refine rw_v (op_idx Try.underlying22 Try.sizeOf2 rfl rfl sa_B (by omega) (by omega)) ?_)
                  first | refine rw_off rfl ?_ | (refine rw_on rfl ?_; refine rw_r (op_ldR Try.underlying2 rfl rfl (hB.gr S.out) hp) ?_)
                  first | refine rw_off rfl ?_ | (refine rw_on rfl ?_; refine rw_v (op_pure rfl) ?_)
                  first | refine rw_off rfl ?_ | (refine rw_on rfl ?_; refine rw_v (op_b (b := false) rfl (beq_eq_false_iff_ne.2 (by omega))) ?_)
                  first | refine rw_off rfl ?_ | (refine rw_on rfl ?_; refine rw_v (op_pure rfl) ?_)
                  first | refine rw_off rfl ?_ | (refine rw_on rfl ?_; refine rw_v (op_pure rfl) ?_)
                  refine rw_v (op_pure rfl) ?_
                  first | refine rw_end ?_ | (refine rw_nil ?_; show CW _ _ _ _ _ _) | refine rw_nil ?_
                  exact ⟨⟨rfl, rfl, rfl, rfl, rfl, rfl, be (by first | (simp [hp0]; done) | (unfold sdB; simp_all; done)), trivial⟩, S⟩
              · skip
                repeat refine cw_seq ?_
                refine cw_region ?_
                refine rw_v (op_pure rfl) ?_
                refine rw_v (op_fieldAddr Try.underlying25 rfl Try.sizeOf2 rfl rfl) ?_
                refine rw_r (op_loadB Try.underlying2 rfl rfl (S.blk (i := 0) rfl) rfl) ?_
                refine rw_v (op_b (b := true) rfl (decide_eq_true (by omega))) ?_
                refine rw_v (op_pure rfl) ?_
                first | refine rw_off rfl ?_ | (refine rw_on rfl ?_; refine rw_v (op_pure rfl) ?_)
                first | refine rw_off rfl ?_ | (refine rw_on rfl ?_; refine rw_v (op_pure rfl) ?_)
                first | refine rw_off rfl ?_ | (refine rw_on rfl ?_; refine rw_v (op_idx Try.underlying22 Try.sizeOf2 rfl rfl sa_B (by omega) (by omega)) ?_)
                first | refine rw_off rfl ?_ | (refine rw_on rfl ?_; refine rw_r (op_ldR Try.underlying2 rfl rfl (hB.gr S.out) hg) ?_)
                first | refine rw_off rfl ?_ | (refine rw_on rfl ?_; refine rw_v (op_pure rfl) ?_)
                first | refine rw_off rfl ?_ | (refine rw_on rfl ?_; refine rw_v (op_b (b := false) rfl (beq_eq_false_iff_ne.2 (by omega))) ?_)
                first | refine rw_off rfl ?_ | (refine rw_on rfl ?_; refine rw_v (op_pure rfl) ?_)
                first | refine rw_off rfl ?_ | (refine rw_on rfl ?_; refine rw_v (op_pure rfl) ?_)
                first | refine rw_off rfl ?_ | (refine rw_on rfl ?_; refine rw_v (op_pure rfl) ?_)
                first | refine rw_off rfl ?_ | (refine rw_on rfl ?_; refine rw_v (op_fieldAddr Try.underlying25 rfl Try.sizeOf2 rfl rfl) ?_)
                first | refine rw_off rfl ?_ | (refine rw_on rfl ?_; refine rw_r (op_loadB Try.underlying2 rfl rfl (S.blk (i := 0) rfl) rfl) ?_)
                first | refine rw_off rfl ?_ | (refine rw_on rfl ?_; refine rw_v (op_rng rfl (by omega)) ?_)
                first | refine rw_off rfl ?_ | (refine rw_on rfl ?_; refine rw_v (op_idx Try.underlying22 Try.sizeOf2 rfl rfl sa_B (by omega) (by omega)) ?_)
                first | refine rw_off rfl ?_ | (refine rw_on rfl ?_; refine rw_r (op_ldR Try.underlying2 rfl rfl (hB.gr S.out) (by assumption)) ?_)
                first | refine rw_off rfl ?_ | (refine rw_on rfl ?_; refine rw_v (op_pure rfl) ?_)
                first | refine rw_off rfl ?_ | (refine rw_on rfl ?_; (first | refine rw_v (op_b (b := true) rfl (beq_iff_eq.2 (by omega))) ?_ | refine rw_v (op_b (b := false) rfl (beq_eq_false_iff_ne.2 (by omega))) ?_ | refine rw_v (op_pure rfl) ?_))
                first | refine rw_off rfl ?_ | (refine rw_on rfl ?_; refine rw_v (op_pure rfl) ?_)
                first | refine rw_off rfl ?_ | (refine rw_on rfl ?_; refine rw_v (op_pure rfl) ?_)
                first | refine rw_off rfl ?_ | (refine rw_on rfl ?_; refine rw_v (op_pure rfl) ?_)
                first | refine rw_off rfl ?_ | (refine rw_on rfl ?_; refine rw_v (op_pure rfl) ?_)
                first | refine rw_off rfl ?_ | (refine rw_on rfl ?_; refine rw_v (op_idx Try.underlying22 Try.sizeOf2 rfl rfl sa_B (by omega) (by omega)) ?_)
                first | refine rw_off rfl ?_ | (refine rw_on rfl ?_; refine rw_r (op_ldR Try.underlying2 rfl rfl (hB.gr S.out) hg) ?_)
                first | refine rw_off rfl ?_ | (refine rw_on rfl ?_; refine rw_v (op_pure rfl) ?_)
                first | refine rw_off rfl ?_ | (refine rw_on rfl ?_; refine rw_v (op_b (b := false) rfl (beq_eq_false_iff_ne.2 (by omega))) ?_)
                first | refine rw_off rfl ?_ | (refine rw_on rfl ?_; refine rw_v (op_pure rfl) ?_)
                first | refine rw_off rfl ?_ | (refine rw_on rfl ?_; refine rw_v (op_pure rfl) ?_)
                first | refine rw_off rfl ?_ | (refine rw_on rfl ?_; refine rw_v (op_pure rfl) ?_)
                first | refine rw_off rfl ?_ | (refine rw_on rfl ?_; refine rw_v (op_fieldAddr Try.underlying25 rfl Try.sizeOf2 rfl rfl) ?_)
                first | refine rw_off rfl ?_ | (refine rw_on rfl ?_; refine rw_r (op_loadB Try.underlying2 rfl rfl (S.blk (i := 0) rfl) rfl) ?_)
                first | refine rw_off rfl ?_ | (refine rw_on rfl ?_; refine rw_v (op_rng rfl (by omega)) ?_)
                first | refine rw_off rfl ?_ | (refine rw_on rfl ?_; refine rw_v (op_idx Try.underlying22 Try.sizeOf2 rfl rfl sa_B (by omega) (by omega)) ?_)
                first | refine rw_off rfl ?_ | (refine rw_on rfl ?_; refine rw_r (op_ldR Try.underlying2 rfl rfl (hB.gr S.out) (by assumption)) ?_)
                first | refine rw_off rfl ?_ | (refine rw_on rfl ?_; refine rw_v (op_pure rfl) ?_)
                first | refine rw_off rfl ?_ | (refine rw_on rfl ?_; (first | refine rw_v (op_b (b := true) rfl (beq_iff_eq.2 (by omega))) ?_ | refine rw_v (op_b (b := false) rfl (beq_eq_false_iff_ne.2 (by omega))) ?_ | refine rw_v (op_pure rfl) ?_))
                first | refine rw_off rfl ?_ | (refine rw_on rfl ?_; refine rw_v (op_pure rfl) ?_)
                first | refine rw_off rfl ?_ | (refine rw_on rfl ?_; refine rw_v (op_pure rfl) ?_)
                refine rw_v (op_pure rfl) ?_
                first | refine rw_end ?_ | (refine rw_nil ?_; show CW _ _ _ _ _ _) | refine rw_nil ?_
                exact ⟨⟨rfl, rfl, rfl, rfl, rfl, rfl, be (by first | (simp [hp0]; done) | (unfold sdB; simp_all; done)), trivial⟩, S⟩
          · skip
            repeat refine cw_seq ?_
            refine cw_region ?_
            refine rw_v (op_pure rfl) ?_
            refine rw_v (op_fieldAddr Try.underlying25 rfl Try.sizeOf2 rfl rfl) ?_
            refine rw_r (op_loadB Try.underlying2 rfl rfl (S.blk (i := 0) rfl) rfl) ?_
            refine rw_v (op_b (b := false) rfl (decide_eq_false (by omega))) ?_
            refine rw_v (op_pure rfl) ?_
            first | refine rw_off rfl ?_ | (refine rw_on rfl ?_; refine rw_v (op_pure rfl) ?_)
            first | refine rw_off rfl ?_ | (refine rw_on rfl ?_; refine rw_v (op_pure rfl) ?_)
            first | refine rw_off rfl ?_ | (refine rw_on rfl ?_; refine rw_v (op_idx Try.underlying22 Try.sizeOf2 rfl rfl sa_B (by omega) (by omega)) ?_)
            first | refine rw_off rfl ?_ | (refine rw_on rfl ?_; refine rw_r (op_ldR Try.underlying2 rfl rfl (hB.gr S.out) (by assumption)) ?_)
            first | refine rw_off rfl ?_ | (refine rw_on rfl ?_; refine rw_v (op_pure rfl) ?_)
            first | refine rw_off rfl ?_ | (refine rw_on rfl ?_; (first | refine rw_v (op_b (b := true) rfl (beq_iff_eq.2 (by omega))) ?_ | refine rw_v (op_b (b := false) rfl (beq_eq_false_iff_ne.2 (by omega))) ?_ | refine rw_v (op_pure rfl) ?_))
            first | refine rw_off rfl ?_ | (refine rw_on rfl ?_; refine rw_v (op_pure rfl) ?_)
            first | refine rw_off rfl ?_ | (refine rw_on rfl ?_; refine rw_v (op_pure rfl) ?_)
            first | refine rw_off rfl ?_ | (refine rw_on rfl ?_; refine rw_v (op_pure rfl) ?_)
            first | refine rw_off rfl ?_ | (refine rw_on rfl ?_; refine rw_v (op_fieldAddr Try.underlying25 rfl Try.sizeOf2 rfl rfl) ?_)
            first | refine rw_off rfl ?_ | (refine rw_on rfl ?_; refine rw_r (op_loadB Try.underlying2 rfl rfl (S.blk (i := 0) rfl) rfl) ?_)
            first | refine rw_off rfl ?_ | (refine rw_on rfl ?_; refine rw_v (op_rng rfl (by omega)) ?_)
            first | refine rw_off rfl ?_ | (refine rw_on rfl ?_; refine rw_v (op_idx Try.underlying22 Try.sizeOf2 rfl rfl sa_B (by omega) (by omega)) ?_)
            first | refine rw_off rfl ?_ | (refine rw_on rfl ?_; refine rw_r (op_ldR Try.underlying2 rfl rfl (hB.gr S.out) (by assumption)) ?_)
            first | refine rw_off rfl ?_ | (refine rw_on rfl ?_; refine rw_v (op_pure rfl) ?_)
            first | refine rw_off rfl ?_ | (refine rw_on rfl ?_; (first | refine rw_v (op_b (b := true) rfl (beq_iff_eq.2 (by omega))) ?_ | refine rw_v (op_b (b := false) rfl (beq_eq_false_iff_ne.2 (by omega))) ?_ | refine rw_v (op_pure rfl) ?_))
            first | refine rw_off rfl ?_ | (refine rw_on rfl ?_; refine rw_v (op_pure rfl) ?_)
            first | refine rw_off rfl ?_ | (refine rw_on rfl ?_; refine rw_v (op_pure rfl) ?_)
            first | refine rw_off rfl ?_ | (refine rw_on rfl ?_; refine rw_v (op_pure rfl) ?_)
            first | refine rw_off rfl ?_ | (refine rw_on rfl ?_; refine rw_v (op_pure rfl) ?_)
            first | refine rw_off rfl ?_ | (refine rw_on rfl ?_; refine rw_v (op_idx Try.underlying22 Try.sizeOf2 rfl rfl sa_B (by omega) (by omega)) ?_)
            first | refine rw_off rfl ?_ | (refine rw_on rfl ?_; refine rw_r (op_ldR Try.underlying2 rfl rfl (hB.gr S.out) (by assumption)) ?_)
            first | refine rw_off rfl ?_ | (refine rw_on rfl ?_; refine rw_v (op_pure rfl) ?_)
            first | refine rw_off rfl ?_ | (refine rw_on rfl ?_; (first | refine rw_v (op_b (b := true) rfl (beq_iff_eq.2 (by omega))) ?_ | refine rw_v (op_b (b := false) rfl (beq_eq_false_iff_ne.2 (by omega))) ?_ | refine rw_v (op_pure rfl) ?_))
            first | refine rw_off rfl ?_ | (refine rw_on rfl ?_; refine rw_v (op_pure rfl) ?_)
            first | refine rw_off rfl ?_ | (refine rw_on rfl ?_; refine rw_v (op_pure rfl) ?_)
            first | refine rw_off rfl ?_ | (refine rw_on rfl ?_; refine rw_v (op_pure rfl) ?_)
            first | refine rw_off rfl ?_ | (refine rw_on rfl ?_; refine rw_v (op_fieldAddr Try.underlying25 rfl Try.sizeOf2 rfl rfl) ?_)
            first | refine rw_off rfl ?_ | (refine rw_on rfl ?_; refine rw_r (op_loadB Try.underlying2 rfl rfl (S.blk (i := 0) rfl) rfl) ?_)
            first | refine rw_off rfl ?_ | (refine rw_on rfl ?_; refine rw_v (op_rng rfl (by omega)) ?_)
            first | refine rw_off rfl ?_ | (refine rw_on rfl ?_; refine rw_v (op_idx Try.underlying22 Try.sizeOf2 rfl rfl sa_B (by omega) (by omega)) ?_)
            first | refine rw_off rfl ?_ | (refine rw_on rfl ?_; refine rw_r (op_ldR Try.underlying2 rfl rfl (hB.gr S.out) (by assumption)) ?_)
            first | refine rw_off rfl ?_ | (refine rw_on rfl ?_; refine rw_v (op_pure rfl) ?_)
            first | refine rw_off rfl ?_ | (refine rw_on rfl ?_; (first | refine rw_v (op_b (b := true) rfl (beq_iff_eq.2 (by omega))) ?_ | refine rw_v (op_b (b := false) rfl (beq_eq_false_iff_ne.2 (by omega))) ?_ | refine rw_v (op_pure rfl) ?_))
            first | refine rw_off rfl ?_ | (refine rw_on rfl ?_; refine rw_v (op_pure rfl) ?_)
            first | refine rw_off rfl ?_ | (refine rw_on rfl ?_; refine rw_v (op_pure rfl) ?_)
            refine rw_v (op_pure rfl) ?_
            first | refine rw_end ?_ | (refine rw_nil ?_; show CW _ _ _ _ _ _) | refine rw_nil ?_
            exact ⟨⟨rfl, rfl, rfl, rfl, rfl, rfl, be (by first | (simp [hp0]; done) | (unfold sdB; simp_all; done)), trivial⟩, S⟩
        · clear S
          rintro e w ⟨hsl, S⟩
          rw [hsl.fold]
          by_cases hb : gw ≤ k ∧ sdB (L.getD k 0) (L.getD (k - gw) 0) a b = true
          · rw [decide_eq_true hb]
            rw [if_pos hb] at hsucc
            repeat refine cw_seq ?_
            refine cw_true rfl ?_
            repeat refine cw_seq ?_
            refine cw_region ?_
            refine rw_v (op_pure rfl) ?_
            refine rw_v (op_rng rfl (by omega)) ?_
            refine rw_v (op_pure rfl) ?_
            first | refine rw_end ?_ | (refine rw_nil ?_; show CW _ _ _ _ _ _) | refine rw_nil ?_
            repeat refine cw_seq ?_
            refine cw_region ?_
            refine rw_v (op_pure rfl) ?_
            refine rw_v (op_rng rfl (by omega)) ?_
            refine rw_v (op_pure rfl) ?_
            first | refine rw_end ?_ | (refine rw_nil ?_; show CW _ _ _ _ _ _) | refine rw_nil ?_
            exact ⟨q - 1, by omega, k + 1, by omega, ⟨rfl, rfl, rfl, rfl, ie (by rw [hsucc]; push_cast; omega), ie (by omega), trivial⟩, S⟩
          · rw [decide_eq_false hb]
            rw [if_neg hb] at hsucc
            repeat refine cw_seq ?_
            refine cw_false rfl ?_
            repeat refine cw_seq ?_
            refine cw_skip ?_
            try show CW _ _ _ _ _ _
            repeat refine cw_seq ?_
            refine cw_region ?_
            refine rw_v (op_pure rfl) ?_
            refine rw_v (op_rng rfl (by omega)) ?_
            refine rw_v (op_pure rfl) ?_
            first | refine rw_end ?_ | (refine rw_nil ?_; show CW _ _ _ _ _ _) | refine rw_nil ?_
            exact ⟨q - 1, by omega, k + 1, by omega, ⟨rfl, rfl, rfl, rfl, ie (by rw [hsucc]; push_cast; omega), ie (by omega), trivial⟩, S⟩
  · try simp only [decide_eq_true_eq, decide_eq_false_iff_not, beq_iff_eq, bne_iff_ne, beq_eq_false_iff_ne, bne_eq_false_iff_eq, Bool.not_eq_true', Bool.not_eq_false', ne_eq, Decidable.not_not, Int.natCast_inj, Int.ofNat_lt, Int.ofNat_le, gt_iff_lt, ge_iff_le, Int.not_lt, Int.not_le] at hc
    obtain rfl : k = gw * gh := by omega
    repeat refine cw_seq ?_
    refine cw_exit ?_
    repeat first | refine exit_then ?_ | refine exit_inb ?_
    show CW _ _ _ _ _ _
    repeat refine cw_seq ?_
    refine cw_region ?_
    iterate 2 refine rw_v (op_pure rfl) ?_
    first | refine rw_end ?_ | (refine rw_nil ?_; show CW _ _ _ _ _ _) | refine rw_nil ?_
    repeat refine cw_seq ?_
    refine cw_ret ?_
    repeat first | refine ret_then ?_ | refine ret_inb ?_
    exact res1 rfl ⟨rfl, S.out⟩
end
end Go.Proofs.Yteihfmifelcidaa
