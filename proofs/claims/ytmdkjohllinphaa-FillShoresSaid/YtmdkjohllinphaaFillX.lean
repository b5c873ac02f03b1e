/- hachurelaw45.FillShores: the walk. -/
import Derived.Test.YtmdkjohllinphaaFillV
namespace Go.Proofs.Ytmdkjohllinphaa
open Go.RowKit
set_option linter.unusedVariables false
set_option linter.unusedSimpArgs false
set_option maxRecDepth 100000

section
variable {W : World} {A : Option Addr} {V : List Int}
set_option maxHeartbeats 16000000 in
theorem fillShores_E (w h : Int) (cap : Nat) (hl : V.length ≤ 9223372036854775807) (hA : Rd W A (ints V)) :
    Fn Try.prog 10 [.int .i64 w, .int .i64 h, .slice A V.length cap] W (RetG (.bool true) W) := by
  by_cases hok : LandOk w h V 1000
  · obtain ⟨gw, rfl⟩ := Int.eq_ofNat_of_zero_le (show 0 ≤ w by have := hok.w1; omega)
    obtain ⟨gh, rfl⟩ := Int.eq_ofNat_of_zero_le (show 0 ≤ h by have := hok.h1; omega)
    have hw : 1 ≤ gw ∧ gw ≤ 1024 := by have := hok.w1; have := hok.wm; omega
    have hh : 1 ≤ gh ∧ gh ≤ 1024 := by have := hok.h1; have := hok.hm; omega
    have hmi : (gw : Int) * gh = ((gw * gh : Nat) : Int) := by push_cast; rfl
    have hVg : V.length = gw * gh := by have := hok.len; rw [hmi] at this; omega
    have hm : gw * gh ≤ 1000 := by have := hok.area; rw [hmi] at this; omega
    have hmay := hok.may
    have hB := vB_of_may hmay
    have hGl := gridL_made hVg
    have hBg : vB (gridL gw gh (fun i => V.getD i 0)) := by rw [hGl]; exact hB
    have hpos : 1 ≤ gw * gh := Nat.mul_le_mul hw.1 hh.1
    have sa_A : SomeA A := hA.someA (by rw [ints_len]; omega)
    have e1 : ((gw : Int) - 1) = ((gw - 1 : Nat) : Int) := by omega
    have e2 : ((gh : Int) - 1) = ((gh - 1 : Nat) : Int) := by omega
    have S := St.start W
    refine Fn_enter Try.func10 rfl Try.results10 Try.ntmps10 (by kernel_rfl) (by kernel_rfl) ?_
    repeat refine cw_seq ?_
    refine cw_region ?_
    refine rw_v (op_pure rfl) ?_
    first | refine rw_end ?_ | (refine rw_nil ?_; show CW _ _ _ _ _ _) | refine rw_nil ?_
    repeat refine cw_seq ?_
    refine cw_region ?_
    refine rw_call rfl (awake45_E W) ?_
    rintro _ w1_ ⟨rfl, g1_⟩
    have S := S.gr g1_
    refine rw_v (op_pure rfl) ?_
    first | refine rw_end ?_ | (refine rw_nil ?_; show CW _ _ _ _ _ _) | refine rw_nil ?_
    repeat refine cw_seq ?_
    refine cw_false rfl ?_
    repeat refine cw_seq ?_
    refine cw_skip ?_
    try show CW _ _ _ _ _ _
    repeat refine cw_seq ?_
    refine cw_region ?_
    refine rw_v (op_pure rfl) ?_
    refine rw_v (op_pure rfl) ?_
    refine rw_v (op_pure rfl) ?_
    refine rw_call rfl (land_E gw gh 1000 cap (by omega) hok (hA.gr S.out)) ?_
    rintro _ w2_ ⟨rfl, g2_⟩
    have S := S.gr g2_
    refine rw_v (op_pure rfl) ?_
    refine rw_v (op_pure rfl) ?_
    refine rw_v (op_pure rfl) ?_
    refine rw_newB (op_alloc Try.zeroValue25 rfl) S ?_
    intro b_md w4_ g4_ S
    refine rw_storeSA (i := 0) S rfl (Try.sizeOf25 _) rfl rfl rfl rfl rfl rfl ?_
    intro w5_ S
    refine rw_v (op_pure rfl) ?_
    first | refine rw_end ?_ | (refine rw_nil ?_; show CW _ _ _ _ _ _) | refine rw_nil ?_
    repeat refine cw_seq ?_
    refine cw_region ?_
    refine rw_v (op_pure rfl) ?_
    refine rw_v (op_pure rfl) ?_
    first | refine rw_end ?_ | (refine rw_nil ?_; show CW _ _ _ _ _ _) | refine rw_nil ?_
    repeat refine cw_seq ?_
    refine cw_false rfl ?_
    repeat refine cw_seq ?_
    refine cw_skip ?_
    try show CW _ _ _ _ _ _
    repeat refine cw_seq ?_
    refine cw_region ?_
    refine rw_v (op_pure rfl) ?_
    refine rw_v (op_pure rfl) ?_
    refine rw_v (op_pure rfl) ?_
    refine rw_call rfl (made_E gw gh cap hw hh hVg hmay (hA.gr S.out)) ?_
    rintro _ w6_ ⟨p, B, bc, bs, Rs, rfl, hG, hf, g6_⟩
    have S := S.pushGrid hG hf g6_
    refine rw_v (op_pure rfl) ?_
    refine rw_v (op_pure rfl) ?_
    refine rw_v (op_pure rfl) ?_
    refine rw_v (op_pure rfl) ?_
    refine rw_v (op_pure rfl) ?_
    first | refine rw_end ?_ | (refine rw_nil ?_; show CW _ _ _ _ _ _) | refine rw_nil ?_
    repeat refine cw_seq ?_
    refine cw_region ?_
    refine rw_v (op_pure rfl) ?_
    refine rw_call rfl (levels_E hBg (S.grid (i := 0) rfl)) ?_
    rintro _ w7_ ⟨lv, rk, hlev, p2, B2, bc2, bs2, Rs2, rfl, hG2, hf2, g7_⟩
    have S := S.pushGrid hG2 hf2 g7_
    rw [hGl] at hlev
    refine rw_v (op_pure rfl) ?_
    refine rw_v (op_pure rfl) ?_
    refine rw_v (op_pure rfl) ?_
    refine rw_v (op_pure rfl) ?_
    refine rw_v (op_pure rfl) ?_
    first | refine rw_end ?_ | (refine rw_nil ?_; show CW _ _ _ _ _ _) | refine rw_nil ?_
    have hGl2 : gridL gw gh (fun i => ((List.range (gw * gh)).map lv).getD i 0) = (List.range (gw * gh)).map lv := gridL_made (by simp)
    have hval : ∀ w, GridAt w p2 gw gh (fun i => ((List.range (gw * gh)).map lv).getD i 0) B2 bc2 bs2 Rs2 → Fn Try.prog 43 [.pointer (some ⟨p2, 0, none⟩), .agg #[.int .i64 0, .int .i64 0, .int .i64 (gw - 1), .int .i64 (gh - 1)]] w (RetNew (fun v => .tuple #[v, .int .i64 0]) 2 1 (gw * gh) (cellsQ (gw * gh) lv) w) := fun w g => by
      have := gvalues_E (W := w) 0 0 (gw - 1) (gh - 1) (by omega) (by omega) g
      rw [← e1, ← e2, show gw - 1 + 1 - 0 = gw by omega, show gh - 1 + 1 - 0 = gh by omega, rectV_all, show (List.range (gw * gh)).map (fun i => ((List.range (gw * gh)).map lv).getD i 0) = (List.range (gw * gh)).map lv from hGl2, Nat.mul_comm gh gw, ← cellsQ_ints] at this
      exact this
    repeat refine cw_seq ?_
    refine cw_region ?_
    refine rw_v (op_pure rfl) ?_
    refine rw_v (op_pure rfl) ?_
    refine rw_call rfl (gall_E p2 gw gh hw.2 hh.2 _ w7_ (S.grid (i := 0) rfl).top) ?_
    rintro _ w8_ ⟨rfl, g8_⟩
    have S := S.gr g8_
    refine rw_call rfl (hval w8_ (S.grid (i := 0) rfl)) ?_
    rintro _ w9_ ⟨A_u, c_u, rfl, hR_u, hf_u, g9_⟩
    have S := S.pushRow hR_u hf_u g9_
    refine rw_v (op_pure rfl) ?_
    refine rw_v (op_pure rfl) ?_
    refine rw_v (op_pure rfl) ?_
    refine rw_v (op_pure rfl) ?_
    refine rw_v (op_pure rfl) ?_
    first | refine rw_end ?_ | (refine rw_nil ?_; show CW _ _ _ _ _ _) | refine rw_nil ?_
    repeat refine cw_seq ?_
    refine cw_region ?_
    refine rw_v (op_pure rfl) ?_
    refine rw_v (op_pure rfl) ?_
    refine rw_v (op_pure rfl) ?_
    first | refine rw_off rfl ?_ | (refine rw_on rfl ?_; refine rw_v (op_pure rfl) ?_)
    first | refine rw_off rfl ?_ | (refine rw_on rfl ?_; (first | refine rw_v (op_b (b := true) rfl (bne_iff_ne.2 (by omega))) ?_ | refine rw_v (op_b (b := false) rfl (bne_eq_false_iff_eq.2 (by omega))) ?_ | refine rw_v (op_pure rfl) ?_))
    refine rw_v (op_pure rfl) ?_
    refine rw_v (op_pure rfl) ?_
    first | refine rw_off rfl ?_ | (refine rw_on rfl ?_; refine rw_v (op_pure rfl) ?_)
    first | refine rw_off rfl ?_ | (refine rw_on rfl ?_; (first | refine rw_v (op_b (b := true) rfl (bne_iff_ne.2 (by omega))) ?_ | refine rw_v (op_b (b := false) rfl (bne_eq_false_iff_eq.2 (by omega))) ?_ | refine rw_v (op_pure rfl) ?_))
    refine rw_v (op_pure rfl) ?_
    refine rw_v (op_pure rfl) ?_
    first | refine rw_off rfl ?_ | (refine rw_on rfl ?_; refine rw_v (op_pure rfl) ?_)
    first | refine rw_off rfl ?_ | (refine rw_on rfl ?_; refine rw_v (op_len Try.underlying22 rfl) ?_)
    first | refine rw_off rfl ?_ | (refine rw_on rfl ?_; refine rw_v (op_pure rfl) ?_)
    first | refine rw_off rfl ?_ | (refine rw_on rfl ?_; refine rw_v (op_len Try.underlying22 rfl) ?_)
    first | refine rw_off rfl ?_ | (refine rw_on rfl ?_; (first | refine rw_v (op_b (b := true) rfl (bne_iff_ne.2 (by omega))) ?_ | refine rw_v (op_b (b := false) rfl (bne_eq_false_iff_eq.2 (by omega))) ?_ | refine rw_v (op_pure rfl) ?_))
    refine rw_v (op_pure rfl) ?_
    first | refine rw_end ?_ | (refine rw_nil ?_; show CW _ _ _ _ _ _) | refine rw_nil ?_
    repeat refine cw_seq ?_
    refine cw_false rfl ?_
    repeat refine cw_seq ?_
    refine cw_skip ?_
    try show CW _ _ _ _ _ _
    repeat refine cw_seq ?_
    refine cw_region ?_
    refine rw_v (op_pure rfl) ?_
    first | refine rw_end ?_ | (refine rw_nil ?_; show CW _ _ _ _ _ _) | refine rw_nil ?_
    repeat refine cw_seq ?_
    refine cw_block ?_
    repeat refine cw_seq ?_
    have hmd := S.blk (i := 3) rfl
    refine cw_loop (fun m e w => ∃ i : Nat, i + m = gw * gh ∧ SL e [(0, .int .i64 gw), (1, .int .i64 gh), (2, .slice A V.length cap), (7, .pointer (some ⟨b_md, 0, none⟩)), (12, .slice A_u (gw * gh) c_u), (14, .int .i64 i)] ∧ St No W w [.row 2 1 A_u (gw * gh) c_u (cellsQ (gw * gh) lv), .blk b_md 25 [.int .i64 gw, .int .i64 gh, .slice A V.length cap]]) (gw * gh)
      ⟨0, by omega, ⟨rfl, rfl, rfl, rfl, rfl, rfl, trivial⟩, S.sub (.cons_cons _ (.cons _ (.cons _ (.cons_cons _ .slnil))))⟩ ?_
    clear S hmd
    rintro m e w ⟨i, hi, hsl, S⟩
    rw [hsl.fold]
    repeat refine cw_seq ?_
    refine cw_region ?_
    refine rw_v (op_pure rfl) ?_
    refine rw_v (op_pure rfl) ?_
    refine rw_v (op_pure rfl) ?_
    refine rw_v (op_rng rfl (by omega)) ?_
    rw [hmi]
    refine rw_v (op_pure rfl) ?_
    first | refine rw_end ?_ | (refine rw_nil ?_; show CW _ _ _ _ _ _) | refine rw_nil ?_
    repeat refine cw_seq ?_
    refine cw_cond rfl (fun hc => ?_) (fun hc => ?_)
    · try simp only [decide_eq_true_eq, decide_eq_false_iff_not, beq_iff_eq, bne_iff_ne, beq_eq_false_iff_ne, bne_eq_false_iff_eq, Bool.not_eq_true', Bool.not_eq_false', ne_eq, Decidable.not_not, Int.natCast_inj, Int.ofNat_lt, Int.ofNat_le, gt_iff_lt, ge_iff_le, Int.not_lt, Int.not_le] at hc
      have hin : i < gw * gh := by omega
      have em : (i : Int) % gw = ((i % gw : Nat) : Int) := by push_cast; rfl
      have ed : (i : Int) / gw = ((i / gw : Nat) : Int) := by push_cast; rfl
      have hbi := bord_iff (gw := gw) (gh := gh) (k := i) (by omega) hin
      have hyl : i / gw < gh := Nat.div_lt_of_lt_mul hin
      have hml : i % gw < gw := Nat.mod_lt i (by omega)
      have hbt : bordB gw (gw * gh) i = true ↔ i % gw = 0 ∨ i / gw = 0 ∨ i % gw + 1 = gw ∨ i / gw + 1 = gh := hbi
      have hbn : bordB gw (gw * gh) i = false ↔ ¬ i % gw = 0 ∧ ¬ i / gw = 0 ∧ ¬ i % gw + 1 = gw ∧ ¬ i / gw + 1 = gh := by
        rw [← Bool.not_eq_true, hbi]
        constructor
        · intro h; exact ⟨fun e => h (.inl e), fun e => h (.inr (.inl e)), fun e => h (.inr (.inr (.inl e))), fun e => h (.inr (.inr (.inr e)))⟩
        · rintro ⟨h1, h2, h3, h4⟩ (h | h | h | h)
          · exact h1 h
          · exact h2 h
          · exact h3 h
          · exact h4 h
      have sa_u : SomeA A_u := (S.row (i := 0) rfl).someA (by omega)
      have hui := cellsQ_get (o := lv) hin
      have hvi : (ints V)[(i : Int).toNat * 1]? = some (.int .i64 (V.getD i 0)) := by rw [Nat.mul_one, Int.toNat_natCast]; exact ints_get (getD_at (by omega))
      have hge := hlev.ge i hin
      have hmem := fun j => nearN_mem (gw := gw) (gh := gh) (i := i) (j := j) (by omega) hin
      rw [← hVg] at hmem
      repeat refine cw_seq ?_
      refine cw_skip ?_
      try show CW _ _ _ _ _ _
      repeat refine cw_seq ?_
      refine cw_block ?_
      repeat refine cw_seq ?_
      refine cw_draw (C := fun wq => Gr w wq) [0, 1, 2, 3, 4, 5, 6, 7] [] (by kernel_rfl) (by kernel_rfl) (Gr.drew _) ?_
      simp only [pickL, List.drop_succ_cons, List.drop_zero]
      refine rq_v (op_pure rfl) ?_
      refine rq_v (op_pure rfl) ?_
      refine rq_v (op_rem rfl rfl (by omega) (by omega)) ?_
      rw [em]
      refine rq_v (op_pure rfl) ?_
      refine rq_v (op_pure rfl) ?_
      refine rq_v (op_div rfl rfl (by omega) (by omega)) ?_
      rw [ed]
      refine rq_v (op_pure rfl) ?_
      refine rq_v (op_pure rfl) ?_
      refine rq_nil ?_
      intro w10_ g10_
      have S := S.gr g10_
      first | refine rw_end ?_ | (refine rw_nil ?_; show CW _ _ _ _ _ _) | refine rw_nil ?_
      repeat refine cw_seq ?_
      refine cw_cutT (M := fun e w => SL e [(0, .int .i64 gw), (1, .int .i64 gh), (2, .slice A V.length cap), (7, .pointer (some ⟨b_md, 0, none⟩)), (12, .slice A_u (gw * gh) c_u), (14, .int .i64 i), (15, .int .i64 (i % gw : Nat)), (16, .int .i64 (i / gw : Nat)), (17, .bool (bordB gw (gw * gh) i))] ∧ St No W w [.row 2 1 A_u (gw * gh) c_u (cellsQ (gw * gh) lv), .blk b_md 25 [.int .i64 gw, .int .i64 gh, .slice A V.length cap]]) ?_ ?_
      · generalize hmg : i % gw = m at *
        generalize hyg : i / gw = y at *
        by_cases c0 : m = 0
        · skip
          repeat refine cw_seq ?_
          refine cw_region ?_
          refine rw_v (op_pure rfl) ?_
          first | refine rw_v (op_b (b := true) rfl (beq_iff_eq.2 (by omega))) ?_ | refine rw_v (op_b (b := false) rfl (beq_eq_false_iff_ne.2 (by omega))) ?_ | refine rw_v (op_pure rfl) ?_
          refine rw_v (op_pure rfl) ?_
          first | refine rw_off rfl ?_ | (refine rw_on rfl ?_; refine rw_v (op_pure rfl) ?_)
          first | refine rw_off rfl ?_ | (refine rw_on rfl ?_; (first | refine rw_v (op_b (b := true) rfl (beq_iff_eq.2 (by omega))) ?_ | refine rw_v (op_b (b := false) rfl (beq_eq_false_iff_ne.2 (by omega))) ?_ | refine rw_v (op_pure rfl) ?_))
          refine rw_v (op_pure rfl) ?_
          refine rw_v (op_pure rfl) ?_
          first | refine rw_off rfl ?_ | (refine rw_on rfl ?_; refine rw_v (op_pure rfl) ?_)
          first | refine rw_off rfl ?_ | (refine rw_on rfl ?_; refine rw_v (op_pure rfl) ?_)
          first | refine rw_off rfl ?_ | (refine rw_on rfl ?_; refine rw_v (op_rng rfl (by omega)) ?_)
          first | refine rw_off rfl ?_ | (refine rw_on rfl ?_; (first | refine rw_v (op_b (b := true) rfl (beq_iff_eq.2 (by omega))) ?_ | refine rw_v (op_b (b := false) rfl (beq_eq_false_iff_ne.2 (by omega))) ?_ | refine rw_v (op_pure rfl) ?_))
          refine rw_v (op_pure rfl) ?_
          refine rw_v (op_pure rfl) ?_
          first | refine rw_off rfl ?_ | (refine rw_on rfl ?_; refine rw_v (op_pure rfl) ?_)
          first | refine rw_off rfl ?_ | (refine rw_on rfl ?_; refine rw_v (op_pure rfl) ?_)
          first | refine rw_off rfl ?_ | (refine rw_on rfl ?_; refine rw_v (op_rng rfl (by omega)) ?_)
          first | refine rw_off rfl ?_ | (refine rw_on rfl ?_; (first | refine rw_v (op_b (b := true) rfl (beq_iff_eq.2 (by omega))) ?_ | refine rw_v (op_b (b := false) rfl (beq_eq_false_iff_ne.2 (by omega))) ?_ | refine rw_v (op_pure rfl) ?_))
          refine rw_v (op_pure rfl) ?_
          refine rw_v (op_pure rfl) ?_
          first | refine rw_end ?_ | (refine rw_nil ?_; show CW _ _ _ _ _ _) | refine rw_nil ?_
          exact ⟨⟨rfl, rfl, rfl, rfl, rfl, rfl, rfl, rfl, be (by symm; rw [hbt]; exact .inl c0), trivial⟩, S⟩
        · by_cases c1 : y = 0
          · skip
            repeat refine cw_seq ?_
            refine cw_region ?_
            refine rw_v (op_pure rfl) ?_
            first | refine rw_v (op_b (b := true) rfl (beq_iff_eq.2 (by omega))) ?_ | refine rw_v (op_b (b := false) rfl (beq_eq_false_iff_ne.2 (by omega))) ?_ | refine rw_v (op_pure rfl) ?_
            refine rw_v (op_pure rfl) ?_
            first | refine rw_off rfl ?_ | (refine rw_on rfl ?_; refine rw_v (op_pure rfl) ?_)
            first | refine rw_off rfl ?_ | (refine rw_on rfl ?_; (first | refine rw_v (op_b (b := true) rfl (beq_iff_eq.2 (by omega))) ?_ | refine rw_v (op_b (b := false) rfl (beq_eq_false_iff_ne.2 (by omega))) ?_ | refine rw_v (op_pure rfl) ?_))
            refine rw_v (op_pure rfl) ?_
            refine rw_v (op_pure rfl) ?_
            first | refine rw_off rfl ?_ | (refine rw_on rfl ?_; refine rw_v (op_pure rfl) ?_)
            first | refine rw_off rfl ?_ | (refine rw_on rfl ?_; refine rw_v (op_pure rfl) ?_)
            first | refine rw_off rfl ?_ | (refine rw_on rfl ?_; refine rw_v (op_rng rfl (by omega)) ?_)
            first | refine rw_off rfl ?_ | (refine rw_on rfl ?_; (first | refine rw_v (op_b (b := true) rfl (beq_iff_eq.2 (by omega))) ?_ | refine rw_v (op_b (b := false) rfl (beq_eq_false_iff_ne.2 (by omega))) ?_ | refine rw_v (op_pure rfl) ?_))
            refine rw_v (op_pure rfl) ?_
            refine rw_v (op_pure rfl) ?_
            first | refine rw_off rfl ?_ | (refine rw_on rfl ?_; refine rw_v (op_pure rfl) ?_)
            first | refine rw_off rfl ?_ | (refine rw_on rfl ?_; refine rw_v (op_pure rfl) ?_)
            first | refine rw_off rfl ?_ | (refine rw_on rfl ?_; refine rw_v (op_rng rfl (by omega)) ?_)
            first | refine rw_off rfl ?_ | (refine rw_on rfl ?_; (first | refine rw_v (op_b (b := true) rfl (beq_iff_eq.2 (by omega))) ?_ | refine rw_v (op_b (b := false) rfl (beq_eq_false_iff_ne.2 (by omega))) ?_ | refine rw_v (op_pure rfl) ?_))
            refine rw_v (op_pure rfl) ?_
            refine rw_v (op_pure rfl) ?_
            first | refine rw_end ?_ | (refine rw_nil ?_; show CW _ _ _ _ _ _) | refine rw_nil ?_
            exact ⟨⟨rfl, rfl, rfl, rfl, rfl, rfl, rfl, rfl, be (by symm; rw [hbt]; exact .inr (.inl c1)), trivial⟩, S⟩
          · by_cases c2 : m + 1 = gw
            · skip
              repeat refine cw_seq ?_
              refine cw_region ?_
              refine rw_v (op_pure rfl) ?_
              first | refine rw_v (op_b (b := true) rfl (beq_iff_eq.2 (by omega))) ?_ | refine rw_v (op_b (b := false) rfl (beq_eq_false_iff_ne.2 (by omega))) ?_ | refine rw_v (op_pure rfl) ?_
              refine rw_v (op_pure rfl) ?_
              first | refine rw_off rfl ?_ | (refine rw_on rfl ?_; refine rw_v (op_pure rfl) ?_)
              first | refine rw_off rfl ?_ | (refine rw_on rfl ?_; (first | refine rw_v (op_b (b := true) rfl (beq_iff_eq.2 (by omega))) ?_ | refine rw_v (op_b (b := false) rfl (beq_eq_false_iff_ne.2 (by omega))) ?_ | refine rw_v (op_pure rfl) ?_))
              refine rw_v (op_pure rfl) ?_
              refine rw_v (op_pure rfl) ?_
              first | refine rw_off rfl ?_ | (refine rw_on rfl ?_; refine rw_v (op_pure rfl) ?_)
              first | refine rw_off rfl ?_ | (refine rw_on rfl ?_; refine rw_v (op_pure rfl) ?_)
              first | refine rw_off rfl ?_ | (refine rw_on rfl ?_; refine rw_v (op_rng rfl (by omega)) ?_)
              first | refine rw_off rfl ?_ | (refine rw_on rfl ?_; (first | refine rw_v (op_b (b := true) rfl (beq_iff_eq.2 (by omega))) ?_ | refine rw_v (op_b (b := false) rfl (beq_eq_false_iff_ne.2 (by omega))) ?_ | refine rw_v (op_pure rfl) ?_))
              refine rw_v (op_pure rfl) ?_
              refine rw_v (op_pure rfl) ?_
              first | refine rw_off rfl ?_ | (refine rw_on rfl ?_; refine rw_v (op_pure rfl) ?_)
              first | refine rw_off rfl ?_ | (refine rw_on rfl ?_; refine rw_v (op_pure rfl) ?_)
              first | refine rw_off rfl ?_ | (refine rw_on rfl ?_; refine rw_v (op_rng rfl (by omega)) ?_)
              first | refine rw_off rfl ?_ | (refine rw_on rfl ?_; (first | refine rw_v (op_b (b := true) rfl (beq_iff_eq.2 (by omega))) ?_ | refine rw_v (op_b (b := false) rfl (beq_eq_false_iff_ne.2 (by omega))) ?_ | refine rw_v (op_pure rfl) ?_))
              refine rw_v (op_pure rfl) ?_
              refine rw_v (op_pure rfl) ?_
              first | refine rw_end ?_ | (refine rw_nil ?_; show CW _ _ _ _ _ _) | refine rw_nil ?_
              exact ⟨⟨rfl, rfl, rfl, rfl, rfl, rfl, rfl, rfl, be (by symm; rw [hbt]; exact .inr (.inr (.inl c2))), trivial⟩, S⟩
            · by_cases c3 : y + 1 = gh
              · skip
                repeat refine cw_seq ?_
                refine cw_region ?_
                refine rw_v (op_pure rfl) ?_
                first | refine rw_v (op_b (b := true) rfl (beq_iff_eq.2 (by omega))) ?_ | refine rw_v (op_b (b := false) rfl (beq_eq_false_iff_ne.2 (by omega))) ?_ | refine rw_v (op_pure rfl) ?_
                refine rw_v (op_pure rfl) ?_
                first | refine rw_off rfl ?_ | (refine rw_on rfl ?_; refine rw_v (op_pure rfl) ?_)
                first | refine rw_off rfl ?_ | (refine rw_on rfl ?_; (first | refine rw_v (op_b (b := true) rfl (beq_iff_eq.2 (by omega))) ?_ | refine rw_v (op_b (b := false) rfl (beq_eq_false_iff_ne.2 (by omega))) ?_ | refine rw_v (op_pure rfl) ?_))
                refine rw_v (op_pure rfl) ?_
                refine rw_v (op_pure rfl) ?_
                first | refine rw_off rfl ?_ | (refine rw_on rfl ?_; refine rw_v (op_pure rfl) ?_)
                first | refine rw_off rfl ?_ | (refine rw_on rfl ?_; refine rw_v (op_pure rfl) ?_)
                first | refine rw_off rfl ?_ | (refine rw_on rfl ?_; refine rw_v (op_rng rfl (by omega)) ?_)
                first | refine rw_off rfl ?_ | (refine rw_on rfl ?_; (first | refine rw_v (op_b (b := true) rfl (beq_iff_eq.2 (by omega))) ?_ | refine rw_v (op_b (b := false) rfl (beq_eq_false_iff_ne.2 (by omega))) ?_ | refine rw_v (op_pure rfl) ?_))
                refine rw_v (op_pure rfl) ?_
                refine rw_v (op_pure rfl) ?_
                first | refine rw_off rfl ?_ | (refine rw_on rfl ?_; refine rw_v (op_pure rfl) ?_)
                first | refine rw_off rfl ?_ | (refine rw_on rfl ?_; refine rw_v (op_pure rfl) ?_)
                first | refine rw_off rfl ?_ | (refine rw_on rfl ?_; refine rw_v (op_rng rfl (by omega)) ?_)
                first | refine rw_off rfl ?_ | (refine rw_on rfl ?_; (first | refine rw_v (op_b (b := true) rfl (beq_iff_eq.2 (by omega))) ?_ | refine rw_v (op_b (b := false) rfl (beq_eq_false_iff_ne.2 (by omega))) ?_ | refine rw_v (op_pure rfl) ?_))
                refine rw_v (op_pure rfl) ?_
                refine rw_v (op_pure rfl) ?_
                first | refine rw_end ?_ | (refine rw_nil ?_; show CW _ _ _ _ _ _) | refine rw_nil ?_
                exact ⟨⟨rfl, rfl, rfl, rfl, rfl, rfl, rfl, rfl, be (by symm; rw [hbt]; exact .inr (.inr (.inr c3))), trivial⟩, S⟩
              · skip
                repeat refine cw_seq ?_
                refine cw_region ?_
                refine rw_v (op_pure rfl) ?_
                first | refine rw_v (op_b (b := true) rfl (beq_iff_eq.2 (by omega))) ?_ | refine rw_v (op_b (b := false) rfl (beq_eq_false_iff_ne.2 (by omega))) ?_ | refine rw_v (op_pure rfl) ?_
                refine rw_v (op_pure rfl) ?_
                first | refine rw_off rfl ?_ | (refine rw_on rfl ?_; refine rw_v (op_pure rfl) ?_)
                first | refine rw_off rfl ?_ | (refine rw_on rfl ?_; (first | refine rw_v (op_b (b := true) rfl (beq_iff_eq.2 (by omega))) ?_ | refine rw_v (op_b (b := false) rfl (beq_eq_false_iff_ne.2 (by omega))) ?_ | refine rw_v (op_pure rfl) ?_))
                refine rw_v (op_pure rfl) ?_
                refine rw_v (op_pure rfl) ?_
                first | refine rw_off rfl ?_ | (refine rw_on rfl ?_; refine rw_v (op_pure rfl) ?_)
                first | refine rw_off rfl ?_ | (refine rw_on rfl ?_; refine rw_v (op_pure rfl) ?_)
                first | refine rw_off rfl ?_ | (refine rw_on rfl ?_; refine rw_v (op_rng rfl (by omega)) ?_)
                first | refine rw_off rfl ?_ | (refine rw_on rfl ?_; (first | refine rw_v (op_b (b := true) rfl (beq_iff_eq.2 (by omega))) ?_ | refine rw_v (op_b (b := false) rfl (beq_eq_false_iff_ne.2 (by omega))) ?_ | refine rw_v (op_pure rfl) ?_))
                refine rw_v (op_pure rfl) ?_
                refine rw_v (op_pure rfl) ?_
                first | refine rw_off rfl ?_ | (refine rw_on rfl ?_; refine rw_v (op_pure rfl) ?_)
                first | refine rw_off rfl ?_ | (refine rw_on rfl ?_; refine rw_v (op_pure rfl) ?_)
                first | refine rw_off rfl ?_ | (refine rw_on rfl ?_; refine rw_v (op_rng rfl (by omega)) ?_)
                first | refine rw_off rfl ?_ | (refine rw_on rfl ?_; (first | refine rw_v (op_b (b := true) rfl (beq_iff_eq.2 (by omega))) ?_ | refine rw_v (op_b (b := false) rfl (beq_eq_false_iff_ne.2 (by omega))) ?_ | refine rw_v (op_pure rfl) ?_))
                refine rw_v (op_pure rfl) ?_
                refine rw_v (op_pure rfl) ?_
                first | refine rw_end ?_ | (refine rw_nil ?_; show CW _ _ _ _ _ _) | refine rw_nil ?_
                exact ⟨⟨rfl, rfl, rfl, rfl, rfl, rfl, rfl, rfl, be (by symm; rw [hbn]; exact ⟨c0, c1, c2, c3⟩), trivial⟩, S⟩
      · rintro e15 w15 ⟨hsl, S⟩
        rw [hsl.fold]
        repeat refine cw_seq ?_
        refine cw_cutT (M := fun e w => SL e [(0, .int .i64 gw), (1, .int .i64 gh), (2, .slice A V.length cap), (7, .pointer (some ⟨b_md, 0, none⟩)), (12, .slice A_u (gw * gh) c_u), (14, .int .i64 i), (15, .int .i64 (i % gw : Nat)), (16, .int .i64 (i / gw : Nat)), (17, .bool (bordB gw (gw * gh) i)), (122, .bool false)] ∧ St No W w [.row 2 1 A_u (gw * gh) c_u (cellsQ (gw * gh) lv), .blk b_md 25 [.int .i64 gw, .int .i64 gh, .slice A V.length cap]]) ?_ ?_
        · cases hb : bordB gw (gw * gh) i with
          | true =>
            have heq := hlev.bord i hin hb
            repeat refine cw_seq ?_
            refine cw_draw (C := fun wq => Gr w15 wq) [0, 1, 2, 3, 4, 5, 6, 7, 8, 9, 10, 11, 12, 13, 14, 15, 16, 17, 18, 19, 20, 21, 22] [] (by kernel_rfl) (by kernel_rfl) (Gr.drew _) ?_
            simp only [pickL, List.drop_succ_cons, List.drop_zero]
            refine rq_v (op_pure rfl) ?_
            refine rq_v (op_pure rfl) ?_
            refine rq_v (op_idx Try.underlying22 Try.sizeOf2 rfl rfl sa_u (by omega) (by omega)) ?_
            refine rq_r (fun wq hq => op_ldR Try.underlying2 rfl rfl ((S.gr hq).rd (i := 0) rfl) hui) ?_
            refine rq_v (op_pure rfl) ?_
            refine rq_v (op_pure rfl) ?_
            refine rq_v (op_idx Try.underlying22 Try.sizeOf2 rfl rfl sa_A (by omega) (by omega)) ?_
            refine rq_r (fun wq hq => op_ldR Try.underlying2 rfl rfl (hA.gr (S.gr hq).out) hvi) ?_
            first | refine rq_v (op_b (b := true) rfl (decide_eq_true (by omega))) ?_ | refine rq_v (op_b (b := false) rfl (decide_eq_false (by omega))) ?_ | refine rq_v (op_pure rfl) ?_
            refine rq_v (op_pure rfl) ?_
            first | refine rq_off rfl ?_ | (refine rq_on rfl ?_; refine rq_v (op_pure rfl) ?_)
            first | refine rq_off rfl ?_ | (refine rq_on rfl ?_; refine rq_v (op_pure rfl) ?_)
            first | refine rq_off rfl ?_ | (refine rq_on rfl ?_; refine rq_v (op_pure rfl) ?_)
            first | refine rq_off rfl ?_ | (refine rq_on rfl ?_; refine rq_v (op_pure rfl) ?_)
            first | refine rq_off rfl ?_ | (refine rq_on rfl ?_; refine rq_v (op_idx Try.underlying22 Try.sizeOf2 rfl rfl sa_u (by omega) (by omega)) ?_)
            first | refine rq_off rfl ?_ | (refine rq_on rfl ?_; refine rq_r (fun wq hq => op_ldR Try.underlying2 rfl rfl ((S.gr hq).rd (i := 0) rfl) hui) ?_)
            first | refine rq_off rfl ?_ | (refine rq_on rfl ?_; refine rq_v (op_pure rfl) ?_)
            first | refine rq_off rfl ?_ | (refine rq_on rfl ?_; refine rq_v (op_pure rfl) ?_)
            first | refine rq_off rfl ?_ | (refine rq_on rfl ?_; refine rq_v (op_idx Try.underlying22 Try.sizeOf2 rfl rfl sa_A (by omega) (by omega)) ?_)
            first | refine rq_off rfl ?_ | (refine rq_on rfl ?_; refine rq_r (fun wq hq => op_ldR Try.underlying2 rfl rfl (hA.gr (S.gr hq).out) hvi) ?_)
            first | refine rq_off rfl ?_ | (refine rq_on rfl ?_; (first | refine rq_v (op_b (b := true) rfl (bne_iff_ne.2 (by omega))) ?_ | refine rq_v (op_b (b := false) rfl (bne_eq_false_iff_eq.2 (by omega))) ?_ | refine rq_v (op_pure rfl) ?_))
            first | refine rq_off rfl ?_ | (refine rq_on rfl ?_; refine rq_v (op_pure rfl) ?_)
            refine rq_v (op_pure rfl) ?_
            refine rq_nil ?_
            intro w11_ g11_
            have S := S.gr g11_
            first | refine rw_end ?_ | (refine rw_nil ?_; show CW _ _ _ _ _ _) | refine rw_nil ?_
            exact ⟨⟨rfl, rfl, rfl, rfl, rfl, rfl, rfl, rfl, rfl, rfl, trivial⟩, S⟩
          | false =>
            repeat refine cw_seq ?_
            refine cw_draw (C := fun wq => Gr w15 wq) [0, 1, 2, 3, 4, 5, 6, 7, 8, 9, 10, 11, 12, 13, 14, 15, 16, 17, 18, 19, 20, 21, 22] [] (by kernel_rfl) (by kernel_rfl) (Gr.drew _) ?_
            simp only [pickL, List.drop_succ_cons, List.drop_zero]
            refine rq_v (op_pure rfl) ?_
            refine rq_v (op_pure rfl) ?_
            refine rq_v (op_idx Try.underlying22 Try.sizeOf2 rfl rfl sa_u (by omega) (by omega)) ?_
            refine rq_r (fun wq hq => op_ldR Try.underlying2 rfl rfl ((S.gr hq).rd (i := 0) rfl) hui) ?_
            refine rq_v (op_pure rfl) ?_
            refine rq_v (op_pure rfl) ?_
            refine rq_v (op_idx Try.underlying22 Try.sizeOf2 rfl rfl sa_A (by omega) (by omega)) ?_
            refine rq_r (fun wq hq => op_ldR Try.underlying2 rfl rfl (hA.gr (S.gr hq).out) hvi) ?_
            first | refine rq_v (op_b (b := true) rfl (decide_eq_true (by omega))) ?_ | refine rq_v (op_b (b := false) rfl (decide_eq_false (by omega))) ?_ | refine rq_v (op_pure rfl) ?_
            refine rq_v (op_pure rfl) ?_
            first | refine rq_off rfl ?_ | (refine rq_on rfl ?_; refine rq_v (op_pure rfl) ?_)
            first | refine rq_off rfl ?_ | (refine rq_on rfl ?_; refine rq_v (op_pure rfl) ?_)
            first | refine rq_off rfl ?_ | (refine rq_on rfl ?_; refine rq_v (op_pure rfl) ?_)
            first | refine rq_off rfl ?_ | (refine rq_on rfl ?_; refine rq_v (op_pure rfl) ?_)
            first | refine rq_off rfl ?_ | (refine rq_on rfl ?_; refine rq_v (op_idx Try.underlying22 Try.sizeOf2 rfl rfl sa_u (by omega) (by omega)) ?_)
            refine rq_off rfl ?_
            first | refine rq_off rfl ?_ | (refine rq_on rfl ?_; refine rq_v (op_pure rfl) ?_)
            first | refine rq_off rfl ?_ | (refine rq_on rfl ?_; refine rq_v (op_pure rfl) ?_)
            first | refine rq_off rfl ?_ | (refine rq_on rfl ?_; refine rq_v (op_idx Try.underlying22 Try.sizeOf2 rfl rfl sa_A (by omega) (by omega)) ?_)
            refine rq_off rfl ?_
            first | refine rq_off rfl ?_ | (refine rq_on rfl ?_; (first | refine rq_v (op_b (b := true) rfl (bne_iff_ne.2 (by omega))) ?_ | refine rq_v (op_b (b := false) rfl (bne_eq_false_iff_eq.2 (by omega))) ?_ | refine rq_v (op_pure rfl) ?_))
            first | refine rq_off rfl ?_ | (refine rq_on rfl ?_; refine rq_v (op_pure rfl) ?_)
            refine rq_v (op_pure rfl) ?_
            refine rq_nil ?_
            intro w12_ g12_
            have S := S.gr g12_
            first | refine rw_end ?_ | (refine rw_nil ?_; show CW _ _ _ _ _ _) | refine rw_nil ?_
            exact ⟨⟨rfl, rfl, rfl, rfl, rfl, rfl, rfl, rfl, rfl, rfl, trivial⟩, S⟩
        · rintro e16 w16 ⟨hsl, S⟩
          rw [hsl.fold]
          repeat refine cw_seq ?_
          refine cw_false rfl ?_
          repeat refine cw_seq ?_
          refine cw_skip ?_
          try show CW _ _ _ _ _ _
          repeat refine cw_seq ?_
          refine cw_region ?_
          refine rw_r (op_loadAB Try.underlying25 rfl (Try.sizeOf25 _) rfl (S.blk (i := 1) rfl) rfl rfl) ?_
          refine rw_v (op_pure rfl) ?_
          refine rw_v (op_pure rfl) ?_
          refine rw_v (op_build (pl := [(0, 1), (1, 1)]) Try.underlying36 Try.zeroValue36 (fun w => by kernel_rfl) rfl rfl) ?_
          refine rw_call rfl (nearI_E (W := w16) i (by omega) hin hVg (by omega) (hA.gr S.out)) ?_
          rintro _ w13_ ⟨A_near, c_near, rfl, hR_near, hf_near, g13_⟩
          have S := S.pushRow hR_near hf_near g13_
          refine rw_v (op_pure rfl) ?_
          first | refine rw_end ?_ | (refine rw_nil ?_; show CW _ _ _ _ _ _) | refine rw_nil ?_
          repeat refine cw_seq ?_
          refine cw_region ?_
          refine rw_v (op_pure rfl) ?_
          refine rw_v (op_pure rfl) ?_
          first | refine rw_end ?_ | (refine rw_nil ?_; show CW _ _ _ _ _ _) | refine rw_nil ?_
          repeat refine cw_seq ?_
          refine cw_region ?_
          refine rw_v (op_pure rfl) ?_
          first | refine rw_end ?_ | (refine rw_nil ?_; show CW _ _ _ _ _ _) | refine rw_nil ?_
          repeat refine cw_seq ?_
          refine cw_block ?_
          repeat refine cw_seq ?_
          have hnl := nearN_len gw V.length i
          generalize nearN gw V.length i = Ln at *
          refine cw_loop (fun m2 e w => ∃ (k : Nat) (low : Bool), k + m2 = Ln.length ∧ SL e [(0, .int .i64 gw), (1, .int .i64 gh), (2, .slice A V.length cap), (7, .pointer (some ⟨b_md, 0, none⟩)), (12, .slice A_u (gw * gh) c_u), (14, .int .i64 i), (18, .slice A_near Ln.length c_near), (19, .bool low), (20, .int .i64 k)] ∧ ((∀ q y, q < k → Ln[q]? = some y → lv y ≤ lv i → low = true) ∧ (bordB gw (gw * gh) i = true → low = true)) ∧
            St No W w [.row 36 2 A_near Ln.length c_near (cellsZ (Ln.map (cz gw))), .row 2 1 A_u (gw * gh) c_u (cellsQ (gw * gh) lv), .blk b_md 25 [.int .i64 gw, .int .i64 gh, .slice A V.length cap]]) Ln.length
            ⟨0, bordB gw (gw * gh) i, by omega, ⟨rfl, rfl, rfl, rfl, rfl, rfl, rfl, rfl, rfl, trivial⟩, ⟨fun q y hq => by omega, fun h => h⟩, S⟩ ?_
          clear S
          rintro m2 e w ⟨k, low, hk2, hsl, hlow, S⟩
          rw [hsl.fold]
          repeat refine cw_seq ?_
          refine cw_region ?_
          refine rw_v (op_pure rfl) ?_
          refine rw_v (op_pure rfl) ?_
          refine rw_v (op_len Try.underlying41 rfl) ?_
          refine rw_v (op_pure rfl) ?_
          first | refine rw_end ?_ | (refine rw_nil ?_; show CW _ _ _ _ _ _) | refine rw_nil ?_
          repeat refine cw_seq ?_
          refine cw_cond rfl (fun hc4 => ?_) (fun hc4 => ?_)
          · try simp only [decide_eq_true_eq, decide_eq_false_iff_not, beq_iff_eq, bne_iff_ne, beq_eq_false_iff_ne, bne_eq_false_iff_eq, Bool.not_eq_true', Bool.not_eq_false', ne_eq, Decidable.not_not, Int.natCast_inj, Int.ofNat_lt, Int.ofNat_le, gt_iff_lt, ge_iff_le, Int.not_lt, Int.not_le] at hc4
            have hkl : k < Ln.length := by omega
            obtain ⟨y, hy⟩ : ∃ y, Ln[k]? = some y := ⟨_, List.getElem?_eq_getElem hkl⟩
            have hyt := (hmem y).1 (List.mem_of_getElem? hy)
            rw [hVg] at hyt
            have hyn : y < gw * gh := hyt.1
            have hmy : (Ln.map (cz gw))[k]? = some (cz gw y) := by rw [List.getElem?_map, hy]; rfl
            have sa_near : SomeA A_near := (S.row (i := 0) rfl).someA (by omega)
            have hcx : (cellsZ (Ln.map (cz gw)))[(k : Int).toNat * 2 + 0]? = some (.int .i64 (y % gw : Nat)) := by rw [Int.toNat_natCast]; exact cellsZ_x hmy
            have hcy : (cellsZ (Ln.map (cz gw)))[(k : Int).toNat * 2 + 1]? = some (.int .i64 (y / gw : Nat)) := by rw [Int.toNat_natCast]; exact cellsZ_y hmy
            have ey : ((y / gw : Nat) : Int) * gw = ((y / gw * gw : Nat) : Int) := by push_cast; rfl
            have eym : y / gw * gw + y % gw = y := by rw [Nat.mul_comm]; exact Nat.div_add_mod _ _
            have ey2 : ((y / gw * gw : Nat) : Int) + (y % gw : Nat) = ((y : Nat) : Int) := by omega
            have huj := cellsQ_get (o := lv) hyn
            have hvj : (ints V)[(y : Int).toNat * 1]? = some (.int .i64 (V.getD y 0)) := by rw [Nat.mul_one, Int.toNat_natCast]; exact ints_get (getD_at (by omega))
            have hwet : V.getD i 0 < lv i → V.getD y 0 < lv y → lv i = lv y := fun h1 h2 => by
              have nb1 : bordB gw (gw * gh) i = false := by cases e : bordB gw (gw * gh) i with
                | false => rfl
                | true => have := hlev.bord i hin e; omega
              have nb2 : bordB gw (gw * gh) y = false := by cases e : bordB gw (gw * gh) y with
                | false => rfl
                | true => have := hlev.bord y hyn e; omega
              have h3 := hlev.le i y hin hyn nb1 hyt.2
              have h4 := hlev.le y i hyn hin nb2 hyt.2.symm
              omega
            cases low with
            | true =>
              have hlow_keep : (true : Bool) = true → (∀ q y, q < k + 1 → Ln[q]? = some y → lv y ≤ lv i → (true : Bool) = true) ∧ (bordB gw (gw * gh) i = true → (true : Bool) = true) := fun _ => ⟨fun _ _ _ _ _ => rfl, fun _ => rfl⟩
              by_cases c1 : V.getD i 0 < lv i
              · by_cases c2 : V.getD y 0 < lv y
                · have c4 : lv i = lv y := hwet c1 c2
                  repeat refine cw_seq ?_
                  refine cw_skip ?_
                  try show CW _ _ _ _ _ _
                  repeat refine cw_seq ?_
                  refine cw_block ?_
                  repeat refine cw_seq ?_
                  refine cw_draw (C := fun wq => Gr w wq) [0, 1, 2, 3, 4, 5, 6, 7, 8, 9, 10, 11, 12, 13] [] (by kernel_rfl) (by kernel_rfl) (Gr.drew _) ?_
                  simp only [pickL, List.drop_succ_cons, List.drop_zero]
                  refine rq_v (op_pure rfl) ?_
                  refine rq_v (op_pure rfl) ?_
                  refine rq_v (op_idx Try.underlying41 Try.sizeOf36 rfl rfl sa_near (by omega) (by omega)) ?_
                  refine rq_v (op_fld Try.underlying36 rfl Try.sizeOf2 rfl rfl sa_near) ?_
                  refine rq_r (fun wq hq => op_ldR Try.underlying2 rfl rfl ((S.gr hq).rd (i := 0) rfl) hcy) ?_
                  refine rq_v (op_pure rfl) ?_
                  refine rq_v (op_rng rfl (by omega)) ?_
                  rw [ey]
                  refine rq_v (op_pure rfl) ?_
                  refine rq_v (op_pure rfl) ?_
                  refine rq_v (op_idx Try.underlying41 Try.sizeOf36 rfl rfl sa_near (by omega) (by omega)) ?_
                  refine rq_v (op_fld Try.underlying36 rfl Try.sizeOf2 rfl rfl sa_near) ?_
                  refine rq_r (fun wq hq => op_ldR Try.underlying2 rfl rfl ((S.gr hq).rd (i := 0) rfl) hcx) ?_
                  refine rq_v (op_rng rfl (by omega)) ?_
                  rw [ey2]
                  refine rq_v (op_pure rfl) ?_
                  refine rq_nil ?_
                  intro w14_ g14_
                  have S := S.gr g14_
                  first | refine rw_end ?_ | (refine rw_nil ?_; show CW _ _ _ _ _ _) | refine rw_nil ?_
                  repeat refine cw_seq ?_
                  refine cw_draw (C := fun wq => Gr w14_ wq) [0, 1, 2, 3, 4, 5, 6, 7, 8, 9, 10, 11, 12, 13, 14, 15, 16, 17, 18, 19, 20, 21, 22, 23, 24, 25, 26, 27, 28, 29, 30] [] (by kernel_rfl) (by kernel_rfl) (Gr.drew _) ?_
                  simp only [pickL, List.drop_succ_cons, List.drop_zero]
                  refine rq_v (op_pure rfl) ?_
                  refine rq_v (op_pure rfl) ?_
                  refine rq_v (op_idx Try.underlying22 Try.sizeOf2 rfl rfl sa_u (by omega) (by omega)) ?_
                  refine rq_r (fun wq hq => op_ldR Try.underlying2 rfl rfl ((S.gr hq).rd (i := 1) rfl) hui) ?_
                  refine rq_v (op_pure rfl) ?_
                  refine rq_v (op_pure rfl) ?_
                  refine rq_v (op_idx Try.underlying22 Try.sizeOf2 rfl rfl sa_A (by omega) (by omega)) ?_
                  refine rq_r (fun wq hq => op_ldR Try.underlying2 rfl rfl (hA.gr (S.gr hq).out) hvi) ?_
                  first | refine rq_v (op_b (b := true) rfl (decide_eq_true (by omega))) ?_ | refine rq_v (op_b (b := false) rfl (decide_eq_false (by omega))) ?_ | refine rq_v (op_pure rfl) ?_
                  refine rq_v (op_pure rfl) ?_
                  first | refine rq_off rfl ?_ | (refine rq_on rfl ?_; refine rq_v (op_pure rfl) ?_)
                  first | refine rq_off rfl ?_ | (refine rq_on rfl ?_; refine rq_v (op_pure rfl) ?_)
                  first | refine rq_off rfl ?_ | (refine rq_on rfl ?_; refine rq_v (op_idx Try.underlying22 Try.sizeOf2 rfl rfl sa_u (by omega) (by omega)) ?_)
                  first | refine rq_off rfl ?_ | (refine rq_on rfl ?_; refine rq_r (fun wq hq => op_ldR Try.underlying2 rfl rfl ((S.gr hq).rd (i := 1) rfl) huj) ?_)
                  first | refine rq_off rfl ?_ | (refine rq_on rfl ?_; refine rq_v (op_pure rfl) ?_)
                  first | refine rq_off rfl ?_ | (refine rq_on rfl ?_; refine rq_v (op_pure rfl) ?_)
                  first | refine rq_off rfl ?_ | (refine rq_on rfl ?_; refine rq_v (op_idx Try.underlying22 Try.sizeOf2 rfl rfl sa_A (by omega) (by omega)) ?_)
                  first | refine rq_off rfl ?_ | (refine rq_on rfl ?_; refine rq_r (fun wq hq => op_ldR Try.underlying2 rfl rfl (hA.gr (S.gr hq).out) hvj) ?_)
                  first | refine rq_off rfl ?_ | (refine rq_on rfl ?_; (first | refine rq_v (op_b (b := true) rfl (decide_eq_true (by omega))) ?_ | refine rq_v (op_b (b := false) rfl (decide_eq_false (by omega))) ?_ | refine rq_v (op_pure rfl) ?_))
                  refine rq_v (op_pure rfl) ?_
                  refine rq_v (op_pure rfl) ?_
                  first | refine rq_off rfl ?_ | (refine rq_on rfl ?_; refine rq_v (op_pure rfl) ?_)
                  first | refine rq_off rfl ?_ | (refine rq_on rfl ?_; refine rq_v (op_pure rfl) ?_)
                  first | refine rq_off rfl ?_ | (refine rq_on rfl ?_; refine rq_v (op_idx Try.underlying22 Try.sizeOf2 rfl rfl sa_u (by omega) (by omega)) ?_)
                  first | refine rq_off rfl ?_ | (refine rq_on rfl ?_; refine rq_r (fun wq hq => op_ldR Try.underlying2 rfl rfl ((S.gr hq).rd (i := 1) rfl) hui) ?_)
                  first | refine rq_off rfl ?_ | (refine rq_on rfl ?_; refine rq_v (op_pure rfl) ?_)
                  first | refine rq_off rfl ?_ | (refine rq_on rfl ?_; refine rq_v (op_pure rfl) ?_)
                  first | refine rq_off rfl ?_ | (refine rq_on rfl ?_; refine rq_v (op_idx Try.underlying22 Try.sizeOf2 rfl rfl sa_u (by omega) (by omega)) ?_)
                  first | refine rq_off rfl ?_ | (refine rq_on rfl ?_; refine rq_r (fun wq hq => op_ldR Try.underlying2 rfl rfl ((S.gr hq).rd (i := 1) rfl) huj) ?_)
                  first | refine rq_off rfl ?_ | (refine rq_on rfl ?_; (first | refine rq_v (op_b (b := true) rfl (bne_iff_ne.2 (by omega))) ?_ | refine rq_v (op_b (b := false) rfl (bne_eq_false_iff_eq.2 (by omega))) ?_ | refine rq_v (op_pure rfl) ?_))
                  refine rq_v (op_pure rfl) ?_
                  refine rq_nil ?_
                  intro w15_ g15_
                  have S := S.gr g15_
                  first | refine rw_end ?_ | (refine rw_nil ?_; show CW _ _ _ _ _ _) | refine rw_nil ?_
                  repeat refine cw_seq ?_
                  refine cw_false rfl ?_
                  repeat refine cw_seq ?_
                  refine cw_skip ?_
                  try show CW _ _ _ _ _ _
                  repeat refine cw_seq ?_
                  refine cw_draw (C := fun wq => Gr w15_ wq) [0, 1, 2, 3, 4, 5, 6, 7, 8, 9, 10, 11, 12] [] (by kernel_rfl) (by kernel_rfl) (Gr.drew _) ?_
                  simp only [pickL, List.drop_succ_cons, List.drop_zero]
                  refine rq_v (op_pure rfl) ?_
                  refine rq_v (op_pure rfl) ?_
                  first | refine rq_off rfl ?_ | (refine rq_on rfl ?_; refine rq_v (op_pure rfl) ?_)
                  first | refine rq_off rfl ?_ | (refine rq_on rfl ?_; refine rq_v (op_pure rfl) ?_)
                  first | refine rq_off rfl ?_ | (refine rq_on rfl ?_; refine rq_v (op_idx Try.underlying22 Try.sizeOf2 rfl rfl sa_u (by omega) (by omega)) ?_)
                  first | refine rq_off rfl ?_ | (refine rq_on rfl ?_; refine rq_r (fun wq hq => op_ldR Try.underlying2 rfl rfl ((S.gr hq).rd (i := 1) rfl) (by assumption)) ?_)
                  first | refine rq_off rfl ?_ | (refine rq_on rfl ?_; refine rq_v (op_pure rfl) ?_)
                  first | refine rq_off rfl ?_ | (refine rq_on rfl ?_; refine rq_v (op_pure rfl) ?_)
                  first | refine rq_off rfl ?_ | (refine rq_on rfl ?_; refine rq_v (op_idx Try.underlying22 Try.sizeOf2 rfl rfl sa_u (by omega) (by omega)) ?_)
                  first | refine rq_off rfl ?_ | (refine rq_on rfl ?_; refine rq_r (fun wq hq => op_ldR Try.underlying2 rfl rfl ((S.gr hq).rd (i := 1) rfl) (by assumption)) ?_)
                  first | refine rq_off rfl ?_ | (refine rq_on rfl ?_; (first | refine rq_v (op_b (b := true) rfl (decide_eq_true (by omega))) ?_ | refine rq_v (op_b (b := false) rfl (decide_eq_false (by omega))) ?_ | refine rq_v (op_pure rfl) ?_))
                  refine rq_v (op_pure rfl) ?_
                  refine rq_v (op_pure rfl) ?_
                  refine rq_nil ?_
                  intro w16_ g16_
                  have S := S.gr g16_
                  first | refine rw_end ?_ | (refine rw_nil ?_; show CW _ _ _ _ _ _) | refine rw_nil ?_
                  repeat refine cw_seq ?_
                  refine cw_region ?_
                  refine rw_v (op_pure rfl) ?_
                  refine rw_v (op_rng rfl (by omega)) ?_
                  refine rw_v (op_pure rfl) ?_
                  first | refine rw_end ?_ | (refine rw_nil ?_; show CW _ _ _ _ _ _) | refine rw_nil ?_
                  exact ⟨m2 - 1, by omega, k + 1, true, by omega, ⟨rfl, rfl, rfl, rfl, rfl, rfl, rfl, rfl, ie (by omega), trivial⟩, hlow_keep rfl, S⟩
                · skip
                  repeat refine cw_seq ?_
                  refine cw_skip ?_
                  try show CW _ _ _ _ _ _
                  repeat refine cw_seq ?_
                  refine cw_block ?_
                  repeat refine cw_seq ?_
                  refine cw_draw (C := fun wq => Gr w wq) [0, 1, 2, 3, 4, 5, 6, 7, 8, 9, 10, 11, 12, 13] [] (by kernel_rfl) (by kernel_rfl) (Gr.drew _) ?_
                  simp only [pickL, List.drop_succ_cons, List.drop_zero]
                  refine rq_v (op_pure rfl) ?_
                  refine rq_v (op_pure rfl) ?_
                  refine rq_v (op_idx Try.underlying41 Try.sizeOf36 rfl rfl sa_near (by omega) (by omega)) ?_
                  refine rq_v (op_fld Try.underlying36 rfl Try.sizeOf2 rfl rfl sa_near) ?_
                  refine rq_r (fun wq hq => op_ldR Try.underlying2 rfl rfl ((S.gr hq).rd (i := 0) rfl) hcy) ?_
                  refine rq_v (op_pure rfl) ?_
                  refine rq_v (op_rng rfl (by omega)) ?_
                  rw [ey]
                  refine rq_v (op_pure rfl) ?_
                  refine rq_v (op_pure rfl) ?_
                  refine rq_v (op_idx Try.underlying41 Try.sizeOf36 rfl rfl sa_near (by omega) (by omega)) ?_
                  refine rq_v (op_fld Try.underlying36 rfl Try.sizeOf2 rfl rfl sa_near) ?_
                  refine rq_r (fun wq hq => op_ldR Try.underlying2 rfl rfl ((S.gr hq).rd (i := 0) rfl) hcx) ?_
                  refine rq_v (op_rng rfl (by omega)) ?_
                  rw [ey2]
                  refine rq_v (op_pure rfl) ?_
                  refine rq_nil ?_
                  intro w17_ g17_
                  have S := S.gr g17_
                  first | refine rw_end ?_ | (refine rw_nil ?_; show CW _ _ _ _ _ _) | refine rw_nil ?_
                  repeat refine cw_seq ?_
                  refine cw_draw (C := fun wq => Gr w17_ wq) [0, 1, 2, 3, 4, 5, 6, 7, 8, 9, 10, 11, 12, 13, 14, 15, 16, 17, 18, 19, 20, 21, 22, 23, 24, 25, 26, 27, 28, 29, 30] [] (by kernel_rfl) (by kernel_rfl) (Gr.drew _) ?_
                  simp only [pickL, List.drop_succ_cons, List.drop_zero]
                  refine rq_v (op_pure rfl) ?_
                  refine rq_v (op_pure rfl) ?_
                  refine rq_v (op_idx Try.underlying22 Try.sizeOf2 rfl rfl sa_u (by omega) (by omega)) ?_
                  refine rq_r (fun wq hq => op_ldR Try.underlying2 rfl rfl ((S.gr hq).rd (i := 1) rfl) hui) ?_
                  refine rq_v (op_pure rfl) ?_
                  refine rq_v (op_pure rfl) ?_
                  refine rq_v (op_idx Try.underlying22 Try.sizeOf2 rfl rfl sa_A (by omega) (by omega)) ?_
                  refine rq_r (fun wq hq => op_ldR Try.underlying2 rfl rfl (hA.gr (S.gr hq).out) hvi) ?_
                  first | refine rq_v (op_b (b := true) rfl (decide_eq_true (by omega))) ?_ | refine rq_v (op_b (b := false) rfl (decide_eq_false (by omega))) ?_ | refine rq_v (op_pure rfl) ?_
                  refine rq_v (op_pure rfl) ?_
                  first | refine rq_off rfl ?_ | (refine rq_on rfl ?_; refine rq_v (op_pure rfl) ?_)
                  first | refine rq_off rfl ?_ | (refine rq_on rfl ?_; refine rq_v (op_pure rfl) ?_)
                  first | refine rq_off rfl ?_ | (refine rq_on rfl ?_; refine rq_v (op_idx Try.underlying22 Try.sizeOf2 rfl rfl sa_u (by omega) (by omega)) ?_)
                  first | refine rq_off rfl ?_ | (refine rq_on rfl ?_; refine rq_r (fun wq hq => op_ldR Try.underlying2 rfl rfl ((S.gr hq).rd (i := 1) rfl) huj) ?_)
                  first | refine rq_off rfl ?_ | (refine rq_on rfl ?_; refine rq_v (op_pure rfl) ?_)
                  first | refine rq_off rfl ?_ | (refine rq_on rfl ?_; refine rq_v (op_pure rfl) ?_)
                  first | refine rq_off rfl ?_ | (refine rq_on rfl ?_; refine rq_v (op_idx Try.underlying22 Try.sizeOf2 rfl rfl sa_A (by omega) (by omega)) ?_)
                  first | refine rq_off rfl ?_ | (refine rq_on rfl ?_; refine rq_r (fun wq hq => op_ldR Try.underlying2 rfl rfl (hA.gr (S.gr hq).out) hvj) ?_)
                  first | refine rq_off rfl ?_ | (refine rq_on rfl ?_; (first | refine rq_v (op_b (b := true) rfl (decide_eq_true (by omega))) ?_ | refine rq_v (op_b (b := false) rfl (decide_eq_false (by omega))) ?_ | refine rq_v (op_pure rfl) ?_))
                  refine rq_v (op_pure rfl) ?_
                  refine rq_v (op_pure rfl) ?_
                  first | refine rq_off rfl ?_ | (refine rq_on rfl ?_; refine rq_v (op_pure rfl) ?_)
                  first | refine rq_off rfl ?_ | (refine rq_on rfl ?_; refine rq_v (op_pure rfl) ?_)
                  first | refine rq_off rfl ?_ | (refine rq_on rfl ?_; refine rq_v (op_idx Try.underlying22 Try.sizeOf2 rfl rfl sa_u (by omega) (by omega)) ?_)
                  first | refine rq_off rfl ?_ | (refine rq_on rfl ?_; refine rq_r (fun wq hq => op_ldR Try.underlying2 rfl rfl ((S.gr hq).rd (i := 1) rfl) hui) ?_)
                  first | refine rq_off rfl ?_ | (refine rq_on rfl ?_; refine rq_v (op_pure rfl) ?_)
                  first | refine rq_off rfl ?_ | (refine rq_on rfl ?_; refine rq_v (op_pure rfl) ?_)
                  first | refine rq_off rfl ?_ | (refine rq_on rfl ?_; refine rq_v (op_idx Try.underlying22 Try.sizeOf2 rfl rfl sa_u (by omega) (by omega)) ?_)
                  first | refine rq_off rfl ?_ | (refine rq_on rfl ?_; refine rq_r (fun wq hq => op_ldR Try.underlying2 rfl rfl ((S.gr hq).rd (i := 1) rfl) huj) ?_)
                  first | refine rq_off rfl ?_ | (refine rq_on rfl ?_; (first | refine rq_v (op_b (b := true) rfl (bne_iff_ne.2 (by omega))) ?_ | refine rq_v (op_b (b := false) rfl (bne_eq_false_iff_eq.2 (by omega))) ?_ | refine rq_v (op_pure rfl) ?_))
                  refine rq_v (op_pure rfl) ?_
                  refine rq_nil ?_
                  intro w18_ g18_
                  have S := S.gr g18_
                  first | refine rw_end ?_ | (refine rw_nil ?_; show CW _ _ _ _ _ _) | refine rw_nil ?_
                  repeat refine cw_seq ?_
                  refine cw_false rfl ?_
                  repeat refine cw_seq ?_
                  refine cw_skip ?_
                  try show CW _ _ _ _ _ _
                  repeat refine cw_seq ?_
                  refine cw_draw (C := fun wq => Gr w18_ wq) [0, 1, 2, 3, 4, 5, 6, 7, 8, 9, 10, 11, 12] [] (by kernel_rfl) (by kernel_rfl) (Gr.drew _) ?_
                  simp only [pickL, List.drop_succ_cons, List.drop_zero]
                  refine rq_v (op_pure rfl) ?_
                  refine rq_v (op_pure rfl) ?_
                  first | refine rq_off rfl ?_ | (refine rq_on rfl ?_; refine rq_v (op_pure rfl) ?_)
                  first | refine rq_off rfl ?_ | (refine rq_on rfl ?_; refine rq_v (op_pure rfl) ?_)
                  first | refine rq_off rfl ?_ | (refine rq_on rfl ?_; refine rq_v (op_idx Try.underlying22 Try.sizeOf2 rfl rfl sa_u (by omega) (by omega)) ?_)
                  first | refine rq_off rfl ?_ | (refine rq_on rfl ?_; refine rq_r (fun wq hq => op_ldR Try.underlying2 rfl rfl ((S.gr hq).rd (i := 1) rfl) (by assumption)) ?_)
                  first | refine rq_off rfl ?_ | (refine rq_on rfl ?_; refine rq_v (op_pure rfl) ?_)
                  first | refine rq_off rfl ?_ | (refine rq_on rfl ?_; refine rq_v (op_pure rfl) ?_)
                  first | refine rq_off rfl ?_ | (refine rq_on rfl ?_; refine rq_v (op_idx Try.underlying22 Try.sizeOf2 rfl rfl sa_u (by omega) (by omega)) ?_)
                  first | refine rq_off rfl ?_ | (refine rq_on rfl ?_; refine rq_r (fun wq hq => op_ldR Try.underlying2 rfl rfl ((S.gr hq).rd (i := 1) rfl) (by assumption)) ?_)
                  first | refine rq_off rfl ?_ | (refine rq_on rfl ?_; (first | refine rq_v (op_b (b := true) rfl (decide_eq_true (by omega))) ?_ | refine rq_v (op_b (b := false) rfl (decide_eq_false (by omega))) ?_ | refine rq_v (op_pure rfl) ?_))
                  refine rq_v (op_pure rfl) ?_
                  refine rq_v (op_pure rfl) ?_
                  refine rq_nil ?_
                  intro w19_ g19_
                  have S := S.gr g19_
                  first | refine rw_end ?_ | (refine rw_nil ?_; show CW _ _ _ _ _ _) | refine rw_nil ?_
                  repeat refine cw_seq ?_
                  refine cw_region ?_
                  refine rw_v (op_pure rfl) ?_
                  refine rw_v (op_rng rfl (by omega)) ?_
                  refine rw_v (op_pure rfl) ?_
                  first | refine rw_end ?_ | (refine rw_nil ?_; show CW _ _ _ _ _ _) | refine rw_nil ?_
                  exact ⟨m2 - 1, by omega, k + 1, true, by omega, ⟨rfl, rfl, rfl, rfl, rfl, rfl, rfl, rfl, ie (by omega), trivial⟩, hlow_keep rfl, S⟩
              · skip
                repeat refine cw_seq ?_
                refine cw_skip ?_
                try show CW _ _ _ _ _ _
                repeat refine cw_seq ?_
                refine cw_block ?_
                repeat refine cw_seq ?_
                refine cw_draw (C := fun wq => Gr w wq) [0, 1, 2, 3, 4, 5, 6, 7, 8, 9, 10, 11, 12, 13] [] (by kernel_rfl) (by kernel_rfl) (Gr.drew _) ?_
                simp only [pickL, List.drop_succ_cons, List.drop_zero]
                refine rq_v (op_pure rfl) ?_
                refine rq_v (op_pure rfl) ?_
                refine rq_v (op_idx Try.underlying41 Try.sizeOf36 rfl rfl sa_near (by omega) (by omega)) ?_
                refine rq_v (op_fld Try.underlying36 rfl Try.sizeOf2 rfl rfl sa_near) ?_
                refine rq_r (fun wq hq => op_ldR Try.underlying2 rfl rfl ((S.gr hq).rd (i := 0) rfl) hcy) ?_
                refine rq_v (op_pure rfl) ?_
                refine rq_v (op_rng rfl (by omega)) ?_
                rw [ey]
                refine rq_v (op_pure rfl) ?_
                refine rq_v (op_pure rfl) ?_
                refine rq_v (op_idx Try.underlying41 Try.sizeOf36 rfl rfl sa_near (by omega) (by omega)) ?_
                refine rq_v (op_fld Try.underlying36 rfl Try.sizeOf2 rfl rfl sa_near) ?_
                refine rq_r (fun wq hq => op_ldR Try.underlying2 rfl rfl ((S.gr hq).rd (i := 0) rfl) hcx) ?_
                refine rq_v (op_rng rfl (by omega)) ?_
                rw [ey2]
                refine rq_v (op_pure rfl) ?_
                refine rq_nil ?_
                intro w20_ g20_
                have S := S.gr g20_
                first | refine rw_end ?_ | (refine rw_nil ?_; show CW _ _ _ _ _ _) | refine rw_nil ?_
                repeat refine cw_seq ?_
                refine cw_draw (C := fun wq => Gr w20_ wq) [0, 1, 2, 3, 4, 5, 6, 7, 8, 9, 10, 11, 12, 13, 14, 15, 16, 17, 18, 19, 20, 21, 22, 23, 24, 25, 26, 27, 28, 29, 30] [] (by kernel_rfl) (by kernel_rfl) (Gr.drew _) ?_
                simp only [pickL, List.drop_succ_cons, List.drop_zero]
                refine rq_v (op_pure rfl) ?_
                refine rq_v (op_pure rfl) ?_
                refine rq_v (op_idx Try.underlying22 Try.sizeOf2 rfl rfl sa_u (by omega) (by omega)) ?_
                refine rq_r (fun wq hq => op_ldR Try.underlying2 rfl rfl ((S.gr hq).rd (i := 1) rfl) hui) ?_
                refine rq_v (op_pure rfl) ?_
                refine rq_v (op_pure rfl) ?_
                refine rq_v (op_idx Try.underlying22 Try.sizeOf2 rfl rfl sa_A (by omega) (by omega)) ?_
                refine rq_r (fun wq hq => op_ldR Try.underlying2 rfl rfl (hA.gr (S.gr hq).out) hvi) ?_
                first | refine rq_v (op_b (b := true) rfl (decide_eq_true (by omega))) ?_ | refine rq_v (op_b (b := false) rfl (decide_eq_false (by omega))) ?_ | refine rq_v (op_pure rfl) ?_
                refine rq_v (op_pure rfl) ?_
                first | refine rq_off rfl ?_ | (refine rq_on rfl ?_; refine rq_v (op_pure rfl) ?_)
                first | refine rq_off rfl ?_ | (refine rq_on rfl ?_; refine rq_v (op_pure rfl) ?_)
                first | refine rq_off rfl ?_ | (refine rq_on rfl ?_; refine rq_v (op_idx Try.underlying22 Try.sizeOf2 rfl rfl sa_u (by omega) (by omega)) ?_)
                first | refine rq_off rfl ?_ | (refine rq_on rfl ?_; refine rq_r (fun wq hq => op_ldR Try.underlying2 rfl rfl ((S.gr hq).rd (i := 1) rfl) huj) ?_)
                first | refine rq_off rfl ?_ | (refine rq_on rfl ?_; refine rq_v (op_pure rfl) ?_)
                first | refine rq_off rfl ?_ | (refine rq_on rfl ?_; refine rq_v (op_pure rfl) ?_)
                first | refine rq_off rfl ?_ | (refine rq_on rfl ?_; refine rq_v (op_idx Try.underlying22 Try.sizeOf2 rfl rfl sa_A (by omega) (by omega)) ?_)
                first | refine rq_off rfl ?_ | (refine rq_on rfl ?_; refine rq_r (fun wq hq => op_ldR Try.underlying2 rfl rfl (hA.gr (S.gr hq).out) hvj) ?_)
                first | refine rq_off rfl ?_ | (refine rq_on rfl ?_; (first | refine rq_v (op_b (b := true) rfl (decide_eq_true (by omega))) ?_ | refine rq_v (op_b (b := false) rfl (decide_eq_false (by omega))) ?_ | refine rq_v (op_pure rfl) ?_))
                refine rq_v (op_pure rfl) ?_
                refine rq_v (op_pure rfl) ?_
                first | refine rq_off rfl ?_ | (refine rq_on rfl ?_; refine rq_v (op_pure rfl) ?_)
                first | refine rq_off rfl ?_ | (refine rq_on rfl ?_; refine rq_v (op_pure rfl) ?_)
                first | refine rq_off rfl ?_ | (refine rq_on rfl ?_; refine rq_v (op_idx Try.underlying22 Try.sizeOf2 rfl rfl sa_u (by omega) (by omega)) ?_)
                first | refine rq_off rfl ?_ | (refine rq_on rfl ?_; refine rq_r (fun wq hq => op_ldR Try.underlying2 rfl rfl ((S.gr hq).rd (i := 1) rfl) hui) ?_)
                first | refine rq_off rfl ?_ | (refine rq_on rfl ?_; refine rq_v (op_pure rfl) ?_)
                first | refine rq_off rfl ?_ | (refine rq_on rfl ?_; refine rq_v (op_pure rfl) ?_)
                first | refine rq_off rfl ?_ | (refine rq_on rfl ?_; refine rq_v (op_idx Try.underlying22 Try.sizeOf2 rfl rfl sa_u (by omega) (by omega)) ?_)
                first | refine rq_off rfl ?_ | (refine rq_on rfl ?_; refine rq_r (fun wq hq => op_ldR Try.underlying2 rfl rfl ((S.gr hq).rd (i := 1) rfl) huj) ?_)
                first | refine rq_off rfl ?_ | (refine rq_on rfl ?_; (first | refine rq_v (op_b (b := true) rfl (bne_iff_ne.2 (by omega))) ?_ | refine rq_v (op_b (b := false) rfl (bne_eq_false_iff_eq.2 (by omega))) ?_ | refine rq_v (op_pure rfl) ?_))
                refine rq_v (op_pure rfl) ?_
                refine rq_nil ?_
                intro w21_ g21_
                have S := S.gr g21_
                first | refine rw_end ?_ | (refine rw_nil ?_; show CW _ _ _ _ _ _) | refine rw_nil ?_
                repeat refine cw_seq ?_
                refine cw_false rfl ?_
                repeat refine cw_seq ?_
                refine cw_skip ?_
                try show CW _ _ _ _ _ _
                repeat refine cw_seq ?_
                refine cw_draw (C := fun wq => Gr w21_ wq) [0, 1, 2, 3, 4, 5, 6, 7, 8, 9, 10, 11, 12] [] (by kernel_rfl) (by kernel_rfl) (Gr.drew _) ?_
                simp only [pickL, List.drop_succ_cons, List.drop_zero]
                refine rq_v (op_pure rfl) ?_
                refine rq_v (op_pure rfl) ?_
                first | refine rq_off rfl ?_ | (refine rq_on rfl ?_; refine rq_v (op_pure rfl) ?_)
                first | refine rq_off rfl ?_ | (refine rq_on rfl ?_; refine rq_v (op_pure rfl) ?_)
                first | refine rq_off rfl ?_ | (refine rq_on rfl ?_; refine rq_v (op_idx Try.underlying22 Try.sizeOf2 rfl rfl sa_u (by omega) (by omega)) ?_)
                first | refine rq_off rfl ?_ | (refine rq_on rfl ?_; refine rq_r (fun wq hq => op_ldR Try.underlying2 rfl rfl ((S.gr hq).rd (i := 1) rfl) (by assumption)) ?_)
                first | refine rq_off rfl ?_ | (refine rq_on rfl ?_; refine rq_v (op_pure rfl) ?_)
                first | refine rq_off rfl ?_ | (refine rq_on rfl ?_; refine rq_v (op_pure rfl) ?_)
                first | refine rq_off rfl ?_ | (refine rq_on rfl ?_; refine rq_v (op_idx Try.underlying22 Try.sizeOf2 rfl rfl sa_u (by omega) (by omega)) ?_)
                first | refine rq_off rfl ?_ | (refine rq_on rfl ?_; refine rq_r (fun wq hq => op_ldR Try.underlying2 rfl rfl ((S.gr hq).rd (i := 1) rfl) (by assumption)) ?_)
                first | refine rq_off rfl ?_ | (refine rq_on rfl ?_; (first | refine rq_v (op_b (b := true) rfl (decide_eq_true (by omega))) ?_ | refine rq_v (op_b (b := false) rfl (decide_eq_false (by omega))) ?_ | refine rq_v (op_pure rfl) ?_))
                refine rq_v (op_pure rfl) ?_
                refine rq_v (op_pure rfl) ?_
                refine rq_nil ?_
                intro w22_ g22_
                have S := S.gr g22_
                first | refine rw_end ?_ | (refine rw_nil ?_; show CW _ _ _ _ _ _) | refine rw_nil ?_
                repeat refine cw_seq ?_
                refine cw_region ?_
                refine rw_v (op_pure rfl) ?_
                refine rw_v (op_rng rfl (by omega)) ?_
                refine rw_v (op_pure rfl) ?_
                first | refine rw_end ?_ | (refine rw_nil ?_; show CW _ _ _ _ _ _) | refine rw_nil ?_
                exact ⟨m2 - 1, by omega, k + 1, true, by omega, ⟨rfl, rfl, rfl, rfl, rfl, rfl, rfl, rfl, ie (by omega), trivial⟩, hlow_keep rfl, S⟩
            | false =>
              by_cases c3 : lv y ≤ lv i
              · have hlow_new : (true : Bool) = true → (∀ q y, q < k + 1 → Ln[q]? = some y → lv y ≤ lv i → (true : Bool) = true) ∧ (bordB gw (gw * gh) i = true → (true : Bool) = true) := fun _ => ⟨fun _ _ _ _ _ => rfl, fun _ => rfl⟩
                by_cases c1 : V.getD i 0 < lv i
                · by_cases c2 : V.getD y 0 < lv y
                  · have c4 : lv i = lv y := hwet c1 c2
                    repeat refine cw_seq ?_
                    refine cw_skip ?_
                    try show CW _ _ _ _ _ _
                    repeat refine cw_seq ?_
                    refine cw_block ?_
                    repeat refine cw_seq ?_
                    refine cw_draw (C := fun wq => Gr w wq) [0, 1, 2, 3, 4, 5, 6, 7, 8, 9, 10, 11, 12, 13] [] (by kernel_rfl) (by kernel_rfl) (Gr.drew _) ?_
                    simp only [pickL, List.drop_succ_cons, List.drop_zero]
                    refine rq_v (op_pure rfl) ?_
                    refine rq_v (op_pure rfl) ?_
                    refine rq_v (op_idx Try.underlying41 Try.sizeOf36 rfl rfl sa_near (by omega) (by omega)) ?_
                    refine rq_v (op_fld Try.underlying36 rfl Try.sizeOf2 rfl rfl sa_near) ?_
                    refine rq_r (fun wq hq => op_ldR Try.underlying2 rfl rfl ((S.gr hq).rd (i := 0) rfl) hcy) ?_
                    refine rq_v (op_pure rfl) ?_
                    refine rq_v (op_rng rfl (by omega)) ?_
                    rw [ey]
                    refine rq_v (op_pure rfl) ?_
                    refine rq_v (op_pure rfl) ?_
                    refine rq_v (op_idx Try.underlying41 Try.sizeOf36 rfl rfl sa_near (by omega) (by omega)) ?_
                    refine rq_v (op_fld Try.underlying36 rfl Try.sizeOf2 rfl rfl sa_near) ?_
                    refine rq_r (fun wq hq => op_ldR Try.underlying2 rfl rfl ((S.gr hq).rd (i := 0) rfl) hcx) ?_
                    refine rq_v (op_rng rfl (by omega)) ?_
                    rw [ey2]
                    refine rq_v (op_pure rfl) ?_
                    refine rq_nil ?_
                    intro w23_ g23_
                    have S := S.gr g23_
                    first | refine rw_end ?_ | (refine rw_nil ?_; show CW _ _ _ _ _ _) | refine rw_nil ?_
                    repeat refine cw_seq ?_
                    refine cw_draw (C := fun wq => Gr w23_ wq) [0, 1, 2, 3, 4, 5, 6, 7, 8, 9, 10, 11, 12, 13, 14, 15, 16, 17, 18, 19, 20, 21, 22, 23, 24, 25, 26, 27, 28, 29, 30] [] (by kernel_rfl) (by kernel_rfl) (Gr.drew _) ?_
                    simp only [pickL, List.drop_succ_cons, List.drop_zero]
                    refine rq_v (op_pure rfl) ?_
                    refine rq_v (op_pure rfl) ?_
                    refine rq_v (op_idx Try.underlying22 Try.sizeOf2 rfl rfl sa_u (by omega) (by omega)) ?_
                    refine rq_r (fun wq hq => op_ldR Try.underlying2 rfl rfl ((S.gr hq).rd (i := 1) rfl) hui) ?_
                    refine rq_v (op_pure rfl) ?_
                    refine rq_v (op_pure rfl) ?_
                    refine rq_v (op_idx Try.underlying22 Try.sizeOf2 rfl rfl sa_A (by omega) (by omega)) ?_
                    refine rq_r (fun wq hq => op_ldR Try.underlying2 rfl rfl (hA.gr (S.gr hq).out) hvi) ?_
                    first | refine rq_v (op_b (b := true) rfl (decide_eq_true (by omega))) ?_ | refine rq_v (op_b (b := false) rfl (decide_eq_false (by omega))) ?_ | refine rq_v (op_pure rfl) ?_
                    refine rq_v (op_pure rfl) ?_
                    first | refine rq_off rfl ?_ | (refine rq_on rfl ?_; refine rq_v (op_pure rfl) ?_)
                    first | refine rq_off rfl ?_ | (refine rq_on rfl ?_; refine rq_v (op_pure rfl) ?_)
                    first | refine rq_off rfl ?_ | (refine rq_on rfl ?_; refine rq_v (op_idx Try.underlying22 Try.sizeOf2 rfl rfl sa_u (by omega) (by omega)) ?_)
                    first | refine rq_off rfl ?_ | (refine rq_on rfl ?_; refine rq_r (fun wq hq => op_ldR Try.underlying2 rfl rfl ((S.gr hq).rd (i := 1) rfl) huj) ?_)
                    first | refine rq_off rfl ?_ | (refine rq_on rfl ?_; refine rq_v (op_pure rfl) ?_)
                    first | refine rq_off rfl ?_ | (refine rq_on rfl ?_; refine rq_v (op_pure rfl) ?_)
                    first | refine rq_off rfl ?_ | (refine rq_on rfl ?_; refine rq_v (op_idx Try.underlying22 Try.sizeOf2 rfl rfl sa_A (by omega) (by omega)) ?_)
                    first | refine rq_off rfl ?_ | (refine rq_on rfl ?_; refine rq_r (fun wq hq => op_ldR Try.underlying2 rfl rfl (hA.gr (S.gr hq).out) hvj) ?_)
                    first | refine rq_off rfl ?_ | (refine rq_on rfl ?_; (first | refine rq_v (op_b (b := true) rfl (decide_eq_true (by omega))) ?_ | refine rq_v (op_b (b := false) rfl (decide_eq_false (by omega))) ?_ | refine rq_v (op_pure rfl) ?_))
                    refine rq_v (op_pure rfl) ?_
                    refine rq_v (op_pure rfl) ?_
                    first | refine rq_off rfl ?_ | (refine rq_on rfl ?_; refine rq_v (op_pure rfl) ?_)
                    first | refine rq_off rfl ?_ | (refine rq_on rfl ?_; refine rq_v (op_pure rfl) ?_)
                    first | refine rq_off rfl ?_ | (refine rq_on rfl ?_; refine rq_v (op_idx Try.underlying22 Try.sizeOf2 rfl rfl sa_u (by omega) (by omega)) ?_)
                    first | refine rq_off rfl ?_ | (refine rq_on rfl ?_; refine rq_r (fun wq hq => op_ldR Try.underlying2 rfl rfl ((S.gr hq).rd (i := 1) rfl) hui) ?_)
                    first | refine rq_off rfl ?_ | (refine rq_on rfl ?_; refine rq_v (op_pure rfl) ?_)
                    first | refine rq_off rfl ?_ | (refine rq_on rfl ?_; refine rq_v (op_pure rfl) ?_)
                    first | refine rq_off rfl ?_ | (refine rq_on rfl ?_; refine rq_v (op_idx Try.underlying22 Try.sizeOf2 rfl rfl sa_u (by omega) (by omega)) ?_)
                    first | refine rq_off rfl ?_ | (refine rq_on rfl ?_; refine rq_r (fun wq hq => op_ldR Try.underlying2 rfl rfl ((S.gr hq).rd (i := 1) rfl) huj) ?_)
                    first | refine rq_off rfl ?_ | (refine rq_on rfl ?_; (first | refine rq_v (op_b (b := true) rfl (bne_iff_ne.2 (by omega))) ?_ | refine rq_v (op_b (b := false) rfl (bne_eq_false_iff_eq.2 (by omega))) ?_ | refine rq_v (op_pure rfl) ?_))
                    refine rq_v (op_pure rfl) ?_
                    refine rq_nil ?_
                    intro w24_ g24_
                    have S := S.gr g24_
                    first | refine rw_end ?_ | (refine rw_nil ?_; show CW _ _ _ _ _ _) | refine rw_nil ?_
                    repeat refine cw_seq ?_
                    refine cw_false rfl ?_
                    repeat refine cw_seq ?_
                    refine cw_skip ?_
                    try show CW _ _ _ _ _ _
                    repeat refine cw_seq ?_
                    refine cw_draw (C := fun wq => Gr w24_ wq) [0, 1, 2, 3, 4, 5, 6, 7, 8, 9, 10, 11, 12] [] (by kernel_rfl) (by kernel_rfl) (Gr.drew _) ?_
                    simp only [pickL, List.drop_succ_cons, List.drop_zero]
                    refine rq_v (op_pure rfl) ?_
                    refine rq_v (op_pure rfl) ?_
                    first | refine rq_off rfl ?_ | (refine rq_on rfl ?_; refine rq_v (op_pure rfl) ?_)
                    first | refine rq_off rfl ?_ | (refine rq_on rfl ?_; refine rq_v (op_pure rfl) ?_)
                    first | refine rq_off rfl ?_ | (refine rq_on rfl ?_; refine rq_v (op_idx Try.underlying22 Try.sizeOf2 rfl rfl sa_u (by omega) (by omega)) ?_)
                    first | refine rq_off rfl ?_ | (refine rq_on rfl ?_; refine rq_r (fun wq hq => op_ldR Try.underlying2 rfl rfl ((S.gr hq).rd (i := 1) rfl) huj) ?_)
                    first | refine rq_off rfl ?_ | (refine rq_on rfl ?_; refine rq_v (op_pure rfl) ?_)
                    first | refine rq_off rfl ?_ | (refine rq_on rfl ?_; refine rq_v (op_pure rfl) ?_)
                    first | refine rq_off rfl ?_ | (refine rq_on rfl ?_; refine rq_v (op_idx Try.underlying22 Try.sizeOf2 rfl rfl sa_u (by omega) (by omega)) ?_)
                    first | refine rq_off rfl ?_ | (refine rq_on rfl ?_; refine rq_r (fun wq hq => op_ldR Try.underlying2 rfl rfl ((S.gr hq).rd (i := 1) rfl) hui) ?_)
                    first | refine rq_off rfl ?_ | (refine rq_on rfl ?_; (first | refine rq_v (op_b (b := true) rfl (decide_eq_true (by omega))) ?_ | refine rq_v (op_b (b := false) rfl (decide_eq_false (by omega))) ?_ | refine rq_v (op_pure rfl) ?_))
                    refine rq_v (op_pure rfl) ?_
                    refine rq_v (op_pure rfl) ?_
                    refine rq_nil ?_
                    intro w25_ g25_
                    have S := S.gr g25_
                    first | refine rw_end ?_ | (refine rw_nil ?_; show CW _ _ _ _ _ _) | refine rw_nil ?_
                    repeat refine cw_seq ?_
                    refine cw_region ?_
                    refine rw_v (op_pure rfl) ?_
                    refine rw_v (op_rng rfl (by omega)) ?_
                    refine rw_v (op_pure rfl) ?_
                    first | refine rw_end ?_ | (refine rw_nil ?_; show CW _ _ _ _ _ _) | refine rw_nil ?_
                    exact ⟨m2 - 1, by omega, k + 1, true, by omega, ⟨rfl, rfl, rfl, rfl, rfl, rfl, rfl, rfl, ie (by omega), trivial⟩, hlow_new rfl, S⟩
                  · skip
                    repeat refine cw_seq ?_
                    refine cw_skip ?_
                    try show CW _ _ _ _ _ _
                    repeat refine cw_seq ?_
                    refine cw_block ?_
                    repeat refine cw_seq ?_
                    refine cw_draw (C := fun wq => Gr w wq) [0, 1, 2, 3, 4, 5, 6, 7, 8, 9, 10, 11, 12, 13] [] (by kernel_rfl) (by kernel_rfl) (Gr.drew _) ?_
                    simp only [pickL, List.drop_succ_cons, List.drop_zero]
                    refine rq_v (op_pure rfl) ?_
                    refine rq_v (op_pure rfl) ?_
                    refine rq_v (op_idx Try.underlying41 Try.sizeOf36 rfl rfl sa_near (by omega) (by omega)) ?_
                    refine rq_v (op_fld Try.underlying36 rfl Try.sizeOf2 rfl rfl sa_near) ?_
                    refine rq_r (fun wq hq => op_ldR Try.underlying2 rfl rfl ((S.gr hq).rd (i := 0) rfl) hcy) ?_
                    refine rq_v (op_pure rfl) ?_
                    refine rq_v (op_rng rfl (by omega)) ?_
                    rw [ey]
                    refine rq_v (op_pure rfl) ?_
                    refine rq_v (op_pure rfl) ?_
                    refine rq_v (op_idx Try.underlying41 Try.sizeOf36 rfl rfl sa_near (by omega) (by omega)) ?_
                    refine rq_v (op_fld Try.underlying36 rfl Try.sizeOf2 rfl rfl sa_near) ?_
                    refine rq_r (fun wq hq => op_ldR Try.underlying2 rfl rfl ((S.gr hq).rd (i := 0) rfl) hcx) ?_
                    refine rq_v (op_rng rfl (by omega)) ?_
                    rw [ey2]
                    refine rq_v (op_pure rfl) ?_
                    refine rq_nil ?_
                    intro w26_ g26_
                    have S := S.gr g26_
                    first | refine rw_end ?_ | (refine rw_nil ?_; show CW _ _ _ _ _ _) | refine rw_nil ?_
                    repeat refine cw_seq ?_
                    refine cw_draw (C := fun wq => Gr w26_ wq) [0, 1, 2, 3, 4, 5, 6, 7, 8, 9, 10, 11, 12, 13, 14, 15, 16, 17, 18, 19, 20, 21, 22, 23, 24, 25, 26, 27, 28, 29, 30] [] (by kernel_rfl) (by kernel_rfl) (Gr.drew _) ?_
                    simp only [pickL, List.drop_succ_cons, List.drop_zero]
                    refine rq_v (op_pure rfl) ?_
                    refine rq_v (op_pure rfl) ?_
                    refine rq_v (op_idx Try.underlying22 Try.sizeOf2 rfl rfl sa_u (by omega) (by omega)) ?_
                    refine rq_r (fun wq hq => op_ldR Try.underlying2 rfl rfl ((S.gr hq).rd (i := 1) rfl) hui) ?_
                    refine rq_v (op_pure rfl) ?_
                    refine rq_v (op_pure rfl) ?_
                    refine rq_v (op_idx Try.underlying22 Try.sizeOf2 rfl rfl sa_A (by omega) (by omega)) ?_
                    refine rq_r (fun wq hq => op_ldR Try.underlying2 rfl rfl (hA.gr (S.gr hq).out) hvi) ?_
                    first | refine rq_v (op_b (b := true) rfl (decide_eq_true (by omega))) ?_ | refine rq_v (op_b (b := false) rfl (decide_eq_false (by omega))) ?_ | refine rq_v (op_pure rfl) ?_
                    refine rq_v (op_pure rfl) ?_
                    first | refine rq_off rfl ?_ | (refine rq_on rfl ?_; refine rq_v (op_pure rfl) ?_)
                    first | refine rq_off rfl ?_ | (refine rq_on rfl ?_; refine rq_v (op_pure rfl) ?_)
                    first | refine rq_off rfl ?_ | (refine rq_on rfl ?_; refine rq_v (op_idx Try.underlying22 Try.sizeOf2 rfl rfl sa_u (by omega) (by omega)) ?_)
                    first | refine rq_off rfl ?_ | (refine rq_on rfl ?_; refine rq_r (fun wq hq => op_ldR Try.underlying2 rfl rfl ((S.gr hq).rd (i := 1) rfl) huj) ?_)
                    first | refine rq_off rfl ?_ | (refine rq_on rfl ?_; refine rq_v (op_pure rfl) ?_)
                    first | refine rq_off rfl ?_ | (refine rq_on rfl ?_; refine rq_v (op_pure rfl) ?_)
                    first | refine rq_off rfl ?_ | (refine rq_on rfl ?_; refine rq_v (op_idx Try.underlying22 Try.sizeOf2 rfl rfl sa_A (by omega) (by omega)) ?_)
                    first | refine rq_off rfl ?_ | (refine rq_on rfl ?_; refine rq_r (fun wq hq => op_ldR Try.underlying2 rfl rfl (hA.gr (S.gr hq).out) hvj) ?_)
                    first | refine rq_off rfl ?_ | (refine rq_on rfl ?_; (first | refine rq_v (op_b (b := true) rfl (decide_eq_true (by omega))) ?_ | refine rq_v (op_b (b := false) rfl (decide_eq_false (by omega))) ?_ | refine rq_v (op_pure rfl) ?_))
                    refine rq_v (op_pure rfl) ?_
                    refine rq_v (op_pure rfl) ?_
                    first | refine rq_off rfl ?_ | (refine rq_on rfl ?_; refine rq_v (op_pure rfl) ?_)
                    first | refine rq_off rfl ?_ | (refine rq_on rfl ?_; refine rq_v (op_pure rfl) ?_)
                    first | refine rq_off rfl ?_ | (refine rq_on rfl ?_; refine rq_v (op_idx Try.underlying22 Try.sizeOf2 rfl rfl sa_u (by omega) (by omega)) ?_)
                    first | refine rq_off rfl ?_ | (refine rq_on rfl ?_; refine rq_r (fun wq hq => op_ldR Try.underlying2 rfl rfl ((S.gr hq).rd (i := 1) rfl) hui) ?_)
                    first | refine rq_off rfl ?_ | (refine rq_on rfl ?_; refine rq_v (op_pure rfl) ?_)
                    first | refine rq_off rfl ?_ | (refine rq_on rfl ?_; refine rq_v (op_pure rfl) ?_)
                    first | refine rq_off rfl ?_ | (refine rq_on rfl ?_; refine rq_v (op_idx Try.underlying22 Try.sizeOf2 rfl rfl sa_u (by omega) (by omega)) ?_)
                    first | refine rq_off rfl ?_ | (refine rq_on rfl ?_; refine rq_r (fun wq hq => op_ldR Try.underlying2 rfl rfl ((S.gr hq).rd (i := 1) rfl) huj) ?_)
                    first | refine rq_off rfl ?_ | (refine rq_on rfl ?_; (first | refine rq_v (op_b (b := true) rfl (bne_iff_ne.2 (by omega))) ?_ | refine rq_v (op_b (b := false) rfl (bne_eq_false_iff_eq.2 (by omega))) ?_ | refine rq_v (op_pure rfl) ?_))
                    refine rq_v (op_pure rfl) ?_
                    refine rq_nil ?_
                    intro w27_ g27_
                    have S := S.gr g27_
                    first | refine rw_end ?_ | (refine rw_nil ?_; show CW _ _ _ _ _ _) | refine rw_nil ?_
                    repeat refine cw_seq ?_
                    refine cw_false rfl ?_
                    repeat refine cw_seq ?_
                    refine cw_skip ?_
                    try show CW _ _ _ _ _ _
                    repeat refine cw_seq ?_
                    refine cw_draw (C := fun wq => Gr w27_ wq) [0, 1, 2, 3, 4, 5, 6, 7, 8, 9, 10, 11, 12] [] (by kernel_rfl) (by kernel_rfl) (Gr.drew _) ?_
                    simp only [pickL, List.drop_succ_cons, List.drop_zero]
                    refine rq_v (op_pure rfl) ?_
                    refine rq_v (op_pure rfl) ?_
                    first | refine rq_off rfl ?_ | (refine rq_on rfl ?_; refine rq_v (op_pure rfl) ?_)
                    first | refine rq_off rfl ?_ | (refine rq_on rfl ?_; refine rq_v (op_pure rfl) ?_)
                    first | refine rq_off rfl ?_ | (refine rq_on rfl ?_; refine rq_v (op_idx Try.underlying22 Try.sizeOf2 rfl rfl sa_u (by omega) (by omega)) ?_)
                    first | refine rq_off rfl ?_ | (refine rq_on rfl ?_; refine rq_r (fun wq hq => op_ldR Try.underlying2 rfl rfl ((S.gr hq).rd (i := 1) rfl) huj) ?_)
                    first | refine rq_off rfl ?_ | (refine rq_on rfl ?_; refine rq_v (op_pure rfl) ?_)
                    first | refine rq_off rfl ?_ | (refine rq_on rfl ?_; refine rq_v (op_pure rfl) ?_)
                    first | refine rq_off rfl ?_ | (refine rq_on rfl ?_; refine rq_v (op_idx Try.underlying22 Try.sizeOf2 rfl rfl sa_u (by omega) (by omega)) ?_)
                    first | refine rq_off rfl ?_ | (refine rq_on rfl ?_; refine rq_r (fun wq hq => op_ldR Try.underlying2 rfl rfl ((S.gr hq).rd (i := 1) rfl) hui) ?_)
                    first | refine rq_off rfl ?_ | (refine rq_on rfl ?_; (first | refine rq_v (op_b (b := true) rfl (decide_eq_true (by omega))) ?_ | refine rq_v (op_b (b := false) rfl (decide_eq_false (by omega))) ?_ | refine rq_v (op_pure rfl) ?_))
                    refine rq_v (op_pure rfl) ?_
                    refine rq_v (op_pure rfl) ?_
                    refine rq_nil ?_
                    intro w28_ g28_
                    have S := S.gr g28_
                    first | refine rw_end ?_ | (refine rw_nil ?_; show CW _ _ _ _ _ _) | refine rw_nil ?_
                    repeat refine cw_seq ?_
                    refine cw_region ?_
                    refine rw_v (op_pure rfl) ?_
                    refine rw_v (op_rng rfl (by omega)) ?_
                    refine rw_v (op_pure rfl) ?_
                    first | refine rw_end ?_ | (refine rw_nil ?_; show CW _ _ _ _ _ _) | refine rw_nil ?_
                    exact ⟨m2 - 1, by omega, k + 1, true, by omega, ⟨rfl, rfl, rfl, rfl, rfl, rfl, rfl, rfl, ie (by omega), trivial⟩, hlow_new rfl, S⟩
                · skip
                  repeat refine cw_seq ?_
                  refine cw_skip ?_
                  try show CW _ _ _ _ _ _
                  repeat refine cw_seq ?_
                  refine cw_block ?_
                  repeat refine cw_seq ?_
                  refine cw_draw (C := fun wq => Gr w wq) [0, 1, 2, 3, 4, 5, 6, 7, 8, 9, 10, 11, 12, 13] [] (by kernel_rfl) (by kernel_rfl) (Gr.drew _) ?_
                  simp only [pickL, List.drop_succ_cons, List.drop_zero]
                  refine rq_v (op_pure rfl) ?_
                  refine rq_v (op_pure rfl) ?_
                  refine rq_v (op_idx Try.underlying41 Try.sizeOf36 rfl rfl sa_near (by omega) (by omega)) ?_
                  refine rq_v (op_fld Try.underlying36 rfl Try.sizeOf2 rfl rfl sa_near) ?_
                  refine rq_r (fun wq hq => op_ldR Try.underlying2 rfl rfl ((S.gr hq).rd (i := 0) rfl) hcy) ?_
                  refine rq_v (op_pure rfl) ?_
                  refine rq_v (op_rng rfl (by omega)) ?_
                  rw [ey]
                  refine rq_v (op_pure rfl) ?_
                  refine rq_v (op_pure rfl) ?_
                  refine rq_v (op_idx Try.underlying41 Try.sizeOf36 rfl rfl sa_near (by omega) (by omega)) ?_
                  refine rq_v (op_fld Try.underlying36 rfl Try.sizeOf2 rfl rfl sa_near) ?_
                  refine rq_r (fun wq hq => op_ldR Try.underlying2 rfl rfl ((S.gr hq).rd (i := 0) rfl) hcx) ?_
                  refine rq_v (op_rng rfl (by omega)) ?_
                  rw [ey2]
                  refine rq_v (op_pure rfl) ?_
                  refine rq_nil ?_
                  intro w29_ g29_
                  have S := S.gr g29_
                  first | refine rw_end ?_ | (refine rw_nil ?_; show CW _ _ _ _ _ _) | refine rw_nil ?_
                  repeat refine cw_seq ?_
                  refine cw_draw (C := fun wq => Gr w29_ wq) [0, 1, 2, 3, 4, 5, 6, 7, 8, 9, 10, 11, 12, 13, 14, 15, 16, 17, 18, 19, 20, 21, 22, 23, 24, 25, 26, 27, 28, 29, 30] [] (by kernel_rfl) (by kernel_rfl) (Gr.drew _) ?_
                  simp only [pickL, List.drop_succ_cons, List.drop_zero]
                  refine rq_v (op_pure rfl) ?_
                  refine rq_v (op_pure rfl) ?_
                  refine rq_v (op_idx Try.underlying22 Try.sizeOf2 rfl rfl sa_u (by omega) (by omega)) ?_
                  refine rq_r (fun wq hq => op_ldR Try.underlying2 rfl rfl ((S.gr hq).rd (i := 1) rfl) hui) ?_
                  refine rq_v (op_pure rfl) ?_
                  refine rq_v (op_pure rfl) ?_
                  refine rq_v (op_idx Try.underlying22 Try.sizeOf2 rfl rfl sa_A (by omega) (by omega)) ?_
                  refine rq_r (fun wq hq => op_ldR Try.underlying2 rfl rfl (hA.gr (S.gr hq).out) hvi) ?_
                  first | refine rq_v (op_b (b := true) rfl (decide_eq_true (by omega))) ?_ | refine rq_v (op_b (b := false) rfl (decide_eq_false (by omega))) ?_ | refine rq_v (op_pure rfl) ?_
                  refine rq_v (op_pure rfl) ?_
                  first | refine rq_off rfl ?_ | (refine rq_on rfl ?_; refine rq_v (op_pure rfl) ?_)
                  first | refine rq_off rfl ?_ | (refine rq_on rfl ?_; refine rq_v (op_pure rfl) ?_)
                  first | refine rq_off rfl ?_ | (refine rq_on rfl ?_; refine rq_v (op_idx Try.underlying22 Try.sizeOf2 rfl rfl sa_u (by omega) (by omega)) ?_)
                  first | refine rq_off rfl ?_ | (refine rq_on rfl ?_; refine rq_r (fun wq hq => op_ldR Try.underlying2 rfl rfl ((S.gr hq).rd (i := 1) rfl) huj) ?_)
                  first | refine rq_off rfl ?_ | (refine rq_on rfl ?_; refine rq_v (op_pure rfl) ?_)
                  first | refine rq_off rfl ?_ | (refine rq_on rfl ?_; refine rq_v (op_pure rfl) ?_)
                  first | refine rq_off rfl ?_ | (refine rq_on rfl ?_; refine rq_v (op_idx Try.underlying22 Try.sizeOf2 rfl rfl sa_A (by omega) (by omega)) ?_)
                  first | refine rq_off rfl ?_ | (refine rq_on rfl ?_; refine rq_r (fun wq hq => op_ldR Try.underlying2 rfl rfl (hA.gr (S.gr hq).out) hvj) ?_)
                  first | refine rq_off rfl ?_ | (refine rq_on rfl ?_; (first | refine rq_v (op_b (b := true) rfl (decide_eq_true (by omega))) ?_ | refine rq_v (op_b (b := false) rfl (decide_eq_false (by omega))) ?_ | refine rq_v (op_pure rfl) ?_))
                  refine rq_v (op_pure rfl) ?_
                  refine rq_v (op_pure rfl) ?_
                  first | refine rq_off rfl ?_ | (refine rq_on rfl ?_; refine rq_v (op_pure rfl) ?_)
                  first | refine rq_off rfl ?_ | (refine rq_on rfl ?_; refine rq_v (op_pure rfl) ?_)
                  first | refine rq_off rfl ?_ | (refine rq_on rfl ?_; refine rq_v (op_idx Try.underlying22 Try.sizeOf2 rfl rfl sa_u (by omega) (by omega)) ?_)
                  first | refine rq_off rfl ?_ | (refine rq_on rfl ?_; refine rq_r (fun wq hq => op_ldR Try.underlying2 rfl rfl ((S.gr hq).rd (i := 1) rfl) hui) ?_)
                  first | refine rq_off rfl ?_ | (refine rq_on rfl ?_; refine rq_v (op_pure rfl) ?_)
                  first | refine rq_off rfl ?_ | (refine rq_on rfl ?_; refine rq_v (op_pure rfl) ?_)
                  first | refine rq_off rfl ?_ | (refine rq_on rfl ?_; refine rq_v (op_idx Try.underlying22 Try.sizeOf2 rfl rfl sa_u (by omega) (by omega)) ?_)
                  first | refine rq_off rfl ?_ | (refine rq_on rfl ?_; refine rq_r (fun wq hq => op_ldR Try.underlying2 rfl rfl ((S.gr hq).rd (i := 1) rfl) huj) ?_)
                  first | refine rq_off rfl ?_ | (refine rq_on rfl ?_; (first | refine rq_v (op_b (b := true) rfl (bne_iff_ne.2 (by omega))) ?_ | refine rq_v (op_b (b := false) rfl (bne_eq_false_iff_eq.2 (by omega))) ?_ | refine rq_v (op_pure rfl) ?_))
                  refine rq_v (op_pure rfl) ?_
                  refine rq_nil ?_
                  intro w30_ g30_
                  have S := S.gr g30_
                  first | refine rw_end ?_ | (refine rw_nil ?_; show CW _ _ _ _ _ _) | refine rw_nil ?_
                  repeat refine cw_seq ?_
                  refine cw_false rfl ?_
                  repeat refine cw_seq ?_
                  refine cw_skip ?_
                  try show CW _ _ _ _ _ _
                  repeat refine cw_seq ?_
                  refine cw_draw (C := fun wq => Gr w30_ wq) [0, 1, 2, 3, 4, 5, 6, 7, 8, 9, 10, 11, 12] [] (by kernel_rfl) (by kernel_rfl) (Gr.drew _) ?_
                  simp only [pickL, List.drop_succ_cons, List.drop_zero]
                  refine rq_v (op_pure rfl) ?_
                  refine rq_v (op_pure rfl) ?_
                  first | refine rq_off rfl ?_ | (refine rq_on rfl ?_; refine rq_v (op_pure rfl) ?_)
                  first | refine rq_off rfl ?_ | (refine rq_on rfl ?_; refine rq_v (op_pure rfl) ?_)
                  first | refine rq_off rfl ?_ | (refine rq_on rfl ?_; refine rq_v (op_idx Try.underlying22 Try.sizeOf2 rfl rfl sa_u (by omega) (by omega)) ?_)
                  first | refine rq_off rfl ?_ | (refine rq_on rfl ?_; refine rq_r (fun wq hq => op_ldR Try.underlying2 rfl rfl ((S.gr hq).rd (i := 1) rfl) huj) ?_)
                  first | refine rq_off rfl ?_ | (refine rq_on rfl ?_; refine rq_v (op_pure rfl) ?_)
                  first | refine rq_off rfl ?_ | (refine rq_on rfl ?_; refine rq_v (op_pure rfl) ?_)
                  first | refine rq_off rfl ?_ | (refine rq_on rfl ?_; refine rq_v (op_idx Try.underlying22 Try.sizeOf2 rfl rfl sa_u (by omega) (by omega)) ?_)
                  first | refine rq_off rfl ?_ | (refine rq_on rfl ?_; refine rq_r (fun wq hq => op_ldR Try.underlying2 rfl rfl ((S.gr hq).rd (i := 1) rfl) hui) ?_)
                  first | refine rq_off rfl ?_ | (refine rq_on rfl ?_; (first | refine rq_v (op_b (b := true) rfl (decide_eq_true (by omega))) ?_ | refine rq_v (op_b (b := false) rfl (decide_eq_false (by omega))) ?_ | refine rq_v (op_pure rfl) ?_))
                  refine rq_v (op_pure rfl) ?_
                  refine rq_v (op_pure rfl) ?_
                  refine rq_nil ?_
                  intro w31_ g31_
                  have S := S.gr g31_
                  first | refine rw_end ?_ | (refine rw_nil ?_; show CW _ _ _ _ _ _) | refine rw_nil ?_
                  repeat refine cw_seq ?_
                  refine cw_region ?_
                  refine rw_v (op_pure rfl) ?_
                  refine rw_v (op_rng rfl (by omega)) ?_
                  refine rw_v (op_pure rfl) ?_
                  first | refine rw_end ?_ | (refine rw_nil ?_; show CW _ _ _ _ _ _) | refine rw_nil ?_
                  exact ⟨m2 - 1, by omega, k + 1, true, by omega, ⟨rfl, rfl, rfl, rfl, rfl, rfl, rfl, rfl, ie (by omega), trivial⟩, hlow_new rfl, S⟩
              · have hlow_not : ¬ lv y ≤ lv i → (∀ q y, q < k + 1 → Ln[q]? = some y → lv y ≤ lv i → (false : Bool) = true) ∧ (bordB gw (gw * gh) i = true → (false : Bool) = true) := fun _ => ⟨fun q z hq hz hle => by
                  by_cases e : q = k
                  · subst e; rw [hy] at hz; injection hz with hz; subst hz; exact absurd hle c3
                  · exact hlow.1 q z (by omega) hz hle, hlow.2⟩
                by_cases c1 : V.getD i 0 < lv i
                · by_cases c2 : V.getD y 0 < lv y
                  · have c4 : lv i = lv y := hwet c1 c2
                    exact absurd (show lv y ≤ lv i by omega) c3
                  · skip
                    repeat refine cw_seq ?_
                    refine cw_skip ?_
                    try show CW _ _ _ _ _ _
                    repeat refine cw_seq ?_
                    refine cw_block ?_
                    repeat refine cw_seq ?_
                    refine cw_draw (C := fun wq => Gr w wq) [0, 1, 2, 3, 4, 5, 6, 7, 8, 9, 10, 11, 12, 13] [] (by kernel_rfl) (by kernel_rfl) (Gr.drew _) ?_
                    simp only [pickL, List.drop_succ_cons, List.drop_zero]
                    refine rq_v (op_pure rfl) ?_
                    refine rq_v (op_pure rfl) ?_
                    refine rq_v (op_idx Try.underlying41 Try.sizeOf36 rfl rfl sa_near (by omega) (by omega)) ?_
                    refine rq_v (op_fld Try.underlying36 rfl Try.sizeOf2 rfl rfl sa_near) ?_
                    refine rq_r (fun wq hq => op_ldR Try.underlying2 rfl rfl ((S.gr hq).rd (i := 0) rfl) hcy) ?_
                    refine rq_v (op_pure rfl) ?_
                    refine rq_v (op_rng rfl (by omega)) ?_
                    rw [ey]
                    refine rq_v (op_pure rfl) ?_
                    refine rq_v (op_pure rfl) ?_
                    refine rq_v (op_idx Try.underlying41 Try.sizeOf36 rfl rfl sa_near (by omega) (by omega)) ?_
                    refine rq_v (op_fld Try.underlying36 rfl Try.sizeOf2 rfl rfl sa_near) ?_
                    refine rq_r (fun wq hq => op_ldR Try.underlying2 rfl rfl ((S.gr hq).rd (i := 0) rfl) hcx) ?_
                    refine rq_v (op_rng rfl (by omega)) ?_
                    rw [ey2]
                    refine rq_v (op_pure rfl) ?_
                    refine rq_nil ?_
                    intro w32_ g32_
                    have S := S.gr g32_
                    first | refine rw_end ?_ | (refine rw_nil ?_; show CW _ _ _ _ _ _) | refine rw_nil ?_
                    repeat refine cw_seq ?_
                    refine cw_draw (C := fun wq => Gr w32_ wq) [0, 1, 2, 3, 4, 5, 6, 7, 8, 9, 10, 11, 12, 13, 14, 15, 16, 17, 18, 19, 20, 21, 22, 23, 24, 25, 26, 27, 28, 29, 30] [] (by kernel_rfl) (by kernel_rfl) (Gr.drew _) ?_
                    simp only [pickL, List.drop_succ_cons, List.drop_zero]
                    refine rq_v (op_pure rfl) ?_
                    refine rq_v (op_pure rfl) ?_
                    refine rq_v (op_idx Try.underlying22 Try.sizeOf2 rfl rfl sa_u (by omega) (by omega)) ?_
                    refine rq_r (fun wq hq => op_ldR Try.underlying2 rfl rfl ((S.gr hq).rd (i := 1) rfl) hui) ?_
                    refine rq_v (op_pure rfl) ?_
                    refine rq_v (op_pure rfl) ?_
                    refine rq_v (op_idx Try.underlying22 Try.sizeOf2 rfl rfl sa_A (by omega) (by omega)) ?_
                    refine rq_r (fun wq hq => op_ldR Try.underlying2 rfl rfl (hA.gr (S.gr hq).out) hvi) ?_
                    first | refine rq_v (op_b (b := true) rfl (decide_eq_true (by omega))) ?_ | refine rq_v (op_b (b := false) rfl (decide_eq_false (by omega))) ?_ | refine rq_v (op_pure rfl) ?_
                    refine rq_v (op_pure rfl) ?_
                    first | refine rq_off rfl ?_ | (refine rq_on rfl ?_; refine rq_v (op_pure rfl) ?_)
                    first | refine rq_off rfl ?_ | (refine rq_on rfl ?_; refine rq_v (op_pure rfl) ?_)
                    first | refine rq_off rfl ?_ | (refine rq_on rfl ?_; refine rq_v (op_idx Try.underlying22 Try.sizeOf2 rfl rfl sa_u (by omega) (by omega)) ?_)
                    first | refine rq_off rfl ?_ | (refine rq_on rfl ?_; refine rq_r (fun wq hq => op_ldR Try.underlying2 rfl rfl ((S.gr hq).rd (i := 1) rfl) huj) ?_)
                    first | refine rq_off rfl ?_ | (refine rq_on rfl ?_; refine rq_v (op_pure rfl) ?_)
                    first | refine rq_off rfl ?_ | (refine rq_on rfl ?_; refine rq_v (op_pure rfl) ?_)
                    first | refine rq_off rfl ?_ | (refine rq_on rfl ?_; refine rq_v (op_idx Try.underlying22 Try.sizeOf2 rfl rfl sa_A (by omega) (by omega)) ?_)
                    first | refine rq_off rfl ?_ | (refine rq_on rfl ?_; refine rq_r (fun wq hq => op_ldR Try.underlying2 rfl rfl (hA.gr (S.gr hq).out) hvj) ?_)
                    first | refine rq_off rfl ?_ | (refine rq_on rfl ?_; (first | refine rq_v (op_b (b := true) rfl (decide_eq_true (by omega))) ?_ | refine rq_v (op_b (b := false) rfl (decide_eq_false (by omega))) ?_ | refine rq_v (op_pure rfl) ?_))
                    refine rq_v (op_pure rfl) ?_
                    refine rq_v (op_pure rfl) ?_
                    first | refine rq_off rfl ?_ | (refine rq_on rfl ?_; refine rq_v (op_pure rfl) ?_)
                    first | refine rq_off rfl ?_ | (refine rq_on rfl ?_; refine rq_v (op_pure rfl) ?_)
                    first | refine rq_off rfl ?_ | (refine rq_on rfl ?_; refine rq_v (op_idx Try.underlying22 Try.sizeOf2 rfl rfl sa_u (by omega) (by omega)) ?_)
                    first | refine rq_off rfl ?_ | (refine rq_on rfl ?_; refine rq_r (fun wq hq => op_ldR Try.underlying2 rfl rfl ((S.gr hq).rd (i := 1) rfl) hui) ?_)
                    first | refine rq_off rfl ?_ | (refine rq_on rfl ?_; refine rq_v (op_pure rfl) ?_)
                    first | refine rq_off rfl ?_ | (refine rq_on rfl ?_; refine rq_v (op_pure rfl) ?_)
                    first | refine rq_off rfl ?_ | (refine rq_on rfl ?_; refine rq_v (op_idx Try.underlying22 Try.sizeOf2 rfl rfl sa_u (by omega) (by omega)) ?_)
                    first | refine rq_off rfl ?_ | (refine rq_on rfl ?_; refine rq_r (fun wq hq => op_ldR Try.underlying2 rfl rfl ((S.gr hq).rd (i := 1) rfl) huj) ?_)
                    first | refine rq_off rfl ?_ | (refine rq_on rfl ?_; (first | refine rq_v (op_b (b := true) rfl (bne_iff_ne.2 (by omega))) ?_ | refine rq_v (op_b (b := false) rfl (bne_eq_false_iff_eq.2 (by omega))) ?_ | refine rq_v (op_pure rfl) ?_))
                    refine rq_v (op_pure rfl) ?_
                    refine rq_nil ?_
                    intro w33_ g33_
                    have S := S.gr g33_
                    first | refine rw_end ?_ | (refine rw_nil ?_; show CW _ _ _ _ _ _) | refine rw_nil ?_
                    repeat refine cw_seq ?_
                    refine cw_false rfl ?_
                    repeat refine cw_seq ?_
                    refine cw_skip ?_
                    try show CW _ _ _ _ _ _
                    repeat refine cw_seq ?_
                    refine cw_draw (C := fun wq => Gr w33_ wq) [0, 1, 2, 3, 4, 5, 6, 7, 8, 9, 10, 11, 12] [] (by kernel_rfl) (by kernel_rfl) (Gr.drew _) ?_
                    simp only [pickL, List.drop_succ_cons, List.drop_zero]
                    refine rq_v (op_pure rfl) ?_
                    refine rq_v (op_pure rfl) ?_
                    first | refine rq_off rfl ?_ | (refine rq_on rfl ?_; refine rq_v (op_pure rfl) ?_)
                    first | refine rq_off rfl ?_ | (refine rq_on rfl ?_; refine rq_v (op_pure rfl) ?_)
                    first | refine rq_off rfl ?_ | (refine rq_on rfl ?_; refine rq_v (op_idx Try.underlying22 Try.sizeOf2 rfl rfl sa_u (by omega) (by omega)) ?_)
                    first | refine rq_off rfl ?_ | (refine rq_on rfl ?_; refine rq_r (fun wq hq => op_ldR Try.underlying2 rfl rfl ((S.gr hq).rd (i := 1) rfl) huj) ?_)
                    first | refine rq_off rfl ?_ | (refine rq_on rfl ?_; refine rq_v (op_pure rfl) ?_)
                    first | refine rq_off rfl ?_ | (refine rq_on rfl ?_; refine rq_v (op_pure rfl) ?_)
                    first | refine rq_off rfl ?_ | (refine rq_on rfl ?_; refine rq_v (op_idx Try.underlying22 Try.sizeOf2 rfl rfl sa_u (by omega) (by omega)) ?_)
                    first | refine rq_off rfl ?_ | (refine rq_on rfl ?_; refine rq_r (fun wq hq => op_ldR Try.underlying2 rfl rfl ((S.gr hq).rd (i := 1) rfl) hui) ?_)
                    first | refine rq_off rfl ?_ | (refine rq_on rfl ?_; (first | refine rq_v (op_b (b := true) rfl (decide_eq_true (by omega))) ?_ | refine rq_v (op_b (b := false) rfl (decide_eq_false (by omega))) ?_ | refine rq_v (op_pure rfl) ?_))
                    refine rq_v (op_pure rfl) ?_
                    refine rq_v (op_pure rfl) ?_
                    refine rq_nil ?_
                    intro w34_ g34_
                    have S := S.gr g34_
                    first | refine rw_end ?_ | (refine rw_nil ?_; show CW _ _ _ _ _ _) | refine rw_nil ?_
                    repeat refine cw_seq ?_
                    refine cw_region ?_
                    refine rw_v (op_pure rfl) ?_
                    refine rw_v (op_rng rfl (by omega)) ?_
                    refine rw_v (op_pure rfl) ?_
                    first | refine rw_end ?_ | (refine rw_nil ?_; show CW _ _ _ _ _ _) | refine rw_nil ?_
                    exact ⟨m2 - 1, by omega, k + 1, false, by omega, ⟨rfl, rfl, rfl, rfl, rfl, rfl, rfl, rfl, ie (by omega), trivial⟩, hlow_not c3, S⟩
                · skip
                  repeat refine cw_seq ?_
                  refine cw_skip ?_
                  try show CW _ _ _ _ _ _
                  repeat refine cw_seq ?_
                  refine cw_block ?_
                  repeat refine cw_seq ?_
                  refine cw_draw (C := fun wq => Gr w wq) [0, 1, 2, 3, 4, 5, 6, 7, 8, 9, 10, 11, 12, 13] [] (by kernel_rfl) (by kernel_rfl) (Gr.drew _) ?_
                  simp only [pickL, List.drop_succ_cons, List.drop_zero]
                  refine rq_v (op_pure rfl) ?_
                  refine rq_v (op_pure rfl) ?_
                  refine rq_v (op_idx Try.underlying41 Try.sizeOf36 rfl rfl sa_near (by omega) (by omega)) ?_
                  refine rq_v (op_fld Try.underlying36 rfl Try.sizeOf2 rfl rfl sa_near) ?_
                  refine rq_r (fun wq hq => op_ldR Try.underlying2 rfl rfl ((S.gr hq).rd (i := 0) rfl) hcy) ?_
                  refine rq_v (op_pure rfl) ?_
                  refine rq_v (op_rng rfl (by omega)) ?_
                  rw [ey]
                  refine rq_v (op_pure rfl) ?_
                  refine rq_v (op_pure rfl) ?_
                  refine rq_v (op_idx Try.underlying41 Try.sizeOf36 rfl rfl sa_near (by omega) (by omega)) ?_
                  refine rq_v (op_fld Try.underlying36 rfl Try.sizeOf2 rfl rfl sa_near) ?_
                  refine rq_r (fun wq hq => op_ldR Try.underlying2 rfl rfl ((S.gr hq).rd (i := 0) rfl) hcx) ?_
                  refine rq_v (op_rng rfl (by omega)) ?_
                  rw [ey2]
                  refine rq_v (op_pure rfl) ?_
                  refine rq_nil ?_
                  intro w35_ g35_
                  have S := S.gr g35_
                  first | refine rw_end ?_ | (refine rw_nil ?_; show CW _ _ _ _ _ _) | refine rw_nil ?_
                  repeat refine cw_seq ?_
                  refine cw_draw (C := fun wq => Gr w35_ wq) [0, 1, 2, 3, 4, 5, 6, 7, 8, 9, 10, 11, 12, 13, 14, 15, 16, 17, 18, 19, 20, 21, 22, 23, 24, 25, 26, 27, 28, 29, 30] [] (by kernel_rfl) (by kernel_rfl) (Gr.drew _) ?_
                  simp only [pickL, List.drop_succ_cons, List.drop_zero]
                  refine rq_v (op_pure rfl) ?_
                  refine rq_v (op_pure rfl) ?_
                  refine rq_v (op_idx Try.underlying22 Try.sizeOf2 rfl rfl sa_u (by omega) (by omega)) ?_
                  refine rq_r (fun wq hq => op_ldR Try.underlying2 rfl rfl ((S.gr hq).rd (i := 1) rfl) hui) ?_
                  refine rq_v (op_pure rfl) ?_
                  refine rq_v (op_pure rfl) ?_
                  refine rq_v (op_idx Try.underlying22 Try.sizeOf2 rfl rfl sa_A (by omega) (by omega)) ?_
                  refine rq_r (fun wq hq => op_ldR Try.underlying2 rfl rfl (hA.gr (S.gr hq).out) hvi) ?_
                  first | refine rq_v (op_b (b := true) rfl (decide_eq_true (by omega))) ?_ | refine rq_v (op_b (b := false) rfl (decide_eq_false (by omega))) ?_ | refine rq_v (op_pure rfl) ?_
                  refine rq_v (op_pure rfl) ?_
                  first | refine rq_off rfl ?_ | (refine rq_on rfl ?_; refine rq_v (op_pure rfl) ?_)
                  first | refine rq_off rfl ?_ | (refine rq_on rfl ?_; refine rq_v (op_pure rfl) ?_)
                  first | refine rq_off rfl ?_ | (refine rq_on rfl ?_; refine rq_v (op_idx Try.underlying22 Try.sizeOf2 rfl rfl sa_u (by omega) (by omega)) ?_)
                  first | refine rq_off rfl ?_ | (refine rq_on rfl ?_; refine rq_r (fun wq hq => op_ldR Try.underlying2 rfl rfl ((S.gr hq).rd (i := 1) rfl) huj) ?_)
                  first | refine rq_off rfl ?_ | (refine rq_on rfl ?_; refine rq_v (op_pure rfl) ?_)
                  first | refine rq_off rfl ?_ | (refine rq_on rfl ?_; refine rq_v (op_pure rfl) ?_)
                  first | refine rq_off rfl ?_ | (refine rq_on rfl ?_; refine rq_v (op_idx Try.underlying22 Try.sizeOf2 rfl rfl sa_A (by omega) (by omega)) ?_)
                  first | refine rq_off rfl ?_ | (refine rq_on rfl ?_; refine rq_r (fun wq hq => op_ldR Try.underlying2 rfl rfl (hA.gr (S.gr hq).out) hvj) ?_)
                  first | refine rq_off rfl ?_ | (refine rq_on rfl ?_; (first | refine rq_v (op_b (b := true) rfl (decide_eq_true (by omega))) ?_ | refine rq_v (op_b (b := false) rfl (decide_eq_false (by omega))) ?_ | refine rq_v (op_pure rfl) ?_))
                  refine rq_v (op_pure rfl) ?_
                  refine rq_v (op_pure rfl) ?_
                  first | refine rq_off rfl ?_ | (refine rq_on rfl ?_; refine rq_v (op_pure rfl) ?_)
                  first | refine rq_off rfl ?_ | (refine rq_on rfl ?_; refine rq_v (op_pure rfl) ?_)
                  first | refine rq_off rfl ?_ | (refine rq_on rfl ?_; refine rq_v (op_idx Try.underlying22 Try.sizeOf2 rfl rfl sa_u (by omega) (by omega)) ?_)
                  first | refine rq_off rfl ?_ | (refine rq_on rfl ?_; refine rq_r (fun wq hq => op_ldR Try.underlying2 rfl rfl ((S.gr hq).rd (i := 1) rfl) hui) ?_)
                  first | refine rq_off rfl ?_ | (refine rq_on rfl ?_; refine rq_v (op_pure rfl) ?_)
                  first | refine rq_off rfl ?_ | (refine rq_on rfl ?_; refine rq_v (op_pure rfl) ?_)
                  first | refine rq_off rfl ?_ | (refine rq_on rfl ?_; refine rq_v (op_idx Try.underlying22 Try.sizeOf2 rfl rfl sa_u (by omega) (by omega)) ?_)
                  first | refine rq_off rfl ?_ | (refine rq_on rfl ?_; refine rq_r (fun wq hq => op_ldR Try.underlying2 rfl rfl ((S.gr hq).rd (i := 1) rfl) huj) ?_)
                  first | refine rq_off rfl ?_ | (refine rq_on rfl ?_; (first | refine rq_v (op_b (b := true) rfl (bne_iff_ne.2 (by omega))) ?_ | refine rq_v (op_b (b := false) rfl (bne_eq_false_iff_eq.2 (by omega))) ?_ | refine rq_v (op_pure rfl) ?_))
                  refine rq_v (op_pure rfl) ?_
                  refine rq_nil ?_
                  intro w36_ g36_
                  have S := S.gr g36_
                  first | refine rw_end ?_ | (refine rw_nil ?_; show CW _ _ _ _ _ _) | refine rw_nil ?_
                  repeat refine cw_seq ?_
                  refine cw_false rfl ?_
                  repeat refine cw_seq ?_
                  refine cw_skip ?_
                  try show CW _ _ _ _ _ _
                  repeat refine cw_seq ?_
                  refine cw_draw (C := fun wq => Gr w36_ wq) [0, 1, 2, 3, 4, 5, 6, 7, 8, 9, 10, 11, 12] [] (by kernel_rfl) (by kernel_rfl) (Gr.drew _) ?_
                  simp only [pickL, List.drop_succ_cons, List.drop_zero]
                  refine rq_v (op_pure rfl) ?_
                  refine rq_v (op_pure rfl) ?_
                  first | refine rq_off rfl ?_ | (refine rq_on rfl ?_; refine rq_v (op_pure rfl) ?_)
                  first | refine rq_off rfl ?_ | (refine rq_on rfl ?_; refine rq_v (op_pure rfl) ?_)
                  first | refine rq_off rfl ?_ | (refine rq_on rfl ?_; refine rq_v (op_idx Try.underlying22 Try.sizeOf2 rfl rfl sa_u (by omega) (by omega)) ?_)
                  first | refine rq_off rfl ?_ | (refine rq_on rfl ?_; refine rq_r (fun wq hq => op_ldR Try.underlying2 rfl rfl ((S.gr hq).rd (i := 1) rfl) huj) ?_)
                  first | refine rq_off rfl ?_ | (refine rq_on rfl ?_; refine rq_v (op_pure rfl) ?_)
                  first | refine rq_off rfl ?_ | (refine rq_on rfl ?_; refine rq_v (op_pure rfl) ?_)
                  first | refine rq_off rfl ?_ | (refine rq_on rfl ?_; refine rq_v (op_idx Try.underlying22 Try.sizeOf2 rfl rfl sa_u (by omega) (by omega)) ?_)
                  first | refine rq_off rfl ?_ | (refine rq_on rfl ?_; refine rq_r (fun wq hq => op_ldR Try.underlying2 rfl rfl ((S.gr hq).rd (i := 1) rfl) hui) ?_)
                  first | refine rq_off rfl ?_ | (refine rq_on rfl ?_; (first | refine rq_v (op_b (b := true) rfl (decide_eq_true (by omega))) ?_ | refine rq_v (op_b (b := false) rfl (decide_eq_false (by omega))) ?_ | refine rq_v (op_pure rfl) ?_))
                  refine rq_v (op_pure rfl) ?_
                  refine rq_v (op_pure rfl) ?_
                  refine rq_nil ?_
                  intro w37_ g37_
                  have S := S.gr g37_
                  first | refine rw_end ?_ | (refine rw_nil ?_; show CW _ _ _ _ _ _) | refine rw_nil ?_
                  repeat refine cw_seq ?_
                  refine cw_region ?_
                  refine rw_v (op_pure rfl) ?_
                  refine rw_v (op_rng rfl (by omega)) ?_
                  refine rw_v (op_pure rfl) ?_
                  first | refine rw_end ?_ | (refine rw_nil ?_; show CW _ _ _ _ _ _) | refine rw_nil ?_
                  exact ⟨m2 - 1, by omega, k + 1, false, by omega, ⟨rfl, rfl, rfl, rfl, rfl, rfl, rfl, rfl, ie (by omega), trivial⟩, hlow_not c3, S⟩
          · try simp only [decide_eq_true_eq, decide_eq_false_iff_not, beq_iff_eq, bne_iff_ne, beq_eq_false_iff_ne, bne_eq_false_iff_eq, Bool.not_eq_true', Bool.not_eq_false', ne_eq, Decidable.not_not, Int.natCast_inj, Int.ofNat_lt, Int.ofNat_le, gt_iff_lt, ge_iff_le, Int.not_lt, Int.not_le] at hc4
            have hlow1 : low = true := by
              cases hb : bordB gw (gw * gh) i with
              | true => exact hlow.2 hb
              | false =>
                obtain ⟨j, hj, s, _, he⟩ := hlev.sup i hin hb
                obtain ⟨q, hq⟩ := List.mem_iff_getElem?.1 ((hmem j).2 ⟨by omega, s⟩)
                exact hlow.1 q j (by have := (List.getElem?_eq_some_iff.1 hq).1; omega) hq (by omega)
            subst hlow1
            repeat refine cw_seq ?_
            refine cw_exit ?_
            repeat first | refine exit_then ?_ | refine exit_inb ?_
            show CW _ _ _ _ _ _
            repeat refine cw_seq ?_
            refine cw_region ?_
            refine rw_v (op_pure rfl) ?_
            refine rw_v (op_pure rfl) ?_
            first | refine rw_end ?_ | (refine rw_nil ?_; show CW _ _ _ _ _ _) | refine rw_nil ?_
            repeat refine cw_seq ?_
            refine cw_false rfl ?_
            repeat refine cw_seq ?_
            refine cw_skip ?_
            try show CW _ _ _ _ _ _
            repeat refine cw_seq ?_
            refine cw_region ?_
            refine rw_v (op_pure rfl) ?_
            refine rw_v (op_rng rfl (by omega)) ?_
            refine rw_v (op_pure rfl) ?_
            first | refine rw_end ?_ | (refine rw_nil ?_; show CW _ _ _ _ _ _) | refine rw_nil ?_
            exact ⟨m - 1, by omega, i + 1, by omega, ⟨rfl, rfl, rfl, rfl, rfl, ie (by omega), trivial⟩, S.drop 1⟩
    · try simp only [decide_eq_true_eq, decide_eq_false_iff_not, beq_iff_eq, bne_iff_ne, beq_eq_false_iff_ne, bne_eq_false_iff_eq, Bool.not_eq_true', Bool.not_eq_false', ne_eq, Decidable.not_not, Int.natCast_inj, Int.ofNat_lt, Int.ofNat_le, gt_iff_lt, ge_iff_le, Int.not_lt, Int.not_le] at hc
      repeat refine cw_seq ?_
      refine cw_exit ?_
      repeat first | refine exit_then ?_ | refine exit_inb ?_
      show CW _ _ _ _ _ _
      repeat refine cw_seq ?_
      refine cw_region ?_
      refine rw_v (op_pure rfl) ?_
      first | refine rw_end ?_ | (refine rw_nil ?_; show CW _ _ _ _ _ _) | refine rw_nil ?_
      repeat refine cw_seq ?_
      refine cw_ret ?_
      repeat first | refine ret_then ?_ | refine ret_inb ?_
      exact res1 rfl ⟨rfl, S.out⟩
  · skip
    have G := Gr.refl W
    have S := St.start W
    refine Fn_enter Try.func10 rfl Try.results10 Try.ntmps10 (by kernel_rfl) (by kernel_rfl) ?_
    repeat refine cw_seq ?_
    refine cw_region ?_
    refine rw_v (op_pure rfl) ?_
    first | refine rw_end ?_ | (refine rw_nil ?_; show CW _ _ _ _ _ _) | refine rw_nil ?_
    repeat refine cw_seq ?_
    refine cw_region ?_
    refine rw_call rfl (awake45_E W) ?_
    rintro _ w1_ ⟨rfl, g1_⟩
    have S := S.gr g1_
    refine rw_v (op_pure rfl) ?_
    first | refine rw_end ?_ | (refine rw_nil ?_; show CW _ _ _ _ _ _) | refine rw_nil ?_
    repeat refine cw_seq ?_
    refine cw_false rfl ?_
    repeat refine cw_seq ?_
    refine cw_skip ?_
    try show CW _ _ _ _ _ _
    repeat refine cw_seq ?_
    refine cw_region ?_
    refine rw_v (op_pure rfl) ?_
    refine rw_v (op_pure rfl) ?_
    refine rw_v (op_pure rfl) ?_
    refine rw_call rfl (landNo_E w h 1000 cap (by omega) hl hok (hA.gr S.out)) ?_
    rintro _ w2_ ⟨rfl, g2_⟩
    have S := S.gr g2_
    refine rw_v (op_pure rfl) ?_
    refine rw_v (op_pure rfl) ?_
    refine rw_v (op_pure rfl) ?_
    refine rw_newB (op_alloc Try.zeroValue25 rfl) S ?_
    intro b_b3 w4_ g4_ S
    refine rw_storeSA (i := 0) S rfl (Try.sizeOf25 _) rfl rfl rfl rfl rfl rfl ?_
    intro w5_ S
    refine rw_v (op_pure rfl) ?_
    first | refine rw_end ?_ | (refine rw_nil ?_; show CW _ _ _ _ _ _) | refine rw_nil ?_
    repeat refine cw_seq ?_
    refine cw_region ?_
    refine rw_v (op_pure rfl) ?_
    refine rw_v (op_pure rfl) ?_
    first | refine rw_end ?_ | (refine rw_nil ?_; show CW _ _ _ _ _ _) | refine rw_nil ?_
    repeat refine cw_seq ?_
    refine cw_true rfl ?_
    repeat refine cw_seq ?_
    refine cw_region ?_
    refine rw_v (op_pure rfl) ?_
    first | refine rw_end ?_ | (refine rw_nil ?_; show CW _ _ _ _ _ _) | refine rw_nil ?_
    repeat refine cw_seq ?_
    refine cw_ret ?_
    repeat first | refine ret_then ?_ | refine ret_inb ?_
    exact res1 rfl ⟨rfl, S.out⟩
end
end Go.Proofs.Ytmdkjohllinphaa
