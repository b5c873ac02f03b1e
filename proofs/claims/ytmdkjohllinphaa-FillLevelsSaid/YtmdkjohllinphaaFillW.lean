/- hachurelaw45.FillLevels: the walk. -/
import Derived.Test.YtmdkjohllinphaaFillV
namespace Go.Proofs.Ytmdkjohllinphaa
open Go.RowKit
set_option linter.unusedVariables false
set_option linter.unusedSimpArgs false
set_option maxRecDepth 100000

section
variable {W : World} {A : Option Addr} {V : List Int}
set_option maxHeartbeats 8000000 in
theorem fillLevels_E (w h : Int) (cap : Nat) (hl : V.length ≤ 9223372036854775807) (hA : Rd W A (ints V)) :
    Fn Try.prog 9 [.int .i64 w, .int .i64 h, .slice A V.length cap] W (RetG (.bool true) W) := by
  by_cases hok : LandOk w h V 400
  · obtain ⟨gw, rfl⟩ := Int.eq_ofNat_of_zero_le (show 0 ≤ w by have := hok.w1; omega)
    obtain ⟨gh, rfl⟩ := Int.eq_ofNat_of_zero_le (show 0 ≤ h by have := hok.h1; omega)
    have hw : 1 ≤ gw ∧ gw ≤ 1024 := by have := hok.w1; have := hok.wm; omega
    have hh : 1 ≤ gh ∧ gh ≤ 1024 := by have := hok.h1; have := hok.hm; omega
    have hmi : (gw : Int) * gh = ((gw * gh : Nat) : Int) := by push_cast; rfl
    have hVg : V.length = gw * gh := by have := hok.len; rw [hmi] at this; omega
    have hm : gw * gh ≤ 400 := by have := hok.area; rw [hmi] at this; omega
    have hmay := hok.may
    have hB := vB_of_may hmay
    have hGl := gridL_made hVg
    have hBg : vB (gridL gw gh (fun i => V.getD i 0)) := by rw [hGl]; exact hB
    have hpos : 1 ≤ gw * gh := Nat.mul_le_mul hw.1 hh.1
    have sa_A : SomeA A := hA.someA (by rw [ints_len]; omega)
    have S := St.start W
    refine Fn_enter Try.func9 rfl Try.results9 Try.ntmps9 (by kernel_rfl) (by kernel_rfl) ?_
    repeat refine cw_seq ?_
    refine cw_region ?_
    refine rw_v (op_pure rfl) ?_
    first | refine rw_end ?_ | (refine rw_nil ?_; show CW _ _ _ _ _ _) | refine rw_nil ?_
    repeat refine cw_seq ?_
    refine cw_region ?_
    refine rw_call rfl (awake45_E W) ?_
    rintro _ w1_ ⟨rfl, g1_⟩
    have S := S.gr g1_
    refine rw_v (op_pure rfl) ?_
    first | refine rw_end ?_ | (refine rw_nil ?_; show CW _ _ _ _ _ _) | refine rw_nil ?_
    repeat refine cw_seq ?_
    refine cw_false rfl ?_
    repeat refine cw_seq ?_
    refine cw_skip ?_
    try show CW _ _ _ _ _ _
    repeat refine cw_seq ?_
    refine cw_region ?_
    refine rw_v (op_pure rfl) ?_
    refine rw_v (op_pure rfl) ?_
    refine rw_v (op_pure rfl) ?_
    refine rw_call rfl (land_E gw gh 400 cap (by omega) hok (hA.gr S.out)) ?_
    rintro _ w2_ ⟨rfl, g2_⟩
    have S := S.gr g2_
    refine rw_v (op_pure rfl) ?_
    refine rw_v (op_pure rfl) ?_
    refine rw_v (op_pure rfl) ?_
    refine rw_newB (op_alloc Try.zeroValue25 rfl) S ?_
    intro b_md w4_ g4_ S
    refine rw_storeSA (i := 0) S rfl (Try.sizeOf25 _) rfl rfl rfl rfl rfl rfl ?_
    intro w5_ S
    refine rw_v (op_pure rfl) ?_
    first | refine rw_end ?_ | (refine rw_nil ?_; show CW _ _ _ _ _ _) | refine rw_nil ?_
    repeat refine cw_seq ?_
    refine cw_region ?_
    refine rw_v (op_pure rfl) ?_
    refine rw_v (op_pure rfl) ?_
    first | refine rw_end ?_ | (refine rw_nil ?_; show CW _ _ _ _ _ _) | refine rw_nil ?_
    repeat refine cw_seq ?_
    refine cw_false rfl ?_
    repeat refine cw_seq ?_
    refine cw_skip ?_
    try show CW _ _ _ _ _ _
    repeat refine cw_seq ?_
    refine cw_region ?_
    refine rw_v (op_pure rfl) ?_
    refine rw_v (op_pure rfl) ?_
    refine rw_v (op_pure rfl) ?_
    refine rw_call rfl (made_E gw gh cap hw hh hVg hmay (hA.gr S.out)) ?_
    rintro _ w6_ ⟨p, B, bc, bs, Rs, rfl, hG, hf, g6_⟩
    have S := S.pushGrid hG hf g6_
    refine rw_v (op_pure rfl) ?_
    refine rw_v (op_pure rfl) ?_
    refine rw_v (op_pure rfl) ?_
    refine rw_v (op_pure rfl) ?_
    refine rw_v (op_pure rfl) ?_
    first | refine rw_end ?_ | (refine rw_nil ?_; show CW _ _ _ _ _ _) | refine rw_nil ?_
    repeat refine cw_seq ?_
    refine cw_region ?_
    refine rw_v (op_pure rfl) ?_
    refine rw_v (op_pure rfl) ?_
    first | refine rw_end ?_ | (refine rw_nil ?_; show CW _ _ _ _ _ _) | refine rw_nil ?_
    repeat refine cw_seq ?_
    refine cw_false rfl ?_
    repeat refine cw_seq ?_
    refine cw_skip ?_
    try show CW _ _ _ _ _ _
    repeat refine cw_seq ?_
    refine cw_region ?_
    refine rw_v (op_pure rfl) ?_
    refine rw_call rfl (levels_E hBg (S.grid (i := 0) rfl)) ?_
    rintro _ w7_ ⟨lv, rk, hlev, p2, B2, bc2, bs2, Rs2, rfl, hG2, hf2, g7_⟩
    have S := S.pushGrid hG2 hf2 g7_
    rw [hGl] at hlev
    refine rw_v (op_pure rfl) ?_
    refine rw_v (op_pure rfl) ?_
    refine rw_v (op_pure rfl) ?_
    refine rw_v (op_pure rfl) ?_
    refine rw_v (op_pure rfl) ?_
    first | refine rw_end ?_ | (refine rw_nil ?_; show CW _ _ _ _ _ _) | refine rw_nil ?_
    repeat refine cw_seq ?_
    refine cw_region ?_
    refine rw_v (op_pure rfl) ?_
    refine rw_call rfl (depths_E hBg (S.grid (i := 1) rfl)) ?_
    rintro _ w8_ ⟨lv2, rk2, hlev2, A_d, c_d, rfl, hRd, hFd, g8_⟩
    have S := S.pushRow hRd hFd g8_
    rw [hGl] at hlev2
    refine rw_v (op_pure rfl) ?_
    refine rw_v (op_pure rfl) ?_
    refine rw_v (op_pure rfl) ?_
    refine rw_v (op_pure rfl) ?_
    refine rw_v (op_pure rfl) ?_
    first | refine rw_end ?_ | (refine rw_nil ?_; show CW _ _ _ _ _ _) | refine rw_nil ?_
    repeat refine cw_seq ?_
    refine cw_region ?_
    refine rw_v (op_pure rfl) ?_
    refine rw_call rfl (volume_E hBg (S.grid (i := 2) rfl)) ?_
    rintro _ w9_ ⟨lv3, rk3, hlev3, rfl, g9_⟩
    have S := S.gr g9_
    rw [hGl] at hlev3
    refine rw_v (op_pure rfl) ?_
    refine rw_v (op_pure rfl) ?_
    refine rw_v (op_pure rfl) ?_
    refine rw_v (op_pure rfl) ?_
    refine rw_v (op_pure rfl) ?_
    first | refine rw_end ?_ | (refine rw_nil ?_; show CW _ _ _ _ _ _) | refine rw_nil ?_
    have hvol : sumF (gw * gh) (fun i => lv3 i - (gridL gw gh (fun i => V.getD i 0)).getD i 0) = sumF (gw * gh) (fun i => lv i - V.getD i 0) := by rw [hGl]; exact sumF_congr fun i hi => by (try dsimp only); rw [hlev.uniq hlev3 hi]
    rw [hvol]
    rw [hGl, cellsQ_congr (o := fun i => lv2 i - V.getD i 0) (o' := fun i => lv i - V.getD i 0) (fun i hi => by (try dsimp only); rw [hlev.uniq hlev2 hi])] at S
    repeat refine cw_seq ?_
    refine cw_region ?_
    refine rw_r (op_loadAB Try.underlying25 rfl (Try.sizeOf25 _) rfl (S.blk (i := 3) rfl) rfl rfl) ?_
    refine rw_call rfl (rlevels_E lv rk hw hh hVg (by omega) hB hlev (hA.gr S.out)) ?_
    rintro _ w10_ ⟨A_want, c_want, rfl, hRw, hFw, g10_⟩
    have S := S.pushRow hRw hFw g10_
    refine rw_newB (op_alloc Try.zeroValue25 rfl) S ?_
    intro b_wm w12_ g12_ S
    refine rw_storeSA (i := 0) S rfl (Try.sizeOf25 _) rfl rfl rfl rfl rfl rfl ?_
    intro w13_ S
    first | refine rw_end ?_ | (refine rw_nil ?_; show CW _ _ _ _ _ _) | refine rw_nil ?_
    have sa_d : SomeA A_d := (S.row (i := 2) rfl).someA (by omega)
    have sa_want : SomeA A_want := (S.row (i := 1) rfl).someA (by omega)
    have hGl2 : gridL gw gh (fun i => ((List.range (gw * gh)).map lv).getD i 0) = (List.range (gw * gh)).map lv := gridL_made (by simp)
    have hIs1 : ∀ w, GridAt w p2 gw gh (fun i => ((List.range (gw * gh)).map lv).getD i 0) B2 bc2 bs2 Rs2 → Rd w A_want (cellsQ (gw * gh) lv) → Fn Try.prog 42 [.pointer (some ⟨p2, 0, none⟩), .agg #[.int .i64 gw, .int .i64 gh, .slice A_want (gw * gh) c_want]] w (RetG (.bool true) w) := fun w hg hr => by
      rw [cellsQ_ints] at hr
      have := is_E (cu := c_want) (U := (List.range (gw * gh)).map lv) (by simp) hg hr
      rw [hGl2, decide_eq_true rfl] at this
      exact this
    have hIs2 : ∀ w, GridAt w p gw gh (fun i => V.getD i 0) B bc bs Rs → Rd w A (ints V) → Fn Try.prog 42 [.pointer (some ⟨p, 0, none⟩), .agg #[.int .i64 gw, .int .i64 gh, .slice A V.length cap]] w (RetG (.bool true) w) := fun w hg hr => by
      have := is_E (cu := cap) hVg hg hr
      rw [hGl, decide_eq_true rfl, ← hVg] at this
      exact this
    repeat refine cw_seq ?_
    refine cw_region ?_
    refine rw_v (op_pure rfl) ?_
    first | refine rw_v (op_b (b := true) rfl (bne_iff_ne.2 (by omega))) ?_ | refine rw_v (op_b (b := false) rfl (bne_eq_false_iff_eq.2 (by omega))) ?_ | refine rw_v (op_pure rfl) ?_
    refine rw_v (op_pure rfl) ?_
    first | refine rw_off rfl ?_ | (refine rw_on rfl ?_; refine rw_v (op_pure rfl) ?_)
    first | refine rw_off rfl ?_ | (refine rw_on rfl ?_; (first | refine rw_v (op_b (b := true) rfl (bne_iff_ne.2 (by omega))) ?_ | refine rw_v (op_b (b := false) rfl (bne_eq_false_iff_eq.2 (by omega))) ?_ | refine rw_v (op_pure rfl) ?_))
    refine rw_v (op_pure rfl) ?_
    refine rw_v (op_pure rfl) ?_
    first | refine rw_off rfl ?_ | (refine rw_on rfl ?_; refine rw_v (op_pure rfl) ?_)
    first | refine rw_off rfl ?_ | (refine rw_on rfl ?_; (first | refine rw_v (op_b (b := true) rfl (bne_iff_ne.2 (by omega))) ?_ | refine rw_v (op_b (b := false) rfl (bne_eq_false_iff_eq.2 (by omega))) ?_ | refine rw_v (op_pure rfl) ?_))
    refine rw_v (op_pure rfl) ?_
    refine rw_v (op_pure rfl) ?_
    first | refine rw_off rfl ?_ | (refine rw_on rfl ?_; refine rw_v (op_pure rfl) ?_)
    first | refine rw_off rfl ?_ | (refine rw_on rfl ?_; refine rw_r (op_loadAB Try.underlying25 rfl (Try.sizeOf25 _) rfl (S.blk (i := 0) rfl) rfl rfl) ?_)
    refine rw_on rfl ?_
    refine rw_call rfl (hIs1 w13_ (S.grid (i := 3) rfl) (S.row (i := 1) rfl).rd) ?_
    rintro _ w14_ ⟨rfl, g14_⟩
    have S := S.gr g14_
    first | refine rw_off rfl ?_ | (refine rw_on rfl ?_; refine rw_v (op_pure rfl) ?_)
    refine rw_v (op_pure rfl) ?_
    refine rw_v (op_pure rfl) ?_
    first | refine rw_off rfl ?_ | (refine rw_on rfl ?_; refine rw_v (op_pure rfl) ?_)
    first | refine rw_off rfl ?_ | (refine rw_on rfl ?_; refine rw_v (op_len Try.underlying22 rfl) ?_)
    first | refine rw_off rfl ?_ | (refine rw_on rfl ?_; refine rw_v (op_pure rfl) ?_)
    first | refine rw_off rfl ?_ | (refine rw_on rfl ?_; refine rw_v (op_len Try.underlying22 rfl) ?_)
    first | refine rw_off rfl ?_ | (refine rw_on rfl ?_; (first | refine rw_v (op_b (b := true) rfl (bne_iff_ne.2 (by omega))) ?_ | refine rw_v (op_b (b := false) rfl (bne_eq_false_iff_eq.2 (by omega))) ?_ | refine rw_v (op_pure rfl) ?_))
    refine rw_v (op_pure rfl) ?_
    refine rw_v (op_pure rfl) ?_
    first | refine rw_off rfl ?_ | (refine rw_on rfl ?_; refine rw_v (op_pure rfl) ?_)
    first | refine rw_off rfl ?_ | (refine rw_on rfl ?_; refine rw_r (op_loadAB Try.underlying25 rfl (Try.sizeOf25 _) rfl (S.blk (i := 5) rfl) rfl rfl) ?_)
    refine rw_on rfl ?_
    refine rw_call rfl (hIs2 w14_ (S.grid (i := 4) rfl) (hA.gr S.out)) ?_
    rintro _ w15_ ⟨rfl, g15_⟩
    have S := S.gr g15_
    first | refine rw_off rfl ?_ | (refine rw_on rfl ?_; refine rw_v (op_pure rfl) ?_)
    refine rw_v (op_pure rfl) ?_
    first | refine rw_end ?_ | (refine rw_nil ?_; show CW _ _ _ _ _ _) | refine rw_nil ?_
    repeat refine cw_seq ?_
    refine cw_false rfl ?_
    repeat refine cw_seq ?_
    refine cw_skip ?_
    try show CW _ _ _ _ _ _
    repeat refine cw_seq ?_
    refine cw_region ?_
    refine rw_v (op_pure rfl) ?_
    first | refine rw_end ?_ | (refine rw_nil ?_; show CW _ _ _ _ _ _) | refine rw_nil ?_
    repeat refine cw_seq ?_
    refine cw_region ?_
    refine rw_v (op_pure rfl) ?_
    first | refine rw_end ?_ | (refine rw_nil ?_; show CW _ _ _ _ _ _) | refine rw_nil ?_
    repeat refine cw_seq ?_
    refine cw_block ?_
    repeat refine cw_seq ?_
    have hsb : ∀ k, k ≤ gw * gh → 0 ≤ sumF k (fun i => lv i - V.getD i 0) ∧ sumF k (fun i => lv i - V.getD i 0) ≤ k * 4294967295 := fun k hk => by
      have hcg : sumF k (fun i => lv i - V.getD i 0) = sumF k (fun i => if i < gw * gh then lv i - V.getD i 0 else 0) := sumF_congr fun i hi => by (try dsimp only); rw [if_pos (by omega)]
      rw [hcg]
      exact sumF_bd (b := 0) (fun i => by
        (try dsimp only)
        split
        · rename_i hi
          have h1 := hlev.ge i hi
          have h2 := hlev.may hB hi
          have h3 := hB i
          omega
        · omega) k
    refine cw_loop (fun m e w => ∃ k : Nat, k + m = gw * gh ∧ SL e [(2, .slice A V.length cap), (12, .slice A_d (gw * gh) c_d), (14, .int .i64 (sumF (gw * gh) (fun i => lv i - V.getD i 0))), (16, .pointer (some ⟨b_wm, 0, none⟩)), (17, .int .i64 (sumF k (fun i => lv i - V.getD i 0))), (18, .int .i64 k)] ∧
      St No W w [.blk b_wm 25 [.int .i64 gw, .int .i64 gh, .slice A_want (gw * gh) c_want], .row 2 1 A_want (gw * gh) c_want (cellsQ (gw * gh) lv), .row 2 1 A_d (gw * gh) c_d (cellsQ (gw * gh) (fun i => lv i - V.getD i 0))]) (gw * gh)
      ⟨0, by omega, ⟨rfl, rfl, rfl, rfl, rfl, rfl, trivial⟩, S.sub (.cons_cons _ (.cons_cons _ (.cons_cons _ (.cons _ (.cons _ (.cons _ .slnil))))))⟩ ?_
    clear S
    rintro m e w ⟨k, hk, hsl, S⟩
    rw [hsl.fold]
    repeat refine cw_seq ?_
    refine cw_region ?_
    refine rw_v (op_pure rfl) ?_
    refine rw_v (op_pure rfl) ?_
    refine rw_v (op_len Try.underlying22 rfl) ?_
    refine rw_v (op_pure rfl) ?_
    first | refine rw_end ?_ | (refine rw_nil ?_; show CW _ _ _ _ _ _) | refine rw_nil ?_
    repeat refine cw_seq ?_
    refine cw_cond rfl (fun hc => ?_) (fun hc => ?_)
    · try simp only [decide_eq_true_eq, decide_eq_false_iff_not, beq_iff_eq, bne_iff_ne, beq_eq_false_iff_ne, bne_eq_false_iff_eq, Bool.not_eq_true', Bool.not_eq_false', ne_eq, Decidable.not_not, Int.natCast_inj, Int.ofNat_lt, Int.ofNat_le, gt_iff_lt, ge_iff_le, Int.not_lt, Int.not_le] at hc
      have hkn : k < gw * gh := by omega
      have hvget : (ints V)[(k : Int).toNat * 1]? = some (.int .i64 (V.getD k 0)) := by rw [Nat.mul_one, Int.toNat_natCast]; exact ints_get (getD_at (by omega))
      have hdget := cellsQ_get (o := fun i => lv i - V.getD i 0) hkn
      try dsimp only at hdget
      have h1 := hlev.ge k hkn
      have h2 := hlev.may hB hkn
      have h3 := hB k
      have h4 := hsb k (by omega)
      repeat refine cw_seq ?_
      refine cw_skip ?_
      try show CW _ _ _ _ _ _
      repeat refine cw_seq ?_
      refine cw_block ?_
      repeat refine cw_seq ?_
      refine cw_draw (C := fun wq => Gr w wq) [0, 1, 2, 3, 4, 5, 6, 7, 8, 9, 10, 11, 12, 13, 14] [] (by kernel_rfl) (by kernel_rfl) (Gr.drew _) ?_
      simp only [pickL, List.drop_succ_cons, List.drop_zero]
      refine rq_v (op_pure rfl) ?_
      refine rq_v (op_pure rfl) ?_
      refine rq_v (op_idx Try.underlying22 Try.sizeOf2 rfl rfl sa_d (by omega) (by omega)) ?_
      refine rq_r (fun wq hq => op_ldR Try.underlying2 rfl rfl ((S.gr hq).rd (i := 2) rfl) hdget) ?_
      refine rq_v (op_fieldAddr Try.underlying25 rfl Try.sizeOf22 rfl rfl) ?_
      refine rq_r (fun wq hq => op_loadB Try.underlying22 rfl rfl ((S.gr hq).blk (i := 0) rfl) rfl) ?_
      refine rq_v (op_pure rfl) ?_
      refine rq_v (op_idx Try.underlying22 Try.sizeOf2 rfl rfl sa_want (by omega) (by omega)) ?_
      refine rq_r (fun wq hq => op_ldR Try.underlying2 rfl rfl ((S.gr hq).rd (i := 1) rfl) (cellsQ_get hkn)) ?_
      refine rq_v (op_pure rfl) ?_
      refine rq_v (op_pure rfl) ?_
      refine rq_v (op_idx Try.underlying22 Try.sizeOf2 rfl rfl sa_A (by omega) (by omega)) ?_
      refine rq_r (fun wq hq => op_ldR Try.underlying2 rfl rfl (hA.gr (S.gr hq).out) hvget) ?_
      refine rq_v (op_rng rfl (by omega)) ?_
      first | refine rq_v (op_b (b := true) rfl (bne_iff_ne.2 (by omega))) ?_ | refine rq_v (op_b (b := false) rfl (bne_eq_false_iff_eq.2 (by omega))) ?_ | refine rq_v (op_pure rfl) ?_
      refine rq_nil ?_
      intro w16_ g16_
      have S := S.gr g16_
      first | refine rw_end ?_ | (refine rw_nil ?_; show CW _ _ _ _ _ _) | refine rw_nil ?_
      repeat refine cw_seq ?_
      refine cw_false rfl ?_
      repeat refine cw_seq ?_
      refine cw_skip ?_
      try show CW _ _ _ _ _ _
      repeat refine cw_seq ?_
      refine cw_region ?_
      refine rw_v (op_pure rfl) ?_
      refine rw_v (op_pure rfl) ?_
      refine rw_v (op_pure rfl) ?_
      refine rw_v (op_idx Try.underlying22 Try.sizeOf2 rfl rfl sa_d (by omega) (by omega)) ?_
      refine rw_r (op_ldR Try.underlying2 rfl rfl (S.rd (i := 2) rfl) hdget) ?_
      refine rw_v (op_rng rfl (by omega)) ?_
      refine rw_v (op_pure rfl) ?_
      first | refine rw_end ?_ | (refine rw_nil ?_; show CW _ _ _ _ _ _) | refine rw_nil ?_
      repeat refine cw_seq ?_
      refine cw_region ?_
      refine rw_v (op_pure rfl) ?_
      refine rw_v (op_rng rfl (by omega)) ?_
      refine rw_v (op_pure rfl) ?_
      first | refine rw_end ?_ | (refine rw_nil ?_; show CW _ _ _ _ _ _) | refine rw_nil ?_
      exact ⟨m - 1, by omega, k + 1, by omega, ⟨rfl, rfl, rfl, rfl, rfl, ie (by omega), trivial⟩, S⟩
    · try simp only [decide_eq_true_eq, decide_eq_false_iff_not, beq_iff_eq, bne_iff_ne, beq_eq_false_iff_ne, bne_eq_false_iff_eq, Bool.not_eq_true', Bool.not_eq_false', ne_eq, Decidable.not_not, Int.natCast_inj, Int.ofNat_lt, Int.ofNat_le, gt_iff_lt, ge_iff_le, Int.not_lt, Int.not_le] at hc
      obtain rfl : k = gw * gh := by omega
      repeat refine cw_seq ?_
      refine cw_exit ?_
      repeat first | refine exit_then ?_ | refine exit_inb ?_
      show CW _ _ _ _ _ _
      repeat refine cw_seq ?_
      refine cw_region ?_
      refine rw_v (op_pure rfl) ?_
      refine rw_v (op_pure rfl) ?_
      refine rw_v (op_b (b := true) rfl (beq_iff_eq.2 rfl)) ?_
      refine rw_v (op_pure rfl) ?_
      first | refine rw_end ?_ | (refine rw_nil ?_; show CW _ _ _ _ _ _) | refine rw_nil ?_
      repeat refine cw_seq ?_
      refine cw_ret ?_
      repeat first | refine ret_then ?_ | refine ret_inb ?_
      exact res1 rfl ⟨rfl, S.out⟩
  · skip
    have G := Gr.refl W
    have S := St.start W
    refine Fn_enter Try.func9 rfl Try.results9 Try.ntmps9 (by kernel_rfl) (by kernel_rfl) ?_
    repeat refine cw_seq ?_
    refine cw_region ?_
    refine rw_v (op_pure rfl) ?_
    first | refine rw_end ?_ | (refine rw_nil ?_; show CW _ _ _ _ _ _) | refine rw_nil ?_
    repeat refine cw_seq ?_
    refine cw_region ?_
    refine rw_call rfl (awake45_E W) ?_
    rintro _ w1_ ⟨rfl, g1_⟩
    have S := S.gr g1_
    refine rw_v (op_pure rfl) ?_
    first | refine rw_end ?_ | (refine rw_nil ?_; show CW _ _ _ _ _ _) | refine rw_nil ?_
    repeat refine cw_seq ?_
    refine cw_false rfl ?_
    repeat refine cw_seq ?_
    refine cw_skip ?_
    try show CW _ _ _ _ _ _
    repeat refine cw_seq ?_
    refine cw_region ?_
    refine rw_v (op_pure rfl) ?_
    refine rw_v (op_pure rfl) ?_
    refine rw_v (op_pure rfl) ?_
    refine rw_call rfl (landNo_E w h 400 cap (by omega) hl hok (hA.gr S.out)) ?_
    rintro _ w2_ ⟨rfl, g2_⟩
    have S := S.gr g2_
    refine rw_v (op_pure rfl) ?_
    refine rw_v (op_pure rfl) ?_
    refine rw_v (op_pure rfl) ?_
    refine rw_newB (op_alloc Try.zeroValue25 rfl) S ?_
    intro b_b3 w4_ g4_ S
    refine rw_storeSA (i := 0) S rfl (Try.sizeOf25 _) rfl rfl rfl rfl rfl rfl ?_
    intro w5_ S
    refine rw_v (op_pure rfl) ?_
    first | refine rw_end ?_ | (refine rw_nil ?_; show CW _ _ _ _ _ _) | refine rw_nil ?_
    repeat refine cw_seq ?_
    refine cw_region ?_
    refine rw_v (op_pure rfl) ?_
    refine rw_v (op_pure rfl) ?_
    first | refine rw_end ?_ | (refine rw_nil ?_; show CW _ _ _ _ _ _) | refine rw_nil ?_
    repeat refine cw_seq ?_
    refine cw_true rfl ?_
    repeat refine cw_seq ?_
    refine cw_region ?_
    refine rw_v (op_pure rfl) ?_
    first | refine rw_end ?_ | (refine rw_nil ?_; show CW _ _ _ _ _ _) | refine rw_nil ?_
    repeat refine cw_seq ?_
    refine cw_ret ?_
    repeat first | refine ret_then ?_ | refine ret_inb ?_
    exact res1 rfl ⟨rfl, S.out⟩
end
end Go.Proofs.Ytmdkjohllinphaa
