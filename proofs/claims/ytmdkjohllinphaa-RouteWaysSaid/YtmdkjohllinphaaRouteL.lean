/- hachurelaw32: RouteFinds, RouteCosts. -/
import Derived.Test.YtmdkjohllinphaaRouteE
namespace Go.Proofs.Ytmdkjohllinphaa
open Go.RowKit
set_option linter.unusedVariables false
set_option linter.unusedSimpArgs false
set_option maxRecDepth 100000

/-- a cell of a grid, by its place -/
theorem inG_cz {gw gh : Nat} {x y : Int} (h : inG gw gh (x, y) = true) : ∃ i, i < gw * gh ∧ x = (i % gw : Nat) ∧ y = (i / gw : Nat) := by
  have hin := inG_iff.1 h
  dsimp only at hin
  obtain ⟨a, rfl⟩ := Int.eq_ofNat_of_zero_le hin.1
  obtain ⟨b, rfl⟩ := Int.eq_ofNat_of_zero_le hin.2.2.1
  have hs := cell_split (gw := gw) (X := a) (Y := b) (by omega)
  have h1 : (b + 1) * gw ≤ gh * gw := Nat.mul_le_mul_right _ (by omega)
  rw [Nat.succ_mul, Nat.mul_comm gh] at h1
  exact ⟨b * gw + a, by omega, by rw [hs.1], by rw [hs.2]⟩
theorem Row.small {w : World} {el k n c : Nat} {A : Option Addr} {xs : List Value} (h : Row w el k A n c xs) : n ≤ maxLen := by
  rcases h.form with ⟨_, rfl, _⟩ | ⟨_, _, _, _, h1, _, _, h2⟩
  · exact Nat.zero_le _
  · exact Nat.le_trans h1 h2
section
variable {W : World} {A : Option Addr} {V : List Int}
set_option maxHeartbeats 4000000 in
theorem routeFinds_E (w h px py qx qy : Int) (cap : Nat) (hl : V.length ≤ 9223372036854775807) (hA : Rd W A (ints V)) :
    Fn Try.prog 5 [.int .i64 w, .int .i64 h, .slice A V.length cap, .agg #[.int .i64 px, .int .i64 py], .agg #[.int .i64 qx, .int .i64 qy]] W (RetG (.bool true) W) := by
  by_cases hok : LandOk w h V 400
  · obtain ⟨gw, rfl⟩ := Int.eq_ofNat_of_zero_le (show 0 ≤ w by have := hok.w1; omega)
    obtain ⟨gh, rfl⟩ := Int.eq_ofNat_of_zero_le (show 0 ≤ h by have := hok.h1; omega)
    have hw : 1 ≤ gw ∧ gw ≤ 1024 := by have := hok.w1; have := hok.wm; omega
    have hh : 1 ≤ gh ∧ gh ≤ 1024 := by have := hok.h1; have := hok.hm; omega
    have hmi : (gw : Int) * gh = ((gw * gh : Nat) : Int) := by push_cast; rfl
    have hVg : V.length = gw * gh := by have := hok.len; rw [hmi] at this; omega
    have hm : gw * gh ≤ 400 := by have := hok.area; rw [hmi] at this; omega
    have hmay := hok.may
    have hB := vB_of_may hmay
    have hGl := gridL_made hVg
    by_cases hin : inG gw gh (px, py) = true ∧ inG gw gh (qx, qy) = true
    · obtain ⟨a, ha, rfl, rfl⟩ := inG_cz hin.1
      obtain ⟨b, hb, rfl, rfl⟩ := inG_cz hin.2
      have G := Gr.refl W
      have S := St.start W
      refine Fn_enter Try.func5 rfl Try.results5 Try.ntmps5 (by kernel_rfl) (by kernel_rfl) ?_
      repeat refine cw_seq ?_
      refine cw_region ?_
      refine rw_newB (op_box rfl) S ?_
      intro b_ca w2_ g2_ S
      refine rw_newB (op_box rfl) S ?_
      intro b_cb w4_ g4_ S
      refine rw_v (op_pure rfl) ?_
      first | refine rw_end ?_ | (refine rw_nil ?_; show CW _ _ _ _ _ _) | refine rw_nil ?_
      repeat refine cw_seq ?_
      refine cw_region ?_
      refine rw_call rfl (awake32_E w4_) ?_
      rintro _ w5_ ⟨rfl, g5_⟩
      have S := S.gr g5_
      refine rw_v (op_pure rfl) ?_
      first | refine rw_end ?_ | (refine rw_nil ?_; show CW _ _ _ _ _ _) | refine rw_nil ?_
      repeat refine cw_seq ?_
      refine cw_false rfl ?_
      repeat refine cw_seq ?_
      refine cw_skip ?_
      try show CW _ _ _ _ _ _
      repeat refine cw_seq ?_
      refine cw_region ?_
      refine rw_v (op_pure rfl) ?_
      refine rw_v (op_pure rfl) ?_
      refine rw_v (op_pure rfl) ?_
      refine rw_call rfl (land_E gw gh 400 cap (by omega) hok (hA.gr S.out)) ?_
      rintro _ w6_ ⟨rfl, g6_⟩
      have S := S.gr g6_
      refine rw_v (op_pure rfl) ?_
      refine rw_v (op_pure rfl) ?_
      refine rw_v (op_pure rfl) ?_
      refine rw_newB (op_alloc Try.zeroValue25 rfl) S ?_
      intro b_md w8_ g8_ S
      refine rw_storeSA (i := 0) S rfl (Try.sizeOf25 _) rfl rfl rfl rfl rfl rfl ?_
      intro w9_ S
      refine rw_v (op_pure rfl) ?_
      first | refine rw_end ?_ | (refine rw_nil ?_; show CW _ _ _ _ _ _) | refine rw_nil ?_
      repeat refine cw_seq ?_
      refine cw_region ?_
      refine rw_v (op_pure rfl) ?_
      refine rw_v (op_pure rfl) ?_
      first | refine rw_end ?_ | (refine rw_nil ?_; show CW _ _ _ _ _ _) | refine rw_nil ?_
      repeat refine cw_seq ?_
      refine cw_false rfl ?_
      repeat refine cw_seq ?_
      refine cw_skip ?_
      try show CW _ _ _ _ _ _
      repeat refine cw_seq ?_
      refine cw_region ?_
      refine rw_v (op_pure rfl) ?_
      refine rw_v (op_pure rfl) ?_
      refine rw_v (op_pure rfl) ?_
      refine rw_call rfl (made_E gw gh cap hw hh hVg hmay (hA.gr S.out)) ?_
      rintro _ w10_ ⟨p, B, bc, bs, Rs, rfl, hG, hf, g10_⟩
      have S := S.gr g10_
      refine rw_v (op_pure rfl) ?_
      refine rw_v (op_pure rfl) ?_
      refine rw_v (op_pure rfl) ?_
      refine rw_v (op_pure rfl) ?_
      refine rw_v (op_pure rfl) ?_
      first | refine rw_end ?_ | (refine rw_nil ?_; show CW _ _ _ _ _ _) | refine rw_nil ?_
      repeat refine cw_seq ?_
      refine cw_region ?_
      refine rw_v (op_pure rfl) ?_
      refine rw_v (op_pure rfl) ?_
      first | refine rw_end ?_ | (refine rw_nil ?_; show CW _ _ _ _ _ _) | refine rw_nil ?_
      repeat refine cw_seq ?_
      refine cw_false rfl ?_
      repeat refine cw_seq ?_
      refine cw_skip ?_
      try show CW _ _ _ _ _ _
      repeat refine cw_seq ?_
      refine cw_region ?_
      refine rw_v (op_pure rfl) ?_
      refine rw_r (op_loadAB Try.underlying36 rfl (Try.sizeOf36 _) rfl (S.blk (i := 2) rfl) rfl rfl) ?_
      refine rw_r (op_loadAB Try.underlying36 rfl (Try.sizeOf36 _) rfl (S.blk (i := 1) rfl) rfl rfl) ?_
      refine rw_call rfl (rFind_E a b ha hb (by rw [hGl]; exact hB) hG) ?_
      rintro _ w11_ ⟨d, hd, A_r, c_r, rfl, hR, hFr, g11_⟩
      rw [hGl] at hd hR
      rw [hGl]
      have S := S.pushRow hR hFr g11_
      refine rw_v (op_pure rfl) ?_
      refine rw_v (op_pure rfl) ?_
      refine rw_v (op_pure rfl) ?_
      refine rw_v (op_pure rfl) ?_
      refine rw_v (op_pure rfl) ?_
      refine rw_v (op_pure rfl) ?_
      refine rw_v (op_pure rfl) ?_
      first | refine rw_end ?_ | (refine rw_nil ?_; show CW _ _ _ _ _ _) | refine rw_nil ?_
      repeat refine cw_seq ?_
      refine cw_region ?_
      refine rw_r (op_loadAB Try.underlying25 rfl (Try.sizeOf25 _) rfl (S.blk (i := 1) rfl) rfl rfl) ?_
      refine rw_r (op_loadAB Try.underlying36 rfl (Try.sizeOf36 _) rfl (S.blk (i := 3) rfl) rfl rfl) ?_
      refine rw_r (op_loadAB Try.underlying36 rfl (Try.sizeOf36 _) rfl (S.blk (i := 2) rfl) rfl rfl) ?_
      refine rw_call rfl (mayOk_E _ _ _ _ hin.1 hin.2 hVg (by omega) (hA.gr S.out)) ?_
      rintro _ w12_ ⟨rfl, g12_⟩
      have S := S.gr g12_
      refine rw_v (op_pure rfl) ?_
      first | refine rw_end ?_ | (refine rw_nil ?_; show CW _ _ _ _ _ _) | refine rw_nil ?_
      repeat refine cw_seq ?_
      refine cw_region ?_
      refine rw_v (op_pure rfl) ?_
      refine rw_v (op_b (b := false) rfl (bne_eq_false_iff_eq.2 (by omega))) ?_
      first | refine rw_end ?_ | (refine rw_nil ?_; show CW _ _ _ _ _ _) | refine rw_nil ?_
      repeat refine cw_seq ?_
      refine cw_false rfl ?_
      repeat refine cw_seq ?_
      refine cw_skip ?_
      try show CW _ _ _ _ _ _
      repeat refine cw_seq ?_
      refine cw_region ?_
      refine rw_r (op_loadAB Try.underlying25 rfl (Try.sizeOf25 _) rfl (S.blk (i := 1) rfl) rfl rfl) ?_
      refine rw_r (op_loadAB Try.underlying36 rfl (Try.sizeOf36 _) rfl (S.blk (i := 3) rfl) rfl rfl) ?_
      refine rw_r (op_loadAB Try.underlying36 rfl (Try.sizeOf36 _) rfl (S.blk (i := 2) rfl) rfl rfl) ?_
      refine rw_call rfl (rfindR_E a b d hw hh hVg (by omega) ha hb hB hd (hA.gr S.out)) ?_
      rintro _ w13_ ⟨A_want, c_want, rfl, hR_want, hf_want, g13_⟩
      have S := S.pushRow hR_want hf_want g13_
      refine rw_v (op_pure rfl) ?_
      refine rw_v (op_pure rfl) ?_
      refine rw_v (op_pure rfl) ?_
      refine rw_v (op_pure rfl) ?_
      refine rw_v (op_pure rfl) ?_
      first | refine rw_end ?_ | (refine rw_nil ?_; show CW _ _ _ _ _ _) | refine rw_nil ?_
      have hlr := hR.small
      generalize routeL gw V d b a = Lr at *
      have hsc : ∀ (A1 A2 : Option Addr) (c1 c2 : Nat) (w : World), Rd w A1 (cellsZ (Lr.map (cz gw))) → Rd w A2 (cellsZ (Lr.map (cz gw))) → Fn Try.prog 30 [.slice A1 Lr.length c1, .slice A2 Lr.length c2] w (RetG (.bool true) w) := fun A1 A2 c1 c2 w h1 h2 => by
        have := rcells_E A1 A2 c1 c2 (Lr.map (cz gw)) (Lr.map (cz gw)) w (by rw [List.length_map]; unfold maxLen at hlr; omega) h1 h2
        rw [List.length_map, decide_eq_true rfl] at this
        exact this
      repeat refine cw_seq ?_
      refine cw_region ?_
      refine rw_v (op_pure rfl) ?_
      first | refine rw_v (op_b (b := true) rfl (beq_iff_eq.2 (by omega))) ?_ | refine rw_v (op_b (b := false) rfl (beq_eq_false_iff_ne.2 (by omega))) ?_ | refine rw_v (op_pure rfl) ?_
      refine rw_v (op_pure rfl) ?_
      first | refine rw_off rfl ?_ | (refine rw_on rfl ?_; refine rw_v (op_pure rfl) ?_)
      first | refine rw_off rfl ?_ | (refine rw_on rfl ?_; refine rw_v (op_pure rfl) ?_)
      first | refine rw_off rfl ?_ | (refine rw_on rfl ?_; (first | refine rw_v (op_b (b := true) rfl (beq_iff_eq.2 (by omega))) ?_ | refine rw_v (op_b (b := false) rfl (beq_eq_false_iff_ne.2 (by omega))) ?_ | refine rw_v (op_pure rfl) ?_))
      refine rw_v (op_pure rfl) ?_
      refine rw_v (op_pure rfl) ?_
      first | refine rw_off rfl ?_ | (refine rw_on rfl ?_; refine rw_v (op_pure rfl) ?_)
      first | refine rw_off rfl ?_ | (refine rw_on rfl ?_; refine rw_v (op_pure rfl) ?_)
      refine rw_on rfl ?_
      refine rw_call rfl (hsc A_r A_want c_r c_want w13_ (S.rd (i := 1) rfl) (S.rd (i := 0) rfl)) ?_
      rintro _ w14_ ⟨rfl, g14_⟩
      have S := S.gr g14_
      refine rw_v (op_pure rfl) ?_
      refine rw_v (op_pure rfl) ?_
      first | refine rw_end ?_ | (refine rw_nil ?_; show CW _ _ _ _ _ _) | refine rw_nil ?_
      repeat refine cw_seq ?_
      refine cw_ret ?_
      repeat first | refine ret_then ?_ | refine ret_inb ?_
      exact res1 rfl ⟨rfl, S.out⟩
    · have hno : inG gw gh (px, py) = false ∨ inG gw gh (qx, qy) = false := by
        cases h1 : inG gw gh (px, py) with
        | false => exact .inl rfl
        | true => cases h2 : inG gw gh (qx, qy) with
          | false => exact .inr rfl
          | true => exact absurd ⟨h1, h2⟩ hin
      have G := Gr.refl W
      have S := St.start W
      refine Fn_enter Try.func5 rfl Try.results5 Try.ntmps5 (by kernel_rfl) (by kernel_rfl) ?_
      repeat refine cw_seq ?_
      refine cw_region ?_
      refine rw_newB (op_box rfl) S ?_
      intro b_ca w2_ g2_ S
      refine rw_newB (op_box rfl) S ?_
      intro b_cb w4_ g4_ S
      refine rw_v (op_pure rfl) ?_
      first | refine rw_end ?_ | (refine rw_nil ?_; show CW _ _ _ _ _ _) | refine rw_nil ?_
      repeat refine cw_seq ?_
      refine cw_region ?_
      refine rw_call rfl (awake32_E w4_) ?_
      rintro _ w5_ ⟨rfl, g5_⟩
      have S := S.gr g5_
      refine rw_v (op_pure rfl) ?_
      first | refine rw_end ?_ | (refine rw_nil ?_; show CW _ _ _ _ _ _) | refine rw_nil ?_
      repeat refine cw_seq ?_
      refine cw_false rfl ?_
      repeat refine cw_seq ?_
      refine cw_skip ?_
      try show CW _ _ _ _ _ _
      repeat refine cw_seq ?_
      refine cw_region ?_
      refine rw_v (op_pure rfl) ?_
      refine rw_v (op_pure rfl) ?_
      refine rw_v (op_pure rfl) ?_
      refine rw_call rfl (land_E gw gh 400 cap (by omega) hok (hA.gr S.out)) ?_
      rintro _ w6_ ⟨rfl, g6_⟩
      have S := S.gr g6_
      refine rw_v (op_pure rfl) ?_
      refine rw_v (op_pure rfl) ?_
      refine rw_v (op_pure rfl) ?_
      refine rw_newB (op_alloc Try.zeroValue25 rfl) S ?_
      intro b_md w8_ g8_ S
      refine rw_storeSA (i := 0) S rfl (Try.sizeOf25 _) rfl rfl rfl rfl rfl rfl ?_
      intro w9_ S
      refine rw_v (op_pure rfl) ?_
      first | refine rw_end ?_ | (refine rw_nil ?_; show CW _ _ _ _ _ _) | refine rw_nil ?_
      repeat refine cw_seq ?_
      refine cw_region ?_
      refine rw_v (op_pure rfl) ?_
      refine rw_v (op_pure rfl) ?_
      first | refine rw_end ?_ | (refine rw_nil ?_; show CW _ _ _ _ _ _) | refine rw_nil ?_
      repeat refine cw_seq ?_
      refine cw_false rfl ?_
      repeat refine cw_seq ?_
      refine cw_skip ?_
      try show CW _ _ _ _ _ _
      repeat refine cw_seq ?_
      refine cw_region ?_
      refine rw_v (op_pure rfl) ?_
      refine rw_v (op_pure rfl) ?_
      refine rw_v (op_pure rfl) ?_
      refine rw_call rfl (made_E gw gh cap hw hh hVg hmay (hA.gr S.out)) ?_
      rintro _ w10_ ⟨p, B, bc, bs, Rs, rfl, hG, hf, g10_⟩
      have S := S.gr g10_
      refine rw_v (op_pure rfl) ?_
      refine rw_v (op_pure rfl) ?_
      refine rw_v (op_pure rfl) ?_
      refine rw_v (op_pure rfl) ?_
      refine rw_v (op_pure rfl) ?_
      first | refine rw_end ?_ | (refine rw_nil ?_; show CW _ _ _ _ _ _) | refine rw_nil ?_
      repeat refine cw_seq ?_
      refine cw_region ?_
      refine rw_v (op_pure rfl) ?_
      refine rw_v (op_pure rfl) ?_
      first | refine rw_end ?_ | (refine rw_nil ?_; show CW _ _ _ _ _ _) | refine rw_nil ?_
      repeat refine cw_seq ?_
      refine cw_false rfl ?_
      repeat refine cw_seq ?_
      refine cw_skip ?_
      try show CW _ _ _ _ _ _
      repeat refine cw_seq ?_
      refine cw_region ?_
      refine rw_v (op_pure rfl) ?_
      refine rw_r (op_loadAB Try.underlying36 rfl (Try.sizeOf36 _) rfl (S.blk (i := 2) rfl) rfl rfl) ?_
      refine rw_r (op_loadAB Try.underlying36 rfl (Try.sizeOf36 _) rfl (S.blk (i := 1) rfl) rfl rfl) ?_
      refine rw_call rfl (rFindNo_E _ _ _ _ hG hno) ?_
      rintro _ w11_ ⟨rfl, g11_⟩
      have S := S.gr g11_
      refine rw_v (op_pure rfl) ?_
      refine rw_v (op_pure rfl) ?_
      refine rw_v (op_pure rfl) ?_
      refine rw_v (op_pure rfl) ?_
      refine rw_v (op_pure rfl) ?_
      refine rw_v (op_pure rfl) ?_
      refine rw_v (op_pure rfl) ?_
      first | refine rw_end ?_ | (refine rw_nil ?_; show CW _ _ _ _ _ _) | refine rw_nil ?_
      repeat refine cw_seq ?_
      refine cw_region ?_
      refine rw_r (op_loadAB Try.underlying25 rfl (Try.sizeOf25 _) rfl (S.blk (i := 0) rfl) rfl rfl) ?_
      refine rw_r (op_loadAB Try.underlying36 rfl (Try.sizeOf36 _) rfl (S.blk (i := 2) rfl) rfl rfl) ?_
      refine rw_r (op_loadAB Try.underlying36 rfl (Try.sizeOf36 _) rfl (S.blk (i := 1) rfl) rfl rfl) ?_
      refine rw_call rfl (mayNo_E _ _ _ _ hno hVg (by omega) (hA.gr S.out)) ?_
      rintro _ w12_ ⟨rfl, g12_⟩
      have S := S.gr g12_
      refine rw_v (op_pure rfl) ?_
      first | refine rw_end ?_ | (refine rw_nil ?_; show CW _ _ _ _ _ _) | refine rw_nil ?_
      repeat refine cw_seq ?_
      refine cw_region ?_
      refine rw_v (op_pure rfl) ?_
      refine rw_v (op_b (b := true) rfl (bne_iff_ne.2 (by omega))) ?_
      first | refine rw_end ?_ | (refine rw_nil ?_; show CW _ _ _ _ _ _) | refine rw_nil ?_
      repeat refine cw_seq ?_
      refine cw_true rfl ?_
      repeat refine cw_seq ?_
      refine cw_region ?_
      refine rw_v (op_pure rfl) ?_
      first | refine rw_v (op_b (b := true) rfl (beq_iff_eq.2 (by omega))) ?_ | refine rw_v (op_b (b := false) rfl (beq_eq_false_iff_ne.2 (by omega))) ?_ | refine rw_v (op_pure rfl) ?_
      refine rw_v (op_pure rfl) ?_
      first | refine rw_off rfl ?_ | (refine rw_on rfl ?_; refine rw_v (op_pure rfl) ?_)
      first | refine rw_off rfl ?_ | (refine rw_on rfl ?_; refine rw_v (op_len Try.underlying41 rfl) ?_)
      first | refine rw_off rfl ?_ | (refine rw_on rfl ?_; (first | refine rw_v (op_b (b := true) rfl (beq_iff_eq.2 (by omega))) ?_ | refine rw_v (op_b (b := false) rfl (beq_eq_false_iff_ne.2 (by omega))) ?_ | refine rw_v (op_pure rfl) ?_))
      refine rw_v (op_pure rfl) ?_
      refine rw_v (op_pure rfl) ?_
      first | refine rw_off rfl ?_ | (refine rw_on rfl ?_; refine rw_v (op_pure rfl) ?_)
      first | refine rw_off rfl ?_ | (refine rw_on rfl ?_; refine rw_v (op_pure rfl) ?_)
      first | refine rw_off rfl ?_ | (refine rw_on rfl ?_; (first | refine rw_v (op_b (b := true) rfl (beq_iff_eq.2 (by omega))) ?_ | refine rw_v (op_b (b := false) rfl (beq_eq_false_iff_ne.2 (by omega))) ?_ | refine rw_v (op_pure rfl) ?_))
      refine rw_v (op_pure rfl) ?_
      refine rw_v (op_pure rfl) ?_
      first | refine rw_end ?_ | (refine rw_nil ?_; show CW _ _ _ _ _ _) | refine rw_nil ?_
      repeat refine cw_seq ?_
      refine cw_ret ?_
      repeat first | refine ret_then ?_ | refine ret_inb ?_
      exact res1 rfl ⟨rfl, S.out⟩
  · skip
    have G := Gr.refl W
    have S := St.start W
    refine Fn_enter Try.func5 rfl Try.results5 Try.ntmps5 (by kernel_rfl) (by kernel_rfl) ?_
    repeat refine cw_seq ?_
    refine cw_region ?_
    refine rw_newB (op_box rfl) S ?_
    intro b_ca w2_ g2_ S
    refine rw_newB (op_box rfl) S ?_
    intro b_cb w4_ g4_ S
    refine rw_v (op_pure rfl) ?_
    first | refine rw_end ?_ | (refine rw_nil ?_; show CW _ _ _ _ _ _) | refine rw_nil ?_
    repeat refine cw_seq ?_
    refine cw_region ?_
    refine rw_call rfl (awake32_E w4_) ?_
    rintro _ w5_ ⟨rfl, g5_⟩
    have S := S.gr g5_
    refine rw_v (op_pure rfl) ?_
    first | refine rw_end ?_ | (refine rw_nil ?_; show CW _ _ _ _ _ _) | refine rw_nil ?_
    repeat refine cw_seq ?_
    refine cw_false rfl ?_
    repeat refine cw_seq ?_
    refine cw_skip ?_
    try show CW _ _ _ _ _ _
    repeat refine cw_seq ?_
    refine cw_region ?_
    refine rw_v (op_pure rfl) ?_
    refine rw_v (op_pure rfl) ?_
    refine rw_v (op_pure rfl) ?_
    refine rw_call rfl (landNo_E w h 400 cap (by omega) hl hok (hA.gr S.out)) ?_
    rintro _ w6_ ⟨rfl, g6_⟩
    have S := S.gr g6_
    refine rw_v (op_pure rfl) ?_
    refine rw_v (op_pure rfl) ?_
    refine rw_v (op_pure rfl) ?_
    refine rw_newB (op_alloc Try.zeroValue25 rfl) S ?_
    intro b_b7 w8_ g8_ S
    refine rw_storeSA (i := 0) S rfl (Try.sizeOf25 _) rfl rfl rfl rfl rfl rfl ?_
    intro w9_ S
    refine rw_v (op_pure rfl) ?_
    first | refine rw_end ?_ | (refine rw_nil ?_; show CW _ _ _ _ _ _) | refine rw_nil ?_
    repeat refine cw_seq ?_
    refine cw_region ?_
    refine rw_v (op_pure rfl) ?_
    refine rw_v (op_pure rfl) ?_
    first | refine rw_end ?_ | (refine rw_nil ?_; show CW _ _ _ _ _ _) | refine rw_nil ?_
    repeat refine cw_seq ?_
    refine cw_true rfl ?_
    repeat refine cw_seq ?_
    refine cw_region ?_
    refine rw_v (op_pure rfl) ?_
    first | refine rw_end ?_ | (refine rw_nil ?_; show CW _ _ _ _ _ _) | refine rw_nil ?_
    repeat refine cw_seq ?_
    refine cw_ret ?_
    repeat first | refine ret_then ?_ | refine ret_inb ?_
    exact res1 rfl ⟨rfl, S.out⟩
theorem withinL_congr {n : Nat} {d d' : Nat → Int} {most : Int} (h : ∀ i, i < n → d i = d' i) : withinL n d most = withinL n d' most := by
  unfold withinL
  refine List.filter_congr fun i hi => ?_
  rw [h i (List.mem_range.1 hi)]
set_option maxHeartbeats 8000000 in
theorem routeCosts_E (w h px py most : Int) (cap : Nat) (hl : V.length ≤ 9223372036854775807) (hA : Rd W A (ints V)) :
    Fn Try.prog 8 [.int .i64 w, .int .i64 h, .slice A V.length cap, .agg #[.int .i64 px, .int .i64 py], .int .i64 most] W (RetG (.bool true) W) := by
  by_cases hok : LandOk w h V 400
  · obtain ⟨gw, rfl⟩ := Int.eq_ofNat_of_zero_le (show 0 ≤ w by have := hok.w1; omega)
    obtain ⟨gh, rfl⟩ := Int.eq_ofNat_of_zero_le (show 0 ≤ h by have := hok.h1; omega)
    have hw : 1 ≤ gw ∧ gw ≤ 1024 := by have := hok.w1; have := hok.wm; omega
    have hh : 1 ≤ gh ∧ gh ≤ 1024 := by have := hok.h1; have := hok.hm; omega
    have hmi : (gw : Int) * gh = ((gw * gh : Nat) : Int) := by push_cast; rfl
    have hVg : V.length = gw * gh := by have := hok.len; rw [hmi] at this; omega
    have hm : gw * gh ≤ 400 := by have := hok.area; rw [hmi] at this; omega
    have hmay := hok.may
    have hB := vB_of_may hmay
    have hGl := gridL_made hVg
    cases hin : inG gw gh (px, py) with
    | true =>
      have hin0 := hin
      obtain ⟨a, ha, rfl, rfl⟩ := inG_cz hin
      have G := Gr.refl W
      have S := St.start W
      refine Fn_enter Try.func8 rfl Try.results8 Try.ntmps8 (by kernel_rfl) (by kernel_rfl) ?_
      repeat refine cw_seq ?_
      refine cw_region ?_
      refine rw_newB (op_box rfl) S ?_
      intro b_ca w2_ g2_ S
      refine rw_v (op_pure rfl) ?_
      first | refine rw_end ?_ | (refine rw_nil ?_; show CW _ _ _ _ _ _) | refine rw_nil ?_
      repeat refine cw_seq ?_
      refine cw_region ?_
      refine rw_call rfl (awake32_E w2_) ?_
      rintro _ w3_ ⟨rfl, g3_⟩
      have S := S.gr g3_
      refine rw_v (op_pure rfl) ?_
      first | refine rw_end ?_ | (refine rw_nil ?_; show CW _ _ _ _ _ _) | refine rw_nil ?_
      repeat refine cw_seq ?_
      refine cw_false rfl ?_
      repeat refine cw_seq ?_
      refine cw_skip ?_
      try show CW _ _ _ _ _ _
      repeat refine cw_seq ?_
      refine cw_region ?_
      refine rw_v (op_pure rfl) ?_
      refine rw_v (op_pure rfl) ?_
      refine rw_v (op_pure rfl) ?_
      refine rw_call rfl (land_E gw gh 400 cap (by omega) hok (hA.gr S.out)) ?_
      rintro _ w4_ ⟨rfl, g4_⟩
      have S := S.gr g4_
      refine rw_v (op_pure rfl) ?_
      refine rw_v (op_pure rfl) ?_
      refine rw_v (op_pure rfl) ?_
      refine rw_newB (op_alloc Try.zeroValue25 rfl) S ?_
      intro b_md w6_ g6_ S
      refine rw_storeSA (i := 0) S rfl (Try.sizeOf25 _) rfl rfl rfl rfl rfl rfl ?_
      intro w7_ S
      refine rw_v (op_pure rfl) ?_
      first | refine rw_end ?_ | (refine rw_nil ?_; show CW _ _ _ _ _ _) | refine rw_nil ?_
      repeat refine cw_seq ?_
      refine cw_region ?_
      refine rw_v (op_pure rfl) ?_
      refine rw_v (op_pure rfl) ?_
      first | refine rw_end ?_ | (refine rw_nil ?_; show CW _ _ _ _ _ _) | refine rw_nil ?_
      repeat refine cw_seq ?_
      refine cw_false rfl ?_
      repeat refine cw_seq ?_
      refine cw_skip ?_
      try show CW _ _ _ _ _ _
      repeat refine cw_seq ?_
      refine cw_region ?_
      refine rw_v (op_pure rfl) ?_
      refine rw_v (op_pure rfl) ?_
      refine rw_v (op_pure rfl) ?_
      refine rw_call rfl (made_E gw gh cap hw hh hVg hmay (hA.gr S.out)) ?_
      rintro _ w8_ ⟨p, B, bc, bs, Rs, rfl, hG, hf, g8_⟩
      have S := S.gr g8_
      refine rw_v (op_pure rfl) ?_
      refine rw_v (op_pure rfl) ?_
      refine rw_v (op_pure rfl) ?_
      refine rw_v (op_pure rfl) ?_
      refine rw_v (op_pure rfl) ?_
      first | refine rw_end ?_ | (refine rw_nil ?_; show CW _ _ _ _ _ _) | refine rw_nil ?_
      repeat refine cw_seq ?_
      refine cw_region ?_
      refine rw_v (op_pure rfl) ?_
      refine rw_v (op_pure rfl) ?_
      first | refine rw_end ?_ | (refine rw_nil ?_; show CW _ _ _ _ _ _) | refine rw_nil ?_
      repeat refine cw_seq ?_
      refine cw_false rfl ?_
      repeat refine cw_seq ?_
      refine cw_skip ?_
      try show CW _ _ _ _ _ _
      repeat refine cw_seq ?_
      refine cw_region ?_
      refine rw_v (op_pure rfl) ?_
      refine rw_r (op_loadAB Try.underlying36 rfl (Try.sizeOf36 _) rfl (S.blk (i := 1) rfl) rfl rfl) ?_
      refine rw_call rfl (rCosts_E a ha (by rw [hGl]; exact hB) hG) ?_
      rintro _ w9_ ⟨d, hd, A_l, c_l, rfl, hRl, hFl, g9_⟩
      rw [hGl] at hd
      have S := S.pushRow hRl hFl g9_
      have hG := hG.gr g9_
      refine rw_v (op_pure rfl) ?_
      refine rw_v (op_pure rfl) ?_
      refine rw_v (op_pure rfl) ?_
      refine rw_v (op_pure rfl) ?_
      refine rw_v (op_pure rfl) ?_
      first | refine rw_end ?_ | (refine rw_nil ?_; show CW _ _ _ _ _ _) | refine rw_nil ?_
      repeat refine cw_seq ?_
      refine cw_region ?_
      refine rw_v (op_pure rfl) ?_
      refine rw_r (op_loadAB Try.underlying36 rfl (Try.sizeOf36 _) rfl (S.blk (i := 2) rfl) rfl rfl) ?_
      refine rw_v (op_pure rfl) ?_
      refine rw_call rfl (rWithin_E a most ha (by rw [hGl]; exact hB) hG) ?_
      rintro _ w10_ ⟨d2, hd2, A_c, c_c, rfl, hRc, hFc, g10_⟩
      rw [hGl] at hd2
      have hww : withinL (gw * gh) d2 most = withinL (gw * gh) d most := withinL_congr (fun i hi => hd2.uniq hd (by omega))
      rw [hww] at hRc
      rw [hww]
      have S := S.pushRow hRc hFc g10_
      refine rw_v (op_pure rfl) ?_
      refine rw_v (op_pure rfl) ?_
      refine rw_v (op_pure rfl) ?_
      refine rw_v (op_pure rfl) ?_
      refine rw_v (op_pure rfl) ?_
      first | refine rw_end ?_ | (refine rw_nil ?_; show CW _ _ _ _ _ _) | refine rw_nil ?_
      repeat refine cw_seq ?_
      refine cw_region ?_
      refine rw_r (op_loadAB Try.underlying25 rfl (Try.sizeOf25 _) rfl (S.blk (i := 2) rfl) rfl rfl) ?_
      refine rw_r (op_loadAB Try.underlying36 rfl (Try.sizeOf36 _) rfl (S.blk (i := 3) rfl) rfl rfl) ?_
      refine rw_r (op_loadAB Try.underlying36 rfl (Try.sizeOf36 _) rfl (S.blk (i := 3) rfl) rfl rfl) ?_
      refine rw_call rfl (mayOk_E _ _ _ _ hin0 hin0 hVg (by omega) (hA.gr S.out)) ?_
      rintro _ w11_ ⟨rfl, g11_⟩
      have S := S.gr g11_
      refine rw_v (op_pure rfl) ?_
      first | refine rw_end ?_ | (refine rw_nil ?_; show CW _ _ _ _ _ _) | refine rw_nil ?_
      repeat refine cw_seq ?_
      refine cw_region ?_
      refine rw_v (op_pure rfl) ?_
      refine rw_v (op_b (b := false) rfl (bne_eq_false_iff_eq.2 (by omega))) ?_
      first | refine rw_end ?_ | (refine rw_nil ?_; show CW _ _ _ _ _ _) | refine rw_nil ?_
      repeat refine cw_seq ?_
      refine cw_false rfl ?_
      repeat refine cw_seq ?_
      refine cw_skip ?_
      try show CW _ _ _ _ _ _
      repeat refine cw_seq ?_
      refine cw_region ?_
      refine rw_r (op_loadAB Try.underlying25 rfl (Try.sizeOf25 _) rfl (S.blk (i := 2) rfl) rfl rfl) ?_
      refine rw_r (op_loadAB Try.underlying36 rfl (Try.sizeOf36 _) rfl (S.blk (i := 3) rfl) rfl rfl) ?_
      refine rw_call rfl (rcostsR_E a d hw hh hVg (by omega) ha hB hd (hA.gr S.out)) ?_
      rintro _ w12_ ⟨A_want, c_want, rfl, hR_want, hf_want, g12_⟩
      have S := S.pushRow hR_want hf_want g12_
      refine rw_v (op_pure rfl) ?_
      first | refine rw_end ?_ | (refine rw_nil ?_; show CW _ _ _ _ _ _) | refine rw_nil ?_
      repeat refine cw_seq ?_
      refine cw_region ?_
      refine rw_buildS0 Try.underlying41 Try.sizeOf36 S ?_
      intro A_ins w14_ g14_ S sa_ins
      refine rw_v (op_pure rfl) ?_
      first | refine rw_end ?_ | (refine rw_nil ?_; show CW _ _ _ _ _ _) | refine rw_nil ?_
      repeat refine cw_seq ?_
      refine cw_region ?_
      refine rw_v (op_pure rfl) ?_
      first | refine rw_end ?_ | (refine rw_nil ?_; show CW _ _ _ _ _ _) | refine rw_nil ?_
      repeat refine cw_seq ?_
      refine cw_block ?_
      repeat refine cw_seq ?_
      have hwn := hRc.small
      have S := S.sub (L' := [.row 36 2 A_ins 0 0 (cellsZ ((withinL 0 d most).map (cz gw))), .row 2 1 A_want V.length c_want (cellsQ V.length d), .row 36 2 A_c (withinL (gw * gh) d most).length c_c (cellsZ ((withinL (gw * gh) d most).map (cz gw))), .row 2 1 A_l (gw * gh) c_l (cellsQ (gw * gh) d)]) (.cons_cons _ (.cons_cons _ (.cons_cons _ (.cons_cons _ (.cons _ (.cons _ .slnil))))))
      refine cw_loop (fun m e w => ∃ (k : Nat) (A_in : Option Addr) (c_in : Nat), k + m = gw * gh ∧ SL e [(0, .int .i64 gw), (1, .int .i64 gh), (4, .int .i64 most), (14, .slice A_l (gw * gh) c_l), (15, .int .i64 0), (16, .slice A_c (withinL (gw * gh) d most).length c_c), (17, .int .i64 0), (19, .slice A_want V.length c_want), (20, .slice A_in (withinL k d most).length c_in), (21, .int .i64 k)] ∧
        St No W w [.row 36 2 A_in (withinL k d most).length c_in (cellsZ ((withinL k d most).map (cz gw))), .row 2 1 A_want V.length c_want (cellsQ V.length d), .row 36 2 A_c (withinL (gw * gh) d most).length c_c (cellsZ ((withinL (gw * gh) d most).map (cz gw))), .row 2 1 A_l (gw * gh) c_l (cellsQ (gw * gh) d)]) (gw * gh)
        ⟨0, A_ins, 0, by omega, ⟨rfl, rfl, rfl, rfl, rfl, rfl, rfl, rfl, rfl, rfl, trivial⟩, S⟩ ?_
      clear S
      rintro m e w ⟨k, A_in, c_in, hk, hsl, S⟩
      rw [hsl.fold]
      have hwl := withinL_len k d most
      repeat refine cw_seq ?_
      refine cw_region ?_
      refine rw_v (op_pure rfl) ?_
      refine rw_v (op_pure rfl) ?_
      refine rw_v (op_pure rfl) ?_
      refine rw_v (op_rng rfl (by omega)) ?_
      rw [hmi]
      refine rw_v (op_pure rfl) ?_
      first | refine rw_end ?_ | (refine rw_nil ?_; show CW _ _ _ _ _ _) | refine rw_nil ?_
      repeat refine cw_seq ?_
      refine cw_cond rfl (fun hc => ?_) (fun hc => ?_)
      · try simp only [decide_eq_true_eq, decide_eq_false_iff_not, beq_iff_eq, bne_iff_ne, beq_eq_false_iff_ne, bne_eq_false_iff_eq, Bool.not_eq_true', Bool.not_eq_false', ne_eq, Decidable.not_not, Int.natCast_inj, Int.ofNat_lt, Int.ofNat_le, gt_iff_lt, ge_iff_le, Int.not_lt, Int.not_le] at hc
        have sa_want : SomeA A_want := (S.row (i := 1) rfl).someA (by omega)
        have hsu := withinL_succ k d most
        have em : (k : Int) % gw = ((k % gw : Nat) : Int) := by push_cast; rfl
        have ed : (k : Int) / gw = ((k / gw : Nat) : Int) := by push_cast; rfl
        repeat refine cw_seq ?_
        refine cw_skip ?_
        try show CW _ _ _ _ _ _
        repeat refine cw_seq ?_
        refine cw_block ?_
        repeat refine cw_seq ?_
        refine cw_region ?_
        refine rw_v (op_pure rfl) ?_
        refine rw_v (op_pure rfl) ?_
        refine rw_v (op_idx Try.underlying22 Try.sizeOf2 rfl rfl sa_want (by omega) (by omega)) ?_
        refine rw_r (op_ldR Try.underlying2 rfl rfl (S.rd (i := 1) rfl) (cellsQ_get (by omega))) ?_
        refine rw_v (op_pure rfl) ?_
        refine rw_v (op_pure rfl) ?_
        first | refine rw_end ?_ | (refine rw_nil ?_; show CW _ _ _ _ _ _) | refine rw_nil ?_
        repeat refine cw_seq ?_
        refine cw_cond rfl (fun hmo => ?_) (fun hmo => ?_)
        · try simp only [decide_eq_true_eq, decide_eq_false_iff_not, beq_iff_eq, bne_iff_ne, beq_eq_false_iff_ne, bne_eq_false_iff_eq, Bool.not_eq_true', Bool.not_eq_false', ne_eq, Decidable.not_not, Int.natCast_inj, Int.ofNat_lt, Int.ofNat_le, gt_iff_lt, ge_iff_le, Int.not_lt, Int.not_le] at hmo
          rw [if_pos hmo] at hsu
          repeat refine cw_seq ?_
          refine cw_tri (C := (fun σ wq => CS No W [.row 36 2 A_in (withinL k d most).length c_in (cellsZ ((withinL k d most).map (cz gw))), .row 2 1 A_want V.length c_want (cellsQ V.length d), .row 36 2 A_c (withinL (gw * gh) d most).length c_c (cellsZ ((withinL (gw * gh) d most).map (cz gw))), .row 2 1 A_l (gw * gh) c_l (cellsQ (gw * gh) d)] 0 36 2 (withinL k d most).length (cellsZ ((withinL k d most).map (cz gw))) [.int .i64 (k % gw : Nat), .int .i64 (k / gw : Nat)] wq σ)) [8, 9] [0, 1, 2, 3, 4, 5, 6, 7, 8, 9] [10] (by kernel_rfl) (by kernel_rfl) (S.gr (Gr.drew _)) ?_
          simp only [pickI, pickL, List.drop_succ_cons, List.drop_zero]
          refine rs_v rfl (op_pure rfl) ?_
          refine rs_v rfl (op_pure rfl) ?_
          refine rs_v rfl (op_pure rfl) ?_
          refine rs_v rfl (op_rem rfl rfl (by omega) (by omega)) ?_
          rw [em]
          refine rs_v rfl (op_pure rfl) ?_
          refine rs_v rfl (op_pure rfl) ?_
          refine rs_v rfl (op_div rfl rfl (by omega) (by omega)) ?_
          rw [ed]
          refine rs_v rfl (op_build (pl := [(0, 1), (1, 1)]) Try.underlying36 Try.zeroValue36 (fun w => by kernel_rfl) rfl rfl) ?_
          refine rs_special rfl rfl (fun wq hq => to_buildCS hq Try.underlying41 Try.sizeOf36 Try.zeroValue36 rfl rfl rfl rfl rfl rfl) ?_
          rintro v6 w6 ⟨A6, rfl, _⟩
          refine rs_special rfl rfl (fun wq hq => to_appCS hq rfl (fun h => ⟨_, rfl⟩) Try.underlying41 info_t36 rfl rfl rfl rfl rfl rfl (by omega)) ?_
          rintro v7 w7 ⟨A7, c7, L7, rfl, _, _⟩
          refine rs_nil ?_
          rintro w8 ⟨A8_, c8_, L_st, e_st, h_st, S⟩
          cases e_st
          obtain rfl := Option.some.inj h_st
          refine rw_v (op_pure rfl) ?_
          first | refine rw_end ?_ | (refine rw_nil ?_; show CW _ _ _ _ _ _) | refine rw_nil ?_
          repeat refine cw_seq ?_
          refine cw_region ?_
          refine rw_v (op_pure rfl) ?_
          refine rw_v (op_rng rfl (by omega)) ?_
          refine rw_v (op_pure rfl) ?_
          first | refine rw_end ?_ | (refine rw_nil ?_; show CW _ _ _ _ _ _) | refine rw_nil ?_
          have e1 : cellsZ ((withinL k d most).map (cz gw)) ++ [.int .i64 (k % gw : Nat), .int .i64 (k / gw : Nat)] = cellsZ ((withinL (k + 1) d most).map (cz gw)) := by rw [hsu]; simp [cellsZ, cz]
          rw [e1] at S
          refine ⟨m - 1, by omega, k + 1, _, _, by omega, ⟨rfl, rfl, rfl, rfl, rfl, rfl, rfl, rfl, se (by rw [hsu]; simp) rfl, ie (by omega), trivial⟩, ?_⟩
          rw [hsu, List.length_append, List.length_singleton, ← hsu]
          exact S
        · try simp only [decide_eq_true_eq, decide_eq_false_iff_not, beq_iff_eq, bne_iff_ne, beq_eq_false_iff_ne, bne_eq_false_iff_eq, Bool.not_eq_true', Bool.not_eq_false', ne_eq, Decidable.not_not, Int.natCast_inj, Int.ofNat_lt, Int.ofNat_le, gt_iff_lt, ge_iff_le, Int.not_lt, Int.not_le] at hmo
          rw [if_neg (by omega), List.append_nil] at hsu
          repeat refine cw_seq ?_
          refine cw_skip ?_
          try show CW _ _ _ _ _ _
          repeat refine cw_seq ?_
          refine cw_region ?_
          refine rw_v (op_pure rfl) ?_
          refine rw_v (op_rng rfl (by omega)) ?_
          refine rw_v (op_pure rfl) ?_
          first | refine rw_end ?_ | (refine rw_nil ?_; show CW _ _ _ _ _ _) | refine rw_nil ?_
          refine ⟨m - 1, by omega, k + 1, _, _, by omega, ⟨rfl, rfl, rfl, rfl, rfl, rfl, rfl, rfl, se (by rw [hsu]) rfl, ie (by omega), trivial⟩, ?_⟩
          rw [hsu]
          exact S
      · try simp only [decide_eq_true_eq, decide_eq_false_iff_not, beq_iff_eq, bne_iff_ne, beq_eq_false_iff_ne, bne_eq_false_iff_eq, Bool.not_eq_true', Bool.not_eq_false', ne_eq, Decidable.not_not, Int.natCast_inj, Int.ofNat_lt, Int.ofNat_le, gt_iff_lt, ge_iff_le, Int.not_lt, Int.not_le] at hc
        obtain rfl : k = gw * gh := by omega
        have hs1 : ∀ w, Rd w A_l (cellsQ (gw * gh) d) → Rd w A_want (cellsQ V.length d) → Fn Try.prog 36 [.slice A_l (gw * gh) c_l, .slice A_want V.length c_want] w (RetG (.bool true) w) := fun w h1 h2 => by
          rw [hVg] at h2 ⊢
          rw [cellsQ_ints] at h1 h2
          have := rsame_E A_l A_want c_l c_want ((List.range (gw * gh)).map d) ((List.range (gw * gh)).map d) w (by simp; omega) h1 h2
          rw [List.length_map, List.length_range, decide_eq_true rfl] at this
          exact this
        have hs2 : ∀ w, Rd w A_c (cellsZ ((withinL (gw * gh) d most).map (cz gw))) → Rd w A_in (cellsZ ((withinL (gw * gh) d most).map (cz gw))) → Fn Try.prog 30 [.slice A_c (withinL (gw * gh) d most).length c_c, .slice A_in (withinL (gw * gh) d most).length c_in] w (RetG (.bool true) w) := fun w h1 h2 => by
          have := rcells_E A_c A_in c_c c_in ((withinL (gw * gh) d most).map (cz gw)) ((withinL (gw * gh) d most).map (cz gw)) w (by rw [List.length_map]; unfold maxLen at hwn; omega) h1 h2
          rw [List.length_map, decide_eq_true rfl] at this
          exact this
        repeat refine cw_seq ?_
        refine cw_exit ?_
        repeat first | refine exit_then ?_ | refine exit_inb ?_
        show CW _ _ _ _ _ _
        repeat refine cw_seq ?_
        refine cw_region ?_
        refine rw_v (op_pure rfl) ?_
        first | refine rw_v (op_b (b := true) rfl (beq_iff_eq.2 (by omega))) ?_ | refine rw_v (op_b (b := false) rfl (beq_eq_false_iff_ne.2 (by omega))) ?_ | refine rw_v (op_pure rfl) ?_
        refine rw_v (op_pure rfl) ?_
        first | refine rw_off rfl ?_ | (refine rw_on rfl ?_; refine rw_v (op_pure rfl) ?_)
        first | refine rw_off rfl ?_ | (refine rw_on rfl ?_; (first | refine rw_v (op_b (b := true) rfl (beq_iff_eq.2 (by omega))) ?_ | refine rw_v (op_b (b := false) rfl (beq_eq_false_iff_ne.2 (by omega))) ?_ | refine rw_v (op_pure rfl) ?_))
        refine rw_v (op_pure rfl) ?_
        refine rw_v (op_pure rfl) ?_
        first | refine rw_off rfl ?_ | (refine rw_on rfl ?_; refine rw_v (op_pure rfl) ?_)
        first | refine rw_off rfl ?_ | (refine rw_on rfl ?_; refine rw_v (op_pure rfl) ?_)
        refine rw_on rfl ?_
        refine rw_call rfl (hs1 w (S.rd (i := 3) rfl) (S.rd (i := 1) rfl)) ?_
        rintro _ w16_ ⟨rfl, g16_⟩
        have S := S.gr g16_
        refine rw_v (op_pure rfl) ?_
        refine rw_v (op_pure rfl) ?_
        first | refine rw_off rfl ?_ | (refine rw_on rfl ?_; refine rw_v (op_pure rfl) ?_)
        first | refine rw_off rfl ?_ | (refine rw_on rfl ?_; refine rw_v (op_pure rfl) ?_)
        refine rw_on rfl ?_
        refine rw_call rfl (hs2 w16_ (S.rd (i := 2) rfl) (S.rd (i := 0) rfl)) ?_
        rintro _ w17_ ⟨rfl, g17_⟩
        have S := S.gr g17_
        refine rw_v (op_pure rfl) ?_
        refine rw_v (op_pure rfl) ?_
        first | refine rw_end ?_ | (refine rw_nil ?_; show CW _ _ _ _ _ _) | refine rw_nil ?_
        repeat refine cw_seq ?_
        refine cw_ret ?_
        repeat first | refine ret_then ?_ | refine ret_inb ?_
        exact res1 rfl ⟨rfl, S.out⟩
    | false =>
      have G := Gr.refl W
      have S := St.start W
      refine Fn_enter Try.func8 rfl Try.results8 Try.ntmps8 (by kernel_rfl) (by kernel_rfl) ?_
      repeat refine cw_seq ?_
      refine cw_region ?_
      refine rw_newB (op_box rfl) S ?_
      intro b_ca w2_ g2_ S
      refine rw_v (op_pure rfl) ?_
      first | refine rw_end ?_ | (refine rw_nil ?_; show CW _ _ _ _ _ _) | refine rw_nil ?_
      repeat refine cw_seq ?_
      refine cw_region ?_
      refine rw_call rfl (awake32_E w2_) ?_
      rintro _ w3_ ⟨rfl, g3_⟩
      have S := S.gr g3_
      refine rw_v (op_pure rfl) ?_
      first | refine rw_end ?_ | (refine rw_nil ?_; show CW _ _ _ _ _ _) | refine rw_nil ?_
      repeat refine cw_seq ?_
      refine cw_false rfl ?_
      repeat refine cw_seq ?_
      refine cw_skip ?_
      try show CW _ _ _ _ _ _
      repeat refine cw_seq ?_
      refine cw_region ?_
      refine rw_v (op_pure rfl) ?_
      refine rw_v (op_pure rfl) ?_
      refine rw_v (op_pure rfl) ?_
      refine rw_call rfl (land_E gw gh 400 cap (by omega) hok (hA.gr S.out)) ?_
      rintro _ w4_ ⟨rfl, g4_⟩
      have S := S.gr g4_
      refine rw_v (op_pure rfl) ?_
      refine rw_v (op_pure rfl) ?_
      refine rw_v (op_pure rfl) ?_
      refine rw_newB (op_alloc Try.zeroValue25 rfl) S ?_
      intro b_md w6_ g6_ S
      refine rw_storeSA (i := 0) S rfl (Try.sizeOf25 _) rfl rfl rfl rfl rfl rfl ?_
      intro w7_ S
      refine rw_v (op_pure rfl) ?_
      first | refine rw_end ?_ | (refine rw_nil ?_; show CW _ _ _ _ _ _) | refine rw_nil ?_
      repeat refine cw_seq ?_
      refine cw_region ?_
      refine rw_v (op_pure rfl) ?_
      refine rw_v (op_pure rfl) ?_
      first | refine rw_end ?_ | (refine rw_nil ?_; show CW _ _ _ _ _ _) | refine rw_nil ?_
      repeat refine cw_seq ?_
      refine cw_false rfl ?_
      repeat refine cw_seq ?_
      refine cw_skip ?_
      try show CW _ _ _ _ _ _
      repeat refine cw_seq ?_
      refine cw_region ?_
      refine rw_v (op_pure rfl) ?_
      refine rw_v (op_pure rfl) ?_
      refine rw_v (op_pure rfl) ?_
      refine rw_call rfl (made_E gw gh cap hw hh hVg hmay (hA.gr S.out)) ?_
      rintro _ w8_ ⟨p, B, bc, bs, Rs, rfl, hG, hf, g8_⟩
      have S := S.gr g8_
      refine rw_v (op_pure rfl) ?_
      refine rw_v (op_pure rfl) ?_
      refine rw_v (op_pure rfl) ?_
      refine rw_v (op_pure rfl) ?_
      refine rw_v (op_pure rfl) ?_
      first | refine rw_end ?_ | (refine rw_nil ?_; show CW _ _ _ _ _ _) | refine rw_nil ?_
      repeat refine cw_seq ?_
      refine cw_region ?_
      refine rw_v (op_pure rfl) ?_
      refine rw_v (op_pure rfl) ?_
      first | refine rw_end ?_ | (refine rw_nil ?_; show CW _ _ _ _ _ _) | refine rw_nil ?_
      repeat refine cw_seq ?_
      refine cw_false rfl ?_
      repeat refine cw_seq ?_
      refine cw_skip ?_
      try show CW _ _ _ _ _ _
      repeat refine cw_seq ?_
      refine cw_region ?_
      refine rw_v (op_pure rfl) ?_
      refine rw_r (op_loadAB Try.underlying36 rfl (Try.sizeOf36 _) rfl (S.blk (i := 1) rfl) rfl rfl) ?_
      refine rw_call rfl (rCostsNo_E _ _ hG hin) ?_
      rintro _ w9_ ⟨rfl, g9_⟩
      have S := S.gr g9_
      have hG := hG.gr g9_
      refine rw_v (op_pure rfl) ?_
      refine rw_v (op_pure rfl) ?_
      refine rw_v (op_pure rfl) ?_
      refine rw_v (op_pure rfl) ?_
      refine rw_v (op_pure rfl) ?_
      first | refine rw_end ?_ | (refine rw_nil ?_; show CW _ _ _ _ _ _) | refine rw_nil ?_
      repeat refine cw_seq ?_
      refine cw_region ?_
      refine rw_v (op_pure rfl) ?_
      refine rw_r (op_loadAB Try.underlying36 rfl (Try.sizeOf36 _) rfl (S.blk (i := 1) rfl) rfl rfl) ?_
      refine rw_v (op_pure rfl) ?_
      refine rw_call rfl (rWithinNo_E _ _ most hG hin) ?_
      rintro _ w10_ ⟨rfl, g10_⟩
      have S := S.gr g10_
      refine rw_v (op_pure rfl) ?_
      refine rw_v (op_pure rfl) ?_
      refine rw_v (op_pure rfl) ?_
      refine rw_v (op_pure rfl) ?_
      refine rw_v (op_pure rfl) ?_
      first | refine rw_end ?_ | (refine rw_nil ?_; show CW _ _ _ _ _ _) | refine rw_nil ?_
      repeat refine cw_seq ?_
      refine cw_region ?_
      refine rw_r (op_loadAB Try.underlying25 rfl (Try.sizeOf25 _) rfl (S.blk (i := 0) rfl) rfl rfl) ?_
      refine rw_r (op_loadAB Try.underlying36 rfl (Try.sizeOf36 _) rfl (S.blk (i := 1) rfl) rfl rfl) ?_
      refine rw_r (op_loadAB Try.underlying36 rfl (Try.sizeOf36 _) rfl (S.blk (i := 1) rfl) rfl rfl) ?_
      refine rw_call rfl (mayNo_E _ _ _ _ (.inl hin) hVg (by omega) (hA.gr S.out)) ?_
      rintro _ w11_ ⟨rfl, g11_⟩
      have S := S.gr g11_
      refine rw_v (op_pure rfl) ?_
      first | refine rw_end ?_ | (refine rw_nil ?_; show CW _ _ _ _ _ _) | refine rw_nil ?_
      repeat refine cw_seq ?_
      refine cw_region ?_
      refine rw_v (op_pure rfl) ?_
      refine rw_v (op_b (b := true) rfl (bne_iff_ne.2 (by omega))) ?_
      first | refine rw_end ?_ | (refine rw_nil ?_; show CW _ _ _ _ _ _) | refine rw_nil ?_
      repeat refine cw_seq ?_
      refine cw_true rfl ?_
      repeat refine cw_seq ?_
      refine cw_region ?_
      refine rw_v (op_pure rfl) ?_
      refine rw_v (op_len Try.underlying22 rfl) ?_
      first | refine rw_v (op_b (b := true) rfl (beq_iff_eq.2 (by omega))) ?_ | refine rw_v (op_b (b := false) rfl (beq_eq_false_iff_ne.2 (by omega))) ?_ | refine rw_v (op_pure rfl) ?_
      refine rw_v (op_pure rfl) ?_
      first | refine rw_off rfl ?_ | (refine rw_on rfl ?_; refine rw_v (op_pure rfl) ?_)
      first | refine rw_off rfl ?_ | (refine rw_on rfl ?_; refine rw_v (op_pure rfl) ?_)
      first | refine rw_off rfl ?_ | (refine rw_on rfl ?_; (first | refine rw_v (op_b (b := true) rfl (beq_iff_eq.2 (by omega))) ?_ | refine rw_v (op_b (b := false) rfl (beq_eq_false_iff_ne.2 (by omega))) ?_ | refine rw_v (op_pure rfl) ?_))
      refine rw_v (op_pure rfl) ?_
      refine rw_v (op_pure rfl) ?_
      first | refine rw_off rfl ?_ | (refine rw_on rfl ?_; refine rw_v (op_pure rfl) ?_)
      first | refine rw_off rfl ?_ | (refine rw_on rfl ?_; refine rw_v (op_len Try.underlying41 rfl) ?_)
      first | refine rw_off rfl ?_ | (refine rw_on rfl ?_; (first | refine rw_v (op_b (b := true) rfl (beq_iff_eq.2 (by omega))) ?_ | refine rw_v (op_b (b := false) rfl (beq_eq_false_iff_ne.2 (by omega))) ?_ | refine rw_v (op_pure rfl) ?_))
      refine rw_v (op_pure rfl) ?_
      refine rw_v (op_pure rfl) ?_
      first | refine rw_off rfl ?_ | (refine rw_on rfl ?_; refine rw_v (op_pure rfl) ?_)
      first | refine rw_off rfl ?_ | (refine rw_on rfl ?_; refine rw_v (op_pure rfl) ?_)
      first | refine rw_off rfl ?_ | (refine rw_on rfl ?_; (first | refine rw_v (op_b (b := true) rfl (beq_iff_eq.2 (by omega))) ?_ | refine rw_v (op_b (b := false) rfl (beq_eq_false_iff_ne.2 (by omega))) ?_ | refine rw_v (op_pure rfl) ?_))
      refine rw_v (op_pure rfl) ?_
      refine rw_v (op_pure rfl) ?_
      first | refine rw_end ?_ | (refine rw_nil ?_; show CW _ _ _ _ _ _) | refine rw_nil ?_
      repeat refine cw_seq ?_
      refine cw_ret ?_
      repeat first | refine ret_then ?_ | refine ret_inb ?_
      exact res1 rfl ⟨rfl, S.out⟩
  · skip
    have G := Gr.refl W
    have S := St.start W
    refine Fn_enter Try.func8 rfl Try.results8 Try.ntmps8 (by kernel_rfl) (by kernel_rfl) ?_
    repeat refine cw_seq ?_
    refine cw_region ?_
    refine rw_newB (op_box rfl) S ?_
    intro b_ca w2_ g2_ S
    refine rw_v (op_pure rfl) ?_
    first | refine rw_end ?_ | (refine rw_nil ?_; show CW _ _ _ _ _ _) | refine rw_nil ?_
    repeat refine cw_seq ?_
    refine cw_region ?_
    refine rw_call rfl (awake32_E w2_) ?_
    rintro _ w3_ ⟨rfl, g3_⟩
    have S := S.gr g3_
    refine rw_v (op_pure rfl) ?_
    first | refine rw_end ?_ | (refine rw_nil ?_; show CW _ _ _ _ _ _) | refine rw_nil ?_
    repeat refine cw_seq ?_
    refine cw_false rfl ?_
    repeat refine cw_seq ?_
    refine cw_skip ?_
    try show CW _ _ _ _ _ _
    repeat refine cw_seq ?_
    refine cw_region ?_
    refine rw_v (op_pure rfl) ?_
    refine rw_v (op_pure rfl) ?_
    refine rw_v (op_pure rfl) ?_
    refine rw_call rfl (landNo_E w h 400 cap (by omega) hl hok (hA.gr S.out)) ?_
    rintro _ w4_ ⟨rfl, g4_⟩
    have S := S.gr g4_
    refine rw_v (op_pure rfl) ?_
    refine rw_v (op_pure rfl) ?_
    refine rw_v (op_pure rfl) ?_
    refine rw_newB (op_alloc Try.zeroValue25 rfl) S ?_
    intro b_b5 w6_ g6_ S
    refine rw_storeSA (i := 0) S rfl (Try.sizeOf25 _) rfl rfl rfl rfl rfl rfl ?_
    intro w7_ S
    refine rw_v (op_pure rfl) ?_
    first | refine rw_end ?_ | (refine rw_nil ?_; show CW _ _ _ _ _ _) | refine rw_nil ?_
    repeat refine cw_seq ?_
    refine cw_region ?_
    refine rw_v (op_pure rfl) ?_
    refine rw_v (op_pure rfl) ?_
    first | refine rw_end ?_ | (refine rw_nil ?_; show CW _ _ _ _ _ _) | refine rw_nil ?_
    repeat refine cw_seq ?_
    refine cw_true rfl ?_
    repeat refine cw_seq ?_
    refine cw_region ?_
    refine rw_v (op_pure rfl) ?_
    first | refine rw_end ?_ | (refine rw_nil ?_; show CW _ _ _ _ _ _) | refine rw_nil ?_
    repeat refine cw_seq ?_
    refine cw_ret ?_
    repeat first | refine ret_then ?_ | refine ret_inb ?_
    exact res1 rfl ⟨rfl, S.out⟩
end
end Go.Proofs.Ytmdkjohllinphaa
