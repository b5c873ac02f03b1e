/- hachurelaw29.RegionsJoined: the walk. -/
import Derived.Test.YtbcgbcipigcbhaaJoinB
import Derived.Test.YtbcgbcipigcbhaaOf29
namespace Go.Proofs.Ytbcgbcipigcbhaa
open Go.RowKit
set_option linter.unusedVariables false
set_option linter.unusedSimpArgs false
set_option maxRecDepth 100000

theorem in_cz29 {gw gh : Nat} {x y : Int} (h : inG gw gh (x, y) = true) : ∃ i, i < gw * gh ∧ x = (i % gw : Nat) ∧ y = (i / gw : Nat) := by
  have h := inG_iff.1 h
  dsimp only at h
  obtain ⟨a, rfl⟩ := Int.eq_ofNat_of_zero_le h.1
  obtain ⟨b, rfl⟩ := Int.eq_ofNat_of_zero_le h.2.2.1
  have h1 := cell_split (Y := b) (X := a) (gw := gw) (by omega)
  refine ⟨b * gw + a, ?_, by rw [h1.1], by rw [h1.2]⟩
  have := Nat.mul_le_mul_right gw (show b + 1 ≤ gh by omega)
  rw [Nat.succ_mul, Nat.mul_comm gh] at this
  omega
section
variable {W : World} {A : Option Addr} {p gw gh cap : Nat} {cc : Nat → Int} {bs : Nat → Nat} {Rs : Nat → Option Nat} {V : List Int}
set_option maxHeartbeats 4000000 in
theorem joinedNo_E (ax ay bx bz : Int) (hno : inG gw gh (ax, ay) = false ∨ inG gw gh (bx, bz) = false) (hG : GridAt W p gw gh cc A cap bs Rs) :
    Fn Try.prog 24 [.pointer (some ⟨p, 0, none⟩), .agg #[.int .i64 ax, .int .i64 ay], .agg #[.int .i64 bx, .int .i64 bz]] W (RetG (.tuple #[.int .i64 0, .int .i64 4]) W) := by
  have hof := fun w (g : Gr W w) => regof_E (hG.gr g)
  have hatNo := fun (x y : Int) (h : inG gw gh (x, y) = false) w (g : Gr W w) => gatNo_E x y (fun h' => by rw [inG_iff.2 h'] at h; cases h) (hG.gr g)
  have hat := fun (i : Nat) (hi : i < gw * gh) w (g : Gr W w) => gat_E (i % gw) (i / gw) (Nat.mod_lt i hG.sw.1) (Nat.div_lt_of_lt_mul hi) (hG.gr g)
  have S := St.start W
  refine Fn_enter Try.func24 rfl Try.results24 Try.ntmps24 (by kernel_rfl) (by kernel_rfl) ?_
  repeat refine cw_seq ?_
  refine cw_region ?_
  refine rw_newB (op_box rfl) S ?_
  intro b_ca w2_ g2_ S
  refine rw_newB (op_box rfl) S ?_
  intro b_cb w4_ g4_ S
  iterate 2 refine rw_v (op_pure rfl) ?_
  first | refine rw_end ?_ | (refine rw_nil ?_; show CW _ _ _ _ _ _) | refine rw_nil ?_
  repeat refine cw_seq ?_
  refine cw_region ?_
  refine rw_v (op_pure rfl) ?_
  refine rw_call rfl (hof w4_ S.out) ?_
  rintro _ w5_ ⟨A_vs, c_vs, rfl, hR_vs, hf_vs, g5_⟩
  have S := S.pushRow hR_vs hf_vs g5_
  iterate 3 refine rw_v (op_pure rfl) ?_
  refine rw_newB (op_alloc Try.zeroValue118 rfl) S ?_
  intro b_l w7_ g7_ S
  refine rw_storeSA (i := 0) S rfl (Try.sizeOf118 _) rfl rfl rfl rfl rfl rfl ?_
  intro w8_ S
  refine rw_v (op_pure rfl) ?_
  first | refine rw_end ?_ | (refine rw_nil ?_; show CW _ _ _ _ _ _) | refine rw_nil ?_
  repeat refine cw_seq ?_
  refine cw_region ?_
  refine rw_v (op_pure rfl) ?_
  refine rw_v (op_b (b := false) rfl (bne_eq_false_iff_eq.2 (by omega))) ?_
  first | refine rw_end ?_ | (refine rw_nil ?_; show CW _ _ _ _ _ _) | refine rw_nil ?_
  repeat refine cw_seq ?_
  refine cw_false rfl ?_
  repeat refine cw_seq ?_
  refine cw_skip ?_
  try show CW _ _ _ _ _ _
  repeat refine cw_seq ?_
  refine cw_region ?_
  refine rw_r (op_loadAB Try.underlying44 rfl (Try.sizeOf44 _) rfl (S.blk (i := 3) rfl) rfl rfl) ?_
  refine rw_r (op_loadAB Try.underlying44 rfl (Try.sizeOf44 _) rfl (S.blk (i := 2) rfl) rfl rfl) ?_
  refine rw_v (op_buildArr Try.underlying121 Try.sizeOf44 Try.zeroValue121 rfl rfl) ?_
  refine rw_v (op_pure rfl) ?_
  first | refine rw_end ?_ | (refine rw_nil ?_; show CW _ _ _ _ _ _) | refine rw_nil ?_
  repeat refine cw_seq ?_
  refine cw_block ?_
  repeat refine cw_seq ?_
  refine cw_loop (fun m e w => ∃ k : Nat, k + m = 2 ∧ (1 ≤ k → inG gw gh (ax, ay) = true) ∧ (2 ≤ k → False) ∧ SL e [(0, .pointer (some ⟨p, 0, none⟩)), (4, .pointer (some ⟨b_ca, 0, none⟩)), (5, .pointer (some ⟨b_cb, 0, none⟩)), (8, .pointer (some ⟨b_l, 0, none⟩)), (34, .agg #[.int .i64 ax, .int .i64 ay, .int .i64 bx, .int .i64 bz]), (35, .int .i64 k)] ∧
    St No W w [.blk b_l 118 [.int .i64 gw, .int .i64 gh, .slice A_vs (gw * gh) c_vs], .row 2 1 A_vs (gw * gh) c_vs (ints (gridL gw gh cc)), .blk b_cb 44 [.int .i64 bx, .int .i64 bz], .blk b_ca 44 [.int .i64 ax, .int .i64 ay]]) 2
    ⟨0, rfl, fun h => by omega, fun h => by omega, ⟨rfl, rfl, rfl, rfl, rfl, rfl, trivial⟩, S⟩ ?_
  clear S
  rintro m e w ⟨k, hkm, h1, h2, hsl, S⟩
  rw [hsl.fold]
  by_cases hk0 : k = 0
  · subst hk0
    cases hina : inG gw gh (ax, ay) with
    | true =>
      obtain ⟨i, hi, rfl, rfl⟩ := in_cz29 hina
      repeat refine cw_seq ?_
      refine cw_region ?_
      refine rw_v (op_b (b := true) rfl (decide_eq_true (by omega))) ?_
      first | refine rw_end ?_ | (refine rw_nil ?_; show CW _ _ _ _ _ _) | refine rw_nil ?_
      repeat refine cw_seq ?_
      refine cw_true rfl ?_
      repeat refine cw_seq ?_
      refine cw_skip ?_
      try show CW _ _ _ _ _ _
      repeat refine cw_seq ?_
      refine cw_block ?_
      repeat refine cw_seq ?_
      refine cw_region ?_
      refine rw_v (op_indexVA Try.underlying121 Try.underlying44 Try.sizeOf44 rfl rfl rfl (by omega) (by omega) rfl) ?_
      refine rw_newB (op_alloc Try.zeroValue44 rfl) S ?_
      intro b_d w10_ g10_ S
      refine rw_storeSA (i := 0) S rfl (Try.sizeOf44 _) rfl rfl rfl rfl rfl rfl ?_
      intro w11_ S
      first | refine rw_end ?_ | (refine rw_nil ?_; show CW _ _ _ _ _ _) | refine rw_nil ?_
      repeat refine cw_seq ?_
      refine cw_region ?_
      refine rw_v (op_pure rfl) ?_
      refine rw_r (op_loadAB Try.underlying44 rfl (Try.sizeOf44 _) rfl (S.blk (i := 0) rfl) rfl rfl) ?_
      refine rw_call rfl (hat i hi w11_ S.out) ?_
      rintro _ w12_ ⟨rfl, g12_⟩
      have S := S.gr g12_
      iterate 5 refine rw_v (op_pure rfl) ?_
      first | refine rw_end ?_ | (refine rw_nil ?_; show CW _ _ _ _ _ _) | refine rw_nil ?_
      repeat refine cw_seq ?_
      refine cw_region ?_
      refine rw_v (op_pure rfl) ?_
      refine rw_v (op_b (b := false) rfl (bne_eq_false_iff_eq.2 (by omega))) ?_
      first | refine rw_end ?_ | (refine rw_nil ?_; show CW _ _ _ _ _ _) | refine rw_nil ?_
      repeat refine cw_seq ?_
      refine cw_false rfl ?_
      repeat refine cw_seq ?_
      refine cw_skip ?_
      try show CW _ _ _ _ _ _
      repeat refine cw_seq ?_
      refine cw_region ?_
      refine rw_v (op_rng rfl (by omega)) ?_
      refine rw_v (op_pure rfl) ?_
      first | refine rw_end ?_ | (refine rw_nil ?_; show CW _ _ _ _ _ _) | refine rw_nil ?_
      exact ⟨m - 1, by omega, 1, by omega, fun _ => rfl, fun h => by omega, ⟨rfl, rfl, rfl, rfl, rfl, rfl, trivial⟩, S.drop 1⟩
    | false =>
      repeat refine cw_seq ?_
      refine cw_region ?_
      refine rw_v (op_b (b := true) rfl (decide_eq_true (by omega))) ?_
      first | refine rw_end ?_ | (refine rw_nil ?_; show CW _ _ _ _ _ _) | refine rw_nil ?_
      repeat refine cw_seq ?_
      refine cw_true rfl ?_
      repeat refine cw_seq ?_
      refine cw_skip ?_
      try show CW _ _ _ _ _ _
      repeat refine cw_seq ?_
      refine cw_block ?_
      repeat refine cw_seq ?_
      refine cw_region ?_
      refine rw_v (op_indexVA Try.underlying121 Try.underlying44 Try.sizeOf44 rfl rfl rfl (by omega) (by omega) rfl) ?_
      refine rw_newB (op_alloc Try.zeroValue44 rfl) S ?_
      intro b_d w14_ g14_ S
      refine rw_storeSA (i := 0) S rfl (Try.sizeOf44 _) rfl rfl rfl rfl rfl rfl ?_
      intro w15_ S
      first | refine rw_end ?_ | (refine rw_nil ?_; show CW _ _ _ _ _ _) | refine rw_nil ?_
      repeat refine cw_seq ?_
      refine cw_region ?_
      refine rw_v (op_pure rfl) ?_
      refine rw_r (op_loadAB Try.underlying44 rfl (Try.sizeOf44 _) rfl (S.blk (i := 0) rfl) rfl rfl) ?_
      refine rw_call rfl (hatNo ax ay hina w15_ S.out) ?_
      rintro _ w16_ ⟨rfl, g16_⟩
      have S := S.gr g16_
      iterate 5 refine rw_v (op_pure rfl) ?_
      first | refine rw_end ?_ | (refine rw_nil ?_; show CW _ _ _ _ _ _) | refine rw_nil ?_
      repeat refine cw_seq ?_
      refine cw_region ?_
      refine rw_v (op_pure rfl) ?_
      refine rw_v (op_b (b := true) rfl (bne_iff_ne.2 (by omega))) ?_
      first | refine rw_end ?_ | (refine rw_nil ?_; show CW _ _ _ _ _ _) | refine rw_nil ?_
      repeat refine cw_seq ?_
      refine cw_true rfl ?_
      repeat refine cw_seq ?_
      refine cw_region ?_
      iterate 3 refine rw_v (op_pure rfl) ?_
      first | refine rw_end ?_ | (refine rw_nil ?_; show CW _ _ _ _ _ _) | refine rw_nil ?_
      repeat refine cw_seq ?_
      refine cw_ret ?_
      repeat first | refine ret_then ?_ | refine ret_inb ?_
      exact res2 rfl rfl ⟨rfl, S.out⟩
  · by_cases hk1 : k = 1
    · subst hk1
      have hinb : inG gw gh (bx, bz) = false := hno.resolve_left (by rw [h1 (by omega)]; simp)
      repeat refine cw_seq ?_
      refine cw_region ?_
      refine rw_v (op_b (b := true) rfl (decide_eq_true (by omega))) ?_
      first | refine rw_end ?_ | (refine rw_nil ?_; show CW _ _ _ _ _ _) | refine rw_nil ?_
      repeat refine cw_seq ?_
      refine cw_true rfl ?_
      repeat refine cw_seq ?_
      refine cw_skip ?_
      try show CW _ _ _ _ _ _
      repeat refine cw_seq ?_
      refine cw_block ?_
      repeat refine cw_seq ?_
      refine cw_region ?_
      refine rw_v (op_indexVA Try.underlying121 Try.underlying44 Try.sizeOf44 rfl rfl rfl (by omega) (by omega) rfl) ?_
      refine rw_newB (op_alloc Try.zeroValue44 rfl) S ?_
      intro b_d w18_ g18_ S
      refine rw_storeSA (i := 0) S rfl (Try.sizeOf44 _) rfl rfl rfl rfl rfl rfl ?_
      intro w19_ S
      first | refine rw_end ?_ | (refine rw_nil ?_; show CW _ _ _ _ _ _) | refine rw_nil ?_
      repeat refine cw_seq ?_
      refine cw_region ?_
      refine rw_v (op_pure rfl) ?_
      refine rw_r (op_loadAB Try.underlying44 rfl (Try.sizeOf44 _) rfl (S.blk (i := 0) rfl) rfl rfl) ?_
      refine rw_call rfl (hatNo bx bz hinb w19_ S.out) ?_
      rintro _ w20_ ⟨rfl, g20_⟩
      have S := S.gr g20_
      iterate 5 refine rw_v (op_pure rfl) ?_
      first | refine rw_end ?_ | (refine rw_nil ?_; show CW _ _ _ _ _ _) | refine rw_nil ?_
      repeat refine cw_seq ?_
      refine cw_region ?_
      refine rw_v (op_pure rfl) ?_
      refine rw_v (op_b (b := true) rfl (bne_iff_ne.2 (by omega))) ?_
      first | refine rw_end ?_ | (refine rw_nil ?_; show CW _ _ _ _ _ _) | refine rw_nil ?_
      repeat refine cw_seq ?_
      refine cw_true rfl ?_
      repeat refine cw_seq ?_
      refine cw_region ?_
      iterate 3 refine rw_v (op_pure rfl) ?_
      first | refine rw_end ?_ | (refine rw_nil ?_; show CW _ _ _ _ _ _) | refine rw_nil ?_
      repeat refine cw_seq ?_
      refine cw_ret ?_
      repeat first | refine ret_then ?_ | refine ret_inb ?_
      exact res2 rfl rfl ⟨rfl, S.out⟩
    · exact (h2 (by omega)).elim
end
section
variable {W : World} {A : Option Addr} {V : List Int}
set_option maxHeartbeats 8000000 in
theorem regionsJoined_E (w h ax ay bx bz : Int) (cap : Nat) (hl : V.length ≤ 9223372036854775807) (hA : Rd W A (ints V)) :
    Fn Try.prog 4 [.int .i64 w, .int .i64 h, .slice A V.length cap, .agg #[.int .i64 ax, .int .i64 ay], .agg #[.int .i64 bx, .int .i64 bz]] W (RetG (.bool true) W) := by
  by_cases hok : LandOk w h V 1000
  · obtain ⟨gw, rfl⟩ := Int.eq_ofNat_of_zero_le (show 0 ≤ w by have := hok.w1; omega)
    obtain ⟨gh, rfl⟩ := Int.eq_ofNat_of_zero_le (show 0 ≤ h by have := hok.h1; omega)
    have hw : 1 ≤ gw ∧ gw ≤ 1024 := by have := hok.w1; have := hok.wm; omega
    have hh : 1 ≤ gh ∧ gh ≤ 1024 := by have := hok.h1; have := hok.hm; omega
    have hmi : (gw : Int) * gh = ((gw * gh : Nat) : Int) := by push_cast; rfl
    have hVg : V.length = gw * gh := by have := hok.len; rw [hmi] at this; omega
    have hm : gw * gh ≤ 1000 := by have := hok.area; rw [hmi] at this; omega
    have hmay := hok.may
    have hB := vB_of_may hmay
    have hGl := gridL_made hVg
    by_cases hin : inG gw gh (ax, ay) = true ∧ inG gw gh (bx, bz) = true
    · obtain ⟨a, ha, rfl, rfl⟩ := in_cz29 hin.1
      obtain ⟨b, hb, rfl, rfl⟩ := in_cz29 hin.2
      have hidx : ∀ i, i < gw * gh → ((i / gw : Nat) : Int) * gw + ((i % gw : Nat) : Int) = (i : Int) ∧ 0 ≤ ((i / gw : Nat) : Int) * gw ∧ ((i / gw : Nat) : Int) * gw ≤ 1000 := fun i hi => by
        have e : ((i / gw : Nat) : Int) * gw + ((i % gw : Nat) : Int) = (i : Int) := by
          have := Nat.div_add_mod i gw
          rw [Nat.mul_comm] at this
          rw [← Int.natCast_mul, ← Int.natCast_add, this]
        have h0 : 0 ≤ ((i % gw : Nat) : Int) := Int.natCast_nonneg _
        have h1 : (0 : Int) ≤ ((i / gw : Nat) : Int) * gw := Int.mul_nonneg (Int.natCast_nonneg _) (Int.natCast_nonneg _)
        refine ⟨e, h1, ?_⟩
        generalize ((i / gw : Nat) : Int) * gw = P at *
        generalize ((i % gw : Nat) : Int) = Q at *
        omega
      obtain ⟨ea, la, ua⟩ := hidx a ha
      obtain ⟨eb, lb, ub⟩ := hidx b hb
      have hjn := fun (W : World) (p : Nat) (A : Option Addr) (bc : Nat) (bs : Nat → Nat) (Rs : Nat → Option Nat) (hG : GridAt W p gw gh (fun i => V.getD i 0) A bc bs Rs) => joined_E a b ha hb (by rw [hGl]; exact fun i _ => (hB i).1) hG
      rw [hGl] at hjn
      have hat := fun (i : Nat) (hi : i < gw * gh) (w : World) (hA : Rd w A (ints V)) => matI_E (W := w) (cap := cap) i (by omega) hi hVg (by omega) hA
      have hata := hat a ha
      have hatb := hat b hb
      generalize a / gw = Ya at *
      generalize a % gw = Xa at *
      generalize b / gw = Yb at *
      generalize b % gw = Xb at *
      have G := Gr.refl W
      have S := St.start W
      refine Fn_enter Try.func4 rfl Try.results4 Try.ntmps4 (by kernel_rfl) (by kernel_rfl) ?_
      repeat refine cw_seq ?_
      refine cw_region ?_
      refine rw_newB (op_box rfl) S ?_
      intro b_ca w2_ g2_ S
      refine rw_newB (op_box rfl) S ?_
      intro b_cb w4_ g4_ S
      refine rw_v (op_pure rfl) ?_
      first | refine rw_end ?_ | (refine rw_nil ?_; show CW _ _ _ _ _ _) | refine rw_nil ?_
      repeat refine cw_seq ?_
      refine cw_region ?_
      refine rw_call rfl (awake29_E w4_) ?_
      rintro _ w5_ ⟨rfl, g5_⟩
      have S := S.gr g5_
      refine rw_v (op_pure rfl) ?_
      first | refine rw_end ?_ | (refine rw_nil ?_; show CW _ _ _ _ _ _) | refine rw_nil ?_
      repeat refine cw_seq ?_
      refine cw_false rfl ?_
      repeat refine cw_seq ?_
      refine cw_skip ?_
      try show CW _ _ _ _ _ _
      repeat refine cw_seq ?_
      refine cw_region ?_
      iterate 3 refine rw_v (op_pure rfl) ?_
      refine rw_call rfl (land_E gw gh 1000 cap (by omega) hok (hA.gr S.out)) ?_
      rintro _ w6_ ⟨rfl, g6_⟩
      have S := S.gr g6_
      iterate 3 refine rw_v (op_pure rfl) ?_
      refine rw_newB (op_alloc Try.zeroValue25 rfl) S ?_
      intro b_md w8_ g8_ S
      refine rw_storeSA (i := 0) S rfl (Try.sizeOf25 _) rfl rfl rfl rfl rfl rfl ?_
      intro w9_ S
      refine rw_v (op_pure rfl) ?_
      first | refine rw_end ?_ | (refine rw_nil ?_; show CW _ _ _ _ _ _) | refine rw_nil ?_
      repeat refine cw_seq ?_
      refine cw_region ?_
      iterate 2 refine rw_v (op_pure rfl) ?_
      first | refine rw_end ?_ | (refine rw_nil ?_; show CW _ _ _ _ _ _) | refine rw_nil ?_
      repeat refine cw_seq ?_
      refine cw_false rfl ?_
      repeat refine cw_seq ?_
      refine cw_skip ?_
      try show CW _ _ _ _ _ _
      repeat refine cw_seq ?_
      refine cw_region ?_
      iterate 3 refine rw_v (op_pure rfl) ?_
      refine rw_call rfl (made_E gw gh cap hw hh hVg hmay (hA.gr S.out)) ?_
      rintro _ w10_ ⟨p, B, bc, bs, Rs, rfl, hG, hf, g10_⟩
      have S := S.gr g10_
      iterate 5 refine rw_v (op_pure rfl) ?_
      first | refine rw_end ?_ | (refine rw_nil ?_; show CW _ _ _ _ _ _) | refine rw_nil ?_
      repeat refine cw_seq ?_
      refine cw_region ?_
      iterate 2 refine rw_v (op_pure rfl) ?_
      first | refine rw_end ?_ | (refine rw_nil ?_; show CW _ _ _ _ _ _) | refine rw_nil ?_
      repeat refine cw_seq ?_
      refine cw_false rfl ?_
      repeat refine cw_seq ?_
      refine cw_skip ?_
      try show CW _ _ _ _ _ _
      repeat refine cw_seq ?_
      refine cw_region ?_
      refine rw_v (op_pure rfl) ?_
      refine rw_r (op_loadAB Try.underlying44 rfl (Try.sizeOf44 _) rfl (S.blk (i := 2) rfl) rfl rfl) ?_
      refine rw_r (op_loadAB Try.underlying44 rfl (Try.sizeOf44 _) rfl (S.blk (i := 1) rfl) rfl rfl) ?_
      refine rw_call rfl (hjn _ _ _ _ _ _ hG) ?_
      rintro _ w11_ ⟨t, hj, ⟨x, hx, htx⟩, rfl, g11_⟩
      have S := S.gr g11_
      iterate 5 refine rw_v (op_pure rfl) ?_
      first | refine rw_end ?_ | (refine rw_nil ?_; show CW _ _ _ _ _ _) | refine rw_nil ?_
      repeat refine cw_seq ?_
      refine cw_region ?_
      refine rw_r (op_loadAB Try.underlying25 rfl (Try.sizeOf25 _) rfl (S.blk (i := 0) rfl) rfl rfl) ?_
      refine rw_r (op_loadAB Try.underlying44 rfl (Try.sizeOf44 _) rfl (S.blk (i := 2) rfl) rfl rfl) ?_
      refine rw_call rfl (hata w11_ (hA.gr S.out)) ?_
      rintro _ w12_ ⟨rfl, g12_⟩
      have S := S.gr g12_
      iterate 5 refine rw_v (op_pure rfl) ?_
      first | refine rw_end ?_ | (refine rw_nil ?_; show CW _ _ _ _ _ _) | refine rw_nil ?_
      repeat refine cw_seq ?_
      refine cw_region ?_
      refine rw_r (op_loadAB Try.underlying25 rfl (Try.sizeOf25 _) rfl (S.blk (i := 0) rfl) rfl rfl) ?_
      refine rw_r (op_loadAB Try.underlying44 rfl (Try.sizeOf44 _) rfl (S.blk (i := 1) rfl) rfl rfl) ?_
      refine rw_call rfl (hatb w12_ (hA.gr S.out)) ?_
      rintro _ w13_ ⟨rfl, g13_⟩
      have S := S.gr g13_
      iterate 5 refine rw_v (op_pure rfl) ?_
      first | refine rw_end ?_ | (refine rw_nil ?_; show CW _ _ _ _ _ _) | refine rw_nil ?_
      repeat refine cw_seq ?_
      refine cw_region ?_
      refine rw_v (op_pure rfl) ?_
      refine rw_v (op_b (b := false) rfl (bne_eq_false_iff_eq.2 (by omega))) ?_
      refine rw_v (op_pure rfl) ?_
      first | refine rw_off rfl ?_ | (refine rw_on rfl ?_; refine rw_v (op_pure rfl) ?_)
      first | refine rw_off rfl ?_ | (refine rw_on rfl ?_; refine rw_v (op_b (b := false) rfl (bne_eq_false_iff_eq.2 (by omega))) ?_)
      refine rw_v (op_pure rfl) ?_
      first | refine rw_end ?_ | (refine rw_nil ?_; show CW _ _ _ _ _ _) | refine rw_nil ?_
      repeat refine cw_seq ?_
      refine cw_false rfl ?_
      repeat refine cw_seq ?_
      refine cw_skip ?_
      try show CW _ _ _ _ _ _
      have htb := hB x
      rw [← htx] at htb
      obtain ⟨r, hro⟩ := roots_exist gw V t
      obtain ⟨r1, hro1⟩ := roots_exist gw V (t + 1)
      obtain ⟨j1, j2, j3, j4⟩ := hj
      have hlab := (lab_eq hro (i := a) (j := b) (by omega) (by omega) j1 j2).2 (hro.same j3)
      have hpos : 0 < labF V t r a := lab_pos.2 j1
      have hgl : ∀ (t : Int) (r : Nat → Nat) (i : Nat), i < gw * gh → (cellsN V.length (labF V t r))[((i : Nat) : Int).toNat * 1]? = some (.int .i64 (labF V t r i : Nat)) := fun t r i hi => by rw [Nat.mul_one, Int.toNat_natCast, cellsN_get (by omega)]
      repeat refine cw_seq ?_
      refine cw_region ?_
      refine rw_r (op_loadAB Try.underlying25 rfl (Try.sizeOf25 _) rfl (S.blk (i := 0) rfl) rfl rfl) ?_
      refine rw_v (op_pure rfl) ?_
      refine rw_call rfl (of29_E t hw hh hVg hro (hA.gr S.out)) ?_
      rintro _ w14_ ⟨A1, c1, A2, c2, rfl, hR1, _, hF1, _, g14_⟩
      have S := S.pushRow hR1 hF1 g14_
      iterate 5 refine rw_v (op_pure rfl) ?_
      first | refine rw_end ?_ | (refine rw_nil ?_; show CW _ _ _ _ _ _) | refine rw_nil ?_
      repeat refine cw_seq ?_
      refine cw_region ?_
      refine rw_r (op_loadAB Try.underlying25 rfl (Try.sizeOf25 _) rfl (S.blk (i := 1) rfl) rfl rfl) ?_
      refine rw_v (op_pure rfl) ?_
      refine rw_v (op_rng rfl (by omega)) ?_
      refine rw_call rfl (of29_E (t + 1) hw hh hVg hro1 (hA.gr S.out)) ?_
      rintro _ w15_ ⟨A3, c3, A4, c4, rfl, hR3, _, hF3, _, g15_⟩
      have S := S.pushRow hR3 hF3 g15_
      iterate 5 refine rw_v (op_pure rfl) ?_
      first | refine rw_end ?_ | (refine rw_nil ?_; show CW _ _ _ _ _ _) | refine rw_nil ?_
      have sa_l1 : SomeA A1 := hR1.someA (by omega)
      have sa_l3 : SomeA A3 := hR3.someA (by omega)
      by_cases hup : t + 1 ≤ V.getD a 0
      · have hpos1 : 0 < labF V (t + 1) r1 a := lab_pos.2 hup
        have hne : labF V (t + 1) r1 a ≠ labF V (t + 1) r1 b := fun e => by
          have hupb : t + 1 ≤ V.getD b 0 := lab_pos.1 (e ▸ hpos1)
          have hrr := (lab_eq hro1 (i := a) (j := b) (by omega) (by omega) hup hupb).1 e
          have hc1 := hro1.conn a (by omega)
          rw [hrr] at hc1
          exact j4 ⟨hup, hupb, hc1.trans (hro1.conn b (by omega)).symm⟩
        have ga := hgl t r a ha
        have gb := hgl t r b hb
        have ga1 := hgl (t + 1) r1 a ha
        have gb1 := hgl (t + 1) r1 b hb
        generalize labF V t r a = n1 at *
        generalize labF V t r b = n2 at *
        generalize labF V (t + 1) r1 a = n3 at *
        generalize labF V (t + 1) r1 b = n4 at *
        repeat refine cw_seq ?_
        refine cw_draw (C := fun wq => Gr w15_ wq) [0, 1, 2, 3, 4, 5, 6, 7, 8, 9, 10, 11, 12, 13, 14, 15] [] (by kernel_rfl) (by kernel_rfl) (Gr.drew _) ?_
        simp only [pickL, List.drop_succ_cons, List.drop_zero]
        refine rq_v (op_fieldAddr Try.underlying44 rfl Try.sizeOf2 rfl rfl) ?_
        refine rq_r (fun wq hq => op_loadB Try.underlying2 rfl rfl ((S.gr hq).blk (i := 4) rfl) rfl) ?_
        refine rq_v (op_pure rfl) ?_
        refine rq_v (op_rng rfl (by generalize (Ya : Int) * gw = P at *; omega)) ?_
        refine rq_v (op_fieldAddr Try.underlying44 rfl Try.sizeOf2 rfl rfl) ?_
        refine rq_r (fun wq hq => op_loadB Try.underlying2 rfl rfl ((S.gr hq).blk (i := 4) rfl) rfl) ?_
        refine rq_v (op_rng rfl (by rw [ea]; omega)) ?_
        rw [ea]
        refine rq_v (op_fieldAddr Try.underlying44 rfl Try.sizeOf2 rfl rfl) ?_
        refine rq_r (fun wq hq => op_loadB Try.underlying2 rfl rfl ((S.gr hq).blk (i := 3) rfl) rfl) ?_
        refine rq_v (op_pure rfl) ?_
        refine rq_v (op_rng rfl (by generalize (Yb : Int) * gw = P at *; omega)) ?_
        refine rq_v (op_fieldAddr Try.underlying44 rfl Try.sizeOf2 rfl rfl) ?_
        refine rq_r (fun wq hq => op_loadB Try.underlying2 rfl rfl ((S.gr hq).blk (i := 3) rfl) rfl) ?_
        refine rq_v (op_rng rfl (by rw [eb]; omega)) ?_
        rw [eb]
        iterate 2 refine rq_v (op_pure rfl) ?_
        refine rq_nil ?_
        intro w16_ g16_
        have S := S.gr g16_
        first | refine rw_end ?_ | (refine rw_nil ?_; show CW _ _ _ _ _ _) | refine rw_nil ?_
        repeat refine cw_seq ?_
        refine cw_draw (C := fun wq => Gr w16_ wq) [0, 1, 2, 3, 4, 5, 6, 7, 8, 9, 10, 11, 12, 13, 14, 15, 16, 17, 18, 19, 20, 21, 22, 23, 24, 25, 26, 27, 28, 29, 30, 31, 32, 33, 34, 35, 36, 37, 38, 39, 40, 41, 42, 43, 44, 45, 46] [] (by kernel_rfl) (by kernel_rfl) (Gr.drew _) ?_
        simp only [pickL, List.drop_succ_cons, List.drop_zero]
        refine rq_v (op_pure rfl) ?_
        refine rq_v (op_b (b := true) rfl (beq_iff_eq.2 (by omega))) ?_
        refine rq_v (op_pure rfl) ?_
        first | refine rq_off rfl ?_ | (refine rq_on rfl ?_; refine rq_v (op_pure rfl) ?_)
        first | refine rq_off rfl ?_ | (refine rq_on rfl ?_; refine rq_v (op_b (b := true) rfl (decide_eq_true (by omega))) ?_)
        iterate 2 refine rq_v (op_pure rfl) ?_
        first | refine rq_off rfl ?_ | (refine rq_on rfl ?_; refine rq_v (op_pure rfl) ?_)
        first | refine rq_off rfl ?_ | (refine rq_on rfl ?_; refine rq_v (op_b (b := true) rfl (decide_eq_true (by omega))) ?_)
        iterate 2 refine rq_v (op_pure rfl) ?_
        first | refine rq_off rfl ?_ | (refine rq_on rfl ?_; refine rq_v (op_pure rfl) ?_)
        first | refine rq_off rfl ?_ | (refine rq_on rfl ?_; refine rq_v (op_pure rfl) ?_)
        first | refine rq_off rfl ?_ | (refine rq_on rfl ?_; refine rq_v (op_idx Try.underlying22 Try.sizeOf2 rfl rfl sa_l1 (by omega) (by omega)) ?_)
        first | refine rq_off rfl ?_ | (refine rq_on rfl ?_; refine rq_r (fun wq hq => op_ldR Try.underlying2 rfl rfl ((S.gr hq).rd (i := 1) rfl) ga) ?_)
        first | refine rq_off rfl ?_ | (refine rq_on rfl ?_; refine rq_v (op_b (b := true) rfl (decide_eq_true (by omega))) ?_)
        iterate 2 refine rq_v (op_pure rfl) ?_
        first | refine rq_off rfl ?_ | (refine rq_on rfl ?_; refine rq_v (op_pure rfl) ?_)
        first | refine rq_off rfl ?_ | (refine rq_on rfl ?_; refine rq_v (op_pure rfl) ?_)
        first | refine rq_off rfl ?_ | (refine rq_on rfl ?_; refine rq_v (op_idx Try.underlying22 Try.sizeOf2 rfl rfl sa_l1 (by omega) (by omega)) ?_)
        first | refine rq_off rfl ?_ | (refine rq_on rfl ?_; refine rq_r (fun wq hq => op_ldR Try.underlying2 rfl rfl ((S.gr hq).rd (i := 1) rfl) ga) ?_)
        first | refine rq_off rfl ?_ | (refine rq_on rfl ?_; refine rq_v (op_pure rfl) ?_)
        first | refine rq_off rfl ?_ | (refine rq_on rfl ?_; refine rq_v (op_pure rfl) ?_)
        first | refine rq_off rfl ?_ | (refine rq_on rfl ?_; refine rq_v (op_idx Try.underlying22 Try.sizeOf2 rfl rfl sa_l1 (by omega) (by omega)) ?_)
        first | refine rq_off rfl ?_ | (refine rq_on rfl ?_; refine rq_r (fun wq hq => op_ldR Try.underlying2 rfl rfl ((S.gr hq).rd (i := 1) rfl) gb) ?_)
        first | refine rq_off rfl ?_ | (refine rq_on rfl ?_; refine rq_v (op_b (b := true) rfl (beq_iff_eq.2 (by omega))) ?_)
        iterate 2 refine rq_v (op_pure rfl) ?_
        first | refine rq_off rfl ?_ | (refine rq_on rfl ?_; refine rq_v (op_pure rfl) ?_)
        first | refine rq_off rfl ?_ | (refine rq_on rfl ?_; refine rq_v (op_pure rfl) ?_)
        first | refine rq_off rfl ?_ | (refine rq_on rfl ?_; refine rq_v (op_idx Try.underlying22 Try.sizeOf2 rfl rfl sa_l3 (by omega) (by omega)) ?_)
        first | refine rq_off rfl ?_ | (refine rq_on rfl ?_; refine rq_r (fun wq hq => op_ldR Try.underlying2 rfl rfl ((S.gr hq).rd (i := 0) rfl) ga1) ?_)
        first | refine rq_off rfl ?_ | (refine rq_on rfl ?_; refine rq_v (op_b (b := false) rfl (beq_eq_false_iff_ne.2 (by omega))) ?_)
        first | refine rq_off rfl ?_ | (refine rq_on rfl ?_; refine rq_v (op_pure rfl) ?_)
        first | refine rq_off rfl ?_ | (refine rq_on rfl ?_; refine rq_v (op_pure rfl) ?_)
        first | refine rq_off rfl ?_ | (refine rq_on rfl ?_; refine rq_v (op_pure rfl) ?_)
        first | refine rq_off rfl ?_ | (refine rq_on rfl ?_; refine rq_v (op_idx Try.underlying22 Try.sizeOf2 rfl rfl sa_l3 (by omega) (by omega)) ?_)
        first | refine rq_off rfl ?_ | (refine rq_on rfl ?_; refine rq_r (fun wq hq => op_ldR Try.underlying2 rfl rfl ((S.gr hq).rd (i := 0) rfl) ga1) ?_)
        first | refine rq_off rfl ?_ | (refine rq_on rfl ?_; refine rq_v (op_pure rfl) ?_)
        first | refine rq_off rfl ?_ | (refine rq_on rfl ?_; refine rq_v (op_pure rfl) ?_)
        first | refine rq_off rfl ?_ | (refine rq_on rfl ?_; refine rq_v (op_idx Try.underlying22 Try.sizeOf2 rfl rfl sa_l3 (by omega) (by omega)) ?_)
        first | refine rq_off rfl ?_ | (refine rq_on rfl ?_; refine rq_r (fun wq hq => op_ldR Try.underlying2 rfl rfl ((S.gr hq).rd (i := 0) rfl) gb1) ?_)
        first | refine rq_off rfl ?_ | (refine rq_on rfl ?_; refine rq_v (op_b (b := true) rfl (bne_iff_ne.2 (by omega))) ?_)
        first | refine rq_off rfl ?_ | (refine rq_on rfl ?_; refine rq_v (op_pure rfl) ?_)
        iterate 2 refine rq_v (op_pure rfl) ?_
        refine rq_nil ?_
        intro w17_ g17_
        have S := S.gr g17_
        first | refine rw_end ?_ | (refine rw_nil ?_; show CW _ _ _ _ _ _) | refine rw_nil ?_
        repeat refine cw_seq ?_
        refine cw_ret ?_
        repeat first | refine ret_then ?_ | refine ret_inb ?_
        exact res1 rfl ⟨rfl, G.trans S.out⟩
      · have hz1 : labF V (t + 1) r1 a = 0 := if_neg hup
        have ga := hgl t r a ha
        have gb := hgl t r b hb
        have ga1 := hgl (t + 1) r1 a ha
        rw [hz1] at ga1
        generalize labF V t r a = n1 at *
        generalize labF V t r b = n2 at *
        repeat refine cw_seq ?_
        refine cw_draw (C := fun wq => Gr w15_ wq) [0, 1, 2, 3, 4, 5, 6, 7, 8, 9, 10, 11, 12, 13, 14, 15] [] (by kernel_rfl) (by kernel_rfl) (Gr.drew _) ?_
        simp only [pickL, List.drop_succ_cons, List.drop_zero]
        refine rq_v (op_fieldAddr Try.underlying44 rfl Try.sizeOf2 rfl rfl) ?_
        refine rq_r (fun wq hq => op_loadB Try.underlying2 rfl rfl ((S.gr hq).blk (i := 4) rfl) rfl) ?_
        refine rq_v (op_pure rfl) ?_
        refine rq_v (op_rng rfl (by generalize (Ya : Int) * gw = P at *; omega)) ?_
        refine rq_v (op_fieldAddr Try.underlying44 rfl Try.sizeOf2 rfl rfl) ?_
        refine rq_r (fun wq hq => op_loadB Try.underlying2 rfl rfl ((S.gr hq).blk (i := 4) rfl) rfl) ?_
        refine rq_v (op_rng rfl (by rw [ea]; omega)) ?_
        rw [ea]
        refine rq_v (op_fieldAddr Try.underlying44 rfl Try.sizeOf2 rfl rfl) ?_
        refine rq_r (fun wq hq => op_loadB Try.underlying2 rfl rfl ((S.gr hq).blk (i := 3) rfl) rfl) ?_
        refine rq_v (op_pure rfl) ?_
        refine rq_v (op_rng rfl (by generalize (Yb : Int) * gw = P at *; omega)) ?_
        refine rq_v (op_fieldAddr Try.underlying44 rfl Try.sizeOf2 rfl rfl) ?_
        refine rq_r (fun wq hq => op_loadB Try.underlying2 rfl rfl ((S.gr hq).blk (i := 3) rfl) rfl) ?_
        refine rq_v (op_rng rfl (by rw [eb]; omega)) ?_
        rw [eb]
        iterate 2 refine rq_v (op_pure rfl) ?_
        refine rq_nil ?_
        intro w18_ g18_
        have S := S.gr g18_
        first | refine rw_end ?_ | (refine rw_nil ?_; show CW _ _ _ _ _ _) | refine rw_nil ?_
        repeat refine cw_seq ?_
        refine cw_draw (C := fun wq => Gr w18_ wq) [0, 1, 2, 3, 4, 5, 6, 7, 8, 9, 10, 11, 12, 13, 14, 15, 16, 17, 18, 19, 20, 21, 22, 23, 24, 25, 26, 27, 28, 29, 30, 31, 32, 33, 34, 35, 36, 37, 38, 39, 40, 41, 42, 43, 44, 45, 46] [] (by kernel_rfl) (by kernel_rfl) (Gr.drew _) ?_
        simp only [pickL, List.drop_succ_cons, List.drop_zero]
        refine rq_v (op_pure rfl) ?_
        refine rq_v (op_b (b := true) rfl (beq_iff_eq.2 (by omega))) ?_
        refine rq_v (op_pure rfl) ?_
        first | refine rq_off rfl ?_ | (refine rq_on rfl ?_; refine rq_v (op_pure rfl) ?_)
        first | refine rq_off rfl ?_ | (refine rq_on rfl ?_; refine rq_v (op_b (b := true) rfl (decide_eq_true (by omega))) ?_)
        iterate 2 refine rq_v (op_pure rfl) ?_
        first | refine rq_off rfl ?_ | (refine rq_on rfl ?_; refine rq_v (op_pure rfl) ?_)
        first | refine rq_off rfl ?_ | (refine rq_on rfl ?_; refine rq_v (op_b (b := true) rfl (decide_eq_true (by omega))) ?_)
        iterate 2 refine rq_v (op_pure rfl) ?_
        first | refine rq_off rfl ?_ | (refine rq_on rfl ?_; refine rq_v (op_pure rfl) ?_)
        first | refine rq_off rfl ?_ | (refine rq_on rfl ?_; refine rq_v (op_pure rfl) ?_)
        first | refine rq_off rfl ?_ | (refine rq_on rfl ?_; refine rq_v (op_idx Try.underlying22 Try.sizeOf2 rfl rfl sa_l1 (by omega) (by omega)) ?_)
        first | refine rq_off rfl ?_ | (refine rq_on rfl ?_; refine rq_r (fun wq hq => op_ldR Try.underlying2 rfl rfl ((S.gr hq).rd (i := 1) rfl) ga) ?_)
        first | refine rq_off rfl ?_ | (refine rq_on rfl ?_; refine rq_v (op_b (b := true) rfl (decide_eq_true (by omega))) ?_)
        iterate 2 refine rq_v (op_pure rfl) ?_
        first | refine rq_off rfl ?_ | (refine rq_on rfl ?_; refine rq_v (op_pure rfl) ?_)
        first | refine rq_off rfl ?_ | (refine rq_on rfl ?_; refine rq_v (op_pure rfl) ?_)
        first | refine rq_off rfl ?_ | (refine rq_on rfl ?_; refine rq_v (op_idx Try.underlying22 Try.sizeOf2 rfl rfl sa_l1 (by omega) (by omega)) ?_)
        first | refine rq_off rfl ?_ | (refine rq_on rfl ?_; refine rq_r (fun wq hq => op_ldR Try.underlying2 rfl rfl ((S.gr hq).rd (i := 1) rfl) ga) ?_)
        first | refine rq_off rfl ?_ | (refine rq_on rfl ?_; refine rq_v (op_pure rfl) ?_)
        first | refine rq_off rfl ?_ | (refine rq_on rfl ?_; refine rq_v (op_pure rfl) ?_)
        first | refine rq_off rfl ?_ | (refine rq_on rfl ?_; refine rq_v (op_idx Try.underlying22 Try.sizeOf2 rfl rfl sa_l1 (by omega) (by omega)) ?_)
        first | refine rq_off rfl ?_ | (refine rq_on rfl ?_; refine rq_r (fun wq hq => op_ldR Try.underlying2 rfl rfl ((S.gr hq).rd (i := 1) rfl) gb) ?_)
        first | refine rq_off rfl ?_ | (refine rq_on rfl ?_; refine rq_v (op_b (b := true) rfl (beq_iff_eq.2 (by omega))) ?_)
        iterate 2 refine rq_v (op_pure rfl) ?_
        first | refine rq_off rfl ?_ | (refine rq_on rfl ?_; refine rq_v (op_pure rfl) ?_)
        first | refine rq_off rfl ?_ | (refine rq_on rfl ?_; refine rq_v (op_pure rfl) ?_)
        first | refine rq_off rfl ?_ | (refine rq_on rfl ?_; refine rq_v (op_idx Try.underlying22 Try.sizeOf2 rfl rfl sa_l3 (by omega) (by omega)) ?_)
        first | refine rq_off rfl ?_ | (refine rq_on rfl ?_; refine rq_r (fun wq hq => op_ldR Try.underlying2 rfl rfl ((S.gr hq).rd (i := 0) rfl) ga1) ?_)
        first | refine rq_off rfl ?_ | (refine rq_on rfl ?_; refine rq_v (op_b (b := true) rfl (beq_iff_eq.2 (by omega))) ?_)
        first | refine rq_off rfl ?_ | (refine rq_on rfl ?_; refine rq_v (op_pure rfl) ?_)
        refine rq_off rfl ?_
        refine rq_off rfl ?_
        refine rq_off rfl ?_
        refine rq_off rfl ?_
        refine rq_off rfl ?_
        refine rq_off rfl ?_
        refine rq_off rfl ?_
        refine rq_off rfl ?_
        refine rq_off rfl ?_
        first | refine rq_off rfl ?_ | (refine rq_on rfl ?_; refine rq_v (op_pure rfl) ?_)
        iterate 2 refine rq_v (op_pure rfl) ?_
        refine rq_nil ?_
        intro w19_ g19_
        have S := S.gr g19_
        first | refine rw_end ?_ | (refine rw_nil ?_; show CW _ _ _ _ _ _) | refine rw_nil ?_
        repeat refine cw_seq ?_
        refine cw_ret ?_
        repeat first | refine ret_then ?_ | refine ret_inb ?_
        exact res1 rfl ⟨rfl, G.trans S.out⟩
    · have hno : inG gw gh (ax, ay) = false ∨ inG gw gh (bx, bz) = false := by
        cases h1 : inG gw gh (ax, ay) with
        | false => exact .inl rfl
        | true => cases h2 : inG gw gh (bx, bz) with
          | false => exact .inr rfl
          | true => exact absurd ⟨h1, h2⟩ hin
      cases hina : inG gw gh (ax, ay) with
      | true =>
        have hinb : inG gw gh (bx, bz) = false := hno.resolve_left (by rw [hina]; simp)
        have G := Gr.refl W
        have S := St.start W
        refine Fn_enter Try.func4 rfl Try.results4 Try.ntmps4 (by kernel_rfl) (by kernel_rfl) ?_
        repeat refine cw_seq ?_
        refine cw_region ?_
        refine rw_newB (op_box rfl) S ?_
        intro b_ca w2_ g2_ S
        refine rw_newB (op_box rfl) S ?_
        intro b_cb w4_ g4_ S
        refine rw_v (op_pure rfl) ?_
        first | refine rw_end ?_ | (refine rw_nil ?_; show CW _ _ _ _ _ _) | refine rw_nil ?_
        repeat refine cw_seq ?_
        refine cw_region ?_
        refine rw_call rfl (awake29_E w4_) ?_
        rintro _ w5_ ⟨rfl, g5_⟩
        have S := S.gr g5_
        refine rw_v (op_pure rfl) ?_
        first | refine rw_end ?_ | (refine rw_nil ?_; show CW _ _ _ _ _ _) | refine rw_nil ?_
        repeat refine cw_seq ?_
        refine cw_false rfl ?_
        repeat refine cw_seq ?_
        refine cw_skip ?_
        try show CW _ _ _ _ _ _
        repeat refine cw_seq ?_
        refine cw_region ?_
        iterate 3 refine rw_v (op_pure rfl) ?_
        refine rw_call rfl (land_E gw gh 1000 cap (by omega) hok (hA.gr S.out)) ?_
        rintro _ w6_ ⟨rfl, g6_⟩
        have S := S.gr g6_
        iterate 3 refine rw_v (op_pure rfl) ?_
        refine rw_newB (op_alloc Try.zeroValue25 rfl) S ?_
        intro b_md w8_ g8_ S
        refine rw_storeSA (i := 0) S rfl (Try.sizeOf25 _) rfl rfl rfl rfl rfl rfl ?_
        intro w9_ S
        refine rw_v (op_pure rfl) ?_
        first | refine rw_end ?_ | (refine rw_nil ?_; show CW _ _ _ _ _ _) | refine rw_nil ?_
        repeat refine cw_seq ?_
        refine cw_region ?_
        iterate 2 refine rw_v (op_pure rfl) ?_
        first | refine rw_end ?_ | (refine rw_nil ?_; show CW _ _ _ _ _ _) | refine rw_nil ?_
        repeat refine cw_seq ?_
        refine cw_false rfl ?_
        repeat refine cw_seq ?_
        refine cw_skip ?_
        try show CW _ _ _ _ _ _
        repeat refine cw_seq ?_
        refine cw_region ?_
        iterate 3 refine rw_v (op_pure rfl) ?_
        refine rw_call rfl (made_E gw gh cap hw hh hVg hmay (hA.gr S.out)) ?_
        rintro _ w10_ ⟨p, B, bc, bs, Rs, rfl, hG, hf, g10_⟩
        have S := S.gr g10_
        iterate 5 refine rw_v (op_pure rfl) ?_
        first | refine rw_end ?_ | (refine rw_nil ?_; show CW _ _ _ _ _ _) | refine rw_nil ?_
        repeat refine cw_seq ?_
        refine cw_region ?_
        iterate 2 refine rw_v (op_pure rfl) ?_
        first | refine rw_end ?_ | (refine rw_nil ?_; show CW _ _ _ _ _ _) | refine rw_nil ?_
        repeat refine cw_seq ?_
        refine cw_false rfl ?_
        repeat refine cw_seq ?_
        refine cw_skip ?_
        try show CW _ _ _ _ _ _
        repeat refine cw_seq ?_
        refine cw_region ?_
        refine rw_v (op_pure rfl) ?_
        refine rw_r (op_loadAB Try.underlying44 rfl (Try.sizeOf44 _) rfl (S.blk (i := 2) rfl) rfl rfl) ?_
        refine rw_r (op_loadAB Try.underlying44 rfl (Try.sizeOf44 _) rfl (S.blk (i := 1) rfl) rfl rfl) ?_
        refine rw_call rfl (joinedNo_E _ _ _ _ hno hG) ?_
        rintro _ w11_ ⟨rfl, g11_⟩
        have S := S.gr g11_
        iterate 5 refine rw_v (op_pure rfl) ?_
        first | refine rw_end ?_ | (refine rw_nil ?_; show CW _ _ _ _ _ _) | refine rw_nil ?_
        repeat refine cw_seq ?_
        refine cw_region ?_
        refine rw_r (op_loadAB Try.underlying25 rfl (Try.sizeOf25 _) rfl (S.blk (i := 0) rfl) rfl rfl) ?_
        refine rw_r (op_loadAB Try.underlying44 rfl (Try.sizeOf44 _) rfl (S.blk (i := 2) rfl) rfl rfl) ?_
        refine rw_call rfl (mat_E ax ay hina hVg (by omega) (hA.gr S.out)) ?_
        rintro _ w12_ ⟨rfl, g12_⟩
        have S := S.gr g12_
        iterate 5 refine rw_v (op_pure rfl) ?_
        first | refine rw_end ?_ | (refine rw_nil ?_; show CW _ _ _ _ _ _) | refine rw_nil ?_
        repeat refine cw_seq ?_
        refine cw_region ?_
        refine rw_r (op_loadAB Try.underlying25 rfl (Try.sizeOf25 _) rfl (S.blk (i := 0) rfl) rfl rfl) ?_
        refine rw_r (op_loadAB Try.underlying44 rfl (Try.sizeOf44 _) rfl (S.blk (i := 1) rfl) rfl rfl) ?_
        refine rw_call rfl (matNo_E (W := w12_) bx bz V.length hinb) ?_
        rintro _ w13_ ⟨rfl, g13_⟩
        have S := S.gr g13_
        iterate 5 refine rw_v (op_pure rfl) ?_
        first | refine rw_end ?_ | (refine rw_nil ?_; show CW _ _ _ _ _ _) | refine rw_nil ?_
        repeat refine cw_seq ?_
        refine cw_region ?_
        refine rw_v (op_pure rfl) ?_
        refine rw_v (op_b (b := false) rfl (bne_eq_false_iff_eq.2 (by omega))) ?_
        refine rw_v (op_pure rfl) ?_
        first | refine rw_off rfl ?_ | (refine rw_on rfl ?_; refine rw_v (op_pure rfl) ?_)
        first | refine rw_off rfl ?_ | (refine rw_on rfl ?_; refine rw_v (op_b (b := true) rfl (bne_iff_ne.2 (by omega))) ?_)
        refine rw_v (op_pure rfl) ?_
        first | refine rw_end ?_ | (refine rw_nil ?_; show CW _ _ _ _ _ _) | refine rw_nil ?_
        repeat refine cw_seq ?_
        refine cw_true rfl ?_
        repeat refine cw_seq ?_
        refine cw_region ?_
        refine rw_v (op_pure rfl) ?_
        refine rw_v (op_b (b := true) rfl (beq_iff_eq.2 (by omega))) ?_
        refine rw_v (op_pure rfl) ?_
        first | refine rw_off rfl ?_ | (refine rw_on rfl ?_; refine rw_v (op_pure rfl) ?_)
        first | refine rw_off rfl ?_ | (refine rw_on rfl ?_; refine rw_v (op_b (b := true) rfl (beq_iff_eq.2 (by omega))) ?_)
        iterate 2 refine rw_v (op_pure rfl) ?_
        first | refine rw_end ?_ | (refine rw_nil ?_; show CW _ _ _ _ _ _) | refine rw_nil ?_
        repeat refine cw_seq ?_
        refine cw_ret ?_
        repeat first | refine ret_then ?_ | refine ret_inb ?_
        exact res1 rfl ⟨rfl, G.trans S.out⟩
      | false =>
        cases hinb : inG gw gh (bx, bz) with
        | true =>
          have G := Gr.refl W
          have S := St.start W
          refine Fn_enter Try.func4 rfl Try.results4 Try.ntmps4 (by kernel_rfl) (by kernel_rfl) ?_
          repeat refine cw_seq ?_
          refine cw_region ?_
          refine rw_newB (op_box rfl) S ?_
          intro b_ca w2_ g2_ S
          refine rw_newB (op_box rfl) S ?_
          intro b_cb w4_ g4_ S
          refine rw_v (op_pure rfl) ?_
          first | refine rw_end ?_ | (refine rw_nil ?_; show CW _ _ _ _ _ _) | refine rw_nil ?_
          repeat refine cw_seq ?_
          refine cw_region ?_
          refine rw_call rfl (awake29_E w4_) ?_
          rintro _ w5_ ⟨rfl, g5_⟩
          have S := S.gr g5_
          refine rw_v (op_pure rfl) ?_
          first | refine rw_end ?_ | (refine rw_nil ?_; show CW _ _ _ _ _ _) | refine rw_nil ?_
          repeat refine cw_seq ?_
          refine cw_false rfl ?_
          repeat refine cw_seq ?_
          refine cw_skip ?_
          try show CW _ _ _ _ _ _
          repeat refine cw_seq ?_
          refine cw_region ?_
          iterate 3 refine rw_v (op_pure rfl) ?_
          refine rw_call rfl (land_E gw gh 1000 cap (by omega) hok (hA.gr S.out)) ?_
          rintro _ w6_ ⟨rfl, g6_⟩
          have S := S.gr g6_
          iterate 3 refine rw_v (op_pure rfl) ?_
          refine rw_newB (op_alloc Try.zeroValue25 rfl) S ?_
          intro b_md w8_ g8_ S
          refine rw_storeSA (i := 0) S rfl (Try.sizeOf25 _) rfl rfl rfl rfl rfl rfl ?_
          intro w9_ S
          refine rw_v (op_pure rfl) ?_
          first | refine rw_end ?_ | (refine rw_nil ?_; show CW _ _ _ _ _ _) | refine rw_nil ?_
          repeat refine cw_seq ?_
          refine cw_region ?_
          iterate 2 refine rw_v (op_pure rfl) ?_
          first | refine rw_end ?_ | (refine rw_nil ?_; show CW _ _ _ _ _ _) | refine rw_nil ?_
          repeat refine cw_seq ?_
          refine cw_false rfl ?_
          repeat refine cw_seq ?_
          refine cw_skip ?_
          try show CW _ _ _ _ _ _
          repeat refine cw_seq ?_
          refine cw_region ?_
          iterate 3 refine rw_v (op_pure rfl) ?_
          refine rw_call rfl (made_E gw gh cap hw hh hVg hmay (hA.gr S.out)) ?_
          rintro _ w10_ ⟨p, B, bc, bs, Rs, rfl, hG, hf, g10_⟩
          have S := S.gr g10_
          iterate 5 refine rw_v (op_pure rfl) ?_
          first | refine rw_end ?_ | (refine rw_nil ?_; show CW _ _ _ _ _ _) | refine rw_nil ?_
          repeat refine cw_seq ?_
          refine cw_region ?_
          iterate 2 refine rw_v (op_pure rfl) ?_
          first | refine rw_end ?_ | (refine rw_nil ?_; show CW _ _ _ _ _ _) | refine rw_nil ?_
          repeat refine cw_seq ?_
          refine cw_false rfl ?_
          repeat refine cw_seq ?_
          refine cw_skip ?_
          try show CW _ _ _ _ _ _
          repeat refine cw_seq ?_
          refine cw_region ?_
          refine rw_v (op_pure rfl) ?_
          refine rw_r (op_loadAB Try.underlying44 rfl (Try.sizeOf44 _) rfl (S.blk (i := 2) rfl) rfl rfl) ?_
          refine rw_r (op_loadAB Try.underlying44 rfl (Try.sizeOf44 _) rfl (S.blk (i := 1) rfl) rfl rfl) ?_
          refine rw_call rfl (joinedNo_E _ _ _ _ hno hG) ?_
          rintro _ w11_ ⟨rfl, g11_⟩
          have S := S.gr g11_
          iterate 5 refine rw_v (op_pure rfl) ?_
          first | refine rw_end ?_ | (refine rw_nil ?_; show CW _ _ _ _ _ _) | refine rw_nil ?_
          repeat refine cw_seq ?_
          refine cw_region ?_
          refine rw_r (op_loadAB Try.underlying25 rfl (Try.sizeOf25 _) rfl (S.blk (i := 0) rfl) rfl rfl) ?_
          refine rw_r (op_loadAB Try.underlying44 rfl (Try.sizeOf44 _) rfl (S.blk (i := 2) rfl) rfl rfl) ?_
          refine rw_call rfl (matNo_E (W := w11_) ax ay V.length hina) ?_
          rintro _ w12_ ⟨rfl, g12_⟩
          have S := S.gr g12_
          iterate 5 refine rw_v (op_pure rfl) ?_
          first | refine rw_end ?_ | (refine rw_nil ?_; show CW _ _ _ _ _ _) | refine rw_nil ?_
          repeat refine cw_seq ?_
          refine cw_region ?_
          refine rw_r (op_loadAB Try.underlying25 rfl (Try.sizeOf25 _) rfl (S.blk (i := 0) rfl) rfl rfl) ?_
          refine rw_r (op_loadAB Try.underlying44 rfl (Try.sizeOf44 _) rfl (S.blk (i := 1) rfl) rfl rfl) ?_
          refine rw_call rfl (mat_E bx bz hinb hVg (by omega) (hA.gr S.out)) ?_
          rintro _ w13_ ⟨rfl, g13_⟩
          have S := S.gr g13_
          iterate 5 refine rw_v (op_pure rfl) ?_
          first | refine rw_end ?_ | (refine rw_nil ?_; show CW _ _ _ _ _ _) | refine rw_nil ?_
          repeat refine cw_seq ?_
          refine cw_region ?_
          refine rw_v (op_pure rfl) ?_
          refine rw_v (op_b (b := true) rfl (bne_iff_ne.2 (by omega))) ?_
          refine rw_v (op_pure rfl) ?_
          refine rw_off rfl ?_
          refine rw_off rfl ?_
          refine rw_v (op_pure rfl) ?_
          first | refine rw_end ?_ | (refine rw_nil ?_; show CW _ _ _ _ _ _) | refine rw_nil ?_
          repeat refine cw_seq ?_
          refine cw_true rfl ?_
          repeat refine cw_seq ?_
          refine cw_region ?_
          refine rw_v (op_pure rfl) ?_
          refine rw_v (op_b (b := true) rfl (beq_iff_eq.2 (by omega))) ?_
          refine rw_v (op_pure rfl) ?_
          first | refine rw_off rfl ?_ | (refine rw_on rfl ?_; refine rw_v (op_pure rfl) ?_)
          first | refine rw_off rfl ?_ | (refine rw_on rfl ?_; refine rw_v (op_b (b := true) rfl (beq_iff_eq.2 (by omega))) ?_)
          iterate 2 refine rw_v (op_pure rfl) ?_
          first | refine rw_end ?_ | (refine rw_nil ?_; show CW _ _ _ _ _ _) | refine rw_nil ?_
          repeat refine cw_seq ?_
          refine cw_ret ?_
          repeat first | refine ret_then ?_ | refine ret_inb ?_
          exact res1 rfl ⟨rfl, G.trans S.out⟩
        | false =>
          have G := Gr.refl W
          have S := St.start W
          refine Fn_enter Try.func4 rfl Try.results4 Try.ntmps4 (by kernel_rfl) (by kernel_rfl) ?_
          repeat refine cw_seq ?_
          refine cw_region ?_
          refine rw_newB (op_box rfl) S ?_
          intro b_ca w2_ g2_ S
          refine rw_newB (op_box rfl) S ?_
          intro b_cb w4_ g4_ S
          refine rw_v (op_pure rfl) ?_
          first | refine rw_end ?_ | (refine rw_nil ?_; show CW _ _ _ _ _ _) | refine rw_nil ?_
          repeat refine cw_seq ?_
          refine cw_region ?_
          refine rw_call rfl (awake29_E w4_) ?_
          rintro _ w5_ ⟨rfl, g5_⟩
          have S := S.gr g5_
          refine rw_v (op_pure rfl) ?_
          first | refine rw_end ?_ | (refine rw_nil ?_; show CW _ _ _ _ _ _) | refine rw_nil ?_
          repeat refine cw_seq ?_
          refine cw_false rfl ?_
          repeat refine cw_seq ?_
          refine cw_skip ?_
          try show CW _ _ _ _ _ _
          repeat refine cw_seq ?_
          refine cw_region ?_
          iterate 3 refine rw_v (op_pure rfl) ?_
          refine rw_call rfl (land_E gw gh 1000 cap (by omega) hok (hA.gr S.out)) ?_
          rintro _ w6_ ⟨rfl, g6_⟩
          have S := S.gr g6_
          iterate 3 refine rw_v (op_pure rfl) ?_
          refine rw_newB (op_alloc Try.zeroValue25 rfl) S ?_
          intro b_md w8_ g8_ S
          refine rw_storeSA (i := 0) S rfl (Try.sizeOf25 _) rfl rfl rfl rfl rfl rfl ?_
          intro w9_ S
          refine rw_v (op_pure rfl) ?_
          first | refine rw_end ?_ | (refine rw_nil ?_; show CW _ _ _ _ _ _) | refine rw_nil ?_
          repeat refine cw_seq ?_
          refine cw_region ?_
          iterate 2 refine rw_v (op_pure rfl) ?_
          first | refine rw_end ?_ | (refine rw_nil ?_; show CW _ _ _ _ _ _) | refine rw_nil ?_
          repeat refine cw_seq ?_
          refine cw_false rfl ?_
          repeat refine cw_seq ?_
          refine cw_skip ?_
          try show CW _ _ _ _ _ _
          repeat refine cw_seq ?_
          refine cw_region ?_
          iterate 3 refine rw_v (op_pure rfl) ?_
          refine rw_call rfl (made_E gw gh cap hw hh hVg hmay (hA.gr S.out)) ?_
          rintro _ w10_ ⟨p, B, bc, bs, Rs, rfl, hG, hf, g10_⟩
          have S := S.gr g10_
          iterate 5 refine rw_v (op_pure rfl) ?_
          first | refine rw_end ?_ | (refine rw_nil ?_; show CW _ _ _ _ _ _) | refine rw_nil ?_
          repeat refine cw_seq ?_
          refine cw_region ?_
          iterate 2 refine rw_v (op_pure rfl) ?_
          first | refine rw_end ?_ | (refine rw_nil ?_; show CW _ _ _ _ _ _) | refine rw_nil ?_
          repeat refine cw_seq ?_
          refine cw_false rfl ?_
          repeat refine cw_seq ?_
          refine cw_skip ?_
          try show CW _ _ _ _ _ _
          repeat refine cw_seq ?_
          refine cw_region ?_
          refine rw_v (op_pure rfl) ?_
          refine rw_r (op_loadAB Try.underlying44 rfl (Try.sizeOf44 _) rfl (S.blk (i := 2) rfl) rfl rfl) ?_
          refine rw_r (op_loadAB Try.underlying44 rfl (Try.sizeOf44 _) rfl (S.blk (i := 1) rfl) rfl rfl) ?_
          refine rw_call rfl (joinedNo_E _ _ _ _ hno hG) ?_
          rintro _ w11_ ⟨rfl, g11_⟩
          have S := S.gr g11_
          iterate 5 refine rw_v (op_pure rfl) ?_
          first | refine rw_end ?_ | (refine rw_nil ?_; show CW _ _ _ _ _ _) | refine rw_nil ?_
          repeat refine cw_seq ?_
          refine cw_region ?_
          refine rw_r (op_loadAB Try.underlying25 rfl (Try.sizeOf25 _) rfl (S.blk (i := 0) rfl) rfl rfl) ?_
          refine rw_r (op_loadAB Try.underlying44 rfl (Try.sizeOf44 _) rfl (S.blk (i := 2) rfl) rfl rfl) ?_
          refine rw_call rfl (matNo_E (W := w11_) ax ay V.length hina) ?_
          rintro _ w12_ ⟨rfl, g12_⟩
          have S := S.gr g12_
          iterate 5 refine rw_v (op_pure rfl) ?_
          first | refine rw_end ?_ | (refine rw_nil ?_; show CW _ _ _ _ _ _) | refine rw_nil ?_
          repeat refine cw_seq ?_
          refine cw_region ?_
          refine rw_r (op_loadAB Try.underlying25 rfl (Try.sizeOf25 _) rfl (S.blk (i := 0) rfl) rfl rfl) ?_
          refine rw_r (op_loadAB Try.underlying44 rfl (Try.sizeOf44 _) rfl (S.blk (i := 1) rfl) rfl rfl) ?_
          refine rw_call rfl (matNo_E (W := w12_) bx bz V.length hinb) ?_
          rintro _ w13_ ⟨rfl, g13_⟩
          have S := S.gr g13_
          iterate 5 refine rw_v (op_pure rfl) ?_
          first | refine rw_end ?_ | (refine rw_nil ?_; show CW _ _ _ _ _ _) | refine rw_nil ?_
          repeat refine cw_seq ?_
          refine cw_region ?_
          refine rw_v (op_pure rfl) ?_
          refine rw_v (op_b (b := true) rfl (bne_iff_ne.2 (by omega))) ?_
          refine rw_v (op_pure rfl) ?_
          refine rw_off rfl ?_
          refine rw_off rfl ?_
          refine rw_v (op_pure rfl) ?_
          first | refine rw_end ?_ | (refine rw_nil ?_; show CW _ _ _ _ _ _) | refine rw_nil ?_
          repeat refine cw_seq ?_
          refine cw_true rfl ?_
          repeat refine cw_seq ?_
          refine cw_region ?_
          refine rw_v (op_pure rfl) ?_
          refine rw_v (op_b (b := true) rfl (beq_iff_eq.2 (by omega))) ?_
          refine rw_v (op_pure rfl) ?_
          first | refine rw_off rfl ?_ | (refine rw_on rfl ?_; refine rw_v (op_pure rfl) ?_)
          first | refine rw_off rfl ?_ | (refine rw_on rfl ?_; refine rw_v (op_b (b := true) rfl (beq_iff_eq.2 (by omega))) ?_)
          iterate 2 refine rw_v (op_pure rfl) ?_
          first | refine rw_end ?_ | (refine rw_nil ?_; show CW _ _ _ _ _ _) | refine rw_nil ?_
          repeat refine cw_seq ?_
          refine cw_ret ?_
          repeat first | refine ret_then ?_ | refine ret_inb ?_
          exact res1 rfl ⟨rfl, G.trans S.out⟩
  · skip
    have G := Gr.refl W
    have S := St.start W
    refine Fn_enter Try.func4 rfl Try.results4 Try.ntmps4 (by kernel_rfl) (by kernel_rfl) ?_
    repeat refine cw_seq ?_
    refine cw_region ?_
    refine rw_newB (op_box rfl) S ?_
    intro b_ca w2_ g2_ S
    refine rw_newB (op_box rfl) S ?_
    intro b_cb w4_ g4_ S
    refine rw_v (op_pure rfl) ?_
    first | refine rw_end ?_ | (refine rw_nil ?_; show CW _ _ _ _ _ _) | refine rw_nil ?_
    repeat refine cw_seq ?_
    refine cw_region ?_
    refine rw_call rfl (awake29_E w4_) ?_
    rintro _ w5_ ⟨rfl, g5_⟩
    have S := S.gr g5_
    refine rw_v (op_pure rfl) ?_
    first | refine rw_end ?_ | (refine rw_nil ?_; show CW _ _ _ _ _ _) | refine rw_nil ?_
    repeat refine cw_seq ?_
    refine cw_false rfl ?_
    repeat refine cw_seq ?_
    refine cw_skip ?_
    try show CW _ _ _ _ _ _
    repeat refine cw_seq ?_
    refine cw_region ?_
    iterate 3 refine rw_v (op_pure rfl) ?_
    refine rw_call rfl (landNo_E w h 1000 cap (by omega) hl hok (hA.gr S.out)) ?_
    rintro _ w6_ ⟨rfl, g6_⟩
    have S := S.gr g6_
    iterate 3 refine rw_v (op_pure rfl) ?_
    refine rw_newB (op_alloc Try.zeroValue25 rfl) S ?_
    intro b_b7 w8_ g8_ S
    refine rw_storeSA (i := 0) S rfl (Try.sizeOf25 _) rfl rfl rfl rfl rfl rfl ?_
    intro w9_ S
    refine rw_v (op_pure rfl) ?_
    first | refine rw_end ?_ | (refine rw_nil ?_; show CW _ _ _ _ _ _) | refine rw_nil ?_
    repeat refine cw_seq ?_
    refine cw_region ?_
    iterate 2 refine rw_v (op_pure rfl) ?_
    first | refine rw_end ?_ | (refine rw_nil ?_; show CW _ _ _ _ _ _) | refine rw_nil ?_
    repeat refine cw_seq ?_
    refine cw_true rfl ?_
    repeat refine cw_seq ?_
    refine cw_region ?_
    refine rw_v (op_pure rfl) ?_
    first | refine rw_end ?_ | (refine rw_nil ?_; show CW _ _ _ _ _ _) | refine rw_nil ?_
    repeat refine cw_seq ?_
    refine cw_ret ?_
    repeat first | refine ret_then ?_ | refine ret_inb ?_
    exact res1 rfl ⟨rfl, S.out⟩
end
end Go.Proofs.Ytbcgbcipigcbhaa
