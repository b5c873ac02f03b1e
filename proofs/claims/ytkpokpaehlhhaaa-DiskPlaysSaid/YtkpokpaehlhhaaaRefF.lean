/- The document's disk: Sync, Crash, a step. -/
import Derived.Test.YtkpokpaehlhhaaaRefE
namespace Go.Proofs.Ytkpokpaehlhhaaa
open Go.RowKit
set_option linter.unusedVariables false
set_option linter.unusedSimpArgs false
set_option maxRecDepth 100000

section
variable {F : Nat → Prop} {A0 A1 Aw : Option Addr} {c0 c1 cw : Nat}
def DS.syncD (s : DS) : Int × DS := if s.dark then (17, s) else if s.burns then (17, { s with dark := true }) else (0, s.ticked.settled s.waits.length)
set_option maxHeartbeats 2000000 in
theorem rsync_E (s : DS) (B : Nat) (hi : Inv B s) (hB : B < 137438953472) (W : World) (hF : FO F W) (hR : RefAt F W s A0 A1 Aw c0 c1 cw) :
    Fn Try.prog 34 [.agg (s.ref A0 A1 Aw c0 c1 cw).toArray] W (RetRefC F s.syncD.1 s.syncD.2 W) := by
  have hburn : s.burns = true → ∀ (w : World), Gr W w → _ := fun hb w g => rdeedBurn_E s none 0 0 hb w (hF.up g) (hR.gr g)
  have hdeed : ∀ (w : World), Gr W w → _ := fun w g => rdeed_E s [] none 0 hi.fuse (by have := hi.l1; simp only [List.length_nil]; omega) w (hF.up g) (hR.gr g) ⟨.inl rfl, Nat.le_refl _, fun _ => rfl, fun _ a h => nomatch h⟩
  have hset : s.burns = false → ∀ {A0 A1 Aw : Option Addr} {c0 c1 cw : Nat} (w : World), FO F w → RefAt F w (s.deed []).2 A0 A1 Aw c0 c1 cw → Fn Try.prog 62 [.agg ((s.deed []).2.ref A0 A1 Aw c0 c1 cw).toArray, .int .i64 s.waits.length] w (RetRef F (s.ticked.settled s.waits.length) w) := by
    intro hb A0 A1 Aw c0 c1 cw w hF hR
    have e : s.deed [] = (0, s.ticked) := by unfold DS.deed; rw [if_neg (by simp [hb])]; simp [runs, DS.ticked]
    rw [e] at hR ⊢
    have hi2 := ticked_inv hi hb
    exact rsettled_E s.ticked s.waits.length B (Nat.le_refl _) (by omega) hi2.oks hi2.l1 hi2.l2 w hF hR
  have hd1 : s.burns = true → s.deed [] = (17, { s with dark := true }) := fun hb => by unfold DS.deed; rw [if_pos hb]
  have hd0 : s.burns = false → s.deed [] = (0, { s.ticked with seen := s.seen, waits := s.waits }) := fun hb => by unfold DS.deed; rw [if_neg (by simp [hb])]; simp [runs]
  unfold DS.syncD
  obtain ⟨room, last, waits, seen, fused, fuse, dark⟩ := s
  unfold DS.ref at *
  dsimp only at *
  cases dark
  · rw [if_neg (by simp)]
    cases hbu : DS.burns ⟨room, last, waits, seen, fused, fuse, false⟩
    · rw [if_neg (by simp)]
      have hdeed := hdeed
      have hset := @hset hbu
      rw [hd0 hbu] at hdeed hset
      unfold DS.ticked at *
      dsimp only at *
      have S := St.start W
      refine Fn_enter Try.func34 rfl Try.results34 Try.ntmps34 (by kernel_rfl) (by kernel_rfl) ?_
      repeat refine cw_seq ?_
      refine cw_region ?_
      refine rw_newB (op_box rfl) S ?_
      intro b_D w2_ g2_ S
      refine rw_newB (op_alloc Try.zeroValue33 rfl) S ?_
      intro b_R w4_ g4_ S
      refine rw_v (op_pure rfl) ?_
      first | refine rw_end ?_ | (refine rw_nil ?_; show CW _ _ _ _ _ _) | refine rw_nil ?_
      repeat refine cw_seq ?_
      refine cw_region ?_
      refine rw_v (op_fieldAddr Try.underlying33 rfl Try.sizeOf4 rfl rfl) ?_
      refine rw_r (op_loadB Try.underlying4 rfl rfl (S.blk (i := 1) rfl) rfl) ?_
      first | refine rw_end ?_ | (refine rw_nil ?_; show CW _ _ _ _ _ _) | refine rw_nil ?_
      repeat refine cw_seq ?_
      refine cw_false rfl ?_
      repeat refine cw_seq ?_
      refine cw_skip ?_
      try show CW _ _ _ _ _ _
      repeat refine cw_seq ?_
      refine cw_region ?_
      refine rw_r (op_loadAB Try.underlying33 rfl (Try.sizeOf33 _) rfl (S.blk (i := 1) rfl) rfl rfl) ?_
      have hcall := hdeed _ S.out
      refine rw_call rfl (hcall) ?_
      rintro _ w5_ ⟨A0', A1', Aw', c0', c1', cw', rfl, hR', g5_⟩
      have S := S.gr g5_
      refine rw_v (op_pure rfl) ?_
      refine rw_v (op_pure rfl) ?_
      refine rw_v (op_pure rfl) ?_
      refine rw_newB (op_alloc Try.zeroValue33 rfl) S ?_
      intro b_N w7_ g7_ S
      have hR' := hR'.gr g7_
      refine rw_storeSAF (i := 0) S rfl (Try.sizeOf33 _) rfl rfl rfl rfl rfl rfl ?_
      intro w9 k9 B9 S
      have hR' := hR'.past B9 rfl k9
      refine rw_v (op_pure rfl) ?_
      first | refine rw_end ?_ | (refine rw_nil ?_; show CW _ _ _ _ _ _) | refine rw_nil ?_
      repeat refine cw_seq ?_
      refine cw_region ?_
      refine rw_v (op_pure rfl) ?_
      refine rw_v (op_b (b := false) rfl (bne_eq_false_iff_eq.2 (by omega))) ?_
      first | refine rw_end ?_ | (refine rw_nil ?_; show CW _ _ _ _ _ _) | refine rw_nil ?_
      repeat refine cw_seq ?_
      refine cw_false rfl ?_
      repeat refine cw_seq ?_
      refine cw_skip ?_
      try show CW _ _ _ _ _ _
      repeat refine cw_seq ?_
      refine cw_region ?_
      refine rw_r (op_loadAB Try.underlying33 rfl (Try.sizeOf33 _) rfl (S.blk (i := 0) rfl) rfl rfl) ?_
      refine rw_v (op_fieldAddr Try.underlying33 rfl Try.sizeOf31 rfl rfl) ?_
      refine rw_r (op_loadB Try.underlying31 rfl rfl (S.blk (i := 0) rfl) rfl) ?_
      refine rw_v (op_len Try.underlying31 rfl) ?_
      refine rw_call rfl ((hset _ (hF.up S.out) hR')) ?_
      rintro _ w8_ ⟨⟨A0'', A1'', Aw'', c0'', c1'', cw'', rfl, hR''⟩, g8_⟩
      have S := S.gr g8_
      refine rw_storeSAF (i := 1) S rfl (Try.sizeOf33 _) rfl rfl rfl rfl rfl rfl ?_
      intro w10 k10 B10 S
      have hR'' := hR''.past B10 rfl k10
      refine rw_v (op_pure rfl) ?_
      first | refine rw_end ?_ | (refine rw_nil ?_; show CW _ _ _ _ _ _) | refine rw_nil ?_
      repeat refine cw_seq ?_
      refine cw_ret ?_
      repeat first | refine ret_then ?_ | refine ret_inb ?_
      exact resAT Try.underlying33 rfl (Try.sizeOf33 _) rfl (S.blk (i := 1) rfl) rfl rfl rfl ⟨_, _, _, _, _, _, rfl, hR'', S.out⟩
    · rw [if_pos rfl]
      have hburn := hburn hbu
      have S := St.start W
      refine Fn_enter Try.func34 rfl Try.results34 Try.ntmps34 (by kernel_rfl) (by kernel_rfl) ?_
      repeat refine cw_seq ?_
      refine cw_region ?_
      refine rw_newB (op_box rfl) S ?_
      intro b_D w2_ g2_ S
      refine rw_newB (op_alloc Try.zeroValue33 rfl) S ?_
      intro b_R w4_ g4_ S
      refine rw_v (op_pure rfl) ?_
      first | refine rw_end ?_ | (refine rw_nil ?_; show CW _ _ _ _ _ _) | refine rw_nil ?_
      repeat refine cw_seq ?_
      refine cw_region ?_
      refine rw_v (op_fieldAddr Try.underlying33 rfl Try.sizeOf4 rfl rfl) ?_
      refine rw_r (op_loadB Try.underlying4 rfl rfl (S.blk (i := 1) rfl) rfl) ?_
      first | refine rw_end ?_ | (refine rw_nil ?_; show CW _ _ _ _ _ _) | refine rw_nil ?_
      repeat refine cw_seq ?_
      refine cw_false rfl ?_
      repeat refine cw_seq ?_
      refine cw_skip ?_
      try show CW _ _ _ _ _ _
      repeat refine cw_seq ?_
      refine cw_region ?_
      refine rw_r (op_loadAB Try.underlying33 rfl (Try.sizeOf33 _) rfl (S.blk (i := 1) rfl) rfl rfl) ?_
      have hcall := hburn _ S.out
      refine rw_call rfl (hcall) ?_
      rintro _ w5_ ⟨A0', A1', Aw', c0', c1', cw', rfl, hR', g5_⟩
      have S := S.gr g5_
      refine rw_v (op_pure rfl) ?_
      refine rw_v (op_pure rfl) ?_
      refine rw_v (op_pure rfl) ?_
      refine rw_newB (op_alloc Try.zeroValue33 rfl) S ?_
      intro b_N w7_ g7_ S
      refine rw_storeSAF (i := 0) S rfl (Try.sizeOf33 _) rfl rfl rfl rfl rfl rfl ?_
      intro w9 k9 B9 S
      have hR' := (hR'.gr g7_).past B9 rfl k9
      refine rw_v (op_pure rfl) ?_
      first | refine rw_end ?_ | (refine rw_nil ?_; show CW _ _ _ _ _ _) | refine rw_nil ?_
      repeat refine cw_seq ?_
      refine cw_region ?_
      refine rw_v (op_pure rfl) ?_
      refine rw_v (op_b (b := true) rfl (bne_iff_ne.2 (by omega))) ?_
      first | refine rw_end ?_ | (refine rw_nil ?_; show CW _ _ _ _ _ _) | refine rw_nil ?_
      repeat refine cw_seq ?_
      refine cw_true rfl ?_
      repeat refine cw_seq ?_
      refine cw_region ?_
      refine rw_r (op_loadAB Try.underlying33 rfl (Try.sizeOf33 _) rfl (S.blk (i := 0) rfl) rfl rfl) ?_
      refine rw_v (op_pure rfl) ?_
      refine rw_storeSAF (i := 1) S rfl (Try.sizeOf33 _) rfl rfl rfl rfl rfl rfl ?_
      intro w10 k10 B10 S
      have hR' := hR'.past B10 rfl k10
      refine rw_v (op_pure rfl) ?_
      first | refine rw_end ?_ | (refine rw_nil ?_; show CW _ _ _ _ _ _) | refine rw_nil ?_
      repeat refine cw_seq ?_
      refine cw_ret ?_
      repeat first | refine ret_then ?_ | refine ret_inb ?_
      exact resAT Try.underlying33 rfl (Try.sizeOf33 _) rfl (S.blk (i := 1) rfl) rfl rfl rfl ⟨A0', A1', Aw', c0', c1', cw', rfl, hR', S.out⟩
  · rw [if_pos rfl]
    have S := St.start W
    refine Fn_enter Try.func34 rfl Try.results34 Try.ntmps34 (by kernel_rfl) (by kernel_rfl) ?_
    repeat refine cw_seq ?_
    refine cw_region ?_
    refine rw_newB (op_box rfl) S ?_
    intro b_D w2_ g2_ S
    refine rw_newB (op_alloc Try.zeroValue33 rfl) S ?_
    intro b_R w4_ g4_ S
    refine rw_v (op_pure rfl) ?_
    first | refine rw_end ?_ | (refine rw_nil ?_; show CW _ _ _ _ _ _) | refine rw_nil ?_
    repeat refine cw_seq ?_
    refine cw_region ?_
    refine rw_v (op_fieldAddr Try.underlying33 rfl Try.sizeOf4 rfl rfl) ?_
    refine rw_r (op_loadB Try.underlying4 rfl rfl (S.blk (i := 1) rfl) rfl) ?_
    first | refine rw_end ?_ | (refine rw_nil ?_; show CW _ _ _ _ _ _) | refine rw_nil ?_
    repeat refine cw_seq ?_
    refine cw_true rfl ?_
    repeat refine cw_seq ?_
    refine cw_region ?_
    refine rw_r (op_loadAB Try.underlying33 rfl (Try.sizeOf33 _) rfl (S.blk (i := 1) rfl) rfl rfl) ?_
    refine rw_storeSA (i := 0) S rfl (Try.sizeOf33 _) rfl rfl rfl rfl rfl rfl ?_
    intro w5_ S
    refine rw_v (op_pure rfl) ?_
    first | refine rw_end ?_ | (refine rw_nil ?_; show CW _ _ _ _ _ _) | refine rw_nil ?_
    repeat refine cw_seq ?_
    refine cw_ret ?_
    repeat first | refine ret_then ?_ | refine ret_inb ?_
    exact resAT Try.underlying33 rfl (Try.sizeOf33 _) rfl (S.blk (i := 0) rfl) rfl rfl rfl ⟨A0, A1, Aw, c0, c1, cw, rfl, hR.gr S.out, S.out⟩
set_option maxHeartbeats 2000000 in
theorem rcrash_E (s : DS) (keep : Int) (B : Nat) (hi : Inv B s) (hB : B < 137438953472) (W : World) (hF : FO F W) (hR : RefAt F W s A0 A1 Aw c0 c1 cw) :
    Fn Try.prog 35 [.agg (s.ref A0 A1 Aw c0 c1 cw).toArray, .int .i64 keep] W (RetRef F { s.settled (min (max keep 0) s.waits.length).toNat with fused := false, fuse := 0, dark := false } W) := by
  have hK : (min (max keep 0) s.waits.length).toNat ≤ s.waits.length := by omega
  have hset : ∀ w, Gr W w → _ := fun w g => rsettled_E s (min (max keep 0) s.waits.length).toNat B hK (by omega) hi.oks hi.l1 hi.l2 w (hF.up g) (hR.gr g)
  have hval : ∀ x : Int, x = min (max keep 0) s.waits.length → Value.int .i64 x = Value.int .i64 (((min (max keep 0) s.waits.length).toNat : Nat) : Int) := fun x e => by congr 1; omega
  obtain ⟨room, last, waits, seen, fused, fuse, dark⟩ := s
  unfold DS.ref at *
  unfold DS.settled at *
  dsimp only at *
  by_cases h1 : keep < 0
  · have h2 : keep < waits.length := by omega
    have S := St.start W
    refine Fn_enter Try.func35 rfl Try.results35 Try.ntmps35 (by kernel_rfl) (by kernel_rfl) ?_
    repeat refine cw_seq ?_
    refine cw_region ?_
    refine rw_newB (op_box rfl) S ?_
    intro b_D w2_ g2_ S
    refine rw_newB (op_alloc Try.zeroValue33 rfl) S ?_
    intro b_R w4_ g4_ S
    first | refine rw_end ?_ | (refine rw_nil ?_; show CW _ _ _ _ _ _) | refine rw_nil ?_
    repeat refine cw_seq ?_
    refine cw_region ?_
    refine rw_v (op_fieldAddr Try.underlying33 rfl Try.sizeOf31 rfl rfl) ?_
    refine rw_r (op_loadB Try.underlying31 rfl rfl (S.blk (i := 1) rfl) rfl) ?_
    refine rw_v (op_len Try.underlying31 rfl) ?_
    refine rw_v (op_pure rfl) ?_
    first | refine rw_end ?_ | (refine rw_nil ?_; show CW _ _ _ _ _ _) | refine rw_nil ?_
    repeat refine cw_seq ?_
    refine cw_region ?_
    refine rw_v (op_pure rfl) ?_
    refine rw_v (op_pure rfl) ?_
    refine rw_v (op_b (b := true) rfl (decide_eq_true (by omega))) ?_
    first | refine rw_end ?_ | (refine rw_nil ?_; show CW _ _ _ _ _ _) | refine rw_nil ?_
    repeat refine cw_seq ?_
    refine cw_true rfl ?_
    repeat refine cw_seq ?_
    refine cw_region ?_
    refine rw_v (op_pure rfl) ?_
    refine rw_v (op_pure rfl) ?_
    first | refine rw_end ?_ | (refine rw_nil ?_; show CW _ _ _ _ _ _) | refine rw_nil ?_
    repeat refine cw_seq ?_
    refine cw_region ?_
    refine rw_v (op_pure rfl) ?_
    refine rw_v (op_b (b := true) rfl (decide_eq_true (by omega))) ?_
    first | refine rw_end ?_ | (refine rw_nil ?_; show CW _ _ _ _ _ _) | refine rw_nil ?_
    repeat refine cw_seq ?_
    refine cw_true rfl ?_
    repeat refine cw_seq ?_
    refine cw_region ?_
    refine rw_v (op_pure rfl) ?_
    first | refine rw_end ?_ | (refine rw_nil ?_; show CW _ _ _ _ _ _) | refine rw_nil ?_
    repeat refine cw_seq ?_
    refine cw_region ?_
    refine rw_r (op_loadAB Try.underlying33 rfl (Try.sizeOf33 _) rfl (S.blk (i := 1) rfl) rfl rfl) ?_
    refine rw_v (op_pure (congrArg some (hval (0) (by omega)))) ?_
    refine rw_call rfl ((hset _ S.out)) ?_
    rintro _ w5_ ⟨⟨A0', A1', Aw', c0', c1', cw', rfl, hR'⟩, g5_⟩
    have S := S.gr g5_
    refine rw_storeSAF (i := 1) S rfl (Try.sizeOf33 _) rfl rfl rfl rfl rfl rfl ?_
    intro w9 k9 B9 S
    have hR' := hR'.past B9 rfl k9
    first | refine rw_end ?_ | (refine rw_nil ?_; show CW _ _ _ _ _ _) | refine rw_nil ?_
    repeat refine cw_seq ?_
    refine cw_region ?_
    refine rw_v (op_fieldAddr Try.underlying33 rfl Try.sizeOf4 rfl rfl) ?_
    refine rw_storeSF (i := 1) S rfl (Try.sizeOf4 _) rfl rfl rfl rfl rfl rfl ?_
    intro w10 k10 B10 S
    have hR' := hR'.past B10 rfl k10
    first | refine rw_end ?_ | (refine rw_nil ?_; show CW _ _ _ _ _ _) | refine rw_nil ?_
    repeat refine cw_seq ?_
    refine cw_region ?_
    refine rw_v (op_fieldAddr Try.underlying33 rfl Try.sizeOf2 rfl rfl) ?_
    refine rw_storeSF (i := 1) S rfl (Try.sizeOf2 _) rfl rfl rfl rfl rfl rfl ?_
    intro w11 k11 B11 S
    have hR' := hR'.past B11 rfl k11
    first | refine rw_end ?_ | (refine rw_nil ?_; show CW _ _ _ _ _ _) | refine rw_nil ?_
    repeat refine cw_seq ?_
    refine cw_region ?_
    refine rw_v (op_fieldAddr Try.underlying33 rfl Try.sizeOf4 rfl rfl) ?_
    refine rw_storeSF (i := 1) S rfl (Try.sizeOf4 _) rfl rfl rfl rfl rfl rfl ?_
    intro w12 k12 B12 S
    have hR' := hR'.past B12 rfl k12
    first | refine rw_end ?_ | (refine rw_nil ?_; show CW _ _ _ _ _ _) | refine rw_nil ?_
    repeat refine cw_seq ?_
    refine cw_region ?_
    refine rw_r (op_loadAB Try.underlying33 rfl (Try.sizeOf33 _) rfl (S.blk (i := 1) rfl) rfl rfl) ?_
    refine rw_storeSAF (i := 0) S rfl (Try.sizeOf33 _) rfl rfl rfl rfl rfl rfl ?_
    intro w13 k13 B13 S
    have hR' := hR'.past B13 rfl k13
    first | refine rw_end ?_ | (refine rw_nil ?_; show CW _ _ _ _ _ _) | refine rw_nil ?_
    repeat refine cw_seq ?_
    refine cw_ret ?_
    repeat first | refine ret_then ?_ | refine ret_inb ?_
    exact resA Try.underlying33 rfl (Try.sizeOf33 _) rfl (S.blk (i := 0) rfl) rfl rfl ⟨⟨A0', A1', Aw', c0', c1', cw', rfl, ⟨hR'.f0, hR'.f1, hR'.us⟩⟩, S.out⟩
  by_cases h2 : keep < waits.length
  · skip
    have S := St.start W
    refine Fn_enter Try.func35 rfl Try.results35 Try.ntmps35 (by kernel_rfl) (by kernel_rfl) ?_
    repeat refine cw_seq ?_
    refine cw_region ?_
    refine rw_newB (op_box rfl) S ?_
    intro b_D w2_ g2_ S
    refine rw_newB (op_alloc Try.zeroValue33 rfl) S ?_
    intro b_R w4_ g4_ S
    first | refine rw_end ?_ | (refine rw_nil ?_; show CW _ _ _ _ _ _) | refine rw_nil ?_
    repeat refine cw_seq ?_
    refine cw_region ?_
    refine rw_v (op_fieldAddr Try.underlying33 rfl Try.sizeOf31 rfl rfl) ?_
    refine rw_r (op_loadB Try.underlying31 rfl rfl (S.blk (i := 1) rfl) rfl) ?_
    refine rw_v (op_len Try.underlying31 rfl) ?_
    refine rw_v (op_pure rfl) ?_
    first | refine rw_end ?_ | (refine rw_nil ?_; show CW _ _ _ _ _ _) | refine rw_nil ?_
    repeat refine cw_seq ?_
    refine cw_region ?_
    refine rw_v (op_pure rfl) ?_
    refine rw_v (op_pure rfl) ?_
    refine rw_v (op_b (b := true) rfl (decide_eq_true (by omega))) ?_
    first | refine rw_end ?_ | (refine rw_nil ?_; show CW _ _ _ _ _ _) | refine rw_nil ?_
    repeat refine cw_seq ?_
    refine cw_true rfl ?_
    repeat refine cw_seq ?_
    refine cw_region ?_
    refine rw_v (op_pure rfl) ?_
    refine rw_v (op_pure rfl) ?_
    first | refine rw_end ?_ | (refine rw_nil ?_; show CW _ _ _ _ _ _) | refine rw_nil ?_
    repeat refine cw_seq ?_
    refine cw_region ?_
    refine rw_v (op_pure rfl) ?_
    refine rw_v (op_b (b := false) rfl (decide_eq_false (by omega))) ?_
    first | refine rw_end ?_ | (refine rw_nil ?_; show CW _ _ _ _ _ _) | refine rw_nil ?_
    repeat refine cw_seq ?_
    refine cw_false rfl ?_
    repeat refine cw_seq ?_
    refine cw_skip ?_
    try show CW _ _ _ _ _ _
    repeat refine cw_seq ?_
    refine cw_region ?_
    refine rw_r (op_loadAB Try.underlying33 rfl (Try.sizeOf33 _) rfl (S.blk (i := 1) rfl) rfl rfl) ?_
    refine rw_v (op_pure (congrArg some (hval (keep) (by omega)))) ?_
    refine rw_call rfl ((hset _ S.out)) ?_
    rintro _ w5_ ⟨⟨A0', A1', Aw', c0', c1', cw', rfl, hR'⟩, g5_⟩
    have S := S.gr g5_
    refine rw_storeSAF (i := 1) S rfl (Try.sizeOf33 _) rfl rfl rfl rfl rfl rfl ?_
    intro w9 k9 B9 S
    have hR' := hR'.past B9 rfl k9
    first | refine rw_end ?_ | (refine rw_nil ?_; show CW _ _ _ _ _ _) | refine rw_nil ?_
    repeat refine cw_seq ?_
    refine cw_region ?_
    refine rw_v (op_fieldAddr Try.underlying33 rfl Try.sizeOf4 rfl rfl) ?_
    refine rw_storeSF (i := 1) S rfl (Try.sizeOf4 _) rfl rfl rfl rfl rfl rfl ?_
    intro w10 k10 B10 S
    have hR' := hR'.past B10 rfl k10
    first | refine rw_end ?_ | (refine rw_nil ?_; show CW _ _ _ _ _ _) | refine rw_nil ?_
    repeat refine cw_seq ?_
    refine cw_region ?_
    refine rw_v (op_fieldAddr Try.underlying33 rfl Try.sizeOf2 rfl rfl) ?_
    refine rw_storeSF (i := 1) S rfl (Try.sizeOf2 _) rfl rfl rfl rfl rfl rfl ?_
    intro w11 k11 B11 S
    have hR' := hR'.past B11 rfl k11
    first | refine rw_end ?_ | (refine rw_nil ?_; show CW _ _ _ _ _ _) | refine rw_nil ?_
    repeat refine cw_seq ?_
    refine cw_region ?_
    refine rw_v (op_fieldAddr Try.underlying33 rfl Try.sizeOf4 rfl rfl) ?_
    refine rw_storeSF (i := 1) S rfl (Try.sizeOf4 _) rfl rfl rfl rfl rfl rfl ?_
    intro w12 k12 B12 S
    have hR' := hR'.past B12 rfl k12
    first | refine rw_end ?_ | (refine rw_nil ?_; show CW _ _ _ _ _ _) | refine rw_nil ?_
    repeat refine cw_seq ?_
    refine cw_region ?_
    refine rw_r (op_loadAB Try.underlying33 rfl (Try.sizeOf33 _) rfl (S.blk (i := 1) rfl) rfl rfl) ?_
    refine rw_storeSAF (i := 0) S rfl (Try.sizeOf33 _) rfl rfl rfl rfl rfl rfl ?_
    intro w13 k13 B13 S
    have hR' := hR'.past B13 rfl k13
    first | refine rw_end ?_ | (refine rw_nil ?_; show CW _ _ _ _ _ _) | refine rw_nil ?_
    repeat refine cw_seq ?_
    refine cw_ret ?_
    repeat first | refine ret_then ?_ | refine ret_inb ?_
    exact resA Try.underlying33 rfl (Try.sizeOf33 _) rfl (S.blk (i := 0) rfl) rfl rfl ⟨⟨A0', A1', Aw', c0', c1', cw', rfl, ⟨hR'.f0, hR'.f1, hR'.us⟩⟩, S.out⟩
  · skip
    have S := St.start W
    refine Fn_enter Try.func35 rfl Try.results35 Try.ntmps35 (by kernel_rfl) (by kernel_rfl) ?_
    repeat refine cw_seq ?_
    refine cw_region ?_
    refine rw_newB (op_box rfl) S ?_
    intro b_D w2_ g2_ S
    refine rw_newB (op_alloc Try.zeroValue33 rfl) S ?_
    intro b_R w4_ g4_ S
    first | refine rw_end ?_ | (refine rw_nil ?_; show CW _ _ _ _ _ _) | refine rw_nil ?_
    repeat refine cw_seq ?_
    refine cw_region ?_
    refine rw_v (op_fieldAddr Try.underlying33 rfl Try.sizeOf31 rfl rfl) ?_
    refine rw_r (op_loadB Try.underlying31 rfl rfl (S.blk (i := 1) rfl) rfl) ?_
    refine rw_v (op_len Try.underlying31 rfl) ?_
    refine rw_v (op_pure rfl) ?_
    first | refine rw_end ?_ | (refine rw_nil ?_; show CW _ _ _ _ _ _) | refine rw_nil ?_
    repeat refine cw_seq ?_
    refine cw_region ?_
    refine rw_v (op_pure rfl) ?_
    refine rw_v (op_pure rfl) ?_
    refine rw_v (op_b (b := false) rfl (decide_eq_false (by omega))) ?_
    first | refine rw_end ?_ | (refine rw_nil ?_; show CW _ _ _ _ _ _) | refine rw_nil ?_
    repeat refine cw_seq ?_
    refine cw_false rfl ?_
    repeat refine cw_seq ?_
    refine cw_skip ?_
    try show CW _ _ _ _ _ _
    repeat refine cw_seq ?_
    refine cw_region ?_
    refine rw_v (op_pure rfl) ?_
    refine rw_v (op_b (b := false) rfl (decide_eq_false (by omega))) ?_
    first | refine rw_end ?_ | (refine rw_nil ?_; show CW _ _ _ _ _ _) | refine rw_nil ?_
    repeat refine cw_seq ?_
    refine cw_false rfl ?_
    repeat refine cw_seq ?_
    refine cw_skip ?_
    try show CW _ _ _ _ _ _
    repeat refine cw_seq ?_
    refine cw_region ?_
    refine rw_r (op_loadAB Try.underlying33 rfl (Try.sizeOf33 _) rfl (S.blk (i := 1) rfl) rfl rfl) ?_
    refine rw_v (op_pure (congrArg some (hval (waits.length) (by omega)))) ?_
    refine rw_call rfl ((hset _ S.out)) ?_
    rintro _ w5_ ⟨⟨A0', A1', Aw', c0', c1', cw', rfl, hR'⟩, g5_⟩
    have S := S.gr g5_
    refine rw_storeSAF (i := 1) S rfl (Try.sizeOf33 _) rfl rfl rfl rfl rfl rfl ?_
    intro w9 k9 B9 S
    have hR' := hR'.past B9 rfl k9
    first | refine rw_end ?_ | (refine rw_nil ?_; show CW _ _ _ _ _ _) | refine rw_nil ?_
    repeat refine cw_seq ?_
    refine cw_region ?_
    refine rw_v (op_fieldAddr Try.underlying33 rfl Try.sizeOf4 rfl rfl) ?_
    refine rw_storeSF (i := 1) S rfl (Try.sizeOf4 _) rfl rfl rfl rfl rfl rfl ?_
    intro w10 k10 B10 S
    have hR' := hR'.past B10 rfl k10
    first | refine rw_end ?_ | (refine rw_nil ?_; show CW _ _ _ _ _ _) | refine rw_nil ?_
    repeat refine cw_seq ?_
    refine cw_region ?_
    refine rw_v (op_fieldAddr Try.underlying33 rfl Try.sizeOf2 rfl rfl) ?_
    refine rw_storeSF (i := 1) S rfl (Try.sizeOf2 _) rfl rfl rfl rfl rfl rfl ?_
    intro w11 k11 B11 S
    have hR' := hR'.past B11 rfl k11
    first | refine rw_end ?_ | (refine rw_nil ?_; show CW _ _ _ _ _ _) | refine rw_nil ?_
    repeat refine cw_seq ?_
    refine cw_region ?_
    refine rw_v (op_fieldAddr Try.underlying33 rfl Try.sizeOf4 rfl rfl) ?_
    refine rw_storeSF (i := 1) S rfl (Try.sizeOf4 _) rfl rfl rfl rfl rfl rfl ?_
    intro w12 k12 B12 S
    have hR' := hR'.past B12 rfl k12
    first | refine rw_end ?_ | (refine rw_nil ?_; show CW _ _ _ _ _ _) | refine rw_nil ?_
    repeat refine cw_seq ?_
    refine cw_region ?_
    refine rw_r (op_loadAB Try.underlying33 rfl (Try.sizeOf33 _) rfl (S.blk (i := 1) rfl) rfl rfl) ?_
    refine rw_storeSAF (i := 0) S rfl (Try.sizeOf33 _) rfl rfl rfl rfl rfl rfl ?_
    intro w13 k13 B13 S
    have hR' := hR'.past B13 rfl k13
    first | refine rw_end ?_ | (refine rw_nil ?_; show CW _ _ _ _ _ _) | refine rw_nil ?_
    repeat refine cw_seq ?_
    refine cw_ret ?_
    repeat first | refine ret_then ?_ | refine ret_inb ?_
    exact resA Try.underlying33 rfl (Try.sizeOf33 _) rfl (S.blk (i := 0) rfl) rfl rfl ⟨⟨A0', A1', Aw', c0', c1', cw', rfl, ⟨hR'.f0, hR'.f1, hR'.us⟩⟩, S.out⟩
end
