/- A step on the document's disk. -/
import Derived.Test.YtkpokpaehlhhaaaRefF
import Derived.Test.YtkpokpaehlhhaaaDiskB
namespace Go.Proofs.Ytkpokpaehlhhaaa
open Go.RowKit
set_option linter.unusedVariables false
set_option linter.unusedSimpArgs false
set_option maxRecDepth 100000

section
variable {F : Nat → Prop} {A0 A1 Aw : Option Addr} {c0 c1 cw : Nat}
set_option maxHeartbeats 4000000 in
theorem step_E (s : DS) (a : ActD) (A : Option Addr) (c B : Nat) (ha : a.ok) (hi : Inv B s) (hB : B < 137438953472) (hl : a.bs.length ≤ 100) (W : World) (hF : FO F W) (hR : RefAt F W s A0 A1 Aw c0 c1 cw) (hA : Rd W A (c8 a.bs)) :
    Fn Try.prog 11 [.agg (s.ref A0 A1 Aw c0 c1 cw).toArray, a.val A c] W (RetRefC F (s.does a).1 (s.does a).2 W) := by
  have hk := ha.kind
  have happ : ∀ w, Gr W w → Fn Try.prog 32 [.agg (s.ref A0 A1 Aw c0 c1 cw).toArray, .int .i64 a.file, .slice A a.bs.length c] w (RetRefC F (s.appD a.file a.bs).1 (s.appD a.file a.bs).2 w) := fun w g => by
    by_cases hc : s.code a.file = 0
    · have hf := (code_file hc).1
      obtain ⟨f, hf⟩ := Int.eq_ofNat_of_zero_le (show 0 ≤ a.file by omega)
      rw [hf] at hc ⊢
      exact rapp_E s f a.bs A c B hc hi hB hl w (hF.up g) (hR.gr g) (hA.gr g)
    · have := rappNo_E s a.file A a.bs.length c hc w (hF.up g) (hR.gr g)
      have e : s.appD a.file a.bs = (s.code a.file, s) := by unfold DS.appD; rw [if_pos hc]
      rw [e]; exact this
  have hcut : ∀ w, Gr W w → Fn Try.prog 33 [.agg (s.ref A0 A1 Aw c0 c1 cw).toArray, .int .i64 a.file, .int .i64 a.n] w (RetRefC F (s.cutD a.file a.n).1 (s.cutD a.file a.n).2 w) := fun w g => by
    by_cases hc : s.code a.file = 0
    · have hf := (code_file hc).1
      obtain ⟨f, hf⟩ := Int.eq_ofNat_of_zero_le (show 0 ≤ a.file by omega)
      rw [hf] at hc ⊢
      exact rcut_E s f a.n B hc hi hB w (hF.up g) (hR.gr g)
    · have := rcutNo_E s a.file a.n hc w (hF.up g) (hR.gr g)
      have e : s.cutD a.file a.n = (s.code a.file, s) := by unfold DS.cutD; rw [if_pos hc]
      rw [e]; exact this
  have hsync : ∀ w, Gr W w → _ := fun w g => rsync_E s B hi hB w (hF.up g) (hR.gr g)
  have hcrash : ∀ w, Gr W w → _ := fun w g => rcrash_E s a.n B hi hB w (hF.up g) (hR.gr g)
  have e0 : a.kind = 0 → s.does a = s.appD a.file a.bs := fun h => by unfold DS.does DS.appD; rw [if_pos h]
  have e1 : a.kind = 1 → s.does a = s.cutD a.file a.n := fun h => by unfold DS.does DS.cutD; rw [if_neg (by omega), if_pos h]
  have e2 : a.kind = 2 → s.does a = s.syncD := fun h => by unfold DS.does DS.syncD; rw [if_neg (by omega), if_neg (by omega), if_pos h]
  have e3 : a.kind = 3 → s.does a = if s.dark then (17, s) else if a.n < 0 then (11, s) else (0, { s with fused := true, fuse := a.n }) := fun h => by unfold DS.does; rw [if_neg (by omega), if_neg (by omega), if_neg (by omega), if_pos h]
  have e4 : a.kind = 4 → s.does a = (0, { s.settled (min (max a.n 0) s.waits.length).toNat with fused := false, fuse := 0, dark := false }) := fun h => by unfold DS.does; rw [if_neg (by omega), if_neg (by omega), if_neg (by omega), if_neg (by omega), if_pos h]
  have e5 : 5 ≤ a.kind → s.does a = (0, s) := fun h => by unfold DS.does; rw [if_neg (by omega), if_neg (by omega), if_neg (by omega), if_neg (by omega), if_neg (by omega)]
  unfold ActD.val
  obtain ⟨kind, file, bs, n⟩ := a
  dsimp only at *
  by_cases h0 : kind = 0
  · rw [e0 h0]
    unfold DS.ref at *
    have S := St.start W
    refine Fn_enter Try.func11 rfl Try.results11 Try.ntmps11 (by kernel_rfl) (by kernel_rfl) ?_
    repeat refine cw_seq ?_
    refine cw_region ?_
    refine rw_newB (op_box rfl) S ?_
    intro b_D w2_ g2_ S
    refine rw_newB (op_box rfl) S ?_
    intro b_a w4_ g4_ S
    refine rw_newB (op_alloc Try.zeroValue33 rfl) S ?_
    intro b_R w6_ g6_ S
    refine rw_v (op_pure rfl) ?_
    first | refine rw_end ?_ | (refine rw_nil ?_; show CW _ _ _ _ _ _) | refine rw_nil ?_
    repeat refine cw_seq ?_
    refine cw_region ?_
    refine rw_v (op_fieldAddr Try.underlying37 rfl Try.sizeOf5 rfl rfl) ?_
    refine rw_r (op_loadB Try.underlying5 rfl rfl (S.blk (i := 1) rfl) rfl) ?_
    first | refine rw_end ?_ | (refine rw_nil ?_; show CW _ _ _ _ _ _) | refine rw_nil ?_
    repeat refine cw_seq ?_
    refine cw_block ?_
    repeat refine cw_seq ?_
    refine cw_region ?_
    refine rw_v (op_b (b := true) rfl (beq_iff_eq.2 (by omega))) ?_
    refine rw_v (op_pure rfl) ?_
    first | refine rw_end ?_ | (refine rw_nil ?_; show CW _ _ _ _ _ _) | refine rw_nil ?_
    repeat refine cw_seq ?_
    refine cw_true rfl ?_
    repeat refine cw_seq ?_
    refine cw_region ?_
    refine rw_r (op_loadAB Try.underlying33 rfl (Try.sizeOf33 _) rfl (S.blk (i := 2) rfl) rfl rfl) ?_
    refine rw_v (op_fieldAddr Try.underlying37 rfl Try.sizeOf3 rfl rfl) ?_
    refine rw_r (op_loadB Try.underlying3 rfl rfl (S.blk (i := 1) rfl) rfl) ?_
    refine rw_v (op_fieldAddr Try.underlying37 rfl Try.sizeOf29 rfl rfl) ?_
    refine rw_r (op_loadB Try.underlying29 rfl rfl (S.blk (i := 1) rfl) rfl) ?_
    refine rw_call rfl ((happ _ S.out)) ?_
    rintro _ w7_ ⟨A0', A1', Aw', c0', c1', cw', rfl, hR', g7_⟩
    have S := S.gr g7_
    refine rw_v (op_pure rfl) ?_
    refine rw_v (op_pure rfl) ?_
    refine rw_storeSAF (i := 0) S rfl (Try.sizeOf33 _) rfl rfl rfl rfl rfl rfl ?_
    intro w9 k9 B9 S
    have hR' := hR'.past B9 rfl k9
    refine rw_v (op_pure rfl) ?_
    first | refine rw_end ?_ | (refine rw_nil ?_; show CW _ _ _ _ _ _) | refine rw_nil ?_
    repeat refine cw_seq ?_
    refine cw_ret ?_
    repeat first | refine ret_then ?_ | refine ret_inb ?_
    exact resAT Try.underlying33 rfl (Try.sizeOf33 _) rfl (S.blk (i := 0) rfl) rfl rfl rfl ⟨A0', A1', Aw', c0', c1', cw', rfl, hR', S.out⟩
  by_cases h1 : kind = 1
  · rw [e1 h1]
    unfold DS.ref at *
    have S := St.start W
    refine Fn_enter Try.func11 rfl Try.results11 Try.ntmps11 (by kernel_rfl) (by kernel_rfl) ?_
    repeat refine cw_seq ?_
    refine cw_region ?_
    refine rw_newB (op_box rfl) S ?_
    intro b_D w2_ g2_ S
    refine rw_newB (op_box rfl) S ?_
    intro b_a w4_ g4_ S
    refine rw_newB (op_alloc Try.zeroValue33 rfl) S ?_
    intro b_R w6_ g6_ S
    refine rw_v (op_pure rfl) ?_
    first | refine rw_end ?_ | (refine rw_nil ?_; show CW _ _ _ _ _ _) | refine rw_nil ?_
    repeat refine cw_seq ?_
    refine cw_region ?_
    refine rw_v (op_fieldAddr Try.underlying37 rfl Try.sizeOf5 rfl rfl) ?_
    refine rw_r (op_loadB Try.underlying5 rfl rfl (S.blk (i := 1) rfl) rfl) ?_
    first | refine rw_end ?_ | (refine rw_nil ?_; show CW _ _ _ _ _ _) | refine rw_nil ?_
    repeat refine cw_seq ?_
    refine cw_block ?_
    repeat refine cw_seq ?_
    refine cw_region ?_
    refine rw_v (op_b (b := false) rfl (beq_eq_false_iff_ne.2 (by omega))) ?_
    refine rw_v (op_pure rfl) ?_
    first | refine rw_end ?_ | (refine rw_nil ?_; show CW _ _ _ _ _ _) | refine rw_nil ?_
    repeat refine cw_seq ?_
    refine cw_false rfl ?_
    repeat refine cw_seq ?_
    refine cw_region ?_
    refine rw_v (op_b (b := true) rfl (beq_iff_eq.2 (by omega))) ?_
    refine rw_v (op_pure rfl) ?_
    first | refine rw_end ?_ | (refine rw_nil ?_; show CW _ _ _ _ _ _) | refine rw_nil ?_
    repeat refine cw_seq ?_
    refine cw_true rfl ?_
    repeat refine cw_seq ?_
    refine cw_region ?_
    refine rw_r (op_loadAB Try.underlying33 rfl (Try.sizeOf33 _) rfl (S.blk (i := 2) rfl) rfl rfl) ?_
    refine rw_v (op_fieldAddr Try.underlying37 rfl Try.sizeOf3 rfl rfl) ?_
    refine rw_r (op_loadB Try.underlying3 rfl rfl (S.blk (i := 1) rfl) rfl) ?_
    refine rw_v (op_fieldAddr Try.underlying37 rfl Try.sizeOf2 rfl rfl) ?_
    refine rw_r (op_loadB Try.underlying2 rfl rfl (S.blk (i := 1) rfl) rfl) ?_
    refine rw_call rfl ((hcut _ S.out)) ?_
    rintro _ w7_ ⟨A0', A1', Aw', c0', c1', cw', rfl, hR', g7_⟩
    have S := S.gr g7_
    refine rw_v (op_pure rfl) ?_
    refine rw_v (op_pure rfl) ?_
    refine rw_storeSAF (i := 0) S rfl (Try.sizeOf33 _) rfl rfl rfl rfl rfl rfl ?_
    intro w9 k9 B9 S
    have hR' := hR'.past B9 rfl k9
    refine rw_v (op_pure rfl) ?_
    first | refine rw_end ?_ | (refine rw_nil ?_; show CW _ _ _ _ _ _) | refine rw_nil ?_
    repeat refine cw_seq ?_
    refine cw_ret ?_
    repeat first | refine ret_then ?_ | refine ret_inb ?_
    exact resAT Try.underlying33 rfl (Try.sizeOf33 _) rfl (S.blk (i := 0) rfl) rfl rfl rfl ⟨A0', A1', Aw', c0', c1', cw', rfl, hR', S.out⟩
  by_cases h2 : kind = 2
  · rw [e2 h2]
    unfold DS.ref at *
    have S := St.start W
    refine Fn_enter Try.func11 rfl Try.results11 Try.ntmps11 (by kernel_rfl) (by kernel_rfl) ?_
    repeat refine cw_seq ?_
    refine cw_region ?_
    refine rw_newB (op_box rfl) S ?_
    intro b_D w2_ g2_ S
    refine rw_newB (op_box rfl) S ?_
    intro b_a w4_ g4_ S
    refine rw_newB (op_alloc Try.zeroValue33 rfl) S ?_
    intro b_R w6_ g6_ S
    refine rw_v (op_pure rfl) ?_
    first | refine rw_end ?_ | (refine rw_nil ?_; show CW _ _ _ _ _ _) | refine rw_nil ?_
    repeat refine cw_seq ?_
    refine cw_region ?_
    refine rw_v (op_fieldAddr Try.underlying37 rfl Try.sizeOf5 rfl rfl) ?_
    refine rw_r (op_loadB Try.underlying5 rfl rfl (S.blk (i := 1) rfl) rfl) ?_
    first | refine rw_end ?_ | (refine rw_nil ?_; show CW _ _ _ _ _ _) | refine rw_nil ?_
    repeat refine cw_seq ?_
    refine cw_block ?_
    repeat refine cw_seq ?_
    refine cw_region ?_
    refine rw_v (op_b (b := false) rfl (beq_eq_false_iff_ne.2 (by omega))) ?_
    refine rw_v (op_pure rfl) ?_
    first | refine rw_end ?_ | (refine rw_nil ?_; show CW _ _ _ _ _ _) | refine rw_nil ?_
    repeat refine cw_seq ?_
    refine cw_false rfl ?_
    repeat refine cw_seq ?_
    refine cw_region ?_
    refine rw_v (op_b (b := false) rfl (beq_eq_false_iff_ne.2 (by omega))) ?_
    refine rw_v (op_pure rfl) ?_
    first | refine rw_end ?_ | (refine rw_nil ?_; show CW _ _ _ _ _ _) | refine rw_nil ?_
    repeat refine cw_seq ?_
    refine cw_false rfl ?_
    repeat refine cw_seq ?_
    refine cw_region ?_
    refine rw_v (op_b (b := true) rfl (beq_iff_eq.2 (by omega))) ?_
    refine rw_v (op_pure rfl) ?_
    first | refine rw_end ?_ | (refine rw_nil ?_; show CW _ _ _ _ _ _) | refine rw_nil ?_
    repeat refine cw_seq ?_
    refine cw_true rfl ?_
    repeat refine cw_seq ?_
    refine cw_region ?_
    refine rw_r (op_loadAB Try.underlying33 rfl (Try.sizeOf33 _) rfl (S.blk (i := 2) rfl) rfl rfl) ?_
    refine rw_call rfl ((hsync _ S.out)) ?_
    rintro _ w7_ ⟨A0', A1', Aw', c0', c1', cw', rfl, hR', g7_⟩
    have S := S.gr g7_
    refine rw_v (op_pure rfl) ?_
    refine rw_v (op_pure rfl) ?_
    refine rw_storeSAF (i := 0) S rfl (Try.sizeOf33 _) rfl rfl rfl rfl rfl rfl ?_
    intro w9 k9 B9 S
    have hR' := hR'.past B9 rfl k9
    refine rw_v (op_pure rfl) ?_
    first | refine rw_end ?_ | (refine rw_nil ?_; show CW _ _ _ _ _ _) | refine rw_nil ?_
    repeat refine cw_seq ?_
    refine cw_ret ?_
    repeat first | refine ret_then ?_ | refine ret_inb ?_
    exact resAT Try.underlying33 rfl (Try.sizeOf33 _) rfl (S.blk (i := 0) rfl) rfl rfl rfl ⟨A0', A1', Aw', c0', c1', cw', rfl, hR', S.out⟩
  by_cases h4 : kind = 4
  · rw [e4 h4]
    unfold DS.ref at *
    have S := St.start W
    refine Fn_enter Try.func11 rfl Try.results11 Try.ntmps11 (by kernel_rfl) (by kernel_rfl) ?_
    repeat refine cw_seq ?_
    refine cw_region ?_
    refine rw_newB (op_box rfl) S ?_
    intro b_D w2_ g2_ S
    refine rw_newB (op_box rfl) S ?_
    intro b_a w4_ g4_ S
    refine rw_newB (op_alloc Try.zeroValue33 rfl) S ?_
    intro b_R w6_ g6_ S
    refine rw_v (op_pure rfl) ?_
    first | refine rw_end ?_ | (refine rw_nil ?_; show CW _ _ _ _ _ _) | refine rw_nil ?_
    repeat refine cw_seq ?_
    refine cw_region ?_
    refine rw_v (op_fieldAddr Try.underlying37 rfl Try.sizeOf5 rfl rfl) ?_
    refine rw_r (op_loadB Try.underlying5 rfl rfl (S.blk (i := 1) rfl) rfl) ?_
    first | refine rw_end ?_ | (refine rw_nil ?_; show CW _ _ _ _ _ _) | refine rw_nil ?_
    repeat refine cw_seq ?_
    refine cw_block ?_
    repeat refine cw_seq ?_
    refine cw_region ?_
    refine rw_v (op_b (b := false) rfl (beq_eq_false_iff_ne.2 (by omega))) ?_
    refine rw_v (op_pure rfl) ?_
    first | refine rw_end ?_ | (refine rw_nil ?_; show CW _ _ _ _ _ _) | refine rw_nil ?_
    repeat refine cw_seq ?_
    refine cw_false rfl ?_
    repeat refine cw_seq ?_
    refine cw_region ?_
    refine rw_v (op_b (b := false) rfl (beq_eq_false_iff_ne.2 (by omega))) ?_
    refine rw_v (op_pure rfl) ?_
    first | refine rw_end ?_ | (refine rw_nil ?_; show CW _ _ _ _ _ _) | refine rw_nil ?_
    repeat refine cw_seq ?_
    refine cw_false rfl ?_
    repeat refine cw_seq ?_
    refine cw_region ?_
    refine rw_v (op_b (b := false) rfl (beq_eq_false_iff_ne.2 (by omega))) ?_
    refine rw_v (op_pure rfl) ?_
    first | refine rw_end ?_ | (refine rw_nil ?_; show CW _ _ _ _ _ _) | refine rw_nil ?_
    repeat refine cw_seq ?_
    refine cw_false rfl ?_
    repeat refine cw_seq ?_
    refine cw_region ?_
    refine rw_v (op_b (b := false) rfl (beq_eq_false_iff_ne.2 (by omega))) ?_
    refine rw_v (op_pure rfl) ?_
    first | refine rw_end ?_ | (refine rw_nil ?_; show CW _ _ _ _ _ _) | refine rw_nil ?_
    repeat refine cw_seq ?_
    refine cw_false rfl ?_
    repeat refine cw_seq ?_
    refine cw_region ?_
    refine rw_v (op_b (b := true) rfl (beq_iff_eq.2 (by omega))) ?_
    refine rw_v (op_pure rfl) ?_
    first | refine rw_end ?_ | (refine rw_nil ?_; show CW _ _ _ _ _ _) | refine rw_nil ?_
    repeat refine cw_seq ?_
    refine cw_true rfl ?_
    repeat refine cw_seq ?_
    refine cw_region ?_
    refine rw_r (op_loadAB Try.underlying33 rfl (Try.sizeOf33 _) rfl (S.blk (i := 2) rfl) rfl rfl) ?_
    refine rw_v (op_fieldAddr Try.underlying37 rfl Try.sizeOf2 rfl rfl) ?_
    refine rw_r (op_loadB Try.underlying2 rfl rfl (S.blk (i := 1) rfl) rfl) ?_
    refine rw_call rfl ((hcrash _ S.out)) ?_
    rintro _ w7_ ⟨⟨A0', A1', Aw', c0', c1', cw', rfl, hR'⟩, g7_⟩
    have S := S.gr g7_
    refine rw_storeSAF (i := 0) S rfl (Try.sizeOf33 _) rfl rfl rfl rfl rfl rfl ?_
    intro w9 k9 B9 S
    have hR' := hR'.past B9 rfl k9
    refine rw_v (op_pure rfl) ?_
    first | refine rw_end ?_ | (refine rw_nil ?_; show CW _ _ _ _ _ _) | refine rw_nil ?_
    repeat refine cw_seq ?_
    refine cw_ret ?_
    repeat first | refine ret_then ?_ | refine ret_inb ?_
    exact resAT Try.underlying33 rfl (Try.sizeOf33 _) rfl (S.blk (i := 0) rfl) rfl rfl rfl ⟨A0', A1', Aw', c0', c1', cw', rfl, hR', S.out⟩
  clear happ hcut hsync hcrash e0 e1 e2 e4
  obtain ⟨room, last, waits, seen, fused, fuse, dark⟩ := s
  unfold DS.ref at *
  dsimp only at *
  by_cases h3 : kind = 3
  · rw [e3 h3]
    cases dark
    · by_cases hn : n < 0
      · rw [if_neg (by simp), if_pos hn]
        have S := St.start W
        refine Fn_enter Try.func11 rfl Try.results11 Try.ntmps11 (by kernel_rfl) (by kernel_rfl) ?_
        repeat refine cw_seq ?_
        refine cw_region ?_
        refine rw_newB (op_box rfl) S ?_
        intro b_D w2_ g2_ S
        refine rw_newB (op_box rfl) S ?_
        intro b_a w4_ g4_ S
        refine rw_newB (op_alloc Try.zeroValue33 rfl) S ?_
        intro b_R w6_ g6_ S
        refine rw_v (op_pure rfl) ?_
        first | refine rw_end ?_ | (refine rw_nil ?_; show CW _ _ _ _ _ _) | refine rw_nil ?_
        repeat refine cw_seq ?_
        refine cw_region ?_
        refine rw_v (op_fieldAddr Try.underlying37 rfl Try.sizeOf5 rfl rfl) ?_
        refine rw_r (op_loadB Try.underlying5 rfl rfl (S.blk (i := 1) rfl) rfl) ?_
        first | refine rw_end ?_ | (refine rw_nil ?_; show CW _ _ _ _ _ _) | refine rw_nil ?_
        repeat refine cw_seq ?_
        refine cw_block ?_
        repeat refine cw_seq ?_
        refine cw_region ?_
        refine rw_v (op_b (b := false) rfl (beq_eq_false_iff_ne.2 (by omega))) ?_
        refine rw_v (op_pure rfl) ?_
        first | refine rw_end ?_ | (refine rw_nil ?_; show CW _ _ _ _ _ _) | refine rw_nil ?_
        repeat refine cw_seq ?_
        refine cw_false rfl ?_
        repeat refine cw_seq ?_
        refine cw_region ?_
        refine rw_v (op_b (b := false) rfl (beq_eq_false_iff_ne.2 (by omega))) ?_
        refine rw_v (op_pure rfl) ?_
        first | refine rw_end ?_ | (refine rw_nil ?_; show CW _ _ _ _ _ _) | refine rw_nil ?_
        repeat refine cw_seq ?_
        refine cw_false rfl ?_
        repeat refine cw_seq ?_
        refine cw_region ?_
        refine rw_v (op_b (b := false) rfl (beq_eq_false_iff_ne.2 (by omega))) ?_
        refine rw_v (op_pure rfl) ?_
        first | refine rw_end ?_ | (refine rw_nil ?_; show CW _ _ _ _ _ _) | refine rw_nil ?_
        repeat refine cw_seq ?_
        refine cw_false rfl ?_
        repeat refine cw_seq ?_
        refine cw_region ?_
        refine rw_v (op_b (b := true) rfl (beq_iff_eq.2 (by omega))) ?_
        refine rw_v (op_pure rfl) ?_
        first | refine rw_end ?_ | (refine rw_nil ?_; show CW _ _ _ _ _ _) | refine rw_nil ?_
        repeat refine cw_seq ?_
        refine cw_true rfl ?_
        repeat refine cw_seq ?_
        refine cw_region ?_
        refine rw_v (op_fieldAddr Try.underlying33 rfl Try.sizeOf4 rfl rfl) ?_
        refine rw_r (op_loadB Try.underlying4 rfl rfl (S.blk (i := 2) rfl) rfl) ?_
        first | refine rw_end ?_ | (refine rw_nil ?_; show CW _ _ _ _ _ _) | refine rw_nil ?_
        repeat refine cw_seq ?_
        refine cw_false rfl ?_
        repeat refine cw_seq ?_
        refine cw_skip ?_
        try show CW _ _ _ _ _ _
        repeat refine cw_seq ?_
        refine cw_region ?_
        refine rw_v (op_fieldAddr Try.underlying37 rfl Try.sizeOf2 rfl rfl) ?_
        refine rw_r (op_loadB Try.underlying2 rfl rfl (S.blk (i := 1) rfl) rfl) ?_
        refine rw_v (op_b (b := true) rfl (decide_eq_true (by omega))) ?_
        first | refine rw_end ?_ | (refine rw_nil ?_; show CW _ _ _ _ _ _) | refine rw_nil ?_
        repeat refine cw_seq ?_
        refine cw_true rfl ?_
        repeat refine cw_seq ?_
        refine cw_region ?_
        refine rw_r (op_loadAB Try.underlying33 rfl (Try.sizeOf33 _) rfl (S.blk (i := 2) rfl) rfl rfl) ?_
        refine rw_storeSA (i := 0) S rfl (Try.sizeOf33 _) rfl rfl rfl rfl rfl rfl ?_
        intro w7_ S
        refine rw_v (op_pure rfl) ?_
        first | refine rw_end ?_ | (refine rw_nil ?_; show CW _ _ _ _ _ _) | refine rw_nil ?_
        repeat refine cw_seq ?_
        refine cw_ret ?_
        repeat first | refine ret_then ?_ | refine ret_inb ?_
        exact resAT Try.underlying33 rfl (Try.sizeOf33 _) rfl (S.blk (i := 0) rfl) rfl rfl rfl ⟨A0, A1, Aw, c0, c1, cw, rfl, hR.gr S.out, S.out⟩
      · rw [if_neg (by simp), if_neg hn]
        have S := St.start W
        refine Fn_enter Try.func11 rfl Try.results11 Try.ntmps11 (by kernel_rfl) (by kernel_rfl) ?_
        repeat refine cw_seq ?_
        refine cw_region ?_
        refine rw_newB (op_box rfl) S ?_
        intro b_D w2_ g2_ S
        refine rw_newB (op_box rfl) S ?_
        intro b_a w4_ g4_ S
        refine rw_newB (op_alloc Try.zeroValue33 rfl) S ?_
        intro b_R w6_ g6_ S
        refine rw_v (op_pure rfl) ?_
        first | refine rw_end ?_ | (refine rw_nil ?_; show CW _ _ _ _ _ _) | refine rw_nil ?_
        repeat refine cw_seq ?_
        refine cw_region ?_
        refine rw_v (op_fieldAddr Try.underlying37 rfl Try.sizeOf5 rfl rfl) ?_
        refine rw_r (op_loadB Try.underlying5 rfl rfl (S.blk (i := 1) rfl) rfl) ?_
        first | refine rw_end ?_ | (refine rw_nil ?_; show CW _ _ _ _ _ _) | refine rw_nil ?_
        repeat refine cw_seq ?_
        refine cw_block ?_
        repeat refine cw_seq ?_
        refine cw_region ?_
        refine rw_v (op_b (b := false) rfl (beq_eq_false_iff_ne.2 (by omega))) ?_
        refine rw_v (op_pure rfl) ?_
        first | refine rw_end ?_ | (refine rw_nil ?_; show CW _ _ _ _ _ _) | refine rw_nil ?_
        repeat refine cw_seq ?_
        refine cw_false rfl ?_
        repeat refine cw_seq ?_
        refine cw_region ?_
        refine rw_v (op_b (b := false) rfl (beq_eq_false_iff_ne.2 (by omega))) ?_
        refine rw_v (op_pure rfl) ?_
        first | refine rw_end ?_ | (refine rw_nil ?_; show CW _ _ _ _ _ _) | refine rw_nil ?_
        repeat refine cw_seq ?_
        refine cw_false rfl ?_
        repeat refine cw_seq ?_
        refine cw_region ?_
        refine rw_v (op_b (b := false) rfl (beq_eq_false_iff_ne.2 (by omega))) ?_
        refine rw_v (op_pure rfl) ?_
        first | refine rw_end ?_ | (refine rw_nil ?_; show CW _ _ _ _ _ _) | refine rw_nil ?_
        repeat refine cw_seq ?_
        refine cw_false rfl ?_
        repeat refine cw_seq ?_
        refine cw_region ?_
        refine rw_v (op_b (b := true) rfl (beq_iff_eq.2 (by omega))) ?_
        refine rw_v (op_pure rfl) ?_
        first | refine rw_end ?_ | (refine rw_nil ?_; show CW _ _ _ _ _ _) | refine rw_nil ?_
        repeat refine cw_seq ?_
        refine cw_true rfl ?_
        repeat refine cw_seq ?_
        refine cw_region ?_
        refine rw_v (op_fieldAddr Try.underlying33 rfl Try.sizeOf4 rfl rfl) ?_
        refine rw_r (op_loadB Try.underlying4 rfl rfl (S.blk (i := 2) rfl) rfl) ?_
        first | refine rw_end ?_ | (refine rw_nil ?_; show CW _ _ _ _ _ _) | refine rw_nil ?_
        repeat refine cw_seq ?_
        refine cw_false rfl ?_
        repeat refine cw_seq ?_
        refine cw_skip ?_
        try show CW _ _ _ _ _ _
        repeat refine cw_seq ?_
        refine cw_region ?_
        refine rw_v (op_fieldAddr Try.underlying37 rfl Try.sizeOf2 rfl rfl) ?_
        refine rw_r (op_loadB Try.underlying2 rfl rfl (S.blk (i := 1) rfl) rfl) ?_
        refine rw_v (op_b (b := false) rfl (decide_eq_false (by omega))) ?_
        first | refine rw_end ?_ | (refine rw_nil ?_; show CW _ _ _ _ _ _) | refine rw_nil ?_
        repeat refine cw_seq ?_
        refine cw_false rfl ?_
        repeat refine cw_seq ?_
        refine cw_skip ?_
        try show CW _ _ _ _ _ _
        repeat refine cw_seq ?_
        refine cw_region ?_
        refine rw_v (op_fieldAddr Try.underlying33 rfl Try.sizeOf4 rfl rfl) ?_
        refine rw_storeS (i := 2) S rfl (Try.sizeOf4 _) rfl rfl rfl rfl rfl rfl ?_
        intro w7_ S
        first | refine rw_end ?_ | (refine rw_nil ?_; show CW _ _ _ _ _ _) | refine rw_nil ?_
        repeat refine cw_seq ?_
        refine cw_region ?_
        refine rw_v (op_fieldAddr Try.underlying37 rfl Try.sizeOf2 rfl rfl) ?_
        refine rw_r (op_loadB Try.underlying2 rfl rfl (S.blk (i := 1) rfl) rfl) ?_
        refine rw_v (op_fieldAddr Try.underlying33 rfl Try.sizeOf2 rfl rfl) ?_
        refine rw_storeS (i := 2) S rfl (Try.sizeOf2 _) rfl rfl rfl rfl rfl rfl ?_
        intro w8_ S
        first | refine rw_end ?_ | (refine rw_nil ?_; show CW _ _ _ _ _ _) | refine rw_nil ?_
        repeat refine cw_seq ?_
        refine cw_region ?_
        refine rw_r (op_loadAB Try.underlying33 rfl (Try.sizeOf33 _) rfl (S.blk (i := 2) rfl) rfl rfl) ?_
        refine rw_storeSA (i := 0) S rfl (Try.sizeOf33 _) rfl rfl rfl rfl rfl rfl ?_
        intro w9_ S
        refine rw_v (op_pure rfl) ?_
        first | refine rw_end ?_ | (refine rw_nil ?_; show CW _ _ _ _ _ _) | refine rw_nil ?_
        repeat refine cw_seq ?_
        refine cw_ret ?_
        repeat first | refine ret_then ?_ | refine ret_inb ?_
        exact resAT Try.underlying33 rfl (Try.sizeOf33 _) rfl (S.blk (i := 0) rfl) rfl rfl rfl ⟨A0, A1, Aw, c0, c1, cw, rfl, ⟨hR.f0.gr S.out, hR.f1.gr S.out, hR.us.gr S.out⟩, S.out⟩
    · rw [if_pos rfl]
      have S := St.start W
      refine Fn_enter Try.func11 rfl Try.results11 Try.ntmps11 (by kernel_rfl) (by kernel_rfl) ?_
      repeat refine cw_seq ?_
      refine cw_region ?_
      refine rw_newB (op_box rfl) S ?_
      intro b_D w2_ g2_ S
      refine rw_newB (op_box rfl) S ?_
      intro b_a w4_ g4_ S
      refine rw_newB (op_alloc Try.zeroValue33 rfl) S ?_
      intro b_R w6_ g6_ S
      refine rw_v (op_pure rfl) ?_
      first | refine rw_end ?_ | (refine rw_nil ?_; show CW _ _ _ _ _ _) | refine rw_nil ?_
      repeat refine cw_seq ?_
      refine cw_region ?_
      refine rw_v (op_fieldAddr Try.underlying37 rfl Try.sizeOf5 rfl rfl) ?_
      refine rw_r (op_loadB Try.underlying5 rfl rfl (S.blk (i := 1) rfl) rfl) ?_
      first | refine rw_end ?_ | (refine rw_nil ?_; show CW _ _ _ _ _ _) | refine rw_nil ?_
      repeat refine cw_seq ?_
      refine cw_block ?_
      repeat refine cw_seq ?_
      refine cw_region ?_
      refine rw_v (op_b (b := false) rfl (beq_eq_false_iff_ne.2 (by omega))) ?_
      refine rw_v (op_pure rfl) ?_
      first | refine rw_end ?_ | (refine rw_nil ?_; show CW _ _ _ _ _ _) | refine rw_nil ?_
      repeat refine cw_seq ?_
      refine cw_false rfl ?_
      repeat refine cw_seq ?_
      refine cw_region ?_
      refine rw_v (op_b (b := false) rfl (beq_eq_false_iff_ne.2 (by omega))) ?_
      refine rw_v (op_pure rfl) ?_
      first | refine rw_end ?_ | (refine rw_nil ?_; show CW _ _ _ _ _ _) | refine rw_nil ?_
      repeat refine cw_seq ?_
      refine cw_false rfl ?_
      repeat refine cw_seq ?_
      refine cw_region ?_
      refine rw_v (op_b (b := false) rfl (beq_eq_false_iff_ne.2 (by omega))) ?_
      refine rw_v (op_pure rfl) ?_
      first | refine rw_end ?_ | (refine rw_nil ?_; show CW _ _ _ _ _ _) | refine rw_nil ?_
      repeat refine cw_seq ?_
      refine cw_false rfl ?_
      repeat refine cw_seq ?_
      refine cw_region ?_
      refine rw_v (op_b (b := true) rfl (beq_iff_eq.2 (by omega))) ?_
      refine rw_v (op_pure rfl) ?_
      first | refine rw_end ?_ | (refine rw_nil ?_; show CW _ _ _ _ _ _) | refine rw_nil ?_
      repeat refine cw_seq ?_
      refine cw_true rfl ?_
      repeat refine cw_seq ?_
      refine cw_region ?_
      refine rw_v (op_fieldAddr Try.underlying33 rfl Try.sizeOf4 rfl rfl) ?_
      refine rw_r (op_loadB Try.underlying4 rfl rfl (S.blk (i := 2) rfl) rfl) ?_
      first | refine rw_end ?_ | (refine rw_nil ?_; show CW _ _ _ _ _ _) | refine rw_nil ?_
      repeat refine cw_seq ?_
      refine cw_true rfl ?_
      repeat refine cw_seq ?_
      refine cw_region ?_
      refine rw_r (op_loadAB Try.underlying33 rfl (Try.sizeOf33 _) rfl (S.blk (i := 2) rfl) rfl rfl) ?_
      refine rw_storeSA (i := 0) S rfl (Try.sizeOf33 _) rfl rfl rfl rfl rfl rfl ?_
      intro w7_ S
      refine rw_v (op_pure rfl) ?_
      first | refine rw_end ?_ | (refine rw_nil ?_; show CW _ _ _ _ _ _) | refine rw_nil ?_
      repeat refine cw_seq ?_
      refine cw_ret ?_
      repeat first | refine ret_then ?_ | refine ret_inb ?_
      exact resAT Try.underlying33 rfl (Try.sizeOf33 _) rfl (S.blk (i := 0) rfl) rfl rfl rfl ⟨A0, A1, Aw, c0, c1, cw, rfl, hR.gr S.out, S.out⟩
  · rw [e5 (by omega)]
    have S := St.start W
    refine Fn_enter Try.func11 rfl Try.results11 Try.ntmps11 (by kernel_rfl) (by kernel_rfl) ?_
    repeat refine cw_seq ?_
    refine cw_region ?_
    refine rw_newB (op_box rfl) S ?_
    intro b_D w2_ g2_ S
    refine rw_newB (op_box rfl) S ?_
    intro b_a w4_ g4_ S
    refine rw_newB (op_alloc Try.zeroValue33 rfl) S ?_
    intro b_R w6_ g6_ S
    refine rw_v (op_pure rfl) ?_
    first | refine rw_end ?_ | (refine rw_nil ?_; show CW _ _ _ _ _ _) | refine rw_nil ?_
    repeat refine cw_seq ?_
    refine cw_region ?_
    refine rw_v (op_fieldAddr Try.underlying37 rfl Try.sizeOf5 rfl rfl) ?_
    refine rw_r (op_loadB Try.underlying5 rfl rfl (S.blk (i := 1) rfl) rfl) ?_
    first | refine rw_end ?_ | (refine rw_nil ?_; show CW _ _ _ _ _ _) | refine rw_nil ?_
    repeat refine cw_seq ?_
    refine cw_block ?_
    repeat refine cw_seq ?_
    refine cw_region ?_
    refine rw_v (op_b (b := false) rfl (beq_eq_false_iff_ne.2 (by omega))) ?_
    refine rw_v (op_pure rfl) ?_
    first | refine rw_end ?_ | (refine rw_nil ?_; show CW _ _ _ _ _ _) | refine rw_nil ?_
    repeat refine cw_seq ?_
    refine cw_false rfl ?_
    repeat refine cw_seq ?_
    refine cw_region ?_
    refine rw_v (op_b (b := false) rfl (beq_eq_false_iff_ne.2 (by omega))) ?_
    refine rw_v (op_pure rfl) ?_
    first | refine rw_end ?_ | (refine rw_nil ?_; show CW _ _ _ _ _ _) | refine rw_nil ?_
    repeat refine cw_seq ?_
    refine cw_false rfl ?_
    repeat refine cw_seq ?_
    refine cw_region ?_
    refine rw_v (op_b (b := false) rfl (beq_eq_false_iff_ne.2 (by omega))) ?_
    refine rw_v (op_pure rfl) ?_
    first | refine rw_end ?_ | (refine rw_nil ?_; show CW _ _ _ _ _ _) | refine rw_nil ?_
    repeat refine cw_seq ?_
    refine cw_false rfl ?_
    repeat refine cw_seq ?_
    refine cw_region ?_
    refine rw_v (op_b (b := false) rfl (beq_eq_false_iff_ne.2 (by omega))) ?_
    refine rw_v (op_pure rfl) ?_
    first | refine rw_end ?_ | (refine rw_nil ?_; show CW _ _ _ _ _ _) | refine rw_nil ?_
    repeat refine cw_seq ?_
    refine cw_false rfl ?_
    repeat refine cw_seq ?_
    refine cw_region ?_
    refine rw_v (op_b (b := false) rfl (beq_eq_false_iff_ne.2 (by omega))) ?_
    refine rw_v (op_pure rfl) ?_
    first | refine rw_end ?_ | (refine rw_nil ?_; show CW _ _ _ _ _ _) | refine rw_nil ?_
    repeat refine cw_seq ?_
    refine cw_false rfl ?_
    repeat refine cw_seq ?_
    refine cw_skip ?_
    try show CW _ _ _ _ _ _
    repeat refine cw_seq ?_
    refine cw_region ?_
    refine rw_r (op_loadAB Try.underlying33 rfl (Try.sizeOf33 _) rfl (S.blk (i := 2) rfl) rfl rfl) ?_
    refine rw_storeSA (i := 0) S rfl (Try.sizeOf33 _) rfl rfl rfl rfl rfl rfl ?_
    intro w7_ S
    refine rw_v (op_pure rfl) ?_
    first | refine rw_end ?_ | (refine rw_nil ?_; show CW _ _ _ _ _ _) | refine rw_nil ?_
    repeat refine cw_seq ?_
    refine cw_ret ?_
    repeat first | refine ret_then ?_ | refine ret_inb ?_
    exact resAT Try.underlying33 rfl (Try.sizeOf33 _) rfl (S.blk (i := 0) rfl) rfl rfl rfl ⟨A0, A1, Aw, c0, c1, cw, rfl, hR.gr S.out, S.out⟩
end
