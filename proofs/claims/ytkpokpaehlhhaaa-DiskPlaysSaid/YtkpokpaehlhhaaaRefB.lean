/- The document's disk: the room that is left; deeds. -/
import Derived.Test.YtkpokpaehlhhaaaRefA
import Derived.Test.YtkpokpaehlhhaaaTriC
namespace Go.Proofs.Ytkpokpaehlhhaaa
open Go.RowKit
set_option linter.unusedVariables false
set_option linter.unusedSimpArgs false
set_option maxRecDepth 100000

section
variable {F : Nat → Prop} {A0 A1 Aw : Option Addr} {c0 c1 cw : Nat}
def DS.rleft (s : DS) : Int := if s.dark then 0 else s.room - (runs s.waits s.last).1.length - (runs s.waits s.last).2.length
set_option maxHeartbeats 2000000 in
theorem rleft_E (s : DS) (B : Nat) (hB : B < 274877906944) (hok : oks s.waits s.last) (h1 : s.last.1.length + s.waits.length ≤ B) (h2 : s.last.2.length + s.waits.length ≤ B) (hr : 0 ≤ s.room ∧ s.room ≤ 1048576) (W : World) (hF : FO F W) (hR : RefAt F W s A0 A1 Aw c0 c1 cw) :
    Fn Try.prog 15 [.agg (s.ref A0 A1 Aw c0 c1 cw).toArray] W (RetG (.int .i64 s.rleft) W) := by
  have hl := runs_length s.waits s.last
  have hs0 : ∀ w, Gr W w → _ := fun w g => seen_E s 0 (.inl rfl) B hB hok h1 h2 w (hF.up g) (hR.gr g)
  have hs1 : ∀ w, Gr W w → _ := fun w g => seen_E s 1 (.inr rfl) B hB hok h1 h2 w (hF.up g) (hR.gr g)
  have hb0 : (fileOf 0 (runs s.waits s.last)).length ≤ B := by unfold fileOf; split <;> omega
  have hb1 : (fileOf 1 (runs s.waits s.last)).length ≤ B := by unfold fileOf; split <;> omega
  obtain ⟨room, last, waits, seen, fused, fuse, dark⟩ := s
  unfold DS.ref
  dsimp only at *
  cases dark
  · have el : DS.rleft ⟨room, last, waits, seen, fused, fuse, false⟩ = room - (runs waits last).1.length - (runs waits last).2.length := rfl
    rw [el]
    have e0 : (runs waits last).1 = fileOf 0 (runs waits last) := rfl
    have e1 : (runs waits last).2 = fileOf 1 (runs waits last) := rfl
    rw [e0, e1]
    generalize fileOf 0 (runs waits last) = L0 at hs0 hb0 ⊢
    generalize fileOf 1 (runs waits last) = L1 at hs1 hb1 ⊢
    have S := St.start W
    refine Fn_enter Try.func15 rfl Try.results15 Try.ntmps15 (by kernel_rfl) (by kernel_rfl) ?_
    repeat refine cw_seq ?_
    refine cw_region ?_
    refine rw_newB (op_box rfl) S ?_
    intro b_b1 w2_ g2_ S
    refine rw_v (op_pure rfl) ?_
    first | refine rw_end ?_ | (refine rw_nil ?_; show CW _ _ _ _ _ _) | refine rw_nil ?_
    repeat refine cw_seq ?_
    refine cw_region ?_
    refine rw_v (op_fieldAddr Try.underlying33 rfl Try.sizeOf4 rfl rfl) ?_
    refine rw_r (op_loadB Try.underlying4 rfl rfl (S.blk (i := 0) rfl) rfl) ?_
    first | refine rw_end ?_ | (refine rw_nil ?_; show CW _ _ _ _ _ _) | refine rw_nil ?_
    repeat refine cw_seq ?_
    refine cw_false rfl ?_
    repeat refine cw_seq ?_
    refine cw_skip ?_
    try show CW _ _ _ _ _ _
    repeat refine cw_seq ?_
    refine cw_tri (C := (fun σ wq => Gr w2_ wq ∧ (match σ with | [] => True | [v] => ∃ A c, v = .slice A L0.length c | v :: _ :: _ => ∃ A c, v = .slice A L1.length c))) [3, 7] [0, 1, 2, 6, 3, 4, 5, 7, 8, 9] [10] (by kernel_rfl) (by kernel_rfl) ⟨Gr.drew _, trivial⟩ ?_
    simp only [pickI, pickL, List.drop_succ_cons, List.drop_zero]
    refine rs_v rfl (op_fieldAddr Try.underlying33 rfl Try.sizeOf2 rfl rfl) ?_
    refine rs_r rfl (fun τ wq hq => op_loadB Try.underlying2 rfl rfl ((S.gr hq.1).blk (i := 0) rfl) rfl) ?_
    refine rs_r rfl (fun τ wq hq => op_loadAB Try.underlying33 rfl (Try.sizeOf33 _) rfl ((S.gr hq.1).blk (i := 0) rfl) rfl rfl) ?_
    refine rs_r rfl (fun τ wq hq => op_loadAB Try.underlying33 rfl (Try.sizeOf33 _) rfl ((S.gr hq.1).blk (i := 0) rfl) rfl rfl) ?_
    refine rs_special rfl rfl (fun wq hq => to_call rfl ((hs0 wq (S.out.trans hq.1)).mono (fun v w' ⟨A, c, hv, _, _, g⟩ => ⟨hq.1.trans g, A, c, hv⟩))) ?_
    rintro v3 w3 ⟨_, A3, c3, rfl⟩
    refine rs_v rfl (op_len Try.underlying29 rfl) ?_
    refine rs_v rfl (op_rng rfl (by omega)) ?_
    refine rs_special rfl rfl (fun wq hq => to_call rfl ((hs1 wq (S.out.trans hq.1)).mono (fun v w' ⟨A, c, hv, _, _, g⟩ => ⟨hq.1.trans g, A, c, hv⟩))) ?_
    rintro v7 w7 ⟨_, A7, c7, rfl⟩
    refine rs_v rfl (op_len Try.underlying29 rfl) ?_
    refine rs_v rfl (op_rng rfl (by omega)) ?_
    refine rs_nil ?_
    rintro w3_ ⟨g3_, -⟩
    have S := S.gr g3_
    refine rw_v (op_pure rfl) ?_
    first | refine rw_end ?_ | (refine rw_nil ?_; show CW _ _ _ _ _ _) | refine rw_nil ?_
    repeat refine cw_seq ?_
    refine cw_ret ?_
    repeat first | refine ret_then ?_ | refine ret_inb ?_
    exact res1 rfl ⟨rfl, S.out⟩
  · skip
    have S := St.start W
    refine Fn_enter Try.func15 rfl Try.results15 Try.ntmps15 (by kernel_rfl) (by kernel_rfl) ?_
    repeat refine cw_seq ?_
    refine cw_region ?_
    refine rw_newB (op_box rfl) S ?_
    intro b_b1 w2_ g2_ S
    refine rw_v (op_pure rfl) ?_
    first | refine rw_end ?_ | (refine rw_nil ?_; show CW _ _ _ _ _ _) | refine rw_nil ?_
    repeat refine cw_seq ?_
    refine cw_region ?_
    refine rw_v (op_fieldAddr Try.underlying33 rfl Try.sizeOf4 rfl rfl) ?_
    refine rw_r (op_loadB Try.underlying4 rfl rfl (S.blk (i := 0) rfl) rfl) ?_
    first | refine rw_end ?_ | (refine rw_nil ?_; show CW _ _ _ _ _ _) | refine rw_nil ?_
    repeat refine cw_seq ?_
    refine cw_true rfl ?_
    repeat refine cw_seq ?_
    refine cw_region ?_
    refine rw_v (op_pure rfl) ?_
    first | refine rw_end ?_ | (refine rw_nil ?_; show CW _ _ _ _ _ _) | refine rw_nil ?_
    repeat refine cw_seq ?_
    refine cw_ret ?_
    repeat first | refine ret_then ?_ | refine ret_inb ?_
    exact res1 rfl ⟨rfl, S.out⟩
def RetRef (F : Nat → Prop) (s' : DS) (W : World) : Value → World → Prop := fun r w' => RefIs F w' r s' ∧ Gr W w'
def RetRefC (F : Nat → Prop) (code : Int) (s' : DS) (W : World) : Value → World → Prop := fun r w' => ∃ A0 A1 Aw c0 c1 cw, r = .tuple #[.agg (s'.ref A0 A1 Aw c0 c1 cw).toArray, .int .i64 code] ∧ RefAt F w' s' A0 A1 Aw c0 c1 cw ∧ Gr W w'
set_option maxHeartbeats 2000000 in
theorem rdeed_E (s : DS) (us : List DU) (Au : Option Addr) (cu : Nat) (hfu : 0 ≤ s.fuse ∧ s.fuse ≤ 9223372036854775807) (hw : s.waits.length + us.length < 274877906944) (W : World) (hF : FO F W) (hR : RefAt F W s A0 A1 Aw c0 c1 cw) (hU : Sl F W Au us.length cu (unitsV us)) :
    Fn Try.prog 61 [.agg (s.ref A0 A1 Aw c0 c1 cw).toArray, .slice Au us.length cu] W (RetRefC F (s.deed us).1 (s.deed us).2 W) := by
  obtain ⟨room, last, waits, seen, fused, fuse, dark⟩ := s
  unfold DS.ref
  dsimp only at *
  have fin : ∀ (s' : DS) {w : World} {A : Option Addr} {n c : Nat} {xs : List Value} {L : List HA}, s'.last = last → s'.waits = waits ++ us → n = 0 + waits.length + us.length → xs = [] ++ unitsV waits ++ unitsV us → St No W w (.row 92 3 A n c xs :: L) → RefAt F w s' A0 A1 A c0 c1 c := by
    intro s' w A n c xs L e1 e2 e3 e4 S
    have hr := S.row (i := 0) rfl
    obtain ⟨_, _, _, _, _, _, _⟩ := s'
    dsimp only at e1 e2
    subst e1 e2
    refine ⟨hR.f0.gr S.out, hR.f1.gr S.out, ?_⟩
    have := hr.sl hF (SepL.fresh S (i := 0) rfl)
    rw [e3, e4, Nat.zero_add, List.nil_append, ← unitsV_append, ← List.length_append] at this
    exact this
  cases fused
  · have hd : DS.deed ⟨room, last, waits, seen, false, fuse, dark⟩ us = (0, ⟨room, last, waits ++ us, runs us seen, false, fuse, dark⟩) := rfl
    rw [hd]
    have S := St.start W
    refine Fn_enter Try.func61 rfl Try.results61 Try.ntmps61 (by kernel_rfl) (by kernel_rfl) ?_
    repeat refine cw_seq ?_
    refine cw_region ?_
    refine rw_newB (op_box rfl) S ?_
    intro b_D w2_ g2_ S
    refine rw_newB (op_alloc Try.zeroValue33 rfl) S ?_
    intro b_R w4_ g4_ S
    refine rw_v (op_pure rfl) ?_
    first | refine rw_end ?_ | (refine rw_nil ?_; show CW _ _ _ _ _ _) | refine rw_nil ?_
    repeat refine cw_seq ?_
    refine cw_region ?_
    refine rw_v (op_fieldAddr Try.underlying33 rfl Try.sizeOf4 rfl rfl) ?_
    refine rw_r (op_loadB Try.underlying4 rfl rfl (S.blk (i := 1) rfl) rfl) ?_
    refine rw_v (op_pure rfl) ?_
    first | refine rw_off rfl ?_ | (refine rw_on rfl ?_; refine rw_v (op_fieldAddr Try.underlying33 rfl Try.sizeOf2 rfl rfl) ?_)
    first | refine rw_off rfl ?_ | (refine rw_on rfl ?_; refine rw_r (op_loadB Try.underlying2 rfl rfl (S.blk (i := 1) rfl) rfl) ?_)
    first | refine rw_off rfl ?_ | (refine rw_on rfl ?_; (first | refine rw_v (op_b (b := true) rfl (beq_iff_eq.2 (by omega))) ?_ | refine rw_v (op_b (b := false) rfl (beq_eq_false_iff_ne.2 (by omega))) ?_ | refine rw_v (op_pure rfl) ?_))
    refine rw_v (op_pure rfl) ?_
    first | refine rw_end ?_ | (refine rw_nil ?_; show CW _ _ _ _ _ _) | refine rw_nil ?_
    repeat refine cw_seq ?_
    refine cw_false rfl ?_
    repeat refine cw_seq ?_
    refine cw_skip ?_
    try show CW _ _ _ _ _ _
    repeat refine cw_seq ?_
    refine cw_region ?_
    refine rw_v (op_fieldAddr Try.underlying33 rfl Try.sizeOf4 rfl rfl) ?_
    refine rw_r (op_loadB Try.underlying4 rfl rfl (S.blk (i := 1) rfl) rfl) ?_
    first | refine rw_end ?_ | (refine rw_nil ?_; show CW _ _ _ _ _ _) | refine rw_nil ?_
    repeat refine cw_seq ?_
    refine cw_false rfl ?_
    repeat refine cw_seq ?_
    refine cw_skip ?_
    try show CW _ _ _ _ _ _
    repeat refine cw_seq ?_
    refine cw_region ?_
    refine rw_buildS0 Try.underlying31 Try.sizeOf92 S ?_
    intro A_us w6_ g6_ S sa_us
    refine rw_v (op_fieldAddr Try.underlying33 rfl Try.sizeOf31 rfl rfl) ?_
    refine rw_r (op_loadB Try.underlying31 rfl rfl (S.blk (i := 2) rfl) rfl) ?_
    refine rw_appE (i := 0) S rfl (fun h => rfl) Try.underlying31 info_t92 rfl rfl rfl rfl (m := waits.length) (ys := unitsV waits) (unitsV_len _) hR.us.nil (hR.us.rd.gr S.out) (unitsV_one _) (by omega) ?_
    intro A_a c_a w9 S
    refine rw_v (op_pure rfl) ?_
    refine rw_appE (i := 0) S rfl (fun h => rfl) Try.underlying31 info_t92 rfl rfl rfl rfl (m := us.length) (ys := unitsV us) (unitsV_len _) hU.nil (hU.rd.gr S.out) (unitsV_one _) (by omega) ?_
    intro A_b c_b w10 S
    refine rw_v (op_fieldAddr Try.underlying33 rfl Try.sizeOf31 rfl rfl) ?_
    refine rw_storeS (i := 2) S rfl (Try.sizeOf31 _) rfl rfl rfl rfl rfl rfl ?_
    intro w7_ S
    first | refine rw_end ?_ | (refine rw_nil ?_; show CW _ _ _ _ _ _) | refine rw_nil ?_
    repeat refine cw_seq ?_
    refine cw_region ?_
    refine rw_r (op_loadAB Try.underlying33 rfl (Try.sizeOf33 _) rfl (S.blk (i := 2) rfl) rfl rfl) ?_
    refine rw_storeSA (i := 1) S rfl (Try.sizeOf33 _) rfl rfl rfl rfl rfl rfl ?_
    intro w8_ S
    refine rw_v (op_pure rfl) ?_
    first | refine rw_end ?_ | (refine rw_nil ?_; show CW _ _ _ _ _ _) | refine rw_nil ?_
    repeat refine cw_seq ?_
    refine cw_ret ?_
    repeat first | refine ret_then ?_ | refine ret_inb ?_
    have hfin := fin (DS.mk room last (waits ++ us) (runs us seen) false fuse dark) rfl rfl rfl rfl S
    exact resAT Try.underlying33 rfl (Try.sizeOf33 _) rfl (S.blk (i := 1) rfl) rfl rfl rfl ⟨A0, A1, A_b, c0, c1, c_b, by simp only [DS.ref, List.length_append, Nat.zero_add], hfin, S.out⟩
  · by_cases h0 : fuse = 0
    · subst h0
      have hd : DS.deed ⟨room, last, waits, seen, true, 0, dark⟩ us = (17, ⟨room, last, waits, seen, true, 0, true⟩) := rfl
      rw [hd]
      have S := St.start W
      refine Fn_enter Try.func61 rfl Try.results61 Try.ntmps61 (by kernel_rfl) (by kernel_rfl) ?_
      repeat refine cw_seq ?_
      refine cw_region ?_
      refine rw_newB (op_box rfl) S ?_
      intro b_D w2_ g2_ S
      refine rw_newB (op_alloc Try.zeroValue33 rfl) S ?_
      intro b_R w4_ g4_ S
      refine rw_v (op_pure rfl) ?_
      first | refine rw_end ?_ | (refine rw_nil ?_; show CW _ _ _ _ _ _) | refine rw_nil ?_
      repeat refine cw_seq ?_
      refine cw_region ?_
      refine rw_v (op_fieldAddr Try.underlying33 rfl Try.sizeOf4 rfl rfl) ?_
      refine rw_r (op_loadB Try.underlying4 rfl rfl (S.blk (i := 1) rfl) rfl) ?_
      refine rw_v (op_pure rfl) ?_
      first | refine rw_off rfl ?_ | (refine rw_on rfl ?_; refine rw_v (op_fieldAddr Try.underlying33 rfl Try.sizeOf2 rfl rfl) ?_)
      first | refine rw_off rfl ?_ | (refine rw_on rfl ?_; refine rw_r (op_loadB Try.underlying2 rfl rfl (S.blk (i := 1) rfl) rfl) ?_)
      first | refine rw_off rfl ?_ | (refine rw_on rfl ?_; (first | refine rw_v (op_b (b := true) rfl (beq_iff_eq.2 (by omega))) ?_ | refine rw_v (op_b (b := false) rfl (beq_eq_false_iff_ne.2 (by omega))) ?_ | refine rw_v (op_pure rfl) ?_))
      refine rw_v (op_pure rfl) ?_
      first | refine rw_end ?_ | (refine rw_nil ?_; show CW _ _ _ _ _ _) | refine rw_nil ?_
      repeat refine cw_seq ?_
      refine cw_true rfl ?_
      repeat refine cw_seq ?_
      refine cw_region ?_
      refine rw_v (op_fieldAddr Try.underlying33 rfl Try.sizeOf4 rfl rfl) ?_
      refine rw_storeS (i := 1) S rfl (Try.sizeOf4 _) rfl rfl rfl rfl rfl rfl ?_
      intro w5_ S
      first | refine rw_end ?_ | (refine rw_nil ?_; show CW _ _ _ _ _ _) | refine rw_nil ?_
      repeat refine cw_seq ?_
      refine cw_region ?_
      refine rw_r (op_loadAB Try.underlying33 rfl (Try.sizeOf33 _) rfl (S.blk (i := 1) rfl) rfl rfl) ?_
      refine rw_storeSA (i := 0) S rfl (Try.sizeOf33 _) rfl rfl rfl rfl rfl rfl ?_
      intro w6_ S
      refine rw_v (op_pure rfl) ?_
      first | refine rw_end ?_ | (refine rw_nil ?_; show CW _ _ _ _ _ _) | refine rw_nil ?_
      repeat refine cw_seq ?_
      refine cw_ret ?_
      repeat first | refine ret_then ?_ | refine ret_inb ?_
      exact resAT Try.underlying33 rfl (Try.sizeOf33 _) rfl (S.blk (i := 0) rfl) rfl rfl rfl ⟨A0, A1, Aw, c0, c1, cw, rfl, ⟨hR.f0.gr S.out, hR.f1.gr S.out, hR.us.gr S.out⟩, S.out⟩
    · have hb : (fuse == 0) = false := by simpa using h0
      have hd : DS.deed ⟨room, last, waits, seen, true, fuse, dark⟩ us = (0, ⟨room, last, waits ++ us, runs us seen, true, fuse - 1, dark⟩) := by
        simp [DS.deed, DS.burns, hb, DS.ticked]
      rw [hd]
      have S := St.start W
      refine Fn_enter Try.func61 rfl Try.results61 Try.ntmps61 (by kernel_rfl) (by kernel_rfl) ?_
      repeat refine cw_seq ?_
      refine cw_region ?_
      refine rw_newB (op_box rfl) S ?_
      intro b_D w2_ g2_ S
      refine rw_newB (op_alloc Try.zeroValue33 rfl) S ?_
      intro b_R w4_ g4_ S
      refine rw_v (op_pure rfl) ?_
      first | refine rw_end ?_ | (refine rw_nil ?_; show CW _ _ _ _ _ _) | refine rw_nil ?_
      repeat refine cw_seq ?_
      refine cw_region ?_
      refine rw_v (op_fieldAddr Try.underlying33 rfl Try.sizeOf4 rfl rfl) ?_
      refine rw_r (op_loadB Try.underlying4 rfl rfl (S.blk (i := 1) rfl) rfl) ?_
      refine rw_v (op_pure rfl) ?_
      refine rw_on rfl ?_
      refine rw_v (op_fieldAddr Try.underlying33 rfl Try.sizeOf2 rfl rfl) ?_
      refine rw_on rfl ?_
      refine rw_r (op_loadB Try.underlying2 rfl rfl (S.blk (i := 1) rfl) rfl) ?_
      refine rw_on rfl ?_
      refine rw_v (op_b rfl hb) ?_
      refine rw_v (op_pure rfl) ?_
      first | refine rw_end ?_ | (refine rw_nil ?_; show CW _ _ _ _ _ _) | refine rw_nil ?_
      repeat refine cw_seq ?_
      refine cw_false rfl ?_
      repeat refine cw_seq ?_
      refine cw_skip ?_
      try show CW _ _ _ _ _ _
      repeat refine cw_seq ?_
      refine cw_region ?_
      refine rw_v (op_fieldAddr Try.underlying33 rfl Try.sizeOf4 rfl rfl) ?_
      refine rw_r (op_loadB Try.underlying4 rfl rfl (S.blk (i := 1) rfl) rfl) ?_
      first | refine rw_end ?_ | (refine rw_nil ?_; show CW _ _ _ _ _ _) | refine rw_nil ?_
      repeat refine cw_seq ?_
      refine cw_true rfl ?_
      repeat refine cw_seq ?_
      refine cw_region ?_
      refine rw_v (op_fieldAddr Try.underlying33 rfl Try.sizeOf2 rfl rfl) ?_
      refine rw_r (op_loadB Try.underlying2 rfl rfl (S.blk (i := 1) rfl) rfl) ?_
      refine rw_v (op_rng rfl (by omega)) ?_
      refine rw_v (op_fieldAddr Try.underlying33 rfl Try.sizeOf2 rfl rfl) ?_
      refine rw_storeS (i := 1) S rfl (Try.sizeOf2 _) rfl rfl rfl rfl rfl rfl ?_
      intro w5_ S
      first | refine rw_end ?_ | (refine rw_nil ?_; show CW _ _ _ _ _ _) | refine rw_nil ?_
      repeat refine cw_seq ?_
      refine cw_region ?_
      refine rw_buildS0 Try.underlying31 Try.sizeOf92 S ?_
      intro A_us w7_ g7_ S sa_us
      refine rw_v (op_fieldAddr Try.underlying33 rfl Try.sizeOf31 rfl rfl) ?_
      refine rw_r (op_loadB Try.underlying31 rfl rfl (S.blk (i := 2) rfl) rfl) ?_
      refine rw_appE (i := 0) S rfl (fun h => rfl) Try.underlying31 info_t92 rfl rfl rfl rfl (m := waits.length) (ys := unitsV waits) (unitsV_len _) hR.us.nil (hR.us.rd.gr S.out) (unitsV_one _) (by omega) ?_
      intro A_a c_a w9 S
      refine rw_v (op_pure rfl) ?_
      refine rw_appE (i := 0) S rfl (fun h => rfl) Try.underlying31 info_t92 rfl rfl rfl rfl (m := us.length) (ys := unitsV us) (unitsV_len _) hU.nil (hU.rd.gr S.out) (unitsV_one _) (by omega) ?_
      intro A_b c_b w10 S
      refine rw_v (op_fieldAddr Try.underlying33 rfl Try.sizeOf31 rfl rfl) ?_
      refine rw_storeS (i := 2) S rfl (Try.sizeOf31 _) rfl rfl rfl rfl rfl rfl ?_
      intro w8_ S
      first | refine rw_end ?_ | (refine rw_nil ?_; show CW _ _ _ _ _ _) | refine rw_nil ?_
      repeat refine cw_seq ?_
      refine cw_region ?_
      refine rw_r (op_loadAB Try.underlying33 rfl (Try.sizeOf33 _) rfl (S.blk (i := 2) rfl) rfl rfl) ?_
      refine rw_storeSA (i := 1) S rfl (Try.sizeOf33 _) rfl rfl rfl rfl rfl rfl ?_
      intro w9_ S
      refine rw_v (op_pure rfl) ?_
      first | refine rw_end ?_ | (refine rw_nil ?_; show CW _ _ _ _ _ _) | refine rw_nil ?_
      repeat refine cw_seq ?_
      refine cw_ret ?_
      repeat first | refine ret_then ?_ | refine ret_inb ?_
      have hfin := fin (DS.mk room last (waits ++ us) (runs us seen) true (fuse - 1) dark) rfl rfl rfl rfl S
      exact resAT Try.underlying33 rfl (Try.sizeOf33 _) rfl (S.blk (i := 1) rfl) rfl rfl rfl ⟨A0, A1, A_b, c0, c1, c_b, by simp only [DS.ref, List.length_append, Nat.zero_add], hfin, S.out⟩
end
