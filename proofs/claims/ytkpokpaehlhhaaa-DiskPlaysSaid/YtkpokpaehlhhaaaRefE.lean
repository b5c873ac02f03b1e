/- The document's disk: Cut, Sync, Crash. -/
import Derived.Test.YtkpokpaehlhhaaaRefD
namespace Go.Proofs.Ytkpokpaehlhhaaa
open Go.RowKit
set_option linter.unusedVariables false
set_option linter.unusedSimpArgs false
set_option maxRecDepth 100000

section
variable {F : Nat → Prop} {A0 A1 Aw : Option Addr} {c0 c1 cw : Nat}
def DS.cutD (s : DS) (file n : Int) : Int × DS := if s.code file ≠ 0 then (s.code file, s) else if s.burns = false ∧ (n < 0 ∨ (fileOf file.toNat s.seen).length < n) then (11, s) else s.deed [DU.cut file.toNat n.toNat]
theorem rcutNo_E (s : DS) (file n : Int) (hc : s.code file ≠ 0) (W : World) (hF : FO F W) (hR : RefAt F W s A0 A1 Aw c0 c1 cw) :
    Fn Try.prog 33 [.agg (s.ref A0 A1 Aw c0 c1 cw).toArray, .int .i64 file, .int .i64 n] W (RetRefC F (s.code file) s W) := by
  obtain ⟨room, last, waits, seen, fused, fuse, dark⟩ := s
  unfold DS.ref
  unfold DS.code at *
  dsimp only at *
  by_cases h1 : file < 0
  · rw [if_pos (by omega)]
    have S := St.start W
    refine Fn_enter Try.func33 rfl Try.results33 Try.ntmps33 (by kernel_rfl) (by kernel_rfl) ?_
    repeat refine cw_seq ?_
    refine cw_region ?_
    refine rw_newB (op_box rfl) S ?_
    intro b_D w2_ g2_ S
    refine rw_newB (op_alloc Try.zeroValue33 rfl) S ?_
    intro b_R w4_ g4_ S
    refine rw_v (op_pure rfl) ?_
    first | refine rw_end ?_ | (refine rw_nil ?_; show CW _ _ _ _ _ _) | refine rw_nil ?_
    repeat refine cw_seq ?_
    refine cw_region ?_
    refine rw_v (op_pure rfl) ?_
    first | refine rw_v (op_b (b := true) rfl (decide_eq_true (by omega))) ?_ | refine rw_v (op_b (b := false) rfl (decide_eq_false (by omega))) ?_ | refine rw_v (op_pure rfl) ?_
    refine rw_v (op_pure rfl) ?_
    first | refine rw_off rfl ?_ | (refine rw_on rfl ?_; refine rw_v (op_pure rfl) ?_)
    first | refine rw_off rfl ?_ | (refine rw_on rfl ?_; (first | refine rw_v (op_b (b := true) rfl (decide_eq_true (by omega))) ?_ | refine rw_v (op_b (b := false) rfl (decide_eq_false (by omega))) ?_ | refine rw_v (op_pure rfl) ?_))
    refine rw_v (op_pure rfl) ?_
    first | refine rw_end ?_ | (refine rw_nil ?_; show CW _ _ _ _ _ _) | refine rw_nil ?_
    repeat refine cw_seq ?_
    refine cw_true rfl ?_
    repeat refine cw_seq ?_
    refine cw_region ?_
    refine rw_r (op_loadAB Try.underlying33 rfl (Try.sizeOf33 _) rfl (S.blk (i := 1) rfl) rfl rfl) ?_
    refine rw_storeSA (i := 0) S rfl (Try.sizeOf33 _) rfl rfl rfl rfl rfl rfl ?_
    intro w5_ S
    refine rw_v (op_pure rfl) ?_
    first | refine rw_end ?_ | (refine rw_nil ?_; show CW _ _ _ _ _ _) | refine rw_nil ?_
    repeat refine cw_seq ?_
    refine cw_ret ?_
    repeat first | refine ret_then ?_ | refine ret_inb ?_
    exact resAT Try.underlying33 rfl (Try.sizeOf33 _) rfl (S.blk (i := 0) rfl) rfl rfl rfl ⟨A0, A1, Aw, c0, c1, cw, rfl, hR.gr S.out, S.out⟩
  · by_cases h2 : 1 < file
    · rw [if_pos (by omega)]
      have S := St.start W
      refine Fn_enter Try.func33 rfl Try.results33 Try.ntmps33 (by kernel_rfl) (by kernel_rfl) ?_
      repeat refine cw_seq ?_
      refine cw_region ?_
      refine rw_newB (op_box rfl) S ?_
      intro b_D w2_ g2_ S
      refine rw_newB (op_alloc Try.zeroValue33 rfl) S ?_
      intro b_R w4_ g4_ S
      refine rw_v (op_pure rfl) ?_
      first | refine rw_end ?_ | (refine rw_nil ?_; show CW _ _ _ _ _ _) | refine rw_nil ?_
      repeat refine cw_seq ?_
      refine cw_region ?_
      refine rw_v (op_pure rfl) ?_
      first | refine rw_v (op_b (b := true) rfl (decide_eq_true (by omega))) ?_ | refine rw_v (op_b (b := false) rfl (decide_eq_false (by omega))) ?_ | refine rw_v (op_pure rfl) ?_
      refine rw_v (op_pure rfl) ?_
      first | refine rw_off rfl ?_ | (refine rw_on rfl ?_; refine rw_v (op_pure rfl) ?_)
      first | refine rw_off rfl ?_ | (refine rw_on rfl ?_; (first | refine rw_v (op_b (b := true) rfl (decide_eq_true (by omega))) ?_ | refine rw_v (op_b (b := false) rfl (decide_eq_false (by omega))) ?_ | refine rw_v (op_pure rfl) ?_))
      refine rw_v (op_pure rfl) ?_
      first | refine rw_end ?_ | (refine rw_nil ?_; show CW _ _ _ _ _ _) | refine rw_nil ?_
      repeat refine cw_seq ?_
      refine cw_true rfl ?_
      repeat refine cw_seq ?_
      refine cw_region ?_
      refine rw_r (op_loadAB Try.underlying33 rfl (Try.sizeOf33 _) rfl (S.blk (i := 1) rfl) rfl rfl) ?_
      refine rw_storeSA (i := 0) S rfl (Try.sizeOf33 _) rfl rfl rfl rfl rfl rfl ?_
      intro w5_ S
      refine rw_v (op_pure rfl) ?_
      first | refine rw_end ?_ | (refine rw_nil ?_; show CW _ _ _ _ _ _) | refine rw_nil ?_
      repeat refine cw_seq ?_
      refine cw_ret ?_
      repeat first | refine ret_then ?_ | refine ret_inb ?_
      exact resAT Try.underlying33 rfl (Try.sizeOf33 _) rfl (S.blk (i := 0) rfl) rfl rfl rfl ⟨A0, A1, Aw, c0, c1, cw, rfl, hR.gr S.out, S.out⟩
    · rw [if_neg (by omega)] at hc ⊢
      cases dark
      · exact absurd rfl hc
      · skip
        have S := St.start W
        refine Fn_enter Try.func33 rfl Try.results33 Try.ntmps33 (by kernel_rfl) (by kernel_rfl) ?_
        repeat refine cw_seq ?_
        refine cw_region ?_
        refine rw_newB (op_box rfl) S ?_
        intro b_D w2_ g2_ S
        refine rw_newB (op_alloc Try.zeroValue33 rfl) S ?_
        intro b_R w4_ g4_ S
        refine rw_v (op_pure rfl) ?_
        first | refine rw_end ?_ | (refine rw_nil ?_; show CW _ _ _ _ _ _) | refine rw_nil ?_
        repeat refine cw_seq ?_
        refine cw_region ?_
        refine rw_v (op_pure rfl) ?_
        first | refine rw_v (op_b (b := true) rfl (decide_eq_true (by omega))) ?_ | refine rw_v (op_b (b := false) rfl (decide_eq_false (by omega))) ?_ | refine rw_v (op_pure rfl) ?_
        refine rw_v (op_pure rfl) ?_
        first | refine rw_off rfl ?_ | (refine rw_on rfl ?_; refine rw_v (op_pure rfl) ?_)
        first | refine rw_off rfl ?_ | (refine rw_on rfl ?_; (first | refine rw_v (op_b (b := true) rfl (decide_eq_true (by omega))) ?_ | refine rw_v (op_b (b := false) rfl (decide_eq_false (by omega))) ?_ | refine rw_v (op_pure rfl) ?_))
        refine rw_v (op_pure rfl) ?_
        first | refine rw_end ?_ | (refine rw_nil ?_; show CW _ _ _ _ _ _) | refine rw_nil ?_
        repeat refine cw_seq ?_
        refine cw_false rfl ?_
        repeat refine cw_seq ?_
        refine cw_skip ?_
        try show CW _ _ _ _ _ _
        repeat refine cw_seq ?_
        refine cw_region ?_
        refine rw_v (op_fieldAddr Try.underlying33 rfl Try.sizeOf4 rfl rfl) ?_
        refine rw_r (op_loadB Try.underlying4 rfl rfl (S.blk (i := 1) rfl) rfl) ?_
        first | refine rw_end ?_ | (refine rw_nil ?_; show CW _ _ _ _ _ _) | refine rw_nil ?_
        repeat refine cw_seq ?_
        refine cw_true rfl ?_
        repeat refine cw_seq ?_
        refine cw_region ?_
        refine rw_r (op_loadAB Try.underlying33 rfl (Try.sizeOf33 _) rfl (S.blk (i := 1) rfl) rfl rfl) ?_
        refine rw_storeSA (i := 0) S rfl (Try.sizeOf33 _) rfl rfl rfl rfl rfl rfl ?_
        intro w5_ S
        refine rw_v (op_pure rfl) ?_
        first | refine rw_end ?_ | (refine rw_nil ?_; show CW _ _ _ _ _ _) | refine rw_nil ?_
        repeat refine cw_seq ?_
        refine cw_ret ?_
        repeat first | refine ret_then ?_ | refine ret_inb ?_
        exact resAT Try.underlying33 rfl (Try.sizeOf33 _) rfl (S.blk (i := 0) rfl) rfl rfl rfl ⟨A0, A1, Aw, c0, c1, cw, rfl, hR.gr S.out, S.out⟩
set_option maxHeartbeats 4000000 in
theorem rcut_E (s : DS) (f : Nat) (n : Int) (B : Nat) (hc : s.code f = 0) (hi : Inv B s) (hB : B < 137438953472) (W : World) (hF : FO F W) (hR : RefAt F W s A0 A1 Aw c0 c1 cw) :
    Fn Try.prog 33 [.agg (s.ref A0 A1 Aw c0 c1 cw).toArray, .int .i64 f, .int .i64 n] W (RetRefC F (s.cutD f n).1 (s.cutD f n).2 W) := by
  have hf := code_file hc
  have hf1 : (f : Int) = 0 ∨ (f : Int) = 1 := hf.1
  have hseen : ∀ w, Gr W w → _ := fun w g => seen_E s f (by omega) B (by omega) hi.oks hi.l1 hi.l2 w (hF.up g) (hR.gr g)
  have hbl := hi.s1
  have hcut : s.cutD f n = if s.burns = false ∧ (n < 0 ∨ (fileOf f s.seen).length < n) then (11, s) else s.deed [DU.cut f n.toNat] := by unfold DS.cutD; rw [if_neg (by simp [hc])]; rfl
  have hdeed : ∀ (Au : Option Addr) (cu : Nat) (w : World), Gr W w → Sl F w Au [DU.cut f n.toNat].length cu (unitsV [DU.cut f n.toNat]) → _ := fun Au cu w g hU => rdeed_E s [DU.cut f n.toNat] Au cu hi.fuse (by have := hi.l1; simp only [List.length_cons, List.length_nil]; omega) w (hF.up g) (hR.gr g) hU
  have hburn : s.burns = true → ∀ (Au : Option Addr) (cu : Nat) (w : World), Gr W w → _ := fun hb Au cu w g => rdeedBurn_E s Au 1 cu hb w (hF.up g) (hR.gr g)
  have hbd : s.burns = true → s.deed [DU.cut f n.toNat] = (17, { s with dark := true }) := fun hb => by unfold DS.deed; rw [if_pos hb]
  rw [hi.seen] at hcut
  rw [hcut]
  have hfu := hi.fuse
  have hdk := hf.2
  obtain ⟨room, last, waits, seen, fused, fuse, dark⟩ := s
  unfold DS.ref at *
  unfold DS.burns at *
  dsimp only at *
  subst hdk
  generalize fileOf f (runs waits last) = lf at *
  have S := St.start W
  refine Fn_enter Try.func33 rfl Try.results33 Try.ntmps33 (by kernel_rfl) (by kernel_rfl) ?_
  repeat refine cw_seq ?_
  refine cw_region ?_
  refine rw_newB (op_box rfl) S ?_
  intro b_D w2_ g2_ S
  refine rw_newB (op_alloc Try.zeroValue33 rfl) S ?_
  intro b_R w4_ g4_ S
  refine rw_v (op_pure rfl) ?_
  first | refine rw_end ?_ | (refine rw_nil ?_; show CW _ _ _ _ _ _) | refine rw_nil ?_
  repeat refine cw_seq ?_
  refine cw_region ?_
  refine rw_v (op_pure rfl) ?_
  first | refine rw_v (op_b (b := true) rfl (decide_eq_true (by omega))) ?_ | refine rw_v (op_b (b := false) rfl (decide_eq_false (by omega))) ?_ | refine rw_v (op_pure rfl) ?_
  refine rw_v (op_pure rfl) ?_
  first | refine rw_off rfl ?_ | (refine rw_on rfl ?_; refine rw_v (op_pure rfl) ?_)
  first | refine rw_off rfl ?_ | (refine rw_on rfl ?_; (first | refine rw_v (op_b (b := true) rfl (decide_eq_true (by omega))) ?_ | refine rw_v (op_b (b := false) rfl (decide_eq_false (by omega))) ?_ | refine rw_v (op_pure rfl) ?_))
  refine rw_v (op_pure rfl) ?_
  first | refine rw_end ?_ | (refine rw_nil ?_; show CW _ _ _ _ _ _) | refine rw_nil ?_
  repeat refine cw_seq ?_
  refine cw_false rfl ?_
  repeat refine cw_seq ?_
  refine cw_skip ?_
  try show CW _ _ _ _ _ _
  repeat refine cw_seq ?_
  refine cw_region ?_
  refine rw_v (op_fieldAddr Try.underlying33 rfl Try.sizeOf4 rfl rfl) ?_
  refine rw_r (op_loadB Try.underlying4 rfl rfl (S.blk (i := 1) rfl) rfl) ?_
  first | refine rw_end ?_ | (refine rw_nil ?_; show CW _ _ _ _ _ _) | refine rw_nil ?_
  repeat refine cw_seq ?_
  refine cw_false rfl ?_
  repeat refine cw_seq ?_
  refine cw_skip ?_
  try show CW _ _ _ _ _ _
  repeat refine cw_seq ?_
  refine cw_cutT (M := fun e w => SL e [(1, .int .i64 f), (2, .int .i64 n), (3, .pointer (some ⟨b_D, 0, none⟩)), (6, .pointer (some ⟨b_R, 0, none⟩)), (37, .bool (decide ((fused && fuse == 0) = false ∧ (n < 0 ∨ lf.length < n))))] ∧ St No W w [.blk b_R 33 [.int .i64 0, .slice none 0 0, .slice none 0 0, .slice none 0 0, .bool false, .int .i64 0, .bool false], .blk b_D 33 [.int .i64 room, .slice A0 last.1.length c0, .slice A1 last.2.length c1, .slice Aw waits.length cw, .bool fused, .int .i64 fuse, .bool false]]) ?_ ?_
  · have main : ∀ {B1 B2 : Bool}, (fused && fuse == 0) = false → True := fun _ => trivial
    cases fused
    · by_cases hn : n < 0
      · skip
        repeat refine cw_seq ?_
        refine cw_region ?_
        refine rw_v (op_fieldAddr Try.underlying33 rfl Try.sizeOf4 rfl rfl) ?_
        refine rw_r (op_loadB Try.underlying4 rfl rfl (S.blk (i := 1) rfl) rfl) ?_
        refine rw_v (op_pure rfl) ?_
        refine rw_v (op_pure rfl) ?_
        first | refine rw_off rfl ?_ | (refine rw_on rfl ?_; refine rw_v (op_fieldAddr Try.underlying33 rfl Try.sizeOf2 rfl rfl) ?_)
        first | refine rw_off rfl ?_ | (refine rw_on rfl ?_; refine rw_r (op_loadB Try.underlying2 rfl rfl (S.blk (i := 1) rfl) rfl) ?_)
        first | refine rw_off rfl ?_ | (refine rw_on rfl ?_; (first | refine rw_v (op_b (b := true) rfl (decide_eq_true (by omega))) ?_ | refine rw_v (op_b (b := false) rfl (decide_eq_false (by omega))) ?_ | refine rw_v (op_pure rfl) ?_))
        refine rw_v (op_pure rfl) ?_
        refine rw_v (op_pure rfl) ?_
        first | refine rw_off rfl ?_ | (refine rw_on rfl ?_; refine rw_v (op_pure rfl) ?_)
        first | refine rw_off rfl ?_ | (refine rw_on rfl ?_; (first | refine rw_v (op_b (b := true) rfl (decide_eq_true (by omega))) ?_ | refine rw_v (op_b (b := false) rfl (decide_eq_false (by omega))) ?_ | refine rw_v (op_pure rfl) ?_))
        first | refine rw_off rfl ?_ | (refine rw_on rfl ?_; refine rw_v (op_pure rfl) ?_)
        refine rw_off rfl ?_
        refine rw_off rfl ?_
        refine rw_off rfl ?_
        refine rw_off rfl ?_
        refine rw_off rfl ?_
        refine rw_off rfl ?_
        first | refine rw_off rfl ?_ | (refine rw_on rfl ?_; refine rw_v (op_pure rfl) ?_)
        refine rw_v (op_pure rfl) ?_
        first | refine rw_end ?_ | (refine rw_nil ?_; show CW _ _ _ _ _ _) | refine rw_nil ?_
        exact ⟨⟨rfl, rfl, rfl, rfl, be (by simp [hn]), trivial⟩, S⟩
      · skip
        repeat refine cw_seq ?_
        refine cw_region ?_
        refine rw_v (op_fieldAddr Try.underlying33 rfl Try.sizeOf4 rfl rfl) ?_
        refine rw_r (op_loadB Try.underlying4 rfl rfl (S.blk (i := 1) rfl) rfl) ?_
        refine rw_v (op_pure rfl) ?_
        refine rw_v (op_pure rfl) ?_
        first | refine rw_off rfl ?_ | (refine rw_on rfl ?_; refine rw_v (op_fieldAddr Try.underlying33 rfl Try.sizeOf2 rfl rfl) ?_)
        first | refine rw_off rfl ?_ | (refine rw_on rfl ?_; refine rw_r (op_loadB Try.underlying2 rfl rfl (S.blk (i := 1) rfl) rfl) ?_)
        first | refine rw_off rfl ?_ | (refine rw_on rfl ?_; (first | refine rw_v (op_b (b := true) rfl (decide_eq_true (by omega))) ?_ | refine rw_v (op_b (b := false) rfl (decide_eq_false (by omega))) ?_ | refine rw_v (op_pure rfl) ?_))
        refine rw_v (op_pure rfl) ?_
        refine rw_v (op_pure rfl) ?_
        first | refine rw_off rfl ?_ | (refine rw_on rfl ?_; refine rw_v (op_pure rfl) ?_)
        first | refine rw_off rfl ?_ | (refine rw_on rfl ?_; (first | refine rw_v (op_b (b := true) rfl (decide_eq_true (by omega))) ?_ | refine rw_v (op_b (b := false) rfl (decide_eq_false (by omega))) ?_ | refine rw_v (op_pure rfl) ?_))
        first | refine rw_off rfl ?_ | (refine rw_on rfl ?_; refine rw_v (op_pure rfl) ?_)
        first | refine rw_off rfl ?_ | (refine rw_on rfl ?_; refine rw_v (op_pure rfl) ?_)
        first | refine rw_off rfl ?_ | (refine rw_on rfl ?_; refine rw_r (op_loadAB Try.underlying33 rfl (Try.sizeOf33 _) rfl (S.blk (i := 1) rfl) rfl rfl) ?_)
        first | refine rw_off rfl ?_ | (refine rw_on rfl ?_; refine rw_v (op_pure rfl) ?_)
        refine rw_on rfl ?_
        refine rw_call rfl (hseen w4_ S.out) ?_
        rintro _ w5_ ⟨A_r, c_r, rfl, hR_r, hf_r, g5_⟩
        have S := S.pushRow hR_r hf_r g5_
        first | refine rw_off rfl ?_ | (refine rw_on rfl ?_; refine rw_v (op_len Try.underlying29 rfl) ?_)
        first | refine rw_off rfl ?_ | (refine rw_on rfl ?_; (first | refine rw_v (op_b (b := true) rfl (decide_eq_true (by omega))) ?_ | refine rw_v (op_b (b := false) rfl (decide_eq_false (by omega))) ?_ | refine rw_v (op_pure rfl) ?_))
        first | refine rw_off rfl ?_ | (refine rw_on rfl ?_; refine rw_v (op_pure rfl) ?_)
        refine rw_v (op_pure rfl) ?_
        first | refine rw_end ?_ | (refine rw_nil ?_; show CW _ _ _ _ _ _) | refine rw_nil ?_
        exact ⟨⟨rfl, rfl, rfl, rfl, be (by simp [hn]), trivial⟩, S.drop 1⟩
    · by_cases h0 : fuse = 0
      · subst h0
        repeat refine cw_seq ?_
        refine cw_region ?_
        refine rw_v (op_fieldAddr Try.underlying33 rfl Try.sizeOf4 rfl rfl) ?_
        refine rw_r (op_loadB Try.underlying4 rfl rfl (S.blk (i := 1) rfl) rfl) ?_
        refine rw_v (op_pure rfl) ?_
        refine rw_v (op_pure rfl) ?_
        first | refine rw_off rfl ?_ | (refine rw_on rfl ?_; refine rw_v (op_fieldAddr Try.underlying33 rfl Try.sizeOf2 rfl rfl) ?_)
        first | refine rw_off rfl ?_ | (refine rw_on rfl ?_; refine rw_r (op_loadB Try.underlying2 rfl rfl (S.blk (i := 1) rfl) rfl) ?_)
        first | refine rw_off rfl ?_ | (refine rw_on rfl ?_; (first | refine rw_v (op_b (b := true) rfl (decide_eq_true (by omega))) ?_ | refine rw_v (op_b (b := false) rfl (decide_eq_false (by omega))) ?_ | refine rw_v (op_pure rfl) ?_))
        refine rw_v (op_pure rfl) ?_
        refine rw_v (op_pure rfl) ?_
        refine rw_off rfl ?_
        refine rw_off rfl ?_
        refine rw_off rfl ?_
        refine rw_off rfl ?_
        refine rw_off rfl ?_
        refine rw_off rfl ?_
        refine rw_off rfl ?_
        refine rw_off rfl ?_
        refine rw_off rfl ?_
        refine rw_off rfl ?_
        refine rw_v (op_pure rfl) ?_
        first | refine rw_end ?_ | (refine rw_nil ?_; show CW _ _ _ _ _ _) | refine rw_nil ?_
        exact ⟨⟨rfl, rfl, rfl, rfl, be (by simp), trivial⟩, S⟩
      · have hb : (fuse == 0) = false := by simpa using h0
        have hb2 : decide (0 < fuse) = true := by simp; omega
        by_cases hn : n < 0
        · skip
          repeat refine cw_seq ?_
          refine cw_region ?_
          refine rw_v (op_fieldAddr Try.underlying33 rfl Try.sizeOf4 rfl rfl) ?_
          refine rw_r (op_loadB Try.underlying4 rfl rfl (S.blk (i := 1) rfl) rfl) ?_
          refine rw_v (op_pure rfl) ?_
          refine rw_v (op_pure rfl) ?_
          refine rw_on rfl ?_
          refine rw_v (op_fieldAddr Try.underlying33 rfl Try.sizeOf2 rfl rfl) ?_
          refine rw_on rfl ?_
          refine rw_r (op_loadB Try.underlying2 rfl rfl (S.blk (i := 1) rfl) rfl) ?_
          refine rw_on rfl ?_
          refine rw_v (op_b rfl hb2) ?_
          refine rw_v (op_pure rfl) ?_
          refine rw_v (op_pure rfl) ?_
          first | refine rw_off rfl ?_ | (refine rw_on rfl ?_; refine rw_v (op_pure rfl) ?_)
          first | refine rw_off rfl ?_ | (refine rw_on rfl ?_; (first | refine rw_v (op_b (b := true) rfl (decide_eq_true (by omega))) ?_ | refine rw_v (op_b (b := false) rfl (decide_eq_false (by omega))) ?_ | refine rw_v (op_pure rfl) ?_))
          first | refine rw_off rfl ?_ | (refine rw_on rfl ?_; refine rw_v (op_pure rfl) ?_)
          refine rw_off rfl ?_
          refine rw_off rfl ?_
          refine rw_off rfl ?_
          refine rw_off rfl ?_
          refine rw_off rfl ?_
          refine rw_off rfl ?_
          first | refine rw_off rfl ?_ | (refine rw_on rfl ?_; refine rw_v (op_pure rfl) ?_)
          refine rw_v (op_pure rfl) ?_
          first | refine rw_end ?_ | (refine rw_nil ?_; show CW _ _ _ _ _ _) | refine rw_nil ?_
          exact ⟨⟨rfl, rfl, rfl, rfl, be (by simp [hb, hn]), trivial⟩, S⟩
        · skip
          repeat refine cw_seq ?_
          refine cw_region ?_
          refine rw_v (op_fieldAddr Try.underlying33 rfl Try.sizeOf4 rfl rfl) ?_
          refine rw_r (op_loadB Try.underlying4 rfl rfl (S.blk (i := 1) rfl) rfl) ?_
          refine rw_v (op_pure rfl) ?_
          refine rw_v (op_pure rfl) ?_
          refine rw_on rfl ?_
          refine rw_v (op_fieldAddr Try.underlying33 rfl Try.sizeOf2 rfl rfl) ?_
          refine rw_on rfl ?_
          refine rw_r (op_loadB Try.underlying2 rfl rfl (S.blk (i := 1) rfl) rfl) ?_
          refine rw_on rfl ?_
          refine rw_v (op_b rfl hb2) ?_
          refine rw_v (op_pure rfl) ?_
          refine rw_v (op_pure rfl) ?_
          first | refine rw_off rfl ?_ | (refine rw_on rfl ?_; refine rw_v (op_pure rfl) ?_)
          first | refine rw_off rfl ?_ | (refine rw_on rfl ?_; (first | refine rw_v (op_b (b := true) rfl (decide_eq_true (by omega))) ?_ | refine rw_v (op_b (b := false) rfl (decide_eq_false (by omega))) ?_ | refine rw_v (op_pure rfl) ?_))
          first | refine rw_off rfl ?_ | (refine rw_on rfl ?_; refine rw_v (op_pure rfl) ?_)
          first | refine rw_off rfl ?_ | (refine rw_on rfl ?_; refine rw_v (op_pure rfl) ?_)
          first | refine rw_off rfl ?_ | (refine rw_on rfl ?_; refine rw_r (op_loadAB Try.underlying33 rfl (Try.sizeOf33 _) rfl (S.blk (i := 1) rfl) rfl rfl) ?_)
          first | refine rw_off rfl ?_ | (refine rw_on rfl ?_; refine rw_v (op_pure rfl) ?_)
          refine rw_on rfl ?_
          refine rw_call rfl (hseen w4_ S.out) ?_
          rintro _ w6_ ⟨A_r, c_r, rfl, hR_r, hf_r, g6_⟩
          have S := S.pushRow hR_r hf_r g6_
          first | refine rw_off rfl ?_ | (refine rw_on rfl ?_; refine rw_v (op_len Try.underlying29 rfl) ?_)
          first | refine rw_off rfl ?_ | (refine rw_on rfl ?_; (first | refine rw_v (op_b (b := true) rfl (decide_eq_true (by omega))) ?_ | refine rw_v (op_b (b := false) rfl (decide_eq_false (by omega))) ?_ | refine rw_v (op_pure rfl) ?_))
          first | refine rw_off rfl ?_ | (refine rw_on rfl ?_; refine rw_v (op_pure rfl) ?_)
          refine rw_v (op_pure rfl) ?_
          first | refine rw_end ?_ | (refine rw_nil ?_; show CW _ _ _ _ _ _) | refine rw_nil ?_
          exact ⟨⟨rfl, rfl, rfl, rfl, be (by simp [hb, hn]), trivial⟩, S.drop 1⟩
  · rintro e1 w1 ⟨hsl, S⟩
    rw [hsl.fold]
    repeat refine cw_seq ?_
    refine cw_cond rfl (fun hbad => ?_) (fun hbad => ?_)
    · try simp only [decide_eq_true_eq, decide_eq_false_iff_not, beq_iff_eq, bne_iff_ne, beq_eq_false_iff_ne, bne_eq_false_iff_eq, Bool.not_eq_true', Bool.not_eq_false', ne_eq, Decidable.not_not, Int.natCast_inj, Int.ofNat_lt, Int.ofNat_le, gt_iff_lt, ge_iff_le, Int.not_lt, Int.not_le] at hbad
      rw [if_pos hbad]
      repeat refine cw_seq ?_
      refine cw_region ?_
      refine rw_r (op_loadAB Try.underlying33 rfl (Try.sizeOf33 _) rfl (S.blk (i := 1) rfl) rfl rfl) ?_
      refine rw_storeSA (i := 0) S rfl (Try.sizeOf33 _) rfl rfl rfl rfl rfl rfl ?_
      intro w7_ S
      refine rw_v (op_pure rfl) ?_
      first | refine rw_end ?_ | (refine rw_nil ?_; show CW _ _ _ _ _ _) | refine rw_nil ?_
      repeat refine cw_seq ?_
      refine cw_ret ?_
      repeat first | refine ret_then ?_ | refine ret_inb ?_
      exact resAT Try.underlying33 rfl (Try.sizeOf33 _) rfl (S.blk (i := 0) rfl) rfl rfl rfl ⟨A0, A1, Aw, c0, c1, cw, rfl, hR.gr S.out, S.out⟩
    · try simp only [decide_eq_true_eq, decide_eq_false_iff_not, beq_iff_eq, bne_iff_ne, beq_eq_false_iff_ne, bne_eq_false_iff_eq, Bool.not_eq_true', Bool.not_eq_false', ne_eq, Decidable.not_not, Int.natCast_inj, Int.ofNat_lt, Int.ofNat_le, gt_iff_lt, ge_iff_le, Int.not_lt, Int.not_le] at hbad
      rw [if_neg hbad]
      cases hbu : (fused && fuse == 0)
      · have hn : ¬ (n < 0 ∨ lf.length < n) := fun h => hbad ⟨hbu, h⟩
        obtain ⟨m, rfl⟩ := Int.eq_ofNat_of_zero_le (show 0 ≤ n by omega)
        repeat refine cw_seq ?_
        refine cw_skip ?_
        try show CW _ _ _ _ _ _
        repeat refine cw_seq ?_
        refine cw_region ?_
        refine rw_r (op_loadAB Try.underlying33 rfl (Try.sizeOf33 _) rfl (S.blk (i := 1) rfl) rfl rfl) ?_
        refine rw_v (op_pure rfl) ?_
        refine rw_v (op_pure rfl) ?_
        refine rw_v (op_build (pl := [(0, 1), (1, 1), (2, 1)]) Try.underlying92 Try.zeroValue92 (fun w => by kernel_rfl) rfl rfl) ?_
        refine rw_buildS Try.underlying31 Try.sizeOf92 Try.zeroValue92 rfl rfl rfl rfl rfl rfl S ?_
        intro A_one w9_ g9_ S sa_one
        have hcall := hdeed A_one 1 _ S.out ((S.row (i := 0) rfl).sl hF (SepL.fresh S (i := 0) rfl))
        refine rw_call rfl (hcall) ?_
        rintro _ w10_ ⟨A0', A1', Aw', c0', c1', cw', rfl, hR', g10_⟩
        have S := S.gr g10_
        refine rw_v (op_pure rfl) ?_
        refine rw_v (op_pure rfl) ?_
        refine rw_storeSAF (i := 1) S rfl (Try.sizeOf33 _) rfl rfl rfl rfl rfl rfl ?_
        intro w9 k9 B9 S
        have hR' := hR'.past B9 rfl k9
        refine rw_v (op_pure rfl) ?_
        first | refine rw_end ?_ | (refine rw_nil ?_; show CW _ _ _ _ _ _) | refine rw_nil ?_
        repeat refine cw_seq ?_
        refine cw_ret ?_
        repeat first | refine ret_then ?_ | refine ret_inb ?_
        exact resAT Try.underlying33 rfl (Try.sizeOf33 _) rfl (S.blk (i := 1) rfl) rfl rfl rfl ⟨A0', A1', Aw', c0', c1', cw', rfl, hR', S.out⟩
      · rw [hbd hbu]
        repeat refine cw_seq ?_
        refine cw_skip ?_
        try show CW _ _ _ _ _ _
        repeat refine cw_seq ?_
        refine cw_region ?_
        refine rw_r (op_loadAB Try.underlying33 rfl (Try.sizeOf33 _) rfl (S.blk (i := 1) rfl) rfl rfl) ?_
        refine rw_v (op_pure rfl) ?_
        refine rw_v (op_pure rfl) ?_
        refine rw_v (op_build (pl := [(0, 1), (1, 1), (2, 1)]) Try.underlying92 Try.zeroValue92 (fun w => by kernel_rfl) rfl rfl) ?_
        refine rw_buildS Try.underlying31 Try.sizeOf92 Try.zeroValue92 rfl rfl rfl rfl rfl rfl S ?_
        intro A_one w12_ g12_ S sa_one
        have hcall := hburn hbu A_one 1 _ S.out
        refine rw_call rfl (hcall) ?_
        rintro _ w13_ ⟨A0', A1', Aw', c0', c1', cw', rfl, hR', g13_⟩
        have S := S.gr g13_
        refine rw_v (op_pure rfl) ?_
        refine rw_v (op_pure rfl) ?_
        refine rw_storeSAF (i := 1) S rfl (Try.sizeOf33 _) rfl rfl rfl rfl rfl rfl ?_
        intro w9 k9 B9 S
        have hR' := hR'.past B9 rfl k9
        refine rw_v (op_pure rfl) ?_
        first | refine rw_end ?_ | (refine rw_nil ?_; show CW _ _ _ _ _ _) | refine rw_nil ?_
        repeat refine cw_seq ?_
        refine cw_ret ?_
        repeat first | refine ret_then ?_ | refine ret_inb ?_
        exact resAT Try.underlying33 rfl (Try.sizeOf33 _) rfl (S.blk (i := 1) rfl) rfl rfl rfl ⟨A0', A1', Aw', c0', c1', cw', rfl, hR', S.out⟩
end
