/- route.land.costs: the cheapest costs from a place to all. -/
import Derived.Test.YtmdkjohllinphaaRouteA
namespace Go.Proofs.Ytmdkjohllinphaa
open Go.RowKit
set_option linter.unusedVariables false
set_option linter.unusedSimpArgs false
set_option maxRecDepth 100000

theorem SepL.perm {X : Nat → Prop} {w : World} {L L' : List HA} (p : L.Perm L') : SepL X w L → SepL X w L' := by
  induction p with
  | nil => exact id
  | cons a p ih => exact fun h => ⟨h.1, fun g hg h' hh => h.2.1 g hg h' (p.mem_iff.2 hh), ih h.2.2⟩
  | swap a b l =>
    intro h
    refine ⟨h.2.2.1, fun g hg h' hh => ?_, h.1, fun g hg h' hh => h.2.1 g hg h' (List.mem_cons_of_mem _ hh), h.2.2.2.2⟩
    rcases List.mem_cons.1 hh with e | hh
    · subst e; exact fun ho => h.2.1 g ho a List.mem_cons_self hg
    · exact h.2.2.2.1 g hg h' hh
  | trans _ _ ih1 ih2 => exact fun h => ih2 (ih1 h)
theorem St.perm {F : Nat → Prop} {W w : World} {L L' : List HA} (S : St F W w L) (p : L.Perm L') : St F W w L' := ⟨S.fr, S.sep.perm p⟩
theorem perm_two {α : Type} (a b c d : α) (L : List α) : (a :: b :: c :: d :: L).Perm (c :: d :: a :: b :: L) :=
  (List.perm_append_comm (l₁ := [a, b]) (l₂ := [c, d])).append_right L
section
variable {W : World} {A : Option Addr} {gw gh c : Nat} {V : List Int}
set_option maxHeartbeats 4000000 in
theorem rcosts_E (a : Nat) (hgw : 1 ≤ gw ∧ gw ≤ 1024) (hgh : 1 ≤ gh ∧ gh ≤ 1024) (hV : V.length = gw * gh) (ha : a < gw * gh) (hB : vB V) (hA : Rd W A (ints V)) :
    Fn Try.prog 68 [.agg #[.int .i64 gw, .slice A V.length c], .int .i64 a] W (fun v w' => ∃ d, IsDist gw V a d ∧ RetNew id 2 1 V.length (cellsQ V.length d) W v w') := by
  have hn : gw * gh ≤ 1048576 := by have := Nat.mul_le_mul hgw.2 hgh.2; omega
  have S := St.start W
  refine Fn_enter Try.func68 rfl Try.results68 Try.ntmps68 (by kernel_rfl) (by kernel_rfl) ?_
  repeat refine cw_seq ?_
  refine cw_region ?_
  refine rw_newB (op_box rfl) S ?_
  intro b_lw w2_ g2_ S
  refine rw_v (op_pure rfl) ?_
  first | refine rw_end ?_ | (refine rw_nil ?_; show CW _ _ _ _ _ _) | refine rw_nil ?_
  repeat refine cw_seq ?_
  refine cw_region ?_
  refine rw_v (op_fieldAddr Try.underlying120 rfl Try.sizeOf22 rfl rfl) ?_
  refine rw_r (op_loadB Try.underlying22 rfl rfl (S.blk (i := 0) rfl) rfl) ?_
  refine rw_v (op_len Try.underlying22 rfl) ?_
  refine rw_makeS1 Try.underlying22 info_t2 rfl rfl rfl (n := V.length) (c := V.length) (by omega) (by omega) (by omega) (by omega) S ?_
  intro A_out w4_ g4_ S sa_out
  refine rw_v (op_pure rfl) ?_
  first | refine rw_end ?_ | (refine rw_nil ?_; show CW _ _ _ _ _ _) | refine rw_nil ?_
  repeat refine cw_seq ?_
  refine cw_region ?_
  refine rw_v (op_pure rfl) ?_
  refine rw_v (op_len Try.underlying22 rfl) ?_
  refine rw_v (op_pure rfl) ?_
  first | refine rw_end ?_ | (refine rw_nil ?_; show CW _ _ _ _ _ _) | refine rw_nil ?_
  repeat refine cw_seq ?_
  refine cw_block ?_
  repeat refine cw_seq ?_
  rw [cellsQ_zero] at S
  refine cw_loop (fun m e w => ∃ k : Nat, k + m = V.length ∧ SL e [(1, .int .i64 a), (2, .pointer (some ⟨b_lw, 0, none⟩)), (5, .slice A_out V.length V.length), (16, .int .i64 V.length), (17, .int .i64 k)] ∧
    St No W w [.row 2 1 A_out V.length V.length (cellsQ V.length (fun i => if i < k then -1 else 0)), .blk b_lw 120 [.int .i64 gw, .slice A V.length c]]) V.length
    ⟨0, by omega, ⟨rfl, rfl, rfl, rfl, rfl, trivial⟩, by simpa using S⟩ ?_
  rintro m e w ⟨k, hk, hsl, S⟩
  rw [hsl.fold]
  repeat refine cw_seq ?_
  refine cw_region ?_
  refine rw_v (op_pure rfl) ?_
  first | refine rw_end ?_ | (refine rw_nil ?_; show CW _ _ _ _ _ _) | refine rw_nil ?_
  repeat refine cw_seq ?_
  refine cw_cond rfl (fun hc => ?_) (fun hc => ?_)
  · try simp only [decide_eq_true_eq, decide_eq_false_iff_not, beq_iff_eq, bne_iff_ne, beq_eq_false_iff_ne, bne_eq_false_iff_eq, Bool.not_eq_true', Bool.not_eq_false', ne_eq, Decidable.not_not, Int.natCast_inj, Int.ofNat_lt, Int.ofNat_le, gt_iff_lt, ge_iff_le, Int.not_lt, Int.not_le] at hc
    repeat refine cw_seq ?_
    refine cw_skip ?_
    try show CW _ _ _ _ _ _
    repeat refine cw_seq ?_
    refine cw_block ?_
    repeat refine cw_seq ?_
    refine cw_region ?_
    refine rw_v (op_pure rfl) ?_
    refine rw_v (op_pure rfl) ?_
    first | refine rw_end ?_ | (refine rw_nil ?_; show CW _ _ _ _ _ _) | refine rw_nil ?_
    repeat refine cw_seq ?_
    refine cw_region ?_
    refine rw_v (op_pure rfl) ?_
    refine rw_v (op_pure rfl) ?_
    refine rw_v (op_idx Try.underlying22 Try.sizeOf2 rfl rfl sa_out (by omega) (by omega)) ?_
    refine rw_storeR (i := 0) S rfl (Try.sizeOf2 _) rfl rfl rfl rfl (by rw [cellsQ_len]; omega) rfl ?_
    intro w5_ S
    first | refine rw_end ?_ | (refine rw_nil ?_; show CW _ _ _ _ _ _) | refine rw_nil ?_
    repeat refine cw_seq ?_
    refine cw_region ?_
    refine rw_v (op_rng rfl (by omega)) ?_
    refine rw_v (op_pure rfl) ?_
    first | refine rw_end ?_ | (refine rw_nil ?_; show CW _ _ _ _ _ _) | refine rw_nil ?_
    rw [cellsQ_set, cellsQ_congr (o' := fun i => if i < k + 1 then -1 else 0) (fun i hi => by unfold updI; dsimp only; (repeat' split) <;> omega)] at S
    exact ⟨m - 1, by omega, k + 1, by omega, ⟨rfl, rfl, rfl, rfl, ie (by omega), trivial⟩, S⟩
  · try simp only [decide_eq_true_eq, decide_eq_false_iff_not, beq_iff_eq, bne_iff_ne, beq_eq_false_iff_ne, bne_eq_false_iff_eq, Bool.not_eq_true', Bool.not_eq_false', ne_eq, Decidable.not_not, Int.natCast_inj, Int.ofNat_lt, Int.ofNat_le, gt_iff_lt, ge_iff_le, Int.not_lt, Int.not_le] at hc
    rw [cellsQ_congr (o' := fun _ => -1) (fun i hi => by rw [if_pos (by omega)])] at S
    repeat refine cw_seq ?_
    refine cw_exit ?_
    repeat first | refine exit_then ?_ | refine exit_inb ?_
    show CW _ _ _ _ _ _
    repeat refine cw_seq ?_
    refine cw_region ?_
    refine rw_v (op_pure rfl) ?_
    refine rw_v (op_build (pl := [(0, 1), (1, 1)]) Try.underlying168 Try.zeroValue168 (fun w => by kernel_rfl) rfl rfl) ?_
    refine rw_buildS Try.underlying170 Try.sizeOf168 Try.zeroValue168 rfl rfl rfl rfl rfl rfl S ?_
    intro A_qr w7_ g7_ S sa_qr
    refine rw_newB (op_box rfl) S ?_
    intro b_q w9_ g9_ S
    refine rw_v (op_pure rfl) ?_
    first | refine rw_end ?_ | (refine rw_nil ?_; show CW _ _ _ _ _ _) | refine rw_nil ?_
    repeat refine cw_seq ?_
    refine cw_block ?_
    repeat refine cw_seq ?_
    have hQ : queue.QH No W [.row 2 1 A_out V.length V.length (cellsQ V.length (fun _ => -1)), .blk b_lw 120 [.int .i64 gw, .slice A V.length c]] b_q [((0 : Int), a)] _ := queue.QH.mk (A := A_qr) (c := 1) (n := 1) rfl (by omega) S
    refine cw_loop (fun m e w => ∃ (o : Nat → Int) (l : List Job), 5 * (V.length - cntS (gw * gh) o) + l.length = m ∧ m ≤ 5 * V.length + 1 ∧ SL e [(2, .pointer (some ⟨b_lw, 0, none⟩)), (5, .slice A_out V.length V.length), (7, .pointer (some ⟨b_q, 0, none⟩))] ∧
      HeapN l l.length ∧ DJ gw gh V a o l (fun _ _ => False) ∧ queue.QH No W [.row 2 1 A_out V.length V.length (cellsQ V.length o), .blk b_lw 120 [.int .i64 gw, .slice A V.length c]] b_q l w)
      (5 * (V.length - cntS (gw * gh) (fun _ => -1)) + 1) ⟨fun _ => -1, [(0, a)], rfl, by omega, ⟨rfl, rfl, rfl, trivial⟩, fun k h0 h1 => by simp at h1; omega, DJ.init ha, hQ⟩ ?_
    clear hQ S
    rintro m e w ⟨o, l, hm, hmb, hsl, hN, hD, hQ⟩
    rw [hsl.fold]
    obtain ⟨hlb, A_R, c_R, S⟩ := hQ
    repeat refine cw_seq ?_
    refine cw_region ?_
    refine rw_v (op_pure rfl) ?_
    refine rw_v (op_pure rfl) ?_
    refine rw_r (op_loadB Try.underlying170 rfl rfl (S.blk (i := 0) rfl) rfl) ?_
    refine rw_call rfl (queue.dlen_E A_R l.length c_R w) ?_
    rintro _ w10_ ⟨rfl, g10_⟩
    have S := S.gr g10_
    refine rw_v (op_pure rfl) ?_
    first | refine rw_end ?_ | (refine rw_nil ?_; show CW _ _ _ _ _ _) | refine rw_nil ?_
    repeat refine cw_seq ?_
    refine cw_cond rfl (fun hc2 => ?_) (fun hc2 => ?_)
    · try simp only [decide_eq_true_eq, decide_eq_false_iff_not, beq_iff_eq, bne_iff_ne, beq_eq_false_iff_ne, bne_eq_false_iff_eq, Bool.not_eq_true', Bool.not_eq_false', ne_eq, Decidable.not_not, Int.natCast_inj, Int.ofNat_lt, Int.ofNat_le, gt_iff_lt, ge_iff_le, Int.not_lt, Int.not_le] at hc2
      have hl0 : 0 < l.length := by omega
      repeat refine cw_seq ?_
      refine cw_skip ?_
      try show CW _ _ _ _ _ _
      repeat refine cw_seq ?_
      refine cw_block ?_
      repeat refine cw_seq ?_
      refine cw_region ?_
      refine rw_v (op_pure rfl) ?_
      refine rw_v (op_iface Try.underlying166 rfl rfl) ?_
      refine rw_call rfl (hpop_E queue.qops l _ hN hl0 ⟨hlb, A_R, c_R, S⟩) ?_
      rintro _ w9 ⟨x, l', rfl, hlen, hmem, hmin, hN', hQ'⟩
      obtain ⟨hlb', A_R', c_R', S⟩ := hQ'
      have hD2 : DJ gw gh V a o (x :: l') (fun _ _ => False) := hD.perm (fun y => by rw [List.mem_cons]; exact (hmem y).symm)
      obtain ⟨hxlt, hx0, _⟩ := hD2.ent x List.mem_cons_self
      obtain ⟨xc, xa⟩ := x
      dsimp only at hxlt hx0 hmin hmem
      refine rw_v (op_assert1 Try.underlying168 rfl rfl rfl) ?_
      refine rw_newB (op_alloc Try.zeroValue168 rfl) S ?_
      intro b_j w12_ g12_ S
      refine rw_storeSA (i := 0) S rfl (Try.sizeOf168 _) rfl rfl rfl rfl rfl rfl ?_
      intro w13_ S
      first | refine rw_end ?_ | (refine rw_nil ?_; show CW _ _ _ _ _ _) | refine rw_nil ?_
      repeat refine cw_seq ?_
      refine cw_region ?_
      refine rw_v (op_pure rfl) ?_
      refine rw_v (op_fieldAddr Try.underlying168 rfl Try.sizeOf3 rfl rfl) ?_
      refine rw_r (op_loadB Try.underlying3 rfl rfl (S.blk (i := 0) rfl) rfl) ?_
      refine rw_v (op_idx Try.underlying22 Try.sizeOf2 rfl rfl sa_out (by omega) (by omega)) ?_
      refine rw_r (op_ldR Try.underlying2 rfl rfl (S.rd (i := 3) rfl) (cellsQ_get (by omega))) ?_
      refine rw_v (op_pure rfl) ?_
      first | refine rw_end ?_ | (refine rw_nil ?_; show CW _ _ _ _ _ _) | refine rw_nil ?_
      repeat refine cw_seq ?_
      refine cw_cond rfl (fun hkn => ?_) (fun hkn => ?_)
      · try simp only [decide_eq_true_eq, decide_eq_false_iff_not, beq_iff_eq, bne_iff_ne, beq_eq_false_iff_ne, bne_eq_false_iff_eq, Bool.not_eq_true', Bool.not_eq_false', ne_eq, Decidable.not_not, Int.natCast_inj, Int.ofNat_lt, Int.ofNat_le, gt_iff_lt, ge_iff_le, Int.not_lt, Int.not_le] at hkn
        repeat refine cw_seq ?_
        refine cw_exit ?_
        repeat first | refine exit_then ?_ | refine exit_inb ?_
        exact ⟨_, by omega, o, l', rfl, by omega, ⟨rfl, rfl, rfl, trivial⟩, hN', hD2.skip hkn, hlb', A_R', c_R', S.drop 1⟩
      · try simp only [decide_eq_true_eq, decide_eq_false_iff_not, beq_iff_eq, bne_iff_ne, beq_eq_false_iff_ne, bne_eq_false_iff_eq, Bool.not_eq_true', Bool.not_eq_false', ne_eq, Decidable.not_not, Int.natCast_inj, Int.ofNat_lt, Int.ofNat_le, gt_iff_lt, ge_iff_le, Int.not_lt, Int.not_le] at hkn
        have hM := hD2.take (by omega) (show o xa < 0 by omega) hmin
        dsimp only at hM
        rw [← hV] at hM
        have hself : updI o xa xc xa = xc := by unfold updI; rw [if_pos rfl]
        have hcnt : cntS (gw * gh) (updI o xa xc) = cntS (gw * gh) o + 1 := by rw [cntS_upd hx0 (by omega), if_pos hxlt]
        have hcle := cntS_le (gw * gh) (updI o xa xc)
        have hroom := hM.room
        rw [hself] at hroom
        have hnl := nearN_len gw V.length xa
        repeat refine cw_seq ?_
        refine cw_skip ?_
        try show CW _ _ _ _ _ _
        repeat refine cw_seq ?_
        refine cw_region ?_
        refine rw_v (op_pure rfl) ?_
        refine rw_v (op_fieldAddr Try.underlying168 rfl Try.sizeOf3 rfl rfl) ?_
        refine rw_r (op_loadB Try.underlying3 rfl rfl (S.blk (i := 0) rfl) rfl) ?_
        refine rw_v (op_fieldAddr Try.underlying168 rfl Try.sizeOf2 rfl rfl) ?_
        refine rw_r (op_loadB Try.underlying2 rfl rfl (S.blk (i := 0) rfl) rfl) ?_
        refine rw_v (op_idx Try.underlying22 Try.sizeOf2 rfl rfl sa_out (by omega) (by omega)) ?_
        refine rw_storeR (i := 3) S rfl (Try.sizeOf2 _) rfl rfl rfl rfl (by rw [cellsQ_len]; omega) rfl ?_
        intro w14_ S
        first | refine rw_end ?_ | (refine rw_nil ?_; show CW _ _ _ _ _ _) | refine rw_nil ?_
        repeat refine cw_seq ?_
        refine cw_region ?_
        refine rw_r (op_loadAB Try.underlying120 rfl (Try.sizeOf120 _) rfl (S.blk (i := 4) rfl) rfl rfl) ?_
        refine rw_v (op_fieldAddr Try.underlying168 rfl Try.sizeOf3 rfl rfl) ?_
        refine rw_r (op_loadB Try.underlying3 rfl rfl (S.blk (i := 0) rfl) rfl) ?_
        refine rw_call rfl (rnear32_E (W := w14_) (A := A) (c := c) xa V.length ⟨hgw.1, by omega⟩ (by omega) (by omega)) ?_
        rintro _ w15_ ⟨A_near, c_near, rfl, hR_near, hf_near, g15_⟩
        have S := S.pushRow hR_near hf_near g15_
        refine rw_v (op_len Try.underlying102 rfl) ?_
        refine rw_v (op_pure rfl) ?_
        first | refine rw_end ?_ | (refine rw_nil ?_; show CW _ _ _ _ _ _) | refine rw_nil ?_
        repeat refine cw_seq ?_
        refine cw_block ?_
        repeat refine cw_seq ?_
        rw [cellsQ_set] at S
        have S := S.perm (perm_two _ _ _ _ _)
        generalize nearN gw V.length xa = Ln at *
        refine cw_loop (fun m' e w => ∃ (k : Nat) (l2 : List Job), k + m' = Ln.length ∧ l2.length ≤ l'.length + k ∧
          SL e [(2, .pointer (some ⟨b_lw, 0, none⟩)), (5, .slice A_out V.length V.length), (7, .pointer (some ⟨b_q, 0, none⟩)), (8, .pointer (some ⟨b_j, 0, none⟩)), (52, .slice A_near Ln.length c_near), (53, .int .i64 Ln.length), (54, .int .i64 k)] ∧
          HeapN l2 l2.length ∧ DJM gw gh V a (updI o xa xc) l2 xa (Ln.drop k) ∧
          queue.QH No W [.row 3 1 A_near Ln.length c_near (natsV Ln), .blk b_j 168 [.int .i64 xc, .int .i64 xa], .row 2 1 A_out V.length V.length (cellsQ V.length (updI o xa xc)), .blk b_lw 120 [.int .i64 gw, .slice A V.length c]] b_q l2 w) Ln.length
          ⟨0, l', by omega, by omega, ⟨rfl, rfl, rfl, rfl, rfl, rfl, rfl, trivial⟩, hN', by rw [List.drop_zero]; exact hM, hlb', A_R', c_R', S⟩ ?_
        clear S hM
        rintro m' e w ⟨k, l2, hk2, hl2, hsl, hN2, hM2, hQ2⟩
        rw [hsl.fold]
        obtain ⟨hlb2, A_R2, c_R2, S⟩ := hQ2
        repeat refine cw_seq ?_
        refine cw_region ?_
        refine rw_v (op_pure rfl) ?_
        first | refine rw_end ?_ | (refine rw_nil ?_; show CW _ _ _ _ _ _) | refine rw_nil ?_
        repeat refine cw_seq ?_
        refine cw_cond rfl (fun hc3 => ?_) (fun hc3 => ?_)
        · try simp only [decide_eq_true_eq, decide_eq_false_iff_not, beq_iff_eq, bne_iff_ne, beq_eq_false_iff_ne, bne_eq_false_iff_eq, Bool.not_eq_true', Bool.not_eq_false', ne_eq, Decidable.not_not, Int.natCast_inj, Int.ofNat_lt, Int.ofNat_le, gt_iff_lt, ge_iff_le, Int.not_lt, Int.not_le] at hc3
          have hkl : k < Ln.length := by omega
          obtain ⟨y, hy, hdr⟩ : ∃ y, Ln[k]? = some y ∧ Ln.drop k = y :: Ln.drop (k + 1) := ⟨Ln[k]'hkl, List.getElem?_eq_getElem hkl, List.drop_eq_getElem_cons hkl⟩
          rw [hdr] at hM2
          have sa_near : SomeA A_near := (S.row (i := 2) rfl).someA (by omega)
          have hyt := hM2.todo_ok y List.mem_cons_self
          have hst := st_far hB xa y
          have hst0 := st_pos V xa y
          repeat refine cw_seq ?_
          refine cw_skip ?_
          try show CW _ _ _ _ _ _
          repeat refine cw_seq ?_
          refine cw_block ?_
          repeat refine cw_seq ?_
          refine cw_region ?_
          refine rw_v (op_idx Try.underlying102 Try.sizeOf3 rfl rfl sa_near (by omega) (by omega)) ?_
          refine rw_r (op_ldR Try.underlying3 rfl rfl (S.rd (i := 2) rfl) (natsV_get hy)) ?_
          refine rw_v (op_pure rfl) ?_
          first | refine rw_end ?_ | (refine rw_nil ?_; show CW _ _ _ _ _ _) | refine rw_nil ?_
          repeat refine cw_seq ?_
          refine cw_region ?_
          refine rw_v (op_pure rfl) ?_
          refine rw_v (op_pure rfl) ?_
          refine rw_v (op_idx Try.underlying22 Try.sizeOf2 rfl rfl sa_out (by omega) (by omega)) ?_
          refine rw_r (op_ldR Try.underlying2 rfl rfl (S.rd (i := 4) rfl) (cellsQ_get (by omega))) ?_
          refine rw_v (op_pure rfl) ?_
          first | refine rw_end ?_ | (refine rw_nil ?_; show CW _ _ _ _ _ _) | refine rw_nil ?_
          repeat refine cw_seq ?_
          refine cw_cond rfl (fun hu => ?_) (fun hu => ?_)
          · try simp only [decide_eq_true_eq, decide_eq_false_iff_not, beq_iff_eq, bne_iff_ne, beq_eq_false_iff_ne, bne_eq_false_iff_eq, Bool.not_eq_true', Bool.not_eq_false', ne_eq, Decidable.not_not, Int.natCast_inj, Int.ofNat_lt, Int.ofNat_le, gt_iff_lt, ge_iff_le, Int.not_lt, Int.not_le] at hu
            repeat refine cw_seq ?_
            refine cw_draw (C := fun wq => Gr w wq) [0, 1, 2, 3, 4, 5, 6, 7, 8, 9, 10, 11, 12] [13] (by kernel_rfl) (by kernel_rfl) (Gr.drew _) ?_
            simp only [pickL, List.drop_succ_cons, List.drop_zero]
            refine rq_v (op_pure rfl) ?_
            refine rq_v (op_iface Try.underlying166 rfl rfl) ?_
            refine rq_v (op_fieldAddr Try.underlying168 rfl Try.sizeOf2 rfl rfl) ?_
            refine rq_r (fun wq hq => op_loadB Try.underlying2 rfl rfl ((S.gr hq).blk (i := 3) rfl) rfl) ?_
            refine rq_r (fun wq hq => op_loadAB Try.underlying120 rfl (Try.sizeOf120 _) rfl ((S.gr hq).blk (i := 5) rfl) rfl rfl) ?_
            refine rq_v (op_fieldAddr Try.underlying168 rfl Try.sizeOf3 rfl rfl) ?_
            refine rq_r (fun wq hq => op_loadB Try.underlying3 rfl rfl ((S.gr hq).blk (i := 3) rfl) rfl) ?_
            refine rq_v (op_pure rfl) ?_
            refine rq_call rfl (fun wq hq => (rstep_E (gw := gw) (c := c) xa y (by omega) (by omega) hB (hA.gr (S.gr hq).out)).mono (fun _ _ ⟨hv, hg⟩ => ⟨hv, hq.trans hg⟩)) ?_
            refine rq_v (op_rng rfl (by unfold far at *; omega)) ?_
            refine rq_v (op_pure rfl) ?_
            refine rq_v (op_build (pl := [(0, 1), (1, 1)]) Try.underlying168 Try.zeroValue168 (fun w => by kernel_rfl) rfl rfl) ?_
            refine rq_v (op_iface Try.underlying168 rfl rfl) ?_
            refine rq_nil ?_
            intro w16_ g16_
            have S := S.gr g16_
            refine rw_call rfl (hpush_E queue.qops l2 (xc + st V xa y, y) _ hN2 ⟨hlb2, A_R2, c_R2, S⟩ (by omega)) ?_
            rintro _ w16 ⟨rfl, l3, h31, h32, h33, hQ3⟩
            first | refine rw_end ?_ | (refine rw_nil ?_; show CW _ _ _ _ _ _) | refine rw_nil ?_
            repeat refine cw_seq ?_
            refine cw_region ?_
            refine rw_v (op_rng rfl (by omega)) ?_
            refine rw_v (op_pure rfl) ?_
            first | refine rw_end ?_ | (refine rw_nil ?_; show CW _ _ _ _ _ _) | refine rw_nil ?_
            exact ⟨m' - 1, by omega, k + 1, l3, by omega, by omega, ⟨rfl, rfl, rfl, rfl, rfl, rfl, ie (by omega), trivial⟩, h33, hM2.push hst (fun x => by rw [h32, hself]), hQ3⟩
          · try simp only [decide_eq_true_eq, decide_eq_false_iff_not, beq_iff_eq, bne_iff_ne, beq_eq_false_iff_ne, bne_eq_false_iff_eq, Bool.not_eq_true', Bool.not_eq_false', ne_eq, Decidable.not_not, Int.natCast_inj, Int.ofNat_lt, Int.ofNat_le, gt_iff_lt, ge_iff_le, Int.not_lt, Int.not_le] at hu
            repeat refine cw_seq ?_
            refine cw_skip ?_
            try show CW _ _ _ _ _ _
            repeat refine cw_seq ?_
            refine cw_region ?_
            refine rw_v (op_rng rfl (by omega)) ?_
            refine rw_v (op_pure rfl) ?_
            first | refine rw_end ?_ | (refine rw_nil ?_; show CW _ _ _ _ _ _) | refine rw_nil ?_
            exact ⟨m' - 1, by omega, k + 1, l2, by omega, by omega, ⟨rfl, rfl, rfl, rfl, rfl, rfl, ie (by omega), trivial⟩, hN2, hM2.known (by omega), hlb2, A_R2, c_R2, S⟩
        · try simp only [decide_eq_true_eq, decide_eq_false_iff_not, beq_iff_eq, bne_iff_ne, beq_eq_false_iff_ne, bne_eq_false_iff_eq, Bool.not_eq_true', Bool.not_eq_false', ne_eq, Decidable.not_not, Int.natCast_inj, Int.ofNat_lt, Int.ofNat_le, gt_iff_lt, ge_iff_le, Int.not_lt, Int.not_le] at hc3
          rw [List.drop_eq_nil_of_le (by omega)] at hM2
          repeat refine cw_seq ?_
          refine cw_exit ?_
          repeat first | refine exit_then ?_ | refine exit_inb ?_
          exact ⟨_, by omega, updI o xa xc, l2, rfl, by omega, ⟨rfl, rfl, rfl, trivial⟩, hN2, hM2.done, hlb2, A_R2, c_R2, S.sub (.cons_cons _ (.cons_cons _ (.cons _ (.cons _ (.cons_cons _ (.cons_cons _ .slnil))))))⟩
    · try simp only [decide_eq_true_eq, decide_eq_false_iff_not, beq_iff_eq, bne_iff_ne, beq_eq_false_iff_ne, bne_eq_false_iff_eq, Bool.not_eq_true', Bool.not_eq_false', ne_eq, Decidable.not_not, Int.natCast_inj, Int.ofNat_lt, Int.ofNat_le, gt_iff_lt, ge_iff_le, Int.not_lt, Int.not_le] at hc2
      obtain rfl : l = [] := List.eq_nil_of_length_eq_zero (by omega)
      repeat refine cw_seq ?_
      refine cw_exit ?_
      repeat first | refine exit_then ?_ | refine exit_inb ?_
      show CW _ _ _ _ _ _
      repeat refine cw_seq ?_
      refine cw_region ?_
      refine rw_v (op_pure rfl) ?_
      refine rw_v (op_pure rfl) ?_
      first | refine rw_end ?_ | (refine rw_nil ?_; show CW _ _ _ _ _ _) | refine rw_nil ?_
      repeat refine cw_seq ?_
      refine cw_ret ?_
      repeat first | refine ret_then ?_ | refine ret_inb ?_
      exact res1 rfl ⟨o, hD.finish (by omega) hV ha, S.retNew (i := 2) (mk := id) rfl⟩
end
end Go.Proofs.Ytmdkjohllinphaa
