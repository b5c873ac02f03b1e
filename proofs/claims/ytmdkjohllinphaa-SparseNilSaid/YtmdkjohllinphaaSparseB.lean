/- sparse.Build of a grid of 5 by 3. -/
import Derived.Test.YtmdkjohllinphaaSparse
import Derived.Test.YtmdkjohllinphaaAppR
import Derived.Test.YtmdkjohllinphaaRegOf
namespace Go.Proofs.Ytmdkjohllinphaa
open Go.RowKit
set_option linter.unusedVariables false
set_option linter.unusedSimpArgs false
set_option maxRecDepth 100000

theorem rgsV_set {l : List RG} {k : Nat} {r : RG} (h : k < l.length) : (rgsV l).take (k * 2) ++ r.cells ++ (rgsV l).drop (k * 2 + 2) = rgsV (l.set k r) := by
  have := flatMap_put (f := RG.cells) (m := 2) (fun _ => rfl) (l := l) (k := k) (a := l[k]) (a' := r) (d := 0) (cs := r.cells) (List.getElem?_eq_getElem h) (by show 0 + 2 ≤ 2; omega) (by simp [RG.cells])
  exact this
section
variable {W : World} {p cap : Nat} {cc : Nat → Int} {A : Option Addr} {bs : Nat → Nat} {Rs : Nat → Option Nat}
set_option maxHeartbeats 4000000 in
theorem sbuild53_E (hG : GridAt W p 5 3 cc A cap bs Rs) : Fn Try.prog 21 [.pointer (some ⟨p, 0, none⟩)] W (fun v w' => ∃ tb As cs A0 c0 A1 c1, ∃ l0 l1 : List RG, v = .tuple #[.pointer (some ⟨tb, 0, none⟩), .int .i64 0] ∧
    Blk w' tb 111 [.int .i64 5, .int .i64 3, .slice As 2 cs] ∧ Rd w' As [.int .i64 5, .slice A0 15 c0, .int .i64 4, .slice A1 8 c1] ∧ l1.length = 8 ∧ Rd w' A1 (rgsV l1) ∧ Gr W w') := by
  have hval : ∀ w, Gr W w → Fn Try.prog 43 [.pointer (some ⟨p, 0, none⟩), .agg #[.int .i64 0, .int .i64 0, .int .i64 ((5 : Nat) - 1), .int .i64 ((3 : Nat) - 1)]] w (RetNew (fun v => .tuple #[v, .int .i64 0]) 2 1 15 (ints (rectV 5 cc 0 0 5 3)) w) := fun w g => by
    have := gvalues_E (W := w) 0 0 4 2 (by omega) (by omega) (hG.gr g)
    exact this
  have hvl : (ints (rectV 5 cc 0 0 5 3)).length = 15 := by rw [ints_len, rectV_all]; simp
  have S := St.start W
  refine Fn_enter Try.func21 rfl Try.results21 Try.ntmps21 (by kernel_rfl) (by kernel_rfl) ?_
  repeat refine cw_seq ?_
  refine cw_region ?_
  refine rw_v (op_pure rfl) ?_
  refine rw_v (op_pure rfl) ?_
  first | refine rw_end ?_ | (refine rw_nil ?_; show CW _ _ _ _ _ _) | refine rw_nil ?_
  repeat refine cw_seq ?_
  refine cw_region ?_
  refine rw_v (op_pure rfl) ?_
  refine rw_v (op_nilp Try.underlying28 rfl rfl) ?_
  first | refine rw_end ?_ | (refine rw_nil ?_; show CW _ _ _ _ _ _) | refine rw_nil ?_
  repeat refine cw_seq ?_
  refine cw_false rfl ?_
  repeat refine cw_seq ?_
  refine cw_skip ?_
  try show CW _ _ _ _ _ _
  repeat refine cw_seq ?_
  refine cw_region ?_
  refine rw_v (op_pure rfl) ?_
  refine rw_call rfl (gsize_E p 5 3 _ W (hG.top.gr S.out)) ?_
  rintro _ w1_ ⟨rfl, g1_⟩
  have S := S.gr g1_
  refine rw_v (op_pure rfl) ?_
  refine rw_v (op_pure rfl) ?_
  refine rw_v (op_pure rfl) ?_
  refine rw_v (op_pure rfl) ?_
  refine rw_v (op_pure rfl) ?_
  first | refine rw_end ?_ | (refine rw_nil ?_; show CW _ _ _ _ _ _) | refine rw_nil ?_
  repeat refine cw_seq ?_
  refine cw_region ?_
  refine rw_v (op_pure rfl) ?_
  refine rw_v (op_pure rfl) ?_
  refine rw_v (op_build (pl := [(0, 1), (1, 1), (2, 1)]) Try.underlying111 Try.zeroValue111 (fun w => by kernel_rfl) rfl rfl) ?_
  refine rw_newB (op_box rfl) S ?_
  intro b_T w3_ g3_ S
  refine rw_v (op_pure rfl) ?_
  first | refine rw_end ?_ | (refine rw_nil ?_; show CW _ _ _ _ _ _) | refine rw_nil ?_
  repeat refine cw_seq ?_
  refine cw_region ?_
  refine rw_v (op_pure rfl) ?_
  refine rw_v (op_pure rfl) ?_
  refine rw_call rfl (gall_E p 5 3 (by omega) (by omega) _ w3_ (hG.top.gr S.out)) ?_
  rintro _ w4_ ⟨rfl, g4_⟩
  have S := S.gr g4_
  refine rw_call rfl (hval w4_ S.out) ?_
  rintro _ w5_ ⟨A_vs, c_vs, rfl, hR_vs, hf_vs, g5_⟩
  have S := S.pushRow hR_vs hf_vs g5_
  refine rw_v (op_pure rfl) ?_
  refine rw_v (op_pure rfl) ?_
  refine rw_v (op_pure rfl) ?_
  refine rw_v (op_pure rfl) ?_
  refine rw_v (op_pure rfl) ?_
  first | refine rw_end ?_ | (refine rw_nil ?_; show CW _ _ _ _ _ _) | refine rw_nil ?_
  repeat refine cw_seq ?_
  refine cw_region ?_
  refine rw_v (op_pure rfl) ?_
  refine rw_v (op_pure rfl) ?_
  refine rw_v (op_len Try.underlying22 rfl) ?_
  refine rw_makeS Try.underlying112 info_t50 rfl rfl rfl (n := 15) (c := 15) (by omega) (by omega) (by omega) (by omega) S ?_
  intro A_c0 w7_ g7_ S sa_c0
  refine rw_v (op_build (pl := [(0, 1), (1, 1)]) Try.underlying114 Try.zeroValue114 (fun w => by kernel_rfl) rfl rfl) ?_
  refine rw_newB (op_alloc Try.zeroValue114 rfl) S ?_
  intro b_s0 w9_ g9_ S
  refine rw_storeSA (i := 0) S rfl (Try.sizeOf114 _) rfl rfl rfl rfl rfl rfl ?_
  intro w10_ S
  first | refine rw_end ?_ | (refine rw_nil ?_; show CW _ _ _ _ _ _) | refine rw_nil ?_
  repeat refine cw_seq ?_
  refine cw_region ?_
  refine rw_v (op_pure rfl) ?_
  refine rw_v (op_len Try.underlying22 rfl) ?_
  refine rw_v (op_pure rfl) ?_
  first | refine rw_end ?_ | (refine rw_nil ?_; show CW _ _ _ _ _ _) | refine rw_nil ?_
  repeat refine cw_seq ?_
  refine cw_block ?_
  repeat refine cw_seq ?_
  refine cw_loop (fun m e w => ∃ (k : Nat) (l : List RG), k + m = 15 ∧ l.length = 15 ∧ SL e [(4, .int .i64 5), (5, .int .i64 3), (6, .pointer (some ⟨b_T, 0, none⟩)), (9, .pointer (some ⟨b_s0, 0, none⟩)), (42, .slice A_vs 15 c_vs), (43, .int .i64 15), (44, .int .i64 k)] ∧
    St No W w [.blk b_s0 114 [.int .i64 5, .slice A_c0 15 15], .row 50 2 A_c0 15 15 (rgsV l), .row 2 1 A_vs 15 c_vs (ints (rectV 5 cc 0 0 5 3)), .blk b_T 111 [.int .i64 5, .int .i64 3, .slice none 0 0]]) 15
    ⟨0, List.replicate 15 ⟨0, 0⟩, rfl, rfl, ⟨rfl, rfl, rfl, rfl, rfl, rfl, rfl, trivial⟩, S⟩ ?_
  rintro m e w ⟨k, l, hk, hl, hsl, S⟩
  rw [hsl.fold]
  repeat refine cw_seq ?_
  refine cw_region ?_
  refine rw_v (op_pure rfl) ?_
  first | refine rw_end ?_ | (refine rw_nil ?_; show CW _ _ _ _ _ _) | refine rw_nil ?_
  repeat refine cw_seq ?_
  refine cw_cond rfl (fun hc => ?_) (fun hc => ?_)
  · try simp only [decide_eq_true_eq, decide_eq_false_iff_not, beq_iff_eq, bne_iff_ne, beq_eq_false_iff_ne, bne_eq_false_iff_eq, Bool.not_eq_true', Bool.not_eq_false', ne_eq, Decidable.not_not, Int.natCast_inj, Int.ofNat_lt, Int.ofNat_le, gt_iff_lt, ge_iff_le, Int.not_lt, Int.not_le] at hc
    have hgv : (ints (rectV 5 cc 0 0 5 3))[(k : Int).toNat * 1]? = some (.int .i64 ((rectV 5 cc 0 0 5 3).getD k 0)) := by rw [Nat.mul_one, Int.toNat_natCast]; exact ints_get (getD_at (by rw [ints_len] at hvl; omega))
    have sa_vs : SomeA A_vs := (S.row (i := 2) rfl).someA (by omega)
    repeat refine cw_seq ?_
    refine cw_skip ?_
    try show CW _ _ _ _ _ _
    repeat refine cw_seq ?_
    refine cw_block ?_
    repeat refine cw_seq ?_
    refine cw_region ?_
    refine rw_v (op_pure rfl) ?_
    refine rw_v (op_idx Try.underlying22 Try.sizeOf2 rfl rfl sa_vs (by omega) (by omega)) ?_
    refine rw_r (op_ldR Try.underlying2 rfl rfl (S.rd (i := 2) rfl) hgv) ?_
    refine rw_v (op_pure rfl) ?_
    refine rw_v (op_pure rfl) ?_
    first | refine rw_end ?_ | (refine rw_nil ?_; show CW _ _ _ _ _ _) | refine rw_nil ?_
    repeat refine cw_seq ?_
    refine cw_region ?_
    refine rw_v (op_fieldAddr Try.underlying114 rfl Try.sizeOf112 rfl rfl) ?_
    refine rw_r (op_loadB Try.underlying112 rfl rfl (S.blk (i := 0) rfl) rfl) ?_
    refine rw_v (op_pure rfl) ?_
    refine rw_v (op_pure rfl) ?_
    refine rw_v (op_pure rfl) ?_
    refine rw_v (op_build (pl := [(0, 1), (1, 1)]) Try.underlying50 Try.zeroValue50 (fun w => by kernel_rfl) rfl rfl) ?_
    refine rw_v (op_idx Try.underlying112 Try.sizeOf50 rfl rfl sa_c0 (by omega) (by omega)) ?_
    refine rw_storeRA (i := 1) S rfl (Try.sizeOf50 _) rfl rfl rfl rfl (by rw [rgsV_len]; omega) rfl rfl ?_
    intro w11_ S
    first | refine rw_end ?_ | (refine rw_nil ?_; show CW _ _ _ _ _ _) | refine rw_nil ?_
    repeat refine cw_seq ?_
    refine cw_region ?_
    refine rw_v (op_rng rfl (by omega)) ?_
    refine rw_v (op_pure rfl) ?_
    first | refine rw_end ?_ | (refine rw_nil ?_; show CW _ _ _ _ _ _) | refine rw_nil ?_
    refine ⟨m - 1, by omega, k + 1, l.set k ⟨(rectV 5 cc 0 0 5 3).getD k 0, (rectV 5 cc 0 0 5 3).getD k 0⟩, by omega, by simp [hl], ⟨rfl, rfl, rfl, rfl, rfl, rfl, ie (by omega), trivial⟩, ?_⟩
    rw [← rgsV_set (by omega)]
    exact S
  · try simp only [decide_eq_true_eq, decide_eq_false_iff_not, beq_iff_eq, bne_iff_ne, beq_eq_false_iff_ne, bne_eq_false_iff_eq, Bool.not_eq_true', Bool.not_eq_false', ne_eq, Decidable.not_not, Int.natCast_inj, Int.ofNat_lt, Int.ofNat_le, gt_iff_lt, ge_iff_le, Int.not_lt, Int.not_le] at hc
    have S := S.pushNil 114 2
    repeat refine cw_seq ?_
    refine cw_exit ?_
    repeat first | refine exit_then ?_ | refine exit_inb ?_
    show CW _ _ _ _ _ _
    repeat refine cw_seq ?_
    refine cw_tri (C := (fun σ wq => CS No W [.row 114 2 none 0 0 [], .blk b_s0 114 [.int .i64 5, .slice A_c0 15 15], .row 50 2 A_c0 15 15 (rgsV l), .row 2 1 A_vs 15 c_vs (ints (rectV 5 cc 0 0 5 3)), .blk b_T 111 [.int .i64 5, .int .i64 3, .slice none 0 0]] 0 114 2 0 [] [.int .i64 5, .slice A_c0 15 15] wq σ)) [6, 7] [0, 1, 2, 3, 4, 5, 6, 7] [8, 9, 10] (by kernel_rfl) (by kernel_rfl) (S.gr (Gr.drew _)) ?_
    simp only [pickI, pickL, List.drop_succ_cons, List.drop_zero]
    refine rs_v rfl (op_pure rfl) ?_
    refine rs_v rfl (op_pure rfl) ?_
    refine rs_v rfl (op_pure rfl) ?_
    refine rs_v rfl (op_fieldAddr Try.underlying111 rfl Try.sizeOf109 rfl rfl) ?_
    refine rs_r rfl (fun τ wq hq => op_loadB Try.underlying109 rfl rfl (hq.ok (j := 4) (by decide) rfl) rfl) ?_
    refine rs_r rfl (fun τ wq hq => op_loadAB Try.underlying114 rfl (Try.sizeOf114 _) rfl (hq.ok (j := 1) (by decide) rfl) rfl rfl) ?_
    refine rs_special rfl rfl (fun wq hq => to_buildCS hq Try.underlying109 Try.sizeOf114 Try.zeroValue114 rfl rfl rfl rfl rfl rfl) ?_
    rintro v6 w6 ⟨A6, rfl, _⟩
    refine rs_special rfl rfl (fun wq hq => to_appCS hq rfl (fun h => ⟨_, rfl⟩) Try.underlying109 info_t114 rfl rfl rfl rfl rfl rfl (by omega)) ?_
    rintro v7 w7 ⟨A7, c7, L7, rfl, _, _⟩
    refine rs_nil ?_
    rintro w8 ⟨A8_, c8_, L_st, e_st, h_st, S⟩
    cases e_st
    obtain rfl := Option.some.inj h_st
    refine rw_v (op_pure rfl) ?_
    refine rw_v (op_fieldAddr Try.underlying111 rfl Try.sizeOf109 rfl rfl) ?_
    refine rw_storeS (i := 4) S rfl (Try.sizeOf109 _) rfl rfl rfl rfl rfl rfl ?_
    intro w13_ S
    first | refine rw_end ?_ | (refine rw_nil ?_; show CW _ _ _ _ _ _) | refine rw_nil ?_
    repeat refine cw_seq ?_
    refine cw_region ?_
    refine rw_v (op_pure rfl) ?_
    refine rw_v (op_pure rfl) ?_
    refine rw_v (op_pure rfl) ?_
    rw [show min (5 : Int) 3 = 3 by decide]
    refine rw_call rfl (log_3 _) ?_
    rintro _ w14_ ⟨rfl, g14_⟩
    have S := S.gr g14_
    refine rw_v (op_pure rfl) ?_
    first | refine rw_end ?_ | (refine rw_nil ?_; show CW _ _ _ _ _ _) | refine rw_nil ?_
    repeat refine cw_seq ?_
    refine cw_block ?_
    repeat refine cw_seq ?_
    refine cw_loop (fun m e w => ∃ q : Nat, q + m = 1 ∧ SL e [(4, .int .i64 5), (5, .int .i64 3), (6, .pointer (some ⟨b_T, 0, none⟩)), (70, .int .i64 1), (71, .int .i64 q)] ∧
      ((q = 0 ∧ St No W w [.row 114 2 A7 1 c7 [.int .i64 5, .slice A_c0 15 15], .blk b_s0 114 [.int .i64 5, .slice A_c0 15 15], .row 50 2 A_c0 15 15 (rgsV l), .row 2 1 A_vs 15 c_vs (ints (rectV 5 cc 0 0 5 3)), .blk b_T 111 [.int .i64 5, .int .i64 3, .slice A7 1 c7]]) ∨ (q = 1 ∧ ∃ A2 c2 A_c1 c_c1, ∃ l1 : List RG, l1.length = 8 ∧ St No W w [.row 50 2 A_c1 8 c_c1 (rgsV l1), .row 114 2 A2 2 c2 [.int .i64 5, .slice A_c0 15 15, .int .i64 4, .slice A_c1 8 c_c1], .blk b_T 111 [.int .i64 5, .int .i64 3, .slice A2 2 c2]]))) 1
      ⟨0, rfl, ⟨rfl, rfl, rfl, rfl, rfl, trivial⟩, .inl ⟨rfl, S⟩⟩ ?_
    rintro m e w ⟨q, hq, hsl, hS⟩
    rw [hsl.fold]
    repeat refine cw_seq ?_
    refine cw_region ?_
    refine rw_v (op_pure rfl) ?_
    first | refine rw_end ?_ | (refine rw_nil ?_; show CW _ _ _ _ _ _) | refine rw_nil ?_
    repeat refine cw_seq ?_
    refine cw_cond rfl (fun hc => ?_) (fun hc => ?_)
    · try simp only [decide_eq_true_eq, decide_eq_false_iff_not, beq_iff_eq, bne_iff_ne, beq_eq_false_iff_ne, bne_eq_false_iff_eq, Bool.not_eq_true', Bool.not_eq_false', ne_eq, Decidable.not_not, Int.natCast_inj, Int.ofNat_lt, Int.ofNat_le, gt_iff_lt, ge_iff_le, Int.not_lt, Int.not_le] at hc
      obtain ⟨rfl, S⟩ : q = 0 ∧ St No W w [.row 114 2 A7 1 c7 [.int .i64 5, .slice A_c0 15 15], .blk b_s0 114 [.int .i64 5, .slice A_c0 15 15], .row 50 2 A_c0 15 15 (rgsV l), .row 2 1 A_vs 15 c_vs (ints (rectV 5 cc 0 0 5 3)), .blk b_T 111 [.int .i64 5, .int .i64 3, .slice A7 1 c7]] := by
        rcases hS with h | ⟨h, _⟩
        · exact h
        · omega
      repeat refine cw_seq ?_
      refine cw_skip ?_
      try show CW _ _ _ _ _ _
      repeat refine cw_seq ?_
      refine cw_block ?_
      repeat refine cw_seq ?_
      refine cw_region ?_
      refine rw_v (op_pure rfl) ?_
      refine rw_v (op_pure rfl) ?_
      first | refine rw_end ?_ | (refine rw_nil ?_; show CW _ _ _ _ _ _) | refine rw_nil ?_
      repeat refine cw_seq ?_
      refine cw_region ?_
      refine rw_v (op_pure rfl) ?_
      refine rw_v (op_shl (c := 1) rfl rfl (by decide) (by decide)) ?_
      refine rw_v (op_pure rfl) ?_
      first | refine rw_end ?_ | (refine rw_nil ?_; show CW _ _ _ _ _ _) | refine rw_nil ?_
      repeat refine cw_seq ?_
      refine cw_region ?_
      refine rw_v (op_pure rfl) ?_
      refine rw_v (op_pure rfl) ?_
      refine rw_v (op_rng rfl (by omega)) ?_
      refine rw_v (op_rng rfl (by omega)) ?_
      refine rw_v (op_rng rfl (by omega)) ?_
      refine rw_v (op_pure rfl) ?_
      refine rw_v (op_pure rfl) ?_
      refine rw_v (op_rng rfl (by omega)) ?_
      refine rw_v (op_rng rfl (by omega)) ?_
      refine rw_v (op_rng rfl (by omega)) ?_
      refine rw_v (op_pure rfl) ?_
      refine rw_v (op_pure rfl) ?_
      first | refine rw_end ?_ | (refine rw_nil ?_; show CW _ _ _ _ _ _) | refine rw_nil ?_
      repeat refine cw_seq ?_
      refine cw_region ?_
      refine rw_v (op_pure rfl) ?_
      refine rw_v (op_pure rfl) ?_
      refine rw_v (op_pure rfl) ?_
      refine rw_v (op_rng rfl (by omega)) ?_
      refine rw_makeS Try.underlying112 info_t50 rfl rfl rfl (n := 0) (c := 8) (by omega) (by omega) (by omega) (by omega) S ?_
      intro A_c1 w16_ g16_ S sa_c1
      refine rw_v (op_build (pl := [(0, 1), (1, 1)]) Try.underlying114 Try.zeroValue114 (fun w => by kernel_rfl) rfl rfl) ?_
      refine rw_newB (op_alloc Try.zeroValue114 rfl) S ?_
      intro b_s1 w18_ g18_ S
      refine rw_storeSA (i := 0) S rfl (Try.sizeOf114 _) rfl rfl rfl rfl rfl rfl ?_
      intro w19_ S
      first | refine rw_end ?_ | (refine rw_nil ?_; show CW _ _ _ _ _ _) | refine rw_nil ?_
      repeat refine cw_seq ?_
      refine cw_region ?_
      refine rw_v (op_pure rfl) ?_
      refine rw_v (op_pure rfl) ?_
      first | refine rw_end ?_ | (refine rw_nil ?_; show CW _ _ _ _ _ _) | refine rw_nil ?_
      repeat refine cw_seq ?_
      refine cw_block ?_
      repeat refine cw_seq ?_
      have S := S.sub (.cons_cons _ (.cons_cons _ (.cons_cons _ (.cons _ (.cons_cons _ (.cons _ (.cons_cons _ (.slnil))))))))
      refine cw_loop (fun m e w => ∃ (y : Nat) (A1 : Option Addr) (c1 : Nat) (l1 : List RG), y + m = 2 ∧ l1.length = 4 * y ∧ SL e [(4, .int .i64 5), (5, .int .i64 3), (6, .pointer (some ⟨b_T, 0, none⟩)), (12, .int .i64 0), (13, .int .i64 1), (14, .int .i64 4), (15, .int .i64 2), (16, .pointer (some ⟨b_s1, 0, none⟩)), (70, .int .i64 1), (71, .int .i64 0), (92, .int .i64 2), (93, .int .i64 y)] ∧ St No W w [.blk b_s1 114 [.int .i64 4, .slice A1 (4 * y) c1], .row 50 2 A1 (4 * y) c1 (rgsV l1), .row 114 2 A7 1 c7 [.int .i64 5, .slice A_c0 15 15], .row 50 2 A_c0 15 15 (rgsV l), .blk b_T 111 [.int .i64 5, .int .i64 3, .slice A7 1 c7]]) 2
        ⟨0, A_c1, 8, [], rfl, rfl, ⟨rfl, rfl, rfl, rfl, rfl, rfl, rfl, rfl, rfl, rfl, rfl, rfl, trivial⟩, S⟩ ?_
      rintro m1 e w ⟨y, A1, c1, l1, hy, hl1, hsl, S⟩
      rw [hsl.fold]
      repeat refine cw_seq ?_
      refine cw_region ?_
      refine rw_v (op_pure rfl) ?_
      first | refine rw_end ?_ | (refine rw_nil ?_; show CW _ _ _ _ _ _) | refine rw_nil ?_
      repeat refine cw_seq ?_
      refine cw_cond rfl (fun hcy => ?_) (fun hcy => ?_)
      · try simp only [decide_eq_true_eq, decide_eq_false_iff_not, beq_iff_eq, bne_iff_ne, beq_eq_false_iff_ne, bne_eq_false_iff_eq, Bool.not_eq_true', Bool.not_eq_false', ne_eq, Decidable.not_not, Int.natCast_inj, Int.ofNat_lt, Int.ofNat_le, gt_iff_lt, ge_iff_le, Int.not_lt, Int.not_le] at hcy
        repeat refine cw_seq ?_
        refine cw_skip ?_
        try show CW _ _ _ _ _ _
        repeat refine cw_seq ?_
        refine cw_block ?_
        repeat refine cw_seq ?_
        refine cw_region ?_
        refine rw_v (op_pure rfl) ?_
        refine rw_v (op_pure rfl) ?_
        first | refine rw_end ?_ | (refine rw_nil ?_; show CW _ _ _ _ _ _) | refine rw_nil ?_
        repeat refine cw_seq ?_
        refine cw_region ?_
        refine rw_v (op_pure rfl) ?_
        refine rw_v (op_pure rfl) ?_
        first | refine rw_end ?_ | (refine rw_nil ?_; show CW _ _ _ _ _ _) | refine rw_nil ?_
        repeat refine cw_seq ?_
        refine cw_block ?_
        repeat refine cw_seq ?_
        refine cw_loop (fun m e w => ∃ (x : Nat) (A1 : Option Addr) (c1 : Nat) (l1 : List RG), x + m = 4 ∧ l1.length = 4 * y + x ∧ SL e [(4, .int .i64 5), (5, .int .i64 3), (6, .pointer (some ⟨b_T, 0, none⟩)), (12, .int .i64 0), (13, .int .i64 1), (14, .int .i64 4), (15, .int .i64 2), (16, .pointer (some ⟨b_s1, 0, none⟩)), (70, .int .i64 1), (71, .int .i64 0), (92, .int .i64 2), (17, .int .i64 y), (93, .int .i64 y), (96, .int .i64 4), (97, .int .i64 x)] ∧ St No W w [.blk b_s1 114 [.int .i64 4, .slice A1 (4 * y + x) c1], .row 50 2 A1 (4 * y + x) c1 (rgsV l1), .row 114 2 A7 1 c7 [.int .i64 5, .slice A_c0 15 15], .row 50 2 A_c0 15 15 (rgsV l), .blk b_T 111 [.int .i64 5, .int .i64 3, .slice A7 1 c7]]) 4
          ⟨0, A1, c1, l1, rfl, hl1, ⟨rfl, rfl, rfl, rfl, rfl, rfl, rfl, rfl, rfl, rfl, rfl, rfl, rfl, rfl, rfl, trivial⟩, S⟩ ?_
        rintro m2 e w ⟨x, A1, c1, l1, hx, hl1, hsl, S⟩
        rw [hsl.fold]
        repeat refine cw_seq ?_
        refine cw_region ?_
        refine rw_v (op_pure rfl) ?_
        first | refine rw_end ?_ | (refine rw_nil ?_; show CW _ _ _ _ _ _) | refine rw_nil ?_
        repeat refine cw_seq ?_
        refine cw_cond rfl (fun hcx => ?_) (fun hcx => ?_)
        · try simp only [decide_eq_true_eq, decide_eq_false_iff_not, beq_iff_eq, bne_iff_ne, beq_eq_false_iff_ne, bne_eq_false_iff_eq, Bool.not_eq_true', Bool.not_eq_false', ne_eq, Decidable.not_not, Int.natCast_inj, Int.ofNat_lt, Int.ofNat_le, gt_iff_lt, ge_iff_le, Int.not_lt, Int.not_le] at hcx
          obtain ⟨ra, hra⟩ : ∃ r, l[y * 5 + x]? = some r := ⟨l[y * 5 + x]'(by omega), List.getElem?_eq_getElem (by omega)⟩
          obtain ⟨rb, hrb⟩ : ∃ r, l[(y + 0) * 5 + x + 1]? = some r := ⟨l[(y + 0) * 5 + x + 1]'(by omega), List.getElem?_eq_getElem (by omega)⟩
          obtain ⟨rc, hrc⟩ : ∃ r, l[(y + 1) * 5 + x]? = some r := ⟨l[(y + 1) * 5 + x]'(by omega), List.getElem?_eq_getElem (by omega)⟩
          obtain ⟨rd_, hrd⟩ : ∃ r, l[(y + 1 + 0) * 5 + x + 1]? = some r := ⟨l[(y + 1 + 0) * 5 + x + 1]'(by omega), List.getElem?_eq_getElem (by omega)⟩
          have ey : (y : Int) + 1 = ((y + 1 : Nat) : Int) := by push_cast; rfl
          repeat refine cw_seq ?_
          refine cw_skip ?_
          try show CW _ _ _ _ _ _
          repeat refine cw_seq ?_
          refine cw_block ?_
          repeat refine cw_seq ?_
          refine cw_region ?_
          refine rw_v (op_pure rfl) ?_
          refine rw_v (op_pure rfl) ?_
          first | refine rw_end ?_ | (refine rw_nil ?_; show CW _ _ _ _ _ _) | refine rw_nil ?_
          repeat refine cw_seq ?_
          refine cw_tri (C := (fun σ wq => CS No W [.blk b_s1 114 [.int .i64 4, .slice A1 (4 * y + x) c1], .row 50 2 A1 (4 * y + x) c1 (rgsV l1), .row 114 2 A7 1 c7 [.int .i64 5, .slice A_c0 15 15], .row 50 2 A_c0 15 15 (rgsV l), .blk b_T 111 [.int .i64 5, .int .i64 3, .slice A7 1 c7]] 1 50 2 (4 * y + x) (rgsV l1) (joinR (joinR ra rb) (joinR rc rd_)).cells wq σ)) [17, 18] [0, 1, 2, 3, 4, 5, 6, 7, 8, 9, 10, 11, 12, 13, 14, 15, 16, 17, 18] [19, 20] (by kernel_rfl) (by kernel_rfl) (S.gr (Gr.drew _)) ?_
          simp only [pickI, pickL, List.drop_succ_cons, List.drop_zero]
          refine rs_v rfl (op_fieldAddr Try.underlying114 rfl Try.sizeOf112 rfl rfl) ?_
          refine rs_r rfl (fun τ wq hq => op_loadB Try.underlying112 rfl rfl (hq.ok (j := 0) (by decide) rfl) rfl) ?_
          refine rs_v rfl (op_pure rfl) ?_
          refine rs_v rfl (op_pure rfl) ?_
          refine rs_v rfl (op_pure rfl) ?_
          refine rs_v rfl (op_pure rfl) ?_
          refine rs_v rfl (op_pure rfl) ?_
          refine rs_call rfl rfl (fun τ wq hq => (square_E b_T 1 c7 0 5 15 15 x (y) 1 0 A7 A_c0 _ _ [.int .i64 5, .slice A_c0 15 15] l ra rb wq (hq.ok (j := 4) (by decide) rfl) (Row.rd (hq.ok (j := 2) (by decide) rfl)) (by decide) rfl (Row.rd (hq.ok (j := 3) (by decide) rfl)) hl (by omega) (by omega) (by omega) (by omega) (by omega) hra hrb).mono (fun _ _ ⟨hv, hg⟩ => ⟨hv, hq.gr hg⟩)) ?_
          refine rs_v rfl (op_pure rfl) ?_
          refine rs_v rfl (op_pure rfl) ?_
          refine rs_v rfl (op_pure rfl) ?_
          refine rs_v rfl (op_pure rfl) ?_
          refine rs_v rfl (op_pure rfl) ?_
          refine rs_v rfl (op_rng rfl (by omega)) ?_
          rw [ey]
          refine rs_v rfl (op_pure rfl) ?_
          refine rs_call rfl rfl (fun τ wq hq => (square_E b_T 1 c7 0 5 15 15 x (y + 1) 1 0 A7 A_c0 _ _ [.int .i64 5, .slice A_c0 15 15] l rc rd_ wq (hq.ok (j := 4) (by decide) rfl) (Row.rd (hq.ok (j := 2) (by decide) rfl)) (by decide) rfl (Row.rd (hq.ok (j := 3) (by decide) rfl)) hl (by omega) (by omega) (by omega) (by omega) (by omega) hrc hrd).mono (fun _ _ ⟨hv, hg⟩ => ⟨hv, hq.gr hg⟩)) ?_
          refine rs_call rfl rfl (fun τ wq hq => (sjoin_E (joinR ra rb) (joinR rc rd_) wq).mono (fun _ _ ⟨hv, hg⟩ => ⟨hv, hq.gr hg⟩)) ?_
          refine rs_special rfl rfl (fun wq hq => to_buildCS hq Try.underlying112 Try.sizeOf50 Try.zeroValue50 rfl rfl rfl rfl rfl rfl) ?_
          rintro v6 w6 ⟨A6, rfl, _⟩
          refine rs_special rfl rfl (fun wq hq => to_appCS hq rfl (fun h => ⟨_, rfl⟩) Try.underlying112 info_t50 rfl rfl rfl rfl rfl rfl (by omega)) ?_
          rintro v7 w7 ⟨A10, c10, L10, rfl, _, _⟩
          refine rs_nil ?_
          rintro w8 ⟨A9_, c9_, L9_, e9_, h9_, S⟩
          cases e9_
          obtain rfl := Option.some.inj h9_
          refine rw_v (op_fieldAddr Try.underlying114 rfl Try.sizeOf112 rfl rfl) ?_
          refine rw_storeS (i := 0) S rfl (Try.sizeOf112 _) rfl rfl rfl rfl rfl rfl ?_
          intro w21_ S
          first | refine rw_end ?_ | (refine rw_nil ?_; show CW _ _ _ _ _ _) | refine rw_nil ?_
          repeat refine cw_seq ?_
          refine cw_region ?_
          refine rw_v (op_rng rfl (by omega)) ?_
          refine rw_v (op_pure rfl) ?_
          first | refine rw_end ?_ | (refine rw_nil ?_; show CW _ _ _ _ _ _) | refine rw_nil ?_
          refine ⟨m2 - 1, by omega, x + 1, A10, c10, l1 ++ [joinR (joinR ra rb) (joinR rc rd_)], by omega, by simp; omega, ⟨rfl, rfl, rfl, rfl, rfl, rfl, rfl, rfl, rfl, rfl, rfl, rfl, rfl, rfl, ie (by omega), trivial⟩, ?_⟩
          have er : rgsV (l1 ++ [joinR (joinR ra rb) (joinR rc rd_)]) = rgsV l1 ++ (joinR (joinR ra rb) (joinR rc rd_)).cells := by simp [rgsV]
          rw [er]
          exact S
        · try simp only [decide_eq_true_eq, decide_eq_false_iff_not, beq_iff_eq, bne_iff_ne, beq_eq_false_iff_ne, bne_eq_false_iff_eq, Bool.not_eq_true', Bool.not_eq_false', ne_eq, Decidable.not_not, Int.natCast_inj, Int.ofNat_lt, Int.ofNat_le, gt_iff_lt, ge_iff_le, Int.not_lt, Int.not_le] at hcx
          have hx4 : x = 4 := by omega
          subst hx4
          repeat refine cw_seq ?_
          refine cw_exit ?_
          repeat first | refine exit_then ?_ | refine exit_inb ?_
          show CW _ _ _ _ _ _
          repeat refine cw_seq ?_
          refine cw_region ?_
          refine rw_v (op_rng rfl (by omega)) ?_
          refine rw_v (op_pure rfl) ?_
          first | refine rw_end ?_ | (refine rw_nil ?_; show CW _ _ _ _ _ _) | refine rw_nil ?_
          exact ⟨m1 - 1, by omega, y + 1, A1, c1, l1, by omega, by omega, ⟨rfl, rfl, rfl, rfl, rfl, rfl, rfl, rfl, rfl, rfl, rfl, ie (by omega), trivial⟩, S⟩
      · try simp only [decide_eq_true_eq, decide_eq_false_iff_not, beq_iff_eq, bne_iff_ne, beq_eq_false_iff_ne, bne_eq_false_iff_eq, Bool.not_eq_true', Bool.not_eq_false', ne_eq, Decidable.not_not, Int.natCast_inj, Int.ofNat_lt, Int.ofNat_le, gt_iff_lt, ge_iff_le, Int.not_lt, Int.not_le] at hcy
        have hy2 : y = 2 := by omega
        subst hy2
        repeat refine cw_seq ?_
        refine cw_exit ?_
        repeat first | refine exit_then ?_ | refine exit_inb ?_
        show CW _ _ _ _ _ _
        repeat refine cw_seq ?_
        refine cw_tri (C := (fun σ wq => CS No W [.blk b_s1 114 [.int .i64 4, .slice A1 (4 * 2) c1], .row 50 2 A1 (4 * 2) c1 (rgsV l1), .row 114 2 A7 1 c7 [.int .i64 5, .slice A_c0 15 15], .row 50 2 A_c0 15 15 (rgsV l), .blk b_T 111 [.int .i64 5, .int .i64 3, .slice A7 1 c7]] 2 114 2 1 [.int .i64 5, .slice A_c0 15 15] [.int .i64 4, .slice A1 (4 * 2) c1] wq σ)) [6, 7] [0, 1, 2, 3, 4, 5, 6, 7] [8, 9, 10] (by kernel_rfl) (by kernel_rfl) (S.gr (Gr.drew _)) ?_
        simp only [pickI, pickL, List.drop_succ_cons, List.drop_zero]
        refine rs_v rfl (op_pure rfl) ?_
        refine rs_v rfl (op_pure rfl) ?_
        refine rs_v rfl (op_pure rfl) ?_
        refine rs_v rfl (op_fieldAddr Try.underlying111 rfl Try.sizeOf109 rfl rfl) ?_
        refine rs_r rfl (fun τ wq hq => op_loadB Try.underlying109 rfl rfl (hq.ok (j := 4) (by decide) rfl) rfl) ?_
        refine rs_r rfl (fun τ wq hq => op_loadAB Try.underlying114 rfl (Try.sizeOf114 _) rfl (hq.ok (j := 0) (by decide) rfl) rfl rfl) ?_
        refine rs_special rfl rfl (fun wq hq => to_buildCS hq Try.underlying109 Try.sizeOf114 Try.zeroValue114 rfl rfl rfl rfl rfl rfl) ?_
        rintro v6 w6 ⟨A6, rfl, _⟩
        refine rs_special rfl rfl (fun wq hq => to_appCS hq rfl (fun h => ⟨_, rfl⟩) Try.underlying109 info_t114 rfl rfl rfl rfl rfl rfl (by omega)) ?_
        rintro v7 w7 ⟨A10, c10, L10, rfl, _, _⟩
        refine rs_nil ?_
        rintro w8 ⟨A9_, c9_, L9_, e9_, h9_, S⟩
        cases e9_
        obtain rfl := Option.some.inj h9_
        refine rw_v (op_pure rfl) ?_
        refine rw_v (op_fieldAddr Try.underlying111 rfl Try.sizeOf109 rfl rfl) ?_
        refine rw_storeS (i := 4) S rfl (Try.sizeOf109 _) rfl rfl rfl rfl rfl rfl ?_
        intro w23_ S
        first | refine rw_end ?_ | (refine rw_nil ?_; show CW _ _ _ _ _ _) | refine rw_nil ?_
        repeat refine cw_seq ?_
        refine cw_region ?_
        refine rw_v (op_rng rfl (by omega)) ?_
        refine rw_v (op_pure rfl) ?_
        first | refine rw_end ?_ | (refine rw_nil ?_; show CW _ _ _ _ _ _) | refine rw_nil ?_
        have S := S.sub (.cons _ (.cons_cons _ (.cons_cons _ (.cons _ (.cons_cons _ (.slnil))))))
        exact ⟨m - 1, by omega, 1, by omega, ⟨rfl, rfl, rfl, rfl, rfl, trivial⟩, .inr ⟨rfl, A10, c10, A1, c1, l1, hl1, S⟩⟩
    · try simp only [decide_eq_true_eq, decide_eq_false_iff_not, beq_iff_eq, bne_iff_ne, beq_eq_false_iff_ne, bne_eq_false_iff_eq, Bool.not_eq_true', Bool.not_eq_false', ne_eq, Decidable.not_not, Int.natCast_inj, Int.ofNat_lt, Int.ofNat_le, gt_iff_lt, ge_iff_le, Int.not_lt, Int.not_le] at hc
      obtain ⟨A2, c2, A_c1, c_c1, l1, hl1, S⟩ := (hS.resolve_left (fun h => by omega)).2
      repeat refine cw_seq ?_
      refine cw_exit ?_
      repeat first | refine exit_then ?_ | refine exit_inb ?_
      show CW _ _ _ _ _ _
      repeat refine cw_seq ?_
      refine cw_region ?_
      refine rw_v (op_pure rfl) ?_
      refine rw_v (op_pure rfl) ?_
      refine rw_v (op_pure rfl) ?_
      first | refine rw_end ?_ | (refine rw_nil ?_; show CW _ _ _ _ _ _) | refine rw_nil ?_
      repeat refine cw_seq ?_
      refine cw_ret ?_
      repeat first | refine ret_then ?_ | refine ret_inb ?_
      exact res2 rfl rfl ⟨b_T, A2, c2, A_c0, 15, A_c1, c_c1, l, l1, rfl, S.blk (i := 2) rfl, (S.row (i := 1) rfl).rd, hl1, (S.row (i := 0) rfl).rd, S.out⟩
end
