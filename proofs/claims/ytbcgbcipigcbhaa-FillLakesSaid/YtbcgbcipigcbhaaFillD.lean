/- fill.of: the levels of a grid, from its borders inwards. -/
import Derived.Test.YtbcgbcipigcbhaaFillB
import Derived.Test.YtbcgbcipigcbhaaSwap
import Derived.Test.YtbcgbcipigcbhaaRouteA
namespace Go.Proofs.Ytbcgbcipigcbhaa
open Go.RowKit
set_option linter.unusedVariables false
set_option linter.unusedSimpArgs false
set_option maxRecDepth 100000

theorem SepL.permD {X : Nat → Prop} {w : World} {L L' : List HA} (p : L.Perm L') : SepL X w L → SepL X w L' := by
  induction p with
  | nil => exact id
  | cons a p ih => exact fun h => ⟨h.1, fun g hg h' hh => h.2.1 g hg h' (p.mem_iff.2 hh), ih h.2.2⟩
  | swap a b l =>
    intro h
    refine ⟨h.2.2.1, fun g hg h' hh => ?_, h.1, fun g hg h' hh => h.2.1 g hg h' (List.mem_cons_of_mem _ hh), h.2.2.2.2⟩
    rcases List.mem_cons.1 hh with e | hh
    · subst e; exact fun ho => h.2.1 g ho a List.mem_cons_self hg
    · exact h.2.2.2.1 g hg h' hh
  | trans _ _ ih1 ih2 => exact fun h => ih2 (ih1 h)
theorem St.permD {F : Nat → Prop} {W w : World} {L L' : List HA} (S : St F W w L) (p : L.Perm L') : St F W w L' := ⟨S.fr, S.sep.permD p⟩
theorem perm_twoD {α : Type} (a b c d : α) (L : List α) : (a :: b :: c :: d :: L).Perm (c :: d :: a :: b :: L) :=
  (List.perm_append_comm (l₁ := [a, b]) (l₂ := [c, d])).append_right L

theorem Mt.head {T : Nat → Value → HA → Prop} {k : Nat} {v : Value} {σ : List (Nat × Value)} {Ps : List HA} (h : Mt T ((k, v) :: σ) Ps) : ∃ x Ps', Ps = x :: Ps' ∧ T k v x ∧ Mt T σ Ps' := by
  cases Ps with
  | nil => exact h.elim
  | cons x Ps' => exact ⟨x, Ps', rfl, h.1, h.2⟩
theorem Mt.nil_ {T : Nat → Value → HA → Prop} {Ps : List HA} (h : Mt T [] Ps) : Ps = [] := by
  cases Ps with
  | nil => rfl
  | cons x Ps' => exact h.elim
def RetFill (gw gh : Nat) (V : List Int) (lv : Nat → Int) (W : World) (v : Value) (w' : World) : Prop :=
  ∃ (q : Nat) (sq : Value) (Al : Option Addr) (cl : Nat) (Ak : Option Addr) (ck : Nat) (Av : Option Addr) (cv : Nat), v = .tuple #[.pointer (some ⟨q, 0, none⟩), .int .i64 0] ∧
    St No W w' [.blk q 106 [.int .i64 gw, .slice Av (gw * gh) cv, .slice Al (gw * gh) cl, .slice Ak (gw * gh) ck, sq], .row 2 1 Al (gw * gh) cl (cellsQ (gw * gh) lv), .row 2 1 Av (gw * gh) cv (ints V)]
section
variable {W : World} {A : Option Addr} {p gw gh cap : Nat} {cc : Nat → Int} {bs : Nat → Nat} {Rs : Nat → Option Nat}
set_option maxHeartbeats 8000000 in
theorem fof_E (hG : GridAt W p gw gh cc A cap bs Rs) : Fn Try.prog 62 [.pointer (some ⟨p, 0, none⟩)] W (fun v w' => ∃ lv rk, IsLev gw gh (gridL gw gh cc) lv rk ∧ RetFill gw gh (gridL gw gh cc) lv W v w') := by
  have hw := hG.sw
  have hh := hG.sh
  have hgw : 1 ≤ gw ∧ gw ≤ 1048576 := ⟨hw.1, by omega⟩
  have hn : gw * gh ≤ 1024 * 1024 := Nat.mul_le_mul hw.2 hh.2
  have hpos : 1 ≤ gw * gh := Nat.mul_le_mul hw.1 hh.1
  have hV := gridL_len gw gh cc
  have e1 : ((gw : Int) - 1) = ((gw - 1 : Nat) : Int) := by omega
  have e2 : ((gh : Int) - 1) = ((gh - 1 : Nat) : Int) := by omega
  have eneg : 0 - (gw : Int) = -(gw : Int) := by omega
  have hval : ∀ w, Gr W w → Fn Try.prog 43 [.pointer (some ⟨p, 0, none⟩), .agg #[.int .i64 0, .int .i64 0, .int .i64 (gw - 1), .int .i64 (gh - 1)]] w (RetNew (fun v => .tuple #[v, .int .i64 0]) 2 1 (gw * gh) (ints (gridL gw gh cc)) w) := fun w g => by
    have := gvalues_E (W := w) 0 0 (gw - 1) (gh - 1) (by omega) (by omega) (hG.gr g)
    rw [← e1, ← e2, show gw - 1 + 1 - 0 = gw by omega, show gh - 1 + 1 - 0 = gh by omega, rectV_all, Nat.mul_comm gh gw] at this
    exact this
  have S := St.start W
  refine Fn_enter Try.func62 rfl Try.results62 Try.ntmps62 (by kernel_rfl) (by kernel_rfl) ?_
  repeat refine cw_seq ?_
  refine cw_region ?_
  iterate 2 refine rw_v (op_pure rfl) ?_
  first | refine rw_end ?_ | (refine rw_nil ?_; show CW _ _ _ _ _ _) | refine rw_nil ?_
  repeat refine cw_seq ?_
  refine cw_region ?_
  iterate 2 refine rw_v (op_pure rfl) ?_
  refine rw_call rfl (gall_E p gw gh hw.2 hh.2 _ W (hG.top.gr S.out)) ?_
  rintro _ w1_ ⟨rfl, g1_⟩
  have S := S.gr g1_
  refine rw_call rfl (hval w1_ S.out) ?_
  rintro _ w2_ ⟨A_v, c_v, rfl, hR_v, hf_v, g2_⟩
  have S := S.pushRow hR_v hf_v g2_
  iterate 5 refine rw_v (op_pure rfl) ?_
  first | refine rw_end ?_ | (refine rw_nil ?_; show CW _ _ _ _ _ _) | refine rw_nil ?_
  repeat refine cw_seq ?_
  refine cw_region ?_
  refine rw_v (op_pure rfl) ?_
  refine rw_v (op_b (b := false) rfl (bne_eq_false_iff_eq.2 (by omega))) ?_
  first | refine rw_end ?_ | (refine rw_nil ?_; show CW _ _ _ _ _ _) | refine rw_nil ?_
  repeat refine cw_seq ?_
  refine cw_false rfl ?_
  repeat refine cw_seq ?_
  refine cw_skip ?_
  try show CW _ _ _ _ _ _
  repeat refine cw_seq ?_
  refine cw_region ?_
  refine rw_v (op_pure rfl) ?_
  refine rw_call rfl (gsize_E p gw gh _ w2_ (hG.top.gr S.out)) ?_
  rintro _ w3_ ⟨rfl, g3_⟩
  have S := S.gr g3_
  iterate 5 refine rw_v (op_pure rfl) ?_
  first | refine rw_end ?_ | (refine rw_nil ?_; show CW _ _ _ _ _ _) | refine rw_nil ?_
  generalize gridL gw gh cc = V at *
  repeat refine cw_seq ?_
  refine cw_cutT (M := fun e w => ∃ (q : Nat) (A_lv A_kn : Option Addr), SL e [(4, .slice A_v (gw * gh) c_v), (8, .pointer (some ⟨q, 0, none⟩))] ∧ St No W w [.blk q 106 [.int .i64 gw, .slice A_v (gw * gh) c_v, .slice A_lv (gw * gh) (gw * gh), .slice A_kn (gw * gh) (gw * gh), .slice none 0 0], .row 2 1 A_lv (gw * gh) (gw * gh) (List.replicate (gw * gh) (.int .i64 0)), .row 4 1 A_kn (gw * gh) (gw * gh) (List.replicate (gw * gh) (.bool false)), .row 2 1 A_v (gw * gh) c_v (ints V)]) ?_ ?_
  · skip
    repeat refine cw_seq ?_
    refine TI.cw_tree (C := (CM No W [.row 2 1 A_v (gw * gh) c_v (ints V)] (fun k v h => ∃ A, SomeA A ∧ v = .slice A (gw * gh) (gw * gh) ∧ h = (if k = 4 then .row 2 1 A (gw * gh) (gw * gh) (List.replicate (gw * gh) (.int .i64 0)) else .row 4 1 A (gw * gh) (gw * gh) (List.replicate (gw * gh) (.bool false)))))) [4, 7] (.one 0 (.one 1 (.one 2 (.one 3 (.one 5 (.one 6 (.two 4 (.one 7 .nil) 7 (.one 4 .nil)))))))) [8, 9, 10] (by kernel_rfl) (by kernel_rfl) (CM.start (S.gr (Gr.drew _))) ?_
    simp only [pickO, pickL, List.drop_succ_cons, List.drop_zero]
    refine TI.ro_one ?_
    refine TI.rs_v rfl (op_pure rfl) ?_
    refine TI.rs_nil ?_
    refine TI.ro_one ?_
    refine TI.rs_v rfl (op_pure rfl) ?_
    refine TI.rs_nil ?_
    refine TI.ro_one ?_
    refine TI.rs_v rfl (op_pure rfl) ?_
    refine TI.rs_nil ?_
    refine TI.ro_one ?_
    refine TI.rs_v rfl (op_len Try.underlying22 rfl) ?_
    refine TI.rs_nil ?_
    refine TI.ro_one ?_
    refine TI.rs_v rfl (op_pure rfl) ?_
    refine TI.rs_nil ?_
    refine TI.ro_one ?_
    refine TI.rs_v rfl (op_len Try.underlying22 rfl) ?_
    refine TI.rs_nil ?_
    refine TI.ro_two ?_ ?_
    · refine TI.rs_special rfl rfl (fun wq hq => to_makeCM1 (i := 4) hq Try.underlying22 info_t2 rfl rfl rfl (n := gw * gh) (c := gw * gh) rfl rfl (Nat.le_refl _) (by omega) (fun A sa => ⟨A, sa, rfl, rfl⟩)) ?_
      rintro v4 w4 ⟨Ps4, hm4, _⟩
      obtain ⟨_, _, _, ⟨A4, sa4, rfl, _⟩, _⟩ := hm4.head
      refine TI.rs_nil ?_
      refine TI.ro_one ?_
      refine TI.rs_special rfl rfl (fun wq hq => to_makeCM1 (i := 7) hq Try.underlying86 info_t4 rfl rfl rfl (n := gw * gh) (c := gw * gh) rfl rfl (Nat.le_refl _) (by omega) (fun A sa => ⟨A, sa, rfl, rfl⟩)) ?_
      rintro v7 w7 ⟨Ps7, hm7, _⟩
      obtain ⟨_, _, _, ⟨A7, sa7, rfl, _⟩, _⟩ := hm7.head
      refine TI.rs_nil ?_
      refine TI.ro_nil ?_
      rintro wz ⟨Ps, hmt, S⟩
      obtain ⟨h1, P1, rfl, ⟨B1, sb1, f1, rfl⟩, m1⟩ := hmt.head
      obtain ⟨h2, P2, rfl, ⟨B2, sb2, f2, rfl⟩, m2⟩ := m1.head
      obtain rfl := m2.nil_
      cases f1
      cases f2
      have S := S.swap
      refine rw_v (op_build (pl := [(0, 1), (1, 1), (2, 1), (3, 1), (4, 1)]) Try.underlying106 Try.zeroValue106 (fun w => by kernel_rfl) rfl rfl) ?_
      refine rw_newB (op_box rfl) S ?_
      intro b_q w6_ g6_ S
      refine rw_v (op_pure rfl) ?_
      first | refine rw_end ?_ | (refine rw_nil ?_; show CW _ _ _ _ _ _) | refine rw_nil ?_
      exact ⟨_, _, _, ⟨rfl, rfl, trivial⟩, S⟩
    · refine TI.rs_special rfl rfl (fun wq hq => to_makeCM1 (i := 7) hq Try.underlying86 info_t4 rfl rfl rfl (n := gw * gh) (c := gw * gh) rfl rfl (Nat.le_refl _) (by omega) (fun A sa => ⟨A, sa, rfl, rfl⟩)) ?_
      rintro v7 w7 ⟨Ps7, hm7, _⟩
      obtain ⟨_, _, _, ⟨A7, sa7, rfl, _⟩, _⟩ := hm7.head
      refine TI.rs_nil ?_
      refine TI.ro_one ?_
      refine TI.rs_special rfl rfl (fun wq hq => to_makeCM1 (i := 4) hq Try.underlying22 info_t2 rfl rfl rfl (n := gw * gh) (c := gw * gh) rfl rfl (Nat.le_refl _) (by omega) (fun A sa => ⟨A, sa, rfl, rfl⟩)) ?_
      rintro v4 w4 ⟨Ps4, hm4, _⟩
      obtain ⟨_, _, _, ⟨A4, sa4, rfl, _⟩, _⟩ := hm4.head
      refine TI.rs_nil ?_
      refine TI.ro_nil ?_
      rintro wz ⟨Ps, hmt, S⟩
      obtain ⟨h1, P1, rfl, ⟨B1, sb1, f1, rfl⟩, m1⟩ := hmt.head
      obtain ⟨h2, P2, rfl, ⟨B2, sb2, f2, rfl⟩, m2⟩ := m1.head
      obtain rfl := m2.nil_
      cases f1
      cases f2
      refine rw_v (op_build (pl := [(0, 1), (1, 1), (2, 1), (3, 1), (4, 1)]) Try.underlying106 Try.zeroValue106 (fun w => by kernel_rfl) rfl rfl) ?_
      refine rw_newB (op_box rfl) S ?_
      intro b_q w9_ g9_ S
      refine rw_v (op_pure rfl) ?_
      first | refine rw_end ?_ | (refine rw_nil ?_; show CW _ _ _ _ _ _) | refine rw_nil ?_
      exact ⟨_, _, _, ⟨rfl, rfl, trivial⟩, S⟩
  · rintro e5 w5 ⟨q, A_lv, A_kn, hsl, S⟩
    rw [hsl.fold]
    have sa_v : SomeA A_v := (S.row (i := 3) rfl).someA (by omega)
    rw [cellsQ_zero, boolsV_zero] at S
    have hQ0 : FQ No W [] q gw (gw * gh) A_v c_v A_lv (gw * gh) A_kn (gw * gh) V (fun _ => 0) (fun _ => false) [] w5 := shore.QH.mk (A := none) (c := 0) (n := 0) rfl (by omega) ((S.pushNil 187 2).swap)
    repeat refine cw_seq ?_
    refine cw_region ?_
    refine rw_v (op_pure rfl) ?_
    refine rw_v (op_len Try.underlying22 rfl) ?_
    refine rw_v (op_pure rfl) ?_
    first | refine rw_end ?_ | (refine rw_nil ?_; show CW _ _ _ _ _ _) | refine rw_nil ?_
    repeat refine cw_seq ?_
    refine cw_block ?_
    repeat refine cw_seq ?_
    refine cw_loop (fun m e w => ∃ (k : Nat) (lv : Nat → Int) (kn : Nat → Bool) (rk : Nat → Nat) (l : List Job), k + m = gw * gh ∧ l.length ≤ k ∧ SL e [(4, .slice A_v (gw * gh) c_v), (8, .pointer (some ⟨q, 0, none⟩)), (41, .int .i64 (gw * gh : Nat)), (42, .int .i64 k)] ∧
      HeapN l l.length ∧ FB gw gh V k kn lv rk l ∧ FQ No W [] q gw (gw * gh) A_v c_v A_lv (gw * gh) A_kn (gw * gh) V lv kn l w) (gw * gh)
      ⟨0, fun _ => 0, fun _ => false, fun _ => 0, [], by omega, by simp, ⟨rfl, rfl, rfl, rfl, trivial⟩, fun k h0 h1 => by simp at h1, FB.start, hQ0⟩ ?_
    clear S hQ0
    rintro m e w ⟨k, lv, kn, rk, l, hk, hll, hsl, hN, hF, hQ⟩
    rw [hsl.fold]
    obtain ⟨hls, A_R, c_R, S⟩ := hQ
    repeat refine cw_seq ?_
    refine cw_region ?_
    refine rw_v (op_pure rfl) ?_
    first | refine rw_end ?_ | (refine rw_nil ?_; show CW _ _ _ _ _ _) | refine rw_nil ?_
    repeat refine cw_seq ?_
    refine cw_cond rfl (fun hc => ?_) (fun hc => ?_)
    · try simp only [decide_eq_true_eq, decide_eq_false_iff_not, beq_iff_eq, bne_iff_ne, beq_eq_false_iff_ne, bne_eq_false_iff_eq, Bool.not_eq_true', Bool.not_eq_false', ne_eq, Decidable.not_not, Int.natCast_inj, Int.ofNat_lt, Int.ofNat_le, gt_iff_lt, ge_iff_le, Int.not_lt, Int.not_le] at hc
      have hkn' : k < gw * gh := by omega
      cases hb : bordB gw (gw * gh) k with
      | false =>
        repeat refine cw_seq ?_
        refine cw_skip ?_
        try show CW _ _ _ _ _ _
        repeat refine cw_seq ?_
        refine cw_block ?_
        repeat refine cw_seq ?_
        refine cw_region ?_
        iterate 2 refine rw_v (op_pure rfl) ?_
        first | refine rw_end ?_ | (refine rw_nil ?_; show CW _ _ _ _ _ _) | refine rw_nil ?_
        repeat refine cw_seq ?_
        refine cw_region ?_
        iterate 2 refine rw_v (op_pure rfl) ?_
        refine rw_call rfl (border_E k hgw (by omega) (by omega) (S.blk (i := 0) rfl)) ?_
        rintro _ w10_ ⟨rfl, g10_⟩
        have S := S.gr g10_
        rw [hb]
        first | refine rw_end ?_ | (refine rw_nil ?_; show CW _ _ _ _ _ _) | refine rw_nil ?_
        repeat refine cw_seq ?_
        refine cw_false rfl ?_
        repeat refine cw_seq ?_
        refine cw_skip ?_
        try show CW _ _ _ _ _ _
        repeat refine cw_seq ?_
        refine cw_region ?_
        refine rw_v (op_rng rfl (by omega)) ?_
        refine rw_v (op_pure rfl) ?_
        first | refine rw_end ?_ | (refine rw_nil ?_; show CW _ _ _ _ _ _) | refine rw_nil ?_
        exact ⟨m - 1, by omega, k + 1, lv, kn, rk, l, by omega, by omega, ⟨rfl, rfl, rfl, ie (by omega), trivial⟩, hN, hF.pass hkn' hb, hls, A_R, c_R, S⟩
      | true =>
        have hkk : kn k = false := by
          cases e : kn k with
          | false => rfl
          | true => have := ((hF.is k hkn').1 e).1; omega
        have hmx : max (V.getD k 0) (V.getD k 0) = V.getD k 0 := by omega
        have hvget : (ints V)[(k : Int).toNat * 1]? = some (.int .i64 (V.getD k 0)) := by rw [Nat.mul_one, Int.toNat_natCast]; exact ints_get (getD_at (by omega))
        repeat refine cw_seq ?_
        refine cw_skip ?_
        try show CW _ _ _ _ _ _
        repeat refine cw_seq ?_
        refine cw_block ?_
        repeat refine cw_seq ?_
        refine cw_region ?_
        iterate 2 refine rw_v (op_pure rfl) ?_
        first | refine rw_end ?_ | (refine rw_nil ?_; show CW _ _ _ _ _ _) | refine rw_nil ?_
        repeat refine cw_seq ?_
        refine cw_region ?_
        iterate 2 refine rw_v (op_pure rfl) ?_
        refine rw_call rfl (border_E k hgw (by omega) (by omega) (S.blk (i := 0) rfl)) ?_
        rintro _ w11_ ⟨rfl, g11_⟩
        have S := S.gr g11_
        rw [hb]
        first | refine rw_end ?_ | (refine rw_nil ?_; show CW _ _ _ _ _ _) | refine rw_nil ?_
        repeat refine cw_seq ?_
        refine cw_true rfl ?_
        repeat refine cw_seq ?_
        refine cw_region ?_
        iterate 4 refine rw_v (op_pure rfl) ?_
        refine rw_v (op_idx Try.underlying22 Try.sizeOf2 rfl rfl sa_v (by omega) (by omega)) ?_
        refine rw_r (op_ldR Try.underlying2 rfl rfl (S.rd (i := 4) rfl) hvget) ?_
        refine rw_call rfl (reachNew_E k (V.getD k 0) hkn' hV hkk hN (by omega) ⟨hls, A_R, c_R, S⟩) ?_
        rintro _ w10 ⟨rfl, l', h1, h2, h3, hQ'⟩
        first | refine rw_end ?_ | (refine rw_nil ?_; show CW _ _ _ _ _ _) | refine rw_nil ?_
        repeat refine cw_seq ?_
        refine cw_region ?_
        refine rw_v (op_rng rfl (by omega)) ?_
        refine rw_v (op_pure rfl) ?_
        first | refine rw_end ?_ | (refine rw_nil ?_; show CW _ _ _ _ _ _) | refine rw_nil ?_
        rw [hmx] at hQ'
        simp only [hmx] at h2
        exact ⟨m - 1, by omega, k + 1, _, _, _, l', by omega, by omega, ⟨rfl, rfl, rfl, ie (by omega), trivial⟩, h3, (hF.lay hkn' hb h2).2, hQ'⟩
    · try simp only [decide_eq_true_eq, decide_eq_false_iff_not, beq_iff_eq, bne_iff_ne, beq_eq_false_iff_ne, bne_eq_false_iff_eq, Bool.not_eq_true', Bool.not_eq_false', ne_eq, Decidable.not_not, Int.natCast_inj, Int.ofNat_lt, Int.ofNat_le, gt_iff_lt, ge_iff_le, Int.not_lt, Int.not_le] at hc
      obtain rfl : k = gw * gh := by omega
      have hbr0 : ∀ i, i < gw * gh → bordB gw (gw * gh) i = true → kn i = true := fun i hi hb => (hF.is i hi).2 ⟨hi, hb⟩
      repeat refine cw_seq ?_
      refine cw_exit ?_
      repeat first | refine exit_then ?_ | refine exit_inb ?_
      show CW _ _ _ _ _ _
      repeat refine cw_seq ?_
      refine cw_block ?_
      repeat refine cw_seq ?_
      refine cw_loop (fun m e w => ∃ (lv : Nat → Int) (kn : Nat → Bool) (rk : Nat → Nat) (l : List Job), 2 * (gw * gh - cntB (gw * gh) kn) + l.length = m ∧ m ≤ 3 * (gw * gh) ∧ SL e [(8, .pointer (some ⟨q, 0, none⟩))] ∧
        HeapN l l.length ∧ FL gw gh V kn lv rk l (fun _ _ => False) ∧ (∀ i, i < gw * gh → bordB gw (gw * gh) i = true → kn i = true) ∧ FQ No W [] q gw (gw * gh) A_v c_v A_lv (gw * gh) A_kn (gw * gh) V lv kn l w) (2 * (gw * gh - cntB (gw * gh) kn) + l.length)
        ⟨lv, kn, rk, l, rfl, by omega, ⟨rfl, trivial⟩, hN, hF.fl, hbr0, hls, A_R, c_R, S⟩ ?_
      clear S hbr0 hF hN hls hll
      rintro m e w ⟨lv, kn, rk, l, hm, hmb, hsl, hN, hF, hbr, hQ⟩
      rw [hsl.fold]
      obtain ⟨hls, A_R, c_R, S⟩ := hQ
      repeat refine cw_seq ?_
      refine cw_region ?_
      iterate 2 refine rw_v (op_pure rfl) ?_
      refine rw_v (op_fieldAddr Try.underlying106 rfl Try.sizeOf104 rfl rfl) ?_
      refine rw_r (op_loadB Try.underlying104 rfl rfl (S.blk (i := 0) rfl) rfl) ?_
      refine rw_call rfl (shore.dlen_E A_R l.length c_R w) ?_
      rintro _ w12_ ⟨rfl, g12_⟩
      have S := S.gr g12_
      refine rw_v (op_pure rfl) ?_
      first | refine rw_end ?_ | (refine rw_nil ?_; show CW _ _ _ _ _ _) | refine rw_nil ?_
      repeat refine cw_seq ?_
      refine cw_cond rfl (fun hc2 => ?_) (fun hc2 => ?_)
      · try simp only [decide_eq_true_eq, decide_eq_false_iff_not, beq_iff_eq, bne_iff_ne, beq_eq_false_iff_ne, bne_eq_false_iff_eq, Bool.not_eq_true', Bool.not_eq_false', ne_eq, Decidable.not_not, Int.natCast_inj, Int.ofNat_lt, Int.ofNat_le, gt_iff_lt, ge_iff_le, Int.not_lt, Int.not_le] at hc2
        have hl0 : 0 < l.length := by omega
        repeat refine cw_seq ?_
        refine cw_skip ?_
        try show CW _ _ _ _ _ _
        repeat refine cw_seq ?_
        refine cw_block ?_
        repeat refine cw_seq ?_
        refine cw_region ?_
        iterate 2 refine rw_v (op_pure rfl) ?_
        refine rw_v (op_fieldAddr Try.underlying106 rfl Try.sizeOf104 rfl rfl) ?_
        refine rw_v (op_iface Try.underlying189 rfl rfl) ?_
        refine rw_call rfl (hpop_E shore.qops l _ hN hl0 ⟨hls, A_R, c_R, S⟩) ?_
        rintro _ w9 ⟨x, l', rfl, hlen, hmem, hmin, hN', hQ'⟩
        obtain ⟨hls', A_R', c_R', S⟩ := hQ'
        have hF2 : FL gw gh V kn lv rk (x :: l') (fun _ _ => False) := hF.perm (fun y => by rw [List.mem_cons]; exact (hmem y).symm)
        obtain ⟨hxlt, hxk, hxc⟩ := hF2.ent x List.mem_cons_self
        obtain ⟨xc, xa⟩ := x
        dsimp only at hxlt hxk hxc hmin hmem
        refine rw_v (op_assert1 Try.underlying187 rfl rfl rfl) ?_
        refine rw_newB (op_alloc Try.zeroValue187 rfl) S ?_
        intro b_s w14_ g14_ S
        refine rw_storeSA (i := 0) S rfl (Try.sizeOf187 _) rfl rfl rfl rfl rfl rfl ?_
        intro w15_ S
        first | refine rw_end ?_ | (refine rw_nil ?_; show CW _ _ _ _ _ _) | refine rw_nil ?_
        repeat refine cw_seq ?_
        refine cw_cutT (M := fun e w => SL e [(8, .pointer (some ⟨q, 0, none⟩)), (10, .pointer (some ⟨b_s, 0, none⟩)), (78, .bool (bordB gw (gw * gh) xa && !innB gw (gw * gh) xa))] ∧ St No W w [.blk b_s 187 [.int .i64 xc, .int .i64 xa], .blk q 106 [.int .i64 gw, .slice A_v (gw * gh) c_v, .slice A_lv (gw * gh) (gw * gh), .slice A_kn (gw * gh) (gw * gh), .slice A_R' l'.length c_R'], .row 187 2 A_R' l'.length c_R' (jobsV l'), .row 2 1 A_lv (gw * gh) (gw * gh) (cellsQ (gw * gh) lv), .row 4 1 A_kn (gw * gh) (gw * gh) (boolsV (gw * gh) kn), .row 2 1 A_v (gw * gh) c_v (ints V)]) ?_ ?_
        · cases hb : bordB gw (gw * gh) xa with
          | false =>
            repeat refine cw_seq ?_
            refine cw_region ?_
            refine rw_v (op_pure rfl) ?_
            refine rw_v (op_fieldAddr Try.underlying187 rfl Try.sizeOf3 rfl rfl) ?_
            refine rw_r (op_loadB Try.underlying3 rfl rfl (S.blk (i := 0) rfl) rfl) ?_
            refine rw_call rfl (border_E xa hgw (by omega) (by omega) (S.blk (i := 1) rfl)) ?_
            rintro _ w16_ ⟨rfl, g16_⟩
            have S := S.gr g16_
            rw [hb]
            refine rw_v (op_pure rfl) ?_
            first | refine rw_off rfl ?_ | (refine rw_on rfl ?_; refine rw_v (op_pure rfl) ?_)
            first | refine rw_off rfl ?_ | (refine rw_on rfl ?_; refine rw_v (op_fieldAddr Try.underlying187 rfl Try.sizeOf3 rfl rfl) ?_)
            first | refine rw_off rfl ?_ | (refine rw_on rfl ?_; refine rw_r (op_loadB Try.underlying3 rfl rfl (S.blk (i := 0) rfl) rfl) ?_)
            refine rw_off rfl ?_
            first | refine rw_off rfl ?_ | (refine rw_on rfl ?_; refine rw_v (op_pure rfl) ?_)
            refine rw_v (op_pure rfl) ?_
            first | refine rw_end ?_ | (refine rw_nil ?_; show CW _ _ _ _ _ _) | refine rw_nil ?_
            exact ⟨⟨rfl, rfl, rfl, trivial⟩, S⟩
          | true =>
            repeat refine cw_seq ?_
            refine cw_region ?_
            refine rw_v (op_pure rfl) ?_
            refine rw_v (op_fieldAddr Try.underlying187 rfl Try.sizeOf3 rfl rfl) ?_
            refine rw_r (op_loadB Try.underlying3 rfl rfl (S.blk (i := 0) rfl) rfl) ?_
            refine rw_call rfl (border_E xa hgw (by omega) (by omega) (S.blk (i := 1) rfl)) ?_
            rintro _ w17_ ⟨rfl, g17_⟩
            have S := S.gr g17_
            rw [hb]
            refine rw_v (op_pure rfl) ?_
            first | refine rw_off rfl ?_ | (refine rw_on rfl ?_; refine rw_v (op_pure rfl) ?_)
            first | refine rw_off rfl ?_ | (refine rw_on rfl ?_; refine rw_v (op_fieldAddr Try.underlying187 rfl Try.sizeOf3 rfl rfl) ?_)
            first | refine rw_off rfl ?_ | (refine rw_on rfl ?_; refine rw_r (op_loadB Try.underlying3 rfl rfl (S.blk (i := 0) rfl) rfl) ?_)
            refine rw_on rfl ?_
            refine rw_call rfl (inner45_E (gh := gh) xa hgw rfl hxlt (by omega) (S.blk (i := 1) rfl)) ?_
            rintro _ w18_ ⟨rfl, g18_⟩
            have S := S.gr g18_
            first | refine rw_off rfl ?_ | (refine rw_on rfl ?_; refine rw_v (op_pure rfl) ?_)
            refine rw_v (op_pure rfl) ?_
            first | refine rw_end ?_ | (refine rw_nil ?_; show CW _ _ _ _ _ _) | refine rw_nil ?_
            exact ⟨⟨rfl, rfl, rfl, trivial⟩, S⟩
        · rintro e14 w14 ⟨hsl, S⟩
          rw [hsl.fold]
          cases hsk : (bordB gw (gw * gh) xa && !innB gw (gw * gh) xa) with
          | true =>
            simp only [Bool.and_eq_true, Bool.not_eq_true'] at hsk
            have hM := hF2.take (todo := []) hbr hmin (fun j hj s hjk => by
              exfalso
              cases hbj : bordB gw (gw * gh) j with
              | true => rw [hbr j hj hbj] at hjk; cases hjk
              | false =>
                have g1 : gw ≠ 1 := fun e => by rw [bord_one e] at hbj; cases hbj
                obtain ⟨k, hk4, hok, hnb⟩ := side_ok (by omega) hxlt hj s g1
                have := innB_true hk4 (show innF gw (gw * gh) xa k = true by unfold innF; rw [hok, hnb, hbj]; rfl)
                rw [hsk.2] at this; cases this)
            repeat refine cw_seq ?_
            refine cw_true rfl ?_
            repeat refine cw_seq ?_
            refine cw_exit ?_
            repeat first | refine exit_then ?_ | refine exit_inb ?_
            exact ⟨_, by omega, lv, kn, rk, l', rfl, by omega, ⟨rfl, trivial⟩, hN', hM.done, hbr, hls', A_R', c_R', S.drop 1⟩
          | false =>
            have hM := hF2.take (todo := todoS gw (gw * gh) xa 0) hbr hmin (fun j hj s hjk => by
              cases hbj : bordB gw (gw * gh) j with
              | true => rw [hbr j hj hbj] at hjk; cases hjk
              | false =>
                have g1 : gw ≠ 1 := fun e => by rw [bord_one e] at hbj; cases hbj
                obtain ⟨k, hk4, hok, hnb⟩ := side_ok (by omega) hxlt hj s g1
                exact mem_todo hk4 hok hnb)
            repeat refine cw_seq ?_
            refine cw_false rfl ?_
            repeat refine cw_seq ?_
            refine cw_skip ?_
            try show CW _ _ _ _ _ _
            repeat refine cw_seq ?_
            refine cw_draw (C := fun wq => Gr w14 wq) [0, 1, 2, 3, 4, 5, 6, 7, 8, 9, 10] [] (by kernel_rfl) (by kernel_rfl) (Gr.drew _) ?_
            simp only [pickL, List.drop_succ_cons, List.drop_zero]
            iterate 2 refine rq_v (op_pure rfl) ?_
            refine rq_v (op_fieldAddr Try.underlying106 rfl Try.sizeOf3 rfl rfl) ?_
            refine rq_r (fun wq hq => op_loadB Try.underlying3 rfl rfl ((S.gr hq).blk (i := 1) rfl) rfl) ?_
            refine rq_v (op_rng rfl (by omega)) ?_
            rw [eneg]
            iterate 2 refine rq_v (op_pure rfl) ?_
            refine rq_v (op_fieldAddr Try.underlying106 rfl Try.sizeOf3 rfl rfl) ?_
            refine rq_r (fun wq hq => op_loadB Try.underlying3 rfl rfl ((S.gr hq).blk (i := 1) rfl) rfl) ?_
            refine rq_v (op_arrLit Try.underlying190 Try.zeroValue190 Try.sizeOf3 rfl rfl) ?_
            refine rq_v (op_pure rfl) ?_
            refine rq_nil ?_
            intro w19_ g19_
            have S := S.gr g19_
            first | refine rw_end ?_ | (refine rw_nil ?_; show CW _ _ _ _ _ _) | refine rw_nil ?_
            repeat refine cw_seq ?_
            refine cw_block ?_
            repeat refine cw_seq ?_
            have hQ2 : FQ No W [.blk b_s 187 [.int .i64 xc, .int .i64 xa]] q gw (gw * gh) A_v c_v A_lv (gw * gh) A_kn (gw * gh) V lv kn l' _ := ⟨hls', A_R', c_R', S.permD (List.perm_append_comm (l₁ := [_]) (l₂ := [_, _, _, _, _]))⟩
            refine cw_loop (fun m2 e w => ∃ (k : Nat) (lv : Nat → Int) (kn : Nat → Bool) (rk : Nat → Nat) (l2 : List Job), k + m2 = 4 ∧ 2 * (gw * gh - cntB (gw * gh) kn) + l2.length + 1 ≤ m ∧ lv xa = xc ∧ SL e [(8, .pointer (some ⟨q, 0, none⟩)), (10, .pointer (some ⟨b_s, 0, none⟩)), (88, .agg (dirsV gw).toArray), (89, .int .i64 k)] ∧
              HeapN l2 l2.length ∧ FLM gw gh V kn lv rk l2 xa (todoS gw (gw * gh) xa k) ∧ FQ No W [.blk b_s 187 [.int .i64 xc, .int .i64 xa]] q gw (gw * gh) A_v c_v A_lv (gw * gh) A_kn (gw * gh) V lv kn l2 w) 4
              ⟨0, lv, kn, rk, l', by omega, by omega, hxc.symm, ⟨rfl, rfl, rfl, rfl, trivial⟩, hN', hM, hQ2⟩ ?_
            clear S hQ2 hM hF hF2 hbr hN hN' hmin hmem hm hls hlen hxc hxk hls'
            rintro m2 e w ⟨k, lv, kn, rk, l2, hk, hmm, hxc, hsl, hN2, hM, hQ⟩
            rw [hsl.fold]
            obtain ⟨hls2, A_R2, c_R2, S⟩ := hQ
            repeat refine cw_seq ?_
            refine cw_region ?_
            refine rw_v (op_pure rfl) ?_
            first | refine rw_end ?_ | (refine rw_nil ?_; show CW _ _ _ _ _ _) | refine rw_nil ?_
            repeat refine cw_seq ?_
            refine cw_cond rfl (fun hc4 => ?_) (fun hc4 => ?_)
            · try simp only [decide_eq_true_eq, decide_eq_false_iff_not, beq_iff_eq, bne_iff_ne, beq_eq_false_iff_ne, bne_eq_false_iff_eq, Bool.not_eq_true', Bool.not_eq_false', ne_eq, Decidable.not_not, Int.natCast_inj, Int.ofNat_lt, Int.ofNat_le, gt_iff_lt, ge_iff_le, Int.not_lt, Int.not_le] at hc4
              have hk4 : k < 4 := by omega
              have hidx := dirsV_get (gw := gw) hk4
              have hts := todoS_step (gw := gw) (n := gw * gh) (i := xa) hk4
              cases hok : okS gw (gw * gh) xa k with
              | false =>
                rw [if_neg (by rw [hok]; simp), List.nil_append] at hts
                rw [hts] at hM
                repeat refine cw_seq ?_
                refine cw_skip ?_
                try show CW _ _ _ _ _ _
                repeat refine cw_seq ?_
                refine cw_block ?_
                repeat refine cw_seq ?_
                refine cw_region ?_
                refine rw_v (op_indexV Try.underlying190 Try.underlying3 Try.sizeOf3 rfl rfl rfl (by omega) (by omega) hidx) ?_
                refine rw_v (op_pure rfl) ?_
                first | refine rw_end ?_ | (refine rw_nil ?_; show CW _ _ _ _ _ _) | refine rw_nil ?_
                repeat refine cw_seq ?_
                refine cw_region ?_
                refine rw_v (op_pure rfl) ?_
                refine rw_v (op_fieldAddr Try.underlying187 rfl Try.sizeOf3 rfl rfl) ?_
                refine rw_r (op_loadB Try.underlying3 rfl rfl (S.blk (i := 5) rfl) rfl) ?_
                refine rw_v (op_pure rfl) ?_
                refine rw_call rfl (step_E (gh := gh) xa k hk4 hgw rfl hxlt (by omega) (S.blk (i := 0) rfl)) ?_
                rintro _ w20_ ⟨rfl, g20_⟩
                have S := S.gr g20_
                rw [hok]
                iterate 5 refine rw_v (op_pure rfl) ?_
                first | refine rw_end ?_ | (refine rw_nil ?_; show CW _ _ _ _ _ _) | refine rw_nil ?_
                repeat refine cw_seq ?_
                refine cw_region ?_
                refine rw_v (op_pure rfl) ?_
                first | refine rw_end ?_ | (refine rw_nil ?_; show CW _ _ _ _ _ _) | refine rw_nil ?_
                repeat refine cw_seq ?_
                refine cw_false rfl ?_
                repeat refine cw_seq ?_
                refine cw_skip ?_
                try show CW _ _ _ _ _ _
                repeat refine cw_seq ?_
                refine cw_region ?_
                refine rw_v (op_rng rfl (by omega)) ?_
                refine rw_v (op_pure rfl) ?_
                first | refine rw_end ?_ | (refine rw_nil ?_; show CW _ _ _ _ _ _) | refine rw_nil ?_
                exact ⟨m2 - 1, by omega, k + 1, lv, kn, rk, l2, by omega, by omega, hxc, ⟨rfl, rfl, rfl, ie (by omega), trivial⟩, hN2, hM, hls2, A_R2, c_R2, S⟩
              | true =>
                rw [if_pos hok] at hts
                rw [hts] at hM
                obtain ⟨hj, hside, hcast⟩ := okS_side (gh := gh) (by omega) hxlt hk4 hok
                cases hkn : kn (nb gw xa k) with
                | true =>
                  repeat refine cw_seq ?_
                  refine cw_skip ?_
                  try show CW _ _ _ _ _ _
                  repeat refine cw_seq ?_
                  refine cw_block ?_
                  repeat refine cw_seq ?_
                  refine cw_region ?_
                  refine rw_v (op_indexV Try.underlying190 Try.underlying3 Try.sizeOf3 rfl rfl rfl (by omega) (by omega) hidx) ?_
                  refine rw_v (op_pure rfl) ?_
                  first | refine rw_end ?_ | (refine rw_nil ?_; show CW _ _ _ _ _ _) | refine rw_nil ?_
                  repeat refine cw_seq ?_
                  refine cw_region ?_
                  refine rw_v (op_pure rfl) ?_
                  refine rw_v (op_fieldAddr Try.underlying187 rfl Try.sizeOf3 rfl rfl) ?_
                  refine rw_r (op_loadB Try.underlying3 rfl rfl (S.blk (i := 5) rfl) rfl) ?_
                  refine rw_v (op_pure rfl) ?_
                  refine rw_call rfl (step_E (gh := gh) xa k hk4 hgw rfl hxlt (by omega) (S.blk (i := 0) rfl)) ?_
                  rintro _ w21_ ⟨rfl, g21_⟩
                  have S := S.gr g21_
                  rw [hok, hcast]
                  iterate 5 refine rw_v (op_pure rfl) ?_
                  first | refine rw_end ?_ | (refine rw_nil ?_; show CW _ _ _ _ _ _) | refine rw_nil ?_
                  repeat refine cw_seq ?_
                  refine cw_region ?_
                  refine rw_v (op_pure rfl) ?_
                  first | refine rw_end ?_ | (refine rw_nil ?_; show CW _ _ _ _ _ _) | refine rw_nil ?_
                  repeat refine cw_seq ?_
                  refine cw_true rfl ?_
                  repeat refine cw_seq ?_
                  refine cw_region ?_
                  iterate 2 refine rw_v (op_pure rfl) ?_
                  refine rw_v (op_fieldAddr Try.underlying187 rfl Try.sizeOf2 rfl rfl) ?_
                  refine rw_r (op_loadB Try.underlying2 rfl rfl (S.blk (i := 5) rfl) rfl) ?_
                  refine rw_call rfl (reachKn_E (nb gw xa k) xc hj hkn ⟨hls2, A_R2, c_R2, S⟩) ?_
                  rintro _ w20 ⟨rfl, hQ'⟩
                  first | refine rw_end ?_ | (refine rw_nil ?_; show CW _ _ _ _ _ _) | refine rw_nil ?_
                  repeat refine cw_seq ?_
                  refine cw_region ?_
                  refine rw_v (op_rng rfl (by omega)) ?_
                  refine rw_v (op_pure rfl) ?_
                  first | refine rw_end ?_ | (refine rw_nil ?_; show CW _ _ _ _ _ _) | refine rw_nil ?_
                  exact ⟨m2 - 1, by omega, k + 1, lv, kn, rk, l2, by omega, by omega, hxc, ⟨rfl, rfl, rfl, ie (by omega), trivial⟩, hN2, hM.known hkn, hQ'⟩
                | false =>
                  have hcnt := cntB_upd hkn (gw * gh)
                  rw [if_pos hj] at hcnt
                  have hcle := cntB_le (gw * gh) (updB kn (nb gw xa k))
                  have hne : xa ≠ nb gw xa k := fun e => by have := hM.cur_kn; rw [e, hkn] at this; cases this
                  repeat refine cw_seq ?_
                  refine cw_skip ?_
                  try show CW _ _ _ _ _ _
                  repeat refine cw_seq ?_
                  refine cw_block ?_
                  repeat refine cw_seq ?_
                  refine cw_region ?_
                  refine rw_v (op_indexV Try.underlying190 Try.underlying3 Try.sizeOf3 rfl rfl rfl (by omega) (by omega) hidx) ?_
                  refine rw_v (op_pure rfl) ?_
                  first | refine rw_end ?_ | (refine rw_nil ?_; show CW _ _ _ _ _ _) | refine rw_nil ?_
                  repeat refine cw_seq ?_
                  refine cw_region ?_
                  refine rw_v (op_pure rfl) ?_
                  refine rw_v (op_fieldAddr Try.underlying187 rfl Try.sizeOf3 rfl rfl) ?_
                  refine rw_r (op_loadB Try.underlying3 rfl rfl (S.blk (i := 5) rfl) rfl) ?_
                  refine rw_v (op_pure rfl) ?_
                  refine rw_call rfl (step_E (gh := gh) xa k hk4 hgw rfl hxlt (by omega) (S.blk (i := 0) rfl)) ?_
                  rintro _ w22_ ⟨rfl, g22_⟩
                  have S := S.gr g22_
                  rw [hok, hcast]
                  iterate 5 refine rw_v (op_pure rfl) ?_
                  first | refine rw_end ?_ | (refine rw_nil ?_; show CW _ _ _ _ _ _) | refine rw_nil ?_
                  repeat refine cw_seq ?_
                  refine cw_region ?_
                  refine rw_v (op_pure rfl) ?_
                  first | refine rw_end ?_ | (refine rw_nil ?_; show CW _ _ _ _ _ _) | refine rw_nil ?_
                  repeat refine cw_seq ?_
                  refine cw_true rfl ?_
                  repeat refine cw_seq ?_
                  refine cw_region ?_
                  iterate 2 refine rw_v (op_pure rfl) ?_
                  refine rw_v (op_fieldAddr Try.underlying187 rfl Try.sizeOf2 rfl rfl) ?_
                  refine rw_r (op_loadB Try.underlying2 rfl rfl (S.blk (i := 5) rfl) rfl) ?_
                  refine rw_call rfl (reachNew_E (nb gw xa k) xc hj hV hkn hN2 (by omega) ⟨hls2, A_R2, c_R2, S⟩) ?_
                  rintro _ w20 ⟨rfl, l3, h31, h32, h33, hQ'⟩
                  first | refine rw_end ?_ | (refine rw_nil ?_; show CW _ _ _ _ _ _) | refine rw_nil ?_
                  repeat refine cw_seq ?_
                  refine cw_region ?_
                  refine rw_v (op_rng rfl (by omega)) ?_
                  refine rw_v (op_pure rfl) ?_
                  first | refine rw_end ?_ | (refine rw_nil ?_; show CW _ _ _ _ _ _) | refine rw_nil ?_
                  have hR := hM.reach hj hside hkn (Q' := l3) (fun y => by rw [h32, hxc])
                  rw [hxc] at hR
                  exact ⟨m2 - 1, by omega, k + 1, _, _, _, l3, by omega, by omega, by unfold updI; rw [if_neg hne]; exact hxc, ⟨rfl, rfl, rfl, ie (by omega), trivial⟩, h33, hR, hQ'⟩
            · try simp only [decide_eq_true_eq, decide_eq_false_iff_not, beq_iff_eq, bne_iff_ne, beq_eq_false_iff_ne, bne_eq_false_iff_eq, Bool.not_eq_true', Bool.not_eq_false', ne_eq, Decidable.not_not, Int.natCast_inj, Int.ofNat_lt, Int.ofNat_le, gt_iff_lt, ge_iff_le, Int.not_lt, Int.not_le] at hc4
              obtain rfl : k = 4 := by omega
              repeat refine cw_seq ?_
              refine cw_exit ?_
              repeat first | refine exit_then ?_ | refine exit_inb ?_
              exact ⟨_, by omega, lv, kn, rk, l2, rfl, by omega, ⟨rfl, trivial⟩, hN2, hM.done, hM.brd, hls2, A_R2, c_R2, S.sub (.cons_cons _ (.cons_cons _ (.cons_cons _ (.cons_cons _ (.cons_cons _ (.cons _ .slnil))))))⟩
      · try simp only [decide_eq_true_eq, decide_eq_false_iff_not, beq_iff_eq, bne_iff_ne, beq_eq_false_iff_ne, bne_eq_false_iff_eq, Bool.not_eq_true', Bool.not_eq_false', ne_eq, Decidable.not_not, Int.natCast_inj, Int.ofNat_lt, Int.ofNat_le, gt_iff_lt, ge_iff_le, Int.not_lt, Int.not_le] at hc2
        obtain rfl : l = [] := List.eq_nil_of_length_eq_zero (by omega)
        repeat refine cw_seq ?_
        refine cw_exit ?_
        repeat first | refine exit_then ?_ | refine exit_inb ?_
        show CW _ _ _ _ _ _
        repeat refine cw_seq ?_
        refine cw_region ?_
        iterate 3 refine rw_v (op_pure rfl) ?_
        first | refine rw_end ?_ | (refine rw_nil ?_; show CW _ _ _ _ _ _) | refine rw_nil ?_
        repeat refine cw_seq ?_
        refine cw_ret ?_
        repeat first | refine ret_then ?_ | refine ret_inb ?_
        exact res2 rfl rfl ⟨lv, rk, hF.finish (by omega) (by omega) hbr, q, _, A_lv, _, A_kn, _, A_v, c_v, rfl, S.sub (.cons_cons _ (.cons _ (.cons_cons _ (.cons _ (.cons_cons _ .slnil)))))⟩
end
end Go.Proofs.Ytbcgbcipigcbhaa
