/- slices' stable sorting of int with a compare function: what it does to the row. -/
import Derived.Test.YtiidmiebckkloaaPH
import Derived.Test.YtiidmiebckkloaaPI
namespace Go.Proofs.Ytiidmiebckkloaa
open Go.RowKit
set_option linter.unusedVariables false
set_option linter.unusedSimpArgs false
set_option maxRecDepth 100000

/-- an element's cells, its value -/
@[reducible] def encI (i : Nat) : List Value := [.int .i64 (i : Nat)]
@[reducible] def valI (i : Nat) : Value := .int .i64 (i : Nat)
/-- a row, permuted by swaps -/
def RetSI (W : World) (A : Option Addr) (n c : Nat) (o : Nat → Nat) (v : Value) (w' : World) : Prop := v = .tuple #[] ∧ Row w' 3 1 A n c (rowE encI n o) ∧ Fr (ownA A) W w'
/-- .. and a stretch of it sorted -/
def RetOI (W : World) (A : Option Addr) (n c : Nat) (R' : Nat → Nat → Bool) (a b : Nat) (o : Nat → Nat) (v : Value) (w' : World) : Prop :=
  v = .tuple #[] ∧ ∃ o', PS a b o o' ∧ SO R' o' a b ∧ Row w' 3 1 A n c (rowE encI n o') ∧ Fr (ownA A) W w'
section
variable {W : World} {A : Option Addr} {n c : Nat} {o : Nat → Nat} {f : Value} {fid : Nat} {caps : List Value} {cv : Nat → Nat → Int} {R' : Nat → Nat → Bool}
set_option maxHeartbeats 2000000 in
theorem swapRange_I (a b m : Nat) (hn : n ≤ 1048576) (h1 : a + m ≤ b) (h2 : b + m ≤ n) (hA : Row W 3 1 A n c (rowE encI n o)) :
    Fn Try.prog 97 [.slice A n c, .int .i64 a, .int .i64 b, .int .i64 m, f] W (RetSI W A n c (swr o a b m)) := by
  have S := St.start1 W (HA.row 3 1 A n c (rowE encI n (o))) hA
  refine Fn_enter Try.func97 rfl Try.results97 Try.ntmps97 (by kernel_rfl) (by kernel_rfl) ?_
  repeat refine cw_seq ?_
  refine cw_region ?_
  refine rw_v (op_pure rfl) ?_
  first | refine rw_end ?_ | (refine rw_nil ?_; show CW _ _ _ _ _ _) | refine rw_nil ?_
  repeat refine cw_seq ?_
  refine cw_block ?_
  repeat refine cw_seq ?_
  refine cw_loop (fun m' e w => ∃ k, k + m' = m ∧ SL e [(0, .slice A n c), (1, .int .i64 a), (2, .int .i64 b), (3, .int .i64 m), (10, .int .i64 k)] ∧ St (ownA A) W w [HA.row 3 1 A n c (rowE encI n (swr o a b k))]) m
    ⟨0, by omega, ⟨rfl, rfl, rfl, rfl, rfl, trivial⟩, by rw [swr_zero]; exact S⟩ ?_
  clear S
  rintro m' e w ⟨k, hk, hsl, S⟩
  rw [hsl.fold]
  repeat refine cw_seq ?_
  refine cw_region ?_
  iterate 3 refine rw_v (op_pure rfl) ?_
  first | refine rw_end ?_ | (refine rw_nil ?_; show CW _ _ _ _ _ _) | refine rw_nil ?_
  repeat refine cw_seq ?_
  refine cw_cond rfl (fun hc => ?_) (fun hc => ?_)
  · try simp only [decide_eq_true_eq, decide_eq_false_iff_not, beq_iff_eq, bne_iff_ne, beq_eq_false_iff_ne, bne_eq_false_iff_eq, Bool.not_eq_true', Bool.not_eq_false', ne_eq, Decidable.not_not, Int.natCast_inj, Int.ofNat_lt, Int.ofNat_le, gt_iff_lt, ge_iff_le, Int.not_lt, Int.not_le] at hc
    have hstep := swr_step (o := o) (a := a) (b := b) (n := k) (by omega)
    generalize swr o a b k = o0 at *
    have ea : (a : Int) + k = ((a + k : Nat) : Int) := by push_cast; rfl
    have eb : (b : Int) + k = ((b + k : Nat) : Int) := by push_cast; rfl
    have sa_A : SomeA A := (S.row (i := 0) rfl).someA (by omega)
    have hgi : (rowE encI n o0)[((a + k : Nat) : Int).toNat * 1]? = some (valI (o0 (a + k))) := rowE_one (fun _ => rfl) (by omega) rfl
    have hgj : (rowE encI n o0)[((b + k : Nat) : Int).toNat * 1]? = some (valI (o0 (b + k))) := rowE_one (fun _ => rfl) (by omega) rfl
    have hlti : ((a + k : Nat) : Int).toNat * 1 < (rowE encI n o0).length := by rw [rowE_len (k := 1) (fun _ => rfl)]; omega
    have hltj : ((b + k : Nat) : Int).toNat * 1 < (rowE encI n (updF o0 (a + k) (o0 (b + k)))).length := by rw [rowE_len (k := 1) (fun _ => rfl)]; omega
    have hset1 : setO [HA.row 3 1 A n c (rowE encI n (o0))] 0 (HA.row 3 1 A n c ((rowE encI n o0).set (((a + k : Nat) : Int).toNat * 1) (valI (o0 (b + k))))) = some [HA.row 3 1 A n c (rowE encI n (updF o0 (a + k) (o0 (b + k))))] := by show some [_] = some [_]; rw [rowE_set1 (fun _ => rfl) (by omega) rfl]
    have hlast : (rowE encI n (updF o0 (a + k) (o0 (b + k)))).set (((b + k : Nat) : Int).toNat * 1) (valI (o0 (a + k))) = rowE encI n (swp o0 (a + k) (b + k)) := by rw [rowE_set1 (fun _ => rfl) (by omega) rfl, updF_swp]
    repeat refine cw_seq ?_
    refine cw_skip ?_
    try show CW _ _ _ _ _ _
    repeat refine cw_seq ?_
    refine cw_block ?_
    repeat refine cw_seq ?_
    refine cw_cutQ (M := fun e w => SL e [(0, .slice A n c), (1, .int .i64 a), (2, .int .i64 b), (3, .int .i64 m), (10, .int .i64 k)] ∧ St (ownA A) W w [HA.row 3 1 A n c (rowE encI n (swp o0 (a + k) (b + k)))]) ?_ ?_
    · skip
      repeat refine cw_seq ?_
      refine TI.cw_tree (C := (SWC (ownA A) W [HA.row 3 1 A n c (rowE encI n (o0))] [HA.row 3 1 A n c (rowE encI n (updF o0 (a + k) (o0 (b + k))))] 13 19 21 (valI (o0 (b + k))) (valI (o0 (a + k))))) [13, 19, 21] (.one 0 (.one 1 (.one 2 (.one 3 (.one 4 (.one 5 (.one 6 (.one 7 (.one 8 (.one 9 (.one 10 (.one 11 (.one 12 (.one 14 (.one 15 (.one 16 (.one 17 (.one 18 (.two 13 (.one 19 (.one 20 (.one 21 .nil))) 19 (.one 13 (.one 20 (.one 21 .nil)))))))))))))))))))))) [22, 23] (by kernel_rfl) (by kernel_rfl) (SWC.start (S.gr (Gr.drew _))) ?_
      simp only [pickO, pickL, List.drop_succ_cons, List.drop_zero]
      refine TI.ro_one ?_
      refine TI.rs_v rfl (op_pure rfl) ?_
      refine TI.rs_nil ?_
      refine TI.ro_one ?_
      refine TI.rs_v rfl (op_pure rfl) ?_
      refine TI.rs_nil ?_
      refine TI.ro_one ?_
      refine TI.rs_v rfl (op_pure rfl) ?_
      refine TI.rs_nil ?_
      refine TI.ro_one ?_
      refine TI.rs_v rfl (op_rng rfl (by omega)) ?_
      rw [ea]
      refine TI.rs_nil ?_
      refine TI.ro_one ?_
      refine TI.rs_v rfl (op_pure rfl) ?_
      refine TI.rs_nil ?_
      refine TI.ro_one ?_
      refine TI.rs_v rfl (op_pure rfl) ?_
      refine TI.rs_nil ?_
      refine TI.ro_one ?_
      refine TI.rs_v rfl (op_pure rfl) ?_
      refine TI.rs_nil ?_
      refine TI.ro_one ?_
      refine TI.rs_v rfl (op_rng rfl (by omega)) ?_
      rw [eb]
      refine TI.rs_nil ?_
      refine TI.ro_one ?_
      refine TI.rs_v rfl (op_pure rfl) ?_
      refine TI.rs_nil ?_
      refine TI.ro_one ?_
      refine TI.rs_v rfl (op_pure rfl) ?_
      refine TI.rs_nil ?_
      refine TI.ro_one ?_
      refine TI.rs_v rfl (op_pure rfl) ?_
      refine TI.rs_nil ?_
      refine TI.ro_one ?_
      refine TI.rs_v rfl (op_rng rfl (by omega)) ?_
      rw [eb]
      refine TI.rs_nil ?_
      refine TI.ro_one ?_
      refine TI.rs_v rfl (op_idx Try.underlying94 Try.sizeOf3 rfl rfl sa_A (by omega) (by omega)) ?_
      refine TI.rs_nil ?_
      refine TI.ro_one ?_
      refine TI.rs_v rfl (op_pure rfl) ?_
      refine TI.rs_nil ?_
      refine TI.ro_one ?_
      refine TI.rs_v rfl (op_pure rfl) ?_
      refine TI.rs_nil ?_
      refine TI.ro_one ?_
      refine TI.rs_v rfl (op_pure rfl) ?_
      refine TI.rs_nil ?_
      refine TI.ro_one ?_
      refine TI.rs_v rfl (op_rng rfl (by omega)) ?_
      rw [ea]
      refine TI.rs_nil ?_
      refine TI.ro_one ?_
      refine TI.rs_v rfl (op_idx Try.underlying94 Try.sizeOf3 rfl rfl sa_A (by omega) (by omega)) ?_
      refine TI.rs_nil ?_
      refine TI.ro_two ?_ ?_
      · refine TI.rs_special rfl rfl (fun wq hq => to_r (op_ldR Try.underlying3 rfl rfl ((hq.st0 rfl).rd (i := 0) rfl) hgj) (hq.push rfl rfl ⟨fun _ => rfl, fun h => by cases h⟩)) ?_
        rintro v7 w7 h7
        obtain rfl := h7.first
        refine TI.rs_nil ?_
        refine TI.ro_one ?_
        refine TI.rs_special rfl rfl (fun wq hq => to_r (op_ldR Try.underlying3 rfl rfl ((hq.st0 rfl).rd (i := 0) rfl) hgi) (hq.push rfl rfl ⟨fun h => (by cases h), fun _ => rfl⟩)) ?_
        rintro v11 w11 h11
        obtain rfl := h11.second
        refine TI.rs_nil ?_
        refine TI.ro_one ?_
        refine TI.rs_v rfl (op_idx Try.underlying94 Try.sizeOf3 rfl rfl sa_A (by omega) (by omega)) ?_
        refine TI.rs_nil ?_
        refine TI.ro_one ?_
        refine TI.rs_special rfl rfl (fun wq hq => to_storeR (i := 0) (hq.st0 rfl) rfl (Try.sizeOf3 _) rfl rfl rfl rfl hlti hset1 (fun w' S' => hq.made ⟨fun h => (by cases h), fun h => (by cases h)⟩ S')) ?_
        rintro v13 w13 _
        refine TI.rs_nil ?_
        refine TI.ro_nil ?_
        rintro wz hz
        have S := hz.st1 rfl
        refine rw_v (op_idx Try.underlying94 Try.sizeOf3 rfl rfl sa_A (by omega) (by omega)) ?_
        refine rw_storeR (i := 0) S rfl (Try.sizeOf3 _) rfl rfl rfl rfl hltj rfl ?_
        intro wz2 S
        first | refine rw_end ?_ | (refine rw_nil ?_; show CW _ _ _ _ _ _) | refine rw_nil ?_
        rw [hlast] at S
        exact ⟨⟨rfl, rfl, rfl, rfl, rfl, trivial⟩, S⟩
      · refine TI.rs_special rfl rfl (fun wq hq => to_r (op_ldR Try.underlying3 rfl rfl ((hq.st0 rfl).rd (i := 0) rfl) hgi) (hq.push rfl rfl ⟨fun h => (by cases h), fun _ => rfl⟩)) ?_
        rintro v11 w11 h11
        obtain rfl := h11.second
        refine TI.rs_nil ?_
        refine TI.ro_one ?_
        refine TI.rs_special rfl rfl (fun wq hq => to_r (op_ldR Try.underlying3 rfl rfl ((hq.st0 rfl).rd (i := 0) rfl) hgj) (hq.push rfl rfl ⟨fun _ => rfl, fun h => by cases h⟩)) ?_
        rintro v7 w7 h7
        obtain rfl := h7.first
        refine TI.rs_nil ?_
        refine TI.ro_one ?_
        refine TI.rs_v rfl (op_idx Try.underlying94 Try.sizeOf3 rfl rfl sa_A (by omega) (by omega)) ?_
        refine TI.rs_nil ?_
        refine TI.ro_one ?_
        refine TI.rs_special rfl rfl (fun wq hq => to_storeR (i := 0) (hq.st0 rfl) rfl (Try.sizeOf3 _) rfl rfl rfl rfl hlti hset1 (fun w' S' => hq.made ⟨fun h => (by cases h), fun h => (by cases h)⟩ S')) ?_
        rintro v13 w13 _
        refine TI.rs_nil ?_
        refine TI.ro_nil ?_
        rintro wz hz
        have S := hz.st1 rfl
        refine rw_v (op_idx Try.underlying94 Try.sizeOf3 rfl rfl sa_A (by omega) (by omega)) ?_
        refine rw_storeR (i := 0) S rfl (Try.sizeOf3 _) rfl rfl rfl rfl hltj rfl ?_
        intro wz2 S
        first | refine rw_end ?_ | (refine rw_nil ?_; show CW _ _ _ _ _ _) | refine rw_nil ?_
        rw [hlast] at S
        exact ⟨⟨rfl, rfl, rfl, rfl, rfl, trivial⟩, S⟩
    · rintro e3 w3 ⟨hsl3, S⟩
      show CW _ _ _ _ _ _
      rw [hsl3.fold]
      repeat refine cw_seq ?_
      refine cw_region ?_
      refine rw_v (op_pure rfl) ?_
      refine rw_v (op_rng rfl (by omega)) ?_
      refine rw_v (op_pure rfl) ?_
      first | refine rw_end ?_ | (refine rw_nil ?_; show CW _ _ _ _ _ _) | refine rw_nil ?_
      exact ⟨m' - 1, by omega, k + 1, by omega, ⟨rfl, rfl, rfl, rfl, ie (by omega), trivial⟩, hstep ▸ S⟩
  · try simp only [decide_eq_true_eq, decide_eq_false_iff_not, beq_iff_eq, bne_iff_ne, beq_eq_false_iff_ne, bne_eq_false_iff_eq, Bool.not_eq_true', Bool.not_eq_false', ne_eq, Decidable.not_not, Int.natCast_inj, Int.ofNat_lt, Int.ofNat_le, gt_iff_lt, ge_iff_le, Int.not_lt, Int.not_le] at hc
    obtain rfl : k = m := by omega
    repeat refine cw_seq ?_
    refine cw_exit ?_
    repeat first | refine exit_then ?_ | refine exit_inb ?_
    exact res0n ⟨rfl, S.row (i := 0) rfl, S.fr⟩
set_option maxHeartbeats 2000000 in
theorem rotate_I (a m b : Nat) (hn : n ≤ 1048576) (h1 : a < m) (h2 : m < b) (hb : b ≤ n) (hA : Row W 3 1 A n c (rowE encI n o)) :
    Fn Try.prog 93 [.slice A n c, .int .i64 a, .int .i64 m, .int .i64 b, .func (.func fid) (([] : List Value).toArray) caps.toArray] W (fun v w' => RetSI W A n c (rot o a m b) v w' ∧ PS a b o (rot o a m b)) := by
  have S := St.start1 W (HA.row 3 1 A n c (rowE encI n (o))) hA
  refine Fn_enter Try.func93 rfl Try.results93 Try.ntmps93 (by kernel_rfl) (by kernel_rfl) ?_
  repeat refine cw_seq ?_
  refine cw_region ?_
  iterate 2 refine rw_v (op_pure rfl) ?_
  refine rw_v (op_rng rfl (by omega)) ?_
  refine rw_v (op_pure rfl) ?_
  first | refine rw_end ?_ | (refine rw_nil ?_; show CW _ _ _ _ _ _) | refine rw_nil ?_
  repeat refine cw_seq ?_
  refine cw_region ?_
  iterate 2 refine rw_v (op_pure rfl) ?_
  refine rw_v (op_rng rfl (by omega)) ?_
  refine rw_v (op_pure rfl) ?_
  first | refine rw_end ?_ | (refine rw_nil ?_; show CW _ _ _ _ _ _) | refine rw_nil ?_
  repeat refine cw_seq ?_
  refine cw_block ?_
  repeat refine cw_seq ?_
  refine cw_loop (fun d e w => ∃ (i j : Nat) (p : Nat → Nat), i + j = d ∧ 0 < i ∧ 0 < j ∧ a + i ≤ m ∧ m + j ≤ b ∧ SL e [(0, .slice A n c), (1, .int .i64 a), (2, .int .i64 m), (3, .int .i64 b), (4, .func (.func fid) (([] : List Value).toArray) caps.toArray), (10, .int .i64 i), (11, .int .i64 j)] ∧ PS a b o p ∧ rot p (m - i) m (m + j) = rot o a m b ∧ St (ownA A) W w [HA.row 3 1 A n c (rowE encI n (p))]) (m - a + (b - m))
    ⟨m - a, b - m, o, rfl, by omega, by omega, by omega, by omega, ⟨rfl, rfl, rfl, rfl, rfl, ie (by omega), ie (by omega), trivial⟩, .refl, by rw [show m - (m - a) = a by omega, show m + (b - m) = b by omega], S⟩ ?_
  clear S
  rintro d e w ⟨i, j, p, hd, hi, hj, hai, hjb, hsl, hps, hrot, S⟩
  rw [hsl.fold]
  have e1 : (m : Int) - i = ((m - i : Nat) : Int) := by omega
  have e2 : (m : Int) + j - i = ((m + j - i : Nat) : Int) := by omega
  by_cases hij : i = j
  · subst hij
    have hfin := rot_same (o := p) (m := m) (i := i) (by omega)
    repeat refine cw_seq ?_
    refine cw_region ?_
    iterate 2 refine rw_v (op_pure rfl) ?_
    refine rw_v (op_b (b := false) rfl (bne_eq_false_iff_eq.2 (by omega))) ?_
    first | refine rw_end ?_ | (refine rw_nil ?_; show CW _ _ _ _ _ _) | refine rw_nil ?_
    repeat refine cw_seq ?_
    refine cw_false rfl ?_
    repeat refine cw_seq ?_
    refine cw_exit ?_
    repeat first | refine exit_then ?_ | refine exit_inb ?_
    show CW _ _ _ _ _ _
    repeat refine cw_seq ?_
    refine cw_region ?_
    iterate 3 refine rw_v (op_pure rfl) ?_
    refine rw_v (op_rng rfl (by omega)) ?_
    rw [e1]
    iterate 3 refine rw_v (op_pure rfl) ?_
    refine rw_call rfl (swapRange_I (m - i) m i hn (by omega) (by omega) (S.row (i := 0) rfl)) ?_
    rintro _ w1_ ⟨rfl, hR2, hF2⟩
    have S := S.set (i := 0) (h' := HA.row 3 1 A n c (rowE encI n (swr p (m - i) m i))) rfl rfl hF2 (fun g h => .inl h) hR2 (fun g h => .inl h)
    first | refine rw_end ?_ | (refine rw_nil ?_; show CW _ _ _ _ _ _) | refine rw_nil ?_
    rw [hfin, hrot] at S
    exact res0n ⟨⟨rfl, S.row (i := 0) rfl, S.fr⟩, hrot ▸ hfin ▸ hps.trans (swr_ps (by omega) (by omega) (by omega))⟩
  · by_cases hlt : j < i
    · have hfin := rot_left (o := p) (m := m) hj hlt (by omega)
      repeat refine cw_seq ?_
      refine cw_region ?_
      iterate 2 refine rw_v (op_pure rfl) ?_
      refine rw_v (op_b (b := true) rfl (bne_iff_ne.2 (by omega))) ?_
      first | refine rw_end ?_ | (refine rw_nil ?_; show CW _ _ _ _ _ _) | refine rw_nil ?_
      repeat refine cw_seq ?_
      refine cw_true rfl ?_
      repeat refine cw_seq ?_
      refine cw_skip ?_
      try show CW _ _ _ _ _ _
      repeat refine cw_seq ?_
      refine cw_block ?_
      repeat refine cw_seq ?_
      refine cw_region ?_
      iterate 2 refine rw_v (op_pure rfl) ?_
      refine rw_v (op_b (b := true) rfl (decide_eq_true (by omega))) ?_
      first | refine rw_end ?_ | (refine rw_nil ?_; show CW _ _ _ _ _ _) | refine rw_nil ?_
      repeat refine cw_seq ?_
      refine cw_true rfl ?_
      repeat refine cw_seq ?_
      refine cw_region ?_
      iterate 3 refine rw_v (op_pure rfl) ?_
      refine rw_v (op_rng rfl (by omega)) ?_
      rw [e1]
      iterate 3 refine rw_v (op_pure rfl) ?_
      refine rw_call rfl (swapRange_I (m - i) m j hn (by omega) (by omega) (S.row (i := 0) rfl)) ?_
      rintro _ w2_ ⟨rfl, hR2, hF2⟩
      have S := S.set (i := 0) (h' := HA.row 3 1 A n c (rowE encI n (swr p (m - i) m j))) rfl rfl hF2 (fun g h => .inl h) hR2 (fun g h => .inl h)
      first | refine rw_end ?_ | (refine rw_nil ?_; show CW _ _ _ _ _ _) | refine rw_nil ?_
      repeat refine cw_seq ?_
      refine cw_region ?_
      iterate 2 refine rw_v (op_pure rfl) ?_
      refine rw_v (op_rng rfl (by omega)) ?_
      refine rw_v (op_pure rfl) ?_
      first | refine rw_end ?_ | (refine rw_nil ?_; show CW _ _ _ _ _ _) | refine rw_nil ?_
      exact ⟨d - j, by omega, i - j, j, _, by omega, by omega, by omega, by omega, by omega, ⟨rfl, rfl, rfl, rfl, rfl, ie (by omega), rfl, trivial⟩, hps.trans (swr_ps (by omega) (by omega) (by omega)), by rw [hfin, hrot], S⟩
    · have hfin := rot_right (o := p) (m := m) hi (by omega : i < j) (by omega)
      repeat refine cw_seq ?_
      refine cw_region ?_
      iterate 2 refine rw_v (op_pure rfl) ?_
      refine rw_v (op_b (b := true) rfl (bne_iff_ne.2 (by omega))) ?_
      first | refine rw_end ?_ | (refine rw_nil ?_; show CW _ _ _ _ _ _) | refine rw_nil ?_
      repeat refine cw_seq ?_
      refine cw_true rfl ?_
      repeat refine cw_seq ?_
      refine cw_skip ?_
      try show CW _ _ _ _ _ _
      repeat refine cw_seq ?_
      refine cw_block ?_
      repeat refine cw_seq ?_
      refine cw_region ?_
      iterate 2 refine rw_v (op_pure rfl) ?_
      refine rw_v (op_b (b := false) rfl (decide_eq_false (by omega))) ?_
      first | refine rw_end ?_ | (refine rw_nil ?_; show CW _ _ _ _ _ _) | refine rw_nil ?_
      repeat refine cw_seq ?_
      refine cw_false rfl ?_
      repeat refine cw_seq ?_
      refine cw_region ?_
      iterate 3 refine rw_v (op_pure rfl) ?_
      refine rw_v (op_rng rfl (by omega)) ?_
      rw [e1]
      iterate 2 refine rw_v (op_pure rfl) ?_
      refine rw_v (op_rng rfl (by omega)) ?_
      refine rw_v (op_pure rfl) ?_
      refine rw_v (op_rng rfl (by omega)) ?_
      rw [e2]
      iterate 2 refine rw_v (op_pure rfl) ?_
      refine rw_call rfl (swapRange_I (m - i) (m + j - i) i hn (by omega) (by omega) (S.row (i := 0) rfl)) ?_
      rintro _ w3_ ⟨rfl, hR2, hF2⟩
      have S := S.set (i := 0) (h' := HA.row 3 1 A n c (rowE encI n (swr p (m - i) (m + j - i) i))) rfl rfl hF2 (fun g h => .inl h) hR2 (fun g h => .inl h)
      first | refine rw_end ?_ | (refine rw_nil ?_; show CW _ _ _ _ _ _) | refine rw_nil ?_
      repeat refine cw_seq ?_
      refine cw_region ?_
      iterate 2 refine rw_v (op_pure rfl) ?_
      refine rw_v (op_rng rfl (by omega)) ?_
      refine rw_v (op_pure rfl) ?_
      first | refine rw_end ?_ | (refine rw_nil ?_; show CW _ _ _ _ _ _) | refine rw_nil ?_
      exact ⟨d - i, by omega, i, j - i, _, by omega, by omega, by omega, by omega, by omega, ⟨rfl, rfl, rfl, rfl, rfl, rfl, ie (by omega), trivial⟩, hps.trans (swr_ps (by omega) (by omega) (by omega)), by rw [show m + (j - i) = m + j - i by omega, hfin, hrot], S⟩
set_option maxHeartbeats 4000000 in
theorem insertion_I (a b : Nat) (hn : n ≤ 1048576) (hab : a ≤ b) (hbn : b ≤ n) (hw : Wk R') (hX : ∀ x y, a ≤ x → x < y → y < b → ltC cv (o y) (o x) = R' (o y) (o x)) (ho : ∀ i, i < n → o i < n) (hc : Cmp (ownA A) W n fid caps valI cv) (hA : Row W 3 1 A n c (rowE encI n o)) :
    Fn Try.prog 87 [.slice A n c, .int .i64 a, .int .i64 b, .func (.func fid) (([] : List Value).toArray) caps.toArray] W (RetOI W A n c R' a b o) := by
  have S := St.start1 W (HA.row 3 1 A n c (rowE encI n (o))) hA
  refine Fn_enter Try.func87 rfl Try.results87 Try.ntmps87 (by kernel_rfl) (by kernel_rfl) ?_
  repeat refine cw_seq ?_
  refine cw_region ?_
  refine rw_v (op_pure rfl) ?_
  refine rw_v (op_rng rfl (by omega)) ?_
  refine rw_v (op_pure rfl) ?_
  first | refine rw_end ?_ | (refine rw_nil ?_; show CW _ _ _ _ _ _) | refine rw_nil ?_
  repeat refine cw_seq ?_
  refine cw_block ?_
  repeat refine cw_seq ?_
  refine cw_loop (fun d e w => ∃ (i : Nat) (p : Nat → Nat), i + d = max b (a + 1) ∧ a + 1 ≤ i ∧ SL e [(0, .slice A n c), (1, .int .i64 a), (2, .int .i64 b), (3, .func (.func fid) (([] : List Value).toArray) caps.toArray), (8, .int .i64 i)] ∧ PS a (min i b) o p ∧ SO R' p a i ∧ St (ownA A) W w [HA.row 3 1 A n c (rowE encI n (p))]) (max b (a + 1) - (a + 1))
    ⟨a + 1, o, by omega, by omega, ⟨rfl, rfl, rfl, rfl, rfl, trivial⟩, .refl, SO.one (by omega), S⟩ ?_
  clear S
  rintro d e w ⟨i, p, hid, hai, hsl, hp0, hs, S⟩
  rw [hsl.fold]
  by_cases hib : i < b
  · have hp : PS a i o p := by rw [Nat.min_eq_left (by omega)] at hp0; exact hp0
    have hop := hp.lt (n := n) (by omega) ho
    repeat refine cw_seq ?_
    refine cw_region ?_
    iterate 2 refine rw_v (op_pure rfl) ?_
    refine rw_v (op_b (b := true) rfl (decide_eq_true (by omega))) ?_
    first | refine rw_end ?_ | (refine rw_nil ?_; show CW _ _ _ _ _ _) | refine rw_nil ?_
    repeat refine cw_seq ?_
    refine cw_true rfl ?_
    repeat refine cw_seq ?_
    refine cw_skip ?_
    try show CW _ _ _ _ _ _
    repeat refine cw_seq ?_
    refine cw_block ?_
    repeat refine cw_seq ?_
    refine cw_region ?_
    iterate 2 refine rw_v (op_pure rfl) ?_
    first | refine rw_end ?_ | (refine rw_nil ?_; show CW _ _ _ _ _ _) | refine rw_nil ?_
    repeat refine cw_seq ?_
    refine cw_block ?_
    repeat refine cw_seq ?_
    refine cw_loop (fun d' e w => ∃ j : Nat, j = a + d' ∧ j ≤ i ∧ SL e [(0, .slice A n c), (1, .int .i64 a), (2, .int .i64 b), (3, .func (.func fid) (([] : List Value).toArray) caps.toArray), (8, .int .i64 i), (9, .int .i64 j)] ∧ (∀ x, j ≤ x → x < i → R' (p i) (p x) = true) ∧ St (ownA A) W w [HA.row 3 1 A n c (rowE encI n (mvL p i j))]) (i - a)
      ⟨i, by omega, Nat.le_refl _, ⟨rfl, rfl, rfl, rfl, rfl, rfl, trivial⟩, fun x h1 h2 => by omega, by rw [mvL_zero]; exact S⟩ ?_
    clear S
    rintro d' e1 w1 ⟨j, hjd, hji, hsl1, hgt, S⟩
    rw [hsl1.fold]
    by_cases haj : a < j
    · have hcm := ins_cmp (R := ltC cv) hX hp haj hji hib
      have hstep := mvL_step (o := p) (m := i) (k := j) hji (by omega)
      have hfin := fun hl => ins_done hw hs (show a ≤ j by omega) hji hgt hl
      have hfps := (mvL_ps (o := p) (a := a) (b := i + 1) (m := i) (k := j) (by omega) hji (by omega))
      have hbnd : mvL p i j j < n ∧ mvL p i j (j - 1) < n := by rw [hcm.2.1, hcm.2.2]; exact ⟨hop i (by omega), hop (j - 1) (by omega)⟩
      generalize mvL p i j = o0 at *
      have ej : (j : Int) - 1 = ((j - 1 : Nat) : Int) := by omega
      have sa_A : SomeA A := (S.row (i := 0) rfl).someA (by omega)
      have hgi : (rowE encI n o0)[((j : Nat) : Int).toNat * 1]? = some (valI (o0 (j))) := rowE_one (fun _ => rfl) (by omega) rfl
      have hgj : (rowE encI n o0)[((j - 1 : Nat) : Int).toNat * 1]? = some (valI (o0 (j - 1))) := rowE_one (fun _ => rfl) (by omega) rfl
      have hlti : ((j : Nat) : Int).toNat * 1 < (rowE encI n o0).length := by rw [rowE_len (k := 1) (fun _ => rfl)]; omega
      have hltj : ((j - 1 : Nat) : Int).toNat * 1 < (rowE encI n (updF o0 (j) (o0 (j - 1)))).length := by rw [rowE_len (k := 1) (fun _ => rfl)]; omega
      have hset1 : setO [HA.row 3 1 A n c (rowE encI n (o0))] 0 (HA.row 3 1 A n c ((rowE encI n o0).set (((j : Nat) : Int).toNat * 1) (valI (o0 (j - 1))))) = some [HA.row 3 1 A n c (rowE encI n (updF o0 (j) (o0 (j - 1))))] := by show some [_] = some [_]; rw [rowE_set1 (fun _ => rfl) (by omega) rfl]
      have hlast : (rowE encI n (updF o0 (j) (o0 (j - 1)))).set (((j - 1 : Nat) : Int).toNat * 1) (valI (o0 (j))) = rowE encI n (swp o0 (j) (j - 1)) := by rw [rowE_set1 (fun _ => rfl) (by omega) rfl, updF_swp]
      repeat refine cw_seq ?_
      refine cw_draw (C := fun wq => Gr w1 wq) [0, 1, 2, 3, 4, 5, 6, 7, 8, 9, 10, 11, 12, 13, 14, 15, 16] [] (by kernel_rfl) (by kernel_rfl) (Gr.drew _) ?_
      simp only [pickL, List.drop_succ_cons, List.drop_zero]
      iterate 2 refine rq_v (op_pure rfl) ?_
      refine rq_v (op_b (b := true) rfl (decide_eq_true (by omega))) ?_
      refine rq_v (op_pure rfl) ?_
      first | refine rq_off rfl ?_ | (refine rq_on rfl ?_; refine rq_v (op_pure rfl) ?_)
      first | refine rq_off rfl ?_ | (refine rq_on rfl ?_; refine rq_v (op_pure rfl) ?_)
      first | refine rq_off rfl ?_ | (refine rq_on rfl ?_; refine rq_v (op_pure rfl) ?_)
      first | refine rq_off rfl ?_ | (refine rq_on rfl ?_; refine rq_v (op_idx Try.underlying94 Try.sizeOf3 rfl rfl sa_A (by omega) (by omega)) ?_)
      first | refine rq_off rfl ?_ | (refine rq_on rfl ?_; refine rq_r (fun wq hq => op_ldR Try.underlying3 rfl rfl ((S.gr hq).rd (i := 0) rfl) hgi) ?_)
      first | refine rq_off rfl ?_ | (refine rq_on rfl ?_; refine rq_v (op_pure rfl) ?_)
      first | refine rq_off rfl ?_ | (refine rq_on rfl ?_; refine rq_v (op_pure rfl) ?_)
      first | refine rq_off rfl ?_ | (refine rq_on rfl ?_; refine rq_v (op_rng rfl (by omega)) ?_)
      rw [ej]
      first | refine rq_off rfl ?_ | (refine rq_on rfl ?_; refine rq_v (op_idx Try.underlying94 Try.sizeOf3 rfl rfl sa_A (by omega) (by omega)) ?_)
      first | refine rq_off rfl ?_ | (refine rq_on rfl ?_; refine rq_r (fun wq hq => op_ldR Try.underlying3 rfl rfl ((S.gr hq).rd (i := 0) rfl) hgj) ?_)
      first | refine rq_off rfl ?_ | (refine rq_on rfl ?_; refine rq_callv rfl rfl (fun wq hq => (hc wq (S.gr hq).fr (o0 j) (o0 (j - 1)) hbnd.1 hbnd.2).mono (fun _ _ ⟨hv, hg⟩ => ⟨hv, hq.trans hg⟩)) ?_)
      first | refine rq_off rfl ?_ | (refine rq_on rfl ?_; (first | refine rq_v (op_b (b := true) rfl (decide_eq_true (by omega))) ?_ | refine rq_v (op_b (b := false) rfl (decide_eq_false (by omega))) ?_ | refine rq_v (op_pure rfl) ?_))
      refine rq_v (op_pure rfl) ?_
      refine rq_nil ?_
      intro w1_ g1_
      have S := S.gr g1_
      first | refine rw_end ?_ | (refine rw_nil ?_; show CW _ _ _ _ _ _) | refine rw_nil ?_
      repeat refine cw_seq ?_
      refine cw_cond rfl (fun hlt => ?_) (fun hlt => ?_)
      · try simp only [decide_eq_true_eq, decide_eq_false_iff_not, beq_iff_eq, bne_iff_ne, beq_eq_false_iff_ne, bne_eq_false_iff_eq, Bool.not_eq_true', Bool.not_eq_false', ne_eq, Decidable.not_not, Int.natCast_inj, Int.ofNat_lt, Int.ofNat_le, gt_iff_lt, ge_iff_le, Int.not_lt, Int.not_le] at hlt
        have hR : R' (p i) (p (j - 1)) = true := by rw [← hcm.1]; exact ltC_t.2 hlt
        repeat refine cw_seq ?_
        refine cw_skip ?_
        try show CW _ _ _ _ _ _
        repeat refine cw_seq ?_
        refine cw_block ?_
        repeat refine cw_seq ?_
        refine cw_cutQ (M := fun e w => SL e [(0, .slice A n c), (1, .int .i64 a), (2, .int .i64 b), (3, .func (.func fid) (([] : List Value).toArray) caps.toArray), (8, .int .i64 i), (9, .int .i64 j)] ∧ St (ownA A) W w [HA.row 3 1 A n c (rowE encI n (swp o0 (j) (j - 1)))]) ?_ ?_
        · skip
          repeat refine cw_seq ?_
          refine TI.cw_tree (C := (SWC (ownA A) W [HA.row 3 1 A n c (rowE encI n (o0))] [HA.row 3 1 A n c (rowE encI n (updF o0 (j) (o0 (j - 1))))] 9 13 15 (valI (o0 (j - 1))) (valI (o0 (j))))) [9, 13, 15] (.one 0 (.one 1 (.one 2 (.one 3 (.one 4 (.one 5 (.one 6 (.one 7 (.one 8 (.one 10 (.one 11 (.one 12 (.two 9 (.one 13 (.one 14 (.one 15 .nil))) 13 (.one 9 (.one 14 (.one 15 .nil)))))))))))))))) [16, 17] (by kernel_rfl) (by kernel_rfl) (SWC.start (S.gr (Gr.drew _))) ?_
          simp only [pickO, pickL, List.drop_succ_cons, List.drop_zero]
          refine TI.ro_one ?_
          refine TI.rs_v rfl (op_pure rfl) ?_
          refine TI.rs_nil ?_
          refine TI.ro_one ?_
          refine TI.rs_v rfl (op_pure rfl) ?_
          refine TI.rs_nil ?_
          refine TI.ro_one ?_
          refine TI.rs_v rfl (op_pure rfl) ?_
          refine TI.rs_nil ?_
          refine TI.ro_one ?_
          refine TI.rs_v rfl (op_pure rfl) ?_
          refine TI.rs_nil ?_
          refine TI.ro_one ?_
          refine TI.rs_v rfl (op_rng rfl (by omega)) ?_
          rw [ej]
          refine TI.rs_nil ?_
          refine TI.ro_one ?_
          refine TI.rs_v rfl (op_pure rfl) ?_
          refine TI.rs_nil ?_
          refine TI.ro_one ?_
          refine TI.rs_v rfl (op_pure rfl) ?_
          refine TI.rs_nil ?_
          refine TI.ro_one ?_
          refine TI.rs_v rfl (op_rng rfl (by omega)) ?_
          rw [ej]
          refine TI.rs_nil ?_
          refine TI.ro_one ?_
          refine TI.rs_v rfl (op_idx Try.underlying94 Try.sizeOf3 rfl rfl sa_A (by omega) (by omega)) ?_
          refine TI.rs_nil ?_
          refine TI.ro_one ?_
          refine TI.rs_v rfl (op_pure rfl) ?_
          refine TI.rs_nil ?_
          refine TI.ro_one ?_
          refine TI.rs_v rfl (op_pure rfl) ?_
          refine TI.rs_nil ?_
          refine TI.ro_one ?_
          refine TI.rs_v rfl (op_idx Try.underlying94 Try.sizeOf3 rfl rfl sa_A (by omega) (by omega)) ?_
          refine TI.rs_nil ?_
          refine TI.ro_two ?_ ?_
          · refine TI.rs_special rfl rfl (fun wq hq => to_r (op_ldR Try.underlying3 rfl rfl ((hq.st0 rfl).rd (i := 0) rfl) hgj) (hq.push rfl rfl ⟨fun _ => rfl, fun h => by cases h⟩)) ?_
            rintro v7 w7 h7
            obtain rfl := h7.first
            refine TI.rs_nil ?_
            refine TI.ro_one ?_
            refine TI.rs_special rfl rfl (fun wq hq => to_r (op_ldR Try.underlying3 rfl rfl ((hq.st0 rfl).rd (i := 0) rfl) hgi) (hq.push rfl rfl ⟨fun h => (by cases h), fun _ => rfl⟩)) ?_
            rintro v11 w11 h11
            obtain rfl := h11.second
            refine TI.rs_nil ?_
            refine TI.ro_one ?_
            refine TI.rs_v rfl (op_idx Try.underlying94 Try.sizeOf3 rfl rfl sa_A (by omega) (by omega)) ?_
            refine TI.rs_nil ?_
            refine TI.ro_one ?_
            refine TI.rs_special rfl rfl (fun wq hq => to_storeR (i := 0) (hq.st0 rfl) rfl (Try.sizeOf3 _) rfl rfl rfl rfl hlti hset1 (fun w' S' => hq.made ⟨fun h => (by cases h), fun h => (by cases h)⟩ S')) ?_
            rintro v13 w13 _
            refine TI.rs_nil ?_
            refine TI.ro_nil ?_
            rintro wz hz
            have S := hz.st1 rfl
            refine rw_v (op_idx Try.underlying94 Try.sizeOf3 rfl rfl sa_A (by omega) (by omega)) ?_
            refine rw_storeR (i := 0) S rfl (Try.sizeOf3 _) rfl rfl rfl rfl hltj rfl ?_
            intro wz2 S
            first | refine rw_end ?_ | (refine rw_nil ?_; show CW _ _ _ _ _ _) | refine rw_nil ?_
            rw [hlast] at S
            exact ⟨⟨rfl, rfl, rfl, rfl, rfl, rfl, trivial⟩, S⟩
          · refine TI.rs_special rfl rfl (fun wq hq => to_r (op_ldR Try.underlying3 rfl rfl ((hq.st0 rfl).rd (i := 0) rfl) hgi) (hq.push rfl rfl ⟨fun h => (by cases h), fun _ => rfl⟩)) ?_
            rintro v11 w11 h11
            obtain rfl := h11.second
            refine TI.rs_nil ?_
            refine TI.ro_one ?_
            refine TI.rs_special rfl rfl (fun wq hq => to_r (op_ldR Try.underlying3 rfl rfl ((hq.st0 rfl).rd (i := 0) rfl) hgj) (hq.push rfl rfl ⟨fun _ => rfl, fun h => by cases h⟩)) ?_
            rintro v7 w7 h7
            obtain rfl := h7.first
            refine TI.rs_nil ?_
            refine TI.ro_one ?_
            refine TI.rs_v rfl (op_idx Try.underlying94 Try.sizeOf3 rfl rfl sa_A (by omega) (by omega)) ?_
            refine TI.rs_nil ?_
            refine TI.ro_one ?_
            refine TI.rs_special rfl rfl (fun wq hq => to_storeR (i := 0) (hq.st0 rfl) rfl (Try.sizeOf3 _) rfl rfl rfl rfl hlti hset1 (fun w' S' => hq.made ⟨fun h => (by cases h), fun h => (by cases h)⟩ S')) ?_
            rintro v13 w13 _
            refine TI.rs_nil ?_
            refine TI.ro_nil ?_
            rintro wz hz
            have S := hz.st1 rfl
            refine rw_v (op_idx Try.underlying94 Try.sizeOf3 rfl rfl sa_A (by omega) (by omega)) ?_
            refine rw_storeR (i := 0) S rfl (Try.sizeOf3 _) rfl rfl rfl rfl hltj rfl ?_
            intro wz2 S
            first | refine rw_end ?_ | (refine rw_nil ?_; show CW _ _ _ _ _ _) | refine rw_nil ?_
            rw [hlast] at S
            exact ⟨⟨rfl, rfl, rfl, rfl, rfl, rfl, trivial⟩, S⟩
        · rintro e3 w3 ⟨hsl3, S⟩
          show CW _ _ _ _ _ _
          rw [hsl3.fold]
          repeat refine cw_seq ?_
          refine cw_region ?_
          refine rw_v (op_pure rfl) ?_
          refine rw_v (op_rng rfl (by omega)) ?_
          refine rw_v (op_pure rfl) ?_
          first | refine rw_end ?_ | (refine rw_nil ?_; show CW _ _ _ _ _ _) | refine rw_nil ?_
          exact ⟨d' - 1, by omega, j - 1, by omega, by omega, ⟨rfl, rfl, rfl, rfl, rfl, ie (by omega), trivial⟩, fun x h1 h2 => by
            by_cases e : x = j - 1
            · rw [e]; exact hR
            · exact hgt x (by omega) h2, hstep ▸ S⟩
      · try simp only [decide_eq_true_eq, decide_eq_false_iff_not, beq_iff_eq, bne_iff_ne, beq_eq_false_iff_ne, bne_eq_false_iff_eq, Bool.not_eq_true', Bool.not_eq_false', ne_eq, Decidable.not_not, Int.natCast_inj, Int.ofNat_lt, Int.ofNat_le, gt_iff_lt, ge_iff_le, Int.not_lt, Int.not_le] at hlt
        have hR : R' (p i) (p (j - 1)) = false := by rw [← hcm.1]; exact ltC_f.2 (by omega)
        repeat refine cw_seq ?_
        refine cw_exit ?_
        repeat first | refine exit_then ?_ | refine exit_inb ?_
        show CW _ _ _ _ _ _
        repeat refine cw_seq ?_
        refine cw_region ?_
        refine rw_v (op_pure rfl) ?_
        refine rw_v (op_rng rfl (by omega)) ?_
        refine rw_v (op_pure rfl) ?_
        first | refine rw_end ?_ | (refine rw_nil ?_; show CW _ _ _ _ _ _) | refine rw_nil ?_
        exact ⟨d - 1, by omega, i + 1, o0, by omega, by omega, ⟨rfl, rfl, rfl, rfl, ie (by omega), trivial⟩, by rw [Nat.min_eq_left (by omega)]; exact (hp.wide (Nat.le_refl _) (Nat.le_succ _)).trans hfps, hfin (fun _ => hR), S⟩
    · skip
      repeat refine cw_seq ?_
      refine cw_draw (C := fun wq => Gr w1 wq) [0, 1, 2, 3, 4, 5, 6, 7, 8, 9, 10, 11, 12, 13, 14, 15, 16] [] (by kernel_rfl) (by kernel_rfl) (Gr.drew _) ?_
      simp only [pickL, List.drop_succ_cons, List.drop_zero]
      iterate 2 refine rq_v (op_pure rfl) ?_
      refine rq_v (op_b (b := false) rfl (decide_eq_false (by omega))) ?_
      refine rq_v (op_pure rfl) ?_
      first | refine rq_off rfl ?_ | (refine rq_on rfl ?_; refine rq_v (op_pure rfl) ?_)
      first | refine rq_off rfl ?_ | (refine rq_on rfl ?_; refine rq_v (op_pure rfl) ?_)
      first | refine rq_off rfl ?_ | (refine rq_on rfl ?_; refine rq_v (op_pure rfl) ?_)
      first | refine rq_off rfl ?_ | (refine rq_on rfl ?_; refine rq_v (op_idx Try.underlying94 Try.sizeOf3 rfl rfl sa_A (by omega) (by omega)) ?_)
      first | refine rq_off rfl ?_ | (refine rq_on rfl ?_; refine rq_r (fun wq hq => op_ldR Try.underlying3 rfl rfl ((S.gr hq).rd (i := 0) rfl) (by assumption)) ?_)
      first | refine rq_off rfl ?_ | (refine rq_on rfl ?_; refine rq_v (op_pure rfl) ?_)
      first | refine rq_off rfl ?_ | (refine rq_on rfl ?_; refine rq_v (op_pure rfl) ?_)
      first | refine rq_off rfl ?_ | (refine rq_on rfl ?_; refine rq_v (op_rng rfl (by omega)) ?_)
      first | refine rq_off rfl ?_ | (refine rq_on rfl ?_; refine rq_v (op_idx Try.underlying94 Try.sizeOf3 rfl rfl sa_A (by omega) (by omega)) ?_)
      first | refine rq_off rfl ?_ | (refine rq_on rfl ?_; refine rq_r (fun wq hq => op_ldR Try.underlying3 rfl rfl ((S.gr hq).rd (i := 0) rfl) (by assumption)) ?_)
      refine rq_off rfl ?_
      first | refine rq_off rfl ?_ | (refine rq_on rfl ?_; (first | refine rq_v (op_b (b := true) rfl (decide_eq_true (by omega))) ?_ | refine rq_v (op_b (b := false) rfl (decide_eq_false (by omega))) ?_ | refine rq_v (op_pure rfl) ?_))
      refine rq_v (op_pure rfl) ?_
      refine rq_nil ?_
      intro w4_ g4_
      have S := S.gr g4_
      first | refine rw_end ?_ | (refine rw_nil ?_; show CW _ _ _ _ _ _) | refine rw_nil ?_
      repeat refine cw_seq ?_
      refine cw_false rfl ?_
      repeat refine cw_seq ?_
      refine cw_exit ?_
      repeat first | refine exit_then ?_ | refine exit_inb ?_
      show CW _ _ _ _ _ _
      repeat refine cw_seq ?_
      refine cw_region ?_
      refine rw_v (op_pure rfl) ?_
      refine rw_v (op_rng rfl (by omega)) ?_
      refine rw_v (op_pure rfl) ?_
      first | refine rw_end ?_ | (refine rw_nil ?_; show CW _ _ _ _ _ _) | refine rw_nil ?_
      exact ⟨d - 1, by omega, i + 1, mvL p i j, by omega, by omega, ⟨rfl, rfl, rfl, rfl, ie (by omega), trivial⟩, by rw [Nat.min_eq_left (by omega)]; exact (hp.wide (Nat.le_refl _) (Nat.le_succ _)).trans (mvL_ps (by omega) hji (by omega)), ins_done hw hs (by omega) hji hgt (fun h => absurd h haj), S⟩
  · skip
    repeat refine cw_seq ?_
    refine cw_region ?_
    iterate 2 refine rw_v (op_pure rfl) ?_
    refine rw_v (op_b (b := false) rfl (decide_eq_false (by omega))) ?_
    first | refine rw_end ?_ | (refine rw_nil ?_; show CW _ _ _ _ _ _) | refine rw_nil ?_
    repeat refine cw_seq ?_
    refine cw_false rfl ?_
    repeat refine cw_seq ?_
    refine cw_exit ?_
    repeat first | refine exit_then ?_ | refine exit_inb ?_
    exact res0n ⟨rfl, p, by rw [Nat.min_eq_right (by omega)] at hp0; exact hp0, hs.sub (Nat.le_refl _) (by omega), S.row (i := 0) rfl, S.fr⟩
set_option maxHeartbeats 8000000 in
theorem symMerge_I (hn : n ≤ 1048576) (hw : Wk R') : ∀ (d a m b : Nat) (o : Nat → Nat) (W : World), b - a ≤ d → a < m → m < b → b ≤ n → SO R' o a m → SO R' o m b → XC (ltC cv) R' o a m b → (∀ i, i < n → o i < n) → Cmp (ownA A) W n fid caps valI cv → Row W 3 1 A n c (rowE encI n o) →
    Fn Try.prog 88 [.slice A n c, .int .i64 a, .int .i64 m, .int .i64 b, .func (.func fid) (([] : List Value).toArray) caps.toArray] W (RetOI W A n c R' a b o) := by
  intro d
  induction d with
  | zero => intro a m b o W h1 h2 h3; omega
  | succ d ih =>
    intro a m b o W hd ham hmb hbn hs1 hs2 hX ho hc hA
    have S := St.start1 W (HA.row 3 1 A n c (rowE encI n (o))) hA
    have sa_A : SomeA A := hA.someA (by omega)
    refine Fn_enter Try.func88 rfl Try.results88 Try.ntmps88 (by kernel_rfl) (by kernel_rfl) ?_
    by_cases hm1 : m = a + 1
    · skip
      repeat refine cw_seq ?_
      refine cw_region ?_
      iterate 2 refine rw_v (op_pure rfl) ?_
      refine rw_v (op_rng rfl (by omega)) ?_
      refine rw_v (op_b (b := true) rfl (beq_iff_eq.2 (by omega))) ?_
      first | refine rw_end ?_ | (refine rw_nil ?_; show CW _ _ _ _ _ _) | refine rw_nil ?_
      repeat refine cw_seq ?_
      refine cw_true rfl ?_
      repeat refine cw_seq ?_
      refine cw_region ?_
      iterate 2 refine rw_v (op_pure rfl) ?_
      first | refine rw_end ?_ | (refine rw_nil ?_; show CW _ _ _ _ _ _) | refine rw_nil ?_
      repeat refine cw_seq ?_
      refine cw_region ?_
      iterate 2 refine rw_v (op_pure rfl) ?_
      first | refine rw_end ?_ | (refine rw_nil ?_; show CW _ _ _ _ _ _) | refine rw_nil ?_
      repeat refine cw_seq ?_
      refine cw_block ?_
      repeat refine cw_seq ?_
      refine cw_loop (fun D e w => ∃ i j : Nat, i + D = j ∧ m ≤ i ∧ j ≤ b ∧ SL e [(0, .slice A n c), (1, .int .i64 a), (2, .int .i64 m), (3, .int .i64 b), (4, .func (.func fid) (([] : List Value).toArray) caps.toArray), (10, .int .i64 i), (11, .int .i64 j)] ∧ (∀ x, m ≤ x → x < i → R' (o x) (o a) = true) ∧ (∀ x, j ≤ x → x < b → R' (o x) (o a) = false) ∧ St (ownA A) W w [HA.row 3 1 A n c (rowE encI n (o))]) (b - m)
        ⟨m, b, by omega, by omega, by omega, ⟨rfl, rfl, rfl, rfl, rfl, rfl, rfl, trivial⟩, fun x h1 h2 => by omega, fun x h1 h2 => by omega, S⟩ ?_
      clear S
      rintro D e w ⟨i, j, hij, hmi, hjb, hsl, hlo, hhi, S⟩
      rw [hsl.fold]
      by_cases hlt : i < j
      · have eh : ((i : Int) + j) / 2 = (((i + j) / 2 : Nat) : Int) := by omega
        obtain ⟨h, hh⟩ : ∃ h, h = (i + j) / 2 := ⟨_, rfl⟩
        rw [← hh] at eh
        have hb1 : i ≤ h ∧ h < j := by omega
        have hgi : (rowE encI n o)[((h : Nat) : Int).toNat * 1]? = some (valI (o (h))) := rowE_one (fun _ => rfl) (by omega) rfl
        have hgj : (rowE encI n o)[((a : Nat) : Int).toNat * 1]? = some (valI (o (a))) := rowE_one (fun _ => rfl) (by omega) rfl
        have hcm : ltC cv (o h) (o a) = R' (o h) (o a) := hX a h (by omega) (by omega) (by omega) (by omega)
        repeat refine cw_seq ?_
        refine cw_region ?_
        iterate 2 refine rw_v (op_pure rfl) ?_
        refine rw_v (op_b (b := true) rfl (decide_eq_true (by omega))) ?_
        first | refine rw_end ?_ | (refine rw_nil ?_; show CW _ _ _ _ _ _) | refine rw_nil ?_
        repeat refine cw_seq ?_
        refine cw_true rfl ?_
        repeat refine cw_seq ?_
        refine cw_skip ?_
        try show CW _ _ _ _ _ _
        repeat refine cw_seq ?_
        refine cw_block ?_
        repeat refine cw_seq ?_
        refine cw_region ?_
        iterate 2 refine rw_v (op_pure rfl) ?_
        refine rw_v (op_rng rfl (by omega)) ?_
        refine rw_v (op_conv Try.underlying3 Try.underlying154 rfl (u64_in _ (by omega))) ?_
        refine rw_v (op_half rfl rfl (by omega)) ?_
        refine rw_v (op_conv Try.underlying154 Try.underlying3 rfl (IntWalk.i64_in _ (by omega))) ?_
        rw [eh]
        refine rw_v (op_pure rfl) ?_
        first | refine rw_end ?_ | (refine rw_nil ?_; show CW _ _ _ _ _ _) | refine rw_nil ?_
        repeat refine cw_seq ?_
        refine cw_draw (C := fun wq => Gr w wq) [0, 1, 2, 3, 4, 5, 6, 7, 8, 9, 10] [] (by kernel_rfl) (by kernel_rfl) (Gr.drew _) ?_
        simp only [pickL, List.drop_succ_cons, List.drop_zero]
        iterate 3 refine rq_v (op_pure rfl) ?_
        refine rq_v (op_idx Try.underlying94 Try.sizeOf3 rfl rfl sa_A (by omega) (by omega)) ?_
        refine rq_r (fun wq hq => op_ldR Try.underlying3 rfl rfl ((S.gr hq).rd (i := 0) rfl) hgi) ?_
        iterate 2 refine rq_v (op_pure rfl) ?_
        refine rq_v (op_idx Try.underlying94 Try.sizeOf3 rfl rfl sa_A (by omega) (by omega)) ?_
        refine rq_r (fun wq hq => op_ldR Try.underlying3 rfl rfl ((S.gr hq).rd (i := 0) rfl) hgj) ?_
        refine rq_callv rfl rfl (fun wq hq => (hc wq (S.gr hq).fr (o h) (o a) (ho h (by omega)) (ho a (by omega))).mono (fun _ _ ⟨hv, hg⟩ => ⟨hv, hq.trans hg⟩)) ?_
        first | refine rq_v (op_b (b := true) rfl (decide_eq_true (by omega))) ?_ | refine rq_v (op_b (b := false) rfl (decide_eq_false (by omega))) ?_ | refine rq_v (op_pure rfl) ?_
        refine rq_nil ?_
        intro w1_ g1_
        have S := S.gr g1_
        first | refine rw_end ?_ | (refine rw_nil ?_; show CW _ _ _ _ _ _) | refine rw_nil ?_
        repeat refine cw_seq ?_
        refine cw_cond rfl (fun hl => ?_) (fun hl => ?_)
        · try simp only [decide_eq_true_eq, decide_eq_false_iff_not, beq_iff_eq, bne_iff_ne, beq_eq_false_iff_ne, bne_eq_false_iff_eq, Bool.not_eq_true', Bool.not_eq_false', ne_eq, Decidable.not_not, Int.natCast_inj, Int.ofNat_lt, Int.ofNat_le, gt_iff_lt, ge_iff_le, Int.not_lt, Int.not_le] at hl
          have hR : R' (o h) (o a) = true := by rw [← hcm]; exact ltC_t.2 hl
          repeat refine cw_seq ?_
          refine cw_region ?_
          refine rw_v (op_pure rfl) ?_
          refine rw_v (op_rng rfl (by omega)) ?_
          refine rw_v (op_pure rfl) ?_
          first | refine rw_end ?_ | (refine rw_nil ?_; show CW _ _ _ _ _ _) | refine rw_nil ?_
          exact ⟨j - (h + 1), by omega, h + 1, j, by omega, by omega, by omega, ⟨rfl, rfl, rfl, rfl, rfl, ie (by omega), rfl, trivial⟩, fun x h1 h2 => hs2.low hw h1 (show x ≤ h by omega) (by omega) hR, hhi, S⟩
        · try simp only [decide_eq_true_eq, decide_eq_false_iff_not, beq_iff_eq, bne_iff_ne, beq_eq_false_iff_ne, bne_eq_false_iff_eq, Bool.not_eq_true', Bool.not_eq_false', ne_eq, Decidable.not_not, Int.natCast_inj, Int.ofNat_lt, Int.ofNat_le, gt_iff_lt, ge_iff_le, Int.not_lt, Int.not_le] at hl
          have hR : R' (o h) (o a) = false := by rw [← hcm]; exact ltC_f.2 (by omega)
          repeat refine cw_seq ?_
          refine cw_region ?_
          iterate 2 refine rw_v (op_pure rfl) ?_
          first | refine rw_end ?_ | (refine rw_nil ?_; show CW _ _ _ _ _ _) | refine rw_nil ?_
          exact ⟨h - i, by omega, i, h, by omega, by omega, by omega, ⟨rfl, rfl, rfl, rfl, rfl, rfl, rfl, trivial⟩, hlo, fun x h1 h2 => hs2.high hw (show m ≤ h by omega) h1 h2 hR, S⟩
      · obtain rfl : i = j := by omega
        have hfin := mvR_so (m := 0) hw (by rw [hm1] at hs2; exact hs2) (show a + 1 ≤ i ∧ i ≤ b by omega) (by rw [hm1] at hlo; exact hlo) hhi
        repeat refine cw_seq ?_
        refine cw_region ?_
        iterate 2 refine rw_v (op_pure rfl) ?_
        refine rw_v (op_b (b := false) rfl (decide_eq_false (by omega))) ?_
        first | refine rw_end ?_ | (refine rw_nil ?_; show CW _ _ _ _ _ _) | refine rw_nil ?_
        repeat refine cw_seq ?_
        refine cw_false rfl ?_
        repeat refine cw_seq ?_
        refine cw_exit ?_
        repeat first | refine exit_then ?_ | refine exit_inb ?_
        show CW _ _ _ _ _ _
        repeat refine cw_seq ?_
        refine cw_region ?_
        iterate 2 refine rw_v (op_pure rfl) ?_
        first | refine rw_end ?_ | (refine rw_nil ?_; show CW _ _ _ _ _ _) | refine rw_nil ?_
        repeat refine cw_seq ?_
        refine cw_block ?_
        repeat refine cw_seq ?_
        refine cw_loop (fun D e w => ∃ k : Nat, k + D = i - 1 ∧ a ≤ k ∧ SL e [(0, .slice A n c), (1, .int .i64 a), (2, .int .i64 m), (3, .int .i64 b), (4, .func (.func fid) (([] : List Value).toArray) caps.toArray), (10, .int .i64 i), (13, .int .i64 k)] ∧ St (ownA A) W w [HA.row 3 1 A n c (rowE encI n (mvR o a k))]) (i - 1 - a)
          ⟨a, by omega, by omega, ⟨rfl, rfl, rfl, rfl, rfl, rfl, rfl, trivial⟩, by rw [mvR_zero]; exact S⟩ ?_
        clear S
        rintro D e w ⟨k, hk, hak, hsl, S⟩
        rw [hsl.fold]
        by_cases hlt : k < i - 1
        · have hstep := mvR_step (o := o) (a := a) (k := k) hak
          generalize mvR o a k = o0 at *
          have ek : (k : Int) + 1 = ((k + 1 : Nat) : Int) := by push_cast; rfl
          have hgi : (rowE encI n o0)[((k : Nat) : Int).toNat * 1]? = some (valI (o0 (k))) := rowE_one (fun _ => rfl) (by omega) rfl
          have hgj : (rowE encI n o0)[((k + 1 : Nat) : Int).toNat * 1]? = some (valI (o0 (k + 1))) := rowE_one (fun _ => rfl) (by omega) rfl
          have hlti : ((k : Nat) : Int).toNat * 1 < (rowE encI n o0).length := by rw [rowE_len (k := 1) (fun _ => rfl)]; omega
          have hltj : ((k + 1 : Nat) : Int).toNat * 1 < (rowE encI n (updF o0 (k) (o0 (k + 1)))).length := by rw [rowE_len (k := 1) (fun _ => rfl)]; omega
          have hset1 : setO [HA.row 3 1 A n c (rowE encI n (o0))] 0 (HA.row 3 1 A n c ((rowE encI n o0).set (((k : Nat) : Int).toNat * 1) (valI (o0 (k + 1))))) = some [HA.row 3 1 A n c (rowE encI n (updF o0 (k) (o0 (k + 1))))] := by show some [_] = some [_]; rw [rowE_set1 (fun _ => rfl) (by omega) rfl]
          have hlast : (rowE encI n (updF o0 (k) (o0 (k + 1)))).set (((k + 1 : Nat) : Int).toNat * 1) (valI (o0 (k))) = rowE encI n (swp o0 (k) (k + 1)) := by rw [rowE_set1 (fun _ => rfl) (by omega) rfl, updF_swp]
          repeat refine cw_seq ?_
          refine cw_region ?_
          iterate 2 refine rw_v (op_pure rfl) ?_
          refine rw_v (op_rng rfl (by omega)) ?_
          refine rw_v (op_b (b := true) rfl (decide_eq_true (by omega))) ?_
          first | refine rw_end ?_ | (refine rw_nil ?_; show CW _ _ _ _ _ _) | refine rw_nil ?_
          repeat refine cw_seq ?_
          refine cw_true rfl ?_
          repeat refine cw_seq ?_
          refine cw_skip ?_
          try show CW _ _ _ _ _ _
          repeat refine cw_seq ?_
          refine cw_block ?_
          repeat refine cw_seq ?_
          refine cw_cutQ (M := fun e w => SL e [(0, .slice A n c), (1, .int .i64 a), (2, .int .i64 m), (3, .int .i64 b), (4, .func (.func fid) (([] : List Value).toArray) caps.toArray), (10, .int .i64 i), (13, .int .i64 k)] ∧ St (ownA A) W w [HA.row 3 1 A n c (rowE encI n (swp o0 (k) (k + 1)))]) ?_ ?_
          · skip
            repeat refine cw_seq ?_
            refine TI.cw_tree (C := (SWC (ownA A) W [HA.row 3 1 A n c (rowE encI n (o0))] [HA.row 3 1 A n c (rowE encI n (updF o0 (k) (o0 (k + 1))))] 9 13 15 (valI (o0 (k + 1))) (valI (o0 (k))))) [9, 13, 15] (.one 0 (.one 1 (.one 2 (.one 3 (.one 4 (.one 5 (.one 6 (.one 7 (.one 8 (.one 10 (.one 11 (.one 12 (.two 9 (.one 13 (.one 14 (.one 15 .nil))) 13 (.one 9 (.one 14 (.one 15 .nil)))))))))))))))) [16, 17] (by kernel_rfl) (by kernel_rfl) (SWC.start (S.gr (Gr.drew _))) ?_
            simp only [pickO, pickL, List.drop_succ_cons, List.drop_zero]
            refine TI.ro_one ?_
            refine TI.rs_v rfl (op_pure rfl) ?_
            refine TI.rs_nil ?_
            refine TI.ro_one ?_
            refine TI.rs_v rfl (op_pure rfl) ?_
            refine TI.rs_nil ?_
            refine TI.ro_one ?_
            refine TI.rs_v rfl (op_pure rfl) ?_
            refine TI.rs_nil ?_
            refine TI.ro_one ?_
            refine TI.rs_v rfl (op_pure rfl) ?_
            refine TI.rs_nil ?_
            refine TI.ro_one ?_
            refine TI.rs_v rfl (op_rng rfl (by omega)) ?_
            rw [ek]
            refine TI.rs_nil ?_
            refine TI.ro_one ?_
            refine TI.rs_v rfl (op_pure rfl) ?_
            refine TI.rs_nil ?_
            refine TI.ro_one ?_
            refine TI.rs_v rfl (op_pure rfl) ?_
            refine TI.rs_nil ?_
            refine TI.ro_one ?_
            refine TI.rs_v rfl (op_rng rfl (by omega)) ?_
            rw [ek]
            refine TI.rs_nil ?_
            refine TI.ro_one ?_
            refine TI.rs_v rfl (op_idx Try.underlying94 Try.sizeOf3 rfl rfl sa_A (by omega) (by omega)) ?_
            refine TI.rs_nil ?_
            refine TI.ro_one ?_
            refine TI.rs_v rfl (op_pure rfl) ?_
            refine TI.rs_nil ?_
            refine TI.ro_one ?_
            refine TI.rs_v rfl (op_pure rfl) ?_
            refine TI.rs_nil ?_
            refine TI.ro_one ?_
            refine TI.rs_v rfl (op_idx Try.underlying94 Try.sizeOf3 rfl rfl sa_A (by omega) (by omega)) ?_
            refine TI.rs_nil ?_
            refine TI.ro_two ?_ ?_
            · refine TI.rs_special rfl rfl (fun wq hq => to_r (op_ldR Try.underlying3 rfl rfl ((hq.st0 rfl).rd (i := 0) rfl) hgj) (hq.push rfl rfl ⟨fun _ => rfl, fun h => by cases h⟩)) ?_
              rintro v7 w7 h7
              obtain rfl := h7.first
              refine TI.rs_nil ?_
              refine TI.ro_one ?_
              refine TI.rs_special rfl rfl (fun wq hq => to_r (op_ldR Try.underlying3 rfl rfl ((hq.st0 rfl).rd (i := 0) rfl) hgi) (hq.push rfl rfl ⟨fun h => (by cases h), fun _ => rfl⟩)) ?_
              rintro v11 w11 h11
              obtain rfl := h11.second
              refine TI.rs_nil ?_
              refine TI.ro_one ?_
              refine TI.rs_v rfl (op_idx Try.underlying94 Try.sizeOf3 rfl rfl sa_A (by omega) (by omega)) ?_
              refine TI.rs_nil ?_
              refine TI.ro_one ?_
              refine TI.rs_special rfl rfl (fun wq hq => to_storeR (i := 0) (hq.st0 rfl) rfl (Try.sizeOf3 _) rfl rfl rfl rfl hlti hset1 (fun w' S' => hq.made ⟨fun h => (by cases h), fun h => (by cases h)⟩ S')) ?_
              rintro v13 w13 _
              refine TI.rs_nil ?_
              refine TI.ro_nil ?_
              rintro wz hz
              have S := hz.st1 rfl
              refine rw_v (op_idx Try.underlying94 Try.sizeOf3 rfl rfl sa_A (by omega) (by omega)) ?_
              refine rw_storeR (i := 0) S rfl (Try.sizeOf3 _) rfl rfl rfl rfl hltj rfl ?_
              intro wz2 S
              first | refine rw_end ?_ | (refine rw_nil ?_; show CW _ _ _ _ _ _) | refine rw_nil ?_
              rw [hlast] at S
              exact ⟨⟨rfl, rfl, rfl, rfl, rfl, rfl, rfl, trivial⟩, S⟩
            · refine TI.rs_special rfl rfl (fun wq hq => to_r (op_ldR Try.underlying3 rfl rfl ((hq.st0 rfl).rd (i := 0) rfl) hgi) (hq.push rfl rfl ⟨fun h => (by cases h), fun _ => rfl⟩)) ?_
              rintro v11 w11 h11
              obtain rfl := h11.second
              refine TI.rs_nil ?_
              refine TI.ro_one ?_
              refine TI.rs_special rfl rfl (fun wq hq => to_r (op_ldR Try.underlying3 rfl rfl ((hq.st0 rfl).rd (i := 0) rfl) hgj) (hq.push rfl rfl ⟨fun _ => rfl, fun h => by cases h⟩)) ?_
              rintro v7 w7 h7
              obtain rfl := h7.first
              refine TI.rs_nil ?_
              refine TI.ro_one ?_
              refine TI.rs_v rfl (op_idx Try.underlying94 Try.sizeOf3 rfl rfl sa_A (by omega) (by omega)) ?_
              refine TI.rs_nil ?_
              refine TI.ro_one ?_
              refine TI.rs_special rfl rfl (fun wq hq => to_storeR (i := 0) (hq.st0 rfl) rfl (Try.sizeOf3 _) rfl rfl rfl rfl hlti hset1 (fun w' S' => hq.made ⟨fun h => (by cases h), fun h => (by cases h)⟩ S')) ?_
              rintro v13 w13 _
              refine TI.rs_nil ?_
              refine TI.ro_nil ?_
              rintro wz hz
              have S := hz.st1 rfl
              refine rw_v (op_idx Try.underlying94 Try.sizeOf3 rfl rfl sa_A (by omega) (by omega)) ?_
              refine rw_storeR (i := 0) S rfl (Try.sizeOf3 _) rfl rfl rfl rfl hltj rfl ?_
              intro wz2 S
              first | refine rw_end ?_ | (refine rw_nil ?_; show CW _ _ _ _ _ _) | refine rw_nil ?_
              rw [hlast] at S
              exact ⟨⟨rfl, rfl, rfl, rfl, rfl, rfl, rfl, trivial⟩, S⟩
          · rintro e3 w3 ⟨hsl3, S⟩
            show CW _ _ _ _ _ _
            rw [hsl3.fold]
            repeat refine cw_seq ?_
            refine cw_region ?_
            refine rw_v (op_pure rfl) ?_
            refine rw_v (op_rng rfl (by omega)) ?_
            refine rw_v (op_pure rfl) ?_
            first | refine rw_end ?_ | (refine rw_nil ?_; show CW _ _ _ _ _ _) | refine rw_nil ?_
            exact ⟨D - 1, by omega, k + 1, by omega, by omega, ⟨rfl, rfl, rfl, rfl, rfl, rfl, ie (by omega), trivial⟩, hstep ▸ S⟩
        · obtain rfl : k = i - 1 := by omega
          repeat refine cw_seq ?_
          refine cw_region ?_
          iterate 2 refine rw_v (op_pure rfl) ?_
          refine rw_v (op_rng rfl (by omega)) ?_
          refine rw_v (op_b (b := false) rfl (decide_eq_false (by omega))) ?_
          first | refine rw_end ?_ | (refine rw_nil ?_; show CW _ _ _ _ _ _) | refine rw_nil ?_
          repeat refine cw_seq ?_
          refine cw_false rfl ?_
          repeat refine cw_seq ?_
          refine cw_exit ?_
          repeat first | refine exit_then ?_ | refine exit_inb ?_
          show CW _ _ _ _ _ _
          repeat refine cw_seq ?_
          refine cw_ret ?_
          repeat first | refine ret_then ?_ | refine ret_inb ?_
          exact res0 ⟨rfl, _, mvR_ps (by omega) (Nat.le_refl _) (by omega), hfin, S.row (i := 0) rfl, S.fr⟩
    · by_cases hb1 : b = m + 1
      · skip
        repeat refine cw_seq ?_
        refine cw_region ?_
        iterate 2 refine rw_v (op_pure rfl) ?_
        refine rw_v (op_rng rfl (by omega)) ?_
        refine rw_v (op_b (b := false) rfl (beq_eq_false_iff_ne.2 (by omega))) ?_
        first | refine rw_end ?_ | (refine rw_nil ?_; show CW _ _ _ _ _ _) | refine rw_nil ?_
        repeat refine cw_seq ?_
        refine cw_false rfl ?_
        repeat refine cw_seq ?_
        refine cw_skip ?_
        try show CW _ _ _ _ _ _
        repeat refine cw_seq ?_
        refine cw_region ?_
        iterate 2 refine rw_v (op_pure rfl) ?_
        refine rw_v (op_rng rfl (by omega)) ?_
        refine rw_v (op_b (b := true) rfl (beq_iff_eq.2 (by omega))) ?_
        first | refine rw_end ?_ | (refine rw_nil ?_; show CW _ _ _ _ _ _) | refine rw_nil ?_
        repeat refine cw_seq ?_
        refine cw_true rfl ?_
        repeat refine cw_seq ?_
        refine cw_region ?_
        iterate 2 refine rw_v (op_pure rfl) ?_
        first | refine rw_end ?_ | (refine rw_nil ?_; show CW _ _ _ _ _ _) | refine rw_nil ?_
        repeat refine cw_seq ?_
        refine cw_region ?_
        iterate 2 refine rw_v (op_pure rfl) ?_
        first | refine rw_end ?_ | (refine rw_nil ?_; show CW _ _ _ _ _ _) | refine rw_nil ?_
        repeat refine cw_seq ?_
        refine cw_block ?_
        repeat refine cw_seq ?_
        refine cw_loop (fun D e w => ∃ i j : Nat, i + D = j ∧ a ≤ i ∧ j ≤ m ∧ SL e [(0, .slice A n c), (1, .int .i64 a), (2, .int .i64 m), (3, .int .i64 b), (4, .func (.func fid) (([] : List Value).toArray) caps.toArray), (14, .int .i64 i), (15, .int .i64 j)] ∧ (∀ x, a ≤ x → x < i → R' (o m) (o x) = false) ∧ (∀ x, j ≤ x → x < m → R' (o m) (o x) = true) ∧ St (ownA A) W w [HA.row 3 1 A n c (rowE encI n (o))]) (m - a)
          ⟨a, m, by omega, by omega, by omega, ⟨rfl, rfl, rfl, rfl, rfl, rfl, rfl, trivial⟩, fun x h1 h2 => by omega, fun x h1 h2 => by omega, S⟩ ?_
        clear S
        rintro D e w ⟨i, j, hij, hmi, hjb, hsl, hlo, hhi, S⟩
        rw [hsl.fold]
        by_cases hlt : i < j
        · have eh : ((i : Int) + j) / 2 = (((i + j) / 2 : Nat) : Int) := by omega
          obtain ⟨h, hh⟩ : ∃ h, h = (i + j) / 2 := ⟨_, rfl⟩
          rw [← hh] at eh
          have hb2 : i ≤ h ∧ h < j := by omega
          have hgi : (rowE encI n o)[((m : Nat) : Int).toNat * 1]? = some (valI (o (m))) := rowE_one (fun _ => rfl) (by omega) rfl
          have hgj : (rowE encI n o)[((h : Nat) : Int).toNat * 1]? = some (valI (o (h))) := rowE_one (fun _ => rfl) (by omega) rfl
          have hcm : ltC cv (o m) (o h) = R' (o m) (o h) := hX h m (by omega) (by omega) (by omega) (by omega)
          repeat refine cw_seq ?_
          refine cw_region ?_
          iterate 2 refine rw_v (op_pure rfl) ?_
          refine rw_v (op_b (b := true) rfl (decide_eq_true (by omega))) ?_
          first | refine rw_end ?_ | (refine rw_nil ?_; show CW _ _ _ _ _ _) | refine rw_nil ?_
          repeat refine cw_seq ?_
          refine cw_true rfl ?_
          repeat refine cw_seq ?_
          refine cw_skip ?_
          try show CW _ _ _ _ _ _
          repeat refine cw_seq ?_
          refine cw_block ?_
          repeat refine cw_seq ?_
          refine cw_region ?_
          iterate 2 refine rw_v (op_pure rfl) ?_
          refine rw_v (op_rng rfl (by omega)) ?_
          refine rw_v (op_conv Try.underlying3 Try.underlying154 rfl (u64_in _ (by omega))) ?_
          refine rw_v (op_half rfl rfl (by omega)) ?_
          refine rw_v (op_conv Try.underlying154 Try.underlying3 rfl (IntWalk.i64_in _ (by omega))) ?_
          rw [eh]
          refine rw_v (op_pure rfl) ?_
          first | refine rw_end ?_ | (refine rw_nil ?_; show CW _ _ _ _ _ _) | refine rw_nil ?_
          repeat refine cw_seq ?_
          refine cw_draw (C := fun wq => Gr w wq) [0, 1, 2, 3, 4, 5, 6, 7, 8, 9, 10, 11] [] (by kernel_rfl) (by kernel_rfl) (Gr.drew _) ?_
          simp only [pickL, List.drop_succ_cons, List.drop_zero]
          iterate 3 refine rq_v (op_pure rfl) ?_
          refine rq_v (op_idx Try.underlying94 Try.sizeOf3 rfl rfl sa_A (by omega) (by omega)) ?_
          refine rq_r (fun wq hq => op_ldR Try.underlying3 rfl rfl ((S.gr hq).rd (i := 0) rfl) hgi) ?_
          iterate 2 refine rq_v (op_pure rfl) ?_
          refine rq_v (op_idx Try.underlying94 Try.sizeOf3 rfl rfl sa_A (by omega) (by omega)) ?_
          refine rq_r (fun wq hq => op_ldR Try.underlying3 rfl rfl ((S.gr hq).rd (i := 0) rfl) hgj) ?_
          refine rq_callv rfl rfl (fun wq hq => (hc wq (S.gr hq).fr (o m) (o h) (ho m (by omega)) (ho h (by omega))).mono (fun _ _ ⟨hv, hg⟩ => ⟨hv, hq.trans hg⟩)) ?_
          first | refine rq_v (op_b (b := true) rfl (decide_eq_true (by omega))) ?_ | refine rq_v (op_b (b := false) rfl (decide_eq_false (by omega))) ?_ | refine rq_v (op_pure rfl) ?_
          refine rq_v (op_pure rfl) ?_
          refine rq_nil ?_
          intro w4_ g4_
          have S := S.gr g4_
          first | refine rw_end ?_ | (refine rw_nil ?_; show CW _ _ _ _ _ _) | refine rw_nil ?_
          repeat refine cw_seq ?_
          refine cw_cond rfl (fun hl => ?_) (fun hl => ?_)
          · try simp only [decide_eq_true_eq, decide_eq_false_iff_not, beq_iff_eq, bne_iff_ne, beq_eq_false_iff_ne, bne_eq_false_iff_eq, Bool.not_eq_true', Bool.not_eq_false', ne_eq, Decidable.not_not, Int.natCast_inj, Int.ofNat_lt, Int.ofNat_le, gt_iff_lt, ge_iff_le, Int.not_lt, Int.not_le] at hl
            have hR : R' (o m) (o h) = false := by rw [← hcm]; exact ltC_f.2 (by omega)
            repeat refine cw_seq ?_
            refine cw_region ?_
            refine rw_v (op_pure rfl) ?_
            refine rw_v (op_rng rfl (by omega)) ?_
            refine rw_v (op_pure rfl) ?_
            first | refine rw_end ?_ | (refine rw_nil ?_; show CW _ _ _ _ _ _) | refine rw_nil ?_
            exact ⟨j - (h + 1), by omega, h + 1, j, by omega, by omega, by omega, ⟨rfl, rfl, rfl, rfl, rfl, ie (by omega), rfl, trivial⟩, fun x h1 h2 => hs1.over hw h1 (show x ≤ h by omega) (by omega) hR, hhi, S⟩
          · try simp only [decide_eq_true_eq, decide_eq_false_iff_not, beq_iff_eq, bne_iff_ne, beq_eq_false_iff_ne, bne_eq_false_iff_eq, Bool.not_eq_true', Bool.not_eq_false', ne_eq, Decidable.not_not, Int.natCast_inj, Int.ofNat_lt, Int.ofNat_le, gt_iff_lt, ge_iff_le, Int.not_lt, Int.not_le] at hl
            have hR : R' (o m) (o h) = true := by rw [← hcm]; exact ltC_t.2 (by omega)
            repeat refine cw_seq ?_
            refine cw_region ?_
            iterate 2 refine rw_v (op_pure rfl) ?_
            first | refine rw_end ?_ | (refine rw_nil ?_; show CW _ _ _ _ _ _) | refine rw_nil ?_
            exact ⟨h - i, by omega, i, h, by omega, by omega, by omega, ⟨rfl, rfl, rfl, rfl, rfl, rfl, rfl, trivial⟩, hlo, fun x h1 h2 => hs1.under hw (show a ≤ h by omega) h1 h2 hR, S⟩
        · obtain rfl : i = j := by omega
          have hfin := mvL_so (i := i) hw hs1 (by omega) hlo hhi
          rw [← hb1] at hfin
          repeat refine cw_seq ?_
          refine cw_region ?_
          iterate 2 refine rw_v (op_pure rfl) ?_
          refine rw_v (op_b (b := false) rfl (decide_eq_false (by omega))) ?_
          first | refine rw_end ?_ | (refine rw_nil ?_; show CW _ _ _ _ _ _) | refine rw_nil ?_
          repeat refine cw_seq ?_
          refine cw_false rfl ?_
          repeat refine cw_seq ?_
          refine cw_exit ?_
          repeat first | refine exit_then ?_ | refine exit_inb ?_
          show CW _ _ _ _ _ _
          repeat refine cw_seq ?_
          refine cw_region ?_
          iterate 2 refine rw_v (op_pure rfl) ?_
          first | refine rw_end ?_ | (refine rw_nil ?_; show CW _ _ _ _ _ _) | refine rw_nil ?_
          repeat refine cw_seq ?_
          refine cw_block ?_
          repeat refine cw_seq ?_
          refine cw_loop (fun D e w => ∃ k : Nat, k = i + D ∧ k ≤ m ∧ SL e [(0, .slice A n c), (1, .int .i64 a), (2, .int .i64 m), (3, .int .i64 b), (4, .func (.func fid) (([] : List Value).toArray) caps.toArray), (14, .int .i64 i), (17, .int .i64 k)] ∧ St (ownA A) W w [HA.row 3 1 A n c (rowE encI n (mvL o m k))]) (m - i)
            ⟨m, by omega, by omega, ⟨rfl, rfl, rfl, rfl, rfl, rfl, rfl, trivial⟩, by rw [mvL_zero]; exact S⟩ ?_
          clear S
          rintro D e w ⟨k, hk, hkm, hsl, S⟩
          rw [hsl.fold]
          by_cases hlt : i < k
          · have hstep := mvL_step (o := o) (m := m) (k := k) hkm (by omega)
            generalize mvL o m k = o0 at *
            have ek : (k : Int) - 1 = ((k - 1 : Nat) : Int) := by omega
            have hgi : (rowE encI n o0)[((k : Nat) : Int).toNat * 1]? = some (valI (o0 (k))) := rowE_one (fun _ => rfl) (by omega) rfl
            have hgj : (rowE encI n o0)[((k - 1 : Nat) : Int).toNat * 1]? = some (valI (o0 (k - 1))) := rowE_one (fun _ => rfl) (by omega) rfl
            have hlti : ((k : Nat) : Int).toNat * 1 < (rowE encI n o0).length := by rw [rowE_len (k := 1) (fun _ => rfl)]; omega
            have hltj : ((k - 1 : Nat) : Int).toNat * 1 < (rowE encI n (updF o0 (k) (o0 (k - 1)))).length := by rw [rowE_len (k := 1) (fun _ => rfl)]; omega
            have hset1 : setO [HA.row 3 1 A n c (rowE encI n (o0))] 0 (HA.row 3 1 A n c ((rowE encI n o0).set (((k : Nat) : Int).toNat * 1) (valI (o0 (k - 1))))) = some [HA.row 3 1 A n c (rowE encI n (updF o0 (k) (o0 (k - 1))))] := by show some [_] = some [_]; rw [rowE_set1 (fun _ => rfl) (by omega) rfl]
            have hlast : (rowE encI n (updF o0 (k) (o0 (k - 1)))).set (((k - 1 : Nat) : Int).toNat * 1) (valI (o0 (k))) = rowE encI n (swp o0 (k) (k - 1)) := by rw [rowE_set1 (fun _ => rfl) (by omega) rfl, updF_swp]
            repeat refine cw_seq ?_
            refine cw_region ?_
            iterate 2 refine rw_v (op_pure rfl) ?_
            refine rw_v (op_b (b := true) rfl (decide_eq_true (by omega))) ?_
            first | refine rw_end ?_ | (refine rw_nil ?_; show CW _ _ _ _ _ _) | refine rw_nil ?_
            repeat refine cw_seq ?_
            refine cw_true rfl ?_
            repeat refine cw_seq ?_
            refine cw_skip ?_
            try show CW _ _ _ _ _ _
            repeat refine cw_seq ?_
            refine cw_block ?_
            repeat refine cw_seq ?_
            refine cw_cutQ (M := fun e w => SL e [(0, .slice A n c), (1, .int .i64 a), (2, .int .i64 m), (3, .int .i64 b), (4, .func (.func fid) (([] : List Value).toArray) caps.toArray), (14, .int .i64 i), (17, .int .i64 k)] ∧ St (ownA A) W w [HA.row 3 1 A n c (rowE encI n (swp o0 (k) (k - 1)))]) ?_ ?_
            · skip
              repeat refine cw_seq ?_
              refine TI.cw_tree (C := (SWC (ownA A) W [HA.row 3 1 A n c (rowE encI n (o0))] [HA.row 3 1 A n c (rowE encI n (updF o0 (k) (o0 (k - 1))))] 9 13 15 (valI (o0 (k - 1))) (valI (o0 (k))))) [9, 13, 15] (.one 0 (.one 1 (.one 2 (.one 3 (.one 4 (.one 5 (.one 6 (.one 7 (.one 8 (.one 10 (.one 11 (.one 12 (.two 9 (.one 13 (.one 14 (.one 15 .nil))) 13 (.one 9 (.one 14 (.one 15 .nil)))))))))))))))) [16, 17] (by kernel_rfl) (by kernel_rfl) (SWC.start (S.gr (Gr.drew _))) ?_
              simp only [pickO, pickL, List.drop_succ_cons, List.drop_zero]
              refine TI.ro_one ?_
              refine TI.rs_v rfl (op_pure rfl) ?_
              refine TI.rs_nil ?_
              refine TI.ro_one ?_
              refine TI.rs_v rfl (op_pure rfl) ?_
              refine TI.rs_nil ?_
              refine TI.ro_one ?_
              refine TI.rs_v rfl (op_pure rfl) ?_
              refine TI.rs_nil ?_
              refine TI.ro_one ?_
              refine TI.rs_v rfl (op_pure rfl) ?_
              refine TI.rs_nil ?_
              refine TI.ro_one ?_
              refine TI.rs_v rfl (op_rng rfl (by omega)) ?_
              rw [ek]
              refine TI.rs_nil ?_
              refine TI.ro_one ?_
              refine TI.rs_v rfl (op_pure rfl) ?_
              refine TI.rs_nil ?_
              refine TI.ro_one ?_
              refine TI.rs_v rfl (op_pure rfl) ?_
              refine TI.rs_nil ?_
              refine TI.ro_one ?_
              refine TI.rs_v rfl (op_rng rfl (by omega)) ?_
              rw [ek]
              refine TI.rs_nil ?_
              refine TI.ro_one ?_
              refine TI.rs_v rfl (op_idx Try.underlying94 Try.sizeOf3 rfl rfl sa_A (by omega) (by omega)) ?_
              refine TI.rs_nil ?_
              refine TI.ro_one ?_
              refine TI.rs_v rfl (op_pure rfl) ?_
              refine TI.rs_nil ?_
              refine TI.ro_one ?_
              refine TI.rs_v rfl (op_pure rfl) ?_
              refine TI.rs_nil ?_
              refine TI.ro_one ?_
              refine TI.rs_v rfl (op_idx Try.underlying94 Try.sizeOf3 rfl rfl sa_A (by omega) (by omega)) ?_
              refine TI.rs_nil ?_
              refine TI.ro_two ?_ ?_
              · refine TI.rs_special rfl rfl (fun wq hq => to_r (op_ldR Try.underlying3 rfl rfl ((hq.st0 rfl).rd (i := 0) rfl) hgj) (hq.push rfl rfl ⟨fun _ => rfl, fun h => by cases h⟩)) ?_
                rintro v7 w7 h7
                obtain rfl := h7.first
                refine TI.rs_nil ?_
                refine TI.ro_one ?_
                refine TI.rs_special rfl rfl (fun wq hq => to_r (op_ldR Try.underlying3 rfl rfl ((hq.st0 rfl).rd (i := 0) rfl) hgi) (hq.push rfl rfl ⟨fun h => (by cases h), fun _ => rfl⟩)) ?_
                rintro v11 w11 h11
                obtain rfl := h11.second
                refine TI.rs_nil ?_
                refine TI.ro_one ?_
                refine TI.rs_v rfl (op_idx Try.underlying94 Try.sizeOf3 rfl rfl sa_A (by omega) (by omega)) ?_
                refine TI.rs_nil ?_
                refine TI.ro_one ?_
                refine TI.rs_special rfl rfl (fun wq hq => to_storeR (i := 0) (hq.st0 rfl) rfl (Try.sizeOf3 _) rfl rfl rfl rfl hlti hset1 (fun w' S' => hq.made ⟨fun h => (by cases h), fun h => (by cases h)⟩ S')) ?_
                rintro v13 w13 _
                refine TI.rs_nil ?_
                refine TI.ro_nil ?_
                rintro wz hz
                have S := hz.st1 rfl
                refine rw_v (op_idx Try.underlying94 Try.sizeOf3 rfl rfl sa_A (by omega) (by omega)) ?_
                refine rw_storeR (i := 0) S rfl (Try.sizeOf3 _) rfl rfl rfl rfl hltj rfl ?_
                intro wz2 S
                first | refine rw_end ?_ | (refine rw_nil ?_; show CW _ _ _ _ _ _) | refine rw_nil ?_
                rw [hlast] at S
                exact ⟨⟨rfl, rfl, rfl, rfl, rfl, rfl, rfl, trivial⟩, S⟩
              · refine TI.rs_special rfl rfl (fun wq hq => to_r (op_ldR Try.underlying3 rfl rfl ((hq.st0 rfl).rd (i := 0) rfl) hgi) (hq.push rfl rfl ⟨fun h => (by cases h), fun _ => rfl⟩)) ?_
                rintro v11 w11 h11
                obtain rfl := h11.second
                refine TI.rs_nil ?_
                refine TI.ro_one ?_
                refine TI.rs_special rfl rfl (fun wq hq => to_r (op_ldR Try.underlying3 rfl rfl ((hq.st0 rfl).rd (i := 0) rfl) hgj) (hq.push rfl rfl ⟨fun _ => rfl, fun h => by cases h⟩)) ?_
                rintro v7 w7 h7
                obtain rfl := h7.first
                refine TI.rs_nil ?_
                refine TI.ro_one ?_
                refine TI.rs_v rfl (op_idx Try.underlying94 Try.sizeOf3 rfl rfl sa_A (by omega) (by omega)) ?_
                refine TI.rs_nil ?_
                refine TI.ro_one ?_
                refine TI.rs_special rfl rfl (fun wq hq => to_storeR (i := 0) (hq.st0 rfl) rfl (Try.sizeOf3 _) rfl rfl rfl rfl hlti hset1 (fun w' S' => hq.made ⟨fun h => (by cases h), fun h => (by cases h)⟩ S')) ?_
                rintro v13 w13 _
                refine TI.rs_nil ?_
                refine TI.ro_nil ?_
                rintro wz hz
                have S := hz.st1 rfl
                refine rw_v (op_idx Try.underlying94 Try.sizeOf3 rfl rfl sa_A (by omega) (by omega)) ?_
                refine rw_storeR (i := 0) S rfl (Try.sizeOf3 _) rfl rfl rfl rfl hltj rfl ?_
                intro wz2 S
                first | refine rw_end ?_ | (refine rw_nil ?_; show CW _ _ _ _ _ _) | refine rw_nil ?_
                rw [hlast] at S
                exact ⟨⟨rfl, rfl, rfl, rfl, rfl, rfl, rfl, trivial⟩, S⟩
            · rintro e3 w3 ⟨hsl3, S⟩
              show CW _ _ _ _ _ _
              rw [hsl3.fold]
              repeat refine cw_seq ?_
              refine cw_region ?_
              refine rw_v (op_pure rfl) ?_
              refine rw_v (op_rng rfl (by omega)) ?_
              refine rw_v (op_pure rfl) ?_
              first | refine rw_end ?_ | (refine rw_nil ?_; show CW _ _ _ _ _ _) | refine rw_nil ?_
              exact ⟨D - 1, by omega, k - 1, by omega, by omega, ⟨rfl, rfl, rfl, rfl, rfl, rfl, ie (by omega), trivial⟩, hstep ▸ S⟩
          · obtain rfl : k = i := by omega
            repeat refine cw_seq ?_
            refine cw_region ?_
            iterate 2 refine rw_v (op_pure rfl) ?_
            refine rw_v (op_b (b := false) rfl (decide_eq_false (by omega))) ?_
            first | refine rw_end ?_ | (refine rw_nil ?_; show CW _ _ _ _ _ _) | refine rw_nil ?_
            repeat refine cw_seq ?_
            refine cw_false rfl ?_
            repeat refine cw_seq ?_
            refine cw_exit ?_
            repeat first | refine exit_then ?_ | refine exit_inb ?_
            show CW _ _ _ _ _ _
            repeat refine cw_seq ?_
            refine cw_ret ?_
            repeat first | refine ret_then ?_ | refine ret_inb ?_
            exact res0 ⟨rfl, _, mvL_ps (by omega) (by omega) (by omega), hfin, S.row (i := 0) rfl, S.fr⟩
      · have eh : ((a : Int) + b) / 2 = (((a + b) / 2 : Nat) : Int) := by omega
        obtain ⟨mid, hmid⟩ : ∃ mid, mid = (a + b) / 2 := ⟨_, rfl⟩
        rw [← hmid] at eh
        have en : (mid : Int) + m = ((mid + m : Nat) : Int) := by push_cast; rfl
        obtain ⟨lo, hi, hlo, hhi⟩ : ∃ lo hi : Nat, (lo : Int) = (if mid < m then ((mid + m : Nat) : Int) - b else a) ∧ (hi : Int) = (if mid < m then (mid : Int) else m) := by
          by_cases h : mid < m
          · exact ⟨mid + m - b, mid, by rw [if_pos h]; omega, by rw [if_pos h]⟩
          · exact ⟨a, m, by rw [if_neg h], by rw [if_neg h]⟩
        have hlohi : (mid < m ∧ lo = mid + m - b ∧ hi = mid) ∨ (m ≤ mid ∧ lo = a ∧ hi = m) := by
          by_cases h : mid < m
          · rw [if_pos h] at hlo hhi; left; omega
          · rw [if_neg h] at hlo hhi; right; omega
        have hbase : a ≤ lo ∧ lo < hi ∧ hi ≤ m ∧ hi ≤ mid ∧ a < mid ∧ mid < b := by omega
        clear hlo hhi
        repeat refine cw_seq ?_
        refine cw_region ?_
        iterate 2 refine rw_v (op_pure rfl) ?_
        refine rw_v (op_rng rfl (by omega)) ?_
        refine rw_v (op_b (b := false) rfl (beq_eq_false_iff_ne.2 (by omega))) ?_
        first | refine rw_end ?_ | (refine rw_nil ?_; show CW _ _ _ _ _ _) | refine rw_nil ?_
        repeat refine cw_seq ?_
        refine cw_false rfl ?_
        repeat refine cw_seq ?_
        refine cw_skip ?_
        try show CW _ _ _ _ _ _
        repeat refine cw_seq ?_
        refine cw_region ?_
        iterate 2 refine rw_v (op_pure rfl) ?_
        refine rw_v (op_rng rfl (by omega)) ?_
        refine rw_v (op_b (b := false) rfl (beq_eq_false_iff_ne.2 (by omega))) ?_
        first | refine rw_end ?_ | (refine rw_nil ?_; show CW _ _ _ _ _ _) | refine rw_nil ?_
        repeat refine cw_seq ?_
        refine cw_false rfl ?_
        repeat refine cw_seq ?_
        refine cw_skip ?_
        try show CW _ _ _ _ _ _
        repeat refine cw_seq ?_
        refine cw_region ?_
        iterate 2 refine rw_v (op_pure rfl) ?_
        refine rw_v (op_rng rfl (by omega)) ?_
        refine rw_v (op_conv Try.underlying3 Try.underlying154 rfl (u64_in _ (by omega))) ?_
        refine rw_v (op_half rfl rfl (by omega)) ?_
        refine rw_v (op_conv Try.underlying154 Try.underlying3 rfl (IntWalk.i64_in _ (by omega))) ?_
        rw [eh]
        refine rw_v (op_pure rfl) ?_
        first | refine rw_end ?_ | (refine rw_nil ?_; show CW _ _ _ _ _ _) | refine rw_nil ?_
        repeat refine cw_seq ?_
        refine cw_region ?_
        iterate 2 refine rw_v (op_pure rfl) ?_
        refine rw_v (op_rng rfl (by omega)) ?_
        rw [en]
        refine rw_v (op_pure rfl) ?_
        first | refine rw_end ?_ | (refine rw_nil ?_; show CW _ _ _ _ _ _) | refine rw_nil ?_
        repeat refine cw_seq ?_
        refine cw_region ?_
        iterate 2 refine rw_v (op_pure rfl) ?_
        first | refine rw_end ?_ | (refine rw_nil ?_; show CW _ _ _ _ _ _) | refine rw_nil ?_
        repeat refine cw_seq ?_
        refine cw_region ?_
        iterate 2 refine rw_v (op_pure rfl) ?_
        first | refine rw_v (op_b (b := true) rfl (decide_eq_true (by omega))) ?_ | refine rw_v (op_b (b := false) rfl (decide_eq_false (by omega))) ?_ | refine rw_v (op_pure rfl) ?_
        first | refine rw_end ?_ | (refine rw_nil ?_; show CW _ _ _ _ _ _) | refine rw_nil ?_
        repeat refine cw_seq ?_
        refine cw_cutT (M := fun e w => SL e [(0, .slice A n c), (1, .int .i64 a), (2, .int .i64 m), (3, .int .i64 b), (4, .func (.func fid) (([] : List Value).toArray) caps.toArray), (18, .int .i64 mid), (19, .int .i64 (mid + m : Nat)), (20, .int .i64 lo), (21, .int .i64 hi)] ∧ St (ownA A) W w [HA.row 3 1 A n c (rowE encI n (o))]) ?_ ?_
        · skip
          repeat refine cw_seq ?_
          refine cw_cond rfl (fun hg => ?_) (fun hg => ?_)
          · try simp only [decide_eq_true_eq, decide_eq_false_iff_not, beq_iff_eq, bne_iff_ne, beq_eq_false_iff_ne, bne_eq_false_iff_eq, Bool.not_eq_true', Bool.not_eq_false', ne_eq, Decidable.not_not, Int.natCast_inj, Int.ofNat_lt, Int.ofNat_le, gt_iff_lt, ge_iff_le, Int.not_lt, Int.not_le] at hg
            repeat refine cw_seq ?_
            refine cw_region ?_
            iterate 2 refine rw_v (op_pure rfl) ?_
            refine rw_v (op_rng rfl (by omega)) ?_
            refine rw_v (op_pure rfl) ?_
            first | refine rw_end ?_ | (refine rw_nil ?_; show CW _ _ _ _ _ _) | refine rw_nil ?_
            repeat refine cw_seq ?_
            refine cw_region ?_
            iterate 2 refine rw_v (op_pure rfl) ?_
            first | refine rw_end ?_ | (refine rw_nil ?_; show CW _ _ _ _ _ _) | refine rw_nil ?_
            exact ⟨⟨rfl, rfl, rfl, rfl, rfl, rfl, rfl, ie (by omega), ie (by omega), trivial⟩, S⟩
          · try simp only [decide_eq_true_eq, decide_eq_false_iff_not, beq_iff_eq, bne_iff_ne, beq_eq_false_iff_ne, bne_eq_false_iff_eq, Bool.not_eq_true', Bool.not_eq_false', ne_eq, Decidable.not_not, Int.natCast_inj, Int.ofNat_lt, Int.ofNat_le, gt_iff_lt, ge_iff_le, Int.not_lt, Int.not_le] at hg
            repeat refine cw_seq ?_
            refine cw_region ?_
            iterate 2 refine rw_v (op_pure rfl) ?_
            first | refine rw_end ?_ | (refine rw_nil ?_; show CW _ _ _ _ _ _) | refine rw_nil ?_
            repeat refine cw_seq ?_
            refine cw_region ?_
            iterate 2 refine rw_v (op_pure rfl) ?_
            first | refine rw_end ?_ | (refine rw_nil ?_; show CW _ _ _ _ _ _) | refine rw_nil ?_
            exact ⟨⟨rfl, rfl, rfl, rfl, rfl, rfl, rfl, ie (by omega), ie (by omega), trivial⟩, S⟩
        · rintro e w ⟨hsl, S⟩
          rw [hsl.fold]
          have ep : ((mid + m : Nat) : Int) - 1 = ((mid + m - 1 : Nat) : Int) := by omega
          repeat refine cw_seq ?_
          refine cw_region ?_
          refine rw_v (op_pure rfl) ?_
          refine rw_v (op_rng rfl (by omega)) ?_
          rw [ep]
          refine rw_v (op_pure rfl) ?_
          first | refine rw_end ?_ | (refine rw_nil ?_; show CW _ _ _ _ _ _) | refine rw_nil ?_
          repeat refine cw_seq ?_
          refine cw_block ?_
          repeat refine cw_seq ?_
          refine cw_loop (fun D e w => ∃ s r : Nat, s + D = r ∧ lo ≤ s ∧ r ≤ hi ∧ SL e [(0, .slice A n c), (1, .int .i64 a), (2, .int .i64 m), (3, .int .i64 b), (4, .func (.func fid) (([] : List Value).toArray) caps.toArray), (18, .int .i64 mid), (19, .int .i64 (mid + m : Nat)), (20, .int .i64 s), (21, .int .i64 r), (22, .int .i64 (mid + m - 1 : Nat))] ∧ (lo < s → R' (o (mid + m - s)) (o (s - 1)) = false) ∧ (r < hi → R' (o (mid + m - 1 - r)) (o r) = true) ∧ St (ownA A) W w [HA.row 3 1 A n c (rowE encI n (o))]) (hi - lo)
            ⟨lo, hi, by omega, by omega, by omega, ⟨rfl, rfl, rfl, rfl, rfl, rfl, rfl, rfl, rfl, rfl, trivial⟩, fun h => by omega, fun h => by omega, S⟩ ?_
          clear S
          rintro D e w ⟨s, r, hsr, hlos, hrhi, hsl, hv1, hv2, S⟩
          rw [hsl.fold]
          by_cases hlt : s < r
          · have eh2 : ((s : Int) + r) / 2 = (((s + r) / 2 : Nat) : Int) := by omega
            obtain ⟨h, hh⟩ : ∃ h, h = (s + r) / 2 := ⟨_, rfl⟩
            rw [← hh] at eh2
            have hb3 : s ≤ h ∧ h < r := by omega
            obtain ⟨q, hq0⟩ : ∃ q, q = mid + m - 1 - h := ⟨_, rfl⟩
            have eq1 : ((mid + m - 1 : Nat) : Int) - h = (q : Int) := by omega
            have hq1 : m ≤ q ∧ q < b := by omega
            have hgi : (rowE encI n o)[((q : Nat) : Int).toNat * 1]? = some (valI (o (q))) := rowE_one (fun _ => rfl) (by omega) rfl
            have hgj : (rowE encI n o)[((h : Nat) : Int).toNat * 1]? = some (valI (o (h))) := rowE_one (fun _ => rfl) (by omega) rfl
            have hcm : ltC cv (o q) (o h) = R' (o q) (o h) := hX h q (by omega) (by omega) (by omega) (by omega)
            repeat refine cw_seq ?_
            refine cw_region ?_
            iterate 2 refine rw_v (op_pure rfl) ?_
            refine rw_v (op_b (b := true) rfl (decide_eq_true (by omega))) ?_
            first | refine rw_end ?_ | (refine rw_nil ?_; show CW _ _ _ _ _ _) | refine rw_nil ?_
            repeat refine cw_seq ?_
            refine cw_true rfl ?_
            repeat refine cw_seq ?_
            refine cw_skip ?_
            try show CW _ _ _ _ _ _
            repeat refine cw_seq ?_
            refine cw_block ?_
            repeat refine cw_seq ?_
            refine cw_region ?_
            iterate 2 refine rw_v (op_pure rfl) ?_
            refine rw_v (op_rng rfl (by omega)) ?_
            refine rw_v (op_conv Try.underlying3 Try.underlying154 rfl (u64_in _ (by omega))) ?_
            refine rw_v (op_half rfl rfl (by omega)) ?_
            refine rw_v (op_conv Try.underlying154 Try.underlying3 rfl (IntWalk.i64_in _ (by omega))) ?_
            rw [eh2]
            refine rw_v (op_pure rfl) ?_
            first | refine rw_end ?_ | (refine rw_nil ?_; show CW _ _ _ _ _ _) | refine rw_nil ?_
            repeat refine cw_seq ?_
            refine cw_draw (C := fun wq => Gr w wq) [0, 1, 2, 3, 4, 5, 6, 7, 8, 9, 10, 11, 12, 13] [] (by kernel_rfl) (by kernel_rfl) (Gr.drew _) ?_
            simp only [pickL, List.drop_succ_cons, List.drop_zero]
            iterate 4 refine rq_v (op_pure rfl) ?_
            refine rq_v (op_rng rfl (by omega)) ?_
            rw [eq1]
            refine rq_v (op_idx Try.underlying94 Try.sizeOf3 rfl rfl sa_A (by omega) (by omega)) ?_
            refine rq_r (fun wq hq => op_ldR Try.underlying3 rfl rfl ((S.gr hq).rd (i := 0) rfl) hgi) ?_
            iterate 2 refine rq_v (op_pure rfl) ?_
            refine rq_v (op_idx Try.underlying94 Try.sizeOf3 rfl rfl sa_A (by omega) (by omega)) ?_
            refine rq_r (fun wq hq => op_ldR Try.underlying3 rfl rfl ((S.gr hq).rd (i := 0) rfl) hgj) ?_
            refine rq_callv rfl rfl (fun wq hq => (hc wq (S.gr hq).fr (o q) (o h) (ho q (by omega)) (ho h (by omega))).mono (fun _ _ ⟨hv, hg⟩ => ⟨hv, hq.trans hg⟩)) ?_
            first | refine rq_v (op_b (b := true) rfl (decide_eq_true (by omega))) ?_ | refine rq_v (op_b (b := false) rfl (decide_eq_false (by omega))) ?_ | refine rq_v (op_pure rfl) ?_
            refine rq_v (op_pure rfl) ?_
            refine rq_nil ?_
            intro w7_ g7_
            have S := S.gr g7_
            first | refine rw_end ?_ | (refine rw_nil ?_; show CW _ _ _ _ _ _) | refine rw_nil ?_
            repeat refine cw_seq ?_
            refine cw_cond rfl (fun hl => ?_) (fun hl => ?_)
            · try simp only [decide_eq_true_eq, decide_eq_false_iff_not, beq_iff_eq, bne_iff_ne, beq_eq_false_iff_ne, bne_eq_false_iff_eq, Bool.not_eq_true', Bool.not_eq_false', ne_eq, Decidable.not_not, Int.natCast_inj, Int.ofNat_lt, Int.ofNat_le, gt_iff_lt, ge_iff_le, Int.not_lt, Int.not_le] at hl
              have hR : R' (o q) (o h) = false := by rw [← hcm]; exact ltC_f.2 (by omega)
              repeat refine cw_seq ?_
              refine cw_region ?_
              refine rw_v (op_pure rfl) ?_
              refine rw_v (op_rng rfl (by omega)) ?_
              refine rw_v (op_pure rfl) ?_
              first | refine rw_end ?_ | (refine rw_nil ?_; show CW _ _ _ _ _ _) | refine rw_nil ?_
              exact ⟨r - (h + 1), by omega, h + 1, r, by omega, by omega, by omega, ⟨rfl, rfl, rfl, rfl, rfl, rfl, rfl, ie (by omega), rfl, rfl, trivial⟩, fun _ => by rw [show mid + m - (h + 1) = q by omega, Nat.add_sub_cancel]; exact hR, hv2, S⟩
            · try simp only [decide_eq_true_eq, decide_eq_false_iff_not, beq_iff_eq, bne_iff_ne, beq_eq_false_iff_ne, bne_eq_false_iff_eq, Bool.not_eq_true', Bool.not_eq_false', ne_eq, Decidable.not_not, Int.natCast_inj, Int.ofNat_lt, Int.ofNat_le, gt_iff_lt, ge_iff_le, Int.not_lt, Int.not_le] at hl
              have hR : R' (o q) (o h) = true := by rw [← hcm]; exact ltC_t.2 (by omega)
              repeat refine cw_seq ?_
              refine cw_region ?_
              iterate 2 refine rw_v (op_pure rfl) ?_
              first | refine rw_end ?_ | (refine rw_nil ?_; show CW _ _ _ _ _ _) | refine rw_nil ?_
              exact ⟨h - s, by omega, s, h, by omega, by omega, by omega, ⟨rfl, rfl, rfl, rfl, rfl, rfl, rfl, rfl, rfl, rfl, trivial⟩, hv1, fun _ => by rw [← hq0]; exact hR, S⟩
          · obtain rfl : s = r := by omega
            obtain ⟨u, hu⟩ : ∃ u, u = mid + m - s := ⟨_, rfl⟩
            have eu : ((mid + m : Nat) : Int) - s = (u : Int) := by omega
            have hrange : a ≤ s ∧ s ≤ m ∧ m ≤ u ∧ u ≤ b ∧ s + (u - m) = mid := by omega
            obtain ⟨A1, A2, A3, A4, A5⟩ := rot_halves (mid := mid) hw hs1 hs2 hrange.1 hrange.2.1 hrange.2.2.1 hrange.2.2.2.1 hrange.2.2.2.2
              (fun h1 h2 => by rw [hu]; exact hv1 (by omega)) (fun h1 h2 => by rw [show u - 1 = mid + m - 1 - s by omega]; exact hv2 (by omega))
            obtain ⟨X1, X2⟩ := hX.rotate hrange.1 hrange.2.1 hrange.2.2.1 hrange.2.2.2.1 hrange.2.2.2.2
            repeat refine cw_seq ?_
            refine cw_region ?_
            iterate 2 refine rw_v (op_pure rfl) ?_
            refine rw_v (op_b (b := false) rfl (decide_eq_false (by omega))) ?_
            first | refine rw_end ?_ | (refine rw_nil ?_; show CW _ _ _ _ _ _) | refine rw_nil ?_
            repeat refine cw_seq ?_
            refine cw_false rfl ?_
            repeat refine cw_seq ?_
            refine cw_exit ?_
            repeat first | refine exit_then ?_ | refine exit_inb ?_
            show CW _ _ _ _ _ _
            repeat refine cw_seq ?_
            refine cw_region ?_
            iterate 2 refine rw_v (op_pure rfl) ?_
            refine rw_v (op_rng rfl (by omega)) ?_
            rw [eu]
            refine rw_v (op_pure rfl) ?_
            first | refine rw_end ?_ | (refine rw_nil ?_; show CW _ _ _ _ _ _) | refine rw_nil ?_
            repeat refine cw_seq ?_
            refine cw_cutT (M := fun e w => SL e [(0, .slice A n c), (1, .int .i64 a), (2, .int .i64 m), (3, .int .i64 b), (4, .func (.func fid) (([] : List Value).toArray) caps.toArray), (18, .int .i64 mid), (20, .int .i64 s), (24, .int .i64 u), (185, .bool (decide (s < m ∧ m < u)))] ∧ St (ownA A) W w [HA.row 3 1 A n c (rowE encI n (o))]) ?_ ?_
            · by_cases h1 : s < m
              · skip
                repeat refine cw_seq ?_
                refine cw_region ?_
                iterate 2 refine rw_v (op_pure rfl) ?_
                refine rw_v (op_b (b := true) rfl (decide_eq_true (by omega))) ?_
                refine rw_v (op_pure rfl) ?_
                first | refine rw_off rfl ?_ | (refine rw_on rfl ?_; refine rw_v (op_pure rfl) ?_)
                first | refine rw_off rfl ?_ | (refine rw_on rfl ?_; refine rw_v (op_pure rfl) ?_)
                first | refine rw_off rfl ?_ | (refine rw_on rfl ?_; refine rw_v (op_pure rfl) ?_)
                refine rw_v (op_pure rfl) ?_
                first | refine rw_end ?_ | (refine rw_nil ?_; show CW _ _ _ _ _ _) | refine rw_nil ?_
                exact ⟨⟨rfl, rfl, rfl, rfl, rfl, rfl, rfl, rfl, be (by rw [Bool.eq_iff_iff, decide_eq_true_iff, decide_eq_true_iff]; omega), trivial⟩, S⟩
              · skip
                repeat refine cw_seq ?_
                refine cw_region ?_
                iterate 2 refine rw_v (op_pure rfl) ?_
                refine rw_v (op_b (b := false) rfl (decide_eq_false (by omega))) ?_
                refine rw_v (op_pure rfl) ?_
                first | refine rw_off rfl ?_ | (refine rw_on rfl ?_; refine rw_v (op_pure rfl) ?_)
                first | refine rw_off rfl ?_ | (refine rw_on rfl ?_; refine rw_v (op_pure rfl) ?_)
                first | refine rw_off rfl ?_ | (refine rw_on rfl ?_; (first | refine rw_v (op_b (b := true) rfl (decide_eq_true (by omega))) ?_ | refine rw_v (op_b (b := false) rfl (decide_eq_false (by omega))) ?_ | refine rw_v (op_pure rfl) ?_))
                refine rw_v (op_pure rfl) ?_
                first | refine rw_end ?_ | (refine rw_nil ?_; show CW _ _ _ _ _ _) | refine rw_nil ?_
                exact ⟨⟨rfl, rfl, rfl, rfl, rfl, rfl, rfl, rfl, be (by rw [eq_comm, decide_eq_false_iff_not]; omega), trivial⟩, S⟩
            · clear S
              rintro e w ⟨hsl, S⟩
              rw [hsl.fold]
              repeat refine cw_seq ?_
              refine cw_cutT (M := fun e w => SL e [(0, .slice A n c), (1, .int .i64 a), (2, .int .i64 m), (3, .int .i64 b), (4, .func (.func fid) (([] : List Value).toArray) caps.toArray), (18, .int .i64 mid), (20, .int .i64 s), (24, .int .i64 u)] ∧ PS a b o (rot o s m u) ∧ St (ownA A) W w [HA.row 3 1 A n c (rowE encI n (rot o s m u))]) ?_ ?_
              · skip
                repeat refine cw_seq ?_
                refine cw_cond rfl (fun hg => ?_) (fun hg => ?_)
                · try simp only [decide_eq_true_eq, decide_eq_false_iff_not, beq_iff_eq, bne_iff_ne, beq_eq_false_iff_ne, bne_eq_false_iff_eq, Bool.not_eq_true', Bool.not_eq_false', ne_eq, Decidable.not_not, Int.natCast_inj, Int.ofNat_lt, Int.ofNat_le, gt_iff_lt, ge_iff_le, Int.not_lt, Int.not_le] at hg
                  repeat refine cw_seq ?_
                  refine cw_region ?_
                  iterate 5 refine rw_v (op_pure rfl) ?_
                  refine rw_call rfl (rotate_I s m u hn (by omega) (by omega) (by omega) (S.row (i := 0) rfl)) ?_
                  rintro _ w8_ ⟨⟨rfl, hR2, hF2⟩, hP2⟩
                  have S := S.set (i := 0) (h' := HA.row 3 1 A n c (rowE encI n (rot o s m u))) rfl rfl hF2 (fun g h => .inl h) hR2 (fun g h => .inl h)
                  first | refine rw_end ?_ | (refine rw_nil ?_; show CW _ _ _ _ _ _) | refine rw_nil ?_
                  exact ⟨⟨rfl, rfl, rfl, rfl, rfl, rfl, rfl, rfl, trivial⟩, hP2.wide (by omega) (by omega), S⟩
                · try simp only [decide_eq_true_eq, decide_eq_false_iff_not, beq_iff_eq, bne_iff_ne, beq_eq_false_iff_ne, bne_eq_false_iff_eq, Bool.not_eq_true', Bool.not_eq_false', ne_eq, Decidable.not_not, Int.natCast_inj, Int.ofNat_lt, Int.ofNat_le, gt_iff_lt, ge_iff_le, Int.not_lt, Int.not_le] at hg
                  repeat refine cw_seq ?_
                  refine cw_skip ?_
                  try show CW _ _ _ _ _ _
                  have hnil := rot_nil (o := o) (m := m) (s := s) (e := u) (by omega) (by omega) (by omega)
                  rw [hnil]
                  exact ⟨⟨rfl, rfl, rfl, rfl, rfl, rfl, rfl, rfl, trivial⟩, .refl, S⟩
              · clear S
                rintro e w ⟨hsl, hP0, S⟩
                rw [hsl.fold]
                have ho1 := hP0.lt (n := n) hbn ho
                generalize rot o s m u = o1 at *
                repeat refine cw_seq ?_
                refine cw_cutT (M := fun e w => SL e [(0, .slice A n c), (1, .int .i64 a), (2, .int .i64 m), (3, .int .i64 b), (4, .func (.func fid) (([] : List Value).toArray) caps.toArray), (18, .int .i64 mid), (20, .int .i64 s), (24, .int .i64 u), (199, .bool (decide (a < s ∧ s < mid)))] ∧ St (ownA A) W w [HA.row 3 1 A n c (rowE encI n (o1))]) ?_ ?_
                · by_cases h1 : a < s
                  · skip
                    repeat refine cw_seq ?_
                    refine cw_region ?_
                    iterate 2 refine rw_v (op_pure rfl) ?_
                    refine rw_v (op_b (b := true) rfl (decide_eq_true (by omega))) ?_
                    refine rw_v (op_pure rfl) ?_
                    first | refine rw_off rfl ?_ | (refine rw_on rfl ?_; refine rw_v (op_pure rfl) ?_)
                    first | refine rw_off rfl ?_ | (refine rw_on rfl ?_; refine rw_v (op_pure rfl) ?_)
                    first | refine rw_off rfl ?_ | (refine rw_on rfl ?_; refine rw_v (op_pure rfl) ?_)
                    refine rw_v (op_pure rfl) ?_
                    first | refine rw_end ?_ | (refine rw_nil ?_; show CW _ _ _ _ _ _) | refine rw_nil ?_
                    exact ⟨⟨rfl, rfl, rfl, rfl, rfl, rfl, rfl, rfl, be (by rw [Bool.eq_iff_iff, decide_eq_true_iff, decide_eq_true_iff]; omega), trivial⟩, S⟩
                  · skip
                    repeat refine cw_seq ?_
                    refine cw_region ?_
                    iterate 2 refine rw_v (op_pure rfl) ?_
                    refine rw_v (op_b (b := false) rfl (decide_eq_false (by omega))) ?_
                    refine rw_v (op_pure rfl) ?_
                    first | refine rw_off rfl ?_ | (refine rw_on rfl ?_; refine rw_v (op_pure rfl) ?_)
                    first | refine rw_off rfl ?_ | (refine rw_on rfl ?_; refine rw_v (op_pure rfl) ?_)
                    first | refine rw_off rfl ?_ | (refine rw_on rfl ?_; (first | refine rw_v (op_b (b := true) rfl (decide_eq_true (by omega))) ?_ | refine rw_v (op_b (b := false) rfl (decide_eq_false (by omega))) ?_ | refine rw_v (op_pure rfl) ?_))
                    refine rw_v (op_pure rfl) ?_
                    first | refine rw_end ?_ | (refine rw_nil ?_; show CW _ _ _ _ _ _) | refine rw_nil ?_
                    exact ⟨⟨rfl, rfl, rfl, rfl, rfl, rfl, rfl, rfl, be (by rw [eq_comm, decide_eq_false_iff_not]; omega), trivial⟩, S⟩
                · clear S
                  rintro e w ⟨hsl, S⟩
                  rw [hsl.fold]
                  repeat refine cw_seq ?_
                  refine cw_cutT (M := fun e w => SL e [(0, .slice A n c), (1, .int .i64 a), (2, .int .i64 m), (3, .int .i64 b), (4, .func (.func fid) (([] : List Value).toArray) caps.toArray), (18, .int .i64 mid), (20, .int .i64 s), (24, .int .i64 u)] ∧ ∃ o2, PS a mid o1 o2 ∧ SO R' o2 a mid ∧ St (ownA A) W w [HA.row 3 1 A n c (rowE encI n (o2))]) ?_ ?_
                  · skip
                    repeat refine cw_seq ?_
                    refine cw_cond rfl (fun hg => ?_) (fun hg => ?_)
                    · try simp only [decide_eq_true_eq, decide_eq_false_iff_not, beq_iff_eq, bne_iff_ne, beq_eq_false_iff_ne, bne_eq_false_iff_eq, Bool.not_eq_true', Bool.not_eq_false', ne_eq, Decidable.not_not, Int.natCast_inj, Int.ofNat_lt, Int.ofNat_le, gt_iff_lt, ge_iff_le, Int.not_lt, Int.not_le] at hg
                      repeat refine cw_seq ?_
                      refine cw_region ?_
                      iterate 5 refine rw_v (op_pure rfl) ?_
                      refine rw_call rfl (ih a s mid _ _ (by omega) (by omega) (by omega) (by omega) A1 A2 X1 ho1 (hc.fr S.fr) (S.row (i := 0) rfl)) ?_
                      rintro _ w9_ ⟨rfl, o2, hP2, hS2, hR2, hF2⟩
                      have S := S.set (i := 0) (h' := HA.row 3 1 A n c (rowE encI n (o2))) rfl rfl hF2 (fun g h => .inl h) hR2 (fun g h => .inl h)
                      first | refine rw_end ?_ | (refine rw_nil ?_; show CW _ _ _ _ _ _) | refine rw_nil ?_
                      exact ⟨⟨rfl, rfl, rfl, rfl, rfl, rfl, rfl, rfl, trivial⟩, o2, hP2, hS2, S⟩
                    · try simp only [decide_eq_true_eq, decide_eq_false_iff_not, beq_iff_eq, bne_iff_ne, beq_eq_false_iff_ne, bne_eq_false_iff_eq, Bool.not_eq_true', Bool.not_eq_false', ne_eq, Decidable.not_not, Int.natCast_inj, Int.ofNat_lt, Int.ofNat_le, gt_iff_lt, ge_iff_le, Int.not_lt, Int.not_le] at hg
                      repeat refine cw_seq ?_
                      refine cw_skip ?_
                      try show CW _ _ _ _ _ _
                      exact ⟨⟨rfl, rfl, rfl, rfl, rfl, rfl, rfl, rfl, trivial⟩, o1, .refl, (by
                        by_cases h1 : a < s
                        · exact A1.sub (Nat.le_refl _) (by omega)
                        · exact A2.sub (by omega) (Nat.le_refl _)), S⟩
                  · clear S
                    rintro e w ⟨hsl, o2, hP2, hS2, S⟩
                    rw [hsl.fold]
                    have ho2 := hP2.lt (n := n) (by omega) ho1
                    have A3' := A3.ps hP2 (.inr (Nat.le_refl _))
                    have A4' := A4.ps hP2 (.inr (by omega))
                    have X2' := X2.ps hP2 (.inr (Nat.le_refl _))
                    repeat refine cw_seq ?_
                    refine cw_cutT (M := fun e w => SL e [(0, .slice A n c), (1, .int .i64 a), (2, .int .i64 m), (3, .int .i64 b), (4, .func (.func fid) (([] : List Value).toArray) caps.toArray), (18, .int .i64 mid), (20, .int .i64 s), (24, .int .i64 u), (213, .bool (decide (mid < u ∧ u < b)))] ∧ St (ownA A) W w [HA.row 3 1 A n c (rowE encI n (o2))]) ?_ ?_
                    · by_cases h1 : mid < u
                      · skip
                        repeat refine cw_seq ?_
                        refine cw_region ?_
                        iterate 2 refine rw_v (op_pure rfl) ?_
                        refine rw_v (op_b (b := true) rfl (decide_eq_true (by omega))) ?_
                        refine rw_v (op_pure rfl) ?_
                        first | refine rw_off rfl ?_ | (refine rw_on rfl ?_; refine rw_v (op_pure rfl) ?_)
                        first | refine rw_off rfl ?_ | (refine rw_on rfl ?_; refine rw_v (op_pure rfl) ?_)
                        first | refine rw_off rfl ?_ | (refine rw_on rfl ?_; refine rw_v (op_pure rfl) ?_)
                        refine rw_v (op_pure rfl) ?_
                        first | refine rw_end ?_ | (refine rw_nil ?_; show CW _ _ _ _ _ _) | refine rw_nil ?_
                        exact ⟨⟨rfl, rfl, rfl, rfl, rfl, rfl, rfl, rfl, be (by rw [Bool.eq_iff_iff, decide_eq_true_iff, decide_eq_true_iff]; omega), trivial⟩, S⟩
                      · skip
                        repeat refine cw_seq ?_
                        refine cw_region ?_
                        iterate 2 refine rw_v (op_pure rfl) ?_
                        refine rw_v (op_b (b := false) rfl (decide_eq_false (by omega))) ?_
                        refine rw_v (op_pure rfl) ?_
                        first | refine rw_off rfl ?_ | (refine rw_on rfl ?_; refine rw_v (op_pure rfl) ?_)
                        first | refine rw_off rfl ?_ | (refine rw_on rfl ?_; refine rw_v (op_pure rfl) ?_)
                        first | refine rw_off rfl ?_ | (refine rw_on rfl ?_; (first | refine rw_v (op_b (b := true) rfl (decide_eq_true (by omega))) ?_ | refine rw_v (op_b (b := false) rfl (decide_eq_false (by omega))) ?_ | refine rw_v (op_pure rfl) ?_))
                        refine rw_v (op_pure rfl) ?_
                        first | refine rw_end ?_ | (refine rw_nil ?_; show CW _ _ _ _ _ _) | refine rw_nil ?_
                        exact ⟨⟨rfl, rfl, rfl, rfl, rfl, rfl, rfl, rfl, be (by rw [eq_comm, decide_eq_false_iff_not]; omega), trivial⟩, S⟩
                    · clear S
                      rintro e w ⟨hsl, S⟩
                      rw [hsl.fold]
                      repeat refine cw_seq ?_
                      refine cw_cond rfl (fun hg => ?_) (fun hg => ?_)
                      · try simp only [decide_eq_true_eq, decide_eq_false_iff_not, beq_iff_eq, bne_iff_ne, beq_eq_false_iff_ne, bne_eq_false_iff_eq, Bool.not_eq_true', Bool.not_eq_false', ne_eq, Decidable.not_not, Int.natCast_inj, Int.ofNat_lt, Int.ofNat_le, gt_iff_lt, ge_iff_le, Int.not_lt, Int.not_le] at hg
                        repeat refine cw_seq ?_
                        refine cw_region ?_
                        iterate 5 refine rw_v (op_pure rfl) ?_
                        refine rw_call rfl (ih mid u b _ _ (by omega) (by omega) (by omega) (by omega) A3' A4' X2' ho2 (hc.fr S.fr) (S.row (i := 0) rfl)) ?_
                        rintro _ w10_ ⟨rfl, o3, hP3, hS3, hR3, hF3⟩
                        have S := S.set (i := 0) (h' := HA.row 3 1 A n c (rowE encI n (o3))) rfl rfl hF3 (fun g h => .inl h) hR3 (fun g h => .inl h)
                        first | refine rw_end ?_ | (refine rw_nil ?_; show CW _ _ _ _ _ _) | refine rw_nil ?_
                        exact res0n ⟨rfl, o3, hP0.trans ((hP2.wide (Nat.le_refl _) (by omega)).trans (hP3.wide (by omega) (Nat.le_refl _))), PS.halves A5 (by omega) hP2 hP3 hS2 hS3, S.row (i := 0) rfl, S.fr⟩
                      · try simp only [decide_eq_true_eq, decide_eq_false_iff_not, beq_iff_eq, bne_iff_ne, beq_eq_false_iff_ne, bne_eq_false_iff_eq, Bool.not_eq_true', Bool.not_eq_false', ne_eq, Decidable.not_not, Int.natCast_inj, Int.ofNat_lt, Int.ofNat_le, gt_iff_lt, ge_iff_le, Int.not_lt, Int.not_le] at hg
                        repeat refine cw_seq ?_
                        refine cw_skip ?_
                        try show CW _ _ _ _ _ _
                        have hS3 : SO R' o2 mid b := by
                          by_cases h1 : mid < u
                          · exact A3'.sub (Nat.le_refl _) (by omega)
                          · exact A4'.sub (by omega) (Nat.le_refl _)
                        exact res0n ⟨rfl, o2, hP0.trans (hP2.wide (Nat.le_refl _) (by omega)), PS.halves A5 (by omega) hP2 .refl hS2 hS3, S.row (i := 0) rfl, S.fr⟩
set_option maxHeartbeats 4000000 in
theorem stable_I (hn : n ≤ 1048576) (hw : Wk R') (hX : XA (ltC cv) R' n) (hc : Cmp (ownA A) W n fid caps valI cv) (hA : Row W 3 1 A n c (rowE encI n fun i => i)) :
    Fn Try.prog 76 [.slice A n c, .int .i64 n, .func (.func fid) (([] : List Value).toArray) caps.toArray] W (RetOI W A n c R' 0 n fun i => i) := by
  have S := St.start1 W (HA.row 3 1 A n c (rowE encI n (fun i => i))) hA
  refine Fn_enter Try.func76 rfl Try.results76 Try.ntmps76 (by kernel_rfl) (by kernel_rfl) ?_
  repeat refine cw_seq ?_
  refine cw_region ?_
  refine rw_v (op_pure rfl) ?_
  first | refine rw_end ?_ | (refine rw_nil ?_; show CW _ _ _ _ _ _) | refine rw_nil ?_
  repeat refine cw_seq ?_
  refine cw_region ?_
  iterate 3 refine rw_v (op_pure rfl) ?_
  first | refine rw_end ?_ | (refine rw_nil ?_; show CW _ _ _ _ _ _) | refine rw_nil ?_
  repeat refine cw_seq ?_
  refine cw_block ?_
  repeat refine cw_seq ?_
  refine cw_loop (fun D e w => ∃ (q : Nat) (o : Nat → Nat), q * 20 + D = n ∧ SL e [(0, .slice A n c), (1, .int .i64 n), (2, .func (.func fid) (([] : List Value).toArray) caps.toArray), (6, .int .i64 20), (7, .int .i64 (q * 20 : Nat)), (8, .int .i64 (q * 20 + 20 : Nat))] ∧ BLI R' n 20 o q ∧ St (ownA A) W w [HA.row 3 1 A n c (rowE encI n (o))]) n
    ⟨0, fun i => i, by omega, ⟨rfl, rfl, rfl, rfl, rfl, rfl, trivial⟩, BLI.start, S⟩ ?_
  clear S
  rintro D e w ⟨q, o, hD, hsl, hI, S⟩
  rw [hsl.fold]
  have ho := hI.ps.lt (Nat.le_refl n) (fun i hi => hi)
  have hXI : ∀ b, b ≤ n → ∀ x y, q * 20 ≤ x → x < y → y < b → ltC cv (o y) (o x) = R' (o y) (o x) := fun b hb x y h1 h2 h3 => by rw [hI.left x h1, hI.left y (by omega)]; exact hX x y h2 (by omega)
  by_cases hle : q * 20 + 20 ≤ n
  · skip
    repeat refine cw_seq ?_
    refine cw_region ?_
    iterate 2 refine rw_v (op_pure rfl) ?_
    refine rw_v (op_b (b := true) rfl (decide_eq_true (by omega))) ?_
    first | refine rw_end ?_ | (refine rw_nil ?_; show CW _ _ _ _ _ _) | refine rw_nil ?_
    repeat refine cw_seq ?_
    refine cw_true rfl ?_
    repeat refine cw_seq ?_
    refine cw_skip ?_
    try show CW _ _ _ _ _ _
    repeat refine cw_seq ?_
    refine cw_block ?_
    repeat refine cw_seq ?_
    refine cw_region ?_
    iterate 4 refine rw_v (op_pure rfl) ?_
    refine rw_call rfl (insertion_I (q * 20) (q * 20 + 20) hn (by omega) hle hw (hXI _ hle) ho (hc.fr S.fr) (S.row (i := 0) rfl)) ?_
    rintro _ w1_ ⟨rfl, o2, hP2, hS2, hR2, hF2⟩
    have S := S.set (i := 0) (h' := HA.row 3 1 A n c (rowE encI n (o2))) rfl rfl hF2 (fun g h => .inl h) hR2 (fun g h => .inl h)
    first | refine rw_end ?_ | (refine rw_nil ?_; show CW _ _ _ _ _ _) | refine rw_nil ?_
    repeat refine cw_seq ?_
    refine cw_region ?_
    iterate 2 refine rw_v (op_pure rfl) ?_
    first | refine rw_end ?_ | (refine rw_nil ?_; show CW _ _ _ _ _ _) | refine rw_nil ?_
    repeat refine cw_seq ?_
    refine cw_region ?_
    iterate 2 refine rw_v (op_pure rfl) ?_
    refine rw_v (op_rng rfl (by omega)) ?_
    refine rw_v (op_pure rfl) ?_
    first | refine rw_end ?_ | (refine rw_nil ?_; show CW _ _ _ _ _ _) | refine rw_nil ?_
    exact ⟨D - 20, by omega, q + 1, o2, by omega, ⟨rfl, rfl, rfl, rfl, ie (by omega), ie (by omega), trivial⟩, hI.step (by omega) (by omega) hP2 hS2, S⟩
  · skip
    repeat refine cw_seq ?_
    refine cw_region ?_
    iterate 2 refine rw_v (op_pure rfl) ?_
    refine rw_v (op_b (b := false) rfl (decide_eq_false (by omega))) ?_
    first | refine rw_end ?_ | (refine rw_nil ?_; show CW _ _ _ _ _ _) | refine rw_nil ?_
    repeat refine cw_seq ?_
    refine cw_false rfl ?_
    repeat refine cw_seq ?_
    refine cw_exit ?_
    repeat first | refine exit_then ?_ | refine exit_inb ?_
    show CW _ _ _ _ _ _
    repeat refine cw_seq ?_
    refine cw_region ?_
    iterate 4 refine rw_v (op_pure rfl) ?_
    refine rw_call rfl (insertion_I (q * 20) n hn (by omega) (Nat.le_refl n) hw (hXI _ (Nat.le_refl n)) ho (hc.fr S.fr) (S.row (i := 0) rfl)) ?_
    rintro _ w2_ ⟨rfl, o2, hP2, hS2, hR2, hF2⟩
    have S := S.set (i := 0) (h' := HA.row 3 1 A n c (rowE encI n (o2))) rfl rfl hF2 (fun g h => .inl h) hR2 (fun g h => .inl h)
    first | refine rw_end ?_ | (refine rw_nil ?_; show CW _ _ _ _ _ _) | refine rw_nil ?_
    repeat refine cw_seq ?_
    refine cw_block ?_
    repeat refine cw_seq ?_
    have hL := (hI.step (show n = min (q * 20 + 20) n by omega) (by omega) hP2 hS2).fin (by omega)
    clear hI hP2 hS2 hR2 hF2 ho hXI
    refine cw_loop (fun D e w => ∃ (B : Nat) (o : Nat → Nat), D = n - B ∧ 20 ≤ B ∧ SL e [(0, .slice A n c), (1, .int .i64 n), (2, .func (.func fid) (([] : List Value).toArray) caps.toArray), (6, .int .i64 B)] ∧ BLA R' n B o ∧ St (ownA A) W w [HA.row 3 1 A n c (rowE encI n (o))]) (n - 20)
      ⟨20, o2, rfl, by omega, ⟨rfl, rfl, rfl, rfl, trivial⟩, hL, S⟩ ?_
    clear S hL
    rintro D e w ⟨B, o, hD, hB, hsl, hL, S⟩
    rw [hsl.fold]
    by_cases hlt : B < n
    · have hst := hL.start
      repeat refine cw_seq ?_
      refine cw_region ?_
      iterate 2 refine rw_v (op_pure rfl) ?_
      refine rw_v (op_b (b := true) rfl (decide_eq_true (by omega))) ?_
      first | refine rw_end ?_ | (refine rw_nil ?_; show CW _ _ _ _ _ _) | refine rw_nil ?_
      repeat refine cw_seq ?_
      refine cw_true rfl ?_
      repeat refine cw_seq ?_
      refine cw_skip ?_
      try show CW _ _ _ _ _ _
      repeat refine cw_seq ?_
      refine cw_block ?_
      repeat refine cw_seq ?_
      refine cw_region ?_
      refine rw_v (op_pure rfl) ?_
      refine rw_v (op_rng rfl (by omega)) ?_
      iterate 2 refine rw_v (op_pure rfl) ?_
      first | refine rw_end ?_ | (refine rw_nil ?_; show CW _ _ _ _ _ _) | refine rw_nil ?_
      repeat refine cw_seq ?_
      refine cw_block ?_
      repeat refine cw_seq ?_
      refine cw_loop (fun D' e w => ∃ (q : Nat) (o : Nat → Nat), q * (2 * B) + D' = n ∧ SL e [(0, .slice A n c), (1, .int .i64 n), (2, .func (.func fid) (([] : List Value).toArray) caps.toArray), (6, .int .i64 B), (7, .int .i64 (q * (2 * B) : Nat)), (8, .int .i64 (q * (2 * B) + 2 * B : Nat))] ∧ BLK R' n B o q ∧ St (ownA A) W w [HA.row 3 1 A n c (rowE encI n (o))]) n
        ⟨0, o, by omega, ⟨rfl, rfl, rfl, rfl, ie (by omega), ie (by omega), trivial⟩, hst, S⟩ ?_
      clear S hst hL
      rintro D' e1 w1 ⟨q, o, hD', hsl1, hK, S⟩
      rw [hsl1.fold]
      have ho := hK.ps.lt (Nat.le_refl n) (fun i hi => hi)
      have eq1 : (q + 1) * (2 * B) = q * (2 * B) + 2 * B := Nat.succ_mul q (2 * B)
      have em : ((q * (2 * B) : Nat) : Int) + B = ((q * (2 * B) + B : Nat) : Int) := by push_cast; rfl
      by_cases hle : q * (2 * B) + 2 * B ≤ n
      · obtain ⟨h1, hr1, hr2, hr3⟩ := hK.runs (R := ltC cv) (by omega) (by omega) (show q * (2 * B) + 2 * B = min (q * (2 * B) + 2 * B) n by omega)
        repeat refine cw_seq ?_
        refine cw_region ?_
        iterate 2 refine rw_v (op_pure rfl) ?_
        refine rw_v (op_b (b := true) rfl (decide_eq_true (by omega))) ?_
        first | refine rw_end ?_ | (refine rw_nil ?_; show CW _ _ _ _ _ _) | refine rw_nil ?_
        repeat refine cw_seq ?_
        refine cw_true rfl ?_
        repeat refine cw_seq ?_
        refine cw_skip ?_
        try show CW _ _ _ _ _ _
        repeat refine cw_seq ?_
        refine cw_block ?_
        repeat refine cw_seq ?_
        refine cw_region ?_
        iterate 4 refine rw_v (op_pure rfl) ?_
        refine rw_v (op_rng rfl (by omega)) ?_
        rw [em]
        iterate 2 refine rw_v (op_pure rfl) ?_
        refine rw_call rfl (symMerge_I hn hw _ _ _ _ _ _ (Nat.le_refl _) (by omega) h1 hle hr1 hr2 (hr3 hX) ho (hc.fr S.fr) (S.row (i := 0) rfl)) ?_
        rintro _ w3_ ⟨rfl, o2, hP2, hS2, hR2, hF2⟩
        have S := S.set (i := 0) (h' := HA.row 3 1 A n c (rowE encI n (o2))) rfl rfl hF2 (fun g h => .inl h) hR2 (fun g h => .inl h)
        first | refine rw_end ?_ | (refine rw_nil ?_; show CW _ _ _ _ _ _) | refine rw_nil ?_
        repeat refine cw_seq ?_
        refine cw_region ?_
        iterate 2 refine rw_v (op_pure rfl) ?_
        first | refine rw_end ?_ | (refine rw_nil ?_; show CW _ _ _ _ _ _) | refine rw_nil ?_
        repeat refine cw_seq ?_
        refine cw_region ?_
        iterate 2 refine rw_v (op_pure rfl) ?_
        refine rw_v (op_rng rfl (by omega)) ?_
        refine rw_v (op_rng rfl (by omega)) ?_
        refine rw_v (op_pure rfl) ?_
        first | refine rw_end ?_ | (refine rw_nil ?_; show CW _ _ _ _ _ _) | refine rw_nil ?_
        exact ⟨D' - 2 * B, by omega, q + 1, o2, by omega, ⟨rfl, rfl, rfl, rfl, ie (by omega), ie (by omega), trivial⟩, hK.step (by omega) (by omega) hP2 hS2, S⟩
      · skip
        repeat refine cw_seq ?_
        refine cw_region ?_
        iterate 2 refine rw_v (op_pure rfl) ?_
        refine rw_v (op_b (b := false) rfl (decide_eq_false (by omega))) ?_
        first | refine rw_end ?_ | (refine rw_nil ?_; show CW _ _ _ _ _ _) | refine rw_nil ?_
        repeat refine cw_seq ?_
        refine cw_false rfl ?_
        repeat refine cw_seq ?_
        refine cw_exit ?_
        repeat first | refine exit_then ?_ | refine exit_inb ?_
        show CW _ _ _ _ _ _
        repeat refine cw_seq ?_
        refine cw_region ?_
        iterate 2 refine rw_v (op_pure rfl) ?_
        refine rw_v (op_rng rfl (by omega)) ?_
        rw [em]
        refine rw_v (op_pure rfl) ?_
        first | refine rw_end ?_ | (refine rw_nil ?_; show CW _ _ _ _ _ _) | refine rw_nil ?_
        repeat refine cw_seq ?_
        refine cw_region ?_
        iterate 3 refine rw_v (op_pure rfl) ?_
        first | refine rw_end ?_ | (refine rw_nil ?_; show CW _ _ _ _ _ _) | refine rw_nil ?_
        repeat refine cw_seq ?_
        refine cw_cond rfl (fun hg => ?_) (fun hg => ?_)
        · try simp only [decide_eq_true_eq, decide_eq_false_iff_not, beq_iff_eq, bne_iff_ne, beq_eq_false_iff_ne, bne_eq_false_iff_eq, Bool.not_eq_true', Bool.not_eq_false', ne_eq, Decidable.not_not, Int.natCast_inj, Int.ofNat_lt, Int.ofNat_le, gt_iff_lt, ge_iff_le, Int.not_lt, Int.not_le] at hg
          obtain ⟨h1, hr1, hr2, hr3⟩ := hK.runs (R := ltC cv) (by omega) (by omega) (show n = min (q * (2 * B) + 2 * B) n by omega)
          repeat refine cw_seq ?_
          refine cw_region ?_
          iterate 5 refine rw_v (op_pure rfl) ?_
          refine rw_call rfl (symMerge_I hn hw _ _ _ _ _ _ (Nat.le_refl _) (by omega) h1 (Nat.le_refl n) hr1 hr2 (hr3 hX) ho (hc.fr S.fr) (S.row (i := 0) rfl)) ?_
          rintro _ w4_ ⟨rfl, o2, hP2, hS2, hR2, hF2⟩
          have S := S.set (i := 0) (h' := HA.row 3 1 A n c (rowE encI n (o2))) rfl rfl hF2 (fun g h => .inl h) hR2 (fun g h => .inl h)
          first | refine rw_end ?_ | (refine rw_nil ?_; show CW _ _ _ _ _ _) | refine rw_nil ?_
          repeat refine cw_seq ?_
          refine cw_region ?_
          refine rw_v (op_pure rfl) ?_
          refine rw_v (op_rng rfl (by omega)) ?_
          refine rw_v (op_pure rfl) ?_
          first | refine rw_end ?_ | (refine rw_nil ?_; show CW _ _ _ _ _ _) | refine rw_nil ?_
          exact ⟨n - 2 * B, by omega, 2 * B, o2, rfl, by omega, ⟨rfl, rfl, rfl, ie (by omega), trivial⟩, (hK.step (by omega) (by omega) hP2 hS2).fin (by omega), S⟩
        · try simp only [decide_eq_true_eq, decide_eq_false_iff_not, beq_iff_eq, bne_iff_ne, beq_eq_false_iff_ne, bne_eq_false_iff_eq, Bool.not_eq_true', Bool.not_eq_false', ne_eq, Decidable.not_not, Int.natCast_inj, Int.ofNat_lt, Int.ofNat_le, gt_iff_lt, ge_iff_le, Int.not_lt, Int.not_le] at hg
          repeat refine cw_seq ?_
          refine cw_skip ?_
          try show CW _ _ _ _ _ _
          repeat refine cw_seq ?_
          refine cw_region ?_
          refine rw_v (op_pure rfl) ?_
          refine rw_v (op_rng rfl (by omega)) ?_
          refine rw_v (op_pure rfl) ?_
          first | refine rw_end ?_ | (refine rw_nil ?_; show CW _ _ _ _ _ _) | refine rw_nil ?_
          exact ⟨n - 2 * B, by omega, 2 * B, o, rfl, by omega, ⟨rfl, rfl, rfl, ie (by omega), trivial⟩, hK.fin (by omega), S⟩
    · skip
      repeat refine cw_seq ?_
      refine cw_region ?_
      iterate 2 refine rw_v (op_pure rfl) ?_
      refine rw_v (op_b (b := false) rfl (decide_eq_false (by omega))) ?_
      first | refine rw_end ?_ | (refine rw_nil ?_; show CW _ _ _ _ _ _) | refine rw_nil ?_
      repeat refine cw_seq ?_
      refine cw_false rfl ?_
      repeat refine cw_seq ?_
      refine cw_exit ?_
      repeat first | refine exit_then ?_ | refine exit_inb ?_
      exact res0n ⟨rfl, o, hL.ps, hL.end_ (by omega), S.row (i := 0) rfl, S.fr⟩
theorem sortStable_I (hn : n ≤ 1048576) (hw : Wk R') (hX : XA (ltC cv) R' n) (hc : Cmp (ownA A) W n fid caps valI cv) (hA : Row W 3 1 A n c (rowE encI n fun i => i)) :
    Fn Try.prog 50 [.slice A n c, .func (.func fid) (([] : List Value).toArray) caps.toArray] W (RetOI W A n c R' 0 n fun i => i) := by
  have S := St.start1 W (HA.row 3 1 A n c (rowE encI n (fun i => i))) hA
  refine Fn_enter Try.func50 rfl Try.results50 Try.ntmps50 (by kernel_rfl) (by kernel_rfl) ?_
  repeat refine cw_seq ?_
  refine cw_region ?_
  iterate 2 refine rw_v (op_pure rfl) ?_
  refine rw_v (op_len Try.underlying94 rfl) ?_
  refine rw_v (op_pure rfl) ?_
  refine rw_call rfl (stable_I hn hw hX (hc.fr S.fr) (S.row (i := 0) rfl)) ?_
  rintro _ w1_ ⟨rfl, o2, hP2, hS2, hR2, hF2⟩
  have S := S.set (i := 0) (h' := HA.row 3 1 A n c (rowE encI n (o2))) rfl rfl hF2 (fun g h => .inl h) hR2 (fun g h => .inl h)
  first | refine rw_end ?_ | (refine rw_nil ?_; show CW _ _ _ _ _ _) | refine rw_nil ?_
  exact res0n ⟨rfl, o2, hP2, hS2, S.row (i := 0) rfl, S.fr⟩
end
theorem wk_up (g : Nat → Int) : Wk (ltC fun a b => cmpI (g a) (g b)) :=
  ⟨fun x y h => ltC_f.2 (by have := cmpI_lt.1 (ltC_t.1 h); rw [cmpI_lt]; omega), fun x y z h1 h2 => ltC_f.2 (by have h1 := ltC_f.1 h1; have h2 := ltC_f.1 h2; rw [cmpI_lt] at *; omega)⟩
theorem wk_down (g : Nat → Int) : Wk (ltC fun a b => cmpI (g b) (g a)) :=
  ⟨fun x y h => ltC_f.2 (by have := cmpI_lt.1 (ltC_t.1 h); rw [cmpI_lt]; omega), fun x y z h1 h2 => ltC_f.2 (by have h1 := ltC_f.1 h1; have h2 := ltC_f.1 h2; rw [cmpI_lt] at *; omega)⟩
section
variable {g : Nat → Int} {o : Nat → Nat} {n x y : Nat}
theorem so_up (h : SO (ltC fun a b => cmpI (g a) (g b)) o 0 n) (hxy : x ≤ y) (hy : y < n) : g (o x) ≤ g (o y) := by
  have := ltC_f.1 (h.le (wk_up g) (Nat.zero_le x) hxy hy)
  rw [cmpI_lt] at this
  omega
theorem so_down (h : SO (ltC fun a b => cmpI (g b) (g a)) o 0 n) (hxy : x ≤ y) (hy : y < n) : g (o y) ≤ g (o x) := by
  have := ltC_f.1 (h.le (wk_down g) (Nat.zero_le x) hxy hy)
  rw [cmpI_lt] at this
  omega
/-- an order of all places -/
structure Ord (n : Nat) (o : Nat → Nat) : Prop where
  lt : ∀ x, x < n → o x < n
  all : ∀ j, j < n → ∃ x, x < n ∧ o x = j
  ps : PS 0 n (fun i => i) o
theorem PS.ord (h : PS 0 n (fun i => i) o) : Ord n o :=
  ⟨fun x hx => h.lt (Nat.le_refl n) (fun i hi => hi) x hx, fun j hj => by
    obtain ⟨x, _, hx, he⟩ := h.pre (k := j) (Nat.zero_le j) hj
    exact ⟨x, hx, he⟩, h⟩
end
theorem rowE_I (n : Nat) (o : Nat → Nat) : rowE encI n o = cellsN n o := by
  unfold rowE cellsN
  induction (List.range n) with
  | nil => rfl
  | cons a l ih => rw [List.map_cons, List.map_cons, List.flatten_cons, ih]; rfl
/-- all that is known is whose the blocks are -/
def HA.hole (A : Option Addr) : HA := ⟨ownA A, fun w => ∀ g, ownA A g → g < w.heap.size, fun w w' _ hs h g hg => Nat.lt_of_lt_of_le (h g hg) hs, fun w h g hg => h g hg⟩
theorem St.hole {F : Nat → Prop} {W w w' : World} {L L' : List HA} {i el k n c : Nat} {A : Option Addr} {xs : List Value} (S : St F W w L) (hi : getO L i = some (.row el k A n c xs)) (hs : setO L i (.hole A) = some L') (k' : Fr (ownA A) w w') : St F W w' L' :=
  S.set hi hs k' (fun g h => .inl h) (fun g hg => Nat.lt_of_lt_of_le ((S.row hi).lt hg) k'.size) (fun g h => .inl h)
end Go.Proofs.Ytiidmiebckkloaa
