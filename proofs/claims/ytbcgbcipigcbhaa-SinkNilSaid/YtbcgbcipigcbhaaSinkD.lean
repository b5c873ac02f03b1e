/- sink.rising, Basins and the document's: contracts. -/
import Derived.Test.YtbcgbcipigcbhaaSinkC
import Derived.Test.YtbcgbcipigcbhaaSortI
import Derived.Test.YtbcgbcipigcbhaaMapI
namespace Go.Proofs.Ytbcgbcipigcbhaa
open Go.RowKit
set_option linter.unusedVariables false
set_option linter.unusedSimpArgs false
set_option maxRecDepth 100000

/-! ### Who comes up first -/
def firsts (s : Nat → Nat) : Nat → List Nat
  | 0 => []
  | m + 1 => if s m ∈ firsts s m then firsts s m else firsts s m ++ [s m]
section
variable {s : Nat → Nat} {n m i k : Nat}
theorem firsts_succ : firsts s (n + 1) = if s n ∈ firsts s n then firsts s n else firsts s n ++ [s n] := rfl
theorem firsts_le (h : m ≤ n) : ∃ r, firsts s n = firsts s m ++ r := by
  induction n with
  | zero => obtain rfl : m = 0 := by omega
            exact ⟨[], by simp⟩
  | succ n ih =>
    by_cases e : m = n + 1
    · subst e; exact ⟨[], by simp⟩
    · obtain ⟨r, hr⟩ := ih (by omega)
      rw [firsts_succ]
      split
      · exact ⟨r, hr⟩
      · exact ⟨r ++ [s n], by rw [hr, List.append_assoc]⟩
theorem firsts_mem (h : i < n) : s i ∈ firsts s n := by
  have h1 : s i ∈ firsts s (i + 1) := by
    rw [firsts_succ]
    split
    · assumption
    · simp
  obtain ⟨r, hr⟩ := firsts_le (s := s) (show i + 1 ≤ n from h)
  rw [hr]; exact List.mem_append_left _ h1
theorem firsts_of (h : k ∈ firsts s n) : ∃ i, i < n ∧ s i = k := by
  induction n with
  | zero => cases h
  | succ n ih =>
    rw [firsts_succ] at h
    split at h
    · obtain ⟨i, hi, e⟩ := ih h; exact ⟨i, by omega, e⟩
    · rcases List.mem_append.1 h with h | h
      · obtain ⟨i, hi, e⟩ := ih h; exact ⟨i, by omega, e⟩
      · simp only [List.mem_singleton] at h; exact ⟨n, by omega, h.symm⟩
theorem firsts_len : (firsts s n).length ≤ n := by
  induction n with
  | zero => exact Nat.le_refl _
  | succ n ih =>
    rw [firsts_succ]
    split
    · omega
    · rw [List.length_append, List.length_singleton]; omega
theorem firsts_nodup : (firsts s n).Nodup := by
  induction n with
  | zero => exact List.nodup_nil
  | succ n ih =>
    rw [firsts_succ]
    split
    · exact ih
    · rename_i h
      rw [List.nodup_append]
      exact ⟨ih, by simp, fun a ha b hb => by simp only [List.mem_singleton] at hb; subst hb; intro e; exact h (e ▸ ha)⟩
/-- a place's label -/
def labS (s : Nat → Nat) (n i : Nat) : Nat := (firsts s n).idxOf (s i) + 1
theorem labS_at (h : m < n) : labS s n m = (firsts s (m + 1)).idxOf (s m) + 1 := by
  obtain ⟨r, hr⟩ := firsts_le (s := s) (show m + 1 ≤ n from h)
  unfold labS
  rw [hr, List.idxOf_append, if_pos (firsts_mem (Nat.lt_succ_self m))]
theorem labS_old (h : m < n) (hm : s m ∈ firsts s m) : labS s n m = (firsts s m).idxOf (s m) + 1 ∧ firsts s (m + 1) = firsts s m := by
  have e : firsts s (m + 1) = firsts s m := if_pos hm
  exact ⟨by rw [labS_at h, e], e⟩
theorem labS_new (h : m < n) (hm : s m ∉ firsts s m) : labS s n m = (firsts s m).length + 1 ∧ firsts s (m + 1) = firsts s m ++ [s m] := by
  have e : firsts s (m + 1) = firsts s m ++ [s m] := if_neg hm
  refine ⟨?_, e⟩
  rw [labS_at h, e, List.idxOf_append, if_neg hm]
  simp
theorem labS_le (h : m < n) : labS s n m ≤ n := by
  have h1 := List.idxOf_lt_length_of_mem (firsts_mem (s := s) h)
  have := firsts_len (s := s) (n := n)
  unfold labS
  omega
end
/-- the numbers of those that came up, as a map -/
def numM (l : List Nat) (k : Int) : Option Int := if 0 ≤ k ∧ k.toNat ∈ l then some ((l.idxOf k.toNat + 1 : Nat) : Int) else none
theorem numM_in {l : List Nat} {j : Nat} (h : j ∈ l) : numM l j = some ((l.idxOf j + 1 : Nat) : Int) := by
  unfold numM
  rw [if_pos ⟨by omega, by simpa using h⟩, Int.toNat_natCast]
theorem numM_out {l : List Nat} {j : Nat} (h : j ∉ l) : numM l j = none := by
  unfold numM
  exact if_neg (fun e => h (by simpa using e.2))
theorem numM_push {l : List Nat} {j : Nat} (h : j ∉ l) : updM (numM l) (j : Nat) ((l.length + 1 : Nat) : Int) = numM (l ++ [j]) := by
  funext k
  by_cases e : k = (j : Nat)
  · subst e
    rw [updM_at, numM_in (by simp), List.idxOf_append, if_neg h]
    simp
  · rw [updM_ne e]
    unfold numM
    by_cases h1 : 0 ≤ k ∧ k.toNat ∈ l
    · rw [if_pos h1, if_pos ⟨h1.1, List.mem_append_left _ h1.2⟩, List.idxOf_append, if_pos h1.2]
    · rw [if_neg h1, if_neg]
      rintro ⟨h2, h3⟩
      rcases List.mem_append.1 h3 with h4 | h4
      · exact h1 ⟨h2, h4⟩
      · simp only [List.mem_singleton] at h4; omega
/-- labels and sinks -/
def RetBas (gw n : Nat) (s : Nat → Nat) (mk : Value → Value → Value) (W : World) (v : Value) (w' : World) : Prop :=
  ∃ A1 c1 A2 c2, v = mk (.slice A1 n c1) (.slice A2 (firsts s n).length c2) ∧ Row w' 2 1 A1 n c1 (cellsN n (labS s n)) ∧ FreshA W A1 ∧ Row w' 44 2 A2 (firsts s n).length c2 (cellsZ ((firsts s n).map (cz gw))) ∧ FreshA W A2 ∧ (∀ g, ownA A1 g → ¬ ownA A2 g) ∧ Gr W w'
section
variable {W : World} {A B : Option Addr} {p gw gh cap c n2 c2 C : Nat} {cc : Nat → Int} {bs : Nat → Nat} {Rs : Nat → Option Nat} {V : List Int}
theorem riseC_E (a b : Nat) (ha : a < V.length) (hb : b < V.length) (hC : Blk W C 136 [.int .i64 gw, .slice A V.length c, .slice B n2 c2]) (hA : Rd W A (ints V)) :
    Fn Try.prog 132 ([] ++ [.int .i64 a, .int .i64 b] ++ [.pointer (some ⟨C, 0, none⟩)]) W (RetG (.int .i64 (cmpI (V.getD a 0) (V.getD b 0))) W) := by
  have sa_A : SomeA A := hA.someA (by rw [ints_len]; omega)
  have hget : ∀ i, i < V.length → (ints V)[(i : Int).toNat * 1]? = some (.int .i64 (V.getD i 0)) := fun i hi => by rw [Nat.mul_one, Int.toNat_natCast]; exact ints_get (getD_at hi)
  have S := St.start W
  refine Fn_enter Try.func132 rfl Try.results132 Try.ntmps132 (by kernel_rfl) (by kernel_rfl) ?_
  repeat refine cw_seq ?_
  refine cw_region ?_
  refine rw_v (op_pure rfl) ?_
  first | refine rw_end ?_ | (refine rw_nil ?_; show CW _ _ _ _ _ _) | refine rw_nil ?_
  repeat refine cw_seq ?_
  refine cw_draw (C := fun wq => Gr W wq) [0, 1, 2, 3, 4, 5, 6, 7, 8, 9, 10, 11] [] (by kernel_rfl) (by kernel_rfl) (Gr.drew _) ?_
  simp only [pickL, List.drop_succ_cons, List.drop_zero]
  refine rq_v (op_fieldAddr Try.underlying136 rfl Try.sizeOf22 rfl rfl) ?_
  refine rq_r (fun wq hq => op_loadB Try.underlying22 rfl rfl (hC.gr (S.gr hq).out) rfl) ?_
  refine rq_v (op_pure rfl) ?_
  refine rq_v (op_idx Try.underlying22 Try.sizeOf2 rfl rfl sa_A (by omega) (by omega)) ?_
  refine rq_r (fun wq hq => op_ldR Try.underlying2 rfl rfl (hA.gr (S.gr hq).out) (hget a ha)) ?_
  refine rq_v (op_fieldAddr Try.underlying136 rfl Try.sizeOf22 rfl rfl) ?_
  refine rq_r (fun wq hq => op_loadB Try.underlying22 rfl rfl (hC.gr (S.gr hq).out) rfl) ?_
  refine rq_v (op_pure rfl) ?_
  refine rq_v (op_idx Try.underlying22 Try.sizeOf2 rfl rfl sa_A (by omega) (by omega)) ?_
  refine rq_r (fun wq hq => op_ldR Try.underlying2 rfl rfl (hA.gr (S.gr hq).out) (hget b hb)) ?_
  refine rq_call rfl (fun wq hq => (compare_E _ _).mono (fun _ _ ⟨hv, hg⟩ => ⟨hv, hq.trans hg⟩)) ?_
  refine rq_v (op_pure rfl) ?_
  refine rq_nil ?_
  intro w1_ g1_
  have S := S.gr g1_
  first | refine rw_end ?_ | (refine rw_nil ?_; show CW _ _ _ _ _ _) | refine rw_nil ?_
  repeat refine cw_seq ?_
  refine cw_ret ?_
  repeat first | refine ret_then ?_ | refine ret_inb ?_
  exact res1 rfl ⟨rfl, S.out⟩
theorem rising_E (hV : V.length ≤ 1048576) (hA : Rd W A (ints V)) : Fn Try.prog 81 [.agg #[.int .i64 gw, .slice A V.length c, .slice B n2 c2]] W
    (fun v w' => ∃ o, Ord V.length o ∧ (∀ x y, x ≤ y → y < V.length → V.getD (o x) 0 ≤ V.getD (o y) 0) ∧ RetNew id 3 1 V.length (cellsN V.length o) W v w') := by
  have S := St.start W
  refine Fn_enter Try.func81 rfl Try.results81 Try.ntmps81 (by kernel_rfl) (by kernel_rfl) ?_
  repeat refine cw_seq ?_
  refine cw_region ?_
  refine rw_newB (op_box rfl) S ?_
  intro b_l w2_ g2_ S
  refine rw_v (op_pure rfl) ?_
  first | refine rw_end ?_ | (refine rw_nil ?_; show CW _ _ _ _ _ _) | refine rw_nil ?_
  repeat refine cw_seq ?_
  refine cw_region ?_
  refine rw_v (op_fieldAddr Try.underlying136 rfl Try.sizeOf22 rfl rfl) ?_
  refine rw_r (op_loadB Try.underlying22 rfl rfl (S.blk (i := 0) rfl) rfl) ?_
  refine rw_v (op_len Try.underlying22 rfl) ?_
  refine rw_makeS1 Try.underlying122 info_t3 rfl rfl rfl (n := V.length) (c := V.length) (by omega) (by omega) (by omega) (by omega) S ?_
  intro A_out w4_ g4_ S sa_out
  refine rw_v (op_pure rfl) ?_
  first | refine rw_end ?_ | (refine rw_nil ?_; show CW _ _ _ _ _ _) | refine rw_nil ?_
  repeat refine cw_seq ?_
  refine cw_region ?_
  refine rw_v (op_pure rfl) ?_
  refine rw_v (op_len Try.underlying122 rfl) ?_
  refine rw_v (op_pure rfl) ?_
  first | refine rw_end ?_ | (refine rw_nil ?_; show CW _ _ _ _ _ _) | refine rw_nil ?_
  repeat refine cw_seq ?_
  refine cw_block ?_
  repeat refine cw_seq ?_
  have hz : List.replicate V.length (Value.int .i64 0) = cellsN V.length (fun j => if j < 0 then j else 0) := by
    unfold cellsN
    simp only [Nat.not_lt_zero, if_false]
    rw [List.map_const', List.length_range]
    rfl
  rw [hz] at S
  refine cw_loop (fun m e w => ∃ k : Nat, k + m = V.length ∧ SL e [(1, .pointer (some ⟨b_l, 0, none⟩)), (3, .slice A_out V.length V.length), (10, .int .i64 V.length), (11, .int .i64 k)] ∧
    St No W w [.row 3 1 A_out V.length V.length (cellsN V.length (fun j => if j < k then j else 0)), .blk b_l 136 [.int .i64 gw, .slice A V.length c, .slice B n2 c2]]) V.length
    ⟨0, by omega, ⟨rfl, rfl, rfl, rfl, trivial⟩, S⟩ ?_
  clear S hz
  rintro m e w ⟨k, hk, hsl, S⟩
  rw [hsl.fold]
  repeat refine cw_seq ?_
  refine cw_region ?_
  refine rw_v (op_pure rfl) ?_
  first | refine rw_end ?_ | (refine rw_nil ?_; show CW _ _ _ _ _ _) | refine rw_nil ?_
  repeat refine cw_seq ?_
  refine cw_cond rfl (fun hc => ?_) (fun hc => ?_)
  · try simp only [decide_eq_true_eq, decide_eq_false_iff_not, beq_iff_eq, bne_iff_ne, beq_eq_false_iff_ne, bne_eq_false_iff_eq, Bool.not_eq_true', Bool.not_eq_false', ne_eq, Decidable.not_not, Int.natCast_inj, Int.ofNat_lt, Int.ofNat_le, gt_iff_lt, ge_iff_le, Int.not_lt, Int.not_le] at hc
    have hkn : k < V.length := by omega
    have sa_out : SomeA A_out := (S.row (i := 0) rfl).someA (by omega)
    repeat refine cw_seq ?_
    refine cw_skip ?_
    try show CW _ _ _ _ _ _
    repeat refine cw_seq ?_
    refine cw_block ?_
    repeat refine cw_seq ?_
    refine cw_region ?_
    iterate 2 refine rw_v (op_pure rfl) ?_
    first | refine rw_end ?_ | (refine rw_nil ?_; show CW _ _ _ _ _ _) | refine rw_nil ?_
    repeat refine cw_seq ?_
    refine cw_region ?_
    iterate 3 refine rw_v (op_pure rfl) ?_
    refine rw_v (op_idx Try.underlying122 Try.sizeOf3 rfl rfl sa_out (by omega) (by omega)) ?_
    refine rw_storeR (i := 0) S rfl (Try.sizeOf3 _) rfl rfl rfl rfl (by rw [cellsN_len]; omega) rfl ?_
    intro w5_ S
    first | refine rw_end ?_ | (refine rw_nil ?_; show CW _ _ _ _ _ _) | refine rw_nil ?_
    repeat refine cw_seq ?_
    refine cw_region ?_
    refine rw_v (op_rng rfl (by omega)) ?_
    refine rw_v (op_pure rfl) ?_
    first | refine rw_end ?_ | (refine rw_nil ?_; show CW _ _ _ _ _ _) | refine rw_nil ?_
    rw [Nat.mul_one, Int.toNat_natCast, cellsN_set, cellsN_congr (f' := fun j => if j < k + 1 then j else 0) (fun j hj => by
      unfold updF
      (try dsimp only)
      by_cases e1 : j = k
      · rw [if_pos e1, if_pos (by omega), e1]
      · by_cases e2 : j < k
        · rw [if_neg e1, if_pos e2, if_pos (by omega)]
        · rw [if_neg e1, if_neg e2, if_neg (by omega)])] at S
    exact ⟨m - 1, by omega, k + 1, by omega, ⟨rfl, rfl, rfl, ie (by omega), trivial⟩, S⟩
  · try simp only [decide_eq_true_eq, decide_eq_false_iff_not, beq_iff_eq, bne_iff_ne, beq_eq_false_iff_ne, bne_eq_false_iff_eq, Bool.not_eq_true', Bool.not_eq_false', ne_eq, Decidable.not_not, Int.natCast_inj, Int.ofNat_lt, Int.ofNat_le, gt_iff_lt, ge_iff_le, Int.not_lt, Int.not_le] at hc
    obtain rfl : k = V.length := by omega
    rw [cellsN_congr (f' := fun j => j) (fun j hj => by (try dsimp only); rw [if_pos hj]), ← rowE_I] at S
    have hcmp : Cmp (ownA A_out) w V.length 132 [.pointer (some ⟨b_l, 0, none⟩)] valI (fun a b => cmpI (V.getD a 0) (V.getD b 0)) := fun w' hfr x y hx hy => by
      have S' := S.hole (i := 0) rfl rfl hfr
      exact riseC_E x y hx hy (S'.blk (i := 1) rfl) (hA.gr S'.out)
    repeat refine cw_seq ?_
    refine cw_exit ?_
    repeat first | refine exit_then ?_ | refine exit_inb ?_
    show CW _ _ _ _ _ _
    repeat refine cw_seq ?_
    refine cw_region ?_
    iterate 2 refine rw_v (op_pure rfl) ?_
    refine rw_call rfl (sortStable_I (fid := 132) (caps := [.pointer (some ⟨b_l, 0, none⟩)]) hV (wk_up fun i => V.getD i 0) XA.self hcmp (S.row (i := 0) rfl)) ?_
    rintro _ w6_ ⟨rfl, o, hP, hO, hR, hF⟩
    have S := S.set (i := 0) (h' := .row 3 1 A_out V.length V.length (rowE encI V.length o)) rfl rfl hF (fun g h => .inl h) hR (fun g h => .inl h)
    first | refine rw_end ?_ | (refine rw_nil ?_; show CW _ _ _ _ _ _) | refine rw_nil ?_
    repeat refine cw_seq ?_
    refine cw_region ?_
    iterate 2 refine rw_v (op_pure rfl) ?_
    first | refine rw_end ?_ | (refine rw_nil ?_; show CW _ _ _ _ _ _) | refine rw_nil ?_
    repeat refine cw_seq ?_
    refine cw_ret ?_
    repeat first | refine ret_then ?_ | refine ret_inb ?_
    rw [rowE_I] at S
    exact res1 rfl ⟨o, hP.ord, fun x y hxy hy => so_up (g := fun i => V.getD i 0) hO hxy hy, S.retNew (i := 0) (mk := id) rfl⟩
end
end Go.Proofs.Ytbcgbcipigcbhaa
