/- hachurelaw09.Land and hachurelaw09.Made. -/
import Derived.Test.YtbcgbcipigcbhaaGreatKzE
namespace Go.Proofs.YtbcgbcipigcbhaaGreat
open Go.RowKit
set_option linter.unusedVariables false
set_option linter.unusedSimpArgs false
set_option maxRecDepth 100000

/-- what Land asks for -/
structure LandOk (w h : Int) (V : List Int) (most : Int) : Prop where
  w1 : 1 ≤ w
  h1 : 1 ≤ h
  wm : w ≤ most
  hm : h ≤ most
  area : w * h ≤ most
  len : (V.length : Int) = w * h
  may : ∀ v ∈ V, mayB v = true
section
variable {W : World} {A : Option Addr} {V : List Int}
theorem land_E (w h most : Int) (cap : Nat) (hmost : 0 ≤ most ∧ most ≤ 2000) (hok : LandOk w h V most) (hA : Rd W A (ints V)) :
    Fn Tryz.prog 5 [.int .i64 w, .int .i64 h, .slice A V.length cap, .int .i64 most] W (RetG (.tuple #[modV w h A V.length cap, .bool true]) W) := by
  obtain ⟨hw1, hh1, hwm, hhm, har, hlen, hmay⟩ := hok
  have hnn : 0 ≤ w * h := Int.mul_nonneg (by omega) (by omega)
  have S := St.start W
  refine Fn_enter Tryz.func5 rfl Tryz.results5 Tryz.ntmps5 (by kernel_rfl) (by kernel_rfl) ?_
  repeat refine cw_seq ?_
  refine cw_region ?_
  refine rw_newB (op_alloc Tryz.zeroValue25 rfl) S ?_
  intro b_md w2_ g2_ S
  refine rw_v (op_pure rfl) ?_
  first | refine rw_end ?_ | (refine rw_nil ?_; show CW _ _ _ _ _ _) | refine rw_nil ?_
  repeat refine cw_seq ?_
  refine cw_region ?_
  refine rw_v (op_pure rfl) ?_
  first | refine rw_v (op_b (b := true) rfl (decide_eq_true (by omega))) ?_ | refine rw_v (op_b (b := false) rfl (decide_eq_false (by omega))) ?_ | refine rw_v (op_pure rfl) ?_
  refine rw_v (op_pure rfl) ?_
  first | refine rw_off rfl ?_ | (refine rw_on rfl ?_; refine rw_v (op_pure rfl) ?_)
  first | refine rw_off rfl ?_ | (refine rw_on rfl ?_; (first | refine rw_v (op_b (b := true) rfl (decide_eq_true (by omega))) ?_ | refine rw_v (op_b (b := false) rfl (decide_eq_false (by omega))) ?_ | refine rw_v (op_pure rfl) ?_))
  iterate 2 refine rw_v (op_pure rfl) ?_
  first | refine rw_off rfl ?_ | (refine rw_on rfl ?_; refine rw_v (op_pure rfl) ?_)
  first | refine rw_off rfl ?_ | (refine rw_on rfl ?_; refine rw_v (op_pure rfl) ?_)
  first | refine rw_off rfl ?_ | (refine rw_on rfl ?_; (first | refine rw_v (op_b (b := true) rfl (decide_eq_true (by omega))) ?_ | refine rw_v (op_b (b := false) rfl (decide_eq_false (by omega))) ?_ | refine rw_v (op_pure rfl) ?_))
  iterate 2 refine rw_v (op_pure rfl) ?_
  first | refine rw_off rfl ?_ | (refine rw_on rfl ?_; refine rw_v (op_pure rfl) ?_)
  first | refine rw_off rfl ?_ | (refine rw_on rfl ?_; refine rw_v (op_pure rfl) ?_)
  first | refine rw_off rfl ?_ | (refine rw_on rfl ?_; (first | refine rw_v (op_b (b := true) rfl (decide_eq_true (by omega))) ?_ | refine rw_v (op_b (b := false) rfl (decide_eq_false (by omega))) ?_ | refine rw_v (op_pure rfl) ?_))
  iterate 2 refine rw_v (op_pure rfl) ?_
  first | refine rw_off rfl ?_ | (refine rw_on rfl ?_; refine rw_v (op_pure rfl) ?_)
  first | refine rw_off rfl ?_ | (refine rw_on rfl ?_; refine rw_v (op_pure rfl) ?_)
  first | refine rw_off rfl ?_ | (refine rw_on rfl ?_; refine rw_v (op_rng rfl (by omega)) ?_)
  first | refine rw_off rfl ?_ | (refine rw_on rfl ?_; refine rw_v (op_pure rfl) ?_)
  first | refine rw_off rfl ?_ | (refine rw_on rfl ?_; (first | refine rw_v (op_b (b := true) rfl (decide_eq_true (by omega))) ?_ | refine rw_v (op_b (b := false) rfl (decide_eq_false (by omega))) ?_ | refine rw_v (op_pure rfl) ?_))
  iterate 2 refine rw_v (op_pure rfl) ?_
  first | refine rw_off rfl ?_ | (refine rw_on rfl ?_; refine rw_v (op_pure rfl) ?_)
  first | refine rw_off rfl ?_ | (refine rw_on rfl ?_; refine rw_v (op_len Tryz.underlying22 rfl) ?_)
  first | refine rw_off rfl ?_ | (refine rw_on rfl ?_; refine rw_v (op_pure rfl) ?_)
  first | refine rw_off rfl ?_ | (refine rw_on rfl ?_; refine rw_v (op_pure rfl) ?_)
  first | refine rw_off rfl ?_ | (refine rw_on rfl ?_; refine rw_v (op_rng rfl (by omega)) ?_)
  first | refine rw_off rfl ?_ | (refine rw_on rfl ?_; (first | refine rw_v (op_b (b := true) rfl (bne_iff_ne.2 (by omega))) ?_ | refine rw_v (op_b (b := false) rfl (bne_eq_false_iff_eq.2 (by omega))) ?_ | refine rw_v (op_pure rfl) ?_))
  refine rw_v (op_pure rfl) ?_
  first | refine rw_end ?_ | (refine rw_nil ?_; show CW _ _ _ _ _ _) | refine rw_nil ?_
  repeat refine cw_seq ?_
  refine cw_false rfl ?_
  repeat refine cw_seq ?_
  refine cw_skip ?_
  try show CW _ _ _ _ _ _
  repeat refine cw_seq ?_
  refine cw_region ?_
  refine rw_v (op_pure rfl) ?_
  first | refine rw_end ?_ | (refine rw_nil ?_; show CW _ _ _ _ _ _) | refine rw_nil ?_
  repeat refine cw_seq ?_
  refine cw_block ?_
  repeat refine cw_seq ?_
  refine cw_loop (fun m e w' => ∃ k : Nat, k + m = V.length ∧ SL e [(0, .int .i64 w), (1, .int .i64 h), (2, .slice A V.length cap), (8, .pointer (some ⟨b_md, 0, none⟩)), (10, .int .i64 k)] ∧ St No W w' [.blk b_md 25 [.int .i64 0, .int .i64 0, .slice none 0 0]]) V.length
    ⟨0, by omega, ⟨rfl, rfl, rfl, rfl, rfl, trivial⟩, S⟩ ?_
  rintro m e w' ⟨k, hk, hsl, S⟩
  rw [hsl.fold]
  repeat refine cw_seq ?_
  refine cw_region ?_
  iterate 2 refine rw_v (op_pure rfl) ?_
  refine rw_v (op_len Tryz.underlying22 rfl) ?_
  refine rw_v (op_pure rfl) ?_
  first | refine rw_end ?_ | (refine rw_nil ?_; show CW _ _ _ _ _ _) | refine rw_nil ?_
  repeat refine cw_seq ?_
  refine cw_cond rfl (fun hc => ?_) (fun hc => ?_)
  · try simp only [decide_eq_true_eq, decide_eq_false_iff_not, beq_iff_eq, bne_iff_ne, beq_eq_false_iff_ne, bne_eq_false_iff_eq, Bool.not_eq_true', Bool.not_eq_false', ne_eq, Decidable.not_not, Int.natCast_inj, Int.ofNat_lt, Int.ofNat_le, gt_iff_lt, ge_iff_le, Int.not_lt, Int.not_le] at hc
    have hk1 : k < V.length := by omega
    have sa_A : SomeA A := hA.someA (by rw [ints_len]; omega)
    have hx : (ints V)[(k : Int).toNat * 1]? = some (.int .i64 V[k]) := by simp [ints, hk1]
    have hmk := hmay _ (List.getElem_mem hk1)
    repeat refine cw_seq ?_
    refine cw_skip ?_
    try show CW _ _ _ _ _ _
    repeat refine cw_seq ?_
    refine cw_block ?_
    repeat refine cw_seq ?_
    refine cw_region ?_
    iterate 2 refine rw_v (op_pure rfl) ?_
    refine rw_v (op_idx Tryz.underlying22 Tryz.sizeOf2 rfl rfl sa_A (by omega) (by omega)) ?_
    refine rw_r (op_ldR Tryz.underlying2 rfl rfl (hA.gr S.out) hx) ?_
    refine rw_call rfl (rmay_E _ w') ?_
    rintro _ w3_ ⟨rfl, g3_⟩
    have S := S.gr g3_
    refine rw_v (op_pure rfl) ?_
    first | refine rw_end ?_ | (refine rw_nil ?_; show CW _ _ _ _ _ _) | refine rw_nil ?_
    repeat refine cw_seq ?_
    refine cw_false (by rw [hmk]; rfl) ?_
    repeat refine cw_seq ?_
    refine cw_skip ?_
    try show CW _ _ _ _ _ _
    repeat refine cw_seq ?_
    refine cw_region ?_
    refine rw_v (op_pure rfl) ?_
    refine rw_v (op_rng rfl (by omega)) ?_
    refine rw_v (op_pure rfl) ?_
    first | refine rw_end ?_ | (refine rw_nil ?_; show CW _ _ _ _ _ _) | refine rw_nil ?_
    exact ⟨m - 1, by omega, k + 1, by omega, ⟨rfl, rfl, rfl, rfl, ie (by omega), trivial⟩, S⟩
  · try simp only [decide_eq_true_eq, decide_eq_false_iff_not, beq_iff_eq, bne_iff_ne, beq_eq_false_iff_ne, bne_eq_false_iff_eq, Bool.not_eq_true', Bool.not_eq_false', ne_eq, Decidable.not_not, Int.natCast_inj, Int.ofNat_lt, Int.ofNat_le, gt_iff_lt, ge_iff_le, Int.not_lt, Int.not_le] at hc
    repeat refine cw_seq ?_
    refine cw_exit ?_
    repeat first | refine exit_then ?_ | refine exit_inb ?_
    show CW _ _ _ _ _ _
    repeat refine cw_seq ?_
    refine cw_region ?_
    iterate 3 refine rw_v (op_pure rfl) ?_
    refine rw_v (op_build (pl := [(0, 1), (1, 1), (2, 1)]) Tryz.underlying25 Tryz.zeroValue25 (fun w => by kernel_rfl) rfl rfl) ?_
    refine rw_storeSA (i := 0) S rfl (Tryz.sizeOf25 _) rfl rfl rfl rfl rfl rfl ?_
    intro w4_ S
    refine rw_v (op_pure rfl) ?_
    first | refine rw_end ?_ | (refine rw_nil ?_; show CW _ _ _ _ _ _) | refine rw_nil ?_
    repeat refine cw_seq ?_
    refine cw_ret ?_
    repeat first | refine ret_then ?_ | refine ret_inb ?_
    exact resAT Tryz.underlying25 rfl (Tryz.sizeOf25 _) rfl (S.blk (i := 0) rfl) rfl rfl rfl ⟨rfl, S.out⟩
theorem landNo_E (w h most : Int) (cap : Nat) (hmost : 0 ≤ most ∧ most ≤ 2000) (hl : V.length ≤ 9223372036854775807) (hok : ¬ LandOk w h V most) (hA : Rd W A (ints V)) :
    Fn Tryz.prog 5 [.int .i64 w, .int .i64 h, .slice A V.length cap, .int .i64 most] W (RetG (.tuple #[modV 0 0 none 0 0, .bool false]) W) := by
  by_cases hsz : 1 ≤ w ∧ 1 ≤ h ∧ w ≤ most ∧ h ≤ most
  · have hnn : 0 ≤ w * h := Int.mul_nonneg (by omega) (by omega)
    have hup : w * h ≤ 2000 * 2000 := Int.mul_le_mul (by omega) (by omega) (by omega) (by omega)
    by_cases hlen : w * h ≤ most ∧ (V.length : Int) = w * h
    · have hex : ∃ k : Nat, k < V.length ∧ ∃ v, V[k]? = some v ∧ mayB v = false ∧ ∀ i, i < k → ∀ u, V[i]? = some u → mayB u = true := by
        have hnot : ¬ ∀ v ∈ V, mayB v = true := fun hm => hok ⟨hsz.1, hsz.2.1, hsz.2.2.1, hsz.2.2.2, hlen.1, hlen.2, hm⟩
        have key : ∀ n : Nat, n ≤ V.length → (∀ i, i < n → ∀ u, V[i]? = some u → mayB u = true) ∨ ∃ k : Nat, k < V.length ∧ ∃ v, V[k]? = some v ∧ mayB v = false ∧ ∀ i, i < k → ∀ u, V[i]? = some u → mayB u = true := by
          intro n
          induction n with
          | zero => intro _; exact .inl (fun i hi => by omega)
          | succ n ih =>
            intro hn
            rcases ih (by omega) with h1 | h1
            · cases hb : mayB V[n]
              · exact .inr ⟨n, by omega, _, List.getElem?_eq_getElem (by omega), hb, h1⟩
              · refine .inl fun i hi u hu => ?_
                by_cases e : i = n
                · subst e; rw [List.getElem?_eq_getElem (by omega)] at hu; cases hu; exact hb
                · exact h1 i (by omega) u hu
            · exact .inr h1
        rcases key V.length (Nat.le_refl _) with h1 | h1
        · exact absurd (fun v hv => by obtain ⟨i, hi, rfl⟩ := List.mem_iff_getElem.1 hv; exact h1 i hi _ (List.getElem?_eq_getElem hi)) hnot
        · exact h1
      obtain ⟨k0, hk0, v0, hv0, hb0, hbef⟩ := hex
      have S := St.start W
      refine Fn_enter Tryz.func5 rfl Tryz.results5 Tryz.ntmps5 (by kernel_rfl) (by kernel_rfl) ?_
      repeat refine cw_seq ?_
      refine cw_region ?_
      refine rw_newB (op_alloc Tryz.zeroValue25 rfl) S ?_
      intro b_md w2_ g2_ S
      refine rw_v (op_pure rfl) ?_
      first | refine rw_end ?_ | (refine rw_nil ?_; show CW _ _ _ _ _ _) | refine rw_nil ?_
      repeat refine cw_seq ?_
      refine cw_region ?_
      refine rw_v (op_pure rfl) ?_
      first | refine rw_v (op_b (b := true) rfl (decide_eq_true (by omega))) ?_ | refine rw_v (op_b (b := false) rfl (decide_eq_false (by omega))) ?_ | refine rw_v (op_pure rfl) ?_
      refine rw_v (op_pure rfl) ?_
      first | refine rw_off rfl ?_ | (refine rw_on rfl ?_; refine rw_v (op_pure rfl) ?_)
      first | refine rw_off rfl ?_ | (refine rw_on rfl ?_; (first | refine rw_v (op_b (b := true) rfl (decide_eq_true (by omega))) ?_ | refine rw_v (op_b (b := false) rfl (decide_eq_false (by omega))) ?_ | refine rw_v (op_pure rfl) ?_))
      iterate 2 refine rw_v (op_pure rfl) ?_
      first | refine rw_off rfl ?_ | (refine rw_on rfl ?_; refine rw_v (op_pure rfl) ?_)
      first | refine rw_off rfl ?_ | (refine rw_on rfl ?_; refine rw_v (op_pure rfl) ?_)
      first | refine rw_off rfl ?_ | (refine rw_on rfl ?_; (first | refine rw_v (op_b (b := true) rfl (decide_eq_true (by omega))) ?_ | refine rw_v (op_b (b := false) rfl (decide_eq_false (by omega))) ?_ | refine rw_v (op_pure rfl) ?_))
      iterate 2 refine rw_v (op_pure rfl) ?_
      first | refine rw_off rfl ?_ | (refine rw_on rfl ?_; refine rw_v (op_pure rfl) ?_)
      first | refine rw_off rfl ?_ | (refine rw_on rfl ?_; refine rw_v (op_pure rfl) ?_)
      first | refine rw_off rfl ?_ | (refine rw_on rfl ?_; (first | refine rw_v (op_b (b := true) rfl (decide_eq_true (by omega))) ?_ | refine rw_v (op_b (b := false) rfl (decide_eq_false (by omega))) ?_ | refine rw_v (op_pure rfl) ?_))
      iterate 2 refine rw_v (op_pure rfl) ?_
      first | refine rw_off rfl ?_ | (refine rw_on rfl ?_; refine rw_v (op_pure rfl) ?_)
      first | refine rw_off rfl ?_ | (refine rw_on rfl ?_; refine rw_v (op_pure rfl) ?_)
      first | refine rw_off rfl ?_ | (refine rw_on rfl ?_; refine rw_v (op_rng rfl (by omega)) ?_)
      first | refine rw_off rfl ?_ | (refine rw_on rfl ?_; refine rw_v (op_pure rfl) ?_)
      first | refine rw_off rfl ?_ | (refine rw_on rfl ?_; (first | refine rw_v (op_b (b := true) rfl (decide_eq_true (by omega))) ?_ | refine rw_v (op_b (b := false) rfl (decide_eq_false (by omega))) ?_ | refine rw_v (op_pure rfl) ?_))
      iterate 2 refine rw_v (op_pure rfl) ?_
      first | refine rw_off rfl ?_ | (refine rw_on rfl ?_; refine rw_v (op_pure rfl) ?_)
      first | refine rw_off rfl ?_ | (refine rw_on rfl ?_; refine rw_v (op_len Tryz.underlying22 rfl) ?_)
      first | refine rw_off rfl ?_ | (refine rw_on rfl ?_; refine rw_v (op_pure rfl) ?_)
      first | refine rw_off rfl ?_ | (refine rw_on rfl ?_; refine rw_v (op_pure rfl) ?_)
      first | refine rw_off rfl ?_ | (refine rw_on rfl ?_; refine rw_v (op_rng rfl (by omega)) ?_)
      first | refine rw_off rfl ?_ | (refine rw_on rfl ?_; (first | refine rw_v (op_b (b := true) rfl (bne_iff_ne.2 (by omega))) ?_ | refine rw_v (op_b (b := false) rfl (bne_eq_false_iff_eq.2 (by omega))) ?_ | refine rw_v (op_pure rfl) ?_))
      refine rw_v (op_pure rfl) ?_
      first | refine rw_end ?_ | (refine rw_nil ?_; show CW _ _ _ _ _ _) | refine rw_nil ?_
      repeat refine cw_seq ?_
      refine cw_false rfl ?_
      repeat refine cw_seq ?_
      refine cw_skip ?_
      try show CW _ _ _ _ _ _
      repeat refine cw_seq ?_
      refine cw_region ?_
      refine rw_v (op_pure rfl) ?_
      first | refine rw_end ?_ | (refine rw_nil ?_; show CW _ _ _ _ _ _) | refine rw_nil ?_
      repeat refine cw_seq ?_
      refine cw_block ?_
      repeat refine cw_seq ?_
      refine cw_loop (fun m e w' => ∃ k : Nat, k + m = k0 ∧ SL e [(0, .int .i64 w), (1, .int .i64 h), (2, .slice A V.length cap), (8, .pointer (some ⟨b_md, 0, none⟩)), (10, .int .i64 k)] ∧ St No W w' [.blk b_md 25 [.int .i64 0, .int .i64 0, .slice none 0 0]]) k0
        ⟨0, by omega, ⟨rfl, rfl, rfl, rfl, rfl, trivial⟩, S⟩ ?_
      rintro m e w' ⟨k, hk, hsl, S⟩
      rw [hsl.fold]
      have hk1 : k < V.length := by omega
      have sa_A : SomeA A := hA.someA (by rw [ints_len]; omega)
      have hx : (ints V)[(k : Int).toNat * 1]? = some (.int .i64 V[k]) := by simp [ints, hk1]
      by_cases hke : k = k0
      · subst hke
        rw [List.getElem?_eq_getElem hk1] at hv0
        injection hv0 with hv0
        repeat refine cw_seq ?_
        refine cw_region ?_
        iterate 2 refine rw_v (op_pure rfl) ?_
        refine rw_v (op_len Tryz.underlying22 rfl) ?_
        refine rw_v (op_b (b := true) rfl (decide_eq_true (by omega))) ?_
        first | refine rw_end ?_ | (refine rw_nil ?_; show CW _ _ _ _ _ _) | refine rw_nil ?_
        repeat refine cw_seq ?_
        refine cw_true rfl ?_
        repeat refine cw_seq ?_
        refine cw_skip ?_
        try show CW _ _ _ _ _ _
        repeat refine cw_seq ?_
        refine cw_block ?_
        repeat refine cw_seq ?_
        refine cw_region ?_
        iterate 2 refine rw_v (op_pure rfl) ?_
        refine rw_v (op_idx Tryz.underlying22 Tryz.sizeOf2 rfl rfl sa_A (by omega) (by omega)) ?_
        refine rw_r (op_ldR Tryz.underlying2 rfl rfl (hA.gr S.out) hx) ?_
        refine rw_call rfl (rmay_E _ w') ?_
        rintro _ w3_ ⟨rfl, g3_⟩
        have S := S.gr g3_
        refine rw_v (op_pure rfl) ?_
        first | refine rw_end ?_ | (refine rw_nil ?_; show CW _ _ _ _ _ _) | refine rw_nil ?_
        repeat refine cw_seq ?_
        refine cw_true (by rw [hv0, hb0]; rfl) ?_
        repeat refine cw_seq ?_
        refine cw_region ?_
        refine rw_v (op_build (pl := [(0, 1), (1, 1), (2, 1)]) Tryz.underlying25 Tryz.zeroValue25 (fun w => by kernel_rfl) rfl rfl) ?_
        refine rw_storeSA (i := 0) S rfl (Tryz.sizeOf25 _) rfl rfl rfl rfl rfl rfl ?_
        intro w4_ S
        refine rw_v (op_pure rfl) ?_
        first | refine rw_end ?_ | (refine rw_nil ?_; show CW _ _ _ _ _ _) | refine rw_nil ?_
        repeat refine cw_seq ?_
        refine cw_ret ?_
        repeat first | refine ret_then ?_ | refine ret_inb ?_
        exact resAT Tryz.underlying25 rfl (Tryz.sizeOf25 _) rfl (S.blk (i := 0) rfl) rfl rfl rfl ⟨rfl, S.out⟩
      · have hmk := hbef k (by omega) _ (List.getElem?_eq_getElem hk1)
        repeat refine cw_seq ?_
        refine cw_region ?_
        iterate 2 refine rw_v (op_pure rfl) ?_
        refine rw_v (op_len Tryz.underlying22 rfl) ?_
        refine rw_v (op_b (b := true) rfl (decide_eq_true (by omega))) ?_
        first | refine rw_end ?_ | (refine rw_nil ?_; show CW _ _ _ _ _ _) | refine rw_nil ?_
        repeat refine cw_seq ?_
        refine cw_true rfl ?_
        repeat refine cw_seq ?_
        refine cw_skip ?_
        try show CW _ _ _ _ _ _
        repeat refine cw_seq ?_
        refine cw_block ?_
        repeat refine cw_seq ?_
        refine cw_region ?_
        iterate 2 refine rw_v (op_pure rfl) ?_
        refine rw_v (op_idx Tryz.underlying22 Tryz.sizeOf2 rfl rfl sa_A (by omega) (by omega)) ?_
        refine rw_r (op_ldR Tryz.underlying2 rfl rfl (hA.gr S.out) hx) ?_
        refine rw_call rfl (rmay_E _ w') ?_
        rintro _ w5_ ⟨rfl, g5_⟩
        have S := S.gr g5_
        refine rw_v (op_pure rfl) ?_
        first | refine rw_end ?_ | (refine rw_nil ?_; show CW _ _ _ _ _ _) | refine rw_nil ?_
        repeat refine cw_seq ?_
        refine cw_false (by rw [hmk]; rfl) ?_
        repeat refine cw_seq ?_
        refine cw_skip ?_
        try show CW _ _ _ _ _ _
        repeat refine cw_seq ?_
        refine cw_region ?_
        refine rw_v (op_pure rfl) ?_
        refine rw_v (op_rng rfl (by omega)) ?_
        refine rw_v (op_pure rfl) ?_
        first | refine rw_end ?_ | (refine rw_nil ?_; show CW _ _ _ _ _ _) | refine rw_nil ?_
        exact ⟨m - 1, by omega, k + 1, by omega, ⟨rfl, rfl, rfl, rfl, ie (by omega), trivial⟩, S⟩
    · have hlen : most < w * h ∨ (w * h ≤ most ∧ (V.length : Int) ≠ w * h) := by omega
      rcases hlen with h1 | h1
      · skip
        have S := St.start W
        refine Fn_enter Tryz.func5 rfl Tryz.results5 Tryz.ntmps5 (by kernel_rfl) (by kernel_rfl) ?_
        repeat refine cw_seq ?_
        refine cw_region ?_
        refine rw_newB (op_alloc Tryz.zeroValue25 rfl) S ?_
        intro b_b1 w2_ g2_ S
        refine rw_v (op_pure rfl) ?_
        first | refine rw_end ?_ | (refine rw_nil ?_; show CW _ _ _ _ _ _) | refine rw_nil ?_
        repeat refine cw_seq ?_
        refine cw_region ?_
        refine rw_v (op_pure rfl) ?_
        first | refine rw_v (op_b (b := true) rfl (decide_eq_true (by omega))) ?_ | refine rw_v (op_b (b := false) rfl (decide_eq_false (by omega))) ?_ | refine rw_v (op_pure rfl) ?_
        refine rw_v (op_pure rfl) ?_
        first | refine rw_off rfl ?_ | (refine rw_on rfl ?_; refine rw_v (op_pure rfl) ?_)
        first | refine rw_off rfl ?_ | (refine rw_on rfl ?_; (first | refine rw_v (op_b (b := true) rfl (decide_eq_true (by omega))) ?_ | refine rw_v (op_b (b := false) rfl (decide_eq_false (by omega))) ?_ | refine rw_v (op_pure rfl) ?_))
        iterate 2 refine rw_v (op_pure rfl) ?_
        first | refine rw_off rfl ?_ | (refine rw_on rfl ?_; refine rw_v (op_pure rfl) ?_)
        first | refine rw_off rfl ?_ | (refine rw_on rfl ?_; refine rw_v (op_pure rfl) ?_)
        first | refine rw_off rfl ?_ | (refine rw_on rfl ?_; (first | refine rw_v (op_b (b := true) rfl (decide_eq_true (by omega))) ?_ | refine rw_v (op_b (b := false) rfl (decide_eq_false (by omega))) ?_ | refine rw_v (op_pure rfl) ?_))
        iterate 2 refine rw_v (op_pure rfl) ?_
        first | refine rw_off rfl ?_ | (refine rw_on rfl ?_; refine rw_v (op_pure rfl) ?_)
        first | refine rw_off rfl ?_ | (refine rw_on rfl ?_; refine rw_v (op_pure rfl) ?_)
        first | refine rw_off rfl ?_ | (refine rw_on rfl ?_; (first | refine rw_v (op_b (b := true) rfl (decide_eq_true (by omega))) ?_ | refine rw_v (op_b (b := false) rfl (decide_eq_false (by omega))) ?_ | refine rw_v (op_pure rfl) ?_))
        iterate 2 refine rw_v (op_pure rfl) ?_
        first | refine rw_off rfl ?_ | (refine rw_on rfl ?_; refine rw_v (op_pure rfl) ?_)
        first | refine rw_off rfl ?_ | (refine rw_on rfl ?_; refine rw_v (op_pure rfl) ?_)
        first | refine rw_off rfl ?_ | (refine rw_on rfl ?_; refine rw_v (op_rng rfl (by omega)) ?_)
        first | refine rw_off rfl ?_ | (refine rw_on rfl ?_; refine rw_v (op_pure rfl) ?_)
        first | refine rw_off rfl ?_ | (refine rw_on rfl ?_; (first | refine rw_v (op_b (b := true) rfl (decide_eq_true (by omega))) ?_ | refine rw_v (op_b (b := false) rfl (decide_eq_false (by omega))) ?_ | refine rw_v (op_pure rfl) ?_))
        iterate 2 refine rw_v (op_pure rfl) ?_
        first | refine rw_off rfl ?_ | (refine rw_on rfl ?_; refine rw_v (op_pure rfl) ?_)
        first | refine rw_off rfl ?_ | (refine rw_on rfl ?_; refine rw_v (op_len Tryz.underlying22 rfl) ?_)
        first | refine rw_off rfl ?_ | (refine rw_on rfl ?_; refine rw_v (op_pure rfl) ?_)
        first | refine rw_off rfl ?_ | (refine rw_on rfl ?_; refine rw_v (op_pure rfl) ?_)
        first | refine rw_off rfl ?_ | (refine rw_on rfl ?_; refine rw_v (op_rng rfl (by omega)) ?_)
        first | refine rw_off rfl ?_ | (refine rw_on rfl ?_; (first | refine rw_v (op_b (b := true) rfl (bne_iff_ne.2 (by omega))) ?_ | refine rw_v (op_b (b := false) rfl (bne_eq_false_iff_eq.2 (by omega))) ?_ | refine rw_v (op_pure rfl) ?_))
        refine rw_v (op_pure rfl) ?_
        first | refine rw_end ?_ | (refine rw_nil ?_; show CW _ _ _ _ _ _) | refine rw_nil ?_
        repeat refine cw_seq ?_
        refine cw_true rfl ?_
        repeat refine cw_seq ?_
        refine cw_region ?_
        refine rw_v (op_build (pl := [(0, 1), (1, 1), (2, 1)]) Tryz.underlying25 Tryz.zeroValue25 (fun w => by kernel_rfl) rfl rfl) ?_
        refine rw_storeSA (i := 0) S rfl (Tryz.sizeOf25 _) rfl rfl rfl rfl rfl rfl ?_
        intro w3_ S
        refine rw_v (op_pure rfl) ?_
        first | refine rw_end ?_ | (refine rw_nil ?_; show CW _ _ _ _ _ _) | refine rw_nil ?_
        repeat refine cw_seq ?_
        refine cw_ret ?_
        repeat first | refine ret_then ?_ | refine ret_inb ?_
        exact resAT Tryz.underlying25 rfl (Tryz.sizeOf25 _) rfl (S.blk (i := 0) rfl) rfl rfl rfl ⟨rfl, S.out⟩
      · skip
        have S := St.start W
        refine Fn_enter Tryz.func5 rfl Tryz.results5 Tryz.ntmps5 (by kernel_rfl) (by kernel_rfl) ?_
        repeat refine cw_seq ?_
        refine cw_region ?_
        refine rw_newB (op_alloc Tryz.zeroValue25 rfl) S ?_
        intro b_b1 w2_ g2_ S
        refine rw_v (op_pure rfl) ?_
        first | refine rw_end ?_ | (refine rw_nil ?_; show CW _ _ _ _ _ _) | refine rw_nil ?_
        repeat refine cw_seq ?_
        refine cw_region ?_
        refine rw_v (op_pure rfl) ?_
        first | refine rw_v (op_b (b := true) rfl (decide_eq_true (by omega))) ?_ | refine rw_v (op_b (b := false) rfl (decide_eq_false (by omega))) ?_ | refine rw_v (op_pure rfl) ?_
        refine rw_v (op_pure rfl) ?_
        first | refine rw_off rfl ?_ | (refine rw_on rfl ?_; refine rw_v (op_pure rfl) ?_)
        first | refine rw_off rfl ?_ | (refine rw_on rfl ?_; (first | refine rw_v (op_b (b := true) rfl (decide_eq_true (by omega))) ?_ | refine rw_v (op_b (b := false) rfl (decide_eq_false (by omega))) ?_ | refine rw_v (op_pure rfl) ?_))
        iterate 2 refine rw_v (op_pure rfl) ?_
        first | refine rw_off rfl ?_ | (refine rw_on rfl ?_; refine rw_v (op_pure rfl) ?_)
        first | refine rw_off rfl ?_ | (refine rw_on rfl ?_; refine rw_v (op_pure rfl) ?_)
        first | refine rw_off rfl ?_ | (refine rw_on rfl ?_; (first | refine rw_v (op_b (b := true) rfl (decide_eq_true (by omega))) ?_ | refine rw_v (op_b (b := false) rfl (decide_eq_false (by omega))) ?_ | refine rw_v (op_pure rfl) ?_))
        iterate 2 refine rw_v (op_pure rfl) ?_
        first | refine rw_off rfl ?_ | (refine rw_on rfl ?_; refine rw_v (op_pure rfl) ?_)
        first | refine rw_off rfl ?_ | (refine rw_on rfl ?_; refine rw_v (op_pure rfl) ?_)
        first | refine rw_off rfl ?_ | (refine rw_on rfl ?_; (first | refine rw_v (op_b (b := true) rfl (decide_eq_true (by omega))) ?_ | refine rw_v (op_b (b := false) rfl (decide_eq_false (by omega))) ?_ | refine rw_v (op_pure rfl) ?_))
        iterate 2 refine rw_v (op_pure rfl) ?_
        first | refine rw_off rfl ?_ | (refine rw_on rfl ?_; refine rw_v (op_pure rfl) ?_)
        first | refine rw_off rfl ?_ | (refine rw_on rfl ?_; refine rw_v (op_pure rfl) ?_)
        first | refine rw_off rfl ?_ | (refine rw_on rfl ?_; refine rw_v (op_rng rfl (by omega)) ?_)
        first | refine rw_off rfl ?_ | (refine rw_on rfl ?_; refine rw_v (op_pure rfl) ?_)
        first | refine rw_off rfl ?_ | (refine rw_on rfl ?_; (first | refine rw_v (op_b (b := true) rfl (decide_eq_true (by omega))) ?_ | refine rw_v (op_b (b := false) rfl (decide_eq_false (by omega))) ?_ | refine rw_v (op_pure rfl) ?_))
        iterate 2 refine rw_v (op_pure rfl) ?_
        first | refine rw_off rfl ?_ | (refine rw_on rfl ?_; refine rw_v (op_pure rfl) ?_)
        first | refine rw_off rfl ?_ | (refine rw_on rfl ?_; refine rw_v (op_len Tryz.underlying22 rfl) ?_)
        first | refine rw_off rfl ?_ | (refine rw_on rfl ?_; refine rw_v (op_pure rfl) ?_)
        first | refine rw_off rfl ?_ | (refine rw_on rfl ?_; refine rw_v (op_pure rfl) ?_)
        first | refine rw_off rfl ?_ | (refine rw_on rfl ?_; refine rw_v (op_rng rfl (by omega)) ?_)
        first | refine rw_off rfl ?_ | (refine rw_on rfl ?_; (first | refine rw_v (op_b (b := true) rfl (bne_iff_ne.2 (by omega))) ?_ | refine rw_v (op_b (b := false) rfl (bne_eq_false_iff_eq.2 (by omega))) ?_ | refine rw_v (op_pure rfl) ?_))
        refine rw_v (op_pure rfl) ?_
        first | refine rw_end ?_ | (refine rw_nil ?_; show CW _ _ _ _ _ _) | refine rw_nil ?_
        repeat refine cw_seq ?_
        refine cw_true rfl ?_
        repeat refine cw_seq ?_
        refine cw_region ?_
        refine rw_v (op_build (pl := [(0, 1), (1, 1), (2, 1)]) Tryz.underlying25 Tryz.zeroValue25 (fun w => by kernel_rfl) rfl rfl) ?_
        refine rw_storeSA (i := 0) S rfl (Tryz.sizeOf25 _) rfl rfl rfl rfl rfl rfl ?_
        intro w3_ S
        refine rw_v (op_pure rfl) ?_
        first | refine rw_end ?_ | (refine rw_nil ?_; show CW _ _ _ _ _ _) | refine rw_nil ?_
        repeat refine cw_seq ?_
        refine cw_ret ?_
        repeat first | refine ret_then ?_ | refine ret_inb ?_
        exact resAT Tryz.underlying25 rfl (Tryz.sizeOf25 _) rfl (S.blk (i := 0) rfl) rfl rfl rfl ⟨rfl, S.out⟩
  · have hsz : w < 1 ∨ (1 ≤ w ∧ h < 1) ∨ (1 ≤ w ∧ 1 ≤ h ∧ most < w) ∨ (1 ≤ w ∧ 1 ≤ h ∧ w ≤ most ∧ most < h) := by omega
    rcases hsz with h1 | h1 | h1 | h1
    · skip
      have S := St.start W
      refine Fn_enter Tryz.func5 rfl Tryz.results5 Tryz.ntmps5 (by kernel_rfl) (by kernel_rfl) ?_
      repeat refine cw_seq ?_
      refine cw_region ?_
      refine rw_newB (op_alloc Tryz.zeroValue25 rfl) S ?_
      intro b_b1 w2_ g2_ S
      refine rw_v (op_pure rfl) ?_
      first | refine rw_end ?_ | (refine rw_nil ?_; show CW _ _ _ _ _ _) | refine rw_nil ?_
      repeat refine cw_seq ?_
      refine cw_region ?_
      refine rw_v (op_pure rfl) ?_
      first | refine rw_v (op_b (b := true) rfl (decide_eq_true (by omega))) ?_ | refine rw_v (op_b (b := false) rfl (decide_eq_false (by omega))) ?_ | refine rw_v (op_pure rfl) ?_
      refine rw_v (op_pure rfl) ?_
      first | refine rw_off rfl ?_ | (refine rw_on rfl ?_; refine rw_v (op_pure rfl) ?_)
      first | refine rw_off rfl ?_ | (refine rw_on rfl ?_; (first | refine rw_v (op_b (b := true) rfl (decide_eq_true (by omega))) ?_ | refine rw_v (op_b (b := false) rfl (decide_eq_false (by omega))) ?_ | refine rw_v (op_pure rfl) ?_))
      iterate 2 refine rw_v (op_pure rfl) ?_
      first | refine rw_off rfl ?_ | (refine rw_on rfl ?_; refine rw_v (op_pure rfl) ?_)
      first | refine rw_off rfl ?_ | (refine rw_on rfl ?_; refine rw_v (op_pure rfl) ?_)
      first | refine rw_off rfl ?_ | (refine rw_on rfl ?_; (first | refine rw_v (op_b (b := true) rfl (decide_eq_true (by omega))) ?_ | refine rw_v (op_b (b := false) rfl (decide_eq_false (by omega))) ?_ | refine rw_v (op_pure rfl) ?_))
      iterate 2 refine rw_v (op_pure rfl) ?_
      first | refine rw_off rfl ?_ | (refine rw_on rfl ?_; refine rw_v (op_pure rfl) ?_)
      first | refine rw_off rfl ?_ | (refine rw_on rfl ?_; refine rw_v (op_pure rfl) ?_)
      first | refine rw_off rfl ?_ | (refine rw_on rfl ?_; (first | refine rw_v (op_b (b := true) rfl (decide_eq_true (by omega))) ?_ | refine rw_v (op_b (b := false) rfl (decide_eq_false (by omega))) ?_ | refine rw_v (op_pure rfl) ?_))
      iterate 2 refine rw_v (op_pure rfl) ?_
      first | refine rw_off rfl ?_ | (refine rw_on rfl ?_; refine rw_v (op_pure rfl) ?_)
      first | refine rw_off rfl ?_ | (refine rw_on rfl ?_; refine rw_v (op_pure rfl) ?_)
      first | refine rw_off rfl ?_ | (refine rw_on rfl ?_; refine rw_v (op_rng rfl (by omega)) ?_)
      first | refine rw_off rfl ?_ | (refine rw_on rfl ?_; refine rw_v (op_pure rfl) ?_)
      first | refine rw_off rfl ?_ | (refine rw_on rfl ?_; (first | refine rw_v (op_b (b := true) rfl (decide_eq_true (by omega))) ?_ | refine rw_v (op_b (b := false) rfl (decide_eq_false (by omega))) ?_ | refine rw_v (op_pure rfl) ?_))
      iterate 2 refine rw_v (op_pure rfl) ?_
      first | refine rw_off rfl ?_ | (refine rw_on rfl ?_; refine rw_v (op_pure rfl) ?_)
      first | refine rw_off rfl ?_ | (refine rw_on rfl ?_; refine rw_v (op_len Tryz.underlying22 rfl) ?_)
      first | refine rw_off rfl ?_ | (refine rw_on rfl ?_; refine rw_v (op_pure rfl) ?_)
      first | refine rw_off rfl ?_ | (refine rw_on rfl ?_; refine rw_v (op_pure rfl) ?_)
      first | refine rw_off rfl ?_ | (refine rw_on rfl ?_; refine rw_v (op_rng rfl (by omega)) ?_)
      first | refine rw_off rfl ?_ | (refine rw_on rfl ?_; (first | refine rw_v (op_b (b := true) rfl (bne_iff_ne.2 (by omega))) ?_ | refine rw_v (op_b (b := false) rfl (bne_eq_false_iff_eq.2 (by omega))) ?_ | refine rw_v (op_pure rfl) ?_))
      refine rw_v (op_pure rfl) ?_
      first | refine rw_end ?_ | (refine rw_nil ?_; show CW _ _ _ _ _ _) | refine rw_nil ?_
      repeat refine cw_seq ?_
      refine cw_true rfl ?_
      repeat refine cw_seq ?_
      refine cw_region ?_
      refine rw_v (op_build (pl := [(0, 1), (1, 1), (2, 1)]) Tryz.underlying25 Tryz.zeroValue25 (fun w => by kernel_rfl) rfl rfl) ?_
      refine rw_storeSA (i := 0) S rfl (Tryz.sizeOf25 _) rfl rfl rfl rfl rfl rfl ?_
      intro w3_ S
      refine rw_v (op_pure rfl) ?_
      first | refine rw_end ?_ | (refine rw_nil ?_; show CW _ _ _ _ _ _) | refine rw_nil ?_
      repeat refine cw_seq ?_
      refine cw_ret ?_
      repeat first | refine ret_then ?_ | refine ret_inb ?_
      exact resAT Tryz.underlying25 rfl (Tryz.sizeOf25 _) rfl (S.blk (i := 0) rfl) rfl rfl rfl ⟨rfl, S.out⟩
    · skip
      have S := St.start W
      refine Fn_enter Tryz.func5 rfl Tryz.results5 Tryz.ntmps5 (by kernel_rfl) (by kernel_rfl) ?_
      repeat refine cw_seq ?_
      refine cw_region ?_
      refine rw_newB (op_alloc Tryz.zeroValue25 rfl) S ?_
      intro b_b1 w2_ g2_ S
      refine rw_v (op_pure rfl) ?_
      first | refine rw_end ?_ | (refine rw_nil ?_; show CW _ _ _ _ _ _) | refine rw_nil ?_
      repeat refine cw_seq ?_
      refine cw_region ?_
      refine rw_v (op_pure rfl) ?_
      first | refine rw_v (op_b (b := true) rfl (decide_eq_true (by omega))) ?_ | refine rw_v (op_b (b := false) rfl (decide_eq_false (by omega))) ?_ | refine rw_v (op_pure rfl) ?_
      refine rw_v (op_pure rfl) ?_
      first | refine rw_off rfl ?_ | (refine rw_on rfl ?_; refine rw_v (op_pure rfl) ?_)
      first | refine rw_off rfl ?_ | (refine rw_on rfl ?_; (first | refine rw_v (op_b (b := true) rfl (decide_eq_true (by omega))) ?_ | refine rw_v (op_b (b := false) rfl (decide_eq_false (by omega))) ?_ | refine rw_v (op_pure rfl) ?_))
      iterate 2 refine rw_v (op_pure rfl) ?_
      first | refine rw_off rfl ?_ | (refine rw_on rfl ?_; refine rw_v (op_pure rfl) ?_)
      first | refine rw_off rfl ?_ | (refine rw_on rfl ?_; refine rw_v (op_pure rfl) ?_)
      first | refine rw_off rfl ?_ | (refine rw_on rfl ?_; (first | refine rw_v (op_b (b := true) rfl (decide_eq_true (by omega))) ?_ | refine rw_v (op_b (b := false) rfl (decide_eq_false (by omega))) ?_ | refine rw_v (op_pure rfl) ?_))
      iterate 2 refine rw_v (op_pure rfl) ?_
      first | refine rw_off rfl ?_ | (refine rw_on rfl ?_; refine rw_v (op_pure rfl) ?_)
      first | refine rw_off rfl ?_ | (refine rw_on rfl ?_; refine rw_v (op_pure rfl) ?_)
      first | refine rw_off rfl ?_ | (refine rw_on rfl ?_; (first | refine rw_v (op_b (b := true) rfl (decide_eq_true (by omega))) ?_ | refine rw_v (op_b (b := false) rfl (decide_eq_false (by omega))) ?_ | refine rw_v (op_pure rfl) ?_))
      iterate 2 refine rw_v (op_pure rfl) ?_
      first | refine rw_off rfl ?_ | (refine rw_on rfl ?_; refine rw_v (op_pure rfl) ?_)
      first | refine rw_off rfl ?_ | (refine rw_on rfl ?_; refine rw_v (op_pure rfl) ?_)
      first | refine rw_off rfl ?_ | (refine rw_on rfl ?_; refine rw_v (op_rng rfl (by omega)) ?_)
      first | refine rw_off rfl ?_ | (refine rw_on rfl ?_; refine rw_v (op_pure rfl) ?_)
      first | refine rw_off rfl ?_ | (refine rw_on rfl ?_; (first | refine rw_v (op_b (b := true) rfl (decide_eq_true (by omega))) ?_ | refine rw_v (op_b (b := false) rfl (decide_eq_false (by omega))) ?_ | refine rw_v (op_pure rfl) ?_))
      iterate 2 refine rw_v (op_pure rfl) ?_
      first | refine rw_off rfl ?_ | (refine rw_on rfl ?_; refine rw_v (op_pure rfl) ?_)
      first | refine rw_off rfl ?_ | (refine rw_on rfl ?_; refine rw_v (op_len Tryz.underlying22 rfl) ?_)
      first | refine rw_off rfl ?_ | (refine rw_on rfl ?_; refine rw_v (op_pure rfl) ?_)
      first | refine rw_off rfl ?_ | (refine rw_on rfl ?_; refine rw_v (op_pure rfl) ?_)
      first | refine rw_off rfl ?_ | (refine rw_on rfl ?_; refine rw_v (op_rng rfl (by omega)) ?_)
      first | refine rw_off rfl ?_ | (refine rw_on rfl ?_; (first | refine rw_v (op_b (b := true) rfl (bne_iff_ne.2 (by omega))) ?_ | refine rw_v (op_b (b := false) rfl (bne_eq_false_iff_eq.2 (by omega))) ?_ | refine rw_v (op_pure rfl) ?_))
      refine rw_v (op_pure rfl) ?_
      first | refine rw_end ?_ | (refine rw_nil ?_; show CW _ _ _ _ _ _) | refine rw_nil ?_
      repeat refine cw_seq ?_
      refine cw_true rfl ?_
      repeat refine cw_seq ?_
      refine cw_region ?_
      refine rw_v (op_build (pl := [(0, 1), (1, 1), (2, 1)]) Tryz.underlying25 Tryz.zeroValue25 (fun w => by kernel_rfl) rfl rfl) ?_
      refine rw_storeSA (i := 0) S rfl (Tryz.sizeOf25 _) rfl rfl rfl rfl rfl rfl ?_
      intro w3_ S
      refine rw_v (op_pure rfl) ?_
      first | refine rw_end ?_ | (refine rw_nil ?_; show CW _ _ _ _ _ _) | refine rw_nil ?_
      repeat refine cw_seq ?_
      refine cw_ret ?_
      repeat first | refine ret_then ?_ | refine ret_inb ?_
      exact resAT Tryz.underlying25 rfl (Tryz.sizeOf25 _) rfl (S.blk (i := 0) rfl) rfl rfl rfl ⟨rfl, S.out⟩
    · skip
      have S := St.start W
      refine Fn_enter Tryz.func5 rfl Tryz.results5 Tryz.ntmps5 (by kernel_rfl) (by kernel_rfl) ?_
      repeat refine cw_seq ?_
      refine cw_region ?_
      refine rw_newB (op_alloc Tryz.zeroValue25 rfl) S ?_
      intro b_b1 w2_ g2_ S
      refine rw_v (op_pure rfl) ?_
      first | refine rw_end ?_ | (refine rw_nil ?_; show CW _ _ _ _ _ _) | refine rw_nil ?_
      repeat refine cw_seq ?_
      refine cw_region ?_
      refine rw_v (op_pure rfl) ?_
      first | refine rw_v (op_b (b := true) rfl (decide_eq_true (by omega))) ?_ | refine rw_v (op_b (b := false) rfl (decide_eq_false (by omega))) ?_ | refine rw_v (op_pure rfl) ?_
      refine rw_v (op_pure rfl) ?_
      first | refine rw_off rfl ?_ | (refine rw_on rfl ?_; refine rw_v (op_pure rfl) ?_)
      first | refine rw_off rfl ?_ | (refine rw_on rfl ?_; (first | refine rw_v (op_b (b := true) rfl (decide_eq_true (by omega))) ?_ | refine rw_v (op_b (b := false) rfl (decide_eq_false (by omega))) ?_ | refine rw_v (op_pure rfl) ?_))
      iterate 2 refine rw_v (op_pure rfl) ?_
      first | refine rw_off rfl ?_ | (refine rw_on rfl ?_; refine rw_v (op_pure rfl) ?_)
      first | refine rw_off rfl ?_ | (refine rw_on rfl ?_; refine rw_v (op_pure rfl) ?_)
      first | refine rw_off rfl ?_ | (refine rw_on rfl ?_; (first | refine rw_v (op_b (b := true) rfl (decide_eq_true (by omega))) ?_ | refine rw_v (op_b (b := false) rfl (decide_eq_false (by omega))) ?_ | refine rw_v (op_pure rfl) ?_))
      iterate 2 refine rw_v (op_pure rfl) ?_
      first | refine rw_off rfl ?_ | (refine rw_on rfl ?_; refine rw_v (op_pure rfl) ?_)
      first | refine rw_off rfl ?_ | (refine rw_on rfl ?_; refine rw_v (op_pure rfl) ?_)
      first | refine rw_off rfl ?_ | (refine rw_on rfl ?_; (first | refine rw_v (op_b (b := true) rfl (decide_eq_true (by omega))) ?_ | refine rw_v (op_b (b := false) rfl (decide_eq_false (by omega))) ?_ | refine rw_v (op_pure rfl) ?_))
      iterate 2 refine rw_v (op_pure rfl) ?_
      first | refine rw_off rfl ?_ | (refine rw_on rfl ?_; refine rw_v (op_pure rfl) ?_)
      first | refine rw_off rfl ?_ | (refine rw_on rfl ?_; refine rw_v (op_pure rfl) ?_)
      first | refine rw_off rfl ?_ | (refine rw_on rfl ?_; refine rw_v (op_rng rfl (by omega)) ?_)
      first | refine rw_off rfl ?_ | (refine rw_on rfl ?_; refine rw_v (op_pure rfl) ?_)
      first | refine rw_off rfl ?_ | (refine rw_on rfl ?_; (first | refine rw_v (op_b (b := true) rfl (decide_eq_true (by omega))) ?_ | refine rw_v (op_b (b := false) rfl (decide_eq_false (by omega))) ?_ | refine rw_v (op_pure rfl) ?_))
      iterate 2 refine rw_v (op_pure rfl) ?_
      first | refine rw_off rfl ?_ | (refine rw_on rfl ?_; refine rw_v (op_pure rfl) ?_)
      first | refine rw_off rfl ?_ | (refine rw_on rfl ?_; refine rw_v (op_len Tryz.underlying22 rfl) ?_)
      first | refine rw_off rfl ?_ | (refine rw_on rfl ?_; refine rw_v (op_pure rfl) ?_)
      first | refine rw_off rfl ?_ | (refine rw_on rfl ?_; refine rw_v (op_pure rfl) ?_)
      first | refine rw_off rfl ?_ | (refine rw_on rfl ?_; refine rw_v (op_rng rfl (by omega)) ?_)
      first | refine rw_off rfl ?_ | (refine rw_on rfl ?_; (first | refine rw_v (op_b (b := true) rfl (bne_iff_ne.2 (by omega))) ?_ | refine rw_v (op_b (b := false) rfl (bne_eq_false_iff_eq.2 (by omega))) ?_ | refine rw_v (op_pure rfl) ?_))
      refine rw_v (op_pure rfl) ?_
      first | refine rw_end ?_ | (refine rw_nil ?_; show CW _ _ _ _ _ _) | refine rw_nil ?_
      repeat refine cw_seq ?_
      refine cw_true rfl ?_
      repeat refine cw_seq ?_
      refine cw_region ?_
      refine rw_v (op_build (pl := [(0, 1), (1, 1), (2, 1)]) Tryz.underlying25 Tryz.zeroValue25 (fun w => by kernel_rfl) rfl rfl) ?_
      refine rw_storeSA (i := 0) S rfl (Tryz.sizeOf25 _) rfl rfl rfl rfl rfl rfl ?_
      intro w3_ S
      refine rw_v (op_pure rfl) ?_
      first | refine rw_end ?_ | (refine rw_nil ?_; show CW _ _ _ _ _ _) | refine rw_nil ?_
      repeat refine cw_seq ?_
      refine cw_ret ?_
      repeat first | refine ret_then ?_ | refine ret_inb ?_
      exact resAT Tryz.underlying25 rfl (Tryz.sizeOf25 _) rfl (S.blk (i := 0) rfl) rfl rfl rfl ⟨rfl, S.out⟩
    · skip
      have S := St.start W
      refine Fn_enter Tryz.func5 rfl Tryz.results5 Tryz.ntmps5 (by kernel_rfl) (by kernel_rfl) ?_
      repeat refine cw_seq ?_
      refine cw_region ?_
      refine rw_newB (op_alloc Tryz.zeroValue25 rfl) S ?_
      intro b_b1 w2_ g2_ S
      refine rw_v (op_pure rfl) ?_
      first | refine rw_end ?_ | (refine rw_nil ?_; show CW _ _ _ _ _ _) | refine rw_nil ?_
      repeat refine cw_seq ?_
      refine cw_region ?_
      refine rw_v (op_pure rfl) ?_
      first | refine rw_v (op_b (b := true) rfl (decide_eq_true (by omega))) ?_ | refine rw_v (op_b (b := false) rfl (decide_eq_false (by omega))) ?_ | refine rw_v (op_pure rfl) ?_
      refine rw_v (op_pure rfl) ?_
      first | refine rw_off rfl ?_ | (refine rw_on rfl ?_; refine rw_v (op_pure rfl) ?_)
      first | refine rw_off rfl ?_ | (refine rw_on rfl ?_; (first | refine rw_v (op_b (b := true) rfl (decide_eq_true (by omega))) ?_ | refine rw_v (op_b (b := false) rfl (decide_eq_false (by omega))) ?_ | refine rw_v (op_pure rfl) ?_))
      iterate 2 refine rw_v (op_pure rfl) ?_
      first | refine rw_off rfl ?_ | (refine rw_on rfl ?_; refine rw_v (op_pure rfl) ?_)
      first | refine rw_off rfl ?_ | (refine rw_on rfl ?_; refine rw_v (op_pure rfl) ?_)
      first | refine rw_off rfl ?_ | (refine rw_on rfl ?_; (first | refine rw_v (op_b (b := true) rfl (decide_eq_true (by omega))) ?_ | refine rw_v (op_b (b := false) rfl (decide_eq_false (by omega))) ?_ | refine rw_v (op_pure rfl) ?_))
      iterate 2 refine rw_v (op_pure rfl) ?_
      first | refine rw_off rfl ?_ | (refine rw_on rfl ?_; refine rw_v (op_pure rfl) ?_)
      first | refine rw_off rfl ?_ | (refine rw_on rfl ?_; refine rw_v (op_pure rfl) ?_)
      first | refine rw_off rfl ?_ | (refine rw_on rfl ?_; (first | refine rw_v (op_b (b := true) rfl (decide_eq_true (by omega))) ?_ | refine rw_v (op_b (b := false) rfl (decide_eq_false (by omega))) ?_ | refine rw_v (op_pure rfl) ?_))
      iterate 2 refine rw_v (op_pure rfl) ?_
      first | refine rw_off rfl ?_ | (refine rw_on rfl ?_; refine rw_v (op_pure rfl) ?_)
      first | refine rw_off rfl ?_ | (refine rw_on rfl ?_; refine rw_v (op_pure rfl) ?_)
      first | refine rw_off rfl ?_ | (refine rw_on rfl ?_; refine rw_v (op_rng rfl (by omega)) ?_)
      first | refine rw_off rfl ?_ | (refine rw_on rfl ?_; refine rw_v (op_pure rfl) ?_)
      first | refine rw_off rfl ?_ | (refine rw_on rfl ?_; (first | refine rw_v (op_b (b := true) rfl (decide_eq_true (by omega))) ?_ | refine rw_v (op_b (b := false) rfl (decide_eq_false (by omega))) ?_ | refine rw_v (op_pure rfl) ?_))
      iterate 2 refine rw_v (op_pure rfl) ?_
      first | refine rw_off rfl ?_ | (refine rw_on rfl ?_; refine rw_v (op_pure rfl) ?_)
      first | refine rw_off rfl ?_ | (refine rw_on rfl ?_; refine rw_v (op_len Tryz.underlying22 rfl) ?_)
      first | refine rw_off rfl ?_ | (refine rw_on rfl ?_; refine rw_v (op_pure rfl) ?_)
      first | refine rw_off rfl ?_ | (refine rw_on rfl ?_; refine rw_v (op_pure rfl) ?_)
      first | refine rw_off rfl ?_ | (refine rw_on rfl ?_; refine rw_v (op_rng rfl (by omega)) ?_)
      first | refine rw_off rfl ?_ | (refine rw_on rfl ?_; (first | refine rw_v (op_b (b := true) rfl (bne_iff_ne.2 (by omega))) ?_ | refine rw_v (op_b (b := false) rfl (bne_eq_false_iff_eq.2 (by omega))) ?_ | refine rw_v (op_pure rfl) ?_))
      refine rw_v (op_pure rfl) ?_
      first | refine rw_end ?_ | (refine rw_nil ?_; show CW _ _ _ _ _ _) | refine rw_nil ?_
      repeat refine cw_seq ?_
      refine cw_true rfl ?_
      repeat refine cw_seq ?_
      refine cw_region ?_
      refine rw_v (op_build (pl := [(0, 1), (1, 1), (2, 1)]) Tryz.underlying25 Tryz.zeroValue25 (fun w => by kernel_rfl) rfl rfl) ?_
      refine rw_storeSA (i := 0) S rfl (Tryz.sizeOf25 _) rfl rfl rfl rfl rfl rfl ?_
      intro w3_ S
      refine rw_v (op_pure rfl) ?_
      first | refine rw_end ?_ | (refine rw_nil ?_; show CW _ _ _ _ _ _) | refine rw_nil ?_
      repeat refine cw_seq ?_
      refine cw_ret ?_
      repeat first | refine ret_then ?_ | refine ret_inb ?_
      exact resAT Tryz.underlying25 rfl (Tryz.sizeOf25 _) rfl (S.blk (i := 0) rfl) rfl rfl rfl ⟨rfl, S.out⟩

set_option maxHeartbeats 1000000 in
theorem made_E (gw gh cap : Nat) (hw : 1 ≤ gw ∧ gw ≤ 1024) (hh : 1 ≤ gh ∧ gh ≤ 1024) (hV : V.length = gw * gh) (hmay : ∀ v ∈ V, mayB v = true) (hA : Rd W A (ints V)) :
    Fn Tryz.prog 6 [.int .i64 gw, .int .i64 gh, .slice A V.length cap] W (RetGrid (fun p => .tuple #[p, .bool true]) gw gh (fun i => V.getD i 0) W) := by
  have hm : 1 ≤ gw * gh ∧ gw * gh ≤ 1024 * 1024 := ⟨Nat.mul_le_mul hw.1 hh.1, Nat.mul_le_mul hw.2 hh.2⟩
  have hmi : (gw : Int) * gh = ((gw * gh : Nat) : Int) := by push_cast; rfl
  have sa_A : SomeA A := hA.someA (by rw [ints_len]; omega)
  have S := St.start W
  refine Fn_enter Tryz.func6 rfl Tryz.results6 Tryz.ntmps6 (by kernel_rfl) (by kernel_rfl) ?_
  repeat refine cw_seq ?_
  refine cw_region ?_
  iterate 2 refine rw_v (op_pure rfl) ?_
  first | refine rw_end ?_ | (refine rw_nil ?_; show CW _ _ _ _ _ _) | refine rw_nil ?_
  repeat refine cw_seq ?_
  refine cw_region ?_
  iterate 2 refine rw_v (op_pure rfl) ?_
  refine rw_call rfl (gnew_E gw gh 0 hw hh (by omega) W) ?_
  rintro _ w1_ ⟨p, B, bc, bs, Rs, rfl, hG, hf, g1_⟩
  have S := S.pushGrid hG hf g1_
  iterate 5 refine rw_v (op_pure rfl) ?_
  first | refine rw_end ?_ | (refine rw_nil ?_; show CW _ _ _ _ _ _) | refine rw_nil ?_
  repeat refine cw_seq ?_
  refine cw_region ?_
  refine rw_v (op_pure rfl) ?_
  first | refine rw_v (op_b (b := true) rfl (bne_iff_ne.2 (by omega))) ?_ | refine rw_v (op_b (b := false) rfl (bne_eq_false_iff_eq.2 (by omega))) ?_ | refine rw_v (op_pure rfl) ?_
  refine rw_v (op_pure rfl) ?_
  first | refine rw_off rfl ?_ | (refine rw_on rfl ?_; refine rw_v (op_pure rfl) ?_)
  first | refine rw_off rfl ?_ | (refine rw_on rfl ?_; refine rw_v (op_len Tryz.underlying22 rfl) ?_)
  first | refine rw_off rfl ?_ | (refine rw_on rfl ?_; refine rw_v (op_pure rfl) ?_)
  first | refine rw_off rfl ?_ | (refine rw_on rfl ?_; refine rw_v (op_pure rfl) ?_)
  first | refine rw_off rfl ?_ | (refine rw_on rfl ?_; refine rw_v (op_rng rfl (by omega)) ?_)
  first | refine rw_off rfl ?_ | (refine rw_on rfl ?_; (first | refine rw_v (op_b (b := true) rfl (bne_iff_ne.2 (by omega))) ?_ | refine rw_v (op_b (b := false) rfl (bne_eq_false_iff_eq.2 (by omega))) ?_ | refine rw_v (op_pure rfl) ?_))
  refine rw_v (op_pure rfl) ?_
  first | refine rw_end ?_ | (refine rw_nil ?_; show CW _ _ _ _ _ _) | refine rw_nil ?_
  repeat refine cw_seq ?_
  refine cw_false rfl ?_
  repeat refine cw_seq ?_
  refine cw_skip ?_
  try show CW _ _ _ _ _ _
  repeat refine cw_seq ?_
  refine cw_region ?_
  refine rw_v (op_pure rfl) ?_
  first | refine rw_end ?_ | (refine rw_nil ?_; show CW _ _ _ _ _ _) | refine rw_nil ?_
  repeat refine cw_seq ?_
  refine cw_block ?_
  repeat refine cw_seq ?_
  refine cw_loop (fun m e w => ∃ (k : Nat) (Rs' : Nat → Option Nat), k + m = gw * gh ∧ SL e [(0, .int .i64 gw), (1, .int .i64 gh), (2, .slice A V.length cap), (8, .pointer (some ⟨p, 0, none⟩)), (10, .int .i64 k)] ∧ St No W w [.grid p gw gh (fun i => if i < k then V.getD i 0 else 0) B bc bs Rs']) (gw * gh)
    ⟨0, Rs, by omega, ⟨rfl, rfl, rfl, rfl, rfl, trivial⟩, S.as_ (i := 0) rfl rfl (fun h => h.congr (fun i _ => (if_neg (Nat.not_lt_zero i)).symm)) (fun g h => h)⟩ ?_
  rintro m e w ⟨k, Rs1, hk, hsl, S⟩
  rw [hsl.fold]
  repeat refine cw_seq ?_
  refine cw_region ?_
  iterate 3 refine rw_v (op_pure rfl) ?_
  refine rw_v (op_rng rfl (by omega)) ?_
  refine rw_v (op_pure rfl) ?_
  first | refine rw_end ?_ | (refine rw_nil ?_; show CW _ _ _ _ _ _) | refine rw_nil ?_
  repeat refine cw_seq ?_
  refine cw_cond rfl (fun hc => ?_) (fun hc => ?_)
  · try simp only [decide_eq_true_eq, decide_eq_false_iff_not, beq_iff_eq, bne_iff_ne, beq_eq_false_iff_ne, bne_eq_false_iff_eq, Bool.not_eq_true', Bool.not_eq_false', ne_eq, Decidable.not_not, Int.natCast_inj, Int.ofNat_lt, Int.ofNat_le, gt_iff_lt, ge_iff_le, Int.not_lt, Int.not_le] at hc
    have hk1 : k < V.length := by omega
    have hx : (ints V)[(k : Int).toNat * 1]? = some (.int .i64 V[k]) := by simp [ints, hk1]
    have hmk := (mayB_iff _).1 (hmay _ (List.getElem_mem hk1))
    have hgd : V.getD k 0 = V[k] := by rw [List.getD_eq_getElem?_getD, List.getElem?_eq_getElem hk1]; rfl
    generalize V[k] = v at *
    by_cases hv0 : v = 0
    · skip
      repeat refine cw_seq ?_
      refine cw_skip ?_
      try show CW _ _ _ _ _ _
      repeat refine cw_seq ?_
      refine cw_block ?_
      repeat refine cw_seq ?_
      refine cw_draw (C := fun wq => Gr w wq) [0, 1, 2, 3, 4, 5, 6, 7, 8, 9, 10, 11, 12, 13, 14, 15, 16, 17, 18, 19, 20] [] (by kernel_rfl) (by kernel_rfl) (Gr.drew _) ?_
      simp only [pickL, List.drop_succ_cons, List.drop_zero]
      iterate 2 refine rq_v (op_pure rfl) ?_
      refine rq_v (op_idx Tryz.underlying22 Tryz.sizeOf2 rfl rfl sa_A (by omega) (by omega)) ?_
      refine rq_r (fun wq hq => op_ldR Tryz.underlying2 rfl rfl (hA.gr (S.gr hq).out) hx) ?_
      first | refine rq_v (op_b (b := true) rfl (bne_iff_ne.2 (by omega))) ?_ | refine rq_v (op_b (b := false) rfl (bne_eq_false_iff_eq.2 (by omega))) ?_ | refine rq_v (op_pure rfl) ?_
      refine rq_v (op_pure rfl) ?_
      first | refine rq_off rfl ?_ | (refine rq_on rfl ?_; refine rq_v (op_pure rfl) ?_)
      first | refine rq_off rfl ?_ | (refine rq_on rfl ?_; refine rq_v (op_pure rfl) ?_)
      first | refine rq_off rfl ?_ | (refine rq_on rfl ?_; refine rq_v (op_pure rfl) ?_)
      first | refine rq_off rfl ?_ | (refine rq_on rfl ?_; refine rq_v (op_rem rfl rfl (by omega) (by omega)) ?_)
      first | refine rq_off rfl ?_ | (refine rq_on rfl ?_; refine rq_v (op_pure rfl) ?_)
      first | refine rq_off rfl ?_ | (refine rq_on rfl ?_; refine rq_v (op_pure rfl) ?_)
      first | refine rq_off rfl ?_ | (refine rq_on rfl ?_; refine rq_v (op_div rfl rfl (by omega) (by omega)) ?_)
      first | refine rq_off rfl ?_ | (refine rq_on rfl ?_; refine rq_v (op_build (pl := [(0, 1), (1, 1)]) Tryz.underlying50 Tryz.zeroValue50 (fun w => by kernel_rfl) rfl rfl) ?_)
      first | refine rq_off rfl ?_ | (refine rq_on rfl ?_; refine rq_v (op_pure rfl) ?_)
      first | refine rq_off rfl ?_ | (refine rq_on rfl ?_; refine rq_v (op_pure rfl) ?_)
      first | refine rq_off rfl ?_ | (refine rq_on rfl ?_; refine rq_v (op_idx Tryz.underlying22 Tryz.sizeOf2 rfl rfl sa_A (by omega) (by omega)) ?_)
      first | refine rq_off rfl ?_ | (refine rq_on rfl ?_; refine rq_r (fun wq hq => op_ldR Tryz.underlying2 rfl rfl (hA.gr (S.gr hq).out) (by assumption)) ?_)
      refine rq_off rfl ?_
      first | refine rq_off rfl ?_ | (refine rq_on rfl ?_; (first | refine rq_v (op_b (b := true) rfl (bne_iff_ne.2 (by omega))) ?_ | refine rq_v (op_b (b := false) rfl (bne_eq_false_iff_eq.2 (by omega))) ?_ | refine rq_v (op_pure rfl) ?_))
      refine rq_v (op_pure rfl) ?_
      refine rq_nil ?_
      intro w2_ g2_
      have S := S.gr g2_
      first | refine rw_end ?_ | (refine rw_nil ?_; show CW _ _ _ _ _ _) | refine rw_nil ?_
      repeat refine cw_seq ?_
      refine cw_false rfl ?_
      repeat refine cw_seq ?_
      refine cw_skip ?_
      try show CW _ _ _ _ _ _
      repeat refine cw_seq ?_
      refine cw_region ?_
      refine rw_v (op_pure rfl) ?_
      refine rw_v (op_rng rfl (by omega)) ?_
      refine rw_v (op_pure rfl) ?_
      first | refine rw_end ?_ | (refine rw_nil ?_; show CW _ _ _ _ _ _) | refine rw_nil ?_
      refine ⟨m - 1, by omega, k + 1, Rs1, by omega, ⟨rfl, rfl, rfl, rfl, ie (by omega), trivial⟩, S.as_ (i := 0) rfl rfl (fun h => h.congr (fun i _ => ?_)) (fun g h => h)⟩
      by_cases hi : i < k
      · rw [if_pos hi, if_pos (by omega)]
      · by_cases e : i = k
        · subst e; rw [if_neg hi, if_pos (by omega), hgd, hv0]
        · rw [if_neg hi, if_neg (by omega)]
    · have hx2 : k % gw < gw := Nat.mod_lt _ (by omega)
      have hy2 : k / gw < gh := Nat.div_lt_of_lt_mul (by omega)
      have e1 : (k : Int) % gw = ((k % gw : Nat) : Int) := by push_cast; rfl
      have e2 : (k : Int) / gw = ((k / gw : Nat) : Int) := by push_cast; rfl
      have hdm : k / gw * gw + k % gw = k := by rw [Nat.mul_comm]; exact Nat.div_add_mod _ _
      repeat refine cw_seq ?_
      refine cw_skip ?_
      try show CW _ _ _ _ _ _
      repeat refine cw_seq ?_
      refine cw_block ?_
      repeat refine cw_seq ?_
      refine cw_draw (C := fun wq => Gr w wq) [0, 1, 2, 3, 4, 5, 6, 7, 8, 9, 10, 11, 12, 13, 14, 15, 16, 17] [18, 19, 20] (by kernel_rfl) (by kernel_rfl) (Gr.drew _) ?_
      simp only [pickL, List.drop_succ_cons, List.drop_zero]
      iterate 2 refine rq_v (op_pure rfl) ?_
      refine rq_v (op_idx Tryz.underlying22 Tryz.sizeOf2 rfl rfl sa_A (by omega) (by omega)) ?_
      refine rq_r (fun wq hq => op_ldR Tryz.underlying2 rfl rfl (hA.gr (S.gr hq).out) hx) ?_
      first | refine rq_v (op_b (b := true) rfl (bne_iff_ne.2 (by omega))) ?_ | refine rq_v (op_b (b := false) rfl (bne_eq_false_iff_eq.2 (by omega))) ?_ | refine rq_v (op_pure rfl) ?_
      refine rq_v (op_pure rfl) ?_
      first | refine rq_off rfl ?_ | (refine rq_on rfl ?_; refine rq_v (op_pure rfl) ?_)
      first | refine rq_off rfl ?_ | (refine rq_on rfl ?_; refine rq_v (op_pure rfl) ?_)
      first | refine rq_off rfl ?_ | (refine rq_on rfl ?_; refine rq_v (op_pure rfl) ?_)
      first | refine rq_off rfl ?_ | (refine rq_on rfl ?_; refine rq_v (op_rem rfl rfl (by omega) (by omega)) ?_)
      rw [e1]
      first | refine rq_off rfl ?_ | (refine rq_on rfl ?_; refine rq_v (op_pure rfl) ?_)
      first | refine rq_off rfl ?_ | (refine rq_on rfl ?_; refine rq_v (op_pure rfl) ?_)
      first | refine rq_off rfl ?_ | (refine rq_on rfl ?_; refine rq_v (op_div rfl rfl (by omega) (by omega)) ?_)
      rw [e2]
      first | refine rq_off rfl ?_ | (refine rq_on rfl ?_; refine rq_v (op_build (pl := [(0, 1), (1, 1)]) Tryz.underlying50 Tryz.zeroValue50 (fun w => by kernel_rfl) rfl rfl) ?_)
      first | refine rq_off rfl ?_ | (refine rq_on rfl ?_; refine rq_v (op_pure rfl) ?_)
      first | refine rq_off rfl ?_ | (refine rq_on rfl ?_; refine rq_v (op_pure rfl) ?_)
      first | refine rq_off rfl ?_ | (refine rq_on rfl ?_; refine rq_v (op_idx Tryz.underlying22 Tryz.sizeOf2 rfl rfl sa_A (by omega) (by omega)) ?_)
      first | refine rq_off rfl ?_ | (refine rq_on rfl ?_; refine rq_r (fun wq hq => op_ldR Tryz.underlying2 rfl rfl (hA.gr (S.gr hq).out) hx) ?_)
      refine rq_nil ?_
      intro w3_ g3_
      have S := S.gr g3_
      refine rw_on rfl ?_
      refine rw_call rfl (gset_E (k % gw) (k / gw) v hx2 hy2 hmk (S.grid (i := 0) rfl)) ?_
      rintro _ w4_ ⟨rfl, Rs2, hG2, hF2, hO2⟩
      have S := S.set (i := 0) (h' := .grid p gw gh _ B bc bs Rs2) rfl rfl hF2 (fun g h => .inl h) hG2 hO2
      first | refine rw_off rfl ?_ | (refine rw_on rfl ?_; (first | refine rw_v (op_b (b := true) rfl (bne_iff_ne.2 (by omega))) ?_ | refine rw_v (op_b (b := false) rfl (bne_eq_false_iff_eq.2 (by omega))) ?_ | refine rw_v (op_pure rfl) ?_))
      refine rw_v (op_pure rfl) ?_
      first | refine rw_end ?_ | (refine rw_nil ?_; show CW _ _ _ _ _ _) | refine rw_nil ?_
      repeat refine cw_seq ?_
      refine cw_false rfl ?_
      repeat refine cw_seq ?_
      refine cw_skip ?_
      try show CW _ _ _ _ _ _
      repeat refine cw_seq ?_
      refine cw_region ?_
      refine rw_v (op_pure rfl) ?_
      refine rw_v (op_rng rfl (by omega)) ?_
      refine rw_v (op_pure rfl) ?_
      first | refine rw_end ?_ | (refine rw_nil ?_; show CW _ _ _ _ _ _) | refine rw_nil ?_
      refine ⟨m - 1, by omega, k + 1, Rs2, by omega, ⟨rfl, rfl, rfl, rfl, ie (by omega), trivial⟩, S.as_ (i := 0) rfl rfl (fun h => h.congr (fun i _ => ?_)) (fun g h => h)⟩
      rw [hdm]
      by_cases e : i = k
      · subst e; rw [if_pos rfl, if_pos (by omega), hgd]
      · rw [if_neg e]
        by_cases hi : i < k
        · rw [if_pos hi, if_pos (by omega)]
        · rw [if_neg hi, if_neg (by omega)]
  · try simp only [decide_eq_true_eq, decide_eq_false_iff_not, beq_iff_eq, bne_iff_ne, beq_eq_false_iff_ne, bne_eq_false_iff_eq, Bool.not_eq_true', Bool.not_eq_false', ne_eq, Decidable.not_not, Int.natCast_inj, Int.ofNat_lt, Int.ofNat_le, gt_iff_lt, ge_iff_le, Int.not_lt, Int.not_le] at hc
    repeat refine cw_seq ?_
    refine cw_exit ?_
    repeat first | refine exit_then ?_ | refine exit_inb ?_
    show CW _ _ _ _ _ _
    repeat refine cw_seq ?_
    refine cw_region ?_
    iterate 3 refine rw_v (op_pure rfl) ?_
    first | refine rw_end ?_ | (refine rw_nil ?_; show CW _ _ _ _ _ _) | refine rw_nil ?_
    repeat refine cw_seq ?_
    refine cw_ret ?_
    repeat first | refine ret_then ?_ | refine ret_inb ?_
    obtain rfl : k = gw * gh := by omega
    have S := S.as_ (i := 0) (h' := .grid p gw gh (fun i => V.getD i 0) B bc bs Rs1) rfl rfl (fun h => h.congr (fun i hi => if_pos hi)) (fun g h => h)
    exact res2 rfl rfl (S.retGrid (i := 0) rfl)
end
end Go.Proofs.YtbcgbcipigcbhaaGreat
/- Package paint: a new grid of values. -/
namespace Go.Proofs.YtbcgbcipigcbhaaGreat
open Go.RowKit
set_option linter.unusedVariables false
set_option linter.unusedSimpArgs false
set_option maxRecDepth 100000

theorem pmay_E (v : Int) (W : World) : Fn Tryz.prog 66 [.int .i64 v] W (RetG (.bool (mayB v)) W) := by
  by_cases h : -2147483648 ≤ v
  · skip
    have S := St.start W
    refine Fn_enter Tryz.func66 rfl Tryz.results66 Tryz.ntmps66 (by kernel_rfl) (by kernel_rfl) ?_
    repeat refine cw_seq ?_
    refine cw_region ?_
    refine rw_v (op_pure rfl) ?_
    first | refine rw_end ?_ | (refine rw_nil ?_; show CW _ _ _ _ _ _) | refine rw_nil ?_
    repeat refine cw_seq ?_
    refine cw_region ?_
    refine rw_v (op_pure rfl) ?_
    first | refine rw_v (op_b (b := true) rfl (decide_eq_true (by omega))) ?_ | refine rw_v (op_b (b := false) rfl (decide_eq_false (by omega))) ?_ | refine rw_v (op_pure rfl) ?_
    refine rw_v (op_pure rfl) ?_
    first | refine rw_off rfl ?_ | (refine rw_on rfl ?_; refine rw_v (op_pure rfl) ?_)
    first | refine rw_off rfl ?_ | (refine rw_on rfl ?_; refine rw_v (op_pure rfl) ?_)
    iterate 2 refine rw_v (op_pure rfl) ?_
    first | refine rw_end ?_ | (refine rw_nil ?_; show CW _ _ _ _ _ _) | refine rw_nil ?_
    repeat refine cw_seq ?_
    refine cw_ret ?_
    repeat first | refine ret_then ?_ | refine ret_inb ?_
    exact res1 rfl ⟨be (by simp [mayB, h]), S.out⟩
  · skip
    have S := St.start W
    refine Fn_enter Tryz.func66 rfl Tryz.results66 Tryz.ntmps66 (by kernel_rfl) (by kernel_rfl) ?_
    repeat refine cw_seq ?_
    refine cw_region ?_
    refine rw_v (op_pure rfl) ?_
    first | refine rw_end ?_ | (refine rw_nil ?_; show CW _ _ _ _ _ _) | refine rw_nil ?_
    repeat refine cw_seq ?_
    refine cw_region ?_
    refine rw_v (op_pure rfl) ?_
    first | refine rw_v (op_b (b := true) rfl (decide_eq_true (by omega))) ?_ | refine rw_v (op_b (b := false) rfl (decide_eq_false (by omega))) ?_ | refine rw_v (op_pure rfl) ?_
    refine rw_v (op_pure rfl) ?_
    first | refine rw_off rfl ?_ | (refine rw_on rfl ?_; refine rw_v (op_pure rfl) ?_)
    first | refine rw_off rfl ?_ | (refine rw_on rfl ?_; refine rw_v (op_pure rfl) ?_)
    iterate 2 refine rw_v (op_pure rfl) ?_
    first | refine rw_end ?_ | (refine rw_nil ?_; show CW _ _ _ _ _ _) | refine rw_nil ?_
    repeat refine cw_seq ?_
    refine cw_ret ?_
    repeat first | refine ret_then ?_ | refine ret_inb ?_
    exact res1 rfl ⟨be (by simp [mayB, h]), S.out⟩
theorem paste1_E (v : Int) (W : World) : Fn Tryz.prog 65 ([] ++ [.int .i64 v] ++ []) W (RetG (.bool (!mayB v)) W) := by
  have S := St.start W
  refine Fn_enter Tryz.func65 rfl Tryz.results65 Tryz.ntmps65 (by kernel_rfl) (by kernel_rfl) ?_
  repeat refine cw_seq ?_
  refine cw_region ?_
  refine rw_v (op_pure rfl) ?_
  first | refine rw_end ?_ | (refine rw_nil ?_; show CW _ _ _ _ _ _) | refine rw_nil ?_
  repeat refine cw_seq ?_
  refine cw_region ?_
  refine rw_v (op_pure rfl) ?_
  refine rw_call rfl (pmay_E v W) ?_
  rintro _ w1_ ⟨rfl, g1_⟩
  have S := S.gr g1_
  iterate 2 refine rw_v (op_pure rfl) ?_
  first | refine rw_end ?_ | (refine rw_nil ?_; show CW _ _ _ _ _ _) | refine rw_nil ?_
  repeat refine cw_seq ?_
  refine cw_ret ?_
  repeat first | refine ret_then ?_ | refine ret_inb ?_
  exact res1 rfl ⟨rfl, S.out⟩
theorem indexFunc64_E (A : Option Addr) (n c fid : Nat) (caps : List Value) (xs : List Int) (hn : n = xs.length) (hn1 : n ≤ 9223372036854775807) (p : Int → Bool) (W : World) (hA : Rd W A (ints xs))
    (hf : ∀ x ∈ xs, ∀ w', Gr W w' → Fn Tryz.prog fid ([] ++ [.int .i64 x] ++ caps) w' (RetG (.bool (p x)) w')) :
    Fn Tryz.prog 88 [.slice A n c, .func (.func fid) (([] : List Value).toArray) caps.toArray] W (fun v w' => ∃ r : Int, v = .int .i64 r ∧ Gr W w' ∧ (0 ≤ r ↔ xs.any p = true)) := by
  subst hn
  have S := St.start W
  refine Fn_enter Tryz.func88 rfl Tryz.results88 Tryz.ntmps88 (by kernel_rfl) (by kernel_rfl) ?_
  repeat refine cw_seq ?_
  refine cw_region ?_
  refine rw_v (op_pure rfl) ?_
  first | refine rw_end ?_ | (refine rw_nil ?_; show CW _ _ _ _ _ _) | refine rw_nil ?_
  repeat refine cw_seq ?_
  refine cw_region ?_
  refine rw_v (op_pure rfl) ?_
  refine rw_v (op_len Tryz.underlying22 rfl) ?_
  refine rw_v (op_pure rfl) ?_
  first | refine rw_end ?_ | (refine rw_nil ?_; show CW _ _ _ _ _ _) | refine rw_nil ?_
  repeat refine cw_seq ?_
  refine cw_block ?_
  repeat refine cw_seq ?_
  refine cw_loop (fun m e w => ∃ k : Nat, k + m = xs.length ∧ SL e [(0, .slice A xs.length c), (1, .func (.func fid) (([] : List Value).toArray) caps.toArray), (7, .int .i64 xs.length), (8, .int .i64 k)] ∧ (∀ i x, i < k → xs[i]? = some x → p x = false) ∧ St No W w []) xs.length
    ⟨0, by omega, ⟨rfl, rfl, rfl, rfl, trivial⟩, fun i x hi => by omega, S⟩ ?_
  rintro m e w ⟨k, hkm, hsl, hI, S⟩
  rw [hsl.fold]
  repeat refine cw_seq ?_
  refine cw_region ?_
  refine rw_v (op_pure rfl) ?_
  first | refine rw_end ?_ | (refine rw_nil ?_; show CW _ _ _ _ _ _) | refine rw_nil ?_
  repeat refine cw_seq ?_
  refine cw_cond rfl (fun hc => ?_) (fun hc => ?_)
  · try simp only [decide_eq_true_eq, decide_eq_false_iff_not, beq_iff_eq, bne_iff_ne, beq_eq_false_iff_ne, bne_eq_false_iff_eq, Bool.not_eq_true', Bool.not_eq_false', ne_eq, Decidable.not_not, Int.natCast_inj, Int.ofNat_lt, Int.ofNat_le, gt_iff_lt, ge_iff_le, Int.not_lt, Int.not_le] at hc
    obtain ⟨x, hx⟩ : ∃ x, xs[k]? = some x := ⟨xs[k], List.getElem?_eq_getElem (by omega)⟩
    have sa_A : SomeA A := hA.someA (by rw [ints_len]; omega)
    have hx' : (ints xs)[(k : Int).toNat * 1]? = some (.int .i64 x) := by rw [Nat.mul_one, Int.toNat_natCast]; exact ints_get hx
    repeat refine cw_seq ?_
    refine cw_skip ?_
    try show CW _ _ _ _ _ _
    repeat refine cw_seq ?_
    refine cw_block ?_
    repeat refine cw_seq ?_
    refine cw_region ?_
    iterate 2 refine rw_v (op_pure rfl) ?_
    first | refine rw_end ?_ | (refine rw_nil ?_; show CW _ _ _ _ _ _) | refine rw_nil ?_
    repeat refine cw_seq ?_
    refine cw_region ?_
    iterate 3 refine rw_v (op_pure rfl) ?_
    refine rw_v (op_idx Tryz.underlying22 Tryz.sizeOf2 rfl rfl sa_A (by omega) (by omega)) ?_
    refine rw_r (op_ldR Tryz.underlying2 rfl rfl (hA.gr S.out) hx') ?_
    refine rw_callv rfl rfl (hf x (List.mem_of_getElem? hx) _ S.out) ?_
    rintro _ w1_ ⟨rfl, g1_⟩
    have S := S.gr g1_
    first | refine rw_end ?_ | (refine rw_nil ?_; show CW _ _ _ _ _ _) | refine rw_nil ?_
    repeat refine cw_seq ?_
    refine cw_cond rfl (fun hp => ?_) (fun hp => ?_)
    · try simp only [decide_eq_true_eq, decide_eq_false_iff_not, beq_iff_eq, bne_iff_ne, beq_eq_false_iff_ne, bne_eq_false_iff_eq, Bool.not_eq_true', Bool.not_eq_false', ne_eq, Decidable.not_not, Int.natCast_inj, Int.ofNat_lt, Int.ofNat_le, gt_iff_lt, ge_iff_le, Int.not_lt, Int.not_le] at hp
      repeat refine cw_seq ?_
      refine cw_region ?_
      iterate 2 refine rw_v (op_pure rfl) ?_
      first | refine rw_end ?_ | (refine rw_nil ?_; show CW _ _ _ _ _ _) | refine rw_nil ?_
      repeat refine cw_seq ?_
      refine cw_ret ?_
      repeat first | refine ret_then ?_ | refine ret_inb ?_
      exact res1 rfl ⟨_, rfl, S.out, by simp; exact ⟨x, List.mem_of_getElem? hx, hp⟩⟩
    · try simp only [decide_eq_true_eq, decide_eq_false_iff_not, beq_iff_eq, bne_iff_ne, beq_eq_false_iff_ne, bne_eq_false_iff_eq, Bool.not_eq_true', Bool.not_eq_false', ne_eq, Decidable.not_not, Int.natCast_inj, Int.ofNat_lt, Int.ofNat_le, gt_iff_lt, ge_iff_le, Int.not_lt, Int.not_le] at hp
      repeat refine cw_seq ?_
      refine cw_skip ?_
      try show CW _ _ _ _ _ _
      repeat refine cw_seq ?_
      refine cw_region ?_
      refine rw_v (op_rng rfl (by omega)) ?_
      refine rw_v (op_pure rfl) ?_
      first | refine rw_end ?_ | (refine rw_nil ?_; show CW _ _ _ _ _ _) | refine rw_nil ?_
      exact ⟨m - 1, by omega, k + 1, by omega, ⟨rfl, rfl, rfl, ie (by omega), trivial⟩, fun i y hi hy => by
        by_cases hik : i = k
        · subst hik; rw [hx] at hy; cases hy; exact hp
        · exact hI i y (by omega) hy, S⟩
  · try simp only [decide_eq_true_eq, decide_eq_false_iff_not, beq_iff_eq, bne_iff_ne, beq_eq_false_iff_ne, bne_eq_false_iff_eq, Bool.not_eq_true', Bool.not_eq_false', ne_eq, Decidable.not_not, Int.natCast_inj, Int.ofNat_lt, Int.ofNat_le, gt_iff_lt, ge_iff_le, Int.not_lt, Int.not_le] at hc
    repeat refine cw_seq ?_
    refine cw_exit ?_
    repeat first | refine exit_then ?_ | refine exit_inb ?_
    show CW _ _ _ _ _ _
    repeat refine cw_seq ?_
    refine cw_region ?_
    refine rw_v (op_pure rfl) ?_
    first | refine rw_end ?_ | (refine rw_nil ?_; show CW _ _ _ _ _ _) | refine rw_nil ?_
    repeat refine cw_seq ?_
    refine cw_ret ?_
    repeat first | refine ret_then ?_ | refine ret_inb ?_
    refine res1 rfl ⟨_, rfl, S.out, ?_⟩
    simp only [List.any_eq_true]
    refine ⟨fun h => by omega, fun ⟨x, hx, hp⟩ => ?_⟩
    obtain ⟨i, hi, rfl⟩ := List.mem_iff_getElem.1 hx
    rw [hI i _ (by omega) (List.getElem?_eq_getElem hi)] at hp
    cases hp
theorem containsFunc64_E (A : Option Addr) (n c fid : Nat) (caps : List Value) (xs : List Int) (hn : n = xs.length) (hn1 : n ≤ 9223372036854775807) (p : Int → Bool) (W : World) (hA : Rd W A (ints xs))
    (hf : ∀ x ∈ xs, ∀ w', Gr W w' → Fn Tryz.prog fid ([] ++ [.int .i64 x] ++ caps) w' (RetG (.bool (p x)) w')) :
    Fn Tryz.prog 64 [.slice A n c, .func (.func fid) (([] : List Value).toArray) caps.toArray] W (RetG (.bool (xs.any p)) W) := by
  have S := St.start W
  refine Fn_enter Tryz.func64 rfl Tryz.results64 Tryz.ntmps64 (by kernel_rfl) (by kernel_rfl) ?_
  repeat refine cw_seq ?_
  refine cw_region ?_
  refine rw_v (op_pure rfl) ?_
  first | refine rw_end ?_ | (refine rw_nil ?_; show CW _ _ _ _ _ _) | refine rw_nil ?_
  repeat refine cw_seq ?_
  refine cw_region ?_
  iterate 2 refine rw_v (op_pure rfl) ?_
  refine rw_call rfl (indexFunc64_E A n c fid caps xs hn hn1 p _ (hA.gr S.out) (by intro x hx w' g; exact hf x hx w' (S.out.trans g))) ?_
  rintro _ w1_ ⟨r, rfl, g1_, hr⟩
  have S := S.gr g1_
  iterate 2 refine rw_v (op_pure rfl) ?_
  first | refine rw_end ?_ | (refine rw_nil ?_; show CW _ _ _ _ _ _) | refine rw_nil ?_
  repeat refine cw_seq ?_
  refine cw_ret ?_
  repeat first | refine ret_then ?_ | refine ret_inb ?_
  exact res1 rfl ⟨be (by rw [Bool.eq_iff_iff, ← hr]; simp), S.out⟩
theorem nth_E (x0 y0 x1 y1 i : Int) (h : 0 ≤ x0 ∧ x0 ≤ x1 ∧ x1 < 1024 ∧ 0 ≤ y0 ∧ y0 ≤ y1 ∧ y1 < 1024) (hi : 0 ≤ i) (hi' : i < (x1 - x0 + 1) * (y1 - y0 + 1)) (W : World) :
    Fn Tryz.prog 89 [.agg #[.int .i64 x0, .int .i64 y0, .int .i64 x1, .int .i64 y1], .int .i64 i] W (RetG (.tuple #[.agg #[.int .i64 (x0 + i % (x1 - x0 + 1)), .int .i64 (y0 + i / (x1 - x0 + 1))], .bool true]) W) :=
  Fn_of_calls (by kernel_rfl) (nth_any x0 y0 x1 y1 i h hi hi' W)

section
variable {W : World} {p gw gh cap : Nat} {c : Nat → Int} {A B : Option Addr} {bs : Nat → Nat} {Rs : Nat → Option Nat} {V : List Int}
def layC (V : List Int) (k : Nat) (c : Nat → Int) : Nat → Int := fun i => if i < k then V.getD i 0 else c i
theorem lay_step {gw k n : Nat} {c : Nat → Int} (hgw : 0 < gw) (hn : 1 ≤ n) (hle : k % gw + n ≤ gw) (hI : ∀ j, j < n → V.getD (k + j) 0 = V.getD k 0) (i : Nat) :
    fillC gw (k % gw : Nat) (k / gw : Nat) (k % gw + n - 1 : Nat) (k / gw : Nat) (V.getD k 0) (layC V k c) i = layC V (k + n) c i := by
  have hdk := Nat.div_add_mod k gw
  have hdi := Nat.div_add_mod i gw
  have hmi := Nat.mod_lt i hgw
  have key : inR gw (k % gw : Nat) (k / gw : Nat) (k % gw + n - 1 : Nat) (k / gw : Nat) i ↔ k ≤ i ∧ i < k + n := by
    unfold inR
    constructor
    · rintro ⟨h1, h2, h3, h4⟩
      have e : i / gw = k / gw := by omega
      rw [e] at hdi
      omega
    · rintro ⟨h1, h2⟩
      have e : i / gw = k / gw := by
        refine Nat.div_eq_of_lt_le ?_ ?_
        · rw [Nat.mul_comm]; omega
        · rw [Nat.succ_mul, Nat.mul_comm]; omega
      rw [e] at hdi ⊢
      omega
  unfold fillC layC
  by_cases h : k ≤ i ∧ i < k + n
  · rw [if_pos (key.2 h), if_pos h.2]
    have := hI (i - k) (by omega)
    rw [show k + (i - k) = i by omega] at this
    exact this.symm
  · rw [if_neg (fun e => h (key.1 e))]
    by_cases h2 : i < k
    · rw [if_pos h2, if_pos (by omega)]
    · rw [if_neg h2, if_neg (by omega)]
set_option maxHeartbeats 1000000 in
theorem lay_E (cp : Nat) (hV : V.length = gw * gh) (hmay : ∀ v ∈ V, mayB v = true) (hG : GridAt W p gw gh c A cap bs Rs) (hB : Rd W B (ints V)) (hap : ∀ g, ownA B g → ¬ gridB (acr gw * acr gh) p A bs Rs g) (hlt : ∀ g, ownA B g → g < W.heap.size) :
    Fn Tryz.prog 67 [.pointer (some ⟨p, 0, none⟩), .agg #[.int .i64 0, .int .i64 0, .int .i64 (gw - 1), .int .i64 (gh - 1)], .slice B V.length cp] W
      (fun r w' => r = .tuple #[] ∧ GridP W p gw gh A cap bs Rs (fun i => V.getD i 0) w') := by
  have hw := hG.sw
  have hh := hG.sh
  have hm : 1 ≤ gw * gh ∧ gw * gh ≤ 1024 * 1024 := ⟨Nat.mul_le_mul hw.1 hh.1, Nat.mul_le_mul hw.2 hh.2⟩
  have hmi : (gw : Int) * gh = ((gw * gh : Nat) : Int) := by push_cast; rfl
  have sa_B : SomeA B := hB.someA (by rw [ints_len]; omega)
  have hBk : ∀ {w : World}, Fr (gridB (acr gw * acr gh) p A bs Rs) W w → Rd w B (ints V) := fun {w} hF => hB.fr hF (fun a ha => hap _ (by rw [ha]; rfl))
  have S := St.start1 W (.grid p gw gh c A cap bs Rs) hG
  refine Fn_enter Tryz.func67 rfl Tryz.results67 Tryz.ntmps67 (by kernel_rfl) (by kernel_rfl) ?_
  repeat refine cw_seq ?_
  refine cw_region ?_
  refine rw_newB (op_box rfl) S ?_
  intro b_rc w2_ g2_ S
  first | refine rw_end ?_ | (refine rw_nil ?_; show CW _ _ _ _ _ _) | refine rw_nil ?_
  repeat refine cw_seq ?_
  refine cw_region ?_
  refine rw_v (op_pure rfl) ?_
  first | refine rw_end ?_ | (refine rw_nil ?_; show CW _ _ _ _ _ _) | refine rw_nil ?_
  repeat refine cw_seq ?_
  refine cw_block ?_
  repeat refine cw_seq ?_
  refine cw_loop (fun m e w => ∃ (k : Nat) (Rs' : Nat → Option Nat), k + m = gw * gh ∧ SL e [(0, .pointer (some ⟨p, 0, none⟩)), (2, .slice B V.length cp), (4, .pointer (some ⟨b_rc, 0, none⟩)), (6, .int .i64 k)] ∧
    St (gridB (acr gw * acr gh) p A bs Rs) W w [.blk b_rc 38 [.int .i64 0, .int .i64 0, .int .i64 (gw - 1), .int .i64 (gh - 1)], .grid p gw gh (layC V k c) A cap bs Rs']) (gw * gh)
    ⟨0, Rs, by omega, ⟨rfl, rfl, rfl, rfl, trivial⟩, S.as_ (i := 1) rfl rfl (fun h => h.congr (fun i _ => (if_neg (Nat.not_lt_zero i)).symm)) (fun g h => h)⟩ ?_
  rintro m e w ⟨k, Rs1, hk, hsl, S⟩
  rw [hsl.fold]
  repeat refine cw_seq ?_
  refine cw_region ?_
  iterate 2 refine rw_v (op_pure rfl) ?_
  refine rw_v (op_len Tryz.underlying22 rfl) ?_
  refine rw_v (op_pure rfl) ?_
  first | refine rw_end ?_ | (refine rw_nil ?_; show CW _ _ _ _ _ _) | refine rw_nil ?_
  repeat refine cw_seq ?_
  refine cw_cond rfl (fun hc => ?_) (fun hc => ?_)
  · try simp only [decide_eq_true_eq, decide_eq_false_iff_not, beq_iff_eq, bne_iff_ne, beq_eq_false_iff_ne, bne_eq_false_iff_eq, Bool.not_eq_true', Bool.not_eq_false', ne_eq, Decidable.not_not, Int.natCast_inj, Int.ofNat_lt, Int.ofNat_le, gt_iff_lt, ge_iff_le, Int.not_lt, Int.not_le] at hc
    have hkN : k < gw * gh := by omega
    have hx : k % gw < gw := Nat.mod_lt _ (by omega)
    have hy : k / gw < gh := Nat.div_lt_of_lt_mul hkN
    have hdm : k / gw * gw + k % gw = k := by rw [Nat.mul_comm]; exact Nat.div_add_mod _ _
    have hrow : k / gw * gw + gw ≤ gw * gh := by
      have : (k / gw + 1) * gw ≤ gh * gw := Nat.mul_le_mul_right _ hy
      rw [Nat.succ_mul, Nat.mul_comm gh] at this
      exact this
    have e1 : (0 : Int) + (k : Int) % ((gw : Int) - 1 - 0 + 1) = ((k % gw : Nat) : Int) := by
      rw [show (gw : Int) - 1 - 0 + 1 = gw by omega, Int.zero_add]; push_cast; rfl
    have e2 : (0 : Int) + (k : Int) / ((gw : Int) - 1 - 0 + 1) = ((k / gw : Nat) : Int) := by
      rw [show (gw : Int) - 1 - 0 + 1 = gw by omega, Int.zero_add]; push_cast; rfl
    have hlt2 : (k : Int) < ((gw : Int) - 1 - 0 + 1) * (gh - 1 - 0 + 1) := by
      rw [show (gw : Int) - 1 - 0 + 1 = gw by omega, show (gh : Int) - 1 - 0 + 1 = gh by omega, hmi]; omega
    repeat refine cw_seq ?_
    refine cw_skip ?_
    try show CW _ _ _ _ _ _
    repeat refine cw_seq ?_
    refine cw_block ?_
    repeat refine cw_seq ?_
    refine cw_region ?_
    refine rw_r (op_loadAB Tryz.underlying38 rfl (Tryz.sizeOf38 _) rfl (S.blk (i := 0) rfl) rfl rfl) ?_
    refine rw_v (op_pure rfl) ?_
    refine rw_call rfl (nth_E 0 0 ((gw : Int) - 1) ((gh : Int) - 1) k (by omega) (by omega) hlt2 w) ?_
    rintro _ w3_ ⟨rfl, g3_⟩
    have S := S.gr g3_
    rw [e1, e2]
    iterate 3 refine rw_v (op_pure rfl) ?_
    refine rw_newB (op_alloc Tryz.zeroValue50 rfl) S ?_
    intro b_fr w5_ g5_ S
    refine rw_storeSA (i := 0) S rfl (Tryz.sizeOf50 _) rfl rfl rfl rfl rfl rfl ?_
    intro w6_ S
    refine rw_v (op_pure rfl) ?_
    first | refine rw_end ?_ | (refine rw_nil ?_; show CW _ _ _ _ _ _) | refine rw_nil ?_
    repeat refine cw_seq ?_
    refine cw_region ?_
    refine rw_v (op_pure rfl) ?_
    first | refine rw_end ?_ | (refine rw_nil ?_; show CW _ _ _ _ _ _) | refine rw_nil ?_
    repeat refine cw_seq ?_
    refine cw_block ?_
    repeat refine cw_seq ?_
    refine cw_loop (fun m e w => ∃ n : Nat, 1 ≤ n ∧ n + m = gw - k % gw ∧ SL e [(0, .pointer (some ⟨p, 0, none⟩)), (2, .slice B V.length cp), (4, .pointer (some ⟨b_rc, 0, none⟩)), (6, .int .i64 k), (7, .pointer (some ⟨b_fr, 0, none⟩)), (9, .int .i64 n)] ∧ (∀ j, j < n → V.getD (k + j) 0 = V.getD k 0) ∧
      St (gridB (acr gw * acr gh) p A bs Rs) W w [.blk b_fr 50 [.int .i64 (k % gw : Nat), .int .i64 (k / gw : Nat)], .blk b_rc 38 [.int .i64 0, .int .i64 0, .int .i64 (gw - 1), .int .i64 (gh - 1)], .grid p gw gh (layC V k c) A cap bs Rs1]) (gw - k % gw - 1)
      ⟨1, by omega, by omega, ⟨rfl, rfl, rfl, rfl, rfl, rfl, trivial⟩, fun j hj => by rw [show j = 0 by omega, Nat.add_zero], S⟩ ?_
    rintro m' e w ⟨n, hn1, hn2, hsl, hI, S⟩
    rw [hsl.fold]
    have hBw := hBk S.fr
    have hget : ∀ i, i < V.length → (ints V)[i]? = some (.int .i64 (V.getD i 0)) := fun i hi => by
      refine ints_get ?_
      rw [List.getD_eq_getElem?_getD, List.getElem?_eq_getElem hi]
      rfl
    have hxk := hget k (by omega)
    have hxk' : (ints V)[(k : Int).toNat * 1]? = some (.int .i64 (V.getD k 0)) := by rw [Nat.mul_one, Int.toNat_natCast]; exact hxk
    have fin : ∀ w, St (gridB (acr gw * acr gh) p A bs Rs) W w [.blk b_fr 50 [.int .i64 (k % gw : Nat), .int .i64 (k / gw : Nat)], .blk b_rc 38 [.int .i64 0, .int .i64 0, .int .i64 (gw - 1), .int .i64 (gh - 1)], .grid p gw gh (layC V k c) A cap bs Rs1] → True := fun _ _ => trivial
    have hmk : mayB (V.getD k 0) = true := by
      rw [List.getD_eq_getElem?_getD, List.getElem?_eq_getElem (by omega)]
      exact hmay _ (List.getElem_mem _)
    have hmk := (mayB_iff _).1 hmk
    by_cases hext : k % gw + n ≤ gw - 1 ∧ V.getD (k + n) 0 = V.getD k 0
    · have hxn := hget (k + n) (by omega)
      have hxn' : (ints V)[((k : Int) + n).toNat * 1]? = some (.int .i64 (V.getD (k + n) 0)) := by rw [Nat.mul_one, show ((k : Int) + n).toNat = k + n by omega]; exact hxn
      obtain ⟨hx1, hx2⟩ := hext
      repeat refine cw_seq ?_
      refine cw_draw (C := fun wq => Gr w wq) [0, 1, 2, 3, 4, 5, 6, 7, 8, 9, 10, 11, 12, 13, 14, 15, 16, 17, 18, 19] [] (by kernel_rfl) (by kernel_rfl) (Gr.drew _) ?_
      simp only [pickL, List.drop_succ_cons, List.drop_zero]
      refine rq_v (op_fieldAddr Tryz.underlying50 rfl Tryz.sizeOf2 rfl rfl) ?_
      refine rq_r (fun wq hq => op_loadB Tryz.underlying2 rfl rfl ((S.gr hq).blk (i := 0) rfl) rfl) ?_
      refine rq_v (op_pure rfl) ?_
      refine rq_v (op_rng rfl (by omega)) ?_
      refine rq_v (op_fieldAddr Tryz.underlying38 rfl Tryz.sizeOf2 rfl rfl) ?_
      refine rq_r (fun wq hq => op_loadB Tryz.underlying2 rfl rfl ((S.gr hq).blk (i := 1) rfl) rfl) ?_
      first | refine rq_v (op_b (b := true) rfl (decide_eq_true (by omega))) ?_ | refine rq_v (op_b (b := false) rfl (decide_eq_false (by omega))) ?_ | refine rq_v (op_pure rfl) ?_
      refine rq_v (op_pure rfl) ?_
      first | refine rq_off rfl ?_ | (refine rq_on rfl ?_; refine rq_v (op_pure rfl) ?_)
      first | refine rq_off rfl ?_ | (refine rq_on rfl ?_; refine rq_v (op_pure rfl) ?_)
      first | refine rq_off rfl ?_ | (refine rq_on rfl ?_; refine rq_v (op_pure rfl) ?_)
      first | refine rq_off rfl ?_ | (refine rq_on rfl ?_; refine rq_v (op_rng rfl (by omega)) ?_)
      first | refine rq_off rfl ?_ | (refine rq_on rfl ?_; refine rq_v (op_idx Tryz.underlying22 Tryz.sizeOf2 rfl rfl sa_B (by omega) (by omega)) ?_)
      first | refine rq_off rfl ?_ | (refine rq_on rfl ?_; refine rq_r (fun wq hq => op_ldR Tryz.underlying2 rfl rfl (hBk (S.gr hq).fr) hxn') ?_)
      first | refine rq_off rfl ?_ | (refine rq_on rfl ?_; refine rq_v (op_pure rfl) ?_)
      first | refine rq_off rfl ?_ | (refine rq_on rfl ?_; refine rq_v (op_pure rfl) ?_)
      first | refine rq_off rfl ?_ | (refine rq_on rfl ?_; refine rq_v (op_idx Tryz.underlying22 Tryz.sizeOf2 rfl rfl sa_B (by omega) (by omega)) ?_)
      first | refine rq_off rfl ?_ | (refine rq_on rfl ?_; refine rq_r (fun wq hq => op_ldR Tryz.underlying2 rfl rfl (hBk (S.gr hq).fr) hxk') ?_)
      first | refine rq_off rfl ?_ | (refine rq_on rfl ?_; (first | refine rq_v (op_b (b := true) rfl (beq_iff_eq.2 (by omega))) ?_ | refine rq_v (op_b (b := false) rfl (beq_eq_false_iff_ne.2 (by omega))) ?_ | refine rq_v (op_pure rfl) ?_))
      refine rq_v (op_pure rfl) ?_
      refine rq_nil ?_
      intro w7_ g7_
      have S := S.gr g7_
      first | refine rw_end ?_ | (refine rw_nil ?_; show CW _ _ _ _ _ _) | refine rw_nil ?_
      repeat refine cw_seq ?_
      refine cw_true rfl ?_
      repeat refine cw_seq ?_
      refine cw_skip ?_
      try show CW _ _ _ _ _ _
      repeat refine cw_seq ?_
      refine cw_block ?_
      repeat refine cw_seq ?_
      refine cw_region ?_
      refine rw_v (op_pure rfl) ?_
      refine rw_v (op_rng rfl (by omega)) ?_
      refine rw_v (op_pure rfl) ?_
      first | refine rw_end ?_ | (refine rw_nil ?_; show CW _ _ _ _ _ _) | refine rw_nil ?_
      refine ⟨m' - 1, by omega, n + 1, by omega, by omega, ⟨rfl, rfl, rfl, rfl, rfl, ie (by omega), trivial⟩, fun j hj => ?_, S⟩
      by_cases e : j = n
      · subst e; exact hx2
      · exact hI j (by omega)
    · have hcase : ¬ (k % gw + n ≤ gw - 1) ∨ (k % gw + n ≤ gw - 1 ∧ V.getD (k + n) 0 ≠ V.getD k 0) := by
        by_cases h : k % gw + n ≤ gw - 1
        · exact .inr ⟨h, fun e => hext ⟨h, e⟩⟩
        · exact .inl h
      have e3 : ((k % gw : Nat) : Int) + n - 1 = ((k % gw + n - 1 : Nat) : Int) := by omega
      have hgw0 : 0 < gw := by omega
      rcases hcase with hcase | ⟨hc1, hc2⟩
      · skip
        repeat refine cw_seq ?_
        refine cw_draw (C := fun wq => Gr w wq) [0, 1, 2, 3, 4, 5, 6, 7, 8, 9, 10, 11, 12, 13, 14, 15, 16, 17, 18, 19] [] (by kernel_rfl) (by kernel_rfl) (Gr.drew _) ?_
        simp only [pickL, List.drop_succ_cons, List.drop_zero]
        refine rq_v (op_fieldAddr Tryz.underlying50 rfl Tryz.sizeOf2 rfl rfl) ?_
        refine rq_r (fun wq hq => op_loadB Tryz.underlying2 rfl rfl ((S.gr hq).blk (i := 0) rfl) rfl) ?_
        refine rq_v (op_pure rfl) ?_
        refine rq_v (op_rng rfl (by omega)) ?_
        refine rq_v (op_fieldAddr Tryz.underlying38 rfl Tryz.sizeOf2 rfl rfl) ?_
        refine rq_r (fun wq hq => op_loadB Tryz.underlying2 rfl rfl ((S.gr hq).blk (i := 1) rfl) rfl) ?_
        first | refine rq_v (op_b (b := true) rfl (decide_eq_true (by omega))) ?_ | refine rq_v (op_b (b := false) rfl (decide_eq_false (by omega))) ?_ | refine rq_v (op_pure rfl) ?_
        refine rq_v (op_pure rfl) ?_
        first | refine rq_off rfl ?_ | (refine rq_on rfl ?_; refine rq_v (op_pure rfl) ?_)
        first | refine rq_off rfl ?_ | (refine rq_on rfl ?_; refine rq_v (op_pure rfl) ?_)
        first | refine rq_off rfl ?_ | (refine rq_on rfl ?_; refine rq_v (op_pure rfl) ?_)
        first | refine rq_off rfl ?_ | (refine rq_on rfl ?_; refine rq_v (op_rng rfl (by omega)) ?_)
        first | refine rq_off rfl ?_ | (refine rq_on rfl ?_; refine rq_v (op_idx Tryz.underlying22 Tryz.sizeOf2 rfl rfl sa_B (by omega) (by omega)) ?_)
        first | refine rq_off rfl ?_ | (refine rq_on rfl ?_; refine rq_r (fun wq hq => op_ldR Tryz.underlying2 rfl rfl (hBk (S.gr hq).fr) (by assumption)) ?_)
        first | refine rq_off rfl ?_ | (refine rq_on rfl ?_; refine rq_v (op_pure rfl) ?_)
        first | refine rq_off rfl ?_ | (refine rq_on rfl ?_; refine rq_v (op_pure rfl) ?_)
        first | refine rq_off rfl ?_ | (refine rq_on rfl ?_; refine rq_v (op_idx Tryz.underlying22 Tryz.sizeOf2 rfl rfl sa_B (by omega) (by omega)) ?_)
        first | refine rq_off rfl ?_ | (refine rq_on rfl ?_; refine rq_r (fun wq hq => op_ldR Tryz.underlying2 rfl rfl (hBk (S.gr hq).fr) (by assumption)) ?_)
        first | refine rq_off rfl ?_ | (refine rq_on rfl ?_; (first | refine rq_v (op_b (b := true) rfl (beq_iff_eq.2 (by omega))) ?_ | refine rq_v (op_b (b := false) rfl (beq_eq_false_iff_ne.2 (by omega))) ?_ | refine rq_v (op_pure rfl) ?_))
        refine rq_v (op_pure rfl) ?_
        refine rq_nil ?_
        intro w8_ g8_
        have S := S.gr g8_
        first | refine rw_end ?_ | (refine rw_nil ?_; show CW _ _ _ _ _ _) | refine rw_nil ?_
        repeat refine cw_seq ?_
        refine cw_false rfl ?_
        repeat refine cw_seq ?_
        refine cw_exit ?_
        repeat first | refine exit_then ?_ | refine exit_inb ?_
        show CW _ _ _ _ _ _
        repeat refine cw_seq ?_
        refine cw_draw (C := fun wq => Gr w8_ wq) [0, 1, 2, 3, 4, 5, 6, 7, 8, 9, 10, 11, 12, 13, 14, 15, 16] [17] (by kernel_rfl) (by kernel_rfl) (Gr.drew _) ?_
        simp only [pickL, List.drop_succ_cons, List.drop_zero]
        refine rq_v (op_pure rfl) ?_
        refine rq_v (op_fieldAddr Tryz.underlying50 rfl Tryz.sizeOf2 rfl rfl) ?_
        refine rq_r (fun wq hq => op_loadB Tryz.underlying2 rfl rfl ((S.gr hq).blk (i := 0) rfl) rfl) ?_
        refine rq_v (op_fieldAddr Tryz.underlying50 rfl Tryz.sizeOf2 rfl rfl) ?_
        refine rq_r (fun wq hq => op_loadB Tryz.underlying2 rfl rfl ((S.gr hq).blk (i := 0) rfl) rfl) ?_
        refine rq_v (op_fieldAddr Tryz.underlying50 rfl Tryz.sizeOf2 rfl rfl) ?_
        refine rq_r (fun wq hq => op_loadB Tryz.underlying2 rfl rfl ((S.gr hq).blk (i := 0) rfl) rfl) ?_
        refine rq_v (op_pure rfl) ?_
        refine rq_v (op_rng rfl (by omega)) ?_
        refine rq_v (op_rng rfl (by omega)) ?_
        rw [e3]
        refine rq_v (op_fieldAddr Tryz.underlying50 rfl Tryz.sizeOf2 rfl rfl) ?_
        refine rq_r (fun wq hq => op_loadB Tryz.underlying2 rfl rfl ((S.gr hq).blk (i := 0) rfl) rfl) ?_
        refine rq_v (op_build (pl := [(0, 1), (1, 1), (2, 1), (3, 1)]) Tryz.underlying38 Tryz.zeroValue38 (fun w => by kernel_rfl) rfl rfl) ?_
        iterate 2 refine rq_v (op_pure rfl) ?_
        refine rq_v (op_idx Tryz.underlying22 Tryz.sizeOf2 rfl rfl sa_B (by omega) (by omega)) ?_
        refine rq_r (fun wq hq => op_ldR Tryz.underlying2 rfl rfl (hBk (S.gr hq).fr) hxk') ?_
        refine rq_nil ?_
        intro w9_ g9_
        have S := S.gr g9_
        refine rw_call rfl (gfill_E (k % gw) (k / gw) (k % gw + n - 1) (k / gw) (V.getD k 0) ⟨by omega, by omega⟩ ⟨Nat.le_refl _, hy⟩ hmk (S.grid (i := 2) rfl)) ?_
        rintro _ w10_ ⟨_, Rs2, hG2, hF2, hO2⟩
        have S := S.set (i := 2) (h' := .grid p gw gh _ A cap bs Rs2) rfl rfl hF2 (fun g h => .inl h) hG2 hO2
        first | refine rw_end ?_ | (refine rw_nil ?_; show CW _ _ _ _ _ _) | refine rw_nil ?_
        repeat refine cw_seq ?_
        refine cw_region ?_
        iterate 2 refine rw_v (op_pure rfl) ?_
        refine rw_v (op_rng rfl (by omega)) ?_
        refine rw_v (op_pure rfl) ?_
        first | refine rw_end ?_ | (refine rw_nil ?_; show CW _ _ _ _ _ _) | refine rw_nil ?_
        have S := S.sub (.cons _ (.cons_cons _ (.cons_cons _ .slnil)))
        exact ⟨m - n, by omega, k + n, Rs2, by omega, ⟨rfl, rfl, rfl, ie (by omega), trivial⟩, S.as_ (i := 1) rfl rfl (fun h => h.congr (fun i _ => lay_step hgw0 hn1 (by omega) hI i)) (fun g h => h)⟩
      · have hxn := hget (k + n) (by omega)
        have hxn' : (ints V)[((k : Int) + n).toNat * 1]? = some (.int .i64 (V.getD (k + n) 0)) := by rw [Nat.mul_one, show ((k : Int) + n).toNat = k + n by omega]; exact hxn
        repeat refine cw_seq ?_
        refine cw_draw (C := fun wq => Gr w wq) [0, 1, 2, 3, 4, 5, 6, 7, 8, 9, 10, 11, 12, 13, 14, 15, 16, 17, 18, 19] [] (by kernel_rfl) (by kernel_rfl) (Gr.drew _) ?_
        simp only [pickL, List.drop_succ_cons, List.drop_zero]
        refine rq_v (op_fieldAddr Tryz.underlying50 rfl Tryz.sizeOf2 rfl rfl) ?_
        refine rq_r (fun wq hq => op_loadB Tryz.underlying2 rfl rfl ((S.gr hq).blk (i := 0) rfl) rfl) ?_
        refine rq_v (op_pure rfl) ?_
        refine rq_v (op_rng rfl (by omega)) ?_
        refine rq_v (op_fieldAddr Tryz.underlying38 rfl Tryz.sizeOf2 rfl rfl) ?_
        refine rq_r (fun wq hq => op_loadB Tryz.underlying2 rfl rfl ((S.gr hq).blk (i := 1) rfl) rfl) ?_
        first | refine rq_v (op_b (b := true) rfl (decide_eq_true (by omega))) ?_ | refine rq_v (op_b (b := false) rfl (decide_eq_false (by omega))) ?_ | refine rq_v (op_pure rfl) ?_
        refine rq_v (op_pure rfl) ?_
        first | refine rq_off rfl ?_ | (refine rq_on rfl ?_; refine rq_v (op_pure rfl) ?_)
        first | refine rq_off rfl ?_ | (refine rq_on rfl ?_; refine rq_v (op_pure rfl) ?_)
        first | refine rq_off rfl ?_ | (refine rq_on rfl ?_; refine rq_v (op_pure rfl) ?_)
        first | refine rq_off rfl ?_ | (refine rq_on rfl ?_; refine rq_v (op_rng rfl (by omega)) ?_)
        first | refine rq_off rfl ?_ | (refine rq_on rfl ?_; refine rq_v (op_idx Tryz.underlying22 Tryz.sizeOf2 rfl rfl sa_B (by omega) (by omega)) ?_)
        first | refine rq_off rfl ?_ | (refine rq_on rfl ?_; refine rq_r (fun wq hq => op_ldR Tryz.underlying2 rfl rfl (hBk (S.gr hq).fr) hxn') ?_)
        first | refine rq_off rfl ?_ | (refine rq_on rfl ?_; refine rq_v (op_pure rfl) ?_)
        first | refine rq_off rfl ?_ | (refine rq_on rfl ?_; refine rq_v (op_pure rfl) ?_)
        first | refine rq_off rfl ?_ | (refine rq_on rfl ?_; refine rq_v (op_idx Tryz.underlying22 Tryz.sizeOf2 rfl rfl sa_B (by omega) (by omega)) ?_)
        first | refine rq_off rfl ?_ | (refine rq_on rfl ?_; refine rq_r (fun wq hq => op_ldR Tryz.underlying2 rfl rfl (hBk (S.gr hq).fr) hxk') ?_)
        first | refine rq_off rfl ?_ | (refine rq_on rfl ?_; (first | refine rq_v (op_b (b := true) rfl (beq_iff_eq.2 (by omega))) ?_ | refine rq_v (op_b (b := false) rfl (beq_eq_false_iff_ne.2 (by omega))) ?_ | refine rq_v (op_pure rfl) ?_))
        refine rq_v (op_pure rfl) ?_
        refine rq_nil ?_
        intro w11_ g11_
        have S := S.gr g11_
        first | refine rw_end ?_ | (refine rw_nil ?_; show CW _ _ _ _ _ _) | refine rw_nil ?_
        repeat refine cw_seq ?_
        refine cw_false rfl ?_
        repeat refine cw_seq ?_
        refine cw_exit ?_
        repeat first | refine exit_then ?_ | refine exit_inb ?_
        show CW _ _ _ _ _ _
        repeat refine cw_seq ?_
        refine cw_draw (C := fun wq => Gr w11_ wq) [0, 1, 2, 3, 4, 5, 6, 7, 8, 9, 10, 11, 12, 13, 14, 15, 16] [17] (by kernel_rfl) (by kernel_rfl) (Gr.drew _) ?_
        simp only [pickL, List.drop_succ_cons, List.drop_zero]
        refine rq_v (op_pure rfl) ?_
        refine rq_v (op_fieldAddr Tryz.underlying50 rfl Tryz.sizeOf2 rfl rfl) ?_
        refine rq_r (fun wq hq => op_loadB Tryz.underlying2 rfl rfl ((S.gr hq).blk (i := 0) rfl) rfl) ?_
        refine rq_v (op_fieldAddr Tryz.underlying50 rfl Tryz.sizeOf2 rfl rfl) ?_
        refine rq_r (fun wq hq => op_loadB Tryz.underlying2 rfl rfl ((S.gr hq).blk (i := 0) rfl) rfl) ?_
        refine rq_v (op_fieldAddr Tryz.underlying50 rfl Tryz.sizeOf2 rfl rfl) ?_
        refine rq_r (fun wq hq => op_loadB Tryz.underlying2 rfl rfl ((S.gr hq).blk (i := 0) rfl) rfl) ?_
        refine rq_v (op_pure rfl) ?_
        refine rq_v (op_rng rfl (by omega)) ?_
        refine rq_v (op_rng rfl (by omega)) ?_
        rw [e3]
        refine rq_v (op_fieldAddr Tryz.underlying50 rfl Tryz.sizeOf2 rfl rfl) ?_
        refine rq_r (fun wq hq => op_loadB Tryz.underlying2 rfl rfl ((S.gr hq).blk (i := 0) rfl) rfl) ?_
        refine rq_v (op_build (pl := [(0, 1), (1, 1), (2, 1), (3, 1)]) Tryz.underlying38 Tryz.zeroValue38 (fun w => by kernel_rfl) rfl rfl) ?_
        iterate 2 refine rq_v (op_pure rfl) ?_
        refine rq_v (op_idx Tryz.underlying22 Tryz.sizeOf2 rfl rfl sa_B (by omega) (by omega)) ?_
        refine rq_r (fun wq hq => op_ldR Tryz.underlying2 rfl rfl (hBk (S.gr hq).fr) hxk') ?_
        refine rq_nil ?_
        intro w12_ g12_
        have S := S.gr g12_
        refine rw_call rfl (gfill_E (k % gw) (k / gw) (k % gw + n - 1) (k / gw) (V.getD k 0) ⟨by omega, by omega⟩ ⟨Nat.le_refl _, hy⟩ hmk (S.grid (i := 2) rfl)) ?_
        rintro _ w13_ ⟨_, Rs2, hG2, hF2, hO2⟩
        have S := S.set (i := 2) (h' := .grid p gw gh _ A cap bs Rs2) rfl rfl hF2 (fun g h => .inl h) hG2 hO2
        first | refine rw_end ?_ | (refine rw_nil ?_; show CW _ _ _ _ _ _) | refine rw_nil ?_
        repeat refine cw_seq ?_
        refine cw_region ?_
        iterate 2 refine rw_v (op_pure rfl) ?_
        refine rw_v (op_rng rfl (by omega)) ?_
        refine rw_v (op_pure rfl) ?_
        first | refine rw_end ?_ | (refine rw_nil ?_; show CW _ _ _ _ _ _) | refine rw_nil ?_
        have S := S.sub (.cons _ (.cons_cons _ (.cons_cons _ .slnil)))
        exact ⟨m - n, by omega, k + n, Rs2, by omega, ⟨rfl, rfl, rfl, ie (by omega), trivial⟩, S.as_ (i := 1) rfl rfl (fun h => h.congr (fun i _ => lay_step hgw0 hn1 (by omega) hI i)) (fun g h => h)⟩
  · try simp only [decide_eq_true_eq, decide_eq_false_iff_not, beq_iff_eq, bne_iff_ne, beq_eq_false_iff_ne, bne_eq_false_iff_eq, Bool.not_eq_true', Bool.not_eq_false', ne_eq, Decidable.not_not, Int.natCast_inj, Int.ofNat_lt, Int.ofNat_le, gt_iff_lt, ge_iff_le, Int.not_lt, Int.not_le] at hc
    repeat refine cw_seq ?_
    refine cw_exit ?_
    repeat first | refine exit_then ?_ | refine exit_inb ?_
    obtain rfl : k = gw * gh := by omega
    exact res0n ⟨rfl, Rs1, (S.grid (i := 1) rfl).congr (fun i hi => if_pos hi), S.fr, fun g hg => (S.sep.get (i := 1) rfl).2 g hg⟩
end
end Go.Proofs.YtbcgbcipigcbhaaGreat
/- paint.Paste over a whole grid, and paint.From. -/
namespace Go.Proofs.YtbcgbcipigcbhaaGreat
open Go.RowKit
set_option linter.unusedVariables false
set_option linter.unusedSimpArgs false
set_option maxRecDepth 100000

theorem Rd.lt {w : World} {A : Option Addr} {xs : List Value} (h : Rd w A xs) (hn : 0 < xs.length) {g : Nat} (hg : ownA A g) : g < w.heap.size := by
  rcases h with rfl | ⟨b, o, rfl, hb, _⟩
  · simp at hn
  · exact ownA_eq hg ▸ hb
section
variable {W : World} {p gw gh cap : Nat} {c : Nat → Int} {A B : Option Addr} {bs : Nat → Nat} {Rs : Nat → Option Nat} {V : List Int}
theorem paste_E (cp : Nat) (hV : V.length = gw * gh) (hmay : ∀ v ∈ V, mayB v = true) (hG : GridAt W p gw gh c A cap bs Rs) (hB : Rd W B (ints V)) (hap : ∀ g, ownA B g → ¬ gridB (acr gw * acr gh) p A bs Rs g) (hlt : ∀ g, ownA B g → g < W.heap.size) :
    Fn Tryz.prog 43 [.pointer (some ⟨p, 0, none⟩), .agg #[.int .i64 0, .int .i64 0, .int .i64 (gw - 1), .int .i64 (gh - 1)], .slice B V.length cp] W
      (fun r w' => r = .int .i64 0 ∧ GridP W p gw gh A cap bs Rs (fun i => V.getD i 0) w') := by
  have hw := hG.sw
  have hh := hG.sh
  have hm : 1 ≤ gw * gh ∧ gw * gh ≤ 1024 * 1024 := ⟨Nat.mul_le_mul hw.1 hh.1, Nat.mul_le_mul hw.2 hh.2⟩
  have hmi : ((gw : Int) - 1 - 0 + 1) * ((gh : Int) - 1 - 0 + 1) = ((gw * gh : Nat) : Int) := by
    rw [show (gw : Int) - 1 - 0 + 1 = gw by omega, show (gh : Int) - 1 - 0 + 1 = gh by omega]; push_cast; rfl
  have hBk : ∀ {w : World}, Fr (gridB (acr gw * acr gh) p A bs Rs) W w → Rd w B (ints V) := fun {w} hF => hB.fr hF (fun a ha => hap _ (by rw [ha]; rfl))
  have hbad : V.any (fun v => !mayB v) = false := List.any_eq_false.2 fun v hv => by rw [hmay v hv]; decide
  have e1 : ((gw : Int) - 1) = ((gw - 1 : Nat) : Int) := by omega
  have e2 : ((gh : Int) - 1) = ((gh - 1 : Nat) : Int) := by omega
  have S := St.start1 W (.grid p gw gh c A cap bs Rs) hG
  refine Fn_enter Tryz.func43 rfl Tryz.results43 Tryz.ntmps43 (by kernel_rfl) (by kernel_rfl) ?_
  repeat refine cw_seq ?_
  refine cw_region ?_
  refine rw_newB (op_box rfl) S ?_
  intro b_rc w2_ g2_ S
  refine rw_v (op_pure rfl) ?_
  first | refine rw_end ?_ | (refine rw_nil ?_; show CW _ _ _ _ _ _) | refine rw_nil ?_
  repeat refine cw_seq ?_
  refine cw_region ?_
  refine rw_v (op_pure rfl) ?_
  refine rw_r (op_loadAB Tryz.underlying38 rfl (Tryz.sizeOf38 _) rfl (S.blk (i := 0) rfl) rfl rfl) ?_
  refine rw_call rfl ((by have := gvalues_E (W := w2_) (p := p) (gw := gw) (gh := gh) (c := c) (A := A) (cap := cap) (bs := bs) (Rs := Rs) 0 0 (gw - 1) (gh - 1) (by omega) (by omega) (S.grid (i := 1) rfl); rw [← e1, ← e2] at this; exact this)) ?_
  rintro _ w3_ ⟨A_vs, c_vs, rfl, hR_vs, hf_vs, g3_⟩
  have S := S.pushRow hR_vs hf_vs g3_
  iterate 5 refine rw_v (op_pure rfl) ?_
  first | refine rw_end ?_ | (refine rw_nil ?_; show CW _ _ _ _ _ _) | refine rw_nil ?_
  repeat refine cw_seq ?_
  refine cw_region ?_
  refine rw_v (op_pure rfl) ?_
  refine rw_v (op_b (b := false) rfl (bne_eq_false_iff_eq.2 (by omega))) ?_
  first | refine rw_end ?_ | (refine rw_nil ?_; show CW _ _ _ _ _ _) | refine rw_nil ?_
  repeat refine cw_seq ?_
  refine cw_false rfl ?_
  repeat refine cw_seq ?_
  refine cw_skip ?_
  try show CW _ _ _ _ _ _
  repeat refine cw_seq ?_
  refine cw_block ?_
  repeat refine cw_seq ?_
  refine cw_region ?_
  refine rw_v (op_pure rfl) ?_
  refine rw_v (op_len Tryz.underlying22 rfl) ?_
  refine rw_r (op_loadAB Tryz.underlying38 rfl (Tryz.sizeOf38 _) rfl (S.blk (i := 1) rfl) rfl rfl) ?_
  refine rw_call rfl (area_E _ _ _ _ (by omega) w3_) ?_
  rintro _ w4_ ⟨rfl, g4_⟩
  have S := S.gr g4_
  rw [hmi]
  refine rw_v (op_b (b := false) rfl (bne_eq_false_iff_eq.2 (by omega))) ?_
  refine rw_v (op_pure rfl) ?_
  first | refine rw_end ?_ | (refine rw_nil ?_; show CW _ _ _ _ _ _) | refine rw_nil ?_
  repeat refine cw_seq ?_
  refine cw_false rfl ?_
  repeat refine cw_seq ?_
  refine cw_region ?_
  refine rw_v (op_pure rfl) ?_
  refine rw_call rfl (containsFunc64_E B V.length cp _ [] V rfl (by omega) (fun v => !mayB v) w4_ (hBk S.fr) (fun x hx w' g => paste1_E x w')) ?_
  rintro _ w5_ ⟨rfl, g5_⟩
  have S := S.gr g5_
  rw [hbad]
  refine rw_v (op_pure rfl) ?_
  first | refine rw_end ?_ | (refine rw_nil ?_; show CW _ _ _ _ _ _) | refine rw_nil ?_
  repeat refine cw_seq ?_
  refine cw_false rfl ?_
  repeat refine cw_seq ?_
  refine cw_skip ?_
  try show CW _ _ _ _ _ _
  repeat refine cw_seq ?_
  refine cw_region ?_
  refine rw_v (op_pure rfl) ?_
  refine rw_r (op_loadAB Tryz.underlying38 rfl (Tryz.sizeOf38 _) rfl (S.blk (i := 1) rfl) rfl rfl) ?_
  refine rw_v (op_pure rfl) ?_
  refine rw_call rfl (lay_E cp hV hmay (S.grid (i := 2) rfl) (hBk S.fr) hap (fun g hg => Nat.lt_of_lt_of_le (hlt g hg) S.le)) ?_
  rintro _ w6_ ⟨rfl, Rs2, hG2, hF2, hO2⟩
  have S := S.set (i := 2) (h' := .grid p gw gh _ A cap bs Rs2) rfl rfl hF2 (fun g h => .inl h) hG2 hO2
  first | refine rw_end ?_ | (refine rw_nil ?_; show CW _ _ _ _ _ _) | refine rw_nil ?_
  repeat refine cw_seq ?_
  refine cw_region ?_
  refine rw_v (op_pure rfl) ?_
  first | refine rw_end ?_ | (refine rw_nil ?_; show CW _ _ _ _ _ _) | refine rw_nil ?_
  repeat refine cw_seq ?_
  refine cw_ret ?_
  repeat first | refine ret_then ?_ | refine ret_inb ?_
  exact res1 rfl ⟨rfl, Rs2, S.grid (i := 2) rfl, S.fr, fun g hg => (S.sep.get (i := 2) rfl).2 g hg⟩
theorem from_E (cp : Nat) (hw : 1 ≤ gw ∧ gw ≤ 1024) (hh : 1 ≤ gh ∧ gh ≤ 1024) (hV : V.length = gw * gh) (hmay : ∀ v ∈ V, mayB v = true) (hB : Rd W B (ints V)) :
    Fn Tryz.prog 15 [.int .i64 gw, .int .i64 gh, .slice B V.length cp] W (RetGrid (fun p => .tuple #[p, .int .i64 0]) gw gh (fun i => V.getD i 0) W) := by
  have hm : 1 ≤ gw * gh ∧ gw * gh ≤ 1024 * 1024 := ⟨Nat.mul_le_mul hw.1 hh.1, Nat.mul_le_mul hw.2 hh.2⟩
  have hlt : ∀ g, ownA B g → g < W.heap.size := fun g hg => hB.lt (by rw [ints_len]; omega) hg
  have S := St.start W
  refine Fn_enter Tryz.func15 rfl Tryz.results15 Tryz.ntmps15 (by kernel_rfl) (by kernel_rfl) ?_
  repeat refine cw_seq ?_
  refine cw_region ?_
  iterate 2 refine rw_v (op_pure rfl) ?_
  first | refine rw_end ?_ | (refine rw_nil ?_; show CW _ _ _ _ _ _) | refine rw_nil ?_
  repeat refine cw_seq ?_
  refine cw_region ?_
  iterate 2 refine rw_v (op_pure rfl) ?_
  refine rw_call rfl (gnew_E gw gh 0 hw hh (by omega) W) ?_
  rintro _ w1_ ⟨p, A, bc, bs, Rs, rfl, hG, hf, g1_⟩
  have S := S.pushGrid hG hf g1_
  iterate 5 refine rw_v (op_pure rfl) ?_
  first | refine rw_end ?_ | (refine rw_nil ?_; show CW _ _ _ _ _ _) | refine rw_nil ?_
  repeat refine cw_seq ?_
  refine cw_region ?_
  refine rw_v (op_pure rfl) ?_
  refine rw_v (op_b (b := true) rfl (beq_iff_eq.2 (by omega))) ?_
  first | refine rw_end ?_ | (refine rw_nil ?_; show CW _ _ _ _ _ _) | refine rw_nil ?_
  repeat refine cw_seq ?_
  refine cw_true rfl ?_
  repeat refine cw_seq ?_
  refine cw_region ?_
  iterate 2 refine rw_v (op_pure rfl) ?_
  refine rw_call rfl (gall_E p gw gh hw.2 hh.2 _ w1_ (S.grid (i := 0) rfl).top) ?_
  rintro _ w2_ ⟨rfl, g2_⟩
  have S := S.gr g2_
  refine rw_v (op_pure rfl) ?_
  have hle := S.le
  refine rw_call rfl (paste_E cp hV hmay (S.grid (i := 0) rfl) (hB.gr S.out) (fun g hg hg2 => by have h1 := hlt g hg; have h2 := ((S.sep.get (i := 0) rfl).2 g hg2).elim (fun h => h.elim) id; omega) (fun g hg => Nat.lt_of_lt_of_le (hlt g hg) S.le)) ?_
  rintro _ w3_ ⟨rfl, Rs2, hG2, hF2, hO2⟩
  have S := S.set (i := 0) (h' := .grid p gw gh _ A bc bs Rs2) rfl rfl hF2 (fun g h => .inl h) hG2 hO2
  refine rw_v (op_pure rfl) ?_
  first | refine rw_end ?_ | (refine rw_nil ?_; show CW _ _ _ _ _ _) | refine rw_nil ?_
  repeat refine cw_seq ?_
  refine cw_region ?_
  refine rw_v (op_pure rfl) ?_
  refine rw_v (op_b (b := false) rfl (bne_eq_false_iff_eq.2 (by omega))) ?_
  first | refine rw_end ?_ | (refine rw_nil ?_; show CW _ _ _ _ _ _) | refine rw_nil ?_
  repeat refine cw_seq ?_
  refine cw_false rfl ?_
  repeat refine cw_seq ?_
  refine cw_skip ?_
  try show CW _ _ _ _ _ _
  repeat refine cw_seq ?_
  refine cw_region ?_
  iterate 3 refine rw_v (op_pure rfl) ?_
  first | refine rw_end ?_ | (refine rw_nil ?_; show CW _ _ _ _ _ _) | refine rw_nil ?_
  repeat refine cw_seq ?_
  refine cw_ret ?_
  repeat first | refine ret_then ?_ | refine ret_inb ?_
  exact res2 rfl rfl (S.retGrid (i := 0) rfl)
end
end Go.Proofs.YtbcgbcipigcbhaaGreat
/- Forests of package regions: sets of cells, each with its least place as its root. -/
namespace Go.Proofs.YtbcgbcipigcbhaaGreat
open Go.RowKit
set_option linter.unusedVariables false
set_option linter.unusedSimpArgs false
set_option maxRecDepth 100000

/-! ### Roots -/
def rootF (f : Nat → Nat) (i : Nat) : Nat := if h : f i < i then rootF f (f i) else i
termination_by i
def FOk (n : Nat) (f : Nat → Nat) : Prop := ∀ i, i < n → f i ≤ i
theorem rootF_lt {f : Nat → Nat} {i : Nat} (h : f i < i) : rootF f i = rootF f (f i) := by rw [rootF, dif_pos h]
theorem rootF_ge {f : Nat → Nat} {i : Nat} (h : ¬ f i < i) : rootF f i = i := by rw [rootF, dif_neg h]
theorem rootF_le (f : Nat → Nat) (i : Nat) : rootF f i ≤ i := by
  induction i using Nat.strongRecOn with
  | ind i ih =>
    by_cases h : f i < i
    · rw [rootF_lt h]; exact Nat.le_trans (ih _ h) (Nat.le_of_lt h)
    · rw [rootF_ge h]; exact Nat.le_refl _
theorem rootF_stop (f : Nat → Nat) (i : Nat) : ¬ f (rootF f i) < rootF f i := by
  induction i using Nat.strongRecOn with
  | ind i ih =>
    by_cases h : f i < i
    · rw [rootF_lt h]; exact ih _ h
    · rw [rootF_ge h]; exact h
theorem rootF_root (f : Nat → Nat) (i : Nat) : rootF f (rootF f i) = rootF f i := rootF_ge (rootF_stop f i)
theorem rootF_step {n i : Nat} {f : Nat → Nat} (hf : FOk n f) (hi : i < n) : rootF f (f i) = rootF f i := by
  by_cases h : f i < i
  · rw [rootF_lt h]
  · have : f i = i := by have := hf i hi; omega
    rw [this]
theorem rootF_fix {n i : Nat} {f : Nat → Nat} (hf : FOk n f) (hi : i < n) : f (rootF f i) = rootF f i := by
  have := rootF_stop f i
  have := hf (rootF f i) (Nat.lt_of_le_of_lt (rootF_le f i) hi)
  omega
def updF (f : Nat → Nat) (i v : Nat) : Nat → Nat := fun j => if j = i then v else f j
theorem updF_at (f : Nat → Nat) (i v : Nat) : updF f i v i = v := if_pos rfl
theorem updF_ne {f : Nat → Nat} {i v j : Nat} (h : j ≠ i) : updF f i v j = f j := if_neg h
/-- a cell hangs on what its parent hangs on -/
theorem halve_ok {n i : Nat} {f : Nat → Nat} (hf : FOk n f) (hi : i < n) : FOk n (updF f i (f (f i))) ∧ ∀ j, j < n → rootF (updF f i (f (f i))) j = rootF f j := by
  have h1 := hf i hi
  have h2 := hf (f i) (by omega)
  constructor
  · intro j hj
    by_cases e : j = i
    · subst e; rw [updF_at]; omega
    · rw [updF_ne e]; exact hf j hj
  · intro j
    induction j using Nat.strongRecOn with
    | ind j ih =>
      intro hj
      by_cases e : j = i
      · subst e
        by_cases h3 : f (f j) < j
        · have h4 : updF f j (f (f j)) j < j := by rw [updF_at]; exact h3
          rw [rootF_lt h4, updF_at, ih _ h3 (by omega), rootF_step hf (by omega), rootF_step hf hj]
        · have h5 : f j = j := by omega
          have h4 : ¬ updF f j (f (f j)) j < j := by rw [updF_at]; exact h3
          rw [rootF_ge h4, rootF_ge (by omega)]
      · by_cases h3 : f j < j
        · have h4 : updF f i (f (f i)) j < j := by rw [updF_ne e]; exact h3
          rw [rootF_lt h4, updF_ne e, ih _ h3 (by omega), rootF_lt h3]
        · have h4 : ¬ updF f i (f (f i)) j < j := by rw [updF_ne e]; exact h3
          rw [rootF_ge h4, rootF_ge h3]
/-- two sets become one -/
theorem join_ok {n a b : Nat} {f : Nat → Nat} (hf : FOk n f) (ha : a < n) (hfa : f a = a) (hfb : f b = b) (hba : b ≤ a) : FOk n (updF f a b) ∧ ∀ j, j < n → rootF (updF f a b) j = if rootF f j = a then b else rootF f j := by
  have hra : rootF f a = a := rootF_ge (by omega)
  have hrb : rootF f b = b := rootF_ge (by omega)
  constructor
  · intro j hj
    by_cases e : j = a
    · subst e; rw [updF_at]; exact hba
    · rw [updF_ne e]; exact hf j hj
  · intro j
    induction j using Nat.strongRecOn with
    | ind j ih =>
      intro hj
      by_cases e : j = a
      · subst e
        rw [hra, if_pos rfl]
        by_cases h3 : b < j
        · have h4 : updF f j b j < j := by rw [updF_at]; exact h3
          rw [rootF_lt h4, updF_at]
          rw [rootF_ge]
          rw [updF_ne (by omega)]
          omega
        · have h4 : ¬ updF f j b j < j := by rw [updF_at]; exact h3
          rw [rootF_ge h4]
          omega
      · by_cases h3 : f j < j
        · have h4 : updF f a b j < j := by rw [updF_ne e]; exact h3
          rw [rootF_lt h4, updF_ne e, ih _ h3 (by omega), rootF_lt h3]
        · have h4 : ¬ updF f a b j < j := by rw [updF_ne e]; exact h3
          rw [rootF_ge h4, rootF_ge h3, if_neg e]

/-! ### Rows of numbers -/
def cellsN (n : Nat) (f : Nat → Nat) : List Value := (List.range n).map fun i => .int .i64 (f i : Nat)
theorem cellsN_len (n : Nat) (f : Nat → Nat) : (cellsN n f).length = n := by simp [cellsN]
theorem cellsN_get {n : Nat} {f : Nat → Nat} {i : Nat} (h : i < n) : (cellsN n f)[i]? = some (.int .i64 (f i : Nat)) := by simp [cellsN, h]
theorem cellsN_set {n j v : Nat} {f : Nat → Nat} : (cellsN n f).set j (.int .i64 (v : Nat)) = cellsN n (updF f j v) := by
  apply List.ext_getElem?
  intro i
  rw [List.getElem?_set]
  by_cases hi : i < n
  · rw [cellsN_get (f := updF f j v) hi]
    by_cases hij : j = i
    · subst hij; rw [updF_at]; simp [cellsN_len, hi]
    · rw [if_neg hij, cellsN_get hi, updF_ne (fun e => hij e.symm)]
  · rw [List.getElem?_eq_none (l := cellsN n (updF f j v)) (by rw [cellsN_len]; omega), List.getElem?_eq_none (l := cellsN n f) (by rw [cellsN_len]; omega)]
    split
    · split
      · rename_i h1 h2; rw [cellsN_len] at h2; omega
      · rfl
    · rfl
theorem cellsN_congr {n : Nat} {f f' : Nat → Nat} (h : ∀ i, i < n → f i = f' i) : cellsN n f = cellsN n f' := by
  unfold cellsN
  exact List.map_congr_left fun i hi => by rw [h i (List.mem_range.1 hi)]

section
variable {W : World} {A : Option Addr} {n c : Nat} {f : Nat → Nat}
/-- a forest with the same sets -/
def ForestP (W : World) (A : Option Addr) (n c : Nat) (R : (Nat → Nat) → Prop) (w' : World) : Prop := ∃ f', FOk n f' ∧ R (rootF f') ∧ Row w' 3 1 A n c (cellsN n f') ∧ Fr (ownA A) W w'
end
end Go.Proofs.YtbcgbcipigcbhaaGreat
