/- Forests of package regions: sets of cells, each with its least place as its root. -/
import Derived.Test.YtbcgbcipigcbhaaPaintB
namespace Go.Proofs.Ytbcgbcipigcbhaa
open Go.RowKit
set_option linter.unusedVariables false
set_option linter.unusedSimpArgs false
set_option maxRecDepth 100000

/-! ### Roots -/
def rootF (f : Nat → Nat) (i : Nat) : Nat := if h : f i < i then rootF f (f i) else i
termination_by i
def FOk (n : Nat) (f : Nat → Nat) : Prop := ∀ i, i < n → f i ≤ i
theorem rootF_lt {f : Nat → Nat} {i : Nat} (h : f i < i) : rootF f i = rootF f (f i) := by rw [rootF, dif_pos h]
theorem rootF_ge {f : Nat → Nat} {i : Nat} (h : ¬ f i < i) : rootF f i = i := by rw [rootF, dif_neg h]
theorem rootF_le (f : Nat → Nat) (i : Nat) : rootF f i ≤ i := by
  induction i using Nat.strongRecOn with
  | ind i ih =>
    by_cases h : f i < i
    · rw [rootF_lt h]; exact Nat.le_trans (ih _ h) (Nat.le_of_lt h)
    · rw [rootF_ge h]; exact Nat.le_refl _
theorem rootF_stop (f : Nat → Nat) (i : Nat) : ¬ f (rootF f i) < rootF f i := by
  induction i using Nat.strongRecOn with
  | ind i ih =>
    by_cases h : f i < i
    · rw [rootF_lt h]; exact ih _ h
    · rw [rootF_ge h]; exact h
theorem rootF_root (f : Nat → Nat) (i : Nat) : rootF f (rootF f i) = rootF f i := rootF_ge (rootF_stop f i)
theorem rootF_step {n i : Nat} {f : Nat → Nat} (hf : FOk n f) (hi : i < n) : rootF f (f i) = rootF f i := by
  by_cases h : f i < i
  · rw [rootF_lt h]
  · have : f i = i := by have := hf i hi; omega
    rw [this]
theorem rootF_fix {n i : Nat} {f : Nat → Nat} (hf : FOk n f) (hi : i < n) : f (rootF f i) = rootF f i := by
  have := rootF_stop f i
  have := hf (rootF f i) (Nat.lt_of_le_of_lt (rootF_le f i) hi)
  omega
def updF (f : Nat → Nat) (i v : Nat) : Nat → Nat := fun j => if j = i then v else f j
theorem updF_at (f : Nat → Nat) (i v : Nat) : updF f i v i = v := if_pos rfl
theorem updF_ne {f : Nat → Nat} {i v j : Nat} (h : j ≠ i) : updF f i v j = f j := if_neg h
/-- a cell hangs on what its parent hangs on -/
theorem halve_ok {n i : Nat} {f : Nat → Nat} (hf : FOk n f) (hi : i < n) : FOk n (updF f i (f (f i))) ∧ ∀ j, j < n → rootF (updF f i (f (f i))) j = rootF f j := by
  have h1 := hf i hi
  have h2 := hf (f i) (by omega)
  constructor
  · intro j hj
    by_cases e : j = i
    · subst e; rw [updF_at]; omega
    · rw [updF_ne e]; exact hf j hj
  · intro j
    induction j using Nat.strongRecOn with
    | ind j ih =>
      intro hj
      by_cases e : j = i
      · subst e
        by_cases h3 : f (f j) < j
        · have h4 : updF f j (f (f j)) j < j := by rw [updF_at]; exact h3
          rw [rootF_lt h4, updF_at, ih _ h3 (by omega), rootF_step hf (by omega), rootF_step hf hj]
        · have h5 : f j = j := by omega
          have h4 : ¬ updF f j (f (f j)) j < j := by rw [updF_at]; exact h3
          rw [rootF_ge h4, rootF_ge (by omega)]
      · by_cases h3 : f j < j
        · have h4 : updF f i (f (f i)) j < j := by rw [updF_ne e]; exact h3
          rw [rootF_lt h4, updF_ne e, ih _ h3 (by omega), rootF_lt h3]
        · have h4 : ¬ updF f i (f (f i)) j < j := by rw [updF_ne e]; exact h3
          rw [rootF_ge h4, rootF_ge h3]
/-- two sets become one -/
theorem join_ok {n a b : Nat} {f : Nat → Nat} (hf : FOk n f) (ha : a < n) (hfa : f a = a) (hfb : f b = b) (hba : b ≤ a) : FOk n (updF f a b) ∧ ∀ j, j < n → rootF (updF f a b) j = if rootF f j = a then b else rootF f j := by
  have hra : rootF f a = a := rootF_ge (by omega)
  have hrb : rootF f b = b := rootF_ge (by omega)
  constructor
  · intro j hj
    by_cases e : j = a
    · subst e; rw [updF_at]; exact hba
    · rw [updF_ne e]; exact hf j hj
  · intro j
    induction j using Nat.strongRecOn with
    | ind j ih =>
      intro hj
      by_cases e : j = a
      · subst e
        rw [hra, if_pos rfl]
        by_cases h3 : b < j
        · have h4 : updF f j b j < j := by rw [updF_at]; exact h3
          rw [rootF_lt h4, updF_at]
          rw [rootF_ge]
          rw [updF_ne (by omega)]
          omega
        · have h4 : ¬ updF f j b j < j := by rw [updF_at]; exact h3
          rw [rootF_ge h4]
          omega
      · by_cases h3 : f j < j
        · have h4 : updF f a b j < j := by rw [updF_ne e]; exact h3
          rw [rootF_lt h4, updF_ne e, ih _ h3 (by omega), rootF_lt h3]
        · have h4 : ¬ updF f a b j < j := by rw [updF_ne e]; exact h3
          rw [rootF_ge h4, rootF_ge h3, if_neg e]

/-! ### Rows of numbers -/
def cellsN (n : Nat) (f : Nat → Nat) : List Value := (List.range n).map fun i => .int .i64 (f i : Nat)
theorem cellsN_len (n : Nat) (f : Nat → Nat) : (cellsN n f).length = n := by simp [cellsN]
theorem cellsN_get {n : Nat} {f : Nat → Nat} {i : Nat} (h : i < n) : (cellsN n f)[i]? = some (.int .i64 (f i : Nat)) := by simp [cellsN, h]
theorem cellsN_set {n j v : Nat} {f : Nat → Nat} : (cellsN n f).set j (.int .i64 (v : Nat)) = cellsN n (updF f j v) := by
  apply List.ext_getElem?
  intro i
  rw [List.getElem?_set]
  by_cases hi : i < n
  · rw [cellsN_get (f := updF f j v) hi]
    by_cases hij : j = i
    · subst hij; rw [updF_at]; simp [cellsN_len, hi]
    · rw [if_neg hij, cellsN_get hi, updF_ne (fun e => hij e.symm)]
  · rw [List.getElem?_eq_none (l := cellsN n (updF f j v)) (by rw [cellsN_len]; omega), List.getElem?_eq_none (l := cellsN n f) (by rw [cellsN_len]; omega)]
    split
    · split
      · rename_i h1 h2; rw [cellsN_len] at h2; omega
      · rfl
    · rfl
theorem cellsN_congr {n : Nat} {f f' : Nat → Nat} (h : ∀ i, i < n → f i = f' i) : cellsN n f = cellsN n f' := by
  unfold cellsN
  exact List.map_congr_left fun i hi => by rw [h i (List.mem_range.1 hi)]

section
variable {W : World} {A : Option Addr} {n c : Nat} {f : Nat → Nat}
/-- a forest with the same sets -/
def ForestP (W : World) (A : Option Addr) (n c : Nat) (R : (Nat → Nat) → Prop) (w' : World) : Prop := ∃ f', FOk n f' ∧ R (rootF f') ∧ Row w' 3 1 A n c (cellsN n f') ∧ Fr (ownA A) W w'
theorem root_E (i : Nat) (hn : n ≤ 1048576) (hi : i < n) (hf : FOk n f) (hA : Row W 3 1 A n c (cellsN n f)) :
    Fn Try.prog 76 [.slice A n c, .int .i64 i] W (fun v w' => v = .int .i64 (rootF f i : Nat) ∧ ForestP W A n c (fun r => ∀ j, j < n → r j = rootF f j) w') := by
  have S := St.start1 W (.row 3 1 A n c (cellsN n f)) hA
  have sa_F : SomeA A := hA.someA (by omega)
  refine Fn_enter Try.func76 rfl Try.results76 Try.ntmps76 (by kernel_rfl) (by kernel_rfl) ?_
  repeat refine cw_seq ?_
  refine cw_region ?_
  refine rw_v (op_pure rfl) ?_
  first | refine rw_end ?_ | (refine rw_nil ?_; show CW _ _ _ _ _ _) | refine rw_nil ?_
  repeat refine cw_seq ?_
  refine cw_block ?_
  repeat refine cw_seq ?_
  refine cw_loop (fun m e w => ∃ (i' : Nat) (f' : Nat → Nat), i' = m ∧ i' < n ∧ SL e [(0, .slice A n c), (1, .int .i64 i')] ∧ FOk n f' ∧ (∀ j, j < n → rootF f' j = rootF f j) ∧ rootF f i' = rootF f i ∧ St (ownA A) W w [.row 3 1 A n c (cellsN n f')]) i
    ⟨i, f, rfl, hi, ⟨rfl, rfl, trivial⟩, hf, fun _ _ => rfl, rfl, S⟩ ?_
  rintro m e w ⟨k, f', rfl, hk, hsl, hf', hr, hrk, S⟩
  rw [hsl.fold]
  have hfk := hf' k hk
  have hffk := hf' (f' k) (by omega)
  have h1 : (cellsN n f')[(k : Int).toNat * 1]? = some (.int .i64 (f' k : Nat)) := by rw [Nat.mul_one, Int.toNat_natCast]; exact cellsN_get hk
  have h2 : (cellsN n f')[((f' k : Nat) : Int).toNat * 1]? = some (.int .i64 (f' (f' k) : Nat)) := by rw [Nat.mul_one, Int.toNat_natCast]; exact cellsN_get (by omega)
  by_cases hne : f' k = k
  · skip
    repeat refine cw_seq ?_
    refine cw_region ?_
    iterate 2 refine rw_v (op_pure rfl) ?_
    refine rw_v (op_idx Try.underlying126 Try.sizeOf3 rfl rfl sa_F (by omega) (by omega)) ?_
    refine rw_r (op_ldR Try.underlying3 rfl rfl (S.rd (i := 0) rfl) h1) ?_
    refine rw_v (op_pure rfl) ?_
    refine rw_v (op_b (b := false) rfl (bne_eq_false_iff_eq.2 (by omega))) ?_
    first | refine rw_end ?_ | (refine rw_nil ?_; show CW _ _ _ _ _ _) | refine rw_nil ?_
    repeat refine cw_seq ?_
    refine cw_false rfl ?_
    repeat refine cw_seq ?_
    refine cw_exit ?_
    repeat first | refine exit_then ?_ | refine exit_inb ?_
    show CW _ _ _ _ _ _
    repeat refine cw_seq ?_
    refine cw_region ?_
    iterate 2 refine rw_v (op_pure rfl) ?_
    first | refine rw_end ?_ | (refine rw_nil ?_; show CW _ _ _ _ _ _) | refine rw_nil ?_
    repeat refine cw_seq ?_
    refine cw_ret ?_
    repeat first | refine ret_then ?_ | refine ret_inb ?_
    refine res1 rfl ⟨?_, f', hf', hr, S.row (i := 0) rfl, S.fr⟩
    rw [← hrk, ← hr k hk, rootF_ge (by omega)]
  · have hh := halve_ok hf' hk
    have h3 : (cellsN n (updF f' k (f' (f' k))))[(k : Int).toNat * 1]? = some (.int .i64 (f' (f' k) : Nat)) := by rw [Nat.mul_one, Int.toNat_natCast, cellsN_get hk, updF_at]
    repeat refine cw_seq ?_
    refine cw_region ?_
    iterate 2 refine rw_v (op_pure rfl) ?_
    refine rw_v (op_idx Try.underlying126 Try.sizeOf3 rfl rfl sa_F (by omega) (by omega)) ?_
    refine rw_r (op_ldR Try.underlying3 rfl rfl (S.rd (i := 0) rfl) h1) ?_
    refine rw_v (op_pure rfl) ?_
    refine rw_v (op_b (b := true) rfl (bne_iff_ne.2 (by omega))) ?_
    first | refine rw_end ?_ | (refine rw_nil ?_; show CW _ _ _ _ _ _) | refine rw_nil ?_
    repeat refine cw_seq ?_
    refine cw_true rfl ?_
    repeat refine cw_seq ?_
    refine cw_skip ?_
    try show CW _ _ _ _ _ _
    repeat refine cw_seq ?_
    refine cw_block ?_
    repeat refine cw_seq ?_
    refine cw_region ?_
    iterate 5 refine rw_v (op_pure rfl) ?_
    refine rw_v (op_idx Try.underlying126 Try.sizeOf3 rfl rfl sa_F (by omega) (by omega)) ?_
    refine rw_r (op_ldR Try.underlying3 rfl rfl (S.rd (i := 0) rfl) h1) ?_
    refine rw_v (op_idx Try.underlying126 Try.sizeOf3 rfl rfl sa_F (by omega) (by omega)) ?_
    refine rw_r (op_ldR Try.underlying3 rfl rfl (S.rd (i := 0) rfl) h2) ?_
    refine rw_v (op_idx Try.underlying126 Try.sizeOf3 rfl rfl sa_F (by omega) (by omega)) ?_
    refine rw_storeR (i := 0) S rfl (Try.sizeOf3 _) rfl rfl rfl rfl (by rw [cellsN_len]; omega) rfl ?_
    intro w1_ S
    rw [Nat.mul_one, Int.toNat_natCast, cellsN_set] at S
    first | refine rw_end ?_ | (refine rw_nil ?_; show CW _ _ _ _ _ _) | refine rw_nil ?_
    repeat refine cw_seq ?_
    refine cw_region ?_
    iterate 2 refine rw_v (op_pure rfl) ?_
    refine rw_v (op_idx Try.underlying126 Try.sizeOf3 rfl rfl sa_F (by omega) (by omega)) ?_
    refine rw_r (op_ldR Try.underlying3 rfl rfl (S.rd (i := 0) rfl) h3) ?_
    refine rw_v (op_pure rfl) ?_
    first | refine rw_end ?_ | (refine rw_nil ?_; show CW _ _ _ _ _ _) | refine rw_nil ?_
    refine ⟨f' (f' k), by omega, f' (f' k), _, rfl, by omega, ⟨rfl, rfl, trivial⟩, hh.1, fun j hj => (hh.2 j hj).trans (hr j hj), ?_, S⟩
    rw [← hrk, ← hr _ (by omega), ← hr k hk, rootF_step hf' (by omega), rootF_step hf' hk]
theorem join_E (a b : Nat) (hn : n ≤ 1048576) (ha : a < n) (hb : b < n) (hf : FOk n f) (hA : Row W 3 1 A n c (cellsN n f)) :
    Fn Try.prog 75 [.slice A n c, .int .i64 a, .int .i64 b] W (fun v w' => v = .tuple #[] ∧ ForestP W A n c (fun r => ∀ j, j < n → r j = if rootF f j = max (rootF f a) (rootF f b) then min (rootF f a) (rootF f b) else rootF f j) w') := by
  have S := St.start1 W (.row 3 1 A n c (cellsN n f)) hA
  have sa_F : SomeA A := hA.someA (by omega)
  have hra := rootF_le f a
  have hrb := rootF_le f b
  refine Fn_enter Try.func75 rfl Try.results75 Try.ntmps75 (by kernel_rfl) (by kernel_rfl) ?_
  repeat refine cw_seq ?_
  refine cw_region ?_
  iterate 2 refine rw_v (op_pure rfl) ?_
  refine rw_call rfl (root_E a hn ha hf (S.row (i := 0) rfl)) ?_
  rintro _ w1_ ⟨rfl, f1, hf1, hr1, hR1, hF1⟩
  have S := S.set (i := 0) (h' := .row 3 1 A n c (cellsN n f1)) rfl rfl hF1 (fun g h => .inl h) hR1 (fun g h => .inl h)
  iterate 2 refine rw_v (op_pure rfl) ?_
  refine rw_call rfl (root_E b hn hb hf1 (S.row (i := 0) rfl)) ?_
  rintro _ w2_ ⟨rfl, f2, hf2, hr2, hR2, hF2⟩
  have S := S.set (i := 0) (h' := .row 3 1 A n c (cellsN n f2)) rfl rfl hF2 (fun g h => .inl h) hR2 (fun g h => .inl h)
  rw [hr1 b hb]
  iterate 2 refine rw_v (op_pure rfl) ?_
  first | refine rw_end ?_ | (refine rw_nil ?_; show CW _ _ _ _ _ _) | refine rw_nil ?_
  repeat refine cw_seq ?_
  refine cw_region ?_
  iterate 4 refine rw_v (op_pure rfl) ?_
  rw [show max ((rootF f a : Nat) : Int) ((rootF f b : Nat) : Int) = ((max (rootF f a) (rootF f b) : Nat) : Int) by omega]
  iterate 3 refine rw_v (op_pure rfl) ?_
  rw [show min ((rootF f a : Nat) : Int) ((rootF f b : Nat) : Int) = ((min (rootF f a) (rootF f b) : Nat) : Int) by omega]
  refine rw_v (op_idx Try.underlying126 Try.sizeOf3 rfl rfl sa_F (by omega) (by omega)) ?_
  refine rw_storeR (i := 0) S rfl (Try.sizeOf3 _) rfl rfl rfl rfl (by rw [cellsN_len]; omega) rfl ?_
  intro w3_ S
  rw [Nat.mul_one, Int.toNat_natCast, cellsN_set] at S
  first | refine rw_end ?_ | (refine rw_nil ?_; show CW _ _ _ _ _ _) | refine rw_nil ?_
  have hroot : ∀ x, x < n → f2 (rootF f x) = rootF f x := fun x hx => by
    have := rootF_fix hf2 (i := x) hx
    rwa [hr2 x hx, hr1 x hx] at this
  have hj := join_ok (a := max (rootF f a) (rootF f b)) (b := min (rootF f a) (rootF f b)) hf2 (by omega)
    (by rcases Nat.le_total (rootF f a) (rootF f b) with h | h
        · rw [Nat.max_eq_right h]; exact hroot b hb
        · rw [Nat.max_eq_left h]; exact hroot a ha)
    (by rcases Nat.le_total (rootF f a) (rootF f b) with h | h
        · rw [Nat.min_eq_left h]; exact hroot a ha
        · rw [Nat.min_eq_right h]; exact hroot b hb) (by omega)
  exact res0n ⟨rfl, _, hj.1, fun j hj' => by rw [hj.2 j hj', hr2 j hj', hr1 j hj'], S.row (i := 0) rfl, S.fr⟩
theorem trees_E (n : Nat) (hn : n ≤ 1048576) (W : World) : Fn Try.prog 72 [.int .i64 n] W (RetNew id 3 1 n (cellsN n fun i => i) W) := by
  have S := St.start W
  refine Fn_enter Try.func72 rfl Try.results72 Try.ntmps72 (by kernel_rfl) (by kernel_rfl) ?_
  repeat refine cw_seq ?_
  refine cw_region ?_
  refine rw_v (op_pure rfl) ?_
  first | refine rw_end ?_ | (refine rw_nil ?_; show CW _ _ _ _ _ _) | refine rw_nil ?_
  repeat refine cw_seq ?_
  refine cw_region ?_
  refine rw_v (op_pure rfl) ?_
  refine rw_makeS1 Try.underlying126 info_t3 rfl rfl rfl (n := n) (c := n) (by omega) (by omega) (by omega) (by omega) S ?_
  intro A_F w2_ g2_ S sa_F
  refine rw_v (op_pure rfl) ?_
  first | refine rw_end ?_ | (refine rw_nil ?_; show CW _ _ _ _ _ _) | refine rw_nil ?_
  repeat refine cw_seq ?_
  refine cw_region ?_
  refine rw_v (op_pure rfl) ?_
  refine rw_v (op_len Try.underlying126 rfl) ?_
  refine rw_v (op_pure rfl) ?_
  first | refine rw_end ?_ | (refine rw_nil ?_; show CW _ _ _ _ _ _) | refine rw_nil ?_
  repeat refine cw_seq ?_
  refine cw_block ?_
  repeat refine cw_seq ?_
  refine cw_loop (fun m e w => ∃ k : Nat, k + m = n ∧ SL e [(3, .slice A_F n n), (8, .int .i64 n), (9, .int .i64 k)] ∧ St No W w [.row 3 1 A_F n n (cellsN n fun i => if i < k then i else 0)]) n
    ⟨0, by omega, ⟨rfl, rfl, rfl, trivial⟩, by
      have e : List.replicate n (Value.int .i64 0) = cellsN n (fun i => if i < 0 then i else 0) := by
        symm; rw [List.eq_replicate_iff]
        refine ⟨cellsN_len _ _, fun v hv => ?_⟩
        obtain ⟨i, _, rfl⟩ := List.mem_map.1 hv
        rfl
      rw [← e]; exact S⟩ ?_
  rintro m e w ⟨k, hk, hsl, S⟩
  rw [hsl.fold]
  repeat refine cw_seq ?_
  refine cw_region ?_
  refine rw_v (op_pure rfl) ?_
  first | refine rw_end ?_ | (refine rw_nil ?_; show CW _ _ _ _ _ _) | refine rw_nil ?_
  repeat refine cw_seq ?_
  refine cw_cond rfl (fun hc => ?_) (fun hc => ?_)
  · try simp only [decide_eq_true_eq, decide_eq_false_iff_not, beq_iff_eq, bne_iff_ne, beq_eq_false_iff_ne, bne_eq_false_iff_eq, Bool.not_eq_true', Bool.not_eq_false', ne_eq, Decidable.not_not, Int.natCast_inj, Int.ofNat_lt, Int.ofNat_le, gt_iff_lt, ge_iff_le, Int.not_lt, Int.not_le] at hc
    repeat refine cw_seq ?_
    refine cw_skip ?_
    try show CW _ _ _ _ _ _
    repeat refine cw_seq ?_
    refine cw_block ?_
    repeat refine cw_seq ?_
    refine cw_region ?_
    iterate 2 refine rw_v (op_pure rfl) ?_
    first | refine rw_end ?_ | (refine rw_nil ?_; show CW _ _ _ _ _ _) | refine rw_nil ?_
    repeat refine cw_seq ?_
    refine cw_region ?_
    iterate 3 refine rw_v (op_pure rfl) ?_
    refine rw_v (op_idx Try.underlying126 Try.sizeOf3 rfl rfl sa_F (by omega) (by omega)) ?_
    refine rw_storeR (i := 0) S rfl (Try.sizeOf3 _) rfl rfl rfl rfl (by rw [cellsN_len]; omega) rfl ?_
    intro w3_ S
    rw [Nat.mul_one, Int.toNat_natCast, cellsN_set] at S
    first | refine rw_end ?_ | (refine rw_nil ?_; show CW _ _ _ _ _ _) | refine rw_nil ?_
    repeat refine cw_seq ?_
    refine cw_region ?_
    refine rw_v (op_rng rfl (by omega)) ?_
    refine rw_v (op_pure rfl) ?_
    first | refine rw_end ?_ | (refine rw_nil ?_; show CW _ _ _ _ _ _) | refine rw_nil ?_
    refine ⟨m - 1, by omega, k + 1, by omega, ⟨rfl, rfl, ie (by omega), trivial⟩, S.as_ (i := 0) rfl rfl (fun h => h.congr (cellsN_congr fun i hi => ?_)) (fun g h => h)⟩
    by_cases e : i = k
    · subst e; rw [updF_at, if_pos (by omega)]
    · rw [updF_ne e]
      by_cases h : i < k
      · rw [if_pos h, if_pos (by omega)]
      · rw [if_neg h, if_neg (by omega)]
  · try simp only [decide_eq_true_eq, decide_eq_false_iff_not, beq_iff_eq, bne_iff_ne, beq_eq_false_iff_ne, bne_eq_false_iff_eq, Bool.not_eq_true', Bool.not_eq_false', ne_eq, Decidable.not_not, Int.natCast_inj, Int.ofNat_lt, Int.ofNat_le, gt_iff_lt, ge_iff_le, Int.not_lt, Int.not_le] at hc
    repeat refine cw_seq ?_
    refine cw_exit ?_
    repeat first | refine exit_then ?_ | refine exit_inb ?_
    show CW _ _ _ _ _ _
    repeat refine cw_seq ?_
    refine cw_region ?_
    iterate 2 refine rw_v (op_pure rfl) ?_
    first | refine rw_end ?_ | (refine rw_nil ?_; show CW _ _ _ _ _ _) | refine rw_nil ?_
    repeat refine cw_seq ?_
    refine cw_ret ?_
    repeat first | refine ret_then ?_ | refine ret_inb ?_
    obtain rfl : k = n := by omega
    exact res1 rfl ((S.as_ (i := 0) (h' := .row 3 1 A_F k k (cellsN k fun i => i)) rfl rfl (fun h => h.congr (cellsN_congr fun i hi => if_pos hi)) (fun g h => h)).retNew (i := 0) (mk := id) rfl)
end
end Go.Proofs.Ytbcgbcipigcbhaa
