/- Package paint: a new grid of values. -/
import Derived.Test.YtbcgbcipigcbhaaLand
namespace Go.Proofs.Ytbcgbcipigcbhaa
open Go.RowKit
set_option linter.unusedVariables false
set_option linter.unusedSimpArgs false
set_option maxRecDepth 100000

theorem pmay_E (v : Int) (W : World) : Fn Try.prog 159 [.int .i64 v] W (RetG (.bool (mayB v)) W) := by
  by_cases h : -2147483648 ≤ v
  · skip
    have S := St.start W
    refine Fn_enter Try.func159 rfl Try.results159 Try.ntmps159 (by kernel_rfl) (by kernel_rfl) ?_
    repeat refine cw_seq ?_
    refine cw_region ?_
    refine rw_v (op_pure rfl) ?_
    first | refine rw_end ?_ | (refine rw_nil ?_; show CW _ _ _ _ _ _) | refine rw_nil ?_
    repeat refine cw_seq ?_
    refine cw_region ?_
    refine rw_v (op_pure rfl) ?_
    first | refine rw_v (op_b (b := true) rfl (decide_eq_true (by omega))) ?_ | refine rw_v (op_b (b := false) rfl (decide_eq_false (by omega))) ?_ | refine rw_v (op_pure rfl) ?_
    refine rw_v (op_pure rfl) ?_
    first | refine rw_off rfl ?_ | (refine rw_on rfl ?_; refine rw_v (op_pure rfl) ?_)
    first | refine rw_off rfl ?_ | (refine rw_on rfl ?_; refine rw_v (op_pure rfl) ?_)
    iterate 2 refine rw_v (op_pure rfl) ?_
    first | refine rw_end ?_ | (refine rw_nil ?_; show CW _ _ _ _ _ _) | refine rw_nil ?_
    repeat refine cw_seq ?_
    refine cw_ret ?_
    repeat first | refine ret_then ?_ | refine ret_inb ?_
    exact res1 rfl ⟨be (by simp [mayB, h]), S.out⟩
  · skip
    have S := St.start W
    refine Fn_enter Try.func159 rfl Try.results159 Try.ntmps159 (by kernel_rfl) (by kernel_rfl) ?_
    repeat refine cw_seq ?_
    refine cw_region ?_
    refine rw_v (op_pure rfl) ?_
    first | refine rw_end ?_ | (refine rw_nil ?_; show CW _ _ _ _ _ _) | refine rw_nil ?_
    repeat refine cw_seq ?_
    refine cw_region ?_
    refine rw_v (op_pure rfl) ?_
    first | refine rw_v (op_b (b := true) rfl (decide_eq_true (by omega))) ?_ | refine rw_v (op_b (b := false) rfl (decide_eq_false (by omega))) ?_ | refine rw_v (op_pure rfl) ?_
    refine rw_v (op_pure rfl) ?_
    first | refine rw_off rfl ?_ | (refine rw_on rfl ?_; refine rw_v (op_pure rfl) ?_)
    first | refine rw_off rfl ?_ | (refine rw_on rfl ?_; refine rw_v (op_pure rfl) ?_)
    iterate 2 refine rw_v (op_pure rfl) ?_
    first | refine rw_end ?_ | (refine rw_nil ?_; show CW _ _ _ _ _ _) | refine rw_nil ?_
    repeat refine cw_seq ?_
    refine cw_ret ?_
    repeat first | refine ret_then ?_ | refine ret_inb ?_
    exact res1 rfl ⟨be (by simp [mayB, h]), S.out⟩
theorem paste1_E (v : Int) (W : World) : Fn Try.prog 158 ([] ++ [.int .i64 v] ++ []) W (RetG (.bool (!mayB v)) W) := by
  have S := St.start W
  refine Fn_enter Try.func158 rfl Try.results158 Try.ntmps158 (by kernel_rfl) (by kernel_rfl) ?_
  repeat refine cw_seq ?_
  refine cw_region ?_
  refine rw_v (op_pure rfl) ?_
  first | refine rw_end ?_ | (refine rw_nil ?_; show CW _ _ _ _ _ _) | refine rw_nil ?_
  repeat refine cw_seq ?_
  refine cw_region ?_
  refine rw_v (op_pure rfl) ?_
  refine rw_call rfl (pmay_E v W) ?_
  rintro _ w1_ ⟨rfl, g1_⟩
  have S := S.gr g1_
  iterate 2 refine rw_v (op_pure rfl) ?_
  first | refine rw_end ?_ | (refine rw_nil ?_; show CW _ _ _ _ _ _) | refine rw_nil ?_
  repeat refine cw_seq ?_
  refine cw_ret ?_
  repeat first | refine ret_then ?_ | refine ret_inb ?_
  exact res1 rfl ⟨rfl, S.out⟩
theorem indexFunc64_E (A : Option Addr) (n c fid : Nat) (caps : List Value) (xs : List Int) (hn : n = xs.length) (hn1 : n ≤ 9223372036854775807) (p : Int → Bool) (W : World) (hA : Rd W A (ints xs))
    (hf : ∀ x ∈ xs, ∀ w', Gr W w' → Fn Try.prog fid ([] ++ [.int .i64 x] ++ caps) w' (RetG (.bool (p x)) w')) :
    Fn Try.prog 190 [.slice A n c, .func (.func fid) (([] : List Value).toArray) caps.toArray] W (fun v w' => ∃ r : Int, v = .int .i64 r ∧ Gr W w' ∧ (0 ≤ r ↔ xs.any p = true)) := by
  subst hn
  have S := St.start W
  refine Fn_enter Try.func190 rfl Try.results190 Try.ntmps190 (by kernel_rfl) (by kernel_rfl) ?_
  repeat refine cw_seq ?_
  refine cw_region ?_
  refine rw_v (op_pure rfl) ?_
  first | refine rw_end ?_ | (refine rw_nil ?_; show CW _ _ _ _ _ _) | refine rw_nil ?_
  repeat refine cw_seq ?_
  refine cw_region ?_
  refine rw_v (op_pure rfl) ?_
  refine rw_v (op_len Try.underlying22 rfl) ?_
  refine rw_v (op_pure rfl) ?_
  first | refine rw_end ?_ | (refine rw_nil ?_; show CW _ _ _ _ _ _) | refine rw_nil ?_
  repeat refine cw_seq ?_
  refine cw_block ?_
  repeat refine cw_seq ?_
  refine cw_loop (fun m e w => ∃ k : Nat, k + m = xs.length ∧ SL e [(0, .slice A xs.length c), (1, .func (.func fid) (([] : List Value).toArray) caps.toArray), (7, .int .i64 xs.length), (8, .int .i64 k)] ∧ (∀ i x, i < k → xs[i]? = some x → p x = false) ∧ St No W w []) xs.length
    ⟨0, by omega, ⟨rfl, rfl, rfl, rfl, trivial⟩, fun i x hi => by omega, S⟩ ?_
  rintro m e w ⟨k, hkm, hsl, hI, S⟩
  rw [hsl.fold]
  repeat refine cw_seq ?_
  refine cw_region ?_
  refine rw_v (op_pure rfl) ?_
  first | refine rw_end ?_ | (refine rw_nil ?_; show CW _ _ _ _ _ _) | refine rw_nil ?_
  repeat refine cw_seq ?_
  refine cw_cond rfl (fun hc => ?_) (fun hc => ?_)
  · try simp only [decide_eq_true_eq, decide_eq_false_iff_not, beq_iff_eq, bne_iff_ne, beq_eq_false_iff_ne, bne_eq_false_iff_eq, Bool.not_eq_true', Bool.not_eq_false', ne_eq, Decidable.not_not, Int.natCast_inj, Int.ofNat_lt, Int.ofNat_le, gt_iff_lt, ge_iff_le, Int.not_lt, Int.not_le] at hc
    obtain ⟨x, hx⟩ : ∃ x, xs[k]? = some x := ⟨xs[k], List.getElem?_eq_getElem (by omega)⟩
    have sa_A : SomeA A := hA.someA (by rw [ints_len]; omega)
    have hx' : (ints xs)[(k : Int).toNat * 1]? = some (.int .i64 x) := by rw [Nat.mul_one, Int.toNat_natCast]; exact ints_get hx
    repeat refine cw_seq ?_
    refine cw_skip ?_
    try show CW _ _ _ _ _ _
    repeat refine cw_seq ?_
    refine cw_block ?_
    repeat refine cw_seq ?_
    refine cw_region ?_
    iterate 2 refine rw_v (op_pure rfl) ?_
    first | refine rw_end ?_ | (refine rw_nil ?_; show CW _ _ _ _ _ _) | refine rw_nil ?_
    repeat refine cw_seq ?_
    refine cw_region ?_
    iterate 3 refine rw_v (op_pure rfl) ?_
    refine rw_v (op_idx Try.underlying22 Try.sizeOf2 rfl rfl sa_A (by omega) (by omega)) ?_
    refine rw_r (op_ldR Try.underlying2 rfl rfl (hA.gr S.out) hx') ?_
    refine rw_callv rfl rfl (hf x (List.mem_of_getElem? hx) _ S.out) ?_
    rintro _ w1_ ⟨rfl, g1_⟩
    have S := S.gr g1_
    first | refine rw_end ?_ | (refine rw_nil ?_; show CW _ _ _ _ _ _) | refine rw_nil ?_
    repeat refine cw_seq ?_
    refine cw_cond rfl (fun hp => ?_) (fun hp => ?_)
    · try simp only [decide_eq_true_eq, decide_eq_false_iff_not, beq_iff_eq, bne_iff_ne, beq_eq_false_iff_ne, bne_eq_false_iff_eq, Bool.not_eq_true', Bool.not_eq_false', ne_eq, Decidable.not_not, Int.natCast_inj, Int.ofNat_lt, Int.ofNat_le, gt_iff_lt, ge_iff_le, Int.not_lt, Int.not_le] at hp
      repeat refine cw_seq ?_
      refine cw_region ?_
      iterate 2 refine rw_v (op_pure rfl) ?_
      first | refine rw_end ?_ | (refine rw_nil ?_; show CW _ _ _ _ _ _) | refine rw_nil ?_
      repeat refine cw_seq ?_
      refine cw_ret ?_
      repeat first | refine ret_then ?_ | refine ret_inb ?_
      exact res1 rfl ⟨_, rfl, S.out, by simp; exact ⟨x, List.mem_of_getElem? hx, hp⟩⟩
    · try simp only [decide_eq_true_eq, decide_eq_false_iff_not, beq_iff_eq, bne_iff_ne, beq_eq_false_iff_ne, bne_eq_false_iff_eq, Bool.not_eq_true', Bool.not_eq_false', ne_eq, Decidable.not_not, Int.natCast_inj, Int.ofNat_lt, Int.ofNat_le, gt_iff_lt, ge_iff_le, Int.not_lt, Int.not_le] at hp
      repeat refine cw_seq ?_
      refine cw_skip ?_
      try show CW _ _ _ _ _ _
      repeat refine cw_seq ?_
      refine cw_region ?_
      refine rw_v (op_rng rfl (by omega)) ?_
      refine rw_v (op_pure rfl) ?_
      first | refine rw_end ?_ | (refine rw_nil ?_; show CW _ _ _ _ _ _) | refine rw_nil ?_
      exact ⟨m - 1, by omega, k + 1, by omega, ⟨rfl, rfl, rfl, ie (by omega), trivial⟩, fun i y hi hy => by
        by_cases hik : i = k
        · subst hik; rw [hx] at hy; cases hy; exact hp
        · exact hI i y (by omega) hy, S⟩
  · try simp only [decide_eq_true_eq, decide_eq_false_iff_not, beq_iff_eq, bne_iff_ne, beq_eq_false_iff_ne, bne_eq_false_iff_eq, Bool.not_eq_true', Bool.not_eq_false', ne_eq, Decidable.not_not, Int.natCast_inj, Int.ofNat_lt, Int.ofNat_le, gt_iff_lt, ge_iff_le, Int.not_lt, Int.not_le] at hc
    repeat refine cw_seq ?_
    refine cw_exit ?_
    repeat first | refine exit_then ?_ | refine exit_inb ?_
    show CW _ _ _ _ _ _
    repeat refine cw_seq ?_
    refine cw_region ?_
    refine rw_v (op_pure rfl) ?_
    first | refine rw_end ?_ | (refine rw_nil ?_; show CW _ _ _ _ _ _) | refine rw_nil ?_
    repeat refine cw_seq ?_
    refine cw_ret ?_
    repeat first | refine ret_then ?_ | refine ret_inb ?_
    refine res1 rfl ⟨_, rfl, S.out, ?_⟩
    simp only [List.any_eq_true]
    refine ⟨fun h => by omega, fun ⟨x, hx, hp⟩ => ?_⟩
    obtain ⟨i, hi, rfl⟩ := List.mem_iff_getElem.1 hx
    rw [hI i _ (by omega) (List.getElem?_eq_getElem hi)] at hp
    cases hp
theorem containsFunc64_E (A : Option Addr) (n c fid : Nat) (caps : List Value) (xs : List Int) (hn : n = xs.length) (hn1 : n ≤ 9223372036854775807) (p : Int → Bool) (W : World) (hA : Rd W A (ints xs))
    (hf : ∀ x ∈ xs, ∀ w', Gr W w' → Fn Try.prog fid ([] ++ [.int .i64 x] ++ caps) w' (RetG (.bool (p x)) w')) :
    Fn Try.prog 157 [.slice A n c, .func (.func fid) (([] : List Value).toArray) caps.toArray] W (RetG (.bool (xs.any p)) W) := by
  have S := St.start W
  refine Fn_enter Try.func157 rfl Try.results157 Try.ntmps157 (by kernel_rfl) (by kernel_rfl) ?_
  repeat refine cw_seq ?_
  refine cw_region ?_
  refine rw_v (op_pure rfl) ?_
  first | refine rw_end ?_ | (refine rw_nil ?_; show CW _ _ _ _ _ _) | refine rw_nil ?_
  repeat refine cw_seq ?_
  refine cw_region ?_
  iterate 2 refine rw_v (op_pure rfl) ?_
  refine rw_call rfl (indexFunc64_E A n c fid caps xs hn hn1 p _ (hA.gr S.out) (by intro x hx w' g; exact hf x hx w' (S.out.trans g))) ?_
  rintro _ w1_ ⟨r, rfl, g1_, hr⟩
  have S := S.gr g1_
  iterate 2 refine rw_v (op_pure rfl) ?_
  first | refine rw_end ?_ | (refine rw_nil ?_; show CW _ _ _ _ _ _) | refine rw_nil ?_
  repeat refine cw_seq ?_
  refine cw_ret ?_
  repeat first | refine ret_then ?_ | refine ret_inb ?_
  exact res1 rfl ⟨be (by rw [Bool.eq_iff_iff, ← hr]; simp), S.out⟩
theorem nth_E (x0 y0 x1 y1 i : Int) (h : 0 ≤ x0 ∧ x0 ≤ x1 ∧ x1 < 1024 ∧ 0 ≤ y0 ∧ y0 ≤ y1 ∧ y1 < 1024) (hi : 0 ≤ i) (hi' : i < (x1 - x0 + 1) * (y1 - y0 + 1)) (W : World) :
    Fn Try.prog 191 [.agg #[.int .i64 x0, .int .i64 y0, .int .i64 x1, .int .i64 y1], .int .i64 i] W (RetG (.tuple #[.agg #[.int .i64 (x0 + i % (x1 - x0 + 1)), .int .i64 (y0 + i / (x1 - x0 + 1))], .bool true]) W) :=
  Fn_of_calls (by kernel_rfl) (nth_any x0 y0 x1 y1 i h hi hi' W)

section
variable {W : World} {p gw gh cap : Nat} {c : Nat → Int} {A B : Option Addr} {bs : Nat → Nat} {Rs : Nat → Option Nat} {V : List Int}
def layC (V : List Int) (k : Nat) (c : Nat → Int) : Nat → Int := fun i => if i < k then V.getD i 0 else c i
theorem lay_step {gw k n : Nat} {c : Nat → Int} (hgw : 0 < gw) (hn : 1 ≤ n) (hle : k % gw + n ≤ gw) (hI : ∀ j, j < n → V.getD (k + j) 0 = V.getD k 0) (i : Nat) :
    fillC gw (k % gw : Nat) (k / gw : Nat) (k % gw + n - 1 : Nat) (k / gw : Nat) (V.getD k 0) (layC V k c) i = layC V (k + n) c i := by
  have hdk := Nat.div_add_mod k gw
  have hdi := Nat.div_add_mod i gw
  have hmi := Nat.mod_lt i hgw
  have key : inR gw (k % gw : Nat) (k / gw : Nat) (k % gw + n - 1 : Nat) (k / gw : Nat) i ↔ k ≤ i ∧ i < k + n := by
    unfold inR
    constructor
    · rintro ⟨h1, h2, h3, h4⟩
      have e : i / gw = k / gw := by omega
      rw [e] at hdi
      omega
    · rintro ⟨h1, h2⟩
      have e : i / gw = k / gw := by
        refine Nat.div_eq_of_lt_le ?_ ?_
        · rw [Nat.mul_comm]; omega
        · rw [Nat.succ_mul, Nat.mul_comm]; omega
      rw [e] at hdi ⊢
      omega
  unfold fillC layC
  by_cases h : k ≤ i ∧ i < k + n
  · rw [if_pos (key.2 h), if_pos h.2]
    have := hI (i - k) (by omega)
    rw [show k + (i - k) = i by omega] at this
    exact this.symm
  · rw [if_neg (fun e => h (key.1 e))]
    by_cases h2 : i < k
    · rw [if_pos h2, if_pos (by omega)]
    · rw [if_neg h2, if_neg (by omega)]
set_option maxHeartbeats 1000000 in
theorem lay_E (cp : Nat) (hV : V.length = gw * gh) (hmay : ∀ v ∈ V, mayB v = true) (hG : GridAt W p gw gh c A cap bs Rs) (hB : Rd W B (ints V)) (hap : ∀ g, ownA B g → ¬ gridB (acr gw * acr gh) p A bs Rs g) (hlt : ∀ g, ownA B g → g < W.heap.size) :
    Fn Try.prog 160 [.pointer (some ⟨p, 0, none⟩), .agg #[.int .i64 0, .int .i64 0, .int .i64 (gw - 1), .int .i64 (gh - 1)], .slice B V.length cp] W
      (fun r w' => r = .tuple #[] ∧ GridP W p gw gh A cap bs Rs (fun i => V.getD i 0) w') := by
  have hw := hG.sw
  have hh := hG.sh
  have hm : 1 ≤ gw * gh ∧ gw * gh ≤ 1024 * 1024 := ⟨Nat.mul_le_mul hw.1 hh.1, Nat.mul_le_mul hw.2 hh.2⟩
  have hmi : (gw : Int) * gh = ((gw * gh : Nat) : Int) := by push_cast; rfl
  have sa_B : SomeA B := hB.someA (by rw [ints_len]; omega)
  have hBk : ∀ {w : World}, Fr (gridB (acr gw * acr gh) p A bs Rs) W w → Rd w B (ints V) := fun {w} hF => hB.fr hF (fun a ha => hap _ (by rw [ha]; rfl))
  have S := St.start1 W (.grid p gw gh c A cap bs Rs) hG
  refine Fn_enter Try.func160 rfl Try.results160 Try.ntmps160 (by kernel_rfl) (by kernel_rfl) ?_
  repeat refine cw_seq ?_
  refine cw_region ?_
  refine rw_newB (op_box rfl) S ?_
  intro b_rc w2_ g2_ S
  first | refine rw_end ?_ | (refine rw_nil ?_; show CW _ _ _ _ _ _) | refine rw_nil ?_
  repeat refine cw_seq ?_
  refine cw_region ?_
  refine rw_v (op_pure rfl) ?_
  first | refine rw_end ?_ | (refine rw_nil ?_; show CW _ _ _ _ _ _) | refine rw_nil ?_
  repeat refine cw_seq ?_
  refine cw_block ?_
  repeat refine cw_seq ?_
  refine cw_loop (fun m e w => ∃ (k : Nat) (Rs' : Nat → Option Nat), k + m = gw * gh ∧ SL e [(0, .pointer (some ⟨p, 0, none⟩)), (2, .slice B V.length cp), (4, .pointer (some ⟨b_rc, 0, none⟩)), (6, .int .i64 k)] ∧
    St (gridB (acr gw * acr gh) p A bs Rs) W w [.blk b_rc 75 [.int .i64 0, .int .i64 0, .int .i64 (gw - 1), .int .i64 (gh - 1)], .grid p gw gh (layC V k c) A cap bs Rs']) (gw * gh)
    ⟨0, Rs, by omega, ⟨rfl, rfl, rfl, rfl, trivial⟩, S.as_ (i := 1) rfl rfl (fun h => h.congr (fun i _ => (if_neg (Nat.not_lt_zero i)).symm)) (fun g h => h)⟩ ?_
  rintro m e w ⟨k, Rs1, hk, hsl, S⟩
  rw [hsl.fold]
  repeat refine cw_seq ?_
  refine cw_region ?_
  iterate 2 refine rw_v (op_pure rfl) ?_
  refine rw_v (op_len Try.underlying22 rfl) ?_
  refine rw_v (op_pure rfl) ?_
  first | refine rw_end ?_ | (refine rw_nil ?_; show CW _ _ _ _ _ _) | refine rw_nil ?_
  repeat refine cw_seq ?_
  refine cw_cond rfl (fun hc => ?_) (fun hc => ?_)
  · try simp only [decide_eq_true_eq, decide_eq_false_iff_not, beq_iff_eq, bne_iff_ne, beq_eq_false_iff_ne, bne_eq_false_iff_eq, Bool.not_eq_true', Bool.not_eq_false', ne_eq, Decidable.not_not, Int.natCast_inj, Int.ofNat_lt, Int.ofNat_le, gt_iff_lt, ge_iff_le, Int.not_lt, Int.not_le] at hc
    have hkN : k < gw * gh := by omega
    have hx : k % gw < gw := Nat.mod_lt _ (by omega)
    have hy : k / gw < gh := Nat.div_lt_of_lt_mul hkN
    have hdm : k / gw * gw + k % gw = k := by rw [Nat.mul_comm]; exact Nat.div_add_mod _ _
    have hrow : k / gw * gw + gw ≤ gw * gh := by
      have : (k / gw + 1) * gw ≤ gh * gw := Nat.mul_le_mul_right _ hy
      rw [Nat.succ_mul, Nat.mul_comm gh] at this
      exact this
    have e1 : (0 : Int) + (k : Int) % ((gw : Int) - 1 - 0 + 1) = ((k % gw : Nat) : Int) := by
      rw [show (gw : Int) - 1 - 0 + 1 = gw by omega, Int.zero_add]; push_cast; rfl
    have e2 : (0 : Int) + (k : Int) / ((gw : Int) - 1 - 0 + 1) = ((k / gw : Nat) : Int) := by
      rw [show (gw : Int) - 1 - 0 + 1 = gw by omega, Int.zero_add]; push_cast; rfl
    have hlt2 : (k : Int) < ((gw : Int) - 1 - 0 + 1) * (gh - 1 - 0 + 1) := by
      rw [show (gw : Int) - 1 - 0 + 1 = gw by omega, show (gh : Int) - 1 - 0 + 1 = gh by omega, hmi]; omega
    repeat refine cw_seq ?_
    refine cw_skip ?_
    try show CW _ _ _ _ _ _
    repeat refine cw_seq ?_
    refine cw_block ?_
    repeat refine cw_seq ?_
    refine cw_region ?_
    refine rw_r (op_loadAB Try.underlying75 rfl (Try.sizeOf75 _) rfl (S.blk (i := 0) rfl) rfl rfl) ?_
    refine rw_v (op_pure rfl) ?_
    refine rw_call rfl (nth_E 0 0 ((gw : Int) - 1) ((gh : Int) - 1) k (by omega) (by omega) hlt2 w) ?_
    rintro _ w3_ ⟨rfl, g3_⟩
    have S := S.gr g3_
    rw [e1, e2]
    iterate 3 refine rw_v (op_pure rfl) ?_
    refine rw_newB (op_alloc Try.zeroValue44 rfl) S ?_
    intro b_fr w5_ g5_ S
    refine rw_storeSA (i := 0) S rfl (Try.sizeOf44 _) rfl rfl rfl rfl rfl rfl ?_
    intro w6_ S
    refine rw_v (op_pure rfl) ?_
    first | refine rw_end ?_ | (refine rw_nil ?_; show CW _ _ _ _ _ _) | refine rw_nil ?_
    repeat refine cw_seq ?_
    refine cw_region ?_
    refine rw_v (op_pure rfl) ?_
    first | refine rw_end ?_ | (refine rw_nil ?_; show CW _ _ _ _ _ _) | refine rw_nil ?_
    repeat refine cw_seq ?_
    refine cw_block ?_
    repeat refine cw_seq ?_
    refine cw_loop (fun m e w => ∃ n : Nat, 1 ≤ n ∧ n + m = gw - k % gw ∧ SL e [(0, .pointer (some ⟨p, 0, none⟩)), (2, .slice B V.length cp), (4, .pointer (some ⟨b_rc, 0, none⟩)), (6, .int .i64 k), (7, .pointer (some ⟨b_fr, 0, none⟩)), (9, .int .i64 n)] ∧ (∀ j, j < n → V.getD (k + j) 0 = V.getD k 0) ∧
      St (gridB (acr gw * acr gh) p A bs Rs) W w [.blk b_fr 44 [.int .i64 (k % gw : Nat), .int .i64 (k / gw : Nat)], .blk b_rc 75 [.int .i64 0, .int .i64 0, .int .i64 (gw - 1), .int .i64 (gh - 1)], .grid p gw gh (layC V k c) A cap bs Rs1]) (gw - k % gw - 1)
      ⟨1, by omega, by omega, ⟨rfl, rfl, rfl, rfl, rfl, rfl, trivial⟩, fun j hj => by rw [show j = 0 by omega, Nat.add_zero], S⟩ ?_
    rintro m' e w ⟨n, hn1, hn2, hsl, hI, S⟩
    rw [hsl.fold]
    have hBw := hBk S.fr
    have hget : ∀ i, i < V.length → (ints V)[i]? = some (.int .i64 (V.getD i 0)) := fun i hi => by
      refine ints_get ?_
      rw [List.getD_eq_getElem?_getD, List.getElem?_eq_getElem hi]
      rfl
    have hxk := hget k (by omega)
    have hxk' : (ints V)[(k : Int).toNat * 1]? = some (.int .i64 (V.getD k 0)) := by rw [Nat.mul_one, Int.toNat_natCast]; exact hxk
    have fin : ∀ w, St (gridB (acr gw * acr gh) p A bs Rs) W w [.blk b_fr 44 [.int .i64 (k % gw : Nat), .int .i64 (k / gw : Nat)], .blk b_rc 75 [.int .i64 0, .int .i64 0, .int .i64 (gw - 1), .int .i64 (gh - 1)], .grid p gw gh (layC V k c) A cap bs Rs1] → True := fun _ _ => trivial
    have hmk : mayB (V.getD k 0) = true := by
      rw [List.getD_eq_getElem?_getD, List.getElem?_eq_getElem (by omega)]
      exact hmay _ (List.getElem_mem _)
    have hmk := (mayB_iff _).1 hmk
    by_cases hext : k % gw + n ≤ gw - 1 ∧ V.getD (k + n) 0 = V.getD k 0
    · have hxn := hget (k + n) (by omega)
      have hxn' : (ints V)[((k : Int) + n).toNat * 1]? = some (.int .i64 (V.getD (k + n) 0)) := by rw [Nat.mul_one, show ((k : Int) + n).toNat = k + n by omega]; exact hxn
      obtain ⟨hx1, hx2⟩ := hext
      repeat refine cw_seq ?_
      refine cw_draw (C := fun wq => Gr w wq) [0, 1, 2, 3, 4, 5, 6, 7, 8, 9, 10, 11, 12, 13, 14, 15, 16, 17, 18, 19] [] (by kernel_rfl) (by kernel_rfl) (Gr.drew _) ?_
      simp only [pickL, List.drop_succ_cons, List.drop_zero]
      refine rq_v (op_fieldAddr Try.underlying44 rfl Try.sizeOf2 rfl rfl) ?_
      refine rq_r (fun wq hq => op_loadB Try.underlying2 rfl rfl ((S.gr hq).blk (i := 0) rfl) rfl) ?_
      refine rq_v (op_pure rfl) ?_
      refine rq_v (op_rng rfl (by omega)) ?_
      refine rq_v (op_fieldAddr Try.underlying75 rfl Try.sizeOf2 rfl rfl) ?_
      refine rq_r (fun wq hq => op_loadB Try.underlying2 rfl rfl ((S.gr hq).blk (i := 1) rfl) rfl) ?_
      first | refine rq_v (op_b (b := true) rfl (decide_eq_true (by omega))) ?_ | refine rq_v (op_b (b := false) rfl (decide_eq_false (by omega))) ?_ | refine rq_v (op_pure rfl) ?_
      refine rq_v (op_pure rfl) ?_
      first | refine rq_off rfl ?_ | (refine rq_on rfl ?_; refine rq_v (op_pure rfl) ?_)
      first | refine rq_off rfl ?_ | (refine rq_on rfl ?_; refine rq_v (op_pure rfl) ?_)
      first | refine rq_off rfl ?_ | (refine rq_on rfl ?_; refine rq_v (op_pure rfl) ?_)
      first | refine rq_off rfl ?_ | (refine rq_on rfl ?_; refine rq_v (op_rng rfl (by omega)) ?_)
      first | refine rq_off rfl ?_ | (refine rq_on rfl ?_; refine rq_v (op_idx Try.underlying22 Try.sizeOf2 rfl rfl sa_B (by omega) (by omega)) ?_)
      first | refine rq_off rfl ?_ | (refine rq_on rfl ?_; refine rq_r (fun wq hq => op_ldR Try.underlying2 rfl rfl (hBk (S.gr hq).fr) hxn') ?_)
      first | refine rq_off rfl ?_ | (refine rq_on rfl ?_; refine rq_v (op_pure rfl) ?_)
      first | refine rq_off rfl ?_ | (refine rq_on rfl ?_; refine rq_v (op_pure rfl) ?_)
      first | refine rq_off rfl ?_ | (refine rq_on rfl ?_; refine rq_v (op_idx Try.underlying22 Try.sizeOf2 rfl rfl sa_B (by omega) (by omega)) ?_)
      first | refine rq_off rfl ?_ | (refine rq_on rfl ?_; refine rq_r (fun wq hq => op_ldR Try.underlying2 rfl rfl (hBk (S.gr hq).fr) hxk') ?_)
      first | refine rq_off rfl ?_ | (refine rq_on rfl ?_; (first | refine rq_v (op_b (b := true) rfl (beq_iff_eq.2 (by omega))) ?_ | refine rq_v (op_b (b := false) rfl (beq_eq_false_iff_ne.2 (by omega))) ?_ | refine rq_v (op_pure rfl) ?_))
      refine rq_v (op_pure rfl) ?_
      refine rq_nil ?_
      intro w7_ g7_
      have S := S.gr g7_
      first | refine rw_end ?_ | (refine rw_nil ?_; show CW _ _ _ _ _ _) | refine rw_nil ?_
      repeat refine cw_seq ?_
      refine cw_true rfl ?_
      repeat refine cw_seq ?_
      refine cw_skip ?_
      try show CW _ _ _ _ _ _
      repeat refine cw_seq ?_
      refine cw_block ?_
      repeat refine cw_seq ?_
      refine cw_region ?_
      refine rw_v (op_pure rfl) ?_
      refine rw_v (op_rng rfl (by omega)) ?_
      refine rw_v (op_pure rfl) ?_
      first | refine rw_end ?_ | (refine rw_nil ?_; show CW _ _ _ _ _ _) | refine rw_nil ?_
      refine ⟨m' - 1, by omega, n + 1, by omega, by omega, ⟨rfl, rfl, rfl, rfl, rfl, ie (by omega), trivial⟩, fun j hj => ?_, S⟩
      by_cases e : j = n
      · subst e; exact hx2
      · exact hI j (by omega)
    · have hcase : ¬ (k % gw + n ≤ gw - 1) ∨ (k % gw + n ≤ gw - 1 ∧ V.getD (k + n) 0 ≠ V.getD k 0) := by
        by_cases h : k % gw + n ≤ gw - 1
        · exact .inr ⟨h, fun e => hext ⟨h, e⟩⟩
        · exact .inl h
      have e3 : ((k % gw : Nat) : Int) + n - 1 = ((k % gw + n - 1 : Nat) : Int) := by omega
      have hgw0 : 0 < gw := by omega
      rcases hcase with hcase | ⟨hc1, hc2⟩
      · skip
        repeat refine cw_seq ?_
        refine cw_draw (C := fun wq => Gr w wq) [0, 1, 2, 3, 4, 5, 6, 7, 8, 9, 10, 11, 12, 13, 14, 15, 16, 17, 18, 19] [] (by kernel_rfl) (by kernel_rfl) (Gr.drew _) ?_
        simp only [pickL, List.drop_succ_cons, List.drop_zero]
        refine rq_v (op_fieldAddr Try.underlying44 rfl Try.sizeOf2 rfl rfl) ?_
        refine rq_r (fun wq hq => op_loadB Try.underlying2 rfl rfl ((S.gr hq).blk (i := 0) rfl) rfl) ?_
        refine rq_v (op_pure rfl) ?_
        refine rq_v (op_rng rfl (by omega)) ?_
        refine rq_v (op_fieldAddr Try.underlying75 rfl Try.sizeOf2 rfl rfl) ?_
        refine rq_r (fun wq hq => op_loadB Try.underlying2 rfl rfl ((S.gr hq).blk (i := 1) rfl) rfl) ?_
        first | refine rq_v (op_b (b := true) rfl (decide_eq_true (by omega))) ?_ | refine rq_v (op_b (b := false) rfl (decide_eq_false (by omega))) ?_ | refine rq_v (op_pure rfl) ?_
        refine rq_v (op_pure rfl) ?_
        first | refine rq_off rfl ?_ | (refine rq_on rfl ?_; refine rq_v (op_pure rfl) ?_)
        first | refine rq_off rfl ?_ | (refine rq_on rfl ?_; refine rq_v (op_pure rfl) ?_)
        first | refine rq_off rfl ?_ | (refine rq_on rfl ?_; refine rq_v (op_pure rfl) ?_)
        first | refine rq_off rfl ?_ | (refine rq_on rfl ?_; refine rq_v (op_rng rfl (by omega)) ?_)
        first | refine rq_off rfl ?_ | (refine rq_on rfl ?_; refine rq_v (op_idx Try.underlying22 Try.sizeOf2 rfl rfl sa_B (by omega) (by omega)) ?_)
        first | refine rq_off rfl ?_ | (refine rq_on rfl ?_; refine rq_r (fun wq hq => op_ldR Try.underlying2 rfl rfl (hBk (S.gr hq).fr) (by assumption)) ?_)
        first | refine rq_off rfl ?_ | (refine rq_on rfl ?_; refine rq_v (op_pure rfl) ?_)
        first | refine rq_off rfl ?_ | (refine rq_on rfl ?_; refine rq_v (op_pure rfl) ?_)
        first | refine rq_off rfl ?_ | (refine rq_on rfl ?_; refine rq_v (op_idx Try.underlying22 Try.sizeOf2 rfl rfl sa_B (by omega) (by omega)) ?_)
        first | refine rq_off rfl ?_ | (refine rq_on rfl ?_; refine rq_r (fun wq hq => op_ldR Try.underlying2 rfl rfl (hBk (S.gr hq).fr) (by assumption)) ?_)
        first | refine rq_off rfl ?_ | (refine rq_on rfl ?_; (first | refine rq_v (op_b (b := true) rfl (beq_iff_eq.2 (by omega))) ?_ | refine rq_v (op_b (b := false) rfl (beq_eq_false_iff_ne.2 (by omega))) ?_ | refine rq_v (op_pure rfl) ?_))
        refine rq_v (op_pure rfl) ?_
        refine rq_nil ?_
        intro w8_ g8_
        have S := S.gr g8_
        first | refine rw_end ?_ | (refine rw_nil ?_; show CW _ _ _ _ _ _) | refine rw_nil ?_
        repeat refine cw_seq ?_
        refine cw_false rfl ?_
        repeat refine cw_seq ?_
        refine cw_exit ?_
        repeat first | refine exit_then ?_ | refine exit_inb ?_
        show CW _ _ _ _ _ _
        repeat refine cw_seq ?_
        refine cw_draw (C := fun wq => Gr w8_ wq) [0, 1, 2, 3, 4, 5, 6, 7, 8, 9, 10, 11, 12, 13, 14, 15, 16] [17] (by kernel_rfl) (by kernel_rfl) (Gr.drew _) ?_
        simp only [pickL, List.drop_succ_cons, List.drop_zero]
        refine rq_v (op_pure rfl) ?_
        refine rq_v (op_fieldAddr Try.underlying44 rfl Try.sizeOf2 rfl rfl) ?_
        refine rq_r (fun wq hq => op_loadB Try.underlying2 rfl rfl ((S.gr hq).blk (i := 0) rfl) rfl) ?_
        refine rq_v (op_fieldAddr Try.underlying44 rfl Try.sizeOf2 rfl rfl) ?_
        refine rq_r (fun wq hq => op_loadB Try.underlying2 rfl rfl ((S.gr hq).blk (i := 0) rfl) rfl) ?_
        refine rq_v (op_fieldAddr Try.underlying44 rfl Try.sizeOf2 rfl rfl) ?_
        refine rq_r (fun wq hq => op_loadB Try.underlying2 rfl rfl ((S.gr hq).blk (i := 0) rfl) rfl) ?_
        refine rq_v (op_pure rfl) ?_
        refine rq_v (op_rng rfl (by omega)) ?_
        refine rq_v (op_rng rfl (by omega)) ?_
        rw [e3]
        refine rq_v (op_fieldAddr Try.underlying44 rfl Try.sizeOf2 rfl rfl) ?_
        refine rq_r (fun wq hq => op_loadB Try.underlying2 rfl rfl ((S.gr hq).blk (i := 0) rfl) rfl) ?_
        refine rq_v (op_build (pl := [(0, 1), (1, 1), (2, 1), (3, 1)]) Try.underlying75 Try.zeroValue75 (fun w => by kernel_rfl) rfl rfl) ?_
        iterate 2 refine rq_v (op_pure rfl) ?_
        refine rq_v (op_idx Try.underlying22 Try.sizeOf2 rfl rfl sa_B (by omega) (by omega)) ?_
        refine rq_r (fun wq hq => op_ldR Try.underlying2 rfl rfl (hBk (S.gr hq).fr) hxk') ?_
        refine rq_nil ?_
        intro w9_ g9_
        have S := S.gr g9_
        refine rw_call rfl (gfill_E (k % gw) (k / gw) (k % gw + n - 1) (k / gw) (V.getD k 0) ⟨by omega, by omega⟩ ⟨Nat.le_refl _, hy⟩ hmk (S.grid (i := 2) rfl)) ?_
        rintro _ w10_ ⟨_, Rs2, hG2, hF2, hO2⟩
        have S := S.set (i := 2) (h' := .grid p gw gh _ A cap bs Rs2) rfl rfl hF2 (fun g h => .inl h) hG2 hO2
        first | refine rw_end ?_ | (refine rw_nil ?_; show CW _ _ _ _ _ _) | refine rw_nil ?_
        repeat refine cw_seq ?_
        refine cw_region ?_
        iterate 2 refine rw_v (op_pure rfl) ?_
        refine rw_v (op_rng rfl (by omega)) ?_
        refine rw_v (op_pure rfl) ?_
        first | refine rw_end ?_ | (refine rw_nil ?_; show CW _ _ _ _ _ _) | refine rw_nil ?_
        have S := S.sub (.cons _ (.cons_cons _ (.cons_cons _ .slnil)))
        exact ⟨m - n, by omega, k + n, Rs2, by omega, ⟨rfl, rfl, rfl, ie (by omega), trivial⟩, S.as_ (i := 1) rfl rfl (fun h => h.congr (fun i _ => lay_step hgw0 hn1 (by omega) hI i)) (fun g h => h)⟩
      · have hxn := hget (k + n) (by omega)
        have hxn' : (ints V)[((k : Int) + n).toNat * 1]? = some (.int .i64 (V.getD (k + n) 0)) := by rw [Nat.mul_one, show ((k : Int) + n).toNat = k + n by omega]; exact hxn
        repeat refine cw_seq ?_
        refine cw_draw (C := fun wq => Gr w wq) [0, 1, 2, 3, 4, 5, 6, 7, 8, 9, 10, 11, 12, 13, 14, 15, 16, 17, 18, 19] [] (by kernel_rfl) (by kernel_rfl) (Gr.drew _) ?_
        simp only [pickL, List.drop_succ_cons, List.drop_zero]
        refine rq_v (op_fieldAddr Try.underlying44 rfl Try.sizeOf2 rfl rfl) ?_
        refine rq_r (fun wq hq => op_loadB Try.underlying2 rfl rfl ((S.gr hq).blk (i := 0) rfl) rfl) ?_
        refine rq_v (op_pure rfl) ?_
        refine rq_v (op_rng rfl (by omega)) ?_
        refine rq_v (op_fieldAddr Try.underlying75 rfl Try.sizeOf2 rfl rfl) ?_
        refine rq_r (fun wq hq => op_loadB Try.underlying2 rfl rfl ((S.gr hq).blk (i := 1) rfl) rfl) ?_
        first | refine rq_v (op_b (b := true) rfl (decide_eq_true (by omega))) ?_ | refine rq_v (op_b (b := false) rfl (decide_eq_false (by omega))) ?_ | refine rq_v (op_pure rfl) ?_
        refine rq_v (op_pure rfl) ?_
        first | refine rq_off rfl ?_ | (refine rq_on rfl ?_; refine rq_v (op_pure rfl) ?_)
        first | refine rq_off rfl ?_ | (refine rq_on rfl ?_; refine rq_v (op_pure rfl) ?_)
        first | refine rq_off rfl ?_ | (refine rq_on rfl ?_; refine rq_v (op_pure rfl) ?_)
        first | refine rq_off rfl ?_ | (refine rq_on rfl ?_; refine rq_v (op_rng rfl (by omega)) ?_)
        first | refine rq_off rfl ?_ | (refine rq_on rfl ?_; refine rq_v (op_idx Try.underlying22 Try.sizeOf2 rfl rfl sa_B (by omega) (by omega)) ?_)
        first | refine rq_off rfl ?_ | (refine rq_on rfl ?_; refine rq_r (fun wq hq => op_ldR Try.underlying2 rfl rfl (hBk (S.gr hq).fr) hxn') ?_)
        first | refine rq_off rfl ?_ | (refine rq_on rfl ?_; refine rq_v (op_pure rfl) ?_)
        first | refine rq_off rfl ?_ | (refine rq_on rfl ?_; refine rq_v (op_pure rfl) ?_)
        first | refine rq_off rfl ?_ | (refine rq_on rfl ?_; refine rq_v (op_idx Try.underlying22 Try.sizeOf2 rfl rfl sa_B (by omega) (by omega)) ?_)
        first | refine rq_off rfl ?_ | (refine rq_on rfl ?_; refine rq_r (fun wq hq => op_ldR Try.underlying2 rfl rfl (hBk (S.gr hq).fr) hxk') ?_)
        first | refine rq_off rfl ?_ | (refine rq_on rfl ?_; (first | refine rq_v (op_b (b := true) rfl (beq_iff_eq.2 (by omega))) ?_ | refine rq_v (op_b (b := false) rfl (beq_eq_false_iff_ne.2 (by omega))) ?_ | refine rq_v (op_pure rfl) ?_))
        refine rq_v (op_pure rfl) ?_
        refine rq_nil ?_
        intro w11_ g11_
        have S := S.gr g11_
        first | refine rw_end ?_ | (refine rw_nil ?_; show CW _ _ _ _ _ _) | refine rw_nil ?_
        repeat refine cw_seq ?_
        refine cw_false rfl ?_
        repeat refine cw_seq ?_
        refine cw_exit ?_
        repeat first | refine exit_then ?_ | refine exit_inb ?_
        show CW _ _ _ _ _ _
        repeat refine cw_seq ?_
        refine cw_draw (C := fun wq => Gr w11_ wq) [0, 1, 2, 3, 4, 5, 6, 7, 8, 9, 10, 11, 12, 13, 14, 15, 16] [17] (by kernel_rfl) (by kernel_rfl) (Gr.drew _) ?_
        simp only [pickL, List.drop_succ_cons, List.drop_zero]
        refine rq_v (op_pure rfl) ?_
        refine rq_v (op_fieldAddr Try.underlying44 rfl Try.sizeOf2 rfl rfl) ?_
        refine rq_r (fun wq hq => op_loadB Try.underlying2 rfl rfl ((S.gr hq).blk (i := 0) rfl) rfl) ?_
        refine rq_v (op_fieldAddr Try.underlying44 rfl Try.sizeOf2 rfl rfl) ?_
        refine rq_r (fun wq hq => op_loadB Try.underlying2 rfl rfl ((S.gr hq).blk (i := 0) rfl) rfl) ?_
        refine rq_v (op_fieldAddr Try.underlying44 rfl Try.sizeOf2 rfl rfl) ?_
        refine rq_r (fun wq hq => op_loadB Try.underlying2 rfl rfl ((S.gr hq).blk (i := 0) rfl) rfl) ?_
        refine rq_v (op_pure rfl) ?_
        refine rq_v (op_rng rfl (by omega)) ?_
        refine rq_v (op_rng rfl (by omega)) ?_
        rw [e3]
        refine rq_v (op_fieldAddr Try.underlying44 rfl Try.sizeOf2 rfl rfl) ?_
        refine rq_r (fun wq hq => op_loadB Try.underlying2 rfl rfl ((S.gr hq).blk (i := 0) rfl) rfl) ?_
        refine rq_v (op_build (pl := [(0, 1), (1, 1), (2, 1), (3, 1)]) Try.underlying75 Try.zeroValue75 (fun w => by kernel_rfl) rfl rfl) ?_
        iterate 2 refine rq_v (op_pure rfl) ?_
        refine rq_v (op_idx Try.underlying22 Try.sizeOf2 rfl rfl sa_B (by omega) (by omega)) ?_
        refine rq_r (fun wq hq => op_ldR Try.underlying2 rfl rfl (hBk (S.gr hq).fr) hxk') ?_
        refine rq_nil ?_
        intro w12_ g12_
        have S := S.gr g12_
        refine rw_call rfl (gfill_E (k % gw) (k / gw) (k % gw + n - 1) (k / gw) (V.getD k 0) ⟨by omega, by omega⟩ ⟨Nat.le_refl _, hy⟩ hmk (S.grid (i := 2) rfl)) ?_
        rintro _ w13_ ⟨_, Rs2, hG2, hF2, hO2⟩
        have S := S.set (i := 2) (h' := .grid p gw gh _ A cap bs Rs2) rfl rfl hF2 (fun g h => .inl h) hG2 hO2
        first | refine rw_end ?_ | (refine rw_nil ?_; show CW _ _ _ _ _ _) | refine rw_nil ?_
        repeat refine cw_seq ?_
        refine cw_region ?_
        iterate 2 refine rw_v (op_pure rfl) ?_
        refine rw_v (op_rng rfl (by omega)) ?_
        refine rw_v (op_pure rfl) ?_
        first | refine rw_end ?_ | (refine rw_nil ?_; show CW _ _ _ _ _ _) | refine rw_nil ?_
        have S := S.sub (.cons _ (.cons_cons _ (.cons_cons _ .slnil)))
        exact ⟨m - n, by omega, k + n, Rs2, by omega, ⟨rfl, rfl, rfl, ie (by omega), trivial⟩, S.as_ (i := 1) rfl rfl (fun h => h.congr (fun i _ => lay_step hgw0 hn1 (by omega) hI i)) (fun g h => h)⟩
  · try simp only [decide_eq_true_eq, decide_eq_false_iff_not, beq_iff_eq, bne_iff_ne, beq_eq_false_iff_ne, bne_eq_false_iff_eq, Bool.not_eq_true', Bool.not_eq_false', ne_eq, Decidable.not_not, Int.natCast_inj, Int.ofNat_lt, Int.ofNat_le, gt_iff_lt, ge_iff_le, Int.not_lt, Int.not_le] at hc
    repeat refine cw_seq ?_
    refine cw_exit ?_
    repeat first | refine exit_then ?_ | refine exit_inb ?_
    obtain rfl : k = gw * gh := by omega
    exact res0n ⟨rfl, Rs1, (S.grid (i := 1) rfl).congr (fun i hi => if_pos hi), S.fr, fun g hg => (S.sep.get (i := 1) rfl).2 g hg⟩
end
end Go.Proofs.Ytbcgbcipigcbhaa
