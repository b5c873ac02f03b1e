/- Package paint: a new grid of values. -/
import Derived.Test.YtiidmiebckkloaaPF
namespace Go.Proofs.Ytiidmiebckkloaa
open Go.RowKit
set_option linter.unusedVariables false
set_option linter.unusedSimpArgs false
set_option maxRecDepth 100000

theorem pmay_E (v : Int) (W : World) : Fn Try.prog 70 [.int .i64 v] W (RetG (.bool (mayB v)) W) := by
  by_cases h : -2147483648 ≤ v
  · skip
    have S := St.start W
    refine Fn_enter Try.func70 rfl Try.results70 Try.ntmps70 (by kernel_rfl) (by kernel_rfl) ?_
    repeat refine cw_seq ?_
    refine cw_region ?_
    refine rw_v (op_pure rfl) ?_
    first | refine rw_end ?_ | (refine rw_nil ?_; show CW _ _ _ _ _ _) | refine rw_nil ?_
    repeat refine cw_seq ?_
    refine cw_region ?_
    refine rw_v (op_pure rfl) ?_
    first | refine rw_v (op_b (b := true) rfl (decide_eq_true (by omega))) ?_ | refine rw_v (op_b (b := false) rfl (decide_eq_false (by omega))) ?_ | refine rw_v (op_pure rfl) ?_
    refine rw_v (op_pure rfl) ?_
    first | refine rw_off rfl ?_ | (refine rw_on rfl ?_; refine rw_v (op_pure rfl) ?_)
    first | refine rw_off rfl ?_ | (refine rw_on rfl ?_; refine rw_v (op_pure rfl) ?_)
    iterate 2 refine rw_v (op_pure rfl) ?_
    first | refine rw_end ?_ | (refine rw_nil ?_; show CW _ _ _ _ _ _) | refine rw_nil ?_
    repeat refine cw_seq ?_
    refine cw_ret ?_
    repeat first | refine ret_then ?_ | refine ret_inb ?_
    exact res1 rfl ⟨be (by simp [mayB, h]), S.out⟩
  · skip
    have S := St.start W
    refine Fn_enter Try.func70 rfl Try.results70 Try.ntmps70 (by kernel_rfl) (by kernel_rfl) ?_
    repeat refine cw_seq ?_
    refine cw_region ?_
    refine rw_v (op_pure rfl) ?_
    first | refine rw_end ?_ | (refine rw_nil ?_; show CW _ _ _ _ _ _) | refine rw_nil ?_
    repeat refine cw_seq ?_
    refine cw_region ?_
    refine rw_v (op_pure rfl) ?_
    first | refine rw_v (op_b (b := true) rfl (decide_eq_true (by omega))) ?_ | refine rw_v (op_b (b := false) rfl (decide_eq_false (by omega))) ?_ | refine rw_v (op_pure rfl) ?_
    refine rw_v (op_pure rfl) ?_
    first | refine rw_off rfl ?_ | (refine rw_on rfl ?_; refine rw_v (op_pure rfl) ?_)
    first | refine rw_off rfl ?_ | (refine rw_on rfl ?_; refine rw_v (op_pure rfl) ?_)
    iterate 2 refine rw_v (op_pure rfl) ?_
    first | refine rw_end ?_ | (refine rw_nil ?_; show CW _ _ _ _ _ _) | refine rw_nil ?_
    repeat refine cw_seq ?_
    refine cw_ret ?_
    repeat first | refine ret_then ?_ | refine ret_inb ?_
    exact res1 rfl ⟨be (by simp [mayB, h]), S.out⟩
theorem paste1_E (v : Int) (W : World) : Fn Try.prog 69 ([] ++ [.int .i64 v] ++ []) W (RetG (.bool (!mayB v)) W) := by
  have S := St.start W
  refine Fn_enter Try.func69 rfl Try.results69 Try.ntmps69 (by kernel_rfl) (by kernel_rfl) ?_
  repeat refine cw_seq ?_
  refine cw_region ?_
  refine rw_v (op_pure rfl) ?_
  first | refine rw_end ?_ | (refine rw_nil ?_; show CW _ _ _ _ _ _) | refine rw_nil ?_
  repeat refine cw_seq ?_
  refine cw_region ?_
  refine rw_v (op_pure rfl) ?_
  refine rw_call rfl (pmay_E v W) ?_
  rintro _ w1_ ⟨rfl, g1_⟩
  have S := S.gr g1_
  iterate 2 refine rw_v (op_pure rfl) ?_
  first | refine rw_end ?_ | (refine rw_nil ?_; show CW _ _ _ _ _ _) | refine rw_nil ?_
  repeat refine cw_seq ?_
  refine cw_ret ?_
  repeat first | refine ret_then ?_ | refine ret_inb ?_
  exact res1 rfl ⟨rfl, S.out⟩
theorem indexFunc64_E (A : Option Addr) (n c fid : Nat) (caps : List Value) (xs : List Int) (hn : n = xs.length) (hn1 : n ≤ 9223372036854775807) (p : Int → Bool) (W : World) (hA : Rd W A (ints xs))
    (hf : ∀ x ∈ xs, ∀ w', Gr W w' → Fn Try.prog fid ([] ++ [.int .i64 x] ++ caps) w' (RetG (.bool (p x)) w')) :
    Fn Try.prog 85 [.slice A n c, .func (.func fid) (([] : List Value).toArray) caps.toArray] W (fun v w' => ∃ r : Int, v = .int .i64 r ∧ Gr W w' ∧ (0 ≤ r ↔ xs.any p = true)) := by
  subst hn
  have S := St.start W
  refine Fn_enter Try.func85 rfl Try.results85 Try.ntmps85 (by kernel_rfl) (by kernel_rfl) ?_
  repeat refine cw_seq ?_
  refine cw_region ?_
  refine rw_v (op_pure rfl) ?_
  first | refine rw_end ?_ | (refine rw_nil ?_; show CW _ _ _ _ _ _) | refine rw_nil ?_
  repeat refine cw_seq ?_
  refine cw_region ?_
  refine rw_v (op_pure rfl) ?_
  refine rw_v (op_len Try.underlying30 rfl) ?_
  refine rw_v (op_pure rfl) ?_
  first | refine rw_end ?_ | (refine rw_nil ?_; show CW _ _ _ _ _ _) | refine rw_nil ?_
  repeat refine cw_seq ?_
  refine cw_block ?_
  repeat refine cw_seq ?_
  refine cw_loop (fun m e w => ∃ k : Nat, k + m = xs.length ∧ SL e [(0, .slice A xs.length c), (1, .func (.func fid) (([] : List Value).toArray) caps.toArray), (7, .int .i64 xs.length), (8, .int .i64 k)] ∧ (∀ i x, i < k → xs[i]? = some x → p x = false) ∧ St No W w []) xs.length
    ⟨0, by omega, ⟨rfl, rfl, rfl, rfl, trivial⟩, fun i x hi => by omega, S⟩ ?_
  rintro m e w ⟨k, hkm, hsl, hI, S⟩
  rw [hsl.fold]
  repeat refine cw_seq ?_
  refine cw_region ?_
  refine rw_v (op_pure rfl) ?_
  first | refine rw_end ?_ | (refine rw_nil ?_; show CW _ _ _ _ _ _) | refine rw_nil ?_
  repeat refine cw_seq ?_
  refine cw_cond rfl (fun hc => ?_) (fun hc => ?_)
  · try simp only [decide_eq_true_eq, decide_eq_false_iff_not, beq_iff_eq, bne_iff_ne, beq_eq_false_iff_ne, bne_eq_false_iff_eq, Bool.not_eq_true', Bool.not_eq_false', ne_eq, Decidable.not_not, Int.natCast_inj, Int.ofNat_lt, Int.ofNat_le, gt_iff_lt, ge_iff_le, Int.not_lt, Int.not_le] at hc
    obtain ⟨x, hx⟩ : ∃ x, xs[k]? = some x := ⟨xs[k], List.getElem?_eq_getElem (by omega)⟩
    have sa_A : SomeA A := hA.someA (by rw [ints_len]; omega)
    have hx' : (ints xs)[(k : Int).toNat * 1]? = some (.int .i64 x) := by rw [Nat.mul_one, Int.toNat_natCast]; exact ints_get hx
    repeat refine cw_seq ?_
    refine cw_skip ?_
    try show CW _ _ _ _ _ _
    repeat refine cw_seq ?_
    refine cw_block ?_
    repeat refine cw_seq ?_
    refine cw_region ?_
    iterate 2 refine rw_v (op_pure rfl) ?_
    first | refine rw_end ?_ | (refine rw_nil ?_; show CW _ _ _ _ _ _) | refine rw_nil ?_
    repeat refine cw_seq ?_
    refine cw_region ?_
    iterate 3 refine rw_v (op_pure rfl) ?_
    refine rw_v (op_idx Try.underlying30 Try.sizeOf2 rfl rfl sa_A (by omega) (by omega)) ?_
    refine rw_r (op_ldR Try.underlying2 rfl rfl (hA.gr S.out) hx') ?_
    refine rw_callv rfl rfl (hf x (List.mem_of_getElem? hx) _ S.out) ?_
    rintro _ w1_ ⟨rfl, g1_⟩
    have S := S.gr g1_
    first | refine rw_end ?_ | (refine rw_nil ?_; show CW _ _ _ _ _ _) | refine rw_nil ?_
    repeat refine cw_seq ?_
    refine cw_cond rfl (fun hp => ?_) (fun hp => ?_)
    · try simp only [decide_eq_true_eq, decide_eq_false_iff_not, beq_iff_eq, bne_iff_ne, beq_eq_false_iff_ne, bne_eq_false_iff_eq, Bool.not_eq_true', Bool.not_eq_false', ne_eq, Decidable.not_not, Int.natCast_inj, Int.ofNat_lt, Int.ofNat_le, gt_iff_lt, ge_iff_le, Int.not_lt, Int.not_le] at hp
      repeat refine cw_seq ?_
      refine cw_region ?_
      iterate 2 refine rw_v (op_pure rfl) ?_
      first | refine rw_end ?_ | (refine rw_nil ?_; show CW _ _ _ _ _ _) | refine rw_nil ?_
      repeat refine cw_seq ?_
      refine cw_ret ?_
      repeat first | refine ret_then ?_ | refine ret_inb ?_
      exact res1 rfl ⟨_, rfl, S.out, by simp; exact ⟨x, List.mem_of_getElem? hx, hp⟩⟩
    · try simp only [decide_eq_true_eq, decide_eq_false_iff_not, beq_iff_eq, bne_iff_ne, beq_eq_false_iff_ne, bne_eq_false_iff_eq, Bool.not_eq_true', Bool.not_eq_false', ne_eq, Decidable.not_not, Int.natCast_inj, Int.ofNat_lt, Int.ofNat_le, gt_iff_lt, ge_iff_le, Int.not_lt, Int.not_le] at hp
      repeat refine cw_seq ?_
      refine cw_skip ?_
      try show CW _ _ _ _ _ _
      repeat refine cw_seq ?_
      refine cw_region ?_
      refine rw_v (op_rng rfl (by omega)) ?_
      refine rw_v (op_pure rfl) ?_
      first | refine rw_end ?_ | (refine rw_nil ?_; show CW _ _ _ _ _ _) | refine rw_nil ?_
      exact ⟨m - 1, by omega, k + 1, by omega, ⟨rfl, rfl, rfl, ie (by omega), trivial⟩, fun i y hi hy => by
        by_cases hik : i = k
        · subst hik; rw [hx] at hy; cases hy; exact hp
        · exact hI i y (by omega) hy, S⟩
  · try simp only [decide_eq_true_eq, decide_eq_false_iff_not, beq_iff_eq, bne_iff_ne, beq_eq_false_iff_ne, bne_eq_false_iff_eq, Bool.not_eq_true', Bool.not_eq_false', ne_eq, Decidable.not_not, Int.natCast_inj, Int.ofNat_lt, Int.ofNat_le, gt_iff_lt, ge_iff_le, Int.not_lt, Int.not_le] at hc
    repeat refine cw_seq ?_
    refine cw_exit ?_
    repeat first | refine exit_then ?_ | refine exit_inb ?_
    show CW _ _ _ _ _ _
    repeat refine cw_seq ?_
    refine cw_region ?_
    refine rw_v (op_pure rfl) ?_
    first | refine rw_end ?_ | (refine rw_nil ?_; show CW _ _ _ _ _ _) | refine rw_nil ?_
    repeat refine cw_seq ?_
    refine cw_ret ?_
    repeat first | refine ret_then ?_ | refine ret_inb ?_
    refine res1 rfl ⟨_, rfl, S.out, ?_⟩
    simp only [List.any_eq_true]
    refine ⟨fun h => by omega, fun ⟨x, hx, hp⟩ => ?_⟩
    obtain ⟨i, hi, rfl⟩ := List.mem_iff_getElem.1 hx
    rw [hI i _ (by omega) (List.getElem?_eq_getElem hi)] at hp
    cases hp
theorem containsFunc64_E (A : Option Addr) (n c fid : Nat) (caps : List Value) (xs : List Int) (hn : n = xs.length) (hn1 : n ≤ 9223372036854775807) (p : Int → Bool) (W : World) (hA : Rd W A (ints xs))
    (hf : ∀ x ∈ xs, ∀ w', Gr W w' → Fn Try.prog fid ([] ++ [.int .i64 x] ++ caps) w' (RetG (.bool (p x)) w')) :
    Fn Try.prog 68 [.slice A n c, .func (.func fid) (([] : List Value).toArray) caps.toArray] W (RetG (.bool (xs.any p)) W) := by
  have S := St.start W
  refine Fn_enter Try.func68 rfl Try.results68 Try.ntmps68 (by kernel_rfl) (by kernel_rfl) ?_
  repeat refine cw_seq ?_
  refine cw_region ?_
  refine rw_v (op_pure rfl) ?_
  first | refine rw_end ?_ | (refine rw_nil ?_; show CW _ _ _ _ _ _) | refine rw_nil ?_
  repeat refine cw_seq ?_
  refine cw_region ?_
  iterate 2 refine rw_v (op_pure rfl) ?_
  refine rw_call rfl (indexFunc64_E A n c fid caps xs hn hn1 p _ (hA.gr S.out) (by intro x hx w' g; exact hf x hx w' (S.out.trans g))) ?_
  rintro _ w1_ ⟨r, rfl, g1_, hr⟩
  have S := S.gr g1_
  iterate 2 refine rw_v (op_pure rfl) ?_
  first | refine rw_end ?_ | (refine rw_nil ?_; show CW _ _ _ _ _ _) | refine rw_nil ?_
  repeat refine cw_seq ?_
  refine cw_ret ?_
  repeat first | refine ret_then ?_ | refine ret_inb ?_
  exact res1 rfl ⟨be (by rw [Bool.eq_iff_iff, ← hr]; simp), S.out⟩
theorem nth_E (x0 y0 x1 y1 i : Int) (h : 0 ≤ x0 ∧ x0 ≤ x1 ∧ x1 < 1024 ∧ 0 ≤ y0 ∧ y0 ≤ y1 ∧ y1 < 1024) (hi : 0 ≤ i) (hi' : i < (x1 - x0 + 1) * (y1 - y0 + 1)) (W : World) :
    Fn Try.prog 86 [.agg #[.int .i64 x0, .int .i64 y0, .int .i64 x1, .int .i64 y1], .int .i64 i] W (RetG (.tuple #[.agg #[.int .i64 (x0 + i % (x1 - x0 + 1)), .int .i64 (y0 + i / (x1 - x0 + 1))], .bool true]) W) :=
  Fn_of_calls (by kernel_rfl) (nth_any x0 y0 x1 y1 i h hi hi' W)

section
variable {W : World} {p gw gh cap : Nat} {c : Nat → Int} {A B : Option Addr} {bs : Nat → Nat} {Rs : Nat → Option Nat} {V : List Int}
def layC (V : List Int) (k : Nat) (c : Nat → Int) : Nat → Int := fun i => if i < k then V.getD i 0 else c i
theorem lay_step {gw k n : Nat} {c : Nat → Int} (hgw : 0 < gw) (hn : 1 ≤ n) (hle : k % gw + n ≤ gw) (hI : ∀ j, j < n → V.getD (k + j) 0 = V.getD k 0) (i : Nat) :
    fillC gw (k % gw : Nat) (k / gw : Nat) (k % gw + n - 1 : Nat) (k / gw : Nat) (V.getD k 0) (layC V k c) i = layC V (k + n) c i := by
  have hdk := Nat.div_add_mod k gw
  have hdi := Nat.div_add_mod i gw
  have hmi := Nat.mod_lt i hgw
  have key : inR gw (k % gw : Nat) (k / gw : Nat) (k % gw + n - 1 : Nat) (k / gw : Nat) i ↔ k ≤ i ∧ i < k + n := by
    unfold inR
    constructor
    · rintro ⟨h1, h2, h3, h4⟩
      have e : i / gw = k / gw := by omega
      rw [e] at hdi
      omega
    · rintro ⟨h1, h2⟩
      have e : i / gw = k / gw := by
        refine Nat.div_eq_of_lt_le ?_ ?_
        · rw [Nat.mul_comm]; omega
        · rw [Nat.succ_mul, Nat.mul_comm]; omega
      rw [e] at hdi ⊢
      omega
  unfold fillC layC
  by_cases h : k ≤ i ∧ i < k + n
  · rw [if_pos (key.2 h), if_pos h.2]
    have := hI (i - k) (by omega)
    rw [show k + (i - k) = i by omega] at this
    exact this.symm
  · rw [if_neg (fun e => h (key.1 e))]
    by_cases h2 : i < k
    · rw [if_pos h2, if_pos (by omega)]
    · rw [if_neg h2, if_neg (by omega)]
set_option maxHeartbeats 1000000 in
theorem lay_E (cp : Nat) (hV : V.length = gw * gh) (hmay : ∀ v ∈ V, mayB v = true) (hG : GridAt W p gw gh c A cap bs Rs) (hB : Rd W B (ints V)) (hap : ∀ g, ownA B g → ¬ gridB (acr gw * acr gh) p A bs Rs g) (hlt : ∀ g, ownA B g → g < W.heap.size) :
    Fn Try.prog 71 [.pointer (some ⟨p, 0, none⟩), .agg #[.int .i64 0, .int .i64 0, .int .i64 (gw - 1), .int .i64 (gh - 1)], .slice B V.length cp] W
      (fun r w' => r = .tuple #[] ∧ GridP W p gw gh A cap bs Rs (fun i => V.getD i 0) w') := by
  have hw := hG.sw
  have hh := hG.sh
  have hm : 1 ≤ gw * gh ∧ gw * gh ≤ 1024 * 1024 := ⟨Nat.mul_le_mul hw.1 hh.1, Nat.mul_le_mul hw.2 hh.2⟩
  have hmi : (gw : Int) * gh = ((gw * gh : Nat) : Int) := by push_cast; rfl
  have sa_B : SomeA B := hB.someA (by rw [ints_len]; omega)
  have hBk : ∀ {w : World}, Fr (gridB (acr gw * acr gh) p A bs Rs) W w → Rd w B (ints V) := fun {w} hF => hB.fr hF (fun a ha => hap _ (by rw [ha]; rfl))
  have S := St.start1 W (.grid p gw gh c A cap bs Rs) hG
  refine Fn_enter Try.func71 rfl Try.results71 Try.ntmps71 (by kernel_rfl) (by kernel_rfl) ?_
  repeat refine cw_seq ?_
  refine cw_region ?_
  refine rw_newB (op_box rfl) S ?_
  intro b_rc w2_ g2_ S
  first | refine rw_end ?_ | (refine rw_nil ?_; show CW _ _ _ _ _ _) | refine rw_nil ?_
  repeat refine cw_seq ?_
  refine cw_region ?_
  refine rw_v (op_pure rfl) ?_
  first | refine rw_end ?_ | (refine rw_nil ?_; show CW _ _ _ _ _ _) | refine rw_nil ?_
  repeat refine cw_seq ?_
  refine cw_block ?_
  repeat refine cw_seq ?_
  refine cw_loop (fun m e w => ∃ (k : Nat) (Rs' : Nat → Option Nat), k + m = gw * gh ∧ SL e [(0, .pointer (some ⟨p, 0, none⟩)), (2, .slice B V.length cp), (4, .pointer (some ⟨b_rc, 0, none⟩)), (6, .int .i64 k)] ∧
    St (gridB (acr gw * acr gh) p A bs Rs) W w [.blk b_rc 61 [.int .i64 0, .int .i64 0, .int .i64 (gw - 1), .int .i64 (gh - 1)], .grid p gw gh (layC V k c) A cap bs Rs']) (gw * gh)
    ⟨0, Rs, by omega, ⟨rfl, rfl, rfl, rfl, trivial⟩, S.as_ (i := 1) rfl rfl (fun h => h.congr (fun i _ => (if_neg (Nat.not_lt_zero i)).symm)) (fun g h => h)⟩ ?_
  rintro m e w ⟨k, Rs1, hk, hsl, S⟩
  rw [hsl.fold]
  repeat refine cw_seq ?_
  refine cw_region ?_
  iterate 2 refine rw_v (op_pure rfl) ?_
  refine rw_v (op_len Try.underlying30 rfl) ?_
  refine rw_v (op_pure rfl) ?_
  first | refine rw_end ?_ | (refine rw_nil ?_; show CW _ _ _ _ _ _) | refine rw_nil ?_
  repeat refine cw_seq ?_
  refine cw_cond rfl (fun hc => ?_) (fun hc => ?_)
  · try simp only [decide_eq_true_eq, decide_eq_false_iff_not, beq_iff_eq, bne_iff_ne, beq_eq_false_iff_ne, bne_eq_false_iff_eq, Bool.not_eq_true', Bool.not_eq_false', ne_eq, Decidable.not_not, Int.natCast_inj, Int.ofNat_lt, Int.ofNat_le, gt_iff_lt, ge_iff_le, Int.not_lt, Int.not_le] at hc
    have hkN : k < gw * gh := by omega
    have hx : k % gw < gw := Nat.mod_lt _ (by omega)
    have hy : k / gw < gh := Nat.div_lt_of_lt_mul hkN
    have hdm : k / gw * gw + k % gw = k := by rw [Nat.mul_comm]; exact Nat.div_add_mod _ _
    have hrow : k / gw * gw + gw ≤ gw * gh := by
      have : (k / gw + 1) * gw ≤ gh * gw := Nat.mul_le_mul_right _ hy
      rw [Nat.succ_mul, Nat.mul_comm gh] at this
      exact this
    have e1 : (0 : Int) + (k : Int) % ((gw : Int) - 1 - 0 + 1) = ((k % gw : Nat) : Int) := by
      rw [show (gw : Int) - 1 - 0 + 1 = gw by omega, Int.zero_add]; push_cast; rfl
    have e2 : (0 : Int) + (k : Int) / ((gw : Int) - 1 - 0 + 1) = ((k / gw : Nat) : Int) := by
      rw [show (gw : Int) - 1 - 0 + 1 = gw by omega, Int.zero_add]; push_cast; rfl
    have hlt2 : (k : Int) < ((gw : Int) - 1 - 0 + 1) * (gh - 1 - 0 + 1) := by
      rw [show (gw : Int) - 1 - 0 + 1 = gw by omega, show (gh : Int) - 1 - 0 + 1 = gh by omega, hmi]; omega
    repeat refine cw_seq ?_
    refine cw_skip ?_
    try show CW _ _ _ _ _ _
    repeat refine cw_seq ?_
    refine cw_block ?_
    repeat refine cw_seq ?_
    refine cw_region ?_
    refine rw_r (op_loadAB Try.underlying61 rfl (Try.sizeOf61 _) rfl (S.blk (i := 0) rfl) rfl rfl) ?_
    refine rw_v (op_pure rfl) ?_
    refine rw_call rfl (nth_E 0 0 ((gw : Int) - 1) ((gh : Int) - 1) k (by omega) (by omega) hlt2 w) ?_
    rintro _ w3_ ⟨rfl, g3_⟩
    have S := S.gr g3_
    rw [e1, e2]
    iterate 3 refine rw_v (op_pure rfl) ?_
    refine rw_newB (op_alloc Try.zeroValue40 rfl) S ?_
    intro b_fr w5_ g5_ S
    refine rw_storeSA (i := 0) S rfl (Try.sizeOf40 _) rfl rfl rfl rfl rfl rfl ?_
    intro w6_ S
    refine rw_v (op_pure rfl) ?_
    first | refine rw_end ?_ | (refine rw_nil ?_; show CW _ _ _ _ _ _) | refine rw_nil ?_
    repeat refine cw_seq ?_
    refine cw_region ?_
    refine rw_v (op_pure rfl) ?_
    first | refine rw_end ?_ | (refine rw_nil ?_; show CW _ _ _ _ _ _) | refine rw_nil ?_
    repeat refine cw_seq ?_
    refine cw_block ?_
    repeat refine cw_seq ?_
    refine cw_loop (fun m e w => ∃ n : Nat, 1 ≤ n ∧ n + m = gw - k % gw ∧ SL e [(0, .pointer (some ⟨p, 0, none⟩)), (2, .slice B V.length cp), (4, .pointer (some ⟨b_rc, 0, none⟩)), (6, .int .i64 k), (7, .pointer (some ⟨b_fr, 0, none⟩)), (9, .int .i64 n)] ∧ (∀ j, j < n → V.getD (k + j) 0 = V.getD k 0) ∧
      St (gridB (acr gw * acr gh) p A bs Rs) W w [.blk b_fr 40 [.int .i64 (k % gw : Nat), .int .i64 (k / gw : Nat)], .blk b_rc 61 [.int .i64 0, .int .i64 0, .int .i64 (gw - 1), .int .i64 (gh - 1)], .grid p gw gh (layC V k c) A cap bs Rs1]) (gw - k % gw - 1)
      ⟨1, by omega, by omega, ⟨rfl, rfl, rfl, rfl, rfl, rfl, trivial⟩, fun j hj => by rw [show j = 0 by omega, Nat.add_zero], S⟩ ?_
    rintro m' e w ⟨n, hn1, hn2, hsl, hI, S⟩
    rw [hsl.fold]
    have hBw := hBk S.fr
    have hget : ∀ i, i < V.length → (ints V)[i]? = some (.int .i64 (V.getD i 0)) := fun i hi => by
      refine ints_get ?_
      rw [List.getD_eq_getElem?_getD, List.getElem?_eq_getElem hi]
      rfl
    have hxk := hget k (by omega)
    have hxk' : (ints V)[(k : Int).toNat * 1]? = some (.int .i64 (V.getD k 0)) := by rw [Nat.mul_one, Int.toNat_natCast]; exact hxk
    have fin : ∀ w, St (gridB (acr gw * acr gh) p A bs Rs) W w [.blk b_fr 40 [.int .i64 (k % gw : Nat), .int .i64 (k / gw : Nat)], .blk b_rc 61 [.int .i64 0, .int .i64 0, .int .i64 (gw - 1), .int .i64 (gh - 1)], .grid p gw gh (layC V k c) A cap bs Rs1] → True := fun _ _ => trivial
    have hmk : mayB (V.getD k 0) = true := by
      rw [List.getD_eq_getElem?_getD, List.getElem?_eq_getElem (by omega)]
      exact hmay _ (List.getElem_mem _)
    have hmk := (mayB_iff _).1 hmk
    by_cases hext : k % gw + n ≤ gw - 1 ∧ V.getD (k + n) 0 = V.getD k 0
    · have hxn := hget (k + n) (by omega)
      have hxn' : (ints V)[((k : Int) + n).toNat * 1]? = some (.int .i64 (V.getD (k + n) 0)) := by rw [Nat.mul_one, show ((k : Int) + n).toNat = k + n by omega]; exact hxn
      obtain ⟨hx1, hx2⟩ := hext
      repeat refine cw_seq ?_
      refine cw_draw (C := fun wq => Gr w wq) [0, 1, 2, 3, 4, 5, 6, 7, 8, 9, 10, 11, 12, 13, 14, 15, 16, 17, 18, 19] [] (by kernel_rfl) (by kernel_rfl) (Gr.drew _) ?_
      simp only [pickL, List.drop_succ_cons, List.drop_zero]
      refine rq_v (op_fieldAddr Try.underlying40 rfl Try.sizeOf2 rfl rfl) ?_
      refine rq_r (fun wq hq => op_loadB Try.underlying2 rfl rfl ((S.gr hq).blk (i := 0) rfl) rfl) ?_
      refine rq_v (op_pure rfl) ?_
      refine rq_v (op_rng rfl (by omega)) ?_
      refine rq_v (op_fieldAddr Try.underlying61 rfl Try.sizeOf2 rfl rfl) ?_
      refine rq_r (fun wq hq => op_loadB Try.underlying2 rfl rfl ((S.gr hq).blk (i := 1) rfl) rfl) ?_
      first | refine rq_v (op_b (b := true) rfl (decide_eq_true (by omega))) ?_ | refine rq_v (op_b (b := false) rfl (decide_eq_false (by omega))) ?_ | refine rq_v (op_pure rfl) ?_
      refine rq_v (op_pure rfl) ?_
      first | refine rq_off rfl ?_ | (refine rq_on rfl ?_; refine rq_v (op_pure rfl) ?_)
      first | refine rq_off rfl ?_ | (refine rq_on rfl ?_; refine rq_v (op_pure rfl) ?_)
      first | refine rq_off rfl ?_ | (refine rq_on rfl ?_; refine rq_v (op_pure rfl) ?_)
      first | refine rq_off rfl ?_ | (refine rq_on rfl ?_; refine rq_v (op_rng rfl (by omega)) ?_)
      first | refine rq_off rfl ?_ | (refine rq_on rfl ?_; refine rq_v (op_idx Try.underlying30 Try.sizeOf2 rfl rfl sa_B (by omega) (by omega)) ?_)
      first | refine rq_off rfl ?_ | (refine rq_on rfl ?_; refine rq_r (fun wq hq => op_ldR Try.underlying2 rfl rfl (hBk (S.gr hq).fr) hxn') ?_)
      first | refine rq_off rfl ?_ | (refine rq_on rfl ?_; refine rq_v (op_pure rfl) ?_)
      first | refine rq_off rfl ?_ | (refine rq_on rfl ?_; refine rq_v (op_pure rfl) ?_)
      first | refine rq_off rfl ?_ | (refine rq_on rfl ?_; refine rq_v (op_idx Try.underlying30 Try.sizeOf2 rfl rfl sa_B (by omega) (by omega)) ?_)
      first | refine rq_off rfl ?_ | (refine rq_on rfl ?_; refine rq_r (fun wq hq => op_ldR Try.underlying2 rfl rfl (hBk (S.gr hq).fr) hxk') ?_)
      first | refine rq_off rfl ?_ | (refine rq_on rfl ?_; (first | refine rq_v (op_b (b := true) rfl (beq_iff_eq.2 (by omega))) ?_ | refine rq_v (op_b (b := false) rfl (beq_eq_false_iff_ne.2 (by omega))) ?_ | refine rq_v (op_pure rfl) ?_))
      refine rq_v (op_pure rfl) ?_
      refine rq_nil ?_
      intro w7_ g7_
      have S := S.gr g7_
      first | refine rw_end ?_ | (refine rw_nil ?_; show CW _ _ _ _ _ _) | refine rw_nil ?_
      repeat refine cw_seq ?_
      refine cw_true rfl ?_
      repeat refine cw_seq ?_
      refine cw_skip ?_
      try show CW _ _ _ _ _ _
      repeat refine cw_seq ?_
      refine cw_block ?_
      repeat refine cw_seq ?_
      refine cw_region ?_
      refine rw_v (op_pure rfl) ?_
      refine rw_v (op_rng rfl (by omega)) ?_
      refine rw_v (op_pure rfl) ?_
      first | refine rw_end ?_ | (refine rw_nil ?_; show CW _ _ _ _ _ _) | refine rw_nil ?_
      refine ⟨m' - 1, by omega, n + 1, by omega, by omega, ⟨rfl, rfl, rfl, rfl, rfl, ie (by omega), trivial⟩, fun j hj => ?_, S⟩
      by_cases e : j = n
      · subst e; exact hx2
      · exact hI j (by omega)
    · have hcase : ¬ (k % gw + n ≤ gw - 1) ∨ (k % gw + n ≤ gw - 1 ∧ V.getD (k + n) 0 ≠ V.getD k 0) := by
        by_cases h : k % gw + n ≤ gw - 1
        · exact .inr ⟨h, fun e => hext ⟨h, e⟩⟩
        · exact .inl h
      have e3 : ((k % gw : Nat) : Int) + n - 1 = ((k % gw + n - 1 : Nat) : Int) := by omega
      have hgw0 : 0 < gw := by omega
      rcases hcase with hcase | ⟨hc1, hc2⟩
      · skip
        repeat refine cw_seq ?_
        refine cw_draw (C := fun wq => Gr w wq) [0, 1, 2, 3, 4, 5, 6, 7, 8, 9, 10, 11, 12, 13, 14, 15, 16, 17, 18, 19] [] (by kernel_rfl) (by kernel_rfl) (Gr.drew _) ?_
        simp only [pickL, List.drop_succ_cons, List.drop_zero]
        refine rq_v (op_fieldAddr Try.underlying40 rfl Try.sizeOf2 rfl rfl) ?_
        refine rq_r (fun wq hq => op_loadB Try.underlying2 rfl rfl ((S.gr hq).blk (i := 0) rfl) rfl) ?_
        refine rq_v (op_pure rfl) ?_
        refine rq_v (op_rng rfl (by omega)) ?_
        refine rq_v (op_fieldAddr Try.underlying61 rfl Try.sizeOf2 rfl rfl) ?_
        refine rq_r (fun wq hq => op_loadB Try.underlying2 rfl rfl ((S.gr hq).blk (i := 1) rfl) rfl) ?_
        first | refine rq_v (op_b (b := true) rfl (decide_eq_true (by omega))) ?_ | refine rq_v (op_b (b := false) rfl (decide_eq_false (by omega))) ?_ | refine rq_v (op_pure rfl) ?_
        refine rq_v (op_pure rfl) ?_
        first | refine rq_off rfl ?_ | (refine rq_on rfl ?_; refine rq_v (op_pure rfl) ?_)
        first | refine rq_off rfl ?_ | (refine rq_on rfl ?_; refine rq_v (op_pure rfl) ?_)
        first | refine rq_off rfl ?_ | (refine rq_on rfl ?_; refine rq_v (op_pure rfl) ?_)
        first | refine rq_off rfl ?_ | (refine rq_on rfl ?_; refine rq_v (op_rng rfl (by omega)) ?_)
        first | refine rq_off rfl ?_ | (refine rq_on rfl ?_; refine rq_v (op_idx Try.underlying30 Try.sizeOf2 rfl rfl sa_B (by omega) (by omega)) ?_)
        first | refine rq_off rfl ?_ | (refine rq_on rfl ?_; refine rq_r (fun wq hq => op_ldR Try.underlying2 rfl rfl (hBk (S.gr hq).fr) (by assumption)) ?_)
        first | refine rq_off rfl ?_ | (refine rq_on rfl ?_; refine rq_v (op_pure rfl) ?_)
        first | refine rq_off rfl ?_ | (refine rq_on rfl ?_; refine rq_v (op_pure rfl) ?_)
        first | refine rq_off rfl ?_ | (refine rq_on rfl ?_; refine rq_v (op_idx Try.underlying30 Try.sizeOf2 rfl rfl sa_B (by omega) (by omega)) ?_)
        first | refine rq_off rfl ?_ | (refine rq_on rfl ?_; refine rq_r (fun wq hq => op_ldR Try.underlying2 rfl rfl (hBk (S.gr hq).fr) (by assumption)) ?_)
        first | refine rq_off rfl ?_ | (refine rq_on rfl ?_; (first | refine rq_v (op_b (b := true) rfl (beq_iff_eq.2 (by omega))) ?_ | refine rq_v (op_b (b := false) rfl (beq_eq_false_iff_ne.2 (by omega))) ?_ | refine rq_v (op_pure rfl) ?_))
        refine rq_v (op_pure rfl) ?_
        refine rq_nil ?_
        intro w8_ g8_
        have S := S.gr g8_
        first | refine rw_end ?_ | (refine rw_nil ?_; show CW _ _ _ _ _ _) | refine rw_nil ?_
        repeat refine cw_seq ?_
        refine cw_false rfl ?_
        repeat refine cw_seq ?_
        refine cw_exit ?_
        repeat first | refine exit_then ?_ | refine exit_inb ?_
        show CW _ _ _ _ _ _
        repeat refine cw_seq ?_
        refine cw_draw (C := fun wq => Gr w8_ wq) [0, 1, 2, 3, 4, 5, 6, 7, 8, 9, 10, 11, 12, 13, 14, 15, 16] [17] (by kernel_rfl) (by kernel_rfl) (Gr.drew _) ?_
        simp only [pickL, List.drop_succ_cons, List.drop_zero]
        refine rq_v (op_pure rfl) ?_
        refine rq_v (op_fieldAddr Try.underlying40 rfl Try.sizeOf2 rfl rfl) ?_
        refine rq_r (fun wq hq => op_loadB Try.underlying2 rfl rfl ((S.gr hq).blk (i := 0) rfl) rfl) ?_
        refine rq_v (op_fieldAddr Try.underlying40 rfl Try.sizeOf2 rfl rfl) ?_
        refine rq_r (fun wq hq => op_loadB Try.underlying2 rfl rfl ((S.gr hq).blk (i := 0) rfl) rfl) ?_
        refine rq_v (op_fieldAddr Try.underlying40 rfl Try.sizeOf2 rfl rfl) ?_
        refine rq_r (fun wq hq => op_loadB Try.underlying2 rfl rfl ((S.gr hq).blk (i := 0) rfl) rfl) ?_
        refine rq_v (op_pure rfl) ?_
        refine rq_v (op_rng rfl (by omega)) ?_
        refine rq_v (op_rng rfl (by omega)) ?_
        rw [e3]
        refine rq_v (op_fieldAddr Try.underlying40 rfl Try.sizeOf2 rfl rfl) ?_
        refine rq_r (fun wq hq => op_loadB Try.underlying2 rfl rfl ((S.gr hq).blk (i := 0) rfl) rfl) ?_
        refine rq_v (op_build (pl := [(0, 1), (1, 1), (2, 1), (3, 1)]) Try.underlying61 Try.zeroValue61 (fun w => by kernel_rfl) rfl rfl) ?_
        iterate 2 refine rq_v (op_pure rfl) ?_
        refine rq_v (op_idx Try.underlying30 Try.sizeOf2 rfl rfl sa_B (by omega) (by omega)) ?_
        refine rq_r (fun wq hq => op_ldR Try.underlying2 rfl rfl (hBk (S.gr hq).fr) hxk') ?_
        refine rq_nil ?_
        intro w9_ g9_
        have S := S.gr g9_
        refine rw_call rfl (gfill_E (k % gw) (k / gw) (k % gw + n - 1) (k / gw) (V.getD k 0) ⟨by omega, by omega⟩ ⟨Nat.le_refl _, hy⟩ hmk (S.grid (i := 2) rfl)) ?_
        rintro _ w10_ ⟨_, Rs2, hG2, hF2, hO2⟩
        have S := S.set (i := 2) (h' := .grid p gw gh _ A cap bs Rs2) rfl rfl hF2 (fun g h => .inl h) hG2 hO2
        first | refine rw_end ?_ | (refine rw_nil ?_; show CW _ _ _ _ _ _) | refine rw_nil ?_
        repeat refine cw_seq ?_
        refine cw_region ?_
        iterate 2 refine rw_v (op_pure rfl) ?_
        refine rw_v (op_rng rfl (by omega)) ?_
        refine rw_v (op_pure rfl) ?_
        first | refine rw_end ?_ | (refine rw_nil ?_; show CW _ _ _ _ _ _) | refine rw_nil ?_
        have S := S.sub (.cons _ (.cons_cons _ (.cons_cons _ .slnil)))
        exact ⟨m - n, by omega, k + n, Rs2, by omega, ⟨rfl, rfl, rfl, ie (by omega), trivial⟩, S.as_ (i := 1) rfl rfl (fun h => h.congr (fun i _ => lay_step hgw0 hn1 (by omega) hI i)) (fun g h => h)⟩
      · have hxn := hget (k + n) (by omega)
        have hxn' : (ints V)[((k : Int) + n).toNat * 1]? = some (.int .i64 (V.getD (k + n) 0)) := by rw [Nat.mul_one, show ((k : Int) + n).toNat = k + n by omega]; exact hxn
        repeat refine cw_seq ?_
        refine cw_draw (C := fun wq => Gr w wq) [0, 1, 2, 3, 4, 5, 6, 7, 8, 9, 10, 11, 12, 13, 14, 15, 16, 17, 18, 19] [] (by kernel_rfl) (by kernel_rfl) (Gr.drew _) ?_
        simp only [pickL, List.drop_succ_cons, List.drop_zero]
        refine rq_v (op_fieldAddr Try.underlying40 rfl Try.sizeOf2 rfl rfl) ?_
        refine rq_r (fun wq hq => op_loadB Try.underlying2 rfl rfl ((S.gr hq).blk (i := 0) rfl) rfl) ?_
        refine rq_v (op_pure rfl) ?_
        refine rq_v (op_rng rfl (by omega)) ?_
        refine rq_v (op_fieldAddr Try.underlying61 rfl Try.sizeOf2 rfl rfl) ?_
        refine rq_r (fun wq hq => op_loadB Try.underlying2 rfl rfl ((S.gr hq).blk (i := 1) rfl) rfl) ?_
        first | refine rq_v (op_b (b := true) rfl (decide_eq_true (by omega))) ?_ | refine rq_v (op_b (b := false) rfl (decide_eq_false (by omega))) ?_ | refine rq_v (op_pure rfl) ?_
        refine rq_v (op_pure rfl) ?_
        first | refine rq_off rfl ?_ | (refine rq_on rfl ?_; refine rq_v (op_pure rfl) ?_)
        first | refine rq_off rfl ?_ | (refine rq_on rfl ?_; refine rq_v (op_pure rfl) ?_)
        first | refine rq_off rfl ?_ | (refine rq_on rfl ?_; refine rq_v (op_pure rfl) ?_)
        first | refine rq_off rfl ?_ | (refine rq_on rfl ?_; refine rq_v (op_rng rfl (by omega)) ?_)
        first | refine rq_off rfl ?_ | (refine rq_on rfl ?_; refine rq_v (op_idx Try.underlying30 Try.sizeOf2 rfl rfl sa_B (by omega) (by omega)) ?_)
        first | refine rq_off rfl ?_ | (refine rq_on rfl ?_; refine rq_r (fun wq hq => op_ldR Try.underlying2 rfl rfl (hBk (S.gr hq).fr) hxn') ?_)
        first | refine rq_off rfl ?_ | (refine rq_on rfl ?_; refine rq_v (op_pure rfl) ?_)
        first | refine rq_off rfl ?_ | (refine rq_on rfl ?_; refine rq_v (op_pure rfl) ?_)
        first | refine rq_off rfl ?_ | (refine rq_on rfl ?_; refine rq_v (op_idx Try.underlying30 Try.sizeOf2 rfl rfl sa_B (by omega) (by omega)) ?_)
        first | refine rq_off rfl ?_ | (refine rq_on rfl ?_; refine rq_r (fun wq hq => op_ldR Try.underlying2 rfl rfl (hBk (S.gr hq).fr) hxk') ?_)
        first | refine rq_off rfl ?_ | (refine rq_on rfl ?_; (first | refine rq_v (op_b (b := true) rfl (beq_iff_eq.2 (by omega))) ?_ | refine rq_v (op_b (b := false) rfl (beq_eq_false_iff_ne.2 (by omega))) ?_ | refine rq_v (op_pure rfl) ?_))
        refine rq_v (op_pure rfl) ?_
        refine rq_nil ?_
        intro w11_ g11_
        have S := S.gr g11_
        first | refine rw_end ?_ | (refine rw_nil ?_; show CW _ _ _ _ _ _) | refine rw_nil ?_
        repeat refine cw_seq ?_
        refine cw_false rfl ?_
        repeat refine cw_seq ?_
        refine cw_exit ?_
        repeat first | refine exit_then ?_ | refine exit_inb ?_
        show CW _ _ _ _ _ _
        repeat refine cw_seq ?_
        refine cw_draw (C := fun wq => Gr w11_ wq) [0, 1, 2, 3, 4, 5, 6, 7, 8, 9, 10, 11, 12, 13, 14, 15, 16] [17] (by kernel_rfl) (by kernel_rfl) (Gr.drew _) ?_
        simp only [pickL, List.drop_succ_cons, List.drop_zero]
        refine rq_v (op_pure rfl) ?_
        refine rq_v (op_fieldAddr Try.underlying40 rfl Try.sizeOf2 rfl rfl) ?_
        refine rq_r (fun wq hq => op_loadB Try.underlying2 rfl rfl ((S.gr hq).blk (i := 0) rfl) rfl) ?_
        refine rq_v (op_fieldAddr Try.underlying40 rfl Try.sizeOf2 rfl rfl) ?_
        refine rq_r (fun wq hq => op_loadB Try.underlying2 rfl rfl ((S.gr hq).blk (i := 0) rfl) rfl) ?_
        refine rq_v (op_fieldAddr Try.underlying40 rfl Try.sizeOf2 rfl rfl) ?_
        refine rq_r (fun wq hq => op_loadB Try.underlying2 rfl rfl ((S.gr hq).blk (i := 0) rfl) rfl) ?_
        refine rq_v (op_pure rfl) ?_
        refine rq_v (op_rng rfl (by omega)) ?_
        refine rq_v (op_rng rfl (by omega)) ?_
        rw [e3]
        refine rq_v (op_fieldAddr Try.underlying40 rfl Try.sizeOf2 rfl rfl) ?_
        refine rq_r (fun wq hq => op_loadB Try.underlying2 rfl rfl ((S.gr hq).blk (i := 0) rfl) rfl) ?_
        refine rq_v (op_build (pl := [(0, 1), (1, 1), (2, 1), (3, 1)]) Try.underlying61 Try.zeroValue61 (fun w => by kernel_rfl) rfl rfl) ?_
        iterate 2 refine rq_v (op_pure rfl) ?_
        refine rq_v (op_idx Try.underlying30 Try.sizeOf2 rfl rfl sa_B (by omega) (by omega)) ?_
        refine rq_r (fun wq hq => op_ldR Try.underlying2 rfl rfl (hBk (S.gr hq).fr) hxk') ?_
        refine rq_nil ?_
        intro w12_ g12_
        have S := S.gr g12_
        refine rw_call rfl (gfill_E (k % gw) (k / gw) (k % gw + n - 1) (k / gw) (V.getD k 0) ⟨by omega, by omega⟩ ⟨Nat.le_refl _, hy⟩ hmk (S.grid (i := 2) rfl)) ?_
        rintro _ w13_ ⟨_, Rs2, hG2, hF2, hO2⟩
        have S := S.set (i := 2) (h' := .grid p gw gh _ A cap bs Rs2) rfl rfl hF2 (fun g h => .inl h) hG2 hO2
        first | refine rw_end ?_ | (refine rw_nil ?_; show CW _ _ _ _ _ _) | refine rw_nil ?_
        repeat refine cw_seq ?_
        refine cw_region ?_
        iterate 2 refine rw_v (op_pure rfl) ?_
        refine rw_v (op_rng rfl (by omega)) ?_
        refine rw_v (op_pure rfl) ?_
        first | refine rw_end ?_ | (refine rw_nil ?_; show CW _ _ _ _ _ _) | refine rw_nil ?_
        have S := S.sub (.cons _ (.cons_cons _ (.cons_cons _ .slnil)))
        exact ⟨m - n, by omega, k + n, Rs2, by omega, ⟨rfl, rfl, rfl, ie (by omega), trivial⟩, S.as_ (i := 1) rfl rfl (fun h => h.congr (fun i _ => lay_step hgw0 hn1 (by omega) hI i)) (fun g h => h)⟩
  · try simp only [decide_eq_true_eq, decide_eq_false_iff_not, beq_iff_eq, bne_iff_ne, beq_eq_false_iff_ne, bne_eq_false_iff_eq, Bool.not_eq_true', Bool.not_eq_false', ne_eq, Decidable.not_not, Int.natCast_inj, Int.ofNat_lt, Int.ofNat_le, gt_iff_lt, ge_iff_le, Int.not_lt, Int.not_le] at hc
    repeat refine cw_seq ?_
    refine cw_exit ?_
    repeat first | refine exit_then ?_ | refine exit_inb ?_
    obtain rfl : k = gw * gh := by omega
    exact res0n ⟨rfl, Rs1, (S.grid (i := 1) rfl).congr (fun i hi => if_pos hi), S.fr, fun g hg => (S.sep.get (i := 1) rfl).2 g hg⟩
end
end Go.Proofs.Ytiidmiebckkloaa
/- paint.Paste over a whole grid, and paint.From. -/
namespace Go.Proofs.Ytiidmiebckkloaa
open Go.RowKit
set_option linter.unusedVariables false
set_option linter.unusedSimpArgs false
set_option maxRecDepth 100000

theorem Rd.lt {w : World} {A : Option Addr} {xs : List Value} (h : Rd w A xs) (hn : 0 < xs.length) {g : Nat} (hg : ownA A g) : g < w.heap.size := by
  rcases h with rfl | ⟨b, o, rfl, hb, _⟩
  · simp at hn
  · exact ownA_eq hg ▸ hb
section
variable {W : World} {p gw gh cap : Nat} {c : Nat → Int} {A B : Option Addr} {bs : Nat → Nat} {Rs : Nat → Option Nat} {V : List Int}
theorem paste_E (cp : Nat) (hV : V.length = gw * gh) (hmay : ∀ v ∈ V, mayB v = true) (hG : GridAt W p gw gh c A cap bs Rs) (hB : Rd W B (ints V)) (hap : ∀ g, ownA B g → ¬ gridB (acr gw * acr gh) p A bs Rs g) (hlt : ∀ g, ownA B g → g < W.heap.size) :
    Fn Try.prog 43 [.pointer (some ⟨p, 0, none⟩), .agg #[.int .i64 0, .int .i64 0, .int .i64 (gw - 1), .int .i64 (gh - 1)], .slice B V.length cp] W
      (fun r w' => r = .int .i64 0 ∧ GridP W p gw gh A cap bs Rs (fun i => V.getD i 0) w') := by
  have hw := hG.sw
  have hh := hG.sh
  have hm : 1 ≤ gw * gh ∧ gw * gh ≤ 1024 * 1024 := ⟨Nat.mul_le_mul hw.1 hh.1, Nat.mul_le_mul hw.2 hh.2⟩
  have hmi : ((gw : Int) - 1 - 0 + 1) * ((gh : Int) - 1 - 0 + 1) = ((gw * gh : Nat) : Int) := by
    rw [show (gw : Int) - 1 - 0 + 1 = gw by omega, show (gh : Int) - 1 - 0 + 1 = gh by omega]; push_cast; rfl
  have hBk : ∀ {w : World}, Fr (gridB (acr gw * acr gh) p A bs Rs) W w → Rd w B (ints V) := fun {w} hF => hB.fr hF (fun a ha => hap _ (by rw [ha]; rfl))
  have hbad : V.any (fun v => !mayB v) = false := List.any_eq_false.2 fun v hv => by rw [hmay v hv]; decide
  have e1 : ((gw : Int) - 1) = ((gw - 1 : Nat) : Int) := by omega
  have e2 : ((gh : Int) - 1) = ((gh - 1 : Nat) : Int) := by omega
  have S := St.start1 W (.grid p gw gh c A cap bs Rs) hG
  refine Fn_enter Try.func43 rfl Try.results43 Try.ntmps43 (by kernel_rfl) (by kernel_rfl) ?_
  repeat refine cw_seq ?_
  refine cw_region ?_
  refine rw_newB (op_box rfl) S ?_
  intro b_rc w2_ g2_ S
  refine rw_v (op_pure rfl) ?_
  first | refine rw_end ?_ | (refine rw_nil ?_; show CW _ _ _ _ _ _) | refine rw_nil ?_
  repeat refine cw_seq ?_
  refine cw_region ?_
  refine rw_v (op_pure rfl) ?_
  refine rw_r (op_loadAB Try.underlying61 rfl (Try.sizeOf61 _) rfl (S.blk (i := 0) rfl) rfl rfl) ?_
  refine rw_call rfl ((by have := gvalues_E (W := w2_) (p := p) (gw := gw) (gh := gh) (c := c) (A := A) (cap := cap) (bs := bs) (Rs := Rs) 0 0 (gw - 1) (gh - 1) (by omega) (by omega) (S.grid (i := 1) rfl); rw [← e1, ← e2] at this; exact this)) ?_
  rintro _ w3_ ⟨A_vs, c_vs, rfl, hR_vs, hf_vs, g3_⟩
  have S := S.pushRow hR_vs hf_vs g3_
  iterate 5 refine rw_v (op_pure rfl) ?_
  first | refine rw_end ?_ | (refine rw_nil ?_; show CW _ _ _ _ _ _) | refine rw_nil ?_
  repeat refine cw_seq ?_
  refine cw_region ?_
  refine rw_v (op_pure rfl) ?_
  refine rw_v (op_b (b := false) rfl (bne_eq_false_iff_eq.2 (by omega))) ?_
  first | refine rw_end ?_ | (refine rw_nil ?_; show CW _ _ _ _ _ _) | refine rw_nil ?_
  repeat refine cw_seq ?_
  refine cw_false rfl ?_
  repeat refine cw_seq ?_
  refine cw_skip ?_
  try show CW _ _ _ _ _ _
  repeat refine cw_seq ?_
  refine cw_block ?_
  repeat refine cw_seq ?_
  refine cw_region ?_
  refine rw_v (op_pure rfl) ?_
  refine rw_v (op_len Try.underlying30 rfl) ?_
  refine rw_r (op_loadAB Try.underlying61 rfl (Try.sizeOf61 _) rfl (S.blk (i := 1) rfl) rfl rfl) ?_
  refine rw_call rfl (area_E _ _ _ _ (by omega) w3_) ?_
  rintro _ w4_ ⟨rfl, g4_⟩
  have S := S.gr g4_
  rw [hmi]
  refine rw_v (op_b (b := false) rfl (bne_eq_false_iff_eq.2 (by omega))) ?_
  refine rw_v (op_pure rfl) ?_
  first | refine rw_end ?_ | (refine rw_nil ?_; show CW _ _ _ _ _ _) | refine rw_nil ?_
  repeat refine cw_seq ?_
  refine cw_false rfl ?_
  repeat refine cw_seq ?_
  refine cw_region ?_
  refine rw_v (op_pure rfl) ?_
  refine rw_call rfl (containsFunc64_E B V.length cp _ [] V rfl (by omega) (fun v => !mayB v) w4_ (hBk S.fr) (fun x hx w' g => paste1_E x w')) ?_
  rintro _ w5_ ⟨rfl, g5_⟩
  have S := S.gr g5_
  rw [hbad]
  refine rw_v (op_pure rfl) ?_
  first | refine rw_end ?_ | (refine rw_nil ?_; show CW _ _ _ _ _ _) | refine rw_nil ?_
  repeat refine cw_seq ?_
  refine cw_false rfl ?_
  repeat refine cw_seq ?_
  refine cw_skip ?_
  try show CW _ _ _ _ _ _
  repeat refine cw_seq ?_
  refine cw_region ?_
  refine rw_v (op_pure rfl) ?_
  refine rw_r (op_loadAB Try.underlying61 rfl (Try.sizeOf61 _) rfl (S.blk (i := 1) rfl) rfl rfl) ?_
  refine rw_v (op_pure rfl) ?_
  refine rw_call rfl (lay_E cp hV hmay (S.grid (i := 2) rfl) (hBk S.fr) hap (fun g hg => Nat.lt_of_lt_of_le (hlt g hg) S.le)) ?_
  rintro _ w6_ ⟨rfl, Rs2, hG2, hF2, hO2⟩
  have S := S.set (i := 2) (h' := .grid p gw gh _ A cap bs Rs2) rfl rfl hF2 (fun g h => .inl h) hG2 hO2
  first | refine rw_end ?_ | (refine rw_nil ?_; show CW _ _ _ _ _ _) | refine rw_nil ?_
  repeat refine cw_seq ?_
  refine cw_region ?_
  refine rw_v (op_pure rfl) ?_
  first | refine rw_end ?_ | (refine rw_nil ?_; show CW _ _ _ _ _ _) | refine rw_nil ?_
  repeat refine cw_seq ?_
  refine cw_ret ?_
  repeat first | refine ret_then ?_ | refine ret_inb ?_
  exact res1 rfl ⟨rfl, Rs2, S.grid (i := 2) rfl, S.fr, fun g hg => (S.sep.get (i := 2) rfl).2 g hg⟩
theorem from_E (cp : Nat) (hw : 1 ≤ gw ∧ gw ≤ 1024) (hh : 1 ≤ gh ∧ gh ≤ 1024) (hV : V.length = gw * gh) (hmay : ∀ v ∈ V, mayB v = true) (hB : Rd W B (ints V)) :
    Fn Try.prog 18 [.int .i64 gw, .int .i64 gh, .slice B V.length cp] W (RetGrid (fun p => .tuple #[p, .int .i64 0]) gw gh (fun i => V.getD i 0) W) := by
  have hm : 1 ≤ gw * gh ∧ gw * gh ≤ 1024 * 1024 := ⟨Nat.mul_le_mul hw.1 hh.1, Nat.mul_le_mul hw.2 hh.2⟩
  have hlt : ∀ g, ownA B g → g < W.heap.size := fun g hg => hB.lt (by rw [ints_len]; omega) hg
  have S := St.start W
  refine Fn_enter Try.func18 rfl Try.results18 Try.ntmps18 (by kernel_rfl) (by kernel_rfl) ?_
  repeat refine cw_seq ?_
  refine cw_region ?_
  iterate 2 refine rw_v (op_pure rfl) ?_
  first | refine rw_end ?_ | (refine rw_nil ?_; show CW _ _ _ _ _ _) | refine rw_nil ?_
  repeat refine cw_seq ?_
  refine cw_region ?_
  iterate 2 refine rw_v (op_pure rfl) ?_
  refine rw_call rfl (gnew_E gw gh 0 hw hh (by omega) W) ?_
  rintro _ w1_ ⟨p, A, bc, bs, Rs, rfl, hG, hf, g1_⟩
  have S := S.pushGrid hG hf g1_
  iterate 5 refine rw_v (op_pure rfl) ?_
  first | refine rw_end ?_ | (refine rw_nil ?_; show CW _ _ _ _ _ _) | refine rw_nil ?_
  repeat refine cw_seq ?_
  refine cw_region ?_
  refine rw_v (op_pure rfl) ?_
  refine rw_v (op_b (b := true) rfl (beq_iff_eq.2 (by omega))) ?_
  first | refine rw_end ?_ | (refine rw_nil ?_; show CW _ _ _ _ _ _) | refine rw_nil ?_
  repeat refine cw_seq ?_
  refine cw_true rfl ?_
  repeat refine cw_seq ?_
  refine cw_region ?_
  iterate 2 refine rw_v (op_pure rfl) ?_
  refine rw_call rfl (gall_E p gw gh hw.2 hh.2 _ w1_ (S.grid (i := 0) rfl).top) ?_
  rintro _ w2_ ⟨rfl, g2_⟩
  have S := S.gr g2_
  refine rw_v (op_pure rfl) ?_
  have hle := S.le
  refine rw_call rfl (paste_E cp hV hmay (S.grid (i := 0) rfl) (hB.gr S.out) (fun g hg hg2 => by have h1 := hlt g hg; have h2 := ((S.sep.get (i := 0) rfl).2 g hg2).elim (fun h => h.elim) id; omega) (fun g hg => Nat.lt_of_lt_of_le (hlt g hg) S.le)) ?_
  rintro _ w3_ ⟨rfl, Rs2, hG2, hF2, hO2⟩
  have S := S.set (i := 0) (h' := .grid p gw gh _ A bc bs Rs2) rfl rfl hF2 (fun g h => .inl h) hG2 hO2
  refine rw_v (op_pure rfl) ?_
  first | refine rw_end ?_ | (refine rw_nil ?_; show CW _ _ _ _ _ _) | refine rw_nil ?_
  repeat refine cw_seq ?_
  refine cw_region ?_
  refine rw_v (op_pure rfl) ?_
  refine rw_v (op_b (b := false) rfl (bne_eq_false_iff_eq.2 (by omega))) ?_
  first | refine rw_end ?_ | (refine rw_nil ?_; show CW _ _ _ _ _ _) | refine rw_nil ?_
  repeat refine cw_seq ?_
  refine cw_false rfl ?_
  repeat refine cw_seq ?_
  refine cw_skip ?_
  try show CW _ _ _ _ _ _
  repeat refine cw_seq ?_
  refine cw_region ?_
  iterate 3 refine rw_v (op_pure rfl) ?_
  first | refine rw_end ?_ | (refine rw_nil ?_; show CW _ _ _ _ _ _) | refine rw_nil ?_
  repeat refine cw_seq ?_
  refine cw_ret ?_
  repeat first | refine ret_then ?_ | refine ret_inb ?_
  exact res2 rfl rfl (S.retGrid (i := 0) rfl)
end
end Go.Proofs.Ytiidmiebckkloaa
/- Forests of package regions: sets of cells, each with its least place as its root. -/
namespace Go.Proofs.Ytiidmiebckkloaa
open Go.RowKit
set_option linter.unusedVariables false
set_option linter.unusedSimpArgs false
set_option maxRecDepth 100000

/-! ### Roots -/
def rootF (f : Nat → Nat) (i : Nat) : Nat := if h : f i < i then rootF f (f i) else i
termination_by i
def FOk (n : Nat) (f : Nat → Nat) : Prop := ∀ i, i < n → f i ≤ i
theorem rootF_lt {f : Nat → Nat} {i : Nat} (h : f i < i) : rootF f i = rootF f (f i) := by rw [rootF, dif_pos h]
theorem rootF_ge {f : Nat → Nat} {i : Nat} (h : ¬ f i < i) : rootF f i = i := by rw [rootF, dif_neg h]
theorem rootF_le (f : Nat → Nat) (i : Nat) : rootF f i ≤ i := by
  induction i using Nat.strongRecOn with
  | ind i ih =>
    by_cases h : f i < i
    · rw [rootF_lt h]; exact Nat.le_trans (ih _ h) (Nat.le_of_lt h)
    · rw [rootF_ge h]; exact Nat.le_refl _
theorem rootF_stop (f : Nat → Nat) (i : Nat) : ¬ f (rootF f i) < rootF f i := by
  induction i using Nat.strongRecOn with
  | ind i ih =>
    by_cases h : f i < i
    · rw [rootF_lt h]; exact ih _ h
    · rw [rootF_ge h]; exact h
theorem rootF_root (f : Nat → Nat) (i : Nat) : rootF f (rootF f i) = rootF f i := rootF_ge (rootF_stop f i)
theorem rootF_step {n i : Nat} {f : Nat → Nat} (hf : FOk n f) (hi : i < n) : rootF f (f i) = rootF f i := by
  by_cases h : f i < i
  · rw [rootF_lt h]
  · have : f i = i := by have := hf i hi; omega
    rw [this]
theorem rootF_fix {n i : Nat} {f : Nat → Nat} (hf : FOk n f) (hi : i < n) : f (rootF f i) = rootF f i := by
  have := rootF_stop f i
  have := hf (rootF f i) (Nat.lt_of_le_of_lt (rootF_le f i) hi)
  omega
def updF (f : Nat → Nat) (i v : Nat) : Nat → Nat := fun j => if j = i then v else f j
theorem updF_at (f : Nat → Nat) (i v : Nat) : updF f i v i = v := if_pos rfl
theorem updF_ne {f : Nat → Nat} {i v j : Nat} (h : j ≠ i) : updF f i v j = f j := if_neg h
/-- a cell hangs on what its parent hangs on -/
theorem halve_ok {n i : Nat} {f : Nat → Nat} (hf : FOk n f) (hi : i < n) : FOk n (updF f i (f (f i))) ∧ ∀ j, j < n → rootF (updF f i (f (f i))) j = rootF f j := by
  have h1 := hf i hi
  have h2 := hf (f i) (by omega)
  constructor
  · intro j hj
    by_cases e : j = i
    · subst e; rw [updF_at]; omega
    · rw [updF_ne e]; exact hf j hj
  · intro j
    induction j using Nat.strongRecOn with
    | ind j ih =>
      intro hj
      by_cases e : j = i
      · subst e
        by_cases h3 : f (f j) < j
        · have h4 : updF f j (f (f j)) j < j := by rw [updF_at]; exact h3
          rw [rootF_lt h4, updF_at, ih _ h3 (by omega), rootF_step hf (by omega), rootF_step hf hj]
        · have h5 : f j = j := by omega
          have h4 : ¬ updF f j (f (f j)) j < j := by rw [updF_at]; exact h3
          rw [rootF_ge h4, rootF_ge (by omega)]
      · by_cases h3 : f j < j
        · have h4 : updF f i (f (f i)) j < j := by rw [updF_ne e]; exact h3
          rw [rootF_lt h4, updF_ne e, ih _ h3 (by omega), rootF_lt h3]
        · have h4 : ¬ updF f i (f (f i)) j < j := by rw [updF_ne e]; exact h3
          rw [rootF_ge h4, rootF_ge h3]
/-- two sets become one -/
theorem join_ok {n a b : Nat} {f : Nat → Nat} (hf : FOk n f) (ha : a < n) (hfa : f a = a) (hfb : f b = b) (hba : b ≤ a) : FOk n (updF f a b) ∧ ∀ j, j < n → rootF (updF f a b) j = if rootF f j = a then b else rootF f j := by
  have hra : rootF f a = a := rootF_ge (by omega)
  have hrb : rootF f b = b := rootF_ge (by omega)
  constructor
  · intro j hj
    by_cases e : j = a
    · subst e; rw [updF_at]; exact hba
    · rw [updF_ne e]; exact hf j hj
  · intro j
    induction j using Nat.strongRecOn with
    | ind j ih =>
      intro hj
      by_cases e : j = a
      · subst e
        rw [hra, if_pos rfl]
        by_cases h3 : b < j
        · have h4 : updF f j b j < j := by rw [updF_at]; exact h3
          rw [rootF_lt h4, updF_at]
          rw [rootF_ge]
          rw [updF_ne (by omega)]
          omega
        · have h4 : ¬ updF f j b j < j := by rw [updF_at]; exact h3
          rw [rootF_ge h4]
          omega
      · by_cases h3 : f j < j
        · have h4 : updF f a b j < j := by rw [updF_ne e]; exact h3
          rw [rootF_lt h4, updF_ne e, ih _ h3 (by omega), rootF_lt h3]
        · have h4 : ¬ updF f a b j < j := by rw [updF_ne e]; exact h3
          rw [rootF_ge h4, rootF_ge h3, if_neg e]

/-! ### Rows of numbers -/
def cellsN (n : Nat) (f : Nat → Nat) : List Value := (List.range n).map fun i => .int .i64 (f i : Nat)
theorem cellsN_len (n : Nat) (f : Nat → Nat) : (cellsN n f).length = n := by simp [cellsN]
theorem cellsN_get {n : Nat} {f : Nat → Nat} {i : Nat} (h : i < n) : (cellsN n f)[i]? = some (.int .i64 (f i : Nat)) := by simp [cellsN, h]
theorem cellsN_set {n j v : Nat} {f : Nat → Nat} : (cellsN n f).set j (.int .i64 (v : Nat)) = cellsN n (updF f j v) := by
  apply List.ext_getElem?
  intro i
  rw [List.getElem?_set]
  by_cases hi : i < n
  · rw [cellsN_get (f := updF f j v) hi]
    by_cases hij : j = i
    · subst hij; rw [updF_at]; simp [cellsN_len, hi]
    · rw [if_neg hij, cellsN_get hi, updF_ne (fun e => hij e.symm)]
  · rw [List.getElem?_eq_none (l := cellsN n (updF f j v)) (by rw [cellsN_len]; omega), List.getElem?_eq_none (l := cellsN n f) (by rw [cellsN_len]; omega)]
    split
    · split
      · rename_i h1 h2; rw [cellsN_len] at h2; omega
      · rfl
    · rfl
theorem cellsN_congr {n : Nat} {f f' : Nat → Nat} (h : ∀ i, i < n → f i = f' i) : cellsN n f = cellsN n f' := by
  unfold cellsN
  exact List.map_congr_left fun i hi => by rw [h i (List.mem_range.1 hi)]

section
variable {W : World} {A : Option Addr} {n c : Nat} {f : Nat → Nat}
/-- a forest with the same sets -/
def ForestP (W : World) (A : Option Addr) (n c : Nat) (R : (Nat → Nat) → Prop) (w' : World) : Prop := ∃ f', FOk n f' ∧ R (rootF f') ∧ Row w' 3 1 A n c (cellsN n f') ∧ Fr (ownA A) W w'
theorem root_E (i : Nat) (hn : n ≤ 1048576) (hi : i < n) (hf : FOk n f) (hA : Row W 3 1 A n c (cellsN n f)) :
    Fn Try.prog 40 [.slice A n c, .int .i64 i] W (fun v w' => v = .int .i64 (rootF f i : Nat) ∧ ForestP W A n c (fun r => ∀ j, j < n → r j = rootF f j) w') := by
  have S := St.start1 W (.row 3 1 A n c (cellsN n f)) hA
  have sa_F : SomeA A := hA.someA (by omega)
  refine Fn_enter Try.func40 rfl Try.results40 Try.ntmps40 (by kernel_rfl) (by kernel_rfl) ?_
  repeat refine cw_seq ?_
  refine cw_region ?_
  refine rw_v (op_pure rfl) ?_
  first | refine rw_end ?_ | (refine rw_nil ?_; show CW _ _ _ _ _ _) | refine rw_nil ?_
  repeat refine cw_seq ?_
  refine cw_block ?_
  repeat refine cw_seq ?_
  refine cw_loop (fun m e w => ∃ (i' : Nat) (f' : Nat → Nat), i' = m ∧ i' < n ∧ SL e [(0, .slice A n c), (1, .int .i64 i')] ∧ FOk n f' ∧ (∀ j, j < n → rootF f' j = rootF f j) ∧ rootF f i' = rootF f i ∧ St (ownA A) W w [.row 3 1 A n c (cellsN n f')]) i
    ⟨i, f, rfl, hi, ⟨rfl, rfl, trivial⟩, hf, fun _ _ => rfl, rfl, S⟩ ?_
  rintro m e w ⟨k, f', rfl, hk, hsl, hf', hr, hrk, S⟩
  rw [hsl.fold]
  have hfk := hf' k hk
  have hffk := hf' (f' k) (by omega)
  have h1 : (cellsN n f')[(k : Int).toNat * 1]? = some (.int .i64 (f' k : Nat)) := by rw [Nat.mul_one, Int.toNat_natCast]; exact cellsN_get hk
  have h2 : (cellsN n f')[((f' k : Nat) : Int).toNat * 1]? = some (.int .i64 (f' (f' k) : Nat)) := by rw [Nat.mul_one, Int.toNat_natCast]; exact cellsN_get (by omega)
  by_cases hne : f' k = k
  · skip
    repeat refine cw_seq ?_
    refine cw_region ?_
    iterate 2 refine rw_v (op_pure rfl) ?_
    refine rw_v (op_idx Try.underlying95 Try.sizeOf3 rfl rfl sa_F (by omega) (by omega)) ?_
    refine rw_r (op_ldR Try.underlying3 rfl rfl (S.rd (i := 0) rfl) h1) ?_
    refine rw_v (op_pure rfl) ?_
    refine rw_v (op_b (b := false) rfl (bne_eq_false_iff_eq.2 (by omega))) ?_
    first | refine rw_end ?_ | (refine rw_nil ?_; show CW _ _ _ _ _ _) | refine rw_nil ?_
    repeat refine cw_seq ?_
    refine cw_false rfl ?_
    repeat refine cw_seq ?_
    refine cw_exit ?_
    repeat first | refine exit_then ?_ | refine exit_inb ?_
    show CW _ _ _ _ _ _
    repeat refine cw_seq ?_
    refine cw_region ?_
    iterate 2 refine rw_v (op_pure rfl) ?_
    first | refine rw_end ?_ | (refine rw_nil ?_; show CW _ _ _ _ _ _) | refine rw_nil ?_
    repeat refine cw_seq ?_
    refine cw_ret ?_
    repeat first | refine ret_then ?_ | refine ret_inb ?_
    refine res1 rfl ⟨?_, f', hf', hr, S.row (i := 0) rfl, S.fr⟩
    rw [← hrk, ← hr k hk, rootF_ge (by omega)]
  · have hh := halve_ok hf' hk
    have h3 : (cellsN n (updF f' k (f' (f' k))))[(k : Int).toNat * 1]? = some (.int .i64 (f' (f' k) : Nat)) := by rw [Nat.mul_one, Int.toNat_natCast, cellsN_get hk, updF_at]
    repeat refine cw_seq ?_
    refine cw_region ?_
    iterate 2 refine rw_v (op_pure rfl) ?_
    refine rw_v (op_idx Try.underlying95 Try.sizeOf3 rfl rfl sa_F (by omega) (by omega)) ?_
    refine rw_r (op_ldR Try.underlying3 rfl rfl (S.rd (i := 0) rfl) h1) ?_
    refine rw_v (op_pure rfl) ?_
    refine rw_v (op_b (b := true) rfl (bne_iff_ne.2 (by omega))) ?_
    first | refine rw_end ?_ | (refine rw_nil ?_; show CW _ _ _ _ _ _) | refine rw_nil ?_
    repeat refine cw_seq ?_
    refine cw_true rfl ?_
    repeat refine cw_seq ?_
    refine cw_skip ?_
    try show CW _ _ _ _ _ _
    repeat refine cw_seq ?_
    refine cw_block ?_
    repeat refine cw_seq ?_
    refine cw_region ?_
    iterate 5 refine rw_v (op_pure rfl) ?_
    refine rw_v (op_idx Try.underlying95 Try.sizeOf3 rfl rfl sa_F (by omega) (by omega)) ?_
    refine rw_r (op_ldR Try.underlying3 rfl rfl (S.rd (i := 0) rfl) h1) ?_
    refine rw_v (op_idx Try.underlying95 Try.sizeOf3 rfl rfl sa_F (by omega) (by omega)) ?_
    refine rw_r (op_ldR Try.underlying3 rfl rfl (S.rd (i := 0) rfl) h2) ?_
    refine rw_v (op_idx Try.underlying95 Try.sizeOf3 rfl rfl sa_F (by omega) (by omega)) ?_
    refine rw_storeR (i := 0) S rfl (Try.sizeOf3 _) rfl rfl rfl rfl (by rw [cellsN_len]; omega) rfl ?_
    intro w1_ S
    rw [Nat.mul_one, Int.toNat_natCast, cellsN_set] at S
    first | refine rw_end ?_ | (refine rw_nil ?_; show CW _ _ _ _ _ _) | refine rw_nil ?_
    repeat refine cw_seq ?_
    refine cw_region ?_
    iterate 2 refine rw_v (op_pure rfl) ?_
    refine rw_v (op_idx Try.underlying95 Try.sizeOf3 rfl rfl sa_F (by omega) (by omega)) ?_
    refine rw_r (op_ldR Try.underlying3 rfl rfl (S.rd (i := 0) rfl) h3) ?_
    refine rw_v (op_pure rfl) ?_
    first | refine rw_end ?_ | (refine rw_nil ?_; show CW _ _ _ _ _ _) | refine rw_nil ?_
    refine ⟨f' (f' k), by omega, f' (f' k), _, rfl, by omega, ⟨rfl, rfl, trivial⟩, hh.1, fun j hj => (hh.2 j hj).trans (hr j hj), ?_, S⟩
    rw [← hrk, ← hr _ (by omega), ← hr k hk, rootF_step hf' (by omega), rootF_step hf' hk]
theorem join_E (a b : Nat) (hn : n ≤ 1048576) (ha : a < n) (hb : b < n) (hf : FOk n f) (hA : Row W 3 1 A n c (cellsN n f)) :
    Fn Try.prog 67 [.slice A n c, .int .i64 a, .int .i64 b] W (fun v w' => v = .tuple #[] ∧ ForestP W A n c (fun r => ∀ j, j < n → r j = if rootF f j = max (rootF f a) (rootF f b) then min (rootF f a) (rootF f b) else rootF f j) w') := by
  have S := St.start1 W (.row 3 1 A n c (cellsN n f)) hA
  have sa_F : SomeA A := hA.someA (by omega)
  have hra := rootF_le f a
  have hrb := rootF_le f b
  refine Fn_enter Try.func67 rfl Try.results67 Try.ntmps67 (by kernel_rfl) (by kernel_rfl) ?_
  repeat refine cw_seq ?_
  refine cw_region ?_
  iterate 2 refine rw_v (op_pure rfl) ?_
  refine rw_call rfl (root_E a hn ha hf (S.row (i := 0) rfl)) ?_
  rintro _ w1_ ⟨rfl, f1, hf1, hr1, hR1, hF1⟩
  have S := S.set (i := 0) (h' := .row 3 1 A n c (cellsN n f1)) rfl rfl hF1 (fun g h => .inl h) hR1 (fun g h => .inl h)
  iterate 2 refine rw_v (op_pure rfl) ?_
  refine rw_call rfl (root_E b hn hb hf1 (S.row (i := 0) rfl)) ?_
  rintro _ w2_ ⟨rfl, f2, hf2, hr2, hR2, hF2⟩
  have S := S.set (i := 0) (h' := .row 3 1 A n c (cellsN n f2)) rfl rfl hF2 (fun g h => .inl h) hR2 (fun g h => .inl h)
  rw [hr1 b hb]
  iterate 2 refine rw_v (op_pure rfl) ?_
  first | refine rw_end ?_ | (refine rw_nil ?_; show CW _ _ _ _ _ _) | refine rw_nil ?_
  repeat refine cw_seq ?_
  refine cw_region ?_
  iterate 4 refine rw_v (op_pure rfl) ?_
  rw [show max ((rootF f a : Nat) : Int) ((rootF f b : Nat) : Int) = ((max (rootF f a) (rootF f b) : Nat) : Int) by omega]
  iterate 3 refine rw_v (op_pure rfl) ?_
  rw [show min ((rootF f a : Nat) : Int) ((rootF f b : Nat) : Int) = ((min (rootF f a) (rootF f b) : Nat) : Int) by omega]
  refine rw_v (op_idx Try.underlying95 Try.sizeOf3 rfl rfl sa_F (by omega) (by omega)) ?_
  refine rw_storeR (i := 0) S rfl (Try.sizeOf3 _) rfl rfl rfl rfl (by rw [cellsN_len]; omega) rfl ?_
  intro w3_ S
  rw [Nat.mul_one, Int.toNat_natCast, cellsN_set] at S
  first | refine rw_end ?_ | (refine rw_nil ?_; show CW _ _ _ _ _ _) | refine rw_nil ?_
  have hroot : ∀ x, x < n → f2 (rootF f x) = rootF f x := fun x hx => by
    have := rootF_fix hf2 (i := x) hx
    rwa [hr2 x hx, hr1 x hx] at this
  have hj := join_ok (a := max (rootF f a) (rootF f b)) (b := min (rootF f a) (rootF f b)) hf2 (by omega)
    (by rcases Nat.le_total (rootF f a) (rootF f b) with h | h
        · rw [Nat.max_eq_right h]; exact hroot b hb
        · rw [Nat.max_eq_left h]; exact hroot a ha)
    (by rcases Nat.le_total (rootF f a) (rootF f b) with h | h
        · rw [Nat.min_eq_left h]; exact hroot a ha
        · rw [Nat.min_eq_right h]; exact hroot b hb) (by omega)
  exact res0n ⟨rfl, _, hj.1, fun j hj' => by rw [hj.2 j hj', hr2 j hj', hr1 j hj'], S.row (i := 0) rfl, S.fr⟩
theorem trees_E (n : Nat) (hn : n ≤ 1048576) (W : World) : Fn Try.prog 66 [.int .i64 n] W (RetNew id 3 1 n (cellsN n fun i => i) W) := by
  have S := St.start W
  refine Fn_enter Try.func66 rfl Try.results66 Try.ntmps66 (by kernel_rfl) (by kernel_rfl) ?_
  repeat refine cw_seq ?_
  refine cw_region ?_
  refine rw_v (op_pure rfl) ?_
  first | refine rw_end ?_ | (refine rw_nil ?_; show CW _ _ _ _ _ _) | refine rw_nil ?_
  repeat refine cw_seq ?_
  refine cw_region ?_
  refine rw_v (op_pure rfl) ?_
  refine rw_makeS1 Try.underlying95 info_t3 rfl rfl rfl (n := n) (c := n) (by omega) (by omega) (by omega) (by omega) S ?_
  intro A_F w2_ g2_ S sa_F
  refine rw_v (op_pure rfl) ?_
  first | refine rw_end ?_ | (refine rw_nil ?_; show CW _ _ _ _ _ _) | refine rw_nil ?_
  repeat refine cw_seq ?_
  refine cw_region ?_
  refine rw_v (op_pure rfl) ?_
  refine rw_v (op_len Try.underlying95 rfl) ?_
  refine rw_v (op_pure rfl) ?_
  first | refine rw_end ?_ | (refine rw_nil ?_; show CW _ _ _ _ _ _) | refine rw_nil ?_
  repeat refine cw_seq ?_
  refine cw_block ?_
  repeat refine cw_seq ?_
  refine cw_loop (fun m e w => ∃ k : Nat, k + m = n ∧ SL e [(3, .slice A_F n n), (8, .int .i64 n), (9, .int .i64 k)] ∧ St No W w [.row 3 1 A_F n n (cellsN n fun i => if i < k then i else 0)]) n
    ⟨0, by omega, ⟨rfl, rfl, rfl, trivial⟩, by
      have e : List.replicate n (Value.int .i64 0) = cellsN n (fun i => if i < 0 then i else 0) := by
        symm; rw [List.eq_replicate_iff]
        refine ⟨cellsN_len _ _, fun v hv => ?_⟩
        obtain ⟨i, _, rfl⟩ := List.mem_map.1 hv
        rfl
      rw [← e]; exact S⟩ ?_
  rintro m e w ⟨k, hk, hsl, S⟩
  rw [hsl.fold]
  repeat refine cw_seq ?_
  refine cw_region ?_
  refine rw_v (op_pure rfl) ?_
  first | refine rw_end ?_ | (refine rw_nil ?_; show CW _ _ _ _ _ _) | refine rw_nil ?_
  repeat refine cw_seq ?_
  refine cw_cond rfl (fun hc => ?_) (fun hc => ?_)
  · try simp only [decide_eq_true_eq, decide_eq_false_iff_not, beq_iff_eq, bne_iff_ne, beq_eq_false_iff_ne, bne_eq_false_iff_eq, Bool.not_eq_true', Bool.not_eq_false', ne_eq, Decidable.not_not, Int.natCast_inj, Int.ofNat_lt, Int.ofNat_le, gt_iff_lt, ge_iff_le, Int.not_lt, Int.not_le] at hc
    repeat refine cw_seq ?_
    refine cw_skip ?_
    try show CW _ _ _ _ _ _
    repeat refine cw_seq ?_
    refine cw_block ?_
    repeat refine cw_seq ?_
    refine cw_region ?_
    iterate 2 refine rw_v (op_pure rfl) ?_
    first | refine rw_end ?_ | (refine rw_nil ?_; show CW _ _ _ _ _ _) | refine rw_nil ?_
    repeat refine cw_seq ?_
    refine cw_region ?_
    iterate 3 refine rw_v (op_pure rfl) ?_
    refine rw_v (op_idx Try.underlying95 Try.sizeOf3 rfl rfl sa_F (by omega) (by omega)) ?_
    refine rw_storeR (i := 0) S rfl (Try.sizeOf3 _) rfl rfl rfl rfl (by rw [cellsN_len]; omega) rfl ?_
    intro w3_ S
    rw [Nat.mul_one, Int.toNat_natCast, cellsN_set] at S
    first | refine rw_end ?_ | (refine rw_nil ?_; show CW _ _ _ _ _ _) | refine rw_nil ?_
    repeat refine cw_seq ?_
    refine cw_region ?_
    refine rw_v (op_rng rfl (by omega)) ?_
    refine rw_v (op_pure rfl) ?_
    first | refine rw_end ?_ | (refine rw_nil ?_; show CW _ _ _ _ _ _) | refine rw_nil ?_
    refine ⟨m - 1, by omega, k + 1, by omega, ⟨rfl, rfl, ie (by omega), trivial⟩, S.as_ (i := 0) rfl rfl (fun h => h.congr (cellsN_congr fun i hi => ?_)) (fun g h => h)⟩
    by_cases e : i = k
    · subst e; rw [updF_at, if_pos (by omega)]
    · rw [updF_ne e]
      by_cases h : i < k
      · rw [if_pos h, if_pos (by omega)]
      · rw [if_neg h, if_neg (by omega)]
  · try simp only [decide_eq_true_eq, decide_eq_false_iff_not, beq_iff_eq, bne_iff_ne, beq_eq_false_iff_ne, bne_eq_false_iff_eq, Bool.not_eq_true', Bool.not_eq_false', ne_eq, Decidable.not_not, Int.natCast_inj, Int.ofNat_lt, Int.ofNat_le, gt_iff_lt, ge_iff_le, Int.not_lt, Int.not_le] at hc
    repeat refine cw_seq ?_
    refine cw_exit ?_
    repeat first | refine exit_then ?_ | refine exit_inb ?_
    show CW _ _ _ _ _ _
    repeat refine cw_seq ?_
    refine cw_region ?_
    iterate 2 refine rw_v (op_pure rfl) ?_
    first | refine rw_end ?_ | (refine rw_nil ?_; show CW _ _ _ _ _ _) | refine rw_nil ?_
    repeat refine cw_seq ?_
    refine cw_ret ?_
    repeat first | refine ret_then ?_ | refine ret_inb ?_
    obtain rfl : k = n := by omega
    exact res1 rfl ((S.as_ (i := 0) (h' := .row 3 1 A_F k k (cellsN k fun i => i)) rfl rfl (fun h => h.congr (cellsN_congr fun i hi => if_pos hi)) (fun g h => h)).retNew (i := 0) (mk := id) rfl)
end
end Go.Proofs.Ytiidmiebckkloaa
/- Package regions: a grid's cells, and the sets over a height. -/
namespace Go.Proofs.Ytiidmiebckkloaa
open Go.RowKit
set_option linter.unusedVariables false
set_option linter.unusedSimpArgs false
set_option maxRecDepth 100000

def gridL (gw gh : Nat) (c : Nat → Int) : List Int := (List.range (gw * gh)).map c
theorem gridL_len (gw gh : Nat) (c : Nat → Int) : (gridL gw gh c).length = gw * gh := by simp [gridL]
theorem gridL_made {gw gh : Nat} {V : List Int} (h : V.length = gw * gh) : gridL gw gh (fun i => V.getD i 0) = V := by
  apply List.ext_getElem?
  intro i
  unfold gridL
  by_cases hi : i < gw * gh
  · rw [List.getElem?_map, List.getElem?_range hi, Option.map_some, List.getD_eq_getElem?_getD, List.getElem?_eq_getElem (by omega)]; rfl
  · rw [List.getElem?_eq_none (by simp; omega), List.getElem?_eq_none (by omega)]
theorem getD_at {V : List Int} {i : Nat} (h : i < V.length) : V[i]? = some (V.getD i 0) := by
  rw [List.getD_eq_getElem?_getD, List.getElem?_eq_getElem h]; rfl

/-! ### What hangs together -/
def Side (gw i j : Nat) : Prop := (j + 1 = i ∧ 0 < i % gw) ∨ (i + 1 = j ∧ 0 < j % gw) ∨ j + gw = i ∨ i + gw = j
theorem Side.symm {gw i j : Nat} (h : Side gw i j) : Side gw j i := by unfold Side at *; omega
def Adj (gw : Nat) (V : List Int) (t : Int) (i j : Nat) : Prop := i < V.length ∧ j < V.length ∧ t ≤ V.getD i 0 ∧ t ≤ V.getD j 0 ∧ Side gw i j
theorem Adj.symm {gw : Nat} {V : List Int} {t : Int} {i j : Nat} (h : Adj gw V t i j) : Adj gw V t j i := ⟨h.2.1, h.1, h.2.2.2.1, h.2.2.1, h.2.2.2.2.symm⟩
inductive Conn (gw : Nat) (V : List Int) (t : Int) : Nat → Nat → Prop
  | refl (i : Nat) : Conn gw V t i i
  | step {i j k : Nat} : Adj gw V t i j → Conn gw V t j k → Conn gw V t i k
theorem Conn.trans {gw : Nat} {V : List Int} {t : Int} {i j k : Nat} (h : Conn gw V t i j) (h' : Conn gw V t j k) : Conn gw V t i k := by
  induction h with
  | refl => exact h'
  | step a _ ih => exact .step a (ih h')
theorem Conn.symm {gw : Nat} {V : List Int} {t : Int} {i j : Nat} (h : Conn gw V t i j) : Conn gw V t j i := by
  induction h with
  | refl => exact .refl _
  | step a _ ih => exact ih.trans (.step a.symm (.refl _))
theorem Conn.of_adj {gw : Nat} {V : List Int} {t : Int} {i j : Nat} (h : Adj gw V t i j) : Conn gw V t i j := .step h (.refl _)
/-- the sets behind the first so many cells -/
structure SetsOk (gw : Nat) (V : List Int) (t : Int) (k : Nat) (f : Nat → Nat) : Prop where
  ok : FOk V.length f
  le : k ≤ V.length
  conn : ∀ i, i < V.length → Conn gw V t i (rootF f i)
  left : ∀ i, i < k → t ≤ V.getD i 0 → 0 < i % gw → t ≤ V.getD (i - 1) 0 → rootF f i = rootF f (i - 1)
  up : ∀ i, i < k → t ≤ V.getD i 0 → gw ≤ i → t ≤ V.getD (i - gw) 0 → rootF f i = rootF f (i - gw)
theorem SetsOk.join {gw k : Nat} {V : List Int} {t : Int} {f f' : Nat → Nat} (h : SetsOk gw V t k f) {a b : Nat} (ha : a < V.length) (hb : b < V.length) (hab : Adj gw V t a b) (hok : FOk V.length f')
    (hr : ∀ j, j < V.length → rootF f' j = if rootF f j = max (rootF f a) (rootF f b) then min (rootF f a) (rootF f b) else rootF f j) : SetsOk gw V t k f' ∧ rootF f' a = rootF f' b := by
  have hcab : Conn gw V t (rootF f a) (rootF f b) := ((h.conn a ha).symm.trans (.of_adj hab)).trans (h.conn b hb)
  have key : Conn gw V t (max (rootF f a) (rootF f b)) (min (rootF f a) (rootF f b)) := by
    rcases Nat.le_total (rootF f a) (rootF f b) with e | e
    · rw [Nat.max_eq_right e, Nat.min_eq_left e]; exact hcab.symm
    · rw [Nat.max_eq_left e, Nat.min_eq_right e]; exact hcab
  have same : ∀ i j, i < V.length → j < V.length → rootF f i = rootF f j → rootF f' i = rootF f' j := fun i j hi hj e => by rw [hr i hi, hr j hj, e]
  have hle := h.le
  refine ⟨⟨hok, hle, fun i hi => ?_, fun i hi h1 h2 h3 => same _ _ (by omega) (by omega) (h.left i hi h1 h2 h3), fun i hi h1 h2 h3 => same _ _ (by omega) (by omega) (h.up i hi h1 h2 h3)⟩, ?_⟩
  · rw [hr i hi]
    split
    · rename_i e
      have := h.conn i hi
      rw [e] at this
      exact this.trans key
    · exact h.conn i hi
  · rw [hr a ha, hr b hb]
    rcases Nat.le_total (rootF f a) (rootF f b) with e | e
    · rw [Nat.max_eq_right e, Nat.min_eq_left e, if_pos rfl]
      split <;> omega
    · rw [Nat.max_eq_left e, Nat.min_eq_right e, if_pos rfl]
      split <;> omega

section
variable {W : World} {A : Option Addr} {p gw gh cap c : Nat} {V : List Int}
theorem regof_E {cc : Nat → Int} {bs : Nat → Nat} {Rs : Nat → Option Nat} (hG : GridAt W p gw gh cc A cap bs Rs) :
    Fn Try.prog 37 [.pointer (some ⟨p, 0, none⟩)] W (RetNew (fun v => .tuple #[.agg #[.int .i64 gw, .int .i64 gh, v], .int .i64 0]) 2 1 (gw * gh) (ints (gridL gw gh cc)) W) := by
  have hw := hG.sw
  have hh := hG.sh
  have e1 : ((gw : Int) - 1) = ((gw - 1 : Nat) : Int) := by omega
  have e2 : ((gh : Int) - 1) = ((gh - 1 : Nat) : Int) := by omega
  have hval : ∀ w, Gr W w → Fn Try.prog 19 [.pointer (some ⟨p, 0, none⟩), .agg #[.int .i64 0, .int .i64 0, .int .i64 (gw - 1), .int .i64 (gh - 1)]] w (RetNew (fun v => .tuple #[v, .int .i64 0]) 2 1 (gw * gh) (ints (gridL gw gh cc)) w) := fun w g => by
    have := gvalues_E (W := w) 0 0 (gw - 1) (gh - 1) (by omega) (by omega) (hG.gr g)
    rw [← e1, ← e2, show gw - 1 + 1 - 0 = gw by omega, show gh - 1 + 1 - 0 = gh by omega, rectV_all, Nat.mul_comm gh gw] at this
    exact this
  have S := St.start W
  refine Fn_enter Try.func37 rfl Try.results37 Try.ntmps37 (by kernel_rfl) (by kernel_rfl) ?_
  repeat refine cw_seq ?_
  refine cw_region ?_
  refine rw_newB (op_alloc Try.zeroValue91 rfl) S ?_
  intro b_b1 w2_ g2_ S
  refine rw_v (op_pure rfl) ?_
  first | refine rw_end ?_ | (refine rw_nil ?_; show CW _ _ _ _ _ _) | refine rw_nil ?_
  repeat refine cw_seq ?_
  refine cw_region ?_
  refine rw_v (op_pure rfl) ?_
  refine rw_v (op_nilp Try.underlying35 rfl rfl) ?_
  first | refine rw_end ?_ | (refine rw_nil ?_; show CW _ _ _ _ _ _) | refine rw_nil ?_
  repeat refine cw_seq ?_
  refine cw_false rfl ?_
  repeat refine cw_seq ?_
  refine cw_skip ?_
  try show CW _ _ _ _ _ _
  repeat refine cw_seq ?_
  refine cw_region ?_
  refine rw_v (op_pure rfl) ?_
  refine rw_call rfl (gsize_E p gw gh _ w2_ (hG.top.gr S.out)) ?_
  rintro _ w3_ ⟨rfl, g3_⟩
  have S := S.gr g3_
  iterate 5 refine rw_v (op_pure rfl) ?_
  first | refine rw_end ?_ | (refine rw_nil ?_; show CW _ _ _ _ _ _) | refine rw_nil ?_
  repeat refine cw_seq ?_
  refine cw_region ?_
  iterate 2 refine rw_v (op_pure rfl) ?_
  refine rw_call rfl (gall_E p gw gh hw.2 hh.2 _ w3_ (hG.top.gr S.out)) ?_
  rintro _ w4_ ⟨rfl, g4_⟩
  have S := S.gr g4_
  refine rw_call rfl (hval w4_ S.out) ?_
  rintro _ w5_ ⟨A_vs, c_vs, rfl, hR_vs, hf_vs, g5_⟩
  have S := S.pushRow hR_vs hf_vs g5_
  iterate 5 refine rw_v (op_pure rfl) ?_
  first | refine rw_end ?_ | (refine rw_nil ?_; show CW _ _ _ _ _ _) | refine rw_nil ?_
  repeat refine cw_seq ?_
  refine cw_region ?_
  iterate 3 refine rw_v (op_pure rfl) ?_
  refine rw_v (op_build (pl := [(0, 1), (1, 1), (2, 1)]) Try.underlying91 Try.zeroValue91 (fun w => by kernel_rfl) rfl rfl) ?_
  refine rw_storeSA (i := 1) S rfl (Try.sizeOf91 _) rfl rfl rfl rfl rfl rfl ?_
  intro w6_ S
  refine rw_v (op_pure rfl) ?_
  first | refine rw_end ?_ | (refine rw_nil ?_; show CW _ _ _ _ _ _) | refine rw_nil ?_
  repeat refine cw_seq ?_
  refine cw_ret ?_
  repeat first | refine ret_then ?_ | refine ret_inb ?_
  exact resAT Try.underlying91 rfl (Try.sizeOf91 _) rfl (S.blk (i := 1) rfl) rfl rfl rfl ⟨A_vs, c_vs, rfl, S.row (i := 0) rfl, SepL.fresh S (i := 0) rfl, S.out⟩
theorem regat_E (i : Nat) (gh : Int) (n : Nat) (hgw : 1 ≤ gw) (hi : i ≤ 1048576) : Fn Try.prog 42 [.agg #[.int .i64 gw, .int .i64 gh, .slice A n c], .int .i64 i] W (RetG (.agg #[.int .i64 (i % gw : Nat), .int .i64 (i / gw : Nat)]) W) := by
  have e1 : (i : Int) % gw = ((i % gw : Nat) : Int) := by push_cast; rfl
  have e2 : (i : Int) / gw = ((i / gw : Nat) : Int) := by push_cast; rfl
  have S := St.start W
  refine Fn_enter Try.func42 rfl Try.results42 Try.ntmps42 (by kernel_rfl) (by kernel_rfl) ?_
  repeat refine cw_seq ?_
  refine cw_region ?_
  refine rw_newB (op_box rfl) S ?_
  intro b_b1 w2_ g2_ S
  refine rw_newB (op_alloc Try.zeroValue40 rfl) S ?_
  intro b_b3 w4_ g4_ S
  first | refine rw_end ?_ | (refine rw_nil ?_; show CW _ _ _ _ _ _) | refine rw_nil ?_
  repeat refine cw_seq ?_
  refine cw_draw (C := fun wq => Gr w4_ wq) [0, 1, 2, 3, 4, 5, 6, 7] [8, 9] (by kernel_rfl) (by kernel_rfl) (Gr.drew _) ?_
  simp only [pickL, List.drop_succ_cons, List.drop_zero]
  refine rq_v (op_pure rfl) ?_
  refine rq_v (op_fieldAddr Try.underlying91 rfl Try.sizeOf3 rfl rfl) ?_
  refine rq_r (fun wq hq => op_loadB Try.underlying3 rfl rfl ((S.gr hq).blk (i := 1) rfl) rfl) ?_
  refine rq_v (op_rem rfl rfl (by omega) (by omega)) ?_
  rw [e1]
  refine rq_v (op_pure rfl) ?_
  refine rq_v (op_fieldAddr Try.underlying91 rfl Try.sizeOf3 rfl rfl) ?_
  refine rq_r (fun wq hq => op_loadB Try.underlying3 rfl rfl ((S.gr hq).blk (i := 1) rfl) rfl) ?_
  refine rq_v (op_div rfl rfl (by omega) (by omega)) ?_
  rw [e2]
  refine rq_nil ?_
  intro w5_ g5_
  have S := S.gr g5_
  refine rw_v (op_build (pl := [(0, 1), (1, 1)]) Try.underlying40 Try.zeroValue40 (fun w => by kernel_rfl) rfl rfl) ?_
  refine rw_storeSA (i := 0) S rfl (Try.sizeOf40 _) rfl rfl rfl rfl rfl rfl ?_
  intro w6_ S
  first | refine rw_end ?_ | (refine rw_nil ?_; show CW _ _ _ _ _ _) | refine rw_nil ?_
  repeat refine cw_seq ?_
  refine cw_ret ?_
  repeat first | refine ret_then ?_ | refine ret_inb ?_
  exact resA Try.underlying40 rfl (Try.sizeOf40 _) rfl (S.blk (i := 0) rfl) rfl rfl ⟨rfl, S.out⟩
set_option maxHeartbeats 2000000 in
theorem sets_E (t : Int) (gh : Int) (hgw : 1 ≤ gw) (hV : V.length ≤ 1048576) (hV1 : 1 ≤ V.length) (hgwV : gw ≤ V.length) (hA : Rd W A (ints V)) :
    Fn Try.prog 39 [.agg #[.int .i64 gw, .int .i64 gh, .slice A V.length c], .int .i64 t] W (fun v w' => ∃ f, SetsOk gw V t V.length f ∧ RetNew id 3 1 V.length (cellsN V.length f) W v w') := by
  have sa_A : SomeA A := hA.someA (by rw [ints_len]; omega)
  have hget : ∀ i, i < V.length → (ints V)[(i : Int).toNat * 1]? = some (.int .i64 (V.getD i 0)) := fun i hi => by rw [Nat.mul_one, Int.toNat_natCast]; exact ints_get (getD_at hi)
  have S := St.start W
  refine Fn_enter Try.func39 rfl Try.results39 Try.ntmps39 (by kernel_rfl) (by kernel_rfl) ?_
  repeat refine cw_seq ?_
  refine cw_region ?_
  refine rw_newB (op_box rfl) S ?_
  intro b_l w2_ g2_ S
  refine rw_v (op_pure rfl) ?_
  first | refine rw_end ?_ | (refine rw_nil ?_; show CW _ _ _ _ _ _) | refine rw_nil ?_
  repeat refine cw_seq ?_
  refine cw_region ?_
  refine rw_v (op_fieldAddr Try.underlying91 rfl Try.sizeOf30 rfl rfl) ?_
  refine rw_r (op_loadB Try.underlying30 rfl rfl (S.blk (i := 0) rfl) rfl) ?_
  refine rw_v (op_len Try.underlying30 rfl) ?_
  refine rw_call rfl (trees_E V.length hV w2_) ?_
  rintro _ w3_ ⟨A_F, c_F, rfl, hR_F, hf_F, g3_⟩
  have S := S.pushRow hR_F hf_F g3_
  refine rw_v (op_pure rfl) ?_
  first | refine rw_end ?_ | (refine rw_nil ?_; show CW _ _ _ _ _ _) | refine rw_nil ?_
  repeat refine cw_seq ?_
  refine cw_region ?_
  refine rw_v (op_fieldAddr Try.underlying91 rfl Try.sizeOf30 rfl rfl) ?_
  refine rw_r (op_loadB Try.underlying30 rfl rfl (S.blk (i := 1) rfl) rfl) ?_
  refine rw_v (op_len Try.underlying30 rfl) ?_
  refine rw_v (op_pure rfl) ?_
  first | refine rw_end ?_ | (refine rw_nil ?_; show CW _ _ _ _ _ _) | refine rw_nil ?_
  repeat refine cw_seq ?_
  refine cw_block ?_
  repeat refine cw_seq ?_
  refine cw_loop (fun m e w => ∃ (k : Nat) (f : Nat → Nat), k + m = V.length ∧ SL e [(1, .int .i64 t), (2, .pointer (some ⟨b_l, 0, none⟩)), (5, .slice A_F V.length c_F), (13, .slice A V.length c), (14, .int .i64 V.length), (15, .int .i64 k)] ∧ SetsOk gw V t k f ∧
    St No W w [.row 3 1 A_F V.length c_F (cellsN V.length f), .blk b_l 91 [.int .i64 gw, .int .i64 gh, .slice A V.length c]]) V.length
    ⟨0, fun i => i, by omega, ⟨rfl, rfl, rfl, rfl, rfl, rfl, trivial⟩, ⟨fun i _ => Nat.le_refl i, Nat.zero_le _, fun i _ => by rw [rootF_ge (by omega)]; exact .refl _, fun i hi => by omega, fun i hi => by omega⟩, S⟩ ?_
  rintro m e w ⟨k, f, hk, hsl, hf, S⟩
  rw [hsl.fold]
  repeat refine cw_seq ?_
  refine cw_region ?_
  refine rw_v (op_pure rfl) ?_
  first | refine rw_end ?_ | (refine rw_nil ?_; show CW _ _ _ _ _ _) | refine rw_nil ?_
  repeat refine cw_seq ?_
  refine cw_cond rfl (fun hc => ?_) (fun hc => ?_)
  · try simp only [decide_eq_true_eq, decide_eq_false_iff_not, beq_iff_eq, bne_iff_ne, beq_eq_false_iff_ne, bne_eq_false_iff_eq, Bool.not_eq_true', Bool.not_eq_false', ne_eq, Decidable.not_not, Int.natCast_inj, Int.ofNat_lt, Int.ofNat_le, gt_iff_lt, ge_iff_le, Int.not_lt, Int.not_le] at hc
    have hkV : k < V.length := by omega
    have hgk := hget k hkV
    repeat refine cw_seq ?_
    refine cw_skip ?_
    try show CW _ _ _ _ _ _
    repeat refine cw_seq ?_
    refine cw_block ?_
    repeat refine cw_seq ?_
    refine cw_region ?_
    refine rw_v (op_pure rfl) ?_
    refine rw_v (op_idx Try.underlying30 Try.sizeOf2 rfl rfl sa_A (by omega) (by omega)) ?_
    refine rw_r (op_ldR Try.underlying2 rfl rfl (hA.gr S.out) hgk) ?_
    iterate 2 refine rw_v (op_pure rfl) ?_
    first | refine rw_end ?_ | (refine rw_nil ?_; show CW _ _ _ _ _ _) | refine rw_nil ?_
    repeat refine cw_seq ?_
    refine cw_region ?_
    iterate 3 refine rw_v (op_pure rfl) ?_
    first | refine rw_end ?_ | (refine rw_nil ?_; show CW _ _ _ _ _ _) | refine rw_nil ?_
    repeat refine cw_seq ?_
    refine cw_cond rfl (fun hlow => ?_) (fun hlow => ?_)
    · try simp only [decide_eq_true_eq, decide_eq_false_iff_not, beq_iff_eq, bne_iff_ne, beq_eq_false_iff_ne, bne_eq_false_iff_eq, Bool.not_eq_true', Bool.not_eq_false', ne_eq, Decidable.not_not, Int.natCast_inj, Int.ofNat_lt, Int.ofNat_le, gt_iff_lt, ge_iff_le, Int.not_lt, Int.not_le] at hlow
      repeat refine cw_seq ?_
      refine cw_exit ?_
      repeat first | refine exit_then ?_ | refine exit_inb ?_
      show CW _ _ _ _ _ _
      repeat refine cw_seq ?_
      refine cw_region ?_
      refine rw_v (op_rng rfl (by omega)) ?_
      refine rw_v (op_pure rfl) ?_
      first | refine rw_end ?_ | (refine rw_nil ?_; show CW _ _ _ _ _ _) | refine rw_nil ?_
      refine ⟨m - 1, by omega, k + 1, f, by omega, ⟨rfl, rfl, rfl, rfl, rfl, ie (by omega), trivial⟩, ⟨hf.ok, hkV, hf.conn, fun i hi h1 h2 h3 => ?_, fun i hi h1 h2 h3 => ?_⟩, S⟩
      · by_cases e : i = k
        · subst e; omega
        · exact hf.left i (by omega) h1 h2 h3
      · by_cases e : i = k
        · subst e; omega
        · exact hf.up i (by omega) h1 h2 h3
    · try simp only [decide_eq_true_eq, decide_eq_false_iff_not, beq_iff_eq, bne_iff_ne, beq_eq_false_iff_ne, bne_eq_false_iff_eq, Bool.not_eq_true', Bool.not_eq_false', ne_eq, Decidable.not_not, Int.natCast_inj, Int.ofNat_lt, Int.ofNat_le, gt_iff_lt, ge_iff_le, Int.not_lt, Int.not_le] at hlow
      repeat refine cw_seq ?_
      refine cw_skip ?_
      try show CW _ _ _ _ _ _
      have em : (k : Int) % gw = ((k % gw : Nat) : Int) := by push_cast; rfl
      repeat refine cw_seq ?_
      refine cw_cutT (M := fun e w => SL e [(1, .int .i64 t), (2, .pointer (some ⟨b_l, 0, none⟩)), (5, .slice A_F V.length c_F), (6, .int .i64 k), (13, .slice A V.length c), (14, .int .i64 V.length), (15, .int .i64 k), (37, .bool (decide (0 < k % gw ∧ t ≤ V.getD (k - 1) 0)))] ∧ St No W w [.row 3 1 A_F V.length c_F (cellsN V.length f), .blk b_l 91 [.int .i64 gw, .int .i64 gh, .slice A V.length c]]) ?_ ?_
      · by_cases h1 : 0 < k % gw
        · have hk1 : 1 ≤ k := by rcases Nat.eq_zero_or_pos k with h | h; · subst h; simp at h1
                                 · exact h
          have hgk1 := hget (k - 1) (by omega)
          rw [show ((k - 1 : Nat) : Int) = (k : Int) - 1 by omega] at hgk1
          by_cases h2 : t ≤ V.getD (k - 1) 0
          · skip
            repeat refine cw_seq ?_
            refine cw_region ?_
            refine rw_v (op_pure rfl) ?_
            refine rw_v (op_fieldAddr Try.underlying91 rfl Try.sizeOf3 rfl rfl) ?_
            refine rw_r (op_loadB Try.underlying3 rfl rfl (S.blk (i := 1) rfl) rfl) ?_
            refine rw_v (op_rem rfl rfl (by omega) (by omega)) ?_
            rw [em]
            first | refine rw_v (op_b (b := true) rfl (decide_eq_true (by omega))) ?_ | refine rw_v (op_b (b := false) rfl (decide_eq_false (by omega))) ?_ | refine rw_v (op_pure rfl) ?_
            refine rw_v (op_pure rfl) ?_
            first | refine rw_off rfl ?_ | (refine rw_on rfl ?_; refine rw_v (op_fieldAddr Try.underlying91 rfl Try.sizeOf30 rfl rfl) ?_)
            first | refine rw_off rfl ?_ | (refine rw_on rfl ?_; refine rw_r (op_loadB Try.underlying30 rfl rfl (S.blk (i := 1) rfl) rfl) ?_)
            first | refine rw_off rfl ?_ | (refine rw_on rfl ?_; refine rw_v (op_pure rfl) ?_)
            first | refine rw_off rfl ?_ | (refine rw_on rfl ?_; refine rw_v (op_rng rfl (by omega)) ?_)
            first | refine rw_off rfl ?_ | (refine rw_on rfl ?_; refine rw_v (op_idx Try.underlying30 Try.sizeOf2 rfl rfl sa_A (by omega) (by omega)) ?_)
            first | refine rw_off rfl ?_ | (refine rw_on rfl ?_; refine rw_r (op_ldR Try.underlying2 rfl rfl (hA.gr S.out) hgk1) ?_)
            first | refine rw_off rfl ?_ | (refine rw_on rfl ?_; refine rw_v (op_pure rfl) ?_)
            first | refine rw_off rfl ?_ | (refine rw_on rfl ?_; (first | refine rw_v (op_b (b := true) rfl (decide_eq_true (by omega))) ?_ | refine rw_v (op_b (b := false) rfl (decide_eq_false (by omega))) ?_ | refine rw_v (op_pure rfl) ?_))
            refine rw_v (op_pure rfl) ?_
            first | refine rw_end ?_ | (refine rw_nil ?_; show CW _ _ _ _ _ _) | refine rw_nil ?_
            exact ⟨⟨rfl, rfl, rfl, rfl, rfl, rfl, rfl, be (decide_eq_true ⟨h1, h2⟩).symm, trivial⟩, S⟩
          · skip
            repeat refine cw_seq ?_
            refine cw_region ?_
            refine rw_v (op_pure rfl) ?_
            refine rw_v (op_fieldAddr Try.underlying91 rfl Try.sizeOf3 rfl rfl) ?_
            refine rw_r (op_loadB Try.underlying3 rfl rfl (S.blk (i := 1) rfl) rfl) ?_
            refine rw_v (op_rem rfl rfl (by omega) (by omega)) ?_
            rw [em]
            first | refine rw_v (op_b (b := true) rfl (decide_eq_true (by omega))) ?_ | refine rw_v (op_b (b := false) rfl (decide_eq_false (by omega))) ?_ | refine rw_v (op_pure rfl) ?_
            refine rw_v (op_pure rfl) ?_
            first | refine rw_off rfl ?_ | (refine rw_on rfl ?_; refine rw_v (op_fieldAddr Try.underlying91 rfl Try.sizeOf30 rfl rfl) ?_)
            first | refine rw_off rfl ?_ | (refine rw_on rfl ?_; refine rw_r (op_loadB Try.underlying30 rfl rfl (S.blk (i := 1) rfl) rfl) ?_)
            first | refine rw_off rfl ?_ | (refine rw_on rfl ?_; refine rw_v (op_pure rfl) ?_)
            first | refine rw_off rfl ?_ | (refine rw_on rfl ?_; refine rw_v (op_rng rfl (by omega)) ?_)
            first | refine rw_off rfl ?_ | (refine rw_on rfl ?_; refine rw_v (op_idx Try.underlying30 Try.sizeOf2 rfl rfl sa_A (by omega) (by omega)) ?_)
            first | refine rw_off rfl ?_ | (refine rw_on rfl ?_; refine rw_r (op_ldR Try.underlying2 rfl rfl (hA.gr S.out) hgk1) ?_)
            first | refine rw_off rfl ?_ | (refine rw_on rfl ?_; refine rw_v (op_pure rfl) ?_)
            first | refine rw_off rfl ?_ | (refine rw_on rfl ?_; (first | refine rw_v (op_b (b := true) rfl (decide_eq_true (by omega))) ?_ | refine rw_v (op_b (b := false) rfl (decide_eq_false (by omega))) ?_ | refine rw_v (op_pure rfl) ?_))
            refine rw_v (op_pure rfl) ?_
            first | refine rw_end ?_ | (refine rw_nil ?_; show CW _ _ _ _ _ _) | refine rw_nil ?_
            exact ⟨⟨rfl, rfl, rfl, rfl, rfl, rfl, rfl, be (decide_eq_false fun h => h2 h.2).symm, trivial⟩, S⟩
        · skip
          repeat refine cw_seq ?_
          refine cw_region ?_
          refine rw_v (op_pure rfl) ?_
          refine rw_v (op_fieldAddr Try.underlying91 rfl Try.sizeOf3 rfl rfl) ?_
          refine rw_r (op_loadB Try.underlying3 rfl rfl (S.blk (i := 1) rfl) rfl) ?_
          refine rw_v (op_rem rfl rfl (by omega) (by omega)) ?_
          rw [em]
          first | refine rw_v (op_b (b := true) rfl (decide_eq_true (by omega))) ?_ | refine rw_v (op_b (b := false) rfl (decide_eq_false (by omega))) ?_ | refine rw_v (op_pure rfl) ?_
          refine rw_v (op_pure rfl) ?_
          first | refine rw_off rfl ?_ | (refine rw_on rfl ?_; refine rw_v (op_fieldAddr Try.underlying91 rfl Try.sizeOf30 rfl rfl) ?_)
          first | refine rw_off rfl ?_ | (refine rw_on rfl ?_; refine rw_r (op_loadB Try.underlying30 rfl rfl (S.blk (i := 1) rfl) rfl) ?_)
          first | refine rw_off rfl ?_ | (refine rw_on rfl ?_; refine rw_v (op_pure rfl) ?_)
          first | refine rw_off rfl ?_ | (refine rw_on rfl ?_; refine rw_v (op_rng rfl (by omega)) ?_)
          first | refine rw_off rfl ?_ | (refine rw_on rfl ?_; refine rw_v (op_idx Try.underlying30 Try.sizeOf2 rfl rfl sa_A (by omega) (by omega)) ?_)
          first | refine rw_off rfl ?_ | (refine rw_on rfl ?_; refine rw_r (op_ldR Try.underlying2 rfl rfl (hA.gr S.out) (by assumption)) ?_)
          first | refine rw_off rfl ?_ | (refine rw_on rfl ?_; refine rw_v (op_pure rfl) ?_)
          first | refine rw_off rfl ?_ | (refine rw_on rfl ?_; (first | refine rw_v (op_b (b := true) rfl (decide_eq_true (by omega))) ?_ | refine rw_v (op_b (b := false) rfl (decide_eq_false (by omega))) ?_ | refine rw_v (op_pure rfl) ?_))
          refine rw_v (op_pure rfl) ?_
          first | refine rw_end ?_ | (refine rw_nil ?_; show CW _ _ _ _ _ _) | refine rw_nil ?_
          exact ⟨⟨rfl, rfl, rfl, rfl, rfl, rfl, rfl, be (decide_eq_false fun h => h1 h.1).symm, trivial⟩, S⟩
      · rintro e1 w1 ⟨hsl, S⟩
        rw [hsl.fold]
        repeat refine cw_seq ?_
        refine cw_cutT (M := fun e w => ∃ f, SetsOk gw V t k f ∧ (0 < k % gw → t ≤ V.getD (k - 1) 0 → rootF f k = rootF f (k - 1)) ∧ SL e [(1, .int .i64 t), (2, .pointer (some ⟨b_l, 0, none⟩)), (5, .slice A_F V.length c_F), (6, .int .i64 k), (13, .slice A V.length c), (14, .int .i64 V.length), (15, .int .i64 k)] ∧ St No W w [.row 3 1 A_F V.length c_F (cellsN V.length f), .blk b_l 91 [.int .i64 gw, .int .i64 gh, .slice A V.length c]]) ?_ ?_
        · skip
          repeat refine cw_seq ?_
          refine cw_cond rfl (fun hl => ?_) (fun hl => ?_)
          · try simp only [decide_eq_true_eq, decide_eq_false_iff_not, beq_iff_eq, bne_iff_ne, beq_eq_false_iff_ne, bne_eq_false_iff_eq, Bool.not_eq_true', Bool.not_eq_false', ne_eq, Decidable.not_not, Int.natCast_inj, Int.ofNat_lt, Int.ofNat_le, gt_iff_lt, ge_iff_le, Int.not_lt, Int.not_le] at hl
            have hk1 : 1 ≤ k := by rcases Nat.eq_zero_or_pos k with h | h; · subst h; simp at hl
                                   · exact h
            have hadj : Adj gw V t k (k - 1) := ⟨hkV, by omega, hlow, hl.2, .inl ⟨by omega, hl.1⟩⟩
            repeat refine cw_seq ?_
            refine cw_region ?_
            iterate 3 refine rw_v (op_pure rfl) ?_
            refine rw_v (op_rng rfl (by omega)) ?_
            rw [show (k : Int) - 1 = ((k - 1 : Nat) : Int) by omega]
            refine rw_call rfl (join_E k (k - 1) hV hkV (by omega) hf.ok (S.row (i := 0) rfl)) ?_
            rintro _ w4_ ⟨rfl, f1, hf1, hr1, hR1, hF1⟩
            have S := S.set (i := 0) (h' := .row 3 1 A_F V.length c_F (cellsN V.length f1)) rfl rfl hF1 (fun g h => .inl h) hR1 (fun g h => .inl h)
            first | refine rw_end ?_ | (refine rw_nil ?_; show CW _ _ _ _ _ _) | refine rw_nil ?_
            have hj := hf.join hkV (by omega) hadj hf1 hr1
            exact ⟨f1, hj.1, fun _ _ => hj.2, ⟨rfl, rfl, rfl, rfl, rfl, rfl, rfl, trivial⟩, S⟩
          · try simp only [decide_eq_true_eq, decide_eq_false_iff_not, beq_iff_eq, bne_iff_ne, beq_eq_false_iff_ne, bne_eq_false_iff_eq, Bool.not_eq_true', Bool.not_eq_false', ne_eq, Decidable.not_not, Int.natCast_inj, Int.ofNat_lt, Int.ofNat_le, gt_iff_lt, ge_iff_le, Int.not_lt, Int.not_le] at hl
            repeat refine cw_seq ?_
            refine cw_skip ?_
            try show CW _ _ _ _ _ _
            exact ⟨f, hf, fun h1 h2 => absurd ⟨h1, h2⟩ hl, ⟨rfl, rfl, rfl, rfl, rfl, rfl, rfl, trivial⟩, S⟩
        · rintro e2 w2 ⟨f2, hf2, hleft, hsl, S⟩
          rw [hsl.fold]
          repeat refine cw_seq ?_
          refine cw_cutT (M := fun e w => SL e [(1, .int .i64 t), (2, .pointer (some ⟨b_l, 0, none⟩)), (5, .slice A_F V.length c_F), (6, .int .i64 k), (13, .slice A V.length c), (14, .int .i64 V.length), (15, .int .i64 k), (58, .bool (decide (gw ≤ k ∧ t ≤ V.getD (k - gw) 0)))] ∧ St No W w [.row 3 1 A_F V.length c_F (cellsN V.length f2), .blk b_l 91 [.int .i64 gw, .int .i64 gh, .slice A V.length c]]) ?_ ?_
          · by_cases h1 : gw ≤ k
            · have hgk1 := hget (k - gw) (by omega)
              rw [show ((k - gw : Nat) : Int) = (k : Int) - gw by omega] at hgk1
              by_cases h2 : t ≤ V.getD (k - gw) 0
              · skip
                repeat refine cw_seq ?_
                refine cw_region ?_
                refine rw_v (op_pure rfl) ?_
                refine rw_v (op_fieldAddr Try.underlying91 rfl Try.sizeOf3 rfl rfl) ?_
                refine rw_r (op_loadB Try.underlying3 rfl rfl (S.blk (i := 1) rfl) rfl) ?_
                first | refine rw_v (op_b (b := true) rfl (decide_eq_true (by omega))) ?_ | refine rw_v (op_b (b := false) rfl (decide_eq_false (by omega))) ?_ | refine rw_v (op_pure rfl) ?_
                refine rw_v (op_pure rfl) ?_
                first | refine rw_off rfl ?_ | (refine rw_on rfl ?_; refine rw_v (op_fieldAddr Try.underlying91 rfl Try.sizeOf30 rfl rfl) ?_)
                first | refine rw_off rfl ?_ | (refine rw_on rfl ?_; refine rw_r (op_loadB Try.underlying30 rfl rfl (S.blk (i := 1) rfl) rfl) ?_)
                first | refine rw_off rfl ?_ | (refine rw_on rfl ?_; refine rw_v (op_pure rfl) ?_)
                first | refine rw_off rfl ?_ | (refine rw_on rfl ?_; refine rw_v (op_fieldAddr Try.underlying91 rfl Try.sizeOf3 rfl rfl) ?_)
                first | refine rw_off rfl ?_ | (refine rw_on rfl ?_; refine rw_r (op_loadB Try.underlying3 rfl rfl (S.blk (i := 1) rfl) rfl) ?_)
                first | refine rw_off rfl ?_ | (refine rw_on rfl ?_; refine rw_v (op_rng rfl (by omega)) ?_)
                first | refine rw_off rfl ?_ | (refine rw_on rfl ?_; refine rw_v (op_idx Try.underlying30 Try.sizeOf2 rfl rfl sa_A (by omega) (by omega)) ?_)
                first | refine rw_off rfl ?_ | (refine rw_on rfl ?_; refine rw_r (op_ldR Try.underlying2 rfl rfl (hA.gr S.out) hgk1) ?_)
                first | refine rw_off rfl ?_ | (refine rw_on rfl ?_; refine rw_v (op_pure rfl) ?_)
                first | refine rw_off rfl ?_ | (refine rw_on rfl ?_; (first | refine rw_v (op_b (b := true) rfl (decide_eq_true (by omega))) ?_ | refine rw_v (op_b (b := false) rfl (decide_eq_false (by omega))) ?_ | refine rw_v (op_pure rfl) ?_))
                refine rw_v (op_pure rfl) ?_
                first | refine rw_end ?_ | (refine rw_nil ?_; show CW _ _ _ _ _ _) | refine rw_nil ?_
                exact ⟨⟨rfl, rfl, rfl, rfl, rfl, rfl, rfl, be (decide_eq_true ⟨h1, h2⟩).symm, trivial⟩, S⟩
              · skip
                repeat refine cw_seq ?_
                refine cw_region ?_
                refine rw_v (op_pure rfl) ?_
                refine rw_v (op_fieldAddr Try.underlying91 rfl Try.sizeOf3 rfl rfl) ?_
                refine rw_r (op_loadB Try.underlying3 rfl rfl (S.blk (i := 1) rfl) rfl) ?_
                first | refine rw_v (op_b (b := true) rfl (decide_eq_true (by omega))) ?_ | refine rw_v (op_b (b := false) rfl (decide_eq_false (by omega))) ?_ | refine rw_v (op_pure rfl) ?_
                refine rw_v (op_pure rfl) ?_
                first | refine rw_off rfl ?_ | (refine rw_on rfl ?_; refine rw_v (op_fieldAddr Try.underlying91 rfl Try.sizeOf30 rfl rfl) ?_)
                first | refine rw_off rfl ?_ | (refine rw_on rfl ?_; refine rw_r (op_loadB Try.underlying30 rfl rfl (S.blk (i := 1) rfl) rfl) ?_)
                first | refine rw_off rfl ?_ | (refine rw_on rfl ?_; refine rw_v (op_pure rfl) ?_)
                first | refine rw_off rfl ?_ | (refine rw_on rfl ?_; refine rw_v (op_fieldAddr Try.underlying91 rfl Try.sizeOf3 rfl rfl) ?_)
                first | refine rw_off rfl ?_ | (refine rw_on rfl ?_; refine rw_r (op_loadB Try.underlying3 rfl rfl (S.blk (i := 1) rfl) rfl) ?_)
                first | refine rw_off rfl ?_ | (refine rw_on rfl ?_; refine rw_v (op_rng rfl (by omega)) ?_)
                first | refine rw_off rfl ?_ | (refine rw_on rfl ?_; refine rw_v (op_idx Try.underlying30 Try.sizeOf2 rfl rfl sa_A (by omega) (by omega)) ?_)
                first | refine rw_off rfl ?_ | (refine rw_on rfl ?_; refine rw_r (op_ldR Try.underlying2 rfl rfl (hA.gr S.out) hgk1) ?_)
                first | refine rw_off rfl ?_ | (refine rw_on rfl ?_; refine rw_v (op_pure rfl) ?_)
                first | refine rw_off rfl ?_ | (refine rw_on rfl ?_; (first | refine rw_v (op_b (b := true) rfl (decide_eq_true (by omega))) ?_ | refine rw_v (op_b (b := false) rfl (decide_eq_false (by omega))) ?_ | refine rw_v (op_pure rfl) ?_))
                refine rw_v (op_pure rfl) ?_
                first | refine rw_end ?_ | (refine rw_nil ?_; show CW _ _ _ _ _ _) | refine rw_nil ?_
                exact ⟨⟨rfl, rfl, rfl, rfl, rfl, rfl, rfl, be (decide_eq_false fun h => h2 h.2).symm, trivial⟩, S⟩
            · skip
              repeat refine cw_seq ?_
              refine cw_region ?_
              refine rw_v (op_pure rfl) ?_
              refine rw_v (op_fieldAddr Try.underlying91 rfl Try.sizeOf3 rfl rfl) ?_
              refine rw_r (op_loadB Try.underlying3 rfl rfl (S.blk (i := 1) rfl) rfl) ?_
              first | refine rw_v (op_b (b := true) rfl (decide_eq_true (by omega))) ?_ | refine rw_v (op_b (b := false) rfl (decide_eq_false (by omega))) ?_ | refine rw_v (op_pure rfl) ?_
              refine rw_v (op_pure rfl) ?_
              first | refine rw_off rfl ?_ | (refine rw_on rfl ?_; refine rw_v (op_fieldAddr Try.underlying91 rfl Try.sizeOf30 rfl rfl) ?_)
              first | refine rw_off rfl ?_ | (refine rw_on rfl ?_; refine rw_r (op_loadB Try.underlying30 rfl rfl (S.blk (i := 1) rfl) rfl) ?_)
              first | refine rw_off rfl ?_ | (refine rw_on rfl ?_; refine rw_v (op_pure rfl) ?_)
              first | refine rw_off rfl ?_ | (refine rw_on rfl ?_; refine rw_v (op_fieldAddr Try.underlying91 rfl Try.sizeOf3 rfl rfl) ?_)
              first | refine rw_off rfl ?_ | (refine rw_on rfl ?_; refine rw_r (op_loadB Try.underlying3 rfl rfl (S.blk (i := 1) rfl) rfl) ?_)
              first | refine rw_off rfl ?_ | (refine rw_on rfl ?_; refine rw_v (op_rng rfl (by omega)) ?_)
              first | refine rw_off rfl ?_ | (refine rw_on rfl ?_; refine rw_v (op_idx Try.underlying30 Try.sizeOf2 rfl rfl sa_A (by omega) (by omega)) ?_)
              first | refine rw_off rfl ?_ | (refine rw_on rfl ?_; refine rw_r (op_ldR Try.underlying2 rfl rfl (hA.gr S.out) (by assumption)) ?_)
              first | refine rw_off rfl ?_ | (refine rw_on rfl ?_; refine rw_v (op_pure rfl) ?_)
              first | refine rw_off rfl ?_ | (refine rw_on rfl ?_; (first | refine rw_v (op_b (b := true) rfl (decide_eq_true (by omega))) ?_ | refine rw_v (op_b (b := false) rfl (decide_eq_false (by omega))) ?_ | refine rw_v (op_pure rfl) ?_))
              refine rw_v (op_pure rfl) ?_
              first | refine rw_end ?_ | (refine rw_nil ?_; show CW _ _ _ _ _ _) | refine rw_nil ?_
              exact ⟨⟨rfl, rfl, rfl, rfl, rfl, rfl, rfl, be (decide_eq_false fun h => h1 h.1).symm, trivial⟩, S⟩
          · rintro e3 w3 ⟨hsl, S⟩
            rw [hsl.fold]
            repeat refine cw_seq ?_
            refine cw_cond rfl (fun hu => ?_) (fun hu => ?_)
            · try simp only [decide_eq_true_eq, decide_eq_false_iff_not, beq_iff_eq, bne_iff_ne, beq_eq_false_iff_ne, bne_eq_false_iff_eq, Bool.not_eq_true', Bool.not_eq_false', ne_eq, Decidable.not_not, Int.natCast_inj, Int.ofNat_lt, Int.ofNat_le, gt_iff_lt, ge_iff_le, Int.not_lt, Int.not_le] at hu
              have hadj : Adj gw V t k (k - gw) := ⟨hkV, by omega, hlow, hu.2, .inr (.inr (.inl (by omega)))⟩
              repeat refine cw_seq ?_
              refine cw_region ?_
              iterate 3 refine rw_v (op_pure rfl) ?_
              refine rw_v (op_fieldAddr Try.underlying91 rfl Try.sizeOf3 rfl rfl) ?_
              refine rw_r (op_loadB Try.underlying3 rfl rfl (S.blk (i := 1) rfl) rfl) ?_
              refine rw_v (op_rng rfl (by omega)) ?_
              rw [show (k : Int) - gw = ((k - gw : Nat) : Int) by omega]
              refine rw_call rfl (join_E k (k - gw) hV hkV (by omega) hf2.ok (S.row (i := 0) rfl)) ?_
              rintro _ w5_ ⟨rfl, f1, hf1, hr1, hR1, hF1⟩
              have S := S.set (i := 0) (h' := .row 3 1 A_F V.length c_F (cellsN V.length f1)) rfl rfl hF1 (fun g h => .inl h) hR1 (fun g h => .inl h)
              first | refine rw_end ?_ | (refine rw_nil ?_; show CW _ _ _ _ _ _) | refine rw_nil ?_
              repeat refine cw_seq ?_
              refine cw_region ?_
              refine rw_v (op_rng rfl (by omega)) ?_
              refine rw_v (op_pure rfl) ?_
              first | refine rw_end ?_ | (refine rw_nil ?_; show CW _ _ _ _ _ _) | refine rw_nil ?_
              have hj := hf2.join hkV (by omega) hadj hf1 hr1
              have same : ∀ i j, i < V.length → j < V.length → rootF f2 i = rootF f2 j → rootF f1 i = rootF f1 j := fun i j hi hj e => by rw [hr1 i hi, hr1 j hj, e]
              refine ⟨m - 1, by omega, k + 1, f1, by omega, ⟨rfl, rfl, rfl, rfl, rfl, ie (by omega), trivial⟩, ⟨hf1, hkV, hj.1.conn, fun i hi h1 h2 h3 => ?_, fun i hi h1 h2 h3 => ?_⟩, S⟩
              · by_cases e : i = k
                · subst e; exact same _ _ hkV (by omega) (hleft h2 h3)
                · exact hj.1.left i (by omega) h1 h2 h3
              · by_cases e : i = k
                · subst e; exact hj.2
                · exact hj.1.up i (by omega) h1 h2 h3
            · try simp only [decide_eq_true_eq, decide_eq_false_iff_not, beq_iff_eq, bne_iff_ne, beq_eq_false_iff_ne, bne_eq_false_iff_eq, Bool.not_eq_true', Bool.not_eq_false', ne_eq, Decidable.not_not, Int.natCast_inj, Int.ofNat_lt, Int.ofNat_le, gt_iff_lt, ge_iff_le, Int.not_lt, Int.not_le] at hu
              repeat refine cw_seq ?_
              refine cw_skip ?_
              try show CW _ _ _ _ _ _
              repeat refine cw_seq ?_
              refine cw_region ?_
              refine rw_v (op_rng rfl (by omega)) ?_
              refine rw_v (op_pure rfl) ?_
              first | refine rw_end ?_ | (refine rw_nil ?_; show CW _ _ _ _ _ _) | refine rw_nil ?_
              refine ⟨m - 1, by omega, k + 1, f2, by omega, ⟨rfl, rfl, rfl, rfl, rfl, ie (by omega), trivial⟩, ⟨hf2.ok, hkV, hf2.conn, fun i hi h1 h2 h3 => ?_, fun i hi h1 h2 h3 => ?_⟩, S⟩
              · by_cases e : i = k
                · subst e; exact hleft h2 h3
                · exact hf2.left i (by omega) h1 h2 h3
              · by_cases e : i = k
                · subst e; exact absurd ⟨h2, h3⟩ hu
                · exact hf2.up i (by omega) h1 h2 h3
  · try simp only [decide_eq_true_eq, decide_eq_false_iff_not, beq_iff_eq, bne_iff_ne, beq_eq_false_iff_ne, bne_eq_false_iff_eq, Bool.not_eq_true', Bool.not_eq_false', ne_eq, Decidable.not_not, Int.natCast_inj, Int.ofNat_lt, Int.ofNat_le, gt_iff_lt, ge_iff_le, Int.not_lt, Int.not_le] at hc
    repeat refine cw_seq ?_
    refine cw_exit ?_
    repeat first | refine exit_then ?_ | refine exit_inb ?_
    show CW _ _ _ _ _ _
    repeat refine cw_seq ?_
    refine cw_region ?_
    iterate 2 refine rw_v (op_pure rfl) ?_
    first | refine rw_end ?_ | (refine rw_nil ?_; show CW _ _ _ _ _ _) | refine rw_nil ?_
    repeat refine cw_seq ?_
    refine cw_ret ?_
    repeat first | refine ret_then ?_ | refine ret_inb ?_
    obtain rfl : k = V.length := by omega
    exact res1 rfl ⟨f, hf, S.retNew (i := 0) (mk := id) rfl⟩
end
end Go.Proofs.Ytiidmiebckkloaa
