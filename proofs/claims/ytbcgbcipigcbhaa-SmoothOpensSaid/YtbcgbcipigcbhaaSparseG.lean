/- Package sparse: a table of ranges of squares, in general: what its parts do. -/
import Derived.Test.YtbcgbcipigcbhaaSparse
import Derived.Test.YtbcgbcipigcbhaaAppR
import Derived.Test.YtbcgbcipigcbhaaRegOf
namespace Go.Proofs.Ytbcgbcipigcbhaa
open Go.RowKit
set_option linter.unusedVariables false
set_option linter.unusedSimpArgs false
set_option maxRecDepth 100000

section
variable {P : Program} {e : Nat → Value} {d : Option Tmp} {ty : TypeId} {ps : String} {af : Array Edge}
theorem op_shr8 {t t' : TypeId} {x y : Operand} {a : Int} {k : IntKind} (hx : ev e x = .int .u64 a) (hy : ev e y = .int k 8) (h0 : 0 ≤ a) : OpV P e ⟨d, .binOp .shr t x y t', ty, ps, af, none⟩ (.int .u64 (a / 256)) := by
  intro w
  have h : (binOp .shr t (.int .u64 a) (.int k 8)).run P w = .ok (.int .u64 (a / 256)) w := by
    have : a.fdiv 256 = a / 256 := Int.fdiv_eq_ediv_of_nonneg _ (by omega)
    simp [binOp, Op.shift, IntKind.bits, this]
  simp [OpR, execOp, hx, hy, eqGuard, h]
end
/-- how many digits a number has by twos -/
def blen (n : Nat) : Nat := if n = 0 then 0 else Nat.log2 n + 1
theorem blen_shift {n : Nat} (h : 256 ≤ n) : blen n = blen (n / 256) + 8 := by
  unfold blen
  rw [if_neg (by omega), if_neg (by omega)]
  have h1 : Nat.log2 n = Nat.log2 (n / 256) + 8 := by
    rw [Nat.log2_def n, if_pos (by omega), Nat.log2_def (n / 2), if_pos (by omega), Nat.log2_def (n / 2 / 2), if_pos (by omega), Nat.log2_def (n / 2 / 2 / 2), if_pos (by omega), Nat.log2_def (n / 2 / 2 / 2 / 2), if_pos (by omega),
      Nat.log2_def (n / 2 / 2 / 2 / 2 / 2), if_pos (by omega), Nat.log2_def (n / 2 / 2 / 2 / 2 / 2 / 2), if_pos (by omega), Nat.log2_def (n / 2 / 2 / 2 / 2 / 2 / 2 / 2), if_pos (by omega)]
    rw [show n / 2 / 2 / 2 / 2 / 2 / 2 / 2 / 2 = n / 256 by omega]
  omega
section
variable {W : World}
set_option maxHeartbeats 2000000 in
theorem len64_E (n : Nat) (hn : n ≤ 1024) : Fn Try.prog 187 [.int .u64 n] W (RetG (.int .i64 (blen n : Nat)) W) := by
  have hb8 : ∀ m : Nat, m < 256 → blen m ≤ 8 := by decide +kernel
  by_cases h8 : n < 256
  · have hle := hb8 n h8
    have S := St.start W
    refine Fn_enter Try.func187 rfl Try.results187 Try.ntmps187 (by kernel_rfl) (by kernel_rfl) ?_
    repeat refine cw_seq ?_
    refine cw_region ?_
    refine rw_v (op_pure rfl) ?_
    first | refine rw_end ?_ | (refine rw_nil ?_; show CW _ _ _ _ _ _) | refine rw_nil ?_
    repeat refine cw_seq ?_
    refine cw_region ?_
    refine rw_v (op_pure rfl) ?_
    refine rw_v (op_geqU (B := false) rfl rfl (decide_eq_false (by omega))) ?_
    first | refine rw_end ?_ | (refine rw_nil ?_; show CW _ _ _ _ _ _) | refine rw_nil ?_
    repeat refine cw_seq ?_
    refine cw_false rfl ?_
    repeat refine cw_seq ?_
    refine cw_skip ?_
    try show CW _ _ _ _ _ _
    repeat refine cw_seq ?_
    refine cw_region ?_
    refine rw_v (op_pure rfl) ?_
    refine rw_v (op_geqU (B := false) rfl rfl (decide_eq_false (by omega))) ?_
    first | refine rw_end ?_ | (refine rw_nil ?_; show CW _ _ _ _ _ _) | refine rw_nil ?_
    repeat refine cw_seq ?_
    refine cw_false rfl ?_
    repeat refine cw_seq ?_
    refine cw_skip ?_
    try show CW _ _ _ _ _ _
    repeat refine cw_seq ?_
    refine cw_region ?_
    refine rw_v (op_pure rfl) ?_
    refine rw_v (op_geqU (B := false) rfl rfl (decide_eq_false (by omega))) ?_
    first | refine rw_end ?_ | (refine rw_nil ?_; show CW _ _ _ _ _ _) | refine rw_nil ?_
    repeat refine cw_seq ?_
    refine cw_false rfl ?_
    repeat refine cw_seq ?_
    refine cw_skip ?_
    try show CW _ _ _ _ _ _
    repeat refine cw_seq ?_
    refine cw_region ?_
    iterate 2 refine rw_v (op_pure rfl) ?_
    refine rw_v (op_conv (ks := .u64) (n := n) (kd := .u8) (m := n) Try.underlying259 Try.underlying5 rfl (by rw [IntKind.wrap_u8]; omega)) ?_
    refine rw_v (op_indexStr (b := UInt8.ofNat (blen n)) Try.underlying9 rfl rfl (by omega) ?_) ?_
    · rw [Int.toNat_natCast]
      clear hle S
      revert n
      intro n _ h8
      revert n
      decide +kernel
    refine rw_v (op_conv (ks := .u8) (n := ((UInt8.ofNat (blen n)).toNat : Int)) (kd := .i64) (m := (blen n : Nat)) Try.underlying5 Try.underlying3 rfl (by rw [show (UInt8.ofNat (blen n)).toNat = blen n by simp; omega]; exact IntWalk.i64_in _ (by omega))) ?_
    refine rw_v (op_rng rfl (by omega)) ?_
    refine rw_v (op_pure rfl) ?_
    first | refine rw_end ?_ | (refine rw_nil ?_; show CW _ _ _ _ _ _) | refine rw_nil ?_
    repeat refine cw_seq ?_
    refine cw_ret ?_
    repeat first | refine ret_then ?_ | refine ret_inb ?_
    exact res1 rfl ⟨ie (by omega), S.out⟩
  · have hsh := blen_shift (n := n) (by omega)
    have hle := hb8 (n / 256) (by omega)
    have ed : (n : Int) / 256 = ((n / 256 : Nat) : Int) := by omega
    obtain ⟨q, hq⟩ : ∃ q, q = n / 256 := ⟨_, rfl⟩
    rw [← hq] at hsh hle ed
    have h8 : q < 256 := by omega
    have S := St.start W
    refine Fn_enter Try.func187 rfl Try.results187 Try.ntmps187 (by kernel_rfl) (by kernel_rfl) ?_
    repeat refine cw_seq ?_
    refine cw_region ?_
    refine rw_v (op_pure rfl) ?_
    first | refine rw_end ?_ | (refine rw_nil ?_; show CW _ _ _ _ _ _) | refine rw_nil ?_
    repeat refine cw_seq ?_
    refine cw_region ?_
    refine rw_v (op_pure rfl) ?_
    refine rw_v (op_geqU (B := false) rfl rfl (decide_eq_false (by omega))) ?_
    first | refine rw_end ?_ | (refine rw_nil ?_; show CW _ _ _ _ _ _) | refine rw_nil ?_
    repeat refine cw_seq ?_
    refine cw_false rfl ?_
    repeat refine cw_seq ?_
    refine cw_skip ?_
    try show CW _ _ _ _ _ _
    repeat refine cw_seq ?_
    refine cw_region ?_
    refine rw_v (op_pure rfl) ?_
    refine rw_v (op_geqU (B := false) rfl rfl (decide_eq_false (by omega))) ?_
    first | refine rw_end ?_ | (refine rw_nil ?_; show CW _ _ _ _ _ _) | refine rw_nil ?_
    repeat refine cw_seq ?_
    refine cw_false rfl ?_
    repeat refine cw_seq ?_
    refine cw_skip ?_
    try show CW _ _ _ _ _ _
    repeat refine cw_seq ?_
    refine cw_region ?_
    refine rw_v (op_pure rfl) ?_
    refine rw_v (op_geqU (B := true) rfl rfl (decide_eq_true (by omega))) ?_
    first | refine rw_end ?_ | (refine rw_nil ?_; show CW _ _ _ _ _ _) | refine rw_nil ?_
    repeat refine cw_seq ?_
    refine cw_true rfl ?_
    repeat refine cw_seq ?_
    refine cw_region ?_
    refine rw_v (op_pure rfl) ?_
    refine rw_v (op_shr8 rfl rfl (by omega)) ?_
    rw [ed]
    refine rw_v (op_pure rfl) ?_
    first | refine rw_end ?_ | (refine rw_nil ?_; show CW _ _ _ _ _ _) | refine rw_nil ?_
    repeat refine cw_seq ?_
    refine cw_region ?_
    refine rw_v (op_pure rfl) ?_
    refine rw_v (op_rng rfl (by omega)) ?_
    refine rw_v (op_pure rfl) ?_
    first | refine rw_end ?_ | (refine rw_nil ?_; show CW _ _ _ _ _ _) | refine rw_nil ?_
    repeat refine cw_seq ?_
    refine cw_region ?_
    iterate 2 refine rw_v (op_pure rfl) ?_
    refine rw_v (op_conv (ks := .u64) (n := q) (kd := .u8) (m := q) Try.underlying259 Try.underlying5 rfl (by rw [IntKind.wrap_u8]; omega)) ?_
    refine rw_v (op_indexStr (b := UInt8.ofNat (blen q)) Try.underlying9 rfl rfl (by omega) ?_) ?_
    · rw [Int.toNat_natCast]
      clear hle S hsh hq ed
      revert q
      intro q h8
      revert q
      decide +kernel
    refine rw_v (op_conv (ks := .u8) (n := ((UInt8.ofNat (blen q)).toNat : Int)) (kd := .i64) (m := (blen q : Nat)) Try.underlying5 Try.underlying3 rfl (by rw [show (UInt8.ofNat (blen q)).toNat = blen q by simp; omega]; exact IntWalk.i64_in _ (by omega))) ?_
    refine rw_v (op_rng rfl (by omega)) ?_
    refine rw_v (op_pure rfl) ?_
    first | refine rw_end ?_ | (refine rw_nil ?_; show CW _ _ _ _ _ _) | refine rw_nil ?_
    repeat refine cw_seq ?_
    refine cw_ret ?_
    repeat first | refine ret_then ?_ | refine ret_inb ?_
    exact res1 rfl ⟨ie (by omega), S.out⟩
theorem slog_E (n : Nat) (h1 : 1 ≤ n) (hn : n ≤ 1024) : Fn Try.prog 170 [.int .i64 n] W (RetG (.int .i64 (Nat.log2 n : Nat)) W) := by
  have hb : blen n = Nat.log2 n + 1 := if_neg (by omega)
  have hl := Nat.log2_le_self n
  have S := St.start W
  refine Fn_enter Try.func170 rfl Try.results170 Try.ntmps170 (by kernel_rfl) (by kernel_rfl) ?_
  repeat refine cw_seq ?_
  refine cw_region ?_
  refine rw_v (op_pure rfl) ?_
  first | refine rw_end ?_ | (refine rw_nil ?_; show CW _ _ _ _ _ _) | refine rw_nil ?_
  repeat refine cw_seq ?_
  refine cw_region ?_
  refine rw_v (op_pure rfl) ?_
  refine rw_v (op_conv Try.underlying2 Try.underlying259 rfl (u64_in _ (by omega))) ?_
  refine rw_call rfl (len64_E n hn) ?_
  rintro _ w1_ ⟨rfl, g1_⟩
  have S := S.gr g1_
  refine rw_v (op_rng rfl (by omega)) ?_
  refine rw_v (op_pure rfl) ?_
  first | refine rw_end ?_ | (refine rw_nil ?_; show CW _ _ _ _ _ _) | refine rw_nil ?_
  repeat refine cw_seq ?_
  refine cw_ret ?_
  repeat first | refine ret_then ?_ | refine ret_inb ?_
  exact res1 rfl ⟨ie (by omega), S.out⟩
end
/-! ### Ranges of squares -/
def sqR (V : List Int) (gw : Nat) : Nat → Nat → Nat → RG
  | 0, x, y => ⟨V.getD (y * gw + x) 0, V.getD (y * gw + x) 0⟩
  | k + 1, x, y => joinR (joinR (sqR V gw k x y) (sqR V gw k (x + 2 ^ k) y)) (joinR (sqR V gw k x (y + 2 ^ k)) (sqR V gw k (x + 2 ^ k) (y + 2 ^ k)))
/-- a range of the values that P's cells have -/
structure RgOf (v : Nat → Nat → Int) (P : Nat → Nat → Prop) (r : RG) : Prop where
  all : ∀ x y, P x y → r.lo ≤ v x y ∧ v x y ≤ r.hi
  lo : ∃ x y, P x y ∧ v x y = r.lo
  hi : ∃ x y, P x y ∧ v x y = r.hi
theorem RgOf.uniq {v : Nat → Nat → Int} {P : Nat → Nat → Prop} {r r' : RG} (h : RgOf v P r) (h' : RgOf v P r') : r = r' := by
  obtain ⟨x1, y1, p1, e1⟩ := h.lo
  obtain ⟨x2, y2, p2, e2⟩ := h.hi
  obtain ⟨x3, y3, p3, e3⟩ := h'.lo
  obtain ⟨x4, y4, p4, e4⟩ := h'.hi
  have a1 := h'.all x1 y1 p1
  have a2 := h'.all x2 y2 p2
  have a3 := h.all x3 y3 p3
  have a4 := h.all x4 y4 p4
  obtain ⟨l, u⟩ := r
  obtain ⟨l', u'⟩ := r'
  dsimp only at *
  rw [show l = l' by omega, show u = u' by omega]
theorem RgOf.join {v : Nat → Nat → Int} {P Q R : Nat → Nat → Prop} {a b : RG} (h : RgOf v P a) (h' : RgOf v Q b) (hR : ∀ x y, R x y ↔ P x y ∨ Q x y) : RgOf v R (joinR a b) := by
  refine ⟨fun x y hx => ?_, ?_, ?_⟩
  · unfold joinR
    dsimp only
    rcases (hR x y).1 hx with p | q
    · have := h.all x y p; omega
    · have := h'.all x y q; omega
  · unfold joinR
    dsimp only
    rcases Int.le_total a.lo b.lo with e | e
    · obtain ⟨x, y, p, hv⟩ := h.lo
      exact ⟨x, y, (hR x y).2 (.inl p), by rw [hv]; omega⟩
    · obtain ⟨x, y, p, hv⟩ := h'.lo
      exact ⟨x, y, (hR x y).2 (.inr p), by rw [hv]; omega⟩
  · unfold joinR
    dsimp only
    rcases Int.le_total a.hi b.hi with e | e
    · obtain ⟨x, y, p, hv⟩ := h'.hi
      exact ⟨x, y, (hR x y).2 (.inr p), by rw [hv]; omega⟩
    · obtain ⟨x, y, p, hv⟩ := h.hi
      exact ⟨x, y, (hR x y).2 (.inl p), by rw [hv]; omega⟩
def cellV (V : List Int) (gw : Nat) (x y : Nat) : Int := V.getD (y * gw + x) 0
def boxP (x0 y0 x1 y1 : Nat) : Nat → Nat → Prop := fun x y => (x0 ≤ x ∧ x ≤ x1) ∧ y0 ≤ y ∧ y ≤ y1
theorem sqR_of (V : List Int) (gw : Nat) : ∀ k x y, RgOf (cellV V gw) (boxP x y (x + 2 ^ k - 1) (y + 2 ^ k - 1)) (sqR V gw k x y)
  | 0, x, y => by
    refine ⟨fun x' y' h => ?_, ⟨x, y, ?_, rfl⟩, ⟨x, y, ?_, rfl⟩⟩
    · unfold boxP at h
      simp only [Nat.pow_zero] at h
      obtain rfl : x' = x := by omega
      obtain rfl : y' = y := by omega
      exact ⟨Int.le_refl _, Int.le_refl _⟩
    · unfold boxP; simp
    · unfold boxP; simp
  | k + 1, x, y => by
    have hp : 0 < 2 ^ k := Nat.two_pow_pos k
    have e : 2 ^ (k + 1) = 2 * 2 ^ k := by rw [Nat.pow_succ, Nat.mul_comm]
    have h1 := sqR_of V gw k x y
    have h2 := sqR_of V gw k (x + 2 ^ k) y
    have h3 := sqR_of V gw k x (y + 2 ^ k)
    have h4 := sqR_of V gw k (x + 2 ^ k) (y + 2 ^ k)
    have h12 := h1.join (R := boxP x y (x + 2 ^ (k + 1) - 1) (y + 2 ^ k - 1)) h2 (fun a b => by unfold boxP; omega)
    have h34 := h3.join (R := boxP x (y + 2 ^ k) (x + 2 ^ (k + 1) - 1) (y + 2 ^ (k + 1) - 1)) h4 (fun a b => by unfold boxP; omega)
    exact h12.join h34 (fun a b => by unfold boxP; omega)
def acK (gw k : Nat) : Nat := gw + 1 - 2 ^ k
/-- the squares of a side, row by row -/
def levK (V : List Int) (gw gh k : Nat) : List RG := (List.range (acK gw k * acK gh k)).map fun i => sqR V gw k (i % acK gw k) (i / acK gw k)
theorem levK_len (V : List Int) (gw gh k : Nat) : (levK V gw gh k).length = acK gw k * acK gh k := by simp [levK]
theorem levK_at (V : List Int) {gw gh k x y : Nat} (hx : x < acK gw k) (hy : y < acK gh k) : (levK V gw gh k)[y * acK gw k + x]? = some (sqR V gw k x y) := by
  have h1 := cell_split (Y := y) hx
  have hlt : y * acK gw k + x < acK gw k * acK gh k := by
    have := Nat.mul_le_mul_right (acK gw k) (show y + 1 ≤ acK gh k from hy)
    rw [Nat.succ_mul, Nat.mul_comm (acK gh k)] at this
    omega
  unfold levK
  rw [List.getElem?_map, List.getElem?_range hlt, Option.map_some, h1.1, h1.2]
end Go.Proofs.Ytbcgbcipigcbhaa
