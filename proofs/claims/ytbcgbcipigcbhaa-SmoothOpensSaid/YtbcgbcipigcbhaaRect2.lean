/- Contracts of package rect's functions, second part. -/
import Derived.Test.YtbcgbcipigcbhaaRect
namespace Go.Proofs.Ytbcgbcipigcbhaa
open Go.RowKit
set_option linter.unusedVariables false
set_option linter.unusedSimpArgs false

set_option maxHeartbeats 400000 in
theorem width_any (x0 y0 x1 y1 : Int) (h : 0 ≤ x0 ∧ x0 ≤ x1 ∧ x1 < 1024) (W : World) :
    Calls Try.prog 139 #[.agg #[.int .i64 x0, .int .i64 y0, .int .i64 x1, .int .i64 y1]] W fun r W' => r = .returned (.int .i64 (x1 - x0 + 1)) ∧ Below W.heap.size W W' := by
  obtain ⟨h1, h2, h3⟩ := h
  go_enter Try.func139, Try.ntmps139
  go_wp2
  go_ret
  exact ⟨rfl, (Below.refl _ _).alloc (Nat.le_refl _) _⟩

theorem area_mul (a b : Int) (ha : 0 ≤ a) (hb : 0 ≤ b) (ha' : a ≤ 1024) (hb' : b ≤ 1024) : 0 ≤ a * b ∧ a * b ≤ 1048576 := by
  refine ⟨Int.mul_nonneg ha hb, ?_⟩
  have : a * b ≤ 1024 * 1024 := Int.mul_le_mul ha' hb' hb (by omega)
  omega

set_option maxHeartbeats 400000 in
theorem area_any (x0 y0 x1 y1 : Int) (h : 0 ≤ x0 ∧ x0 ≤ x1 ∧ x1 < 1024 ∧ 0 ≤ y0 ∧ y0 ≤ y1 ∧ y1 < 1024) (W : World) :
    Calls Try.prog 93 #[.agg #[.int .i64 x0, .int .i64 y0, .int .i64 x1, .int .i64 y1]] W fun r W' => r = .returned (.int .i64 ((x1 - x0 + 1) * (y1 - y0 + 1))) ∧ Below W.heap.size W W' := by
  have hr : rightB x0 y0 x1 y1 = true := (rightB_iff _ _ _ _).2 h
  obtain ⟨h1, h2, h3, h4, h5, h6⟩ := h
  obtain ⟨m1, m2⟩ := area_mul (x1 - x0 + 1) (y1 - y0 + 1) (by omega) (by omega) (by omega) (by omega)
  go_enter Try.func93, Try.ntmps93
  go_wp2_with (go_at_call 138; refine (right_any _ _ _ _ _).mono ?_; rintro e w' ⟨rfl, hb⟩; obtain ⟨hc, hf⟩ := bcell hb; have hs := hb.size; simp at hs)
  have hc0 : ∀ g : Grew w', g.at_.cell? ⟨W.heap.size, 0, none⟩ = some (.int .i64 x0) := fun g => gcell g (by omega) (by simp [hc])
  have hc1 : ∀ g : Grew w', g.at_.cell? ⟨W.heap.size, 1, none⟩ = some (.int .i64 y0) := fun g => gcell g (by omega) (by simp [hc])
  have hc2 : ∀ g : Grew w', g.at_.cell? ⟨W.heap.size, 2, none⟩ = some (.int .i64 x1) := fun g => gcell g (by omega) (by simp [hc])
  have hc3 : ∀ g : Grew w', g.at_.cell? ⟨W.heap.size, 3, none⟩ = some (.int .i64 y1) := fun g => gcell g (by omega) (by simp [hc])
  refine wp_region_grow (by kernel_rfl) (by kernel_rfl) ?_
  repeat (first | go_big_quiet_step ((go_at_call 139; exact grow_of (width_any _ _ _ _ (by omega) _))) | quiet_step ((go_at_call 139; exact grow_of (width_any _ _ _ _ (by omega) _))))
  refine wpQuiet_nil ?_
  rintro _ ⟨g, rfl⟩
  go_wp2
  go_ret
  exact ⟨rfl, (((Below.refl _ _).alloc (Nat.le_refl _) _).trans (hb.mono (by simp))).trans (g.below.mono (by omega))⟩

theorem floor_bits (n : Int) (h : 0 ≤ n) (h' : n < 1048576) : bits .andNot .i64 n 15 = n - n % 16 := by
  obtain ⟨k, rfl⟩ := Int.eq_ofNat_of_zero_le h
  have hk : k < 1048576 := by omega
  have e1 : k &&& 18446744073709551600 = k / 16 * 16 := by
    have e2 : (18446744073709551600 : Nat) = (2 ^ 60 - 1) <<< 4 := by decide
    have e3 : k / 16 * 16 = (k >>> 4) <<< 4 := by rw [Nat.shiftRight_eq_div_pow, Nat.shiftLeft_eq]
    rw [e2, e3]
    apply Nat.eq_of_testBit_eq
    intro i
    rw [Nat.testBit_and, Nat.testBit_shiftLeft, Nat.testBit_shiftLeft, Nat.testBit_two_pow_sub_one, Nat.testBit_shiftRight]
    by_cases h4 : i ≥ 4
    · have : 4 + (i - 4) = i := by omega
      rw [this]
      by_cases h64 : i - 4 < 60
      · simp [h4, h64]
      · have : k.testBit i = false := Nat.testBit_lt_two_pow (Nat.lt_of_lt_of_le hk (by
          have : 2 ^ 20 ≤ 2 ^ i := Nat.pow_le_pow_right (by omega) (by omega)
          omega))
        simp [this]
    · simp [h4]
  show IntKind.i64.wrap ((BitVec.ofInt 64 (k : Int) &&& ~~~ BitVec.ofInt 64 (15 : Int)).toNat : Int) = _
  rw [BitVec.toNat_and, BitVec.toNat_not]
  have e4 : (BitVec.ofInt 64 (k : Int)).toNat = k := by rw [BitVec.ofInt_natCast, BitVec.toNat_ofNat]; exact Nat.mod_eq_of_lt (by omega)
  have e5 : 2 ^ 64 - 1 - (BitVec.ofInt 64 (15 : Int)).toNat = 18446744073709551600 := by decide
  rw [e4, e5, e1, IntKind.wrap_i64]
  omega
set_option maxHeartbeats 400000 in
theorem floor_any (n : Int) (h : 0 ≤ n) (h' : n < 1048576) (W : World) :
    Calls Try.prog 162 #[.int .i64 n] W fun r W' => r = .returned (.int .i64 (n - n % 16)) ∧ W = W' := by
  have hf := Lib.hid (floor_bits n h h')
  go_enter Try.func162, Try.ntmps162
  go_wp2
  go_ret
  exact ⟨by rw [hf.out]; rfl, rfl⟩
end Go.Proofs.Ytbcgbcipigcbhaa
