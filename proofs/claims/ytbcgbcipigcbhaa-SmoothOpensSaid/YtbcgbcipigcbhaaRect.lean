/- Contracts of package rect's functions, each for all integers of its arguments that fit. -/
import Derived.Test.YtbcgbcipigcbhaaGrow
namespace Go.Proofs.Ytbcgbcipigcbhaa
open Go.RowKit
set_option linter.unusedVariables false
set_option linter.unusedSimpArgs false

/-- an int64 -/
def I64 (n : Int) : Prop := -9223372036854775808 ≤ n ∧ n ≤ 9223372036854775807

def insideB (n e : Int) : Bool := decide (0 ≤ n) && decide (n < e)

set_option maxHeartbeats 400000 in
theorem inside_any (n e : Int) (w : World) :
    Calls Try.prog 161 #[.int .i64 n, .int .i64 e] w fun r w' => r = .returned (.bool (insideB n e)) ∧ w = w' := by
  go_enter Try.func161, Try.ntmps161
  go_wp2
  all_goals (go_ret; refine ⟨?_, rfl⟩; unfold insideB; simp [*]; try omega)

/-- the code of rect.Within -/
def within (x0 y0 x1 y1 w h : Int) : Int :=
  if !insideB (w-1) 1024 || !insideB (h-1) 1024 then 3
  else if !insideB x0 w || !insideB x1 w || !insideB y0 h || !insideB y1 h then 4
  else if x1 < x0 ∨ y1 < y0 then 5 else 0

set_option maxHeartbeats 1000000 in
theorem within_any (x0 y0 x1 y1 w h : Int) (hw1 : -9223372036854775808 < w) (hw2 : w ≤ 9223372036854775807) (hh1 : -9223372036854775808 < h) (hh2 : h ≤ 9223372036854775807) (W : World) :
    Calls Try.prog 115 #[.agg #[.int .i64 x0, .int .i64 y0, .int .i64 x1, .int .i64 y1], .int .i64 w, .int .i64 h] W fun r W' => r = .returned (.int .i64 (within x0 y0 x1 y1 w h)) ∧ Below W.heap.size W W' := by
  go_enter Try.func115, Try.ntmps115
  go_wp2_with (go_at_call 161; refine (inside_any _ _ _).mono ?_; rintro e w' ⟨rfl, rfl⟩)
  all_goals
    go_ret
    refine ⟨?_, (Below.refl _ _).alloc (Nat.le_refl _) _⟩
    simp_all [within]
  all_goals first | done | (intro hh; omega) | omega

def rightB (x0 y0 x1 y1 : Int) : Bool := within x0 y0 x1 y1 1024 1024 == 0
theorem rightB_iff (x0 y0 x1 y1 : Int) : rightB x0 y0 x1 y1 = true ↔ 0 ≤ x0 ∧ x0 ≤ x1 ∧ x1 < 1024 ∧ 0 ≤ y0 ∧ y0 ≤ y1 ∧ y1 < 1024 := by
  unfold rightB within insideB
  simp
  split
  · simp; omega
  · split
    · simp; omega
    · omega

set_option maxHeartbeats 400000 in
theorem right_any (x0 y0 x1 y1 : Int) (W : World) :
    Calls Try.prog 138 #[.agg #[.int .i64 x0, .int .i64 y0, .int .i64 x1, .int .i64 y1]] W fun r W' => r = .returned (.bool (rightB x0 y0 x1 y1)) ∧ Below W.heap.size W W' := by
  go_enter Try.func138, Try.ntmps138
  go_wp2_with (go_at_call 115; refine (within_any _ _ _ _ _ _ (by omega) (by omega) (by omega) (by omega) _).mono ?_; rintro e w' ⟨rfl, hb⟩)
  all_goals
    go_ret
    refine ⟨?_, ((Below.refl _ _).alloc (Nat.le_refl _) _).trans (hb.mono (by simp))⟩
    rfl
end Go.Proofs.Ytbcgbcipigcbhaa
