/- Contracts of package rect's functions, third part. -/
import Derived.Test.YtbcgbcipigcbhaaTwo
import Derived.Test.YtbcgbcipigcbhaaRect2
namespace Go.Proofs.Ytbcgbcipigcbhaa
open Go.RowKit
set_option linter.unusedVariables false
set_option linter.unusedSimpArgs false

theorem isAgg_rect : True := trivial
set_option maxHeartbeats 800000 in
/-- rect.Nth at a place that is there. -/
theorem nth_any (x0 y0 x1 y1 i : Int) (h : 0 ≤ x0 ∧ x0 ≤ x1 ∧ x1 < 1024 ∧ 0 ≤ y0 ∧ y0 ≤ y1 ∧ y1 < 1024) (hi : 0 ≤ i) (hi' : i < (x1 - x0 + 1) * (y1 - y0 + 1)) (W : World) :
    Calls Try.prog 191 #[.agg #[.int .i64 x0, .int .i64 y0, .int .i64 x1, .int .i64 y1], .int .i64 i] W fun r W' =>
      r = .returned (.tuple #[.agg #[.int .i64 (x0 + i % (x1 - x0 + 1)), .int .i64 (y0 + i / (x1 - x0 + 1))], .bool true]) ∧ Below W.heap.size W W' := by
  have hin : insideB i ((x1 - x0 + 1) * (y1 - y0 + 1)) = true := by simp [insideB, hi, hi']
  obtain ⟨h1, h2, h3, h4, h5, h6⟩ := h
  obtain ⟨m1, m2⟩ := area_mul (x1 - x0 + 1) (y1 - y0 + 1) (by omega) (by omega) (by omega) (by omega)
  have d1 : 0 ≤ i / (x1 - x0 + 1) := Int.ediv_nonneg hi (by omega)
  have d2 : i / (x1 - x0 + 1) ≤ 1048576 := Int.le_trans (Int.ediv_le_self _ hi) (by omega)
  have d3 : 0 ≤ i % (x1 - x0 + 1) := Int.emod_nonneg _ (by omega)
  have d4 : i % (x1 - x0 + 1) < x1 - x0 + 1 := Int.emod_lt_of_pos _ (by omega)
  go_enter Try.func191, Try.ntmps191
  go_wp2_with (first
    | (go_at_call 93; refine (area_any _ _ _ _ (by omega) _).mono ?_; rintro e w' ⟨rfl, hb⟩; obtain ⟨hc, hf⟩ := bcell hb; have hs := hb.size; simp at hs)
    | (go_at_call 161; refine (inside_any _ _ _).mono ?_; rintro e w1 ⟨rfl, rfl⟩))
  have hc0 : ∀ g : Grew w', g.at_.cell? ⟨W.heap.size, 0, none⟩ = some (.int .i64 x0) := fun g => gcell2 g hb (by first | (simp; done) | (simp; omega)) (by simp)
  have hc1 : ∀ g : Grew w', g.at_.cell? ⟨W.heap.size, 1, none⟩ = some (.int .i64 y0) := fun g => gcell2 g hb (by first | (simp; done) | (simp; omega)) (by simp)
  have hc2 : ∀ g : Grew w', g.at_.cell? ⟨W.heap.size, 2, none⟩ = some (.int .i64 x1) := fun g => gcell2 g hb (by first | (simp; done) | (simp; omega)) (by simp)
  have hc3 : ∀ g : Grew w', g.at_.cell? ⟨W.heap.size, 3, none⟩ = some (.int .i64 y1) := fun g => gcell2 g hb (by first | (simp; done) | (simp; omega)) (by simp)
  have hd0 : ∀ g : Grew w', g.at_.cell? ⟨W.heap.size+1, 0, none⟩ = some (.int .i64 0) := fun g => gcell2 g hb (by first | (simp; done) | (simp; omega)) (by simp)
  have hd1 : ∀ g : Grew w', g.at_.cell? ⟨W.heap.size+1, 1, none⟩ = some (.int .i64 0) := fun g => gcell2 g hb (by first | (simp; done) | (simp; omega)) (by simp)
  have hz0 : ∀ g : Grew w', g.at_.frozen? ⟨W.heap.size+1, 0, none⟩ = false := fun g => gfrozen2 g hb (by first | (simp; done) | (simp; omega)) (by simp [go_sem])
  have hz1 : ∀ g : Grew w', g.at_.frozen? ⟨W.heap.size+1, 1, none⟩ = false := fun g => gfrozen2 g hb (by first | (simp; done) | (simp; omega)) (by simp [go_sem])
  refine wp_region_grow_two [0, 1, 2, 3, 4, 5, 6, 7, 8, 9, 10, 11, 12, 13, 14] [15, 16] (by kernel_rfl) (by kernel_rfl) ?_
  simp only [pickL, List.drop_succ_cons, List.drop_zero]
  repeat (first | go_big_quiet_step ((go_at_call 139; exact grow_of (width_any _ _ _ _ (by omega) _))) | quiet_step ((go_at_call 139; exact grow_of (width_any _ _ _ _ (by omega) _))))
  refine wpQuiet_nil ?_
  rintro _ ⟨g, rfl⟩
  go_wp2
  refine bodyPost_ret (v := .tuple #[.agg #[.int .i64 (x0 + i % (x1 - x0 + 1)), .int .i64 (y0 + i / (x1 - x0 + 1))], .bool true]) (by simp [results, Try.results191, go_sem, hd0, hd1]) rfl ⟨rfl, ?_⟩
  have hbsz0 := hb.size
  try simp only [World.size_alloc, Grew.at_] at hbsz0
  have hbsz1 := g.below.size
  try simp only [World.size_alloc, Grew.at_] at hbsz1
  repeat (first | exact Below.refl _ _ | refine Below.setCell ?_ (by first | omega | (simp; done) | (simp; omega) | (simp at *; omega)) _ | refine Below.drew ?_ | refine Below.alloc ?_ (by first | omega | (simp; done) | (simp; omega) | (simp at *; omega)) _ | refine Below.trans ?_ (Below.mono hb (by first | omega | (simp; done) | (simp; omega) | (simp at *; omega))) | refine Below.trans ?_ (Below.mono g.below (by first | omega | (simp; done) | (simp; omega) | (simp at *; omega))))
end Go.Proofs.Ytbcgbcipigcbhaa
