/- What was synced lasts: the plain law. -/
import Derived.Test.YtkpokpaehlhhaaaDisk9
namespace Go.Proofs.Ytkpokpaehlhhaaa
open Go.RowKit
set_option linter.unusedVariables false
set_option linter.unusedSimpArgs false
set_option maxRecDepth 100000

def DU.isAdd : DU → Bool
  | .add _ _ => true
  | .cut _ _ => false
/-- Behind a sync: the files that last are these, and all that waits adds. -/
def Since (fs : List Int × List Int) (s : DS) : Prop := s.last = fs ∧ ∀ u ∈ s.waits, u.isAdd = true
theorem runs_prefix : ∀ (us : List DU) (fs : List Int × List Int), (∀ u ∈ us, u.isAdd = true) → fs.1 <+: (runs us fs).1 ∧ fs.2 <+: (runs us fs).2
  | [], fs, _ => ⟨List.prefix_refl _, List.prefix_refl _⟩
  | u :: us, (x, y), h => by
    have hu := h u (by simp)
    have ih := fun fs => runs_prefix us fs (fun u hu => h u (by simp [hu]))
    cases u with
    | cut f n => cases hu
    | add f b =>
      rcases f with _ | f
      · have := ih (x ++ [b], y)
        exact ⟨(List.prefix_append x [b]).trans this.1, this.2⟩
      · have := ih (x, y ++ [b])
        exact ⟨this.1, (List.prefix_append y [b]).trans this.2⟩
theorem since_deed {fs : List Int × List Int} {s : DS} (h : Since fs s) {us : List DU} (hu : ∀ u ∈ us, u.isAdd = true) : Since fs (s.deed us).2 := by
  unfold DS.deed
  split
  · exact h
  · refine ⟨h.1, fun u hu' => ?_⟩
    rcases List.mem_append.1 hu' with h1 | h1
    · exact h.2 u h1
    · exact hu u h1
theorem since_does {fs : List Int × List Int} {s : DS} (h : Since fs s) {a : ActD} (hk : a.kind = 0 ∨ a.kind = 3) : Since fs (s.does a).2 := by
  unfold DS.does
  rcases hk with hk | hk
  · rw [if_pos hk]
    split
    · exact h
    · split
      · exact h
      · refine since_deed h fun u hu => ?_
        obtain ⟨b, _, rfl⟩ := List.mem_map.1 hu
        rfl
  · rw [if_neg (by omega), if_neg (by omega), if_neg (by omega), if_pos hk]
    split
    · exact h
    · split
      · exact h
      · exact h
theorem since_crash {fs : List Int × List Int} {s : DS} (h : Since fs s) (keep : Int) : fs.1 <+: (s.settled (min (max keep 0) s.waits.length).toNat).seen.1 ∧ fs.2 <+: (s.settled (min (max keep 0) s.waits.length).toNat).seen.2 ∧
    (keep ≤ 0 → (s.settled (min (max keep 0) s.waits.length).toNat).seen = fs) := by
  have h1 := runs_prefix (s.waits.take (min (max keep 0) s.waits.length).toNat) s.last (fun u hu => h.2 u (List.mem_of_mem_take hu))
  rw [h.1] at h1
  unfold DS.settled
  dsimp only
  rw [h.1]
  refine ⟨h1.1, h1.2, fun hk => ?_⟩
  have : (min (max keep 0) (s.waits.length : Int)).toNat = 0 := by omega
  rw [this]
  rfl
end Go.Proofs.Ytkpokpaehlhhaaa
