/- route.land.costs: the cheapest costs from a place to all. -/
import Derived.Test.YtbcgbcipigcbhaaRouteA
namespace Go.Proofs.Ytbcgbcipigcbhaa
open Go.RowKit
set_option linter.unusedVariables false
set_option linter.unusedSimpArgs false
set_option maxRecDepth 100000

theorem SepL.perm {X : Nat → Prop} {w : World} {L L' : List HA} (p : L.Perm L') : SepL X w L → SepL X w L' := by
  induction p with
  | nil => exact id
  | cons a p ih => exact fun h => ⟨h.1, fun g hg h' hh => h.2.1 g hg h' (p.mem_iff.2 hh), ih h.2.2⟩
  | swap a b l =>
    intro h
    refine ⟨h.2.2.1, fun g hg h' hh => ?_, h.1, fun g hg h' hh => h.2.1 g hg h' (List.mem_cons_of_mem _ hh), h.2.2.2.2⟩
    rcases List.mem_cons.1 hh with e | hh
    · subst e; exact fun ho => h.2.1 g ho a List.mem_cons_self hg
    · exact h.2.2.2.1 g hg h' hh
  | trans _ _ ih1 ih2 => exact fun h => ih2 (ih1 h)
theorem St.perm {F : Nat → Prop} {W w : World} {L L' : List HA} (S : St F W w L) (p : L.Perm L') : St F W w L' := ⟨S.fr, S.sep.perm p⟩
theorem perm_two {α : Type} (a b c d : α) (L : List α) : (a :: b :: c :: d :: L).Perm (c :: d :: a :: b :: L) :=
  (List.perm_append_comm (l₁ := [a, b]) (l₂ := [c, d])).append_right L
section
variable {W : World} {A : Option Addr} {gw gh c : Nat} {V : List Int}
end
end Go.Proofs.Ytbcgbcipigcbhaa
