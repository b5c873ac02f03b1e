/- Regions that draw their order and whose operations read, or call functions that leave all that was there as it was and may make new blocks: one walk in the text's order, over the class of the worlds grown from one world. -/
import Derived.Test.YtbcgbcipigcbhaaProg
import Derived.WalkKit
import Derived.WalkSpells
import Derived.WalkLawsBesides
import Derived.BigQuiet
import Derived.Deep.QuietTactic
import Derived.Lib.Hide
import Derived.Deep.RegionHeld3
namespace Go.Proofs.Ytbcgbcipigcbhaa
open Go.RowKit
set_option linter.unusedVariables false
set_option linter.unusedSimpArgs false

theorem bcell {W w1 : World} (hb : Below W.heap.size W w1) : (∀ b o, b < W.heap.size → w1.cell? ⟨b, o, none⟩ = W.cell? ⟨b, o, none⟩) ∧ (∀ b o, b < W.heap.size → w1.frozen? ⟨b, o, none⟩ = W.frozen? ⟨b, o, none⟩) :=
  ⟨fun b o h => hb.cell (p := ⟨b, o, none⟩) h, fun b o h => hb.frozen (p := ⟨b, o, none⟩) h⟩

/-- A world grown from another one: all of its blocks stand as they were. -/
def Grew (w : World) : Type := { w' : World // Below w.heap.size w w' }
def Grew.at_ {w : World} (g : Grew w) : World := g.1
theorem Grew.below {w : World} (g : Grew w) : Below w.heap.size w g.at_ := g.2

instance (w : World) : Nonempty (Grew w) := ⟨⟨w, Below.refl _ _⟩⟩

/-- ONE WALK OF THE LEXICAL ORDER SERVES EVERY ORDER, in the worlds grown from the one at hand. -/
theorem wp_region_grow {P : Program} {id : Nat} {Q : Exit → Act → World → Prop} {a : Act} {w : World} {l : List Oper} (hm : P.follows .mixedOrders = true) (hB : Region.lexB .any l.toArray = true)
    (h : wpQuiet P l.toArray (fun w' => ∃ g : Grew w, w' = g.at_) (fun a' => ∀ w', (∃ g : Grew w, w' = g.at_) → Q .normal a' w') l a) : (Code.region id l.toArray true).wp P Q a w :=
  wp_region_quiet (C := fun w' => ∃ g : Grew w, w' = g.at_) hm hB ⟨⟨w.drew, (Below.refl _ _).drew⟩, rfl⟩ (by simpa using h)

theorem grow_of {P : Program} {f : FuncId} {args : Array Value} {w : World} {g : Grew w} {v : Value}
    (h : Calls P f args g.at_ fun e w' => e = .returned v ∧ Below g.at_.heap.size g.at_ w') : Calls P f args g.at_ fun e w'' => e = .returned v ∧ ∃ g' : Grew w, w'' = g'.at_ :=
  h.mono fun _ w' ⟨he, hb⟩ => ⟨he, ⟨w', g.below.trans (hb.mono g.below.size)⟩, rfl⟩
theorem grow_same {P : Program} {f : FuncId} {args : Array Value} {w : World} {g : Grew w} {v : Value}
    (h : Calls P f args g.at_ fun e w' => e = .returned v ∧ g.at_ = w') : Calls P f args g.at_ fun e w'' => e = .returned v ∧ ∃ g' : Grew w, w'' = g'.at_ :=
  h.mono fun _ w' ⟨he, hb⟩ => ⟨he, g, hb.symm⟩
theorem gcell {w : World} (g : Grew w) {b o : Nat} {v : Option Value} (hb : b < w.heap.size) (hv : w.cell? ⟨b, o, none⟩ = v) : g.at_.cell? ⟨b, o, none⟩ = v := (g.below.cell (p := ⟨b, o, none⟩) hb).trans hv
theorem gcell2 {V w : World} (g : Grew w) (hb : Below V.heap.size V w) {b o : Nat} {v : Option Value} (hv' : b < V.heap.size) (hv : V.cell? ⟨b, o, none⟩ = v) : g.at_.cell? ⟨b, o, none⟩ = v :=
  gcell g (Nat.lt_of_lt_of_le hv' hb.size) ((hb.cell (p := ⟨b, o, none⟩) hv').trans hv)
theorem gfrozen2 {V w : World} (g : Grew w) (hb : Below V.heap.size V w) {b o : Nat} {v : Bool} (hv' : b < V.heap.size) (hv : V.frozen? ⟨b, o, none⟩ = v) : g.at_.frozen? ⟨b, o, none⟩ = v :=
  (g.below.frozen (p := ⟨b, o, none⟩) (Nat.lt_of_lt_of_le hv' hb.size)).trans ((hb.frozen (p := ⟨b, o, none⟩) hv').trans hv)
end Go.Proofs.Ytbcgbcipigcbhaa
