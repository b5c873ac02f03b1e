/- route.of: a grid's values, and the places of cells in it. -/
import Derived.Test.YtbcgbcipigcbhaaRouteR
import Derived.Test.YtbcgbcipigcbhaaAppR
namespace Go.Proofs.Ytbcgbcipigcbhaa
open Go.RowKit
set_option linter.unusedVariables false
set_option linter.unusedSimpArgs false
set_option maxRecDepth 100000

def CN (F : Nat → Prop) (W : World) (L : List HA) (T : Value → HA → Prop) (wq : World) : List Value → Prop
  | [] => St F W wq L
  | v :: _ => ∃ h, T v h ∧ St F W wq (h :: L)
theorem CN.st {F : Nat → Prop} {W : World} {L : List HA} {T : Value → HA → Prop} {wq : World} : ∀ {τ : List Value}, CN F W L T wq τ → St F W wq L
  | [], h => h
  | v :: _, ⟨_, _, S⟩ => S.drop 1
theorem CN.gr {F : Nat → Prop} {W : World} {L : List HA} {T : Value → HA → Prop} {wq w' : World} (g : Gr wq w') : ∀ {τ : List Value}, CN F W L T wq τ → CN F W L T w' τ
  | [], h => St.gr h g
  | v :: _, ⟨x, t, S⟩ => ⟨x, t, S.gr g⟩
section
variable {P : Program} {w : World} {e : Nat → Value}
/-- results: a struct in memory, and two more -/
theorem resATT {a u u' : Tmp} {t tb : TypeId} {b o n : Nat} {dd : TypeDesc} {cs l : List Value} {v2 v3 : Value} {R : Value → World → Prop} (hu : P.underlying t = some dd) (hd : aggD dd = true) (hz : (sizeOf t).run P w = .ok n w) (hx : e a = .pointer (some ⟨b, o, none⟩)) (hB : Blk w b tb l)
    (hl : fzl ((l.drop o).take n) = some cs) (hn : cs.length = n) (h2 : fz (e u) = some v2) (h3 : fz (e u') = some v3) (hR : R (.tuple #[.agg cs.toArray, v2, v3]) w) : QF P #[.cell a t, .tmp u, .tmp u'] R .ret e w :=
  ⟨_, fun fn tmps hr hg => by
    have h1 := run_loadVar_E (o := default) (op_loadAB (P := P) (d := none) (ty := 0) (ps := "") (af := #[]) (e := fun _ => .pointer (some ⟨b, o, none⟩)) (x := .tmp 0) hu hd hz rfl hB hl hn)
    have g1 := hg a
    have g2 := hg u
    have g3 := hg u'
    rw [hx, Array.getD_eq_getD_getElem?] at g1
    rw [fz_eq h2, Array.getD_eq_getD_getElem?] at g2
    rw [fz_eq h3, Array.getD_eq_getD_getElem?] at g3
    simp [results, hr, g1, g2, g3, asAddr, h1], hR⟩
end
def idxZ (gw : Nat) (z : Int × Int) : Nat := z.2.toNat * gw + z.1.toNat
def RetOf (gw gh : Nat) (V : List Int) (ps : List Nat) (W : World) : Value → World → Prop := fun v w' =>
  ∃ A' c' A2 c2, v = .tuple #[.agg #[.int .i64 gw, .slice A' (gw * gh) c'], .slice A2 ps.length c2, .int .i64 0] ∧ Row w' 2 1 A' (gw * gh) c' (ints V) ∧ FreshA W A' ∧ Row w' 3 1 A2 ps.length c2 (natsV ps) ∧ FreshA W A2 ∧ (∀ g, ownA A' g → ¬ ownA A2 g) ∧ Gr W w'
section
variable {W : World} {A B : Option Addr} {p gw gh cap cB : Nat} {cc : Nat → Int} {bs : Nat → Nat} {Rs : Nat → Option Nat}
end
end Go.Proofs.Ytbcgbcipigcbhaa
