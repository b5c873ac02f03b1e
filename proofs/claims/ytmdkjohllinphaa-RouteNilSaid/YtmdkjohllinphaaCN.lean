/- Regions that draw their order and make one new part by a call: the parts of memory as the class. -/
import Derived.Test.YtmdkjohllinphaaAppR
namespace Go.Proofs.Ytmdkjohllinphaa
open Go.RowKit
set_option linter.unusedVariables false
set_option linter.unusedSimpArgs false

def CN (F : Nat → Prop) (W : World) (L : List HA) (T : Value → HA → Prop) (wq : World) : List Value → Prop
  | [] => St F W wq L
  | v :: _ => ∃ h, T v h ∧ St F W wq (h :: L)
theorem CN.st {F : Nat → Prop} {W : World} {L : List HA} {T : Value → HA → Prop} {wq : World} : ∀ {τ : List Value}, CN F W L T wq τ → St F W wq L
  | [], h => h
  | v :: _, ⟨_, _, S⟩ => S.drop 1
theorem CN.gr {F : Nat → Prop} {W : World} {L : List HA} {T : Value → HA → Prop} {wq w' : World} (g : Gr wq w') : ∀ {τ : List Value}, CN F W L T wq τ → CN F W L T w' τ
  | [], h => St.gr h g
  | v :: _, ⟨x, t, S⟩ => ⟨x, t, S.gr g⟩
end Go.Proofs.Ytmdkjohllinphaa
