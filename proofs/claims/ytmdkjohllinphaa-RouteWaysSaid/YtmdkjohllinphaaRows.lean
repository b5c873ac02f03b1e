/-
  No cell of these rows narrows 'for every input' (looked for: loops, veiled, ifaces, maps, wideKeys, modest, calm, conditions, laid).
  DERIVED. THE GIVEN ROWS OF THIS SEAT. 12 by the template 'for every input the law returns true; each argument reads behind the call as it read before'; 0 by the template 'total and deterministic' (their statements: YtmdkjohllinphaaTotals.lean).
  GIVEN WITH THE SEED: the statements are not yours to turn. If you find one false, say at which input.
  Laid BY PROGRAM, IN A SANDBOX (cutbox-rows.mjs): the forced cells as the released guide's own fill.sh prints them over the translation 2ed4d8ffedfb12bc… (all of the seat's roots in one cut). By AI agents, Wed Nov 11 2026. No macro, syntax, notation, axiom, sorry.
-/
import Derived.Test.YtmdkjohllinphaaChecked
import GoSem.Claim
import GoSem.ClaimJoined
import GoSem.ClaimMapViews
import Derived.JoinedTies
import Derived.KernelRfl
namespace Go.Proofs.Ytmdkjohllinphaa
/- THE CELL 'sum', in the pinned program and in every row, IS THE sha256 OF THE DUMP (.gsa) THAT YtmdkjohllinphaaProg.lean LOADS. Nothing in Lean hashes anything: it is a label: what it is worth is what the hold of that sum in a sandbox is worth. -/
noncomputable def Try.pinned : Pinned := { name := "ytmdkjohllinphaa", sum := "2ed4d8ffedfb12bc7a145d947c99c4be2814d43bb5a60aea6c6baf001dc7c713", checked := Try.checked }
namespace Rows
def none {H : Type} : Left H := { results := [], args := [] }

/-- 'hachurelaw29.RegionsRise': WHATEVER THE INPUT: true; the input reads as it did. -/
def regionsRiseSpec : ChangeSpec := { name := "regionsRise", fn := fun _ => fun
  | [d1, d2, d3, d4, d5] => { results := [.lit (.bool true)], args := [d1, d2, d3, d4, d5] }
  | _ => none }
def regionsRiseRow : OpenClaim := { program := "ytmdkjohllinphaa", sum := "2ed4d8ffedfb12bc7a145d947c99c4be2814d43bb5a60aea6c6baf001dc7c713", func := "hachure/hachurelaw29.RegionsRise", spec := "regionsRise", unfollowed := true, recurses := true, apart := false }
def RegionsRiseSaid : Prop := regionsRiseRow.holds Try.pinned (OpenSpec.ofChange regionsRiseSpec)

/-- ITS FALSE NEIGHBOUR: 'it returns false'. Refute it at one input. -/
def regionsRiseWrong : ChangeSpec := { name := "regionsRise", fn := fun _ => fun
  | [d1, d2, d3, d4, d5] => { results := [.lit (.bool false)], args := [d1, d2, d3, d4, d5] }
  | _ => none }
def RegionsRiseWrongFalsely : Prop := regionsRiseRow.holds Try.pinned (OpenSpec.ofChange regionsRiseWrong)

/-- 'hachurelaw21.SparseNil': WHATEVER THE INPUT: true; the input reads as it did. -/
def sparseNilSpec : ChangeSpec := { name := "sparseNil", fn := fun _ => fun
  | [d1, d2, d3] => { results := [.lit (.bool true)], args := [d1, d2, d3] }
  | _ => none }
def sparseNilRow : OpenClaim := { program := "ytmdkjohllinphaa", sum := "2ed4d8ffedfb12bc7a145d947c99c4be2814d43bb5a60aea6c6baf001dc7c713", func := "hachure/hachurelaw21.SparseNil", spec := "sparseNil", unfollowed := true, recurses := true, apart := false }
def SparseNilSaid : Prop := sparseNilRow.holds Try.pinned (OpenSpec.ofChange sparseNilSpec)

/-- ITS FALSE NEIGHBOUR: 'it returns false'. Refute it at one input. -/
def sparseNilWrong : ChangeSpec := { name := "sparseNil", fn := fun _ => fun
  | [d1, d2, d3] => { results := [.lit (.bool false)], args := [d1, d2, d3] }
  | _ => none }
def SparseNilWrongFalsely : Prop := sparseNilRow.holds Try.pinned (OpenSpec.ofChange sparseNilWrong)

/-- 'hachurelaw32.RouteFinds': WHATEVER THE INPUT: true; the input reads as it did. -/
def routeFindsSpec : ChangeSpec := { name := "routeFinds", fn := fun _ => fun
  | [d1, d2, d3, d4, d5] => { results := [.lit (.bool true)], args := [d1, d2, d3, d4, d5] }
  | _ => none }
def routeFindsRow : OpenClaim := { program := "ytmdkjohllinphaa", sum := "2ed4d8ffedfb12bc7a145d947c99c4be2814d43bb5a60aea6c6baf001dc7c713", func := "hachure/hachurelaw32.RouteFinds", spec := "routeFinds", unfollowed := true, recurses := true, apart := false }
def RouteFindsSaid : Prop := routeFindsRow.holds Try.pinned (OpenSpec.ofChange routeFindsSpec)

/-- ITS FALSE NEIGHBOUR: 'it returns false'. Refute it at one input. -/
def routeFindsWrong : ChangeSpec := { name := "routeFinds", fn := fun _ => fun
  | [d1, d2, d3, d4, d5] => { results := [.lit (.bool false)], args := [d1, d2, d3, d4, d5] }
  | _ => none }
def RouteFindsWrongFalsely : Prop := routeFindsRow.holds Try.pinned (OpenSpec.ofChange routeFindsWrong)

/-- 'hachurelaw32.RouteWays': WHATEVER THE INPUT: true; the input reads as it did. -/
def routeWaysSpec : ChangeSpec := { name := "routeWays", fn := fun _ => fun
  | [d1, d2, d3, d4, d5, d6] => { results := [.lit (.bool true)], args := [d1, d2, d3, d4, d5, d6] }
  | _ => none }
def routeWaysRow : OpenClaim := { program := "ytmdkjohllinphaa", sum := "2ed4d8ffedfb12bc7a145d947c99c4be2814d43bb5a60aea6c6baf001dc7c713", func := "hachure/hachurelaw32.RouteWays", spec := "routeWays", unfollowed := true, recurses := true, apart := false }
def RouteWaysSaid : Prop := routeWaysRow.holds Try.pinned (OpenSpec.ofChange routeWaysSpec)

/-- ITS FALSE NEIGHBOUR: 'it returns false'. Refute it at one input. -/
def routeWaysWrong : ChangeSpec := { name := "routeWays", fn := fun _ => fun
  | [d1, d2, d3, d4, d5, d6] => { results := [.lit (.bool false)], args := [d1, d2, d3, d4, d5, d6] }
  | _ => none }
def RouteWaysWrongFalsely : Prop := routeWaysRow.holds Try.pinned (OpenSpec.ofChange routeWaysWrong)

/-- 'hachurelaw32.RouteNil': WHATEVER THE INPUT: true; the input reads as it did. -/
def routeNilSpec : ChangeSpec := { name := "routeNil", fn := fun _ => fun
  | [d1, d2, d3] => { results := [.lit (.bool true)], args := [d1, d2, d3] }
  | _ => none }
def routeNilRow : OpenClaim := { program := "ytmdkjohllinphaa", sum := "2ed4d8ffedfb12bc7a145d947c99c4be2814d43bb5a60aea6c6baf001dc7c713", func := "hachure/hachurelaw32.RouteNil", spec := "routeNil", unfollowed := true, recurses := true, apart := false }
def RouteNilSaid : Prop := routeNilRow.holds Try.pinned (OpenSpec.ofChange routeNilSpec)

/-- ITS FALSE NEIGHBOUR: 'it returns false'. Refute it at one input. -/
def routeNilWrong : ChangeSpec := { name := "routeNil", fn := fun _ => fun
  | [d1, d2, d3] => { results := [.lit (.bool false)], args := [d1, d2, d3] }
  | _ => none }
def RouteNilWrongFalsely : Prop := routeNilRow.holds Try.pinned (OpenSpec.ofChange routeNilWrong)

/-- 'hachurelaw32.RouteCosts': WHATEVER THE INPUT: true; the input reads as it did. -/
def routeCostsSpec : ChangeSpec := { name := "routeCosts", fn := fun _ => fun
  | [d1, d2, d3, d4, d5] => { results := [.lit (.bool true)], args := [d1, d2, d3, d4, d5] }
  | _ => none }
def routeCostsRow : OpenClaim := { program := "ytmdkjohllinphaa", sum := "2ed4d8ffedfb12bc7a145d947c99c4be2814d43bb5a60aea6c6baf001dc7c713", func := "hachure/hachurelaw32.RouteCosts", spec := "routeCosts", unfollowed := true, recurses := true, apart := false }
def RouteCostsSaid : Prop := routeCostsRow.holds Try.pinned (OpenSpec.ofChange routeCostsSpec)

/-- ITS FALSE NEIGHBOUR: 'it returns false'. Refute it at one input. -/
def routeCostsWrong : ChangeSpec := { name := "routeCosts", fn := fun _ => fun
  | [d1, d2, d3, d4, d5] => { results := [.lit (.bool false)], args := [d1, d2, d3, d4, d5] }
  | _ => none }
def RouteCostsWrongFalsely : Prop := routeCostsRow.holds Try.pinned (OpenSpec.ofChange routeCostsWrong)

/-- 'hachurelaw45.FillLevels': WHATEVER THE INPUT: true; the input reads as it did. -/
def fillLevelsSpec : ChangeSpec := { name := "fillLevels", fn := fun _ => fun
  | [d1, d2, d3] => { results := [.lit (.bool true)], args := [d1, d2, d3] }
  | _ => none }
def fillLevelsRow : OpenClaim := { program := "ytmdkjohllinphaa", sum := "2ed4d8ffedfb12bc7a145d947c99c4be2814d43bb5a60aea6c6baf001dc7c713", func := "hachure/hachurelaw45.FillLevels", spec := "fillLevels", unfollowed := true, recurses := true, apart := false }
def FillLevelsSaid : Prop := fillLevelsRow.holds Try.pinned (OpenSpec.ofChange fillLevelsSpec)

/-- ITS FALSE NEIGHBOUR: 'it returns false'. Refute it at one input. -/
def fillLevelsWrong : ChangeSpec := { name := "fillLevels", fn := fun _ => fun
  | [d1, d2, d3] => { results := [.lit (.bool false)], args := [d1, d2, d3] }
  | _ => none }
def FillLevelsWrongFalsely : Prop := fillLevelsRow.holds Try.pinned (OpenSpec.ofChange fillLevelsWrong)

/-- 'hachurelaw45.FillShores': WHATEVER THE INPUT: true; the input reads as it did. -/
def fillShoresSpec : ChangeSpec := { name := "fillShores", fn := fun _ => fun
  | [d1, d2, d3] => { results := [.lit (.bool true)], args := [d1, d2, d3] }
  | _ => none }
def fillShoresRow : OpenClaim := { program := "ytmdkjohllinphaa", sum := "2ed4d8ffedfb12bc7a145d947c99c4be2814d43bb5a60aea6c6baf001dc7c713", func := "hachure/hachurelaw45.FillShores", spec := "fillShores", unfollowed := true, recurses := true, apart := false }
def FillShoresSaid : Prop := fillShoresRow.holds Try.pinned (OpenSpec.ofChange fillShoresSpec)

/-- ITS FALSE NEIGHBOUR: 'it returns false'. Refute it at one input. -/
def fillShoresWrong : ChangeSpec := { name := "fillShores", fn := fun _ => fun
  | [d1, d2, d3] => { results := [.lit (.bool false)], args := [d1, d2, d3] }
  | _ => none }
def FillShoresWrongFalsely : Prop := fillShoresRow.holds Try.pinned (OpenSpec.ofChange fillShoresWrong)

/-- 'hachurelaw45.FillNil': WHATEVER THE INPUT: true; the input reads as it did. -/
def fillNilSpec : ChangeSpec := { name := "fillNil", fn := fun _ => fun
  | [d] => { results := [.lit (.bool true)], args := [d] }
  | _ => none }
def fillNilRow : OpenClaim := { program := "ytmdkjohllinphaa", sum := "2ed4d8ffedfb12bc7a145d947c99c4be2814d43bb5a60aea6c6baf001dc7c713", func := "hachure/hachurelaw45.FillNil", spec := "fillNil", unfollowed := true, recurses := true, apart := false }
def FillNilSaid : Prop := fillNilRow.holds Try.pinned (OpenSpec.ofChange fillNilSpec)

/-- ITS FALSE NEIGHBOUR: 'it returns false'. Refute it at one input. -/
def fillNilWrong : ChangeSpec := { name := "fillNil", fn := fun _ => fun
  | [d] => { results := [.lit (.bool false)], args := [d] }
  | _ => none }
def FillNilWrongFalsely : Prop := fillNilRow.holds Try.pinned (OpenSpec.ofChange fillNilWrong)

/-- 'hachurelaw45.FillLakes': WHATEVER THE INPUT: true; the input reads as it did. -/
def fillLakesSpec : ChangeSpec := { name := "fillLakes", fn := fun _ => fun
  | [d1, d2, d3] => { results := [.lit (.bool true)], args := [d1, d2, d3] }
  | _ => none }
def fillLakesRow : OpenClaim := { program := "ytmdkjohllinphaa", sum := "2ed4d8ffedfb12bc7a145d947c99c4be2814d43bb5a60aea6c6baf001dc7c713", func := "hachure/hachurelaw45.FillLakes", spec := "fillLakes", unfollowed := true, recurses := true, apart := false }
def FillLakesSaid : Prop := fillLakesRow.holds Try.pinned (OpenSpec.ofChange fillLakesSpec)

/-- ITS FALSE NEIGHBOUR: 'it returns false'. Refute it at one input. -/
def fillLakesWrong : ChangeSpec := { name := "fillLakes", fn := fun _ => fun
  | [d1, d2, d3] => { results := [.lit (.bool false)], args := [d1, d2, d3] }
  | _ => none }
def FillLakesWrongFalsely : Prop := fillLakesRow.holds Try.pinned (OpenSpec.ofChange fillLakesWrong)

/-- 'hachurelaw29.RegionsJoined': WHATEVER THE INPUT: true; the input reads as it did. -/
def regionsJoinedSpec : ChangeSpec := { name := "regionsJoined", fn := fun _ => fun
  | [d1, d2, d3, d4, d5] => { results := [.lit (.bool true)], args := [d1, d2, d3, d4, d5] }
  | _ => none }
def regionsJoinedRow : OpenClaim := { program := "ytmdkjohllinphaa", sum := "2ed4d8ffedfb12bc7a145d947c99c4be2814d43bb5a60aea6c6baf001dc7c713", func := "hachure/hachurelaw29.RegionsJoined", spec := "regionsJoined", unfollowed := true, recurses := true, apart := false }
def RegionsJoinedSaid : Prop := regionsJoinedRow.holds Try.pinned (OpenSpec.ofChange regionsJoinedSpec)

/-- ITS FALSE NEIGHBOUR: 'it returns false'. Refute it at one input. -/
def regionsJoinedWrong : ChangeSpec := { name := "regionsJoined", fn := fun _ => fun
  | [d1, d2, d3, d4, d5] => { results := [.lit (.bool false)], args := [d1, d2, d3, d4, d5] }
  | _ => none }
def RegionsJoinedWrongFalsely : Prop := regionsJoinedRow.holds Try.pinned (OpenSpec.ofChange regionsJoinedWrong)

/-- 'hachurelaw29.RegionsNil': WHATEVER THE INPUT: true; the input reads as it did. -/
def regionsNilSpec : ChangeSpec := { name := "regionsNil", fn := fun _ => fun
  | [d1, d2] => { results := [.lit (.bool true)], args := [d1, d2] }
  | _ => none }
def regionsNilRow : OpenClaim := { program := "ytmdkjohllinphaa", sum := "2ed4d8ffedfb12bc7a145d947c99c4be2814d43bb5a60aea6c6baf001dc7c713", func := "hachure/hachurelaw29.RegionsNil", spec := "regionsNil", unfollowed := true, recurses := true, apart := false }
def RegionsNilSaid : Prop := regionsNilRow.holds Try.pinned (OpenSpec.ofChange regionsNilSpec)

/-- ITS FALSE NEIGHBOUR: 'it returns false'. Refute it at one input. -/
def regionsNilWrong : ChangeSpec := { name := "regionsNil", fn := fun _ => fun
  | [d1, d2] => { results := [.lit (.bool false)], args := [d1, d2] }
  | _ => none }
def RegionsNilWrongFalsely : Prop := regionsNilRow.holds Try.pinned (OpenSpec.ofChange regionsNilWrong)

/- THE SECOND FORM. 'bulk': how many values and letters a reading holds, each counted each time it is reached (what is shared counts as often as it is met; a slice's spare places count too). A statement '..UptoSaid' is the law's where the arguments, and the package variables that the reading takes, are together of bulk at most 1048576: NARROWER than '..Said'. Prove '..Said' where nothing that the law and all that it calls make is longer than what came in: it says more and counts as full. Else prove '..UptoSaid'. A law counts once. -/
mutual
def uptoBulk {H : Type} : DataW H → Nat
  | .lit (.string bytes) => bytes.length + 1
  | .lit _ => 1
  | .nil => 1
  | .ptr d => uptoBulk d + 1
  | .slice elems spare => uptoBulkAll elems + uptoBulkAll spare + 1
  | .agg parts => uptoBulkAll parts + 1
  | .iface _ d => uptoBulk d + 1
  | .map entries => uptoBulkEntries entries + 1
  | .held _ => 1
def uptoBulkAll {H : Type} : List (DataW H) → Nat
  | [] => 0
  | d :: r => uptoBulk d + uptoBulkAll r
def uptoBulkEntries {H : Type} : List (Lit × DataW H) → Nat
  | [] => 0
  | x :: r => uptoBulkEntry x + uptoBulkEntries r
def uptoBulkEntry {H : Type} : Lit × DataW H → Nat
  | (.string bytes, d) => bytes.length + uptoBulk d + 1
  | (_, d) => uptoBulk d + 1
 end
def uptoSmall : (H : Type) → List (DataW H) → Bool := fun _ ds => decide (uptoBulkAll ds ≤ 1048576)
def OpenSpec.upto (s : _root_.Go.ChangeSpec) : _root_.Go.OpenSpec := { _root_.Go.OpenSpec.ofChange s with cond := some uptoSmall }

/-- 'hachurelaw29.RegionsRise', WHERE WHAT IT READS IS OF BULK AT MOST 1048576: true; the input reads as it did. -/
def regionsRiseUptoRow : OpenClaim := { program := "ytmdkjohllinphaa", sum := "2ed4d8ffedfb12bc7a145d947c99c4be2814d43bb5a60aea6c6baf001dc7c713", func := "hachure/hachurelaw29.RegionsRise", spec := "regionsRise", unfollowed := true, recurses := true, apart := false, narrowed := true }
def RegionsRiseUptoSaid : Prop := regionsRiseUptoRow.holds Try.pinned (OpenSpec.upto regionsRiseSpec)

/-- 'hachurelaw21.SparseNil', WHERE WHAT IT READS IS OF BULK AT MOST 1048576: true; the input reads as it did. -/
def sparseNilUptoRow : OpenClaim := { program := "ytmdkjohllinphaa", sum := "2ed4d8ffedfb12bc7a145d947c99c4be2814d43bb5a60aea6c6baf001dc7c713", func := "hachure/hachurelaw21.SparseNil", spec := "sparseNil", unfollowed := true, recurses := true, apart := false, narrowed := true }
def SparseNilUptoSaid : Prop := sparseNilUptoRow.holds Try.pinned (OpenSpec.upto sparseNilSpec)

/-- 'hachurelaw32.RouteFinds', WHERE WHAT IT READS IS OF BULK AT MOST 1048576: true; the input reads as it did. -/
def routeFindsUptoRow : OpenClaim := { program := "ytmdkjohllinphaa", sum := "2ed4d8ffedfb12bc7a145d947c99c4be2814d43bb5a60aea6c6baf001dc7c713", func := "hachure/hachurelaw32.RouteFinds", spec := "routeFinds", unfollowed := true, recurses := true, apart := false, narrowed := true }
def RouteFindsUptoSaid : Prop := routeFindsUptoRow.holds Try.pinned (OpenSpec.upto routeFindsSpec)

/-- 'hachurelaw32.RouteWays', WHERE WHAT IT READS IS OF BULK AT MOST 1048576: true; the input reads as it did. -/
def routeWaysUptoRow : OpenClaim := { program := "ytmdkjohllinphaa", sum := "2ed4d8ffedfb12bc7a145d947c99c4be2814d43bb5a60aea6c6baf001dc7c713", func := "hachure/hachurelaw32.RouteWays", spec := "routeWays", unfollowed := true, recurses := true, apart := false, narrowed := true }
def RouteWaysUptoSaid : Prop := routeWaysUptoRow.holds Try.pinned (OpenSpec.upto routeWaysSpec)

/-- 'hachurelaw32.RouteNil', WHERE WHAT IT READS IS OF BULK AT MOST 1048576: true; the input reads as it did. -/
def routeNilUptoRow : OpenClaim := { program := "ytmdkjohllinphaa", sum := "2ed4d8ffedfb12bc7a145d947c99c4be2814d43bb5a60aea6c6baf001dc7c713", func := "hachure/hachurelaw32.RouteNil", spec := "routeNil", unfollowed := true, recurses := true, apart := false, narrowed := true }
def RouteNilUptoSaid : Prop := routeNilUptoRow.holds Try.pinned (OpenSpec.upto routeNilSpec)

/-- 'hachurelaw32.RouteCosts', WHERE WHAT IT READS IS OF BULK AT MOST 1048576: true; the input reads as it did. -/
def routeCostsUptoRow : OpenClaim := { program := "ytmdkjohllinphaa", sum := "2ed4d8ffedfb12bc7a145d947c99c4be2814d43bb5a60aea6c6baf001dc7c713", func := "hachure/hachurelaw32.RouteCosts", spec := "routeCosts", unfollowed := true, recurses := true, apart := false, narrowed := true }
def RouteCostsUptoSaid : Prop := routeCostsUptoRow.holds Try.pinned (OpenSpec.upto routeCostsSpec)

/-- 'hachurelaw45.FillLevels', WHERE WHAT IT READS IS OF BULK AT MOST 1048576: true; the input reads as it did. -/
def fillLevelsUptoRow : OpenClaim := { program := "ytmdkjohllinphaa", sum := "2ed4d8ffedfb12bc7a145d947c99c4be2814d43bb5a60aea6c6baf001dc7c713", func := "hachure/hachurelaw45.FillLevels", spec := "fillLevels", unfollowed := true, recurses := true, apart := false, narrowed := true }
def FillLevelsUptoSaid : Prop := fillLevelsUptoRow.holds Try.pinned (OpenSpec.upto fillLevelsSpec)

/-- 'hachurelaw45.FillShores', WHERE WHAT IT READS IS OF BULK AT MOST 1048576: true; the input reads as it did. -/
def fillShoresUptoRow : OpenClaim := { program := "ytmdkjohllinphaa", sum := "2ed4d8ffedfb12bc7a145d947c99c4be2814d43bb5a60aea6c6baf001dc7c713", func := "hachure/hachurelaw45.FillShores", spec := "fillShores", unfollowed := true, recurses := true, apart := false, narrowed := true }
def FillShoresUptoSaid : Prop := fillShoresUptoRow.holds Try.pinned (OpenSpec.upto fillShoresSpec)

/-- 'hachurelaw45.FillNil', WHERE WHAT IT READS IS OF BULK AT MOST 1048576: true; the input reads as it did. -/
def fillNilUptoRow : OpenClaim := { program := "ytmdkjohllinphaa", sum := "2ed4d8ffedfb12bc7a145d947c99c4be2814d43bb5a60aea6c6baf001dc7c713", func := "hachure/hachurelaw45.FillNil", spec := "fillNil", unfollowed := true, recurses := true, apart := false, narrowed := true }
def FillNilUptoSaid : Prop := fillNilUptoRow.holds Try.pinned (OpenSpec.upto fillNilSpec)

/-- 'hachurelaw45.FillLakes', WHERE WHAT IT READS IS OF BULK AT MOST 1048576: true; the input reads as it did. -/
def fillLakesUptoRow : OpenClaim := { program := "ytmdkjohllinphaa", sum := "2ed4d8ffedfb12bc7a145d947c99c4be2814d43bb5a60aea6c6baf001dc7c713", func := "hachure/hachurelaw45.FillLakes", spec := "fillLakes", unfollowed := true, recurses := true, apart := false, narrowed := true }
def FillLakesUptoSaid : Prop := fillLakesUptoRow.holds Try.pinned (OpenSpec.upto fillLakesSpec)

/-- 'hachurelaw29.RegionsJoined', WHERE WHAT IT READS IS OF BULK AT MOST 1048576: true; the input reads as it did. -/
def regionsJoinedUptoRow : OpenClaim := { program := "ytmdkjohllinphaa", sum := "2ed4d8ffedfb12bc7a145d947c99c4be2814d43bb5a60aea6c6baf001dc7c713", func := "hachure/hachurelaw29.RegionsJoined", spec := "regionsJoined", unfollowed := true, recurses := true, apart := false, narrowed := true }
def RegionsJoinedUptoSaid : Prop := regionsJoinedUptoRow.holds Try.pinned (OpenSpec.upto regionsJoinedSpec)

/-- 'hachurelaw29.RegionsNil', WHERE WHAT IT READS IS OF BULK AT MOST 1048576: true; the input reads as it did. -/
def regionsNilUptoRow : OpenClaim := { program := "ytmdkjohllinphaa", sum := "2ed4d8ffedfb12bc7a145d947c99c4be2814d43bb5a60aea6c6baf001dc7c713", func := "hachure/hachurelaw29.RegionsNil", spec := "regionsNil", unfollowed := true, recurses := true, apart := false, narrowed := true }
def RegionsNilUptoSaid : Prop := regionsNilUptoRow.holds Try.pinned (OpenSpec.upto regionsNilSpec)

end Rows
end Go.Proofs.Ytmdkjohllinphaa
