/-
  No cell of these rows narrows 'for every input' (looked for: loops, veiled, ifaces, maps, wideKeys, modest, calm, conditions, laid).
  DERIVED. THE GIVEN ROWS OF THIS SEAT. 8 by the template 'for every input the law returns true; each argument reads behind the call as it read before'; 0 by the template 'total and deterministic' (their statements: YteihfmifelcidaaTotals.lean).
  GIVEN WITH THE SEED: the statements are not yours to turn. If you find one false, say at which input.
  Laid BY PROGRAM, IN A SANDBOX (cutbox-rows.mjs): the forced cells as the released guide's own fill.sh prints them over the translation 85c5ed13ab433152… (all of the seat's roots in one cut). By AI agents, Wed Nov 11 2026. No macro, syntax, notation, axiom, sorry.
-/
import Derived.Test.YteihfmifelcidaaChecked
import GoSem.Claim
import GoSem.ClaimJoined
import GoSem.ClaimMapViews
import Derived.JoinedTies
import Derived.KernelRfl
namespace Go.Proofs.Yteihfmifelcidaa
/- THE CELL 'sum', in the pinned program and in every row, IS THE sha256 OF THE DUMP (.gsa) THAT YteihfmifelcidaaProg.lean LOADS. Nothing in Lean hashes anything: it is a label: what it is worth is what the hold of that sum in a sandbox is worth. -/
noncomputable def Try.pinned : Pinned := { name := "yteihfmifelcidaa", sum := "85c5ed13ab43315279fa817461c5aa938c14e1744a4c24998e15731ddb12f686", checked := Try.checked }
namespace Rows
def none {H : Type} : Left H := { results := [], args := [] }

/-- 'hachurelaw46.PeaksOf': WHATEVER THE INPUT: true; the input reads as it did. -/
def peaksOfSpec : ChangeSpec := { name := "peaksOf", fn := fun _ => fun
  | [d1, d2, d3, d4] => { results := [.lit (.bool true)], args := [d1, d2, d3, d4] }
  | _ => none }
def peaksOfRow : OpenClaim := { program := "yteihfmifelcidaa", sum := "85c5ed13ab43315279fa817461c5aa938c14e1744a4c24998e15731ddb12f686", func := "hachure/hachurelaw46.PeaksOf", spec := "peaksOf", unfollowed := true, recurses := true, plainKeys := false, apart := false }
def PeaksOfSaid : Prop := peaksOfRow.holds Try.pinned (OpenSpec.ofChange peaksOfSpec)

/-- ITS FALSE NEIGHBOUR: 'it returns false'. Refute it at one input. -/
def peaksOfWrong : ChangeSpec := { name := "peaksOf", fn := fun _ => fun
  | [d1, d2, d3, d4] => { results := [.lit (.bool false)], args := [d1, d2, d3, d4] }
  | _ => none }
def PeaksOfWrongFalsely : Prop := peaksOfRow.holds Try.pinned (OpenSpec.ofChange peaksOfWrong)

/-- 'hachurelaw46.PeaksJoin': WHATEVER THE INPUT: true; the input reads as it did. -/
def peaksJoinSpec : ChangeSpec := { name := "peaksJoin", fn := fun _ => fun
  | [d1, d2, d3] => { results := [.lit (.bool true)], args := [d1, d2, d3] }
  | _ => none }
def peaksJoinRow : OpenClaim := { program := "yteihfmifelcidaa", sum := "85c5ed13ab43315279fa817461c5aa938c14e1744a4c24998e15731ddb12f686", func := "hachure/hachurelaw46.PeaksJoin", spec := "peaksJoin", unfollowed := true, recurses := true, plainKeys := false, apart := false }
def PeaksJoinSaid : Prop := peaksJoinRow.holds Try.pinned (OpenSpec.ofChange peaksJoinSpec)

/-- ITS FALSE NEIGHBOUR: 'it returns false'. Refute it at one input. -/
def peaksJoinWrong : ChangeSpec := { name := "peaksJoin", fn := fun _ => fun
  | [d1, d2, d3] => { results := [.lit (.bool false)], args := [d1, d2, d3] }
  | _ => none }
def PeaksJoinWrongFalsely : Prop := peaksJoinRow.holds Try.pinned (OpenSpec.ofChange peaksJoinWrong)

/-- 'hachurelaw49.ZonesOf': WHATEVER THE INPUT: true; the input reads as it did. -/
def zonesOfSpec : ChangeSpec := { name := "zonesOf", fn := fun _ => fun
  | [d1, d2, d3, d4] => { results := [.lit (.bool true)], args := [d1, d2, d3, d4] }
  | _ => none }
def zonesOfRow : OpenClaim := { program := "yteihfmifelcidaa", sum := "85c5ed13ab43315279fa817461c5aa938c14e1744a4c24998e15731ddb12f686", func := "hachure/hachurelaw49.ZonesOf", spec := "zonesOf", unfollowed := true, recurses := true, plainKeys := false, apart := false }
def ZonesOfSaid : Prop := zonesOfRow.holds Try.pinned (OpenSpec.ofChange zonesOfSpec)

/-- ITS FALSE NEIGHBOUR: 'it returns false'. Refute it at one input. -/
def zonesOfWrong : ChangeSpec := { name := "zonesOf", fn := fun _ => fun
  | [d1, d2, d3, d4] => { results := [.lit (.bool false)], args := [d1, d2, d3, d4] }
  | _ => none }
def ZonesOfWrongFalsely : Prop := zonesOfRow.holds Try.pinned (OpenSpec.ofChange zonesOfWrong)

/-- 'hachurelaw49.ZonesBorders': WHATEVER THE INPUT: true; the input reads as it did. -/
def zonesBordersSpec : ChangeSpec := { name := "zonesBorders", fn := fun _ => fun
  | [d1, d2, d3, d4] => { results := [.lit (.bool true)], args := [d1, d2, d3, d4] }
  | _ => none }
def zonesBordersRow : OpenClaim := { program := "yteihfmifelcidaa", sum := "85c5ed13ab43315279fa817461c5aa938c14e1744a4c24998e15731ddb12f686", func := "hachure/hachurelaw49.ZonesBorders", spec := "zonesBorders", unfollowed := true, recurses := true, plainKeys := false, apart := false }
def ZonesBordersSaid : Prop := zonesBordersRow.holds Try.pinned (OpenSpec.ofChange zonesBordersSpec)

/-- ITS FALSE NEIGHBOUR: 'it returns false'. Refute it at one input. -/
def zonesBordersWrong : ChangeSpec := { name := "zonesBorders", fn := fun _ => fun
  | [d1, d2, d3, d4] => { results := [.lit (.bool false)], args := [d1, d2, d3, d4] }
  | _ => none }
def ZonesBordersWrongFalsely : Prop := zonesBordersRow.holds Try.pinned (OpenSpec.ofChange zonesBordersWrong)

/-- 'hachurelaw49.ZonesMean': WHATEVER THE INPUT: true; the input reads as it did. -/
def zonesMeanSpec : ChangeSpec := { name := "zonesMean", fn := fun _ => fun
  | [d] => { results := [.lit (.bool true)], args := [d] }
  | _ => none }
def zonesMeanRow : OpenClaim := { program := "yteihfmifelcidaa", sum := "85c5ed13ab43315279fa817461c5aa938c14e1744a4c24998e15731ddb12f686", func := "hachure/hachurelaw49.ZonesMean", spec := "zonesMean", unfollowed := true, recurses := true, plainKeys := false, apart := false }
def ZonesMeanSaid : Prop := zonesMeanRow.holds Try.pinned (OpenSpec.ofChange zonesMeanSpec)

/-- ITS FALSE NEIGHBOUR: 'it returns false'. Refute it at one input. -/
def zonesMeanWrong : ChangeSpec := { name := "zonesMean", fn := fun _ => fun
  | [d] => { results := [.lit (.bool false)], args := [d] }
  | _ => none }
def ZonesMeanWrongFalsely : Prop := zonesMeanRow.holds Try.pinned (OpenSpec.ofChange zonesMeanWrong)

/-- 'hachurelaw49.ZonesNil': WHATEVER THE INPUT: true; the input reads as it did. -/
def zonesNilSpec : ChangeSpec := { name := "zonesNil", fn := fun _ => fun
  | [d1, d2, d3] => { results := [.lit (.bool true)], args := [d1, d2, d3] }
  | _ => none }
def zonesNilRow : OpenClaim := { program := "yteihfmifelcidaa", sum := "85c5ed13ab43315279fa817461c5aa938c14e1744a4c24998e15731ddb12f686", func := "hachure/hachurelaw49.ZonesNil", spec := "zonesNil", unfollowed := true, recurses := true, plainKeys := false, apart := false }
def ZonesNilSaid : Prop := zonesNilRow.holds Try.pinned (OpenSpec.ofChange zonesNilSpec)

/-- ITS FALSE NEIGHBOUR: 'it returns false'. Refute it at one input. -/
def zonesNilWrong : ChangeSpec := { name := "zonesNil", fn := fun _ => fun
  | [d1, d2, d3] => { results := [.lit (.bool false)], args := [d1, d2, d3] }
  | _ => none }
def ZonesNilWrongFalsely : Prop := zonesNilRow.holds Try.pinned (OpenSpec.ofChange zonesNilWrong)

/-- 'hachurelaw49.ZonesMask': WHATEVER THE INPUT: true; the input reads as it did. -/
def zonesMaskSpec : ChangeSpec := { name := "zonesMask", fn := fun _ => fun
  | [d1, d2, d3, d4, d5, d6] => { results := [.lit (.bool true)], args := [d1, d2, d3, d4, d5, d6] }
  | _ => none }
def zonesMaskRow : OpenClaim := { program := "yteihfmifelcidaa", sum := "85c5ed13ab43315279fa817461c5aa938c14e1744a4c24998e15731ddb12f686", func := "hachure/hachurelaw49.ZonesMask", spec := "zonesMask", unfollowed := true, recurses := true, plainKeys := false, apart := false }
def ZonesMaskSaid : Prop := zonesMaskRow.holds Try.pinned (OpenSpec.ofChange zonesMaskSpec)

/-- ITS FALSE NEIGHBOUR: 'it returns false'. Refute it at one input. -/
def zonesMaskWrong : ChangeSpec := { name := "zonesMask", fn := fun _ => fun
  | [d1, d2, d3, d4, d5, d6] => { results := [.lit (.bool false)], args := [d1, d2, d3, d4, d5, d6] }
  | _ => none }
def ZonesMaskWrongFalsely : Prop := zonesMaskRow.holds Try.pinned (OpenSpec.ofChange zonesMaskWrong)

/-- 'hachurelaw49.ZonesRegions': WHATEVER THE INPUT: true; the input reads as it did. -/
def zonesRegionsSpec : ChangeSpec := { name := "zonesRegions", fn := fun _ => fun
  | [d1, d2, d3, d4] => { results := [.lit (.bool true)], args := [d1, d2, d3, d4] }
  | _ => none }
def zonesRegionsRow : OpenClaim := { program := "yteihfmifelcidaa", sum := "85c5ed13ab43315279fa817461c5aa938c14e1744a4c24998e15731ddb12f686", func := "hachure/hachurelaw49.ZonesRegions", spec := "zonesRegions", unfollowed := true, recurses := true, plainKeys := false, apart := false }
def ZonesRegionsSaid : Prop := zonesRegionsRow.holds Try.pinned (OpenSpec.ofChange zonesRegionsSpec)

/-- ITS FALSE NEIGHBOUR: 'it returns false'. Refute it at one input. -/
def zonesRegionsWrong : ChangeSpec := { name := "zonesRegions", fn := fun _ => fun
  | [d1, d2, d3, d4] => { results := [.lit (.bool false)], args := [d1, d2, d3, d4] }
  | _ => none }
def ZonesRegionsWrongFalsely : Prop := zonesRegionsRow.holds Try.pinned (OpenSpec.ofChange zonesRegionsWrong)

/- THE SECOND FORM. 'bulk': how many values and letters a reading holds, each counted each time it is reached (what is shared counts as often as it is met; a slice's spare places count too). A statement '..UptoSaid' is the law's where the arguments, and the package variables that the reading takes, are together of bulk at most 1048576: NARROWER than '..Said'. Prove '..Said' where nothing that the law and all that it calls make is longer than what came in: it says more and counts as full. Else prove '..UptoSaid'. A law counts once. -/
mutual
def uptoBulk {H : Type} : DataW H → Nat
  | .lit (.string bytes) => bytes.length + 1
  | .lit _ => 1
  | .nil => 1
  | .ptr d => uptoBulk d + 1
  | .slice elems spare => uptoBulkAll elems + uptoBulkAll spare + 1
  | .agg parts => uptoBulkAll parts + 1
  | .iface _ d => uptoBulk d + 1
  | .map entries => uptoBulkEntries entries + 1
  | .held _ => 1
def uptoBulkAll {H : Type} : List (DataW H) → Nat
  | [] => 0
  | d :: r => uptoBulk d + uptoBulkAll r
def uptoBulkEntries {H : Type} : List (Lit × DataW H) → Nat
  | [] => 0
  | x :: r => uptoBulkEntry x + uptoBulkEntries r
def uptoBulkEntry {H : Type} : Lit × DataW H → Nat
  | (.string bytes, d) => bytes.length + uptoBulk d + 1
  | (_, d) => uptoBulk d + 1
 end
def uptoSmall : (H : Type) → List (DataW H) → Bool := fun _ ds => decide (uptoBulkAll ds ≤ 1048576)
def OpenSpec.upto (s : _root_.Go.ChangeSpec) : _root_.Go.OpenSpec := { _root_.Go.OpenSpec.ofChange s with cond := some uptoSmall }

/-- 'hachurelaw46.PeaksOf', WHERE WHAT IT READS IS OF BULK AT MOST 1048576: true; the input reads as it did. -/
def peaksOfUptoRow : OpenClaim := { program := "yteihfmifelcidaa", sum := "85c5ed13ab43315279fa817461c5aa938c14e1744a4c24998e15731ddb12f686", func := "hachure/hachurelaw46.PeaksOf", spec := "peaksOf", unfollowed := true, recurses := true, plainKeys := false, apart := false, narrowed := true }
def PeaksOfUptoSaid : Prop := peaksOfUptoRow.holds Try.pinned (OpenSpec.upto peaksOfSpec)

/-- 'hachurelaw46.PeaksJoin', WHERE WHAT IT READS IS OF BULK AT MOST 1048576: true; the input reads as it did. -/
def peaksJoinUptoRow : OpenClaim := { program := "yteihfmifelcidaa", sum := "85c5ed13ab43315279fa817461c5aa938c14e1744a4c24998e15731ddb12f686", func := "hachure/hachurelaw46.PeaksJoin", spec := "peaksJoin", unfollowed := true, recurses := true, plainKeys := false, apart := false, narrowed := true }
def PeaksJoinUptoSaid : Prop := peaksJoinUptoRow.holds Try.pinned (OpenSpec.upto peaksJoinSpec)

/-- 'hachurelaw49.ZonesOf', WHERE WHAT IT READS IS OF BULK AT MOST 1048576: true; the input reads as it did. -/
def zonesOfUptoRow : OpenClaim := { program := "yteihfmifelcidaa", sum := "85c5ed13ab43315279fa817461c5aa938c14e1744a4c24998e15731ddb12f686", func := "hachure/hachurelaw49.ZonesOf", spec := "zonesOf", unfollowed := true, recurses := true, plainKeys := false, apart := false, narrowed := true }
def ZonesOfUptoSaid : Prop := zonesOfUptoRow.holds Try.pinned (OpenSpec.upto zonesOfSpec)

/-- 'hachurelaw49.ZonesBorders', WHERE WHAT IT READS IS OF BULK AT MOST 1048576: true; the input reads as it did. -/
def zonesBordersUptoRow : OpenClaim := { program := "yteihfmifelcidaa", sum := "85c5ed13ab43315279fa817461c5aa938c14e1744a4c24998e15731ddb12f686", func := "hachure/hachurelaw49.ZonesBorders", spec := "zonesBorders", unfollowed := true, recurses := true, plainKeys := false, apart := false, narrowed := true }
def ZonesBordersUptoSaid : Prop := zonesBordersUptoRow.holds Try.pinned (OpenSpec.upto zonesBordersSpec)

/-- 'hachurelaw49.ZonesMean', WHERE WHAT IT READS IS OF BULK AT MOST 1048576: true; the input reads as it did. -/
def zonesMeanUptoRow : OpenClaim := { program := "yteihfmifelcidaa", sum := "85c5ed13ab43315279fa817461c5aa938c14e1744a4c24998e15731ddb12f686", func := "hachure/hachurelaw49.ZonesMean", spec := "zonesMean", unfollowed := true, recurses := true, plainKeys := false, apart := false, narrowed := true }
def ZonesMeanUptoSaid : Prop := zonesMeanUptoRow.holds Try.pinned (OpenSpec.upto zonesMeanSpec)

/-- 'hachurelaw49.ZonesNil', WHERE WHAT IT READS IS OF BULK AT MOST 1048576: true; the input reads as it did. -/
def zonesNilUptoRow : OpenClaim := { program := "yteihfmifelcidaa", sum := "85c5ed13ab43315279fa817461c5aa938c14e1744a4c24998e15731ddb12f686", func := "hachure/hachurelaw49.ZonesNil", spec := "zonesNil", unfollowed := true, recurses := true, plainKeys := false, apart := false, narrowed := true }
def ZonesNilUptoSaid : Prop := zonesNilUptoRow.holds Try.pinned (OpenSpec.upto zonesNilSpec)

/-- 'hachurelaw49.ZonesMask', WHERE WHAT IT READS IS OF BULK AT MOST 1048576: true; the input reads as it did. -/
def zonesMaskUptoRow : OpenClaim := { program := "yteihfmifelcidaa", sum := "85c5ed13ab43315279fa817461c5aa938c14e1744a4c24998e15731ddb12f686", func := "hachure/hachurelaw49.ZonesMask", spec := "zonesMask", unfollowed := true, recurses := true, plainKeys := false, apart := false, narrowed := true }
def ZonesMaskUptoSaid : Prop := zonesMaskUptoRow.holds Try.pinned (OpenSpec.upto zonesMaskSpec)

/-- 'hachurelaw49.ZonesRegions', WHERE WHAT IT READS IS OF BULK AT MOST 1048576: true; the input reads as it did. -/
def zonesRegionsUptoRow : OpenClaim := { program := "yteihfmifelcidaa", sum := "85c5ed13ab43315279fa817461c5aa938c14e1744a4c24998e15731ddb12f686", func := "hachure/hachurelaw49.ZonesRegions", spec := "zonesRegions", unfollowed := true, recurses := true, plainKeys := false, apart := false, narrowed := true }
def ZonesRegionsUptoSaid : Prop := zonesRegionsUptoRow.holds Try.pinned (OpenSpec.upto zonesRegionsSpec)

end Rows
end Go.Proofs.Yteihfmifelcidaa
