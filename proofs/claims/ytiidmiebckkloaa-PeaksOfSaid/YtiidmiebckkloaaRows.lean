/-
  No cell of these rows narrows 'for every input' (looked for: loops, veiled, ifaces, maps, wideKeys, modest, calm, conditions, laid).
  DERIVED. THE GIVEN ROWS OF THIS SEAT. 4 by the template 'for every input the law returns true; each argument reads behind the call as it read before'; 0 by the template 'total and deterministic' (their statements: YtiidmiebckkloaaTotals.lean).
  GIVEN WITH THE SEED: the statements are not yours to turn. If you find one false, say at which input.
  Laid BY PROGRAM, IN A SANDBOX (cutbox-rows.mjs): the forced cells as the released guide's own fill.sh prints them over the translation 78673b36cdb0e9b0… (all of the seat's roots in one cut). By AI agents, Wed Nov 11 2026. No macro, syntax, notation, axiom, sorry.
-/
import Derived.Test.YtiidmiebckkloaaChecked
import GoSem.Claim
import GoSem.ClaimJoined
import GoSem.ClaimMapViews
import Derived.JoinedTies
import Derived.KernelRfl
namespace Go.Proofs.Ytiidmiebckkloaa
/- THE CELL 'sum', in the pinned program and in every row, IS THE sha256 OF THE DUMP (.gsa) THAT YtiidmiebckkloaaProg.lean LOADS. Nothing in Lean hashes anything: it is a label: what it is worth is what the hold of that sum in a sandbox is worth. -/
noncomputable def Try.pinned : Pinned := { name := "ytiidmiebckkloaa", sum := "78673b36cdb0e9b0e62827bca8ae1004d74bfef903e685987eec585e2a991d34", checked := Try.checked }
namespace Rows
def none {H : Type} : Left H := { results := [], args := [] }

/-- 'hachurelaw46.PeaksNil': WHATEVER THE INPUT: true; the input reads as it did. -/
def peaksNilSpec : ChangeSpec := { name := "peaksNil", fn := fun _ => fun
  | [d1, d2] => { results := [.lit (.bool true)], args := [d1, d2] }
  | _ => none }
def peaksNilRow : OpenClaim := { program := "ytiidmiebckkloaa", sum := "78673b36cdb0e9b0e62827bca8ae1004d74bfef903e685987eec585e2a991d34", func := "hachure/hachurelaw46.PeaksNil", spec := "peaksNil", unfollowed := true, recurses := true, apart := false }
def PeaksNilSaid : Prop := peaksNilRow.holds Try.pinned (OpenSpec.ofChange peaksNilSpec)

/-- ITS FALSE NEIGHBOUR: 'it returns false'. Refute it at one input. -/
def peaksNilWrong : ChangeSpec := { name := "peaksNil", fn := fun _ => fun
  | [d1, d2] => { results := [.lit (.bool false)], args := [d1, d2] }
  | _ => none }
def PeaksNilWrongFalsely : Prop := peaksNilRow.holds Try.pinned (OpenSpec.ofChange peaksNilWrong)

/-- 'hachurelaw46.PeaksBest': WHATEVER THE INPUT: true; the input reads as it did. -/
def peaksBestSpec : ChangeSpec := { name := "peaksBest", fn := fun _ => fun
  | [d1, d2, d3, d4] => { results := [.lit (.bool true)], args := [d1, d2, d3, d4] }
  | _ => none }
def peaksBestRow : OpenClaim := { program := "ytiidmiebckkloaa", sum := "78673b36cdb0e9b0e62827bca8ae1004d74bfef903e685987eec585e2a991d34", func := "hachure/hachurelaw46.PeaksBest", spec := "peaksBest", unfollowed := true, recurses := true, apart := false }
def PeaksBestSaid : Prop := peaksBestRow.holds Try.pinned (OpenSpec.ofChange peaksBestSpec)

/-- ITS FALSE NEIGHBOUR: 'it returns false'. Refute it at one input. -/
def peaksBestWrong : ChangeSpec := { name := "peaksBest", fn := fun _ => fun
  | [d1, d2, d3, d4] => { results := [.lit (.bool false)], args := [d1, d2, d3, d4] }
  | _ => none }
def PeaksBestWrongFalsely : Prop := peaksBestRow.holds Try.pinned (OpenSpec.ofChange peaksBestWrong)

/-- 'hachurelaw46.PeaksOf': WHATEVER THE INPUT: true; the input reads as it did. -/
def peaksOfSpec : ChangeSpec := { name := "peaksOf", fn := fun _ => fun
  | [d1, d2, d3, d4] => { results := [.lit (.bool true)], args := [d1, d2, d3, d4] }
  | _ => none }
def peaksOfRow : OpenClaim := { program := "ytiidmiebckkloaa", sum := "78673b36cdb0e9b0e62827bca8ae1004d74bfef903e685987eec585e2a991d34", func := "hachure/hachurelaw46.PeaksOf", spec := "peaksOf", unfollowed := true, recurses := true, apart := false }
def PeaksOfSaid : Prop := peaksOfRow.holds Try.pinned (OpenSpec.ofChange peaksOfSpec)

/-- ITS FALSE NEIGHBOUR: 'it returns false'. Refute it at one input. -/
def peaksOfWrong : ChangeSpec := { name := "peaksOf", fn := fun _ => fun
  | [d1, d2, d3, d4] => { results := [.lit (.bool false)], args := [d1, d2, d3, d4] }
  | _ => none }
def PeaksOfWrongFalsely : Prop := peaksOfRow.holds Try.pinned (OpenSpec.ofChange peaksOfWrong)

/-- 'hachurelaw46.PeaksJoin': WHATEVER THE INPUT: true; the input reads as it did. -/
def peaksJoinSpec : ChangeSpec := { name := "peaksJoin", fn := fun _ => fun
  | [d1, d2, d3] => { results := [.lit (.bool true)], args := [d1, d2, d3] }
  | _ => none }
def peaksJoinRow : OpenClaim := { program := "ytiidmiebckkloaa", sum := "78673b36cdb0e9b0e62827bca8ae1004d74bfef903e685987eec585e2a991d34", func := "hachure/hachurelaw46.PeaksJoin", spec := "peaksJoin", unfollowed := true, recurses := true, apart := false }
def PeaksJoinSaid : Prop := peaksJoinRow.holds Try.pinned (OpenSpec.ofChange peaksJoinSpec)

/-- ITS FALSE NEIGHBOUR: 'it returns false'. Refute it at one input. -/
def peaksJoinWrong : ChangeSpec := { name := "peaksJoin", fn := fun _ => fun
  | [d1, d2, d3] => { results := [.lit (.bool false)], args := [d1, d2, d3] }
  | _ => none }
def PeaksJoinWrongFalsely : Prop := peaksJoinRow.holds Try.pinned (OpenSpec.ofChange peaksJoinWrong)

/- THE SECOND FORM. 'bulk': how many values and letters a reading holds, each counted each time it is reached (what is shared counts as often as it is met; a slice's spare places count too). A statement '..UptoSaid' is the law's where the arguments, and the package variables that the reading takes, are together of bulk at most 1048576: NARROWER than '..Said'. Prove '..Said' where nothing that the law and all that it calls make is longer than what came in: it says more and counts as full. Else prove '..UptoSaid'. A law counts once. -/
mutual
def uptoBulk {H : Type} : DataW H → Nat
  | .lit (.string bytes) => bytes.length + 1
  | .lit _ => 1
  | .nil => 1
  | .ptr d => uptoBulk d + 1
  | .slice elems spare => uptoBulkAll elems + uptoBulkAll spare + 1
  | .agg parts => uptoBulkAll parts + 1
  | .iface _ d => uptoBulk d + 1
  | .map entries => uptoBulkEntries entries + 1
  | .held _ => 1
def uptoBulkAll {H : Type} : List (DataW H) → Nat
  | [] => 0
  | d :: r => uptoBulk d + uptoBulkAll r
def uptoBulkEntries {H : Type} : List (Lit × DataW H) → Nat
  | [] => 0
  | x :: r => uptoBulkEntry x + uptoBulkEntries r
def uptoBulkEntry {H : Type} : Lit × DataW H → Nat
  | (.string bytes, d) => bytes.length + uptoBulk d + 1
  | (_, d) => uptoBulk d + 1
 end
def uptoSmall : (H : Type) → List (DataW H) → Bool := fun _ ds => decide (uptoBulkAll ds ≤ 1048576)
def OpenSpec.upto (s : _root_.Go.ChangeSpec) : _root_.Go.OpenSpec := { _root_.Go.OpenSpec.ofChange s with cond := some uptoSmall }

/-- 'hachurelaw46.PeaksNil', WHERE WHAT IT READS IS OF BULK AT MOST 1048576: true; the input reads as it did. -/
def peaksNilUptoRow : OpenClaim := { program := "ytiidmiebckkloaa", sum := "78673b36cdb0e9b0e62827bca8ae1004d74bfef903e685987eec585e2a991d34", func := "hachure/hachurelaw46.PeaksNil", spec := "peaksNil", unfollowed := true, recurses := true, apart := false, narrowed := true }
def PeaksNilUptoSaid : Prop := peaksNilUptoRow.holds Try.pinned (OpenSpec.upto peaksNilSpec)

/-- 'hachurelaw46.PeaksBest', WHERE WHAT IT READS IS OF BULK AT MOST 1048576: true; the input reads as it did. -/
def peaksBestUptoRow : OpenClaim := { program := "ytiidmiebckkloaa", sum := "78673b36cdb0e9b0e62827bca8ae1004d74bfef903e685987eec585e2a991d34", func := "hachure/hachurelaw46.PeaksBest", spec := "peaksBest", unfollowed := true, recurses := true, apart := false, narrowed := true }
def PeaksBestUptoSaid : Prop := peaksBestUptoRow.holds Try.pinned (OpenSpec.upto peaksBestSpec)

/-- 'hachurelaw46.PeaksOf', WHERE WHAT IT READS IS OF BULK AT MOST 1048576: true; the input reads as it did. -/
def peaksOfUptoRow : OpenClaim := { program := "ytiidmiebckkloaa", sum := "78673b36cdb0e9b0e62827bca8ae1004d74bfef903e685987eec585e2a991d34", func := "hachure/hachurelaw46.PeaksOf", spec := "peaksOf", unfollowed := true, recurses := true, apart := false, narrowed := true }
def PeaksOfUptoSaid : Prop := peaksOfUptoRow.holds Try.pinned (OpenSpec.upto peaksOfSpec)

/-- 'hachurelaw46.PeaksJoin', WHERE WHAT IT READS IS OF BULK AT MOST 1048576: true; the input reads as it did. -/
def peaksJoinUptoRow : OpenClaim := { program := "ytiidmiebckkloaa", sum := "78673b36cdb0e9b0e62827bca8ae1004d74bfef903e685987eec585e2a991d34", func := "hachure/hachurelaw46.PeaksJoin", spec := "peaksJoin", unfollowed := true, recurses := true, apart := false, narrowed := true }
def PeaksJoinUptoSaid : Prop := peaksJoinUptoRow.holds Try.pinned (OpenSpec.upto peaksJoinSpec)

end Rows
end Go.Proofs.Ytiidmiebckkloaa
