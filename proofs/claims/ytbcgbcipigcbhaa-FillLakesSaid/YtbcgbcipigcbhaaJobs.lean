/- Jobs in memory; methods of what a pointer leads to, looked up by their names. -/
import Derived.Test.YtbcgbcipigcbhaaHeap
import Derived.Test.YtbcgbcipigcbhaaSwap
import Derived.Test.YtbcgbcipigcbhaaGridC
namespace Go.Proofs.Ytbcgbcipigcbhaa
open Go.RowKit
set_option linter.unusedVariables false
set_option linter.unusedSimpArgs false
set_option maxRecDepth 100000

section
variable {P : Program} {w : World}
theorem wrapNil_run (tys : Array TypeId) (t : TypeId) (a : Addr) (s1 s2 : String) : (Builtin.ssaWrapNilChk_ tys t #[.pointer (some a), strVal s1, strVal s2]).run P w = .ok (.pointer (some a)) w := rfl
theorem method_val {n : Nat} {t el : TypeId} {f : FuncId} {name : String} {a : Addr} {rv : Value} (hm : (P.info? t).map (fun i => (i.methods.find? (fun m => m.name == name)).map (fun m => (m.path, m.func))) = some (some (#[], some (f, false)))) (hu : P.underlying t = some (.pointer el))
    (hl : (loadVar el a).run P w = .ok rv w) : (method (n + 1) t (.pointer (some a)) name).run P w = .ok (f, rv) w := by
  obtain ⟨i, hi, h1⟩ := Option.map_eq_some_iff.1 hm
  obtain ⟨m, hm, h2⟩ := Option.map_eq_some_iff.1 h1
  injection h2 with h3 h4
  rw [method]
  simp [typeInfo, hi, hm, h3, h4, follow, receiverAt, run_underlying hu, Place.get, wrapNil_run, asAddr, hl]
theorem method_ptr {n : Nat} {t el : TypeId} {f : FuncId} {name : String} {u : Value} (hm : (P.info? t).map (fun i => (i.methods.find? (fun m => m.name == name)).map (fun m => (m.path, m.func))) = some (some (#[], some (f, true)))) (hu : P.underlying t = some (.pointer el)) :
    (method (n + 1) t u name).run P w = .ok (f, u) w := by
  obtain ⟨i, hi, h1⟩ := Option.map_eq_some_iff.1 hm
  obtain ⟨m, hm, h2⟩ := Option.map_eq_some_iff.1 h1
  injection h2 with h3 h4
  rw [method]
  simp [typeInfo, hi, hm, h3, h4, follow, receiverAt, run_underlying hu, Place.get]
theorem load_run {t tb : TypeId} {b o : Nat} {dd : TypeDesc} {v : Value} {l : List Value} (hu : P.underlying t = some dd) (hd : aggD dd = false) (hB : Blk w b tb l) (hv : l[o]? = some v) : (loadVar t ⟨b, o, none⟩).run P w = .ok v w :=
  run_loadVar_E (o := default) (op_loadB (P := P) (d := none) (ty := 0) (ps := "") (af := #[]) (e := fun _ => .pointer (some ⟨b, o, none⟩)) (x := .tmp 0) hu hd rfl hB hv)
end

def jobC (x : Job) : List Value := [.int .i64 x.1, .int .i64 x.2]
def jobsV (l : List Job) : List Value := l.flatMap jobC
theorem jobsV_len (l : List Job) : (jobsV l).length = l.length * 2 := flatMap_len (f := jobC) (fun _ => rfl) l
theorem jobsV_at {l : List Job} {i : Nat} (h : i < l.length) : ((jobsV l).drop (i * 2)).take 2 = jobC (jobAt l i) := flatMap_one (f := jobC) (fun _ => rfl) (jobAt_get h)
theorem jobsV_cost {l : List Job} {i : Nat} (h : i < l.length) : (jobsV l)[i * 2 + 0]? = some (.int .i64 (jobAt l i).1) := flatMap_get (f := jobC) (fun _ => rfl) (jobAt_get h) (by omega)
theorem jobsV_app (l : List Job) (x : Job) : jobsV l ++ jobC x = jobsV (l ++ [x]) := by simp [jobsV]
theorem jobsV_take : ∀ (l : List Job) (m : Nat), (jobsV l).take (m * 2) = jobsV (l.take m)
  | l, 0 => by simp [jobsV]
  | [], m + 1 => by simp [jobsV]
  | a :: l, m + 1 => by
    have ih := jobsV_take l m
    unfold jobsV at *
    rw [List.take_succ_cons, List.flatMap_cons, List.flatMap_cons, ← ih, Nat.succ_mul, List.take_append, show (jobC a).length = 2 from rfl, List.take_of_length_le (by show 2 ≤ _; omega), Nat.add_sub_cancel]
theorem jobsV_put : ∀ {l : List Job} {i : Nat} (x : Job), i < l.length → (jobsV l).take (i * 2) ++ jobC x ++ (jobsV l).drop (i * 2 + 2) = jobsV (l.set i x)
  | [], i, x, h => by simp at h
  | a :: l, 0, x, _ => rfl
  | a :: l, i + 1, x, h => by
    have ih := jobsV_put (l := l) (i := i) x (by simpa using h)
    unfold jobsV at *
    rw [List.set_cons_succ, List.flatMap_cons, List.flatMap_cons, ← ih, Nat.succ_mul, List.take_append, List.drop_append, show (jobC a).length = 2 from rfl, List.take_of_length_le (by show 2 ≤ _; omega), List.drop_of_length_le (by show 2 ≤ _; omega), Nat.add_sub_cancel,
      show i * 2 + 2 + 2 - 2 = i * 2 + 2 by omega]
    simp
end Go.Proofs.Ytbcgbcipigcbhaa
