/- Package route: a land's cells, neighbours, steps. -/
import Derived.Test.YtbcgbcipigcbhaaDist
namespace Go.Proofs.Ytbcgbcipigcbhaa
open Go.RowKit
set_option linter.unusedVariables false
set_option linter.unusedSimpArgs false
set_option maxRecDepth 100000

/-! ### Rows of numbers -/
def natsV (l : List Nat) : List Value := l.map fun (j : Nat) => Value.int .i64 (j : Int)
theorem natsV_len (l : List Nat) : (natsV l).length = l.length := by simp [natsV]
theorem natsV_app (l m : List Nat) : natsV l ++ natsV m = natsV (l ++ m) := by simp [natsV]
theorem natsV_get {l : List Nat} {i j : Nat} (h : l[i]? = some j) : (natsV l)[(i : Int).toNat * 1]? = some (.int .i64 (j : Int)) := by
  rw [Nat.mul_one, Int.toNat_natCast, natsV, List.getElem?_map, h]; rfl
def cellsQ (n : Nat) (o : Nat → Int) : List Value := (List.range n).map fun i => .int .i64 (o i)
theorem cellsQ_len (n : Nat) (o : Nat → Int) : (cellsQ n o).length = n := by simp [cellsQ]
theorem cellsQ_get {n i : Nat} {o : Nat → Int} (h : i < n) : (cellsQ n o)[(i : Int).toNat * 1]? = some (.int .i64 (o i)) := by
  rw [Nat.mul_one, Int.toNat_natCast, cellsQ, List.getElem?_map, List.getElem?_range h]; rfl
theorem cellsQ_ints (n : Nat) (o : Nat → Int) : cellsQ n o = ints ((List.range n).map o) := by simp [cellsQ, ints]
theorem cellsQ_congr {n : Nat} {o o' : Nat → Int} (h : ∀ i, i < n → o i = o' i) : cellsQ n o = cellsQ n o' := by
  unfold cellsQ
  refine List.map_congr_left fun i hi => ?_
  rw [h i (List.mem_range.1 hi)]
theorem cellsQ_set {n k : Nat} {o : Nat → Int} {v : Int} : (cellsQ n o).set ((k : Int).toNat * 1) (.int .i64 v) = cellsQ n (updI o k v) := by
  rw [Nat.mul_one, Int.toNat_natCast]
  apply List.ext_getElem?
  intro i
  rw [List.getElem?_set]
  unfold cellsQ updI
  by_cases e : k = i
  · subst e
    rw [if_pos rfl]
    simp only [List.length_map, List.length_range]
    split
    · rename_i h; rw [List.getElem?_map, List.getElem?_range h]; simp
    · rename_i h; rw [List.getElem?_eq_none (by simp; omega)]
  · rw [if_neg e, List.getElem?_map, List.getElem?_map]
    by_cases h : i < n
    · rw [List.getElem?_range h, Option.map_some, Option.map_some, if_neg (fun h => e h.symm)]
    · rw [List.getElem?_eq_none (by simp; omega)]; rfl
theorem cellsQ_zero (n : Nat) : List.replicate n (Value.int .i64 0) = cellsQ n (fun _ => 0) := by
  unfold cellsQ
  rw [List.map_const', List.length_range]

section
variable {W : World} {A : Option Addr} {gw c : Nat} {V : List Int}
def vB (V : List Int) : Prop := ∀ i, -2147483648 ≤ V.getD i 0 ∧ V.getD i 0 ≤ 2147483647
theorem st_far (hb : vB V) (i j : Nat) : st V i j ≤ far := by have := hb i; have := hb j; unfold st far; omega
theorem IsDist.bound {a : Nat} {d : Nat → Int} (h : IsDist gw V a d) (hb : vB V) : ∀ j, j < V.length → d j ≤ rank V.length d j * far := by
  have key : ∀ (k : Nat) (j : Nat), j < V.length → rank V.length d j < k → d j ≤ rank V.length d j * far := by
    intro k
    induction k with
    | zero => intro j _ h; omega
    | succ k ih =>
      intro j hj hk
      by_cases e : j = a
      · subst e; rw [h.zero]; unfold far; omega
      · obtain ⟨i, hi, _, he⟩ := h.pred j hj e
        have h1 := st_pos V i j
        have h2 := st_far hb i j
        have h3 := rank_lt (n := V.length) (d := d) (i := i) (j := j) hi (by omega)
        have h4 := ih i hi (by omega)
        unfold far at *
        omega
  exact fun j hj => key (rank V.length d j + 1) j hj (by omega)
end
theorem vB_of_may {V : List Int} (h : ∀ v ∈ V, mayB v = true) : vB V := by
  intro i
  rw [List.getD_eq_getElem?_getD]
  cases e : V[i]? with
  | none => simp
  | some v =>
    have := h v (List.mem_of_getElem? e)
    unfold mayB at this
    simpa using this
theorem vB_grid {gw gh : Nat} {cc : Nat → Int} (h : ∀ i, i < gw * gh → -2147483648 ≤ cc i ∧ cc i ≤ 2147483647) : vB (gridL gw gh cc) := by
  intro i
  unfold gridL
  rw [List.getD_eq_getElem?_getD]
  by_cases hi : i < gw * gh
  · rw [List.getElem?_map, List.getElem?_range hi]; exact h i hi
  · rw [List.getElem?_eq_none (by simp; omega)]; simp
end Go.Proofs.Ytbcgbcipigcbhaa
