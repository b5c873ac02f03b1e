/- Rows of elements of some cells each, told by numbers; what a compare function tells. -/
import Derived.Test.YtbcgbcipigcbhaaSortL
import Derived.Test.YtbcgbcipigcbhaaForest
import Derived.Test.YtbcgbcipigcbhaaSwap
namespace Go.Proofs.Ytbcgbcipigcbhaa
open Go.RowKit
set_option linter.unusedVariables false
set_option linter.unusedSimpArgs false

def rowE (enc : Nat → List Value) (n : Nat) (o : Nat → Nat) : List Value := ((List.range n).map fun i => enc (o i)).flatten
section
variable {enc : Nat → List Value} {n k i x : Nat} {o o' : Nat → Nat} {v : Value}
theorem rowE_succ (enc : Nat → List Value) (n : Nat) (o : Nat → Nat) : rowE enc (n + 1) o = rowE enc n o ++ enc (o n) := by
  unfold rowE
  rw [List.range_succ, List.map_append, List.flatten_append]
  simp
theorem rowE_congr (h : ∀ i, i < n → o i = o' i) : rowE enc n o = rowE enc n o' := by
  unfold rowE
  congr 1
  exact List.map_congr_left fun i hi => by rw [h i (List.mem_range.1 hi)]
theorem rowE_len (hk : ∀ i, (enc i).length = k) : ∀ n, (rowE enc n o).length = n * k
  | 0 => by simp [rowE]
  | n + 1 => by rw [rowE_succ, List.length_append, rowE_len hk n, hk, Nat.succ_mul]
theorem rowE_split (hk : ∀ i, (enc i).length = k) : ∀ n, i < n → ∃ A B, rowE enc n o = A ++ enc (o i) ++ B ∧ A.length = i * k ∧ ∀ x, rowE enc n (updF o i x) = A ++ enc x ++ B
  | 0, h => by omega
  | n + 1, h => by
    by_cases e : i = n
    · subst e
      refine ⟨rowE enc i o, [], by rw [rowE_succ, List.append_nil], rowE_len hk i, fun x => ?_⟩
      rw [rowE_succ, List.append_nil, updF_at, rowE_congr (o' := o) (fun j hj => updF_ne (by omega))]
    · obtain ⟨A, B, h1, h2, h3⟩ := rowE_split hk n (by omega)
      refine ⟨A, B ++ enc (o n), by rw [rowE_succ, h1]; simp, h2, fun x => ?_⟩
      rw [rowE_succ, h3 x, updF_ne (fun e' => e e'.symm)]
      simp
theorem rowE_one (h1 : ∀ i, (enc i).length = 1) (hi : i < n) (hv : enc (o i) = [v]) : (rowE enc n o)[((i : Nat) : Int).toNat * 1]? = some v := by
  obtain ⟨A, B, h, h2, _⟩ := rowE_split (o := o) h1 n hi
  rw [h, hv, Int.toNat_natCast, ← h2]
  simp
theorem rowE_get (hk : ∀ i, (enc i).length = k) (hi : i < n) : ((rowE enc n o).drop (((i : Nat) : Int).toNat * k)).take k = enc (o i) := by
  obtain ⟨A, B, h, h2, _⟩ := rowE_split (o := o) hk n hi
  rw [h, Int.toNat_natCast, ← h2, List.append_assoc, List.drop_left, List.take_left' (hk _)]
theorem rowE_set1 (h1 : ∀ i, (enc i).length = 1) (hi : i < n) (hv : enc x = [v]) : (rowE enc n o).set (((i : Nat) : Int).toNat * 1) v = rowE enc n (updF o i x) := by
  obtain ⟨A, B, h, h2, h3⟩ := rowE_split (o := o) h1 n hi
  have h4 := h1 (o i)
  obtain ⟨u, hu⟩ : ∃ u, enc (o i) = [u] := by
    cases he : enc (o i) with
    | nil => rw [he] at h4; cases h4
    | cons u r =>
      rw [he] at h4
      have : r = [] := List.eq_nil_of_length_eq_zero (by simpa using h4)
      subst this
      exact ⟨u, rfl⟩
  rw [h3 x, h, hu, hv, Int.toNat_natCast, ← h2]
  simp
theorem rowE_set (hk : ∀ i, (enc i).length = k) (hi : i < n) : (rowE enc n o).take (((i : Nat) : Int).toNat * k) ++ enc x ++ (rowE enc n o).drop (((i : Nat) : Int).toNat * k + k) = rowE enc n (updF o i x) := by
  obtain ⟨A, B, h, h2, h3⟩ := rowE_split (o := o) hk n hi
  rw [h3 x, h, Int.toNat_natCast, ← h2]
  have e1 : (A ++ enc (o i) ++ B).take A.length = A := by rw [List.append_assoc, List.take_left]
  have e2 : (A ++ enc (o i) ++ B).drop (A.length + k) = B := by
    have : A.length + k = (A ++ enc (o i)).length := by rw [List.length_append, hk]
    rw [this, List.drop_left]
  rw [e1, e2]
theorem PS.lt {a b : Nat} (h : PS a b o o') (hb : b ≤ n) (ho : ∀ i, i < n → o i < n) : ∀ i, i < n → o' i < n := fun i hi => by
  by_cases hin : a ≤ i ∧ i < b
  · obtain ⟨z, hz1, hz2, hz⟩ := h.img hin.1 hin.2
    rw [hz]; exact ho z (by omega)
  · rw [h.out (by omega)]; exact ho i hi
end
theorem updF_swp (o : Nat → Nat) (i j : Nat) : updF (updF o i (o j)) j (o i) = swp o i j := by
  funext k
  unfold updF swp
  by_cases e1 : k = j
  · rw [if_pos e1]
    by_cases e2 : k = i
    · rw [if_pos e2, ← e1, e2]
    · rw [if_neg e2, if_pos e1]
  · rw [if_neg e1]
    by_cases e2 : k = i
    · rw [if_pos e2, if_pos e2]
    · rw [if_neg e2, if_neg e2, if_neg e1]
theorem cw_cutQ {P : Program} {N : Nat} {e : Nat → Value} {w : World} {x : Code} {Q' : Exit → (Nat → Value) → World → Prop} (M : (Nat → Value) → World → Prop) (h1 : CW P N x (Then M (fun _ _ _ => False)) e w) (h2 : ∀ e' w', M e' w' → Q' .normal e' w') : CW P N x Q' e w :=
  h1.mono fun y e w h => by
    cases y with
    | normal => exact h2 e w h
    | _ => exact h.elim
/-- what a compare function tells of the elements, in all worlds where but F's blocks stand as in W -/
def Cmp (F : Nat → Prop) (W : World) (n fid : Nat) (caps : List Value) (val : Nat → Value) (cv : Nat → Nat → Int) : Prop :=
  ∀ w, Fr F W w → ∀ x y, x < n → y < n → Fn Try.prog fid ([] ++ [val x, val y] ++ caps) w (RetG (.int .i64 (cv x y)) w)
theorem Cmp.fr {F : Nat → Prop} {W w : World} {n fid : Nat} {caps : List Value} {val : Nat → Value} {cv : Nat → Nat → Int} (h : Cmp F W n fid caps val cv) (k : Fr F W w) : Cmp F w n fid caps val cv :=
  fun w' k' x y hx hy => h w' (k.trans k' (fun _ h => .inl h)) x y hx hy
def ltC (cv : Nat → Nat → Int) (x y : Nat) : Bool := decide (cv x y < 0)
theorem ltC_t {cv : Nat → Nat → Int} {x y : Nat} : ltC cv x y = true ↔ cv x y < 0 := decide_eq_true_iff
theorem ltC_f {cv : Nat → Nat → Int} {x y : Nat} : ltC cv x y = false ↔ ¬ cv x y < 0 := decide_eq_false_iff_not
section
variable {P : Program} {ops : Array Oper} {Q : (Nat → Value) → World → Prop} {e : Nat → Value} {w : World} {d : Option Tmp} {ty : TypeId} {ps : String} {af : Array Edge}
/-- halving by a shift -/
theorem run_half {t : TypeId} {a : Int} (h0 : 0 ≤ a) (w : World) (k : IntKind) : (binOp .shr t (.int .u64 a) (.int k 1)).run P w = .ok (.int .u64 (a / 2)) w := by
  have : a.fdiv 2 = a / 2 := Int.fdiv_eq_ediv_of_nonneg _ (by omega)
  simp [binOp, Op.shift, IntKind.bits, this]
theorem op_half {t t' : TypeId} {x y : Operand} {a : Int} {k : IntKind} (hx : ev e x = .int .u64 a) (hy : ev e y = .int k 1) (h0 : 0 ≤ a) : OpV P e ⟨d, .binOp .shr t x y t', ty, ps, af, none⟩ (.int .u64 (a / 2)) := by
  intro w
  simp [OpR, execOp, hx, hy, eqGuard, run_half h0 w k]
end
end Go.Proofs.Ytbcgbcipigcbhaa
