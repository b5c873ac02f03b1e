/- Cells by their places: the neighbours that the document lists are those of the program, in the same order. -/
import Derived.Test.YtbcgbcipigcbhaaDist
import Derived.Test.YtbcgbcipigcbhaaSep
import Derived.Laws.StructEq
namespace Go.Proofs.Ytbcgbcipigcbhaa
open Go.RowKit
set_option linter.unusedVariables false
set_option linter.unusedSimpArgs false
set_option maxRecDepth 100000

/-! ### '==' and '!=' between cells -/
theorem guard_agg {P : Program} {w : World} {op : BinOp} {t : TypeId} {x y : Operand} {a b : Array Value} (h : P.eqGuardType P.depth t = false) : (eqGuard op t x y (.agg a) (.agg b)).run P w = .ok () w := by
  unfold eqGuard
  cases op <;> simp [h]
theorem eqCell_run (a b c d : Int) (w : World) : (binOp .eql 44 (.agg #[.int .i64 a, .int .i64 b]) (.agg #[.int .i64 c, .int .i64 d])).run Try.prog w = .ok (.bool (decide (a = c ∧ b = d))) w := by
  have u3 := Try.underlying2
  have a3 := Try.isAgg2
  have z3 := Try.sizeOf2
  have hS : Try.prog.underlying 44 = some (.struct (Try.prog.fieldsOf 44)) := by kernel_rfl
  have hp : Try.prog.stoodInHeld 44 = false := by kernel_rfl
  rw [run_eql_struct, show (10000 : Nat) = 9999 + 1 from rfl, run_equalIn_agg w 9999 44 _ _ hS hp]
  simp only [Program.fieldsOf, Try.underlying44]
  go_simp
  by_cases h1 : a = c <;> by_cases h2 : b = d <;> simp [h1, h2]
theorem neCell_run (a b c d : Int) (w : World) : (binOp .neq 44 (.agg #[.int .i64 a, .int .i64 b]) (.agg #[.int .i64 c, .int .i64 d])).run Try.prog w = .ok (.bool (!decide (a = c ∧ b = d))) w := by
  have u3 := Try.underlying2
  have a3 := Try.isAgg2
  have z3 := Try.sizeOf2
  have hS : Try.prog.underlying 44 = some (.struct (Try.prog.fieldsOf 44)) := by kernel_rfl
  have hp : Try.prog.stoodInHeld 44 = false := by kernel_rfl
  rw [run_neq_struct, show (10000 : Nat) = 9999 + 1 from rfl, run_equalIn_agg w 9999 44 _ _ hS hp]
  simp only [Program.fieldsOf, Try.underlying44]
  go_simp
  by_cases h1 : a = c <;> by_cases h2 : b = d <;> simp [h1, h2]
section
variable {e : Nat → Value} {dd : Option Tmp} {ty : TypeId} {ps : String} {af : Array Edge} {t' : TypeId} {x y : Operand} {a b c d : Int}
theorem op_eqCell {r : Bool} (hx : ev e x = .agg #[.int .i64 a, .int .i64 b]) (hy : ev e y = .agg #[.int .i64 c, .int .i64 d]) (hr : decide (a = c ∧ b = d) = r) : OpV Try.prog e ⟨dd, .binOp .eql 44 x y t', ty, ps, af, none⟩ (.bool r) := by
  intro w
  subst hr
  have hg : ∀ w, (eqGuard .eql 44 x y (.agg #[.int .i64 a, .int .i64 b]) (.agg #[.int .i64 c, .int .i64 d])).run Try.prog w = .ok () w := fun w => guard_agg (by kernel_rfl)
  simp [OpR, execOp, hx, hy, hg, eqCell_run]
theorem op_neCell {r : Bool} (hx : ev e x = .agg #[.int .i64 a, .int .i64 b]) (hy : ev e y = .agg #[.int .i64 c, .int .i64 d]) (hr : (!decide (a = c ∧ b = d)) = r) : OpV Try.prog e ⟨dd, .binOp .neq 44 x y t', ty, ps, af, none⟩ (.bool r) := by
  intro w
  subst hr
  have hg : ∀ w, (eqGuard .neq 44 x y (.agg #[.int .i64 a, .int .i64 b]) (.agg #[.int .i64 c, .int .i64 d])).run Try.prog w = .ok () w := fun w => guard_agg (by kernel_rfl)
  simp [OpR, execOp, hx, hy, hg, neCell_run]
end

/-! ### Cells by their places -/
def cz (gw j : Nat) : Int × Int := (((j % gw : Nat) : Int), ((j / gw : Nat) : Int))
theorem cz_in {gw gh i : Nat} (hgw : 0 < gw) (hi : i < gw * gh) : inG gw gh (cz gw i) = true := by
  have h1 := Nat.mod_lt i hgw
  have h2 : i / gw < gh := Nat.div_lt_of_lt_mul hi
  refine inG_iff.2 ?_
  unfold cz
  dsimp only
  generalize i % gw = x at *
  generalize i / gw = y at *
  omega
theorem cz_idx {gw i : Nat} : (cz gw i).2.toNat * gw + (cz gw i).1.toNat = i := by
  unfold cz
  simp only [Int.toNat_natCast]
  rw [Nat.mul_comm]
  exact Nat.div_add_mod i gw
theorem cz_of {gw X Y : Nat} (hX : X < gw) : cz gw (Y * gw + X) = ((X : Int), (Y : Int)) := by
  have h := cell_split (Y := Y) hX
  unfold cz
  rw [h.1, h.2]
theorem cz_inj {gw i j : Nat} (h : cz gw i = cz gw j) : i = j := by
  rw [← cz_idx (gw := gw) (i := i), h, cz_idx]
theorem filter4 {α : Type} (p : α → Bool) (a b c d : α) : [a, b, c, d].filter p = (if p a then [a] else []) ++ (if p b then [b] else []) ++ (if p c then [c] else []) ++ (if p d then [d] else []) := by
  simp only [List.filter_cons, List.filter_nil]
  cases p a <;> cases p b <;> cases p c <;> cases p d <;> rfl
theorem nearZ_eq {gw gh i : Nat} (hgw : 0 < gw) (hi : i < gw * gh) : nearZ gw gh (i % gw : Nat) (i / gw : Nat) = (nearN gw (gw * gh) i).map (cz gw) := by
  have hX := Nat.mod_lt i hgw
  have hY : i / gw < gh := Nat.div_lt_of_lt_mul hi
  have hd : i / gw * gw + i % gw = i := by rw [Nat.mul_comm]; exact Nat.div_add_mod i gw
  unfold nearZ near4
  rw [filter4]
  unfold nearN
  generalize i % gw = X at *
  generalize i / gw = Y at *
  have up1 : gw ≤ i ↔ 1 ≤ Y := by
    constructor
    · intro h; rcases Nat.eq_zero_or_pos Y with e | e
      · subst e; omega
      · exact e
    · intro h; have := Nat.mul_le_mul_right gw h; omega
  have dn1 : i + gw < gw * gh ↔ Y + 1 < gh := by
    constructor
    · intro h
      rcases Nat.lt_or_ge (Y + 1) gh with e | e
      · exact e
      · have := Nat.mul_le_mul_left gw e
        rw [Nat.mul_add, Nat.mul_one, Nat.mul_comm gw Y] at this
        omega
    · intro h
      have h2 : Y + 2 ≤ gh := h
      have := Nat.mul_le_mul_left gw h2
      rw [Nat.mul_add, Nat.mul_comm gw Y] at this
      omega
  have e1 : inG gw gh ((X : Int), (Y : Int) - 1) = decide (gw ≤ i) := by
    rw [Bool.eq_iff_iff, inG_iff, decide_eq_true_eq, up1]; dsimp only; omega
  have e2 : inG gw gh ((X : Int) - 1, (Y : Int)) = decide (0 < X) := by
    rw [Bool.eq_iff_iff, inG_iff, decide_eq_true_eq]; dsimp only; omega
  have e3 : inG gw gh ((X : Int) + 1, (Y : Int)) = decide (X + 1 < gw) := by
    rw [Bool.eq_iff_iff, inG_iff, decide_eq_true_eq]; dsimp only; omega
  have e4 : inG gw gh ((X : Int), (Y : Int) + 1) = decide (i + gw < gw * gh) := by
    rw [Bool.eq_iff_iff, inG_iff, decide_eq_true_eq, dn1]; dsimp only; omega
  rw [e1, e2, e3, e4]
  simp only [List.map_append, decide_eq_true_eq]
  have p1 : (if gw ≤ i then [((X : Int), (Y : Int) - 1)] else []) = List.map (cz gw) (if gw ≤ i then [i - gw] else []) := by
    by_cases h : gw ≤ i
    · rw [if_pos h, if_pos h]
      have h1 := up1.1 h
      have h2 : i - gw = (Y - 1) * gw + X := by rw [Nat.sub_mul, Nat.one_mul]; have := Nat.mul_le_mul_right gw h1; omega
      rw [h2, List.map_singleton, cz_of hX]
      congr 2; omega
    · rw [if_neg h, if_neg h]; rfl
  have p2 : (if 0 < X then [((X : Int) - 1, (Y : Int))] else []) = List.map (cz gw) (if 0 < X then [i - 1] else []) := by
    by_cases h : 0 < X
    · rw [if_pos h, if_pos h, show i - 1 = Y * gw + (X - 1) by omega, List.map_singleton, cz_of (by omega)]
      congr 2; omega
    · rw [if_neg h, if_neg h]; rfl
  have p3 : (if X + 1 < gw then [((X : Int) + 1, (Y : Int))] else []) = List.map (cz gw) (if X + 1 < gw then [i + 1] else []) := by
    by_cases h : X + 1 < gw
    · rw [if_pos h, if_pos h, show i + 1 = Y * gw + (X + 1) by omega, List.map_singleton, cz_of h]
      congr 2
    · rw [if_neg h, if_neg h]; rfl
  have p4 : (if i + gw < gw * gh then [((X : Int), (Y : Int) + 1)] else []) = List.map (cz gw) (if i + gw < gw * gh then [i + gw] else []) := by
    by_cases h : i + gw < gw * gh
    · rw [if_pos h, if_pos h, show i + gw = (Y + 1) * gw + X by rw [Nat.add_mul, Nat.one_mul]; omega, List.map_singleton, cz_of hX]
      congr 2
    · rw [if_neg h, if_neg h]; rfl
  rw [p1, p2, p3, p4]
end Go.Proofs.Ytbcgbcipigcbhaa
