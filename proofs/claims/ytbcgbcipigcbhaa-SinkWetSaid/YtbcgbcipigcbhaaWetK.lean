/- Cells by their places: the neighbours that the document lists are those of the program, in the same order. -/
import Derived.Test.YtbcgbcipigcbhaaWetH
import Derived.Test.YtbcgbcipigcbhaaWetC
import Derived.Laws.StructEq
import Derived.Test.YtbcgbcipigcbhaaWetJ
import Derived.Test.YtbcgbcipigcbhaaWetG
namespace Go.Proofs.Ytbcgbcipigcbhaa
open Go.RowKit
set_option linter.unusedVariables false
set_option linter.unusedSimpArgs false
set_option maxRecDepth 100000

/-! ### '==' and '!=' between cells -/
theorem guard_agg {P : Program} {w : World} {op : BinOp} {t : TypeId} {x y : Operand} {a b : Array Value} (h : P.eqGuardType P.depth t = false) : (eqGuard op t x y (.agg a) (.agg b)).run P w = .ok () w := by
  unfold eqGuard
  cases op <;> simp [h]
theorem eqCell_run (a b c d : Int) (w : World) : (binOp .eql 44 (.agg #[.int .i64 a, .int .i64 b]) (.agg #[.int .i64 c, .int .i64 d])).run Try.prog w = .ok (.bool (decide (a = c ∧ b = d))) w := by
  have u3 := Try.underlying2
  have a3 := Try.isAgg2
  have z3 := Try.sizeOf2
  have hS : Try.prog.underlying 44 = some (.struct (Try.prog.fieldsOf 44)) := by kernel_rfl
  have hp : Try.prog.stoodInHeld 44 = false := by kernel_rfl
  rw [run_eql_struct, show (10000 : Nat) = 9999 + 1 from rfl, run_equalIn_agg w 9999 44 _ _ hS hp]
  simp only [Program.fieldsOf, Try.underlying44]
  go_simp
  by_cases h1 : a = c <;> by_cases h2 : b = d <;> simp [h1, h2]
theorem neCell_run (a b c d : Int) (w : World) : (binOp .neq 44 (.agg #[.int .i64 a, .int .i64 b]) (.agg #[.int .i64 c, .int .i64 d])).run Try.prog w = .ok (.bool (!decide (a = c ∧ b = d))) w := by
  have u3 := Try.underlying2
  have a3 := Try.isAgg2
  have z3 := Try.sizeOf2
  have hS : Try.prog.underlying 44 = some (.struct (Try.prog.fieldsOf 44)) := by kernel_rfl
  have hp : Try.prog.stoodInHeld 44 = false := by kernel_rfl
  rw [run_neq_struct, show (10000 : Nat) = 9999 + 1 from rfl, run_equalIn_agg w 9999 44 _ _ hS hp]
  simp only [Program.fieldsOf, Try.underlying44]
  go_simp
  by_cases h1 : a = c <;> by_cases h2 : b = d <;> simp [h1, h2]
section
variable {e : Nat → Value} {dd : Option Tmp} {ty : TypeId} {ps : String} {af : Array Edge} {t' : TypeId} {x y : Operand} {a b c d : Int}
theorem op_eqCell {r : Bool} (hx : ev e x = .agg #[.int .i64 a, .int .i64 b]) (hy : ev e y = .agg #[.int .i64 c, .int .i64 d]) (hr : decide (a = c ∧ b = d) = r) : OpV Try.prog e ⟨dd, .binOp .eql 44 x y t', ty, ps, af, none⟩ (.bool r) := by
  intro w
  subst hr
  have hg : ∀ w, (eqGuard .eql 44 x y (.agg #[.int .i64 a, .int .i64 b]) (.agg #[.int .i64 c, .int .i64 d])).run Try.prog w = .ok () w := fun w => guard_agg (by kernel_rfl)
  simp [OpR, execOp, hx, hy, hg, eqCell_run]
theorem op_neCell {r : Bool} (hx : ev e x = .agg #[.int .i64 a, .int .i64 b]) (hy : ev e y = .agg #[.int .i64 c, .int .i64 d]) (hr : (!decide (a = c ∧ b = d)) = r) : OpV Try.prog e ⟨dd, .binOp .neq 44 x y t', ty, ps, af, none⟩ (.bool r) := by
  intro w
  subst hr
  have hg : ∀ w, (eqGuard .neq 44 x y (.agg #[.int .i64 a, .int .i64 b]) (.agg #[.int .i64 c, .int .i64 d])).run Try.prog w = .ok () w := fun w => guard_agg (by kernel_rfl)
  simp [OpR, execOp, hx, hy, hg, neCell_run]
end

/-! ### Cells by their places -/
def cz (gw j : Nat) : Int × Int := (((j % gw : Nat) : Int), ((j / gw : Nat) : Int))
theorem cz_in {gw gh i : Nat} (hgw : 0 < gw) (hi : i < gw * gh) : inG gw gh (cz gw i) = true := by
  have h1 := Nat.mod_lt i hgw
  have h2 : i / gw < gh := Nat.div_lt_of_lt_mul hi
  refine inG_iff.2 ?_
  unfold cz
  dsimp only
  generalize i % gw = x at *
  generalize i / gw = y at *
  omega
theorem cz_idx {gw i : Nat} : (cz gw i).2.toNat * gw + (cz gw i).1.toNat = i := by
  unfold cz
  simp only [Int.toNat_natCast]
  rw [Nat.mul_comm]
  exact Nat.div_add_mod i gw
theorem cz_of {gw X Y : Nat} (hX : X < gw) : cz gw (Y * gw + X) = ((X : Int), (Y : Int)) := by
  have h := cell_split (Y := Y) hX
  unfold cz
  rw [h.1, h.2]
theorem cz_inj {gw i j : Nat} (h : cz gw i = cz gw j) : i = j := by
  rw [← cz_idx (gw := gw) (i := i), h, cz_idx]
theorem filter4 {α : Type} (p : α → Bool) (a b c d : α) : [a, b, c, d].filter p = (if p a then [a] else []) ++ (if p b then [b] else []) ++ (if p c then [c] else []) ++ (if p d then [d] else []) := by
  simp only [List.filter_cons, List.filter_nil]
  cases p a <;> cases p b <;> cases p c <;> cases p d <;> rfl
theorem nearZ_eq {gw gh i : Nat} (hgw : 0 < gw) (hi : i < gw * gh) : nearZ gw gh (i % gw : Nat) (i / gw : Nat) = (nearN gw (gw * gh) i).map (cz gw) := by
  have hX := Nat.mod_lt i hgw
  have hY : i / gw < gh := Nat.div_lt_of_lt_mul hi
  have hd : i / gw * gw + i % gw = i := by rw [Nat.mul_comm]; exact Nat.div_add_mod i gw
  unfold nearZ near4
  rw [filter4]
  unfold nearN
  generalize i % gw = X at *
  generalize i / gw = Y at *
  have up1 : gw ≤ i ↔ 1 ≤ Y := by
    constructor
    · intro h; rcases Nat.eq_zero_or_pos Y with e | e
      · subst e; omega
      · exact e
    · intro h; have := Nat.mul_le_mul_right gw h; omega
  have dn1 : i + gw < gw * gh ↔ Y + 1 < gh := by
    constructor
    · intro h
      rcases Nat.lt_or_ge (Y + 1) gh with e | e
      · exact e
      · have := Nat.mul_le_mul_left gw e
        rw [Nat.mul_add, Nat.mul_one, Nat.mul_comm gw Y] at this
        omega
    · intro h
      have h2 : Y + 2 ≤ gh := h
      have := Nat.mul_le_mul_left gw h2
      rw [Nat.mul_add, Nat.mul_comm gw Y] at this
      omega
  have e1 : inG gw gh ((X : Int), (Y : Int) - 1) = decide (gw ≤ i) := by
    rw [Bool.eq_iff_iff, inG_iff, decide_eq_true_eq, up1]; dsimp only; omega
  have e2 : inG gw gh ((X : Int) - 1, (Y : Int)) = decide (0 < X) := by
    rw [Bool.eq_iff_iff, inG_iff, decide_eq_true_eq]; dsimp only; omega
  have e3 : inG gw gh ((X : Int) + 1, (Y : Int)) = decide (X + 1 < gw) := by
    rw [Bool.eq_iff_iff, inG_iff, decide_eq_true_eq]; dsimp only; omega
  have e4 : inG gw gh ((X : Int), (Y : Int) + 1) = decide (i + gw < gw * gh) := by
    rw [Bool.eq_iff_iff, inG_iff, decide_eq_true_eq, dn1]; dsimp only; omega
  rw [e1, e2, e3, e4]
  simp only [List.map_append, decide_eq_true_eq]
  have p1 : (if gw ≤ i then [((X : Int), (Y : Int) - 1)] else []) = List.map (cz gw) (if gw ≤ i then [i - gw] else []) := by
    by_cases h : gw ≤ i
    · rw [if_pos h, if_pos h]
      have h1 := up1.1 h
      have h2 : i - gw = (Y - 1) * gw + X := by rw [Nat.sub_mul, Nat.one_mul]; have := Nat.mul_le_mul_right gw h1; omega
      rw [h2, List.map_singleton, cz_of hX]
      congr 2; omega
    · rw [if_neg h, if_neg h]; rfl
  have p2 : (if 0 < X then [((X : Int) - 1, (Y : Int))] else []) = List.map (cz gw) (if 0 < X then [i - 1] else []) := by
    by_cases h : 0 < X
    · rw [if_pos h, if_pos h, show i - 1 = Y * gw + (X - 1) by omega, List.map_singleton, cz_of (by omega)]
      congr 2; omega
    · rw [if_neg h, if_neg h]; rfl
  have p3 : (if X + 1 < gw then [((X : Int) + 1, (Y : Int))] else []) = List.map (cz gw) (if X + 1 < gw then [i + 1] else []) := by
    by_cases h : X + 1 < gw
    · rw [if_pos h, if_pos h, show i + 1 = Y * gw + (X + 1) by omega, List.map_singleton, cz_of h]
      congr 2
    · rw [if_neg h, if_neg h]; rfl
  have p4 : (if i + gw < gw * gh then [((X : Int), (Y : Int) + 1)] else []) = List.map (cz gw) (if i + gw < gw * gh then [i + gw] else []) := by
    by_cases h : i + gw < gw * gh
    · rw [if_pos h, if_pos h, show i + gw = (Y + 1) * gw + X by rw [Nat.add_mul, Nat.one_mul]; omega, List.map_singleton, cz_of hX]
      congr 2
    · rw [if_neg h, if_neg h]; rfl
  rw [p1, p2, p3, p4]
end Go.Proofs.Ytbcgbcipigcbhaa
/- Package route: a land's cells, neighbours, steps. -/
namespace Go.Proofs.Ytbcgbcipigcbhaa
open Go.RowKit
set_option linter.unusedVariables false
set_option linter.unusedSimpArgs false
set_option maxRecDepth 100000

/-! ### Rows of numbers -/
def natsV (l : List Nat) : List Value := l.map fun (j : Nat) => Value.int .i64 (j : Int)
theorem natsV_len (l : List Nat) : (natsV l).length = l.length := by simp [natsV]
theorem natsV_app (l m : List Nat) : natsV l ++ natsV m = natsV (l ++ m) := by simp [natsV]
theorem natsV_get {l : List Nat} {i j : Nat} (h : l[i]? = some j) : (natsV l)[(i : Int).toNat * 1]? = some (.int .i64 (j : Int)) := by
  rw [Nat.mul_one, Int.toNat_natCast, natsV, List.getElem?_map, h]; rfl
def cellsQ (n : Nat) (o : Nat → Int) : List Value := (List.range n).map fun i => .int .i64 (o i)
theorem cellsQ_len (n : Nat) (o : Nat → Int) : (cellsQ n o).length = n := by simp [cellsQ]
theorem cellsQ_get {n i : Nat} {o : Nat → Int} (h : i < n) : (cellsQ n o)[(i : Int).toNat * 1]? = some (.int .i64 (o i)) := by
  rw [Nat.mul_one, Int.toNat_natCast, cellsQ, List.getElem?_map, List.getElem?_range h]; rfl
theorem cellsQ_ints (n : Nat) (o : Nat → Int) : cellsQ n o = ints ((List.range n).map o) := by simp [cellsQ, ints]
theorem cellsQ_congr {n : Nat} {o o' : Nat → Int} (h : ∀ i, i < n → o i = o' i) : cellsQ n o = cellsQ n o' := by
  unfold cellsQ
  refine List.map_congr_left fun i hi => ?_
  rw [h i (List.mem_range.1 hi)]
theorem cellsQ_set {n k : Nat} {o : Nat → Int} {v : Int} : (cellsQ n o).set ((k : Int).toNat * 1) (.int .i64 v) = cellsQ n (updI o k v) := by
  rw [Nat.mul_one, Int.toNat_natCast]
  apply List.ext_getElem?
  intro i
  rw [List.getElem?_set]
  unfold cellsQ updI
  by_cases e : k = i
  · subst e
    rw [if_pos rfl]
    simp only [List.length_map, List.length_range]
    split
    · rename_i h; rw [List.getElem?_map, List.getElem?_range h]; simp
    · rename_i h; rw [List.getElem?_eq_none (by simp; omega)]
  · rw [if_neg e, List.getElem?_map, List.getElem?_map]
    by_cases h : i < n
    · rw [List.getElem?_range h, Option.map_some, Option.map_some, if_neg (fun h => e h.symm)]
    · rw [List.getElem?_eq_none (by simp; omega)]; rfl
theorem cellsQ_zero (n : Nat) : List.replicate n (Value.int .i64 0) = cellsQ n (fun _ => 0) := by
  unfold cellsQ
  rw [List.map_const', List.length_range]

section
variable {W : World} {A : Option Addr} {gw c : Nat} {V : List Int}
def vB (V : List Int) : Prop := ∀ i, -2147483648 ≤ V.getD i 0 ∧ V.getD i 0 ≤ 2147483647
theorem st_far (hb : vB V) (i j : Nat) : st V i j ≤ far := by have := hb i; have := hb j; unfold st far; omega
theorem IsDist.bound {a : Nat} {d : Nat → Int} (h : IsDist gw V a d) (hb : vB V) : ∀ j, j < V.length → d j ≤ rank V.length d j * far := by
  have key : ∀ (k : Nat) (j : Nat), j < V.length → rank V.length d j < k → d j ≤ rank V.length d j * far := by
    intro k
    induction k with
    | zero => intro j _ h; omega
    | succ k ih =>
      intro j hj hk
      by_cases e : j = a
      · subst e; rw [h.zero]; unfold far; omega
      · obtain ⟨i, hi, _, he⟩ := h.pred j hj e
        have h1 := st_pos V i j
        have h2 := st_far hb i j
        have h3 := rank_lt (n := V.length) (d := d) (i := i) (j := j) hi (by omega)
        have h4 := ih i hi (by omega)
        unfold far at *
        omega
  exact fun j hj => key (rank V.length d j + 1) j hj (by omega)
end
theorem vB_of_may {V : List Int} (h : ∀ v ∈ V, mayB v = true) : vB V := by
  intro i
  rw [List.getD_eq_getElem?_getD]
  cases e : V[i]? with
  | none => simp
  | some v =>
    have := h v (List.mem_of_getElem? e)
    unfold mayB at this
    simpa using this
theorem vB_grid {gw gh : Nat} {cc : Nat → Int} (h : ∀ i, i < gw * gh → -2147483648 ≤ cc i ∧ cc i ≤ 2147483647) : vB (gridL gw gh cc) := by
  intro i
  unfold gridL
  rw [List.getD_eq_getElem?_getD]
  by_cases hi : i < gw * gh
  · rw [List.getElem?_map, List.getElem?_range hi]; exact h i hi
  · rw [List.getElem?_eq_none (by simp; omega)]; simp
end Go.Proofs.Ytbcgbcipigcbhaa
/- The document's costs: contracts of the references. -/
namespace Go.Proofs.Ytbcgbcipigcbhaa
open Go.RowKit
set_option linter.unusedVariables false
set_option linter.unusedSimpArgs false
set_option maxRecDepth 100000

def cellV (gw i : Nat) : Value := .agg #[.int .i64 (i % gw : Nat), .int .i64 (i / gw : Nat)]
theorem cellsQ_snoc (n : Nat) (o : Nat → Int) : cellsQ (n + 1) o = cellsQ n o ++ [.int .i64 (o n)] := by simp [cellsQ, List.range_succ]
section
variable {W : World} {A : Option Addr} {gw gh cap : Nat} {V : List Int}
theorem rcells_E (A B : Option Addr) (c d : Nat) (xs ys : List (Int × Int)) (W : World) (hl : xs.length ≤ 9223372036854775807) (hA : Rd W A (cellsZ xs)) (hB : Rd W B (cellsZ ys)) : Fn Try.prog 31 [.slice A xs.length c, .slice B ys.length d] W (RetG (.bool (decide (xs = ys))) W) := by
  have S := St.start W
  refine Fn_enter Try.func31 rfl Try.results31 Try.ntmps31 (by kernel_rfl) (by kernel_rfl) ?_
  repeat refine cw_seq ?_
  refine cw_region ?_
  refine rw_v (op_pure rfl) ?_
  first | refine rw_end ?_ | (refine rw_nil ?_; show CW _ _ _ _ _ _) | refine rw_nil ?_
  repeat refine cw_seq ?_
  refine cw_region ?_
  refine rw_v (op_pure rfl) ?_
  refine rw_v (op_len Try.underlying50 rfl) ?_
  refine rw_v (op_pure rfl) ?_
  refine rw_v (op_len Try.underlying50 rfl) ?_
  refine rw_v (op_pure rfl) ?_
  first | refine rw_end ?_ | (refine rw_nil ?_; show CW _ _ _ _ _ _) | refine rw_nil ?_
  repeat refine cw_seq ?_
  refine cw_cond rfl (fun hc => ?_) (fun hc => ?_)
  · try simp only [decide_eq_true_eq, decide_eq_false_iff_not, beq_iff_eq, bne_iff_ne, beq_eq_false_iff_ne, bne_eq_false_iff_eq, Bool.not_eq_true', Bool.not_eq_false', ne_eq, Decidable.not_not, Int.natCast_inj, Int.ofNat_lt, Int.ofNat_le, gt_iff_lt, ge_iff_le, Int.not_lt, Int.not_le] at hc
    repeat refine cw_seq ?_
    refine cw_region ?_
    refine rw_v (op_pure rfl) ?_
    first | refine rw_end ?_ | (refine rw_nil ?_; show CW _ _ _ _ _ _) | refine rw_nil ?_
    repeat refine cw_seq ?_
    refine cw_ret ?_
    repeat first | refine ret_then ?_ | refine ret_inb ?_
    exact res1 rfl ⟨be (by simp; intro e; subst e; exact hc rfl), S.out⟩
  · try simp only [decide_eq_true_eq, decide_eq_false_iff_not, beq_iff_eq, bne_iff_ne, beq_eq_false_iff_ne, bne_eq_false_iff_eq, Bool.not_eq_true', Bool.not_eq_false', ne_eq, Decidable.not_not, Int.natCast_inj, Int.ofNat_lt, Int.ofNat_le, gt_iff_lt, ge_iff_le, Int.not_lt, Int.not_le] at hc
    repeat refine cw_seq ?_
    refine cw_skip ?_
    try show CW _ _ _ _ _ _
    repeat refine cw_seq ?_
    refine cw_region ?_
    refine rw_v (op_pure rfl) ?_
    first | refine rw_end ?_ | (refine rw_nil ?_; show CW _ _ _ _ _ _) | refine rw_nil ?_
    repeat refine cw_seq ?_
    refine cw_block ?_
    repeat refine cw_seq ?_
    refine cw_loop (fun m e w => ∃ k : Nat, k + m = xs.length ∧ SL e [(0, .slice A xs.length c), (1, .slice B ys.length d), (5, .int .i64 k)] ∧ (∀ i, i < k → xs[i]? = ys[i]?) ∧ St No W w []) xs.length
      ⟨0, by omega, ⟨rfl, rfl, rfl, trivial⟩, fun i hi => by omega, S⟩ ?_
    rintro m e w ⟨k, hk, hsl, hI, S⟩
    rw [hsl.fold]
    repeat refine cw_seq ?_
    refine cw_region ?_
    iterate 2 refine rw_v (op_pure rfl) ?_
    refine rw_v (op_len Try.underlying50 rfl) ?_
    refine rw_v (op_pure rfl) ?_
    first | refine rw_end ?_ | (refine rw_nil ?_; show CW _ _ _ _ _ _) | refine rw_nil ?_
    repeat refine cw_seq ?_
    refine cw_cond rfl (fun hk1 => ?_) (fun hk1 => ?_)
    · try simp only [decide_eq_true_eq, decide_eq_false_iff_not, beq_iff_eq, bne_iff_ne, beq_eq_false_iff_ne, bne_eq_false_iff_eq, Bool.not_eq_true', Bool.not_eq_false', ne_eq, Decidable.not_not, Int.natCast_inj, Int.ofNat_lt, Int.ofNat_le, gt_iff_lt, ge_iff_le, Int.not_lt, Int.not_le] at hk1
      have hk1 : k < xs.length := by omega
      have hk2 : k < ys.length := by omega
      have sa_A : SomeA A := hA.someA (by rw [cellsZ_len]; omega)
      have sa_B : SomeA B := hB.someA (by rw [cellsZ_len]; omega)
      obtain ⟨p, hp⟩ : ∃ p, xs[k]? = some p := ⟨_, List.getElem?_eq_getElem hk1⟩
      obtain ⟨q, hq⟩ : ∃ q, ys[k]? = some q := ⟨_, List.getElem?_eq_getElem hk2⟩
      have hx : ((cellsZ xs).drop ((k : Int).toNat * 2)).take 2 = [.int .i64 p.1, .int .i64 p.2] := by rw [Int.toNat_natCast]; exact cellsZ_at hp
      have hy : ((cellsZ ys).drop ((k : Int).toNat * 2)).take 2 = [.int .i64 q.1, .int .i64 q.2] := by rw [Int.toNat_natCast]; exact cellsZ_at hq
      by_cases hpq : p.1 = q.1 ∧ p.2 = q.2
      · skip
        repeat refine cw_seq ?_
        refine cw_skip ?_
        try show CW _ _ _ _ _ _
        repeat refine cw_seq ?_
        refine cw_block ?_
        repeat refine cw_seq ?_
        refine cw_draw (C := fun wq => Gr w wq) [0, 1, 2, 3, 4, 5, 6, 7, 8] [] (by kernel_rfl) (by kernel_rfl) (Gr.drew _) ?_
        simp only [pickL, List.drop_succ_cons, List.drop_zero]
        iterate 2 refine rq_v (op_pure rfl) ?_
        refine rq_v (op_idx Try.underlying50 Try.sizeOf44 rfl rfl sa_A (by omega) (by omega)) ?_
        refine rq_r (fun wq hq => op_ldRA Try.underlying44 rfl (Try.sizeOf44 _) rfl (hA.gr (S.gr hq).out) hx rfl rfl) ?_
        iterate 2 refine rq_v (op_pure rfl) ?_
        refine rq_v (op_idx Try.underlying50 Try.sizeOf44 rfl rfl sa_B (by omega) (by omega)) ?_
        refine rq_r (fun wq hq => op_ldRA Try.underlying44 rfl (Try.sizeOf44 _) rfl (hB.gr (S.gr hq).out) hy rfl rfl) ?_
        refine rq_v (op_neCell (r := false) rfl rfl (by rw [decide_eq_true hpq]; rfl)) ?_
        refine rq_nil ?_
        intro w1_ g1_
        have S := S.gr g1_
        first | refine rw_end ?_ | (refine rw_nil ?_; show CW _ _ _ _ _ _) | refine rw_nil ?_
        repeat refine cw_seq ?_
        refine cw_false rfl ?_
        repeat refine cw_seq ?_
        refine cw_skip ?_
        try show CW _ _ _ _ _ _
        repeat refine cw_seq ?_
        refine cw_region ?_
        refine rw_v (op_pure rfl) ?_
        refine rw_v (op_rng rfl (by omega)) ?_
        refine rw_v (op_pure rfl) ?_
        first | refine rw_end ?_ | (refine rw_nil ?_; show CW _ _ _ _ _ _) | refine rw_nil ?_
        refine ⟨m - 1, by omega, k + 1, by omega, ⟨rfl, rfl, ie (by omega), trivial⟩, fun i hi => ?_, S⟩
        by_cases e : i = k
        · subst e; rw [hp, hq, Prod.ext hpq.1 hpq.2]
        · exact hI i (by omega)
      · skip
        repeat refine cw_seq ?_
        refine cw_skip ?_
        try show CW _ _ _ _ _ _
        repeat refine cw_seq ?_
        refine cw_block ?_
        repeat refine cw_seq ?_
        refine cw_draw (C := fun wq => Gr w wq) [0, 1, 2, 3, 4, 5, 6, 7, 8] [] (by kernel_rfl) (by kernel_rfl) (Gr.drew _) ?_
        simp only [pickL, List.drop_succ_cons, List.drop_zero]
        iterate 2 refine rq_v (op_pure rfl) ?_
        refine rq_v (op_idx Try.underlying50 Try.sizeOf44 rfl rfl sa_A (by omega) (by omega)) ?_
        refine rq_r (fun wq hq => op_ldRA Try.underlying44 rfl (Try.sizeOf44 _) rfl (hA.gr (S.gr hq).out) hx rfl rfl) ?_
        iterate 2 refine rq_v (op_pure rfl) ?_
        refine rq_v (op_idx Try.underlying50 Try.sizeOf44 rfl rfl sa_B (by omega) (by omega)) ?_
        refine rq_r (fun wq hq => op_ldRA Try.underlying44 rfl (Try.sizeOf44 _) rfl (hB.gr (S.gr hq).out) hy rfl rfl) ?_
        refine rq_v (op_neCell (r := true) rfl rfl (by rw [decide_eq_false hpq]; rfl)) ?_
        refine rq_nil ?_
        intro w2_ g2_
        have S := S.gr g2_
        first | refine rw_end ?_ | (refine rw_nil ?_; show CW _ _ _ _ _ _) | refine rw_nil ?_
        repeat refine cw_seq ?_
        refine cw_true rfl ?_
        repeat refine cw_seq ?_
        refine cw_region ?_
        refine rw_v (op_pure rfl) ?_
        first | refine rw_end ?_ | (refine rw_nil ?_; show CW _ _ _ _ _ _) | refine rw_nil ?_
        repeat refine cw_seq ?_
        refine cw_ret ?_
        repeat first | refine ret_then ?_ | refine ret_inb ?_
        refine res1 rfl ⟨be ?_, S.out⟩
        symm
        rw [decide_eq_false_iff_not]
        intro e; subst e; rw [hp] at hq; injection hq with hq; subst hq; exact hpq ⟨rfl, rfl⟩
    · try simp only [decide_eq_true_eq, decide_eq_false_iff_not, beq_iff_eq, bne_iff_ne, beq_eq_false_iff_ne, bne_eq_false_iff_eq, Bool.not_eq_true', Bool.not_eq_false', ne_eq, Decidable.not_not, Int.natCast_inj, Int.ofNat_lt, Int.ofNat_le, gt_iff_lt, ge_iff_le, Int.not_lt, Int.not_le] at hk1
      repeat refine cw_seq ?_
      refine cw_exit ?_
      repeat first | refine exit_then ?_ | refine exit_inb ?_
      show CW _ _ _ _ _ _
      repeat refine cw_seq ?_
      refine cw_region ?_
      refine rw_v (op_pure rfl) ?_
      first | refine rw_end ?_ | (refine rw_nil ?_; show CW _ _ _ _ _ _) | refine rw_nil ?_
      repeat refine cw_seq ?_
      refine cw_ret ?_
      repeat first | refine ret_then ?_ | refine ret_inb ?_
      refine res1 rfl ⟨be ?_, S.out⟩
      have e : xs = ys := by
        apply List.ext_getElem?
        intro i
        by_cases hi : i < xs.length
        · exact hI i (by omega)
        · rw [List.getElem?_eq_none (by omega), List.getElem?_eq_none (by omega)]
      simp [e]
theorem matI_E (i : Nat) (hgw : 0 < gw) (hi : i < gw * gh) (hV : V.length = gw * gh) (hm : gw * gh ≤ 1048576) (hA : Rd W A (ints V)) :
    Fn Try.prog 25 [modV gw gh A V.length cap, .agg #[.int .i64 (i % gw : Nat), .int .i64 (i / gw : Nat)]] W (RetG (.tuple #[.int .i64 (V.getD i 0), .int .i64 0]) W) := by
  have := mat_E (W := W) (A := A) (cap := cap) (cz gw i).1 (cz gw i).2 (cz_in hgw hi) hV hm hA
  rw [cz_idx] at this
  exact this
theorem nearI_E (i : Nat) (hgw : 0 < gw) (hi : i < gw * gh) (hV : V.length = gw * gh) (hm : gw * gh ≤ 1048576) (hA : Rd W A (ints V)) :
    Fn Try.prog 84 [modV gw gh A V.length cap, .agg #[.int .i64 (i % gw : Nat), .int .i64 (i / gw : Nat)]] W (RetNew id 44 2 (nearN gw V.length i).length (cellsZ ((nearN gw V.length i).map (cz gw))) W) := by
  have h1 := Nat.mod_le i gw
  have h2 := Nat.div_le_self i gw
  have := rnear_E (W := W) (A := A) (cap := cap) (i % gw : Nat) (i / gw : Nat) (by generalize i % gw = x at *; omega) (by generalize i / gw = y at *; omega) hV hm hA
  rw [nearZ_eq hgw hi, List.length_map, ← hV] at this
  exact this
end
end Go.Proofs.Ytbcgbcipigcbhaa
/- route.of: a grid's values, and the places of cells in it. -/
namespace Go.Proofs.Ytbcgbcipigcbhaa
open Go.RowKit
set_option linter.unusedVariables false
set_option linter.unusedSimpArgs false
set_option maxRecDepth 100000

def CN (F : Nat → Prop) (W : World) (L : List HA) (T : Value → HA → Prop) (wq : World) : List Value → Prop
  | [] => St F W wq L
  | v :: _ => ∃ h, T v h ∧ St F W wq (h :: L)
theorem CN.st {F : Nat → Prop} {W : World} {L : List HA} {T : Value → HA → Prop} {wq : World} : ∀ {τ : List Value}, CN F W L T wq τ → St F W wq L
  | [], h => h
  | v :: _, ⟨_, _, S⟩ => S.drop 1
theorem CN.gr {F : Nat → Prop} {W : World} {L : List HA} {T : Value → HA → Prop} {wq w' : World} (g : Gr wq w') : ∀ {τ : List Value}, CN F W L T wq τ → CN F W L T w' τ
  | [], h => St.gr h g
  | v :: _, ⟨x, t, S⟩ => ⟨x, t, S.gr g⟩
section
variable {P : Program} {w : World} {e : Nat → Value}
/-- results: a struct in memory, and two more -/
theorem resATT {a u u' : Tmp} {t tb : TypeId} {b o n : Nat} {dd : TypeDesc} {cs l : List Value} {v2 v3 : Value} {R : Value → World → Prop} (hu : P.underlying t = some dd) (hd : aggD dd = true) (hz : (sizeOf t).run P w = .ok n w) (hx : e a = .pointer (some ⟨b, o, none⟩)) (hB : Blk w b tb l)
    (hl : fzl ((l.drop o).take n) = some cs) (hn : cs.length = n) (h2 : fz (e u) = some v2) (h3 : fz (e u') = some v3) (hR : R (.tuple #[.agg cs.toArray, v2, v3]) w) : QF P #[.cell a t, .tmp u, .tmp u'] R .ret e w :=
  ⟨_, fun fn tmps hr hg => by
    have h1 := run_loadVar_E (o := default) (op_loadAB (P := P) (d := none) (ty := 0) (ps := "") (af := #[]) (e := fun _ => .pointer (some ⟨b, o, none⟩)) (x := .tmp 0) hu hd hz rfl hB hl hn)
    have g1 := hg a
    have g2 := hg u
    have g3 := hg u'
    rw [hx, Array.getD_eq_getD_getElem?] at g1
    rw [fz_eq h2, Array.getD_eq_getD_getElem?] at g2
    rw [fz_eq h3, Array.getD_eq_getD_getElem?] at g3
    simp [results, hr, g1, g2, g3, asAddr, h1], hR⟩
end
def idxZ (gw : Nat) (z : Int × Int) : Nat := z.2.toNat * gw + z.1.toNat
def RetOf (gw gh : Nat) (V : List Int) (ps : List Nat) (W : World) : Value → World → Prop := fun v w' =>
  ∃ A' c' A2 c2, v = .tuple #[.agg #[.int .i64 gw, .slice A' (gw * gh) c'], .slice A2 ps.length c2, .int .i64 0] ∧ Row w' 2 1 A' (gw * gh) c' (ints V) ∧ FreshA W A' ∧ Row w' 3 1 A2 ps.length c2 (natsV ps) ∧ FreshA W A2 ∧ (∀ g, ownA A' g → ¬ ownA A2 g) ∧ Gr W w'
section
variable {W : World} {A B : Option Addr} {p gw gh cap cB : Nat} {cc : Nat → Int} {bs : Nat → Nat} {Rs : Nat → Option Nat}
end
end Go.Proofs.Ytbcgbcipigcbhaa
/- sink: where water goes, a grid's land, a place in it, the places by their heights: contracts. -/
namespace Go.Proofs.Ytbcgbcipigcbhaa
open Go.RowKit
set_option linter.unusedVariables false
set_option linter.unusedSimpArgs false
set_option maxRecDepth 100000

section
variable {W : World} {A B : Option Addr} {p gw gh cap c n2 c2 : Nat} {V : List Int}
set_option maxHeartbeats 2000000 in
theorem sflow_E (i : Nat) (hgw : 1 ≤ gw ∧ gw ≤ 1048576) (hV : V.length = gw * gh) (hm : gw * gh ≤ 1048576) (hi : i < gw * gh) (hA : Rd W A (ints V)) :
    Fn Try.prog 131 [.agg #[.int .i64 gw, .slice A (gw * gh) c, .slice B n2 c2], .int .i64 i] W (RetG (.int .i64 (flowN gw V i : Nat)) W) := by
  have em : (i : Int) % gw = ((i % gw : Nat) : Int) := by push_cast; rfl
  have sa_A : SomeA A := hA.someA (by rw [ints_len]; omega)
  have hget : ∀ i, i < gw * gh → (ints V)[(i : Int).toNat * 1]? = some (.int .i64 (V.getD i 0)) := fun i hi => by rw [Nat.mul_one, Int.toNat_natCast]; exact ints_get (getD_at (by omega))
  have d0 : decide ((i : Int) ≥ gw) = thN gw (gw * gh) i 0 := by show _ = decide _; rw [Bool.eq_iff_iff, decide_eq_true_iff, decide_eq_true_iff]; omega
  have d1 : decide (((i % gw : Nat) : Int) > 0) = thN gw (gw * gh) i 1 := by show _ = decide _; rw [Bool.eq_iff_iff, decide_eq_true_iff, decide_eq_true_iff]; omega
  have d2 : decide (((i % gw : Nat) : Int) < (gw : Int) - 1) = thN gw (gw * gh) i 2 := by show _ = decide _; rw [Bool.eq_iff_iff, decide_eq_true_iff, decide_eq_true_iff]; omega
  have d3 : decide ((i : Int) + gw < (gw * gh : Nat)) = thN gw (gw * gh) i 3 := by show _ = decide _; rw [Bool.eq_iff_iff, decide_eq_true_iff, decide_eq_true_iff]; omega
  have S := St.start W
  refine Fn_enter Try.func131 rfl Try.results131 Try.ntmps131 (by kernel_rfl) (by kernel_rfl) ?_
  repeat refine cw_seq ?_
  refine cw_region ?_
  refine rw_newB (op_box rfl) S ?_
  intro b_l w2_ g2_ S
  refine rw_v (op_pure rfl) ?_
  first | refine rw_end ?_ | (refine rw_nil ?_; show CW _ _ _ _ _ _) | refine rw_nil ?_
  repeat refine cw_seq ?_
  refine cw_region ?_
  iterate 2 refine rw_v (op_pure rfl) ?_
  first | refine rw_end ?_ | (refine rw_nil ?_; show CW _ _ _ _ _ _) | refine rw_nil ?_
  repeat refine cw_seq ?_
  refine cw_draw (C := fun wq => Gr w2_ wq) [0, 1, 2, 3, 4, 5, 6, 7, 8, 9, 10, 11, 12, 13, 14, 15, 16, 17, 18, 19, 20, 21, 22, 23, 24, 25, 26, 27, 28, 29, 30, 31, 32, 33, 34, 35, 36, 37, 38, 39, 40, 41, 42] [] (by kernel_rfl) (by kernel_rfl) (Gr.drew _) ?_
  simp only [pickL, List.drop_succ_cons, List.drop_zero]
  refine rq_v (op_pure rfl) ?_
  refine rq_v (op_fieldAddr Try.underlying136 rfl Try.sizeOf3 rfl rfl) ?_
  refine rq_r (fun wq hq => op_loadB Try.underlying3 rfl rfl ((S.gr hq).blk (i := 0) rfl) rfl) ?_
  refine rq_v (op_pure rfl) ?_
  rw [d0]
  refine rq_v (op_pure rfl) ?_
  refine rq_v (op_fieldAddr Try.underlying136 rfl Try.sizeOf3 rfl rfl) ?_
  refine rq_r (fun wq hq => op_loadB Try.underlying3 rfl rfl ((S.gr hq).blk (i := 0) rfl) rfl) ?_
  refine rq_v (op_rng rfl (by omega)) ?_
  refine rq_v (op_build (pl := [(0, 1), (1, 1)]) Try.underlying235 Try.zeroValue235 (fun w => by kernel_rfl) rfl rfl) ?_
  refine rq_v (op_pure rfl) ?_
  refine rq_v (op_fieldAddr Try.underlying136 rfl Try.sizeOf3 rfl rfl) ?_
  refine rq_r (fun wq hq => op_loadB Try.underlying3 rfl rfl ((S.gr hq).blk (i := 0) rfl) rfl) ?_
  refine rq_v (op_rem rfl rfl (by omega) (by omega)) ?_
  rw [em]
  refine rq_v (op_pure rfl) ?_
  rw [d1]
  refine rq_v (op_pure rfl) ?_
  refine rq_v (op_rng rfl (by omega)) ?_
  refine rq_v (op_build (pl := [(0, 1), (1, 1)]) Try.underlying235 Try.zeroValue235 (fun w => by kernel_rfl) rfl rfl) ?_
  refine rq_v (op_pure rfl) ?_
  refine rq_v (op_fieldAddr Try.underlying136 rfl Try.sizeOf3 rfl rfl) ?_
  refine rq_r (fun wq hq => op_loadB Try.underlying3 rfl rfl ((S.gr hq).blk (i := 0) rfl) rfl) ?_
  refine rq_v (op_rem rfl rfl (by omega) (by omega)) ?_
  rw [em]
  refine rq_v (op_fieldAddr Try.underlying136 rfl Try.sizeOf3 rfl rfl) ?_
  refine rq_r (fun wq hq => op_loadB Try.underlying3 rfl rfl ((S.gr hq).blk (i := 0) rfl) rfl) ?_
  refine rq_v (op_rng rfl (by omega)) ?_
  refine rq_v (op_pure rfl) ?_
  rw [d2]
  refine rq_v (op_pure rfl) ?_
  refine rq_v (op_rng rfl (by omega)) ?_
  refine rq_v (op_build (pl := [(0, 1), (1, 1)]) Try.underlying235 Try.zeroValue235 (fun w => by kernel_rfl) rfl rfl) ?_
  refine rq_v (op_pure rfl) ?_
  refine rq_v (op_fieldAddr Try.underlying136 rfl Try.sizeOf3 rfl rfl) ?_
  refine rq_r (fun wq hq => op_loadB Try.underlying3 rfl rfl ((S.gr hq).blk (i := 0) rfl) rfl) ?_
  refine rq_v (op_rng rfl (by omega)) ?_
  refine rq_v (op_fieldAddr Try.underlying136 rfl Try.sizeOf22 rfl rfl) ?_
  refine rq_r (fun wq hq => op_loadB Try.underlying22 rfl rfl ((S.gr hq).blk (i := 0) rfl) rfl) ?_
  refine rq_v (op_len Try.underlying22 rfl) ?_
  refine rq_v (op_pure rfl) ?_
  rw [d3]
  refine rq_v (op_pure rfl) ?_
  refine rq_v (op_fieldAddr Try.underlying136 rfl Try.sizeOf3 rfl rfl) ?_
  refine rq_r (fun wq hq => op_loadB Try.underlying3 rfl rfl ((S.gr hq).blk (i := 0) rfl) rfl) ?_
  refine rq_v (op_rng rfl (by omega)) ?_
  refine rq_v (op_build (pl := [(0, 1), (1, 1)]) Try.underlying235 Try.zeroValue235 (fun w => by kernel_rfl) rfl rfl) ?_
  refine rq_v (op_buildArr Try.underlying236 Try.sizeOf235 Try.zeroValue236 rfl rfl) ?_
  refine rq_v (op_pure rfl) ?_
  refine rq_nil ?_
  intro w3_ g3_
  have S := S.gr g3_
  first | refine rw_end ?_ | (refine rw_nil ?_; show CW _ _ _ _ _ _) | refine rw_nil ?_
  repeat refine cw_seq ?_
  refine cw_block ?_
  repeat refine cw_seq ?_
  refine cw_loop (fun m e w => ∃ k : Nat, k + m = 4 ∧ SL e [(2, .pointer (some ⟨b_l, 0, none⟩)), (5, .int .i64 (flw V i (preN gw (gw * gh) i k) : Nat)), (50, .agg (quadV gw (gw * gh) i).toArray), (51, .int .i64 k)] ∧ flw V i (preN gw (gw * gh) i k) < gw * gh ∧ St No W w [.blk b_l 136 [.int .i64 gw, .slice A (gw * gh) c, .slice B n2 c2]]) 4
    ⟨0, rfl, ⟨rfl, rfl, rfl, rfl, trivial⟩, hi, S⟩ ?_
  clear S d0 d1 d2 d3
  rintro m e w ⟨k, hk, hsl, hlt, S⟩
  rw [hsl.fold]
  repeat refine cw_seq ?_
  refine cw_region ?_
  refine rw_v (op_pure rfl) ?_
  first | refine rw_end ?_ | (refine rw_nil ?_; show CW _ _ _ _ _ _) | refine rw_nil ?_
  repeat refine cw_seq ?_
  refine cw_cond rfl (fun hc => ?_) (fun hc => ?_)
  · try simp only [decide_eq_true_eq, decide_eq_false_iff_not, beq_iff_eq, bne_iff_ne, beq_eq_false_iff_ne, bne_eq_false_iff_eq, Bool.not_eq_true', Bool.not_eq_false', ne_eq, Decidable.not_not, Int.natCast_inj, Int.ofNat_lt, Int.ofNat_le, gt_iff_lt, ge_iff_le, Int.not_lt, Int.not_le] at hc
    have hk4 : k < 4 := by omega
    have hq := quadV_get (gw := gw) (n := gw * gh) (i := i) k hk4
    have hstep : flw V i (preN gw (gw * gh) i (k + 1)) = flw V (flw V i (preN gw (gw * gh) i k)) (segN gw (gw * gh) i k) := flw_app _ _ _ _
    generalize flw V i (preN gw (gw * gh) i k) = b at *
    rcases seg_spec hgw.1 hi k hk4 with ⟨hth, a, ha, han, hseg⟩ | ⟨hth, hseg⟩
    · rw [hth, ha] at hq
      rw [hseg] at hstep
      have hstep2 : flw V b [a] = if V.getD a 0 < V.getD b 0 then a else b := rfl
      rw [hstep2] at hstep
      by_cases hl : V.getD a 0 < V.getD b 0
      · rw [if_pos hl] at hstep
        repeat refine cw_seq ?_
        refine cw_skip ?_
        try show CW _ _ _ _ _ _
        repeat refine cw_seq ?_
        refine cw_block ?_
        repeat refine cw_seq ?_
        refine cw_region ?_
        refine rw_v (op_indexVA Try.underlying236 Try.underlying235 Try.sizeOf235 rfl rfl rfl (by omega) (by omega) hq) ?_
        refine rw_newB (op_alloc Try.zeroValue235 rfl) S ?_
        intro b_q w5_ g5_ S
        refine rw_storeSA (i := 0) S rfl (Try.sizeOf235 _) rfl rfl rfl rfl rfl rfl ?_
        intro w6_ S
        first | refine rw_end ?_ | (refine rw_nil ?_; show CW _ _ _ _ _ _) | refine rw_nil ?_
        repeat refine cw_seq ?_
        refine cw_draw (C := fun wq => Gr w6_ wq) [0, 1, 2, 3, 4, 5, 6, 7, 8, 9, 10, 11, 12, 13, 14, 15] [] (by kernel_rfl) (by kernel_rfl) (Gr.drew _) ?_
        simp only [pickL, List.drop_succ_cons, List.drop_zero]
        refine rq_v (op_fieldAddr Try.underlying235 rfl Try.sizeOf4 rfl rfl) ?_
        refine rq_r (fun wq hq => op_loadB Try.underlying4 rfl rfl ((S.gr hq).blk (i := 0) rfl) rfl) ?_
        refine rq_v (op_pure rfl) ?_
        first | refine rq_off rfl ?_ | (refine rq_on rfl ?_; refine rq_v (op_fieldAddr Try.underlying136 rfl Try.sizeOf22 rfl rfl) ?_)
        first | refine rq_off rfl ?_ | (refine rq_on rfl ?_; refine rq_r (fun wq hq => op_loadB Try.underlying22 rfl rfl ((S.gr hq).blk (i := 1) rfl) rfl) ?_)
        first | refine rq_off rfl ?_ | (refine rq_on rfl ?_; refine rq_v (op_fieldAddr Try.underlying235 rfl Try.sizeOf3 rfl rfl) ?_)
        first | refine rq_off rfl ?_ | (refine rq_on rfl ?_; refine rq_r (fun wq hq => op_loadB Try.underlying3 rfl rfl ((S.gr hq).blk (i := 0) rfl) rfl) ?_)
        first | refine rq_off rfl ?_ | (refine rq_on rfl ?_; refine rq_v (op_idx Try.underlying22 Try.sizeOf2 rfl rfl sa_A (by omega) (by omega)) ?_)
        first | refine rq_off rfl ?_ | (refine rq_on rfl ?_; refine rq_r (fun wq hq => op_ldR Try.underlying2 rfl rfl (hA.gr (S.gr hq).out) (hget a han)) ?_)
        first | refine rq_off rfl ?_ | (refine rq_on rfl ?_; refine rq_v (op_fieldAddr Try.underlying136 rfl Try.sizeOf22 rfl rfl) ?_)
        first | refine rq_off rfl ?_ | (refine rq_on rfl ?_; refine rq_r (fun wq hq => op_loadB Try.underlying22 rfl rfl ((S.gr hq).blk (i := 1) rfl) rfl) ?_)
        first | refine rq_off rfl ?_ | (refine rq_on rfl ?_; refine rq_v (op_pure rfl) ?_)
        first | refine rq_off rfl ?_ | (refine rq_on rfl ?_; refine rq_v (op_idx Try.underlying22 Try.sizeOf2 rfl rfl sa_A (by omega) (by omega)) ?_)
        first | refine rq_off rfl ?_ | (refine rq_on rfl ?_; refine rq_r (fun wq hq => op_ldR Try.underlying2 rfl rfl (hA.gr (S.gr hq).out) (hget b hlt)) ?_)
        first | refine rq_off rfl ?_ | (refine rq_on rfl ?_; refine rq_v (op_b (b := true) rfl (decide_eq_true (by omega))) ?_)
        refine rq_v (op_pure rfl) ?_
        refine rq_nil ?_
        intro w7_ g7_
        have S := S.gr g7_
        first | refine rw_end ?_ | (refine rw_nil ?_; show CW _ _ _ _ _ _) | refine rw_nil ?_
        repeat refine cw_seq ?_
        refine cw_true rfl ?_
        repeat refine cw_seq ?_
        refine cw_region ?_
        refine rw_v (op_fieldAddr Try.underlying235 rfl Try.sizeOf3 rfl rfl) ?_
        refine rw_r (op_loadB Try.underlying3 rfl rfl (S.blk (i := 0) rfl) rfl) ?_
        refine rw_v (op_pure rfl) ?_
        first | refine rw_end ?_ | (refine rw_nil ?_; show CW _ _ _ _ _ _) | refine rw_nil ?_
        repeat refine cw_seq ?_
        refine cw_region ?_
        refine rw_v (op_rng rfl (by omega)) ?_
        refine rw_v (op_pure rfl) ?_
        first | refine rw_end ?_ | (refine rw_nil ?_; show CW _ _ _ _ _ _) | refine rw_nil ?_
        exact ⟨m - 1, by omega, k + 1, by omega, ⟨rfl, ie (by rw [hstep]), rfl, ie (by omega), trivial⟩, by rw [hstep]; exact han, S.drop 1⟩
      · rw [if_neg hl] at hstep
        repeat refine cw_seq ?_
        refine cw_skip ?_
        try show CW _ _ _ _ _ _
        repeat refine cw_seq ?_
        refine cw_block ?_
        repeat refine cw_seq ?_
        refine cw_region ?_
        refine rw_v (op_indexVA Try.underlying236 Try.underlying235 Try.sizeOf235 rfl rfl rfl (by omega) (by omega) hq) ?_
        refine rw_newB (op_alloc Try.zeroValue235 rfl) S ?_
        intro b_q w9_ g9_ S
        refine rw_storeSA (i := 0) S rfl (Try.sizeOf235 _) rfl rfl rfl rfl rfl rfl ?_
        intro w10_ S
        first | refine rw_end ?_ | (refine rw_nil ?_; show CW _ _ _ _ _ _) | refine rw_nil ?_
        repeat refine cw_seq ?_
        refine cw_draw (C := fun wq => Gr w10_ wq) [0, 1, 2, 3, 4, 5, 6, 7, 8, 9, 10, 11, 12, 13, 14, 15] [] (by kernel_rfl) (by kernel_rfl) (Gr.drew _) ?_
        simp only [pickL, List.drop_succ_cons, List.drop_zero]
        refine rq_v (op_fieldAddr Try.underlying235 rfl Try.sizeOf4 rfl rfl) ?_
        refine rq_r (fun wq hq => op_loadB Try.underlying4 rfl rfl ((S.gr hq).blk (i := 0) rfl) rfl) ?_
        refine rq_v (op_pure rfl) ?_
        first | refine rq_off rfl ?_ | (refine rq_on rfl ?_; refine rq_v (op_fieldAddr Try.underlying136 rfl Try.sizeOf22 rfl rfl) ?_)
        first | refine rq_off rfl ?_ | (refine rq_on rfl ?_; refine rq_r (fun wq hq => op_loadB Try.underlying22 rfl rfl ((S.gr hq).blk (i := 1) rfl) rfl) ?_)
        first | refine rq_off rfl ?_ | (refine rq_on rfl ?_; refine rq_v (op_fieldAddr Try.underlying235 rfl Try.sizeOf3 rfl rfl) ?_)
        first | refine rq_off rfl ?_ | (refine rq_on rfl ?_; refine rq_r (fun wq hq => op_loadB Try.underlying3 rfl rfl ((S.gr hq).blk (i := 0) rfl) rfl) ?_)
        first | refine rq_off rfl ?_ | (refine rq_on rfl ?_; refine rq_v (op_idx Try.underlying22 Try.sizeOf2 rfl rfl sa_A (by omega) (by omega)) ?_)
        first | refine rq_off rfl ?_ | (refine rq_on rfl ?_; refine rq_r (fun wq hq => op_ldR Try.underlying2 rfl rfl (hA.gr (S.gr hq).out) (hget a han)) ?_)
        first | refine rq_off rfl ?_ | (refine rq_on rfl ?_; refine rq_v (op_fieldAddr Try.underlying136 rfl Try.sizeOf22 rfl rfl) ?_)
        first | refine rq_off rfl ?_ | (refine rq_on rfl ?_; refine rq_r (fun wq hq => op_loadB Try.underlying22 rfl rfl ((S.gr hq).blk (i := 1) rfl) rfl) ?_)
        first | refine rq_off rfl ?_ | (refine rq_on rfl ?_; refine rq_v (op_pure rfl) ?_)
        first | refine rq_off rfl ?_ | (refine rq_on rfl ?_; refine rq_v (op_idx Try.underlying22 Try.sizeOf2 rfl rfl sa_A (by omega) (by omega)) ?_)
        first | refine rq_off rfl ?_ | (refine rq_on rfl ?_; refine rq_r (fun wq hq => op_ldR Try.underlying2 rfl rfl (hA.gr (S.gr hq).out) (hget b hlt)) ?_)
        first | refine rq_off rfl ?_ | (refine rq_on rfl ?_; refine rq_v (op_b (b := false) rfl (decide_eq_false (by omega))) ?_)
        refine rq_v (op_pure rfl) ?_
        refine rq_nil ?_
        intro w11_ g11_
        have S := S.gr g11_
        first | refine rw_end ?_ | (refine rw_nil ?_; show CW _ _ _ _ _ _) | refine rw_nil ?_
        repeat refine cw_seq ?_
        refine cw_false rfl ?_
        repeat refine cw_seq ?_
        refine cw_skip ?_
        try show CW _ _ _ _ _ _
        repeat refine cw_seq ?_
        refine cw_region ?_
        refine rw_v (op_rng rfl (by omega)) ?_
        refine rw_v (op_pure rfl) ?_
        first | refine rw_end ?_ | (refine rw_nil ?_; show CW _ _ _ _ _ _) | refine rw_nil ?_
        exact ⟨m - 1, by omega, k + 1, by omega, ⟨rfl, ie (by rw [hstep]), rfl, ie (by omega), trivial⟩, by rw [hstep]; exact hlt, S.drop 1⟩
    · rw [hth] at hq
      rw [hseg] at hstep
      have hstep2 : flw V b [] = b := rfl
      rw [hstep2] at hstep
      repeat refine cw_seq ?_
      refine cw_skip ?_
      try show CW _ _ _ _ _ _
      repeat refine cw_seq ?_
      refine cw_block ?_
      repeat refine cw_seq ?_
      refine cw_region ?_
      refine rw_v (op_indexVA Try.underlying236 Try.underlying235 Try.sizeOf235 rfl rfl rfl (by omega) (by omega) hq) ?_
      refine rw_newB (op_alloc Try.zeroValue235 rfl) S ?_
      intro b_q w13_ g13_ S
      refine rw_storeSA (i := 0) S rfl (Try.sizeOf235 _) rfl rfl rfl rfl rfl rfl ?_
      intro w14_ S
      first | refine rw_end ?_ | (refine rw_nil ?_; show CW _ _ _ _ _ _) | refine rw_nil ?_
      repeat refine cw_seq ?_
      refine cw_draw (C := fun wq => Gr w14_ wq) [0, 1, 2, 3, 4, 5, 6, 7, 8, 9, 10, 11, 12, 13, 14, 15] [] (by kernel_rfl) (by kernel_rfl) (Gr.drew _) ?_
      simp only [pickL, List.drop_succ_cons, List.drop_zero]
      refine rq_v (op_fieldAddr Try.underlying235 rfl Try.sizeOf4 rfl rfl) ?_
      refine rq_r (fun wq hq => op_loadB Try.underlying4 rfl rfl ((S.gr hq).blk (i := 0) rfl) rfl) ?_
      refine rq_v (op_pure rfl) ?_
      refine rq_off rfl ?_
      refine rq_off rfl ?_
      refine rq_off rfl ?_
      refine rq_off rfl ?_
      refine rq_off rfl ?_
      refine rq_off rfl ?_
      refine rq_off rfl ?_
      refine rq_off rfl ?_
      refine rq_off rfl ?_
      refine rq_off rfl ?_
      refine rq_off rfl ?_
      refine rq_off rfl ?_
      refine rq_v (op_pure rfl) ?_
      refine rq_nil ?_
      intro w15_ g15_
      have S := S.gr g15_
      first | refine rw_end ?_ | (refine rw_nil ?_; show CW _ _ _ _ _ _) | refine rw_nil ?_
      repeat refine cw_seq ?_
      refine cw_false rfl ?_
      repeat refine cw_seq ?_
      refine cw_skip ?_
      try show CW _ _ _ _ _ _
      repeat refine cw_seq ?_
      refine cw_region ?_
      refine rw_v (op_rng rfl (by omega)) ?_
      refine rw_v (op_pure rfl) ?_
      first | refine rw_end ?_ | (refine rw_nil ?_; show CW _ _ _ _ _ _) | refine rw_nil ?_
      exact ⟨m - 1, by omega, k + 1, by omega, ⟨rfl, ie (by rw [hstep]), rfl, ie (by omega), trivial⟩, by rw [hstep]; exact hlt, S.drop 1⟩
  · try simp only [decide_eq_true_eq, decide_eq_false_iff_not, beq_iff_eq, bne_iff_ne, beq_eq_false_iff_ne, bne_eq_false_iff_eq, Bool.not_eq_true', Bool.not_eq_false', ne_eq, Decidable.not_not, Int.natCast_inj, Int.ofNat_lt, Int.ofNat_le, gt_iff_lt, ge_iff_le, Int.not_lt, Int.not_le] at hc
    obtain rfl : k = 4 := by omega
    have hfl : flowN gw V i = flw V i (preN gw (gw * gh) i 4) := by rw [preN_four]; unfold flowN; rw [hV]
    rw [← hfl] at *
    repeat refine cw_seq ?_
    refine cw_exit ?_
    repeat first | refine exit_then ?_ | refine exit_inb ?_
    show CW _ _ _ _ _ _
    repeat refine cw_seq ?_
    refine cw_region ?_
    iterate 2 refine rw_v (op_pure rfl) ?_
    first | refine rw_end ?_ | (refine rw_nil ?_; show CW _ _ _ _ _ _) | refine rw_nil ?_
    repeat refine cw_seq ?_
    refine cw_ret ?_
    repeat first | refine ret_then ?_ | refine ret_inb ?_
    exact res1 rfl ⟨rfl, S.out⟩
theorem satt_E (i n : Nat) (hgw : 1 ≤ gw) (hi : i ≤ 1048576) : Fn Try.prog 82 [.agg #[.int .i64 gw, .slice A n c, .slice B n2 c2], .int .i64 i] W (RetG (.agg #[.int .i64 (i % gw : Nat), .int .i64 (i / gw : Nat)]) W) := by
  have e1 : (i : Int) % gw = ((i % gw : Nat) : Int) := by push_cast; rfl
  have e2 : (i : Int) / gw = ((i / gw : Nat) : Int) := by push_cast; rfl
  have S := St.start W
  refine Fn_enter Try.func82 rfl Try.results82 Try.ntmps82 (by kernel_rfl) (by kernel_rfl) ?_
  repeat refine cw_seq ?_
  refine cw_region ?_
  refine rw_newB (op_box rfl) S ?_
  intro b_b1 w2_ g2_ S
  refine rw_newB (op_alloc Try.zeroValue44 rfl) S ?_
  intro b_b3 w4_ g4_ S
  first | refine rw_end ?_ | (refine rw_nil ?_; show CW _ _ _ _ _ _) | refine rw_nil ?_
  repeat refine cw_seq ?_
  refine cw_draw (C := fun wq => Gr w4_ wq) [0, 1, 2, 3, 4, 5, 6, 7] [8, 9] (by kernel_rfl) (by kernel_rfl) (Gr.drew _) ?_
  simp only [pickL, List.drop_succ_cons, List.drop_zero]
  refine rq_v (op_pure rfl) ?_
  refine rq_v (op_fieldAddr Try.underlying136 rfl Try.sizeOf3 rfl rfl) ?_
  refine rq_r (fun wq hq => op_loadB Try.underlying3 rfl rfl ((S.gr hq).blk (i := 1) rfl) rfl) ?_
  refine rq_v (op_rem rfl rfl (by omega) (by omega)) ?_
  rw [e1]
  refine rq_v (op_pure rfl) ?_
  refine rq_v (op_fieldAddr Try.underlying136 rfl Try.sizeOf3 rfl rfl) ?_
  refine rq_r (fun wq hq => op_loadB Try.underlying3 rfl rfl ((S.gr hq).blk (i := 1) rfl) rfl) ?_
  refine rq_v (op_div rfl rfl (by omega) (by omega)) ?_
  rw [e2]
  refine rq_nil ?_
  intro w5_ g5_
  have S := S.gr g5_
  refine rw_v (op_build (pl := [(0, 1), (1, 1)]) Try.underlying44 Try.zeroValue44 (fun w => by kernel_rfl) rfl rfl) ?_
  refine rw_storeSA (i := 0) S rfl (Try.sizeOf44 _) rfl rfl rfl rfl rfl rfl ?_
  intro w6_ S
  first | refine rw_end ?_ | (refine rw_nil ?_; show CW _ _ _ _ _ _) | refine rw_nil ?_
  repeat refine cw_seq ?_
  refine cw_ret ?_
  repeat first | refine ret_then ?_ | refine ret_inb ?_
  exact resA Try.underlying44 rfl (Try.sizeOf44 _) rfl (S.blk (i := 0) rfl) rfl rfl ⟨rfl, S.out⟩
end
/-- a land: its values, and where water goes -/
def RetSL (gw gh : Nat) (V : List Int) (mk : Value → Value) (W : World) (v : Value) (w' : World) : Prop :=
  ∃ A1 c1 A2 c2, v = mk (.agg #[.int .i64 gw, .slice A1 (gw * gh) c1, .slice A2 (gw * gh) c2]) ∧ Row w' 2 1 A1 (gw * gh) c1 (ints V) ∧ FreshA W A1 ∧ Row w' 3 1 A2 (gw * gh) c2 (cellsN (gw * gh) (flowN gw V)) ∧ FreshA W A2 ∧ (∀ g, ownA A1 g → ¬ ownA A2 g) ∧ Gr W w'
section
variable {W : World} {A : Option Addr} {p gw gh cap : Nat} {cc : Nat → Int} {bs : Nat → Nat} {Rs : Nat → Option Nat}
theorem sofNil_E : Fn Try.prog 80 [.pointer none] W (RetG (.tuple #[.agg #[.int .i64 0, .slice none 0 0, .slice none 0 0], .int .i64 1]) W) := by
  have S := St.start W
  refine Fn_enter Try.func80 rfl Try.results80 Try.ntmps80 (by kernel_rfl) (by kernel_rfl) ?_
  repeat refine cw_seq ?_
  refine cw_region ?_
  refine rw_newB (op_alloc Try.zeroValue136 rfl) S ?_
  intro b_res w2_ g2_ S
  refine rw_v (op_pure rfl) ?_
  first | refine rw_end ?_ | (refine rw_nil ?_; show CW _ _ _ _ _ _) | refine rw_nil ?_
  repeat refine cw_seq ?_
  refine cw_region ?_
  refine rw_v (op_pure rfl) ?_
  refine rw_v (op_nilp Try.underlying28 rfl rfl) ?_
  first | refine rw_end ?_ | (refine rw_nil ?_; show CW _ _ _ _ _ _) | refine rw_nil ?_
  repeat refine cw_seq ?_
  refine cw_true rfl ?_
  repeat refine cw_seq ?_
  refine cw_region ?_
  refine rw_v (op_build (pl := [(0, 1), (1, 1), (2, 1)]) Try.underlying136 Try.zeroValue136 (fun w => by kernel_rfl) rfl rfl) ?_
  refine rw_storeSA (i := 0) S rfl (Try.sizeOf136 _) rfl rfl rfl rfl rfl rfl ?_
  intro w3_ S
  refine rw_v (op_pure rfl) ?_
  first | refine rw_end ?_ | (refine rw_nil ?_; show CW _ _ _ _ _ _) | refine rw_nil ?_
  repeat refine cw_seq ?_
  refine cw_ret ?_
  repeat first | refine ret_then ?_ | refine ret_inb ?_
  exact resAT Try.underlying136 rfl (Try.sizeOf136 _) rfl (S.blk (i := 0) rfl) rfl rfl rfl ⟨rfl, S.out⟩
set_option maxHeartbeats 2000000 in
theorem sof_E (hG : GridAt W p gw gh cc A cap bs Rs) :
    Fn Try.prog 80 [.pointer (some ⟨p, 0, none⟩)] W (RetSL gw gh (gridL gw gh cc) (fun l => .tuple #[l, .int .i64 0]) W) := by
  have hw := hG.sw
  have hh := hG.sh
  have hn : gw * gh ≤ 1024 * 1024 := Nat.mul_le_mul hw.2 hh.2
  have e1 : ((gw : Int) - 1) = ((gw - 1 : Nat) : Int) := by omega
  have e2 : ((gh : Int) - 1) = ((gh - 1 : Nat) : Int) := by omega
  have hval : ∀ w, Gr W w → Fn Try.prog 43 [.pointer (some ⟨p, 0, none⟩), .agg #[.int .i64 0, .int .i64 0, .int .i64 (gw - 1), .int .i64 (gh - 1)]] w (RetNew (fun v => .tuple #[v, .int .i64 0]) 2 1 (gw * gh) (ints (gridL gw gh cc)) w) := fun w g => by
    have := gvalues_E (W := w) 0 0 (gw - 1) (gh - 1) (by omega) (by omega) (hG.gr g)
    rw [← e1, ← e2, show gw - 1 + 1 - 0 = gw by omega, show gh - 1 + 1 - 0 = gh by omega, rectV_all, Nat.mul_comm gh gw] at this
    exact this
  have hV := gridL_len gw gh cc
  have S := St.start W
  refine Fn_enter Try.func80 rfl Try.results80 Try.ntmps80 (by kernel_rfl) (by kernel_rfl) ?_
  repeat refine cw_seq ?_
  refine cw_region ?_
  refine rw_newB (op_alloc Try.zeroValue136 rfl) S ?_
  intro b_res w2_ g2_ S
  refine rw_v (op_pure rfl) ?_
  first | refine rw_end ?_ | (refine rw_nil ?_; show CW _ _ _ _ _ _) | refine rw_nil ?_
  repeat refine cw_seq ?_
  refine cw_region ?_
  refine rw_v (op_pure rfl) ?_
  refine rw_v (op_nilp Try.underlying28 rfl rfl) ?_
  first | refine rw_end ?_ | (refine rw_nil ?_; show CW _ _ _ _ _ _) | refine rw_nil ?_
  repeat refine cw_seq ?_
  refine cw_false rfl ?_
  repeat refine cw_seq ?_
  refine cw_skip ?_
  try show CW _ _ _ _ _ _
  repeat refine cw_seq ?_
  refine cw_region ?_
  refine rw_v (op_pure rfl) ?_
  refine rw_call rfl (gsize_E p gw gh _ w2_ (hG.top.gr S.out)) ?_
  rintro _ w3_ ⟨rfl, g3_⟩
  have S := S.gr g3_
  iterate 5 refine rw_v (op_pure rfl) ?_
  first | refine rw_end ?_ | (refine rw_nil ?_; show CW _ _ _ _ _ _) | refine rw_nil ?_
  repeat refine cw_seq ?_
  refine cw_region ?_
  iterate 2 refine rw_v (op_pure rfl) ?_
  refine rw_call rfl (gall_E p gw gh hw.2 hh.2 _ w3_ (hG.top.gr S.out)) ?_
  rintro _ w4_ ⟨rfl, g4_⟩
  have S := S.gr g4_
  refine rw_call rfl (hval w4_ S.out) ?_
  rintro _ w5_ ⟨A_vs, c_vs, rfl, hR_vs, hf_vs, g5_⟩
  have S := S.pushRow hR_vs hf_vs g5_
  iterate 5 refine rw_v (op_pure rfl) ?_
  first | refine rw_end ?_ | (refine rw_nil ?_; show CW _ _ _ _ _ _) | refine rw_nil ?_
  repeat refine cw_seq ?_
  refine cw_region ?_
  iterate 3 refine rw_v (op_pure rfl) ?_
  refine rw_v (op_len Try.underlying22 rfl) ?_
  refine rw_makeS1 Try.underlying122 info_t3 rfl rfl rfl (n := gw * gh) (c := gw * gh) (by omega) (by omega) (by omega) (by omega) S ?_
  intro A_to w7_ g7_ S sa_to
  refine rw_v (op_build (pl := [(0, 1), (1, 1), (2, 1)]) Try.underlying136 Try.zeroValue136 (fun w => by kernel_rfl) rfl rfl) ?_
  refine rw_newB (op_alloc Try.zeroValue136 rfl) S ?_
  intro b_l w9_ g9_ S
  refine rw_storeSA (i := 0) S rfl (Try.sizeOf136 _) rfl rfl rfl rfl rfl rfl ?_
  intro w10_ S
  first | refine rw_end ?_ | (refine rw_nil ?_; show CW _ _ _ _ _ _) | refine rw_nil ?_
  repeat refine cw_seq ?_
  refine cw_region ?_
  refine rw_v (op_fieldAddr Try.underlying136 rfl Try.sizeOf122 rfl rfl) ?_
  refine rw_r (op_loadB Try.underlying122 rfl rfl (S.blk (i := 0) rfl) rfl) ?_
  refine rw_v (op_len Try.underlying122 rfl) ?_
  refine rw_v (op_pure rfl) ?_
  first | refine rw_end ?_ | (refine rw_nil ?_; show CW _ _ _ _ _ _) | refine rw_nil ?_
  repeat refine cw_seq ?_
  refine cw_block ?_
  repeat refine cw_seq ?_
  generalize gridL gw gh cc = V at *
  have hz : List.replicate (gw * gh) (Value.int .i64 0) = cellsN (gw * gh) (fun j => if j < 0 then flowN gw V j else 0) := by
    unfold cellsN
    simp only [Nat.not_lt_zero, if_false]
    rw [List.map_const', List.length_range]
    rfl
  rw [hz] at S
  refine cw_loop (fun m e w => ∃ k : Nat, k + m = gw * gh ∧ SL e [(2, .pointer (some ⟨b_res, 0, none⟩)), (8, .pointer (some ⟨b_l, 0, none⟩)), (33, .int .i64 (gw * gh : Nat)), (34, .int .i64 k)] ∧
    St No W w [.blk b_l 136 [.int .i64 gw, .slice A_vs (gw * gh) c_vs, .slice A_to (gw * gh) (gw * gh)], .row 3 1 A_to (gw * gh) (gw * gh) (cellsN (gw * gh) (fun j => if j < k then flowN gw V j else 0)), .row 2 1 A_vs (gw * gh) c_vs (ints V), .blk b_res 136 [.int .i64 0, .slice none 0 0, .slice none 0 0]]) (gw * gh)
    ⟨0, by omega, ⟨rfl, rfl, rfl, rfl, trivial⟩, S⟩ ?_
  clear S hz
  rintro m e w ⟨k, hk, hsl, S⟩
  rw [hsl.fold]
  repeat refine cw_seq ?_
  refine cw_region ?_
  refine rw_v (op_pure rfl) ?_
  first | refine rw_end ?_ | (refine rw_nil ?_; show CW _ _ _ _ _ _) | refine rw_nil ?_
  repeat refine cw_seq ?_
  refine cw_cond rfl (fun hc => ?_) (fun hc => ?_)
  · try simp only [decide_eq_true_eq, decide_eq_false_iff_not, beq_iff_eq, bne_iff_ne, beq_eq_false_iff_ne, bne_eq_false_iff_eq, Bool.not_eq_true', Bool.not_eq_false', ne_eq, Decidable.not_not, Int.natCast_inj, Int.ofNat_lt, Int.ofNat_le, gt_iff_lt, ge_iff_le, Int.not_lt, Int.not_le] at hc
    have hkn : k < gw * gh := by omega
    have hfl := flowN_lt hw.1 hV hkn
    repeat refine cw_seq ?_
    refine cw_skip ?_
    try show CW _ _ _ _ _ _
    repeat refine cw_seq ?_
    refine cw_block ?_
    repeat refine cw_seq ?_
    refine cw_region ?_
    iterate 2 refine rw_v (op_pure rfl) ?_
    first | refine rw_end ?_ | (refine rw_nil ?_; show CW _ _ _ _ _ _) | refine rw_nil ?_
    repeat refine cw_seq ?_
    refine cw_draw (C := fun wq => Gr w wq) [0, 1, 2, 3, 4, 5] [6, 7] (by kernel_rfl) (by kernel_rfl) (Gr.drew _) ?_
    simp only [pickL, List.drop_succ_cons, List.drop_zero]
    refine rq_v (op_fieldAddr Try.underlying136 rfl Try.sizeOf122 rfl rfl) ?_
    refine rq_r (fun wq hq => op_loadB Try.underlying122 rfl rfl ((S.gr hq).blk (i := 0) rfl) rfl) ?_
    refine rq_v (op_pure rfl) ?_
    refine rq_r (fun wq hq => op_loadAB Try.underlying136 rfl (Try.sizeOf136 _) rfl ((S.gr hq).blk (i := 0) rfl) rfl rfl) ?_
    refine rq_v (op_pure rfl) ?_
    refine rq_call rfl (fun wq hq => (sflow_E (W := wq) k ⟨hw.1, by omega⟩ hV (by omega) hkn ((S.gr hq).rd (i := 2) rfl)).mono (fun _ _ ⟨hv, hg⟩ => ⟨hv, hq.trans hg⟩)) ?_
    refine rq_nil ?_
    intro w11_ g11_
    have S := S.gr g11_
    refine rw_v (op_idx Try.underlying122 Try.sizeOf3 rfl rfl sa_to (by omega) (by omega)) ?_
    refine rw_storeR (i := 1) S rfl (Try.sizeOf3 _) rfl rfl rfl rfl (by rw [cellsN_len]; omega) rfl ?_
    intro w12_ S
    first | refine rw_end ?_ | (refine rw_nil ?_; show CW _ _ _ _ _ _) | refine rw_nil ?_
    repeat refine cw_seq ?_
    refine cw_region ?_
    refine rw_v (op_rng rfl (by omega)) ?_
    refine rw_v (op_pure rfl) ?_
    first | refine rw_end ?_ | (refine rw_nil ?_; show CW _ _ _ _ _ _) | refine rw_nil ?_
    rw [Nat.mul_one, Int.toNat_natCast, cellsN_set, cellsN_congr (f' := fun j => if j < k + 1 then flowN gw V j else 0) (fun j hj => by
      unfold updF
      (try dsimp only)
      by_cases e1 : j = k
      · rw [if_pos e1, if_pos (by omega), e1]
      · by_cases e2 : j < k
        · rw [if_neg e1, if_pos e2, if_pos (by omega)]
        · rw [if_neg e1, if_neg e2, if_neg (by omega)])] at S
    exact ⟨m - 1, by omega, k + 1, by omega, ⟨rfl, rfl, rfl, ie (by omega), trivial⟩, S⟩
  · try simp only [decide_eq_true_eq, decide_eq_false_iff_not, beq_iff_eq, bne_iff_ne, beq_eq_false_iff_ne, bne_eq_false_iff_eq, Bool.not_eq_true', Bool.not_eq_false', ne_eq, Decidable.not_not, Int.natCast_inj, Int.ofNat_lt, Int.ofNat_le, gt_iff_lt, ge_iff_le, Int.not_lt, Int.not_le] at hc
    obtain rfl : k = gw * gh := by omega
    rw [cellsN_congr (f' := flowN gw V) (fun j hj => by (try dsimp only); rw [if_pos hj])] at S
    repeat refine cw_seq ?_
    refine cw_exit ?_
    repeat first | refine exit_then ?_ | refine exit_inb ?_
    show CW _ _ _ _ _ _
    repeat refine cw_seq ?_
    refine cw_region ?_
    refine rw_r (op_loadAB Try.underlying136 rfl (Try.sizeOf136 _) rfl (S.blk (i := 0) rfl) rfl rfl) ?_
    refine rw_storeSA (i := 3) S rfl (Try.sizeOf136 _) rfl rfl rfl rfl rfl rfl ?_
    intro w13_ S
    refine rw_v (op_pure rfl) ?_
    first | refine rw_end ?_ | (refine rw_nil ?_; show CW _ _ _ _ _ _) | refine rw_nil ?_
    repeat refine cw_seq ?_
    refine cw_ret ?_
    repeat first | refine ret_then ?_ | refine ret_inb ?_
    exact resAT Try.underlying136 rfl (Try.sizeOf136 _) rfl (S.blk (i := 3) rfl) rfl rfl rfl ⟨_, _, _, _, rfl, S.row (i := 2) rfl, SepL.fresh S (i := 2) rfl, S.row (i := 1) rfl, SepL.fresh S (i := 1) rfl, fun g hg h2 => S.sep.2.2.2.1 g h2 _ List.mem_cons_self hg, S.out⟩
end
end Go.Proofs.Ytbcgbcipigcbhaa
/- sink.begin, Next, Way and the document's: contracts. -/
namespace Go.Proofs.Ytbcgbcipigcbhaa
open Go.RowKit
set_option linter.unusedVariables false
set_option linter.unusedSimpArgs false
set_option maxRecDepth 100000

/-- one store that may come up at any time beside loads that do not mind -/
def CSt (F : Nat → Prop) (W : World) (L L1 : List HA) (σ : List Value) (w : World) : Prop := match σ with
  | [] => St F W w L
  | _ :: _ => St F W w L1
section
variable {F : Nat → Prop} {W w w' : World} {L L1 : List HA} {σ : List Value}
theorem CSt.start (S : St F W w L) : CSt F W L L1 [] w := S
theorem CSt.ok (h : CSt F W L L1 σ w) {i : Nat} {x : HA} (hi : getO L i = some x) (hi1 : getO L1 i = some x) : x.ok w := by
  cases σ with
  | nil => exact St.ok h hi
  | cons v σ => exact St.ok h hi1
theorem CSt.blk (h : CSt F W L L1 σ w) {i b t : Nat} {l : List Value} (hi : getO L i = some (.blk b t l)) (hi1 : getO L1 i = some (.blk b t l)) : Blk w b t l := h.ok hi hi1
end
section
variable {P : Program} {e : Nat → Value} {d : Option Tmp} {ty : TypeId} {ps : String} {af : Array Edge} {F : Nat → Prop} {W w : World} {L L' : List HA} {R : Value → World → Prop}
theorem to_storeSA {i : Nat} {t tb : TypeId} {x y : Operand} {b o n : Nat} {l cs l' : List Value} (S : St F W w L) (hi : getO L i = some (.blk b t l)) (hz : (sizeOf tb).run P w = .ok n w) (hx : ev e x = .pointer (some ⟨b, o, none⟩)) (hy : ev e y = .agg cs.toArray) (hn : cs.length = n)
    (hl' : fzl (l.take o ++ cs ++ l.drop (o + n)) = some l') (ho : ((cs.all fun v => v.oneCell') && Nat.ble (o + n) l.length) = true) (hs : setO L i (.blk b t l') = some L') (hr : ∀ w', St F W w' L' → R undef w') : opTo P e ⟨d, .store tb x y, ty, ps, af, none⟩ w R :=
  opTo_of_rw rfl (rw_storeSA S hi hz hx hy hn hl' ho hs (fun w' S' => hr w' S'))
end
section
variable {W : World} {A : Option Addr} {p gw gh cap c : Nat} {cc : Nat → Int} {bs : Nat → Nat} {Rs : Nat → Option Nat} {V : List Int}
theorem sbeginNil_E (x y : Int) : Fn Try.prog 83 [.pointer none, .agg #[.int .i64 x, .int .i64 y]] W (RetG (.tuple #[.agg #[.int .i64 0, .slice none 0 0, .slice none 0 0], .int .i64 0, .int .i64 1]) W) := by
  have S := St.start W
  refine Fn_enter Try.func83 rfl Try.results83 Try.ntmps83 (by kernel_rfl) (by kernel_rfl) ?_
  repeat refine cw_seq ?_
  refine cw_region ?_
  refine rw_newB (op_box rfl) S ?_
  intro b_c w2_ g2_ S
  refine rw_newB (op_alloc Try.zeroValue136 rfl) S ?_
  intro b_res w4_ g4_ S
  iterate 2 refine rw_v (op_pure rfl) ?_
  first | refine rw_end ?_ | (refine rw_nil ?_; show CW _ _ _ _ _ _) | refine rw_nil ?_
  repeat refine cw_seq ?_
  refine cw_region ?_
  refine rw_v (op_pure rfl) ?_
  refine rw_call rfl (sofNil_E) ?_
  rintro _ w5_ ⟨rfl, g5_⟩
  have S := S.gr g5_
  iterate 3 refine rw_v (op_pure rfl) ?_
  refine rw_newB (op_alloc Try.zeroValue136 rfl) S ?_
  intro b_l w7_ g7_ S
  refine rw_storeSA (i := 0) S rfl (Try.sizeOf136 _) rfl rfl rfl rfl rfl rfl ?_
  intro w8_ S
  refine rw_v (op_pure rfl) ?_
  first | refine rw_end ?_ | (refine rw_nil ?_; show CW _ _ _ _ _ _) | refine rw_nil ?_
  repeat refine cw_seq ?_
  refine cw_region ?_
  refine rw_v (op_pure rfl) ?_
  refine rw_v (op_b (b := false) rfl (beq_eq_false_iff_ne.2 (by omega))) ?_
  first | refine rw_end ?_ | (refine rw_nil ?_; show CW _ _ _ _ _ _) | refine rw_nil ?_
  repeat refine cw_seq ?_
  refine cw_false rfl ?_
  repeat refine cw_seq ?_
  refine cw_skip ?_
  try show CW _ _ _ _ _ _
  repeat refine cw_seq ?_
  refine cw_region ?_
  refine rw_v (op_pure rfl) ?_
  refine rw_v (op_b (b := true) rfl (bne_iff_ne.2 (by omega))) ?_
  first | refine rw_end ?_ | (refine rw_nil ?_; show CW _ _ _ _ _ _) | refine rw_nil ?_
  repeat refine cw_seq ?_
  refine cw_true rfl ?_
  repeat refine cw_seq ?_
  refine cw_region ?_
  refine rw_v (op_build (pl := [(0, 1), (1, 1), (2, 1)]) Try.underlying136 Try.zeroValue136 (fun w => by kernel_rfl) rfl rfl) ?_
  refine rw_v (op_pure rfl) ?_
  refine rw_storeSA (i := 1) S rfl (Try.sizeOf136 _) rfl rfl rfl rfl rfl rfl ?_
  intro w9_ S
  iterate 2 refine rw_v (op_pure rfl) ?_
  first | refine rw_end ?_ | (refine rw_nil ?_; show CW _ _ _ _ _ _) | refine rw_nil ?_
  repeat refine cw_seq ?_
  refine cw_ret ?_
  repeat first | refine ret_then ?_ | refine ret_inb ?_
  exact resATT Try.underlying136 rfl (Try.sizeOf136 _) rfl (S.blk (i := 1) rfl) rfl rfl rfl rfl ⟨rfl, S.out⟩
theorem sbeginNo_E (x y : Int) (hno : inG gw gh (x, y) = false) (hG : GridAt W p gw gh cc A cap bs Rs) : Fn Try.prog 83 [.pointer (some ⟨p, 0, none⟩), .agg #[.int .i64 x, .int .i64 y]] W (RetG (.tuple #[.agg #[.int .i64 0, .slice none 0 0, .slice none 0 0], .int .i64 0, .int .i64 4]) W) := by
  have hno' : ¬ (0 ≤ x ∧ x < gw ∧ 0 ≤ y ∧ y < gh) := fun h => by rw [inG_iff.2 h] at hno; cases hno
  have S := St.start W
  refine Fn_enter Try.func83 rfl Try.results83 Try.ntmps83 (by kernel_rfl) (by kernel_rfl) ?_
  repeat refine cw_seq ?_
  refine cw_region ?_
  refine rw_newB (op_box rfl) S ?_
  intro b_c w2_ g2_ S
  refine rw_newB (op_alloc Try.zeroValue136 rfl) S ?_
  intro b_res w4_ g4_ S
  iterate 2 refine rw_v (op_pure rfl) ?_
  first | refine rw_end ?_ | (refine rw_nil ?_; show CW _ _ _ _ _ _) | refine rw_nil ?_
  repeat refine cw_seq ?_
  refine cw_region ?_
  refine rw_v (op_pure rfl) ?_
  refine rw_call rfl (sof_E (W := w4_) (hG.gr S.out)) ?_
  rintro _ w5_ ⟨A_v, c_v, A_to, c_to, rfl, hv, hFv, hto, hFt, hd, g5_⟩
  have S := S.push2 g5_ (h1 := .row 2 1 A_v _ c_v _) (h2 := .row 3 1 A_to _ c_to _) hv hto hFv hFt hd
  iterate 3 refine rw_v (op_pure rfl) ?_
  refine rw_newB (op_alloc Try.zeroValue136 rfl) S ?_
  intro b_l w7_ g7_ S
  refine rw_storeSA (i := 0) S rfl (Try.sizeOf136 _) rfl rfl rfl rfl rfl rfl ?_
  intro w8_ S
  refine rw_v (op_pure rfl) ?_
  first | refine rw_end ?_ | (refine rw_nil ?_; show CW _ _ _ _ _ _) | refine rw_nil ?_
  repeat refine cw_seq ?_
  refine cw_region ?_
  refine rw_v (op_pure rfl) ?_
  refine rw_v (op_b (b := true) rfl (beq_iff_eq.2 (by omega))) ?_
  first | refine rw_end ?_ | (refine rw_nil ?_; show CW _ _ _ _ _ _) | refine rw_nil ?_
  repeat refine cw_seq ?_
  refine cw_true rfl ?_
  repeat refine cw_seq ?_
  refine cw_region ?_
  refine rw_v (op_pure rfl) ?_
  refine rw_r (op_loadAB Try.underlying44 rfl (Try.sizeOf44 _) rfl (S.blk (i := 4) rfl) rfl rfl) ?_
  refine rw_call rfl (gatNo_E (W := w8_) x y hno' (hG.gr S.out)) ?_
  rintro _ w9_ ⟨rfl, g9_⟩
  have S := S.gr g9_
  iterate 4 refine rw_v (op_pure rfl) ?_
  first | refine rw_end ?_ | (refine rw_nil ?_; show CW _ _ _ _ _ _) | refine rw_nil ?_
  repeat refine cw_seq ?_
  refine cw_region ?_
  refine rw_v (op_pure rfl) ?_
  refine rw_v (op_b (b := true) rfl (bne_iff_ne.2 (by omega))) ?_
  first | refine rw_end ?_ | (refine rw_nil ?_; show CW _ _ _ _ _ _) | refine rw_nil ?_
  repeat refine cw_seq ?_
  refine cw_true rfl ?_
  repeat refine cw_seq ?_
  refine cw_region ?_
  refine rw_v (op_build (pl := [(0, 1), (1, 1), (2, 1)]) Try.underlying136 Try.zeroValue136 (fun w => by kernel_rfl) rfl rfl) ?_
  refine rw_v (op_pure rfl) ?_
  refine rw_storeSA (i := 3) S rfl (Try.sizeOf136 _) rfl rfl rfl rfl rfl rfl ?_
  intro w10_ S
  iterate 2 refine rw_v (op_pure rfl) ?_
  first | refine rw_end ?_ | (refine rw_nil ?_; show CW _ _ _ _ _ _) | refine rw_nil ?_
  repeat refine cw_seq ?_
  refine cw_ret ?_
  repeat first | refine ret_then ?_ | refine ret_inb ?_
  exact resATT Try.underlying136 rfl (Try.sizeOf136 _) rfl (S.blk (i := 3) rfl) rfl rfl rfl rfl ⟨rfl, S.out⟩
set_option maxHeartbeats 2000000 in
theorem sbegin_E (x y : Nat) (hx : x < gw) (hy : y < gh) (hG : GridAt W p gw gh cc A cap bs Rs) : Fn Try.prog 83 [.pointer (some ⟨p, 0, none⟩), .agg #[.int .i64 x, .int .i64 y]] W
    (RetSL gw gh (gridL gw gh cc) (fun l => .tuple #[l, .int .i64 (y * gw + x : Nat), .int .i64 0]) W) := by
  have hw := hG.sw
  have hh := hG.sh
  have em : (y : Int) * gw = ((y * gw : Nat) : Int) := by push_cast; rfl
  have ea : ((y * gw : Nat) : Int) + x = ((y * gw + x : Nat) : Int) := by push_cast; rfl
  have hyg : (y + 1) * gw ≤ gh * gw := Nat.mul_le_mul_right _ (by omega)
  have hgm : gh * gw ≤ 1024 * 1024 := Nat.mul_le_mul hh.2 hw.2
  rw [Nat.succ_mul] at hyg
  have S := St.start W
  refine Fn_enter Try.func83 rfl Try.results83 Try.ntmps83 (by kernel_rfl) (by kernel_rfl) ?_
  repeat refine cw_seq ?_
  refine cw_region ?_
  refine rw_newB (op_box rfl) S ?_
  intro b_c w2_ g2_ S
  refine rw_newB (op_alloc Try.zeroValue136 rfl) S ?_
  intro b_res w4_ g4_ S
  iterate 2 refine rw_v (op_pure rfl) ?_
  first | refine rw_end ?_ | (refine rw_nil ?_; show CW _ _ _ _ _ _) | refine rw_nil ?_
  repeat refine cw_seq ?_
  refine cw_region ?_
  refine rw_v (op_pure rfl) ?_
  refine rw_call rfl (sof_E (W := w4_) (hG.gr S.out)) ?_
  rintro _ w5_ ⟨A_v, c_v, A_to, c_to, rfl, hv, hFv, hto, hFt, hd, g5_⟩
  have S := S.push2 g5_ (h1 := .row 2 1 A_v _ c_v _) (h2 := .row 3 1 A_to _ c_to _) hv hto hFv hFt hd
  iterate 3 refine rw_v (op_pure rfl) ?_
  refine rw_newB (op_alloc Try.zeroValue136 rfl) S ?_
  intro b_l w7_ g7_ S
  refine rw_storeSA (i := 0) S rfl (Try.sizeOf136 _) rfl rfl rfl rfl rfl rfl ?_
  intro w8_ S
  refine rw_v (op_pure rfl) ?_
  first | refine rw_end ?_ | (refine rw_nil ?_; show CW _ _ _ _ _ _) | refine rw_nil ?_
  repeat refine cw_seq ?_
  refine cw_region ?_
  refine rw_v (op_pure rfl) ?_
  refine rw_v (op_b (b := true) rfl (beq_iff_eq.2 (by omega))) ?_
  first | refine rw_end ?_ | (refine rw_nil ?_; show CW _ _ _ _ _ _) | refine rw_nil ?_
  repeat refine cw_seq ?_
  refine cw_true rfl ?_
  repeat refine cw_seq ?_
  refine cw_region ?_
  refine rw_v (op_pure rfl) ?_
  refine rw_r (op_loadAB Try.underlying44 rfl (Try.sizeOf44 _) rfl (S.blk (i := 4) rfl) rfl rfl) ?_
  refine rw_call rfl (gat_E (W := w8_) x y hx hy (hG.gr S.out)) ?_
  rintro _ w9_ ⟨rfl, g9_⟩
  have S := S.gr g9_
  iterate 4 refine rw_v (op_pure rfl) ?_
  first | refine rw_end ?_ | (refine rw_nil ?_; show CW _ _ _ _ _ _) | refine rw_nil ?_
  repeat refine cw_seq ?_
  refine cw_region ?_
  refine rw_v (op_pure rfl) ?_
  refine rw_v (op_b (b := false) rfl (bne_eq_false_iff_eq.2 (by omega))) ?_
  first | refine rw_end ?_ | (refine rw_nil ?_; show CW _ _ _ _ _ _) | refine rw_nil ?_
  repeat refine cw_seq ?_
  refine cw_false rfl ?_
  repeat refine cw_seq ?_
  refine cw_skip ?_
  try show CW _ _ _ _ _ _
  repeat refine cw_seq ?_
  refine cw_cutT (M := fun e w => SL e [(4, .pointer (some ⟨b_res, 0, none⟩)), (5, .int .i64 (y * gw + x : Nat)), (6, .int .i64 0)] ∧ St No W w [.blk b_l 136 [.int .i64 gw, .slice A_v (gw * gh) c_v, .slice A_to (gw * gh) c_to], .row 2 1 A_v (gw * gh) c_v (ints (gridL gw gh cc)), .row 3 1 A_to (gw * gh) c_to (cellsN (gw * gh) (flowN gw (gridL gw gh cc))), .blk b_res 136 [.int .i64 gw, .slice A_v (gw * gh) c_v, .slice A_to (gw * gh) c_to], .blk b_c 44 [.int .i64 x, .int .i64 y]]) ?_ ?_
  · skip
    repeat refine cw_seq ?_
    refine cw_tri (C := (CSt No W [.blk b_l 136 [.int .i64 gw, .slice A_v (gw * gh) c_v, .slice A_to (gw * gh) c_to], .row 2 1 A_v (gw * gh) c_v (ints (gridL gw gh cc)), .row 3 1 A_to (gw * gh) c_to (cellsN (gw * gh) (flowN gw (gridL gw gh cc))), .blk b_res 136 [.int .i64 0, .slice none 0 0, .slice none 0 0], .blk b_c 44 [.int .i64 x, .int .i64 y]] [.blk b_l 136 [.int .i64 gw, .slice A_v (gw * gh) c_v, .slice A_to (gw * gh) c_to], .row 2 1 A_v (gw * gh) c_v (ints (gridL gw gh cc)), .row 3 1 A_to (gw * gh) c_to (cellsN (gw * gh) (flowN gw (gridL gw gh cc))), .blk b_res 136 [.int .i64 gw, .slice A_v (gw * gh) c_v, .slice A_to (gw * gh) c_to], .blk b_c 44 [.int .i64 x, .int .i64 y]])) [9] [0, 1, 2, 3, 4, 5, 6, 7, 8, 9] [10, 11] (by kernel_rfl) (by kernel_rfl) (CSt.start (S.gr (Gr.drew _))) ?_
    simp only [pickI, pickL, List.drop_succ_cons, List.drop_zero]
    refine rs_r rfl (fun τ wq hq => op_loadAB Try.underlying136 rfl (Try.sizeOf136 _) rfl (hq.blk (i := 0) rfl rfl) rfl rfl) ?_
    refine rs_v rfl (op_fieldAddr Try.underlying44 rfl Try.sizeOf2 rfl rfl) ?_
    refine rs_r rfl (fun τ wq hq => op_loadB Try.underlying2 rfl rfl (hq.blk (i := 4) rfl rfl) rfl) ?_
    refine rs_v rfl (op_fieldAddr Try.underlying136 rfl Try.sizeOf3 rfl rfl) ?_
    refine rs_r rfl (fun τ wq hq => op_loadB Try.underlying3 rfl rfl (hq.blk (i := 0) rfl rfl) rfl) ?_
    refine rs_v rfl (op_rng rfl (by omega)) ?_
    rw [em]
    refine rs_v rfl (op_fieldAddr Try.underlying44 rfl Try.sizeOf2 rfl rfl) ?_
    refine rs_r rfl (fun τ wq hq => op_loadB Try.underlying2 rfl rfl (hq.blk (i := 4) rfl rfl) rfl) ?_
    refine rs_v rfl (op_rng rfl (by omega)) ?_
    rw [ea]
    refine rs_special rfl rfl (fun wq hq => to_storeSA (i := 3) hq rfl (Try.sizeOf136 _) rfl rfl rfl rfl rfl rfl (fun w' S' => S')) ?_
    rintro v13 w13 _
    refine rs_nil ?_
    rintro wz hz
    have S : St No W wz _ := hz
    iterate 2 refine rw_v (op_pure rfl) ?_
    first | refine rw_end ?_ | (refine rw_nil ?_; show CW _ _ _ _ _ _) | refine rw_nil ?_
    exact ⟨⟨rfl, rfl, rfl, trivial⟩, S⟩
  · clear S
    rintro e w ⟨hsl, S⟩
    rw [hsl.fold]
    repeat refine cw_seq ?_
    refine cw_ret ?_
    repeat first | refine ret_then ?_ | refine ret_inb ?_
    exact resATT Try.underlying136 rfl (Try.sizeOf136 _) rfl (S.blk (i := 3) rfl) rfl rfl rfl rfl ⟨_, _, _, _, rfl, S.row (i := 1) rfl, SepL.fresh S (i := 1) rfl, S.row (i := 2) rfl, SepL.fresh S (i := 2) rfl, fun g hg => S.sep.2.2.2.1 g hg _ List.mem_cons_self, S.out⟩
end
end Go.Proofs.Ytbcgbcipigcbhaa
