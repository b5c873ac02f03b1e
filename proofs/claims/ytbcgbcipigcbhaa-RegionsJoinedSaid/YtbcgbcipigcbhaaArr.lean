/- Arrays as values; cmp.Compare of whole numbers; a cell's neighbours as a list of four. -/
import Derived.Test.YtbcgbcipigcbhaaDist
import Derived.Test.YtbcgbcipigcbhaaSep
namespace Go.Proofs.Ytbcgbcipigcbhaa
open Go.RowKit
set_option linter.unusedVariables false
set_option linter.unusedSimpArgs false
set_option maxRecDepth 100000

section
variable {P : Program} {e : Nat → Value} {d : Option Tmp} {ty : TypeId} {ps : String} {af : Array Edge}
/-- an array's literal -/
theorem op_buildArr {t el : TypeId} {len k : Nat} {parts : List (Nat × Operand)} {z : Value} {l0 l : List Value} (hu : P.underlying t = some (.array len el)) (hs : ∀ w, (sizeOf el).run P w = .ok k w) (hz : ∀ w, (zeroValue t).run P w = .ok z w)
    (h1 : lay (fun i => some (i * k, k)) z.cells.toList (evp e parts) = some l0) (h2 : fzl l0 = some l) : OpV P e ⟨d, .build t parts.toArray, ty, ps, af, none⟩ (.agg l.toArray) := by
  intro w
  have h0 := fzl_eq h2
  subst h0
  have h3 := fill_of_lay h1
  have h4 : (z.cells.toList).toArray = z.cells := by simp
  rw [h4] at h3
  have h5 : (parts.map fun p => (p.1, ev e p.2)) = evp e parts := evp_eq e parts
  simp [OpR, execOp, Instr.build, hz, run_underlying hu, hs, h5, h3]
/-- an element, that is a struct, of an array's value -/
theorem op_indexVA {t el : TypeId} {x i : Operand} {len k : Nat} {kd : IntKind} {n : Int} {cs l : List Value} {dd : TypeDesc} (hu : P.underlying t = some (.array len el)) (hd : P.underlying el = some dd) (hz : ∀ w, (sizeOf el).run P w = .ok k w) (ha : aggD dd = true) (hx : ev e x = .agg cs.toArray) (hi : ev e i = .int kd n) (h0 : 0 ≤ n) (h1 : n < len)
    (hv : (cs.drop (n.toNat * k)).take k = l) : OpV P e ⟨d, .index t x i, ty, ps, af, none⟩ (.agg l.toArray) := by
  intro w
  simp [OpR, execOp, hx, hi, Instr.index, asIntOf, run_underlying hu, hz, h0, h1, part, run_isAgg_E hd, ha]
  exact hv
end
def cmpI (a b : Int) : Int := if a < b then -1 else if b < a then 1 else 0
theorem cmpI_lt {a b : Int} : cmpI a b < 0 ↔ a < b := by unfold cmpI; split <;> (try split) <;> omega
section
variable {W : World}
theorem isNaN_E (a : Int) : Fn Try.prog 129 [.int .i64 a] W (RetG (.bool false) W) := by
  have S := St.start W
  refine Fn_enter Try.func129 rfl Try.results129 Try.ntmps129 (by kernel_rfl) (by kernel_rfl) ?_
  repeat refine cw_seq ?_
  refine cw_region ?_
  refine rw_v (op_pure rfl) ?_
  first | refine rw_end ?_ | (refine rw_nil ?_; show CW _ _ _ _ _ _) | refine rw_nil ?_
  repeat refine cw_seq ?_
  refine cw_region ?_
  iterate 2 refine rw_v (op_pure rfl) ?_
  first | refine rw_v (op_b (b := true) rfl (bne_iff_ne.2 (by omega))) ?_ | refine rw_v (op_b (b := false) rfl (bne_eq_false_iff_eq.2 (by omega))) ?_ | refine rw_v (op_pure rfl) ?_
  refine rw_v (op_pure rfl) ?_
  first | refine rw_end ?_ | (refine rw_nil ?_; show CW _ _ _ _ _ _) | refine rw_nil ?_
  repeat refine cw_seq ?_
  refine cw_ret ?_
  repeat first | refine ret_then ?_ | refine ret_inb ?_
  exact res1 rfl ⟨be (by simp), S.out⟩
theorem compare_E (a b : Int) : Fn Try.prog 71 [.int .i64 a, .int .i64 b] W (RetG (.int .i64 (cmpI a b)) W) := by
  by_cases h1 : a < b
  · skip
    have S := St.start W
    refine Fn_enter Try.func71 rfl Try.results71 Try.ntmps71 (by kernel_rfl) (by kernel_rfl) ?_
    repeat refine cw_seq ?_
    refine cw_region ?_
    refine rw_v (op_pure rfl) ?_
    first | refine rw_end ?_ | (refine rw_nil ?_; show CW _ _ _ _ _ _) | refine rw_nil ?_
    repeat refine cw_seq ?_
    refine cw_region ?_
    refine rw_v (op_pure rfl) ?_
    refine rw_call rfl (isNaN_E a) ?_
    rintro _ w1_ ⟨rfl, g1_⟩
    have S := S.gr g1_
    refine rw_v (op_pure rfl) ?_
    first | refine rw_end ?_ | (refine rw_nil ?_; show CW _ _ _ _ _ _) | refine rw_nil ?_
    repeat refine cw_seq ?_
    refine cw_region ?_
    refine rw_v (op_pure rfl) ?_
    refine rw_call rfl (isNaN_E b) ?_
    rintro _ w2_ ⟨rfl, g2_⟩
    have S := S.gr g2_
    refine rw_v (op_pure rfl) ?_
    first | refine rw_end ?_ | (refine rw_nil ?_; show CW _ _ _ _ _ _) | refine rw_nil ?_
    repeat refine cw_seq ?_
    refine cw_region ?_
    refine rw_v (op_pure rfl) ?_
    first | refine rw_end ?_ | (refine rw_nil ?_; show CW _ _ _ _ _ _) | refine rw_nil ?_
    repeat refine cw_seq ?_
    refine cw_false rfl ?_
    repeat refine cw_seq ?_
    refine cw_skip ?_
    try show CW _ _ _ _ _ _
    repeat refine cw_seq ?_
    refine cw_region ?_
    refine rw_v (op_pure rfl) ?_
    first | refine rw_end ?_ | (refine rw_nil ?_; show CW _ _ _ _ _ _) | refine rw_nil ?_
    repeat refine cw_seq ?_
    refine cw_false rfl ?_
    repeat refine cw_seq ?_
    refine cw_skip ?_
    try show CW _ _ _ _ _ _
    repeat refine cw_seq ?_
    refine cw_region ?_
    iterate 2 refine rw_v (op_pure rfl) ?_
    refine rw_v (op_b (b := true) rfl (decide_eq_true (by omega))) ?_
    first | refine rw_end ?_ | (refine rw_nil ?_; show CW _ _ _ _ _ _) | refine rw_nil ?_
    repeat refine cw_seq ?_
    refine cw_true rfl ?_
    repeat refine cw_seq ?_
    refine cw_region ?_
    refine rw_v (op_pure rfl) ?_
    first | refine rw_end ?_ | (refine rw_nil ?_; show CW _ _ _ _ _ _) | refine rw_nil ?_
    repeat refine cw_seq ?_
    refine cw_ret ?_
    repeat first | refine ret_then ?_ | refine ret_inb ?_
    exact res1 rfl ⟨ie (by unfold cmpI; rw [if_pos h1]), S.out⟩
  · by_cases h2 : b < a
    · skip
      have S := St.start W
      refine Fn_enter Try.func71 rfl Try.results71 Try.ntmps71 (by kernel_rfl) (by kernel_rfl) ?_
      repeat refine cw_seq ?_
      refine cw_region ?_
      refine rw_v (op_pure rfl) ?_
      first | refine rw_end ?_ | (refine rw_nil ?_; show CW _ _ _ _ _ _) | refine rw_nil ?_
      repeat refine cw_seq ?_
      refine cw_region ?_
      refine rw_v (op_pure rfl) ?_
      refine rw_call rfl (isNaN_E a) ?_
      rintro _ w1_ ⟨rfl, g1_⟩
      have S := S.gr g1_
      refine rw_v (op_pure rfl) ?_
      first | refine rw_end ?_ | (refine rw_nil ?_; show CW _ _ _ _ _ _) | refine rw_nil ?_
      repeat refine cw_seq ?_
      refine cw_region ?_
      refine rw_v (op_pure rfl) ?_
      refine rw_call rfl (isNaN_E b) ?_
      rintro _ w2_ ⟨rfl, g2_⟩
      have S := S.gr g2_
      refine rw_v (op_pure rfl) ?_
      first | refine rw_end ?_ | (refine rw_nil ?_; show CW _ _ _ _ _ _) | refine rw_nil ?_
      repeat refine cw_seq ?_
      refine cw_region ?_
      refine rw_v (op_pure rfl) ?_
      first | refine rw_end ?_ | (refine rw_nil ?_; show CW _ _ _ _ _ _) | refine rw_nil ?_
      repeat refine cw_seq ?_
      refine cw_false rfl ?_
      repeat refine cw_seq ?_
      refine cw_skip ?_
      try show CW _ _ _ _ _ _
      repeat refine cw_seq ?_
      refine cw_region ?_
      refine rw_v (op_pure rfl) ?_
      first | refine rw_end ?_ | (refine rw_nil ?_; show CW _ _ _ _ _ _) | refine rw_nil ?_
      repeat refine cw_seq ?_
      refine cw_false rfl ?_
      repeat refine cw_seq ?_
      refine cw_skip ?_
      try show CW _ _ _ _ _ _
      repeat refine cw_seq ?_
      refine cw_region ?_
      iterate 2 refine rw_v (op_pure rfl) ?_
      refine rw_v (op_b (b := false) rfl (decide_eq_false (by omega))) ?_
      first | refine rw_end ?_ | (refine rw_nil ?_; show CW _ _ _ _ _ _) | refine rw_nil ?_
      repeat refine cw_seq ?_
      refine cw_false rfl ?_
      repeat refine cw_seq ?_
      refine cw_skip ?_
      try show CW _ _ _ _ _ _
      repeat refine cw_seq ?_
      refine cw_region ?_
      iterate 2 refine rw_v (op_pure rfl) ?_
      refine rw_v (op_b (b := true) rfl (decide_eq_true (by omega))) ?_
      first | refine rw_end ?_ | (refine rw_nil ?_; show CW _ _ _ _ _ _) | refine rw_nil ?_
      repeat refine cw_seq ?_
      refine cw_true rfl ?_
      repeat refine cw_seq ?_
      refine cw_region ?_
      refine rw_v (op_pure rfl) ?_
      first | refine rw_end ?_ | (refine rw_nil ?_; show CW _ _ _ _ _ _) | refine rw_nil ?_
      repeat refine cw_seq ?_
      refine cw_ret ?_
      repeat first | refine ret_then ?_ | refine ret_inb ?_
      exact res1 rfl ⟨ie (by unfold cmpI; rw [if_neg h1, if_pos h2]), S.out⟩
    · skip
      have S := St.start W
      refine Fn_enter Try.func71 rfl Try.results71 Try.ntmps71 (by kernel_rfl) (by kernel_rfl) ?_
      repeat refine cw_seq ?_
      refine cw_region ?_
      refine rw_v (op_pure rfl) ?_
      first | refine rw_end ?_ | (refine rw_nil ?_; show CW _ _ _ _ _ _) | refine rw_nil ?_
      repeat refine cw_seq ?_
      refine cw_region ?_
      refine rw_v (op_pure rfl) ?_
      refine rw_call rfl (isNaN_E a) ?_
      rintro _ w1_ ⟨rfl, g1_⟩
      have S := S.gr g1_
      refine rw_v (op_pure rfl) ?_
      first | refine rw_end ?_ | (refine rw_nil ?_; show CW _ _ _ _ _ _) | refine rw_nil ?_
      repeat refine cw_seq ?_
      refine cw_region ?_
      refine rw_v (op_pure rfl) ?_
      refine rw_call rfl (isNaN_E b) ?_
      rintro _ w2_ ⟨rfl, g2_⟩
      have S := S.gr g2_
      refine rw_v (op_pure rfl) ?_
      first | refine rw_end ?_ | (refine rw_nil ?_; show CW _ _ _ _ _ _) | refine rw_nil ?_
      repeat refine cw_seq ?_
      refine cw_region ?_
      refine rw_v (op_pure rfl) ?_
      first | refine rw_end ?_ | (refine rw_nil ?_; show CW _ _ _ _ _ _) | refine rw_nil ?_
      repeat refine cw_seq ?_
      refine cw_false rfl ?_
      repeat refine cw_seq ?_
      refine cw_skip ?_
      try show CW _ _ _ _ _ _
      repeat refine cw_seq ?_
      refine cw_region ?_
      refine rw_v (op_pure rfl) ?_
      first | refine rw_end ?_ | (refine rw_nil ?_; show CW _ _ _ _ _ _) | refine rw_nil ?_
      repeat refine cw_seq ?_
      refine cw_false rfl ?_
      repeat refine cw_seq ?_
      refine cw_skip ?_
      try show CW _ _ _ _ _ _
      repeat refine cw_seq ?_
      refine cw_region ?_
      iterate 2 refine rw_v (op_pure rfl) ?_
      refine rw_v (op_b (b := false) rfl (decide_eq_false (by omega))) ?_
      first | refine rw_end ?_ | (refine rw_nil ?_; show CW _ _ _ _ _ _) | refine rw_nil ?_
      repeat refine cw_seq ?_
      refine cw_false rfl ?_
      repeat refine cw_seq ?_
      refine cw_skip ?_
      try show CW _ _ _ _ _ _
      repeat refine cw_seq ?_
      refine cw_region ?_
      iterate 2 refine rw_v (op_pure rfl) ?_
      refine rw_v (op_b (b := false) rfl (decide_eq_false (by omega))) ?_
      first | refine rw_end ?_ | (refine rw_nil ?_; show CW _ _ _ _ _ _) | refine rw_nil ?_
      repeat refine cw_seq ?_
      refine cw_false rfl ?_
      repeat refine cw_seq ?_
      refine cw_skip ?_
      try show CW _ _ _ _ _ _
      repeat refine cw_seq ?_
      refine cw_region ?_
      refine rw_v (op_pure rfl) ?_
      first | refine rw_end ?_ | (refine rw_nil ?_; show CW _ _ _ _ _ _) | refine rw_nil ?_
      repeat refine cw_seq ?_
      refine cw_ret ?_
      repeat first | refine ret_then ?_ | refine ret_inb ?_
      exact res1 rfl ⟨ie (by unfold cmpI; rw [if_neg h1, if_neg h2]), S.out⟩
end
/-! ### the neighbours as four that are there or not -/
def thN (gw n i : Nat) : Nat → Bool
  | 0 => decide (gw ≤ i)
  | 1 => decide (0 < i % gw)
  | 2 => decide (i % gw + 1 < gw)
  | _ => decide (i + gw < n)
def atZ (gw i : Nat) : Nat → Int
  | 0 => (i : Int) - gw
  | 1 => (i : Int) - 1
  | 2 => (i : Int) + 1
  | _ => (i : Int) + gw
def segN (gw n i : Nat) : Nat → List Nat
  | 0 => if gw ≤ i then [i - gw] else []
  | 1 => if 0 < i % gw then [i - 1] else []
  | 2 => if i % gw + 1 < gw then [i + 1] else []
  | _ => if i + gw < n then [i + gw] else []
def preN (gw n i : Nat) : Nat → List Nat
  | 0 => []
  | k + 1 => preN gw n i k ++ segN gw n i k
theorem preN_four (gw n i : Nat) : preN gw n i 4 = nearN gw n i := by
  simp only [preN, segN, nearN, List.nil_append]
theorem seg_spec {gw gh i : Nat} (hgw : 0 < gw) (hi : i < gw * gh) (k : Nat) (hk : k < 4) :
    (thN gw (gw * gh) i k = true ∧ ∃ a, atZ gw i k = (a : Nat) ∧ a < gw * gh ∧ segN gw (gw * gh) i k = [a]) ∨ (thN gw (gw * gh) i k = false ∧ segN gw (gw * gh) i k = []) := by
  have hn := next_lt (gh := gh) hgw hi
  have hp : 0 < i % gw → 1 ≤ i := fun h => by
    rcases Nat.eq_zero_or_pos i with h1 | h1
    · subst h1; simp at h
    · exact h1
  match k, hk with
  | 0, _ =>
    by_cases h : gw ≤ i
    · exact .inl ⟨decide_eq_true h, i - gw, by simp only [atZ]; omega, by omega, if_pos h⟩
    · exact .inr ⟨decide_eq_false h, if_neg h⟩
  | 1, _ =>
    by_cases h : 0 < i % gw
    · exact .inl ⟨decide_eq_true h, i - 1, by have := hp h; simp only [atZ]; omega, by omega, if_pos h⟩
    · exact .inr ⟨decide_eq_false h, if_neg h⟩
  | 2, _ =>
    by_cases h : i % gw + 1 < gw
    · exact .inl ⟨decide_eq_true h, i + 1, by simp only [atZ]; omega, hn h, if_pos h⟩
    · exact .inr ⟨decide_eq_false h, if_neg h⟩
  | 3, _ =>
    by_cases h : i + gw < gw * gh
    · exact .inl ⟨decide_eq_true h, i + gw, by simp only [atZ]; omega, h, if_pos h⟩
    · exact .inr ⟨decide_eq_false h, if_neg h⟩
def quadV (gw n i : Nat) : List Value := [.bool (thN gw n i 0), .int .i64 (atZ gw i 0), .bool (thN gw n i 1), .int .i64 (atZ gw i 1), .bool (thN gw n i 2), .int .i64 (atZ gw i 2), .bool (thN gw n i 3), .int .i64 (atZ gw i 3)]
theorem quadV_get {gw n i : Nat} (k : Nat) (hk : k < 4) : ((quadV gw n i).drop ((k : Int).toNat * 2)).take 2 = [.bool (thN gw n i k), .int .i64 (atZ gw i k)] := by
  match k, hk with
  | 0, _ => rfl
  | 1, _ => rfl
  | 2, _ => rfl
  | 3, _ => rfl
/-- the least of the neighbours that are less, the first of them; itself, if there is none -/
def flw (V : List Int) (i : Nat) (l : List Nat) : Nat := l.foldl (fun b n => if V.getD n 0 < V.getD b 0 then n else b) i
theorem flw_app (V : List Int) (i : Nat) (l r : List Nat) : flw V i (l ++ r) = flw V (flw V i l) r := List.foldl_append
theorem flw_cases (V : List Int) : ∀ (l : List Nat) (i : Nat), flw V i l = i ∨ (flw V i l ∈ l ∧ V.getD (flw V i l) 0 < V.getD i 0)
  | [], i => .inl rfl
  | n :: l, i => by
    show flw V (if V.getD n 0 < V.getD i 0 then n else i) l = i ∨ _
    have ih := flw_cases V l
    have e : flw V i (n :: l) = flw V (if V.getD n 0 < V.getD i 0 then n else i) l := rfl
    rw [e]
    by_cases h : V.getD n 0 < V.getD i 0
    · rw [if_pos h]
      rcases ih n with h1 | ⟨h1, h2⟩
      · rw [h1]; exact .inr ⟨List.mem_cons_self, h⟩
      · exact .inr ⟨List.mem_cons_of_mem _ h1, by omega⟩
    · rw [if_neg h]
      rcases ih i with h1 | ⟨h1, h2⟩
      · exact .inl h1
      · exact .inr ⟨List.mem_cons_of_mem _ h1, h2⟩
def flowN (gw : Nat) (V : List Int) (i : Nat) : Nat := flw V i (nearN gw V.length i)
theorem flowN_cases {gw gh : Nat} {V : List Int} (hgw : 0 < gw) (hV : V.length = gw * gh) {i : Nat} (hi : i < gw * gh) : flowN gw V i = i ∨ (flowN gw V i < gw * gh ∧ V.getD (flowN gw V i) 0 < V.getD i 0) := by
  rcases flw_cases V (nearN gw V.length i) i with h | ⟨h1, h2⟩
  · exact .inl h
  · rw [hV] at h1
    refine .inr ⟨?_, h2⟩
    have := ((nearN_mem hgw hi).1 h1).1
    unfold flowN
    rw [hV]
    exact this
theorem flowN_lt {gw gh : Nat} {V : List Int} (hgw : 0 < gw) (hV : V.length = gw * gh) {i : Nat} (hi : i < gw * gh) : flowN gw V i < gw * gh := by
  rcases flowN_cases hgw hV hi with h | h
  · rw [h]; exact hi
  · exact h.1
end Go.Proofs.Ytbcgbcipigcbhaa

namespace Go.Proofs.Ytbcgbcipigcbhaa
set_option linter.unusedVariables false
set_option linter.unusedSimpArgs false

def itr (f : Nat → Nat) : Nat → Nat → Nat
  | 0, i => i
  | k + 1, i => f (itr f k i)
theorem itr_out (f : Nat → Nat) : ∀ k i, itr f (k + 1) i = itr f k (f i)
  | 0, i => rfl
  | k + 1, i => congrArg f (itr_out f k i)
/-- a step that falls, or stays -/
structure Fall (n : Nat) (v : Nat → Int) (f : Nat → Nat) : Prop where
  lt : ∀ i, i < n → f i < n
  fall : ∀ i, i < n → f i = i ∨ v (f i) < v i
def Stop (f : Nat → Nat) (c k : Nat) : Prop := (∀ j, j < k → itr f (j + 1) c ≠ itr f j c) ∧ itr f (k + 1) c = itr f k c
section
variable {n : Nat} {v : Nat → Int} {f : Nat → Nat} {c k k' i : Nat}
theorem Stop.uniq (h : Stop f c k) (h' : Stop f c k') : k = k' := by
  rcases Nat.lt_trichotomy k k' with e | e | e
  · exact absurd h.2 (h'.1 k e)
  · exact e
  · exact absurd h'.2 (h.1 k' e)
theorem Fall.itr_lt (h : Fall n v f) (hc : c < n) : ∀ k, itr f k c < n
  | 0 => hc
  | k + 1 => h.lt _ (h.itr_lt hc k)
theorem Stop.stay (h : Stop f c k) : ∀ m, itr f (k + m) c = itr f k c
  | 0 => rfl
  | m + 1 => by
    show f (itr f (k + m) c) = _
    rw [h.stay m]; exact h.2
theorem Fall.stops (h : Fall n v f) : ∀ (r c : Nat), c < n → rank n v c ≤ r → ∃ k, Stop f c k ∧ k ≤ r
  | r, c, hc, hr => by
    rcases h.fall c hc with e | e
    · exact ⟨0, ⟨fun j hj => by omega, e⟩, Nat.zero_le _⟩
    · have h1 := rank_lt (n := n) (d := v) (i := f c) (j := c) (h.lt c hc) e
      cases r with
      | zero => omega
      | succ r =>
        obtain ⟨k, hk, hkr⟩ := h.stops r (f c) (h.lt c hc) (by omega)
        refine ⟨k + 1, ⟨fun j hj => ?_, ?_⟩, by omega⟩
        · cases j with
          | zero => show f c ≠ c; intro e2; rw [e2] at e; omega
          | succ j => rw [itr_out f (j + 1) c, itr_out f j c]; exact hk.1 j (by omega)
        · rw [itr_out f (k + 1) c, itr_out f k c]; exact hk.2
theorem Fall.stop (h : Fall n v f) (hc : c < n) : ∃ k, Stop f c k ∧ k < n := by
  obtain ⟨k, h1, h2⟩ := h.stops _ c hc (Nat.le_refl _)
  have := rank_top (n := n) (d := v) hc
  exact ⟨k, h1, by omega⟩
/-- where a way ends -/
def sinkN (f : Nat → Nat) (n i : Nat) : Nat := itr f n i
theorem Fall.sink_eq (h : Fall n v f) (hk : Stop f c k) (hc : c < n) : sinkN f n c = itr f k c := by
  obtain ⟨k', h1, h2⟩ := h.stop hc
  obtain rfl := hk.uniq h1
  have := hk.stay (n - k)
  rwa [show k + (n - k) = n by omega] at this
theorem Fall.sink_fix (h : Fall n v f) (hc : c < n) : f (sinkN f n c) = sinkN f n c := by
  obtain ⟨k, h1, h2⟩ := h.stop hc
  rw [h.sink_eq h1 hc]; exact h1.2
theorem Fall.sink_lt (h : Fall n v f) (hc : c < n) : sinkN f n c < n := h.itr_lt hc n
theorem sink_here {f : Nat → Nat} (n : Nat) {c : Nat} (h : f c = c) : sinkN f n c = c := by
  unfold sinkN
  induction n with
  | zero => rfl
  | succ n ih => show f (itr f n c) = c; rw [ih]; exact h
theorem Fall.sink_next (h : Fall n v f) (hc : c < n) : sinkN f n (f c) = sinkN f n c := by
  have h1 := itr_out f n c
  have h2 := h.sink_fix hc
  unfold sinkN at *
  rw [← h1]; exact h2
/-- the way, k steps of it -/
def wayN (f : Nat → Nat) (c k : Nat) : List Nat := (List.range (k + 1)).map fun j => itr f j c
theorem wayN_len : (wayN f c k).length = k + 1 := by simp [wayN]
theorem wayN_succ : wayN f c (k + 1) = wayN f c k ++ [itr f (k + 1) c] := by
  unfold wayN
  rw [List.range_succ, List.map_append]
  rfl
theorem wayN_get {j : Nat} (h : j < k + 1) : (wayN f c k)[j]? = some (itr f j c) := by simp [wayN, h]
theorem wayN_last : (wayN f c k)[k]? = some (itr f k c) := wayN_get (Nat.lt_succ_self k)
end
theorem flow_fall {gw gh : Nat} {V : List Int} (hgw : 0 < gw) (hV : V.length = gw * gh) : Fall (gw * gh) (fun i => V.getD i 0) (flowN gw V) :=
  ⟨fun i hi => flowN_lt hgw hV hi, fun i hi => (flowN_cases hgw hV hi).imp id (fun h => h.2)⟩
end Go.Proofs.Ytbcgbcipigcbhaa
