/- regions.Of: labels and parts. -/
import Derived.Test.YtiidmiebckkloaaPG
import Derived.Test.YtiidmiebckkloaaPA
import Derived.Test.YtiidmiebckkloaaPC
import Derived.Test.YtiidmiebckkloaaPB
import Derived.Test.YtiidmiebckkloaaPD
namespace Go.Proofs.Ytiidmiebckkloaa
open Go.RowKit
set_option linter.unusedVariables false
set_option linter.unusedSimpArgs false
set_option maxRecDepth 100000

/-! ### Rectangles and parts -/
structure RV where
  x0 : Int
  y0 : Int
  x1 : Int
  y1 : Int
  deriving DecidableEq
def RV.cells (r : RV) : List Value := [.int .i64 r.x0, .int .i64 r.y0, .int .i64 r.x1, .int .i64 r.y1]
def hullR (a b : RV) : RV := ⟨min a.x0 b.x0, min a.y0 b.y0, max a.x1 b.x1, max a.y1 b.y1⟩
def spotR (gw i : Nat) : RV := ⟨(i % gw : Nat), (i / gw : Nat), (i % gw : Nat), (i / gw : Nat)⟩
structure PV where
  lab : Int
  area : Int
  x : Int
  y : Int
  box : RV
  deriving DecidableEq
def PV.cells (p : PV) : List Value := [.int .i64 p.lab, .int .i64 p.area, .int .i64 p.x, .int .i64 p.y, .int .i64 p.box.x0, .int .i64 p.box.y0, .int .i64 p.box.x1, .int .i64 p.box.y1]
def partsV (l : List PV) : List Value := l.flatMap PV.cells
theorem partsV_len (l : List PV) : (partsV l).length = l.length * 8 := flatMap_len (f := PV.cells) (fun _ => rfl) l
def RV.right (r : RV) : Prop := 0 ≤ r.x0 ∧ r.x0 ≤ r.x1 ∧ r.x1 < 1024 ∧ 0 ≤ r.y0 ∧ r.y0 ≤ r.y1 ∧ r.y1 < 1024
theorem hullR_right {a b : RV} (ha : a.right) (hb : b.right) : (hullR a b).right := by
  unfold RV.right hullR at *; dsimp only; omega
theorem spotR_right {gw gh i : Nat} (hw : 1 ≤ gw ∧ gw ≤ 1024) (hh : gh ≤ 1024) (hi : i < gw * gh) : (spotR gw i).right := by
  have h1 : i % gw < gw := Nat.mod_lt _ (by omega)
  have h2 : i / gw < gh := Nat.div_lt_of_lt_mul hi
  unfold RV.right spotR
  dsimp only
  generalize i % gw = p at *
  generalize i / gw = q at *
  omega
/-! ### Lists -/
theorem flatMap_put {α β : Type} {f : α → List β} {m : Nat} (hf : ∀ a, (f a).length = m) : ∀ {l : List α} {k : Nat} {a a' : α} {d : Nat} {cs : List β}, l[k]? = some a → d + cs.length ≤ m → f a' = (f a).take d ++ cs ++ (f a).drop (d + cs.length) →
    (l.flatMap f).take (k * m + d) ++ cs ++ (l.flatMap f).drop (k * m + d + cs.length) = (l.set k a').flatMap f
  | [], k, a, a', d, cs, h, _, _ => by cases h
  | b :: l, 0, a, a', d, cs, h, hd, e => by
    obtain rfl : b = a := by simpa using h
    have hb := hf b
    simp only [Nat.zero_mul, Nat.zero_add, List.flatMap_cons, List.set_cons_zero]
    rw [List.take_append_of_le_length (by omega), List.drop_append_of_le_length (by omega), e]
    simp only [List.append_assoc]
  | b :: l, k + 1, a, a', d, cs, h, hd, e => by
    have ih := flatMap_put hf (l := l) (k := k) (a := a) (a' := a') (d := d) (cs := cs) (by simpa using h) hd e
    have hb := hf b
    simp only [List.flatMap_cons, List.set_cons_succ]
    rw [← ih, Nat.succ_mul, show k * m + m + d = m + (k * m + d) by omega, show m + (k * m + d) + cs.length = m + (k * m + d + cs.length) by omega]
    rw [List.take_append, List.drop_append, hb]
    rw [List.take_of_length_le (by omega), List.drop_of_length_le (by omega)]
    simp only [show m + (k * m + d) - m = k * m + d by omega, show m + (k * m + d + cs.length) - m = k * m + d + cs.length by omega, List.nil_append, List.append_assoc]
theorem set_take {α : Type} {l : List α} {k : Nat} {v : α} (h : k < l.length) : l.set k v = l.take k ++ [v] ++ l.drop (k + 1) := by
  rw [List.set_eq_take_append_cons_drop, if_pos h]; simp
theorem filter_range_get {p : Nat → Bool} {q k : Nat} (hq : q < k) (hp : p q = true) : ((List.range k).filter p)[((List.range q).filter p).length]? = some q := by
  have e : k = q + (1 + (k - q - 1)) := by omega
  rw [e, List.range_add, List.filter_append, List.getElem?_append_right (Nat.le_refl _), Nat.sub_self, Nat.add_comm 1, List.range_succ_eq_map]
  simp [hp]

/-! ### Roots, labels, parts -/
structure Roots (gw : Nat) (V : List Int) (t : Int) (r : Nat → Nat) : Prop where
  le : ∀ i, i < V.length → r i ≤ i
  idem : ∀ i, i < V.length → r (r i) = r i
  conn : ∀ i, i < V.length → Conn gw V t i (r i)
  left : ∀ i, i < V.length → t ≤ V.getD i 0 → 0 < i % gw → t ≤ V.getD (i - 1) 0 → r i = r (i - 1)
  up : ∀ i, i < V.length → t ≤ V.getD i 0 → gw ≤ i → t ≤ V.getD (i - gw) 0 → r i = r (i - gw)
theorem SetsOk.roots {gw : Nat} {V : List Int} {t : Int} {f : Nat → Nat} (h : SetsOk gw V t V.length f) : Roots gw V t (rootF f) :=
  ⟨fun i _ => rootF_le f i, fun i _ => rootF_root f i, h.conn, h.left, h.up⟩
theorem Conn.ge {gw : Nat} {V : List Int} {t : Int} {i j : Nat} (h : Conn gw V t i j) (hi : t ≤ V.getD i 0) : t ≤ V.getD j 0 := by
  induction h with
  | refl => exact hi
  | step a _ ih => exact ih a.2.2.2.1
def isRoot (V : List Int) (t : Int) (r : Nat → Nat) (q : Nat) : Bool := decide (t ≤ V.getD q 0) && decide (r q = q)
def rootsL (V : List Int) (t : Int) (r : Nat → Nat) (k : Nat) : List Nat := (List.range k).filter (isRoot V t r)
def cntR (V : List Int) (t : Int) (r : Nat → Nat) (k : Nat) : Nat := (rootsL V t r k).length
def labF (V : List Int) (t : Int) (r : Nat → Nat) (i : Nat) : Nat := if t ≤ V.getD i 0 then cntR V t r (r i) + 1 else 0
def memB (V : List Int) (t : Int) (r : Nat → Nat) (q i : Nat) : Bool := decide (t ≤ V.getD i 0) && decide (r i = q)
def members (V : List Int) (t : Int) (r : Nat → Nat) (q k : Nat) : List Nat := (List.range k).filter (memB V t r q)
def partAt (gw : Nat) (V : List Int) (t : Int) (r : Nat → Nat) (k q : Nat) : PV :=
  ⟨(cntR V t r q + 1 : Nat), ((members V t r q k).length : Nat), (q % gw : Nat), (q / gw : Nat), (members V t r q k).foldl (fun b i => hullR b (spotR gw i)) (spotR gw q)⟩
def partsAt (gw : Nat) (V : List Int) (t : Int) (r : Nat → Nat) (k : Nat) : List PV := (rootsL V t r k).map (partAt gw V t r k)
theorem rootsL_succ (V : List Int) (t : Int) (r : Nat → Nat) (k : Nat) : rootsL V t r (k + 1) = if isRoot V t r k then rootsL V t r k ++ [k] else rootsL V t r k := by
  unfold rootsL
  rw [List.range_succ, List.filter_append]
  by_cases h : isRoot V t r k = true
  · rw [if_pos h]; simp [h]
  · rw [if_neg h]; simp [h]
theorem members_succ (V : List Int) (t : Int) (r : Nat → Nat) (q k : Nat) : members V t r q (k + 1) = if memB V t r q k then members V t r q k ++ [k] else members V t r q k := by
  unfold members
  rw [List.range_succ, List.filter_append]
  by_cases h : memB V t r q k = true
  · rw [if_pos h]; simp [h]
  · rw [if_neg h]; simp [h]
theorem partAt_skip {gw : Nat} {V : List Int} {t : Int} {r : Nat → Nat} {k q : Nat} (h : memB V t r q k = false) : partAt gw V t r (k + 1) q = partAt gw V t r k q := by
  unfold partAt; rw [members_succ, if_neg (by simp [h])]
theorem partAt_add {gw : Nat} {V : List Int} {t : Int} {r : Nat → Nat} {k q : Nat} (h : memB V t r q k = true) :
    partAt gw V t r (k + 1) q = { partAt gw V t r k q with area := (partAt gw V t r k q).area + 1, box := hullR (partAt gw V t r k q).box (spotR gw k) } := by
  unfold partAt; rw [members_succ, if_pos h, List.foldl_append, List.length_append]; simp
theorem rootsL_mem {V : List Int} {t : Int} {r : Nat → Nat} {k q : Nat} : q ∈ rootsL V t r k ↔ q < k ∧ isRoot V t r q = true := by unfold rootsL; rw [List.mem_filter, List.mem_range]
theorem rootsL_nodup (V : List Int) (t : Int) (r : Nat → Nat) (k : Nat) : (rootsL V t r k).Nodup := List.Pairwise.filter _ List.nodup_range
theorem cntR_mono {V : List Int} {t : Int} {r : Nat → Nat} {a b : Nat} (h : a ≤ b) : cntR V t r a ≤ cntR V t r b := by
  unfold cntR rootsL
  have e : b = a + (b - a) := by omega
  rw [e, List.range_add, List.filter_append, List.length_append]
  omega
theorem cntR_le (V : List Int) (t : Int) (r : Nat → Nat) (k : Nat) : cntR V t r k ≤ k := by
  unfold cntR rootsL
  exact Nat.le_trans (List.length_filter_le _ _) (by simp)
theorem map_set_nodup {α β : Type} [DecidableEq α] {l : List α} {f g : α → β} {k : Nat} {q : α} (hn : l.Nodup) (hk : l[k]? = some q) (h : ∀ x ∈ l, x ≠ q → g x = f x) : (l.map f).set k (g q) = l.map g := by
  apply List.ext_getElem?
  intro i
  rw [List.getElem?_set]
  have hkl := (List.getElem?_eq_some_iff.1 hk).1
  by_cases e : k = i
  · subst e; rw [if_pos rfl, List.length_map, if_pos hkl, List.getElem?_map, hk]; rfl
  · rw [if_neg e, List.getElem?_map, List.getElem?_map]
    cases hi : l[i]? with
    | none => rfl
    | some x =>
      have hx := List.mem_of_getElem? hi
      have hne : x ≠ q := by
        rintro rfl
        have hil := (List.getElem?_eq_some_iff.1 hi).1
        have h1 := (List.getElem?_eq_some_iff.1 hi).2
        have h2 := (List.getElem?_eq_some_iff.1 hk).2
        exact e ((List.getElem_inj hn).1 (h2.trans h1.symm))
      simp only [Option.map_some, h x hx hne]
/-- a cell that is its set's first one: a new part -/
theorem partsAt_new {gw : Nat} {V : List Int} {t : Int} {r : Nat → Nat} {k : Nat} (hle : ∀ i, i ≤ k → r i ≤ i) (hv : t ≤ V.getD k 0) (hr : r k = k) :
    partsAt gw V t r (k + 1) = partsAt gw V t r k ++ [partAt gw V t r (k + 1) k] ∧ partAt gw V t r k k = ⟨(cntR V t r k + 1 : Nat), 0, (k % gw : Nat), (k / gw : Nat), spotR gw k⟩ := by
  have hroot : isRoot V t r k = true := by unfold isRoot; simp only [Bool.and_eq_true, decide_eq_true_eq]; exact ⟨hv, hr⟩
  constructor
  · unfold partsAt
    rw [rootsL_succ, if_pos hroot, List.map_append, List.map_singleton]
    congr 1
    refine List.map_congr_left fun q hq => partAt_skip ?_
    have := (rootsL_mem.1 hq).1
    unfold memB
    simp only [Bool.and_eq_false_iff, decide_eq_false_iff_not]
    right; omega
  · have : members V t r k k = [] := by
      unfold members
      rw [List.filter_eq_nil_iff]
      intro i hi
      have := hle i (by have := List.mem_range.1 hi; omega)
      have := List.mem_range.1 hi
      unfold memB
      simp only [Bool.and_eq_true, decide_eq_true_eq]
      omega
    unfold partAt
    rw [this]
    rfl
/-- a further cell of a set -/
theorem partsAt_more {gw : Nat} {V : List Int} {t : Int} {r : Nat → Nat} {k q : Nat} (hr : r k = q) (hq : q < k) (hrq : r q = q) (hvq : t ≤ V.getD q 0) :
    partsAt gw V t r (k + 1) = (partsAt gw V t r k).set (cntR V t r q) (partAt gw V t r (k + 1) q) ∧ (partsAt gw V t r k)[cntR V t r q]? = some (partAt gw V t r k q) := by
  have hroot : isRoot V t r q = true := by unfold isRoot; simp only [Bool.and_eq_true, decide_eq_true_eq]; exact ⟨hvq, hrq⟩
  have hnot : isRoot V t r k = false := by unfold isRoot; simp only [Bool.and_eq_false_iff, decide_eq_false_iff_not]; right; omega
  have hidx : (rootsL V t r k)[cntR V t r q]? = some q := filter_range_get hq hroot
  constructor
  · unfold partsAt
    rw [rootsL_succ, if_neg (by simp [hnot])]
    symm
    refine map_set_nodup (rootsL_nodup _ _ _ _) hidx fun x hx hne => partAt_skip ?_
    unfold memB
    simp only [Bool.and_eq_false_iff, decide_eq_false_iff_not]
    right
    rw [hr]
    exact fun e => hne e.symm
  · unfold partsAt
    rw [List.getElem?_map, hidx]; rfl
/-- a cell that isn't high enough -/
theorem partsAt_skip {gw : Nat} {V : List Int} {t : Int} {r : Nat → Nat} {k : Nat} (hv : ¬ t ≤ V.getD k 0) : partsAt gw V t r (k + 1) = partsAt gw V t r k := by
  unfold partsAt
  rw [rootsL_succ, if_neg (by unfold isRoot; simp only [Bool.and_eq_true, decide_eq_true_eq]; exact fun h => hv h.1)]
  refine List.map_congr_left fun q _ => partAt_skip ?_
  unfold memB
  simp only [Bool.and_eq_false_iff, decide_eq_false_iff_not]
  exact .inl hv
theorem partAt_right {gw gh : Nat} {V : List Int} {t : Int} {r : Nat → Nat} {k q : Nat} (hw : 1 ≤ gw ∧ gw ≤ 1024) (hh : gh ≤ 1024) (hV : V.length = gw * gh) (hk : k ≤ V.length) (hq : q < V.length) : (partAt gw V t r k q).box.right := by
  unfold partAt
  have key : ∀ (l : List Nat) (b : RV), (∀ i ∈ l, i < V.length) → b.right → (l.foldl (fun b i => hullR b (spotR gw i)) b).right := by
    intro l
    induction l with
    | nil => intro b _ hb; exact hb
    | cons a l ih => intro b hl hb; exact ih _ (fun i hi => hl i (List.mem_cons_of_mem _ hi)) (hullR_right hb (spotR_right hw hh (hV ▸ hl a (by simp))))
  refine key _ _ (fun i hi => ?_) (spotR_right hw hh (hV ▸ hq))
  unfold members at hi
  have := List.mem_range.1 (List.mem_filter.1 hi).1
  omega
theorem replicate_cellsN (n : Nat) : List.replicate n (Value.int .i64 0) = cellsN n (fun _ => 0) := by
  symm; rw [List.eq_replicate_iff]
  refine ⟨cellsN_len _ _, fun v hv => ?_⟩
  obtain ⟨i, _, rfl⟩ := List.mem_map.1 hv
  rfl
theorem partsV_put {l : List PV} {k : Nat} {a a' : PV} {d : Nat} {cs : List Value} (h : l[k]? = some a) (hd : d + cs.length ≤ 8) (e : a'.cells = a.cells.take d ++ cs ++ a.cells.drop (d + cs.length)) :
    (partsV l).take (k * 8 + d) ++ cs ++ (partsV l).drop (k * 8 + d + cs.length) = partsV (l.set k a') := flatMap_put (f := PV.cells) (fun _ => rfl) h hd e
theorem partsV_get {l : List PV} {k : Nat} {a : PV} (h : l[k]? = some a) {j : Nat} (hj : j < 8) : (partsV l)[k * 8 + j]? = a.cells[j]? := flatMap_get (f := PV.cells) (m := 8) (fun _ => rfl) h hj
theorem partsV_box {l : List PV} {k : Nat} {a : PV} (h : l[k]? = some a) : ((partsV l).drop (k * 8 + 4)).take 4 = a.box.cells := by
  have := flatMap_part (f := PV.cells) (m := 8) (fun _ => rfl) l k a 4 4 h (by omega)
  exact this
/-- what regions.Of tells -/
def RetRegs (gw gh : Nat) (V : List Int) (t : Int) (W : World) (v : Value) (w' : World) : Prop := ∃ r, Roots gw V t r ∧ ∃ A1 c1 A2 c2, v = .tuple #[.slice A1 V.length c1, .slice A2 (cntR V t r V.length) c2, .int .i64 0] ∧
  Row w' 2 1 A1 V.length c1 (cellsN V.length (labF V t r)) ∧ Row w' 87 8 A2 (cntR V t r V.length) c2 (partsV (partsAt gw V t r V.length)) ∧ FreshA W A1 ∧ FreshA W A2 ∧ Gr W w'
section
variable {W : World} {A : Option Addr} {p gw gh cap : Nat}
end
end Go.Proofs.Ytiidmiebckkloaa
/- hachurelaw29.RegionsRise. -/
namespace Go.Proofs.Ytiidmiebckkloaa
open Go.RowKit
set_option linter.unusedVariables false
set_option linter.unusedSimpArgs false
set_option maxRecDepth 100000

section
variable {P : Program} {e : Nat → Value} {d : Option Tmp} {ty : TypeId} {ps : String} {af : Array Edge}
theorem op_bne {t t' : TypeId} {x y : Operand} {a b B : Bool} (hu : P.underlying t = some .bool) (hx : ev e x = .bool a) (hy : ev e y = .bool b) (hB : (a != b) = B) : OpV P e ⟨d, .binOp .neq t x y t', ty, ps, af, none⟩ (.bool B) := by
  intro w
  subst hB
  have h3 : ∀ n' : Nat, (Op.equalIn (n' + 1) t (.bool a) (.bool b)).run P w = .ok (a == b) w := fun n' => by
    unfold Op.equalIn
    simp [run_underlying hu]
  have h4 : (Op.equal t (.bool a) (.bool b)).run P w = .ok (a == b) w := h3 9999
  simp [OpR, execOp, hx, hy, eqGuard, binOp, h4, bne]
end

/-! ### Regions over two heights -/
section
variable {gw : Nat} {V : List Int} {t u : Int} {r : Nat → Nat}
theorem Roots.adj (h : Roots gw V t r) {i j : Nat} (a : Adj gw V t i j) : r i = r j := by
  obtain ⟨hi, hj, vi, vj, s⟩ := a
  rcases s with ⟨e, p⟩ | ⟨e, p⟩ | e | e
  · have := h.left i hi vi p (by rw [show i - 1 = j by omega]; exact vj)
    rwa [show i - 1 = j by omega] at this
  · have := h.left j hj vj p (by rw [show j - 1 = i by omega]; exact vi)
    rw [show j - 1 = i by omega] at this
    exact this.symm
  · have := h.up i hi vi (by omega) (by rw [show i - gw = j by omega]; exact vj)
    rwa [show i - gw = j by omega] at this
  · have := h.up j hj vj (by omega) (by rw [show j - gw = i by omega]; exact vi)
    rw [show j - gw = i by omega] at this
    exact this.symm
theorem Roots.same (h : Roots gw V t r) {i j : Nat} (c : Conn gw V t i j) : r i = r j := by
  induction c with
  | refl => rfl
  | step a _ ih => exact (h.adj a).trans ih
theorem Conn.lower {i j : Nat} (h : t ≤ u) (c : Conn gw V u i j) : Conn gw V t i j := by
  induction c with
  | refl => exact .refl _
  | step a _ ih => exact .step ⟨a.1, a.2.1, Int.le_trans h a.2.2.1, Int.le_trans h a.2.2.2.1, a.2.2.2.2⟩ ih
theorem Conn.alone {i x : Nat} (h : ∀ j, ¬ Adj gw V t i j) (c : Conn gw V t i x) : x = i := by
  cases c with
  | refl => rfl
  | step a _ => exact absurd a (h _)
/-- roots are the same whatever the forest -/
theorem Roots.uniq {r' : Nat → Nat} (h : Roots gw V t r) (h' : Roots gw V t r') {i : Nat} (hi : i < V.length) : r i = r' i := by
  have h1 := h'.same (h.conn i hi)
  have h2 := h.same (h'.conn i hi)
  have h3 := h'.le (r i) (by have := h.le i hi; omega)
  have h4 := h.le (r' i) (by have := h'.le i hi; omega)
  omega
theorem cntR_lt {q k : Nat} (hq : q < k) (h : isRoot V t r q = true) : cntR V t r q + 1 ≤ cntR V t r k := by
  have h1 : cntR V t r (q + 1) = cntR V t r q + 1 := by unfold cntR; rw [rootsL_succ, if_pos h]; simp
  have := cntR_mono (V := V) (t := t) (r := r) (show q + 1 ≤ k from hq)
  omega
theorem Roots.isRoot (h : Roots gw V t r) {i : Nat} (hi : i < V.length) (hv : t ≤ V.getD i 0) : isRoot V t r (r i) = true := by
  unfold Go.Proofs.Ytiidmiebckkloaa.isRoot
  simp only [Bool.and_eq_true, decide_eq_true_eq]
  exact ⟨(h.conn i hi).ge hv, h.idem i hi⟩
theorem Roots.lab_le (h : Roots gw V t r) {i : Nat} (hi : i < V.length) : labF V t r i ≤ cntR V t r V.length := by
  unfold labF
  split
  · rename_i hv; exact cntR_lt (Nat.lt_of_le_of_lt (h.le i hi) hi) (h.isRoot hi hv)
  · exact Nat.zero_le _
theorem side_near {gh k : Nat} (hgw : 0 < gw) (hk : k < gw * gh) {c : Int × Int} (hc : c ∈ nearZ gw gh (k % gw : Nat) (k / gw : Nat)) : inG gw gh c = true ∧ Side gw k (c.2.toNat * gw + c.1.toNat) := by
  unfold nearZ at hc
  obtain ⟨h1, h2⟩ := List.mem_filter.1 hc
  refine ⟨h2, ?_⟩
  have hin := inG_iff.1 h2
  have hx : k % gw < gw := Nat.mod_lt _ hgw
  have hdm : k / gw * gw + k % gw = k := by rw [Nat.mul_comm]; exact Nat.div_add_mod _ _
  unfold near4 at h1
  generalize hX : k % gw = X at *
  generalize hY : k / gw = Y at *
  simp only [List.mem_cons, List.not_mem_nil, or_false] at h1
  unfold Side
  rw [hX]
  rcases h1 with rfl | rfl | rfl | rfl
  · dsimp only at hin ⊢
    have e : ((Y : Int) - 1).toNat = Y - 1 := by omega
    have hY1 : 1 ≤ Y := by omega
    rw [e, Int.toNat_natCast, Nat.sub_mul, Nat.one_mul]
    have : gw ≤ Y * gw := Nat.le_mul_of_pos_left _ hY1
    omega
  · dsimp only at hin ⊢
    rw [Int.toNat_natCast]
    omega
  · dsimp only at hin ⊢
    rw [Int.toNat_natCast]
    have e : Y * gw + ((X : Int) + 1).toNat = k + 1 := by omega
    have e2 : (k + 1) % gw = X + 1 := by
      rw [← e, show ((X : Int) + 1).toNat = X + 1 by omega, Nat.mul_add_mod_self_right, Nat.mod_eq_of_lt (by omega)]
    rw [e]
    exact .inr (.inl ⟨rfl, by omega⟩)
  · dsimp only at hin ⊢
    have e : ((Y : Int) + 1).toNat = Y + 1 := by omega
    rw [e, Int.toNat_natCast, Nat.succ_mul]
    omega
end

section
variable {W : World} {A : Option Addr} {V : List Int}
end
end Go.Proofs.Ytiidmiebckkloaa
/- Sorting in place by swaps: what swaps do, rotation, runs that are merged (plain laws, no program). -/
namespace Go.Proofs.Ytiidmiebckkloaa
set_option linter.unusedVariables false
set_option linter.unusedSimpArgs false

section
variable {α : Type} {o o' : Nat → α} {R : α → α → Bool} {a b i j k n : Nat}
def swp (o : Nat → α) (i j : Nat) : Nat → α := fun k => if k = i then o j else if k = j then o i else o k
theorem swp_l : swp o i j i = o j := if_pos rfl
theorem swp_r : swp o i j j = o i := by
  unfold swp
  by_cases h : j = i
  · rw [if_pos h, h]
  · rw [if_neg h, if_pos rfl]
theorem swp_ne (h1 : k ≠ i) (h2 : k ≠ j) : swp o i j k = o k := by unfold swp; rw [if_neg h1, if_neg h2]
/-- what swaps within a stretch do -/
inductive PS (a b : Nat) (o : Nat → α) : (Nat → α) → Prop
  | refl : PS a b o o
  | swap {o' : Nat → α} (i j : Nat) (hi : a ≤ i ∧ i < b) (hj : a ≤ j ∧ j < b) (h : PS a b o o') : PS a b o (swp o' i j)
theorem PS.trans {o2 : Nat → α} (h : PS a b o o') (h' : PS a b o' o2) : PS a b o o2 := by
  induction h' with
  | refl => exact h
  | swap i j hi hj _ ih => exact .swap i j hi hj ih
theorem PS.wide {a' b' : Nat} (h : PS a b o o') (ha : a' ≤ a) (hb : b ≤ b') : PS a' b' o o' := by
  induction h with
  | refl => exact .refl
  | swap i j hi hj _ ih => exact .swap i j ⟨by omega, by omega⟩ ⟨by omega, by omega⟩ ih
theorem PS.out (h : PS a b o o') (hk : k < a ∨ b ≤ k) : o' k = o k := by
  induction h with
  | refl => rfl
  | swap i j hi hj _ ih => rw [swp_ne (by omega) (by omega), ih]
/-- each element behind was one before -/
theorem PS.img (h : PS a b o o') : ∀ {k : Nat}, a ≤ k → k < b → ∃ x, a ≤ x ∧ x < b ∧ o' k = o x := by
  induction h with
  | refl => exact fun h1 h2 => ⟨_, h1, h2, rfl⟩
  | @swap o' i j hi hj _ ih =>
    intro k h1 h2
    by_cases e1 : k = i
    · subst e1; rw [swp_l]; exact ih hj.1 hj.2
    · by_cases e2 : k = j
      · subst e2; rw [swp_r]; exact ih hi.1 hi.2
      · rw [swp_ne e1 e2]; exact ih h1 h2
/-- and each before is one behind -/
theorem PS.pre (h : PS a b o o') : ∀ {k : Nat}, a ≤ k → k < b → ∃ x, a ≤ x ∧ x < b ∧ o' x = o k := by
  induction h with
  | refl => exact fun h1 h2 => ⟨_, h1, h2, rfl⟩
  | @swap o' i j hi hj _ ih =>
    intro k h1 h2
    obtain ⟨x, hx1, hx2, hx⟩ := ih h1 h2
    by_cases e1 : x = i
    · exact ⟨j, hj.1, hj.2, by rw [swp_r, ← e1]; exact hx⟩
    · by_cases e2 : x = j
      · exact ⟨i, hi.1, hi.2, by rw [swp_l, ← e2]; exact hx⟩
      · exact ⟨x, hx1, hx2, by rw [swp_ne e1 e2]; exact hx⟩
/-! ### Two stretches change places -/
def swr (o : Nat → α) (a b n : Nat) : Nat → α := fun k => if a ≤ k ∧ k < a + n then o (k - a + b) else if b ≤ k ∧ k < b + n then o (k - b + a) else o k
theorem swr_zero (o : Nat → α) (a b : Nat) : swr o a b 0 = o := by
  funext k
  unfold swr
  rw [if_neg (by omega), if_neg (by omega)]
theorem swr_step (h : a + n < b) : swp (swr o a b n) (a + n) (b + n) = swr o a b (n + 1) := by
  funext k
  unfold swp swr
  (repeat' split) <;> first | rfl | (congr 1; omega) | (exfalso; omega)
theorem swr_ps {lo hi : Nat} (h1 : lo ≤ a) (h3 : b + n ≤ hi) (h2 : a + n ≤ b) : PS lo hi o (swr o a b n) := by
  induction n with
  | zero => rw [swr_zero]; exact .refl
  | succ n ih =>
    rw [← swr_step (by omega)]
    exact .swap _ _ (by omega) (by omega) (ih (by omega) (by omega))
/-- a stretch's two parts change places -/
def rot (o : Nat → α) (s m e : Nat) : Nat → α := fun k => if s ≤ k ∧ k < e then (if k < s + (e - m) then o (m + (k - s)) else o (s + (k - s - (e - m)))) else o k
theorem rot_left {m : Nat} (hj : 0 < j) (h : j < i) (him : i ≤ m) : rot (swr o (m - i) m j) (m - (i - j)) m (m + j) = rot o (m - i) m (m + j) := by
  funext k
  unfold rot swr
  (repeat' split) <;> first | rfl | (congr 1; omega) | (exfalso; omega)
theorem rot_right {m : Nat} (hi : 0 < i) (h : i < j) (him : i ≤ m) : rot (swr o (m - i) (m + j - i) i) (m - i) m (m + j - i) = rot o (m - i) m (m + j) := by
  funext k
  unfold rot swr
  (repeat' split) <;> first | rfl | (congr 1; omega) | (exfalso; omega)
theorem rot_same {m : Nat} (him : i ≤ m) : swr o (m - i) m i = rot o (m - i) m (m + i) := by
  funext k
  unfold rot swr
  (repeat' split) <;> first | rfl | (congr 1; omega) | (exfalso; omega)
/-! ### Runs -/
/-- 'less' that is sorted by -/
structure Wk (R : α → α → Bool) : Prop where
  asym : ∀ x y, R x y = true → R y x = false
  trans : ∀ x y z, R y x = false → R z y = false → R z x = false
theorem Wk.refl (h : Wk R) (x : α) : R x x = false := by
  cases hx : R x x with
  | false => rfl
  | true => have := h.asym x x hx; rw [hx] at this; cases this
/-- no element is less than one before it -/
def SO (R : α → α → Bool) (o : Nat → α) (a b : Nat) : Prop := ∀ x y, a ≤ x → x < y → y < b → R (o y) (o x) = false
theorem SO.le (hw : Wk R) (h : SO R o a b) {x y : Nat} (h1 : a ≤ x) (h2 : x ≤ y) (h3 : y < b) : R (o y) (o x) = false := by
  by_cases e : x = y
  · subst e; exact hw.refl _
  · exact h x y h1 (by omega) h3
theorem SO.sub {a' b' : Nat} (h : SO R o a b) (ha : a ≤ a') (hb : b' ≤ b) : SO R o a' b' := fun x y h1 h2 h3 => h x y (by omega) h2 (by omega)
theorem SO.congr (h : SO R o a b) (he : ∀ k, a ≤ k → k < b → o' k = o k) : SO R o' a b := fun x y h1 h2 h3 => by
  rw [he x h1 (by omega), he y (by omega) h3]; exact h x y h1 h2 h3
theorem SO.one (h : b ≤ a + 1) : SO R o a b := fun x y h1 h2 h3 => by omega
/-- two runs, of which the one is nowhere less than the other, are one -/
theorem SO.join {m : Nat} (hw : Wk R) (h1 : SO R o a m) (h2 : SO R o m b) (h : a < m → m < b → R (o m) (o (m - 1)) = false) : SO R o a b := fun x y hx hxy hy => by
  by_cases e1 : y < m
  · exact h1 x y hx hxy e1
  · by_cases e2 : m ≤ x
    · exact h2 x y e2 hxy hy
    · exact hw.trans _ _ _ (hw.trans _ _ _ (h1.le hw hx (show x ≤ m - 1 by omega) (by omega)) (h (by omega) (by omega))) (h2.le hw (Nat.le_refl m) (by omega) hy)
/-! ### Insertion -/
/-- all but the one at j is a run, and that is nowhere greater than what lies behind it -/
structure INS (R : α → α → Bool) (o : Nat → α) (a i j : Nat) : Prop where
  rest : ∀ x y, a ≤ x → x < y → y ≤ i → x ≠ j → y ≠ j → R (o y) (o x) = false
  behind : ∀ y, j < y → y ≤ i → R (o y) (o j) = false
theorem INS.init (h : SO R o a i) : INS R o a i i := ⟨fun x y h1 h2 h3 h4 h5 => h x y h1 h2 (by omega), fun y h1 h2 => by omega⟩
theorem INS.step (hw : Wk R) (h : INS R o a i j) (hj : a < j) (hji : j ≤ i) (hl : R (o j) (o (j - 1)) = true) : INS R (swp o j (j - 1)) a i (j - 1) := by
  refine ⟨fun x y h1 h2 h3 h4 h5 => ?_, fun y h1 h2 => ?_⟩
  · by_cases e1 : y = j
    · subst e1
      rw [swp_l, swp_ne (by omega) h4]
      exact h.rest x (y - 1) h1 (by omega) (by omega) (by omega) (by omega)
    · by_cases e2 : x = j
      · subst e2
        rw [swp_l, swp_ne e1 h5]
        exact h.rest (x - 1) y (by omega) (by omega) h3 (by omega) e1
      · rw [swp_ne e1 h5, swp_ne e2 h4]
        exact h.rest x y h1 h2 h3 e2 e1
  · rw [swp_r]
    by_cases e1 : y = j
    · subst e1; rw [swp_l]; exact hw.asym _ _ hl
    · rw [swp_ne e1 (by omega)]; exact h.behind y (by omega) h2
theorem INS.done (hw : Wk R) (h : INS R o a i j) (hji : j ≤ i) (hl : a < j → R (o j) (o (j - 1)) = false) : SO R o a (i + 1) := fun x y h1 h2 h3 => by
  by_cases e1 : y = j
  · subst e1
    by_cases e2 : x = y - 1
    · rw [e2]; exact hl (by omega)
    · exact hw.trans _ _ _ (h.rest x (y - 1) h1 (by omega) (by omega) (by omega) (by omega)) (hl (by omega))
  · by_cases e2 : x = j
    · subst e2; exact h.behind y h2 (by omega)
    · exact h.rest x y h1 h2 (by omega) e2 e1
/-! ### An element that is moved behind or before a stretch -/
def mvR (o : Nat → α) (a k : Nat) : Nat → α := fun x => if a ≤ x ∧ x < k then o (x + 1) else if x = k then o a else o x
theorem mvR_zero : mvR o a a = o := by
  funext x
  unfold mvR
  rw [if_neg (by omega)]
  split
  · rename_i h; rw [h]
  · rfl
theorem mvR_step (h : a ≤ k) : swp (mvR o a k) k (k + 1) = mvR o a (k + 1) := by
  funext x
  unfold swp mvR
  (repeat' split) <;> first | rfl | (congr 1; omega) | (exfalso; omega)
def mvL (o : Nat → α) (m k : Nat) : Nat → α := fun x => if k < x ∧ x ≤ m then o (x - 1) else if x = k then o m else o x
theorem mvL_zero : mvL o a a = o := by
  funext x
  unfold mvL
  rw [if_neg (by omega)]
  split
  · rename_i h; rw [h]
  · rfl
theorem mvL_step {m : Nat} (h : k ≤ m) (hk : 0 < k) : swp (mvL o m k) k (k - 1) = mvL o m (k - 1) := by
  funext x
  unfold swp mvL
  (repeat' split) <;> first | rfl | (congr 1; omega) | (exfalso; omega)
/-- one element before a run: it goes before the first that isn't less -/
theorem mvR_so {m : Nat} (hw : Wk R) (hr : SO R o (a + 1) b) (hi : a + 1 ≤ i ∧ i ≤ b) (h1 : ∀ x, a + 1 ≤ x → x < i → R (o x) (o a) = true) (h2 : ∀ x, i ≤ x → x < b → R (o x) (o a) = false) : SO R (mvR o a (i - 1)) a b := fun x y hx hxy hy => by
  unfold mvR
  by_cases e1 : x < i - 1
  · rw [if_pos (show a ≤ x ∧ x < i - 1 from ⟨hx, e1⟩)]
    by_cases e2 : y < i - 1
    · rw [if_pos (show a ≤ y ∧ y < i - 1 by omega)]; exact hr (x + 1) (y + 1) (by omega) (by omega) (by omega)
    · rw [if_neg (by omega)]
      by_cases e3 : y = i - 1
      · rw [if_pos e3]; exact hw.asym _ _ (h1 (x + 1) (by omega) (by omega))
      · rw [if_neg e3]; exact hr (x + 1) y (by omega) (by omega) hy
  · rw [if_neg (by omega)]
    by_cases e3 : x = i - 1
    · rw [if_pos e3, if_neg (by omega), if_neg (by omega)]; exact h2 y (by omega) hy
    · rw [if_neg e3, if_neg (by omega), if_neg (by omega)]; exact hr x y (by omega) hxy hy
/-- one element behind a run: it goes before the first that is greater -/
theorem mvL_so {m : Nat} (hw : Wk R) (hr : SO R o a m) (hi : a ≤ i ∧ i ≤ m) (h1 : ∀ x, a ≤ x → x < i → R (o m) (o x) = false) (h2 : ∀ x, i ≤ x → x < m → R (o m) (o x) = true) : SO R (mvL o m i) a (m + 1) := fun x y hx hxy hy => by
  unfold mvL
  by_cases e1 : x < i
  · rw [if_neg (show ¬ (i < x ∧ x ≤ m) by omega), if_neg (show ¬ x = i by omega)]
    by_cases e2 : y < i
    · rw [if_neg (by omega), if_neg (by omega)]; exact hr x y hx hxy (by omega)
    · by_cases e3 : y = i
      · rw [if_neg (by omega), if_pos e3]; exact h1 x hx e1
      · rw [if_pos (by omega)]; exact hr x (y - 1) hx (by omega) (by omega)
  · rw [if_pos (show i < y ∧ y ≤ m by omega)]
    by_cases e3 : x = i
    · rw [if_neg (by omega), if_pos e3]; exact hw.asym _ _ (h2 (y - 1) (by omega) (by omega))
    · rw [if_pos (by omega)]; exact hr (x - 1) (y - 1) (by omega) (by omega) (by omega)
/-! ### Merging by rotation -/
/-- both halves behind the rotation are two runs each, and the left is nowhere greater than the right -/
theorem rot_halves {m mid s e : Nat} (hw : Wk R) (hA : SO R o a m) (hB : SO R o m b) (ha : a ≤ s) (hs : s ≤ m) (he : m ≤ e) (hb : e ≤ b) (hmid : s + (e - m) = mid)
    (h1 : a < s → e < b → R (o e) (o (s - 1)) = false) (h2 : s < m → m < e → R (o (e - 1)) (o s) = true) :
    SO R (rot o s m e) a s ∧ SO R (rot o s m e) s mid ∧ SO R (rot o s m e) mid e ∧ SO R (rot o s m e) e b ∧ (∀ x y, a ≤ x → x < mid → mid ≤ y → y < b → R (rot o s m e y) (rot o s m e x) = false) := by
  have r1 : ∀ x, x < s → rot o s m e x = o x := fun x hx => by unfold rot; rw [if_neg (by omega)]
  have r2 : ∀ x, s ≤ x → x < mid → rot o s m e x = o (m + (x - s)) := fun x hx hx2 => by unfold rot; rw [if_pos (by omega), if_pos (by omega)]
  have r3 : ∀ x, mid ≤ x → x < e → rot o s m e x = o (s + (x - mid)) := fun x hx hx2 => by unfold rot; rw [if_pos (by omega), if_neg (by omega)]; congr 1; omega
  have r4 : ∀ x, e ≤ x → rot o s m e x = o x := fun x hx => by unfold rot; rw [if_neg (by omega)]
  refine ⟨fun x y g1 g2 g3 => ?_, fun x y g1 g2 g3 => ?_, fun x y g1 g2 g3 => ?_, fun x y g1 g2 g3 => ?_, fun x y g1 g2 g3 g4 => ?_⟩
  · rw [r1 x (by omega), r1 y g3]; exact hA x y g1 g2 (by omega)
  · rw [r2 x g1 (by omega), r2 y (by omega) g3]; exact hB _ _ (by omega) (by omega) (by omega)
  · rw [r3 x g1 (by omega), r3 y (by omega) g3]; exact hA _ _ (by omega) (by omega) (by omega)
  · rw [r4 x g1, r4 y (by omega)]; exact hB _ _ (by omega) (by omega) (by omega)
  · by_cases c1 : x < s
    · rw [r1 x c1]
      by_cases c2 : y < e
      · rw [r3 y g3 c2]; exact hA.le hw g1 (by omega) (by omega)
      · rw [r4 y (by omega)]
        exact hw.trans _ _ _ (hw.trans _ _ _ (hA.le hw g1 (show x ≤ s - 1 by omega) (by omega)) (h1 (by omega) (by omega))) (hB.le hw (by omega) (show e ≤ y by omega) g4)
    · rw [r2 x (by omega) g2]
      by_cases c2 : y < e
      · rw [r3 y g3 c2]
        exact hw.trans _ _ _ (hw.trans _ _ _ (hB.le hw (by omega) (show m + (x - s) ≤ e - 1 by omega) (by omega)) (hw.asym _ _ (h2 (by omega) (by omega)))) (hA.le hw (by omega) (show s ≤ s + (y - mid) by omega) (by omega))
      · rw [r4 y (by omega)]; exact hB.le hw (by omega) (by omega) (by omega)
/-- the halves, merged each by itself, are one run -/
theorem PS.halves {mid : Nat} {o1 o2 : Nat → α} (h : ∀ x y, a ≤ x → x < mid → mid ≤ y → y < b → R (o y) (o x) = false) (hm : a ≤ mid ∧ mid ≤ b) (p1 : PS a mid o o1) (p2 : PS mid b o1 o2) (s1 : SO R o1 a mid) (s2 : SO R o2 mid b) : SO R o2 a b := fun x y hx hxy hy => by
  by_cases c1 : y < mid
  · have e1 := p2.out (k := x) (.inl (by omega))
    have e2 := p2.out (k := y) (.inl c1)
    rw [e1, e2]; exact s1 x y hx hxy c1
  · by_cases c2 : mid ≤ x
    · exact s2 x y c2 hxy hy
    · obtain ⟨u, hu1, hu2, hu⟩ := p1.img hx (show x < mid by omega)
      obtain ⟨v, hv1, hv2, hv⟩ := p2.img (show mid ≤ y by omega) hy
      have e1 := p2.out (k := x) (.inl (by omega))
      have e2 := p1.out (k := v) (.inr hv1)
      rw [e1, hu, hv, e2]
      exact h u v hu1 hu2 hv1 hv2
end
end Go.Proofs.Ytiidmiebckkloaa

namespace Go.Proofs.Ytiidmiebckkloaa
set_option linter.unusedVariables false
set_option linter.unusedSimpArgs false

section
variable {α : Type} {o o' o0 : Nat → α} {R R' : α → α → Bool} {a b m i j k n t B : Nat}
theorem SO.high (hw : Wk R) (h : SO R o a b) {x y : Nat} {z : α} (h1 : a ≤ x) (h2 : x ≤ y) (h3 : y < b) (hx : R (o x) z = false) : R (o y) z = false :=
  hw.trans _ _ _ hx (h.le hw h1 h2 h3)
theorem SO.low (hw : Wk R) (h : SO R o a b) {x y : Nat} {z : α} (h1 : a ≤ x) (h2 : x ≤ y) (h3 : y < b) (hy : R (o y) z = true) : R (o x) z = true := by
  cases hx : R (o x) z with
  | true => rfl
  | false => rw [h.high hw h1 h2 h3 hx] at hy; cases hy
theorem SO.over (hw : Wk R) (h : SO R o a b) {x y : Nat} {z : α} (h1 : a ≤ x) (h2 : x ≤ y) (h3 : y < b) (hy : R z (o y) = false) : R z (o x) = false :=
  hw.trans _ _ _ (h.le hw h1 h2 h3) hy
theorem SO.under (hw : Wk R) (h : SO R o a b) {x y : Nat} {z : α} (h1 : a ≤ x) (h2 : x ≤ y) (h3 : y < b) (hx : R z (o x) = true) : R z (o y) = true := by
  cases hy : R z (o y) with
  | true => rfl
  | false => rw [h.over hw h1 h2 h3 hy] at hx; cases hx
/-- what is compared across a place is compared alike by both -/
def XC (R R' : α → α → Bool) (o : Nat → α) (a m b : Nat) : Prop := ∀ x y, a ≤ x → x < m → m ≤ y → y < b → R (o y) (o x) = R' (o y) (o x)
theorem XC.self : XC R R o a m b := fun _ _ _ _ _ _ => rfl
/-- a rotation that moves nothing -/
theorem rot_nil {s e : Nat} (h : s = m ∨ e = m) (hs : s ≤ m) (he : m ≤ e) : rot o s m e = o := by
  funext k
  unfold rot
  rcases h with rfl | rfl
  · split
    · rename_i h1
      rw [if_pos (by omega)]
      congr 1
      omega
    · rfl
  · split
    · rename_i h1
      rw [if_neg (by omega)]
      congr 1
      omega
    · rfl
/-- behind a rotation: what is compared across, in both halves -/
theorem XC.rotate {mid s e : Nat} (h : XC R R' o a m b) (ha : a ≤ s) (hs : s ≤ m) (he : m ≤ e) (hb : e ≤ b) (hmid : s + (e - m) = mid) :
    XC R R' (rot o s m e) a s mid ∧ XC R R' (rot o s m e) mid e b := by
  have r1 : ∀ x, x < s → rot o s m e x = o x := fun x hx => by unfold rot; rw [if_neg (by omega)]
  have r2 : ∀ x, s ≤ x → x < mid → rot o s m e x = o (m + (x - s)) := fun x hx hx2 => by unfold rot; rw [if_pos (by omega), if_pos (by omega)]
  have r3 : ∀ x, mid ≤ x → x < e → rot o s m e x = o (s + (x - mid)) := fun x hx hx2 => by unfold rot; rw [if_pos (by omega), if_neg (by omega)]; congr 1; omega
  have r4 : ∀ x, e ≤ x → rot o s m e x = o x := fun x hx => by unfold rot; rw [if_neg (by omega)]
  refine ⟨fun x y h1 h2 h3 h4 => ?_, fun x y h1 h2 h3 h4 => ?_⟩
  · rw [r1 x h2, r2 y h3 h4]; exact h _ _ h1 (by omega) (by omega) (by omega)
  · rw [r3 x h1 h2, r4 y h3]; exact h _ _ (by omega) (by omega) (by omega) h4
theorem XC.ps {c d : Nat} (h : XC R R' o a m b) (hp : PS c d o o') (hd : b ≤ c ∨ d ≤ a) : XC R R' o' a m b := fun x y h1 h2 h3 h4 => by
  rw [hp.out (k := x) (by omega), hp.out (k := y) (by omega)]; exact h x y h1 h2 h3 h4
theorem SO.ps {c d : Nat} (h : SO R o a b) (hp : PS c d o o') (hd : b ≤ c ∨ d ≤ a) : SO R o' a b := h.congr fun k h1 h2 => hp.out (by omega)
theorem rot_ps {s e : Nat} (hs : s ≤ m) (he : m ≤ e) (h : ∃ o2, PS s e o o2 ∧ o2 = rot o s m e) : PS s e o (rot o s m e) := by
  obtain ⟨o2, h1, h2⟩ := h
  exact h2 ▸ h1
theorem mvL_ps (ha : a ≤ k) (hk : k ≤ m) (hb : m < b) : PS a b o (mvL o m k) := by
  have key : ∀ d k, k + d = m → a ≤ k → PS a b o (mvL o m k) := by
    intro d
    induction d with
    | zero => intro k h1 h2; obtain rfl : k = m := by omega
              rw [mvL_zero]; exact .refl
    | succ d ih =>
      intro k h1 h2
      have := mvL_step (o := o) (m := m) (k := k + 1) (by omega) (by omega)
      rw [Nat.add_sub_cancel] at this
      rw [← this]
      exact .swap _ _ (by omega) (by omega) (ih (k + 1) (by omega) (by omega))
  exact key (m - k) k (by omega) ha
theorem mvR_ps (hk : i ≤ k) (ha : a ≤ i) (hb : k < b) : PS a b o (mvR o i k) := by
  have key : ∀ d, i + d < b → PS a b o (mvR o i (i + d)) := by
    intro d
    induction d with
    | zero => intro _; rw [Nat.add_zero, mvR_zero]; exact .refl
    | succ d ih =>
      intro h
      have := mvR_step (o := o) (a := i) (k := i + d) (by omega)
      rw [← Nat.add_assoc, ← this]
      exact .swap _ _ (by omega) (by omega) (ih (by omega))
  have := key (k - i) (by omega)
  rwa [show i + (k - i) = k by omega] at this
/-- a round of the insertion: where the element at i goes -/
theorem ins_cmp (hX : ∀ x y, a ≤ x → x < y → y < b → R (o0 y) (o0 x) = R' (o0 y) (o0 x)) (hp : PS a i o0 o) (ha : a < j) (hj : j ≤ i) (hb : i < b) :
    R (mvL o i j j) (mvL o i j (j - 1)) = R' (o i) (o (j - 1)) ∧ mvL o i j j = o i ∧ mvL o i j (j - 1) = o (j - 1) := by
  have e1 : mvL o i j j = o i := by unfold mvL; rw [if_neg (by omega), if_pos rfl]
  have e2 : mvL o i j (j - 1) = o (j - 1) := by unfold mvL; rw [if_neg (by omega), if_neg (by omega)]
  refine ⟨?_, e1, e2⟩
  rw [e1, e2, hp.out (k := i) (.inr (Nat.le_refl _))]
  obtain ⟨x, hx1, hx2, hx⟩ := hp.img (k := j - 1) (by omega) (by omega)
  rw [hx]
  exact hX x i hx1 hx2 hb
theorem ins_done (hw : Wk R') (hs : SO R' o a i) (hj : a ≤ j) (hji : j ≤ i) (hgt : ∀ x, j ≤ x → x < i → R' (o i) (o x) = true) (hl : a < j → R' (o i) (o (j - 1)) = false) : SO R' (mvL o i j) a (i + 1) :=
  mvL_so hw hs ⟨hj, hji⟩ (fun x h1 h2 => hs.over hw h1 (show x ≤ j - 1 by omega) (by omega) (hl (by omega))) hgt
end
/-! ### What lies before a place lay before it at the start, where each place held its own number -/
section
variable {o o' : Nat → Nat} {R R' : Nat → Nat → Bool} {a b m i j k n t B : Nat}
structure SPL (o : Nat → Nat) (t : Nat) : Prop where
  lo : ∀ x, x < t → o x < t
  hi : ∀ y, t ≤ y → t ≤ o y
theorem SPL.id_ (t : Nat) : SPL (fun i => i) t := ⟨fun x h => h, fun y h => h⟩
theorem SPL.ps (h : SPL o t) (hp : PS a b o o') (ht : t ≤ a ∨ b ≤ t) : SPL o' t := by
  refine ⟨fun x hx => ?_, fun y hy => ?_⟩
  · by_cases hin : a ≤ x ∧ x < b
    · obtain ⟨z, hz1, hz2, hz⟩ := hp.img hin.1 hin.2
      rw [hz]; exact h.lo z (by omega)
    · rw [hp.out (by omega)]; exact h.lo x hx
  · by_cases hin : a ≤ y ∧ y < b
    · obtain ⟨z, hz1, hz2, hz⟩ := hp.img hin.1 hin.2
      rw [hz]; exact h.hi z (by omega)
    · rw [hp.out (by omega)]; exact h.hi y hy
/-- of the numbers: later ones against earlier ones are compared alike -/
def XA (R R' : Nat → Nat → Bool) (n : Nat) : Prop := ∀ x y, x < y → y < n → R y x = R' y x
theorem XA.self : XA R R n := fun _ _ _ _ => rfl
theorem XA.xc (h : XA R R' n) (hs : SPL o m) (hn : SPL o n) (hb : b ≤ n) : XC R R' o a m b := fun x y h1 h2 h3 h4 => by
  have e1 := hs.lo x h2
  have e2 := hs.hi y h3
  have e3 := hn.lo y (by omega)
  exact h _ _ (by omega) e3
/-- the runs of B, from the q'th on -/
structure BLK (R' : Nat → Nat → Bool) (n B : Nat) (o : Nat → Nat) (q : Nat) : Prop where
  ps : PS 0 n (fun i => i) o
  big : ∀ p, SPL o (p * (2 * B))
  small : ∀ p, 2 * q ≤ p → SPL o (p * B)
  done : ∀ p, p < q → SO R' o (p * (2 * B)) (min (p * (2 * B) + 2 * B) n)
  todo : ∀ p, 2 * q ≤ p → SO R' o (p * B) (min (p * B + B) n)
theorem BLK.spn (h : BLK R' n B o j) : SPL o n := (SPL.id_ n).ps h.ps (.inr (Nat.le_refl _))
/-- runs of B, all -/
structure BLA (R' : Nat → Nat → Bool) (n B : Nat) (o : Nat → Nat) : Prop where
  ps : PS 0 n (fun i => i) o
  spl : ∀ p, SPL o (p * B)
  so : ∀ p, SO R' o (p * B) (min (p * B + B) n)
theorem BLA.start (h : BLA R' n B o) : BLK R' n B o 0 :=
  ⟨h.ps, fun p => by rw [← Nat.mul_assoc]; exact h.spl _, fun p _ => h.spl p, fun p hp => by omega, fun p _ => h.so p⟩
theorem BLK.step (h : BLK R' n B o j) (hb : j * (2 * B) + B < n) {c : Nat} (hc : c = min (j * (2 * B) + 2 * B) n) (hp : PS (j * (2 * B)) c o o') (hs : SO R' o' (j * (2 * B)) c) : BLK R' n B o' (j + 1) := by
  have hB : ∀ p, 2 * (j + 1) ≤ p → j * (2 * B) + 2 * B ≤ p * B := fun p hp => by
    have h2 := Nat.mul_le_mul_right B hp
    have h1 : 2 * (j + 1) * B = j * (2 * B) + 2 * B := by rw [Nat.mul_comm 2 (j + 1), Nat.mul_assoc, Nat.succ_mul]
    omega
  have hBB : ∀ p, p < j → p * (2 * B) + 2 * B ≤ j * (2 * B) := fun p hp => by
    have h2 := Nat.mul_le_mul_right (2 * B) (show p + 1 ≤ j from hp)
    rw [Nat.succ_mul] at h2
    omega
  refine ⟨h.ps.trans (hp.wide (Nat.zero_le _) (by omega)), fun p => ?_, fun p hpj => ?_, fun p hpj => ?_, fun p hpj => ?_⟩
  · refine (h.big p).ps hp ?_
    by_cases hpj : p ≤ j
    · exact .inl (Nat.mul_le_mul_right _ hpj)
    · right
      have := Nat.mul_le_mul_right (2 * B) (show j + 1 ≤ p by omega)
      rw [Nat.succ_mul] at this
      omega
  · exact (h.small p (by omega)).ps hp (.inr (by have := hB p hpj; omega))
  · by_cases e : p = j
    · subst e; rw [← hc]; exact hs
    · exact (h.done p (by omega)).ps hp (.inl (by have := hBB p (by omega); omega))
  · exact (h.todo p (by omega)).ps hp (.inr (by have := hB p hpj; omega))
/-- the pair of runs that is merged next -/
theorem BLK.runs (h : BLK R' n B o j) (hb : j * (2 * B) + B < n) (hB : 0 < B) {c : Nat} (hc : c = min (j * (2 * B) + 2 * B) n) :
    j * (2 * B) + B < c ∧ SO R' o (j * (2 * B)) (j * (2 * B) + B) ∧ SO R' o (j * (2 * B) + B) c ∧ (XA R R' n → XC R R' o (j * (2 * B)) (j * (2 * B) + B) c) := by
  have e1 : 2 * j * B = j * (2 * B) := by rw [Nat.mul_comm 2 j, Nat.mul_assoc]
  have e2 : (2 * j + 1) * B = j * (2 * B) + B := by rw [Nat.succ_mul, e1]
  have h1 := h.todo (2 * j) (by omega)
  have h2 := h.todo (2 * j + 1) (by omega)
  have h3 := h.small (2 * j + 1) (by omega)
  rw [e1] at h1
  rw [e2] at h2 h3
  rw [Nat.min_eq_left (by omega)] at h1
  refine ⟨by omega, h1, ?_, fun hX => hX.xc h3 h.spn (by omega)⟩
  rw [show min (j * (2 * B) + B + B) n = c by omega] at h2
  exact h2
/-- behind the last pair: a run that has none beside it stays -/
theorem BLK.fin (h : BLK R' n B o j) (hb : n ≤ j * (2 * B) + B) : BLA R' n (2 * B) o := by
  refine ⟨h.ps, h.big, fun p => ?_⟩
  by_cases hp : p < j
  · exact h.done p hp
  · have h1 := h.todo (2 * p) (by omega)
    have e1 : 2 * p * B = p * (2 * B) := by rw [Nat.mul_comm 2 p, Nat.mul_assoc]
    rw [e1] at h1
    have h2 := Nat.mul_le_mul_right (2 * B) (show j ≤ p by omega)
    exact h1.sub (Nat.le_refl _) (by omega)
theorem BLA.end_ (h : BLA R' n B o) (hb : n ≤ B) : SO R' o 0 n := by
  have := h.so 0
  simp only [Nat.zero_mul, Nat.zero_add] at this
  rwa [Nat.min_eq_right hb] at this
/-- the first runs: by insertion -/
structure BLI (R' : Nat → Nat → Bool) (n B : Nat) (o : Nat → Nat) (q : Nat) : Prop where
  ps : PS 0 n (fun i => i) o
  spl : ∀ p, SPL o (p * B)
  so : ∀ p, p < q → SO R' o (p * B) (min (p * B + B) n)
  left : ∀ k, q * B ≤ k → o k = k
theorem BLI.start : BLI R' n B (fun i => i) 0 := ⟨.refl, fun _ => SPL.id_ _, fun p hp => by omega, fun _ _ => rfl⟩
theorem BLI.step (h : BLI R' n B o j) {c : Nat} (hc : c = min (j * B + B) n) (hcn : j * B ≤ n) (hp : PS (j * B) c o o') (hs : SO R' o' (j * B) c) : BLI R' n B o' (j + 1) := by
  have e : (j + 1) * B = j * B + B := Nat.succ_mul j B
  refine ⟨h.ps.trans (hp.wide (Nat.zero_le _) (by omega)), fun p => ?_, fun p hpj => ?_, fun k hk => ?_⟩
  · refine (h.spl p).ps hp ?_
    by_cases hpj : p ≤ j
    · exact .inl (Nat.mul_le_mul_right _ hpj)
    · right
      have := Nat.mul_le_mul_right B (show j + 1 ≤ p by omega)
      omega
  · by_cases e' : p = j
    · subst e'; rw [← hc]; exact hs
    · refine (h.so p (by omega)).ps hp (.inl ?_)
      have h2 := Nat.mul_le_mul_right B (show p + 1 ≤ j by omega)
      rw [Nat.succ_mul] at h2
      omega
  · rw [hp.out (by omega)]; exact h.left k (by omega)
theorem BLI.fin (h : BLI R' n B o j) (hb : n ≤ j * B) : BLA R' n B o := by
  refine ⟨h.ps, h.spl, fun p => ?_⟩
  by_cases hp : p < j
  · exact h.so p hp
  · have h2 := Nat.mul_le_mul_right B (show j ≤ p by omega)
    exact fun x y h1 h2 h3 => by omega
end
end Go.Proofs.Ytiidmiebckkloaa
/- Regions that draw their order and append one element to a row: the parts of memory as the class. -/
namespace Go.Proofs.Ytiidmiebckkloaa
open Go.RowKit
set_option linter.unusedVariables false
set_option linter.unusedSimpArgs false

def CS (F : Nat → Prop) (W : World) (L : List HA) (i el k n : Nat) (xs ys : List Value) (wq : World) : List Value → Prop
  | [] => St F W wq L
  | [v] => ∃ A', v = .slice A' 1 1 ∧ St F W wq (.row el k A' 1 1 ys :: L)
  | [u, _] => ∃ A' c' L', u = .slice A' (n + 1) c' ∧ setO L i (.row el k A' (n + 1) c' (xs ++ ys)) = some L' ∧ St F W wq L'
  | _ => False
section
variable {F : Nat → Prop} {W : World} {L : List HA} {i el k n : Nat} {xs ys : List Value} {wq w' : World} {τ : List Value}
theorem CS.gr (h : CS F W L i el k n xs ys wq τ) (g : Gr wq w') : CS F W L i el k n xs ys w' τ := by
  match τ, h with
  | [], h => exact St.gr (show St F W wq L from h) g
  | [v], ⟨A', e, h⟩ => exact ⟨A', e, h.gr g⟩
  | [u, v], ⟨A', c', L', e, hs, h⟩ => exact ⟨A', c', L', e, hs, h.gr g⟩
theorem setO_other : ∀ (L L' : List HA) (i j : Nat) (h : HA), setO L i h = some L' → j ≠ i → getO L' j = getO L j := by
  intro L
  induction L with
  | nil => intro L' i j h hs _; cases i <;> simp [setO] at hs
  | cons a L ih =>
    intro L' i j h hs hj
    cases i with
    | zero =>
      simp only [setO, Option.some.injEq] at hs
      subst hs
      cases j with
      | zero => exact absurd rfl hj
      | succ j => rfl
    | succ i =>
      simp only [setO] at hs
      cases hM : setO L i h with
      | none => rw [hM] at hs; cases hs
      | some M =>
        rw [hM] at hs
        obtain rfl := Option.some.inj hs
        cases j with
        | zero => rfl
        | succ j => exact ih M i j h hM (fun e => hj (by omega))
theorem CS.ok (h : CS F W L i el k n xs ys wq τ) {j : Nat} (hj : j ≠ i) {x : HA} (hx : getO L j = some x) : x.ok wq := by
  match τ, h with
  | [], h => exact St.ok (show St F W wq L from h) hx
  | [v], ⟨A', e, h⟩ => exact h.ok (i := j + 1) hx
  | [u, v], ⟨A', c', L', e, hs, h⟩ => exact h.ok (i := j) ((setO_other _ _ _ _ _ hs hj).trans hx)
theorem CS.frw (h : CS F W L i el k n xs ys wq τ) : Fr F W wq := by
  match τ, h with
  | [], h => exact St.fr (show St F W wq L from h)
  | [v], ⟨A', e, h⟩ => exact h.fr
  | [u, v], ⟨A', c', L', e, hs, h⟩ => exact h.fr
end
section
variable {P : Program} {e : Nat → Value} {d : Option Tmp} {ty : TypeId} {ps : String} {af : Array Edge} {F : Nat → Prop} {W wq : World} {L : List HA}
theorem to_buildCS {t el : TypeId} {i k n : Nat} {parts : List (Nat × Operand)} {z : Value} {l0 l xs : List Value} (hq : CS F W L i el k n xs l wq []) (hu : P.underlying t = some (.slice el)) (hs : ∀ w, (sizeOf el).run P w = .ok k w) (hz : ∀ w, (zeroValue el).run P w = .ok z w) (hk : z.cells.toList.length = k) (hk0 : Nat.beq (1 * k) 0 = false) (hn : Nat.ble (1 * k) 16777216 = true)
    (h1 : lay (fun i => some (i * k, k)) ((List.replicate 1 z.cells.toList).flatten) (evp e parts) = some l0) (h2 : fzl l0 = some l) (hl : Nat.beq l.length (1 * k) = true) :
    opTo P e ⟨d, .buildSlice t 1 parts.toArray, ty, ps, af, none⟩ wq (fun v w' => CS F W L i el k n xs l w' [v]) := by
  refine to_w (op_buildSlice hu hs hz hk hk0 hn h1 h2) ?_
  have S : St F W wq L := hq
  refine ⟨_, rfl, S.push (Gr.alloc _ _) (h := .row el k (some ⟨wq.heap.size, 0, none⟩) 1 1 l) (Row.of_blk (Blk.new _ _ _) (Nat.eq_of_beq_eq_true hl) (by unfold maxLen; omega)) (fun g hg => ?_)⟩
  have : wq.heap.size = g := by injection hg
  omega
theorem to_appCS {i : Nat} {s x : Operand} {t el bytes k n c : Nat} {A : Option Addr} {z v : Value} {xs ys : List Value} (hq : CS F W L i el k n xs ys wq [v]) (hi : getO L i = some (.row el k A n c xs)) (hf : ∀ h, ∃ L', setO L i h = some L')
    (hu : P.underlying t = some (.slice el)) (hI : (P.info? el).map (fun i => (i.zero, i.size, i.bytes)) = some (some z, k, bytes)) (hz : Nat.beq z.cells.size k = true) (hk : Nat.blt 0 k = true)
    (hs : ev e s = .slice A n c) (hx : ev e x = v) (hm : ys.length = 1 * k) (h1 : (ys.all fun v => v.oneCell') = true) (hb : (n + 1) * (bytes + 1) ≤ 140737488355328) :
    opTo P e ⟨d, .call ⟨.builtin .append, #[s, x], #[t, t]⟩, ty, ps, af, none⟩ wq (fun u w' => CS F W L i el k n xs ys w' [u, v]) := by
  obtain ⟨A6, rfl, S6⟩ := hq
  have hR : Rd wq A6 ys := (S6.row (i := 0) rfl).rd
  have S : St F W wq L := S6.drop 1
  obtain ⟨inf, hinf, hz0, hz1, hz2⟩ := info_parts hI
  have hk0 : 0 < k := Nat.le_of_ble_eq_true hk
  have hz' := Nat.eq_of_beq_eq_true hz
  have hb1 : (n + 1) * bytes ≤ 140737488355328 := Nat.le_trans (Nat.mul_le_mul_left _ (by omega)) hb
  have hb2 : n + 1 ≤ 140737488355328 := Nat.le_trans (Nat.le_mul_of_pos_right _ (by omega)) hb
  have hRow := S.row hi
  have hpos : 0 < ys.length := by omega
  obtain ⟨b, o, rfl⟩ := hR.someA hpos
  obtain ⟨v', w', hrun, ho, hg, _, hob⟩ := run_append_own_at (P := P) wq 0 t ty el inf z k bytes hu hinf hz0 hz1 hz2 hz' hk0 (.slice A n c) n xs hRow ⟨b, o, none⟩ 1 1 ys hm
    (fun j u hu => by rw [addr_add]; exact hR.cell rfl hu) (fun u hu => List.all_eq_true.1 h1 u hu) (by unfold maxLen; omega) hb1 (by omega)
  obtain ⟨A', c', rfl⟩ := Own.form ho
  have hRow' : Row w' el k A' (n + 1) c' (xs ++ ys) := ho
  obtain ⟨L', hL'⟩ := hf (.row el k A' (n + 1) c' (xs ++ ys))
  refine to_w (v := .slice A' (n + 1) c') (w' := w') ?_ ⟨A', c', L', rfl, hL', ?_⟩
  · simp [execOp, resolve, invoke, builtin, hs, hx, hrun]
  · refine S.set hi hL' (Fr.of_grown (F := fun g => ownA A g) hg (fun g e => ?_)) (fun g e => .inl e) hRow' (fun g e => ?_)
    · cases A with
      | none => cases e
      | some a => exact e
    · have e' : (Value.slice A' (n + 1) c').ownBlock = some g := by
        cases A' with
        | none => cases e
        | some a => exact e
      rw [e'] at hob
      rcases hob with h | h
      · left
        cases A with
        | none => cases h
        | some a => exact h.symm
      · injection h with h; right; omega
end
end Go.Proofs.Ytiidmiebckkloaa
/- Regions that draw their order: the tree of orders again, where what a special operation yielded is kept with the operation's number. (Printed from XTri, XTriB and XTriC.) -/
namespace Go.Proofs.Ytiidmiebckkloaa
open Go.RowKit
set_option linter.unusedVariables false
set_option linter.unusedSimpArgs false

inductive OT (α : Type) where
  | nil
  | one (i : α) (t : OT α)
  | two (i : α) (t : OT α) (j : α) (u : OT α)
def OT.path : OT Nat → List Nat
  | .nil => []
  | .one i t => i :: t.path
  | .two i t _ _ => i :: t.path
def OT.allB (p : Nat → Bool) : OT Nat → Bool
  | .nil => true
  | .one i t => p i && t.allB p
  | .two i t j u => p i && t.allB p && p j && u.allB p
def OT.fit (ops : Array Oper) : OT Nat → OT (Nat × Oper) → Prop
  | .nil, .nil => True
  | .one i t, .one p u => p.1 = i ∧ ops[i]? = some p.2 ∧ t.fit ops u
  | .two i t j u, .two p t' q u' => p.1 = i ∧ ops[i]? = some p.2 ∧ t.fit ops t' ∧ q.1 = j ∧ ops[j]? = some q.2 ∧ u.fit ops u'
  | _, _ => False
def pickO (l : List Oper) : OT Nat → OT (Nat × Oper)
  | .nil => .nil
  | .one i t => match l.drop i with
    | o :: _ => .one (i, o) (pickO l t)
    | [] => .nil
  | .two i t j u => match l.drop i, l.drop j with
    | o :: _, o' :: _ => .two (i, o) (pickO l t) (j, o') (pickO l u)
    | _, _ => .nil
theorem pickO_fit (l : List Oper) : ∀ t : OT Nat, t.allB (fun i => decide (i < l.length)) = true → t.fit l.toArray (pickO l t)
  | .nil, _ => trivial
  | .one i t, h => by
    simp only [OT.allB, Bool.and_eq_true, decide_eq_true_eq] at h
    simp only [pickO, List.drop_eq_getElem_cons h.1]
    exact ⟨rfl, by simp [h.1], pickO_fit l t h.2⟩
  | .two i t j u, h => by
    simp only [OT.allB, Bool.and_eq_true, decide_eq_true_eq] at h
    simp only [pickO, List.drop_eq_getElem_cons h.1.1.1, List.drop_eq_getElem_cons h.1.2]
    exact ⟨rfl, by simp [h.1.1.1], pickO_fit l t h.1.1.2, rfl, by simp [h.1.2], pickO_fit l u h.2⟩
section
variable {P : Program} {ops : Array Oper} {C : List Value → World → Prop} {sp : Nat → Bool}
def headOB (ops : Array Oper) (sp : Nat → Bool) (tl : List Nat) : OT Nat → Array Bool → Bool
  | .nil, listed => tailB ops tl listed
  | .one i t, listed => (match sp i with
    | true => decide (Region.ready .any ops listed = [i])
    | false => (Region.ready .any ops listed).contains i && Region.free .any ops listed i) && headOB ops sp tl t (listed.setIfInBounds i true)
  | .two i t j u, listed => decide (Region.ready .any ops listed = [i, j]) && decide (t.path.length = u.path.length) && headOB ops sp tl t (listed.setIfInBounds i true) && headOB ops sp tl u (listed.setIfInBounds j true)
def orderOB (ops : Array Oper) (sp : Nat → Bool) (t : OT Nat) (tl : List Nat) : Bool :=
  Region.noSelect ops && decide (t.path.length + tl.length = ops.size) && ((List.range ops.size).all fun i => t.path.contains i || tl.contains i) && t.allB (fun i => t.path.contains i) &&
  (tl.all fun x => t.path.all fun i => (ancsOf ops ops.size x).contains i) && (tl.all fun x => !t.path.contains x) && headOB ops sp tl t (Array.replicate ops.size false)
def wpO (P : Program) (ops : Array Oper) (C : List Value → World → Prop) (sp : Nat → Bool) (Lq : List Value → Act → Prop) : OT (Nat × Oper) → List Value → Act → Prop
  | .nil, σ, a => Lq σ a
  | .one p t, σ, a => wp1 P ops C sp p.1 p.2 (wpO P ops C sp Lq t) σ a
  | .two p t q u, σ, a => wp1 P ops C sp p.1 p.2 (wpO P ops C sp Lq t) σ a ∧ wp1 P ops C sp q.1 q.2 (wpO P ops C sp Lq u) σ a
theorem headO_lex {hd tl : List Nat} {Lq : List Value → Act → Prop} (hsel : Region.noSelect ops = true)
    (hcov : ∀ i, i < ops.size → i ∈ hd ∨ i ∈ tl) (hanc : ∀ t ∈ tl, ∀ i ∈ hd, i ∈ ancsOf ops ops.size t) (hdis : ∀ t ∈ tl, t ∉ hd) :
    ∀ (t : OT Nat) (lh : OT (Nat × Oper)) (listed : Array Bool) (σ : List Value) (a : Act), t.allB (fun i => hd.contains i) = true → t.fit ops lh → ClosedL ops listed → headOB ops sp tl t listed = true →
      wpO P ops C sp Lq lh σ a → headS P ops C sp hd (fun listed' σ' a' => tailB ops tl listed' = true ∧ Lq σ' a') t.path.length listed σ a
  | .nil, lh, listed, σ, a, _, hf, _, hB, hq => by
    cases lh with
    | nil => exact ⟨by simpa [headOB] using hB, hq⟩
    | one => exact hf.elim
    | two => exact hf.elim
  | .one i t, lh, listed, σ, a, hin, hf, hcl, hB, hq => by
    cases lh with
    | nil => exact hf.elim
    | two => exact hf.elim
    | one p u =>
      obtain ⟨i', o⟩ := p
      obtain ⟨hi, h0, hf⟩ := hf
      dsimp only at hi h0
      subst hi
      simp only [OT.allB, Bool.and_eq_true, List.contains_iff_mem] at hin
      simp only [headOB, Bool.and_eq_true] at hB
      have rec_ := fun σ a (hk : wpO P ops C sp Lq u σ a) (hr : i' ∈ Region.ready .any ops listed) => headO_lex hsel hcov hanc hdis t u _ σ a hin.2 hf (hcl.set hr) hB.2 hk
      cases hs : sp i' with
      | true =>
        rw [hs] at hB
        have hr : Region.ready .any ops listed = [i'] := by simpa using hB.1
        exact headS_alone h0 hin.1 hr hq (fun σ a hk => rec_ σ a hk (by rw [hr]; simp))
      | false =>
        rw [hs] at hB
        simp only [Bool.and_eq_true] at hB
        have hr : i' ∈ Region.ready .any ops listed := by simpa using hB.1.1
        exact headS_plain hsel hcov hanc hdis h0 hs hin.1 hcl hr hB.1.2 hq (fun σ a hk => rec_ σ a hk hr)
  | .two i t j u, lh, listed, σ, a, hin, hf, hcl, hB, hq => by
    cases lh with
    | nil => exact hf.elim
    | one => exact hf.elim
    | two p t' q u' =>
      obtain ⟨i', o⟩ := p
      obtain ⟨j', o'⟩ := q
      obtain ⟨hi, h0, hf, hj, h1, hf'⟩ := hf
      dsimp only at hi h0 hj h1
      subst hi hj
      simp only [OT.allB, Bool.and_eq_true, List.contains_iff_mem] at hin
      simp only [headOB, Bool.and_eq_true, decide_eq_true_eq] at hB
      obtain ⟨⟨⟨hr, hlen⟩, hB1⟩, hB2⟩ := hB
      have hi : i' ∈ Region.ready .any ops listed := by rw [hr]; simp
      have hj : j' ∈ Region.ready .any ops listed := by rw [hr]; simp
      refine ⟨by rw [hr]; simp, fun k hk => ?_⟩
      rw [hr] at hk
      simp only [List.mem_cons, List.not_mem_nil, or_false] at hk
      refine ⟨hk.elim (fun e => e ▸ hin.1.1.1) (fun e => e ▸ hin.1.2), ?_⟩
      by_cases hki : k = i'
      · subst hki
        exact sOp_of_wp1 h0 (fun σ a hk => headO_lex hsel hcov hanc hdis t t' _ σ a hin.1.1.2 hf (hcl.set hi) hB1 hk) hq.1
      · obtain rfl : k = j' := hk.elim (fun e => absurd e hki) id
        refine sOp_of_wp1 h1 (fun σ a hk => ?_) hq.2
        have := headO_lex hsel hcov hanc hdis u u' _ σ a hin.2 hf' (hcl.set hj) hB2 hk
        rw [← hlen] at this
        exact this
theorem wp_region_tree {ro : Option Nat} {id : Nat} {Q : Exit → Act → World → Prop} {a : Act} {w : World} {l : List Oper} (t : OT Nat) (tl : List Nat) (lh : OT (Nat × Oper)) (lt : List Oper) (hnd : (l.all fun o => !isDefer o.op) = true) (hm : P.follows .mixedOrders = true)
    (hB : orderOB l.toArray sp t tl = true) (hh : t.fit l.toArray lh) (ht : tl.map (l.toArray[·]?) = lt.map some) (hC : C [] w.drew)
    (h : wpO P l.toArray C sp (fun σ a' => ∀ w', C σ w' → wpListIn (wF ro) 0 P l.toArray Q lt a' w') lh [] a) : (Code.region id l.toArray true).wpIn (wF ro) 0 P Q a w := by
  simp only [orderOB, Bool.and_eq_true, decide_eq_true_eq] at hB
  obtain ⟨⟨⟨⟨⟨⟨hsel, hlen⟩, hcov⟩, hall⟩, hanc⟩, hdis⟩, hhd⟩ := hB
  have H := headO_lex (P := P) (C := C) (sp := sp) (Lq := fun σ a' => ∀ w', C σ w' → wpListIn (wF ro) 0 P l.toArray Q lt a' w') (hd := t.path) (tl := tl) hsel
    (fun i hi => by have := List.all_eq_true.1 hcov i (List.mem_range.2 hi); simpa using this)
    (fun t htl i hi => by have := List.all_eq_true.1 (List.all_eq_true.1 hanc t htl) i hi; simpa using this)
    (fun t htl => by have := List.all_eq_true.1 hdis t htl; simpa using this)
    t lh (Array.replicate l.toArray.size false) [] a hall hh
    (fun i hi => by
      have h0 : ∀ m j : Nat, (Array.replicate m false).getD j false = false := fun m j => by
        rcases Nat.lt_or_ge j m with h' | h'
        · simp [h']
        · simp [h']
      rw [h0] at hi
      cases hi) hhd h
  refine wpIn_region_any hm ?_
  have := wpAny_of_headS (Q' := Q) (ro := ro) (by simpa using hnd) (g := tl.length) (fun listed σ a' w' hw' hL => wpAnyIn_of_tail tl lt listed a' w' ht hL.1 (hL.2 w' hw')) _ _ _ _ _ hC H
  rw [hlen] at this
  exact this
/-- the same over a frame that is a function -/
def RO (P : Program) (ops : Array Oper) (C : List Value → World → Prop) (sp : Nat → Bool) (Q : List Value → (Nat → Value) → Prop) : OT (Nat × Oper) → List Value → (Nat → Value) → Prop
  | .nil, σ, e => Q σ e
  | .one p t, σ, e => R1P P ops C sp p.1 p.2 (RO P ops C sp Q t) σ e
  | .two p t q u, σ, e => R1P P ops C sp p.1 p.2 (RO P ops C sp Q t) σ e ∧ R1P P ops C sp q.1 q.2 (RO P ops C sp Q u) σ e
def OT.dstB (N : Nat) : OT (Nat × Oper) → Bool
  | .nil => true
  | .one p t => dstOk N p.2.dst && t.dstB N
  | .two p t q u => dstOk N p.2.dst && t.dstB N && dstOk N q.2.dst && u.dstB N
theorem wpO_of_RO {N : Nat} {df : List Deferred} {Q : List Value → (Nat → Value) → Prop} {Q' : List Value → Act → Prop} (hQ : ∀ σ e a, Rep N df e a → Q σ e → Q' σ a) :
    ∀ (t : OT (Nat × Oper)) (σ : List Value) (e : Nat → Value) (a : Act), t.dstB N = true → Rep N df e a → RO P ops C sp Q t σ e → wpO P ops C sp Q' t σ a
  | .nil, σ, e, a, _, hr, h => hQ σ e a hr h
  | .one p t, σ, e, a, hd, hr, h => by
    simp only [OT.dstB, Bool.and_eq_true] at hd
    exact wp1_of_R1P hd.1 hr (fun σ e a hr h => wpO_of_RO hQ t σ e a hd.2 hr h) h
  | .two p t q u, σ, e, a, hd, hr, h => by
    simp only [OT.dstB, Bool.and_eq_true] at hd
    exact ⟨wp1_of_R1P hd.1.1.1 hr (fun σ e a hr h => wpO_of_RO hQ t σ e a hd.1.1.2 hr h) h.1, wp1_of_R1P hd.1.2 hr (fun σ e a hr h => wpO_of_RO hQ u σ e a hd.2 hr h) h.2⟩
theorem fit_dst {N : Nat} {l : List Oper} (hk : (l.all fun o => dstOk N o.dst) = true) : ∀ (t : OT Nat) (lh : OT (Nat × Oper)), t.fit l.toArray lh → lh.dstB N = true
  | .nil, .nil, _ => rfl
  | .one i t, .one p u, h => by
    simp only [OT.dstB, Bool.and_eq_true]
    exact ⟨List.all_eq_true.1 hk p.2 (List.mem_of_getElem? (by simpa using h.2.1)), fit_dst hk t u h.2.2⟩
  | .two i t j u, .two p t' q u', h => by
    simp only [OT.dstB, Bool.and_eq_true]
    exact ⟨⟨⟨List.all_eq_true.1 hk p.2 (List.mem_of_getElem? (by simpa using h.2.1)), fit_dst hk t t' h.2.2.1⟩, List.all_eq_true.1 hk q.2 (List.mem_of_getElem? (by simpa using h.2.2.2.2.1))⟩, fit_dst hk u u' h.2.2.2.2.2⟩
  | .nil, .one _ _, h => h.elim
  | .nil, .two _ _ _ _, h => h.elim
  | .one _ _, .nil, h => h.elim
  | .one _ _, .two _ _ _ _, h => h.elim
  | .two _ _ _ _, .nil, h => h.elim
  | .two _ _ _ _, .one _ _, h => h.elim
theorem cw_tree {N : Nat} {Q : Exit → (Nat → Value) → World → Prop} {e : Nat → Value} {w : World} {id : Nat} {l : List Oper} (sp : List Nat) (t : OT Nat) (tl : List Nat) (hm : P.follows .mixedOrders = true)
    (hB : (orderOB l.toArray (fun i => sp.contains i) t tl && (t.allB fun i => decide (i < l.length)) && (tl.all fun i => decide (i < l.length))) = true) (hC : C [] w.drew)
    (h : RO P l.toArray C (fun i => sp.contains i) (fun σ e' => ∀ w', C σ w' → RW P l.toArray (fun e w => Q .normal e w) (pickL l tl) e' w') (pickO l t) [] e) : CW P N (.region id l.toArray true) Q e w := fun hk df a hr ro => by
  simp only [Bool.and_eq_true] at hB
  simp only [codeOk, Bool.and_eq_true] at hk
  have hsub : ((pickL l tl).all fun o => dstOk N o.dst) = true := by
    have h1 := pickL_map l tl hB.2
    refine List.all_eq_true.2 fun o ho => ?_
    have h2 : some o ∈ (pickL l tl).map some := List.mem_map.2 ⟨o, ho, rfl⟩
    rw [← h1] at h2
    obtain ⟨i, _, hi⟩ := List.mem_map.1 h2
    have h3 : l[i]? = some o := by simpa using hi
    exact List.all_eq_true.1 hk.1 o (List.mem_of_getElem? h3)
  have hsubd : ∀ is : List Nat, (is.all fun i => decide (i < l.length)) = true → ((pickL l is).all fun o => !isDefer o.op) = true := fun is his => by
    have h1 := pickL_map l is his
    refine List.all_eq_true.2 fun o ho => ?_
    have h2 : some o ∈ (pickL l is).map some := List.mem_map.2 ⟨o, ho, rfl⟩
    rw [← h1] at h2
    obtain ⟨i, _, hi⟩ := List.mem_map.1 h2
    have h3 : l[i]? = some o := by simpa using hi
    exact List.all_eq_true.1 hk.2 o (List.mem_of_getElem? h3)
  have hfit := pickO_fit l t hB.1.2
  refine wp_region_tree (C := C) t tl _ _ hk.2 hm hB.1.1 hfit (pickL_map l tl hB.2) hC ?_
  exact wpO_of_RO (fun σ e' a' hr' hq w' hw' => wpList_of_RW (fun e a w hr h => ⟨e, hr, h⟩) _ e' a' w' hsub (hsubd tl hB.2) hr' (hq w' hw')) _ [] e a (fit_dst hk.1 t _ hfit) hr h
variable {Qs : List Value → (Nat → Value) → Prop} {σ : List Value} {e : Nat → Value}
theorem ro_one {p : Nat × Oper} {t : OT (Nat × Oper)} (h : RS P ops C sp (fun σ e => RO P ops C sp Qs t σ e) [p] σ e) : RO P ops C sp Qs (.one p t) σ e := h
theorem ro_two {p q : Nat × Oper} {t u : OT (Nat × Oper)} (h1 : RS P ops C sp (fun σ e => RO P ops C sp Qs t σ e) [p] σ e) (h2 : RS P ops C sp (fun σ e => RO P ops C sp Qs u σ e) [q] σ e) : RO P ops C sp Qs (.two p t q u) σ e := ⟨h1, h2⟩
theorem ro_nil (h : Qs σ e) : RO P ops C sp Qs .nil σ e := h
end
end Go.Proofs.Ytiidmiebckkloaa

namespace Go.Proofs.Ytiidmiebckkloaa.TI
open Go.RowKit
set_option linter.unusedVariables false
set_option linter.unusedSimpArgs false
section
variable {P : Program} {ops : Array Oper} {C : List (Nat × Value) → World → Prop} {sp : Nat → Bool}
/-- Operation number i comes up in state 'a', the special ones so far having yielded σ. -/
def sOp (P : Program) (ops : Array Oper) (C : List (Nat × Value) → World → Prop) (sp : Nat → Bool) (i : Nat) (K : List (Nat × Value) → Act → Prop) (σ : List (Nat × Value)) (a : Act) : Prop :=
  match ops[i]? with
  | none => K σ a
  | some o =>
    if Region.wanted o (yielded ops a.tmps) then
      match sp i with
      | true => (∀ w, C σ w → yieldsTo P o a w fun v w' => C ((i, v) :: σ) w') ∧ ∀ v w', C ((i, v) :: σ) w' → K ((i, v) :: σ) (a.put o.dst v)
      | false => ∃ v, (∀ τ w, C τ w → yieldsTo P o a w fun u w' => u = v ∧ C τ w') ∧ K σ (a.put o.dst v)
    else K σ (a.put o.dst undef)
theorem sOp_mono {i : Nat} {a : Act} {σ : List (Nat × Value)} {K K' : List (Nat × Value) → Act → Prop} (h : ∀ σ a, K σ a → K' σ a) (hh : sOp P ops C sp i K σ a) : sOp P ops C sp i K' σ a := by
  unfold sOp at *
  split
  · rename_i ho; rw [ho] at hh; exact h _ _ hh
  · rename_i o ho
    rw [ho] at hh
    dsimp only at hh
    split
    · rename_i hw
      rw [if_pos hw] at hh
      cases hs : sp i with
      | true => rw [hs] at hh; exact ⟨hh.1, fun v w' hv => h _ _ (hh.2 v w' hv)⟩
      | false => rw [hs] at hh; exact ⟨hh.choose, hh.choose_spec.1, h _ _ hh.choose_spec.2⟩
    · rename_i hw; rw [if_neg hw] at hh; exact h _ _ hh
theorem wpOp_of_sOp {ro : Option Nat} (hnd : (ops.toList.all fun o => !isDefer o.op) = true) {i : Nat} {a : Act} {σ : List (Nat × Value)} {w : World} {K : List (Nat × Value) → Act → Prop} {K' : Act → World → Prop} {Q' : Exit → Act → World → Prop} (hw : C σ w) (h : ∀ σ a w', C σ w' → K σ a → K' a w') (hh : sOp P ops C sp i K σ a) : wpOpIn (wF ro) 0 P ops Q' i K' a w := by
  unfold sOp at hh
  unfold wpOpIn
  split
  · rename_i ho; rw [ho] at hh; exact h _ _ _ hw hh
  · rename_i o ho
    rw [ho] at hh
    dsimp only at hh
    split
    · rename_i hwn
      rw [if_pos hwn] at hh
      refine Oper.wpIn_of_wp (not_defer_at hnd ho) ?_
      cases hs : sp i with
      | true => rw [hs] at hh; exact wp_of_yieldsTo (hh.1 w hw) fun v w' hv => h _ _ _ hv (hh.2 v w' hv)
      | false =>
        rw [hs] at hh
        obtain ⟨v, h1, h2⟩ := hh
        exact wp_of_yieldsTo (h1 σ w hw) fun u w' ⟨hu, hc⟩ => by subst hu; exact h _ _ _ hc h2
    · rename_i hwn; rw [if_neg hwn] at hh; exact ⟨fun _ _ => trivial, h _ _ _ hw hh⟩

def headS (P : Program) (ops : Array Oper) (C : List (Nat × Value) → World → Prop) (sp : Nat → Bool) (hd : List Nat) (L : Array Bool → List (Nat × Value) → Act → Prop) : Nat → Array Bool → List (Nat × Value) → Act → Prop
  | 0, listed, σ, a => L listed σ a
  | f + 1, listed, σ, a => Region.ready .any ops listed ≠ [] ∧ ∀ i ∈ Region.ready .any ops listed, i ∈ hd ∧ sOp P ops C sp i (headS P ops C sp hd L f (listed.setIfInBounds i true)) σ a
theorem wpAny_of_headS {ro : Option Nat} (hnd : (ops.toList.all fun o => !isDefer o.op) = true) {hd : List Nat} {L : Array Bool → List (Nat × Value) → Act → Prop} {Q' : Exit → Act → World → Prop} {g : Nat} (hL : ∀ listed σ a w, C σ w → L listed σ a → wpAnyIn (wF ro) 0 P .any ops Q' g listed a w) :
    ∀ (f : Nat) (listed : Array Bool) (σ : List (Nat × Value)) (a : Act) (w : World), C σ w → headS P ops C sp hd L f listed σ a → wpAnyIn (wF ro) 0 P .any ops Q' (f + g) listed a w
  | 0, listed, σ, a, w, hw, h => by rw [Nat.zero_add]; exact hL _ _ _ _ hw h
  | f + 1, listed, σ, a, w, hw, h => by
    rw [show f + 1 + g = (f + g) + 1 by omega]
    exact ⟨fun h0 => absurd h0 h.1, fun i hi => wpOp_of_sOp hnd hw (fun σ a' w' hw' h' => wpAny_of_headS hnd hL f _ σ a' w' hw' h') (h.2 i hi).2⟩

/-- A plain operation yields v, whatever the class. -/
def YieldsS (P : Program) (ops : Array Oper) (C : List (Nat × Value) → World → Prop) (o : Oper) (v : Value) (a : Act) : Prop :=
  (Region.wanted o (yielded ops a.tmps) = true ∧ ∀ τ w, C τ w → yieldsTo P o a w fun u w' => u = v ∧ C τ w') ∨
  (Region.wanted o (yielded ops a.tmps) = false ∧ v = undef)
theorem YieldsS.sOp {i : Nat} {o : Oper} {v : Value} {a : Act} {σ : List (Nat × Value)} (hi : ops[i]? = some o) (hs : sp i = false) (hy : YieldsS P ops C o v a) {K : List (Nat × Value) → Act → Prop} (h : K σ (a.put o.dst v)) : sOp P ops C sp i K σ a := by
  unfold Go.Proofs.Ytiidmiebckkloaa.TI.sOp
  rw [hi]
  dsimp only
  rcases hy with ⟨hw, hv⟩ | ⟨hw, rfl⟩
  · rw [if_pos hw, hs]; exact ⟨v, hv, h⟩
  · rw [if_neg (by simp [hw])]; exact h
theorem YieldsS.of_same {o : Oper} {v : Value} {a a' : Act} (hy : YieldsS P ops C o v a) (he : execOp a'.eval o = execOp a.eval o)
    (hw : Region.wanted o (yielded ops a'.tmps) = Region.wanted o (yielded ops a.tmps)) : YieldsS P ops C o v a' := by
  unfold YieldsS yieldsTo at *
  rw [he, hw]
  exact hy
theorem sOp_put {j : Nat} {oi oj : Oper} {v : Value} {σ : List (Nat × Value)} (hj : ops[j]? = some oj) (hap : oi.apart ops oj = true)
    (hsi : ∀ cs b, oi.op ≠ .select cs b) (hsj : ∀ cs b, oj.op ≠ .select cs b) {K : List (Nat × Value) → Act → Prop} {a : Act}
    (hy : YieldsS P ops C oi v a) (h : sOp P ops C sp j K σ (a.put oi.dst v)) :
    sOp P ops C sp j (fun σ' a' => YieldsS P ops C oi v a' ∧ K σ' (a'.put oi.dst v)) σ a := by
  obtain ⟨h1, h2, h3⟩ := Oper.apart_spec hap
  have keep : ∀ u, YieldsS P ops C oi v (a.put oj.dst u) := fun u => hy.of_same (execOp_put oi hsi a oj.dst u h3) (wanted_put oi a oj.dst u h3)
  unfold sOp at *
  rw [hj] at h ⊢
  dsimp only at h ⊢
  rw [wanted_put oj a oi.dst v h1] at h
  split
  · rename_i hw
    rw [if_pos hw] at h
    cases hs : sp j with
    | true =>
      rw [hs] at h
      refine ⟨fun w hC => ?_, fun u w' hC => ⟨keep u, by rw [← Act.put_comm a v u h2]; exact h.2 u w' hC⟩⟩
      have := h.1 w hC
      unfold yieldsTo at *
      rwa [execOp_put oj hsj a oi.dst v h1] at this
    | false =>
      rw [hs] at h
      obtain ⟨u, hu, hn⟩ := h
      refine ⟨u, fun τ w hC => ?_, keep u, by rw [← Act.put_comm a v u h2]; exact hn⟩
      have := hu τ w hC
      unfold yieldsTo at *
      rwa [execOp_put oj hsj a oi.dst v h1] at this
  · rename_i hw
    rw [if_neg hw] at h
    exact ⟨keep _, by rw [← Act.put_comm a v undef h2]; exact h⟩

theorem headS_first {hd : List Nat} {L : Array Bool → List (Nat × Value) → Act → Prop} {i : Nat} {oi : Oper} {v : Value} (hi : ops[i]? = some oi) (hspi : sp i = false)
    (hsel : ∀ (j : Nat) (o : Oper) cs b, ops[j]? = some o → o.op ≠ .select cs b)
    (hhd : ∀ (listed : Array Bool), ClosedL ops listed → listed.getD i true = false → ∀ j ∈ Region.ready .any ops listed, j ∈ hd)
    (hdone : ∀ listed σ a, L listed σ a → ∀ j ∈ Region.ready .any ops listed, j ∉ hd) :
    ∀ (f : Nat) (listed : Array Bool) (σ : List (Nat × Value)) (a : Act), ClosedL ops listed →
      (∀ j oj, ops[j]? = some oj → j ≠ i → listed.getD j true = false → (∀ e ∈ oj.after, Region.binds .any e = true → e.on ≠ i) → oi.apart ops oj = true) →
      i ∈ Region.ready .any ops listed → YieldsS P ops C oi v a →
      headS P ops C sp hd L f (listed.setIfInBounds i true) σ (a.put oi.dst v) → headS P ops C sp hd L (f + 1) listed σ a := by
  intro f
  induction f with
  | zero =>
    intro listed σ a hcl _ hr hy H
    refine ⟨fun h => (by rw [h] at hr; cases hr), fun j hj => ?_⟩
    have hjh := hhd listed hcl (mem_ready.1 hr).1 j hj
    refine ⟨hjh, ?_⟩
    by_cases hji : j = i
    · subst hji; exact hy.sOp hi hspi H
    · exact absurd hjh (hdone _ _ _ H j (ready_mono hj hji))
  | succ f ih =>
    intro listed σ a hcl hfree hr hy H
    have hun := (mem_ready.1 hr).1
    refine ⟨fun h => (by rw [h] at hr; cases hr), fun j hj => ?_⟩
    refine ⟨hhd listed hcl hun j hj, ?_⟩
    by_cases hji : j = i
    · subst hji; exact hy.sOp hi hspi H
    · have h1 := (H.2 j (ready_mono hj hji)).2
      obtain ⟨hjun, oj, hoj, hall⟩ := mem_ready.1 hj
      have hnot : ∀ e ∈ oj.after, Region.binds .any e = true → e.on ≠ i := fun e he hb heq => by
        have h2 := hall e he hb
        rw [heq] at h2
        rcases Nat.lt_or_ge i listed.size with h' | h'
        · simp [h'] at hun h2; rw [hun] at h2; cases h2
        · simp [Array.getElem?_eq_none h'] at h2
      have h2 := sOp_put hoj (hfree j oj hoj hji hjun hnot) (fun cs b => hsel i oi cs b hi) (fun cs b => hsel j oj cs b hoj) hy h1
      have hfree' : ∀ k ok, ops[k]? = some ok → k ≠ i → (listed.setIfInBounds j true).getD k true = false →
          (∀ e ∈ ok.after, Region.binds .any e = true → e.on ≠ i) → oi.apart ops ok = true := fun k ok hk hki hun' hno => by
        refine hfree k ok hk hki ?_ hno
        by_cases hjk : j = k
        · subst hjk; exact hjun
        · rw [getD_set_ne true hjk] at hun'; exact hun'
      refine sOp_mono (fun σ' a' h3 => ih (listed.setIfInBounds j true) σ' a' (hcl.set hj) hfree' (ready_mono hr (Ne.symm hji)) h3.1 ?_) h2
      rw [Array.setIfInBounds_comm _ _ hji]
      exact h3.2

/-- one step of the walk -/
def wp1 (P : Program) (ops : Array Oper) (C : List (Nat × Value) → World → Prop) (sp : Nat → Bool) (i : Nat) (o : Oper) (K : List (Nat × Value) → Act → Prop) (σ : List (Nat × Value)) (a : Act) : Prop :=
  if Region.wanted o (yielded ops a.tmps) then
    match sp i with
    | true => (∀ w, C σ w → yieldsTo P o a w fun v w' => C ((i, v) :: σ) w') ∧ ∀ v w', C ((i, v) :: σ) w' → K ((i, v) :: σ) (a.put o.dst v)
    | false => ∃ v, (∀ τ w, C τ w → yieldsTo P o a w fun u w' => u = v ∧ C τ w') ∧ K σ (a.put o.dst v)
  else K σ (a.put o.dst undef)
theorem sOp_of_wp1 {i : Nat} {o : Oper} {K K' : List (Nat × Value) → Act → Prop} {σ : List (Nat × Value)} {a : Act} (h0 : ops[i]? = some o) (hK : ∀ σ a, K σ a → K' σ a) (h : wp1 P ops C sp i o K σ a) : sOp P ops C sp i K' σ a := by
  refine sOp_mono hK ?_
  unfold sOp
  rw [h0]
  exact h
/-- a plain step, moved ahead of all -/
theorem headS_plain {hd tl : List Nat} {Lq : List (Nat × Value) → Act → Prop} (hsel : Region.noSelect ops = true)
    (hcov : ∀ i, i < ops.size → i ∈ hd ∨ i ∈ tl) (hanc : ∀ t ∈ tl, ∀ i ∈ hd, i ∈ ancsOf ops ops.size t) (hdis : ∀ t ∈ tl, t ∉ hd)
    {i : Nat} {o : Oper} {f : Nat} {listed : Array Bool} {σ : List (Nat × Value)} {a : Act} (h0 : ops[i]? = some o) (hs : sp i = false) (hin : i ∈ hd) (hcl : ClosedL ops listed) (hr : i ∈ Region.ready .any ops listed) (hf : Region.free .any ops listed i = true)
    {K : List (Nat × Value) → Act → Prop} (hq : wp1 P ops C sp i o K σ a) (rec_ : ∀ σ a, K σ a → headS P ops C sp hd (fun listed' σ' a' => tailB ops tl listed' = true ∧ Lq σ' a') f (listed.setIfInBounds i true) σ a) :
    headS P ops C sp hd (fun listed' σ' a' => tailB ops tl listed' = true ∧ Lq σ' a') (f + 1) listed σ a := by
  unfold wp1 at hq
  rw [hs] at hq
  have hy : ∃ v, YieldsS P ops C o v a ∧ K σ (a.put o.dst v) := by
    by_cases hw : Region.wanted o (yielded ops a.tmps) = true
    · rw [if_pos hw] at hq
      obtain ⟨v, h1, h2⟩ := hq
      exact ⟨v, .inl ⟨hw, h1⟩, h2⟩
    · rw [if_neg hw] at hq
      exact ⟨undef, .inr ⟨by simpa using hw, rfl⟩, hq⟩
  obtain ⟨v, hy, hK⟩ := hy
  refine headS_first h0 hs (Region.noSelect_spec hsel) ?_ ?_ f listed σ a hcl (Region.free_spec h0 hf) hr hy (rec_ _ _ hK)
  · intro listed' hcl' hun j hj
    obtain ⟨_, oj, hoj, _⟩ := mem_ready.1 hj
    have hjs : j < ops.size := (Array.getElem?_eq_some_iff.1 hoj).1
    rcases hcov j hjs with hh | hh
    · exact hh
    · have hl1 := ancs_listed hcl' ops.size j (preds_ready hj) i (hanc j hh i hin)
      rcases Nat.lt_or_ge i listed'.size with h' | h'
      · simp [h'] at hun hl1; rw [hun] at hl1; cases hl1
      · simp [Array.getElem?_eq_none h'] at hl1
  · intro listed' σ' a' hL j hj hjh
    have hB := hL.1
    cases htl : tl with
    | nil => simp only [htl, tailB, List.isEmpty_iff] at hB; rw [hB] at hj; cases hj
    | cons t tl' =>
      simp only [htl, tailB, Bool.and_eq_true, decide_eq_true_eq] at hB
      rw [hB.1] at hj
      have : j = t := by simpa using hj
      subst this
      exact hdis j (by simp [htl]) hjh
/-- a special step, alone -/
theorem headS_alone {hd : List Nat} {L : Array Bool → List (Nat × Value) → Act → Prop} {i : Nat} {o : Oper} {f : Nat} {listed : Array Bool} {σ : List (Nat × Value)} {a : Act} (h0 : ops[i]? = some o) (hin : i ∈ hd) (hr : Region.ready .any ops listed = [i])
    {K : List (Nat × Value) → Act → Prop} (hq : wp1 P ops C sp i o K σ a) (rec_ : ∀ σ a, K σ a → headS P ops C sp hd L f (listed.setIfInBounds i true) σ a) : headS P ops C sp hd L (f + 1) listed σ a := by
  refine ⟨by rw [hr]; simp, fun j hj => ?_⟩
  rw [hr] at hj
  obtain rfl : j = i := by simpa using hj
  exact ⟨hin, sOp_of_wp1 h0 rec_ hq⟩
def headOB (ops : Array Oper) (sp : Nat → Bool) (tl : List Nat) : OT Nat → Array Bool → Bool
  | .nil, listed => tailB ops tl listed
  | .one i t, listed => (match sp i with
    | true => decide (Region.ready .any ops listed = [i])
    | false => (Region.ready .any ops listed).contains i && Region.free .any ops listed i) && headOB ops sp tl t (listed.setIfInBounds i true)
  | .two i t j u, listed => decide (Region.ready .any ops listed = [i, j]) && decide (t.path.length = u.path.length) && headOB ops sp tl t (listed.setIfInBounds i true) && headOB ops sp tl u (listed.setIfInBounds j true)
def orderOB (ops : Array Oper) (sp : Nat → Bool) (t : OT Nat) (tl : List Nat) : Bool :=
  Region.noSelect ops && decide (t.path.length + tl.length = ops.size) && ((List.range ops.size).all fun i => t.path.contains i || tl.contains i) && t.allB (fun i => t.path.contains i) &&
  (tl.all fun x => t.path.all fun i => (ancsOf ops ops.size x).contains i) && (tl.all fun x => !t.path.contains x) && headOB ops sp tl t (Array.replicate ops.size false)
def wpO (P : Program) (ops : Array Oper) (C : List (Nat × Value) → World → Prop) (sp : Nat → Bool) (Lq : List (Nat × Value) → Act → Prop) : OT (Nat × Oper) → List (Nat × Value) → Act → Prop
  | .nil, σ, a => Lq σ a
  | .one p t, σ, a => wp1 P ops C sp p.1 p.2 (wpO P ops C sp Lq t) σ a
  | .two p t q u, σ, a => wp1 P ops C sp p.1 p.2 (wpO P ops C sp Lq t) σ a ∧ wp1 P ops C sp q.1 q.2 (wpO P ops C sp Lq u) σ a
theorem headO_lex {hd tl : List Nat} {Lq : List (Nat × Value) → Act → Prop} (hsel : Region.noSelect ops = true)
    (hcov : ∀ i, i < ops.size → i ∈ hd ∨ i ∈ tl) (hanc : ∀ t ∈ tl, ∀ i ∈ hd, i ∈ ancsOf ops ops.size t) (hdis : ∀ t ∈ tl, t ∉ hd) :
    ∀ (t : OT Nat) (lh : OT (Nat × Oper)) (listed : Array Bool) (σ : List (Nat × Value)) (a : Act), t.allB (fun i => hd.contains i) = true → t.fit ops lh → ClosedL ops listed → headOB ops sp tl t listed = true →
      wpO P ops C sp Lq lh σ a → headS P ops C sp hd (fun listed' σ' a' => tailB ops tl listed' = true ∧ Lq σ' a') t.path.length listed σ a
  | .nil, lh, listed, σ, a, _, hf, _, hB, hq => by
    cases lh with
    | nil => exact ⟨by simpa [headOB] using hB, hq⟩
    | one => exact hf.elim
    | two => exact hf.elim
  | .one i t, lh, listed, σ, a, hin, hf, hcl, hB, hq => by
    cases lh with
    | nil => exact hf.elim
    | two => exact hf.elim
    | one p u =>
      obtain ⟨i', o⟩ := p
      obtain ⟨hi, h0, hf⟩ := hf
      dsimp only at hi h0
      subst hi
      simp only [OT.allB, Bool.and_eq_true, List.contains_iff_mem] at hin
      simp only [headOB, Bool.and_eq_true] at hB
      have rec_ := fun σ a (hk : wpO P ops C sp Lq u σ a) (hr : i' ∈ Region.ready .any ops listed) => headO_lex hsel hcov hanc hdis t u _ σ a hin.2 hf (hcl.set hr) hB.2 hk
      cases hs : sp i' with
      | true =>
        rw [hs] at hB
        have hr : Region.ready .any ops listed = [i'] := by simpa using hB.1
        exact headS_alone h0 hin.1 hr hq (fun σ a hk => rec_ σ a hk (by rw [hr]; simp))
      | false =>
        rw [hs] at hB
        simp only [Bool.and_eq_true] at hB
        have hr : i' ∈ Region.ready .any ops listed := by simpa using hB.1.1
        exact headS_plain hsel hcov hanc hdis h0 hs hin.1 hcl hr hB.1.2 hq (fun σ a hk => rec_ σ a hk hr)
  | .two i t j u, lh, listed, σ, a, hin, hf, hcl, hB, hq => by
    cases lh with
    | nil => exact hf.elim
    | one => exact hf.elim
    | two p t' q u' =>
      obtain ⟨i', o⟩ := p
      obtain ⟨j', o'⟩ := q
      obtain ⟨hi, h0, hf, hj, h1, hf'⟩ := hf
      dsimp only at hi h0 hj h1
      subst hi hj
      simp only [OT.allB, Bool.and_eq_true, List.contains_iff_mem] at hin
      simp only [headOB, Bool.and_eq_true, decide_eq_true_eq] at hB
      obtain ⟨⟨⟨hr, hlen⟩, hB1⟩, hB2⟩ := hB
      have hi : i' ∈ Region.ready .any ops listed := by rw [hr]; simp
      have hj : j' ∈ Region.ready .any ops listed := by rw [hr]; simp
      refine ⟨by rw [hr]; simp, fun k hk => ?_⟩
      rw [hr] at hk
      simp only [List.mem_cons, List.not_mem_nil, or_false] at hk
      refine ⟨hk.elim (fun e => e ▸ hin.1.1.1) (fun e => e ▸ hin.1.2), ?_⟩
      by_cases hki : k = i'
      · subst hki
        exact sOp_of_wp1 h0 (fun σ a hk => headO_lex hsel hcov hanc hdis t t' _ σ a hin.1.1.2 hf (hcl.set hi) hB1 hk) hq.1
      · obtain rfl : k = j' := hk.elim (fun e => absurd e hki) id
        refine sOp_of_wp1 h1 (fun σ a hk => ?_) hq.2
        have := headO_lex hsel hcov hanc hdis u u' _ σ a hin.2 hf' (hcl.set hj) hB2 hk
        rw [← hlen] at this
        exact this
theorem wp_region_tree {ro : Option Nat} {id : Nat} {Q : Exit → Act → World → Prop} {a : Act} {w : World} {l : List Oper} (t : OT Nat) (tl : List Nat) (lh : OT (Nat × Oper)) (lt : List Oper) (hnd : (l.all fun o => !isDefer o.op) = true) (hm : P.follows .mixedOrders = true)
    (hB : orderOB l.toArray sp t tl = true) (hh : t.fit l.toArray lh) (ht : tl.map (l.toArray[·]?) = lt.map some) (hC : C [] w.drew)
    (h : wpO P l.toArray C sp (fun σ a' => ∀ w', C σ w' → wpListIn (wF ro) 0 P l.toArray Q lt a' w') lh [] a) : (Code.region id l.toArray true).wpIn (wF ro) 0 P Q a w := by
  simp only [orderOB, Bool.and_eq_true, decide_eq_true_eq] at hB
  obtain ⟨⟨⟨⟨⟨⟨hsel, hlen⟩, hcov⟩, hall⟩, hanc⟩, hdis⟩, hhd⟩ := hB
  have H := headO_lex (P := P) (C := C) (sp := sp) (Lq := fun σ a' => ∀ w', C σ w' → wpListIn (wF ro) 0 P l.toArray Q lt a' w') (hd := t.path) (tl := tl) hsel
    (fun i hi => by have := List.all_eq_true.1 hcov i (List.mem_range.2 hi); simpa using this)
    (fun t htl i hi => by have := List.all_eq_true.1 (List.all_eq_true.1 hanc t htl) i hi; simpa using this)
    (fun t htl => by have := List.all_eq_true.1 hdis t htl; simpa using this)
    t lh (Array.replicate l.toArray.size false) [] a hall hh
    (fun i hi => by
      have h0 : ∀ m j : Nat, (Array.replicate m false).getD j false = false := fun m j => by
        rcases Nat.lt_or_ge j m with h' | h'
        · simp [h']
        · simp [h']
      rw [h0] at hi
      cases hi) hhd h
  refine wpIn_region_any hm ?_
  have := wpAny_of_headS (Q' := Q) (ro := ro) (by simpa using hnd) (g := tl.length) (fun listed σ a' w' hw' hL => wpAnyIn_of_tail tl lt listed a' w' ht hL.1 (hL.2 w' hw')) _ _ _ _ _ hC H
  rw [hlen] at this
  exact this
def R1P (P : Program) (ops : Array Oper) (C : List (Nat × Value) → World → Prop) (sp : Nat → Bool) (i : Nat) (o : Oper) (K : List (Nat × Value) → (Nat → Value) → Prop) (σ : List (Nat × Value)) (e : Nat → Value) : Prop :=
  if wE ops e o = true then
    match sp i with
    | true => (∀ w, C σ w → opTo P e o w fun v w' => C ((i, v) :: σ) w') ∧ ∀ v w', C ((i, v) :: σ) w' → K ((i, v) :: σ) (updO e o.dst v)
    | false => ∃ v, (∀ τ w, C τ w → opTo P e o w fun u w' => u = v ∧ C τ w') ∧ K σ (updO e o.dst v)
  else K σ (updO e o.dst undef)
theorem wp1_of_R1P {N : Nat} {df : List Deferred} {i : Nat} {o : Oper} {K : List (Nat × Value) → (Nat → Value) → Prop} {K' : List (Nat × Value) → Act → Prop} {σ : List (Nat × Value)} {e : Nat → Value} {a : Act} (hd : dstOk N o.dst = true) (hr : Rep N df e a)
    (hK : ∀ σ e a, Rep N df e a → K σ e → K' σ a) (h : R1P P ops C sp i o K σ e) : wp1 P ops C sp i o K' σ a := by
  unfold wp1
  unfold R1P at h
  rw [hr.wanted]
  have hto : ∀ w R, opTo P e o w R → yieldsTo P o a w R := fun w R hh => by unfold yieldsTo; rw [hr.eval]; exact hh
  split
  · rename_i hw
    rw [if_pos hw] at h
    cases hs : sp i with
    | true =>
      rw [hs] at h
      exact ⟨fun w hC => hto _ _ (h.1 w hC), fun v w' hC => hK _ _ _ (hr.put hd v) (h.2 v w' hC)⟩
    | false =>
      rw [hs] at h
      obtain ⟨v, h1, h2⟩ := h
      exact ⟨v, fun τ w hC => hto _ _ (h1 τ w hC), hK _ _ _ (hr.put hd v) h2⟩
  · rename_i hw
    rw [if_neg hw] at h
    exact hK _ _ _ (hr.put hd undef) h
def RS (P : Program) (ops : Array Oper) (C : List (Nat × Value) → World → Prop) (sp : Nat → Bool) (Q : List (Nat × Value) → (Nat → Value) → Prop) : List (Nat × Oper) → List (Nat × Value) → (Nat → Value) → Prop
  | [], σ, e => Q σ e
  | (i, o) :: rest, σ, e =>
    if wE ops e o = true then
      match sp i with
      | true => (∀ w, C σ w → opTo P e o w fun v w' => C ((i, v) :: σ) w') ∧ ∀ v w', C ((i, v) :: σ) w' → RS P ops C sp Q rest ((i, v) :: σ) (updO e o.dst v)
      | false => ∃ v, (∀ τ w, C τ w → opTo P e o w fun u w' => u = v ∧ C τ w') ∧ RS P ops C sp Q rest σ (updO e o.dst v)
    else RS P ops C sp Q rest σ (updO e o.dst undef)
/-- the same over a frame that is a function -/
def RO (P : Program) (ops : Array Oper) (C : List (Nat × Value) → World → Prop) (sp : Nat → Bool) (Q : List (Nat × Value) → (Nat → Value) → Prop) : OT (Nat × Oper) → List (Nat × Value) → (Nat → Value) → Prop
  | .nil, σ, e => Q σ e
  | .one p t, σ, e => R1P P ops C sp p.1 p.2 (RO P ops C sp Q t) σ e
  | .two p t q u, σ, e => R1P P ops C sp p.1 p.2 (RO P ops C sp Q t) σ e ∧ R1P P ops C sp q.1 q.2 (RO P ops C sp Q u) σ e
theorem wpO_of_RO {N : Nat} {df : List Deferred} {Q : List (Nat × Value) → (Nat → Value) → Prop} {Q' : List (Nat × Value) → Act → Prop} (hQ : ∀ σ e a, Rep N df e a → Q σ e → Q' σ a) :
    ∀ (t : OT (Nat × Oper)) (σ : List (Nat × Value)) (e : Nat → Value) (a : Act), t.dstB N = true → Rep N df e a → RO P ops C sp Q t σ e → wpO P ops C sp Q' t σ a
  | .nil, σ, e, a, _, hr, h => hQ σ e a hr h
  | .one p t, σ, e, a, hd, hr, h => by
    simp only [OT.dstB, Bool.and_eq_true] at hd
    exact wp1_of_R1P hd.1 hr (fun σ e a hr h => wpO_of_RO hQ t σ e a hd.2 hr h) h
  | .two p t q u, σ, e, a, hd, hr, h => by
    simp only [OT.dstB, Bool.and_eq_true] at hd
    exact ⟨wp1_of_R1P hd.1.1.1 hr (fun σ e a hr h => wpO_of_RO hQ t σ e a hd.1.1.2 hr h) h.1, wp1_of_R1P hd.1.2 hr (fun σ e a hr h => wpO_of_RO hQ u σ e a hd.2 hr h) h.2⟩
theorem cw_tree {N : Nat} {Q : Exit → (Nat → Value) → World → Prop} {e : Nat → Value} {w : World} {id : Nat} {l : List Oper} (sp : List Nat) (t : OT Nat) (tl : List Nat) (hm : P.follows .mixedOrders = true)
    (hB : (orderOB l.toArray (fun i => sp.contains i) t tl && (t.allB fun i => decide (i < l.length)) && (tl.all fun i => decide (i < l.length))) = true) (hC : C [] w.drew)
    (h : RO P l.toArray C (fun i => sp.contains i) (fun σ e' => ∀ w', C σ w' → RW P l.toArray (fun e w => Q .normal e w) (pickL l tl) e' w') (pickO l t) [] e) : CW P N (.region id l.toArray true) Q e w := fun hk df a hr ro => by
  simp only [Bool.and_eq_true] at hB
  simp only [codeOk, Bool.and_eq_true] at hk
  have hsub : ((pickL l tl).all fun o => dstOk N o.dst) = true := by
    have h1 := pickL_map l tl hB.2
    refine List.all_eq_true.2 fun o ho => ?_
    have h2 : some o ∈ (pickL l tl).map some := List.mem_map.2 ⟨o, ho, rfl⟩
    rw [← h1] at h2
    obtain ⟨i, _, hi⟩ := List.mem_map.1 h2
    have h3 : l[i]? = some o := by simpa using hi
    exact List.all_eq_true.1 hk.1 o (List.mem_of_getElem? h3)
  have hsubd : ∀ is : List Nat, (is.all fun i => decide (i < l.length)) = true → ((pickL l is).all fun o => !isDefer o.op) = true := fun is his => by
    have h1 := pickL_map l is his
    refine List.all_eq_true.2 fun o ho => ?_
    have h2 : some o ∈ (pickL l is).map some := List.mem_map.2 ⟨o, ho, rfl⟩
    rw [← h1] at h2
    obtain ⟨i, _, hi⟩ := List.mem_map.1 h2
    have h3 : l[i]? = some o := by simpa using hi
    exact List.all_eq_true.1 hk.2 o (List.mem_of_getElem? h3)
  have hfit := pickO_fit l t hB.1.2
  refine wp_region_tree (C := C) t tl _ _ hk.2 hm hB.1.1 hfit (pickL_map l tl hB.2) hC ?_
  exact wpO_of_RO (fun σ e' a' hr' hq w' hw' => wpList_of_RW (fun e a w hr h => ⟨e, hr, h⟩) _ e' a' w' hsub (hsubd tl hB.2) hr' (hq w' hw')) _ [] e a (fit_dst hk.1 t _ hfit) hr h
/-! ### Steps -/
variable {Qs : List (Nat × Value) → (Nat → Value) → Prop} {σ : List (Nat × Value)} {e : Nat → Value} {i : Nat} {rest : List (Nat × Oper)}
variable {d : Option Tmp} {op : Op} {ty : TypeId} {ps : String} {af : Array Edge}
theorem RS_t {o : Oper} (h : wE ops e o = true) : RS P ops C sp Qs ((i, o) :: rest) σ e = match sp i with
      | true => (∀ w, C σ w → opTo P e o w fun v w' => C ((i, v) :: σ) w') ∧ ∀ v w', C ((i, v) :: σ) w' → RS P ops C sp Qs rest ((i, v) :: σ) (updO e o.dst v)
      | false => ∃ v, (∀ τ w, C τ w → opTo P e o w fun u w' => u = v ∧ C τ w') ∧ RS P ops C sp Qs rest σ (updO e o.dst v) := by rw [RS]; exact if_pos h
theorem RS_f {o : Oper} (h : wE ops e o = false) : RS P ops C sp Qs ((i, o) :: rest) σ e = RS P ops C sp Qs rest σ (updO e o.dst undef) := by rw [RS]; exact if_neg (by simp [h])
theorem rs_nil (h : Qs σ e) : RS P ops C sp Qs [] σ e := h
theorem rs_on {j : Nat} {b : Bool} (h : yE ops e j = some b) (hr : RS P ops C sp Qs ((i, ⟨d, op, ty, ps, af, none⟩) :: rest) σ e) : RS P ops C sp Qs ((i, ⟨d, op, ty, ps, af, some (j, b)⟩) :: rest) σ e := by
  rw [RS_t rfl] at hr
  rw [RS_t (by simp [wE, h])]
  exact hr
theorem rs_off {j : Nat} {b : Bool} (h : (yE ops e j == some b) = false) (hr : RS P ops C sp Qs rest σ (updO e d undef)) : RS P ops C sp Qs ((i, ⟨d, op, ty, ps, af, some (j, b)⟩) :: rest) σ e := by
  rw [RS_f (by simp [wE, h])]
  exact hr
theorem rs_r {v : Value} (hs : sp i = false) (h : ∀ τ w, C τ w → OpR P e ⟨d, op, ty, ps, af, none⟩ w v) (hr : RS P ops C sp Qs rest σ (updO e d v)) : RS P ops C sp Qs ((i, ⟨d, op, ty, ps, af, none⟩) :: rest) σ e := by
  rw [RS_t rfl, hs]
  refine ⟨v, fun τ w hC => ?_, hr⟩
  have := h τ w hC
  unfold OpR at this
  unfold opTo
  rw [this]
  exact ⟨rfl, hC⟩
theorem rs_v {v : Value} (hs : sp i = false) (h : OpV P e ⟨d, op, ty, ps, af, none⟩ v) (hr : RS P ops C sp Qs rest σ (updO e d v)) : RS P ops C sp Qs ((i, ⟨d, op, ty, ps, af, none⟩) :: rest) σ e := rs_r hs (fun _ w _ => h w) hr
/-- a plain call -/
theorem rs_call {f : FuncId} {args : List Operand} {tys : Array TypeId} {vs : List Value} {v : Value} (hs : sp i = false) (hv : fzl (args.map (ev e)) = some vs) (hc : ∀ τ w, C τ w → Fn P f vs w (fun v' w' => v' = v ∧ C τ w')) (hr : RS P ops C sp Qs rest σ (updO e d v)) :
    RS P ops C sp Qs ((i, ⟨d, .call ⟨.value (.func f), args.toArray, tys⟩, ty, ps, af, none⟩) :: rest) σ e := by
  have h0 := fzl_eq hv
  rw [RS_t rfl, hs]
  refine ⟨v, fun τ w hC => ?_, hr⟩
  have hrun : (execOp (ev e) ⟨d, .call ⟨.value (.func f), args.toArray, tys⟩, ty, ps, af, none⟩).run P w = .ok (.enter f vs.toArray) w := by
    have h1 : ev e (.func f) = .func (.func f) #[] #[] := rfl
    simp [execOp, resolve, h1, Deferred.ofValue, invoke, h0, run_callFunc_E (hc τ w hC).1]
  unfold opTo
  rw [hrun]
  exact (hc τ w hC).2
/-- a special operation: what it does is told as a step in order -/
theorem rs_special {o : Oper} (hs : sp i = true) (hw : wE ops e o = true) (h : ∀ w, C σ w → opTo P e o w fun v w' => C ((i, v) :: σ) w') (hr : ∀ v w', C ((i, v) :: σ) w' → RS P ops C sp Qs rest ((i, v) :: σ) (updO e o.dst v)) : RS P ops C sp Qs ((i, o) :: rest) σ e := by
  rw [RS_t hw, hs]
  exact ⟨h, hr⟩
theorem ro_one {p : Nat × Oper} {t : OT (Nat × Oper)} (h : RS P ops C sp (fun σ e => RO P ops C sp Qs t σ e) [p] σ e) : RO P ops C sp Qs (.one p t) σ e := h
theorem ro_two {p q : Nat × Oper} {t u : OT (Nat × Oper)} (h1 : RS P ops C sp (fun σ e => RO P ops C sp Qs t σ e) [p] σ e) (h2 : RS P ops C sp (fun σ e => RO P ops C sp Qs u σ e) [q] σ e) : RO P ops C sp Qs (.two p t q u) σ e := ⟨h1, h2⟩
theorem ro_nil (h : Qs σ e) : RO P ops C sp Qs .nil σ e := h
end
end Go.Proofs.Ytiidmiebckkloaa.TI
/- Two elements of a row change places, in whatever order the region draws: the parts of memory as the class. -/
namespace Go.Proofs.Ytiidmiebckkloaa
open Go.RowKit
set_option linter.unusedVariables false
set_option linter.unusedSimpArgs false

/-- what the two loads yielded; the one store that was made, or not -/
def SWC (F : Nat → Prop) (W : World) (L L1 : List HA) (p q s : Nat) (vp vq : Value) (σ : List (Nat × Value)) (w : World) : Prop :=
  (∀ x ∈ σ, (x.1 = p → x.2 = vp) ∧ (x.1 = q → x.2 = vq)) ∧ (if (σ.any fun x => Nat.beq x.1 s) = true then St F W w L1 else St F W w L)
section
variable {F : Nat → Prop} {W w w' : World} {L L1 : List HA} {p q s : Nat} {vp vq : Value} {σ : List (Nat × Value)}
theorem SWC.start (S : St F W w L) : SWC F W L L1 p q s vp vq [] w := ⟨fun x hx => (by cases hx), S⟩
theorem SWC.gr (h : SWC F W L L1 p q s vp vq σ w) (g : Gr w w') : SWC F W L L1 p q s vp vq σ w' := by
  refine ⟨h.1, ?_⟩
  have := h.2
  split at this
  · rename_i e; rw [if_pos e]; exact this.gr g
  · rename_i e; rw [if_neg e]; exact this.gr g
theorem SWC.st0 (h : SWC F W L L1 p q s vp vq σ w) (hs : (σ.any fun x => Nat.beq x.1 s) = false) : St F W w L := by
  have := h.2
  rw [if_neg (by rw [hs]; simp)] at this
  exact this
theorem SWC.st1 (h : SWC F W L L1 p q s vp vq σ w) (hs : (σ.any fun x => Nat.beq x.1 s) = true) : St F W w L1 := by
  have := h.2
  rw [if_pos hs] at this
  exact this
theorem SWC.first {v : Value} (h : SWC F W L L1 p q s vp vq ((p, v) :: σ) w) : v = vp := (h.1 (p, v) List.mem_cons_self).1 rfl
theorem SWC.second {v : Value} (h : SWC F W L L1 p q s vp vq ((q, v) :: σ) w) : v = vq := (h.1 (q, v) List.mem_cons_self).2 rfl
theorem SWC.push {k : Nat} {v : Value} (h : SWC F W L L1 p q s vp vq σ w) (h0 : (σ.any fun x => Nat.beq x.1 s) = false) (hk : Nat.beq k s = false) (h1 : (k = p → v = vp) ∧ (k = q → v = vq)) : SWC F W L L1 p q s vp vq ((k, v) :: σ) w := by
  refine ⟨fun x hx => ?_, ?_⟩
  · rcases List.mem_cons.1 hx with rfl | hx
    · exact h1
    · exact h.1 x hx
  · rw [if_neg (by rw [List.any_cons, h0, Bool.or_false]; simp only [hk]; simp)]; exact h.st0 h0
theorem SWC.made {v : Value} (h : SWC F W L L1 p q s vp vq σ w) (h1 : (s = p → v = vp) ∧ (s = q → v = vq)) (S : St F W w' L1) : SWC F W L L1 p q s vp vq ((s, v) :: σ) w' := by
  refine ⟨fun x hx => ?_, ?_⟩
  · rcases List.mem_cons.1 hx with rfl | hx
    · exact h1
    · exact h.1 x hx
  · rw [if_pos (by rw [List.any_cons]; simp)]; exact S
end
section
variable {P : Program} {e : Nat → Value} {d : Option Tmp} {ty : TypeId} {ps : String} {af : Array Edge} {F : Nat → Prop} {W w : World} {L L' : List HA} {R : Value → World → Prop}
theorem to_r {v : Value} {o : Oper} (h : OpR P e o w v) (hR : R v w) : opTo P e o w R := by
  unfold OpR at h
  unfold opTo
  generalize (execOp (ev e) o).run P w = r at *
  cases r with
  | ok n w' => cases n <;> simp_all
  | halt x w' => simp_all
/-- a step told by a walk's law is a step told by itself -/
theorem opTo_of_rw {op : Op} (hc : isCall op = false) (h : RW P #[] (fun e' w' => R (e' 0) w') [⟨some 0, op, ty, ps, af, none⟩] e w) : opTo P e ⟨d, op, ty, ps, af, none⟩ w R := by
  rw [RW_t rfl] at h
  unfold opNext at h
  unfold opTo
  have hx : execOp (ev e) ⟨some 0, op, ty, ps, af, none⟩ = execOp (ev e) ⟨d, op, ty, ps, af, none⟩ := by cases op <;> rfl
  rw [hx] at h
  generalize (execOp (ev e) ⟨d, op, ty, ps, af, none⟩).run P w = r at *
  cases r with
  | ok n w' =>
    cases n with
    | round l f tm sg bd => have h1 : isCall op = true := h.1; rw [hc] at h1; cases h1
    | value v => exact h
    | skip => exact h
    | enter f args => exact h
    | _ => exact h.elim
  | halt x w' => exact h.elim
theorem to_storeR {i : Nat} {t : TypeId} {x y : Operand} {el k n c j : Nat} {A : Option Addr} {xs : List Value} {v : Value} (S : St F W w L) (hi : getO L i = some (.row el k A n c xs)) (hz : (sizeOf t).run P w = .ok 1 w) (hx : ev e x = .pointer (at_ A j)) (hy : fz (ev e y) = some v) (hv : v.oneCell' = true) (hvc : v.cells = #[v]) (hj : j < xs.length)
    (hs : setO L i (.row el k A n c (xs.set j v)) = some L') (hr : ∀ w', St F W w' L' → R undef w') : opTo P e ⟨d, .store t x y, ty, ps, af, none⟩ w R :=
  opTo_of_rw rfl (rw_storeR S hi hz hx hy hv hvc hj hs (fun w' S' => hr w' S'))
theorem to_storeRA {i : Nat} {t : TypeId} {x y : Operand} {el k n c j s : Nat} {A : Option Addr} {xs cs : List Value} (S : St F W w L) (hi : getO L i = some (.row el k A n c xs)) (hz : (sizeOf t).run P w = .ok s w) (hx : ev e x = .pointer (at_ A j)) (hy : ev e y = .agg cs.toArray) (hcs : cs.length = s) (hone : (cs.all fun v => v.oneCell') = true) (hj : j + s ≤ xs.length)
    (hs : setO L i (.row el k A n c (xs.take j ++ cs ++ xs.drop (j + s))) = some L') (h0 : Nat.blt 0 s = true) (hr : ∀ w', St F W w' L' → R undef w') : opTo P e ⟨d, .store t x y, ty, ps, af, none⟩ w R :=
  opTo_of_rw rfl (rw_storeRA S hi hz hx hy hcs hone hj hs h0 (fun w' S' => hr w' S'))
end

/-! ### New parts side by side -/
def Mt (T : Nat → Value → HA → Prop) : List (Nat × Value) → List HA → Prop
  | [], [] => True
  | (k, v) :: σ, h :: Ps => T k v h ∧ Mt T σ Ps
  | _, _ => False
def CM (F : Nat → Prop) (W : World) (L : List HA) (T : Nat → Value → HA → Prop) (σ : List (Nat × Value)) (wq : World) : Prop := ∃ Ps, Mt T σ Ps ∧ St F W wq (Ps ++ L)
section
variable {F : Nat → Prop} {W wq w' : World} {L : List HA} {T : Nat → Value → HA → Prop} {σ : List (Nat × Value)}
theorem CM.start (S : St F W wq L) : CM F W L T [] wq := ⟨[], trivial, S⟩
theorem SepL.right {X : Nat → Prop} {w : World} : ∀ {Ps L : List HA}, SepL X w (Ps ++ L) → SepL X w L
  | [], _, h => h
  | _ :: Ps, _, h => SepL.right (Ps := Ps) h.2.2
theorem CM.st (h : CM F W L T σ wq) : St F W wq L := by
  obtain ⟨Ps, _, S⟩ := h
  exact ⟨S.fr, S.sep.right⟩
theorem CM.gr (h : CM F W L T σ wq) (g : Gr wq w') : CM F W L T σ w' := by
  obtain ⟨Ps, m, S⟩ := h
  exact ⟨Ps, m, S.gr g⟩
section
variable {P : Program} {e : Nat → Value} {d : Option Tmp} {ty : TypeId} {ps : String} {af : Array Edge}
theorem to_makeCM1 {t el : TypeId} {x y : Operand} {i bytes n c : Nat} {kl kc : IntKind} {z : Value} {m p : Int} (hq : CM F W L T σ wq) (hu : P.underlying t = some (.slice el)) (hI : (P.info? el).map (fun i => (i.zero, i.size, i.bytes)) = some (some z, 1, bytes)) (hz : z.cells = #[z])
    (hx : ev e x = .int kl m) (hy : ev e y = .int kc p) (hm : m = (n : Nat)) (hp : p = (c : Nat)) (hnc : n ≤ c) (hb : c * (bytes + 1) ≤ 140737488355328)
    (hT : ∀ A, SomeA A → T i (.slice A n c) (.row el 1 A n c (List.replicate n z))) : opTo P e ⟨d, .makeSlice t x y, ty, ps, af, none⟩ wq (fun v w' => CM F W L T ((i, v) :: σ) w') := by
  obtain ⟨Ps, hmt, S⟩ := hq
  exact opTo_of_rw rfl (rw_makeS1 hu hI hz hx hy hm hp hnc hb S (fun A w' g S' sa => ⟨_ :: Ps, ⟨hT A sa, hmt⟩, S'⟩))
end
/-- what another walk made, from a world of this one on -/
theorem SepL.app {X : Nat → Prop} {w0 w : World} : ∀ {P L : List HA}, SepL (fun g => No g ∨ w0.heap.size ≤ g) w P → SepL X w L → (∀ h ∈ L, ∀ g, h.own g → g < w0.heap.size) → (∀ g, w0.heap.size ≤ g → X g) → SepL X w (P ++ L)
  | [], _, _, h, _, _ => h
  | a :: P, L, hP, hL, hlt, hX => by
    refine ⟨⟨hP.1.1, fun g hg => hX g ((hP.1.2 g hg).elim (fun e => e.elim) id)⟩, fun g hg h hh => ?_, SepL.app hP.2.2 hL hlt hX⟩
    rcases List.mem_append.1 hh with hh | hh
    · exact hP.2.1 g hg h hh
    · intro ho
      have h1 := hlt h hh g ho
      have h2 := (hP.1.2 g hg).elim (fun e => e.elim) id
      omega
theorem SepL.ltL {X : Nat → Prop} {w : World} : ∀ {L : List HA}, SepL X w L → ∀ h ∈ L, ∀ g, h.own g → g < w.heap.size
  | a :: L, S, h, hh, g, ho => (List.mem_cons.1 hh).elim (fun e => by subst e; exact h.lt w S.1.1 g ho) (fun e => SepL.ltL S.2.2 h e g ho)
theorem St.app {w : World} {Q : List HA} (S : St F W w L) (S' : St No w w' Q) : St F W w' (Q ++ L) := by
  have g := S'.out
  have S1 := S.gr g
  exact ⟨S1.fr, SepL.app S'.sep S1.sep (S.sep.ltL) (fun g hg => .inr (Nat.le_trans S.le hg))⟩
end
end Go.Proofs.Ytiidmiebckkloaa
/- Rows of elements of some cells each, told by numbers; what a compare function tells. -/
namespace Go.Proofs.Ytiidmiebckkloaa
open Go.RowKit
set_option linter.unusedVariables false
set_option linter.unusedSimpArgs false

def rowE (enc : Nat → List Value) (n : Nat) (o : Nat → Nat) : List Value := ((List.range n).map fun i => enc (o i)).flatten
section
variable {enc : Nat → List Value} {n k i x : Nat} {o o' : Nat → Nat} {v : Value}
theorem rowE_succ (enc : Nat → List Value) (n : Nat) (o : Nat → Nat) : rowE enc (n + 1) o = rowE enc n o ++ enc (o n) := by
  unfold rowE
  rw [List.range_succ, List.map_append, List.flatten_append]
  simp
theorem rowE_congr (h : ∀ i, i < n → o i = o' i) : rowE enc n o = rowE enc n o' := by
  unfold rowE
  congr 1
  exact List.map_congr_left fun i hi => by rw [h i (List.mem_range.1 hi)]
theorem rowE_len (hk : ∀ i, (enc i).length = k) : ∀ n, (rowE enc n o).length = n * k
  | 0 => by simp [rowE]
  | n + 1 => by rw [rowE_succ, List.length_append, rowE_len hk n, hk, Nat.succ_mul]
theorem rowE_split (hk : ∀ i, (enc i).length = k) : ∀ n, i < n → ∃ A B, rowE enc n o = A ++ enc (o i) ++ B ∧ A.length = i * k ∧ ∀ x, rowE enc n (updF o i x) = A ++ enc x ++ B
  | 0, h => by omega
  | n + 1, h => by
    by_cases e : i = n
    · subst e
      refine ⟨rowE enc i o, [], by rw [rowE_succ, List.append_nil], rowE_len hk i, fun x => ?_⟩
      rw [rowE_succ, List.append_nil, updF_at, rowE_congr (o' := o) (fun j hj => updF_ne (by omega))]
    · obtain ⟨A, B, h1, h2, h3⟩ := rowE_split hk n (by omega)
      refine ⟨A, B ++ enc (o n), by rw [rowE_succ, h1]; simp, h2, fun x => ?_⟩
      rw [rowE_succ, h3 x, updF_ne (fun e' => e e'.symm)]
      simp
theorem rowE_one (h1 : ∀ i, (enc i).length = 1) (hi : i < n) (hv : enc (o i) = [v]) : (rowE enc n o)[((i : Nat) : Int).toNat * 1]? = some v := by
  obtain ⟨A, B, h, h2, _⟩ := rowE_split (o := o) h1 n hi
  rw [h, hv, Int.toNat_natCast, ← h2]
  simp
theorem rowE_get (hk : ∀ i, (enc i).length = k) (hi : i < n) : ((rowE enc n o).drop (((i : Nat) : Int).toNat * k)).take k = enc (o i) := by
  obtain ⟨A, B, h, h2, _⟩ := rowE_split (o := o) hk n hi
  rw [h, Int.toNat_natCast, ← h2, List.append_assoc, List.drop_left, List.take_left' (hk _)]
theorem rowE_set1 (h1 : ∀ i, (enc i).length = 1) (hi : i < n) (hv : enc x = [v]) : (rowE enc n o).set (((i : Nat) : Int).toNat * 1) v = rowE enc n (updF o i x) := by
  obtain ⟨A, B, h, h2, h3⟩ := rowE_split (o := o) h1 n hi
  have h4 := h1 (o i)
  obtain ⟨u, hu⟩ : ∃ u, enc (o i) = [u] := by
    cases he : enc (o i) with
    | nil => rw [he] at h4; cases h4
    | cons u r =>
      rw [he] at h4
      have : r = [] := List.eq_nil_of_length_eq_zero (by simpa using h4)
      subst this
      exact ⟨u, rfl⟩
  rw [h3 x, h, hu, hv, Int.toNat_natCast, ← h2]
  simp
theorem rowE_set (hk : ∀ i, (enc i).length = k) (hi : i < n) : (rowE enc n o).take (((i : Nat) : Int).toNat * k) ++ enc x ++ (rowE enc n o).drop (((i : Nat) : Int).toNat * k + k) = rowE enc n (updF o i x) := by
  obtain ⟨A, B, h, h2, h3⟩ := rowE_split (o := o) hk n hi
  rw [h3 x, h, Int.toNat_natCast, ← h2]
  have e1 : (A ++ enc (o i) ++ B).take A.length = A := by rw [List.append_assoc, List.take_left]
  have e2 : (A ++ enc (o i) ++ B).drop (A.length + k) = B := by
    have : A.length + k = (A ++ enc (o i)).length := by rw [List.length_append, hk]
    rw [this, List.drop_left]
  rw [e1, e2]
theorem PS.lt {a b : Nat} (h : PS a b o o') (hb : b ≤ n) (ho : ∀ i, i < n → o i < n) : ∀ i, i < n → o' i < n := fun i hi => by
  by_cases hin : a ≤ i ∧ i < b
  · obtain ⟨z, hz1, hz2, hz⟩ := h.img hin.1 hin.2
    rw [hz]; exact ho z (by omega)
  · rw [h.out (by omega)]; exact ho i hi
end
theorem updF_swp (o : Nat → Nat) (i j : Nat) : updF (updF o i (o j)) j (o i) = swp o i j := by
  funext k
  unfold updF swp
  by_cases e1 : k = j
  · rw [if_pos e1]
    by_cases e2 : k = i
    · rw [if_pos e2, ← e1, e2]
    · rw [if_neg e2, if_pos e1]
  · rw [if_neg e1]
    by_cases e2 : k = i
    · rw [if_pos e2, if_pos e2]
    · rw [if_neg e2, if_neg e2, if_neg e1]
theorem cw_cutQ {P : Program} {N : Nat} {e : Nat → Value} {w : World} {x : Code} {Q' : Exit → (Nat → Value) → World → Prop} (M : (Nat → Value) → World → Prop) (h1 : CW P N x (Then M (fun _ _ _ => False)) e w) (h2 : ∀ e' w', M e' w' → Q' .normal e' w') : CW P N x Q' e w :=
  h1.mono fun y e w h => by
    cases y with
    | normal => exact h2 e w h
    | _ => exact h.elim
/-- what a compare function tells of the elements, in all worlds where but F's blocks stand as in W -/
def Cmp (F : Nat → Prop) (W : World) (n fid : Nat) (caps : List Value) (val : Nat → Value) (cv : Nat → Nat → Int) : Prop :=
  ∀ w, Fr F W w → ∀ x y, x < n → y < n → Fn Try.prog fid ([] ++ [val x, val y] ++ caps) w (RetG (.int .i64 (cv x y)) w)
theorem Cmp.fr {F : Nat → Prop} {W w : World} {n fid : Nat} {caps : List Value} {val : Nat → Value} {cv : Nat → Nat → Int} (h : Cmp F W n fid caps val cv) (k : Fr F W w) : Cmp F w n fid caps val cv :=
  fun w' k' x y hx hy => h w' (k.trans k' (fun _ h => .inl h)) x y hx hy
def ltC (cv : Nat → Nat → Int) (x y : Nat) : Bool := decide (cv x y < 0)
theorem ltC_t {cv : Nat → Nat → Int} {x y : Nat} : ltC cv x y = true ↔ cv x y < 0 := decide_eq_true_iff
theorem ltC_f {cv : Nat → Nat → Int} {x y : Nat} : ltC cv x y = false ↔ ¬ cv x y < 0 := decide_eq_false_iff_not
section
variable {P : Program} {ops : Array Oper} {Q : (Nat → Value) → World → Prop} {e : Nat → Value} {w : World} {d : Option Tmp} {ty : TypeId} {ps : String} {af : Array Edge}
/-- halving by a shift -/
theorem run_half {t : TypeId} {a : Int} (h0 : 0 ≤ a) (w : World) (k : IntKind) : (binOp .shr t (.int .u64 a) (.int k 1)).run P w = .ok (.int .u64 (a / 2)) w := by
  have : a.fdiv 2 = a / 2 := Int.fdiv_eq_ediv_of_nonneg _ (by omega)
  simp [binOp, Op.shift, IntKind.bits, this]
theorem op_half {t t' : TypeId} {x y : Operand} {a : Int} {k : IntKind} (hx : ev e x = .int .u64 a) (hy : ev e y = .int k 1) (h0 : 0 ≤ a) : OpV P e ⟨d, .binOp .shr t x y t', ty, ps, af, none⟩ (.int .u64 (a / 2)) := by
  intro w
  simp [OpR, execOp, hx, hy, eqGuard, run_half h0 w k]
end
end Go.Proofs.Ytiidmiebckkloaa
