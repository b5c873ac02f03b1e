/- regions.Of: labels and parts. -/
import Derived.Test.YtmdkjohllinphaaReg
namespace Go.Proofs.Ytmdkjohllinphaa
open Go.RowKit
set_option linter.unusedVariables false
set_option linter.unusedSimpArgs false
set_option maxRecDepth 100000

/-! ### Rectangles and parts -/
structure RV where
  x0 : Int
  y0 : Int
  x1 : Int
  y1 : Int
  deriving DecidableEq
def RV.cells (r : RV) : List Value := [.int .i64 r.x0, .int .i64 r.y0, .int .i64 r.x1, .int .i64 r.y1]
def hullR (a b : RV) : RV := ⟨min a.x0 b.x0, min a.y0 b.y0, max a.x1 b.x1, max a.y1 b.y1⟩
def spotR (gw i : Nat) : RV := ⟨(i % gw : Nat), (i / gw : Nat), (i % gw : Nat), (i / gw : Nat)⟩
structure PV where
  lab : Int
  area : Int
  x : Int
  y : Int
  box : RV
  deriving DecidableEq
def PV.cells (p : PV) : List Value := [.int .i64 p.lab, .int .i64 p.area, .int .i64 p.x, .int .i64 p.y, .int .i64 p.box.x0, .int .i64 p.box.y0, .int .i64 p.box.x1, .int .i64 p.box.y1]
def partsV (l : List PV) : List Value := l.flatMap PV.cells
theorem partsV_len (l : List PV) : (partsV l).length = l.length * 8 := flatMap_len (f := PV.cells) (fun _ => rfl) l
def RV.right (r : RV) : Prop := 0 ≤ r.x0 ∧ r.x0 ≤ r.x1 ∧ r.x1 < 1024 ∧ 0 ≤ r.y0 ∧ r.y0 ≤ r.y1 ∧ r.y1 < 1024
theorem hullR_right {a b : RV} (ha : a.right) (hb : b.right) : (hullR a b).right := by
  unfold RV.right hullR at *; dsimp only; omega
theorem spotR_right {gw gh i : Nat} (hw : 1 ≤ gw ∧ gw ≤ 1024) (hh : gh ≤ 1024) (hi : i < gw * gh) : (spotR gw i).right := by
  have h1 : i % gw < gw := Nat.mod_lt _ (by omega)
  have h2 : i / gw < gh := Nat.div_lt_of_lt_mul hi
  unfold RV.right spotR
  dsimp only
  generalize i % gw = p at *
  generalize i / gw = q at *
  omega
theorem hull_E (a b : RV) (ha : a.right) (hb : b.right) (W : World) : Fn Try.prog 61 [.agg #[.int .i64 a.x0, .int .i64 a.y0, .int .i64 a.x1, .int .i64 a.y1], .agg #[.int .i64 b.x0, .int .i64 b.y0, .int .i64 b.x1, .int .i64 b.y1]] W
    (RetG (.agg #[.int .i64 (hullR a b).x0, .int .i64 (hullR a b).y0, .int .i64 (hullR a b).x1, .int .i64 (hullR a b).y1]) W) := by
  have hra : rightB a.x0 a.y0 a.x1 a.y1 = true := (rightB_iff _ _ _ _).2 ha
  have hrb : rightB b.x0 b.y0 b.x1 b.y1 = true := (rightB_iff _ _ _ _).2 hb
  have S := St.start W
  refine Fn_enter Try.func61 rfl Try.results61 Try.ntmps61 (by kernel_rfl) (by kernel_rfl) ?_
  repeat refine cw_seq ?_
  refine cw_region ?_
  refine rw_newB (op_box rfl) S ?_
  intro b_ra w2_ g2_ S
  refine rw_newB (op_box rfl) S ?_
  intro b_rb w4_ g4_ S
  refine rw_newB (op_alloc Try.zeroValue38 rfl) S ?_
  intro b_b5 w6_ g6_ S
  first | refine rw_end ?_ | (refine rw_nil ?_; show CW _ _ _ _ _ _) | refine rw_nil ?_
  repeat refine cw_seq ?_
  refine cw_block ?_
  repeat refine cw_seq ?_
  refine cw_region ?_
  refine rw_r (op_loadAB Try.underlying38 rfl (Try.sizeOf38 _) rfl (S.blk (i := 2) rfl) rfl rfl) ?_
  refine rw_call rfl (right_E _ _ _ _ w6_) ?_
  rintro _ w7_ ⟨rfl, g7_⟩
  have S := S.gr g7_
  rw [hra]
  refine rw_v (op_pure rfl) ?_
  refine rw_v (op_pure rfl) ?_
  first | refine rw_off rfl ?_ | (refine rw_on rfl ?_; refine rw_r (op_loadAB Try.underlying38 rfl (Try.sizeOf38 _) rfl (S.blk (i := 1) rfl) rfl rfl) ?_)
  refine rw_off rfl ?_
  first | refine rw_off rfl ?_ | (refine rw_on rfl ?_; refine rw_v (op_pure rfl) ?_)
  refine rw_v (op_pure rfl) ?_
  refine rw_v (op_pure rfl) ?_
  first | refine rw_end ?_ | (refine rw_nil ?_; show CW _ _ _ _ _ _) | refine rw_nil ?_
  repeat refine cw_seq ?_
  refine cw_false rfl ?_
  repeat refine cw_seq ?_
  refine cw_region ?_
  refine rw_r (op_loadAB Try.underlying38 rfl (Try.sizeOf38 _) rfl (S.blk (i := 2) rfl) rfl rfl) ?_
  refine rw_call rfl (right_E _ _ _ _ w7_) ?_
  rintro _ w8_ ⟨rfl, g8_⟩
  have S := S.gr g8_
  rw [hra]
  refine rw_v (op_pure rfl) ?_
  refine rw_v (op_pure rfl) ?_
  first | refine rw_end ?_ | (refine rw_nil ?_; show CW _ _ _ _ _ _) | refine rw_nil ?_
  repeat refine cw_seq ?_
  refine cw_false rfl ?_
  repeat refine cw_seq ?_
  refine cw_region ?_
  refine rw_r (op_loadAB Try.underlying38 rfl (Try.sizeOf38 _) rfl (S.blk (i := 1) rfl) rfl rfl) ?_
  refine rw_call rfl (right_E _ _ _ _ w8_) ?_
  rintro _ w9_ ⟨rfl, g9_⟩
  have S := S.gr g9_
  rw [hrb]
  refine rw_v (op_pure rfl) ?_
  refine rw_v (op_pure rfl) ?_
  first | refine rw_end ?_ | (refine rw_nil ?_; show CW _ _ _ _ _ _) | refine rw_nil ?_
  repeat refine cw_seq ?_
  refine cw_false rfl ?_
  repeat refine cw_seq ?_
  refine cw_skip ?_
  try show CW _ _ _ _ _ _
  repeat refine cw_seq ?_
  refine cw_region ?_
  refine rw_v (op_fieldAddr Try.underlying38 rfl Try.sizeOf2 rfl rfl) ?_
  refine rw_r (op_loadB Try.underlying2 rfl rfl (S.blk (i := 2) rfl) rfl) ?_
  refine rw_v (op_fieldAddr Try.underlying38 rfl Try.sizeOf2 rfl rfl) ?_
  refine rw_r (op_loadB Try.underlying2 rfl rfl (S.blk (i := 1) rfl) rfl) ?_
  refine rw_v (op_pure rfl) ?_
  refine rw_v (op_fieldAddr Try.underlying38 rfl Try.sizeOf2 rfl rfl) ?_
  refine rw_r (op_loadB Try.underlying2 rfl rfl (S.blk (i := 2) rfl) rfl) ?_
  refine rw_v (op_fieldAddr Try.underlying38 rfl Try.sizeOf2 rfl rfl) ?_
  refine rw_r (op_loadB Try.underlying2 rfl rfl (S.blk (i := 1) rfl) rfl) ?_
  refine rw_v (op_pure rfl) ?_
  refine rw_v (op_fieldAddr Try.underlying38 rfl Try.sizeOf2 rfl rfl) ?_
  refine rw_r (op_loadB Try.underlying2 rfl rfl (S.blk (i := 2) rfl) rfl) ?_
  refine rw_v (op_fieldAddr Try.underlying38 rfl Try.sizeOf2 rfl rfl) ?_
  refine rw_r (op_loadB Try.underlying2 rfl rfl (S.blk (i := 1) rfl) rfl) ?_
  refine rw_v (op_pure rfl) ?_
  refine rw_v (op_fieldAddr Try.underlying38 rfl Try.sizeOf2 rfl rfl) ?_
  refine rw_r (op_loadB Try.underlying2 rfl rfl (S.blk (i := 2) rfl) rfl) ?_
  refine rw_v (op_fieldAddr Try.underlying38 rfl Try.sizeOf2 rfl rfl) ?_
  refine rw_r (op_loadB Try.underlying2 rfl rfl (S.blk (i := 1) rfl) rfl) ?_
  refine rw_v (op_pure rfl) ?_
  refine rw_v (op_build (pl := [(0, 1), (1, 1), (2, 1), (3, 1)]) Try.underlying38 Try.zeroValue38 (fun w => by kernel_rfl) rfl rfl) ?_
  refine rw_storeSA (i := 0) S rfl (Try.sizeOf38 _) rfl rfl rfl rfl rfl rfl ?_
  intro w10_ S
  first | refine rw_end ?_ | (refine rw_nil ?_; show CW _ _ _ _ _ _) | refine rw_nil ?_
  repeat refine cw_seq ?_
  refine cw_ret ?_
  repeat first | refine ret_then ?_ | refine ret_inb ?_
  exact resA Try.underlying38 rfl (Try.sizeOf38 _) rfl (S.blk (i := 0) rfl) rfl rfl ⟨rfl, S.out⟩

/-! ### Lists -/
theorem flatMap_put {α β : Type} {f : α → List β} {m : Nat} (hf : ∀ a, (f a).length = m) : ∀ {l : List α} {k : Nat} {a a' : α} {d : Nat} {cs : List β}, l[k]? = some a → d + cs.length ≤ m → f a' = (f a).take d ++ cs ++ (f a).drop (d + cs.length) →
    (l.flatMap f).take (k * m + d) ++ cs ++ (l.flatMap f).drop (k * m + d + cs.length) = (l.set k a').flatMap f
  | [], k, a, a', d, cs, h, _, _ => by cases h
  | b :: l, 0, a, a', d, cs, h, hd, e => by
    obtain rfl : b = a := by simpa using h
    have hb := hf b
    simp only [Nat.zero_mul, Nat.zero_add, List.flatMap_cons, List.set_cons_zero]
    rw [List.take_append_of_le_length (by omega), List.drop_append_of_le_length (by omega), e]
    simp only [List.append_assoc]
  | b :: l, k + 1, a, a', d, cs, h, hd, e => by
    have ih := flatMap_put hf (l := l) (k := k) (a := a) (a' := a') (d := d) (cs := cs) (by simpa using h) hd e
    have hb := hf b
    simp only [List.flatMap_cons, List.set_cons_succ]
    rw [← ih, Nat.succ_mul, show k * m + m + d = m + (k * m + d) by omega, show m + (k * m + d) + cs.length = m + (k * m + d + cs.length) by omega]
    rw [List.take_append, List.drop_append, hb]
    rw [List.take_of_length_le (by omega), List.drop_of_length_le (by omega)]
    simp only [show m + (k * m + d) - m = k * m + d by omega, show m + (k * m + d + cs.length) - m = k * m + d + cs.length by omega, List.nil_append, List.append_assoc]
theorem set_take {α : Type} {l : List α} {k : Nat} {v : α} (h : k < l.length) : l.set k v = l.take k ++ [v] ++ l.drop (k + 1) := by
  rw [List.set_eq_take_append_cons_drop, if_pos h]; simp
theorem filter_range_get {p : Nat → Bool} {q k : Nat} (hq : q < k) (hp : p q = true) : ((List.range k).filter p)[((List.range q).filter p).length]? = some q := by
  have e : k = q + (1 + (k - q - 1)) := by omega
  rw [e, List.range_add, List.filter_append, List.getElem?_append_right (Nat.le_refl _), Nat.sub_self, Nat.add_comm 1, List.range_succ_eq_map]
  simp [hp]

/-! ### Roots, labels, parts -/
structure Roots (gw : Nat) (V : List Int) (t : Int) (r : Nat → Nat) : Prop where
  le : ∀ i, i < V.length → r i ≤ i
  idem : ∀ i, i < V.length → r (r i) = r i
  conn : ∀ i, i < V.length → Conn gw V t i (r i)
  left : ∀ i, i < V.length → t ≤ V.getD i 0 → 0 < i % gw → t ≤ V.getD (i - 1) 0 → r i = r (i - 1)
  up : ∀ i, i < V.length → t ≤ V.getD i 0 → gw ≤ i → t ≤ V.getD (i - gw) 0 → r i = r (i - gw)
theorem SetsOk.roots {gw : Nat} {V : List Int} {t : Int} {f : Nat → Nat} (h : SetsOk gw V t V.length f) : Roots gw V t (rootF f) :=
  ⟨fun i _ => rootF_le f i, fun i _ => rootF_root f i, h.conn, h.left, h.up⟩
theorem Conn.ge {gw : Nat} {V : List Int} {t : Int} {i j : Nat} (h : Conn gw V t i j) (hi : t ≤ V.getD i 0) : t ≤ V.getD j 0 := by
  induction h with
  | refl => exact hi
  | step a _ ih => exact ih a.2.2.2.1
def isRoot (V : List Int) (t : Int) (r : Nat → Nat) (q : Nat) : Bool := decide (t ≤ V.getD q 0) && decide (r q = q)
def rootsL (V : List Int) (t : Int) (r : Nat → Nat) (k : Nat) : List Nat := (List.range k).filter (isRoot V t r)
def cntR (V : List Int) (t : Int) (r : Nat → Nat) (k : Nat) : Nat := (rootsL V t r k).length
def labF (V : List Int) (t : Int) (r : Nat → Nat) (i : Nat) : Nat := if t ≤ V.getD i 0 then cntR V t r (r i) + 1 else 0
def memB (V : List Int) (t : Int) (r : Nat → Nat) (q i : Nat) : Bool := decide (t ≤ V.getD i 0) && decide (r i = q)
def members (V : List Int) (t : Int) (r : Nat → Nat) (q k : Nat) : List Nat := (List.range k).filter (memB V t r q)
def partAt (gw : Nat) (V : List Int) (t : Int) (r : Nat → Nat) (k q : Nat) : PV :=
  ⟨(cntR V t r q + 1 : Nat), ((members V t r q k).length : Nat), (q % gw : Nat), (q / gw : Nat), (members V t r q k).foldl (fun b i => hullR b (spotR gw i)) (spotR gw q)⟩
def partsAt (gw : Nat) (V : List Int) (t : Int) (r : Nat → Nat) (k : Nat) : List PV := (rootsL V t r k).map (partAt gw V t r k)
theorem rootsL_succ (V : List Int) (t : Int) (r : Nat → Nat) (k : Nat) : rootsL V t r (k + 1) = if isRoot V t r k then rootsL V t r k ++ [k] else rootsL V t r k := by
  unfold rootsL
  rw [List.range_succ, List.filter_append]
  by_cases h : isRoot V t r k = true
  · rw [if_pos h]; simp [h]
  · rw [if_neg h]; simp [h]
theorem members_succ (V : List Int) (t : Int) (r : Nat → Nat) (q k : Nat) : members V t r q (k + 1) = if memB V t r q k then members V t r q k ++ [k] else members V t r q k := by
  unfold members
  rw [List.range_succ, List.filter_append]
  by_cases h : memB V t r q k = true
  · rw [if_pos h]; simp [h]
  · rw [if_neg h]; simp [h]
theorem partAt_skip {gw : Nat} {V : List Int} {t : Int} {r : Nat → Nat} {k q : Nat} (h : memB V t r q k = false) : partAt gw V t r (k + 1) q = partAt gw V t r k q := by
  unfold partAt; rw [members_succ, if_neg (by simp [h])]
theorem partAt_add {gw : Nat} {V : List Int} {t : Int} {r : Nat → Nat} {k q : Nat} (h : memB V t r q k = true) :
    partAt gw V t r (k + 1) q = { partAt gw V t r k q with area := (partAt gw V t r k q).area + 1, box := hullR (partAt gw V t r k q).box (spotR gw k) } := by
  unfold partAt; rw [members_succ, if_pos h, List.foldl_append, List.length_append]; simp
theorem rootsL_mem {V : List Int} {t : Int} {r : Nat → Nat} {k q : Nat} : q ∈ rootsL V t r k ↔ q < k ∧ isRoot V t r q = true := by unfold rootsL; rw [List.mem_filter, List.mem_range]
theorem rootsL_nodup (V : List Int) (t : Int) (r : Nat → Nat) (k : Nat) : (rootsL V t r k).Nodup := List.Pairwise.filter _ List.nodup_range
theorem cntR_mono {V : List Int} {t : Int} {r : Nat → Nat} {a b : Nat} (h : a ≤ b) : cntR V t r a ≤ cntR V t r b := by
  unfold cntR rootsL
  have e : b = a + (b - a) := by omega
  rw [e, List.range_add, List.filter_append, List.length_append]
  omega
theorem cntR_le (V : List Int) (t : Int) (r : Nat → Nat) (k : Nat) : cntR V t r k ≤ k := by
  unfold cntR rootsL
  exact Nat.le_trans (List.length_filter_le _ _) (by simp)
theorem map_set_nodup {α β : Type} [DecidableEq α] {l : List α} {f g : α → β} {k : Nat} {q : α} (hn : l.Nodup) (hk : l[k]? = some q) (h : ∀ x ∈ l, x ≠ q → g x = f x) : (l.map f).set k (g q) = l.map g := by
  apply List.ext_getElem?
  intro i
  rw [List.getElem?_set]
  have hkl := (List.getElem?_eq_some_iff.1 hk).1
  by_cases e : k = i
  · subst e; rw [if_pos rfl, List.length_map, if_pos hkl, List.getElem?_map, hk]; rfl
  · rw [if_neg e, List.getElem?_map, List.getElem?_map]
    cases hi : l[i]? with
    | none => rfl
    | some x =>
      have hx := List.mem_of_getElem? hi
      have hne : x ≠ q := by
        rintro rfl
        have hil := (List.getElem?_eq_some_iff.1 hi).1
        have h1 := (List.getElem?_eq_some_iff.1 hi).2
        have h2 := (List.getElem?_eq_some_iff.1 hk).2
        exact e ((List.getElem_inj hn).1 (h2.trans h1.symm))
      simp only [Option.map_some, h x hx hne]
/-- a cell that is its set's first one: a new part -/
theorem partsAt_new {gw : Nat} {V : List Int} {t : Int} {r : Nat → Nat} {k : Nat} (hle : ∀ i, i ≤ k → r i ≤ i) (hv : t ≤ V.getD k 0) (hr : r k = k) :
    partsAt gw V t r (k + 1) = partsAt gw V t r k ++ [partAt gw V t r (k + 1) k] ∧ partAt gw V t r k k = ⟨(cntR V t r k + 1 : Nat), 0, (k % gw : Nat), (k / gw : Nat), spotR gw k⟩ := by
  have hroot : isRoot V t r k = true := by unfold isRoot; simp only [Bool.and_eq_true, decide_eq_true_eq]; exact ⟨hv, hr⟩
  constructor
  · unfold partsAt
    rw [rootsL_succ, if_pos hroot, List.map_append, List.map_singleton]
    congr 1
    refine List.map_congr_left fun q hq => partAt_skip ?_
    have := (rootsL_mem.1 hq).1
    unfold memB
    simp only [Bool.and_eq_false_iff, decide_eq_false_iff_not]
    right; omega
  · have : members V t r k k = [] := by
      unfold members
      rw [List.filter_eq_nil_iff]
      intro i hi
      have := hle i (by have := List.mem_range.1 hi; omega)
      have := List.mem_range.1 hi
      unfold memB
      simp only [Bool.and_eq_true, decide_eq_true_eq]
      omega
    unfold partAt
    rw [this]
    rfl
/-- a further cell of a set -/
theorem partsAt_more {gw : Nat} {V : List Int} {t : Int} {r : Nat → Nat} {k q : Nat} (hr : r k = q) (hq : q < k) (hrq : r q = q) (hvq : t ≤ V.getD q 0) :
    partsAt gw V t r (k + 1) = (partsAt gw V t r k).set (cntR V t r q) (partAt gw V t r (k + 1) q) ∧ (partsAt gw V t r k)[cntR V t r q]? = some (partAt gw V t r k q) := by
  have hroot : isRoot V t r q = true := by unfold isRoot; simp only [Bool.and_eq_true, decide_eq_true_eq]; exact ⟨hvq, hrq⟩
  have hnot : isRoot V t r k = false := by unfold isRoot; simp only [Bool.and_eq_false_iff, decide_eq_false_iff_not]; right; omega
  have hidx : (rootsL V t r k)[cntR V t r q]? = some q := filter_range_get hq hroot
  constructor
  · unfold partsAt
    rw [rootsL_succ, if_neg (by simp [hnot])]
    symm
    refine map_set_nodup (rootsL_nodup _ _ _ _) hidx fun x hx hne => partAt_skip ?_
    unfold memB
    simp only [Bool.and_eq_false_iff, decide_eq_false_iff_not]
    right
    rw [hr]
    exact fun e => hne e.symm
  · unfold partsAt
    rw [List.getElem?_map, hidx]; rfl
/-- a cell that isn't high enough -/
theorem partsAt_skip {gw : Nat} {V : List Int} {t : Int} {r : Nat → Nat} {k : Nat} (hv : ¬ t ≤ V.getD k 0) : partsAt gw V t r (k + 1) = partsAt gw V t r k := by
  unfold partsAt
  rw [rootsL_succ, if_neg (by unfold isRoot; simp only [Bool.and_eq_true, decide_eq_true_eq]; exact fun h => hv h.1)]
  refine List.map_congr_left fun q _ => partAt_skip ?_
  unfold memB
  simp only [Bool.and_eq_false_iff, decide_eq_false_iff_not]
  exact .inl hv
theorem partAt_right {gw gh : Nat} {V : List Int} {t : Int} {r : Nat → Nat} {k q : Nat} (hw : 1 ≤ gw ∧ gw ≤ 1024) (hh : gh ≤ 1024) (hV : V.length = gw * gh) (hk : k ≤ V.length) (hq : q < V.length) : (partAt gw V t r k q).box.right := by
  unfold partAt
  have key : ∀ (l : List Nat) (b : RV), (∀ i ∈ l, i < V.length) → b.right → (l.foldl (fun b i => hullR b (spotR gw i)) b).right := by
    intro l
    induction l with
    | nil => intro b _ hb; exact hb
    | cons a l ih => intro b hl hb; exact ih _ (fun i hi => hl i (List.mem_cons_of_mem _ hi)) (hullR_right hb (spotR_right hw hh (hV ▸ hl a (by simp))))
  refine key _ _ (fun i hi => ?_) (spotR_right hw hh (hV ▸ hq))
  unfold members at hi
  have := List.mem_range.1 (List.mem_filter.1 hi).1
  omega
end Go.Proofs.Ytmdkjohllinphaa
