/- A slab in memory; contracts of package slab's smaller functions. -/
import Derived.Test.YtbcgbcipigcbhaaR1
import Derived.Test.YtbcgbcipigcbhaaSep
namespace Go.Proofs.Ytbcgbcipigcbhaa
open Go.RowKit
set_option linter.unusedVariables false
set_option linter.unusedSimpArgs false
set_option maxRecDepth 100000

def mayB (v : Int) : Bool := decide (-2147483648 ≤ v) && decide (v ≤ 2147483647)
theorem mayB_iff (v : Int) : mayB v = true ↔ -2147483648 ≤ v ∧ v ≤ 2147483647 := by simp [mayB]
theorem i32_in (n : Int) (h : -2147483648 ≤ n ∧ n ≤ 2147483647) : IntKind.i32.wrap n = n := IntWalk.i32_in n h

theorem may_E (v : Int) (W : World) : Fn Try.prog 164 [.int .i64 v] W (RetG (.bool (mayB v)) W) := by
  refine Fn_enter Try.func164 rfl Try.results164 Try.ntmps164 (by kernel_rfl) (by kernel_rfl) ?_
  repeat refine cw_seq ?_
  refine cw_region ?_
  refine rw_v (op_pure rfl) ?_
  first | refine rw_end ?_ | (refine rw_nil ?_; show CW _ _ _ _ _ _) | refine rw_nil ?_
  repeat refine cw_seq ?_
  refine cw_region ?_
  refine rw_v (op_pure rfl) ?_
  first | refine rw_v (op_b (b := true) rfl (decide_eq_true (by omega))) ?_ | refine rw_v (op_b (b := false) rfl (decide_eq_false (by omega))) ?_ | refine rw_v (op_pure rfl) ?_
  refine rw_v (op_pure rfl) ?_
  refine rw_dec 5 rfl (fun h => ?_) (fun h => ?_)
  · first | refine rw_off rfl ?_ | (refine rw_on rfl ?_; refine rw_v (op_pure rfl) ?_)
    first | refine rw_off rfl ?_ | (refine rw_on rfl ?_; (first | refine rw_v (op_b (b := true) rfl (decide_eq_true (by omega))) ?_ | refine rw_v (op_b (b := false) rfl (decide_eq_false (by omega))) ?_ | refine rw_v (op_pure rfl) ?_))
    iterate 2 refine rw_v (op_pure rfl) ?_
    first | refine rw_end ?_ | (refine rw_nil ?_; show CW _ _ _ _ _ _) | refine rw_nil ?_
    exact cw_ret (res1 rfl ⟨be (by simp [mayB] at h ⊢; omega), Gr.refl _⟩)
  · first | refine rw_off rfl ?_ | (refine rw_on rfl ?_; refine rw_v (op_pure rfl) ?_)
    first | refine rw_off rfl ?_ | (refine rw_on rfl ?_; (first | refine rw_v (op_b (b := true) rfl (decide_eq_true (by omega))) ?_ | refine rw_v (op_b (b := false) rfl (decide_eq_false (by omega))) ?_ | refine rw_v (op_pure rfl) ?_))
    iterate 2 refine rw_v (op_pure rfl) ?_
    first | refine rw_end ?_ | (refine rw_nil ?_; show CW _ _ _ _ _ _) | refine rw_nil ?_
    exact cw_ret (res1 rfl ⟨be (by simp [mayB] at h ⊢; omega), Gr.refl _⟩)
theorem tileRight_E (w h : Int) (hw : 1 ≤ w ∧ w ≤ 16) (hh : 1 ≤ h ∧ h ≤ 16) (W : World) : Fn Try.prog 163 [.int .i64 w, .int .i64 h] W (RetG (.bool true) W) := by
  refine Fn_enter Try.func163 rfl Try.results163 Try.ntmps163 (by kernel_rfl) (by kernel_rfl) ?_
  repeat refine cw_seq ?_
  refine cw_region ?_
  refine rw_v (op_pure rfl) ?_
  first | refine rw_end ?_ | (refine rw_nil ?_; show CW _ _ _ _ _ _) | refine rw_nil ?_
  repeat refine cw_seq ?_
  refine cw_region ?_
  refine rw_v (op_pure rfl) ?_
  first | refine rw_v (op_b (b := true) rfl (decide_eq_true (by omega))) ?_ | refine rw_v (op_b (b := false) rfl (decide_eq_false (by omega))) ?_ | refine rw_v (op_pure rfl) ?_
  refine rw_v (op_pure rfl) ?_
  first | refine rw_off rfl ?_ | (refine rw_on rfl ?_; refine rw_v (op_pure rfl) ?_)
  first | refine rw_off rfl ?_ | (refine rw_on rfl ?_; (first | refine rw_v (op_b (b := true) rfl (decide_eq_true (by omega))) ?_ | refine rw_v (op_b (b := false) rfl (decide_eq_false (by omega))) ?_ | refine rw_v (op_pure rfl) ?_))
  iterate 2 refine rw_v (op_pure rfl) ?_
  first | refine rw_off rfl ?_ | (refine rw_on rfl ?_; refine rw_v (op_pure rfl) ?_)
  first | refine rw_off rfl ?_ | (refine rw_on rfl ?_; (first | refine rw_v (op_b (b := true) rfl (decide_eq_true (by omega))) ?_ | refine rw_v (op_b (b := false) rfl (decide_eq_false (by omega))) ?_ | refine rw_v (op_pure rfl) ?_))
  iterate 2 refine rw_v (op_pure rfl) ?_
  first | refine rw_off rfl ?_ | (refine rw_on rfl ?_; refine rw_v (op_pure rfl) ?_)
  first | refine rw_off rfl ?_ | (refine rw_on rfl ?_; (first | refine rw_v (op_b (b := true) rfl (decide_eq_true (by omega))) ?_ | refine rw_v (op_b (b := false) rfl (decide_eq_false (by omega))) ?_ | refine rw_v (op_pure rfl) ?_))
  iterate 2 refine rw_v (op_pure rfl) ?_
  first | refine rw_end ?_ | (refine rw_nil ?_; show CW _ _ _ _ _ _) | refine rw_nil ?_
  exact cw_ret (res1 rfl ⟨rfl, Gr.refl _⟩)
theorem sspot_E (x y : Int) (W : World) : Fn Try.prog 141 [.agg #[.int .i64 x, .int .i64 y]] W (RetG (.agg #[.int .i64 x, .int .i64 y, .int .i64 x, .int .i64 y]) W) := by

  refine Fn_enter Try.func141 rfl Try.results141 Try.ntmps141 (by kernel_rfl) (by kernel_rfl) ?_
  have G0 := Gr.refl W

  repeat refine cw_seq ?_
  refine cw_region ?_
  try have qb1_ := G0.le
  refine rw_new (op_box rfl) ?_
  intro w1_ g1_ s1_ b1_
  have G0 := G0.trans g1_
  try have qb2_ := G0.le
  try have qb2_ := b1_.lt
  refine rw_new (op_alloc Try.zeroValue75 rfl) ?_
  intro w2_ g2_ s2_ b2_
  have G0 := G0.trans g2_
  have b1_ := b1_.gr g2_
  first | refine rw_end ?_ | (refine rw_nil ?_; show CW _ _ _ _ _ _) | refine rw_nil ?_
  repeat refine cw_seq ?_
  refine cw_region ?_
  refine rw_v (op_fieldAddr Try.underlying44 rfl Try.sizeOf2 rfl rfl) ?_
  first | refine rw_r (op_loadB Try.underlying2 rfl rfl b2_ rfl) ?_ | refine rw_r (op_loadB Try.underlying2 rfl rfl b1_ rfl) ?_
  refine rw_v (op_fieldAddr Try.underlying44 rfl Try.sizeOf2 rfl rfl) ?_
  first | refine rw_r (op_loadB Try.underlying2 rfl rfl b2_ rfl) ?_ | refine rw_r (op_loadB Try.underlying2 rfl rfl b1_ rfl) ?_
  refine rw_v (op_fieldAddr Try.underlying44 rfl Try.sizeOf2 rfl rfl) ?_
  first | refine rw_r (op_loadB Try.underlying2 rfl rfl b2_ rfl) ?_ | refine rw_r (op_loadB Try.underlying2 rfl rfl b1_ rfl) ?_
  refine rw_v (op_fieldAddr Try.underlying44 rfl Try.sizeOf2 rfl rfl) ?_
  first | refine rw_r (op_loadB Try.underlying2 rfl rfl b2_ rfl) ?_ | refine rw_r (op_loadB Try.underlying2 rfl rfl b1_ rfl) ?_
  refine rw_v (op_build (pl := [(0, 1), (1, 1), (2, 1), (3, 1)]) Try.underlying75 Try.zeroValue75 (fun w => by kernel_rfl) rfl rfl) ?_
  refine rw_storeA (n := 4) (Try.sizeOf75 _) rfl rfl rfl b2_ rfl rfl ?_
  intro w3_ g3_ s3_ b3_
  have G0 := G0.store g3_ (by omega)
  have b1_ := b1_.grown g3_ (by first | (intro hh; simp only [Option.some.injEq] at hh; omega) | (intro hh; have := Option.some.inj hh; omega) | exact fun hh => absurd (Option.some.inj hh) (b1_.ne_ b2_ (by decide)))
  have b2_ := b3_
  first | refine rw_end ?_ | (refine rw_nil ?_; show CW _ _ _ _ _ _) | refine rw_nil ?_
  refine cw_ret (resA Try.underlying75 rfl (Try.sizeOf75 _) rfl b2_ rfl rfl ⟨rfl, G0⟩)
theorem scheck_E (b : Nat) (w h x0 y0 x1 y1 : Int) (v : Value) (hw : 1 ≤ w ∧ w ≤ 16) (hh : 1 ≤ h ∧ h ≤ 16) (W : World) (hB : Blk W b 196 [.int .i64 w, .int .i64 h, v]) :
    Fn Try.prog 140 [.pointer (some ⟨b, 0, none⟩), .agg #[.int .i64 x0, .int .i64 y0, .int .i64 x1, .int .i64 y1]] W (RetG (.int .i64 (within x0 y0 x1 y1 w h)) W) := by
  have G0 := Gr.refl W

  refine Fn_enter Try.func140 rfl Try.results140 Try.ntmps140 (by kernel_rfl) (by kernel_rfl) ?_
  repeat refine cw_seq ?_
  refine cw_region ?_
  try have qb1_ := hB.lt
  try have qb1_ := G0.le
  refine rw_new (op_box rfl) ?_
  intro w1_ g1_ s1_ b1_
  have hB := hB.gr g1_
  have G0 := G0.trans g1_
  refine rw_v (op_pure rfl) ?_
  first | refine rw_end ?_ | (refine rw_nil ?_; show CW _ _ _ _ _ _) | refine rw_nil ?_
  repeat refine cw_seq ?_
  refine cw_region ?_
  refine rw_v (op_pure rfl) ?_
  refine rw_v (op_nilp Try.underlying114 rfl rfl) ?_
  first | refine rw_end ?_ | (refine rw_nil ?_; show CW _ _ _ _ _ _) | refine rw_nil ?_
  repeat refine cw_seq ?_
  refine cw_false rfl ?_
  refine cw_skip ?_
  try show CW _ _ _ _ _ _
  repeat refine cw_seq ?_
  refine cw_draw (C := fun wq => Gr w1_ wq) [0, 1, 2, 3, 4, 5, 6, 7, 8, 9, 10] [] (by kernel_rfl) (by kernel_rfl) (Gr.drew _) ?_
  simp only [pickL, List.drop_succ_cons, List.drop_zero]
  first | refine rq_r (fun wq hq => op_loadAB Try.underlying75 rfl (Try.sizeOf75 _) rfl (b1_.gr hq) rfl rfl) ?_ | refine rq_r (fun wq hq => op_loadAB Try.underlying75 rfl (Try.sizeOf75 _) rfl (hB.gr hq) rfl rfl) ?_
  iterate 2 refine rq_v (op_pure rfl) ?_
  refine rq_v (op_fieldAddr Try.underlying196 rfl Try.sizeOf2 rfl rfl) ?_
  first | refine rq_r (fun wq hq => op_loadB Try.underlying2 rfl rfl (b1_.gr hq) rfl) ?_ | refine rq_r (fun wq hq => op_loadB Try.underlying2 rfl rfl (hB.gr hq) rfl) ?_
  iterate 2 refine rq_v (op_pure rfl) ?_
  refine rq_v (op_fieldAddr Try.underlying196 rfl Try.sizeOf2 rfl rfl) ?_
  first | refine rq_r (fun wq hq => op_loadB Try.underlying2 rfl rfl (b1_.gr hq) rfl) ?_ | refine rq_r (fun wq hq => op_loadB Try.underlying2 rfl rfl (hB.gr hq) rfl) ?_
  refine rq_call rfl (fun wq hq => (within_E x0 y0 x1 y1 w h (by omega) (by omega) wq).mono (fun _ _ ⟨hv, hg⟩ => ⟨hv, hq.trans hg⟩)) ?_
  refine rq_v (op_pure rfl) ?_
  refine rq_nil ?_
  intro w2_ g2_
  have hB := hB.gr g2_
  have G0 := G0.trans g2_
  have b1_ := b1_.gr g2_
  first | refine rw_end ?_ | (refine rw_nil ?_; show CW _ _ _ _ _ _) | refine rw_nil ?_
  refine cw_ret (res1 rfl ⟨rfl, G0⟩)
/-- a new slab, all of one value -/
theorem snew_E (w h v : Int) (hw : 1 ≤ w ∧ w ≤ 16) (hh : 1 ≤ h ∧ h ≤ 16) (hv : -2147483648 ≤ v ∧ v ≤ 2147483647) (W : World) : Fn Try.prog 117 [.int .i64 w, .int .i64 h, .int .i64 v] W
    (fun r w' => ∃ b, r = .tuple #[.pointer (some ⟨b, 0, none⟩), .int .i64 0] ∧ W.heap.size ≤ b ∧ Blk w' b 196 [.int .i64 w, .int .i64 h, .iface 227 (.int .i32 v)] ∧ Gr W w') := by
  have G0 := Gr.refl W

  refine Fn_enter Try.func117 rfl Try.results117 Try.ntmps117 (by kernel_rfl) (by kernel_rfl) ?_
  repeat refine cw_seq ?_
  refine cw_region ?_
  iterate 2 refine rw_v (op_pure rfl) ?_
  first | refine rw_end ?_ | (refine rw_nil ?_; show CW _ _ _ _ _ _) | refine rw_nil ?_
  repeat refine cw_seq ?_
  refine cw_block ?_
  repeat refine cw_seq ?_
  refine cw_region ?_
  refine rw_v (op_pure rfl) ?_
  first | refine rw_v (op_b (b := true) rfl (decide_eq_true (by omega))) ?_ | refine rw_v (op_b (b := false) rfl (decide_eq_false (by omega))) ?_ | refine rw_v (op_pure rfl) ?_
  refine rw_v (op_pure rfl) ?_
  first | refine rw_off rfl ?_ | (refine rw_on rfl ?_; refine rw_v (op_pure rfl) ?_)
  first | refine rw_off rfl ?_ | (refine rw_on rfl ?_; (first | refine rw_v (op_b (b := true) rfl (decide_eq_true (by omega))) ?_ | refine rw_v (op_b (b := false) rfl (decide_eq_false (by omega))) ?_ | refine rw_v (op_pure rfl) ?_))
  iterate 2 refine rw_v (op_pure rfl) ?_
  first | refine rw_off rfl ?_ | (refine rw_on rfl ?_; refine rw_v (op_pure rfl) ?_)
  first | refine rw_off rfl ?_ | (refine rw_on rfl ?_; (first | refine rw_v (op_b (b := true) rfl (decide_eq_true (by omega))) ?_ | refine rw_v (op_b (b := false) rfl (decide_eq_false (by omega))) ?_ | refine rw_v (op_pure rfl) ?_))
  iterate 2 refine rw_v (op_pure rfl) ?_
  first | refine rw_off rfl ?_ | (refine rw_on rfl ?_; refine rw_v (op_pure rfl) ?_)
  first | refine rw_off rfl ?_ | (refine rw_on rfl ?_; (first | refine rw_v (op_b (b := true) rfl (decide_eq_true (by omega))) ?_ | refine rw_v (op_b (b := false) rfl (decide_eq_false (by omega))) ?_ | refine rw_v (op_pure rfl) ?_))
  iterate 2 refine rw_v (op_pure rfl) ?_
  first | refine rw_off rfl ?_ | (refine rw_on rfl ?_; refine rw_v (op_pure rfl) ?_)
  first | refine rw_off rfl ?_ | (refine rw_on rfl ?_; refine rw_v (op_pure rfl) ?_)
  refine rw_on rfl ?_
  refine rw_call rfl (tileRight_E w h hw hh _) ?_
  rintro _ w1 ⟨rfl, g1⟩
  have G0 := G0.trans g1
  first | refine rw_off rfl ?_ | (refine rw_on rfl ?_; refine rw_v (op_pure rfl) ?_)
  iterate 2 refine rw_v (op_pure rfl) ?_
  first | refine rw_end ?_ | (refine rw_nil ?_; show CW _ _ _ _ _ _) | refine rw_nil ?_
  repeat refine cw_seq ?_
  refine cw_false rfl ?_
  repeat refine cw_seq ?_
  refine cw_region ?_
  refine rw_v (op_pure rfl) ?_
  refine rw_call rfl (may_E v _) ?_
  rintro _ w2 ⟨rfl, g2⟩
  have G0 := G0.trans g2
  iterate 2 refine rw_v (op_pure rfl) ?_
  first | refine rw_end ?_ | (refine rw_nil ?_; show CW _ _ _ _ _ _) | refine rw_nil ?_
  repeat refine cw_seq ?_
  refine cw_false (by rw [(mayB_iff v).2 hv]; rfl) ?_
  refine cw_skip ?_
  try show CW _ _ _ _ _ _
  repeat refine cw_seq ?_
  refine cw_region ?_
  iterate 3 refine rw_v (op_pure rfl) ?_
  refine rw_v (op_conv Try.underlying2 Try.underlying227 rfl (i32_in _ hv)) ?_
  refine rw_v (op_iface Try.underlying227 rfl rfl) ?_
  refine rw_v (op_build (pl := [(0, 1), (1, 1), (2, 1)]) Try.underlying196 Try.zeroValue196 (fun w => by kernel_rfl) rfl rfl) ?_
  try have qb1_ := G0.le
  refine rw_new (op_box rfl) ?_
  intro w1_ g1_ s1_ b1_
  have G0 := G0.trans g1_
  iterate 2 refine rw_v (op_pure rfl) ?_
  first | refine rw_end ?_ | (refine rw_nil ?_; show CW _ _ _ _ _ _) | refine rw_nil ?_
  exact cw_ret (res2 rfl rfl ⟨_, rfl, by have := G0.le; omega, b1_, G0⟩)

def cellsI (n : Nat) (c : Nat → Int) : List Value := (List.range n).map fun i => .int .i32 (c i)
theorem cellsI_len (n : Nat) (c : Nat → Int) : (cellsI n c).length = n := by simp [cellsI]
theorem cellsI_get {n : Nat} {c : Nat → Int} {i : Nat} (h : i < n) : (cellsI n c)[i]? = some (.int .i32 (c i)) := by simp [cellsI, h]
theorem cellsI_set {n : Nat} {c c' : Nat → Int} {j : Nat} {v : Int} (h : ∀ i, i < n → c' i = if i = j then v else c i) : (cellsI n c).set j (.int .i32 v) = cellsI n c' := by
  apply List.ext_getElem?
  intro i
  rw [List.getElem?_set]
  by_cases hi : i < n
  · rw [cellsI_get (c := c') hi, h i hi]
    by_cases hij : j = i
    · subst hij; simp [cellsI_len, hi]
    · rw [if_neg hij, cellsI_get hi, if_neg (fun e => hij e.symm)]
  · rw [List.getElem?_eq_none (l := cellsI n c') (by rw [cellsI_len]; omega), List.getElem?_eq_none (l := cellsI n c) (by rw [cellsI_len]; omega)]
    split
    · split
      · rename_i h1 h2; rw [cellsI_len] at h2; omega
      · rfl
    · rfl
theorem cellsI_congr {n : Nat} {c c' : Nat → Int} (h : ∀ i, i < n → c i = c' i) : cellsI n c = cellsI n c' := by
  unfold cellsI
  exact List.map_congr_left fun i hi => by rw [h i (List.mem_range.1 hi)]
theorem cellsI_const {n : Nat} {c : Nat → Int} {x : Int} (h : ∀ i, i < n → c i = x) : cellsI n c = List.replicate n (.int .i32 x) := by
  rw [List.eq_replicate_iff]
  refine ⟨cellsI_len n c, fun v hv => ?_⟩
  obtain ⟨i, hi, rfl⟩ := List.mem_map.1 hv
  rw [h i (List.mem_range.1 hi)]
/-- A slab in memory: block b; its cells one by one in block R, or all of one value. -/
def SlabIs (w : World) (b : Nat) (R : Option Nat) (sw sh : Nat) (c : Nat → Int) : Prop :=
  (∀ i, i < sw * sh → -2147483648 ≤ c i ∧ c i ≤ 2147483647) ∧ match R with
  | none => ∃ x : Int, Blk w b 196 [.int .i64 sw, .int .i64 sh, .iface 227 (.int .i32 x)] ∧ (-2147483648 ≤ x ∧ x ≤ 2147483647) ∧ ∀ i, i < sw * sh → c i = x
  | some g => ∃ cap, Blk w b 196 [.int .i64 sw, .int .i64 sh, .iface 268 (.slice (some ⟨g, 0, none⟩) (sw * sh) cap)] ∧ Row w 21 1 (some ⟨g, 0, none⟩) (sw * sh) cap (cellsI (sw * sh) c)
theorem meth_flat (x : Value) (w : World) : (method (Try.prog.types.size + Made.depth) 227 x "hachure/slab.at").run Try.prog w = .ok (234, x) w := by kernel_rfl
theorem meth_rough (x : Value) (w : World) : (method (Try.prog.types.size + Made.depth) 268 x "hachure/slab.at").run Try.prog w = .ok (235, x) w := by kernel_rfl

theorem flatAt_E (x i : Int) (hx : -2147483648 ≤ x ∧ x ≤ 2147483647) (W : World) : Fn Try.prog 234 [.int .i32 x, .int .i64 i] W (RetG (.int .i64 x) W) := by
  refine Fn_enter Try.func234 rfl Try.results234 Try.ntmps234 (by kernel_rfl) (by kernel_rfl) ?_
  repeat refine cw_seq ?_
  refine cw_region ?_
  refine rw_v (op_pure rfl) ?_
  first | refine rw_end ?_ | (refine rw_nil ?_; show CW _ _ _ _ _ _) | refine rw_nil ?_
  repeat refine cw_seq ?_
  refine cw_region ?_
  refine rw_v (op_pure rfl) ?_
  refine rw_v (op_conv Try.underlying227 Try.underlying2 rfl (IntWalk.i64_in _ (by omega))) ?_
  refine rw_v (op_pure rfl) ?_
  first | refine rw_end ?_ | (refine rw_nil ?_; show CW _ _ _ _ _ _) | refine rw_nil ?_
  exact cw_ret (res1 rfl ⟨rfl, Gr.refl _⟩)
theorem roughAt_E (A : Option Addr) (n cap : Nat) (i x : Int) (l : List Value) (hx : -2147483648 ≤ x ∧ x ≤ 2147483647) (W : World) (hA : Rd W A l) (sa_A : SomeA A) (h0 : 0 ≤ i) (h1 : i < n) (hl : l[i.toNat]? = some (.int .i32 x)) :
    Fn Try.prog 235 [.slice A n cap, .int .i64 i] W (RetG (.int .i64 x) W) := by
  have S := St.start W
  refine Fn_enter Try.func235 rfl Try.results235 Try.ntmps235 (by kernel_rfl) (by kernel_rfl) ?_
  repeat refine cw_seq ?_
  refine cw_region ?_
  refine rw_v (op_pure rfl) ?_
  first | refine rw_end ?_ | (refine rw_nil ?_; show CW _ _ _ _ _ _) | refine rw_nil ?_
  repeat refine cw_seq ?_
  refine cw_region ?_
  iterate 2 refine rw_v (op_pure rfl) ?_
  refine rw_v (op_idx Try.underlying268 Try.sizeOf21 rfl rfl sa_A (by omega) (by omega)) ?_
  refine rw_r (op_ldR Try.underlying21 rfl rfl (hA.gr S.out) (by simpa using hl)) ?_
  refine rw_v (op_conv Try.underlying21 Try.underlying2 rfl (IntWalk.i64_in _ (by omega))) ?_
  refine rw_v (op_pure rfl) ?_
  first | refine rw_end ?_ | (refine rw_nil ?_; show CW _ _ _ _ _ _) | refine rw_nil ?_
  repeat refine cw_seq ?_
  refine cw_ret ?_
  repeat first | refine ret_then ?_ | refine ret_inb ?_
  exact res1 rfl ⟨rfl, S.out⟩

theorem cell_lt {sw sh : Nat} {x y : Int} (hx : 0 ≤ x ∧ x < sw) (hy : 0 ≤ y ∧ y < sh) : 0 ≤ y * sw + x ∧ y * sw + x < sw * sh := by
  obtain ⟨a, rfl⟩ := Int.eq_ofNat_of_zero_le hx.1
  obtain ⟨b, rfl⟩ := Int.eq_ofNat_of_zero_le hy.1
  have h1 : b + 1 ≤ sh := by omega
  have h2 : (b + 1) * sw ≤ sh * sw := Nat.mul_le_mul_right _ h1
  have h3 : a < sw := by omega
  rw [Nat.succ_mul, Nat.mul_comm sh sw] at h2
  constructor
  · have : 0 ≤ ((b * sw + a : Nat) : Int) := Int.natCast_nonneg _
    push_cast at this; exact this
  · have h4 : b * sw + a < sw * sh := by omega
    have : ((b * sw + a : Nat) : Int) < ((sw * sh : Nat) : Int) := by exact_mod_cast h4
    push_cast at this; exact this
theorem within_cell {x y w h : Int} (hw : 1 ≤ w ∧ w ≤ 1024) (hh : 1 ≤ h ∧ h ≤ 1024) (hx : 0 ≤ x ∧ x < w) (hy : 0 ≤ y ∧ y < h) : within x y x y w h = 0 := by
  have e1 : insideB (w - 1) 1024 = true := by simp [insideB]; omega
  have e2 : insideB (h - 1) 1024 = true := by simp [insideB]; omega
  have e3 : insideB x w = true := by simp [insideB]; omega
  have e4 : insideB y h = true := by simp [insideB]; omega
  simp [within, e1, e2, e3, e4]

theorem sat_E (b : Nat) (R : Option Nat) (sw sh : Nat) (c : Nat → Int) (x y : Int) (hw : 1 ≤ sw ∧ sw ≤ 16) (hh : 1 ≤ sh ∧ sh ≤ 16) (hx : 0 ≤ x ∧ x < sw) (hy : 0 ≤ y ∧ y < sh) (W : World) (hS : SlabIs W b R sw sh c) :
    Fn Try.prog 95 [.pointer (some ⟨b, 0, none⟩), .agg #[.int .i64 x, .int .i64 y]] W (RetG (.tuple #[.int .i64 (c (y * sw + x).toNat), .int .i64 0]) W) := by
  have hin := cell_lt hx hy
  have hsz : sw * sh ≤ 16 * 16 := Nat.mul_le_mul hw.2 hh.2
  have hyw : 0 ≤ y * sw ∧ y * sw ≤ 256 := by
    constructor
    · exact Int.mul_nonneg hy.1 (by omega)
    · have : ((sw * sh : Nat) : Int) ≤ 256 := by exact_mod_cast hsz
      push_cast at this; omega
  have hnat : (y * sw + x).toNat < sw * sh := by
    have : ((sw * sh : Nat) : Int) = (sw : Int) * sh := by push_cast; rfl
    omega
  have hwi := within_cell (w := sw) (h := sh) (by omega) (by omega) hx hy
  have G0 := Gr.refl W
  obtain ⟨hr, hS⟩ := hS
  have hrc := hr _ hnat
  cases R with
  | none =>
    obtain ⟨v, hB, hv, hc⟩ := hS
    have hcv := hc _ hnat

    refine Fn_enter Try.func95 rfl Try.results95 Try.ntmps95 (by kernel_rfl) (by kernel_rfl) ?_
    repeat refine cw_seq ?_
    refine cw_region ?_
    try have qb1_ := hB.lt
    try have qb1_ := G0.le
    refine rw_new (op_box rfl) ?_
    intro w1_ g1_ s1_ b1_
    have hB := hB.gr g1_
    have G0 := G0.trans g1_
    iterate 2 refine rw_v (op_pure rfl) ?_
    first | refine rw_end ?_ | (refine rw_nil ?_; show CW _ _ _ _ _ _) | refine rw_nil ?_
    repeat refine cw_seq ?_
    refine cw_region ?_
    refine rw_v (op_pure rfl) ?_
    first | refine rw_r (op_loadAB Try.underlying44 rfl (Try.sizeOf44 _) rfl b1_ rfl rfl) ?_ | refine rw_r (op_loadAB Try.underlying44 rfl (Try.sizeOf44 _) rfl hB rfl rfl) ?_
    refine rw_call rfl (sspot_E x y _) ?_
    rintro _ w1 ⟨rfl, g1⟩
    have hB := hB.gr g1
    have G0 := G0.trans g1
    have b1_ := b1_.gr g1
    refine rw_call rfl (scheck_E b sw sh x y x y _ (by omega) (by omega) _ hB) ?_
    rintro _ w2 ⟨rfl, g2⟩
    have hB := hB.gr g2
    have G0 := G0.trans g2
    have b1_ := b1_.gr g2
    refine rw_v (op_pure rfl) ?_
    first | refine rw_end ?_ | (refine rw_nil ?_; show CW _ _ _ _ _ _) | refine rw_nil ?_
    repeat refine cw_seq ?_
    refine cw_region ?_
    refine rw_v (op_pure rfl) ?_
    first | refine rw_v (op_b (b := true) rfl (bne_iff_ne.2 (by omega))) ?_ | refine rw_v (op_b (b := false) rfl (bne_eq_false_iff_eq.2 (by omega))) ?_ | refine rw_v (op_pure rfl) ?_
    first | refine rw_end ?_ | (refine rw_nil ?_; show CW _ _ _ _ _ _) | refine rw_nil ?_
    repeat refine cw_seq ?_
    refine cw_false (by rw [hwi]; rfl) ?_
    refine cw_skip ?_
    try show CW _ _ _ _ _ _
    repeat refine cw_seq ?_
    refine cw_draw (C := fun wq => Gr w2 wq) [0, 1, 2, 3, 4, 5, 6, 7, 8, 9, 10, 11, 12, 13, 14, 15, 16, 17, 18] [] (by kernel_rfl) (by kernel_rfl) (Gr.drew _) ?_
    simp only [pickL, List.drop_succ_cons, List.drop_zero]
    iterate 2 refine rq_v (op_pure rfl) ?_
    refine rq_v (op_fieldAddr Try.underlying196 rfl Try.sizeOf194 rfl rfl) ?_
    first | refine rq_r (fun wq hq => op_loadB Try.underlying194 rfl rfl (b1_.gr hq) rfl) ?_ | refine rq_r (fun wq hq => op_loadB Try.underlying194 rfl rfl (hB.gr hq) rfl) ?_
    refine rq_v (op_fieldAddr Try.underlying44 rfl Try.sizeOf2 rfl rfl) ?_
    first | refine rq_r (fun wq hq => op_loadB Try.underlying2 rfl rfl (b1_.gr hq) rfl) ?_ | refine rq_r (fun wq hq => op_loadB Try.underlying2 rfl rfl (hB.gr hq) rfl) ?_
    iterate 2 refine rq_v (op_pure rfl) ?_
    refine rq_v (op_fieldAddr Try.underlying196 rfl Try.sizeOf2 rfl rfl) ?_
    first | refine rq_r (fun wq hq => op_loadB Try.underlying2 rfl rfl (b1_.gr hq) rfl) ?_ | refine rq_r (fun wq hq => op_loadB Try.underlying2 rfl rfl (hB.gr hq) rfl) ?_
    refine rq_v (op_rng rfl (by omega)) ?_
    refine rq_v (op_fieldAddr Try.underlying44 rfl Try.sizeOf2 rfl rfl) ?_
    first | refine rq_r (fun wq hq => op_loadB Try.underlying2 rfl rfl (b1_.gr hq) rfl) ?_ | refine rq_r (fun wq hq => op_loadB Try.underlying2 rfl rfl (hB.gr hq) rfl) ?_
    refine rq_v (op_rng rfl (by omega)) ?_
    iterate 2 refine rq_v (op_pure rfl) ?_
    refine rq_invoke rfl (meth_flat _) rfl (fun wq hq => (flatAt_E v _ hv wq).mono (fun _ _ ⟨hv, hg⟩ => ⟨hv, hq.trans hg⟩)) ?_
    iterate 2 refine rq_v (op_pure rfl) ?_
    refine rq_nil ?_
    intro w2_ g2_
    have hB := hB.gr g2_
    have G0 := G0.trans g2_
    have b1_ := b1_.gr g2_
    first | refine rw_end ?_ | (refine rw_nil ?_; show CW _ _ _ _ _ _) | refine rw_nil ?_
    exact cw_ret (res2 rfl rfl ⟨by rw [hcv], G0⟩)
  | some g =>
    obtain ⟨cap, hB, hL⟩ := hS
    have hcv := cellsI_get (c := c) hnat

    refine Fn_enter Try.func95 rfl Try.results95 Try.ntmps95 (by kernel_rfl) (by kernel_rfl) ?_
    repeat refine cw_seq ?_
    refine cw_region ?_
    try have qb1_ := hB.lt
    try have qb1_ := G0.le
    try have qb1_ := hL.lt
    refine rw_new (op_box rfl) ?_
    intro w1_ g1_ s1_ b1_
    have hB := hB.gr g1_
    have G0 := G0.trans g1_
    have hL := hL.gr g1_
    iterate 2 refine rw_v (op_pure rfl) ?_
    first | refine rw_end ?_ | (refine rw_nil ?_; show CW _ _ _ _ _ _) | refine rw_nil ?_
    repeat refine cw_seq ?_
    refine cw_region ?_
    refine rw_v (op_pure rfl) ?_
    first | refine rw_r (op_loadAB Try.underlying44 rfl (Try.sizeOf44 _) rfl b1_ rfl rfl) ?_ | refine rw_r (op_loadAB Try.underlying44 rfl (Try.sizeOf44 _) rfl hL rfl rfl) ?_ | refine rw_r (op_loadAB Try.underlying44 rfl (Try.sizeOf44 _) rfl hB rfl rfl) ?_
    refine rw_call rfl (sspot_E x y _) ?_
    rintro _ w1 ⟨rfl, g1⟩
    have hB := hB.gr g1
    have G0 := G0.trans g1
    have hL := hL.gr g1
    have b1_ := b1_.gr g1
    refine rw_call rfl (scheck_E b sw sh x y x y _ (by omega) (by omega) _ hB) ?_
    rintro _ w2 ⟨rfl, g2⟩
    have hB := hB.gr g2
    have G0 := G0.trans g2
    have hL := hL.gr g2
    have b1_ := b1_.gr g2
    refine rw_v (op_pure rfl) ?_
    first | refine rw_end ?_ | (refine rw_nil ?_; show CW _ _ _ _ _ _) | refine rw_nil ?_
    repeat refine cw_seq ?_
    refine cw_region ?_
    refine rw_v (op_pure rfl) ?_
    first | refine rw_v (op_b (b := true) rfl (bne_iff_ne.2 (by omega))) ?_ | refine rw_v (op_b (b := false) rfl (bne_eq_false_iff_eq.2 (by omega))) ?_ | refine rw_v (op_pure rfl) ?_
    first | refine rw_end ?_ | (refine rw_nil ?_; show CW _ _ _ _ _ _) | refine rw_nil ?_
    repeat refine cw_seq ?_
    refine cw_false (by rw [hwi]; rfl) ?_
    refine cw_skip ?_
    try show CW _ _ _ _ _ _
    repeat refine cw_seq ?_
    refine cw_draw (C := fun wq => Gr w2 wq) [0, 1, 2, 3, 4, 5, 6, 7, 8, 9, 10, 11, 12, 13, 14, 15, 16, 17, 18] [] (by kernel_rfl) (by kernel_rfl) (Gr.drew _) ?_
    simp only [pickL, List.drop_succ_cons, List.drop_zero]
    iterate 2 refine rq_v (op_pure rfl) ?_
    refine rq_v (op_fieldAddr Try.underlying196 rfl Try.sizeOf194 rfl rfl) ?_
    first | refine rq_r (fun wq hq => op_loadB Try.underlying194 rfl rfl (b1_.gr hq) rfl) ?_ | refine rq_r (fun wq hq => op_loadB Try.underlying194 rfl rfl (hL.gr hq) rfl) ?_ | refine rq_r (fun wq hq => op_loadB Try.underlying194 rfl rfl (hB.gr hq) rfl) ?_
    refine rq_v (op_fieldAddr Try.underlying44 rfl Try.sizeOf2 rfl rfl) ?_
    first | refine rq_r (fun wq hq => op_loadB Try.underlying2 rfl rfl (b1_.gr hq) rfl) ?_ | refine rq_r (fun wq hq => op_loadB Try.underlying2 rfl rfl (hL.gr hq) rfl) ?_ | refine rq_r (fun wq hq => op_loadB Try.underlying2 rfl rfl (hB.gr hq) rfl) ?_
    iterate 2 refine rq_v (op_pure rfl) ?_
    refine rq_v (op_fieldAddr Try.underlying196 rfl Try.sizeOf2 rfl rfl) ?_
    first | refine rq_r (fun wq hq => op_loadB Try.underlying2 rfl rfl (b1_.gr hq) rfl) ?_ | refine rq_r (fun wq hq => op_loadB Try.underlying2 rfl rfl (hL.gr hq) rfl) ?_ | refine rq_r (fun wq hq => op_loadB Try.underlying2 rfl rfl (hB.gr hq) rfl) ?_
    refine rq_v (op_rng rfl (by omega)) ?_
    refine rq_v (op_fieldAddr Try.underlying44 rfl Try.sizeOf2 rfl rfl) ?_
    first | refine rq_r (fun wq hq => op_loadB Try.underlying2 rfl rfl (b1_.gr hq) rfl) ?_ | refine rq_r (fun wq hq => op_loadB Try.underlying2 rfl rfl (hL.gr hq) rfl) ?_ | refine rq_r (fun wq hq => op_loadB Try.underlying2 rfl rfl (hB.gr hq) rfl) ?_
    refine rq_v (op_rng rfl (by omega)) ?_
    iterate 2 refine rq_v (op_pure rfl) ?_
    refine rq_invoke rfl (meth_rough _) rfl (fun wq hq => (roughAt_E _ _ cap _ _ _ hrc wq (hL.gr hq).rd (someA_some _ _) hin.1 (by push_cast; exact hin.2) hcv).mono (fun _ _ ⟨hv, hg⟩ => ⟨hv, hq.trans hg⟩)) ?_
    iterate 2 refine rq_v (op_pure rfl) ?_
    refine rq_nil ?_
    intro w2_ g2_
    have hB := hB.gr g2_
    have G0 := G0.trans g2_
    have hL := hL.gr g2_
    have b1_ := b1_.gr g2_
    first | refine rw_end ?_ | (refine rw_nil ?_; show CW _ _ _ _ _ _) | refine rw_nil ?_
    exact cw_ret (res2 rfl rfl ⟨rfl, G0⟩)
end Go.Proofs.Ytbcgbcipigcbhaa
