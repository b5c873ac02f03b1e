/- A grid in memory; contracts of package grid's functions that read. -/
import Derived.Test.YtbcgbcipigcbhaaSlabC
import Derived.Test.YtbcgbcipigcbhaaTriB
namespace Go.Proofs.Ytbcgbcipigcbhaa
open Go.RowKit
set_option linter.unusedVariables false
set_option linter.unusedSimpArgs false
set_option maxRecDepth 100000

/-! ### Tiles -/
def acr (n : Nat) : Nat := (n + 15) / 16
def tsz (n k : Nat) : Nat := min 16 (n - 16 * k)
def tileC (gw : Nat) (c : Nat → Int) (t : Nat) : Nat → Int := fun i => c ((16 * (t / acr gw) + i / tsz gw (t % acr gw)) * gw + (16 * (t % acr gw) + i % tsz gw (t % acr gw)))
theorem acr_pos {n : Nat} (h : 1 ≤ n) : 1 ≤ acr n := by unfold acr; omega
theorem acr_le {n : Nat} (h : n ≤ 1024) : acr n ≤ 64 := by unfold acr; omega
theorem div_lt_acr {n x : Nat} (h : x < n) : x / 16 < acr n := by unfold acr; omega
theorem tsz_pos {n k : Nat} (h : k < acr n) : 1 ≤ tsz n k ∧ tsz n k ≤ 16 := by unfold tsz; unfold acr at h; omega
theorem mod_lt_tsz {n x : Nat} (h : x < n) : x % 16 < tsz n (x / 16) := by unfold tsz; omega
theorem tile_of {gw a b : Nat} (ha : a < acr gw) : (b * acr gw + a) % acr gw = a ∧ (b * acr gw + a) / acr gw = b := by
  constructor
  · rw [Nat.mul_add_mod_self_right, Nat.mod_eq_of_lt ha]
  · rw [Nat.add_comm, Nat.add_mul_div_right _ _ (by omega), Nat.div_eq_of_lt ha, Nat.zero_add]
theorem tileC_at {gw gh x y : Nat} {c : Nat → Int} (hx : x < gw) (hy : y < gh) : tileC gw c (y / 16 * acr gw + x / 16) (y % 16 * tsz gw (x / 16) + x % 16) = c (y * gw + x) := by
  have ht := tile_of (gw := gw) (b := y / 16) (div_lt_acr hx)
  have hm := mod_lt_tsz hx
  unfold tileC
  rw [ht.1, ht.2]
  rw [Nat.mul_add_mod_self_right, Nat.mod_eq_of_lt hm, Nat.add_comm (y % 16 * _), Nat.add_mul_div_right _ _ (by omega), Nat.div_eq_of_lt hm, Nat.zero_add, Nat.div_add_mod, Nat.div_add_mod]
theorem tile_lt {gw gh x y : Nat} (hx : x < gw) (hy : y < gh) : y / 16 * acr gw + x / 16 < acr gw * acr gh := by
  have h1 := div_lt_acr hx
  have h2 : (y / 16 + 1) * acr gw ≤ acr gh * acr gw := Nat.mul_le_mul_right _ (div_lt_acr hy)
  rw [Nat.succ_mul, Nat.mul_comm (acr gh)] at h2
  omega

/-! ### A grid -/
def ptrs (n : Nat) (bs : Nat → Nat) : List Value := (List.range n).map fun t => .pointer (some ⟨bs t, 0, none⟩)
theorem ptrs_get {n t : Nat} {bs : Nat → Nat} (h : t < n) : (ptrs n bs)[t]? = some (.pointer (some ⟨bs t, 0, none⟩)) := by simp [ptrs, h]
theorem ptrs_len (n : Nat) (bs : Nat → Nat) : (ptrs n bs).length = n := by simp [ptrs]
structure GridAt (w : World) (p gw gh : Nat) (c : Nat → Int) (A : Option Addr) (cap : Nat) (bs : Nat → Nat) (Rs : Nat → Option Nat) : Prop where
  sw : 1 ≤ gw ∧ gw ≤ 1024
  sh : 1 ≤ gh ∧ gh ≤ 1024
  top : Blk w p 112 [.int .i64 gw, .int .i64 gh, .int .i64 (acr gw), .slice A (acr gw * acr gh) cap]
  row : Row w 114 1 A (acr gw * acr gh) cap (ptrs (acr gw * acr gh) bs)
  slab : ∀ t, t < acr gw * acr gh → SlabIs w (bs t) (Rs t) (tsz gw (t % acr gw)) (tsz gh (t / acr gw)) (tileC gw c t)
  inj : ∀ t u, t < acr gw * acr gh → u < acr gw * acr gh → bs t = bs u → t = u
  injR : ∀ t u g, t < acr gw * acr gh → u < acr gw * acr gh → Rs t = some g → Rs u = some g → t = u
/-- the blocks of a grid lie in F -/
structure GridOwn (F : Nat → Prop) (N p : Nat) (A : Option Addr) (bs : Nat → Nat) (Rs : Nat → Option Nat) : Prop where
  top : F p
  row : ∀ g, ownA A g → F g
  slab : ∀ t, t < N → F (bs t)
  rough : ∀ t g, t < N → Rs t = some g → F g
def GridIs (w : World) (F : Nat → Prop) (p gw gh : Nat) (c : Nat → Int) : Prop := ∃ A cap bs Rs, GridAt w p gw gh c A cap bs Rs ∧ GridOwn F (acr gw * acr gh) p A bs Rs
theorem SlabIs.keep {w w' : World} {b : Nat} {R : Option Nat} {sw sh : Nat} {c : Nat → Int} (h : SlabIs w b R sw sh c) (hk : ∀ g, g = b ∨ R = some g → w'.heap[g]? = w.heap[g]?) : SlabIs w' b R sw sh c := by
  obtain ⟨h1, h2⟩ := h
  refine ⟨h1, ?_⟩
  cases R with
  | none => obtain ⟨x, hB, r⟩ := h2; exact ⟨x, hB.keep (hk b (.inl rfl)), r⟩
  | some g => obtain ⟨cap, hB, hR⟩ := h2; exact ⟨cap, hB.keep (hk b (.inl rfl)), hR.keep (fun g' hg' => hk g' (.inr (by rw [← ownA_eq hg'])))⟩
theorem SlabIs.lt {w : World} {b : Nat} {R : Option Nat} {sw sh : Nat} {c : Nat → Int} (h : SlabIs w b R sw sh c) {g : Nat} (hg : g = b ∨ R = some g) : g < w.heap.size := by
  obtain ⟨h1, h2⟩ := h
  cases R with
  | none => obtain ⟨x, hB, r⟩ := h2; exact hg.elim (fun e => e ▸ hB.lt) (fun e => by cases e)
  | some g' =>
    obtain ⟨cap, hB, hR⟩ := h2
    rcases hg with rfl | hg
    · exact hB.lt
    · injection hg with hg; subst hg; exact hR.lt rfl
theorem SlabIs.gr {w w' : World} {b : Nat} {R : Option Nat} {sw sh : Nat} {c : Nat → Int} (h : SlabIs w b R sw sh c) (k : Gr w w') : SlabIs w' b R sw sh c := h.keep fun g hg => k.block g (h.lt hg)
theorem GridAt.gr {w w' : World} {p gw gh cap : Nat} {c : Nat → Int} {A : Option Addr} {bs : Nat → Nat} {Rs : Nat → Option Nat} (h : GridAt w p gw gh c A cap bs Rs) (k : Gr w w') : GridAt w' p gw gh c A cap bs Rs :=
  ⟨h.sw, h.sh, h.top.gr k, h.row.gr k, fun t ht => (h.slab t ht).gr k, h.inj, h.injR⟩
theorem GridIs.gr {w w' : World} {F : Nat → Prop} {p gw gh : Nat} {c : Nat → Int} (h : GridIs w F p gw gh c) (k : Gr w w') : GridIs w' F p gw gh c := by
  obtain ⟨A, cap, bs, Rs, h1, h2⟩ := h
  exact ⟨A, cap, bs, Rs, h1.gr k, h2⟩
theorem GridIs.weak {w : World} {F F' : Nat → Prop} {p gw gh : Nat} {c : Nat → Int} (h : GridIs w F p gw gh c) (hF : ∀ g, F g → F' g) : GridIs w F' p gw gh c := by
  obtain ⟨A, cap, bs, Rs, h1, h2⟩ := h
  exact ⟨A, cap, bs, Rs, h1, hF _ h2.top, fun g hg => hF g (h2.row g hg), fun t ht => hF _ (h2.slab t ht), fun t g ht hg => hF g (h2.rough t g ht hg)⟩
theorem tile_idx_lt {gw gh t i : Nat} (ht : t < acr gw * acr gh) (hw : 1 ≤ gw) (hi : i < tsz gw (t % acr gw) * tsz gh (t / acr gw)) : (16 * (t / acr gw) + i / tsz gw (t % acr gw)) * gw + (16 * (t % acr gw) + i % tsz gw (t % acr gw)) < gw * gh := by
  have ha := acr_pos hw
  have h1 : t % acr gw < acr gw := Nat.mod_lt _ (by omega)
  have h2 := tsz_pos h1
  have h3 : i % tsz gw (t % acr gw) < tsz gw (t % acr gw) := Nat.mod_lt _ (by omega)
  have h4 : i / tsz gw (t % acr gw) < tsz gh (t / acr gw) := Nat.div_lt_of_lt_mul hi
  have e1 : ∀ n k, tsz n k ≤ n - 16 * k := fun n k => by unfold tsz; omega
  have h5 : 16 * (t % acr gw) + i % tsz gw (t % acr gw) < gw := by have := e1 gw (t % acr gw); generalize i % tsz gw (t % acr gw) = q at *; omega
  have h6 : 16 * (t / acr gw) + i / tsz gw (t % acr gw) < gh := by have := e1 gh (t / acr gw); generalize i / tsz gw (t % acr gw) = q at *; omega
  have h7 : (16 * (t / acr gw) + i / tsz gw (t % acr gw) + 1) * gw ≤ gh * gw := Nat.mul_le_mul_right _ h6
  rw [Nat.succ_mul, Nat.mul_comm gh] at h7
  omega
theorem tileC_congr {gw gh t i : Nat} {c c' : Nat → Int} (h : ∀ j, j < gw * gh → c j = c' j) (ht : t < acr gw * acr gh) (hw : 1 ≤ gw) (hi : i < tsz gw (t % acr gw) * tsz gh (t / acr gw)) : tileC gw c t i = tileC gw c' t i := h _ (tile_idx_lt ht hw hi)
theorem SlabIs.congr {w : World} {b : Nat} {R : Option Nat} {sw sh : Nat} {c c' : Nat → Int} (h : SlabIs w b R sw sh c) (hc : ∀ i, i < sw * sh → c i = c' i) : SlabIs w b R sw sh c' := by
  obtain ⟨h1, h2⟩ := h
  refine ⟨fun i hi => (hc i hi) ▸ h1 i hi, ?_⟩
  cases R with
  | none => obtain ⟨x, hB, hx, r⟩ := h2; exact ⟨x, hB, hx, fun i hi => (hc i hi) ▸ r i hi⟩
  | some g => obtain ⟨cap, hB, hR⟩ := h2; exact ⟨cap, hB, hR.congr (cellsI_congr hc)⟩
theorem GridIs.congr {w : World} {F : Nat → Prop} {p gw gh : Nat} {c c' : Nat → Int} (h : GridIs w F p gw gh c) (hc : ∀ i, i < gw * gh → c i = c' i) : GridIs w F p gw gh c' := by
  obtain ⟨A, cap, bs, Rs, h1, h2⟩ := h
  exact ⟨A, cap, bs, Rs, ⟨h1.sw, h1.sh, h1.top, h1.row, fun t ht => (h1.slab t ht).congr fun i hi => tileC_congr hc ht h1.sw.1 hi, h1.inj, h1.injR⟩, h2⟩
theorem GridAt.may {w : World} {p gw gh cap : Nat} {c : Nat → Int} {A : Option Addr} {bs : Nat → Nat} {Rs : Nat → Option Nat} (h : GridAt w p gw gh c A cap bs Rs) {x y : Nat} (hx : x < gw) (hy : y < gh) : -2147483648 ≤ c (y * gw + x) ∧ c (y * gw + x) ≤ 2147483647 := by
  have ht := tile_lt hx hy
  have h1 := (h.slab _ ht).1
  have hto := tile_of (gw := gw) (b := y / 16) (div_lt_acr hx)
  rw [hto.1, hto.2] at h1
  have h2 := h1 (y % 16 * tsz gw (x / 16) + x % 16) (by
    have h3 := mod_lt_tsz hx
    have h4 : (y % 16 + 1) * tsz gw (x / 16) ≤ tsz gh (y / 16) * tsz gw (x / 16) := Nat.mul_le_mul_right _ (mod_lt_tsz hy)
    rw [Nat.succ_mul, Nat.mul_comm (tsz gh _)] at h4
    omega)
  rwa [tileC_at hx hy] at h2

/-! ### Functions -/
theorem gsize_E (p gw gh : Nat) (l : List Value) (W : World) (hG : Blk W p 112 (.int .i64 gw :: .int .i64 gh :: l)) : Fn Try.prog 60 [.pointer (some ⟨p, 0, none⟩)] W (RetG (.tuple #[.int .i64 gw, .int .i64 gh]) W) := by
  have S := St.start W
  refine Fn_enter Try.func60 rfl Try.results60 Try.ntmps60 (by kernel_rfl) (by kernel_rfl) ?_
  repeat refine cw_seq ?_
  refine cw_region ?_
  iterate 2 refine rw_v (op_pure rfl) ?_
  first | refine rw_end ?_ | (refine rw_nil ?_; show CW _ _ _ _ _ _) | refine rw_nil ?_
  repeat refine cw_seq ?_
  refine cw_region ?_
  refine rw_v (op_pure rfl) ?_
  refine rw_v (op_nilp Try.underlying28 rfl rfl) ?_
  first | refine rw_end ?_ | (refine rw_nil ?_; show CW _ _ _ _ _ _) | refine rw_nil ?_
  repeat refine cw_seq ?_
  refine cw_false rfl ?_
  repeat refine cw_seq ?_
  refine cw_skip ?_
  try show CW _ _ _ _ _ _
  repeat refine cw_seq ?_
  refine cw_draw (C := fun wq => Gr W wq) [0, 1, 2, 3, 4, 5, 6, 7, 8, 9] [] (by kernel_rfl) (by kernel_rfl) (Gr.drew _) ?_
  simp only [pickL, List.drop_succ_cons, List.drop_zero]
  iterate 2 refine rq_v (op_pure rfl) ?_
  refine rq_v (op_fieldAddr Try.underlying112 rfl Try.sizeOf2 rfl rfl) ?_
  refine rq_r (fun wq hq => op_loadB Try.underlying2 rfl rfl (hG.gr (S.gr hq).out) rfl) ?_
  iterate 2 refine rq_v (op_pure rfl) ?_
  refine rq_v (op_fieldAddr Try.underlying112 rfl Try.sizeOf2 rfl rfl) ?_
  refine rq_r (fun wq hq => op_loadB Try.underlying2 rfl rfl (hG.gr (S.gr hq).out) rfl) ?_
  iterate 2 refine rq_v (op_pure rfl) ?_
  refine rq_nil ?_
  intro w1_ g1_
  have S := S.gr g1_
  first | refine rw_end ?_ | (refine rw_nil ?_; show CW _ _ _ _ _ _) | refine rw_nil ?_
  repeat refine cw_seq ?_
  refine cw_ret ?_
  repeat first | refine ret_then ?_ | refine ret_inb ?_
  exact res2 rfl rfl ⟨rfl, S.out⟩
theorem gall_E (p gw gh : Nat) (hw : gw ≤ 1024) (hh : gh ≤ 1024) (l : List Value) (W : World) (hG : Blk W p 112 (.int .i64 gw :: .int .i64 gh :: l)) : Fn Try.prog 44 [.pointer (some ⟨p, 0, none⟩)] W (RetG (.agg #[.int .i64 0, .int .i64 0, .int .i64 (gw - 1), .int .i64 (gh - 1)]) W) := by
  have S := St.start W
  refine Fn_enter Try.func44 rfl Try.results44 Try.ntmps44 (by kernel_rfl) (by kernel_rfl) ?_
  repeat refine cw_seq ?_
  refine cw_region ?_
  refine rw_newB (op_alloc Try.zeroValue75 rfl) S ?_
  intro b_b1 w2_ g2_ S
  first | refine rw_end ?_ | (refine rw_nil ?_; show CW _ _ _ _ _ _) | refine rw_nil ?_
  repeat refine cw_seq ?_
  refine cw_region ?_
  refine rw_v (op_pure rfl) ?_
  refine rw_v (op_nilp Try.underlying28 rfl rfl) ?_
  first | refine rw_end ?_ | (refine rw_nil ?_; show CW _ _ _ _ _ _) | refine rw_nil ?_
  repeat refine cw_seq ?_
  refine cw_false rfl ?_
  repeat refine cw_seq ?_
  refine cw_skip ?_
  try show CW _ _ _ _ _ _
  repeat refine cw_seq ?_
  refine cw_draw (C := fun wq => Gr w2_ wq) [0, 1, 2, 3, 4, 5, 6, 7, 8, 9] [10, 11] (by kernel_rfl) (by kernel_rfl) (Gr.drew _) ?_
  simp only [pickL, List.drop_succ_cons, List.drop_zero]
  iterate 2 refine rq_v (op_pure rfl) ?_
  refine rq_v (op_fieldAddr Try.underlying112 rfl Try.sizeOf2 rfl rfl) ?_
  refine rq_r (fun wq hq => op_loadB Try.underlying2 rfl rfl (hG.gr (S.gr hq).out) rfl) ?_
  refine rq_v (op_rng rfl (by omega)) ?_
  iterate 2 refine rq_v (op_pure rfl) ?_
  refine rq_v (op_fieldAddr Try.underlying112 rfl Try.sizeOf2 rfl rfl) ?_
  refine rq_r (fun wq hq => op_loadB Try.underlying2 rfl rfl (hG.gr (S.gr hq).out) rfl) ?_
  refine rq_v (op_rng rfl (by omega)) ?_
  refine rq_nil ?_
  intro w3_ g3_
  have S := S.gr g3_
  refine rw_v (op_build (pl := [(0, 1), (1, 1), (2, 1), (3, 1)]) Try.underlying75 Try.zeroValue75 (fun w => by kernel_rfl) rfl rfl) ?_
  refine rw_storeSA (i := 0) S rfl (Try.sizeOf75 _) rfl rfl rfl rfl rfl rfl ?_
  intro w4_ S
  first | refine rw_end ?_ | (refine rw_nil ?_; show CW _ _ _ _ _ _) | refine rw_nil ?_
  repeat refine cw_seq ?_
  refine cw_ret ?_
  repeat first | refine ret_then ?_ | refine ret_inb ?_
  exact resA Try.underlying75 rfl (Try.sizeOf75 _) rfl (S.blk (i := 0) rfl) rfl rfl ⟨rfl, S.out⟩
theorem gcheck_E (p gw gh : Nat) (x0 y0 x1 y1 : Int) (hw : gw ≤ 1024) (hh : gh ≤ 1024) (l : List Value) (W : World) (hG : Blk W p 112 (.int .i64 gw :: .int .i64 gh :: l)) :
    Fn Try.prog 92 [.pointer (some ⟨p, 0, none⟩), .agg #[.int .i64 x0, .int .i64 y0, .int .i64 x1, .int .i64 y1]] W (RetG (.int .i64 (within x0 y0 x1 y1 gw gh)) W) := by
  have S := St.start W
  refine Fn_enter Try.func92 rfl Try.results92 Try.ntmps92 (by kernel_rfl) (by kernel_rfl) ?_
  repeat refine cw_seq ?_
  refine cw_region ?_
  refine rw_newB (op_box rfl) S ?_
  intro b_b1 w2_ g2_ S
  refine rw_v (op_pure rfl) ?_
  first | refine rw_end ?_ | (refine rw_nil ?_; show CW _ _ _ _ _ _) | refine rw_nil ?_
  repeat refine cw_seq ?_
  refine cw_region ?_
  refine rw_v (op_pure rfl) ?_
  refine rw_v (op_nilp Try.underlying28 rfl rfl) ?_
  first | refine rw_end ?_ | (refine rw_nil ?_; show CW _ _ _ _ _ _) | refine rw_nil ?_
  repeat refine cw_seq ?_
  refine cw_false rfl ?_
  repeat refine cw_seq ?_
  refine cw_skip ?_
  try show CW _ _ _ _ _ _
  repeat refine cw_seq ?_
  refine cw_draw (C := fun wq => Gr w2_ wq) [0, 1, 2, 3, 4, 5, 6, 7, 8, 9, 10] [] (by kernel_rfl) (by kernel_rfl) (Gr.drew _) ?_
  simp only [pickL, List.drop_succ_cons, List.drop_zero]
  refine rq_r (fun wq hq => op_loadAB Try.underlying75 rfl (Try.sizeOf75 _) rfl ((S.gr hq).blk (i := 0) rfl) rfl rfl) ?_
  iterate 2 refine rq_v (op_pure rfl) ?_
  refine rq_v (op_fieldAddr Try.underlying112 rfl Try.sizeOf2 rfl rfl) ?_
  refine rq_r (fun wq hq => op_loadB Try.underlying2 rfl rfl (hG.gr (S.gr hq).out) rfl) ?_
  iterate 2 refine rq_v (op_pure rfl) ?_
  refine rq_v (op_fieldAddr Try.underlying112 rfl Try.sizeOf2 rfl rfl) ?_
  refine rq_r (fun wq hq => op_loadB Try.underlying2 rfl rfl (hG.gr (S.gr hq).out) rfl) ?_
  refine rq_call rfl (fun wq hq => (within_E _ _ _ _ _ _ (by omega) (by omega) wq).mono (fun _ _ ⟨hv, hg⟩ => ⟨hv, hq.trans hg⟩)) ?_
  refine rq_v (op_pure rfl) ?_
  refine rq_nil ?_
  intro w3_ g3_
  have S := S.gr g3_
  first | refine rw_end ?_ | (refine rw_nil ?_; show CW _ _ _ _ _ _) | refine rw_nil ?_
  repeat refine cw_seq ?_
  refine cw_ret ?_
  repeat first | refine ret_then ?_ | refine ret_inb ?_
  exact res1 rfl ⟨rfl, S.out⟩
theorem gspot_E (x y : Int) (W : World) : Fn Try.prog 114 [.agg #[.int .i64 x, .int .i64 y]] W (RetG (.agg #[.int .i64 x, .int .i64 y, .int .i64 x, .int .i64 y]) W) := by
  have S := St.start W
  refine Fn_enter Try.func114 rfl Try.results114 Try.ntmps114 (by kernel_rfl) (by kernel_rfl) ?_
  repeat refine cw_seq ?_
  refine cw_region ?_
  refine rw_newB (op_box rfl) S ?_
  intro b_b1 w2_ g2_ S
  refine rw_newB (op_alloc Try.zeroValue75 rfl) S ?_
  intro b_b3 w4_ g4_ S
  first | refine rw_end ?_ | (refine rw_nil ?_; show CW _ _ _ _ _ _) | refine rw_nil ?_
  repeat refine cw_seq ?_
  refine cw_region ?_
  refine rw_v (op_fieldAddr Try.underlying44 rfl Try.sizeOf2 rfl rfl) ?_
  refine rw_r (op_loadB Try.underlying2 rfl rfl (S.blk (i := 1) rfl) rfl) ?_
  refine rw_v (op_fieldAddr Try.underlying44 rfl Try.sizeOf2 rfl rfl) ?_
  refine rw_r (op_loadB Try.underlying2 rfl rfl (S.blk (i := 1) rfl) rfl) ?_
  refine rw_v (op_fieldAddr Try.underlying44 rfl Try.sizeOf2 rfl rfl) ?_
  refine rw_r (op_loadB Try.underlying2 rfl rfl (S.blk (i := 1) rfl) rfl) ?_
  refine rw_v (op_fieldAddr Try.underlying44 rfl Try.sizeOf2 rfl rfl) ?_
  refine rw_r (op_loadB Try.underlying2 rfl rfl (S.blk (i := 1) rfl) rfl) ?_
  refine rw_v (op_build (pl := [(0, 1), (1, 1), (2, 1), (3, 1)]) Try.underlying75 Try.zeroValue75 (fun w => by kernel_rfl) rfl rfl) ?_
  refine rw_storeSA (i := 0) S rfl (Try.sizeOf75 _) rfl rfl rfl rfl rfl rfl ?_
  intro w5_ S
  first | refine rw_end ?_ | (refine rw_nil ?_; show CW _ _ _ _ _ _) | refine rw_nil ?_
  repeat refine cw_seq ?_
  refine cw_ret ?_
  repeat first | refine ret_then ?_ | refine ret_inb ?_
  exact resA Try.underlying75 rfl (Try.sizeOf75 _) rfl (S.blk (i := 0) rfl) rfl rfl ⟨rfl, S.out⟩
theorem inner_E (x y : Int) (hx : 0 ≤ x) (hy : 0 ≤ y) (W : World) : Fn Try.prog 96 [.int .i64 x, .int .i64 y] W (RetG (.agg #[.int .i64 (x % 16), .int .i64 (y % 16)]) W) := by
  have S := St.start W
  refine Fn_enter Try.func96 rfl Try.results96 Try.ntmps96 (by kernel_rfl) (by kernel_rfl) ?_
  repeat refine cw_seq ?_
  refine cw_region ?_
  refine rw_newB (op_alloc Try.zeroValue44 rfl) S ?_
  intro b_b1 w2_ g2_ S
  first | refine rw_end ?_ | (refine rw_nil ?_; show CW _ _ _ _ _ _) | refine rw_nil ?_
  repeat refine cw_seq ?_
  refine cw_region ?_
  refine rw_v (op_pure rfl) ?_
  refine rw_v (op_rem rfl rfl (by omega) (by omega)) ?_
  refine rw_v (op_pure rfl) ?_
  refine rw_v (op_rem rfl rfl (by omega) (by omega)) ?_
  refine rw_v (op_build (pl := [(0, 1), (1, 1)]) Try.underlying44 Try.zeroValue44 (fun w => by kernel_rfl) rfl rfl) ?_
  refine rw_storeSA (i := 0) S rfl (Try.sizeOf44 _) rfl rfl rfl rfl rfl rfl ?_
  intro w3_ S
  first | refine rw_end ?_ | (refine rw_nil ?_; show CW _ _ _ _ _ _) | refine rw_nil ?_
  repeat refine cw_seq ?_
  refine cw_ret ?_
  repeat first | refine ret_then ?_ | refine ret_inb ?_
  exact resA Try.underlying44 rfl (Try.sizeOf44 _) rfl (S.blk (i := 0) rfl) rfl rfl ⟨rfl, S.out⟩
end Go.Proofs.Ytbcgbcipigcbhaa
