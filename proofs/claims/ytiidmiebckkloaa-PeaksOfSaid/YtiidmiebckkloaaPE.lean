/- A grid in memory; contracts of package grid's functions that read. -/
import Derived.Test.YtiidmiebckkloaaPD
namespace Go.Proofs.Ytiidmiebckkloaa
open Go.RowKit
set_option linter.unusedVariables false
set_option linter.unusedSimpArgs false
set_option maxRecDepth 100000

/-! ### Tiles -/
def acr (n : Nat) : Nat := (n + 15) / 16
def tsz (n k : Nat) : Nat := min 16 (n - 16 * k)
def tileC (gw : Nat) (c : Nat → Int) (t : Nat) : Nat → Int := fun i => c ((16 * (t / acr gw) + i / tsz gw (t % acr gw)) * gw + (16 * (t % acr gw) + i % tsz gw (t % acr gw)))
theorem acr_pos {n : Nat} (h : 1 ≤ n) : 1 ≤ acr n := by unfold acr; omega
theorem acr_le {n : Nat} (h : n ≤ 1024) : acr n ≤ 64 := by unfold acr; omega
theorem div_lt_acr {n x : Nat} (h : x < n) : x / 16 < acr n := by unfold acr; omega
theorem tsz_pos {n k : Nat} (h : k < acr n) : 1 ≤ tsz n k ∧ tsz n k ≤ 16 := by unfold tsz; unfold acr at h; omega
theorem mod_lt_tsz {n x : Nat} (h : x < n) : x % 16 < tsz n (x / 16) := by unfold tsz; omega
theorem tile_of {gw a b : Nat} (ha : a < acr gw) : (b * acr gw + a) % acr gw = a ∧ (b * acr gw + a) / acr gw = b := by
  constructor
  · rw [Nat.mul_add_mod_self_right, Nat.mod_eq_of_lt ha]
  · rw [Nat.add_comm, Nat.add_mul_div_right _ _ (by omega), Nat.div_eq_of_lt ha, Nat.zero_add]
theorem tileC_at {gw gh x y : Nat} {c : Nat → Int} (hx : x < gw) (hy : y < gh) : tileC gw c (y / 16 * acr gw + x / 16) (y % 16 * tsz gw (x / 16) + x % 16) = c (y * gw + x) := by
  have ht := tile_of (gw := gw) (b := y / 16) (div_lt_acr hx)
  have hm := mod_lt_tsz hx
  unfold tileC
  rw [ht.1, ht.2]
  rw [Nat.mul_add_mod_self_right, Nat.mod_eq_of_lt hm, Nat.add_comm (y % 16 * _), Nat.add_mul_div_right _ _ (by omega), Nat.div_eq_of_lt hm, Nat.zero_add, Nat.div_add_mod, Nat.div_add_mod]
theorem tile_lt {gw gh x y : Nat} (hx : x < gw) (hy : y < gh) : y / 16 * acr gw + x / 16 < acr gw * acr gh := by
  have h1 := div_lt_acr hx
  have h2 : (y / 16 + 1) * acr gw ≤ acr gh * acr gw := Nat.mul_le_mul_right _ (div_lt_acr hy)
  rw [Nat.succ_mul, Nat.mul_comm (acr gh)] at h2
  omega

/-! ### A grid -/
def ptrs (n : Nat) (bs : Nat → Nat) : List Value := (List.range n).map fun t => .pointer (some ⟨bs t, 0, none⟩)
theorem ptrs_get {n t : Nat} {bs : Nat → Nat} (h : t < n) : (ptrs n bs)[t]? = some (.pointer (some ⟨bs t, 0, none⟩)) := by simp [ptrs, h]
theorem ptrs_len (n : Nat) (bs : Nat → Nat) : (ptrs n bs).length = n := by simp [ptrs]
structure GridAt (w : World) (p gw gh : Nat) (c : Nat → Int) (A : Option Addr) (cap : Nat) (bs : Nat → Nat) (Rs : Nat → Option Nat) : Prop where
  sw : 1 ≤ gw ∧ gw ≤ 1024
  sh : 1 ≤ gh ∧ gh ≤ 1024
  top : Blk w p 108 [.int .i64 gw, .int .i64 gh, .int .i64 (acr gw), .slice A (acr gw * acr gh) cap]
  row : Row w 103 1 A (acr gw * acr gh) cap (ptrs (acr gw * acr gh) bs)
  slab : ∀ t, t < acr gw * acr gh → SlabIs w (bs t) (Rs t) (tsz gw (t % acr gw)) (tsz gh (t / acr gw)) (tileC gw c t)
  inj : ∀ t u, t < acr gw * acr gh → u < acr gw * acr gh → bs t = bs u → t = u
  injR : ∀ t u g, t < acr gw * acr gh → u < acr gw * acr gh → Rs t = some g → Rs u = some g → t = u
/-- the blocks of a grid lie in F -/
structure GridOwn (F : Nat → Prop) (N p : Nat) (A : Option Addr) (bs : Nat → Nat) (Rs : Nat → Option Nat) : Prop where
  top : F p
  row : ∀ g, ownA A g → F g
  slab : ∀ t, t < N → F (bs t)
  rough : ∀ t g, t < N → Rs t = some g → F g
def GridIs (w : World) (F : Nat → Prop) (p gw gh : Nat) (c : Nat → Int) : Prop := ∃ A cap bs Rs, GridAt w p gw gh c A cap bs Rs ∧ GridOwn F (acr gw * acr gh) p A bs Rs
theorem SlabIs.keep {w w' : World} {b : Nat} {R : Option Nat} {sw sh : Nat} {c : Nat → Int} (h : SlabIs w b R sw sh c) (hk : ∀ g, g = b ∨ R = some g → w'.heap[g]? = w.heap[g]?) : SlabIs w' b R sw sh c := by
  obtain ⟨h1, h2⟩ := h
  refine ⟨h1, ?_⟩
  cases R with
  | none => obtain ⟨x, hB, r⟩ := h2; exact ⟨x, hB.keep (hk b (.inl rfl)), r⟩
  | some g => obtain ⟨cap, hB, hR⟩ := h2; exact ⟨cap, hB.keep (hk b (.inl rfl)), hR.keep (fun g' hg' => hk g' (.inr (by rw [← ownA_eq hg'])))⟩
theorem SlabIs.lt {w : World} {b : Nat} {R : Option Nat} {sw sh : Nat} {c : Nat → Int} (h : SlabIs w b R sw sh c) {g : Nat} (hg : g = b ∨ R = some g) : g < w.heap.size := by
  obtain ⟨h1, h2⟩ := h
  cases R with
  | none => obtain ⟨x, hB, r⟩ := h2; exact hg.elim (fun e => e ▸ hB.lt) (fun e => by cases e)
  | some g' =>
    obtain ⟨cap, hB, hR⟩ := h2
    rcases hg with rfl | hg
    · exact hB.lt
    · injection hg with hg; subst hg; exact hR.lt rfl
theorem SlabIs.gr {w w' : World} {b : Nat} {R : Option Nat} {sw sh : Nat} {c : Nat → Int} (h : SlabIs w b R sw sh c) (k : Gr w w') : SlabIs w' b R sw sh c := h.keep fun g hg => k.block g (h.lt hg)
theorem GridAt.gr {w w' : World} {p gw gh cap : Nat} {c : Nat → Int} {A : Option Addr} {bs : Nat → Nat} {Rs : Nat → Option Nat} (h : GridAt w p gw gh c A cap bs Rs) (k : Gr w w') : GridAt w' p gw gh c A cap bs Rs :=
  ⟨h.sw, h.sh, h.top.gr k, h.row.gr k, fun t ht => (h.slab t ht).gr k, h.inj, h.injR⟩
theorem GridIs.gr {w w' : World} {F : Nat → Prop} {p gw gh : Nat} {c : Nat → Int} (h : GridIs w F p gw gh c) (k : Gr w w') : GridIs w' F p gw gh c := by
  obtain ⟨A, cap, bs, Rs, h1, h2⟩ := h
  exact ⟨A, cap, bs, Rs, h1.gr k, h2⟩
theorem GridIs.weak {w : World} {F F' : Nat → Prop} {p gw gh : Nat} {c : Nat → Int} (h : GridIs w F p gw gh c) (hF : ∀ g, F g → F' g) : GridIs w F' p gw gh c := by
  obtain ⟨A, cap, bs, Rs, h1, h2⟩ := h
  exact ⟨A, cap, bs, Rs, h1, hF _ h2.top, fun g hg => hF g (h2.row g hg), fun t ht => hF _ (h2.slab t ht), fun t g ht hg => hF g (h2.rough t g ht hg)⟩
theorem tile_idx_lt {gw gh t i : Nat} (ht : t < acr gw * acr gh) (hw : 1 ≤ gw) (hi : i < tsz gw (t % acr gw) * tsz gh (t / acr gw)) : (16 * (t / acr gw) + i / tsz gw (t % acr gw)) * gw + (16 * (t % acr gw) + i % tsz gw (t % acr gw)) < gw * gh := by
  have ha := acr_pos hw
  have h1 : t % acr gw < acr gw := Nat.mod_lt _ (by omega)
  have h2 := tsz_pos h1
  have h3 : i % tsz gw (t % acr gw) < tsz gw (t % acr gw) := Nat.mod_lt _ (by omega)
  have h4 : i / tsz gw (t % acr gw) < tsz gh (t / acr gw) := Nat.div_lt_of_lt_mul hi
  have e1 : ∀ n k, tsz n k ≤ n - 16 * k := fun n k => by unfold tsz; omega
  have h5 : 16 * (t % acr gw) + i % tsz gw (t % acr gw) < gw := by have := e1 gw (t % acr gw); generalize i % tsz gw (t % acr gw) = q at *; omega
  have h6 : 16 * (t / acr gw) + i / tsz gw (t % acr gw) < gh := by have := e1 gh (t / acr gw); generalize i / tsz gw (t % acr gw) = q at *; omega
  have h7 : (16 * (t / acr gw) + i / tsz gw (t % acr gw) + 1) * gw ≤ gh * gw := Nat.mul_le_mul_right _ h6
  rw [Nat.succ_mul, Nat.mul_comm gh] at h7
  omega
theorem tileC_congr {gw gh t i : Nat} {c c' : Nat → Int} (h : ∀ j, j < gw * gh → c j = c' j) (ht : t < acr gw * acr gh) (hw : 1 ≤ gw) (hi : i < tsz gw (t % acr gw) * tsz gh (t / acr gw)) : tileC gw c t i = tileC gw c' t i := h _ (tile_idx_lt ht hw hi)
theorem SlabIs.congr {w : World} {b : Nat} {R : Option Nat} {sw sh : Nat} {c c' : Nat → Int} (h : SlabIs w b R sw sh c) (hc : ∀ i, i < sw * sh → c i = c' i) : SlabIs w b R sw sh c' := by
  obtain ⟨h1, h2⟩ := h
  refine ⟨fun i hi => (hc i hi) ▸ h1 i hi, ?_⟩
  cases R with
  | none => obtain ⟨x, hB, hx, r⟩ := h2; exact ⟨x, hB, hx, fun i hi => (hc i hi) ▸ r i hi⟩
  | some g => obtain ⟨cap, hB, hR⟩ := h2; exact ⟨cap, hB, hR.congr (cellsI_congr hc)⟩
theorem GridIs.congr {w : World} {F : Nat → Prop} {p gw gh : Nat} {c c' : Nat → Int} (h : GridIs w F p gw gh c) (hc : ∀ i, i < gw * gh → c i = c' i) : GridIs w F p gw gh c' := by
  obtain ⟨A, cap, bs, Rs, h1, h2⟩ := h
  exact ⟨A, cap, bs, Rs, ⟨h1.sw, h1.sh, h1.top, h1.row, fun t ht => (h1.slab t ht).congr fun i hi => tileC_congr hc ht h1.sw.1 hi, h1.inj, h1.injR⟩, h2⟩
theorem GridAt.may {w : World} {p gw gh cap : Nat} {c : Nat → Int} {A : Option Addr} {bs : Nat → Nat} {Rs : Nat → Option Nat} (h : GridAt w p gw gh c A cap bs Rs) {x y : Nat} (hx : x < gw) (hy : y < gh) : -2147483648 ≤ c (y * gw + x) ∧ c (y * gw + x) ≤ 2147483647 := by
  have ht := tile_lt hx hy
  have h1 := (h.slab _ ht).1
  have hto := tile_of (gw := gw) (b := y / 16) (div_lt_acr hx)
  rw [hto.1, hto.2] at h1
  have h2 := h1 (y % 16 * tsz gw (x / 16) + x % 16) (by
    have h3 := mod_lt_tsz hx
    have h4 : (y % 16 + 1) * tsz gw (x / 16) ≤ tsz gh (y / 16) * tsz gw (x / 16) := Nat.mul_le_mul_right _ (mod_lt_tsz hy)
    rw [Nat.succ_mul, Nat.mul_comm (tsz gh _)] at h4
    omega)
  rwa [tileC_at hx hy] at h2

/-! ### Functions -/
theorem gsize_E (p gw gh : Nat) (l : List Value) (W : World) (hG : Blk W p 108 (.int .i64 gw :: .int .i64 gh :: l)) : Fn Try.prog 21 [.pointer (some ⟨p, 0, none⟩)] W (RetG (.tuple #[.int .i64 gw, .int .i64 gh]) W) := by
  have S := St.start W
  refine Fn_enter Try.func21 rfl Try.results21 Try.ntmps21 (by kernel_rfl) (by kernel_rfl) ?_
  repeat refine cw_seq ?_
  refine cw_region ?_
  iterate 2 refine rw_v (op_pure rfl) ?_
  first | refine rw_end ?_ | (refine rw_nil ?_; show CW _ _ _ _ _ _) | refine rw_nil ?_
  repeat refine cw_seq ?_
  refine cw_region ?_
  refine rw_v (op_pure rfl) ?_
  refine rw_v (op_nilp Try.underlying35 rfl rfl) ?_
  first | refine rw_end ?_ | (refine rw_nil ?_; show CW _ _ _ _ _ _) | refine rw_nil ?_
  repeat refine cw_seq ?_
  refine cw_false rfl ?_
  repeat refine cw_seq ?_
  refine cw_skip ?_
  try show CW _ _ _ _ _ _
  repeat refine cw_seq ?_
  refine cw_draw (C := fun wq => Gr W wq) [0, 1, 2, 3, 4, 5, 6, 7, 8, 9] [] (by kernel_rfl) (by kernel_rfl) (Gr.drew _) ?_
  simp only [pickL, List.drop_succ_cons, List.drop_zero]
  iterate 2 refine rq_v (op_pure rfl) ?_
  refine rq_v (op_fieldAddr Try.underlying108 rfl Try.sizeOf2 rfl rfl) ?_
  refine rq_r (fun wq hq => op_loadB Try.underlying2 rfl rfl (hG.gr (S.gr hq).out) rfl) ?_
  iterate 2 refine rq_v (op_pure rfl) ?_
  refine rq_v (op_fieldAddr Try.underlying108 rfl Try.sizeOf2 rfl rfl) ?_
  refine rq_r (fun wq hq => op_loadB Try.underlying2 rfl rfl (hG.gr (S.gr hq).out) rfl) ?_
  iterate 2 refine rq_v (op_pure rfl) ?_
  refine rq_nil ?_
  intro w1_ g1_
  have S := S.gr g1_
  first | refine rw_end ?_ | (refine rw_nil ?_; show CW _ _ _ _ _ _) | refine rw_nil ?_
  repeat refine cw_seq ?_
  refine cw_ret ?_
  repeat first | refine ret_then ?_ | refine ret_inb ?_
  exact res2 rfl rfl ⟨rfl, S.out⟩
theorem gall_E (p gw gh : Nat) (hw : gw ≤ 1024) (hh : gh ≤ 1024) (l : List Value) (W : World) (hG : Blk W p 108 (.int .i64 gw :: .int .i64 gh :: l)) : Fn Try.prog 20 [.pointer (some ⟨p, 0, none⟩)] W (RetG (.agg #[.int .i64 0, .int .i64 0, .int .i64 (gw - 1), .int .i64 (gh - 1)]) W) := by
  have S := St.start W
  refine Fn_enter Try.func20 rfl Try.results20 Try.ntmps20 (by kernel_rfl) (by kernel_rfl) ?_
  repeat refine cw_seq ?_
  refine cw_region ?_
  refine rw_newB (op_alloc Try.zeroValue61 rfl) S ?_
  intro b_b1 w2_ g2_ S
  first | refine rw_end ?_ | (refine rw_nil ?_; show CW _ _ _ _ _ _) | refine rw_nil ?_
  repeat refine cw_seq ?_
  refine cw_region ?_
  refine rw_v (op_pure rfl) ?_
  refine rw_v (op_nilp Try.underlying35 rfl rfl) ?_
  first | refine rw_end ?_ | (refine rw_nil ?_; show CW _ _ _ _ _ _) | refine rw_nil ?_
  repeat refine cw_seq ?_
  refine cw_false rfl ?_
  repeat refine cw_seq ?_
  refine cw_skip ?_
  try show CW _ _ _ _ _ _
  repeat refine cw_seq ?_
  refine cw_draw (C := fun wq => Gr w2_ wq) [0, 1, 2, 3, 4, 5, 6, 7, 8, 9] [10, 11] (by kernel_rfl) (by kernel_rfl) (Gr.drew _) ?_
  simp only [pickL, List.drop_succ_cons, List.drop_zero]
  iterate 2 refine rq_v (op_pure rfl) ?_
  refine rq_v (op_fieldAddr Try.underlying108 rfl Try.sizeOf2 rfl rfl) ?_
  refine rq_r (fun wq hq => op_loadB Try.underlying2 rfl rfl (hG.gr (S.gr hq).out) rfl) ?_
  refine rq_v (op_rng rfl (by omega)) ?_
  iterate 2 refine rq_v (op_pure rfl) ?_
  refine rq_v (op_fieldAddr Try.underlying108 rfl Try.sizeOf2 rfl rfl) ?_
  refine rq_r (fun wq hq => op_loadB Try.underlying2 rfl rfl (hG.gr (S.gr hq).out) rfl) ?_
  refine rq_v (op_rng rfl (by omega)) ?_
  refine rq_nil ?_
  intro w3_ g3_
  have S := S.gr g3_
  refine rw_v (op_build (pl := [(0, 1), (1, 1), (2, 1), (3, 1)]) Try.underlying61 Try.zeroValue61 (fun w => by kernel_rfl) rfl rfl) ?_
  refine rw_storeSA (i := 0) S rfl (Try.sizeOf61 _) rfl rfl rfl rfl rfl rfl ?_
  intro w4_ S
  first | refine rw_end ?_ | (refine rw_nil ?_; show CW _ _ _ _ _ _) | refine rw_nil ?_
  repeat refine cw_seq ?_
  refine cw_ret ?_
  repeat first | refine ret_then ?_ | refine ret_inb ?_
  exact resA Try.underlying61 rfl (Try.sizeOf61 _) rfl (S.blk (i := 0) rfl) rfl rfl ⟨rfl, S.out⟩
theorem gcheck_E (p gw gh : Nat) (x0 y0 x1 y1 : Int) (hw : gw ≤ 1024) (hh : gh ≤ 1024) (l : List Value) (W : World) (hG : Blk W p 108 (.int .i64 gw :: .int .i64 gh :: l)) :
    Fn Try.prog 44 [.pointer (some ⟨p, 0, none⟩), .agg #[.int .i64 x0, .int .i64 y0, .int .i64 x1, .int .i64 y1]] W (RetG (.int .i64 (within x0 y0 x1 y1 gw gh)) W) := by
  have S := St.start W
  refine Fn_enter Try.func44 rfl Try.results44 Try.ntmps44 (by kernel_rfl) (by kernel_rfl) ?_
  repeat refine cw_seq ?_
  refine cw_region ?_
  refine rw_newB (op_box rfl) S ?_
  intro b_b1 w2_ g2_ S
  refine rw_v (op_pure rfl) ?_
  first | refine rw_end ?_ | (refine rw_nil ?_; show CW _ _ _ _ _ _) | refine rw_nil ?_
  repeat refine cw_seq ?_
  refine cw_region ?_
  refine rw_v (op_pure rfl) ?_
  refine rw_v (op_nilp Try.underlying35 rfl rfl) ?_
  first | refine rw_end ?_ | (refine rw_nil ?_; show CW _ _ _ _ _ _) | refine rw_nil ?_
  repeat refine cw_seq ?_
  refine cw_false rfl ?_
  repeat refine cw_seq ?_
  refine cw_skip ?_
  try show CW _ _ _ _ _ _
  repeat refine cw_seq ?_
  refine cw_draw (C := fun wq => Gr w2_ wq) [0, 1, 2, 3, 4, 5, 6, 7, 8, 9, 10] [] (by kernel_rfl) (by kernel_rfl) (Gr.drew _) ?_
  simp only [pickL, List.drop_succ_cons, List.drop_zero]
  refine rq_r (fun wq hq => op_loadAB Try.underlying61 rfl (Try.sizeOf61 _) rfl ((S.gr hq).blk (i := 0) rfl) rfl rfl) ?_
  iterate 2 refine rq_v (op_pure rfl) ?_
  refine rq_v (op_fieldAddr Try.underlying108 rfl Try.sizeOf2 rfl rfl) ?_
  refine rq_r (fun wq hq => op_loadB Try.underlying2 rfl rfl (hG.gr (S.gr hq).out) rfl) ?_
  iterate 2 refine rq_v (op_pure rfl) ?_
  refine rq_v (op_fieldAddr Try.underlying108 rfl Try.sizeOf2 rfl rfl) ?_
  refine rq_r (fun wq hq => op_loadB Try.underlying2 rfl rfl (hG.gr (S.gr hq).out) rfl) ?_
  refine rq_call rfl (fun wq hq => (within_E _ _ _ _ _ _ (by omega) (by omega) wq).mono (fun _ _ ⟨hv, hg⟩ => ⟨hv, hq.trans hg⟩)) ?_
  refine rq_v (op_pure rfl) ?_
  refine rq_nil ?_
  intro w3_ g3_
  have S := S.gr g3_
  first | refine rw_end ?_ | (refine rw_nil ?_; show CW _ _ _ _ _ _) | refine rw_nil ?_
  repeat refine cw_seq ?_
  refine cw_ret ?_
  repeat first | refine ret_then ?_ | refine ret_inb ?_
  exact res1 rfl ⟨rfl, S.out⟩
theorem gspot_E (x y : Int) (W : World) : Fn Try.prog 62 [.agg #[.int .i64 x, .int .i64 y]] W (RetG (.agg #[.int .i64 x, .int .i64 y, .int .i64 x, .int .i64 y]) W) := by
  have S := St.start W
  refine Fn_enter Try.func62 rfl Try.results62 Try.ntmps62 (by kernel_rfl) (by kernel_rfl) ?_
  repeat refine cw_seq ?_
  refine cw_region ?_
  refine rw_newB (op_box rfl) S ?_
  intro b_b1 w2_ g2_ S
  refine rw_newB (op_alloc Try.zeroValue61 rfl) S ?_
  intro b_b3 w4_ g4_ S
  first | refine rw_end ?_ | (refine rw_nil ?_; show CW _ _ _ _ _ _) | refine rw_nil ?_
  repeat refine cw_seq ?_
  refine cw_region ?_
  refine rw_v (op_fieldAddr Try.underlying40 rfl Try.sizeOf2 rfl rfl) ?_
  refine rw_r (op_loadB Try.underlying2 rfl rfl (S.blk (i := 1) rfl) rfl) ?_
  refine rw_v (op_fieldAddr Try.underlying40 rfl Try.sizeOf2 rfl rfl) ?_
  refine rw_r (op_loadB Try.underlying2 rfl rfl (S.blk (i := 1) rfl) rfl) ?_
  refine rw_v (op_fieldAddr Try.underlying40 rfl Try.sizeOf2 rfl rfl) ?_
  refine rw_r (op_loadB Try.underlying2 rfl rfl (S.blk (i := 1) rfl) rfl) ?_
  refine rw_v (op_fieldAddr Try.underlying40 rfl Try.sizeOf2 rfl rfl) ?_
  refine rw_r (op_loadB Try.underlying2 rfl rfl (S.blk (i := 1) rfl) rfl) ?_
  refine rw_v (op_build (pl := [(0, 1), (1, 1), (2, 1), (3, 1)]) Try.underlying61 Try.zeroValue61 (fun w => by kernel_rfl) rfl rfl) ?_
  refine rw_storeSA (i := 0) S rfl (Try.sizeOf61 _) rfl rfl rfl rfl rfl rfl ?_
  intro w5_ S
  first | refine rw_end ?_ | (refine rw_nil ?_; show CW _ _ _ _ _ _) | refine rw_nil ?_
  repeat refine cw_seq ?_
  refine cw_ret ?_
  repeat first | refine ret_then ?_ | refine ret_inb ?_
  exact resA Try.underlying61 rfl (Try.sizeOf61 _) rfl (S.blk (i := 0) rfl) rfl rfl ⟨rfl, S.out⟩
theorem inner_E (x y : Int) (hx : 0 ≤ x) (hy : 0 ≤ y) (W : World) : Fn Try.prog 48 [.int .i64 x, .int .i64 y] W (RetG (.agg #[.int .i64 (x % 16), .int .i64 (y % 16)]) W) := by
  have S := St.start W
  refine Fn_enter Try.func48 rfl Try.results48 Try.ntmps48 (by kernel_rfl) (by kernel_rfl) ?_
  repeat refine cw_seq ?_
  refine cw_region ?_
  refine rw_newB (op_alloc Try.zeroValue40 rfl) S ?_
  intro b_b1 w2_ g2_ S
  first | refine rw_end ?_ | (refine rw_nil ?_; show CW _ _ _ _ _ _) | refine rw_nil ?_
  repeat refine cw_seq ?_
  refine cw_region ?_
  refine rw_v (op_pure rfl) ?_
  refine rw_v (op_rem rfl rfl (by omega) (by omega)) ?_
  refine rw_v (op_pure rfl) ?_
  refine rw_v (op_rem rfl rfl (by omega) (by omega)) ?_
  refine rw_v (op_build (pl := [(0, 1), (1, 1)]) Try.underlying40 Try.zeroValue40 (fun w => by kernel_rfl) rfl rfl) ?_
  refine rw_storeSA (i := 0) S rfl (Try.sizeOf40 _) rfl rfl rfl rfl rfl rfl ?_
  intro w3_ S
  first | refine rw_end ?_ | (refine rw_nil ?_; show CW _ _ _ _ _ _) | refine rw_nil ?_
  repeat refine cw_seq ?_
  refine cw_ret ?_
  repeat first | refine ret_then ?_ | refine ret_inb ?_
  exact resA Try.underlying40 rfl (Try.sizeOf40 _) rfl (S.blk (i := 0) rfl) rfl rfl ⟨rfl, S.out⟩
end Go.Proofs.Ytiidmiebckkloaa
/- Contracts of package grid's functions that read cells. -/
namespace Go.Proofs.Ytiidmiebckkloaa
open Go.RowKit
set_option linter.unusedVariables false
set_option linter.unusedSimpArgs false
set_option maxRecDepth 100000

section
variable {W : World} {p gw gh cap : Nat} {c : Nat → Int} {A : Option Addr} {bs : Nat → Nat} {Rs : Nat → Option Nat}
theorem gslab_E (x y : Nat) (hx : x < gw) (hy : y < gh) (hG : GridAt W p gw gh c A cap bs Rs) :
    Fn Try.prog 46 [.pointer (some ⟨p, 0, none⟩), .int .i64 x, .int .i64 y] W (RetG (.pointer (some ⟨bs (y / 16 * acr gw + x / 16), 0, none⟩)) W) := by
  have hT := hG.top
  have hR := hG.row
  have ht := tile_lt hx hy
  have hw := hG.sw
  have hh := hG.sh
  have hN : acr gw * acr gh ≤ 64 * 64 := Nat.mul_le_mul (acr_le hw.2) (acr_le hh.2)
  have sa_R : SomeA A := hR.someA (by omega)
  have hb : y / 16 * acr gw ≤ 64 * 64 := Nat.mul_le_mul (by omega) (acr_le hw.2)
  have e1 : (y : Int) / 16 * (acr gw : Nat) = ((y / 16 * acr gw : Nat) : Int) := by push_cast; rfl
  have e2 : (((y / 16 * acr gw : Nat) : Int) + (x : Int) / 16).toNat * 1 = y / 16 * acr gw + x / 16 := by omega
  have hv := ptrs_get (bs := bs) ht
  have S := St.start W
  refine Fn_enter Try.func46 rfl Try.results46 Try.ntmps46 (by kernel_rfl) (by kernel_rfl) ?_
  repeat refine cw_seq ?_
  refine cw_region ?_
  refine rw_v (op_pure rfl) ?_
  first | refine rw_end ?_ | (refine rw_nil ?_; show CW _ _ _ _ _ _) | refine rw_nil ?_
  repeat refine cw_seq ?_
  refine cw_draw (C := fun wq => Gr W wq) [0, 1, 2, 3, 4, 5, 6, 7, 8, 9, 10, 11, 12, 13, 14, 15, 16] [] (by kernel_rfl) (by kernel_rfl) (Gr.drew _) ?_
  simp only [pickL, List.drop_succ_cons, List.drop_zero]
  iterate 2 refine rq_v (op_pure rfl) ?_
  refine rq_v (op_fieldAddr Try.underlying108 rfl Try.sizeOf106 rfl rfl) ?_
  refine rq_r (fun wq hq => op_loadB Try.underlying106 rfl rfl (hT.gr (S.gr hq).out) rfl) ?_
  refine rq_v (op_pure rfl) ?_
  refine rq_v (op_div rfl rfl (by omega) (by omega)) ?_
  iterate 2 refine rq_v (op_pure rfl) ?_
  refine rq_v (op_fieldAddr Try.underlying108 rfl Try.sizeOf2 rfl rfl) ?_
  refine rq_r (fun wq hq => op_loadB Try.underlying2 rfl rfl (hT.gr (S.gr hq).out) rfl) ?_
  refine rq_v (op_rng rfl (by omega)) ?_
  rw [e1]
  refine rq_v (op_pure rfl) ?_
  refine rq_v (op_div rfl rfl (by omega) (by omega)) ?_
  refine rq_v (op_rng rfl (by omega)) ?_
  refine rq_v (op_idx Try.underlying106 Try.sizeOf103 rfl rfl sa_R (by omega) (by omega)) ?_
  rw [e2]
  refine rq_r (fun wq hq => op_ldR Try.underlying103 rfl rfl (Row.rd (hR.gr (S.gr hq).out)) hv) ?_
  refine rq_v (op_pure rfl) ?_
  refine rq_nil ?_
  intro w1_ g1_
  have S := S.gr g1_
  first | refine rw_end ?_ | (refine rw_nil ?_; show CW _ _ _ _ _ _) | refine rw_nil ?_
  repeat refine cw_seq ?_
  refine cw_ret ?_
  repeat first | refine ret_then ?_ | refine ret_inb ?_
  exact res1 rfl ⟨rfl, S.out⟩
theorem gat_E (x y : Nat) (hx : x < gw) (hy : y < gh) (hG : GridAt W p gw gh c A cap bs Rs) :
    Fn Try.prog 38 [.pointer (some ⟨p, 0, none⟩), .agg #[.int .i64 x, .int .i64 y]] W (RetG (.tuple #[.int .i64 (c (y * gw + x)), .int .i64 0]) W) := by
  have hw := hG.sw
  have hh := hG.sh
  have hwi : within x y x y gw gh = 0 := within_fine (by omega) (by omega) (by omega) (by omega)
  have ht := tile_lt hx hy
  have hS := hG.slab _ ht
  have hto := tile_of (gw := gw) (b := y / 16) (div_lt_acr hx)
  rw [hto.1, hto.2] at hS
  have hmx := mod_lt_tsz hx
  have hmy := mod_lt_tsz hy
  have hz1 := tsz_pos (div_lt_acr hx)
  have hz2 := tsz_pos (div_lt_acr hy)
  have e1 : ((y : Int) % 16 * (tsz gw (x / 16) : Nat) + (x : Int) % 16).toNat = y % 16 * tsz gw (x / 16) + x % 16 := by
    have : (y : Int) % 16 * (tsz gw (x / 16) : Nat) + (x : Int) % 16 = ((y % 16 * tsz gw (x / 16) + x % 16 : Nat) : Int) := by push_cast; rfl
    rw [this]; exact Int.toNat_natCast _
  have S := St.start W
  refine Fn_enter Try.func38 rfl Try.results38 Try.ntmps38 (by kernel_rfl) (by kernel_rfl) ?_
  repeat refine cw_seq ?_
  refine cw_region ?_
  refine rw_newB (op_box rfl) S ?_
  intro b_b1 w2_ g2_ S
  iterate 2 refine rw_v (op_pure rfl) ?_
  first | refine rw_end ?_ | (refine rw_nil ?_; show CW _ _ _ _ _ _) | refine rw_nil ?_
  repeat refine cw_seq ?_
  refine cw_region ?_
  refine rw_v (op_pure rfl) ?_
  refine rw_r (op_loadAB Try.underlying40 rfl (Try.sizeOf40 _) rfl (S.blk (i := 0) rfl) rfl rfl) ?_
  refine rw_call rfl (gspot_E _ _ w2_) ?_
  rintro _ w3_ ⟨rfl, g3_⟩
  have S := S.gr g3_
  refine rw_call rfl (gcheck_E p gw gh x y x y hw.2 hh.2 _ w3_ (hG.top.gr S.out)) ?_
  rintro _ w4_ ⟨rfl, g4_⟩
  have S := S.gr g4_
  refine rw_v (op_pure rfl) ?_
  first | refine rw_end ?_ | (refine rw_nil ?_; show CW _ _ _ _ _ _) | refine rw_nil ?_
  repeat refine cw_seq ?_
  refine cw_region ?_
  refine rw_v (op_pure rfl) ?_
  refine rw_v (op_b (b := false) rfl (bne_eq_false_iff_eq.2 (by omega))) ?_
  first | refine rw_end ?_ | (refine rw_nil ?_; show CW _ _ _ _ _ _) | refine rw_nil ?_
  repeat refine cw_seq ?_
  refine cw_false (by rw [hwi]; rfl) ?_
  repeat refine cw_seq ?_
  refine cw_skip ?_
  try show CW _ _ _ _ _ _
  repeat refine cw_seq ?_
  refine cw_draw (C := fun wq => Gr w4_ wq) [0, 1, 2, 3, 4, 5, 6, 7, 8, 9, 10, 11, 12, 13, 14, 15] [] (by kernel_rfl) (by kernel_rfl) (Gr.drew _) ?_
  simp only [pickL, List.drop_succ_cons, List.drop_zero]
  refine rq_v (op_pure rfl) ?_
  refine rq_v (op_fieldAddr Try.underlying40 rfl Try.sizeOf2 rfl rfl) ?_
  refine rq_r (fun wq hq => op_loadB Try.underlying2 rfl rfl ((S.gr hq).blk (i := 0) rfl) rfl) ?_
  refine rq_v (op_fieldAddr Try.underlying40 rfl Try.sizeOf2 rfl rfl) ?_
  refine rq_r (fun wq hq => op_loadB Try.underlying2 rfl rfl ((S.gr hq).blk (i := 0) rfl) rfl) ?_
  refine rq_call rfl (fun wq hq => (gslab_E x y hx hy (hG.gr (S.gr hq).out)).mono (fun _ _ ⟨hv, hg⟩ => ⟨hv, hq.trans hg⟩)) ?_
  refine rq_v (op_fieldAddr Try.underlying40 rfl Try.sizeOf2 rfl rfl) ?_
  refine rq_r (fun wq hq => op_loadB Try.underlying2 rfl rfl ((S.gr hq).blk (i := 0) rfl) rfl) ?_
  refine rq_v (op_fieldAddr Try.underlying40 rfl Try.sizeOf2 rfl rfl) ?_
  refine rq_r (fun wq hq => op_loadB Try.underlying2 rfl rfl ((S.gr hq).blk (i := 0) rfl) rfl) ?_
  refine rq_call rfl (fun wq hq => (inner_E _ _ (by omega) (by omega) wq).mono (fun _ _ ⟨hv, hg⟩ => ⟨hv, hq.trans hg⟩)) ?_
  refine rq_call rfl (fun wq hq => (sat_E _ _ _ _ (tileC gw c (y / 16 * acr gw + x / 16)) (x % 16) (y % 16) hz1 hz2 (by omega) (by omega) wq (hS.gr (S.gr hq).out)).mono (fun _ _ ⟨hv, hg⟩ => ⟨hv, hq.trans hg⟩)) ?_
  iterate 4 refine rq_v (op_pure rfl) ?_
  refine rq_nil ?_
  intro w5_ g5_
  have S := S.gr g5_
  first | refine rw_end ?_ | (refine rw_nil ?_; show CW _ _ _ _ _ _) | refine rw_nil ?_
  repeat refine cw_seq ?_
  refine cw_ret ?_
  repeat first | refine ret_then ?_ | refine ret_inb ?_
  exact res2 rfl rfl ⟨by rw [e1, tileC_at (gh := gh) hx hy], S.out⟩
theorem gatNo_E (x y : Int) (hno : ¬ (0 ≤ x ∧ x < gw ∧ 0 ≤ y ∧ y < gh)) (hG : GridAt W p gw gh c A cap bs Rs) :
    Fn Try.prog 38 [.pointer (some ⟨p, 0, none⟩), .agg #[.int .i64 x, .int .i64 y]] W (RetG (.tuple #[.int .i64 0, .int .i64 4]) W) := by
  have hw := hG.sw
  have hh := hG.sh
  have hwi : within x y x y gw gh = 4 := by
    have e1 : insideB ((gw : Int) - 1) 1024 = true := by simp [insideB]; omega
    have e2 : insideB ((gh : Int) - 1) 1024 = true := by simp [insideB]; omega
    by_cases hx : 0 ≤ x ∧ x < gw
    · have e3 : insideB x gw = true := by simp [insideB]; omega
      have e4 : insideB y gh = false := by simp [insideB]; omega
      simp [within, e1, e2, e3, e4]
    · have e3 : insideB x gw = false := by simp [insideB]; omega
      simp [within, e1, e2, e3]
  have S := St.start W
  refine Fn_enter Try.func38 rfl Try.results38 Try.ntmps38 (by kernel_rfl) (by kernel_rfl) ?_
  repeat refine cw_seq ?_
  refine cw_region ?_
  refine rw_newB (op_box rfl) S ?_
  intro b_b1 w2_ g2_ S
  iterate 2 refine rw_v (op_pure rfl) ?_
  first | refine rw_end ?_ | (refine rw_nil ?_; show CW _ _ _ _ _ _) | refine rw_nil ?_
  repeat refine cw_seq ?_
  refine cw_region ?_
  refine rw_v (op_pure rfl) ?_
  refine rw_r (op_loadAB Try.underlying40 rfl (Try.sizeOf40 _) rfl (S.blk (i := 0) rfl) rfl rfl) ?_
  refine rw_call rfl (gspot_E _ _ w2_) ?_
  rintro _ w3_ ⟨rfl, g3_⟩
  have S := S.gr g3_
  refine rw_call rfl (gcheck_E p gw gh x y x y hw.2 hh.2 _ w3_ (hG.top.gr S.out)) ?_
  rintro _ w4_ ⟨rfl, g4_⟩
  have S := S.gr g4_
  refine rw_v (op_pure rfl) ?_
  first | refine rw_end ?_ | (refine rw_nil ?_; show CW _ _ _ _ _ _) | refine rw_nil ?_
  repeat refine cw_seq ?_
  refine cw_region ?_
  refine rw_v (op_pure rfl) ?_
  refine rw_v (op_b (b := true) rfl (bne_iff_ne.2 (by omega))) ?_
  first | refine rw_end ?_ | (refine rw_nil ?_; show CW _ _ _ _ _ _) | refine rw_nil ?_
  repeat refine cw_seq ?_
  refine cw_true (by rw [hwi]; rfl) ?_
  repeat refine cw_seq ?_
  refine cw_region ?_
  iterate 3 refine rw_v (op_pure rfl) ?_
  first | refine rw_end ?_ | (refine rw_nil ?_; show CW _ _ _ _ _ _) | refine rw_nil ?_
  repeat refine cw_seq ?_
  refine cw_ret ?_
  repeat first | refine ret_then ?_ | refine ret_inb ?_
  exact res2 rfl rfl ⟨by rw [hwi], S.out⟩

/-! ### Values -/
def ints (xs : List Int) : List Value := xs.map (.int .i64)
theorem ints_len (xs : List Int) : (ints xs).length = xs.length := by simp [ints]
theorem ints_app (xs ys : List Int) : ints xs ++ ints ys = ints (xs ++ ys) := by simp [ints]
theorem ints_get {xs : List Int} {i : Nat} {x : Int} (h : xs[i]? = some x) : (ints xs)[i]? = some (.int .i64 x) := by simp [ints, h]
def rowV (gw : Nat) (c : Nat → Int) (x0 y n : Nat) : List Int := (List.range n).map fun i => c (y * gw + (x0 + i))
def rectV (gw : Nat) (c : Nat → Int) (x0 y0 w h : Nat) : List Int := (List.range h).flatMap fun j => rowV gw c x0 (y0 + j) w
theorem rowV_succ (gw : Nat) (c : Nat → Int) (x0 y n : Nat) : rowV gw c x0 y (n + 1) = rowV gw c x0 y n ++ [c (y * gw + (x0 + n))] := by simp [rowV, List.range_succ]
theorem rectV_succ (gw : Nat) (c : Nat → Int) (x0 y0 w h : Nat) : rectV gw c x0 y0 w (h + 1) = rectV gw c x0 y0 w h ++ rowV gw c x0 (y0 + h) w := by simp [rectV, List.range_succ]
theorem rowV_len (gw : Nat) (c : Nat → Int) (x0 y n : Nat) : (rowV gw c x0 y n).length = n := by simp [rowV]
theorem rectV_len (gw : Nat) (c : Nat → Int) (x0 y0 w h : Nat) : (rectV gw c x0 y0 w h).length = h * w := by
  induction h with
  | zero => simp [rectV]
  | succ h ih => rw [rectV_succ, List.length_append, ih, rowV_len, Nat.succ_mul]
theorem rectV_all (gw gh : Nat) (c : Nat → Int) : rectV gw c 0 0 gw gh = (List.range (gw * gh)).map c := by
  induction gh with
  | zero => simp [rectV]
  | succ h ih =>
    rw [rectV_succ, ih, Nat.mul_succ, List.range_add, List.map_append]
    congr 1
    simp only [rowV, List.map_map]
    refine List.map_congr_left fun i _ => ?_
    simp only [Function.comp, Nat.zero_add, Nat.mul_comm]
set_option maxHeartbeats 1000000 in
theorem gvalues_E (x0 y0 x1 y1 : Nat) (hx : x0 ≤ x1 ∧ x1 < gw) (hy : y0 ≤ y1 ∧ y1 < gh) (hG : GridAt W p gw gh c A cap bs Rs) :
    Fn Try.prog 19 [.pointer (some ⟨p, 0, none⟩), .agg #[.int .i64 x0, .int .i64 y0, .int .i64 x1, .int .i64 y1]] W
      (RetNew (fun v => .tuple #[v, .int .i64 0]) 2 1 ((y1 + 1 - y0) * (x1 + 1 - x0)) (ints (rectV gw c x0 y0 (x1 + 1 - x0) (y1 + 1 - y0))) W) := by
  have hw := hG.sw
  have hh := hG.sh
  have hwi : within x0 y0 x1 y1 gw gh = 0 := within_fine (by omega) (by omega) (by omega) (by omega)
  have hN : (y1 + 1 - y0) * (x1 + 1 - x0) ≤ 1024 * 1024 := Nat.mul_le_mul (by omega) (by omega)
  have har : ((x1 : Int) - x0 + 1) * (y1 - y0 + 1) = (((y1 + 1 - y0) * (x1 + 1 - x0) : Nat) : Int) := by
    rw [show (x1 : Int) - x0 + 1 = ((x1 + 1 - x0 : Nat) : Int) by omega, show (y1 : Int) - y0 + 1 = ((y1 + 1 - y0 : Nat) : Int) by omega]
    push_cast; exact Int.mul_comm _ _
  have S := St.start W
  refine Fn_enter Try.func19 rfl Try.results19 Try.ntmps19 (by kernel_rfl) (by kernel_rfl) ?_
  repeat refine cw_seq ?_
  refine cw_region ?_
  refine rw_newB (op_box rfl) S ?_
  intro b_rc w2_ g2_ S
  iterate 2 refine rw_v (op_pure rfl) ?_
  first | refine rw_end ?_ | (refine rw_nil ?_; show CW _ _ _ _ _ _) | refine rw_nil ?_
  repeat refine cw_seq ?_
  refine cw_region ?_
  refine rw_v (op_pure rfl) ?_
  refine rw_r (op_loadAB Try.underlying61 rfl (Try.sizeOf61 _) rfl (S.blk (i := 0) rfl) rfl rfl) ?_
  refine rw_call rfl (gcheck_E p gw gh x0 y0 x1 y1 hw.2 hh.2 _ w2_ (hG.top.gr S.out)) ?_
  rintro _ w3_ ⟨rfl, g3_⟩
  have S := S.gr g3_
  refine rw_v (op_pure rfl) ?_
  first | refine rw_end ?_ | (refine rw_nil ?_; show CW _ _ _ _ _ _) | refine rw_nil ?_
  repeat refine cw_seq ?_
  refine cw_region ?_
  refine rw_v (op_pure rfl) ?_
  refine rw_v (op_b (b := false) rfl (bne_eq_false_iff_eq.2 (by omega))) ?_
  first | refine rw_end ?_ | (refine rw_nil ?_; show CW _ _ _ _ _ _) | refine rw_nil ?_
  repeat refine cw_seq ?_
  refine cw_false (by rw [hwi]; rfl) ?_
  repeat refine cw_seq ?_
  refine cw_skip ?_
  try show CW _ _ _ _ _ _
  repeat refine cw_seq ?_
  refine cw_region ?_
  refine rw_r (op_loadAB Try.underlying61 rfl (Try.sizeOf61 _) rfl (S.blk (i := 0) rfl) rfl rfl) ?_
  refine rw_call rfl (area_E _ _ _ _ (by omega) w3_) ?_
  rintro _ w4_ ⟨rfl, g4_⟩
  have S := S.gr g4_
  rw [har]
  refine rw_makeS1 Try.underlying30 info_t2 rfl rfl rfl (n := 0) (c := (y1 + 1 - y0) * (x1 + 1 - x0)) (by omega) (by omega) (by omega) (by omega) S ?_
  intro A_out w6_ g6_ S sa_out
  refine rw_v (op_pure rfl) ?_
  first | refine rw_end ?_ | (refine rw_nil ?_; show CW _ _ _ _ _ _) | refine rw_nil ?_
  repeat refine cw_seq ?_
  refine cw_region ?_
  refine rw_v (op_fieldAddr Try.underlying61 rfl Try.sizeOf2 rfl rfl) ?_
  refine rw_r (op_loadB Try.underlying2 rfl rfl (S.blk (i := 1) rfl) rfl) ?_
  refine rw_v (op_pure rfl) ?_
  first | refine rw_end ?_ | (refine rw_nil ?_; show CW _ _ _ _ _ _) | refine rw_nil ?_
  repeat refine cw_seq ?_
  refine cw_block ?_
  repeat refine cw_seq ?_
  refine cw_loop (fun m e w => ∃ (j : Nat) (A : Option Addr) (cp : Nat), j + m = y1 + 1 - y0 ∧ SL e [(0, .pointer (some ⟨p, 0, none⟩)), (3, .pointer (some ⟨b_rc, 0, none⟩)), (7, .slice A (j * (x1 + 1 - x0)) cp), (8, .int .i64 (y0 + j))] ∧
    St No W w [.row 2 1 A (j * (x1 + 1 - x0)) cp (ints (rectV gw c x0 y0 (x1 + 1 - x0) j)), .blk b_rc 61 [.int .i64 x0, .int .i64 y0, .int .i64 x1, .int .i64 y1]]) (y1 + 1 - y0)
    ⟨0, _, _, by omega, ⟨rfl, rfl, se (by omega) rfl, rfl, trivial⟩, by rw [Nat.zero_mul]; exact S⟩ ?_
  rintro m e w ⟨j, A1, cp, hj, hsl, S⟩
  rw [hsl.fold]
  repeat refine cw_seq ?_
  refine cw_region ?_
  refine rw_v (op_pure rfl) ?_
  refine rw_v (op_fieldAddr Try.underlying61 rfl Try.sizeOf2 rfl rfl) ?_
  refine rw_r (op_loadB Try.underlying2 rfl rfl (S.blk (i := 1) rfl) rfl) ?_
  refine rw_v (op_pure rfl) ?_
  first | refine rw_end ?_ | (refine rw_nil ?_; show CW _ _ _ _ _ _) | refine rw_nil ?_
  repeat refine cw_seq ?_
  refine cw_cond rfl (fun hc => ?_) (fun hc => ?_)
  · try simp only [decide_eq_true_eq, decide_eq_false_iff_not, beq_iff_eq, bne_iff_ne, beq_eq_false_iff_ne, bne_eq_false_iff_eq, Bool.not_eq_true', Bool.not_eq_false', ne_eq, Decidable.not_not, Int.natCast_inj, Int.ofNat_lt, Int.ofNat_le, gt_iff_lt, ge_iff_le, Int.not_lt, Int.not_le] at hc
    have hjh : j < y1 + 1 - y0 := by omega
    repeat refine cw_seq ?_
    refine cw_skip ?_
    try show CW _ _ _ _ _ _
    repeat refine cw_seq ?_
    refine cw_block ?_
    repeat refine cw_seq ?_
    refine cw_region ?_
    refine rw_v (op_fieldAddr Try.underlying61 rfl Try.sizeOf2 rfl rfl) ?_
    refine rw_r (op_loadB Try.underlying2 rfl rfl (S.blk (i := 1) rfl) rfl) ?_
    refine rw_v (op_pure rfl) ?_
    first | refine rw_end ?_ | (refine rw_nil ?_; show CW _ _ _ _ _ _) | refine rw_nil ?_
    repeat refine cw_seq ?_
    refine cw_block ?_
    repeat refine cw_seq ?_
    refine cw_loop (fun m e w => ∃ (k : Nat) (A : Option Addr) (cp : Nat), k + m = x1 + 1 - x0 ∧ SL e [(0, .pointer (some ⟨p, 0, none⟩)), (3, .pointer (some ⟨b_rc, 0, none⟩)), (7, .slice A (j * (x1 + 1 - x0) + k) cp), (8, .int .i64 (y0 + j)), (9, .int .i64 (x0 + k))] ∧
      St No W w [.row 2 1 A (j * (x1 + 1 - x0) + k) cp (ints (rectV gw c x0 y0 (x1 + 1 - x0) j ++ rowV gw c x0 (y0 + j) k)), .blk b_rc 61 [.int .i64 x0, .int .i64 y0, .int .i64 x1, .int .i64 y1]]) (x1 + 1 - x0)
      ⟨0, _, _, by omega, ⟨rfl, rfl, rfl, rfl, rfl, trivial⟩, by simpa [rowV] using S⟩ ?_
    rintro m' e w ⟨k, A2, cp2, hk, hsl, S⟩
    rw [hsl.fold]
    repeat refine cw_seq ?_
    refine cw_region ?_
    refine rw_v (op_pure rfl) ?_
    refine rw_v (op_fieldAddr Try.underlying61 rfl Try.sizeOf2 rfl rfl) ?_
    refine rw_r (op_loadB Try.underlying2 rfl rfl (S.blk (i := 1) rfl) rfl) ?_
    refine rw_v (op_pure rfl) ?_
    first | refine rw_end ?_ | (refine rw_nil ?_; show CW _ _ _ _ _ _) | refine rw_nil ?_
    repeat refine cw_seq ?_
    refine cw_cond rfl (fun hc' => ?_) (fun hc' => ?_)
    · try simp only [decide_eq_true_eq, decide_eq_false_iff_not, beq_iff_eq, bne_iff_ne, beq_eq_false_iff_ne, bne_eq_false_iff_eq, Bool.not_eq_true', Bool.not_eq_false', ne_eq, Decidable.not_not, Int.natCast_inj, Int.ofNat_lt, Int.ofNat_le, gt_iff_lt, ge_iff_le, Int.not_lt, Int.not_le] at hc'
      have hkh : k < x1 + 1 - x0 := by omega
      have hxk : x0 + k < gw := by omega
      have hyj : y0 + j < gh := by omega
      have hjk : j * (x1 + 1 - x0) + k + 1 ≤ (y1 + 1 - y0) * (x1 + 1 - x0) := by
        have : (j + 1) * (x1 + 1 - x0) ≤ (y1 + 1 - y0) * (x1 + 1 - x0) := Nat.mul_le_mul_right _ hjh
        rw [Nat.succ_mul] at this
        omega
      have ht := tile_lt hxk hyj
      have hS := hG.slab _ ht
      have hto := tile_of (gw := gw) (b := (y0 + j) / 16) (div_lt_acr hxk)
      rw [hto.1, hto.2] at hS
      have hmx := mod_lt_tsz hxk
      have hmy := mod_lt_tsz hyj
      have hz1 := tsz_pos (div_lt_acr hxk)
      have hz2 := tsz_pos (div_lt_acr hyj)
      have e0 : (x0 : Int) + k = ((x0 + k : Nat) : Int) := by omega
      have e0' : (y0 : Int) + j = ((y0 + j : Nat) : Int) := by omega
      have e1 : (((y0 + j : Nat) : Int) % 16 * (tsz gw ((x0 + k) / 16) : Nat) + ((x0 + k : Nat) : Int) % 16).toNat = (y0 + j) % 16 * tsz gw ((x0 + k) / 16) + (x0 + k) % 16 := by
        have : ((y0 + j : Nat) : Int) % 16 * (tsz gw ((x0 + k) / 16) : Nat) + ((x0 + k : Nat) : Int) % 16 = (((y0 + j) % 16 * tsz gw ((x0 + k) / 16) + (x0 + k) % 16 : Nat) : Int) := by push_cast; rfl
        rw [this]; exact Int.toNat_natCast _
      rw [e0, e0']
      repeat refine cw_seq ?_
      refine cw_skip ?_
      try show CW _ _ _ _ _ _
      repeat refine cw_seq ?_
      refine cw_block ?_
      repeat refine cw_seq ?_
      refine cw_region ?_
      iterate 3 refine rw_v (op_pure rfl) ?_
      refine rw_call rfl (gslab_E (x0 + k) (y0 + j) hxk hyj (hG.gr S.out)) ?_
      rintro _ w7_ ⟨rfl, g7_⟩
      have S := S.gr g7_
      iterate 2 refine rw_v (op_pure rfl) ?_
      refine rw_call rfl (inner_E _ _ (by omega) (by omega) w7_) ?_
      rintro _ w8_ ⟨rfl, g8_⟩
      have S := S.gr g8_
      refine rw_call rfl (sat_E _ _ _ _ (tileC gw c ((y0 + j) / 16 * acr gw + (x0 + k) / 16)) (((x0 + k : Nat) : Int) % 16) (((y0 + j : Nat) : Int) % 16) hz1 hz2 (by omega) (by omega) w8_ (hS.gr S.out)) ?_
      rintro _ w9_ ⟨rfl, g9_⟩
      have S := S.gr g9_
      rw [e1, tileC_at (gh := gh) hxk hyj]
      iterate 5 refine rw_v (op_pure rfl) ?_
      first | refine rw_end ?_ | (refine rw_nil ?_; show CW _ _ _ _ _ _) | refine rw_nil ?_
      repeat refine cw_seq ?_
      refine cw_region ?_
      iterate 2 refine rw_v (op_pure rfl) ?_
      refine rw_buildS Try.underlying30 Try.sizeOf2 Try.zeroValue2 rfl rfl rfl rfl rfl rfl S ?_
      intro A_b10 w11_ g11_ S sa_b10
      refine rw_appS (i := 1) S rfl (fun h => rfl) Try.underlying30 info_t2 rfl rfl rfl rfl (by simp) (by omega) (S.rd (i := 0) rfl) rfl (by omega) ?_
      intro A_out12 c_out12 w12_ S sa_out
      refine rw_v (op_pure rfl) ?_
      first | refine rw_end ?_ | (refine rw_nil ?_; show CW _ _ _ _ _ _) | refine rw_nil ?_
      repeat refine cw_seq ?_
      refine cw_region ?_
      refine rw_v (op_pure rfl) ?_
      refine rw_v (op_rng rfl (by omega)) ?_
      refine rw_v (op_pure rfl) ?_
      first | refine rw_end ?_ | (refine rw_nil ?_; show CW _ _ _ _ _ _) | refine rw_nil ?_
      refine ⟨m' - 1, by omega, k + 1, _, _, by omega, ⟨rfl, rfl, rfl, ie (by omega), ie (by omega), trivial⟩, ?_⟩
      have S := S.sub (.cons _ (.cons_cons _ (.cons_cons _ .slnil)))
      rw [rowV_succ, ← List.append_assoc, ← ints_app]
      exact S
    · try simp only [decide_eq_true_eq, decide_eq_false_iff_not, beq_iff_eq, bne_iff_ne, beq_eq_false_iff_ne, bne_eq_false_iff_eq, Bool.not_eq_true', Bool.not_eq_false', ne_eq, Decidable.not_not, Int.natCast_inj, Int.ofNat_lt, Int.ofNat_le, gt_iff_lt, ge_iff_le, Int.not_lt, Int.not_le] at hc'
      repeat refine cw_seq ?_
      refine cw_exit ?_
      repeat first | refine exit_then ?_ | refine exit_inb ?_
      show CW _ _ _ _ _ _
      repeat refine cw_seq ?_
      refine cw_region ?_
      refine rw_v (op_pure rfl) ?_
      refine rw_v (op_rng rfl (by omega)) ?_
      refine rw_v (op_pure rfl) ?_
      first | refine rw_end ?_ | (refine rw_nil ?_; show CW _ _ _ _ _ _) | refine rw_nil ?_
      obtain rfl : k = x1 + 1 - x0 := by omega
      refine ⟨m - 1, by omega, j + 1, _, _, by omega, ⟨rfl, rfl, se (Nat.succ_mul _ _).symm rfl, ie (by omega), trivial⟩, ?_⟩
      rw [rectV_succ, Nat.succ_mul]
      exact S
  · try simp only [decide_eq_true_eq, decide_eq_false_iff_not, beq_iff_eq, bne_iff_ne, beq_eq_false_iff_ne, bne_eq_false_iff_eq, Bool.not_eq_true', Bool.not_eq_false', ne_eq, Decidable.not_not, Int.natCast_inj, Int.ofNat_lt, Int.ofNat_le, gt_iff_lt, ge_iff_le, Int.not_lt, Int.not_le] at hc
    repeat refine cw_seq ?_
    refine cw_exit ?_
    repeat first | refine exit_then ?_ | refine exit_inb ?_
    show CW _ _ _ _ _ _
    repeat refine cw_seq ?_
    refine cw_region ?_
    iterate 3 refine rw_v (op_pure rfl) ?_
    first | refine rw_end ?_ | (refine rw_nil ?_; show CW _ _ _ _ _ _) | refine rw_nil ?_
    repeat refine cw_seq ?_
    refine cw_ret ?_
    repeat first | refine ret_then ?_ | refine ret_inb ?_
    obtain rfl : j = y1 + 1 - y0 := by omega
    exact res2 rfl rfl (S.retNew (i := 0) (mk := fun v => .tuple #[v, .int .i64 0]) rfl)
end
end Go.Proofs.Ytiidmiebckkloaa
/- A grid that is filled. -/
namespace Go.Proofs.Ytiidmiebckkloaa
open Go.RowKit
set_option linter.unusedVariables false
set_option linter.unusedSimpArgs false
set_option maxRecDepth 100000

/-! ### Lists of parts of one length -/
theorem flatMap_len {α β : Type} {f : α → List β} {m : Nat} (hf : ∀ a, (f a).length = m) (l : List α) : (l.flatMap f).length = l.length * m := by
  induction l with
  | nil => simp
  | cons a l ih => rw [List.flatMap_cons, List.length_append, ih, hf, List.length_cons, Nat.succ_mul, Nat.add_comm]
theorem flatMap_part {α β : Type} {f : α → List β} {m : Nat} (hf : ∀ a, (f a).length = m) : ∀ (l : List α) (k : Nat) (a : α) (d n : Nat), l[k]? = some a → d + n ≤ m → ((l.flatMap f).drop (k * m + d)).take n = ((f a).drop d).take n
  | [], k, a, d, n, h, _ => by cases h
  | b :: l, 0, a, d, n, h, hd => by
    obtain rfl : b = a := by simpa using h
    rw [List.flatMap_cons, Nat.zero_mul, Nat.zero_add, List.drop_append_of_le_length (by rw [hf]; omega), List.take_append_of_le_length (by rw [List.length_drop, hf]; omega)]
  | b :: l, k + 1, a, d, n, h, hd => by
    have ih := flatMap_part hf l k a d n (by simpa using h) hd
    rw [List.flatMap_cons, Nat.succ_mul, show k * m + m + d = m + (k * m + d) by omega, ← List.drop_drop, List.drop_left' (hf b)]
    exact ih
theorem flatMap_one {α β : Type} {f : α → List β} {m : Nat} (hf : ∀ a, (f a).length = m) {l : List α} {k : Nat} {a : α} (h : l[k]? = some a) : ((l.flatMap f).drop (k * m)).take m = f a := by
  have := flatMap_part hf l k a 0 m h (by omega)
  rw [Nat.add_zero] at this
  rw [this, List.drop_zero, List.take_of_length_le (by rw [hf]; omega)]
theorem flatMap_get {α β : Type} {f : α → List β} {m : Nat} (hf : ∀ a, (f a).length = m) {l : List α} {k : Nat} {a : α} (h : l[k]? = some a) {j : Nat} (hj : j < m) : (l.flatMap f)[k * m + j]? = (f a)[j]? := by
  have := flatMap_part hf l k a j 1 h (by omega)
  have e1 : ∀ (L : List β) (d : Nat), L[d]? = ((L.drop d).take 1)[0]? := fun L d => by simp [List.getElem?_take]
  rw [e1, this, ← e1]

/-! ### Pieces -/
theorem pieceC_len (x0 y0 x1 y1 x y : Int) : (pieceC x0 y0 x1 y1 x y).length = 4 := rfl
theorem rowC_len (x0 y0 x1 y1 y : Int) (k : Nat) : (rowC x0 y0 x1 y1 y k).length = k * 4 := by
  unfold rowC; rw [flatMap_len (fun a => pieceC_len _ _ _ _ _ _), List.length_range]
theorem piecesC_at (x0 y0 x1 y1 : Int) (ny i j : Nat) (hi : i < tilesN x0 x1) (hj : j < ny) :
    ((piecesC x0 y0 x1 y1 ny).drop ((j * tilesN x0 x1 + i) * 4)).take 4 = pieceC x0 y0 x1 y1 (x0 - x0 % 16 + 16 * (i : Int)) (y0 - y0 % 16 + 16 * (j : Int)) := by
  have h1 := flatMap_part (f := fun (j : Nat) => rowC x0 y0 x1 y1 (y0 - y0 % 16 + 16 * (j : Int)) (tilesN x0 x1)) (fun a => rowC_len _ _ _ _ _ _) (List.range ny) j j (i * 4) 4 (by simp [hj]) (by omega)
  rw [Nat.add_mul, Nat.mul_assoc]
  unfold piecesC
  rw [h1]
  exact flatMap_one (fun a => pieceC_len _ _ _ _ _ _) (by simp [hi])
theorem pieces_N (x0 y0 x1 y1 : Int) (h : 0 ≤ x0 ∧ x0 ≤ x1 ∧ x1 < 1024 ∧ 0 ≤ y0 ∧ y0 ≤ y1 ∧ y1 < 1024) (W : World) :
    Fn Try.prog 59 [.agg #[.int .i64 x0, .int .i64 y0, .int .i64 x1, .int .i64 y1]] W (RetNew id 61 4 (tilesN y0 y1 * tilesN x0 x1) (piecesC x0 y0 x1 y1 (tilesN y0 y1)) W) :=
  (pieces_E x0 y0 x1 y1 h W).mono fun v w' ⟨A, c, hv, ho, hg⟩ => ⟨A, c, hv, ho.base (Nat.zero_le _), fun g hg' => by
    cases A with
    | none => cases hg'
    | some a => exact (ho.lt g (by have : a.block = g := by injection hg'
                                   show Option.some a.block = _; rw [this])).1, hg⟩

/-! ### A tile of a grid, filled -/
def gridB (N p : Nat) (A : Option Addr) (bs : Nat → Nat) (Rs : Nat → Option Nat) (g : Nat) : Prop := g = p ∨ ownA A g ∨ ∃ t, t < N ∧ (g = bs t ∨ Rs t = some g)
theorem GridAt.lt {w : World} {p gw gh cap : Nat} {c : Nat → Int} {A : Option Addr} {bs : Nat → Nat} {Rs : Nat → Option Nat} (h : GridAt w p gw gh c A cap bs Rs) {g : Nat} (hg : gridB (acr gw * acr gh) p A bs Rs g) : g < w.heap.size := by
  rcases hg with rfl | hg | ⟨t, ht, hg⟩
  · exact h.top.lt
  · exact h.row.lt hg
  · exact (h.slab t ht).lt hg
theorem GridAt.keep {w w' : World} {p gw gh cap : Nat} {c : Nat → Int} {A : Option Addr} {bs : Nat → Nat} {Rs : Nat → Option Nat} (h : GridAt w p gw gh c A cap bs Rs) (hk : ∀ g, gridB (acr gw * acr gh) p A bs Rs g → w'.heap[g]? = w.heap[g]?) : GridAt w' p gw gh c A cap bs Rs :=
  ⟨h.sw, h.sh, h.top.keep (hk p (.inl rfl)), h.row.keep (fun g hg => hk g (.inr (.inl hg))), fun t ht => (h.slab t ht).keep (fun g hg => hk g (.inr (.inr ⟨t, ht, hg⟩))), h.inj, h.injR⟩
def HA.grid (p gw gh : Nat) (c : Nat → Int) (A : Option Addr) (cap : Nat) (bs : Nat → Nat) (Rs : Nat → Option Nat) : HA :=
  ⟨gridB (acr gw * acr gh) p A bs Rs, fun w => GridAt w p gw gh c A cap bs Rs, fun _ _ h _ hG => hG.keep h, fun _ hG _ hg => hG.lt hg⟩
theorem St.grid {F : Nat → Prop} {W w : World} {L : List HA} (S : St F W w L) {i p gw gh cap : Nat} {c : Nat → Int} {A : Option Addr} {bs : Nat → Nat} {Rs : Nat → Option Nat} (hi : getO L i = some (.grid p gw gh c A cap bs Rs)) : GridAt w p gw gh c A cap bs Rs := S.ok hi
theorem cell_split {gw X Y : Nat} (hX : X < gw) : (Y * gw + X) % gw = X ∧ (Y * gw + X) / gw = Y := by
  constructor
  · rw [Nat.mul_add_mod_self_right, Nat.mod_eq_of_lt hX]
  · rw [Nat.add_comm, Nat.add_mul_div_right _ _ (by omega), Nat.div_eq_of_lt hX, Nat.zero_add]
theorem slab_type {w : World} {b : Nat} {R : Option Nat} {sw sh : Nat} {c : Nat → Int} (h : SlabIs w b R sw sh c) {g : Nat} (hg : g = b ∨ R = some g) : ∃ t l, Blk w g t l ∧ (t = 139 ∨ t = 21) := by
  obtain ⟨_, h⟩ := h
  cases R with
  | none => obtain ⟨x, hB, _⟩ := h; exact hg.elim (fun e => by subst e; exact ⟨_, _, hB, .inl rfl⟩) (fun e => by cases e)
  | some g' =>
    obtain ⟨cap, hB, hR⟩ := h
    rcases hg with rfl | hg
    · exact ⟨_, _, hB, .inl rfl⟩
    · injection hg with hg
      subst hg
      rcases hR.form with ⟨h, _⟩ | ⟨g, l, h, hB', _⟩
      · cases h
      · injection h with h; injection h with h; subst h; exact ⟨_, _, hB', .inr rfl⟩
theorem SlabIs.blk {w : World} {b : Nat} {R : Option Nat} {sw sh : Nat} {c : Nat → Int} (h : SlabIs w b R sw sh c) : ∃ l, Blk w b 139 l := by
  obtain ⟨_, h⟩ := h
  cases R with
  | none => obtain ⟨x, hB, _⟩ := h; exact ⟨_, hB⟩
  | some g => obtain ⟨cap, hB, _⟩ := h; exact ⟨_, hB⟩
theorem SlabIs.rblk {w : World} {b g : Nat} {sw sh : Nat} {c : Nat → Int} (h : SlabIs w b (some g) sw sh c) : ∃ l, Blk w g 21 l := by
  obtain ⟨_, cap, hB, hR⟩ := h
  rcases hR.form with ⟨h, _⟩ | ⟨g', l, h, hB', _⟩
  · cases h
  · injection h with h; injection h with h; subst h; exact ⟨_, hB'⟩
theorem GridAt.fillTile {w w' : World} {p gw gh cap : Nat} {c : Nat → Int} {A : Option Addr} {bs : Nat → Nat} {Rs : Nat → Option Nat} (h : GridAt w p gw gh c A cap bs Rs) {X0 Y0 X1 Y1 : Nat} {v : Int}
    (hX : X0 ≤ X1 ∧ X1 < gw ∧ X0 / 16 = X1 / 16) (hY : Y0 ≤ Y1 ∧ Y1 < gh ∧ Y0 / 16 = Y1 / 16)
    (hP : SlabP w (bs (Y0 / 16 * acr gw + X0 / 16)) (Rs (Y0 / 16 * acr gw + X0 / 16)) (tsz gw (X0 / 16)) (tsz gh (Y0 / 16)) (fillC (tsz gw (X0 / 16)) (X0 % 16 : Nat) (Y0 % 16 : Nat) (X1 % 16 : Nat) (Y1 % 16 : Nat) v (tileC gw c (Y0 / 16 * acr gw + X0 / 16))) w') :
    ∃ Rs', GridAt w' p gw gh (fillC gw X0 Y0 X1 Y1 v c) A cap bs Rs' ∧ Fr (gridB (acr gw * acr gh) p A bs Rs) w w' ∧ ∀ g, gridB (acr gw * acr gh) p A bs Rs' g → gridB (acr gw * acr gh) p A bs Rs g ∨ w.heap.size ≤ g := by
  obtain ⟨R', hS, hF, hR⟩ := hP
  have ht := tile_lt (gw := gw) (gh := gh) (x := X0) (y := Y0) (by omega) (by omega)
  have hto := tile_of (gw := gw) (b := Y0 / 16) (div_lt_acr (x := X0) (by omega))
  generalize hT : Y0 / 16 * acr gw + X0 / 16 = T at *
  have hS0 := h.slab T ht
  have hpos := acr_pos h.sw.1
  have hFown : ∀ g, (g = bs T ∨ Rs T = some g) → gridB (acr gw * acr gh) p A bs Rs g := fun g hg => .inr (.inr ⟨T, ht, hg⟩)
  have hnew : ∀ g, R' = some g → ∀ u, u < acr gw * acr gh → u ≠ T → Rs u = some g → False := fun g hg u hu hne hu2 => by
    rcases hR g hg with e | e
    · exact hne (h.injR u T g hu ht hu2 e)
    · have := (h.slab u hu).lt (.inr hu2); omega
  refine ⟨fun u => if u = T then R' else Rs u, ⟨h.sw, h.sh, ?_, ?_, fun u hu => ?_, h.inj, fun u u' g hu hu' e1 e2 => ?_⟩, hF.weak hFown, fun g hg => ?_⟩
  · refine h.top.fr hF fun hg => ?_
    obtain ⟨t, l, hB, hty⟩ := slab_type hS0 hg
    have := (h.top.inj hB).1
    rcases hty with rfl | rfl <;> exact absurd this (by decide)
  · refine h.row.keep fun g hg => hF.block g (h.row.lt hg) fun hg' => ?_
    obtain ⟨t, l, hB, hty⟩ := slab_type hS0 hg'
    exact blk_ne_row hB h.row (by rcases hty with rfl | rfl <;> decide) hg
  · have hu1 : u % acr gw < acr gw := Nat.mod_lt _ (by omega)
    by_cases e : u = T
    · subst e
      rw [if_pos rfl]
      rw [hto.1, hto.2]
      refine hS.congr fun i hi => ?_
      have hz := tsz_pos (gw |> fun _ => div_lt_acr (n := gw) (x := X0) (by omega))
      have hm : i % tsz gw (X0 / 16) < tsz gw (X0 / 16) := Nat.mod_lt _ (by omega)
      have hlt := tile_idx_lt (gw := gw) (gh := gh) (t := u) (i := i) ht h.sw.1 (by rw [hto.1, hto.2]; exact hi)
      have hXlt : 16 * (X0 / 16) + i % tsz gw (X0 / 16) < gw := by
        have : tsz gw (X0 / 16) ≤ gw - 16 * (X0 / 16) := by unfold tsz; omega
        generalize i % tsz gw (X0 / 16) = q at *
        omega
      have hsp := cell_split (gw := gw) (X := 16 * (X0 / 16) + i % tsz gw (X0 / 16)) (Y := 16 * (Y0 / 16) + i / tsz gw (X0 / 16)) hXlt
      have hm16 : i % tsz gw (X0 / 16) < 16 := by omega
      have hd16 : i / tsz gw (X0 / 16) < 16 := by
        have h4 : i / tsz gw (X0 / 16) < tsz gh (Y0 / 16) := Nat.div_lt_of_lt_mul hi
        have : tsz gh (Y0 / 16) ≤ 16 := by unfold tsz; omega
        omega
      unfold fillC tileC
      rw [hto.1, hto.2]
      dsimp only
      have key : inR (tsz gw (X0 / 16)) (X0 % 16 : Nat) (Y0 % 16 : Nat) (X1 % 16 : Nat) (Y1 % 16 : Nat) i ↔ inR gw X0 Y0 X1 Y1 ((16 * (Y0 / 16) + i / tsz gw (X0 / 16)) * gw + (16 * (X0 / 16) + i % tsz gw (X0 / 16))) := by
        unfold inR
        rw [hsp.1, hsp.2]
        generalize i % tsz gw (X0 / 16) = q at *
        generalize i / tsz gw (X0 / 16) = r at *
        omega
      by_cases hin : inR (tsz gw (X0 / 16)) (X0 % 16 : Nat) (Y0 % 16 : Nat) (X1 % 16 : Nat) (Y1 % 16 : Nat) i
      · rw [if_pos hin, if_pos (key.1 hin)]
      · rw [if_neg hin, if_neg (fun h => hin (key.2 h))]
    · rw [if_neg e]
      have hk := (h.slab u hu).keep (w' := w') fun g hg => hF.block g ((h.slab u hu).lt hg) fun hg' => by
        obtain ⟨lu, hBu⟩ := (h.slab u hu).blk
        obtain ⟨lt, hBt⟩ := hS0.blk
        rcases hg with rfl | hg
        · rcases hg' with hg' | hg'
          · exact e (h.inj u T hu ht hg')
          · rw [hg'] at hS0
            obtain ⟨l2, hB2⟩ := hS0.rblk
            exact absurd (hBu.inj hB2).1 (by decide)
        · rcases hg' with rfl | hg'
          · have hsu := h.slab u hu
            rw [hg] at hsu
            obtain ⟨l2, hB2⟩ := hsu.rblk
            exact absurd (hBt.inj hB2).1 (by decide)
          · exact e (h.injR u T g hu ht hg hg')
      refine hk.congr fun i hi => ?_
      have hz := tsz_pos hu1
      have hm : i % tsz gw (u % acr gw) < tsz gw (u % acr gw) := Nat.mod_lt _ (by omega)
      have hd16 : i / tsz gw (u % acr gw) < 16 := by
        have h4 : i / tsz gw (u % acr gw) < tsz gh (u / acr gw) := Nat.div_lt_of_lt_mul hi
        have : tsz gh (u / acr gw) ≤ 16 := by unfold tsz; omega
        omega
      have hXlt : 16 * (u % acr gw) + i % tsz gw (u % acr gw) < gw := by
        have : tsz gw (u % acr gw) ≤ gw - 16 * (u % acr gw) := by unfold tsz; omega
        generalize i % tsz gw (u % acr gw) = q at *
        omega
      have hsp := cell_split (gw := gw) (X := 16 * (u % acr gw) + i % tsz gw (u % acr gw)) (Y := 16 * (u / acr gw) + i / tsz gw (u % acr gw)) hXlt
      unfold tileC fillC
      try dsimp only
      rw [if_neg]
      intro hin
      unfold inR at hin
      rw [hsp.1, hsp.2] at hin
      refine e ?_
      rw [← hT, ← Nat.div_add_mod u (acr gw)]
      have e1 : u / acr gw = Y0 / 16 ∧ u % acr gw = X0 / 16 := by
        generalize i % tsz gw (u % acr gw) = q at *
        generalize i / tsz gw (u % acr gw) = r at *
        omega
      rw [e1.1, e1.2, Nat.mul_comm]
  · try dsimp only at e1 e2
    by_cases h1 : u = T
    · by_cases h2 : u' = T
      · rw [h1, h2]
      · rw [if_pos h1] at e1; rw [if_neg h2] at e2; exact (hnew g e1 u' hu' h2 e2).elim
    · by_cases h2 : u' = T
      · rw [if_neg h1] at e1; rw [if_pos h2] at e2; exact (hnew g e2 u hu h1 e1).elim
      · rw [if_neg h1] at e1; rw [if_neg h2] at e2; exact h.injR u u' g hu hu' e1 e2
  · rcases hg with rfl | hg | ⟨u, hu, hg⟩
    · exact .inl (.inl rfl)
    · exact .inl (.inr (.inl hg))
    · rcases hg with hg | hg
      · exact .inl (.inr (.inr ⟨u, hu, .inl hg⟩))
      · try dsimp only at hg
        by_cases e : u = T
        · rw [if_pos e] at hg
          rcases hR g hg with h1 | h1
          · exact .inl (.inr (.inr ⟨T, ht, .inr h1⟩))
          · exact .inr h1
        · rw [if_neg e] at hg
          exact .inl (.inr (.inr ⟨u, hu, .inr hg⟩))
end Go.Proofs.Ytiidmiebckkloaa
/- grid.Fill and grid.Set. -/
namespace Go.Proofs.Ytiidmiebckkloaa
open Go.RowKit
set_option linter.unusedVariables false
set_option linter.unusedSimpArgs false
set_option maxRecDepth 100000

/-! ### Which cells the first pieces have -/
def pX0 (x0 i : Nat) : Nat := max (x0 - x0 % 16 + 16 * i) x0
def pX1 (x0 x1 i : Nat) : Nat := min (x0 - x0 % 16 + 16 * i + 15) x1
theorem p_spec {x0 x1 i : Nat} (h : x0 ≤ x1) (hi : i < tilesN x0 x1) : pX0 x0 i ≤ pX1 x0 x1 i ∧ pX1 x0 x1 i ≤ x1 ∧ x0 ≤ pX0 x0 i ∧ pX0 x0 i / 16 = pX1 x0 x1 i / 16 ∧ pX0 x0 i / 16 = x0 / 16 + i := by
  unfold tilesN at hi
  unfold pX0 pX1
  omega
theorem p_has {x0 x1 X : Nat} (h0 : x0 ≤ X) (h1 : X ≤ x1) : X / 16 - x0 / 16 < tilesN x0 x1 ∧ pX0 x0 (X / 16 - x0 / 16) ≤ X ∧ X ≤ pX1 x0 x1 (X / 16 - x0 / 16) := by
  unfold tilesN pX0 pX1
  omega
theorem pieceC_nat (x0 y0 x1 y1 i j : Nat) : pieceC x0 y0 x1 y1 ((x0 : Int) - (x0 : Int) % 16 + 16 * (i : Int)) ((y0 : Int) - (y0 : Int) % 16 + 16 * (j : Int)) = [.int .i64 (pX0 x0 i), .int .i64 (pX0 y0 j), .int .i64 (pX1 x0 x1 i), .int .i64 (pX1 y0 y1 j)] := by
  unfold pieceC pX0 pX1
  congr 1
  · exact ie (by omega)
  · congr 1
    · exact ie (by omega)
    · congr 1
      · exact ie (by omega)
      · congr 1
        exact ie (by omega)
def doneB (gw x0 y0 x1 y1 k idx : Nat) : Bool := (List.range k).any fun q => decide (inR gw (pX0 x0 (q % tilesN x0 x1)) (pX0 y0 (q / tilesN x0 x1)) (pX1 x0 x1 (q % tilesN x0 x1)) (pX1 y0 y1 (q / tilesN x0 x1)) idx)
def doneC (gw x0 y0 x1 y1 k : Nat) (v : Int) (c : Nat → Int) : Nat → Int := fun idx => if doneB gw x0 y0 x1 y1 k idx then v else c idx
theorem doneC_zero (gw x0 y0 x1 y1 : Nat) (v : Int) (c : Nat → Int) (idx : Nat) : doneC gw x0 y0 x1 y1 0 v c idx = c idx := by simp [doneC, doneB]
theorem doneC_succ (gw x0 y0 x1 y1 k : Nat) (v : Int) (c : Nat → Int) (idx : Nat) :
    fillC gw (pX0 x0 (k % tilesN x0 x1)) (pX0 y0 (k / tilesN x0 x1)) (pX1 x0 x1 (k % tilesN x0 x1)) (pX1 y0 y1 (k / tilesN x0 x1)) v (doneC gw x0 y0 x1 y1 k v c) idx = doneC gw x0 y0 x1 y1 (k + 1) v c idx := by
  have e : doneB gw x0 y0 x1 y1 (k + 1) idx = (doneB gw x0 y0 x1 y1 k idx || decide (inR gw (pX0 x0 (k % tilesN x0 x1)) (pX0 y0 (k / tilesN x0 x1)) (pX1 x0 x1 (k % tilesN x0 x1)) (pX1 y0 y1 (k / tilesN x0 x1)) idx)) := by
    unfold doneB
    rw [List.range_succ, List.any_append]
    simp
  unfold fillC doneC
  rw [e]
  by_cases h : inR gw (pX0 x0 (k % tilesN x0 x1)) (pX0 y0 (k / tilesN x0 x1)) (pX1 x0 x1 (k % tilesN x0 x1)) (pX1 y0 y1 (k / tilesN x0 x1)) idx
  · rw [if_pos h, if_pos (by simp [h])]
  · rw [if_neg h]; simp [h]
theorem doneC_all {gw gh x0 y0 x1 y1 : Nat} (hx : x0 ≤ x1 ∧ x1 < gw) (hy : y0 ≤ y1 ∧ y1 < gh) (v : Int) (c : Nat → Int) (idx : Nat) :
    doneC gw x0 y0 x1 y1 (tilesN y0 y1 * tilesN x0 x1) v c idx = fillC gw x0 y0 x1 y1 v c idx := by
  have key : doneB gw x0 y0 x1 y1 (tilesN y0 y1 * tilesN x0 x1) idx = true ↔ inR gw x0 y0 x1 y1 idx := by
    unfold doneB
    rw [List.any_eq_true]
    constructor
    · rintro ⟨q, hq0, hin0⟩
      have hq := List.mem_range.1 hq0
      have hin := of_decide_eq_true hin0
      clear hin0 hq0
      have hn : 0 < tilesN x0 x1 := by rcases Nat.eq_zero_or_pos (tilesN x0 x1) with h | h; · rw [h] at hq; simp at hq
                                       · exact h
      have h1 := p_spec hx.1 (Nat.mod_lt q hn)
      have h2 := p_spec hy.1 (i := q / tilesN x0 x1) (Nat.div_lt_of_lt_mul (by rw [Nat.mul_comm]; exact hq))
      unfold inR at *
      generalize q % tilesN x0 x1 = i at *
      generalize q / tilesN x0 x1 = j at *
      generalize idx % gw = X at *
      generalize idx / gw = Y at *
      omega
    · intro hin
      unfold inR at hin
      have h1 := p_has (x0 := x0) (x1 := x1) (X := idx % gw) (by omega) (by omega)
      have h2 := p_has (x0 := y0) (x1 := y1) (X := idx / gw) (by omega) (by omega)
      have h3 : (idx / gw / 16 - y0 / 16 + 1) * tilesN x0 x1 ≤ tilesN y0 y1 * tilesN x0 x1 := Nat.mul_le_mul_right _ h2.1
      rw [Nat.succ_mul] at h3
      have hn : 0 < tilesN x0 x1 := by omega
      refine ⟨(idx / gw / 16 - y0 / 16) * tilesN x0 x1 + (idx % gw / 16 - x0 / 16), List.mem_range.2 (by omega), decide_eq_true ?_⟩
      have e := cell_split (gw := tilesN x0 x1) (X := idx % gw / 16 - x0 / 16) (Y := idx / gw / 16 - y0 / 16) h1.1
      rw [e.1, e.2]
      unfold inR
      omega
  unfold doneC fillC
  by_cases h : inR gw x0 y0 x1 y1 idx
  · rw [if_pos h, if_pos (key.2 h)]
  · rw [if_neg h, if_neg (fun e => h (key.1 e))]

theorem GridAt.congr {w : World} {p gw gh cap : Nat} {c c' : Nat → Int} {A : Option Addr} {bs : Nat → Nat} {Rs : Nat → Option Nat} (h1 : GridAt w p gw gh c A cap bs Rs) (hc : ∀ i, i < gw * gh → c i = c' i) : GridAt w p gw gh c' A cap bs Rs :=
  ⟨h1.sw, h1.sh, h1.top, h1.row, fun t ht => (h1.slab t ht).congr fun i hi => tileC_congr hc ht h1.sw.1 hi, h1.inj, h1.injR⟩
/-- a grid behind a fill -/
def GridP (W : World) (p gw gh : Nat) (A : Option Addr) (cap : Nat) (bs : Nat → Nat) (Rs : Nat → Option Nat) (c : Nat → Int) (w' : World) : Prop :=
  ∃ Rs', GridAt w' p gw gh c A cap bs Rs' ∧ Fr (gridB (acr gw * acr gh) p A bs Rs) W w' ∧ ∀ g, gridB (acr gw * acr gh) p A bs Rs' g → gridB (acr gw * acr gh) p A bs Rs g ∨ W.heap.size ≤ g
def SpBlk2 (w wq : World) (t : TypeId) (l : List Value) (v u : Value) : Prop := ∃ b1 b2, v = .pointer (some ⟨b1, 0, none⟩) ∧ u = .pointer (some ⟨b2, 0, none⟩) ∧ Blk wq b1 t l ∧ Blk wq b2 t l ∧ b1 ≠ b2 ∧ w.heap.size ≤ b1 ∧ w.heap.size ≤ b2
def SpBlk1 (w wq : World) (t : TypeId) (l : List Value) (v : Value) : Prop := ∃ b1, v = .pointer (some ⟨b1, 0, none⟩) ∧ Blk wq b1 t l ∧ w.heap.size ≤ b1
def SpA (w wq : World) (t : TypeId) (l : List Value) : List Value → Prop
  | [] => True
  | [v] => SpBlk1 w wq t l v
  | v :: u :: _ => SpBlk2 w wq t l v u
theorem SpA.gr {w wq w' : World} {t : TypeId} {l : List Value} (g : Gr wq w') : ∀ {σ : List Value}, SpA w wq t l σ → SpA w w' t l σ
  | [], h => trivial
  | [v], h => by obtain ⟨b1, h1, h2, h3⟩ := h; exact ⟨b1, h1, h2.gr g, h3⟩
  | v :: u :: _, h => by obtain ⟨b1, b2, h1, h2, h3, h4, h5⟩ := h; exact ⟨b1, b2, h1, h2, h3.gr g, h4.gr g, h5⟩
theorem to_alloc1 {P : Program} {e : Nat → Value} {w0 w : World} {d : Option Tmp} {ty : TypeId} {ps : String} {af : Array Edge} {t : TypeId} {z : Value} {l : List Value} {R : Value → World → Prop} (hz : ∀ w, (zeroValue t).run P w = .ok z w) (hl : z.cells.toList = l) (g0 : Gr w0 w)
    (hr : ∀ v w', Gr w0 w' → SpBlk1 w0 w' t l v → R v w') : opTo P e ⟨d, .alloc t, ty, ps, af, none⟩ w R :=
  to_w (op_alloc hz hl) (hr _ _ (g0.trans (Gr.alloc _ _)) ⟨w.heap.size, rfl, Blk.new _ _ _, g0.le⟩)
theorem to_alloc2 {P : Program} {e : Nat → Value} {w0 w : World} {d : Option Tmp} {ty : TypeId} {ps : String} {af : Array Edge} {t : TypeId} {z u : Value} {l : List Value} {R : Value → World → Prop} (hz : ∀ w, (zeroValue t).run P w = .ok z w) (hl : z.cells.toList = l) (g0 : Gr w0 w) (h1 : SpBlk1 w0 w t l u)
    (hr : ∀ v w', Gr w0 w' → SpBlk2 w0 w' t l v u → R v w') : opTo P e ⟨d, .alloc t, ty, ps, af, none⟩ w R := by
  obtain ⟨b1, rfl, hB, hb⟩ := h1
  exact to_w (op_alloc hz hl) (hr _ _ (g0.trans (Gr.alloc _ _)) ⟨w.heap.size, b1, rfl, rfl, Blk.new _ _ _, hB.gr (Gr.alloc _ _), by have := hB.lt; omega, g0.le, hb⟩)

section
variable {W : World} {p gw gh cap : Nat} {c : Nat → Int} {A : Option Addr} {bs : Nat → Nat} {Rs : Nat → Option Nat}
set_option maxHeartbeats 2000000 in
theorem gfill_E (x0 y0 x1 y1 : Nat) (v : Int) (hx : x0 ≤ x1 ∧ x1 < gw) (hy : y0 ≤ y1 ∧ y1 < gh) (hv : -2147483648 ≤ v ∧ v ≤ 2147483647) (hG : GridAt W p gw gh c A cap bs Rs) :
    Fn Try.prog 61 [.pointer (some ⟨p, 0, none⟩), .agg #[.int .i64 x0, .int .i64 y0, .int .i64 x1, .int .i64 y1], .int .i64 v] W
      (fun r w' => r = .int .i64 0 ∧ GridP W p gw gh A cap bs Rs (fillC gw x0 y0 x1 y1 v c) w') := by
  have hw := hG.sw
  have hh := hG.sh
  have hwi : within x0 y0 x1 y1 gw gh = 0 := within_fine (by omega) (by omega) (by omega) (by omega)
  obtain ⟨hnx, hnx2⟩ := tiles_le x0 x1 (by omega) (by omega) (by omega)
  obtain ⟨hny, hny2⟩ := tiles_le y0 y1 (by omega) (by omega) (by omega)
  have hN : tilesN y0 y1 * tilesN x0 x1 ≤ 64 * 64 := Nat.mul_le_mul hny2 hnx2
  have S := St.start1 W (.grid p gw gh c A cap bs Rs) hG
  refine Fn_enter Try.func61 rfl Try.results61 Try.ntmps61 (by kernel_rfl) (by kernel_rfl) ?_
  repeat refine cw_seq ?_
  refine cw_region ?_
  refine rw_newB (op_box rfl) S ?_
  intro b_rc w2_ g2_ S
  refine rw_v (op_pure rfl) ?_
  first | refine rw_end ?_ | (refine rw_nil ?_; show CW _ _ _ _ _ _) | refine rw_nil ?_
  repeat refine cw_seq ?_
  refine cw_region ?_
  refine rw_v (op_pure rfl) ?_
  refine rw_r (op_loadAB Try.underlying61 rfl (Try.sizeOf61 _) rfl (S.blk (i := 0) rfl) rfl rfl) ?_
  refine rw_call rfl (gcheck_E p gw gh x0 y0 x1 y1 hw.2 hh.2 _ w2_ (S.grid (i := 1) rfl).top) ?_
  rintro _ w3_ ⟨rfl, g3_⟩
  have S := S.gr g3_
  refine rw_v (op_pure rfl) ?_
  first | refine rw_end ?_ | (refine rw_nil ?_; show CW _ _ _ _ _ _) | refine rw_nil ?_
  repeat refine cw_seq ?_
  refine cw_region ?_
  refine rw_v (op_pure rfl) ?_
  refine rw_v (op_b (b := false) rfl (bne_eq_false_iff_eq.2 (by omega))) ?_
  first | refine rw_end ?_ | (refine rw_nil ?_; show CW _ _ _ _ _ _) | refine rw_nil ?_
  repeat refine cw_seq ?_
  refine cw_false (by rw [hwi]; rfl) ?_
  repeat refine cw_seq ?_
  refine cw_skip ?_
  try show CW _ _ _ _ _ _
  repeat refine cw_seq ?_
  refine cw_region ?_
  refine rw_r (op_loadAB Try.underlying61 rfl (Try.sizeOf61 _) rfl (S.blk (i := 0) rfl) rfl rfl) ?_
  refine rw_call rfl (pieces_N x0 y0 x1 y1 (by omega) w3_) ?_
  rintro _ w4_ ⟨A_ps, c_ps, rfl, hR_ps, hf_ps, g4_⟩
  have S := S.pushRow hR_ps hf_ps g4_
  refine rw_v (op_len Try.underlying123 rfl) ?_
  refine rw_v (op_pure rfl) ?_
  first | refine rw_end ?_ | (refine rw_nil ?_; show CW _ _ _ _ _ _) | refine rw_nil ?_
  repeat refine cw_seq ?_
  refine cw_block ?_
  repeat refine cw_seq ?_
  have sa_ps : SomeA A_ps := hR_ps.someA (Nat.mul_pos hny hnx)
  refine cw_loop (fun m e w => ∃ (k : Nat) (Rs' : Nat → Option Nat), k + m = tilesN y0 y1 * tilesN x0 x1 ∧ SL e [(0, .pointer (some ⟨p, 0, none⟩)), (2, .int .i64 v), (20, .slice A_ps (tilesN y0 y1 * tilesN x0 x1) c_ps), (21, .int .i64 (tilesN y0 y1 * tilesN x0 x1 : Nat)), (22, .int .i64 k)] ∧
    St (gridB (acr gw * acr gh) p A bs Rs) W w [.row 61 4 A_ps (tilesN y0 y1 * tilesN x0 x1) c_ps (piecesC x0 y0 x1 y1 (tilesN y0 y1)), .grid p gw gh (doneC gw x0 y0 x1 y1 k v c) A cap bs Rs']) (tilesN y0 y1 * tilesN x0 x1)
    ⟨0, Rs, by omega, ⟨rfl, rfl, rfl, rfl, rfl, trivial⟩, by
      have S := S.sub (.cons_cons _ (.cons _ (.cons_cons _ .slnil)))
      exact S.as_ (i := 1) rfl rfl (fun h => h.congr (fun i _ => (doneC_zero gw x0 y0 x1 y1 v c i).symm)) (fun g h => h)⟩ ?_
  rintro m e w ⟨k, Rs1, hk, hsl, S⟩
  rw [hsl.fold]
  repeat refine cw_seq ?_
  refine cw_region ?_
  refine rw_v (op_pure rfl) ?_
  first | refine rw_end ?_ | (refine rw_nil ?_; show CW _ _ _ _ _ _) | refine rw_nil ?_
  repeat refine cw_seq ?_
  refine cw_cond rfl (fun hc => ?_) (fun hc => ?_)
  · try simp only [decide_eq_true_eq, decide_eq_false_iff_not, beq_iff_eq, bne_iff_ne, beq_eq_false_iff_ne, bne_eq_false_iff_eq, Bool.not_eq_true', Bool.not_eq_false', ne_eq, Decidable.not_not, Int.natCast_inj, Int.ofNat_lt, Int.ofNat_le, gt_iff_lt, ge_iff_le, Int.not_lt, Int.not_le] at hc
    have hkN : k < tilesN y0 y1 * tilesN x0 x1 := by omega
    have hi : k % tilesN x0 x1 < tilesN x0 x1 := Nat.mod_lt _ hnx
    have hj : k / tilesN x0 x1 < tilesN y0 y1 := Nat.div_lt_of_lt_mul (by rw [Nat.mul_comm]; exact hkN)
    have hp1 := p_spec hx.1 hi
    have hp2 := p_spec hy.1 hj
    have hat := piecesC_at x0 y0 x1 y1 (tilesN y0 y1) _ _ hi hj
    rw [show k / tilesN x0 x1 * tilesN x0 x1 + k % tilesN x0 x1 = k by rw [Nat.mul_comm]; exact Nat.div_add_mod _ _, pieceC_nat] at hat
    have hat' : ((piecesC x0 y0 x1 y1 (tilesN y0 y1)).drop ((k : Int).toNat * 4)).take 4 = [.int .i64 (pX0 x0 (k % tilesN x0 x1)), .int .i64 (pX0 y0 (k / tilesN x0 x1)), .int .i64 (pX1 x0 x1 (k % tilesN x0 x1)), .int .i64 (pX1 y0 y1 (k / tilesN x0 x1))] := by rw [Int.toNat_natCast]; exact hat
    have hsucc := doneC_succ gw x0 y0 x1 y1 k v c
    generalize pX0 x0 (k % tilesN x0 x1) = a0 at *
    generalize pX1 x0 x1 (k % tilesN x0 x1) = a1 at *
    generalize pX0 y0 (k / tilesN x0 x1) = b0 at *
    generalize pX1 y0 y1 (k / tilesN x0 x1) = b1 at *
    have ht := tile_lt (gw := gw) (gh := gh) (x := a0) (y := b0) (by omega) (by omega)
    have hto := tile_of (gw := gw) (b := b0 / 16) (div_lt_acr (x := a0) (by omega))
    have hz1 := tsz_pos (div_lt_acr (n := gw) (x := a0) (by omega))
    have hz2 := tsz_pos (div_lt_acr (n := gh) (x := b0) (by omega))
    have hm1 := mod_lt_tsz (n := gw) (x := a0) (by omega)
    have hm2 := mod_lt_tsz (n := gw) (x := a1) (by omega)
    have hm3 := mod_lt_tsz (n := gh) (x := b0) (by omega)
    have hm4 := mod_lt_tsz (n := gh) (x := b1) (by omega)
    have ec : ∀ a : Nat, (a : Int) % 16 = ((a % 16 : Nat) : Int) := fun a => by omega
    rw [← hp1.2.2.2.1] at hm2
    rw [← hp2.2.2.2.1] at hm4
    repeat refine cw_seq ?_
    refine cw_skip ?_
    try show CW _ _ _ _ _ _
    repeat refine cw_seq ?_
    refine cw_block ?_
    repeat refine cw_seq ?_
    refine cw_region ?_
    refine rw_v (op_idx Try.underlying123 Try.sizeOf61 rfl rfl sa_ps (by omega) (by omega)) ?_
    refine rw_r (op_ldRA Try.underlying61 rfl (Try.sizeOf61 _) rfl (S.rd (i := 0) rfl) hat' rfl rfl) ?_
    refine rw_newB (op_alloc Try.zeroValue61 rfl) S ?_
    intro b_pc w6_ g6_ S
    refine rw_storeSA (i := 0) S rfl (Try.sizeOf61 _) rfl rfl rfl rfl rfl rfl ?_
    intro w7_ S
    first | refine rw_end ?_ | (refine rw_nil ?_; show CW _ _ _ _ _ _) | refine rw_nil ?_
    repeat refine cw_seq ?_
    refine cw_cutT (M := fun e w => ∃ (ba bb bp : Nat), SL e [(0, .pointer (some ⟨p, 0, none⟩)), (2, .int .i64 v), (9, .pointer (some ⟨bp, 0, none⟩)), (10, .pointer (some ⟨ba, 0, none⟩)), (11, .pointer (some ⟨bb, 0, none⟩)), (20, .slice A_ps (tilesN y0 y1 * tilesN x0 x1) c_ps), (21, .int .i64 (tilesN y0 y1 * tilesN x0 x1 : Nat)), (22, .int .i64 k)] ∧ St (gridB (acr gw * acr gh) p A bs Rs) W w [.blk ba 40 [.int .i64 ((a0 : Int) % 16), .int .i64 ((b0 : Int) % 16)], .blk bb 40 [.int .i64 ((a1 : Int) % 16), .int .i64 ((b1 : Int) % 16)], .blk bp 61 [.int .i64 a0, .int .i64 b0, .int .i64 a1, .int .i64 b1], .row 61 4 A_ps (tilesN y0 y1 * tilesN x0 x1) c_ps (piecesC x0 y0 x1 y1 (tilesN y0 y1)), .grid p gw gh (doneC gw x0 y0 x1 y1 k v c) A cap bs Rs1]) ?_ ?_
    · skip
      repeat refine cw_seq ?_
      refine cw_pair (C := (fun σ wq => Gr w7_ wq ∧ SpA w7_ wq 40 [.int .i64 0, .int .i64 0] σ)) [10, 11] [10] [0, 1, 2, 3, 4, 5, 6, 7, 8, 9, 10, 11] [12, 13] (by kernel_rfl) (by kernel_rfl) ⟨Gr.drew _, trivial⟩ ?_
      simp only [pickI, pickL, List.drop_succ_cons, List.drop_zero]
      refine rp_plain rfl ?_
      refine rs_v rfl (op_fieldAddr Try.underlying61 rfl Try.sizeOf2 rfl rfl) ?_
      refine rs_nil ?_
      refine rp_plain rfl ?_
      refine rs_r rfl (fun τ wq hq => op_loadB Try.underlying2 rfl rfl ((S.gr hq.1).blk (i := 0) rfl) rfl) ?_
      refine rs_nil ?_
      refine rp_plain rfl ?_
      refine rs_v rfl (op_fieldAddr Try.underlying61 rfl Try.sizeOf2 rfl rfl) ?_
      refine rs_nil ?_
      refine rp_plain rfl ?_
      refine rs_r rfl (fun τ wq hq => op_loadB Try.underlying2 rfl rfl ((S.gr hq.1).blk (i := 0) rfl) rfl) ?_
      refine rs_nil ?_
      refine rp_plain rfl ?_
      refine rs_call rfl rfl (fun τ wq hq => (inner_E _ _ (by omega) (by omega) wq).mono (fun _ _ ⟨hv, hg⟩ => ⟨hv, hq.1.trans hg, SpA.gr hg hq.2⟩)) ?_
      refine rs_nil ?_
      refine rp_plain rfl ?_
      refine rs_v rfl (op_fieldAddr Try.underlying61 rfl Try.sizeOf2 rfl rfl) ?_
      refine rs_nil ?_
      refine rp_plain rfl ?_
      refine rs_r rfl (fun τ wq hq => op_loadB Try.underlying2 rfl rfl ((S.gr hq.1).blk (i := 0) rfl) rfl) ?_
      refine rs_nil ?_
      refine rp_plain rfl ?_
      refine rs_v rfl (op_fieldAddr Try.underlying61 rfl Try.sizeOf2 rfl rfl) ?_
      refine rs_nil ?_
      refine rp_plain rfl ?_
      refine rs_r rfl (fun τ wq hq => op_loadB Try.underlying2 rfl rfl ((S.gr hq.1).blk (i := 0) rfl) rfl) ?_
      refine rs_nil ?_
      refine rp_plain rfl ?_
      refine rs_call rfl rfl (fun τ wq hq => (inner_E _ _ (by omega) (by omega) wq).mono (fun _ _ ⟨hv, hg⟩ => ⟨hv, hq.1.trans hg, SpA.gr hg hq.2⟩)) ?_
      refine rs_nil ?_
      refine rp_pair rfl ?_ ?_
      · refine rs_special rfl rfl (fun wq hq => ?_) ?_
        · first | exact to_alloc1 Try.zeroValue40 rfl hq.1 (fun v w' g h => ⟨g, h⟩) | exact to_alloc2 Try.zeroValue40 rfl hq.1 hq.2 (fun v w' g h => ⟨g, h⟩)
        rintro v10 w10 ⟨_, hsp10⟩
        refine rs_special rfl rfl (fun wq hq => ?_) ?_
        · first | exact to_alloc1 Try.zeroValue40 rfl hq.1 (fun v w' g h => ⟨g, h⟩) | exact to_alloc2 Try.zeroValue40 rfl hq.1 hq.2 (fun v w' g h => ⟨g, h⟩)
        rintro v11 w11 ⟨_, hsp11⟩
        refine rs_nil ?_
        refine rp_nil ?_
        rintro w8_ ⟨g8_, hsp⟩
        obtain ⟨bx_, by_, he1, he2, hB1, hB2, hne, hs1, hs2⟩ := hsp
        cases he1
        cases he2
        have S := S.push2 g8_ (h1 := .blk _ 40 _) (h2 := .blk _ 40 _) hB2 hB1 (fun g h => h ▸ hs2) (fun g h => h ▸ hs1) (fun g h h' => hne (h'.symm.trans h))
        refine rw_storeSA (i := 0) S rfl (Try.sizeOf40 _) rfl rfl rfl rfl rfl rfl ?_
        intro w9_ S
        refine rw_storeSA (i := 1) S rfl (Try.sizeOf40 _) rfl rfl rfl rfl rfl rfl ?_
        intro w10_ S
        first | refine rw_end ?_ | (refine rw_nil ?_; show CW _ _ _ _ _ _) | refine rw_nil ?_
        exact ⟨_, _, _, ⟨rfl, rfl, rfl, rfl, rfl, rfl, rfl, rfl, trivial⟩, S⟩
      · refine rs_special rfl rfl (fun wq hq => ?_) ?_
        · first | exact to_alloc1 Try.zeroValue40 rfl hq.1 (fun v w' g h => ⟨g, h⟩) | exact to_alloc2 Try.zeroValue40 rfl hq.1 hq.2 (fun v w' g h => ⟨g, h⟩)
        rintro v11 w11 ⟨_, hsp11⟩
        refine rs_special rfl rfl (fun wq hq => ?_) ?_
        · first | exact to_alloc1 Try.zeroValue40 rfl hq.1 (fun v w' g h => ⟨g, h⟩) | exact to_alloc2 Try.zeroValue40 rfl hq.1 hq.2 (fun v w' g h => ⟨g, h⟩)
        rintro v10 w10 ⟨_, hsp10⟩
        refine rs_nil ?_
        refine rp_nil ?_
        rintro w11_ ⟨g11_, hsp⟩
        obtain ⟨bx_, by_, he1, he2, hB1, hB2, hne, hs1, hs2⟩ := hsp
        cases he1
        cases he2
        have S := S.push2 g11_ (h1 := .blk _ 40 _) (h2 := .blk _ 40 _) hB1 hB2 (fun g h => h ▸ hs1) (fun g h => h ▸ hs2) (fun g h h' => hne (h.symm.trans h'))
        refine rw_storeSA (i := 0) S rfl (Try.sizeOf40 _) rfl rfl rfl rfl rfl rfl ?_
        intro w12_ S
        refine rw_storeSA (i := 1) S rfl (Try.sizeOf40 _) rfl rfl rfl rfl rfl rfl ?_
        intro w13_ S
        first | refine rw_end ?_ | (refine rw_nil ?_; show CW _ _ _ _ _ _) | refine rw_nil ?_
        exact ⟨_, _, _, ⟨rfl, rfl, rfl, rfl, rfl, rfl, rfl, rfl, trivial⟩, S⟩
    · rintro e2 w2 ⟨ba, bb, bp, hsl, S⟩
      rw [hsl.fold]
      have hle2 := S.le
      have hGk := S.grid (i := 4) rfl
      have hSk := hGk.slab _ ht
      rw [hto.1, hto.2] at hSk
      repeat refine cw_seq ?_
      refine cw_draw (C := fun wq => Gr w2 wq) [0, 1, 2, 3, 4, 5, 6, 7, 8, 9, 10, 11, 12, 13, 14, 15] [16, 17] (by kernel_rfl) (by kernel_rfl) (Gr.drew _) ?_
      simp only [pickL, List.drop_succ_cons, List.drop_zero]
      refine rq_v (op_pure rfl) ?_
      refine rq_v (op_fieldAddr Try.underlying61 rfl Try.sizeOf2 rfl rfl) ?_
      refine rq_r (fun wq hq => op_loadB Try.underlying2 rfl rfl ((S.gr hq).blk (i := 2) rfl) rfl) ?_
      refine rq_v (op_fieldAddr Try.underlying61 rfl Try.sizeOf2 rfl rfl) ?_
      refine rq_r (fun wq hq => op_loadB Try.underlying2 rfl rfl ((S.gr hq).blk (i := 2) rfl) rfl) ?_
      refine rq_call rfl (fun wq hq => (gslab_E a0 b0 (by omega) (by omega) ((S.gr hq).grid (i := 4) rfl)).mono (fun _ _ ⟨hv, hg⟩ => ⟨hv, hq.trans hg⟩)) ?_
      refine rq_v (op_fieldAddr Try.underlying40 rfl Try.sizeOf2 rfl rfl) ?_
      refine rq_r (fun wq hq => op_loadB Try.underlying2 rfl rfl ((S.gr hq).blk (i := 0) rfl) rfl) ?_
      refine rq_v (op_fieldAddr Try.underlying40 rfl Try.sizeOf2 rfl rfl) ?_
      refine rq_r (fun wq hq => op_loadB Try.underlying2 rfl rfl ((S.gr hq).blk (i := 0) rfl) rfl) ?_
      refine rq_v (op_fieldAddr Try.underlying40 rfl Try.sizeOf2 rfl rfl) ?_
      refine rq_r (fun wq hq => op_loadB Try.underlying2 rfl rfl ((S.gr hq).blk (i := 1) rfl) rfl) ?_
      refine rq_v (op_fieldAddr Try.underlying40 rfl Try.sizeOf2 rfl rfl) ?_
      refine rq_r (fun wq hq => op_loadB Try.underlying2 rfl rfl ((S.gr hq).blk (i := 1) rfl) rfl) ?_
      refine rq_v (op_build (pl := [(0, 1), (1, 1), (2, 1), (3, 1)]) Try.underlying61 Try.zeroValue61 (fun w => by kernel_rfl) rfl rfl) ?_
      refine rq_v (op_pure rfl) ?_
      refine rq_nil ?_
      intro w14_ g14_
      have S := S.gr g14_
      refine rw_call rfl (sfill_E _ _ _ _ _ ((a0 : Int) % 16) ((b0 : Int) % 16) ((a1 : Int) % 16) ((b1 : Int) % 16) v hz1 hz2 (by omega) (by omega) hv w14_ (hSk.gr (by assumption))) ?_
      rintro _ w15_ ⟨rfl, hP⟩
      rw [ec, ec, ec, ec] at hP
      obtain ⟨Rs2, hG2, hF2, hO2⟩ := GridAt.fillTile (S.grid (i := 4) rfl) ⟨hp1.1, by omega, hp1.2.2.2.1⟩ ⟨hp2.1, by omega, hp2.2.2.2.1⟩ hP
      have S := S.set (i := 4) (h' := .grid p gw gh _ A cap bs Rs2) rfl rfl hF2 (fun g h => .inl h) hG2 hO2
      refine rw_v (op_pure rfl) ?_
      first | refine rw_end ?_ | (refine rw_nil ?_; show CW _ _ _ _ _ _) | refine rw_nil ?_
      repeat refine cw_seq ?_
      refine cw_region ?_
      refine rw_v (op_pure rfl) ?_
      refine rw_v (op_b (b := false) rfl (bne_eq_false_iff_eq.2 (by omega))) ?_
      first | refine rw_end ?_ | (refine rw_nil ?_; show CW _ _ _ _ _ _) | refine rw_nil ?_
      repeat refine cw_seq ?_
      refine cw_false rfl ?_
      repeat refine cw_seq ?_
      refine cw_skip ?_
      try show CW _ _ _ _ _ _
      repeat refine cw_seq ?_
      refine cw_region ?_
      refine rw_v (op_rng rfl (by omega)) ?_
      refine rw_v (op_pure rfl) ?_
      first | refine rw_end ?_ | (refine rw_nil ?_; show CW _ _ _ _ _ _) | refine rw_nil ?_
      refine ⟨m - 1, by omega, k + 1, Rs2, by omega, ⟨rfl, rfl, rfl, rfl, ie (by omega), trivial⟩, ?_⟩
      have S := S.sub (.cons _ (.cons _ (.cons _ (.cons_cons _ (.cons_cons _ .slnil)))))
      exact S.as_ (i := 1) rfl rfl (fun h => h.congr (fun i _ => hsucc i)) (fun g h => h)
  · try simp only [decide_eq_true_eq, decide_eq_false_iff_not, beq_iff_eq, bne_iff_ne, beq_eq_false_iff_ne, bne_eq_false_iff_eq, Bool.not_eq_true', Bool.not_eq_false', ne_eq, Decidable.not_not, Int.natCast_inj, Int.ofNat_lt, Int.ofNat_le, gt_iff_lt, ge_iff_le, Int.not_lt, Int.not_le] at hc
    repeat refine cw_seq ?_
    refine cw_exit ?_
    repeat first | refine exit_then ?_ | refine exit_inb ?_
    show CW _ _ _ _ _ _
    repeat refine cw_seq ?_
    refine cw_region ?_
    refine rw_v (op_pure rfl) ?_
    first | refine rw_end ?_ | (refine rw_nil ?_; show CW _ _ _ _ _ _) | refine rw_nil ?_
    repeat refine cw_seq ?_
    refine cw_ret ?_
    repeat first | refine ret_then ?_ | refine ret_inb ?_
    obtain rfl : k = tilesN y0 y1 * tilesN x0 x1 := by omega
    exact res1 rfl ⟨rfl, Rs1, (S.grid (i := 1) rfl).congr (fun i _ => doneC_all hx hy v c i), S.fr, fun g hg => (S.sep.get (i := 1) rfl).2 g hg⟩
theorem gset_E (x y : Nat) (v : Int) (hx : x < gw) (hy : y < gh) (hv : -2147483648 ≤ v ∧ v ≤ 2147483647) (hG : GridAt W p gw gh c A cap bs Rs) :
    Fn Try.prog 31 [.pointer (some ⟨p, 0, none⟩), .agg #[.int .i64 x, .int .i64 y], .int .i64 v] W
      (fun r w' => r = .int .i64 0 ∧ GridP W p gw gh A cap bs Rs (fun i => if i = y * gw + x then v else c i) w') := by
  have S := St.start1 W (.grid p gw gh c A cap bs Rs) hG
  refine Fn_enter Try.func31 rfl Try.results31 Try.ntmps31 (by kernel_rfl) (by kernel_rfl) ?_
  repeat refine cw_seq ?_
  refine cw_region ?_
  refine rw_newB (op_box rfl) S ?_
  intro b_b1 w2_ g2_ S
  refine rw_v (op_pure rfl) ?_
  first | refine rw_end ?_ | (refine rw_nil ?_; show CW _ _ _ _ _ _) | refine rw_nil ?_
  repeat refine cw_seq ?_
  refine cw_region ?_
  refine rw_v (op_pure rfl) ?_
  refine rw_r (op_loadAB Try.underlying40 rfl (Try.sizeOf40 _) rfl (S.blk (i := 0) rfl) rfl rfl) ?_
  refine rw_call rfl (gspot_E _ _ w2_) ?_
  rintro _ w3_ ⟨rfl, g3_⟩
  have S := S.gr g3_
  refine rw_v (op_pure rfl) ?_
  refine rw_call rfl (gfill_E x y x y v ⟨Nat.le_refl _, hx⟩ ⟨Nat.le_refl _, hy⟩ hv (S.grid (i := 1) rfl)) ?_
  rintro _ w4_ ⟨rfl, Rs2, hG2, hF2, hO2⟩
  have S := S.set (i := 1) (h' := .grid p gw gh _ A cap bs Rs2) rfl rfl hF2 (fun g h => .inl h) hG2 hO2
  refine rw_v (op_pure rfl) ?_
  first | refine rw_end ?_ | (refine rw_nil ?_; show CW _ _ _ _ _ _) | refine rw_nil ?_
  repeat refine cw_seq ?_
  refine cw_ret ?_
  repeat first | refine ret_then ?_ | refine ret_inb ?_
  refine res1 rfl ⟨rfl, Rs2, (S.grid (i := 1) rfl).congr (fun i _ => ?_), S.fr, fun g hg => (S.sep.get (i := 1) rfl).2 g hg⟩
  have := split_iff (sw := gw) (X := x) (Y := y) (by omega) (by omega) i
  have e : ((y : Int) * gw + x).toNat = y * gw + x := by
    have : (y : Int) * gw + x = ((y * gw + x : Nat) : Int) := by push_cast; rfl
    rw [this]; exact Int.toNat_natCast _
  rw [e] at this
  unfold fillC
  by_cases h : i = y * gw + x
  · rw [if_pos h, if_pos]
    have h1 := this.2 h
    unfold inR
    omega
  · rw [if_neg h, if_neg]
    intro hin
    refine h (this.1 ?_)
    unfold inR at hin
    generalize i % gw = q at *
    generalize i / gw = r at *
    omega
end
end Go.Proofs.Ytiidmiebckkloaa
/- A new grid. -/
namespace Go.Proofs.Ytiidmiebckkloaa
open Go.RowKit
set_option linter.unusedVariables false
set_option linter.unusedSimpArgs false
set_option maxRecDepth 100000

/-- blocks of one type -/
def HA.fam (k : Nat) (bs : Nat → Nat) (ty : TypeId) (cells : Nat → List Value) : HA :=
  ⟨fun g => ∃ t, t < k ∧ g = bs t, fun w => ∀ t, t < k → Blk w (bs t) ty (cells t), fun _ _ h _ hB t ht => (hB t ht).keep (h _ ⟨t, ht, rfl⟩), fun _ hB _ ⟨t, ht, e⟩ => e ▸ (hB t ht).lt⟩
section
variable {F : Nat → Prop} {W w : World} {L : List HA}
theorem St.famNil (S : St F W w L) (bs : Nat → Nat) (ty : TypeId) (cells : Nat → List Value) : St F W w (.fam 0 bs ty cells :: L) :=
  S.push (Gr.refl w) (h := .fam 0 bs ty cells) (fun t ht => by omega) (fun g ⟨t, ht, _⟩ => by omega)
def addB (bs : Nat → Nat) (k b : Nat) : Nat → Nat := fun t => if t = k then b else bs t
theorem addB_lt {bs : Nat → Nat} {k b t : Nat} (h : t < k) : addB bs k b t = bs t := if_neg (by omega)
theorem addB_at (bs : Nat → Nat) (k b : Nat) : addB bs k b k = b := if_pos rfl
theorem St.famPush {k b : Nat} {bs : Nat → Nat} {ty : TypeId} {cells : Nat → List Value} {l : List Value} (S : St F W w (.blk b ty l :: .fam k bs ty cells :: L)) (hl : cells k = l) : St F W w (.fam (k + 1) (addB bs k b) ty cells :: L) := by
  have h1 := S.sep.1
  have h2 := S.sep.2.2.1
  have h3 := S.sep.2.2.2
  refine ⟨S.fr, ⟨fun t ht => ?_, fun g ⟨t, ht, e⟩ => ?_⟩, fun g ⟨t, ht, e⟩ h hh => ?_, h3.2⟩
  · by_cases e : t = k
    · subst e; rw [addB_at, hl]; exact h1.1
    · rw [addB_lt (by omega)]; exact h2.1 t (by omega)
  · by_cases ek : t = k
    · subst ek; rw [addB_at] at e; exact h1.2 g e
    · rw [addB_lt (by omega)] at e; exact h2.2 g ⟨t, by omega, e⟩
  · by_cases ek : t = k
    · subst ek; rw [addB_at] at e; exact S.sep.2.1 g e h (List.mem_cons_of_mem _ hh)
    · rw [addB_lt (by omega)] at e; exact h3.1 g ⟨t, by omega, e⟩ h hh
theorem St.famNew {k b : Nat} {bs : Nat → Nat} {ty : TypeId} {cells : Nat → List Value} {l : List Value} (S : St F W w (.blk b ty l :: .fam k bs ty cells :: L)) (t : Nat) (ht : t < k) : bs t ≠ b := fun e =>
  S.sep.2.1 b rfl (.fam k bs ty cells) (by simp) ⟨t, ht, e.symm⟩
end
theorem addB_inj {bs : Nat → Nat} {k b : Nat} (hi : ∀ t u, t < k → u < k → bs t = bs u → t = u) (hn : ∀ t, t < k → bs t ≠ b) : ∀ t u, t < k + 1 → u < k + 1 → addB bs k b t = addB bs k b u → t = u := fun t u ht hu e => by
  by_cases h1 : t = k
  · by_cases h2 : u = k
    · rw [h1, h2]
    · rw [h1, addB_at, addB_lt (by omega)] at e; exact absurd e.symm (hn u (by omega))
  · by_cases h2 : u = k
    · rw [h2, addB_at, addB_lt (by omega)] at e; exact absurd e (hn t (by omega))
    · rw [addB_lt (by omega), addB_lt (by omega)] at e; exact hi t u (by omega) (by omega) e
theorem ptrs_add (k b : Nat) (bs : Nat → Nat) : ptrs k bs ++ [.pointer (some ⟨b, 0, none⟩)] = ptrs (k + 1) (addB bs k b) := by
  unfold ptrs
  rw [List.range_succ, List.map_append, List.map_singleton, addB_at]
  congr 1
  exact List.map_congr_left fun t ht => by rw [addB_lt (List.mem_range.1 ht)]

/-- a grid of the call's own -/
def RetGrid (mk : Value → Value) (gw gh : Nat) (c : Nat → Int) (W : World) : Value → World → Prop := fun v w' => ∃ p A cap bs Rs, v = mk (.pointer (some ⟨p, 0, none⟩)) ∧ GridAt w' p gw gh c A cap bs Rs ∧ (∀ g, gridB (acr gw * acr gh) p A bs Rs g → W.heap.size ≤ g) ∧ Gr W w'
theorem St.pushGrid {F : Nat → Prop} {W w w' : World} {L : List HA} (S : St F W w L) {p gw gh cap : Nat} {c : Nat → Int} {A : Option Addr} {bs : Nat → Nat} {Rs : Nat → Option Nat} (hG : GridAt w' p gw gh c A cap bs Rs) (hf : ∀ g, gridB (acr gw * acr gh) p A bs Rs g → w.heap.size ≤ g) (g : Gr w w') :
    St F W w' (.grid p gw gh c A cap bs Rs :: L) := S.push g (h := .grid p gw gh c A cap bs Rs) hG hf
theorem St.retGrid {W w : World} {L : List HA} (S : St No W w L) {i p gw gh cap : Nat} {c : Nat → Int} {A : Option Addr} {bs : Nat → Nat} {Rs : Nat → Option Nat} {mk : Value → Value} (hi : getO L i = some (.grid p gw gh c A cap bs Rs)) : RetGrid mk gw gh c W (mk (.pointer (some ⟨p, 0, none⟩))) w :=
  ⟨p, A, cap, bs, Rs, rfl, S.grid hi, fun g hg => ((S.sep.get hi).2 g hg).elim (fun h => h.elim) id, S.out⟩
theorem tilesN_acr {n : Nat} (h : 1 ≤ n) : tilesN (0 : Int) ((n : Int) - 1) = acr n := by unfold tilesN acr; omega
theorem p_tsz {n i : Nat} (h : i < acr n) : ((min (0 - 0 % 16 + 16 * (i : Int) + 16 - 1) ((n : Int) - 1)) - max (0 - 0 % 16 + 16 * (i : Int)) 0 + 1) = (tsz n i : Nat) := by
  unfold acr at h; unfold tsz; omega

set_option maxHeartbeats 1000000 in
theorem gnew_E (gw gh : Nat) (v : Int) (hw : 1 ≤ gw ∧ gw ≤ 1024) (hh : 1 ≤ gh ∧ gh ≤ 1024) (hv : -2147483648 ≤ v ∧ v ≤ 2147483647) (W : World) :
    Fn Try.prog 30 [.int .i64 gw, .int .i64 gh, .int .i64 v] W (RetGrid (fun p => .tuple #[p, .int .i64 0]) gw gh (fun _ => v) W) := by
  have hwi : within 0 0 0 0 gw gh = 0 := within_fine (by omega) (by omega) (by omega) (by omega)
  have hN : acr gh * acr gw ≤ 64 * 64 := Nat.mul_le_mul (acr_le hh.2) (acr_le hw.2)
  have hac : ((gw : Int) + 16 - 1) / 16 = (acr gw : Nat) := by unfold acr; omega
  have hpw := acr_pos hw.1
  have hph := acr_pos hh.1
  have S := St.start W
  refine Fn_enter Try.func30 rfl Try.results30 Try.ntmps30 (by kernel_rfl) (by kernel_rfl) ?_
  repeat refine cw_seq ?_
  refine cw_region ?_
  iterate 2 refine rw_v (op_pure rfl) ?_
  first | refine rw_end ?_ | (refine rw_nil ?_; show CW _ _ _ _ _ _) | refine rw_nil ?_
  repeat refine cw_seq ?_
  refine cw_region ?_
  refine rw_v (op_pure rfl) ?_
  refine rw_v (op_rng rfl (by omega)) ?_
  refine rw_v (op_pure rfl) ?_
  refine rw_v (op_rng rfl (by omega)) ?_
  refine rw_v (op_build (pl := [(0, 1), (1, 1), (2, 1), (3, 1)]) Try.underlying61 Try.zeroValue61 (fun w => by kernel_rfl) rfl rfl) ?_
  refine rw_newB (op_alloc Try.zeroValue61 rfl) S ?_
  intro b_all w2_ g2_ S
  refine rw_storeSA (i := 0) S rfl (Try.sizeOf61 _) rfl rfl rfl rfl rfl rfl ?_
  intro w3_ S
  first | refine rw_end ?_ | (refine rw_nil ?_; show CW _ _ _ _ _ _) | refine rw_nil ?_
  repeat refine cw_seq ?_
  refine cw_region ?_
  refine rw_v (op_build (pl := [(0, 1), (1, 1), (2, 1), (3, 1)]) Try.underlying61 Try.zeroValue61 (fun w => by kernel_rfl) rfl rfl) ?_
  iterate 2 refine rw_v (op_pure rfl) ?_
  refine rw_call rfl (within_E _ _ _ _ _ _ (by omega) (by omega) w3_) ?_
  rintro _ w4_ ⟨rfl, g4_⟩
  have S := S.gr g4_
  refine rw_v (op_pure rfl) ?_
  first | refine rw_end ?_ | (refine rw_nil ?_; show CW _ _ _ _ _ _) | refine rw_nil ?_
  repeat refine cw_seq ?_
  refine cw_region ?_
  refine rw_v (op_pure rfl) ?_
  refine rw_v (op_b (b := false) rfl (bne_eq_false_iff_eq.2 (by omega))) ?_
  first | refine rw_end ?_ | (refine rw_nil ?_; show CW _ _ _ _ _ _) | refine rw_nil ?_
  repeat refine cw_seq ?_
  refine cw_false (by rw [hwi]; rfl) ?_
  repeat refine cw_seq ?_
  refine cw_skip ?_
  try show CW _ _ _ _ _ _
  repeat refine cw_seq ?_
  refine cw_region ?_
  iterate 3 refine rw_v (op_pure rfl) ?_
  refine rw_v (op_rng rfl (by omega)) ?_
  refine rw_v (op_rng rfl (by omega)) ?_
  refine rw_v (op_div rfl rfl (by omega) (by omega)) ?_
  rw [hac]
  refine rw_v (op_build (pl := [(0, 1), (1, 1), (2, 1), (3, 1)]) Try.underlying108 Try.zeroValue108 (fun w => by kernel_rfl) rfl rfl) ?_
  refine rw_newB (op_box rfl) S ?_
  intro b_gr w6_ g6_ S
  refine rw_v (op_pure rfl) ?_
  first | refine rw_end ?_ | (refine rw_nil ?_; show CW _ _ _ _ _ _) | refine rw_nil ?_
  repeat refine cw_seq ?_
  refine cw_region ?_
  refine rw_r (op_loadAB Try.underlying61 rfl (Try.sizeOf61 _) rfl (S.blk (i := 1) rfl) rfl rfl) ?_
  refine rw_call rfl (pieces_N 0 0 ((gw : Int) - 1) ((gh : Int) - 1) (by omega) w6_) ?_
  rintro _ w7_ ⟨A_ps, c_ps, rfl, hR_ps, hf_ps, g7_⟩
  have S := S.pushRow hR_ps hf_ps g7_
  refine rw_v (op_len Try.underlying123 rfl) ?_
  refine rw_v (op_pure rfl) ?_
  first | refine rw_end ?_ | (refine rw_nil ?_; show CW _ _ _ _ _ _) | refine rw_nil ?_
  repeat refine cw_seq ?_
  refine cw_block ?_
  repeat refine cw_seq ?_
  rw [tilesN_acr hw.1, tilesN_acr hh.1]
  rw [tilesN_acr hw.1, tilesN_acr hh.1] at hR_ps S
  have sa_ps : SomeA A_ps := hR_ps.someA (Nat.mul_pos hph hpw)
  have S := S.sub (.cons_cons _ (.cons_cons _ (.cons _ .slnil)))
  have S := ((S.pushNil 103 1).famNil (fun t => t) 139 (fun t => [.int .i64 (tsz gw (t % acr gw) : Nat), .int .i64 (tsz gh (t / acr gw) : Nat), .iface 148 (.int .i32 v)]))
  refine cw_loop (fun m e w => ∃ (k : Nat) (A : Option Addr) (cp : Nat) (bs : Nat → Nat), k + m = acr gh * acr gw ∧ SL e [(2, .int .i64 v), (10, .pointer (some ⟨b_gr, 0, none⟩)), (35, .slice A_ps (acr gh * acr gw) c_ps), (36, .int .i64 (acr gh * acr gw : Nat)), (37, .int .i64 k)] ∧
    (∀ t u, t < k → u < k → bs t = bs u → t = u) ∧ St No W w [.fam k bs 139 (fun t => [.int .i64 (tsz gw (t % acr gw) : Nat), .int .i64 (tsz gh (t / acr gw) : Nat), .iface 148 (.int .i32 v)]), .row 103 1 A k cp (ptrs k bs),
      .row 61 4 A_ps (acr gh * acr gw) c_ps (piecesC 0 0 ((gw : Int) - 1) ((gh : Int) - 1) (acr gh)), .blk b_gr 108 [.int .i64 gw, .int .i64 gh, .int .i64 (acr gw), .slice A k cp]]) (acr gh * acr gw)
    ⟨0, none, 0, fun t => t, by omega, ⟨rfl, rfl, rfl, rfl, rfl, trivial⟩, fun t u ht => by omega, S⟩ ?_
  rintro m e w ⟨k, A, cp, bs, hk, hsl, hinj, S⟩
  rw [hsl.fold]
  repeat refine cw_seq ?_
  refine cw_region ?_
  refine rw_v (op_pure rfl) ?_
  first | refine rw_end ?_ | (refine rw_nil ?_; show CW _ _ _ _ _ _) | refine rw_nil ?_
  repeat refine cw_seq ?_
  refine cw_cond rfl (fun hc => ?_) (fun hc => ?_)
  · try simp only [decide_eq_true_eq, decide_eq_false_iff_not, beq_iff_eq, bne_iff_ne, beq_eq_false_iff_ne, bne_eq_false_iff_eq, Bool.not_eq_true', Bool.not_eq_false', ne_eq, Decidable.not_not, Int.natCast_inj, Int.ofNat_lt, Int.ofNat_le, gt_iff_lt, ge_iff_le, Int.not_lt, Int.not_le] at hc
    have hkN : k < acr gh * acr gw := by omega
    have hi : k % acr gw < acr gw := Nat.mod_lt _ hpw
    have hj : k / acr gw < acr gh := Nat.div_lt_of_lt_mul (by rw [Nat.mul_comm]; exact hkN)
    have hat := piecesC_at 0 0 ((gw : Int) - 1) ((gh : Int) - 1) (acr gh) (k % acr gw) (k / acr gw) (by rw [tilesN_acr hw.1]; exact hi) hj
    rw [tilesN_acr hw.1, show k / acr gw * acr gw + k % acr gw = k by rw [Nat.mul_comm]; exact Nat.div_add_mod _ _] at hat
    have hat' : ((piecesC 0 0 ((gw : Int) - 1) ((gh : Int) - 1) (acr gh)).drop ((k : Int).toNat * 4)).take 4 = [.int .i64 (max (0 - 0 % 16 + 16 * ((k % acr gw : Nat) : Int)) 0), .int .i64 (max (0 - 0 % 16 + 16 * ((k / acr gw : Nat) : Int)) 0), .int .i64 (min (0 - 0 % 16 + 16 * ((k % acr gw : Nat) : Int) + 16 - 1) ((gw : Int) - 1)), .int .i64 (min (0 - 0 % 16 + 16 * ((k / acr gw : Nat) : Int) + 16 - 1) ((gh : Int) - 1))] := by rw [Int.toNat_natCast]; exact hat
    have hs1 := p_tsz hi
    have hs2 := p_tsz hj
    have hz1 := tsz_pos hi
    have hz2 := tsz_pos hj
    have hle := S.le
    repeat refine cw_seq ?_
    refine cw_skip ?_
    try show CW _ _ _ _ _ _
    repeat refine cw_seq ?_
    refine cw_block ?_
    repeat refine cw_seq ?_
    refine cw_region ?_
    refine rw_v (op_idx Try.underlying123 Try.sizeOf61 rfl rfl sa_ps (by omega) (by omega)) ?_
    refine rw_r (op_ldRA Try.underlying61 rfl (Try.sizeOf61 _) rfl (S.rd (i := 2) rfl) hat' rfl rfl) ?_
    refine rw_newB (op_alloc Try.zeroValue61 rfl) S ?_
    intro b_pc w9_ g9_ S
    refine rw_storeSA (i := 0) S rfl (Try.sizeOf61 _) rfl rfl rfl rfl rfl rfl ?_
    intro w10_ S
    first | refine rw_end ?_ | (refine rw_nil ?_; show CW _ _ _ _ _ _) | refine rw_nil ?_
    repeat refine cw_seq ?_
    refine cw_region ?_
    refine rw_v (op_fieldAddr Try.underlying61 rfl Try.sizeOf2 rfl rfl) ?_
    refine rw_r (op_loadB Try.underlying2 rfl rfl (S.blk (i := 0) rfl) rfl) ?_
    refine rw_v (op_fieldAddr Try.underlying61 rfl Try.sizeOf2 rfl rfl) ?_
    refine rw_r (op_loadB Try.underlying2 rfl rfl (S.blk (i := 0) rfl) rfl) ?_
    refine rw_v (op_rng rfl (by omega)) ?_
    refine rw_v (op_rng rfl (by omega)) ?_
    rw [hs1]
    refine rw_v (op_fieldAddr Try.underlying61 rfl Try.sizeOf2 rfl rfl) ?_
    refine rw_r (op_loadB Try.underlying2 rfl rfl (S.blk (i := 0) rfl) rfl) ?_
    refine rw_v (op_fieldAddr Try.underlying61 rfl Try.sizeOf2 rfl rfl) ?_
    refine rw_r (op_loadB Try.underlying2 rfl rfl (S.blk (i := 0) rfl) rfl) ?_
    refine rw_v (op_rng rfl (by omega)) ?_
    refine rw_v (op_rng rfl (by omega)) ?_
    rw [hs2]
    refine rw_v (op_pure rfl) ?_
    refine rw_call rfl (snew_E (tsz gw (k % acr gw) : Nat) (tsz gh (k / acr gw) : Nat) v (by omega) (by omega) hv w10_) ?_
    rintro _ w11_ ⟨sb, rfl, hsb, hsB, g11_⟩
    have S := S.push g11_ (h := .blk sb 139 _) hsB (fun g h => h ▸ hsb)
    iterate 5 refine rw_v (op_pure rfl) ?_
    first | refine rw_end ?_ | (refine rw_nil ?_; show CW _ _ _ _ _ _) | refine rw_nil ?_
    repeat refine cw_seq ?_
    refine cw_region ?_
    refine rw_v (op_pure rfl) ?_
    refine rw_v (op_b (b := false) rfl (bne_eq_false_iff_eq.2 (by omega))) ?_
    first | refine rw_end ?_ | (refine rw_nil ?_; show CW _ _ _ _ _ _) | refine rw_nil ?_
    repeat refine cw_seq ?_
    refine cw_false rfl ?_
    repeat refine cw_seq ?_
    refine cw_skip ?_
    try show CW _ _ _ _ _ _
    repeat refine cw_seq ?_
    refine cw_region ?_
    iterate 3 refine rw_v (op_pure rfl) ?_
    refine rw_v (op_fieldAddr Try.underlying108 rfl Try.sizeOf106 rfl rfl) ?_
    refine rw_r (op_loadB Try.underlying106 rfl rfl (S.blk (i := 5) rfl) rfl) ?_
    refine rw_v (op_pure rfl) ?_
    refine rw_buildS Try.underlying106 Try.sizeOf103 Try.zeroValue103 rfl rfl rfl rfl rfl rfl S ?_
    intro A_lit w13_ g13_ S sa_lit
    refine rw_appS (i := 4) S rfl (fun h => rfl) Try.underlying106 info_t103 rfl rfl rfl rfl (by simp) (by omega) (S.rd (i := 0) rfl) rfl (by omega) ?_
    intro A_sl14 c_sl14 w14_ S sa_sl
    refine rw_v (op_pure rfl) ?_
    refine rw_v (op_fieldAddr Try.underlying108 rfl Try.sizeOf106 rfl rfl) ?_
    refine rw_storeS (i := 6) S rfl (Try.sizeOf106 _) rfl rfl rfl rfl rfl rfl ?_
    intro w15_ S
    first | refine rw_end ?_ | (refine rw_nil ?_; show CW _ _ _ _ _ _) | refine rw_nil ?_
    repeat refine cw_seq ?_
    refine cw_region ?_
    refine rw_v (op_rng rfl (by omega)) ?_
    refine rw_v (op_pure rfl) ?_
    first | refine rw_end ?_ | (refine rw_nil ?_; show CW _ _ _ _ _ _) | refine rw_nil ?_
    have S := S.sub (.cons _ (.cons_cons _ (.cons _ (.cons_cons _ (.cons_cons _ (.cons_cons _ (.cons_cons _ .slnil)))))))
    have hn := S.famNew
    have S := S.famPush rfl
    rw [ptrs_add] at S
    exact ⟨m - 1, by omega, k + 1, _, _, _, by omega, ⟨rfl, rfl, rfl, rfl, ie (by omega), trivial⟩, addB_inj hinj hn, S⟩
  · try simp only [decide_eq_true_eq, decide_eq_false_iff_not, beq_iff_eq, bne_iff_ne, beq_eq_false_iff_ne, bne_eq_false_iff_eq, Bool.not_eq_true', Bool.not_eq_false', ne_eq, Decidable.not_not, Int.natCast_inj, Int.ofNat_lt, Int.ofNat_le, gt_iff_lt, ge_iff_le, Int.not_lt, Int.not_le] at hc
    repeat refine cw_seq ?_
    refine cw_exit ?_
    repeat first | refine exit_then ?_ | refine exit_inb ?_
    show CW _ _ _ _ _ _
    repeat refine cw_seq ?_
    refine cw_region ?_
    iterate 3 refine rw_v (op_pure rfl) ?_
    first | refine rw_end ?_ | (refine rw_nil ?_; show CW _ _ _ _ _ _) | refine rw_nil ?_
    repeat refine cw_seq ?_
    refine cw_ret ?_
    repeat first | refine ret_then ?_ | refine ret_inb ?_
    obtain rfl : k = acr gh * acr gw := by omega
    have hT := S.blk (i := 3) rfl
    have hR := S.row (i := 1) rfl
    have hF : ∀ t, t < acr gh * acr gw → Blk w (bs t) 139 [.int .i64 (tsz gw (t % acr gw) : Nat), .int .i64 (tsz gh (t / acr gw) : Nat), .iface 148 (.int .i32 v)] := S.ok (i := 0) (h := .fam _ bs _ _) rfl
    have hcm : acr gh * acr gw = acr gw * acr gh := Nat.mul_comm _ _
    have hG : GridAt w b_gr gw gh (fun _ => v) A cp bs (fun _ => none) := ⟨hw, hh, by rw [← hcm]; exact hT, by rw [← hcm]; exact hR, fun t ht => ⟨fun _ _ => hv, v, hF t (by omega), hv, fun _ _ => rfl⟩, fun t u ht hu => hinj t u (by omega) (by omega), fun t u g _ _ h => by cases h⟩
    refine res2 rfl rfl ⟨b_gr, A, cp, bs, fun _ => none, rfl, hG, fun g hg => ?_, S.out⟩
    rcases hg with hg | hg | ⟨t, ht, hg⟩
    · exact ((S.sep.get (i := 3) rfl).2 g hg).elim (fun h => h.elim) id
    · exact ((S.sep.get (i := 1) rfl).2 g hg).elim (fun h => h.elim) id
    · rcases hg with hg | hg
      · exact ((S.sep.get (i := 0) rfl).2 g ⟨t, by omega, hg⟩).elim (fun h => h.elim) id
      · cases hg
end Go.Proofs.Ytiidmiebckkloaa
