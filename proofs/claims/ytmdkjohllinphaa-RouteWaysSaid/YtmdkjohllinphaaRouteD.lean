/- route.Find, Costs, Within: contracts. -/
import Derived.Test.YtmdkjohllinphaaRouteC
namespace Go.Proofs.Ytmdkjohllinphaa
open Go.RowKit
set_option linter.unusedVariables false
set_option linter.unusedSimpArgs false
set_option maxRecDepth 100000

section
variable {W : World} {A : Option Addr} {p gw gh cap : Nat} {cc : Nat → Int} {bs : Nat → Nat} {Rs : Nat → Option Nat}
theorem rCostsNil_E (ax ay : Int) : Fn Try.prog 33 [.pointer none, .agg #[.int .i64 ax, .int .i64 ay]] W (RetG (.tuple #[.slice none 0 0, .int .i64 1]) W) := by
  have S := St.start W
  refine Fn_enter Try.func33 rfl Try.results33 Try.ntmps33 (by kernel_rfl) (by kernel_rfl) ?_
  repeat refine cw_seq ?_
  refine cw_region ?_
  refine rw_newB (op_box rfl) S ?_
  intro b_a w2_ g2_ S
  refine rw_v (op_pure rfl) ?_
  refine rw_v (op_pure rfl) ?_
  first | refine rw_end ?_ | (refine rw_nil ?_; show CW _ _ _ _ _ _) | refine rw_nil ?_
  repeat refine cw_seq ?_
  refine cw_region ?_
  refine rw_v (op_pure rfl) ?_
  refine rw_r (op_loadAB Try.underlying36 rfl (Try.sizeOf36 _) rfl (S.blk (i := 0) rfl) rfl rfl) ?_
  refine rw_buildS Try.underlying41 Try.sizeOf36 Try.zeroValue36 rfl rfl rfl rfl rfl rfl S ?_
  intro A_cs w4_ g4_ S sa_cs
  refine rw_call rfl (rofNil_E (W := w4_) 1) ?_
  rintro _ w5_ ⟨rfl, g5_⟩
  have S := S.gr g5_
  refine rw_v (op_pure rfl) ?_
  refine rw_v (op_pure rfl) ?_
  refine rw_v (op_pure rfl) ?_
  refine rw_v (op_pure rfl) ?_
  refine rw_newB (op_alloc Try.zeroValue120 rfl) S ?_
  intro b_l w7_ g7_ S
  refine rw_storeSA (i := 0) S rfl (Try.sizeOf120 _) rfl rfl rfl rfl rfl rfl ?_
  intro w8_ S
  refine rw_v (op_pure rfl) ?_
  refine rw_v (op_pure rfl) ?_
  first | refine rw_end ?_ | (refine rw_nil ?_; show CW _ _ _ _ _ _) | refine rw_nil ?_
  repeat refine cw_seq ?_
  refine cw_region ?_
  refine rw_v (op_pure rfl) ?_
  refine rw_v (op_b (b := true) rfl (bne_iff_ne.2 (by omega))) ?_
  first | refine rw_end ?_ | (refine rw_nil ?_; show CW _ _ _ _ _ _) | refine rw_nil ?_
  repeat refine cw_seq ?_
  refine cw_true rfl ?_
  repeat refine cw_seq ?_
  refine cw_region ?_
  refine rw_v (op_pure rfl) ?_
  refine rw_v (op_pure rfl) ?_
  refine rw_v (op_pure rfl) ?_
  first | refine rw_end ?_ | (refine rw_nil ?_; show CW _ _ _ _ _ _) | refine rw_nil ?_
  repeat refine cw_seq ?_
  refine cw_ret ?_
  repeat first | refine ret_then ?_ | refine ret_inb ?_
  exact res2 rfl rfl ⟨rfl, S.out⟩
theorem rCostsNo_E (ax ay : Int) (hG : GridAt W p gw gh cc A cap bs Rs) (hno : inG gw gh (ax, ay) = false) : Fn Try.prog 33 [.pointer (some ⟨p, 0, none⟩), .agg #[.int .i64 ax, .int .i64 ay]] W (RetG (.tuple #[.slice none 0 0, .int .i64 4]) W) := by
  have S := St.start W
  refine Fn_enter Try.func33 rfl Try.results33 Try.ntmps33 (by kernel_rfl) (by kernel_rfl) ?_
  repeat refine cw_seq ?_
  refine cw_region ?_
  refine rw_newB (op_box rfl) S ?_
  intro b_a w2_ g2_ S
  refine rw_v (op_pure rfl) ?_
  refine rw_v (op_pure rfl) ?_
  first | refine rw_end ?_ | (refine rw_nil ?_; show CW _ _ _ _ _ _) | refine rw_nil ?_
  repeat refine cw_seq ?_
  refine cw_region ?_
  refine rw_v (op_pure rfl) ?_
  refine rw_r (op_loadAB Try.underlying36 rfl (Try.sizeOf36 _) rfl (S.blk (i := 0) rfl) rfl rfl) ?_
  refine rw_buildS Try.underlying41 Try.sizeOf36 Try.zeroValue36 rfl rfl rfl rfl rfl rfl S ?_
  intro A_cs w4_ g4_ S sa_cs
  refine rw_call rfl (((rof_E (W := w4_) [(ax, ay)] (by simp) (hG.gr S.out) (S.rd (i := 0) rfl)).mono (fun v w' h => h.2 (by simp [hno])))) ?_
  rintro _ w5_ ⟨rfl, g5_⟩
  have S := S.gr g5_
  refine rw_v (op_pure rfl) ?_
  refine rw_v (op_pure rfl) ?_
  refine rw_v (op_pure rfl) ?_
  refine rw_v (op_pure rfl) ?_
  refine rw_newB (op_alloc Try.zeroValue120 rfl) S ?_
  intro b_l w7_ g7_ S
  refine rw_storeSA (i := 0) S rfl (Try.sizeOf120 _) rfl rfl rfl rfl rfl rfl ?_
  intro w8_ S
  refine rw_v (op_pure rfl) ?_
  refine rw_v (op_pure rfl) ?_
  first | refine rw_end ?_ | (refine rw_nil ?_; show CW _ _ _ _ _ _) | refine rw_nil ?_
  repeat refine cw_seq ?_
  refine cw_region ?_
  refine rw_v (op_pure rfl) ?_
  refine rw_v (op_b (b := true) rfl (bne_iff_ne.2 (by omega))) ?_
  first | refine rw_end ?_ | (refine rw_nil ?_; show CW _ _ _ _ _ _) | refine rw_nil ?_
  repeat refine cw_seq ?_
  refine cw_true rfl ?_
  repeat refine cw_seq ?_
  refine cw_region ?_
  refine rw_v (op_pure rfl) ?_
  refine rw_v (op_pure rfl) ?_
  refine rw_v (op_pure rfl) ?_
  first | refine rw_end ?_ | (refine rw_nil ?_; show CW _ _ _ _ _ _) | refine rw_nil ?_
  repeat refine cw_seq ?_
  refine cw_ret ?_
  repeat first | refine ret_then ?_ | refine ret_inb ?_
  exact res2 rfl rfl ⟨rfl, S.out⟩
theorem rCosts_E (a : Nat) (ha : a < gw * gh) (hB : vB (gridL gw gh cc)) (hG : GridAt W p gw gh cc A cap bs Rs) : Fn Try.prog 33 [.pointer (some ⟨p, 0, none⟩), .agg #[.int .i64 (a % gw : Nat), .int .i64 (a / gw : Nat)]] W
    (fun v w' => ∃ d, IsDist gw (gridL gw gh cc) a d ∧ RetNew (fun s => .tuple #[s, .int .i64 0]) 2 1 (gw * gh) (cellsQ (gw * gh) d) W v w') := by
  have hw := hG.sw
  have hh := hG.sh
  have hV := gridL_len gw gh cc
  have hin := cz_in (gh := gh) (show 0 < gw by omega) ha
  have hcost : ∀ (A_v : Option Addr) (c_v a : Nat) (w : World), a < gw * gh → Rd w A_v (ints (gridL gw gh cc)) → Fn Try.prog 68 [.agg #[.int .i64 gw, .slice A_v (gw * gh) c_v], .int .i64 a] w (fun v w' => ∃ d, IsDist gw (gridL gw gh cc) a d ∧ RetNew id 2 1 (gw * gh) (cellsQ (gw * gh) d) w v w') := fun A_v c_v a w ha h => by
    have := rcosts_E (gw := gw) (gh := gh) (c := c_v) (V := gridL gw gh cc) a hw hh hV ha hB h
    rw [hV] at this
    exact this
  have S := St.start W
  refine Fn_enter Try.func33 rfl Try.results33 Try.ntmps33 (by kernel_rfl) (by kernel_rfl) ?_
  repeat refine cw_seq ?_
  refine cw_region ?_
  refine rw_newB (op_box rfl) S ?_
  intro b_a w2_ g2_ S
  refine rw_v (op_pure rfl) ?_
  refine rw_v (op_pure rfl) ?_
  first | refine rw_end ?_ | (refine rw_nil ?_; show CW _ _ _ _ _ _) | refine rw_nil ?_
  repeat refine cw_seq ?_
  refine cw_region ?_
  refine rw_v (op_pure rfl) ?_
  refine rw_r (op_loadAB Try.underlying36 rfl (Try.sizeOf36 _) rfl (S.blk (i := 0) rfl) rfl rfl) ?_
  refine rw_buildS Try.underlying41 Try.sizeOf36 Try.zeroValue36 rfl rfl rfl rfl rfl rfl S ?_
  intro A_cs w4_ g4_ S sa_cs
  refine rw_call rfl (((rof_E (W := w4_) [cz gw a] (by simp) (hG.gr S.out) (S.rd (i := 0) rfl)).mono (fun v w' h => h.1 (by simp [hin])))) ?_
  rintro _ w5_ ⟨A_v, c_v, A_ps, c_ps, rfl, hv, hFv, hps, hFp, hd, g5_⟩
  have S := S.push2 g5_ (h1 := .row 2 1 A_v _ c_v _) (h2 := .row 3 1 A_ps _ c_ps _) hv hps hFv hFp hd
  refine rw_v (op_pure rfl) ?_
  refine rw_v (op_pure rfl) ?_
  refine rw_v (op_pure rfl) ?_
  refine rw_v (op_pure rfl) ?_
  refine rw_newB (op_alloc Try.zeroValue120 rfl) S ?_
  intro b_l w7_ g7_ S
  refine rw_storeSA (i := 0) S rfl (Try.sizeOf120 _) rfl rfl rfl rfl rfl rfl ?_
  intro w8_ S
  refine rw_v (op_pure rfl) ?_
  refine rw_v (op_pure rfl) ?_
  first | refine rw_end ?_ | (refine rw_nil ?_; show CW _ _ _ _ _ _) | refine rw_nil ?_
  repeat refine cw_seq ?_
  refine cw_region ?_
  refine rw_v (op_pure rfl) ?_
  refine rw_v (op_b (b := false) rfl (bne_eq_false_iff_eq.2 (by omega))) ?_
  first | refine rw_end ?_ | (refine rw_nil ?_; show CW _ _ _ _ _ _) | refine rw_nil ?_
  repeat refine cw_seq ?_
  refine cw_false rfl ?_
  repeat refine cw_seq ?_
  refine cw_skip ?_
  try show CW _ _ _ _ _ _
  have hpsv : natsV ([cz gw a].map (idxZ gw)) = [.int .i64 (a : Nat)] := by simp [natsV, idxZ, cz_idx]
  rw [hpsv] at S
  have sa_ps : SomeA A_ps := (S.row (i := 2) rfl).someA (by simp)
  repeat refine cw_seq ?_
  refine cw_draw (C := fun wq => Gr w8_ wq) [0, 1, 2, 3] [4, 5, 6] (by kernel_rfl) (by kernel_rfl) (Gr.drew _) ?_
  simp only [pickL, List.drop_succ_cons, List.drop_zero]
  refine rq_r (fun wq hq => op_loadAB Try.underlying120 rfl (Try.sizeOf120 _) rfl ((S.gr hq).blk (i := 0) rfl) rfl rfl) ?_
  refine rq_v (op_pure rfl) ?_
  refine rq_v (op_idx Try.underlying102 Try.sizeOf3 rfl rfl sa_ps (by omega) (by simp)) ?_
  refine rq_r (fun wq hq => op_ldR Try.underlying3 rfl rfl ((S.gr hq).rd (i := 2) rfl) rfl) ?_
  refine rq_nil ?_
  intro w9_ g9_
  have S := S.gr g9_
  refine rw_call rfl (hcost _ _ a _ ha (S.row (i := 1) rfl).rd) ?_
  rintro _ w4 ⟨d, hdist, A_o, c_o, rfl, hR, hF, g4⟩
  have S := S.pushRow hR hF g4
  refine rw_v (op_pure rfl) ?_
  refine rw_v (op_pure rfl) ?_
  first | refine rw_end ?_ | (refine rw_nil ?_; show CW _ _ _ _ _ _) | refine rw_nil ?_
  repeat refine cw_seq ?_
  refine cw_ret ?_
  repeat first | refine ret_then ?_ | refine ret_inb ?_
  exact res2 rfl rfl ⟨d, hdist, S.retNew (i := 0) (mk := fun s => .tuple #[s, .int .i64 0]) rfl⟩
theorem rFindNil_E (ax ay bx bz : Int) : Fn Try.prog 27 [.pointer none, .agg #[.int .i64 ax, .int .i64 ay], .agg #[.int .i64 bx, .int .i64 bz]] W (RetG (.tuple #[.int .i64 0, .slice none 0 0, .int .i64 1]) W) := by
  have S := St.start W
  refine Fn_enter Try.func27 rfl Try.results27 Try.ntmps27 (by kernel_rfl) (by kernel_rfl) ?_
  repeat refine cw_seq ?_
  refine cw_region ?_
  refine rw_newB (op_box rfl) S ?_
  intro b_a w2_ g2_ S
  refine rw_newB (op_box rfl) S ?_
  intro b_b w4_ g4_ S
  refine rw_v (op_pure rfl) ?_
  refine rw_v (op_pure rfl) ?_
  refine rw_v (op_pure rfl) ?_
  first | refine rw_end ?_ | (refine rw_nil ?_; show CW _ _ _ _ _ _) | refine rw_nil ?_
  repeat refine cw_seq ?_
  refine cw_region ?_
  refine rw_v (op_pure rfl) ?_
  refine rw_r (op_loadAB Try.underlying36 rfl (Try.sizeOf36 _) rfl (S.blk (i := 1) rfl) rfl rfl) ?_
  refine rw_r (op_loadAB Try.underlying36 rfl (Try.sizeOf36 _) rfl (S.blk (i := 0) rfl) rfl rfl) ?_
  refine rw_buildS Try.underlying41 Try.sizeOf36 Try.zeroValue36 rfl rfl rfl rfl rfl rfl S ?_
  intro A_cs w6_ g6_ S sa_cs
  refine rw_call rfl (rofNil_E (W := w6_) 2) ?_
  rintro _ w7_ ⟨rfl, g7_⟩
  have S := S.gr g7_
  refine rw_v (op_pure rfl) ?_
  refine rw_v (op_pure rfl) ?_
  refine rw_v (op_pure rfl) ?_
  refine rw_v (op_pure rfl) ?_
  refine rw_newB (op_alloc Try.zeroValue120 rfl) S ?_
  intro b_l w9_ g9_ S
  refine rw_storeSA (i := 0) S rfl (Try.sizeOf120 _) rfl rfl rfl rfl rfl rfl ?_
  intro w10_ S
  refine rw_v (op_pure rfl) ?_
  refine rw_v (op_pure rfl) ?_
  first | refine rw_end ?_ | (refine rw_nil ?_; show CW _ _ _ _ _ _) | refine rw_nil ?_
  repeat refine cw_seq ?_
  refine cw_region ?_
  refine rw_v (op_pure rfl) ?_
  refine rw_v (op_b (b := true) rfl (bne_iff_ne.2 (by omega))) ?_
  first | refine rw_end ?_ | (refine rw_nil ?_; show CW _ _ _ _ _ _) | refine rw_nil ?_
  repeat refine cw_seq ?_
  refine cw_true rfl ?_
  repeat refine cw_seq ?_
  refine cw_region ?_
  refine rw_v (op_pure rfl) ?_
  refine rw_v (op_pure rfl) ?_
  refine rw_v (op_pure rfl) ?_
  refine rw_v (op_pure rfl) ?_
  first | refine rw_end ?_ | (refine rw_nil ?_; show CW _ _ _ _ _ _) | refine rw_nil ?_
  repeat refine cw_seq ?_
  refine cw_ret ?_
  repeat first | refine ret_then ?_ | refine ret_inb ?_
  exact res3 rfl rfl rfl ⟨rfl, S.out⟩
theorem rFindNo_E (ax ay bx bz : Int) (hG : GridAt W p gw gh cc A cap bs Rs) (hno : inG gw gh (ax, ay) = false ∨ inG gw gh (bx, bz) = false) : Fn Try.prog 27 [.pointer (some ⟨p, 0, none⟩), .agg #[.int .i64 ax, .int .i64 ay], .agg #[.int .i64 bx, .int .i64 bz]] W (RetG (.tuple #[.int .i64 0, .slice none 0 0, .int .i64 4]) W) := by
  have hal : [(ax, ay), (bx, bz)].all (inG gw gh) = false := by rcases hno with h | h <;> simp [h]
  have S := St.start W
  refine Fn_enter Try.func27 rfl Try.results27 Try.ntmps27 (by kernel_rfl) (by kernel_rfl) ?_
  repeat refine cw_seq ?_
  refine cw_region ?_
  refine rw_newB (op_box rfl) S ?_
  intro b_a w2_ g2_ S
  refine rw_newB (op_box rfl) S ?_
  intro b_b w4_ g4_ S
  refine rw_v (op_pure rfl) ?_
  refine rw_v (op_pure rfl) ?_
  refine rw_v (op_pure rfl) ?_
  first | refine rw_end ?_ | (refine rw_nil ?_; show CW _ _ _ _ _ _) | refine rw_nil ?_
  repeat refine cw_seq ?_
  refine cw_region ?_
  refine rw_v (op_pure rfl) ?_
  refine rw_r (op_loadAB Try.underlying36 rfl (Try.sizeOf36 _) rfl (S.blk (i := 1) rfl) rfl rfl) ?_
  refine rw_r (op_loadAB Try.underlying36 rfl (Try.sizeOf36 _) rfl (S.blk (i := 0) rfl) rfl rfl) ?_
  refine rw_buildS Try.underlying41 Try.sizeOf36 Try.zeroValue36 rfl rfl rfl rfl rfl rfl S ?_
  intro A_cs w6_ g6_ S sa_cs
  refine rw_call rfl (((rof_E (W := w6_) [(ax, ay), (bx, bz)] (by simp) (hG.gr S.out) (S.rd (i := 0) rfl)).mono (fun v w' h => h.2 hal))) ?_
  rintro _ w7_ ⟨rfl, g7_⟩
  have S := S.gr g7_
  refine rw_v (op_pure rfl) ?_
  refine rw_v (op_pure rfl) ?_
  refine rw_v (op_pure rfl) ?_
  refine rw_v (op_pure rfl) ?_
  refine rw_newB (op_alloc Try.zeroValue120 rfl) S ?_
  intro b_l w9_ g9_ S
  refine rw_storeSA (i := 0) S rfl (Try.sizeOf120 _) rfl rfl rfl rfl rfl rfl ?_
  intro w10_ S
  refine rw_v (op_pure rfl) ?_
  refine rw_v (op_pure rfl) ?_
  first | refine rw_end ?_ | (refine rw_nil ?_; show CW _ _ _ _ _ _) | refine rw_nil ?_
  repeat refine cw_seq ?_
  refine cw_region ?_
  refine rw_v (op_pure rfl) ?_
  refine rw_v (op_b (b := true) rfl (bne_iff_ne.2 (by omega))) ?_
  first | refine rw_end ?_ | (refine rw_nil ?_; show CW _ _ _ _ _ _) | refine rw_nil ?_
  repeat refine cw_seq ?_
  refine cw_true rfl ?_
  repeat refine cw_seq ?_
  refine cw_region ?_
  refine rw_v (op_pure rfl) ?_
  refine rw_v (op_pure rfl) ?_
  refine rw_v (op_pure rfl) ?_
  refine rw_v (op_pure rfl) ?_
  first | refine rw_end ?_ | (refine rw_nil ?_; show CW _ _ _ _ _ _) | refine rw_nil ?_
  repeat refine cw_seq ?_
  refine cw_ret ?_
  repeat first | refine ret_then ?_ | refine ret_inb ?_
  exact res3 rfl rfl rfl ⟨rfl, S.out⟩
set_option maxHeartbeats 4000000 in
theorem rFind_E (a b : Nat) (ha : a < gw * gh) (hb : b < gw * gh) (hB : vB (gridL gw gh cc)) (hG : GridAt W p gw gh cc A cap bs Rs) :
    Fn Try.prog 27 [.pointer (some ⟨p, 0, none⟩), .agg #[.int .i64 (a % gw : Nat), .int .i64 (a / gw : Nat)], .agg #[.int .i64 (b % gw : Nat), .int .i64 (b / gw : Nat)]] W
    (fun v w' => ∃ d, IsDist gw (gridL gw gh cc) b d ∧ RetNew (fun s => .tuple #[.int .i64 (d a), s, .int .i64 0]) 36 2 (routeL gw (gridL gw gh cc) d b a).length (cellsZ ((routeL gw (gridL gw gh cc) d b a).map (cz gw))) W v w') := by
  have hw := hG.sw
  have hh := hG.sh
  have hn : gw * gh ≤ 1024 * 1024 := Nat.mul_le_mul hw.2 hh.2
  have hV := gridL_len gw gh cc
  have hina := cz_in (gh := gh) (show 0 < gw by omega) ha
  have hinb := cz_in (gh := gh) (show 0 < gw by omega) hb
  have hal : [cz gw a, cz gw b].all (inG gw gh) = true := by simp [hina, hinb]
  have hcost : ∀ (A_v : Option Addr) (c_v a : Nat) (w : World), a < gw * gh → Rd w A_v (ints (gridL gw gh cc)) → Fn Try.prog 68 [.agg #[.int .i64 gw, .slice A_v (gw * gh) c_v], .int .i64 a] w (fun v w' => ∃ d, IsDist gw (gridL gw gh cc) a d ∧ RetNew id 2 1 (gw * gh) (cellsQ (gw * gh) d) w v w') := fun A_v c_v a w ha h => by
    have := rcosts_E (gw := gw) (gh := gh) (c := c_v) (V := gridL gw gh cc) a hw hh hV ha hB h
    rw [hV] at this
    exact this
  have hstep : ∀ (A_v : Option Addr) (c_v x y : Nat) (w : World), x < gw * gh → y < gw * gh → Rd w A_v (ints (gridL gw gh cc)) → Fn Try.prog 70 [.agg #[.int .i64 gw, .slice A_v (gw * gh) c_v], .int .i64 x, .int .i64 y] w (RetG (.int .i64 (st (gridL gw gh cc) x y)) w) := fun A_v c_v x y w hx hy h => by
    have := rstep_E (gw := gw) (c := c_v) (V := gridL gw gh cc) x y (by omega) (by omega) hB h
    rw [hV] at this
    exact this
  have S := St.start W
  refine Fn_enter Try.func27 rfl Try.results27 Try.ntmps27 (by kernel_rfl) (by kernel_rfl) ?_
  repeat refine cw_seq ?_
  refine cw_region ?_
  refine rw_newB (op_box rfl) S ?_
  intro b_a w2_ g2_ S
  refine rw_newB (op_box rfl) S ?_
  intro b_b w4_ g4_ S
  refine rw_v (op_pure rfl) ?_
  refine rw_v (op_pure rfl) ?_
  refine rw_v (op_pure rfl) ?_
  first | refine rw_end ?_ | (refine rw_nil ?_; show CW _ _ _ _ _ _) | refine rw_nil ?_
  repeat refine cw_seq ?_
  refine cw_region ?_
  refine rw_v (op_pure rfl) ?_
  refine rw_r (op_loadAB Try.underlying36 rfl (Try.sizeOf36 _) rfl (S.blk (i := 1) rfl) rfl rfl) ?_
  refine rw_r (op_loadAB Try.underlying36 rfl (Try.sizeOf36 _) rfl (S.blk (i := 0) rfl) rfl rfl) ?_
  refine rw_buildS Try.underlying41 Try.sizeOf36 Try.zeroValue36 rfl rfl rfl rfl rfl rfl S ?_
  intro A_cs w6_ g6_ S sa_cs
  refine rw_call rfl (((rof_E (W := w6_) [cz gw a, cz gw b] (by simp) (hG.gr S.out) (S.rd (i := 0) rfl)).mono (fun v w' h => h.1 hal))) ?_
  rintro _ w7_ ⟨A_v, c_v, A_ps, c_ps, rfl, hv, hFv, hps, hFp, hd, g7_⟩
  have S := S.push2 g7_ (h1 := .row 2 1 A_v _ c_v _) (h2 := .row 3 1 A_ps _ c_ps _) hv hps hFv hFp hd
  refine rw_v (op_pure rfl) ?_
  refine rw_v (op_pure rfl) ?_
  refine rw_v (op_pure rfl) ?_
  refine rw_v (op_pure rfl) ?_
  refine rw_newB (op_alloc Try.zeroValue120 rfl) S ?_
  intro b_l w9_ g9_ S
  refine rw_storeSA (i := 0) S rfl (Try.sizeOf120 _) rfl rfl rfl rfl rfl rfl ?_
  intro w10_ S
  refine rw_v (op_pure rfl) ?_
  refine rw_v (op_pure rfl) ?_
  first | refine rw_end ?_ | (refine rw_nil ?_; show CW _ _ _ _ _ _) | refine rw_nil ?_
  repeat refine cw_seq ?_
  refine cw_region ?_
  refine rw_v (op_pure rfl) ?_
  refine rw_v (op_b (b := false) rfl (bne_eq_false_iff_eq.2 (by omega))) ?_
  first | refine rw_end ?_ | (refine rw_nil ?_; show CW _ _ _ _ _ _) | refine rw_nil ?_
  repeat refine cw_seq ?_
  refine cw_false rfl ?_
  repeat refine cw_seq ?_
  refine cw_skip ?_
  try show CW _ _ _ _ _ _
  have hpsv : natsV ([cz gw a, cz gw b].map (idxZ gw)) = [.int .i64 (a : Nat), .int .i64 (b : Nat)] := by simp [natsV, idxZ, cz_idx]
  rw [hpsv] at S
  have sa_ps : SomeA A_ps := (S.row (i := 2) rfl).someA (by simp)
  repeat refine cw_seq ?_
  refine cw_draw (C := fun wq => Gr w10_ wq) [0, 1, 2, 3] [4, 5] (by kernel_rfl) (by kernel_rfl) (Gr.drew _) ?_
  simp only [pickL, List.drop_succ_cons, List.drop_zero]
  refine rq_r (fun wq hq => op_loadAB Try.underlying120 rfl (Try.sizeOf120 _) rfl ((S.gr hq).blk (i := 0) rfl) rfl rfl) ?_
  refine rq_v (op_pure rfl) ?_
  refine rq_v (op_idx Try.underlying102 Try.sizeOf3 rfl rfl sa_ps (by omega) (by simp)) ?_
  refine rq_r (fun wq hq => op_ldR Try.underlying3 rfl rfl ((S.gr hq).rd (i := 2) rfl) rfl) ?_
  refine rq_nil ?_
  intro w11_ g11_
  have S := S.gr g11_
  refine rw_call rfl (hcost _ _ b _ hb (S.row (i := 1) rfl).rd) ?_
  rintro _ w4 ⟨d, hdist, A_left, c_left, rfl, hR, hF, g4⟩
  have S := S.pushRow hR hF g4
  refine rw_v (op_pure rfl) ?_
  first | refine rw_end ?_ | (refine rw_nil ?_; show CW _ _ _ _ _ _) | refine rw_nil ?_
  repeat refine cw_seq ?_
  refine cw_region ?_
  refine rw_r (op_loadAB Try.underlying36 rfl (Try.sizeOf36 _) rfl (S.blk (i := 6) rfl) rfl rfl) ?_
  refine rw_buildS Try.underlying41 Try.sizeOf36 Try.zeroValue36 rfl rfl rfl rfl rfl rfl S ?_
  intro A_out w13_ g13_ S sa_out
  refine rw_v (op_pure rfl) ?_
  first | refine rw_end ?_ | (refine rw_nil ?_; show CW _ _ _ _ _ _) | refine rw_nil ?_
  repeat refine cw_seq ?_
  refine cw_region ?_
  refine rw_v (op_pure rfl) ?_
  refine rw_v (op_idx Try.underlying102 Try.sizeOf3 rfl rfl sa_ps (by omega) (by simp)) ?_
  refine rw_r (op_ldR Try.underlying3 rfl rfl (S.rd (i := 4) rfl) rfl) ?_
  refine rw_v (op_pure rfl) ?_
  first | refine rw_end ?_ | (refine rw_nil ?_; show CW _ _ _ _ _ _) | refine rw_nil ?_
  repeat refine cw_seq ?_
  refine cw_block ?_
  repeat refine cw_seq ?_
  have hroute0 : [] ++ routeL gw (gridL gw gh cc) d b a = routeL gw (gridL gw gh cc) d b a := rfl
  have hrank0 := rank_top (d := d) ha
  generalize gridL gw gh cc = V at *
  have S := S.sub (L' := [.row 36 2 A_out 1 1 (cellsZ ((([] : List Nat) ++ [a]).map (cz gw))), .row 2 1 A_left (gw * gh) c_left (cellsQ (gw * gh) d), .blk b_l 120 [.int .i64 gw, .slice A_v (gw * gh) c_v], .row 2 1 A_v (gw * gh) c_v (ints V), .row 3 1 A_ps 2 c_ps [.int .i64 (a : Nat), .int .i64 (b : Nat)]]) (.cons_cons _ (.cons_cons _ (.cons_cons _ (.cons_cons _ (.cons_cons _ (.cons _ (.cons _ (.cons _ .slnil))))))))
  refine cw_loop (fun m e w => ∃ (pre : List Nat) (i : Nat) (A_out : Option Addr) (c_out : Nat), (d i).toNat = m ∧ i < gw * gh ∧ pre ++ routeL gw V d b i = routeL gw V d b a ∧ rank (gw * gh) d i + pre.length + 1 ≤ gw * gh ∧
    SL e [(9, .pointer (some ⟨b_l, 0, none⟩)), (10, .slice A_ps 2 c_ps), (12, .slice A_left (gw * gh) c_left), (13, .slice A_out (pre.length + 1) c_out), (14, .int .i64 i)] ∧
    St No W w [.row 36 2 A_out (pre.length + 1) c_out (cellsZ ((pre ++ [i]).map (cz gw))), .row 2 1 A_left (gw * gh) c_left (cellsQ (gw * gh) d), .blk b_l 120 [.int .i64 gw, .slice A_v (gw * gh) c_v], .row 2 1 A_v (gw * gh) c_v (ints V), .row 3 1 A_ps 2 c_ps [.int .i64 (a : Nat), .int .i64 (b : Nat)]]) (d a).toNat
    ⟨[], a, A_out, 1, rfl, ha, hroute0, hrank0, ⟨rfl, rfl, rfl, rfl, rfl, trivial⟩, S⟩ ?_
  clear S hroute0 hrank0
  rintro m e w ⟨pre, i, A_out, c_out, rfl, hi, hroute, hrank, hsl, S⟩
  rw [hsl.fold]
  have sa_left : SomeA A_left := (S.row (i := 1) rfl).someA (by omega)
  repeat refine cw_seq ?_
  refine cw_region ?_
  refine rw_v (op_pure rfl) ?_
  refine rw_v (op_pure rfl) ?_
  refine rw_v (op_idx Try.underlying102 Try.sizeOf3 rfl rfl sa_ps (by omega) (by omega)) ?_
  refine rw_r (op_ldR Try.underlying3 rfl rfl (S.rd (i := 4) rfl) rfl) ?_
  refine rw_v (op_pure rfl) ?_
  first | refine rw_end ?_ | (refine rw_nil ?_; show CW _ _ _ _ _ _) | refine rw_nil ?_
  repeat refine cw_seq ?_
  refine cw_cond rfl (fun hib => ?_) (fun hib => ?_)
  · try simp only [decide_eq_true_eq, decide_eq_false_iff_not, beq_iff_eq, bne_iff_ne, beq_eq_false_iff_ne, bne_eq_false_iff_eq, Bool.not_eq_true', Bool.not_eq_false', ne_eq, Decidable.not_not, Int.natCast_inj, Int.ofNat_lt, Int.ofNat_le, gt_iff_lt, ge_iff_le, Int.not_lt, Int.not_le] at hib
    obtain ⟨p1, post, hL, hp1, hnx, hnlt, hside⟩ := nextN_ok (show 0 < gw by omega) hV hdist hi hib
    have hnl := nearN_len gw V.length i
    rw [routeL_step (show 0 < gw by omega) hV hdist hi hib] at hroute
    have hst0 := st_pos V i (nextN gw V d i)
    have hnn := hdist.nn (nextN gw V d i) (by omega)
    have hrk := rank_lt (n := gw * gh) (d := d) (i := nextN gw V d i) (j := i) hnlt (by omega)
    generalize nextN gw V d i = nx at *
    repeat refine cw_seq ?_
    refine cw_skip ?_
    try show CW _ _ _ _ _ _
    repeat refine cw_seq ?_
    refine cw_block ?_
    repeat refine cw_seq ?_
    refine cw_region ?_
    refine rw_r (op_loadAB Try.underlying120 rfl (Try.sizeOf120 _) rfl (S.blk (i := 2) rfl) rfl rfl) ?_
    refine rw_v (op_pure rfl) ?_
    refine rw_call rfl (rnear32_E (W := w) (A := A_v) (c := c_v) i (gw * gh) ⟨hw.1, by omega⟩ hi (by omega)) ?_
    rintro _ w14_ ⟨A_near, c_near, rfl, hR_near, hf_near, g14_⟩
    have S := S.pushRow hR_near hf_near g14_
    refine rw_v (op_len Try.underlying102 rfl) ?_
    refine rw_v (op_pure rfl) ?_
    first | refine rw_end ?_ | (refine rw_nil ?_; show CW _ _ _ _ _ _) | refine rw_nil ?_
    repeat refine cw_seq ?_
    refine cw_block ?_
    repeat refine cw_seq ?_
    rw [hV] at hL hnl
    rw [hL] at S hnl ⊢
    have sa_near : SomeA A_near := (S.row (i := 0) rfl).someA (by show 0 < (p1 ++ nx :: post).length; rw [List.length_append, List.length_cons]; omega)
    refine cw_loop (fun m2 e w => ∃ k : Nat, k + m2 = p1.length ∧ SL e [(9, .pointer (some ⟨b_l, 0, none⟩)), (10, .slice A_ps 2 c_ps), (12, .slice A_left (gw * gh) c_left), (13, .slice A_out (pre.length + 1) c_out), (14, .int .i64 i), (46, .slice A_near (p1 ++ nx :: post).length c_near), (47, .int .i64 (p1 ++ nx :: post).length), (48, .int .i64 k)] ∧
      St No W w [.row 3 1 A_near (p1 ++ nx :: post).length c_near (natsV (p1 ++ nx :: post)), .row 36 2 A_out (pre.length + 1) c_out (cellsZ ((pre ++ [i]).map (cz gw))), .row 2 1 A_left (gw * gh) c_left (cellsQ (gw * gh) d), .blk b_l 120 [.int .i64 gw, .slice A_v (gw * gh) c_v], .row 2 1 A_v (gw * gh) c_v (ints V), .row 3 1 A_ps 2 c_ps [.int .i64 (a : Nat), .int .i64 (b : Nat)]]) p1.length
      ⟨0, by omega, ⟨rfl, rfl, rfl, rfl, rfl, rfl, rfl, rfl, trivial⟩, S⟩ ?_
    clear S
    rintro m2 e w ⟨k, hk, hsl, S⟩
    rw [hsl.fold]
    have hlen : (p1 ++ nx :: post).length = p1.length + 1 + post.length := by simp; omega
    have hmemN : ∀ y, y ∈ p1 ++ nx :: post → y < gw * gh := fun y hy => by rw [← hL] at hy; exact ((nearN_mem (by omega) hi).1 hy).1
    by_cases hkp : k < p1.length
    · obtain ⟨y, hy⟩ : ∃ y, p1[k]? = some y := ⟨_, List.getElem?_eq_getElem hkp⟩
      have hy2 : (p1 ++ nx :: post)[k]? = some y := by rw [List.getElem?_append_left hkp]; exact hy
      have hylt := hmemN y (List.mem_of_getElem? hy2)
      have hne := hp1 y (List.mem_of_getElem? hy)
      have hys := st_far hB i y
      have hys0 := st_pos V i y
      have hdy := hdist.nn y (by omega)
      have hdb := hdist.bound hB y (by omega)
      have hdr := rank_top (d := d) hylt
      rw [hV] at hdb
      repeat refine cw_seq ?_
      refine cw_region ?_
      refine rw_v (op_b (b := true) rfl (decide_eq_true (by omega))) ?_
      first | refine rw_end ?_ | (refine rw_nil ?_; show CW _ _ _ _ _ _) | refine rw_nil ?_
      repeat refine cw_seq ?_
      refine cw_true rfl ?_
      repeat refine cw_seq ?_
      refine cw_skip ?_
      try show CW _ _ _ _ _ _
      repeat refine cw_seq ?_
      refine cw_block ?_
      repeat refine cw_seq ?_
      refine cw_region ?_
      refine rw_v (op_idx Try.underlying102 Try.sizeOf3 rfl rfl sa_near (by omega) (by omega)) ?_
      refine rw_r (op_ldR Try.underlying3 rfl rfl (S.rd (i := 0) rfl) (natsV_get hy2)) ?_
      refine rw_v (op_pure rfl) ?_
      first | refine rw_end ?_ | (refine rw_nil ?_; show CW _ _ _ _ _ _) | refine rw_nil ?_
      repeat refine cw_seq ?_
      refine cw_draw (C := fun wq => Gr w wq) [0, 1, 2, 3, 4, 5, 6, 7, 8, 9, 10, 11, 12, 13] [] (by kernel_rfl) (by kernel_rfl) (Gr.drew _) ?_
      simp only [pickL, List.drop_succ_cons, List.drop_zero]
      refine rq_v (op_pure rfl) ?_
      refine rq_v (op_pure rfl) ?_
      refine rq_v (op_idx Try.underlying22 Try.sizeOf2 rfl rfl sa_left (by omega) (by omega)) ?_
      refine rq_r (fun wq hq => op_ldR Try.underlying2 rfl rfl ((S.gr hq).rd (i := 2) rfl) (cellsQ_get (by omega))) ?_
      refine rq_r (fun wq hq => op_loadAB Try.underlying120 rfl (Try.sizeOf120 _) rfl ((S.gr hq).blk (i := 3) rfl) rfl rfl) ?_
      refine rq_v (op_pure rfl) ?_
      refine rq_v (op_pure rfl) ?_
      refine rq_call rfl (fun wq hq => (hstep A_v c_v i y wq (by omega) hylt ((S.gr hq).rd (i := 4) rfl)).mono (fun _ _ ⟨hv, hg⟩ => ⟨hv, hq.trans hg⟩)) ?_
      refine rq_v (op_rng rfl (by unfold far at *; omega)) ?_
      refine rq_v (op_pure rfl) ?_
      refine rq_v (op_pure rfl) ?_
      refine rq_v (op_idx Try.underlying22 Try.sizeOf2 rfl rfl sa_left (by omega) (by omega)) ?_
      refine rq_r (fun wq hq => op_ldR Try.underlying2 rfl rfl ((S.gr hq).rd (i := 2) rfl) (cellsQ_get (by omega))) ?_
      first | refine rq_v (op_b (b := true) rfl (beq_iff_eq.2 (by omega))) ?_ | refine rq_v (op_b (b := false) rfl (beq_eq_false_iff_ne.2 (by omega))) ?_ | refine rq_v (op_pure rfl) ?_
      refine rq_nil ?_
      intro w15_ g15_
      have S := S.gr g15_
      first | refine rw_end ?_ | (refine rw_nil ?_; show CW _ _ _ _ _ _) | refine rw_nil ?_
      repeat refine cw_seq ?_
      refine cw_false rfl ?_
      repeat refine cw_seq ?_
      refine cw_skip ?_
      try show CW _ _ _ _ _ _
      repeat refine cw_seq ?_
      refine cw_region ?_
      refine rw_v (op_rng rfl (by omega)) ?_
      refine rw_v (op_pure rfl) ?_
      first | refine rw_end ?_ | (refine rw_nil ?_; show CW _ _ _ _ _ _) | refine rw_nil ?_
      exact ⟨m2 - 1, by omega, k + 1, by omega, ⟨rfl, rfl, rfl, rfl, rfl, rfl, rfl, ie (by omega), trivial⟩, S⟩
    · obtain rfl : k = p1.length := by omega
      have hy2 : (p1 ++ nx :: post)[p1.length]? = some nx := by rw [List.getElem?_append_right (Nat.le_refl _)]; simp
      have hdb := hdist.bound hB nx (by omega)
      have hdr := rank_top (d := d) hnlt
      have hys := st_far hB i nx
      rw [hV] at hdb
      repeat refine cw_seq ?_
      refine cw_region ?_
      refine rw_v (op_b (b := true) rfl (decide_eq_true (by omega))) ?_
      first | refine rw_end ?_ | (refine rw_nil ?_; show CW _ _ _ _ _ _) | refine rw_nil ?_
      repeat refine cw_seq ?_
      refine cw_true rfl ?_
      repeat refine cw_seq ?_
      refine cw_skip ?_
      try show CW _ _ _ _ _ _
      repeat refine cw_seq ?_
      refine cw_block ?_
      repeat refine cw_seq ?_
      refine cw_region ?_
      refine rw_v (op_idx Try.underlying102 Try.sizeOf3 rfl rfl sa_near (by omega) (by omega)) ?_
      refine rw_r (op_ldR Try.underlying3 rfl rfl (S.rd (i := 0) rfl) (natsV_get hy2)) ?_
      refine rw_v (op_pure rfl) ?_
      first | refine rw_end ?_ | (refine rw_nil ?_; show CW _ _ _ _ _ _) | refine rw_nil ?_
      repeat refine cw_seq ?_
      refine cw_draw (C := fun wq => Gr w wq) [0, 1, 2, 3, 4, 5, 6, 7, 8, 9, 10, 11, 12, 13] [] (by kernel_rfl) (by kernel_rfl) (Gr.drew _) ?_
      simp only [pickL, List.drop_succ_cons, List.drop_zero]
      refine rq_v (op_pure rfl) ?_
      refine rq_v (op_pure rfl) ?_
      refine rq_v (op_idx Try.underlying22 Try.sizeOf2 rfl rfl sa_left (by omega) (by omega)) ?_
      refine rq_r (fun wq hq => op_ldR Try.underlying2 rfl rfl ((S.gr hq).rd (i := 2) rfl) (cellsQ_get (by omega))) ?_
      refine rq_r (fun wq hq => op_loadAB Try.underlying120 rfl (Try.sizeOf120 _) rfl ((S.gr hq).blk (i := 3) rfl) rfl rfl) ?_
      refine rq_v (op_pure rfl) ?_
      refine rq_v (op_pure rfl) ?_
      refine rq_call rfl (fun wq hq => (hstep A_v c_v i nx wq (by omega) hnlt ((S.gr hq).rd (i := 4) rfl)).mono (fun _ _ ⟨hv, hg⟩ => ⟨hv, hq.trans hg⟩)) ?_
      refine rq_v (op_rng rfl (by unfold far at *; omega)) ?_
      refine rq_v (op_pure rfl) ?_
      refine rq_v (op_pure rfl) ?_
      refine rq_v (op_idx Try.underlying22 Try.sizeOf2 rfl rfl sa_left (by omega) (by omega)) ?_
      refine rq_r (fun wq hq => op_ldR Try.underlying2 rfl rfl ((S.gr hq).rd (i := 2) rfl) (cellsQ_get (by omega))) ?_
      first | refine rq_v (op_b (b := true) rfl (beq_iff_eq.2 (by omega))) ?_ | refine rq_v (op_b (b := false) rfl (beq_eq_false_iff_ne.2 (by omega))) ?_ | refine rq_v (op_pure rfl) ?_
      refine rq_nil ?_
      intro w16_ g16_
      have S := S.gr g16_
      first | refine rw_end ?_ | (refine rw_nil ?_; show CW _ _ _ _ _ _) | refine rw_nil ?_
      repeat refine cw_seq ?_
      refine cw_true rfl ?_
      repeat refine cw_seq ?_
      refine cw_region ?_
      refine rw_v (op_pure rfl) ?_
      refine rw_v (op_pure rfl) ?_
      first | refine rw_end ?_ | (refine rw_nil ?_; show CW _ _ _ _ _ _) | refine rw_nil ?_
      repeat refine cw_seq ?_
      refine cw_exit ?_
      repeat first | refine exit_then ?_ | refine exit_inb ?_
      show CW _ _ _ _ _ _
      repeat refine cw_seq ?_
      refine cw_region ?_
      refine rw_v (op_pure rfl) ?_
      refine rw_r (op_loadAB Try.underlying120 rfl (Try.sizeOf120 _) rfl (S.blk (i := 3) rfl) rfl rfl) ?_
      refine rw_v (op_pure rfl) ?_
      refine rw_call rfl (rat_E (W := w16_) (A := A_v) (c := c_v) nx (gw * gh) hw.1 (by omega)) ?_
      rintro _ w17_ ⟨rfl, g17_⟩
      have S := S.gr g17_
      refine rw_buildS Try.underlying41 Try.sizeOf36 Try.zeroValue36 rfl rfl rfl rfl rfl rfl S ?_
      intro A_lit w19_ g19_ S sa_lit
      refine rw_appS (i := 2) S rfl (fun h => rfl) Try.underlying41 info_t36 rfl rfl rfl rfl (by simp) (by omega) (S.rd (i := 0) rfl) rfl (by omega) ?_
      intro A_out20 c_out20 w20_ S sa_out
      refine rw_v (op_pure rfl) ?_
      first | refine rw_end ?_ | (refine rw_nil ?_; show CW _ _ _ _ _ _) | refine rw_nil ?_
      have e1 : cellsZ ((pre ++ [i]).map (cz gw)) ++ [.int .i64 (nx % gw : Nat), .int .i64 (nx / gw : Nat)] = cellsZ ((pre ++ [i] ++ [nx]).map (cz gw)) := by simp [cellsZ, cz]
      have S := S.sub (.cons _ (.cons _ (.cons_cons _ (.cons_cons _ (.cons_cons _ (.cons_cons _ (.cons_cons _ .slnil)))))))
      rw [e1] at S
      refine ⟨_, by omega, pre ++ [i], nx, _, _, rfl, hnlt, by rw [List.append_assoc]; exact hroute, by rw [List.length_append, List.length_singleton]; omega, ⟨rfl, rfl, rfl, se (by simp) rfl, rfl, trivial⟩, ?_⟩
      rw [List.length_append, List.length_singleton]
      exact S
  · try simp only [decide_eq_true_eq, decide_eq_false_iff_not, beq_iff_eq, bne_iff_ne, beq_eq_false_iff_ne, bne_eq_false_iff_eq, Bool.not_eq_true', Bool.not_eq_false', ne_eq, Decidable.not_not, Int.natCast_inj, Int.ofNat_lt, Int.ofNat_le, gt_iff_lt, ge_iff_le, Int.not_lt, Int.not_le] at hib
    obtain rfl : i = b := by omega
    rw [routeL_here hdist] at hroute
    have hl : (routeL gw V d i a).length = pre.length + 1 := by rw [← hroute]; simp
    repeat refine cw_seq ?_
    refine cw_exit ?_
    repeat first | refine exit_then ?_ | refine exit_inb ?_
    show CW _ _ _ _ _ _
    repeat refine cw_seq ?_
    refine cw_region ?_
    refine rw_v (op_pure rfl) ?_
    refine rw_v (op_pure rfl) ?_
    refine rw_v (op_idx Try.underlying102 Try.sizeOf3 rfl rfl sa_ps (by omega) (by omega)) ?_
    refine rw_r (op_ldR Try.underlying3 rfl rfl (S.rd (i := 4) rfl) rfl) ?_
    refine rw_v (op_idx Try.underlying22 Try.sizeOf2 rfl rfl sa_left (by omega) (by omega)) ?_
    refine rw_r (op_ldR Try.underlying2 rfl rfl (S.rd (i := 1) rfl) (cellsQ_get (by omega))) ?_
    refine rw_v (op_pure rfl) ?_
    refine rw_v (op_pure rfl) ?_
    refine rw_v (op_pure rfl) ?_
    refine rw_v (op_pure rfl) ?_
    first | refine rw_end ?_ | (refine rw_nil ?_; show CW _ _ _ _ _ _) | refine rw_nil ?_
    repeat refine cw_seq ?_
    refine cw_ret ?_
    repeat first | refine ret_then ?_ | refine ret_inb ?_
    rw [hroute] at S
    refine res3 rfl rfl rfl ⟨d, hdist, ?_⟩
    rw [hl]
    exact S.retNew (i := 0) (mk := fun s => .tuple #[.int .i64 (d a), s, .int .i64 0]) rfl
theorem rWithinNil_E (ax ay most : Int) : Fn Try.prog 34 [.pointer none, .agg #[.int .i64 ax, .int .i64 ay], .int .i64 most] W (RetG (.tuple #[.slice none 0 0, .int .i64 1]) W) := by
  have S := St.start W
  refine Fn_enter Try.func34 rfl Try.results34 Try.ntmps34 (by kernel_rfl) (by kernel_rfl) ?_
  repeat refine cw_seq ?_
  refine cw_region ?_
  refine rw_newB (op_box rfl) S ?_
  intro b_a w2_ g2_ S
  refine rw_v (op_pure rfl) ?_
  refine rw_v (op_pure rfl) ?_
  first | refine rw_end ?_ | (refine rw_nil ?_; show CW _ _ _ _ _ _) | refine rw_nil ?_
  repeat refine cw_seq ?_
  refine cw_region ?_
  refine rw_v (op_pure rfl) ?_
  refine rw_r (op_loadAB Try.underlying36 rfl (Try.sizeOf36 _) rfl (S.blk (i := 0) rfl) rfl rfl) ?_
  refine rw_buildS Try.underlying41 Try.sizeOf36 Try.zeroValue36 rfl rfl rfl rfl rfl rfl S ?_
  intro A_cs w4_ g4_ S sa_cs
  refine rw_call rfl (rofNil_E (W := w4_) 1) ?_
  rintro _ w5_ ⟨rfl, g5_⟩
  have S := S.gr g5_
  refine rw_v (op_pure rfl) ?_
  refine rw_v (op_pure rfl) ?_
  refine rw_v (op_pure rfl) ?_
  refine rw_v (op_pure rfl) ?_
  refine rw_newB (op_alloc Try.zeroValue120 rfl) S ?_
  intro b_l w7_ g7_ S
  refine rw_storeSA (i := 0) S rfl (Try.sizeOf120 _) rfl rfl rfl rfl rfl rfl ?_
  intro w8_ S
  refine rw_v (op_pure rfl) ?_
  refine rw_v (op_pure rfl) ?_
  first | refine rw_end ?_ | (refine rw_nil ?_; show CW _ _ _ _ _ _) | refine rw_nil ?_
  repeat refine cw_seq ?_
  refine cw_region ?_
  refine rw_v (op_pure rfl) ?_
  refine rw_v (op_b (b := true) rfl (bne_iff_ne.2 (by omega))) ?_
  first | refine rw_end ?_ | (refine rw_nil ?_; show CW _ _ _ _ _ _) | refine rw_nil ?_
  repeat refine cw_seq ?_
  refine cw_true rfl ?_
  repeat refine cw_seq ?_
  refine cw_region ?_
  refine rw_v (op_pure rfl) ?_
  refine rw_v (op_pure rfl) ?_
  refine rw_v (op_pure rfl) ?_
  first | refine rw_end ?_ | (refine rw_nil ?_; show CW _ _ _ _ _ _) | refine rw_nil ?_
  repeat refine cw_seq ?_
  refine cw_ret ?_
  repeat first | refine ret_then ?_ | refine ret_inb ?_
  exact res2 rfl rfl ⟨rfl, S.out⟩
theorem rWithinNo_E (ax ay most : Int) (hG : GridAt W p gw gh cc A cap bs Rs) (hno : inG gw gh (ax, ay) = false) : Fn Try.prog 34 [.pointer (some ⟨p, 0, none⟩), .agg #[.int .i64 ax, .int .i64 ay], .int .i64 most] W (RetG (.tuple #[.slice none 0 0, .int .i64 4]) W) := by
  have S := St.start W
  refine Fn_enter Try.func34 rfl Try.results34 Try.ntmps34 (by kernel_rfl) (by kernel_rfl) ?_
  repeat refine cw_seq ?_
  refine cw_region ?_
  refine rw_newB (op_box rfl) S ?_
  intro b_a w2_ g2_ S
  refine rw_v (op_pure rfl) ?_
  refine rw_v (op_pure rfl) ?_
  first | refine rw_end ?_ | (refine rw_nil ?_; show CW _ _ _ _ _ _) | refine rw_nil ?_
  repeat refine cw_seq ?_
  refine cw_region ?_
  refine rw_v (op_pure rfl) ?_
  refine rw_r (op_loadAB Try.underlying36 rfl (Try.sizeOf36 _) rfl (S.blk (i := 0) rfl) rfl rfl) ?_
  refine rw_buildS Try.underlying41 Try.sizeOf36 Try.zeroValue36 rfl rfl rfl rfl rfl rfl S ?_
  intro A_cs w4_ g4_ S sa_cs
  refine rw_call rfl (((rof_E (W := w4_) [(ax, ay)] (by simp) (hG.gr S.out) (S.rd (i := 0) rfl)).mono (fun v w' h => h.2 (by simp [hno])))) ?_
  rintro _ w5_ ⟨rfl, g5_⟩
  have S := S.gr g5_
  refine rw_v (op_pure rfl) ?_
  refine rw_v (op_pure rfl) ?_
  refine rw_v (op_pure rfl) ?_
  refine rw_v (op_pure rfl) ?_
  refine rw_newB (op_alloc Try.zeroValue120 rfl) S ?_
  intro b_l w7_ g7_ S
  refine rw_storeSA (i := 0) S rfl (Try.sizeOf120 _) rfl rfl rfl rfl rfl rfl ?_
  intro w8_ S
  refine rw_v (op_pure rfl) ?_
  refine rw_v (op_pure rfl) ?_
  first | refine rw_end ?_ | (refine rw_nil ?_; show CW _ _ _ _ _ _) | refine rw_nil ?_
  repeat refine cw_seq ?_
  refine cw_region ?_
  refine rw_v (op_pure rfl) ?_
  refine rw_v (op_b (b := true) rfl (bne_iff_ne.2 (by omega))) ?_
  first | refine rw_end ?_ | (refine rw_nil ?_; show CW _ _ _ _ _ _) | refine rw_nil ?_
  repeat refine cw_seq ?_
  refine cw_true rfl ?_
  repeat refine cw_seq ?_
  refine cw_region ?_
  refine rw_v (op_pure rfl) ?_
  refine rw_v (op_pure rfl) ?_
  refine rw_v (op_pure rfl) ?_
  first | refine rw_end ?_ | (refine rw_nil ?_; show CW _ _ _ _ _ _) | refine rw_nil ?_
  repeat refine cw_seq ?_
  refine cw_ret ?_
  repeat first | refine ret_then ?_ | refine ret_inb ?_
  exact res2 rfl rfl ⟨rfl, S.out⟩
def withinL (n : Nat) (d : Nat → Int) (most : Int) : List Nat := (List.range n).filter fun i => decide (d i ≤ most)
theorem withinL_succ (n : Nat) (d : Nat → Int) (most : Int) : withinL (n + 1) d most = withinL n d most ++ (if d n ≤ most then [n] else []) := by
  unfold withinL
  rw [List.range_succ, List.filter_append]
  by_cases h : d n ≤ most <;> simp [h]
theorem withinL_len (n : Nat) (d : Nat → Int) (most : Int) : (withinL n d most).length ≤ n := by
  have := List.length_filter_le (fun i => decide (d i ≤ most)) (List.range n)
  simpa [withinL] using this
set_option maxHeartbeats 2000000 in
theorem rWithin_E (a : Nat) (most : Int) (ha : a < gw * gh) (hB : vB (gridL gw gh cc)) (hG : GridAt W p gw gh cc A cap bs Rs) : Fn Try.prog 34 [.pointer (some ⟨p, 0, none⟩), .agg #[.int .i64 (a % gw : Nat), .int .i64 (a / gw : Nat)], .int .i64 most] W
    (fun v w' => ∃ d, IsDist gw (gridL gw gh cc) a d ∧ RetNew (fun s => .tuple #[s, .int .i64 0]) 36 2 (withinL (gw * gh) d most).length (cellsZ ((withinL (gw * gh) d most).map (cz gw))) W v w') := by
  have hw := hG.sw
  have hh := hG.sh
  have hn : gw * gh ≤ 1024 * 1024 := Nat.mul_le_mul hw.2 hh.2
  have hV := gridL_len gw gh cc
  have hin := cz_in (gh := gh) (show 0 < gw by omega) ha
  have hcost : ∀ (A_v : Option Addr) (c_v a : Nat) (w : World), a < gw * gh → Rd w A_v (ints (gridL gw gh cc)) → Fn Try.prog 68 [.agg #[.int .i64 gw, .slice A_v (gw * gh) c_v], .int .i64 a] w (fun v w' => ∃ d, IsDist gw (gridL gw gh cc) a d ∧ RetNew id 2 1 (gw * gh) (cellsQ (gw * gh) d) w v w') := fun A_v c_v a w ha h => by
    have := rcosts_E (gw := gw) (gh := gh) (c := c_v) (V := gridL gw gh cc) a hw hh hV ha hB h
    rw [hV] at this
    exact this
  have S := St.start W
  refine Fn_enter Try.func34 rfl Try.results34 Try.ntmps34 (by kernel_rfl) (by kernel_rfl) ?_
  repeat refine cw_seq ?_
  refine cw_region ?_
  refine rw_newB (op_box rfl) S ?_
  intro b_a w2_ g2_ S
  refine rw_v (op_pure rfl) ?_
  refine rw_v (op_pure rfl) ?_
  first | refine rw_end ?_ | (refine rw_nil ?_; show CW _ _ _ _ _ _) | refine rw_nil ?_
  repeat refine cw_seq ?_
  refine cw_region ?_
  refine rw_v (op_pure rfl) ?_
  refine rw_r (op_loadAB Try.underlying36 rfl (Try.sizeOf36 _) rfl (S.blk (i := 0) rfl) rfl rfl) ?_
  refine rw_buildS Try.underlying41 Try.sizeOf36 Try.zeroValue36 rfl rfl rfl rfl rfl rfl S ?_
  intro A_cs w4_ g4_ S sa_cs
  refine rw_call rfl (((rof_E (W := w4_) [cz gw a] (by simp) (hG.gr S.out) (S.rd (i := 0) rfl)).mono (fun v w' h => h.1 (by simp [hin])))) ?_
  rintro _ w5_ ⟨A_v, c_v, A_ps, c_ps, rfl, hv, hFv, hps, hFp, hd, g5_⟩
  have S := S.push2 g5_ (h1 := .row 2 1 A_v _ c_v _) (h2 := .row 3 1 A_ps _ c_ps _) hv hps hFv hFp hd
  refine rw_v (op_pure rfl) ?_
  refine rw_v (op_pure rfl) ?_
  refine rw_v (op_pure rfl) ?_
  refine rw_v (op_pure rfl) ?_
  refine rw_newB (op_alloc Try.zeroValue120 rfl) S ?_
  intro b_l w7_ g7_ S
  refine rw_storeSA (i := 0) S rfl (Try.sizeOf120 _) rfl rfl rfl rfl rfl rfl ?_
  intro w8_ S
  refine rw_v (op_pure rfl) ?_
  refine rw_v (op_pure rfl) ?_
  first | refine rw_end ?_ | (refine rw_nil ?_; show CW _ _ _ _ _ _) | refine rw_nil ?_
  repeat refine cw_seq ?_
  refine cw_region ?_
  refine rw_v (op_pure rfl) ?_
  refine rw_v (op_b (b := false) rfl (bne_eq_false_iff_eq.2 (by omega))) ?_
  first | refine rw_end ?_ | (refine rw_nil ?_; show CW _ _ _ _ _ _) | refine rw_nil ?_
  repeat refine cw_seq ?_
  refine cw_false rfl ?_
  repeat refine cw_seq ?_
  refine cw_skip ?_
  try show CW _ _ _ _ _ _
  have hpsv : natsV ([cz gw a].map (idxZ gw)) = [.int .i64 (a : Nat)] := by simp [natsV, idxZ, cz_idx]
  rw [hpsv] at S
  have sa_ps : SomeA A_ps := (S.row (i := 2) rfl).someA (by simp)
  have S := S.sub (L' := [.blk b_l 120 [.int .i64 gw, .slice A_v (gw * gh) c_v], .row 2 1 A_v (gw * gh) c_v (ints (gridL gw gh cc)), .row 3 1 A_ps 1 c_ps [.int .i64 (a : Nat)]]) (.cons_cons _ (.cons_cons _ (.cons_cons _ (.cons _ (.cons _ .slnil)))))
  repeat refine cw_seq ?_
  refine cw_region ?_
  refine rw_v (op_pure rfl) ?_
  first | refine rw_end ?_ | (refine rw_nil ?_; show CW _ _ _ _ _ _) | refine rw_nil ?_
  repeat refine cw_seq ?_
  refine cw_tri (C := (fun σ wq => CN No W [.blk b_l 120 [.int .i64 gw, .slice A_v (gw * gh) c_v], .row 2 1 A_v (gw * gh) c_v (ints (gridL gw gh cc)), .row 3 1 A_ps 1 c_ps [.int .i64 (a : Nat)]] (fun v h => ∃ d A c, v = .slice A (gw * gh) c ∧ IsDist gw (gridL gw gh cc) a d ∧ h = .row 2 1 A (gw * gh) c (cellsQ (gw * gh) d)) wq σ)) [4] [0, 1, 2, 3, 6, 4, 5] [] (by kernel_rfl) (by kernel_rfl) (S.gr (Gr.drew _)) ?_
  simp only [pickI, pickL, List.drop_succ_cons, List.drop_zero]
  refine rs_r rfl (fun τ wq hq => op_loadAB Try.underlying120 rfl (Try.sizeOf120 _) rfl (hq.st.blk (i := 0) rfl) rfl rfl) ?_
  refine rs_v rfl (op_pure rfl) ?_
  refine rs_v rfl (op_idx Try.underlying102 Try.sizeOf3 rfl rfl sa_ps (by omega) (by simp)) ?_
  refine rs_r rfl (fun τ wq hq => op_ldR Try.underlying3 rfl rfl (hq.st.rd (i := 2) rfl) rfl) ?_
  refine rs_v rfl (op_pure rfl) ?_
  refine rs_special rfl rfl (fun wq hq => to_call rfl ((hcost _ _ a wq ha (CN.st hq |>.row (i := 1) rfl).rd).mono (fun v w' ⟨d, hd, A_o, c_o, hv, hR, hF, g⟩ => ⟨_, ⟨d, A_o, c_o, hv, hd, rfl⟩, (CN.st hq).pushRow hR hF g⟩))) ?_
  rintro v4 w4 ⟨h4, ⟨d4, A4, c4, rfl, _, _⟩, _⟩
  refine rs_v rfl (op_len Try.underlying22 rfl) ?_
  refine rs_nil ?_
  rintro wz ⟨h9, ⟨d, A_left, c_left, e9, hdist, rfl⟩, S⟩
  first | refine rw_end ?_ | (refine rw_nil ?_; show CW _ _ _ _ _ _) | refine rw_nil ?_
  cases e9
  repeat refine cw_seq ?_
  refine cw_block ?_
  repeat refine cw_seq ?_
  generalize gridL gw gh cc = V at *
  have S := (S.sub (L' := [.row 2 1 A4 (gw * gh) c4 (cellsQ (gw * gh) d), .blk b_l 120 [.int .i64 gw, .slice A_v (gw * gh) c_v]]) (.cons_cons _ (.cons_cons _ (.cons _ (.cons _ .slnil))))).pushNil 36 2
  refine cw_loop (fun m e w => ∃ (k : Nat) (A_out : Option Addr) (c_out : Nat), k + m = gw * gh ∧ SL e [(2, .int .i64 most), (8, .pointer (some ⟨b_l, 0, none⟩)), (11, .slice A_out (withinL k d most).length c_out), (29, .slice A4 (gw * gh) c4), (30, .int .i64 (gw * gh : Nat)), (31, .int .i64 k)] ∧
    St No W w [.row 36 2 A_out (withinL k d most).length c_out (cellsZ ((withinL k d most).map (cz gw))), .row 2 1 A4 (gw * gh) c4 (cellsQ (gw * gh) d), .blk b_l 120 [.int .i64 gw, .slice A_v (gw * gh) c_v]]) (gw * gh)
    ⟨0, _, _, by omega, ⟨rfl, rfl, rfl, rfl, rfl, rfl, trivial⟩, S⟩ ?_
  clear S
  rintro m e w ⟨k, A_out, c_out, hk, hsl, S⟩
  rw [hsl.fold]
  have hwl := withinL_len k d most
  repeat refine cw_seq ?_
  refine cw_region ?_
  refine rw_v (op_pure rfl) ?_
  first | refine rw_end ?_ | (refine rw_nil ?_; show CW _ _ _ _ _ _) | refine rw_nil ?_
  repeat refine cw_seq ?_
  refine cw_cond rfl (fun hc => ?_) (fun hc => ?_)
  · try simp only [decide_eq_true_eq, decide_eq_false_iff_not, beq_iff_eq, bne_iff_ne, beq_eq_false_iff_ne, bne_eq_false_iff_eq, Bool.not_eq_true', Bool.not_eq_false', ne_eq, Decidable.not_not, Int.natCast_inj, Int.ofNat_lt, Int.ofNat_le, gt_iff_lt, ge_iff_le, Int.not_lt, Int.not_le] at hc
    have sa_left : SomeA A4 := (S.row (i := 1) rfl).someA (by omega)
    have hsu := withinL_succ k d most
    repeat refine cw_seq ?_
    refine cw_skip ?_
    try show CW _ _ _ _ _ _
    repeat refine cw_seq ?_
    refine cw_block ?_
    repeat refine cw_seq ?_
    refine cw_region ?_
    refine rw_v (op_pure rfl) ?_
    refine rw_v (op_idx Try.underlying22 Try.sizeOf2 rfl rfl sa_left (by omega) (by omega)) ?_
    refine rw_r (op_ldR Try.underlying2 rfl rfl (S.rd (i := 1) rfl) (cellsQ_get (by omega))) ?_
    refine rw_v (op_pure rfl) ?_
    refine rw_v (op_pure rfl) ?_
    first | refine rw_end ?_ | (refine rw_nil ?_; show CW _ _ _ _ _ _) | refine rw_nil ?_
    repeat refine cw_seq ?_
    refine cw_region ?_
    refine rw_v (op_pure rfl) ?_
    refine rw_v (op_pure rfl) ?_
    refine rw_v (op_pure rfl) ?_
    first | refine rw_end ?_ | (refine rw_nil ?_; show CW _ _ _ _ _ _) | refine rw_nil ?_
    repeat refine cw_seq ?_
    refine cw_cond rfl (fun hm => ?_) (fun hm => ?_)
    · try simp only [decide_eq_true_eq, decide_eq_false_iff_not, beq_iff_eq, bne_iff_ne, beq_eq_false_iff_ne, bne_eq_false_iff_eq, Bool.not_eq_true', Bool.not_eq_false', ne_eq, Decidable.not_not, Int.natCast_inj, Int.ofNat_lt, Int.ofNat_le, gt_iff_lt, ge_iff_le, Int.not_lt, Int.not_le] at hm
      rw [if_pos hm] at hsu
      repeat refine cw_seq ?_
      refine cw_region ?_
      refine rw_v (op_pure rfl) ?_
      refine rw_r (op_loadAB Try.underlying120 rfl (Try.sizeOf120 _) rfl (S.blk (i := 2) rfl) rfl rfl) ?_
      refine rw_v (op_pure rfl) ?_
      refine rw_call rfl (rat_E (W := w) (A := A_v) (c := c_v) k (gw * gh) hw.1 (by omega)) ?_
      rintro _ w10_ ⟨rfl, g10_⟩
      have S := S.gr g10_
      refine rw_buildS Try.underlying41 Try.sizeOf36 Try.zeroValue36 rfl rfl rfl rfl rfl rfl S ?_
      intro A_lit w12_ g12_ S sa_lit
      refine rw_appS (i := 1) S rfl (fun h => rfl) Try.underlying41 info_t36 rfl rfl rfl rfl (by simp) (by omega) (S.rd (i := 0) rfl) rfl (by omega) ?_
      intro A_out13 c_out13 w13_ S sa_out
      refine rw_v (op_pure rfl) ?_
      first | refine rw_end ?_ | (refine rw_nil ?_; show CW _ _ _ _ _ _) | refine rw_nil ?_
      repeat refine cw_seq ?_
      refine cw_region ?_
      refine rw_v (op_rng rfl (by omega)) ?_
      refine rw_v (op_pure rfl) ?_
      first | refine rw_end ?_ | (refine rw_nil ?_; show CW _ _ _ _ _ _) | refine rw_nil ?_
      have e1 : cellsZ ((withinL k d most).map (cz gw)) ++ [.int .i64 (k % gw : Nat), .int .i64 (k / gw : Nat)] = cellsZ ((withinL (k + 1) d most).map (cz gw)) := by rw [hsu]; simp [cellsZ, cz]
      have S := S.drop 1
      rw [e1] at S
      refine ⟨m - 1, by omega, k + 1, _, _, by omega, ⟨rfl, rfl, se (by rw [hsu]; simp) rfl, rfl, rfl, ie (by omega), trivial⟩, ?_⟩
      rw [hsu, List.length_append, List.length_singleton, ← hsu]
      exact S
    · try simp only [decide_eq_true_eq, decide_eq_false_iff_not, beq_iff_eq, bne_iff_ne, beq_eq_false_iff_ne, bne_eq_false_iff_eq, Bool.not_eq_true', Bool.not_eq_false', ne_eq, Decidable.not_not, Int.natCast_inj, Int.ofNat_lt, Int.ofNat_le, gt_iff_lt, ge_iff_le, Int.not_lt, Int.not_le] at hm
      rw [if_neg (by omega), List.append_nil] at hsu
      repeat refine cw_seq ?_
      refine cw_skip ?_
      try show CW _ _ _ _ _ _
      repeat refine cw_seq ?_
      refine cw_region ?_
      refine rw_v (op_rng rfl (by omega)) ?_
      refine rw_v (op_pure rfl) ?_
      first | refine rw_end ?_ | (refine rw_nil ?_; show CW _ _ _ _ _ _) | refine rw_nil ?_
      refine ⟨m - 1, by omega, k + 1, _, _, by omega, ⟨rfl, rfl, se (by rw [hsu]) rfl, rfl, rfl, ie (by omega), trivial⟩, ?_⟩
      rw [hsu]
      exact S
  · try simp only [decide_eq_true_eq, decide_eq_false_iff_not, beq_iff_eq, bne_iff_ne, beq_eq_false_iff_ne, bne_eq_false_iff_eq, Bool.not_eq_true', Bool.not_eq_false', ne_eq, Decidable.not_not, Int.natCast_inj, Int.ofNat_lt, Int.ofNat_le, gt_iff_lt, ge_iff_le, Int.not_lt, Int.not_le] at hc
    obtain rfl : k = gw * gh := by omega
    repeat refine cw_seq ?_
    refine cw_exit ?_
    repeat first | refine exit_then ?_ | refine exit_inb ?_
    show CW _ _ _ _ _ _
    repeat refine cw_seq ?_
    refine cw_region ?_
    refine rw_v (op_pure rfl) ?_
    refine rw_v (op_pure rfl) ?_
    refine rw_v (op_pure rfl) ?_
    first | refine rw_end ?_ | (refine rw_nil ?_; show CW _ _ _ _ _ _) | refine rw_nil ?_
    repeat refine cw_seq ?_
    refine cw_ret ?_
    repeat first | refine ret_then ?_ | refine ret_inb ?_
    exact res2 rfl rfl ⟨d, hdist, S.retNew (i := 0) (mk := fun s => .tuple #[s, .int .i64 0]) rfl⟩
end
end Go.Proofs.Ytmdkjohllinphaa
