/- regions.Flood, hachurelaw46.higher: contracts. -/
import Derived.Test.YtiidmiebckkloaaPLPJin
import Derived.Test.YtiidmiebckkloaaPMPJin
import Derived.Test.YtiidmiebckkloaaPNPJin
import Derived.Test.YtiidmiebckkloaaRows
import Derived.WalkKit
import Derived.ProofKit
import Derived.OpenShut
import Derived.Below
import Derived.ChangeSame
import Derived.ChangeReads
import Derived.DataReads
import Derived.Lib.SmallJoins
import Derived.Test.YtiidmiebckkloaaPA
import Derived.Test.YtiidmiebckkloaaPE
namespace Go.Proofs.Ytiidmiebckkloaa
open Go.RowKit
set_option linter.unusedVariables false
set_option linter.unusedSimpArgs false
set_option maxRecDepth 100000

def regL (n : Nat) (r : Nat → Nat) (q k : Nat) : List Nat := (List.range k).filter fun i => decide (r i = r q)
theorem regL_len (n : Nat) (r : Nat → Nat) (q k : Nat) : (regL n r q k).length ≤ k := by
  have := List.length_filter_le (fun i => decide (r i = r q)) (List.range k)
  rwa [List.length_range] at this
theorem regL_succ (n : Nat) (r : Nat → Nat) (q k : Nat) : regL n r q (k + 1) = if r k = r q then regL n r q k ++ [k] else regL n r q k := by
  unfold regL
  rw [List.range_succ, List.filter_append]
  by_cases h : r k = r q
  · rw [if_pos h]; simp [h]
  · rw [if_neg h]; simp [h]
section
variable {W : World} {A : Option Addr} {p gw gh cap c : Nat} {cc : Nat → Int} {bs : Nat → Nat} {Rs : Nat → Option Nat}
theorem pplace_E (i n : Nat) (hgw : 1 ≤ gw) (hi : i < gw * gh) (hm : gw * gh ≤ 1048576) : Fn Try.prog 41 [.agg #[.int .i64 gw, .int .i64 gh, .slice A n c], .agg #[.int .i64 (i % gw : Nat), .int .i64 (i / gw : Nat)]] W (RetG (.int .i64 i) W) := by
  have hidx : ((i / gw : Nat) : Int) * gw + ((i % gw : Nat) : Int) = (i : Int) := by
    have := Nat.div_add_mod i gw
    rw [Nat.mul_comm] at this
    rw [← Int.natCast_mul, ← Int.natCast_add, this]
  have hprod : 0 ≤ ((i / gw : Nat) : Int) * gw ∧ ((i / gw : Nat) : Int) * gw ≤ 1048576 := by
    have h0 : 0 ≤ ((i % gw : Nat) : Int) := Int.natCast_nonneg _
    have h1 : (0 : Int) ≤ ((i / gw : Nat) : Int) * gw := Int.mul_nonneg (Int.natCast_nonneg _) (Int.natCast_nonneg _)
    generalize ((i / gw : Nat) : Int) * gw = P at *
    generalize ((i % gw : Nat) : Int) = Q at *
    omega
  generalize i / gw = Y at *
  generalize i % gw = X at *
  have S := St.start W
  refine Fn_enter Try.func41 rfl Try.results41 Try.ntmps41 (by kernel_rfl) (by kernel_rfl) ?_
  repeat refine cw_seq ?_
  refine cw_region ?_
  refine rw_newB (op_box rfl) S ?_
  intro b_l w2_ g2_ S
  refine rw_newB (op_box rfl) S ?_
  intro b_c w4_ g4_ S
  refine rw_v (op_pure rfl) ?_
  first | refine rw_end ?_ | (refine rw_nil ?_; show CW _ _ _ _ _ _) | refine rw_nil ?_
  repeat refine cw_seq ?_
  refine cw_region ?_
  refine rw_v (op_fieldAddr Try.underlying40 rfl Try.sizeOf2 rfl rfl) ?_
  refine rw_r (op_loadB Try.underlying2 rfl rfl (S.blk (i := 0) rfl) rfl) ?_
  refine rw_v (op_fieldAddr Try.underlying91 rfl Try.sizeOf3 rfl rfl) ?_
  refine rw_r (op_loadB Try.underlying3 rfl rfl (S.blk (i := 1) rfl) rfl) ?_
  refine rw_v (op_rng rfl (by generalize (Y : Int) * gw = P at *; omega)) ?_
  refine rw_v (op_fieldAddr Try.underlying40 rfl Try.sizeOf2 rfl rfl) ?_
  refine rw_r (op_loadB Try.underlying2 rfl rfl (S.blk (i := 0) rfl) rfl) ?_
  refine rw_v (op_rng rfl (by rw [hidx]; omega)) ?_
  rw [hidx]
  refine rw_v (op_pure rfl) ?_
  first | refine rw_end ?_ | (refine rw_nil ?_; show CW _ _ _ _ _ _) | refine rw_nil ?_
  repeat refine cw_seq ?_
  refine cw_ret ?_
  repeat first | refine ret_then ?_ | refine ret_inb ?_
  exact res1 rfl ⟨rfl, S.out⟩
set_option maxHeartbeats 8000000 in
theorem pflood_E (q : Nat) (t : Int) (hq : q < gw * gh) (ht : t ≤ (gridL gw gh cc).getD q 0) (hG : GridAt W p gw gh cc A cap bs Rs) :
    Fn Try.prog 17 [.pointer (some ⟨p, 0, none⟩), .agg #[.int .i64 (q % gw : Nat), .int .i64 (q / gw : Nat)], .int .i64 t] W
      (fun v w' => ∃ r, Roots gw (gridL gw gh cc) t r ∧ RetNew (fun v => .tuple #[v, .int .i64 0]) 40 2 (regL (gw * gh) r q (gw * gh)).length (cellsZ ((regL (gw * gh) r q (gw * gh)).map (cz gw))) W v w') := by
  have hw := hG.sw
  have hh := hG.sh
  have hm : gw * gh ≤ 1024 * 1024 := Nat.mul_le_mul hw.2 hh.2
  have hV := gridL_len gw gh cc
  have hof := fun w (g : Gr W w) => regof_E (hG.gr g)
  have hat := fun w (g : Gr W w) => gat_E (q % gw) (q / gw) (Nat.mod_lt q hw.1) (Nat.div_lt_of_lt_mul hq) (hG.gr g)
  have hidx : q / gw * gw + q % gw = q := by have := Nat.div_add_mod q gw; rw [Nat.mul_comm] at this; exact this
  have hcc : cc (q / gw * gw + q % gw) = (gridL gw gh cc).getD q 0 := by
    rw [hidx]
    unfold gridL
    rw [List.getD_eq_getElem?_getD, List.getElem?_map, List.getElem?_range hq]
    rfl
  rw [hcc] at hat
  generalize gridL gw gh cc = V at *
  have hgwV : gw ≤ V.length := by rw [hV]; exact Nat.le_mul_of_pos_right _ (by omega)
  have hse := fun (A : Option Addr) (c : Nat) w h => sets_E (W := w) (A := A) (c := c) (V := V) t (gh : Int) hw.1 (by omega) (by omega) hgwV h
  rw [hV] at hse
  have hmn : 0 ≤ ((q % gw : Nat) : Int) ∧ 0 ≤ ((q / gw : Nat) : Int) := ⟨Int.natCast_nonneg _, Int.natCast_nonneg _⟩
  have S := St.start W
  refine Fn_enter Try.func17 rfl Try.results17 Try.ntmps17 (by kernel_rfl) (by kernel_rfl) ?_
  repeat refine cw_seq ?_
  refine cw_region ?_
  refine rw_newB (op_box rfl) S ?_
  intro b_ca w2_ g2_ S
  iterate 2 refine rw_v (op_pure rfl) ?_
  first | refine rw_end ?_ | (refine rw_nil ?_; show CW _ _ _ _ _ _) | refine rw_nil ?_
  repeat refine cw_seq ?_
  refine cw_region ?_
  refine rw_v (op_pure rfl) ?_
  refine rw_call rfl (hof w2_ S.out) ?_
  rintro _ w3_ ⟨A_vs, c_vs, rfl, hR_vs, hf_vs, g3_⟩
  have S := S.pushRow hR_vs hf_vs g3_
  iterate 3 refine rw_v (op_pure rfl) ?_
  refine rw_newB (op_alloc Try.zeroValue91 rfl) S ?_
  intro b_l w5_ g5_ S
  refine rw_storeSA (i := 0) S rfl (Try.sizeOf91 _) rfl rfl rfl rfl rfl rfl ?_
  intro w6_ S
  refine rw_v (op_pure rfl) ?_
  first | refine rw_end ?_ | (refine rw_nil ?_; show CW _ _ _ _ _ _) | refine rw_nil ?_
  repeat refine cw_seq ?_
  refine cw_region ?_
  refine rw_v (op_pure rfl) ?_
  refine rw_v (op_b (b := false) rfl (bne_eq_false_iff_eq.2 (by omega))) ?_
  first | refine rw_end ?_ | (refine rw_nil ?_; show CW _ _ _ _ _ _) | refine rw_nil ?_
  repeat refine cw_seq ?_
  refine cw_false rfl ?_
  repeat refine cw_seq ?_
  refine cw_skip ?_
  try show CW _ _ _ _ _ _
  repeat refine cw_seq ?_
  refine cw_region ?_
  refine rw_v (op_pure rfl) ?_
  refine rw_r (op_loadAB Try.underlying40 rfl (Try.sizeOf40 _) rfl (S.blk (i := 2) rfl) rfl rfl) ?_
  refine rw_call rfl (hat w6_ S.out) ?_
  rintro _ w7_ ⟨rfl, g7_⟩
  have S := S.gr g7_
  iterate 5 refine rw_v (op_pure rfl) ?_
  first | refine rw_end ?_ | (refine rw_nil ?_; show CW _ _ _ _ _ _) | refine rw_nil ?_
  repeat refine cw_seq ?_
  refine cw_region ?_
  refine rw_v (op_pure rfl) ?_
  refine rw_v (op_b (b := false) rfl (bne_eq_false_iff_eq.2 (by omega))) ?_
  refine rw_v (op_pure rfl) ?_
  first | refine rw_off rfl ?_ | (refine rw_on rfl ?_; refine rw_v (op_pure rfl) ?_)
  first | refine rw_off rfl ?_ | (refine rw_on rfl ?_; refine rw_v (op_pure rfl) ?_)
  first | refine rw_off rfl ?_ | (refine rw_on rfl ?_; refine rw_v (op_b (b := false) rfl (decide_eq_false (by omega))) ?_)
  refine rw_v (op_pure rfl) ?_
  first | refine rw_end ?_ | (refine rw_nil ?_; show CW _ _ _ _ _ _) | refine rw_nil ?_
  repeat refine cw_seq ?_
  refine cw_false rfl ?_
  repeat refine cw_seq ?_
  refine cw_skip ?_
  try show CW _ _ _ _ _ _
  repeat refine cw_seq ?_
  refine cw_region ?_
  refine rw_r (op_loadAB Try.underlying91 rfl (Try.sizeOf91 _) rfl (S.blk (i := 0) rfl) rfl rfl) ?_
  refine rw_v (op_pure rfl) ?_
  refine rw_call rfl (hse A_vs c_vs w7_ (S.rd (i := 1) rfl)) ?_
  rintro _ w8_ ⟨f0, hS0, A_F, c_F, rfl, hR_F, hf_F, g8_⟩
  have S := S.pushRow hR_F hf_F g8_
  refine rw_v (op_pure rfl) ?_
  first | refine rw_end ?_ | (refine rw_nil ?_; show CW _ _ _ _ _ _) | refine rw_nil ?_
  repeat refine cw_seq ?_
  refine cw_region ?_
  refine rw_v (op_pure rfl) ?_
  refine rw_r (op_loadAB Try.underlying91 rfl (Try.sizeOf91 _) rfl (S.blk (i := 1) rfl) rfl rfl) ?_
  refine rw_r (op_loadAB Try.underlying40 rfl (Try.sizeOf40 _) rfl (S.blk (i := 3) rfl) rfl rfl) ?_
  refine rw_call rfl (pplace_E (W := w8_) (A := A_vs) (c := c_vs) (gh := gh) q (gw * gh) hw.1 hq (by omega)) ?_
  rintro _ w9_ ⟨rfl, g9_⟩
  have S := S.gr g9_
  refine rw_call rfl (root_E q (by omega) hq (by rw [← hV]; exact hS0.ok) (S.row (i := 0) rfl)) ?_
  rintro _ w10_ ⟨rfl, f1, hf1, hr1, hR1, hF1⟩
  have S := S.set (i := 0) (h' := .row 3 1 A_F (gw * gh) c_F (cellsN (gw * gh) f1)) rfl rfl hF1 (fun g h => .inl h) hR1 (fun g h => .inl h)
  refine rw_v (op_pure rfl) ?_
  first | refine rw_end ?_ | (refine rw_nil ?_; show CW _ _ _ _ _ _) | refine rw_nil ?_
  repeat refine cw_seq ?_
  refine cw_region ?_
  refine rw_v (op_pure rfl) ?_
  first | refine rw_end ?_ | (refine rw_nil ?_; show CW _ _ _ _ _ _) | refine rw_nil ?_
  repeat refine cw_seq ?_
  refine cw_region ?_
  refine rw_v (op_fieldAddr Try.underlying91 rfl Try.sizeOf30 rfl rfl) ?_
  refine rw_r (op_loadB Try.underlying30 rfl rfl (S.blk (i := 1) rfl) rfl) ?_
  refine rw_v (op_len Try.underlying30 rfl) ?_
  refine rw_v (op_pure rfl) ?_
  first | refine rw_end ?_ | (refine rw_nil ?_; show CW _ _ _ _ _ _) | refine rw_nil ?_
  repeat refine cw_seq ?_
  refine cw_block ?_
  repeat refine cw_seq ?_
  have hS1 : SetsOk gw V t V.length f0 := by rw [hV]; exact hS0
  have hro := hS1.roots
  have S := S.pushNil 40 2
  refine cw_loop (fun m e w => ∃ (k : Nat) (f : Nat → Nat) (A2 : Option Addr) (c2 : Nat), k + m = gw * gh ∧ FOk (gw * gh) f ∧ (∀ j, j < gw * gh → rootF f j = rootF f0 j) ∧ SL e [(8, .pointer (some ⟨b_l, 0, none⟩)), (11, .slice A_F (gw * gh) c_F), (12, .int .i64 (rootF f0 q : Nat)), (13, .slice A2 (regL (gw * gh) (rootF f0) q k).length c2), (47, .int .i64 (gw * gh : Nat)), (48, .int .i64 k)] ∧
    St No W w [.row 40 2 A2 (regL (gw * gh) (rootF f0) q k).length c2 (cellsZ ((regL (gw * gh) (rootF f0) q k).map (cz gw))), .row 3 1 A_F (gw * gh) c_F (cellsN (gw * gh) f), .blk b_l 91 [.int .i64 gw, .int .i64 gh, .slice A_vs (gw * gh) c_vs]]) (gw * gh)
    ⟨0, f1, none, 0, by omega, hf1, hr1, ⟨rfl, rfl, rfl, rfl, rfl, rfl, trivial⟩, S.sub (.cons_cons _ (.cons_cons _ (.cons_cons _ (List.nil_sublist _))))⟩ ?_
  clear S
  rintro m e w ⟨k, f, A2, c2, hk, hf, hr, hsl, S⟩
  rw [hsl.fold]
  by_cases hkn : k < gw * gh
  · have hsu := regL_succ (gw * gh) (rootF f0) q k
    have hrl := regL_len (gw * gh) (rootF f0) q k
    have hrk := hr k hkn
    by_cases heq : rootF f0 k = rootF f0 q
    · rw [if_pos heq] at hsu
      repeat refine cw_seq ?_
      refine cw_region ?_
      refine rw_v (op_b (b := true) rfl (decide_eq_true (by omega))) ?_
      first | refine rw_end ?_ | (refine rw_nil ?_; show CW _ _ _ _ _ _) | refine rw_nil ?_
      repeat refine cw_seq ?_
      refine cw_true rfl ?_
      repeat refine cw_seq ?_
      refine cw_skip ?_
      try show CW _ _ _ _ _ _
      repeat refine cw_seq ?_
      refine cw_block ?_
      repeat refine cw_seq ?_
      refine cw_region ?_
      iterate 2 refine rw_v (op_pure rfl) ?_
      first | refine rw_end ?_ | (refine rw_nil ?_; show CW _ _ _ _ _ _) | refine rw_nil ?_
      repeat refine cw_seq ?_
      refine cw_region ?_
      iterate 2 refine rw_v (op_pure rfl) ?_
      refine rw_call rfl (root_E k (by omega) hkn hf (S.row (i := 1) rfl)) ?_
      rintro _ w11_ ⟨rfl, f2, hf2, hr2, hR2, hF2⟩
      have S := S.set (i := 1) (h' := .row 3 1 A_F (gw * gh) c_F (cellsN (gw * gh) f2)) rfl rfl hF2 (fun g h => .inl h) hR2 (fun g h => .inl h)
      rw [hrk]
      refine rw_v (op_pure rfl) ?_
      refine rw_v (op_b (b := true) rfl (beq_iff_eq.2 (by omega))) ?_
      first | refine rw_end ?_ | (refine rw_nil ?_; show CW _ _ _ _ _ _) | refine rw_nil ?_
      repeat refine cw_seq ?_
      refine cw_true rfl ?_
      repeat refine cw_seq ?_
      refine cw_region ?_
      refine rw_v (op_pure rfl) ?_
      refine rw_r (op_loadAB Try.underlying91 rfl (Try.sizeOf91 _) rfl (S.blk (i := 2) rfl) rfl rfl) ?_
      refine rw_v (op_pure rfl) ?_
      refine rw_call rfl (regat_E k (gh : Int) (gw * gh) hw.1 (by omega)) ?_
      rintro _ w12_ ⟨rfl, g12_⟩
      have S := S.gr g12_
      refine rw_buildS Try.underlying52 Try.sizeOf40 Try.zeroValue40 rfl rfl rfl rfl rfl rfl S ?_
      intro A_x1 w14_ g14_ S sa_x1
      refine rw_appS (i := 1) S rfl (fun h => rfl) Try.underlying52 info_t40 rfl rfl rfl rfl (by simp) (by omega) (S.rd (i := 0) rfl) rfl (by omega) ?_
      intro A_o2 c_o2 w15_ S sa_out
      refine rw_v (op_pure rfl) ?_
      first | refine rw_end ?_ | (refine rw_nil ?_; show CW _ _ _ _ _ _) | refine rw_nil ?_
      repeat refine cw_seq ?_
      refine cw_region ?_
      refine rw_v (op_rng rfl (by omega)) ?_
      refine rw_v (op_pure rfl) ?_
      first | refine rw_end ?_ | (refine rw_nil ?_; show CW _ _ _ _ _ _) | refine rw_nil ?_
      have S := S.sub (.cons _ (.cons_cons _ (.cons_cons _ (.cons_cons _ (.slnil)))))
      have e1 : cellsZ ((regL (gw * gh) (rootF f0) q k).map (cz gw)) ++ [.int .i64 (k % gw : Nat), .int .i64 (k / gw : Nat)] = cellsZ ((regL (gw * gh) (rootF f0) q (k + 1)).map (cz gw)) := by rw [hsu]; simp [cellsZ, cz]
      have e2 : (regL (gw * gh) (rootF f0) q k).length + 1 = (regL (gw * gh) (rootF f0) q (k + 1)).length := by rw [hsu]; simp
      rw [e1, e2] at S
      exact ⟨m - 1, by omega, k + 1, f2, _, _, by omega, hf2, fun j hj => by rw [hr2 j hj, hr j hj], ⟨rfl, rfl, rfl, by rw [← e2]; rfl, rfl, ie (by omega), trivial⟩, S⟩
    · rw [if_neg heq] at hsu
      repeat refine cw_seq ?_
      refine cw_region ?_
      refine rw_v (op_b (b := true) rfl (decide_eq_true (by omega))) ?_
      first | refine rw_end ?_ | (refine rw_nil ?_; show CW _ _ _ _ _ _) | refine rw_nil ?_
      repeat refine cw_seq ?_
      refine cw_true rfl ?_
      repeat refine cw_seq ?_
      refine cw_skip ?_
      try show CW _ _ _ _ _ _
      repeat refine cw_seq ?_
      refine cw_block ?_
      repeat refine cw_seq ?_
      refine cw_region ?_
      iterate 2 refine rw_v (op_pure rfl) ?_
      first | refine rw_end ?_ | (refine rw_nil ?_; show CW _ _ _ _ _ _) | refine rw_nil ?_
      repeat refine cw_seq ?_
      refine cw_region ?_
      iterate 2 refine rw_v (op_pure rfl) ?_
      refine rw_call rfl (root_E k (by omega) hkn hf (S.row (i := 1) rfl)) ?_
      rintro _ w16_ ⟨rfl, f2, hf2, hr2, hR2, hF2⟩
      have S := S.set (i := 1) (h' := .row 3 1 A_F (gw * gh) c_F (cellsN (gw * gh) f2)) rfl rfl hF2 (fun g h => .inl h) hR2 (fun g h => .inl h)
      rw [hrk]
      refine rw_v (op_pure rfl) ?_
      refine rw_v (op_b (b := false) rfl (beq_eq_false_iff_ne.2 (by omega))) ?_
      first | refine rw_end ?_ | (refine rw_nil ?_; show CW _ _ _ _ _ _) | refine rw_nil ?_
      repeat refine cw_seq ?_
      refine cw_false rfl ?_
      repeat refine cw_seq ?_
      refine cw_skip ?_
      try show CW _ _ _ _ _ _
      repeat refine cw_seq ?_
      refine cw_region ?_
      refine rw_v (op_rng rfl (by omega)) ?_
      refine rw_v (op_pure rfl) ?_
      first | refine rw_end ?_ | (refine rw_nil ?_; show CW _ _ _ _ _ _) | refine rw_nil ?_
      exact ⟨m - 1, by omega, k + 1, f2, A2, c2, by omega, hf2, fun j hj => by rw [hr2 j hj, hr j hj], ⟨rfl, rfl, rfl, by rw [hsu]; rfl, rfl, ie (by omega), trivial⟩, by rw [hsu]; exact S⟩
  · obtain rfl : k = gw * gh := by omega
    repeat refine cw_seq ?_
    refine cw_region ?_
    refine rw_v (op_b (b := false) rfl (decide_eq_false (by omega))) ?_
    first | refine rw_end ?_ | (refine rw_nil ?_; show CW _ _ _ _ _ _) | refine rw_nil ?_
    repeat refine cw_seq ?_
    refine cw_false rfl ?_
    repeat refine cw_seq ?_
    refine cw_exit ?_
    repeat first | refine exit_then ?_ | refine exit_inb ?_
    show CW _ _ _ _ _ _
    repeat refine cw_seq ?_
    refine cw_region ?_
    iterate 3 refine rw_v (op_pure rfl) ?_
    first | refine rw_end ?_ | (refine rw_nil ?_; show CW _ _ _ _ _ _) | refine rw_nil ?_
    repeat refine cw_seq ?_
    refine cw_ret ?_
    repeat first | refine ret_then ?_ | refine ret_inb ?_
    exact res2 rfl rfl ⟨_, hro, S.retNew (i := 0) rfl⟩
end
section
variable {W : World} {A : Option Addr} {gw gh cap : Nat} {V : List Int}
set_option maxHeartbeats 4000000 in
theorem higher_E (q : Nat) (t : Int) (b : Bool) (hw : 1 ≤ gw ∧ gw ≤ 1024) (hh : 1 ≤ gh ∧ gh ≤ 1024) (hok : LandOk gw gh V 400) (hV : V.length = gw * gh) (hq : q < gw * gh) (ht : t ≤ V.getD q 0) (hb : b = true ↔ HiC gw V t q) (hA : Rd W A (ints V)) :
    Fn Try.prog 16 [.int .i64 gw, .slice A V.length cap, .int .i64 (V.getD q 0), .agg #[.int .i64 (q % gw : Nat), .int .i64 (q / gw : Nat)], .int .i64 t] W (RetG (.bool b) W) := by
  have hro := rootC_roots gw V t
  generalize rootC gw V t = r at *
  rw [← hi_lab hro (by omega) ht] at hb
  have hm : gw * gh ≤ 400 := by
    have := hok.area
    have e : (gw : Int) * gh = ((gw * gh : Nat) : Int) := by push_cast; rfl
    rw [e] at this; omega
  have hdiv : ((V.length : Nat) : Int) / gw = gh := by
    rw [hV]
    push_cast
    exact Int.mul_ediv_cancel_left _ (by omega)
  have hidx : ((q / gw : Nat) : Int) * gw + ((q % gw : Nat) : Int) = (q : Int) := by
    have := Nat.div_add_mod q gw
    rw [Nat.mul_comm] at this
    rw [← Int.natCast_mul, ← Int.natCast_add, this]
  have hprod : 0 ≤ ((q / gw : Nat) : Int) * gw ∧ ((q / gw : Nat) : Int) * gw ≤ 1048576 := by
    have h0 : 0 ≤ ((q % gw : Nat) : Int) := Int.natCast_nonneg _
    have h1 : (0 : Int) ≤ ((q / gw : Nat) : Int) * gw := Int.mul_nonneg (Int.natCast_nonneg _) (Int.natCast_nonneg _)
    generalize ((q / gw : Nat) : Int) * gw = P at *
    generalize ((q % gw : Nat) : Int) = Q at *
    omega
  have hla := fun w h => land_E (W := w) (A := A) (V := V) gw gh 400 cap (by omega) hok h
  have hoh := fun w (h : Rd w A (ints V)) => of29_E (W := w) (cap := cap) t hw hh hV hro h
  have hgetV : ∀ i, i < V.length → (ints V)[(i : Int).toNat * 1]? = some (.int .i64 (V.getD i 0)) := fun i hi => by rw [Nat.mul_one, Int.toNat_natCast]; exact ints_get (getD_at hi)
  have hgetL : ∀ i, i < V.length → (cellsN V.length (labF V t r))[(i : Int).toNat * 1]? = some (.int .i64 (labF V t r i : Nat)) := fun i hi => by rw [Nat.mul_one, Int.toNat_natCast]; exact cellsN_get hi
  generalize hY : q / gw = Y at *
  generalize hX : q % gw = X at *
  have G := Gr.refl W
  have S := St.start W
  refine Fn_enter Try.func16 rfl Try.results16 Try.ntmps16 (by kernel_rfl) (by kernel_rfl) ?_
  repeat refine cw_seq ?_
  refine cw_region ?_
  refine rw_newB (op_box rfl) S ?_
  intro b_ce w2_ g2_ S
  refine rw_v (op_pure rfl) ?_
  first | refine rw_end ?_ | (refine rw_nil ?_; show CW _ _ _ _ _ _) | refine rw_nil ?_
  repeat refine cw_seq ?_
  refine cw_region ?_
  iterate 2 refine rw_v (op_pure rfl) ?_
  refine rw_v (op_len Try.underlying30 rfl) ?_
  refine rw_v (op_pure rfl) ?_
  refine rw_v (op_div rfl rfl (by omega) (by omega)) ?_
  rw [hdiv]
  refine rw_v (op_pure rfl) ?_
  refine rw_call rfl (hla w2_ (hA.gr S.out)) ?_
  rintro _ w3_ ⟨rfl, g3_⟩
  have S := S.gr g3_
  iterate 3 refine rw_v (op_pure rfl) ?_
  refine rw_newB (op_alloc Try.zeroValue32 rfl) S ?_
  intro b_md w5_ g5_ S
  refine rw_storeSA (i := 0) S rfl (Try.sizeOf32 _) rfl rfl rfl rfl rfl rfl ?_
  intro w6_ S
  refine rw_v (op_pure rfl) ?_
  first | refine rw_end ?_ | (refine rw_nil ?_; show CW _ _ _ _ _ _) | refine rw_nil ?_
  repeat refine cw_seq ?_
  refine cw_region ?_
  refine rw_r (op_loadAB Try.underlying32 rfl (Try.sizeOf32 _) rfl (S.blk (i := 0) rfl) rfl rfl) ?_
  refine rw_v (op_pure rfl) ?_
  refine rw_call rfl (hoh w6_ (hA.gr S.out)) ?_
  rintro _ w7_ ⟨A_lb, c_lb, A_pt, c_pt, rfl, hR1, hR2, hf1, hf2, g7_⟩
  have S := S.pushRow hR1 hf1 g7_
  iterate 5 refine rw_v (op_pure rfl) ?_
  first | refine rw_end ?_ | (refine rw_nil ?_; show CW _ _ _ _ _ _) | refine rw_nil ?_
  repeat refine cw_seq ?_
  refine cw_region ?_
  refine rw_v (op_pure rfl) ?_
  first | refine rw_end ?_ | (refine rw_nil ?_; show CW _ _ _ _ _ _) | refine rw_nil ?_
  repeat refine cw_seq ?_
  refine cw_block ?_
  repeat refine cw_seq ?_
  have sa_lb : SomeA A_lb := (S.row (i := 0) rfl).someA (by omega)
  have sa_A : SomeA A := hA.someA (by rw [ints_len]; omega)
  refine cw_loop (fun m e w => ∃ i : Nat, i + m = V.length ∧ (∀ j, j < i → ¬ (0 < labF V t r j ∧ labF V t r j = labF V t r q ∧ V.getD q 0 < V.getD j 0)) ∧ SL e [(0, .int .i64 gw), (1, .slice A V.length cap), (2, .int .i64 (V.getD q 0)), (8, .pointer (some ⟨b_ce, 0, none⟩)), (13, .slice A_lb V.length c_lb), (15, .int .i64 i)] ∧
    St No W w [.row 2 1 A_lb V.length c_lb (cellsN V.length (labF V t r)), .blk b_md 32 [.int .i64 gw, .int .i64 gh, .slice A V.length cap], .blk b_ce 40 [.int .i64 (X : Nat), .int .i64 (Y : Nat)]]) V.length
    ⟨0, by omega, fun j hj => by omega, ⟨rfl, rfl, rfl, rfl, rfl, rfl, trivial⟩, S⟩ ?_
  clear S
  rintro m e w ⟨i, hi, hno, hsl, S⟩
  rw [hsl.fold]
  by_cases hin : i < V.length
  · have hgi := hgetL i hin
    have hgq := hgetL q (by omega)
    have hgv := hgetV i hin
    have step : ¬ (0 < labF V t r i ∧ labF V t r i = labF V t r q ∧ V.getD q 0 < V.getD i 0) → ∀ j, j < i + 1 → ¬ (0 < labF V t r j ∧ labF V t r j = labF V t r q ∧ V.getD q 0 < V.getD j 0) := fun h j hj => by
      by_cases e : j = i
      · subst e; exact h
      · exact hno j (by omega)
    have hyes : (0 < labF V t r i ∧ labF V t r i = labF V t r q ∧ V.getD q 0 < V.getD i 0) → b = true := fun h => hb.2 ⟨i, hin, h⟩
    by_cases h1 : 0 < labF V t r i
    · by_cases h2 : labF V t r i = labF V t r q
      · by_cases h3 : V.getD q 0 < V.getD i 0
        · have hbt := hyes ⟨h1, h2, h3⟩
          subst hbt
          repeat refine cw_seq ?_
          refine cw_region ?_
          iterate 2 refine rw_v (op_pure rfl) ?_
          refine rw_v (op_len Try.underlying30 rfl) ?_
          refine rw_v (op_b (b := true) rfl (decide_eq_true (by omega))) ?_
          first | refine rw_end ?_ | (refine rw_nil ?_; show CW _ _ _ _ _ _) | refine rw_nil ?_
          repeat refine cw_seq ?_
          refine cw_true rfl ?_
          repeat refine cw_seq ?_
          refine cw_skip ?_
          try show CW _ _ _ _ _ _
          repeat refine cw_seq ?_
          refine cw_block ?_
          repeat refine cw_seq ?_
          refine cw_draw (C := fun wq => Gr w wq) [0, 1, 2, 3, 4, 5, 6, 7, 8, 9, 10, 11, 12, 13, 14, 15, 16, 17, 18, 19, 20, 21, 22, 23, 24, 25, 26, 27, 28, 29] [] (by kernel_rfl) (by kernel_rfl) (Gr.drew _) ?_
          simp only [pickL, List.drop_succ_cons, List.drop_zero]
          iterate 2 refine rq_v (op_pure rfl) ?_
          refine rq_v (op_idx Try.underlying30 Try.sizeOf2 rfl rfl sa_lb (by omega) (by omega)) ?_
          refine rq_r (fun wq hq => op_ldR Try.underlying2 rfl rfl ((S.gr hq).rd (i := 0) rfl) hgi) ?_
          refine rq_v (op_b (b := true) rfl (decide_eq_true (by omega))) ?_
          refine rq_v (op_pure rfl) ?_
          refine rq_on rfl ?_
          refine rq_v (op_pure rfl) ?_
          refine rq_on rfl ?_
          refine rq_v (op_pure rfl) ?_
          refine rq_on rfl ?_
          refine rq_v (op_idx Try.underlying30 Try.sizeOf2 rfl rfl sa_lb (by omega) (by omega)) ?_
          refine rq_on rfl ?_
          refine rq_r (fun wq hq => op_ldR Try.underlying2 rfl rfl ((S.gr hq).rd (i := 0) rfl) hgi) ?_
          refine rq_on rfl ?_
          refine rq_v (op_pure rfl) ?_
          refine rq_on rfl ?_
          refine rq_v (op_fieldAddr Try.underlying40 rfl Try.sizeOf2 rfl rfl) ?_
          refine rq_on rfl ?_
          refine rq_r (fun wq hq => op_loadB Try.underlying2 rfl rfl ((S.gr hq).blk (i := 2) rfl) rfl) ?_
          refine rq_on rfl ?_
          refine rq_v (op_pure rfl) ?_
          refine rq_on rfl ?_
          refine rq_v (op_rng rfl (by generalize (Y : Int) * gw = P at *; omega)) ?_
          refine rq_on rfl ?_
          refine rq_v (op_fieldAddr Try.underlying40 rfl Try.sizeOf2 rfl rfl) ?_
          refine rq_on rfl ?_
          refine rq_r (fun wq hq => op_loadB Try.underlying2 rfl rfl ((S.gr hq).blk (i := 2) rfl) rfl) ?_
          refine rq_on rfl ?_
          refine rq_v (op_rng rfl (by rw [hidx]; omega)) ?_
          rw [hidx]
          refine rq_on rfl ?_
          refine rq_v (op_idx Try.underlying30 Try.sizeOf2 rfl rfl sa_lb (by omega) (by omega)) ?_
          refine rq_on rfl ?_
          refine rq_r (fun wq hq => op_ldR Try.underlying2 rfl rfl ((S.gr hq).rd (i := 0) rfl) hgq) ?_
          refine rq_on rfl ?_
          refine rq_v (op_b (b := true) rfl (beq_iff_eq.2 (by omega))) ?_
          iterate 2 refine rq_v (op_pure rfl) ?_
          refine rq_on rfl ?_
          refine rq_v (op_pure rfl) ?_
          refine rq_on rfl ?_
          refine rq_v (op_pure rfl) ?_
          refine rq_on rfl ?_
          refine rq_v (op_idx Try.underlying30 Try.sizeOf2 rfl rfl sa_A (by omega) (by omega)) ?_
          refine rq_on rfl ?_
          refine rq_r (fun wq hq => op_ldR Try.underlying2 rfl rfl (hA.gr (S.gr hq).out) hgv) ?_
          refine rq_on rfl ?_
          refine rq_v (op_pure rfl) ?_
          refine rq_on rfl ?_
          refine rq_v (op_b (b := true) rfl (decide_eq_true (by omega))) ?_
          refine rq_v (op_pure rfl) ?_
          refine rq_nil ?_
          intro w8_ g8_
          have S := S.gr g8_
          first | refine rw_end ?_ | (refine rw_nil ?_; show CW _ _ _ _ _ _) | refine rw_nil ?_
          repeat refine cw_seq ?_
          refine cw_true rfl ?_
          repeat refine cw_seq ?_
          refine cw_region ?_
          refine rw_v (op_pure rfl) ?_
          first | refine rw_end ?_ | (refine rw_nil ?_; show CW _ _ _ _ _ _) | refine rw_nil ?_
          repeat refine cw_seq ?_
          refine cw_ret ?_
          repeat first | refine ret_then ?_ | refine ret_inb ?_
          exact res1 rfl ⟨rfl, S.out⟩
        · skip
          repeat refine cw_seq ?_
          refine cw_region ?_
          iterate 2 refine rw_v (op_pure rfl) ?_
          refine rw_v (op_len Try.underlying30 rfl) ?_
          refine rw_v (op_b (b := true) rfl (decide_eq_true (by omega))) ?_
          first | refine rw_end ?_ | (refine rw_nil ?_; show CW _ _ _ _ _ _) | refine rw_nil ?_
          repeat refine cw_seq ?_
          refine cw_true rfl ?_
          repeat refine cw_seq ?_
          refine cw_skip ?_
          try show CW _ _ _ _ _ _
          repeat refine cw_seq ?_
          refine cw_block ?_
          repeat refine cw_seq ?_
          refine cw_draw (C := fun wq => Gr w wq) [0, 1, 2, 3, 4, 5, 6, 7, 8, 9, 10, 11, 12, 13, 14, 15, 16, 17, 18, 19, 20, 21, 22, 23, 24, 25, 26, 27, 28, 29] [] (by kernel_rfl) (by kernel_rfl) (Gr.drew _) ?_
          simp only [pickL, List.drop_succ_cons, List.drop_zero]
          iterate 2 refine rq_v (op_pure rfl) ?_
          refine rq_v (op_idx Try.underlying30 Try.sizeOf2 rfl rfl sa_lb (by omega) (by omega)) ?_
          refine rq_r (fun wq hq => op_ldR Try.underlying2 rfl rfl ((S.gr hq).rd (i := 0) rfl) hgi) ?_
          refine rq_v (op_b (b := true) rfl (decide_eq_true (by omega))) ?_
          refine rq_v (op_pure rfl) ?_
          refine rq_on rfl ?_
          refine rq_v (op_pure rfl) ?_
          refine rq_on rfl ?_
          refine rq_v (op_pure rfl) ?_
          refine rq_on rfl ?_
          refine rq_v (op_idx Try.underlying30 Try.sizeOf2 rfl rfl sa_lb (by omega) (by omega)) ?_
          refine rq_on rfl ?_
          refine rq_r (fun wq hq => op_ldR Try.underlying2 rfl rfl ((S.gr hq).rd (i := 0) rfl) hgi) ?_
          refine rq_on rfl ?_
          refine rq_v (op_pure rfl) ?_
          refine rq_on rfl ?_
          refine rq_v (op_fieldAddr Try.underlying40 rfl Try.sizeOf2 rfl rfl) ?_
          refine rq_on rfl ?_
          refine rq_r (fun wq hq => op_loadB Try.underlying2 rfl rfl ((S.gr hq).blk (i := 2) rfl) rfl) ?_
          refine rq_on rfl ?_
          refine rq_v (op_pure rfl) ?_
          refine rq_on rfl ?_
          refine rq_v (op_rng rfl (by generalize (Y : Int) * gw = P at *; omega)) ?_
          refine rq_on rfl ?_
          refine rq_v (op_fieldAddr Try.underlying40 rfl Try.sizeOf2 rfl rfl) ?_
          refine rq_on rfl ?_
          refine rq_r (fun wq hq => op_loadB Try.underlying2 rfl rfl ((S.gr hq).blk (i := 2) rfl) rfl) ?_
          refine rq_on rfl ?_
          refine rq_v (op_rng rfl (by rw [hidx]; omega)) ?_
          rw [hidx]
          refine rq_on rfl ?_
          refine rq_v (op_idx Try.underlying30 Try.sizeOf2 rfl rfl sa_lb (by omega) (by omega)) ?_
          refine rq_on rfl ?_
          refine rq_r (fun wq hq => op_ldR Try.underlying2 rfl rfl ((S.gr hq).rd (i := 0) rfl) hgq) ?_
          refine rq_on rfl ?_
          refine rq_v (op_b (b := true) rfl (beq_iff_eq.2 (by omega))) ?_
          iterate 2 refine rq_v (op_pure rfl) ?_
          refine rq_on rfl ?_
          refine rq_v (op_pure rfl) ?_
          refine rq_on rfl ?_
          refine rq_v (op_pure rfl) ?_
          refine rq_on rfl ?_
          refine rq_v (op_idx Try.underlying30 Try.sizeOf2 rfl rfl sa_A (by omega) (by omega)) ?_
          refine rq_on rfl ?_
          refine rq_r (fun wq hq => op_ldR Try.underlying2 rfl rfl (hA.gr (S.gr hq).out) hgv) ?_
          refine rq_on rfl ?_
          refine rq_v (op_pure rfl) ?_
          refine rq_on rfl ?_
          refine rq_v (op_b (b := false) rfl (decide_eq_false (by omega))) ?_
          refine rq_v (op_pure rfl) ?_
          refine rq_nil ?_
          intro w9_ g9_
          have S := S.gr g9_
          first | refine rw_end ?_ | (refine rw_nil ?_; show CW _ _ _ _ _ _) | refine rw_nil ?_
          repeat refine cw_seq ?_
          refine cw_false rfl ?_
          repeat refine cw_seq ?_
          refine cw_skip ?_
          try show CW _ _ _ _ _ _
          repeat refine cw_seq ?_
          refine cw_region ?_
          refine rw_v (op_pure rfl) ?_
          refine rw_v (op_rng rfl (by omega)) ?_
          refine rw_v (op_pure rfl) ?_
          first | refine rw_end ?_ | (refine rw_nil ?_; show CW _ _ _ _ _ _) | refine rw_nil ?_
          exact ⟨m - 1, by omega, i + 1, by omega, step (fun h => h3 h.2.2), ⟨rfl, rfl, rfl, rfl, rfl, ie (by omega), trivial⟩, S⟩
      · skip
        repeat refine cw_seq ?_
        refine cw_region ?_
        iterate 2 refine rw_v (op_pure rfl) ?_
        refine rw_v (op_len Try.underlying30 rfl) ?_
        refine rw_v (op_b (b := true) rfl (decide_eq_true (by omega))) ?_
        first | refine rw_end ?_ | (refine rw_nil ?_; show CW _ _ _ _ _ _) | refine rw_nil ?_
        repeat refine cw_seq ?_
        refine cw_true rfl ?_
        repeat refine cw_seq ?_
        refine cw_skip ?_
        try show CW _ _ _ _ _ _
        repeat refine cw_seq ?_
        refine cw_block ?_
        repeat refine cw_seq ?_
        refine cw_draw (C := fun wq => Gr w wq) [0, 1, 2, 3, 4, 5, 6, 7, 8, 9, 10, 11, 12, 13, 14, 15, 16, 17, 18, 19, 20, 21, 22, 23, 24, 25, 26, 27, 28, 29] [] (by kernel_rfl) (by kernel_rfl) (Gr.drew _) ?_
        simp only [pickL, List.drop_succ_cons, List.drop_zero]
        iterate 2 refine rq_v (op_pure rfl) ?_
        refine rq_v (op_idx Try.underlying30 Try.sizeOf2 rfl rfl sa_lb (by omega) (by omega)) ?_
        refine rq_r (fun wq hq => op_ldR Try.underlying2 rfl rfl ((S.gr hq).rd (i := 0) rfl) hgi) ?_
        refine rq_v (op_b (b := true) rfl (decide_eq_true (by omega))) ?_
        refine rq_v (op_pure rfl) ?_
        refine rq_on rfl ?_
        refine rq_v (op_pure rfl) ?_
        refine rq_on rfl ?_
        refine rq_v (op_pure rfl) ?_
        refine rq_on rfl ?_
        refine rq_v (op_idx Try.underlying30 Try.sizeOf2 rfl rfl sa_lb (by omega) (by omega)) ?_
        refine rq_on rfl ?_
        refine rq_r (fun wq hq => op_ldR Try.underlying2 rfl rfl ((S.gr hq).rd (i := 0) rfl) hgi) ?_
        refine rq_on rfl ?_
        refine rq_v (op_pure rfl) ?_
        refine rq_on rfl ?_
        refine rq_v (op_fieldAddr Try.underlying40 rfl Try.sizeOf2 rfl rfl) ?_
        refine rq_on rfl ?_
        refine rq_r (fun wq hq => op_loadB Try.underlying2 rfl rfl ((S.gr hq).blk (i := 2) rfl) rfl) ?_
        refine rq_on rfl ?_
        refine rq_v (op_pure rfl) ?_
        refine rq_on rfl ?_
        refine rq_v (op_rng rfl (by generalize (Y : Int) * gw = P at *; omega)) ?_
        refine rq_on rfl ?_
        refine rq_v (op_fieldAddr Try.underlying40 rfl Try.sizeOf2 rfl rfl) ?_
        refine rq_on rfl ?_
        refine rq_r (fun wq hq => op_loadB Try.underlying2 rfl rfl ((S.gr hq).blk (i := 2) rfl) rfl) ?_
        refine rq_on rfl ?_
        refine rq_v (op_rng rfl (by rw [hidx]; omega)) ?_
        rw [hidx]
        refine rq_on rfl ?_
        refine rq_v (op_idx Try.underlying30 Try.sizeOf2 rfl rfl sa_lb (by omega) (by omega)) ?_
        refine rq_on rfl ?_
        refine rq_r (fun wq hq => op_ldR Try.underlying2 rfl rfl ((S.gr hq).rd (i := 0) rfl) hgq) ?_
        refine rq_on rfl ?_
        refine rq_v (op_b (b := false) rfl (beq_eq_false_iff_ne.2 (by omega))) ?_
        iterate 2 refine rq_v (op_pure rfl) ?_
        refine rq_off rfl ?_
        refine rq_off rfl ?_
        refine rq_off rfl ?_
        refine rq_off rfl ?_
        refine rq_off rfl ?_
        refine rq_off rfl ?_
        refine rq_v (op_pure rfl) ?_
        refine rq_nil ?_
        intro w10_ g10_
        have S := S.gr g10_
        first | refine rw_end ?_ | (refine rw_nil ?_; show CW _ _ _ _ _ _) | refine rw_nil ?_
        repeat refine cw_seq ?_
        refine cw_false rfl ?_
        repeat refine cw_seq ?_
        refine cw_skip ?_
        try show CW _ _ _ _ _ _
        repeat refine cw_seq ?_
        refine cw_region ?_
        refine rw_v (op_pure rfl) ?_
        refine rw_v (op_rng rfl (by omega)) ?_
        refine rw_v (op_pure rfl) ?_
        first | refine rw_end ?_ | (refine rw_nil ?_; show CW _ _ _ _ _ _) | refine rw_nil ?_
        exact ⟨m - 1, by omega, i + 1, by omega, step (fun h => h2 h.2.1), ⟨rfl, rfl, rfl, rfl, rfl, ie (by omega), trivial⟩, S⟩
    · skip
      repeat refine cw_seq ?_
      refine cw_region ?_
      iterate 2 refine rw_v (op_pure rfl) ?_
      refine rw_v (op_len Try.underlying30 rfl) ?_
      refine rw_v (op_b (b := true) rfl (decide_eq_true (by omega))) ?_
      first | refine rw_end ?_ | (refine rw_nil ?_; show CW _ _ _ _ _ _) | refine rw_nil ?_
      repeat refine cw_seq ?_
      refine cw_true rfl ?_
      repeat refine cw_seq ?_
      refine cw_skip ?_
      try show CW _ _ _ _ _ _
      repeat refine cw_seq ?_
      refine cw_block ?_
      repeat refine cw_seq ?_
      refine cw_draw (C := fun wq => Gr w wq) [0, 1, 2, 3, 4, 5, 6, 7, 8, 9, 10, 11, 12, 13, 14, 15, 16, 17, 18, 19, 20, 21, 22, 23, 24, 25, 26, 27, 28, 29] [] (by kernel_rfl) (by kernel_rfl) (Gr.drew _) ?_
      simp only [pickL, List.drop_succ_cons, List.drop_zero]
      iterate 2 refine rq_v (op_pure rfl) ?_
      refine rq_v (op_idx Try.underlying30 Try.sizeOf2 rfl rfl sa_lb (by omega) (by omega)) ?_
      refine rq_r (fun wq hq => op_ldR Try.underlying2 rfl rfl ((S.gr hq).rd (i := 0) rfl) hgi) ?_
      refine rq_v (op_b (b := false) rfl (decide_eq_false (by omega))) ?_
      refine rq_v (op_pure rfl) ?_
      refine rq_off rfl ?_
      refine rq_off rfl ?_
      refine rq_off rfl ?_
      refine rq_off rfl ?_
      refine rq_off rfl ?_
      refine rq_off rfl ?_
      refine rq_off rfl ?_
      refine rq_off rfl ?_
      refine rq_off rfl ?_
      refine rq_off rfl ?_
      refine rq_off rfl ?_
      refine rq_off rfl ?_
      refine rq_off rfl ?_
      refine rq_off rfl ?_
      refine rq_off rfl ?_
      iterate 2 refine rq_v (op_pure rfl) ?_
      refine rq_off rfl ?_
      refine rq_off rfl ?_
      refine rq_off rfl ?_
      refine rq_off rfl ?_
      refine rq_off rfl ?_
      refine rq_off rfl ?_
      refine rq_v (op_pure rfl) ?_
      refine rq_nil ?_
      intro w11_ g11_
      have S := S.gr g11_
      first | refine rw_end ?_ | (refine rw_nil ?_; show CW _ _ _ _ _ _) | refine rw_nil ?_
      repeat refine cw_seq ?_
      refine cw_false rfl ?_
      repeat refine cw_seq ?_
      refine cw_skip ?_
      try show CW _ _ _ _ _ _
      repeat refine cw_seq ?_
      refine cw_region ?_
      refine rw_v (op_pure rfl) ?_
      refine rw_v (op_rng rfl (by omega)) ?_
      refine rw_v (op_pure rfl) ?_
      first | refine rw_end ?_ | (refine rw_nil ?_; show CW _ _ _ _ _ _) | refine rw_nil ?_
      exact ⟨m - 1, by omega, i + 1, by omega, step (fun h => h1 h.1), ⟨rfl, rfl, rfl, rfl, rfl, ie (by omega), trivial⟩, S⟩
  · obtain rfl : i = V.length := by omega
    have hbf : b = false := by
      cases b with
      | false => rfl
      | true =>
        obtain ⟨j, hj, h⟩ := hb.1 rfl
        exact absurd h (hno j hj)
    subst hbf
    repeat refine cw_seq ?_
    refine cw_region ?_
    iterate 2 refine rw_v (op_pure rfl) ?_
    refine rw_v (op_len Try.underlying30 rfl) ?_
    refine rw_v (op_b (b := false) rfl (decide_eq_false (by omega))) ?_
    first | refine rw_end ?_ | (refine rw_nil ?_; show CW _ _ _ _ _ _) | refine rw_nil ?_
    repeat refine cw_seq ?_
    refine cw_false rfl ?_
    repeat refine cw_seq ?_
    refine cw_exit ?_
    repeat first | refine exit_then ?_ | refine exit_inb ?_
    show CW _ _ _ _ _ _
    repeat refine cw_seq ?_
    refine cw_region ?_
    refine rw_v (op_pure rfl) ?_
    first | refine rw_end ?_ | (refine rw_nil ?_; show CW _ _ _ _ _ _) | refine rw_nil ?_
    repeat refine cw_seq ?_
    refine cw_ret ?_
    repeat first | refine ret_then ?_ | refine ret_inb ?_
    exact res1 rfl ⟨rfl, S.out⟩
end
end Go.Proofs.Ytiidmiebckkloaa
/- hachurelaw46.PeaksJoin: the walk. -/
namespace Go.Proofs.Ytiidmiebckkloaa
open Go.RowKit
set_option linter.unusedVariables false
set_option linter.unusedSimpArgs false
set_option maxRecDepth 100000

def mnA (V : List Int) : Nat → Int
  | 0 => V.getD 0 0
  | k + 1 => min (mnA V k) (V.getD k 0)
def mxA (V : List Int) : Nat → Int
  | 0 => V.getD 0 0
  | k + 1 => max (mxA V k) (V.getD k 0)
theorem mnA_spec {V : List Int} (h0 : 1 ≤ V.length) : ∀ k, k ≤ V.length → (∃ i, i < V.length ∧ V.getD i 0 = mnA V k) ∧ ∀ i, i < k → mnA V k ≤ V.getD i 0
  | 0, _ => ⟨⟨0, h0, rfl⟩, fun i hi => by omega⟩
  | k + 1, hk => by
    obtain ⟨⟨i, hi, he⟩, h2⟩ := mnA_spec h0 k (by omega)
    refine ⟨?_, fun j hj => ?_⟩
    · show ∃ i, i < V.length ∧ V.getD i 0 = min (mnA V k) (V.getD k 0)
      rcases Int.le_total (mnA V k) (V.getD k 0) with h | h
      · exact ⟨i, hi, by rw [he]; omega⟩
      · exact ⟨k, by omega, by omega⟩
    · show min (mnA V k) (V.getD k 0) ≤ _
      by_cases e : j = k
      · subst e; omega
      · have := h2 j (by omega); omega
theorem mxA_spec {V : List Int} (h0 : 1 ≤ V.length) : ∀ k, k ≤ V.length → (∃ i, i < V.length ∧ V.getD i 0 = mxA V k) ∧ ∀ i, i < k → V.getD i 0 ≤ mxA V k
  | 0, _ => ⟨⟨0, h0, rfl⟩, fun i hi => by omega⟩
  | k + 1, hk => by
    obtain ⟨⟨i, hi, he⟩, h2⟩ := mxA_spec h0 k (by omega)
    refine ⟨?_, fun j hj => ?_⟩
    · show ∃ i, i < V.length ∧ V.getD i 0 = max (mxA V k) (V.getD k 0)
      rcases Int.le_total (mxA V k) (V.getD k 0) with h | h
      · exact ⟨k, by omega, by omega⟩
      · exact ⟨i, hi, by rw [he]; omega⟩
    · show _ ≤ max (mxA V k) (V.getD k 0)
      by_cases e : j = k
      · subst e; omega
      · have := h2 j (by omega); omega
theorem plat_reg {gw : Nat} {V : List Int} {q : Nat} {r : Nat → Nat} (hq : q < V.length) (hr : pR gw V q = q) (ht : TopP gw V q) (h : Roots gw V (V.getD q 0) r) : (regL V.length r q V.length).length = (plat gw V q).length := by
  unfold regL plat
  congr 1
  refine List.filter_congr fun i hi => ?_
  have hi := List.mem_range.1 hi
  rw [Bool.eq_iff_iff, decide_eq_true_iff, decide_eq_true_iff, ← plat_conn hq hr ht hi, ← h.iff hq hi]
  exact eq_comm
/-- a highest cell's first is a head -/
theorem heads_pos {gw gh : Nat} {V : List Int} (h0 : 1 ≤ V.length) : 1 ≤ (headsN gw V V.length).length := by
  obtain ⟨⟨i, hi, he⟩, h2⟩ := mxA_spec h0 V.length (Nat.le_refl _)
  have hq := pR_lt (gw := gw) hi
  have hv := pR_val (gw := gw) hi
  have : pR gw V i ∈ headsN gw V V.length := mem_headsN.2 ⟨hq, pR_idem hi, fun a b _ hb _ _ => by have := h2 b hb; omega⟩
  exact List.length_pos_of_mem this
section
variable {W : World} {A : Option Addr} {V : List Int}
set_option maxHeartbeats 8000000 in
theorem peaksJoin_E (w h : Int) (cap : Nat) (hl : V.length ≤ 9223372036854775807) (hA : Rd W A (ints V)) :
    Fn Try.prog 6 [.int .i64 w, .int .i64 h, .slice A V.length cap] W (RetG (.bool true) W) := by
  by_cases hok : LandOk w h V 400
  · obtain ⟨gw, rfl⟩ := Int.eq_ofNat_of_zero_le (show 0 ≤ w by have := hok.w1; omega)
    obtain ⟨gh, rfl⟩ := Int.eq_ofNat_of_zero_le (show 0 ≤ h by have := hok.h1; omega)
    have hw : 1 ≤ gw ∧ gw ≤ 1024 := by have := hok.w1; have := hok.wm; omega
    have hh : 1 ≤ gh ∧ gh ≤ 1024 := by have := hok.h1; have := hok.hm; omega
    have hmi : (gw : Int) * gh = ((gw * gh : Nat) : Int) := by push_cast; rfl
    have hVg : V.length = gw * gh := by have := hok.len; rw [hmi] at this; omega
    have hm : gw * gh ≤ 400 := by have := hok.area; rw [hmi] at this; omega
    have hpos : 1 ≤ gw * gh := Nat.mul_le_mul hw.1 hh.1
    have hmay := hok.may
    have hbd := pmay_bnd hmay
    have hGl := gridL_made hVg
    have hof := fun (p : Nat) (B2 : Option Addr) (bc : Nat) (bs : Nat → Nat) (Rs : Nat → Option Nat) (w : World) (hG : GridAt w p gw gh (fun i => V.getD i 0) B2 bc bs Rs) => pof_E (W := w) (by rw [hGl]; exact hbd) hG
    rw [hGl] at hof
    have hHp := heads_pos (gw := gw) (gh := gh) (V := V) (by omega)
    have hHl := headsN_len gw V V.length
    have hPl : (peaksL gw V).length = (headsN gw V V.length).length := by unfold peaksL; rw [List.length_map]
    have hgl : ∀ (i q : Nat) (r : Nat), (headsN gw V V.length)[i]? = some q → r < 5 → ((peaksL gw V).flatMap (encPk gw))[(i : Int).toNat * 5 + r]? = (encPk gw (pkAt gw V (riseN gw V) q))[r]? := fun i q r h hr => by unfold peaksL; exact pk_get h r hr
    have hheads : ∀ i, i < (headsN gw V V.length).length → ∃ q, (headsN gw V V.length)[i]? = some q ∧ q < V.length ∧ pR gw V q = q ∧ TopP gw V q := fun i hi => by
      have := mem_headsN.1 (List.getElem_mem hi)
      exact ⟨_, List.getElem?_eq_getElem hi, this⟩
    rw [hPl] at hof
    generalize (peaksL gw V).flatMap (encPk gw) = XL at *
    generalize hHn : headsN gw V V.length = H at *
    clear hPl
    have hget : ∀ i, i < V.length → (ints V)[(i : Int).toNat * 1]? = some (.int .i64 (V.getD i 0)) := fun i hi => by rw [Nat.mul_one, Int.toNat_natCast]; exact ints_get (getD_at hi)
    have hmn := mnA_spec (V := V) (by omega) V.length (Nat.le_refl _)
    have hmx := mxA_spec (V := V) (by omega) V.length (Nat.le_refl _)
    have sa_A : SomeA A := hA.someA (by rw [ints_len]; omega)
    have G := Gr.refl W
    have S := St.start W
    refine Fn_enter Try.func6 rfl Try.results6 Try.ntmps6 (by kernel_rfl) (by kernel_rfl) ?_
    repeat refine cw_seq ?_
    refine cw_region ?_
    refine rw_v (op_pure rfl) ?_
    first | refine rw_end ?_ | (refine rw_nil ?_; show CW _ _ _ _ _ _) | refine rw_nil ?_
    repeat refine cw_seq ?_
    refine cw_region ?_
    refine rw_call rfl (awake46_E W) ?_
    rintro _ w1_ ⟨rfl, g1_⟩
    have S := S.gr g1_
    refine rw_v (op_pure rfl) ?_
    first | refine rw_end ?_ | (refine rw_nil ?_; show CW _ _ _ _ _ _) | refine rw_nil ?_
    repeat refine cw_seq ?_
    refine cw_false rfl ?_
    repeat refine cw_seq ?_
    refine cw_skip ?_
    try show CW _ _ _ _ _ _
    repeat refine cw_seq ?_
    refine cw_region ?_
    iterate 3 refine rw_v (op_pure rfl) ?_
    refine rw_call rfl (land_E gw gh 400 cap (by omega) hok (hA.gr S.out)) ?_
    rintro _ w2_ ⟨rfl, g2_⟩
    have S := S.gr g2_
    iterate 3 refine rw_v (op_pure rfl) ?_
    refine rw_newB (op_alloc Try.zeroValue32 rfl) S ?_
    intro b_md w4_ g4_ S
    refine rw_storeSA (i := 0) S rfl (Try.sizeOf32 _) rfl rfl rfl rfl rfl rfl ?_
    intro w5_ S
    refine rw_v (op_pure rfl) ?_
    first | refine rw_end ?_ | (refine rw_nil ?_; show CW _ _ _ _ _ _) | refine rw_nil ?_
    repeat refine cw_seq ?_
    refine cw_region ?_
    iterate 2 refine rw_v (op_pure rfl) ?_
    first | refine rw_end ?_ | (refine rw_nil ?_; show CW _ _ _ _ _ _) | refine rw_nil ?_
    repeat refine cw_seq ?_
    refine cw_false rfl ?_
    repeat refine cw_seq ?_
    refine cw_skip ?_
    try show CW _ _ _ _ _ _
    repeat refine cw_seq ?_
    refine cw_region ?_
    iterate 3 refine rw_v (op_pure rfl) ?_
    refine rw_call rfl (made_E gw gh cap hw hh hVg hmay (hA.gr S.out)) ?_
    rintro _ w6_ ⟨p, B2, bc, bs, Rs, rfl, hG, hf, g6_⟩
    have S := S.pushGrid hG hf g6_
    iterate 5 refine rw_v (op_pure rfl) ?_
    first | refine rw_end ?_ | (refine rw_nil ?_; show CW _ _ _ _ _ _) | refine rw_nil ?_
    repeat refine cw_seq ?_
    refine cw_region ?_
    refine rw_v (op_pure rfl) ?_
    refine rw_call rfl (hof p B2 bc bs Rs w6_ (S.grid (i := 0) rfl)) ?_
    rintro _ w7_ ⟨A_al, c_al, rfl, hR_al, hf_al, g7_⟩
    have S := S.pushRow hR_al hf_al g7_
    iterate 5 refine rw_v (op_pure rfl) ?_
    first | refine rw_end ?_ | (refine rw_nil ?_; show CW _ _ _ _ _ _) | refine rw_nil ?_
    repeat refine cw_seq ?_
    refine cw_region ?_
    iterate 3 refine rw_v (op_pure rfl) ?_
    first | refine rw_off rfl ?_ | (refine rw_on rfl ?_; refine rw_v (op_pure rfl) ?_)
    first | refine rw_off rfl ?_ | (refine rw_on rfl ?_; refine rw_v (op_b (b := false) rfl (bne_eq_false_iff_eq.2 (by omega))) ?_)
    iterate 2 refine rw_v (op_pure rfl) ?_
    first | refine rw_off rfl ?_ | (refine rw_on rfl ?_; refine rw_v (op_pure rfl) ?_)
    first | refine rw_off rfl ?_ | (refine rw_on rfl ?_; refine rw_v (op_len Try.underlying23 rfl) ?_)
    first | refine rw_off rfl ?_ | (refine rw_on rfl ?_; refine rw_v (op_b (b := false) rfl (beq_eq_false_iff_ne.2 (by omega))) ?_)
    refine rw_v (op_pure rfl) ?_
    first | refine rw_end ?_ | (refine rw_nil ?_; show CW _ _ _ _ _ _) | refine rw_nil ?_
    repeat refine cw_seq ?_
    refine cw_false rfl ?_
    repeat refine cw_seq ?_
    refine cw_skip ?_
    try show CW _ _ _ _ _ _
    repeat refine cw_seq ?_
    refine cw_draw (C := fun wq => Gr w7_ wq) [0, 1, 2, 3, 4, 5, 6, 7] [] (by kernel_rfl) (by kernel_rfl) (Gr.drew _) ?_
    simp only [pickL, List.drop_succ_cons, List.drop_zero]
    refine rq_v (op_pure rfl) ?_
    refine rq_v (op_idx Try.underlying30 Try.sizeOf2 rfl rfl sa_A (by omega) (by omega)) ?_
    refine rq_r (fun wq hq => op_ldR Try.underlying2 rfl rfl (hA.gr (S.gr hq).out) (hget 0 (by omega))) ?_
    refine rq_v (op_pure rfl) ?_
    refine rq_v (op_idx Try.underlying30 Try.sizeOf2 rfl rfl sa_A (by omega) (by omega)) ?_
    refine rq_r (fun wq hq => op_ldR Try.underlying2 rfl rfl (hA.gr (S.gr hq).out) (hget 0 (by omega))) ?_
    iterate 2 refine rq_v (op_pure rfl) ?_
    refine rq_nil ?_
    intro w8_ g8_
    have S := S.gr g8_
    first | refine rw_end ?_ | (refine rw_nil ?_; show CW _ _ _ _ _ _) | refine rw_nil ?_
    repeat refine cw_seq ?_
    refine cw_region ?_
    refine rw_v (op_pure rfl) ?_
    first | refine rw_end ?_ | (refine rw_nil ?_; show CW _ _ _ _ _ _) | refine rw_nil ?_
    repeat refine cw_seq ?_
    refine cw_block ?_
    repeat refine cw_seq ?_
    refine cw_loop (fun m e w => ∃ k : Nat, k + m = V.length ∧ SL e [(2, .slice A V.length cap), (7, .pointer (some ⟨b_md, 0, none⟩)), (9, .pointer (some ⟨p, 0, none⟩)), (10, .slice A_al H.length c_al), (12, .int .i64 (mnA V k)), (13, .int .i64 (mxA V k)), (14, .int .i64 k)] ∧
      St No W w [.row 42 5 A_al H.length c_al XL, .grid p gw gh (fun i => V.getD i 0) B2 bc bs Rs, .blk b_md 32 [.int .i64 gw, .int .i64 gh, .slice A V.length cap]]) V.length
      ⟨0, by omega, ⟨rfl, rfl, rfl, rfl, rfl, rfl, rfl, trivial⟩, S⟩ ?_
    clear S
    rintro m e w ⟨k, hk, hsl, S⟩
    rw [hsl.fold]
    by_cases hkn : k < V.length
    · have e1 : mnA V (k + 1) = min (mnA V k) (V.getD k 0) := rfl
      have e2 : mxA V (k + 1) = max (mxA V k) (V.getD k 0) := rfl
      repeat refine cw_seq ?_
      refine cw_region ?_
      iterate 2 refine rw_v (op_pure rfl) ?_
      refine rw_v (op_len Try.underlying30 rfl) ?_
      refine rw_v (op_b (b := true) rfl (decide_eq_true (by omega))) ?_
      first | refine rw_end ?_ | (refine rw_nil ?_; show CW _ _ _ _ _ _) | refine rw_nil ?_
      repeat refine cw_seq ?_
      refine cw_true rfl ?_
      repeat refine cw_seq ?_
      refine cw_skip ?_
      try show CW _ _ _ _ _ _
      repeat refine cw_seq ?_
      refine cw_block ?_
      repeat refine cw_seq ?_
      refine cw_region ?_
      iterate 3 refine rw_v (op_pure rfl) ?_
      refine rw_v (op_idx Try.underlying30 Try.sizeOf2 rfl rfl sa_A (by omega) (by omega)) ?_
      refine rw_r (op_ldR Try.underlying2 rfl rfl (hA.gr S.out) (hget k hkn)) ?_
      iterate 2 refine rw_v (op_pure rfl) ?_
      first | refine rw_end ?_ | (refine rw_nil ?_; show CW _ _ _ _ _ _) | refine rw_nil ?_
      repeat refine cw_seq ?_
      refine cw_region ?_
      iterate 3 refine rw_v (op_pure rfl) ?_
      refine rw_v (op_idx Try.underlying30 Try.sizeOf2 rfl rfl sa_A (by omega) (by omega)) ?_
      refine rw_r (op_ldR Try.underlying2 rfl rfl (hA.gr S.out) (hget k hkn)) ?_
      iterate 2 refine rw_v (op_pure rfl) ?_
      first | refine rw_end ?_ | (refine rw_nil ?_; show CW _ _ _ _ _ _) | refine rw_nil ?_
      repeat refine cw_seq ?_
      refine cw_region ?_
      refine rw_v (op_pure rfl) ?_
      refine rw_v (op_rng rfl (by omega)) ?_
      refine rw_v (op_pure rfl) ?_
      first | refine rw_end ?_ | (refine rw_nil ?_; show CW _ _ _ _ _ _) | refine rw_nil ?_
      exact ⟨m - 1, by omega, k + 1, by omega, ⟨rfl, rfl, rfl, rfl, ie (by rw [e1]), ie (by rw [e2]), ie (by omega), trivial⟩, S⟩
    · obtain rfl : k = V.length := by omega
      have hlo := hbd
      have hminV : IsMin V (mnA V V.length) := ⟨hmn.1, fun i hi => hmn.2 i hi⟩
      have hb1 : -2147483648 ≤ mnA V V.length ∧ mnA V V.length ≤ 2147483647 := by obtain ⟨⟨i, hi, he⟩, _⟩ := hmn; rw [← he]; exact hbd i
      have hb2 : -2147483648 ≤ mxA V V.length ∧ mxA V V.length ≤ 2147483647 := by obtain ⟨⟨i, hi, he⟩, _⟩ := hmx; rw [← he]; exact hbd i
      generalize mnA V V.length = lo at *
      generalize mxA V V.length = hi at *
      repeat refine cw_seq ?_
      refine cw_region ?_
      iterate 2 refine rw_v (op_pure rfl) ?_
      refine rw_v (op_len Try.underlying30 rfl) ?_
      refine rw_v (op_b (b := false) rfl (decide_eq_false (by omega))) ?_
      first | refine rw_end ?_ | (refine rw_nil ?_; show CW _ _ _ _ _ _) | refine rw_nil ?_
      repeat refine cw_seq ?_
      refine cw_false rfl ?_
      repeat refine cw_seq ?_
      refine cw_exit ?_
      repeat first | refine exit_then ?_ | refine exit_inb ?_
      show CW _ _ _ _ _ _
      repeat refine cw_seq ?_
      refine cw_region ?_
      refine rw_v (op_pure rfl) ?_
      first | refine rw_end ?_ | (refine rw_nil ?_; show CW _ _ _ _ _ _) | refine rw_nil ?_
      repeat refine cw_seq ?_
      refine cw_block ?_
      repeat refine cw_seq ?_
      refine cw_loop (fun m e w => ∃ i : Nat, i + m = H.length ∧ SL e [(2, .slice A V.length cap), (7, .pointer (some ⟨b_md, 0, none⟩)), (9, .pointer (some ⟨p, 0, none⟩)), (10, .slice A_al H.length c_al), (12, .int .i64 lo), (13, .int .i64 hi), (15, .int .i64 i)] ∧
        St No W w [.row 42 5 A_al H.length c_al XL, .grid p gw gh (fun i => V.getD i 0) B2 bc bs Rs, .blk b_md 32 [.int .i64 gw, .int .i64 gh, .slice A V.length cap]]) H.length
        ⟨0, by omega, ⟨rfl, rfl, rfl, rfl, rfl, rfl, rfl, trivial⟩, S⟩ ?_
      clear S
      rintro m e w ⟨i, hi2, hsl, S⟩
      rw [hsl.fold]
      by_cases hin : i < H.length
      · obtain ⟨q, hq, hql, hqr, hqt⟩ := hheads i hin
        have hri := rise_exists (gw := gw) (gh := gh) hw.1 hVg hql
        have g2 : XL[(i : Int).toNat * 5 + 2]? = some (.int .i64 (V.getD q 0)) := hgl i q 2 hq (by omega)
        have g3 : XL[(i : Int).toNat * 5 + 3]? = some (.int .i64 ((plat gw V q).length : Nat)) := hgl i q 3 hq (by omega)
        have g4 : XL[(i : Int).toNat * 5 + 4]? = some (.int .i64 (riseN gw V q)) := hgl i q 4 hq (by omega)
        have g01 : (XL.drop ((i : Int).toNat * 5 + 0)).take 2 = [.int .i64 (q % gw : Nat), .int .i64 (q / gw : Nat)] := by
          apply List.ext_getElem?
          intro r
          rw [List.getElem?_take, List.getElem?_drop, Nat.add_assoc]
          match r with
          | 0 => rw [if_pos (by omega), hgl i q 0 hq (by omega)]; rfl
          | 1 => rw [if_pos (by omega), hgl i q 1 hq (by omega)]; rfl
          | r + 2 => rw [if_neg (by omega)]; rfl
        have sa_al : SomeA A_al := (S.row (i := 0) rfl).someA (by omega)
        have hbq := hbd q
        have hmat := fun w h => matI_E (W := w) (A := A) (cap := cap) (V := V) (gw := gw) (gh := gh) q hw.1 (by omega) hVg (by omega) h
        have hqmx := hmx.2 q hql
        have hrise0 : 0 ≤ riseN gw V q ∧ riseN gw V q ≤ 4294967295 ∧ (V.getD q 0 ≠ hi → 1 ≤ riseN gw V q ∧ IsKey gw V q (V.getD q 0 - riseN gw V q)) ∧ (V.getD q 0 = hi → riseN gw V q = hi - lo) := by
          have hlo2 : lo ≤ V.getD q 0 := hminV.2 q hql
          rcases hri with hk | ⟨hno, hmin⟩
          · have h1 := hk.1.top hql hqr hqt
            obtain ⟨j, hj, c, hv⟩ := hk.1
            have h2 := hmx.2 j hj
            have h3 : lo ≤ V.getD q 0 - riseN gw V q := by
              have hlow : HiC gw V lo q := by
                have c := fun i hi => grid_conn29 (gh := gh) (V := V) (u := lo) hw.1 hminV.2 i hi
                exact ⟨j, hj, (c q hql).trans (c j hj).symm, hv⟩
              rcases Int.lt_or_le (V.getD q 0 - riseN gw V q) lo with h | h
              · exact absurd hlow (hk.2 lo h)
              · exact h
            exact ⟨by omega, by omega, fun _ => ⟨by omega, hk⟩, fun e => by omega⟩
          · have h1 := hmin.uniq hminV
            refine ⟨by omega, by omega, fun hne => ?_, fun e => by omega⟩
            exfalso
            obtain ⟨⟨j, hj, he⟩, _⟩ := hmx
            have c := fun i hi => grid_conn29 (gh := gh) (V := V) (u := lo) hw.1 hminV.2 i hi
            exact hno lo ⟨j, hj, (c q hql).trans (c j hj).symm, by omega⟩
        obtain ⟨hr0, hr1, hr2, hr3⟩ := hrise0
        by_cases heq : V.getD q 0 = hi
        · have hr4 := hr3 heq
          repeat refine cw_seq ?_
          refine cw_region ?_
          iterate 2 refine rw_v (op_pure rfl) ?_
          refine rw_v (op_len Try.underlying23 rfl) ?_
          refine rw_v (op_b (b := true) rfl (decide_eq_true (by omega))) ?_
          first | refine rw_end ?_ | (refine rw_nil ?_; show CW _ _ _ _ _ _) | refine rw_nil ?_
          repeat refine cw_seq ?_
          refine cw_true rfl ?_
          repeat refine cw_seq ?_
          refine cw_skip ?_
          try show CW _ _ _ _ _ _
          repeat refine cw_seq ?_
          refine cw_block ?_
          repeat refine cw_seq ?_
          refine cw_draw (C := fun wq => Gr w wq) [0, 1, 2, 3, 4, 5, 6, 7, 8, 9, 10, 11] [] (by kernel_rfl) (by kernel_rfl) (Gr.drew _) ?_
          simp only [pickL, List.drop_succ_cons, List.drop_zero]
          refine rq_r (fun wq hq => op_loadAB Try.underlying32 rfl (Try.sizeOf32 _) rfl ((S.gr hq).blk (i := 2) rfl) rfl rfl) ?_
          iterate 2 refine rq_v (op_pure rfl) ?_
          refine rq_v (op_idx Try.underlying23 Try.sizeOf42 rfl rfl sa_al (by omega) (by omega)) ?_
          refine rq_v (op_fld Try.underlying42 rfl Try.sizeOf40 rfl rfl sa_al) ?_
          refine rq_r (fun wq hq => op_ldRA Try.underlying40 rfl (Try.sizeOf40 _) rfl ((S.gr hq).rd (i := 0) rfl) g01 rfl rfl) ?_
          refine rq_call rfl (fun wq hq => (hmat wq (hA.gr (G.trans ((S.gr hq).out)))).mono (fun _ _ ⟨hv, hg⟩ => ⟨hv, hq.trans hg⟩)) ?_
          iterate 5 refine rq_v (op_pure rfl) ?_
          refine rq_nil ?_
          intro w9_ g9_
          have S := S.gr g9_
          first | refine rw_end ?_ | (refine rw_nil ?_; show CW _ _ _ _ _ _) | refine rw_nil ?_
          repeat refine cw_seq ?_
          refine cw_region ?_
          refine rw_v (op_pure rfl) ?_
          refine rw_v (op_b (b := false) rfl (bne_eq_false_iff_eq.2 (by omega))) ?_
          refine rw_v (op_pure rfl) ?_
          first | refine rw_off rfl ?_ | (refine rw_on rfl ?_; refine rw_v (op_pure rfl) ?_)
          first | refine rw_off rfl ?_ | (refine rw_on rfl ?_; refine rw_v (op_pure rfl) ?_)
          first | refine rw_off rfl ?_ | (refine rw_on rfl ?_; refine rw_v (op_pure rfl) ?_)
          first | refine rw_off rfl ?_ | (refine rw_on rfl ?_; refine rw_v (op_idx Try.underlying23 Try.sizeOf42 rfl rfl sa_al (by omega) (by omega)) ?_)
          first | refine rw_off rfl ?_ | (refine rw_on rfl ?_; refine rw_v (op_fld Try.underlying42 rfl Try.sizeOf2 rfl rfl sa_al) ?_)
          first | refine rw_off rfl ?_ | (refine rw_on rfl ?_; refine rw_r (op_ldR Try.underlying2 rfl rfl (S.rd (i := 0) rfl) g2) ?_)
          first | refine rw_off rfl ?_ | (refine rw_on rfl ?_; refine rw_v (op_b (b := false) rfl (bne_eq_false_iff_eq.2 (by omega))) ?_)
          iterate 2 refine rw_v (op_pure rfl) ?_
          first | refine rw_off rfl ?_ | (refine rw_on rfl ?_; refine rw_v (op_pure rfl) ?_)
          first | refine rw_off rfl ?_ | (refine rw_on rfl ?_; refine rw_v (op_pure rfl) ?_)
          first | refine rw_off rfl ?_ | (refine rw_on rfl ?_; refine rw_v (op_idx Try.underlying23 Try.sizeOf42 rfl rfl sa_al (by omega) (by omega)) ?_)
          first | refine rw_off rfl ?_ | (refine rw_on rfl ?_; refine rw_v (op_fld Try.underlying42 rfl Try.sizeOf2 rfl rfl sa_al) ?_)
          first | refine rw_off rfl ?_ | (refine rw_on rfl ?_; refine rw_r (op_ldR Try.underlying2 rfl rfl (S.rd (i := 0) rfl) g4) ?_)
          first | refine rw_off rfl ?_ | (refine rw_on rfl ?_; refine rw_v (op_b (b := false) rfl (decide_eq_false (by omega))) ?_)
          refine rw_v (op_pure rfl) ?_
          first | refine rw_end ?_ | (refine rw_nil ?_; show CW _ _ _ _ _ _) | refine rw_nil ?_
          repeat refine cw_seq ?_
          refine cw_false rfl ?_
          repeat refine cw_seq ?_
          refine cw_skip ?_
          try show CW _ _ _ _ _ _
          repeat refine cw_seq ?_
          refine cw_region ?_
          iterate 2 refine rw_v (op_pure rfl) ?_
          refine rw_v (op_b (b := true) rfl (beq_iff_eq.2 (by omega))) ?_
          first | refine rw_end ?_ | (refine rw_nil ?_; show CW _ _ _ _ _ _) | refine rw_nil ?_
          repeat refine cw_seq ?_
          refine cw_true rfl ?_
          repeat refine cw_seq ?_
          refine cw_region ?_
          iterate 2 refine rw_v (op_pure rfl) ?_
          refine rw_v (op_idx Try.underlying23 Try.sizeOf42 rfl rfl sa_al (by omega) (by omega)) ?_
          refine rw_v (op_fld Try.underlying42 rfl Try.sizeOf2 rfl rfl sa_al) ?_
          refine rw_r (op_ldR Try.underlying2 rfl rfl (S.rd (i := 0) rfl) g4) ?_
          iterate 2 refine rw_v (op_pure rfl) ?_
          refine rw_v (op_rng rfl (by omega)) ?_
          refine rw_v (op_b (b := false) rfl (bne_eq_false_iff_eq.2 (by omega))) ?_
          first | refine rw_end ?_ | (refine rw_nil ?_; show CW _ _ _ _ _ _) | refine rw_nil ?_
          repeat refine cw_seq ?_
          refine cw_false rfl ?_
          repeat refine cw_seq ?_
          refine cw_skip ?_
          try show CW _ _ _ _ _ _
          repeat refine cw_seq ?_
          refine cw_exit ?_
          repeat first | refine exit_then ?_ | refine exit_inb ?_
          show CW _ _ _ _ _ _
          repeat refine cw_seq ?_
          refine cw_region ?_
          refine rw_v (op_pure rfl) ?_
          refine rw_v (op_rng rfl (by omega)) ?_
          refine rw_v (op_pure rfl) ?_
          first | refine rw_end ?_ | (refine rw_nil ?_; show CW _ _ _ _ _ _) | refine rw_nil ?_
          exact ⟨m - 1, by omega, i + 1, by omega, ⟨rfl, rfl, rfl, rfl, rfl, rfl, ie (by omega), trivial⟩, S⟩
        · obtain ⟨hr5, hkey⟩ := hr2 heq
          have hT := fun w h => higher_E (W := w) (A := A) (cap := cap) q (V.getD q 0 - riseN gw V q) true hw hh hok hVg (by omega) (by omega) ⟨fun _ => hkey.1, fun _ => rfl⟩ h
          have hF := fun w h => higher_E (W := w) (A := A) (cap := cap) q (V.getD q 0 - riseN gw V q + 1) false hw hh hok hVg (by omega) (by omega) ⟨fun h => (by cases h), fun h => absurd h (hkey.2 _ (by omega))⟩ h
          have hfl := fun w (hG : GridAt w p gw gh (fun i => V.getD i 0) B2 bc bs Rs) => pflood_E (W := w) q (V.getD q 0) (by omega) (by rw [hGl]; exact Int.le_refl _) hG
          rw [hGl, ← hVg] at hfl
          repeat refine cw_seq ?_
          refine cw_region ?_
          iterate 2 refine rw_v (op_pure rfl) ?_
          refine rw_v (op_len Try.underlying23 rfl) ?_
          refine rw_v (op_b (b := true) rfl (decide_eq_true (by omega))) ?_
          first | refine rw_end ?_ | (refine rw_nil ?_; show CW _ _ _ _ _ _) | refine rw_nil ?_
          repeat refine cw_seq ?_
          refine cw_true rfl ?_
          repeat refine cw_seq ?_
          refine cw_skip ?_
          try show CW _ _ _ _ _ _
          repeat refine cw_seq ?_
          refine cw_block ?_
          repeat refine cw_seq ?_
          refine cw_draw (C := fun wq => Gr w wq) [0, 1, 2, 3, 4, 5, 6, 7, 8, 9, 10, 11] [] (by kernel_rfl) (by kernel_rfl) (Gr.drew _) ?_
          simp only [pickL, List.drop_succ_cons, List.drop_zero]
          refine rq_r (fun wq hq => op_loadAB Try.underlying32 rfl (Try.sizeOf32 _) rfl ((S.gr hq).blk (i := 2) rfl) rfl rfl) ?_
          iterate 2 refine rq_v (op_pure rfl) ?_
          refine rq_v (op_idx Try.underlying23 Try.sizeOf42 rfl rfl sa_al (by omega) (by omega)) ?_
          refine rq_v (op_fld Try.underlying42 rfl Try.sizeOf40 rfl rfl sa_al) ?_
          refine rq_r (fun wq hq => op_ldRA Try.underlying40 rfl (Try.sizeOf40 _) rfl ((S.gr hq).rd (i := 0) rfl) g01 rfl rfl) ?_
          refine rq_call rfl (fun wq hq => (hmat wq (hA.gr (G.trans ((S.gr hq).out)))).mono (fun _ _ ⟨hv, hg⟩ => ⟨hv, hq.trans hg⟩)) ?_
          iterate 5 refine rq_v (op_pure rfl) ?_
          refine rq_nil ?_
          intro w10_ g10_
          have S := S.gr g10_
          first | refine rw_end ?_ | (refine rw_nil ?_; show CW _ _ _ _ _ _) | refine rw_nil ?_
          repeat refine cw_seq ?_
          refine cw_region ?_
          refine rw_v (op_pure rfl) ?_
          refine rw_v (op_b (b := false) rfl (bne_eq_false_iff_eq.2 (by omega))) ?_
          refine rw_v (op_pure rfl) ?_
          first | refine rw_off rfl ?_ | (refine rw_on rfl ?_; refine rw_v (op_pure rfl) ?_)
          first | refine rw_off rfl ?_ | (refine rw_on rfl ?_; refine rw_v (op_pure rfl) ?_)
          first | refine rw_off rfl ?_ | (refine rw_on rfl ?_; refine rw_v (op_pure rfl) ?_)
          first | refine rw_off rfl ?_ | (refine rw_on rfl ?_; refine rw_v (op_idx Try.underlying23 Try.sizeOf42 rfl rfl sa_al (by omega) (by omega)) ?_)
          first | refine rw_off rfl ?_ | (refine rw_on rfl ?_; refine rw_v (op_fld Try.underlying42 rfl Try.sizeOf2 rfl rfl sa_al) ?_)
          first | refine rw_off rfl ?_ | (refine rw_on rfl ?_; refine rw_r (op_ldR Try.underlying2 rfl rfl (S.rd (i := 0) rfl) g2) ?_)
          first | refine rw_off rfl ?_ | (refine rw_on rfl ?_; refine rw_v (op_b (b := false) rfl (bne_eq_false_iff_eq.2 (by omega))) ?_)
          iterate 2 refine rw_v (op_pure rfl) ?_
          first | refine rw_off rfl ?_ | (refine rw_on rfl ?_; refine rw_v (op_pure rfl) ?_)
          first | refine rw_off rfl ?_ | (refine rw_on rfl ?_; refine rw_v (op_pure rfl) ?_)
          first | refine rw_off rfl ?_ | (refine rw_on rfl ?_; refine rw_v (op_idx Try.underlying23 Try.sizeOf42 rfl rfl sa_al (by omega) (by omega)) ?_)
          first | refine rw_off rfl ?_ | (refine rw_on rfl ?_; refine rw_v (op_fld Try.underlying42 rfl Try.sizeOf2 rfl rfl sa_al) ?_)
          first | refine rw_off rfl ?_ | (refine rw_on rfl ?_; refine rw_r (op_ldR Try.underlying2 rfl rfl (S.rd (i := 0) rfl) g4) ?_)
          first | refine rw_off rfl ?_ | (refine rw_on rfl ?_; refine rw_v (op_b (b := false) rfl (decide_eq_false (by omega))) ?_)
          refine rw_v (op_pure rfl) ?_
          first | refine rw_end ?_ | (refine rw_nil ?_; show CW _ _ _ _ _ _) | refine rw_nil ?_
          repeat refine cw_seq ?_
          refine cw_false rfl ?_
          repeat refine cw_seq ?_
          refine cw_skip ?_
          try show CW _ _ _ _ _ _
          repeat refine cw_seq ?_
          refine cw_region ?_
          iterate 2 refine rw_v (op_pure rfl) ?_
          refine rw_v (op_b (b := false) rfl (beq_eq_false_iff_ne.2 (by omega))) ?_
          first | refine rw_end ?_ | (refine rw_nil ?_; show CW _ _ _ _ _ _) | refine rw_nil ?_
          repeat refine cw_seq ?_
          refine cw_false rfl ?_
          repeat refine cw_seq ?_
          refine cw_skip ?_
          try show CW _ _ _ _ _ _
          repeat refine cw_seq ?_
          refine cw_draw (C := fun wq => Gr w10_ wq) [0, 1, 2, 3, 4, 5, 6, 7, 8, 9, 10, 11, 12, 13, 14, 15, 16, 17, 18, 19, 20, 21, 22, 23, 24, 25, 26, 27, 28, 29, 30, 31, 32, 33, 34, 35, 36, 37, 38, 39, 40, 41, 42, 43, 44, 45] [] (by kernel_rfl) (by kernel_rfl) (Gr.drew _) ?_
          simp only [pickL, List.drop_succ_cons, List.drop_zero]
          iterate 2 refine rq_v (op_pure rfl) ?_
          refine rq_v (op_idx Try.underlying23 Try.sizeOf42 rfl rfl sa_al (by omega) (by omega)) ?_
          refine rq_v (op_fld Try.underlying42 rfl Try.sizeOf2 rfl rfl sa_al) ?_
          refine rq_r (fun wq hq => op_ldR Try.underlying2 rfl rfl ((S.gr hq).rd (i := 0) rfl) g4) ?_
          refine rq_v (op_b (b := false) rfl (decide_eq_false (by omega))) ?_
          refine rq_v (op_pure rfl) ?_
          refine rq_on rfl ?_
          refine rq_v (op_fieldAddr Try.underlying32 rfl Try.sizeOf2 rfl rfl) ?_
          refine rq_on rfl ?_
          refine rq_r (fun wq hq => op_loadB Try.underlying2 rfl rfl ((S.gr hq).blk (i := 2) rfl) rfl) ?_
          refine rq_on rfl ?_
          refine rq_v (op_pure rfl) ?_
          refine rq_on rfl ?_
          refine rq_v (op_pure rfl) ?_
          refine rq_on rfl ?_
          refine rq_v (op_pure rfl) ?_
          refine rq_on rfl ?_
          refine rq_v (op_pure rfl) ?_
          refine rq_on rfl ?_
          refine rq_v (op_idx Try.underlying23 Try.sizeOf42 rfl rfl sa_al (by omega) (by omega)) ?_
          refine rq_on rfl ?_
          refine rq_v (op_fld Try.underlying42 rfl Try.sizeOf40 rfl rfl sa_al) ?_
          refine rq_on rfl ?_
          refine rq_r (fun wq hq => op_ldRA Try.underlying40 rfl (Try.sizeOf40 _) rfl ((S.gr hq).rd (i := 0) rfl) g01 rfl rfl) ?_
          refine rq_on rfl ?_
          refine rq_v (op_pure rfl) ?_
          refine rq_on rfl ?_
          refine rq_v (op_pure rfl) ?_
          refine rq_on rfl ?_
          refine rq_v (op_pure rfl) ?_
          refine rq_on rfl ?_
          refine rq_v (op_idx Try.underlying23 Try.sizeOf42 rfl rfl sa_al (by omega) (by omega)) ?_
          refine rq_on rfl ?_
          refine rq_v (op_fld Try.underlying42 rfl Try.sizeOf2 rfl rfl sa_al) ?_
          refine rq_on rfl ?_
          refine rq_r (fun wq hq => op_ldR Try.underlying2 rfl rfl ((S.gr hq).rd (i := 0) rfl) g4) ?_
          refine rq_on rfl ?_
          refine rq_v (op_rng rfl (by omega)) ?_
          refine rq_on rfl ?_
          refine rq_call rfl (fun wq hq => (hT wq (hA.gr (G.trans ((S.gr hq).out)))).mono (fun _ _ ⟨hv, hg⟩ => ⟨hv, hq.trans hg⟩)) ?_
          refine rq_on rfl ?_
          iterate 3 refine rq_v (op_pure rfl) ?_
          refine rq_on rfl ?_
          refine rq_v (op_fieldAddr Try.underlying32 rfl Try.sizeOf2 rfl rfl) ?_
          refine rq_on rfl ?_
          refine rq_r (fun wq hq => op_loadB Try.underlying2 rfl rfl ((S.gr hq).blk (i := 2) rfl) rfl) ?_
          refine rq_on rfl ?_
          refine rq_v (op_pure rfl) ?_
          refine rq_on rfl ?_
          refine rq_v (op_pure rfl) ?_
          refine rq_on rfl ?_
          refine rq_v (op_pure rfl) ?_
          refine rq_on rfl ?_
          refine rq_v (op_pure rfl) ?_
          refine rq_on rfl ?_
          refine rq_v (op_idx Try.underlying23 Try.sizeOf42 rfl rfl sa_al (by omega) (by omega)) ?_
          refine rq_on rfl ?_
          refine rq_v (op_fld Try.underlying42 rfl Try.sizeOf40 rfl rfl sa_al) ?_
          refine rq_on rfl ?_
          refine rq_r (fun wq hq => op_ldRA Try.underlying40 rfl (Try.sizeOf40 _) rfl ((S.gr hq).rd (i := 0) rfl) g01 rfl rfl) ?_
          refine rq_on rfl ?_
          refine rq_v (op_pure rfl) ?_
          refine rq_on rfl ?_
          refine rq_v (op_pure rfl) ?_
          refine rq_on rfl ?_
          refine rq_v (op_pure rfl) ?_
          refine rq_on rfl ?_
          refine rq_v (op_idx Try.underlying23 Try.sizeOf42 rfl rfl sa_al (by omega) (by omega)) ?_
          refine rq_on rfl ?_
          refine rq_v (op_fld Try.underlying42 rfl Try.sizeOf2 rfl rfl sa_al) ?_
          refine rq_on rfl ?_
          refine rq_r (fun wq hq => op_ldR Try.underlying2 rfl rfl ((S.gr hq).rd (i := 0) rfl) g4) ?_
          refine rq_on rfl ?_
          refine rq_v (op_rng rfl (by omega)) ?_
          refine rq_on rfl ?_
          refine rq_v (op_rng rfl (by omega)) ?_
          refine rq_on rfl ?_
          refine rq_call rfl (fun wq hq => (hF wq (hA.gr (G.trans ((S.gr hq).out)))).mono (fun _ _ ⟨hv, hg⟩ => ⟨hv, hq.trans hg⟩)) ?_
          refine rq_v (op_pure rfl) ?_
          refine rq_nil ?_
          intro w11_ g11_
          have S := S.gr g11_
          first | refine rw_end ?_ | (refine rw_nil ?_; show CW _ _ _ _ _ _) | refine rw_nil ?_
          repeat refine cw_seq ?_
          refine cw_false rfl ?_
          repeat refine cw_seq ?_
          refine cw_skip ?_
          try show CW _ _ _ _ _ _
          repeat refine cw_seq ?_
          refine cw_region ?_
          iterate 3 refine rw_v (op_pure rfl) ?_
          refine rw_v (op_idx Try.underlying23 Try.sizeOf42 rfl rfl sa_al (by omega) (by omega)) ?_
          refine rw_v (op_fld Try.underlying42 rfl Try.sizeOf40 rfl rfl sa_al) ?_
          refine rw_r (op_ldRA Try.underlying40 rfl (Try.sizeOf40 _) rfl (S.rd (i := 0) rfl) g01 rfl rfl) ?_
          refine rw_v (op_pure rfl) ?_
          refine rw_call rfl (hfl w11_ (S.grid (i := 1) rfl)) ?_
          rintro _ w12_ ⟨r, hro, A_fl, c_fl, rfl, hR_fl, hf_fl, g12_⟩
          have S := S.pushRow hR_fl hf_fl g12_
          rw [plat_reg hql hqr hqt hro]
          iterate 5 refine rw_v (op_pure rfl) ?_
          first | refine rw_end ?_ | (refine rw_nil ?_; show CW _ _ _ _ _ _) | refine rw_nil ?_
          repeat refine cw_seq ?_
          refine cw_region ?_
          refine rw_v (op_pure rfl) ?_
          refine rw_v (op_b (b := false) rfl (bne_eq_false_iff_eq.2 (by omega))) ?_
          refine rw_v (op_pure rfl) ?_
          first | refine rw_off rfl ?_ | (refine rw_on rfl ?_; refine rw_v (op_pure rfl) ?_)
          first | refine rw_off rfl ?_ | (refine rw_on rfl ?_; refine rw_v (op_len Try.underlying52 rfl) ?_)
          first | refine rw_off rfl ?_ | (refine rw_on rfl ?_; refine rw_v (op_pure rfl) ?_)
          first | refine rw_off rfl ?_ | (refine rw_on rfl ?_; refine rw_v (op_pure rfl) ?_)
          first | refine rw_off rfl ?_ | (refine rw_on rfl ?_; refine rw_v (op_idx Try.underlying23 Try.sizeOf42 rfl rfl sa_al (by omega) (by omega)) ?_)
          first | refine rw_off rfl ?_ | (refine rw_on rfl ?_; refine rw_v (op_fld Try.underlying42 rfl Try.sizeOf2 rfl rfl sa_al) ?_)
          first | refine rw_off rfl ?_ | (refine rw_on rfl ?_; refine rw_r (op_ldR Try.underlying2 rfl rfl (S.rd (i := 1) rfl) g3) ?_)
          first | refine rw_off rfl ?_ | (refine rw_on rfl ?_; refine rw_v (op_b (b := false) rfl (bne_eq_false_iff_eq.2 (by omega))) ?_)
          refine rw_v (op_pure rfl) ?_
          first | refine rw_end ?_ | (refine rw_nil ?_; show CW _ _ _ _ _ _) | refine rw_nil ?_
          repeat refine cw_seq ?_
          refine cw_false rfl ?_
          repeat refine cw_seq ?_
          refine cw_skip ?_
          try show CW _ _ _ _ _ _
          repeat refine cw_seq ?_
          refine cw_region ?_
          refine rw_v (op_pure rfl) ?_
          refine rw_v (op_rng rfl (by omega)) ?_
          refine rw_v (op_pure rfl) ?_
          first | refine rw_end ?_ | (refine rw_nil ?_; show CW _ _ _ _ _ _) | refine rw_nil ?_
          exact ⟨m - 1, by omega, i + 1, by omega, ⟨rfl, rfl, rfl, rfl, rfl, rfl, ie (by omega), trivial⟩, S.drop 1⟩
      · skip
        repeat refine cw_seq ?_
        refine cw_region ?_
        iterate 2 refine rw_v (op_pure rfl) ?_
        refine rw_v (op_len Try.underlying23 rfl) ?_
        refine rw_v (op_b (b := false) rfl (decide_eq_false (by omega))) ?_
        first | refine rw_end ?_ | (refine rw_nil ?_; show CW _ _ _ _ _ _) | refine rw_nil ?_
        repeat refine cw_seq ?_
        refine cw_false rfl ?_
        repeat refine cw_seq ?_
        refine cw_exit ?_
        repeat first | refine exit_then ?_ | refine exit_inb ?_
        show CW _ _ _ _ _ _
        repeat refine cw_seq ?_
        refine cw_region ?_
        refine rw_v (op_pure rfl) ?_
        first | refine rw_end ?_ | (refine rw_nil ?_; show CW _ _ _ _ _ _) | refine rw_nil ?_
        repeat refine cw_seq ?_
        refine cw_ret ?_
        repeat first | refine ret_then ?_ | refine ret_inb ?_
        exact res1 rfl ⟨rfl, S.out⟩
  · skip
    have G := Gr.refl W
    have S := St.start W
    refine Fn_enter Try.func6 rfl Try.results6 Try.ntmps6 (by kernel_rfl) (by kernel_rfl) ?_
    repeat refine cw_seq ?_
    refine cw_region ?_
    refine rw_v (op_pure rfl) ?_
    first | refine rw_end ?_ | (refine rw_nil ?_; show CW _ _ _ _ _ _) | refine rw_nil ?_
    repeat refine cw_seq ?_
    refine cw_region ?_
    refine rw_call rfl (awake46_E W) ?_
    rintro _ w1_ ⟨rfl, g1_⟩
    have S := S.gr g1_
    refine rw_v (op_pure rfl) ?_
    first | refine rw_end ?_ | (refine rw_nil ?_; show CW _ _ _ _ _ _) | refine rw_nil ?_
    repeat refine cw_seq ?_
    refine cw_false rfl ?_
    repeat refine cw_seq ?_
    refine cw_skip ?_
    try show CW _ _ _ _ _ _
    repeat refine cw_seq ?_
    refine cw_region ?_
    iterate 3 refine rw_v (op_pure rfl) ?_
    refine rw_call rfl (landNo_E w h 400 cap (by omega) hl hok (hA.gr S.out)) ?_
    rintro _ w2_ ⟨rfl, g2_⟩
    have S := S.gr g2_
    iterate 3 refine rw_v (op_pure rfl) ?_
    refine rw_newB (op_alloc Try.zeroValue32 rfl) S ?_
    intro b_b3 w4_ g4_ S
    refine rw_storeSA (i := 0) S rfl (Try.sizeOf32 _) rfl rfl rfl rfl rfl rfl ?_
    intro w5_ S
    refine rw_v (op_pure rfl) ?_
    first | refine rw_end ?_ | (refine rw_nil ?_; show CW _ _ _ _ _ _) | refine rw_nil ?_
    repeat refine cw_seq ?_
    refine cw_region ?_
    iterate 2 refine rw_v (op_pure rfl) ?_
    first | refine rw_end ?_ | (refine rw_nil ?_; show CW _ _ _ _ _ _) | refine rw_nil ?_
    repeat refine cw_seq ?_
    refine cw_true rfl ?_
    repeat refine cw_seq ?_
    refine cw_region ?_
    refine rw_v (op_pure rfl) ?_
    first | refine rw_end ?_ | (refine rw_nil ?_; show CW _ _ _ _ _ _) | refine rw_nil ?_
    repeat refine cw_seq ?_
    refine cw_ret ?_
    repeat first | refine ret_then ?_ | refine ret_inb ?_
    exact res1 rfl ⟨rfl, S.out⟩
end
end Go.Proofs.Ytiidmiebckkloaa
/- What an argument reads stays what it was where all that was there stands as it was; a law's row out of that. -/
namespace Go.Proofs.Ytiidmiebckkloaa
open Go.RowKit Go.WideShapes Go.ChangeShapes
set_option linter.unusedVariables false
set_option linter.unusedSimpArgs false

section
variable {H : Type} {enc : TypeId × Value → H} {P : Program} {w w' : World} {base : Nat} {sp : Nat → Bool} {held : Bool}
theorem cells_lt {a : Addr} {n : Nat} {l : List Value} (h : w.cells? base a n = some l) (hn : 0 < n) : a.block < w.heap.size := by
  unfold World.cells? at h
  split at h
  · obtain ⟨y, hy⟩ := mapM_each h 0 (List.mem_range.2 hn)
    rcases Nat.lt_or_ge a.block w.heap.size with h' | h'
    · exact h'
    · have e : a.add 0 = a := rfl
      rw [e] at hy
      simp [World.cell?, Array.getElem?_eq_none h'] at hy
  · cases h
theorem add_block (a : Addr) (k : Nat) : (a.add k).block = a.block := by unfold Addr.add; split <;> rfl
theorem cells_stay (hc : ∀ a v, w.cell? a = some v → w'.cell? a = some v) {a : Addr} {n : Nat} {l : List Value} (h : w.cells? base a n = some l) : w'.cells? base a n = some l := by
  unfold World.cells? at h ⊢
  split at h
  · rename_i hb
    rw [if_pos hb]
    exact mapM_mono (fun i y hy => hc _ _ hy) h
  · cases h
theorem bind_stay {α β : Type} {x x' : Option α} {f f' : α → Option β} {y : β} (hx : ∀ a, x = some a → x' = some a) (hf : ∀ a b, f a = some b → f' a = some b) (h : x.bind f = some y) : x'.bind f' = some y := by
  obtain ⟨a, h1, h2⟩ := Option.bind_eq_some_iff.1 h
  exact Option.bind_eq_some_iff.2 ⟨a, hx a h1, hf a y h2⟩
theorem map_stay {α β : Type} {x x' : Option α} {f : α → β} {y : β} (hx : ∀ a, x = some a → x' = some a) (h : x.map f = some y) : x'.map f = some y := by
  obtain ⟨a, h1, h2⟩ := Option.map_eq_some_iff.1 h
  exact Option.map_eq_some_iff.2 ⟨a, hx a h1, h2⟩
theorem mapM_mem {α β : Type} {f g : α → Option β} : ∀ {l : List α} {r : List β}, (∀ x ∈ l, ∀ y, f x = some y → g x = some y) → l.mapM f = some r → l.mapM g = some r
  | [], r, _, h => by simpa using h
  | x :: xs, r, hfg, h => by
    rw [List.mapM_cons] at h ⊢
    obtain ⟨a, ha, h2⟩ := Option.bind_eq_some_iff.1 h
    obtain ⟨b, hb, h3⟩ := Option.bind_eq_some_iff.1 h2
    exact Option.bind_eq_some_iff.2 ⟨a, hfg x (by simp) a ha, Option.bind_eq_some_iff.2 ⟨b, mapM_mem (fun z hz => hfg z (by simp [hz])) hb, h3⟩⟩
/-- Types of plain data: numbers, bools, strings, structs, arrays and slices of such. -/
def plainB (P : Program) : Nat → TypeId → Bool
  | 0, _ => false
  | n + 1, t => match P.underlying t with
    | some .bool => true
    | some (.int _) => true
    | some (.float _) => true
    | some .string => true
    | some (.slice e) => Nat.blt 0 (P.cellsOf e) && plainB P n e
    | some (.struct fs) => fs.toList.all fun f => plainB P n f.type
    | some (.array _ e) => plainB P n e
    | _ => false
def Plain (P : Program) (t : TypeId) : Prop := ∃ n, plainB P n t = true
theorem Plain.slice {t e : TypeId} (h : Plain P t) (hu : P.underlying t = some (.slice e)) : 0 < P.cellsOf e ∧ Plain P e := by
  obtain ⟨n, h⟩ := h
  cases n with
  | zero => cases h
  | succ n =>
    simp only [plainB, hu, Bool.and_eq_true] at h
    exact ⟨Nat.le_of_ble_eq_true h.1, n, h.2⟩
theorem Plain.struct {t : TypeId} {fs : Array Field} (h : Plain P t) (hu : P.underlying t = some (.struct fs)) {f : Field} (hf : f ∈ fs.toList) : Plain P f.type := by
  obtain ⟨n, h⟩ := h
  cases n with
  | zero => cases h
  | succ n =>
    simp only [plainB, hu] at h
    exact ⟨n, List.all_eq_true.1 h f hf⟩
theorem Plain.array {t e : TypeId} {m : Nat} (h : Plain P t) (hu : P.underlying t = some (.array m e)) : Plain P e := by
  obtain ⟨n, h⟩ := h
  cases n with
  | zero => cases h
  | succ n =>
    simp only [plainB, hu] at h
    exact ⟨n, h⟩
theorem Plain.noptr {t e : TypeId} (h : Plain P t) (hu : P.underlying t = some (.pointer e)) : False := by
  obtain ⟨n, h⟩ := h
  cases n with
  | zero => cases h
  | succ n => simp [plainB, hu] at h
theorem Plain.noiface {t : TypeId} {ms : Array (String × TypeId)} (h : Plain P t) (hu : P.underlying t = some (.interface ms)) : False := by
  obtain ⟨n, h⟩ := h
  cases n with
  | zero => cases h
  | succ n => simp [plainB, hu] at h
theorem Plain.nomap {t k e : TypeId} (h : Plain P t) (hu : P.underlying t = some (.map k e)) : False := by
  obtain ⟨n, h⟩ := h
  cases n with
  | zero => cases h
  | succ n => simp [plainB, hu] at h
theorem step_stay (hc : ∀ a v, w.cell? a = some v → w'.cell? a = some v) {r r' : TypeId → List Value → Option (DataW H × List MemPlace)}
    (hr : ∀ t, Plain P t → ∀ cs x, r t cs = some x → r' t cs = some x) (hsp : ∀ b, b < w.heap.size → sp b = true) {t : TypeId} (ht : Plain P t) {cs : List Value} {x : DataW H × List MemPlace} (h : DataW.trodStep enc P w base (fun _ => true) held r t cs = some x) : DataW.trodStep enc P w' base sp held r' t cs = some x := by
  unfold DataW.trodStep at h ⊢
  split at h
  case h_6 => rename_i heq; exact (ht.noptr heq).elim
  case h_8 =>
    rename_i e a len cap heq
    have hz := ht.slice heq
    dsimp only at h ⊢
    split at h
    · rename_i hb
      rw [if_pos hb]
      refine bind_stay (fun _ => mapM_mono (fun i y => bind_stay (fun _ => cells_stay hc) (fun _ _ => hr _ hz.2 _ _))) (fun elems z => map_stay (fun rest hrest => ?_)) h
      rw [if_pos rfl] at hrest
      by_cases hs : sp a.block = true
      · rw [if_pos hs]
        exact mapM_mono (fun j y => bind_stay (fun _ => cells_stay hc) (fun _ _ => hr _ hz.2 _ _)) hrest
      · rw [if_neg hs]
        by_cases hcl : cap - len = 0
        · rw [hcl] at hrest
          simpa using hrest
        · obtain ⟨y, hy⟩ := mapM_each hrest 0 (List.mem_range.2 (by omega))
          obtain ⟨l, hl, _⟩ := Option.bind_eq_some_iff.1 hy
          have := cells_lt hl hz.1
          rw [add_block] at this
          exact absurd (hsp _ this) hs
    · cases h
  case h_9 =>
    rename_i heq
    split at h
    · rename_i hb
      rw [if_pos hb]
      exact map_stay (fun _ => mapM_mem (fun f hf y => hr _ (ht.struct heq hf) _ _)) h
    · cases h
  case h_10 =>
    rename_i heq
    split at h
    · rename_i hb
      rw [if_pos hb]
      exact map_stay (fun _ => mapM_mono (fun f y => hr _ (ht.array heq) _ _)) h
    · cases h
  case h_12 => rename_i heq; exact (ht.noiface heq).elim
  case h_14 => rename_i heq; exact (ht.nomap heq).elim
  all_goals first | exact h | (cases h; done)
theorem trod_stay_ (hc : ∀ a v, w.cell? a = some v → w'.cell? a = some v) (hsp : ∀ b, b < w.heap.size → sp b = true) :
    ∀ (n : Nat) (t : TypeId), Plain P t → ∀ (cs : List Value) (x : DataW H × List MemPlace), DataW.trod enc P w base (fun _ => true) held n t cs = some x → DataW.trod enc P w' base sp held n t cs = some x
  | 0, t, _, cs, x, h => by simp [DataW.trod] at h
  | n + 1, t, ht, cs, x, h => step_stay hc (trod_stay_ hc hsp n) hsp ht h
theorem Gr.cells {W W' : World} (g : Gr W W') (a : Addr) (v : Value) (h : W.cell? a = some v) : W'.cell? a = some v := by
  have hlt : a.block < W.heap.size := by
    rcases Nat.lt_or_ge a.block W.heap.size with h' | h'
    · exact h'
    · simp [World.cell?, Array.getElem?_eq_none h'] at h
  rw [World.cell?_of_block (g.block _ hlt)]
  exact h
theorem trodAll_gr {W W' : World} (g : Gr W W') (hsp : ∀ b, b < W.heap.size → sp b = true) : ∀ {ts : List TypeId} {vs : List Value} {ds : List (DataW H)} {p : List MemPlace}, (∀ t ∈ ts, Plain P t) → DataW.TrodAll enc P W base (fun _ => true) held ts vs ds p → DataW.TrodAll enc P W' base sp held ts vs ds p
  | [], vs, ds, p, _, h => by cases vs <;> cases ds <;> first | exact h | cases h
  | t :: ts, vs, ds, p, ht, h => by
    obtain ⟨v, vs', d, ds', p, q, rfl, rfl, rfl, ⟨f, h1⟩, h2⟩ := trodAll_cons h
    exact trodAll_cons_mk ⟨f, trod_stay_ g.cells hsp f _ (ht t (by simp)) _ _ h1⟩ (trodAll_gr g hsp (fun t h => ht t (by simp [h])) h2)
theorem plain_all {ts : List TypeId} (h : (ts.all fun t => plainB P 8 t) = true) : ∀ t ∈ ts, Plain P t := fun t ht => ⟨8, List.all_eq_true.1 h t ht⟩
/-- A law that answers true and leaves what was there as it was. -/
theorem post_of_gr {f : Func} {s : ChangeSpec} {apart fresh handsOn again : Bool} {W W' : World} {args : Array Value} {v : Value} {ds gs : List (DataW H)} {before : List MemPlace} (hz : ∀ t ∈ f.params.toList, Plain P t)
    (hW : DataW.Whole enc P f.params.toList s.vars apart W args.toList ds gs before) (hv : s.vars = []) (hg : Gr W W') (ha : (s.fn H (ds ++ gs)).args = ds) (hvs : (s.fn H (ds ++ gs)).vars = [])
    (hres : ∀ (b : Nat) (sp : Nat → Bool) (hd : Bool), DataW.TrodAll enc P W' b sp hd f.resultTypes.toList (v.resultList f.resultTypes.size) (s.fn H (ds ++ gs)).results [])
    (hok : ∀ (j : Nat) (t : TypeId) (r : Value), f.resultTypes[j]? = some t → (v.resultList f.resultTypes.size)[j]? = some r → Value.okWide P W' .any 0 t r) :
    s.post enc P f apart fresh handsOn again W args v W' := by
  have hW' := hW
  obtain ⟨p, q, hA, hV, rfl, hfz, hnd⟩ := hW
  rw [hv] at hV
  obtain ⟨rfl, rfl⟩ := trodVars_none hV
  have hlt : ∀ x ∈ p ++ [], x.block < W.heap.size := fun x hx => hW'.lt x hx
  have hold : ∀ b, b < W.heap.size → (fun b => decide (b < W.heap.size)) b = true := fun b hb => by simpa using hb
  have h1 : ∀ sp : Nat → Bool, (∀ b, b < W.heap.size → sp b = true) → DataW.TrodAll enc P W' 0 sp true f.params.toList args.toList (s.fn H (ds ++ [])).args p := fun sp hsp => by rw [ha]; exact trodAll_gr hg hsp hz hA
  have hvr : ∀ sp : Nat → Bool, DataW.TrodVars enc P W' sp s.vars (s.fn H (ds ++ [])).vars [] := fun sp => by rw [hv, hvs]; rfl
  refine ⟨ds, [], p ++ [], [], p, [], hW', hres _ _ _, h1 _ hold, hvr _, World.keptBut_mono (fun x hx => ⟨hx, ?_⟩) (hg.frame (· ∈ p ++ [])), fun _ => ?_⟩
  · rw [List.mem_append] at hx
    exact Or.inr hx
  · refine ⟨hok, _, _, ([] ++ p) ++ [], ⟨[] ++ p, [], trodAll_append (h1 _ (fun _ _ => rfl)) (hres _ _ _), hvr _, rfl, ?_, ?_⟩, ?_⟩
    · intro b off hp
      have hin : MemPlace.cell b off ∈ p ++ [] := by simpa using hp
      rw [Below.frozen hg (hlt _ hin)]
      exact hfz b off hin
    · intro hap
      have := hnd hap
      simpa using this
    · intro x hp _
      simpa using hp
end
end Go.Proofs.Ytiidmiebckkloaa
/- Arguments, opened: numbers, lists of numbers, cells, rectangles. -/
namespace Go.Proofs.Ytiidmiebckkloaa.args
open Go.ChangeShapes Go.WideShapes Go.ChangeAt Go.RowKit Go.Joins
set_option linter.unusedVariables false
set_option linter.unusedSimpArgs false
set_option maxRecDepth 100000

theorem ints_of {H : Type} {enc : TypeId × Value → H} {W : World} {base : Nat} {held : Bool} {fuel : Nat} {v : Value} {x : DataW H × List MemPlace} (h : DataW.trod enc Try.prog W base (fun _ => true) held fuel 30 [v] = some x) :
    ∃ A c xs, v = .slice A xs.length c ∧ xs.length ≤ 9223372036854775807 ∧ (∀ b ∈ xs, -9223372036854775808 ≤ b ∧ b ≤ 9223372036854775807) ∧ Rd W A (ints xs) := by
  rcases open_ints Try.underlying30 Try.underlying2 (by kernel_rfl) h with ⟨h1, _⟩ | ⟨a, len, cap, zs, h1, _, hl, hmx, hz, _, hc, hw⟩
  · injection h1 with h1
    subst h1
    exact ⟨_, _, [], rfl, by simp, (by intro b hb; cases hb), .inl rfl⟩
  · injection h1 with h1
    subst h1
    rw [if_pos rfl] at hz
    have hlen : (zs.take len).length = len := by simp; omega
    refine ⟨some a, cap, zs.take len, by rw [hlen], by rw [hlen]; unfold maxLen at hmx; omega, fun b hb => ?_, ?_⟩
    · have := hw b (List.mem_of_mem_take hb)
      simpa [Lit.wf, IntKind.min, IntKind.max, IntKind.signed, IntKind.bits] using this
    · by_cases h0 : len = 0
      · subst h0; exact .inl rfl
      · have hc0 := hc 0 (by omega)
        have e0 : a.add 0 = a := rfl
        rw [e0] at hc0
        have hlt : a.block < W.heap.size := by
          rcases Nat.lt_or_ge a.block W.heap.size with h' | h'
          · exact h'
          · simp [World.cell?, Array.getElem?_eq_none h'] at hc0
        have hsp : a.spot = none := by
          unfold World.cell? at hc0
          split at hc0
          · split at hc0
            · cases hc0
            · rename_i h; simpa using h
          · cases hc0
        obtain ⟨b, o, sp⟩ := a
        dsimp only at hsp hlt
        subst hsp
        refine .inr ⟨b, o, rfl, hlt, fun j v hj => ?_⟩
        have h3 : j < (ints (zs.take len)).length := (List.getElem?_eq_some_iff.1 hj).1
        rw [ints_len, hlen] at h3
        have h4 := hc j (by omega)
        rw [addr_add] at h4
        rw [h4, ← hj, ints, List.getElem?_map, List.getElem?_take, if_pos (by omega), List.getD_eq_getElem?_getD, List.getElem?_eq_getElem (by omega)]
        rfl
theorem list_of {H : Type} {enc : TypeId × Value → H} {W : World} {base : Nat} {held : Bool} {v : Value} {d : DataW H} {p : List MemPlace} (hv : Value.okWide Try.prog W .any base 30 v) (h : DataW.Trod enc Try.prog W 0 (fun _ => true) held 30 v d p) :
    ∃ A c xs, v = .slice A xs.length c ∧ xs.length ≤ 9223372036854775807 ∧ (∀ b ∈ xs, -9223372036854775808 ≤ b ∧ b ≤ 9223372036854775807) ∧ Rd W A (ints xs) := by
  obtain ⟨A, n, c, rfl⟩ := okWide_slice Try.underlying30 hv
  obtain ⟨f, t⟩ := h
  exact ints_of t
theorem num_of {H : Type} {enc : TypeId × Value → H} {W : World} {base : Nat} {held : Bool} {v : Value} {d : DataW H} {p : List MemPlace} {t : TypeId} (ht : Try.prog.underlying t = some (.int .i64)) (hv : Value.okWide Try.prog W .any base t v) (h : DataW.Trod enc Try.prog W 0 (fun _ => true) held t v d p) :
    ∃ n : Int, v = .int .i64 n ∧ -9223372036854775808 ≤ n ∧ n ≤ 9223372036854775807 := by
  obtain ⟨n, rfl, _, _, w⟩ := open_int ht hv h
  have : -9223372036854775808 ≤ n ∧ n ≤ 9223372036854775807 := by simpa [Lit.wf, IntKind.min, IntKind.max, IntKind.signed, IntKind.bits] using w
  exact ⟨n, rfl, this.1, this.2⟩

/-! ### Cells, rectangles -/
def i64B (n : Int) : Prop := -9223372036854775808 ≤ n ∧ n ≤ 9223372036854775807
theorem cell_of {H : Type} {enc : TypeId × Value → H} {W : World} {base : Nat} {held : Bool} {v : Value} {d : DataW H} {p : List MemPlace} (hv : Value.okWide Try.prog W .any base 40 v) (h : DataW.Trod enc Try.prog W 0 (fun _ => true) held 40 v d p) :
    ∃ x y : Int, v = .agg #[.int .i64 x, .int .i64 y] ∧ i64B x ∧ i64B y := by
  obtain ⟨u0, u1, y0, y1, n, rfl, _, _, t0, t1⟩ := open_agg2 Try.underlying40 (by kernel_rfl) (by kernel_rfl) hv h
  obtain ⟨a, e0, _, w0⟩ := DataW.trod_int Try.underlying2 t0
  obtain ⟨b, e1, _, w1⟩ := DataW.trod_int Try.underlying2 t1
  injection e0 with e0; injection e1 with e1
  subst e0; subst e1
  exact ⟨a, b, rfl, by simpa [i64B, Lit.wf, IntKind.min, IntKind.max, IntKind.signed, IntKind.bits] using w0, by simpa [i64B, Lit.wf, IntKind.min, IntKind.max, IntKind.signed, IntKind.bits] using w1⟩
theorem rect_of {H : Type} {enc : TypeId × Value → H} {W : World} {base : Nat} {held : Bool} {v : Value} {d : DataW H} {p : List MemPlace} (hv : Value.okWide Try.prog W .any base 61 v) (h : DataW.Trod enc Try.prog W 0 (fun _ => true) held 61 v d p) :
    ∃ x0 y0 x1 y1 : Int, v = .agg #[.int .i64 x0, .int .i64 y0, .int .i64 x1, .int .i64 y1] ∧ i64B x0 ∧ i64B y0 ∧ i64B x1 ∧ i64B y1 := by
  obtain ⟨u0, u1, u2, u3, y0, y1, y2, y3, n, rfl, _, _, t0, t1, t2, t3⟩ := open_agg4 Try.underlying61 (by kernel_rfl) (by kernel_rfl) hv h
  obtain ⟨a, e0, _, w0⟩ := DataW.trod_int Try.underlying2 t0
  obtain ⟨b, e1, _, w1⟩ := DataW.trod_int Try.underlying2 t1
  obtain ⟨c, e2, _, w2⟩ := DataW.trod_int Try.underlying2 t2
  obtain ⟨f, e3, _, w3⟩ := DataW.trod_int Try.underlying2 t3
  injection e0 with e0; injection e1 with e1; injection e2 with e2; injection e3 with e3
  subst e0; subst e1; subst e2; subst e3
  exact ⟨a, b, c, f, rfl, by simpa [i64B, Lit.wf, IntKind.min, IntKind.max, IntKind.signed, IntKind.bits] using w0, by simpa [i64B, Lit.wf, IntKind.min, IntKind.max, IntKind.signed, IntKind.bits] using w1,
    by simpa [i64B, Lit.wf, IntKind.min, IntKind.max, IntKind.signed, IntKind.bits] using w2, by simpa [i64B, Lit.wf, IntKind.min, IntKind.max, IntKind.signed, IntKind.bits] using w3⟩
end Go.Proofs.Ytiidmiebckkloaa.args
