/- hachurelaw32: the example, and no grid. -/
import Derived.Test.YtmdkjohllinphaaRouteD
import Derived.Test.YtmdkjohllinphaaPaintB
namespace Go.Proofs.Ytmdkjohllinphaa
open Go.RowKit
set_option linter.unusedVariables false
set_option linter.unusedSimpArgs false
set_option maxRecDepth 100000

theorem find_congr {α : Type} {p q : α → Bool} : ∀ {l : List α}, (∀ x ∈ l, p x = q x) → l.find? p = l.find? q
  | [], _ => rfl
  | a :: l, h => by
    have h1 := h a List.mem_cons_self
    have ih := find_congr (l := l) (fun x hx => h x (List.mem_cons_of_mem _ hx))
    rw [List.find?_cons, List.find?_cons, h1, ih]
section
variable {gw gh b : Nat} {V : List Int} {d d' : Nat → Int}
theorem nextN_congr (hgw : 0 < gw) (hV : V.length = gw * gh) (h : ∀ i, i < gw * gh → d i = d' i) {i : Nat} (hi : i < gw * gh) : nextN gw V d i = nextN gw V d' i := by
  unfold nextN
  rw [find_congr (q := fun j => d' j + st V i j == d' i) fun j hj => ?_]
  rw [hV] at hj
  rw [h j ((nearN_mem hgw hi).1 hj).1, h i hi]
theorem nextN_lt (hgw : 0 < gw) (hV : V.length = gw * gh) {i : Nat} (hi : i < gw * gh) : nextN gw V d i < gw * gh := by
  unfold nextN
  cases hf : (nearN gw V.length i).find? fun j => d j + st V i j == d i with
  | none => exact hi
  | some j =>
    have := List.mem_of_find?_eq_some hf
    rw [hV] at this
    exact ((nearN_mem hgw hi).1 this).1
theorem routeF_congr (hgw : 0 < gw) (hV : V.length = gw * gh) (h : ∀ i, i < gw * gh → d i = d' i) : ∀ (k i : Nat), i < gw * gh → routeF gw V d b k i = routeF gw V d' b k i
  | 0, i, hi => rfl
  | k + 1, i, hi => by
    rw [routeF, routeF, nextN_congr hgw hV h hi, routeF_congr hgw hV h k _ (nextN_lt hgw hV hi)]
theorem routeL_congr (hgw : 0 < gw) (hV : V.length = gw * gh) (h : ∀ i, i < gw * gh → d i = d' i) {i : Nat} (hi : i < gw * gh) : routeL gw V d b i = routeL gw V d' b i := by
  unfold routeL
  rw [h i hi, routeF_congr hgw hV h _ i hi]
end
def awV : List Int := [0, 9, 0, 0, 0, 0]
def awD (i : Nat) : Int := [(4 : Int), 10, 0, 3, 2, 1].getD i 0
theorem awD_dist : IsDist 3 awV 2 awD := by
  have h1 : ∀ i, i < 6 → 0 ≤ awD i := by decide
  have h2 : ∀ i, i < 6 → ∀ j, j < 6 → Side 3 i j → awD j ≤ awD i + st awV i j := by decide
  have h3 : ∀ j, j < 6 → j ≠ 2 → ∃ i, i < 6 ∧ (Side 3 i j ∧ awD j = awD i + st awV i j) := by decide
  exact ⟨rfl, h1, fun i j hi hj => h2 i hi j hj, h3⟩
theorem awV_B : vB awV := by
  intro i
  match i with
  | 0 => decide
  | 1 => decide
  | 2 => decide
  | 3 => decide
  | 4 => decide
  | 5 => decide
  | k + 6 => have : awV.getD (k + 6) 0 = 0 := rfl
             rw [this]; decide
theorem awake32_E (W : World) : Fn Try.prog 26 [] W (RetG (.bool true) W) := by
  have hGl : gridL 3 2 (fun i => awV.getD i 0) = awV := gridL_made rfl
  have G := Gr.refl W
  have S := St.start W
  refine Fn_enter Try.func26 rfl Try.results26 Try.ntmps26 (by kernel_rfl) (by kernel_rfl) ?_
  repeat refine cw_seq ?_
  refine cw_region ?_
  refine rw_v (op_pure rfl) ?_
  first | refine rw_end ?_ | (refine rw_nil ?_; show CW _ _ _ _ _ _) | refine rw_nil ?_
  repeat refine cw_seq ?_
  refine cw_region ?_
  refine rw_buildS Try.underlying22 Try.sizeOf2 Try.zeroValue2 rfl rfl rfl rfl rfl rfl S ?_
  intro A_v w2_ g2_ S sa_v
  refine rw_call rfl (from_E (W := w2_) (gw := 3) (gh := 2) (V := awV) 6 (by omega) (by omega) rfl (by decide) (S.rd (i := 0) rfl)) ?_
  rintro _ w3_ ⟨p, B, bc, bs, Rs, rfl, hG, hf, g3_⟩
  have S := S.gr g3_
  refine rw_v (op_pure rfl) ?_
  refine rw_v (op_pure rfl) ?_
  refine rw_v (op_pure rfl) ?_
  refine rw_v (op_pure rfl) ?_
  refine rw_v (op_pure rfl) ?_
  first | refine rw_end ?_ | (refine rw_nil ?_; show CW _ _ _ _ _ _) | refine rw_nil ?_
  repeat refine cw_seq ?_
  refine cw_region ?_
  refine rw_v (op_pure rfl) ?_
  refine rw_v (op_build (pl := [(0, 1), (1, 1)]) Try.underlying36 Try.zeroValue36 (fun w => by kernel_rfl) rfl rfl) ?_
  refine rw_v (op_build (pl := [(0, 1), (1, 1)]) Try.underlying36 Try.zeroValue36 (fun w => by kernel_rfl) rfl rfl) ?_
  refine rw_call rfl (rFind_E (gw := 3) (gh := 2) 0 2 (by omega) (by omega) (by rw [hGl]; exact awV_B) hG) ?_
  rintro _ w4_ ⟨d, hd, A_r, c_r, rfl, hR, _, g4_⟩
  have S := S.gr g4_
  refine rw_v (op_pure rfl) ?_
  refine rw_v (op_pure rfl) ?_
  refine rw_v (op_pure rfl) ?_
  refine rw_v (op_pure rfl) ?_
  refine rw_v (op_pure rfl) ?_
  refine rw_v (op_pure rfl) ?_
  refine rw_v (op_pure rfl) ?_
  first | refine rw_end ?_ | (refine rw_nil ?_; show CW _ _ _ _ _ _) | refine rw_nil ?_
  rw [hGl] at hd hR
  rw [hGl]
  have hdd : ∀ i, i < 3 * 2 → d i = awD i := fun i hi => hd.uniq awD_dist hi
  have hrt : routeL 3 awV d 2 0 = [0, 3, 4, 5, 2] := by rw [routeL_congr (d' := awD) (gh := 2) (by omega) rfl hdd (by omega)]; decide
  have hd0 : d 0 = 4 := by rw [hdd 0 (by omega)]; rfl
  rw [hrt] at hR
  rw [hrt, hd0]
  have sa_r : SomeA A_r := hR.someA (by simp)
  have G := G.trans S.out
  have S := St.start w4_
  repeat refine cw_seq ?_
  refine cw_region ?_
  refine rw_v (op_pure rfl) ?_
  first | refine rw_v (op_b (b := true) rfl (beq_iff_eq.2 (by omega))) ?_ | refine rw_v (op_b (b := false) rfl (beq_eq_false_iff_ne.2 (by omega))) ?_ | refine rw_v (op_pure rfl) ?_
  refine rw_v (op_pure rfl) ?_
  first | refine rw_off rfl ?_ | (refine rw_on rfl ?_; refine rw_v (op_pure rfl) ?_)
  first | refine rw_off rfl ?_ | (refine rw_on rfl ?_; (first | refine rw_v (op_b (b := true) rfl (beq_iff_eq.2 (by omega))) ?_ | refine rw_v (op_b (b := false) rfl (beq_eq_false_iff_ne.2 (by omega))) ?_ | refine rw_v (op_pure rfl) ?_))
  refine rw_v (op_pure rfl) ?_
  refine rw_v (op_pure rfl) ?_
  first | refine rw_off rfl ?_ | (refine rw_on rfl ?_; refine rw_v (op_pure rfl) ?_)
  first | refine rw_off rfl ?_ | (refine rw_on rfl ?_; (first | refine rw_v (op_b (b := true) rfl (beq_iff_eq.2 (by omega))) ?_ | refine rw_v (op_b (b := false) rfl (beq_eq_false_iff_ne.2 (by omega))) ?_ | refine rw_v (op_pure rfl) ?_))
  refine rw_v (op_pure rfl) ?_
  refine rw_v (op_pure rfl) ?_
  first | refine rw_off rfl ?_ | (refine rw_on rfl ?_; refine rw_v (op_pure rfl) ?_)
  first | refine rw_off rfl ?_ | (refine rw_on rfl ?_; refine rw_v (op_len Try.underlying41 rfl) ?_)
  first | refine rw_off rfl ?_ | (refine rw_on rfl ?_; (first | refine rw_v (op_b (b := true) rfl (beq_iff_eq.2 (by omega))) ?_ | refine rw_v (op_b (b := false) rfl (beq_eq_false_iff_ne.2 (by omega))) ?_ | refine rw_v (op_pure rfl) ?_))
  refine rw_v (op_pure rfl) ?_
  refine rw_v (op_pure rfl) ?_
  first | refine rw_off rfl ?_ | (refine rw_on rfl ?_; refine rw_v (op_pure rfl) ?_)
  first | refine rw_off rfl ?_ | (refine rw_on rfl ?_; refine rw_v (op_idx Try.underlying41 Try.sizeOf36 rfl rfl sa_r (by omega) (by simp)) ?_)
  first | refine rw_off rfl ?_ | (refine rw_on rfl ?_; refine rw_r (op_ldRA Try.underlying36 rfl (Try.sizeOf36 _) rfl (Row.rd (hR.gr S.out)) rfl rfl rfl) ?_)
  first | refine rw_off rfl ?_ | (refine rw_on rfl ?_; refine rw_v (op_build (pl := [(0, 1), (1, 1)]) Try.underlying36 Try.zeroValue36 (fun w => by kernel_rfl) rfl rfl) ?_)
  refine rw_on rfl ?_
  refine rw_v (op_eqCell (r := true) rfl rfl (by decide)) ?_
  refine rw_v (op_pure rfl) ?_
  refine rw_v (op_pure rfl) ?_
  first | refine rw_end ?_ | (refine rw_nil ?_; show CW _ _ _ _ _ _) | refine rw_nil ?_
  repeat refine cw_seq ?_
  refine cw_ret ?_
  repeat first | refine ret_then ?_ | refine ret_inb ?_
  exact res1 rfl ⟨rfl, G.trans S.out⟩
theorem routeNil_E (ax ay bx bz most : Int) (W : World) : Fn Try.prog 7 [.agg #[.int .i64 ax, .int .i64 ay], .agg #[.int .i64 bx, .int .i64 bz], .int .i64 most] W (RetG (.bool true) W) := by
  have S := St.start W
  refine Fn_enter Try.func7 rfl Try.results7 Try.ntmps7 (by kernel_rfl) (by kernel_rfl) ?_
  repeat refine cw_seq ?_
  refine cw_region ?_
  refine rw_newB (op_box rfl) S ?_
  intro b_a w2_ g2_ S
  refine rw_newB (op_box rfl) S ?_
  intro b_b w4_ g4_ S
  refine rw_v (op_pure rfl) ?_
  first | refine rw_end ?_ | (refine rw_nil ?_; show CW _ _ _ _ _ _) | refine rw_nil ?_
  repeat refine cw_seq ?_
  refine cw_region ?_
  refine rw_call rfl (awake32_E w4_) ?_
  rintro _ w5_ ⟨rfl, g5_⟩
  have S := S.gr g5_
  refine rw_v (op_pure rfl) ?_
  first | refine rw_end ?_ | (refine rw_nil ?_; show CW _ _ _ _ _ _) | refine rw_nil ?_
  repeat refine cw_seq ?_
  refine cw_false rfl ?_
  repeat refine cw_seq ?_
  refine cw_skip ?_
  try show CW _ _ _ _ _ _
  repeat refine cw_seq ?_
  refine cw_region ?_
  refine rw_r (op_loadAB Try.underlying36 rfl (Try.sizeOf36 _) rfl (S.blk (i := 1) rfl) rfl rfl) ?_
  refine rw_r (op_loadAB Try.underlying36 rfl (Try.sizeOf36 _) rfl (S.blk (i := 0) rfl) rfl rfl) ?_
  refine rw_call rfl (rFindNil_E (W := w5_) _ _ _ _) ?_
  rintro _ w6_ ⟨rfl, g6_⟩
  have S := S.gr g6_
  refine rw_v (op_pure rfl) ?_
  refine rw_v (op_pure rfl) ?_
  refine rw_v (op_pure rfl) ?_
  refine rw_v (op_pure rfl) ?_
  refine rw_v (op_pure rfl) ?_
  refine rw_v (op_pure rfl) ?_
  refine rw_v (op_pure rfl) ?_
  first | refine rw_end ?_ | (refine rw_nil ?_; show CW _ _ _ _ _ _) | refine rw_nil ?_
  repeat refine cw_seq ?_
  refine cw_region ?_
  refine rw_r (op_loadAB Try.underlying36 rfl (Try.sizeOf36 _) rfl (S.blk (i := 1) rfl) rfl rfl) ?_
  refine rw_call rfl (rCostsNil_E (W := w6_) _ _) ?_
  rintro _ w7_ ⟨rfl, g7_⟩
  have S := S.gr g7_
  refine rw_v (op_pure rfl) ?_
  refine rw_v (op_pure rfl) ?_
  refine rw_v (op_pure rfl) ?_
  refine rw_v (op_pure rfl) ?_
  refine rw_v (op_pure rfl) ?_
  first | refine rw_end ?_ | (refine rw_nil ?_; show CW _ _ _ _ _ _) | refine rw_nil ?_
  repeat refine cw_seq ?_
  refine cw_region ?_
  refine rw_r (op_loadAB Try.underlying36 rfl (Try.sizeOf36 _) rfl (S.blk (i := 1) rfl) rfl rfl) ?_
  refine rw_v (op_pure rfl) ?_
  refine rw_call rfl (rWithinNil_E (W := w7_) _ _ _) ?_
  rintro _ w8_ ⟨rfl, g8_⟩
  have S := S.gr g8_
  refine rw_v (op_pure rfl) ?_
  refine rw_v (op_pure rfl) ?_
  refine rw_v (op_pure rfl) ?_
  refine rw_v (op_pure rfl) ?_
  refine rw_v (op_pure rfl) ?_
  first | refine rw_end ?_ | (refine rw_nil ?_; show CW _ _ _ _ _ _) | refine rw_nil ?_
  repeat refine cw_seq ?_
  refine cw_region ?_
  refine rw_v (op_pure rfl) ?_
  first | refine rw_v (op_b (b := true) rfl (beq_iff_eq.2 (by omega))) ?_ | refine rw_v (op_b (b := false) rfl (beq_eq_false_iff_ne.2 (by omega))) ?_ | refine rw_v (op_pure rfl) ?_
  refine rw_v (op_pure rfl) ?_
  first | refine rw_off rfl ?_ | (refine rw_on rfl ?_; refine rw_v (op_pure rfl) ?_)
  first | refine rw_off rfl ?_ | (refine rw_on rfl ?_; refine rw_v (op_len Try.underlying41 rfl) ?_)
  first | refine rw_off rfl ?_ | (refine rw_on rfl ?_; (first | refine rw_v (op_b (b := true) rfl (beq_iff_eq.2 (by omega))) ?_ | refine rw_v (op_b (b := false) rfl (beq_eq_false_iff_ne.2 (by omega))) ?_ | refine rw_v (op_pure rfl) ?_))
  refine rw_v (op_pure rfl) ?_
  refine rw_v (op_pure rfl) ?_
  first | refine rw_off rfl ?_ | (refine rw_on rfl ?_; refine rw_v (op_pure rfl) ?_)
  first | refine rw_off rfl ?_ | (refine rw_on rfl ?_; (first | refine rw_v (op_b (b := true) rfl (beq_iff_eq.2 (by omega))) ?_ | refine rw_v (op_b (b := false) rfl (beq_eq_false_iff_ne.2 (by omega))) ?_ | refine rw_v (op_pure rfl) ?_))
  refine rw_v (op_pure rfl) ?_
  refine rw_v (op_pure rfl) ?_
  first | refine rw_off rfl ?_ | (refine rw_on rfl ?_; refine rw_v (op_pure rfl) ?_)
  first | refine rw_off rfl ?_ | (refine rw_on rfl ?_; refine rw_v (op_len Try.underlying22 rfl) ?_)
  first | refine rw_off rfl ?_ | (refine rw_on rfl ?_; (first | refine rw_v (op_b (b := true) rfl (beq_iff_eq.2 (by omega))) ?_ | refine rw_v (op_b (b := false) rfl (beq_eq_false_iff_ne.2 (by omega))) ?_ | refine rw_v (op_pure rfl) ?_))
  refine rw_v (op_pure rfl) ?_
  refine rw_v (op_pure rfl) ?_
  first | refine rw_off rfl ?_ | (refine rw_on rfl ?_; refine rw_v (op_pure rfl) ?_)
  first | refine rw_off rfl ?_ | (refine rw_on rfl ?_; (first | refine rw_v (op_b (b := true) rfl (beq_iff_eq.2 (by omega))) ?_ | refine rw_v (op_b (b := false) rfl (beq_eq_false_iff_ne.2 (by omega))) ?_ | refine rw_v (op_pure rfl) ?_))
  refine rw_v (op_pure rfl) ?_
  refine rw_v (op_pure rfl) ?_
  first | refine rw_off rfl ?_ | (refine rw_on rfl ?_; refine rw_v (op_pure rfl) ?_)
  first | refine rw_off rfl ?_ | (refine rw_on rfl ?_; refine rw_v (op_len Try.underlying41 rfl) ?_)
  first | refine rw_off rfl ?_ | (refine rw_on rfl ?_; (first | refine rw_v (op_b (b := true) rfl (beq_iff_eq.2 (by omega))) ?_ | refine rw_v (op_b (b := false) rfl (beq_eq_false_iff_ne.2 (by omega))) ?_ | refine rw_v (op_pure rfl) ?_))
  refine rw_v (op_pure rfl) ?_
  refine rw_v (op_pure rfl) ?_
  first | refine rw_off rfl ?_ | (refine rw_on rfl ?_; refine rw_v (op_pure rfl) ?_)
  first | refine rw_off rfl ?_ | (refine rw_on rfl ?_; (first | refine rw_v (op_b (b := true) rfl (beq_iff_eq.2 (by omega))) ?_ | refine rw_v (op_b (b := false) rfl (beq_eq_false_iff_ne.2 (by omega))) ?_ | refine rw_v (op_pure rfl) ?_))
  refine rw_v (op_pure rfl) ?_
  refine rw_v (op_pure rfl) ?_
  first | refine rw_end ?_ | (refine rw_nil ?_; show CW _ _ _ _ _ _) | refine rw_nil ?_
  repeat refine cw_seq ?_
  refine cw_ret ?_
  repeat first | refine ret_then ?_ | refine ret_inb ?_
  exact res1 rfl ⟨rfl, S.out⟩
end Go.Proofs.Ytmdkjohllinphaa
