/- hachurelaw29.RegionsRise. -/
import Derived.Test.YtbcgbcipigcbhaaRegOf
namespace Go.Proofs.Ytbcgbcipigcbhaa
open Go.RowKit
set_option linter.unusedVariables false
set_option linter.unusedSimpArgs false
set_option maxRecDepth 100000

section
variable {P : Program} {e : Nat → Value} {d : Option Tmp} {ty : TypeId} {ps : String} {af : Array Edge}
theorem op_bne {t t' : TypeId} {x y : Operand} {a b B : Bool} (hu : P.underlying t = some .bool) (hx : ev e x = .bool a) (hy : ev e y = .bool b) (hB : (a != b) = B) : OpV P e ⟨d, .binOp .neq t x y t', ty, ps, af, none⟩ (.bool B) := by
  intro w
  subst hB
  have h3 : ∀ n' : Nat, (Op.equalIn (n' + 1) t (.bool a) (.bool b)).run P w = .ok (a == b) w := fun n' => by
    unfold Op.equalIn
    simp [run_underlying hu]
  have h4 : (Op.equal t (.bool a) (.bool b)).run P w = .ok (a == b) w := h3 9999
  simp [OpR, execOp, hx, hy, eqGuard, binOp, h4, bne]
end

/-! ### Regions over two heights -/
section
variable {gw : Nat} {V : List Int} {t u : Int} {r : Nat → Nat}
theorem Roots.adj (h : Roots gw V t r) {i j : Nat} (a : Adj gw V t i j) : r i = r j := by
  obtain ⟨hi, hj, vi, vj, s⟩ := a
  rcases s with ⟨e, p⟩ | ⟨e, p⟩ | e | e
  · have := h.left i hi vi p (by rw [show i - 1 = j by omega]; exact vj)
    rwa [show i - 1 = j by omega] at this
  · have := h.left j hj vj p (by rw [show j - 1 = i by omega]; exact vi)
    rw [show j - 1 = i by omega] at this
    exact this.symm
  · have := h.up i hi vi (by omega) (by rw [show i - gw = j by omega]; exact vj)
    rwa [show i - gw = j by omega] at this
  · have := h.up j hj vj (by omega) (by rw [show j - gw = i by omega]; exact vi)
    rw [show j - gw = i by omega] at this
    exact this.symm
theorem Roots.same (h : Roots gw V t r) {i j : Nat} (c : Conn gw V t i j) : r i = r j := by
  induction c with
  | refl => rfl
  | step a _ ih => exact (h.adj a).trans ih
theorem Conn.lower {i j : Nat} (h : t ≤ u) (c : Conn gw V u i j) : Conn gw V t i j := by
  induction c with
  | refl => exact .refl _
  | step a _ ih => exact .step ⟨a.1, a.2.1, Int.le_trans h a.2.2.1, Int.le_trans h a.2.2.2.1, a.2.2.2.2⟩ ih
theorem Conn.alone {i x : Nat} (h : ∀ j, ¬ Adj gw V t i j) (c : Conn gw V t i x) : x = i := by
  cases c with
  | refl => rfl
  | step a _ => exact absurd a (h _)
/-- roots are the same whatever the forest -/
theorem Roots.uniq {r' : Nat → Nat} (h : Roots gw V t r) (h' : Roots gw V t r') {i : Nat} (hi : i < V.length) : r i = r' i := by
  have h1 := h'.same (h.conn i hi)
  have h2 := h.same (h'.conn i hi)
  have h3 := h'.le (r i) (by have := h.le i hi; omega)
  have h4 := h.le (r' i) (by have := h'.le i hi; omega)
  omega
theorem cntR_lt {q k : Nat} (hq : q < k) (h : isRoot V t r q = true) : cntR V t r q + 1 ≤ cntR V t r k := by
  have h1 : cntR V t r (q + 1) = cntR V t r q + 1 := by unfold cntR; rw [rootsL_succ, if_pos h]; simp
  have := cntR_mono (V := V) (t := t) (r := r) (show q + 1 ≤ k from hq)
  omega
theorem Roots.isRoot (h : Roots gw V t r) {i : Nat} (hi : i < V.length) (hv : t ≤ V.getD i 0) : isRoot V t r (r i) = true := by
  unfold Go.Proofs.Ytbcgbcipigcbhaa.isRoot
  simp only [Bool.and_eq_true, decide_eq_true_eq]
  exact ⟨(h.conn i hi).ge hv, h.idem i hi⟩
theorem Roots.lab_le (h : Roots gw V t r) {i : Nat} (hi : i < V.length) : labF V t r i ≤ cntR V t r V.length := by
  unfold labF
  split
  · rename_i hv; exact cntR_lt (Nat.lt_of_le_of_lt (h.le i hi) hi) (h.isRoot hi hv)
  · exact Nat.zero_le _
theorem side_near {gh k : Nat} (hgw : 0 < gw) (hk : k < gw * gh) {c : Int × Int} (hc : c ∈ nearZ gw gh (k % gw : Nat) (k / gw : Nat)) : inG gw gh c = true ∧ Side gw k (c.2.toNat * gw + c.1.toNat) := by
  unfold nearZ at hc
  obtain ⟨h1, h2⟩ := List.mem_filter.1 hc
  refine ⟨h2, ?_⟩
  have hin := inG_iff.1 h2
  have hx : k % gw < gw := Nat.mod_lt _ hgw
  have hdm : k / gw * gw + k % gw = k := by rw [Nat.mul_comm]; exact Nat.div_add_mod _ _
  unfold near4 at h1
  generalize hX : k % gw = X at *
  generalize hY : k / gw = Y at *
  simp only [List.mem_cons, List.not_mem_nil, or_false] at h1
  unfold Side
  rw [hX]
  rcases h1 with rfl | rfl | rfl | rfl
  · dsimp only at hin ⊢
    have e : ((Y : Int) - 1).toNat = Y - 1 := by omega
    have hY1 : 1 ≤ Y := by omega
    rw [e, Int.toNat_natCast, Nat.sub_mul, Nat.one_mul]
    have : gw ≤ Y * gw := Nat.le_mul_of_pos_left _ hY1
    omega
  · dsimp only at hin ⊢
    rw [Int.toNat_natCast]
    omega
  · dsimp only at hin ⊢
    rw [Int.toNat_natCast]
    have e : Y * gw + ((X : Int) + 1).toNat = k + 1 := by omega
    have e2 : (k + 1) % gw = X + 1 := by
      rw [← e, show ((X : Int) + 1).toNat = X + 1 by omega, Nat.mul_add_mod_self_right, Nat.mod_eq_of_lt (by omega)]
    rw [e]
    exact .inr (.inl ⟨rfl, by omega⟩)
  · dsimp only at hin ⊢
    have e : ((Y : Int) + 1).toNat = Y + 1 := by omega
    rw [e, Int.toNat_natCast, Nat.succ_mul]
    omega
end

theorem awake29_E (W : World) : Fn Try.prog 23 [] W (RetG (.bool true) W) := by
  have G := Gr.refl W
  have S := St.start W
  refine Fn_enter Try.func23 rfl Try.results23 Try.ntmps23 (by kernel_rfl) (by kernel_rfl) ?_
  repeat refine cw_seq ?_
  refine cw_region ?_
  refine rw_v (op_pure rfl) ?_
  first | refine rw_end ?_ | (refine rw_nil ?_; show CW _ _ _ _ _ _) | refine rw_nil ?_
  repeat refine cw_seq ?_
  refine cw_region ?_
  refine rw_buildS Try.underlying22 Try.sizeOf2 Try.zeroValue2 rfl rfl rfl rfl rfl rfl S ?_
  intro A_v w2_ g2_ S sa_v
  refine rw_call rfl (from_E (W := w2_) (gw := 2) (gh := 2) (V := [1, 0, 0, 1]) 4 (by omega) (by omega) rfl (by decide) (S.rd (i := 0) rfl)) ?_
  rintro _ w3_ ⟨p, B, bc, bs, Rs, rfl, hG, hf, g3_⟩
  have S := S.gr g3_
  iterate 5 refine rw_v (op_pure rfl) ?_
  first | refine rw_end ?_ | (refine rw_nil ?_; show CW _ _ _ _ _ _) | refine rw_nil ?_
  repeat refine cw_seq ?_
  refine cw_region ?_
  refine rw_v (op_pure rfl) ?_
  refine rw_call rfl (regionsOf_E 1 hG) ?_
  rintro _ w4_ ⟨r1, hr1, A_l, c_l, A_p, c_p, rfl, hL, hPl, _, _, g4_⟩
  have S := S.gr g4_
  have hG := hG.gr g4_
  iterate 7 refine rw_v (op_pure rfl) ?_
  first | refine rw_end ?_ | (refine rw_nil ?_; show CW _ _ _ _ _ _) | refine rw_nil ?_
  repeat refine cw_seq ?_
  refine cw_region ?_
  refine rw_v (op_pure rfl) ?_
  refine rw_call rfl (regionsOf_E 0 hG) ?_
  rintro _ w5_ ⟨r0, hr0, A_m, c_m, A_q, c_q, rfl, hM, hPq, _, _, g5_⟩
  have S := S.gr g5_
  have hL := hL.gr g5_
  iterate 7 refine rw_v (op_pure rfl) ?_
  first | refine rw_end ?_ | (refine rw_nil ?_; show CW _ _ _ _ _ _) | refine rw_nil ?_
  have hGl : gridL 2 2 (fun i => [(1 : Int), 0, 0, 1].getD i 0) = [1, 0, 0, 1] := by decide
  rw [hGl] at hr1 hr0 hL hPq
  rw [hGl]
  have e10 : r1 0 = 0 := by have := hr1.le 0 (by decide); omega
  have e13 : r1 3 = 3 := by
    refine Conn.alone (fun j ⟨_, hj, _, vj, s⟩ => ?_) (hr1.conn 3 (by decide))
    have hj : j < 4 := hj
    match j, hj with
    | 0, _ => unfold Side at s; omega
    | 1, _ => exact absurd vj (by decide)
    | 2, _ => exact absurd vj (by decide)
    | 3, _ => unfold Side at s; omega
  have e00 : r0 0 = 0 := by have := hr0.le 0 (by decide); omega
  have e01 : r0 1 = 0 := by have := hr0.left 1 (by decide) (by decide) (by decide) (by decide); rw [this, e00]
  have e02 : r0 2 = 0 := by have := hr0.up 2 (by decide) (by decide) (by decide) (by decide); rw [this, e00]
  have e03 : r0 3 = 0 := by have := hr0.left 3 (by decide) (by decide) (by decide) (by decide); rw [this, e02]
  have hrl1 : rootsL [1, 0, 0, 1] 1 r1 4 = [0, 3] := by simp [rootsL, isRoot, List.range_succ, e10, e13]
  have hrl0 : rootsL [1, 0, 0, 1] 0 r0 4 = [0] := by simp [rootsL, isRoot, List.range_succ, e00, e01, e02, e03]
  have hc1 : cntR [1, 0, 0, 1] 1 r1 [(1 : Int), 0, 0, 1].length = 2 := by show (rootsL [1, 0, 0, 1] 1 r1 4).length = 2; rw [hrl1]; rfl
  have hc0 : cntR [1, 0, 0, 1] 0 r0 [(1 : Int), 0, 0, 1].length = 1 := by show (rootsL [1, 0, 0, 1] 0 r0 4).length = 1; rw [hrl0]; rfl
  have hlab : cellsN [(1 : Int), 0, 0, 1].length (labF [1, 0, 0, 1] 1 r1) = ints [1, 0, 0, 2] := by
    have h3 : cntR [1, 0, 0, 1] 1 r1 3 = 1 := by simp [cntR, rootsL, isRoot, List.range_succ, e10]
    have h0 : cntR [1, 0, 0, 1] 1 r1 0 = 0 := rfl
    show [Value.int .i64 (labF [1, 0, 0, 1] 1 r1 0 : Nat), .int .i64 (labF [1, 0, 0, 1] 1 r1 1 : Nat), .int .i64 (labF [1, 0, 0, 1] 1 r1 2 : Nat), .int .i64 (labF [1, 0, 0, 1] 1 r1 3 : Nat)] = _
    simp [labF, e10, e13, h3, h0, ints]
  have hmem : members [1, 0, 0, 1] 0 r0 0 4 = [0, 1, 2, 3] := by simp [members, memB, List.range_succ, e00, e01, e02, e03]
  have harea : (partsV (partsAt 2 [1, 0, 0, 1] 0 r0 [(1 : Int), 0, 0, 1].length))[0 * 8 + 1]? = some (.int .i64 4) := by
    have : (partsAt 2 [1, 0, 0, 1] 0 r0 4)[0]? = some (partAt 2 [1, 0, 0, 1] 0 r0 4 0) := by unfold partsAt; rw [hrl0]; rfl
    show (partsV (partsAt 2 [1, 0, 0, 1] 0 r0 4))[0 * 8 + 1]? = _
    rw [partsV_get (k := 0) (j := 1) this (by omega)]
    show some (Value.int .i64 ((members [1, 0, 0, 1] 0 r0 0 4).length : Nat)) = _
    rw [hmem]; rfl
  rw [hlab] at hL
  rw [hc0] at hPq
  rw [hc1, hc0]
  have sa_q : SomeA A_q := hPq.someA (by omega)
  have G := G.trans S.out
  have S := St.start w5_
  repeat refine cw_seq ?_
  refine cw_region ?_
  refine rw_v (op_pure rfl) ?_
  first | refine rw_v (op_b (b := true) rfl (beq_iff_eq.2 (by omega))) ?_ | refine rw_v (op_b (b := false) rfl (beq_eq_false_iff_ne.2 (by omega))) ?_ | refine rw_v (op_pure rfl) ?_
  refine rw_v (op_pure rfl) ?_
  first | refine rw_off rfl ?_ | (refine rw_on rfl ?_; refine rw_v (op_pure rfl) ?_)
  first | refine rw_off rfl ?_ | (refine rw_on rfl ?_; (first | refine rw_v (op_b (b := true) rfl (beq_iff_eq.2 (by omega))) ?_ | refine rw_v (op_b (b := false) rfl (beq_eq_false_iff_ne.2 (by omega))) ?_ | refine rw_v (op_pure rfl) ?_))
  iterate 2 refine rw_v (op_pure rfl) ?_
  first | refine rw_off rfl ?_ | (refine rw_on rfl ?_; refine rw_v (op_pure rfl) ?_)
  first | refine rw_off rfl ?_ | (refine rw_on rfl ?_; (first | refine rw_v (op_b (b := true) rfl (beq_iff_eq.2 (by omega))) ?_ | refine rw_v (op_b (b := false) rfl (beq_eq_false_iff_ne.2 (by omega))) ?_ | refine rw_v (op_pure rfl) ?_))
  iterate 2 refine rw_v (op_pure rfl) ?_
  first | refine rw_off rfl ?_ | (refine rw_on rfl ?_; refine rw_v (op_pure rfl) ?_)
  refine rw_on rfl ?_
  refine rw_buildS Try.underlying22 Try.sizeOf2 Try.zeroValue2 rfl rfl rfl rfl rfl rfl S ?_
  intro A_lit w7_ g7_ S sa_lit
  refine rw_on rfl ?_
  refine rw_call rfl (rsame_E _ _ _ _ [1, 0, 0, 2] [1, 0, 0, 2] w7_ (by decide) (hL.gr S.out).rd (S.rd (i := 0) rfl)) ?_
  rintro _ w8_ ⟨rfl, g8_⟩
  have S := S.gr g8_
  iterate 2 refine rw_v (op_pure rfl) ?_
  first | refine rw_off rfl ?_ | (refine rw_on rfl ?_; refine rw_v (op_pure rfl) ?_)
  first | refine rw_off rfl ?_ | (refine rw_on rfl ?_; refine rw_v (op_len Try.underlying31 rfl) ?_)
  first | refine rw_off rfl ?_ | (refine rw_on rfl ?_; (first | refine rw_v (op_b (b := true) rfl (beq_iff_eq.2 (by omega))) ?_ | refine rw_v (op_b (b := false) rfl (beq_eq_false_iff_ne.2 (by omega))) ?_ | refine rw_v (op_pure rfl) ?_))
  iterate 2 refine rw_v (op_pure rfl) ?_
  first | refine rw_off rfl ?_ | (refine rw_on rfl ?_; refine rw_v (op_pure rfl) ?_)
  first | refine rw_off rfl ?_ | (refine rw_on rfl ?_; refine rw_v (op_len Try.underlying31 rfl) ?_)
  first | refine rw_off rfl ?_ | (refine rw_on rfl ?_; (first | refine rw_v (op_b (b := true) rfl (beq_iff_eq.2 (by omega))) ?_ | refine rw_v (op_b (b := false) rfl (beq_eq_false_iff_ne.2 (by omega))) ?_ | refine rw_v (op_pure rfl) ?_))
  iterate 2 refine rw_v (op_pure rfl) ?_
  first | refine rw_off rfl ?_ | (refine rw_on rfl ?_; refine rw_v (op_pure rfl) ?_)
  first | refine rw_off rfl ?_ | (refine rw_on rfl ?_; refine rw_v (op_idx Try.underlying31 Try.sizeOf108 rfl rfl sa_q (by omega) (by omega)) ?_)
  first | refine rw_off rfl ?_ | (refine rw_on rfl ?_; refine rw_v (op_fld Try.underlying108 rfl Try.sizeOf2 rfl rfl sa_q) ?_)
  first | refine rw_off rfl ?_ | (refine rw_on rfl ?_; refine rw_r (op_ldR Try.underlying2 rfl rfl (Row.rd (hPq.gr S.out)) harea) ?_)
  first | refine rw_off rfl ?_ | (refine rw_on rfl ?_; (first | refine rw_v (op_b (b := true) rfl (beq_iff_eq.2 (by omega))) ?_ | refine rw_v (op_b (b := false) rfl (beq_eq_false_iff_ne.2 (by omega))) ?_ | refine rw_v (op_pure rfl) ?_))
  iterate 2 refine rw_v (op_pure rfl) ?_
  first | refine rw_end ?_ | (refine rw_nil ?_; show CW _ _ _ _ _ _) | refine rw_nil ?_
  repeat refine cw_seq ?_
  refine cw_ret ?_
  repeat first | refine ret_then ?_ | refine ret_inb ?_
  exact res1 rfl ⟨rfl, G.trans S.out⟩
section
variable {W : World} {A : Option Addr} {V : List Int}
end
end Go.Proofs.Ytbcgbcipigcbhaa
