/- hachurelaw29.RegionsRise. -/
import Derived.Test.YtmdkjohllinphaaRegOf2
namespace Go.Proofs.Ytmdkjohllinphaa
open Go.RowKit
set_option linter.unusedVariables false
set_option linter.unusedSimpArgs false
set_option maxRecDepth 100000

section
variable {P : Program} {e : Nat → Value} {d : Option Tmp} {ty : TypeId} {ps : String} {af : Array Edge}
theorem op_bne {t t' : TypeId} {x y : Operand} {a b B : Bool} (hu : P.underlying t = some .bool) (hx : ev e x = .bool a) (hy : ev e y = .bool b) (hB : (a != b) = B) : OpV P e ⟨d, .binOp .neq t x y t', ty, ps, af, none⟩ (.bool B) := by
  intro w
  subst hB
  have h3 : ∀ n' : Nat, (Op.equalIn (n' + 1) t (.bool a) (.bool b)).run P w = .ok (a == b) w := fun n' => by
    unfold Op.equalIn
    simp [run_underlying hu]
  have h4 : (Op.equal t (.bool a) (.bool b)).run P w = .ok (a == b) w := h3 9999
  simp [OpR, execOp, hx, hy, eqGuard, binOp, h4, bne]
end

/-! ### Regions over two heights -/
section
variable {gw : Nat} {V : List Int} {t u : Int} {r : Nat → Nat}
theorem Roots.adj (h : Roots gw V t r) {i j : Nat} (a : Adj gw V t i j) : r i = r j := by
  obtain ⟨hi, hj, vi, vj, s⟩ := a
  rcases s with ⟨e, p⟩ | ⟨e, p⟩ | e | e
  · have := h.left i hi vi p (by rw [show i - 1 = j by omega]; exact vj)
    rwa [show i - 1 = j by omega] at this
  · have := h.left j hj vj p (by rw [show j - 1 = i by omega]; exact vi)
    rw [show j - 1 = i by omega] at this
    exact this.symm
  · have := h.up i hi vi (by omega) (by rw [show i - gw = j by omega]; exact vj)
    rwa [show i - gw = j by omega] at this
  · have := h.up j hj vj (by omega) (by rw [show j - gw = i by omega]; exact vi)
    rw [show j - gw = i by omega] at this
    exact this.symm
theorem Roots.same (h : Roots gw V t r) {i j : Nat} (c : Conn gw V t i j) : r i = r j := by
  induction c with
  | refl => rfl
  | step a _ ih => exact (h.adj a).trans ih
theorem Conn.lower {i j : Nat} (h : t ≤ u) (c : Conn gw V u i j) : Conn gw V t i j := by
  induction c with
  | refl => exact .refl _
  | step a _ ih => exact .step ⟨a.1, a.2.1, Int.le_trans h a.2.2.1, Int.le_trans h a.2.2.2.1, a.2.2.2.2⟩ ih
theorem Conn.alone {i x : Nat} (h : ∀ j, ¬ Adj gw V t i j) (c : Conn gw V t i x) : x = i := by
  cases c with
  | refl => rfl
  | step a _ => exact absurd a (h _)
/-- roots are the same whatever the forest -/
theorem Roots.uniq {r' : Nat → Nat} (h : Roots gw V t r) (h' : Roots gw V t r') {i : Nat} (hi : i < V.length) : r i = r' i := by
  have h1 := h'.same (h.conn i hi)
  have h2 := h.same (h'.conn i hi)
  have h3 := h'.le (r i) (by have := h.le i hi; omega)
  have h4 := h.le (r' i) (by have := h'.le i hi; omega)
  omega
theorem cntR_lt {q k : Nat} (hq : q < k) (h : isRoot V t r q = true) : cntR V t r q + 1 ≤ cntR V t r k := by
  have h1 : cntR V t r (q + 1) = cntR V t r q + 1 := by unfold cntR; rw [rootsL_succ, if_pos h]; simp
  have := cntR_mono (V := V) (t := t) (r := r) (show q + 1 ≤ k from hq)
  omega
theorem Roots.isRoot (h : Roots gw V t r) {i : Nat} (hi : i < V.length) (hv : t ≤ V.getD i 0) : isRoot V t r (r i) = true := by
  unfold Go.Proofs.Ytmdkjohllinphaa.isRoot
  simp only [Bool.and_eq_true, decide_eq_true_eq]
  exact ⟨(h.conn i hi).ge hv, h.idem i hi⟩
theorem Roots.lab_le (h : Roots gw V t r) {i : Nat} (hi : i < V.length) : labF V t r i ≤ cntR V t r V.length := by
  unfold labF
  split
  · rename_i hv; exact cntR_lt (Nat.lt_of_le_of_lt (h.le i hi) hi) (h.isRoot hi hv)
  · exact Nat.zero_le _
theorem side_near {gh k : Nat} (hgw : 0 < gw) (hk : k < gw * gh) {c : Int × Int} (hc : c ∈ nearZ gw gh (k % gw : Nat) (k / gw : Nat)) : inG gw gh c = true ∧ Side gw k (c.2.toNat * gw + c.1.toNat) := by
  unfold nearZ at hc
  obtain ⟨h1, h2⟩ := List.mem_filter.1 hc
  refine ⟨h2, ?_⟩
  have hin := inG_iff.1 h2
  have hx : k % gw < gw := Nat.mod_lt _ hgw
  have hdm : k / gw * gw + k % gw = k := by rw [Nat.mul_comm]; exact Nat.div_add_mod _ _
  unfold near4 at h1
  generalize hX : k % gw = X at *
  generalize hY : k / gw = Y at *
  simp only [List.mem_cons, List.not_mem_nil, or_false] at h1
  unfold Side
  rw [hX]
  rcases h1 with rfl | rfl | rfl | rfl
  · dsimp only at hin ⊢
    have e : ((Y : Int) - 1).toNat = Y - 1 := by omega
    have hY1 : 1 ≤ Y := by omega
    rw [e, Int.toNat_natCast, Nat.sub_mul, Nat.one_mul]
    have : gw ≤ Y * gw := Nat.le_mul_of_pos_left _ hY1
    omega
  · dsimp only at hin ⊢
    rw [Int.toNat_natCast]
    omega
  · dsimp only at hin ⊢
    rw [Int.toNat_natCast]
    have e : Y * gw + ((X : Int) + 1).toNat = k + 1 := by omega
    have e2 : (k + 1) % gw = X + 1 := by
      rw [← e, show ((X : Int) + 1).toNat = X + 1 by omega, Nat.mul_add_mod_self_right, Nat.mod_eq_of_lt (by omega)]
    rw [e]
    exact .inr (.inl ⟨rfl, by omega⟩)
  · dsimp only at hin ⊢
    have e : ((Y : Int) + 1).toNat = Y + 1 := by omega
    rw [e, Int.toNat_natCast, Nat.succ_mul]
    omega
end

theorem awake29_E (W : World) : Fn Try.prog 15 [] W (RetG (.bool true) W) := by
  have G := Gr.refl W
  have S := St.start W
  refine Fn_enter Try.func15 rfl Try.results15 Try.ntmps15 (by kernel_rfl) (by kernel_rfl) ?_
  repeat refine cw_seq ?_
  refine cw_region ?_
  refine rw_v (op_pure rfl) ?_
  first | refine rw_end ?_ | (refine rw_nil ?_; show CW _ _ _ _ _ _) | refine rw_nil ?_
  repeat refine cw_seq ?_
  refine cw_region ?_
  refine rw_buildS Try.underlying22 Try.sizeOf2 Try.zeroValue2 rfl rfl rfl rfl rfl rfl S ?_
  intro A_v w2_ g2_ S sa_v
  refine rw_call rfl (from_E (W := w2_) (gw := 2) (gh := 2) (V := [1, 0, 0, 1]) 4 (by omega) (by omega) rfl (by decide) (S.rd (i := 0) rfl)) ?_
  rintro _ w3_ ⟨p, B, bc, bs, Rs, rfl, hG, hf, g3_⟩
  have S := S.gr g3_
  refine rw_v (op_pure rfl) ?_
  refine rw_v (op_pure rfl) ?_
  refine rw_v (op_pure rfl) ?_
  refine rw_v (op_pure rfl) ?_
  refine rw_v (op_pure rfl) ?_
  first | refine rw_end ?_ | (refine rw_nil ?_; show CW _ _ _ _ _ _) | refine rw_nil ?_
  repeat refine cw_seq ?_
  refine cw_region ?_
  refine rw_v (op_pure rfl) ?_
  refine rw_call rfl (regionsOf_E 1 hG) ?_
  rintro _ w4_ ⟨r1, hr1, A_l, c_l, A_p, c_p, rfl, hL, hPl, _, _, g4_⟩
  have S := S.gr g4_
  have hG := hG.gr g4_
  refine rw_v (op_pure rfl) ?_
  refine rw_v (op_pure rfl) ?_
  refine rw_v (op_pure rfl) ?_
  refine rw_v (op_pure rfl) ?_
  refine rw_v (op_pure rfl) ?_
  refine rw_v (op_pure rfl) ?_
  refine rw_v (op_pure rfl) ?_
  first | refine rw_end ?_ | (refine rw_nil ?_; show CW _ _ _ _ _ _) | refine rw_nil ?_
  repeat refine cw_seq ?_
  refine cw_region ?_
  refine rw_v (op_pure rfl) ?_
  refine rw_call rfl (regionsOf_E 0 hG) ?_
  rintro _ w5_ ⟨r0, hr0, A_m, c_m, A_q, c_q, rfl, hM, hPq, _, _, g5_⟩
  have S := S.gr g5_
  have hL := hL.gr g5_
  refine rw_v (op_pure rfl) ?_
  refine rw_v (op_pure rfl) ?_
  refine rw_v (op_pure rfl) ?_
  refine rw_v (op_pure rfl) ?_
  refine rw_v (op_pure rfl) ?_
  refine rw_v (op_pure rfl) ?_
  refine rw_v (op_pure rfl) ?_
  first | refine rw_end ?_ | (refine rw_nil ?_; show CW _ _ _ _ _ _) | refine rw_nil ?_
  have hGl : gridL 2 2 (fun i => [(1 : Int), 0, 0, 1].getD i 0) = [1, 0, 0, 1] := by decide
  rw [hGl] at hr1 hr0 hL hPq
  rw [hGl]
  have e10 : r1 0 = 0 := by have := hr1.le 0 (by decide); omega
  have e13 : r1 3 = 3 := by
    refine Conn.alone (fun j ⟨_, hj, _, vj, s⟩ => ?_) (hr1.conn 3 (by decide))
    have hj : j < 4 := hj
    match j, hj with
    | 0, _ => unfold Side at s; omega
    | 1, _ => exact absurd vj (by decide)
    | 2, _ => exact absurd vj (by decide)
    | 3, _ => unfold Side at s; omega
  have e00 : r0 0 = 0 := by have := hr0.le 0 (by decide); omega
  have e01 : r0 1 = 0 := by have := hr0.left 1 (by decide) (by decide) (by decide) (by decide); rw [this, e00]
  have e02 : r0 2 = 0 := by have := hr0.up 2 (by decide) (by decide) (by decide) (by decide); rw [this, e00]
  have e03 : r0 3 = 0 := by have := hr0.left 3 (by decide) (by decide) (by decide) (by decide); rw [this, e02]
  have hrl1 : rootsL [1, 0, 0, 1] 1 r1 4 = [0, 3] := by simp [rootsL, isRoot, List.range_succ, e10, e13]
  have hrl0 : rootsL [1, 0, 0, 1] 0 r0 4 = [0] := by simp [rootsL, isRoot, List.range_succ, e00, e01, e02, e03]
  have hc1 : cntR [1, 0, 0, 1] 1 r1 [(1 : Int), 0, 0, 1].length = 2 := by show (rootsL [1, 0, 0, 1] 1 r1 4).length = 2; rw [hrl1]; rfl
  have hc0 : cntR [1, 0, 0, 1] 0 r0 [(1 : Int), 0, 0, 1].length = 1 := by show (rootsL [1, 0, 0, 1] 0 r0 4).length = 1; rw [hrl0]; rfl
  have hlab : cellsN [(1 : Int), 0, 0, 1].length (labF [1, 0, 0, 1] 1 r1) = ints [1, 0, 0, 2] := by
    have h3 : cntR [1, 0, 0, 1] 1 r1 3 = 1 := by simp [cntR, rootsL, isRoot, List.range_succ, e10]
    have h0 : cntR [1, 0, 0, 1] 1 r1 0 = 0 := rfl
    show [Value.int .i64 (labF [1, 0, 0, 1] 1 r1 0 : Nat), .int .i64 (labF [1, 0, 0, 1] 1 r1 1 : Nat), .int .i64 (labF [1, 0, 0, 1] 1 r1 2 : Nat), .int .i64 (labF [1, 0, 0, 1] 1 r1 3 : Nat)] = _
    simp [labF, e10, e13, h3, h0, ints]
  have hmem : members [1, 0, 0, 1] 0 r0 0 4 = [0, 1, 2, 3] := by simp [members, memB, List.range_succ, e00, e01, e02, e03]
  have harea : (partsV (partsAt 2 [1, 0, 0, 1] 0 r0 [(1 : Int), 0, 0, 1].length))[0 * 8 + 1]? = some (.int .i64 4) := by
    have : (partsAt 2 [1, 0, 0, 1] 0 r0 4)[0]? = some (partAt 2 [1, 0, 0, 1] 0 r0 4 0) := by unfold partsAt; rw [hrl0]; rfl
    show (partsV (partsAt 2 [1, 0, 0, 1] 0 r0 4))[0 * 8 + 1]? = _
    rw [partsV_get (k := 0) (j := 1) this (by omega)]
    show some (Value.int .i64 ((members [1, 0, 0, 1] 0 r0 0 4).length : Nat)) = _
    rw [hmem]; rfl
  rw [hlab] at hL
  rw [hc0] at hPq
  rw [hc1, hc0]
  have sa_q : SomeA A_q := hPq.someA (by omega)
  have G := G.trans S.out
  have S := St.start w5_
  repeat refine cw_seq ?_
  refine cw_region ?_
  refine rw_v (op_pure rfl) ?_
  first | refine rw_v (op_b (b := true) rfl (beq_iff_eq.2 (by omega))) ?_ | refine rw_v (op_b (b := false) rfl (beq_eq_false_iff_ne.2 (by omega))) ?_ | refine rw_v (op_pure rfl) ?_
  refine rw_v (op_pure rfl) ?_
  first | refine rw_off rfl ?_ | (refine rw_on rfl ?_; refine rw_v (op_pure rfl) ?_)
  first | refine rw_off rfl ?_ | (refine rw_on rfl ?_; (first | refine rw_v (op_b (b := true) rfl (beq_iff_eq.2 (by omega))) ?_ | refine rw_v (op_b (b := false) rfl (beq_eq_false_iff_ne.2 (by omega))) ?_ | refine rw_v (op_pure rfl) ?_))
  refine rw_v (op_pure rfl) ?_
  refine rw_v (op_pure rfl) ?_
  first | refine rw_off rfl ?_ | (refine rw_on rfl ?_; refine rw_v (op_pure rfl) ?_)
  first | refine rw_off rfl ?_ | (refine rw_on rfl ?_; (first | refine rw_v (op_b (b := true) rfl (beq_iff_eq.2 (by omega))) ?_ | refine rw_v (op_b (b := false) rfl (beq_eq_false_iff_ne.2 (by omega))) ?_ | refine rw_v (op_pure rfl) ?_))
  refine rw_v (op_pure rfl) ?_
  refine rw_v (op_pure rfl) ?_
  first | refine rw_off rfl ?_ | (refine rw_on rfl ?_; refine rw_v (op_pure rfl) ?_)
  refine rw_on rfl ?_
  refine rw_buildS Try.underlying22 Try.sizeOf2 Try.zeroValue2 rfl rfl rfl rfl rfl rfl S ?_
  intro A_lit w7_ g7_ S sa_lit
  refine rw_on rfl ?_
  refine rw_call rfl (rsame_E _ _ _ _ [1, 0, 0, 2] [1, 0, 0, 2] w7_ (by decide) (hL.gr S.out).rd (S.rd (i := 0) rfl)) ?_
  rintro _ w8_ ⟨rfl, g8_⟩
  have S := S.gr g8_
  refine rw_v (op_pure rfl) ?_
  refine rw_v (op_pure rfl) ?_
  first | refine rw_off rfl ?_ | (refine rw_on rfl ?_; refine rw_v (op_pure rfl) ?_)
  first | refine rw_off rfl ?_ | (refine rw_on rfl ?_; refine rw_v (op_len Try.underlying31 rfl) ?_)
  first | refine rw_off rfl ?_ | (refine rw_on rfl ?_; (first | refine rw_v (op_b (b := true) rfl (beq_iff_eq.2 (by omega))) ?_ | refine rw_v (op_b (b := false) rfl (beq_eq_false_iff_ne.2 (by omega))) ?_ | refine rw_v (op_pure rfl) ?_))
  refine rw_v (op_pure rfl) ?_
  refine rw_v (op_pure rfl) ?_
  first | refine rw_off rfl ?_ | (refine rw_on rfl ?_; refine rw_v (op_pure rfl) ?_)
  first | refine rw_off rfl ?_ | (refine rw_on rfl ?_; refine rw_v (op_len Try.underlying31 rfl) ?_)
  first | refine rw_off rfl ?_ | (refine rw_on rfl ?_; (first | refine rw_v (op_b (b := true) rfl (beq_iff_eq.2 (by omega))) ?_ | refine rw_v (op_b (b := false) rfl (beq_eq_false_iff_ne.2 (by omega))) ?_ | refine rw_v (op_pure rfl) ?_))
  refine rw_v (op_pure rfl) ?_
  refine rw_v (op_pure rfl) ?_
  first | refine rw_off rfl ?_ | (refine rw_on rfl ?_; refine rw_v (op_pure rfl) ?_)
  first | refine rw_off rfl ?_ | (refine rw_on rfl ?_; refine rw_v (op_idx Try.underlying31 Try.sizeOf40 rfl rfl sa_q (by omega) (by omega)) ?_)
  first | refine rw_off rfl ?_ | (refine rw_on rfl ?_; refine rw_v (op_fld Try.underlying40 rfl Try.sizeOf2 rfl rfl sa_q) ?_)
  first | refine rw_off rfl ?_ | (refine rw_on rfl ?_; refine rw_r (op_ldR Try.underlying2 rfl rfl (Row.rd (hPq.gr S.out)) harea) ?_)
  first | refine rw_off rfl ?_ | (refine rw_on rfl ?_; (first | refine rw_v (op_b (b := true) rfl (beq_iff_eq.2 (by omega))) ?_ | refine rw_v (op_b (b := false) rfl (beq_eq_false_iff_ne.2 (by omega))) ?_ | refine rw_v (op_pure rfl) ?_))
  refine rw_v (op_pure rfl) ?_
  refine rw_v (op_pure rfl) ?_
  first | refine rw_end ?_ | (refine rw_nil ?_; show CW _ _ _ _ _ _) | refine rw_nil ?_
  repeat refine cw_seq ?_
  refine cw_ret ?_
  repeat first | refine ret_then ?_ | refine ret_inb ?_
  exact res1 rfl ⟨rfl, G.trans S.out⟩
section
variable {W : World} {A : Option Addr} {V : List Int}
set_option maxHeartbeats 4000000 in
theorem regionsRise_E (w h t u : Int) (cap : Nat) (hl : V.length ≤ 9223372036854775807) (hA : Rd W A (ints V)) :
    Fn Try.prog 3 [.int .i64 w, .int .i64 h, .slice A V.length cap, .int .i64 t, .int .i64 u] W (RetG (.bool true) W) := by
  by_cases hok : LandOk w h V 1000
  · by_cases htu : t ≤ u
    · obtain ⟨gw, rfl⟩ := Int.eq_ofNat_of_zero_le (show 0 ≤ w by have := hok.w1; omega)
      obtain ⟨gh, rfl⟩ := Int.eq_ofNat_of_zero_le (show 0 ≤ h by have := hok.h1; omega)
      have hw : 1 ≤ gw ∧ gw ≤ 1024 := by have := hok.w1; have := hok.wm; omega
      have hh : 1 ≤ gh ∧ gh ≤ 1024 := by have := hok.h1; have := hok.hm; omega
      have hmi : (gw : Int) * gh = ((gw * gh : Nat) : Int) := by push_cast; rfl
      have hVg : V.length = gw * gh := by have := hok.len; rw [hmi] at this; omega
      have hm : gw * gh ≤ 1000 := by have := hok.area; rw [hmi] at this; omega
      have hpos : 1 ≤ gw * gh := Nat.mul_le_mul hw.1 hh.1
      have hmay := hok.may
      have G := Gr.refl W
      have S := St.start W
      refine Fn_enter Try.func3 rfl Try.results3 Try.ntmps3 (by kernel_rfl) (by kernel_rfl) ?_
      repeat refine cw_seq ?_
      refine cw_region ?_
      refine rw_v (op_pure rfl) ?_
      first | refine rw_end ?_ | (refine rw_nil ?_; show CW _ _ _ _ _ _) | refine rw_nil ?_
      repeat refine cw_seq ?_
      refine cw_region ?_
      refine rw_call rfl (awake29_E W) ?_
      rintro _ w1_ ⟨rfl, g1_⟩
      have S := S.gr g1_
      refine rw_v (op_pure rfl) ?_
      first | refine rw_end ?_ | (refine rw_nil ?_; show CW _ _ _ _ _ _) | refine rw_nil ?_
      repeat refine cw_seq ?_
      refine cw_false rfl ?_
      repeat refine cw_seq ?_
      refine cw_skip ?_
      try show CW _ _ _ _ _ _
      repeat refine cw_seq ?_
      refine cw_region ?_
      refine rw_v (op_pure rfl) ?_
      refine rw_v (op_pure rfl) ?_
      refine rw_v (op_pure rfl) ?_
      refine rw_call rfl (land_E gw gh 1000 cap (by omega) hok (hA.gr S.out)) ?_
      rintro _ w2_ ⟨rfl, g2_⟩
      have S := S.gr g2_
      refine rw_v (op_pure rfl) ?_
      refine rw_v (op_pure rfl) ?_
      refine rw_v (op_pure rfl) ?_
      refine rw_newB (op_alloc Try.zeroValue25 rfl) S ?_
      intro b_md w4_ g4_ S
      refine rw_storeSA (i := 0) S rfl (Try.sizeOf25 _) rfl rfl rfl rfl rfl rfl ?_
      intro w5_ S
      refine rw_v (op_pure rfl) ?_
      first | refine rw_end ?_ | (refine rw_nil ?_; show CW _ _ _ _ _ _) | refine rw_nil ?_
      repeat refine cw_seq ?_
      refine cw_region ?_
      refine rw_v (op_pure rfl) ?_
      refine rw_v (op_pure rfl) ?_
      refine rw_v (op_pure rfl) ?_
      first | refine rw_off rfl ?_ | (refine rw_on rfl ?_; refine rw_v (op_pure rfl) ?_)
      first | refine rw_off rfl ?_ | (refine rw_on rfl ?_; refine rw_v (op_pure rfl) ?_)
      first | refine rw_off rfl ?_ | (refine rw_on rfl ?_; (first | refine rw_v (op_b (b := true) rfl (decide_eq_true (by omega))) ?_ | refine rw_v (op_b (b := false) rfl (decide_eq_false (by omega))) ?_ | refine rw_v (op_pure rfl) ?_))
      refine rw_v (op_pure rfl) ?_
      first | refine rw_end ?_ | (refine rw_nil ?_; show CW _ _ _ _ _ _) | refine rw_nil ?_
      repeat refine cw_seq ?_
      refine cw_false rfl ?_
      repeat refine cw_seq ?_
      refine cw_skip ?_
      try show CW _ _ _ _ _ _
      repeat refine cw_seq ?_
      refine cw_region ?_
      refine rw_v (op_pure rfl) ?_
      refine rw_v (op_pure rfl) ?_
      refine rw_v (op_pure rfl) ?_
      refine rw_call rfl (made_E gw gh cap hw hh hVg hmay (hA.gr S.out)) ?_
      rintro _ w6_ ⟨p, B, bc, bs, Rs, rfl, hG, hf, g6_⟩
      have S := S.gr g6_
      refine rw_v (op_pure rfl) ?_
      refine rw_v (op_pure rfl) ?_
      refine rw_v (op_pure rfl) ?_
      refine rw_v (op_pure rfl) ?_
      refine rw_v (op_pure rfl) ?_
      first | refine rw_end ?_ | (refine rw_nil ?_; show CW _ _ _ _ _ _) | refine rw_nil ?_
      repeat refine cw_seq ?_
      refine cw_region ?_
      refine rw_v (op_pure rfl) ?_
      refine rw_v (op_pure rfl) ?_
      first | refine rw_end ?_ | (refine rw_nil ?_; show CW _ _ _ _ _ _) | refine rw_nil ?_
      repeat refine cw_seq ?_
      refine cw_false rfl ?_
      repeat refine cw_seq ?_
      refine cw_skip ?_
      try show CW _ _ _ _ _ _
      repeat refine cw_seq ?_
      refine cw_region ?_
      refine rw_v (op_pure rfl) ?_
      refine rw_v (op_pure rfl) ?_
      have hmd := S.blk (i := 0) rfl
      have hGl := gridL_made hVg
      refine rw_call rfl (regionsOf_E t hG) ?_
      rintro _ w7_ ⟨rt, hrt, A_L, c_L, A_p, c_p, rfl, hL, hPl, _, _, g7_⟩
      have S := S.gr g7_
      have hG := hG.gr g7_
      rw [hGl] at hrt hL
      rw [hGl]
      refine rw_v (op_pure rfl) ?_
      refine rw_v (op_pure rfl) ?_
      refine rw_v (op_pure rfl) ?_
      refine rw_v (op_pure rfl) ?_
      refine rw_v (op_pure rfl) ?_
      refine rw_v (op_pure rfl) ?_
      refine rw_v (op_pure rfl) ?_
      first | refine rw_end ?_ | (refine rw_nil ?_; show CW _ _ _ _ _ _) | refine rw_nil ?_
      repeat refine cw_seq ?_
      refine cw_region ?_
      refine rw_v (op_pure rfl) ?_
      refine rw_v (op_pure rfl) ?_
      refine rw_call rfl (regionsOf_E u hG) ?_
      rintro _ w8_ ⟨ru, hru, A_H, c_H, A_q, c_q, rfl, hH, hPq, _, _, g8_⟩
      have S := S.gr g8_
      have hL := hL.gr g8_
      rw [hGl] at hru hH hPq
      rw [hGl]
      refine rw_v (op_pure rfl) ?_
      refine rw_v (op_pure rfl) ?_
      refine rw_v (op_pure rfl) ?_
      refine rw_v (op_pure rfl) ?_
      refine rw_v (op_pure rfl) ?_
      refine rw_v (op_pure rfl) ?_
      refine rw_v (op_pure rfl) ?_
      first | refine rw_end ?_ | (refine rw_nil ?_; show CW _ _ _ _ _ _) | refine rw_nil ?_
      have hmd := (hmd.gr (by assumption)).gr (by assumption)
      have hA := hA.gr S.out
      have G := G.trans S.out
      have S := St.start w8_
      repeat refine cw_seq ?_
      refine cw_region ?_
      refine rw_v (op_pure rfl) ?_
      first | refine rw_v (op_b (b := true) rfl (bne_iff_ne.2 (by omega))) ?_ | refine rw_v (op_b (b := false) rfl (bne_eq_false_iff_eq.2 (by omega))) ?_ | refine rw_v (op_pure rfl) ?_
      refine rw_v (op_pure rfl) ?_
      first | refine rw_off rfl ?_ | (refine rw_on rfl ?_; refine rw_v (op_pure rfl) ?_)
      first | refine rw_off rfl ?_ | (refine rw_on rfl ?_; (first | refine rw_v (op_b (b := true) rfl (bne_iff_ne.2 (by omega))) ?_ | refine rw_v (op_b (b := false) rfl (bne_eq_false_iff_eq.2 (by omega))) ?_ | refine rw_v (op_pure rfl) ?_))
      refine rw_v (op_pure rfl) ?_
      refine rw_v (op_pure rfl) ?_
      first | refine rw_off rfl ?_ | (refine rw_on rfl ?_; refine rw_v (op_pure rfl) ?_)
      first | refine rw_off rfl ?_ | (refine rw_on rfl ?_; refine rw_v (op_len Try.underlying22 rfl) ?_)
      first | refine rw_off rfl ?_ | (refine rw_on rfl ?_; refine rw_v (op_pure rfl) ?_)
      first | refine rw_off rfl ?_ | (refine rw_on rfl ?_; refine rw_v (op_len Try.underlying22 rfl) ?_)
      first | refine rw_off rfl ?_ | (refine rw_on rfl ?_; (first | refine rw_v (op_b (b := true) rfl (bne_iff_ne.2 (by omega))) ?_ | refine rw_v (op_b (b := false) rfl (bne_eq_false_iff_eq.2 (by omega))) ?_ | refine rw_v (op_pure rfl) ?_))
      refine rw_v (op_pure rfl) ?_
      refine rw_v (op_pure rfl) ?_
      first | refine rw_off rfl ?_ | (refine rw_on rfl ?_; refine rw_v (op_pure rfl) ?_)
      first | refine rw_off rfl ?_ | (refine rw_on rfl ?_; refine rw_v (op_len Try.underlying22 rfl) ?_)
      first | refine rw_off rfl ?_ | (refine rw_on rfl ?_; refine rw_v (op_pure rfl) ?_)
      first | refine rw_off rfl ?_ | (refine rw_on rfl ?_; refine rw_v (op_len Try.underlying22 rfl) ?_)
      first | refine rw_off rfl ?_ | (refine rw_on rfl ?_; (first | refine rw_v (op_b (b := true) rfl (bne_iff_ne.2 (by omega))) ?_ | refine rw_v (op_b (b := false) rfl (bne_eq_false_iff_eq.2 (by omega))) ?_ | refine rw_v (op_pure rfl) ?_))
      refine rw_v (op_pure rfl) ?_
      first | refine rw_end ?_ | (refine rw_nil ?_; show CW _ _ _ _ _ _) | refine rw_nil ?_
      repeat refine cw_seq ?_
      refine cw_false rfl ?_
      repeat refine cw_seq ?_
      refine cw_skip ?_
      try show CW _ _ _ _ _ _
      repeat refine cw_seq ?_
      refine cw_region ?_
      refine rw_v (op_pure rfl) ?_
      first | refine rw_end ?_ | (refine rw_nil ?_; show CW _ _ _ _ _ _) | refine rw_nil ?_
      repeat refine cw_seq ?_
      refine cw_block ?_
      repeat refine cw_seq ?_
      have sa_A : SomeA A := hA.someA (by rw [ints_len]; omega)
      have sa_L : SomeA A_L := hL.someA (by omega)
      have sa_H : SomeA A_H := hH.someA (by omega)
      have hsw : ∀ i, i < V.length → (ints V)[(i : Int).toNat * 1]? = some (.int .i64 (V.getD i 0)) := fun i hi => by rw [Nat.mul_one, Int.toNat_natCast]; exact ints_get (getD_at hi)
      have hcn : ∀ (f : Nat → Nat) (i : Nat), i < V.length → (cellsN V.length f)[(i : Int).toNat * 1]? = some (.int .i64 (f i : Nat)) := fun f i hi => by rw [Nat.mul_one, Int.toNat_natCast]; exact cellsN_get hi
      have hcp := cntR_le V t rt V.length
      have hcq := cntR_le V u ru V.length
      refine cw_loop (fun m e w => ∃ k : Nat, k + m = gw * gh ∧ SL e [(0, .int .i64 gw), (1, .int .i64 gh), (2, .slice A V.length cap), (3, .int .i64 t), (4, .int .i64 u), (11, .pointer (some ⟨b_md, 0, none⟩)), (14, .slice A_L V.length c_L), (15, .slice A_p (cntR V t rt V.length) c_p), (17, .slice A_H V.length c_H), (18, .slice A_q (cntR V u ru V.length) c_q), (20, .int .i64 k)] ∧ St No _ w []) (gw * gh)
        ⟨0, by omega, ⟨rfl, rfl, rfl, rfl, rfl, rfl, rfl, rfl, rfl, rfl, rfl, trivial⟩, S⟩ ?_
      rintro m e w ⟨k, hk, hsl, S⟩
      rw [hsl.fold]
      repeat refine cw_seq ?_
      refine cw_region ?_
      refine rw_v (op_pure rfl) ?_
      refine rw_v (op_pure rfl) ?_
      refine rw_v (op_pure rfl) ?_
      refine rw_v (op_rng rfl (by omega)) ?_
      refine rw_v (op_pure rfl) ?_
      first | refine rw_end ?_ | (refine rw_nil ?_; show CW _ _ _ _ _ _) | refine rw_nil ?_
      repeat refine cw_seq ?_
      refine cw_cond rfl (fun hc => ?_) (fun hc => ?_)
      · try simp only [decide_eq_true_eq, decide_eq_false_iff_not, beq_iff_eq, bne_iff_ne, beq_eq_false_iff_ne, bne_eq_false_iff_eq, Bool.not_eq_true', Bool.not_eq_false', ne_eq, Decidable.not_not, Int.natCast_inj, Int.ofNat_lt, Int.ofNat_le, gt_iff_lt, ge_iff_le, Int.not_lt, Int.not_le] at hc
        have hkV : k < V.length := by omega
        have hv := hsw k hkV
        have hh1 := hcn (labF V u ru) k hkV
        have hl1 := hcn (labF V t rt) k hkV
        have hhle := hru.lab_le hkV
        have hlle := hrt.lab_le hkV
        by_cases hvu : u ≤ V.getD k 0
        · have hlabh : labF V u ru k = cntR V u ru (ru k) + 1 := if_pos hvu
          have hlabl : labF V t rt k = cntR V t rt (rt k) + 1 := if_pos (by omega)
          repeat refine cw_seq ?_
          refine cw_skip ?_
          try show CW _ _ _ _ _ _
          repeat refine cw_seq ?_
          refine cw_block ?_
          repeat refine cw_seq ?_
          refine cw_draw (C := fun wq => Gr w wq) [0, 1, 2, 3, 4, 5, 6, 7, 8, 9, 10, 11, 12, 13, 14, 15, 16, 17, 18, 19, 20, 21, 22, 23, 24, 25, 26, 27, 28, 29, 30, 31, 32, 33, 34, 35, 36, 37, 38, 39, 40, 41, 42, 43] [] (by kernel_rfl) (by kernel_rfl) (Gr.drew _) ?_
          simp only [pickL, List.drop_succ_cons, List.drop_zero]
          refine rq_v (op_pure rfl) ?_
          refine rq_v (op_pure rfl) ?_
          refine rq_v (op_idx Try.underlying22 Try.sizeOf2 rfl rfl sa_H (by omega) (by omega)) ?_
          refine rq_r (fun wq hq => op_ldR Try.underlying2 rfl rfl (Row.rd (hH.gr (S.gr hq).out)) hh1) ?_
          first | refine rq_v (op_b (b := true) rfl (decide_eq_true (by omega))) ?_ | refine rq_v (op_b (b := false) rfl (decide_eq_false (by omega))) ?_ | refine rq_v (op_pure rfl) ?_
          refine rq_v (op_pure rfl) ?_
          first | refine rq_off rfl ?_ | (refine rq_on rfl ?_; refine rq_v (op_pure rfl) ?_)
          first | refine rq_off rfl ?_ | (refine rq_on rfl ?_; refine rq_v (op_pure rfl) ?_)
          first | refine rq_off rfl ?_ | (refine rq_on rfl ?_; refine rq_v (op_idx Try.underlying22 Try.sizeOf2 rfl rfl sa_H (by omega) (by omega)) ?_)
          first | refine rq_off rfl ?_ | (refine rq_on rfl ?_; refine rq_r (fun wq hq => op_ldR Try.underlying2 rfl rfl (Row.rd (hH.gr (S.gr hq).out)) hh1) ?_)
          first | refine rq_off rfl ?_ | (refine rq_on rfl ?_; refine rq_v (op_pure rfl) ?_)
          first | refine rq_off rfl ?_ | (refine rq_on rfl ?_; refine rq_v (op_len Try.underlying31 rfl) ?_)
          first | refine rq_off rfl ?_ | (refine rq_on rfl ?_; (first | refine rq_v (op_b (b := true) rfl (decide_eq_true (by omega))) ?_ | refine rq_v (op_b (b := false) rfl (decide_eq_false (by omega))) ?_ | refine rq_v (op_pure rfl) ?_))
          refine rq_v (op_pure rfl) ?_
          refine rq_v (op_pure rfl) ?_
          first | refine rq_off rfl ?_ | (refine rq_on rfl ?_; refine rq_v (op_pure rfl) ?_)
          first | refine rq_off rfl ?_ | (refine rq_on rfl ?_; refine rq_v (op_pure rfl) ?_)
          first | refine rq_off rfl ?_ | (refine rq_on rfl ?_; refine rq_v (op_idx Try.underlying22 Try.sizeOf2 rfl rfl sa_L (by omega) (by omega)) ?_)
          first | refine rq_off rfl ?_ | (refine rq_on rfl ?_; refine rq_r (fun wq hq => op_ldR Try.underlying2 rfl rfl (Row.rd (hL.gr (S.gr hq).out)) hl1) ?_)
          first | refine rq_off rfl ?_ | (refine rq_on rfl ?_; (first | refine rq_v (op_b (b := true) rfl (decide_eq_true (by omega))) ?_ | refine rq_v (op_b (b := false) rfl (decide_eq_false (by omega))) ?_ | refine rq_v (op_pure rfl) ?_))
          refine rq_v (op_pure rfl) ?_
          refine rq_v (op_pure rfl) ?_
          first | refine rq_off rfl ?_ | (refine rq_on rfl ?_; refine rq_v (op_pure rfl) ?_)
          first | refine rq_off rfl ?_ | (refine rq_on rfl ?_; refine rq_v (op_pure rfl) ?_)
          first | refine rq_off rfl ?_ | (refine rq_on rfl ?_; refine rq_v (op_idx Try.underlying22 Try.sizeOf2 rfl rfl sa_L (by omega) (by omega)) ?_)
          first | refine rq_off rfl ?_ | (refine rq_on rfl ?_; refine rq_r (fun wq hq => op_ldR Try.underlying2 rfl rfl (Row.rd (hL.gr (S.gr hq).out)) hl1) ?_)
          first | refine rq_off rfl ?_ | (refine rq_on rfl ?_; refine rq_v (op_pure rfl) ?_)
          first | refine rq_off rfl ?_ | (refine rq_on rfl ?_; refine rq_v (op_len Try.underlying31 rfl) ?_)
          first | refine rq_off rfl ?_ | (refine rq_on rfl ?_; (first | refine rq_v (op_b (b := true) rfl (decide_eq_true (by omega))) ?_ | refine rq_v (op_b (b := false) rfl (decide_eq_false (by omega))) ?_ | refine rq_v (op_pure rfl) ?_))
          refine rq_v (op_pure rfl) ?_
          refine rq_v (op_pure rfl) ?_
          first | refine rq_off rfl ?_ | (refine rq_on rfl ?_; refine rq_v (op_pure rfl) ?_)
          first | refine rq_off rfl ?_ | (refine rq_on rfl ?_; refine rq_v (op_pure rfl) ?_)
          first | refine rq_off rfl ?_ | (refine rq_on rfl ?_; refine rq_v (op_idx Try.underlying22 Try.sizeOf2 rfl rfl sa_H (by omega) (by omega)) ?_)
          first | refine rq_off rfl ?_ | (refine rq_on rfl ?_; refine rq_r (fun wq hq => op_ldR Try.underlying2 rfl rfl (Row.rd (hH.gr (S.gr hq).out)) hh1) ?_)
          first | refine rq_off rfl ?_ | (refine rq_on rfl ?_; (first | refine rq_v (op_b (b := true) rfl (decide_eq_true (by omega))) ?_ | refine rq_v (op_b (b := false) rfl (decide_eq_false (by omega))) ?_ | refine rq_v (op_pure rfl) ?_))
          first | refine rq_off rfl ?_ | (refine rq_on rfl ?_; refine rq_v (op_pure rfl) ?_)
          first | refine rq_off rfl ?_ | (refine rq_on rfl ?_; refine rq_v (op_pure rfl) ?_)
          first | refine rq_off rfl ?_ | (refine rq_on rfl ?_; refine rq_v (op_idx Try.underlying22 Try.sizeOf2 rfl rfl sa_A (by omega) (by omega)) ?_)
          first | refine rq_off rfl ?_ | (refine rq_on rfl ?_; refine rq_r (fun wq hq => op_ldR Try.underlying2 rfl rfl (hA.gr (S.gr hq).out) hv) ?_)
          first | refine rq_off rfl ?_ | (refine rq_on rfl ?_; refine rq_v (op_pure rfl) ?_)
          first | refine rq_off rfl ?_ | (refine rq_on rfl ?_; (first | refine rq_v (op_b (b := true) rfl (decide_eq_true (by omega))) ?_ | refine rq_v (op_b (b := false) rfl (decide_eq_false (by omega))) ?_ | refine rq_v (op_pure rfl) ?_))
          refine rq_on rfl ?_
          refine rq_v (op_bne (B := false) Try.underlying4 rfl rfl rfl) ?_
          refine rq_v (op_pure rfl) ?_
          refine rq_nil ?_
          intro w9_ g9_
          have S := S.gr g9_
          first | refine rw_end ?_ | (refine rw_nil ?_; show CW _ _ _ _ _ _) | refine rw_nil ?_
          repeat refine cw_seq ?_
          refine cw_false rfl ?_
          repeat refine cw_seq ?_
          refine cw_skip ?_
          try show CW _ _ _ _ _ _
          repeat refine cw_seq ?_
          refine cw_region ?_
          refine rw_v (op_pure rfl) ?_
          refine rw_v (op_pure rfl) ?_
          refine rw_v (op_idx Try.underlying22 Try.sizeOf2 rfl rfl sa_H (by omega) (by omega)) ?_
          refine rw_r (op_ldR Try.underlying2 rfl rfl (Row.rd (hH.gr S.out)) hh1) ?_
          refine rw_v (op_b (b := false) rfl (beq_eq_false_iff_ne.2 (by omega))) ?_
          first | refine rw_end ?_ | (refine rw_nil ?_; show CW _ _ _ _ _ _) | refine rw_nil ?_
          repeat refine cw_seq ?_
          refine cw_false rfl ?_
          repeat refine cw_seq ?_
          refine cw_skip ?_
          try show CW _ _ _ _ _ _
          have hqV : ru k < V.length := by have := hru.le k hkV; omega
          have hroot := hru.isRoot hkV hvu
          have hqidx : (partsAt gw V u ru V.length)[cntR V u ru (ru k)]? = some (partAt gw V u ru V.length (ru k)) := by
            unfold partsAt; rw [List.getElem?_map, show (rootsL V u ru V.length)[cntR V u ru (ru k)]? = some (ru k) from filter_range_get hqV hroot]; rfl
          have hcell : ((partsV (partsAt gw V u ru V.length)).drop (((cntR V u ru (ru k) : Nat) : Int).toNat * 8 + 2)).take 2 = [.int .i64 (ru k % gw : Nat), .int .i64 (ru k / gw : Nat)] := by
            rw [Int.toNat_natCast]
            have := flatMap_part (f := PV.cells) (m := 8) (fun _ => rfl) (partsAt gw V u ru V.length) _ _ 2 2 hqidx (by omega)
            exact this
          have eidx : ((labF V u ru k : Nat) : Int) - 1 = ((cntR V u ru (ru k) : Nat) : Int) := by rw [hlabh]; omega
          have hcq1 := cntR_lt (V := V) (t := u) (r := ru) hqV hroot
          have hrkle := hru.le k hkV
          have hx1 : ru k % gw < gw := Nat.mod_lt _ (by omega)
          have hdm : ru k / gw * gw + ru k % gw = ru k := by rw [Nat.mul_comm]; exact Nat.div_add_mod _ _
          have ediv : ((ru k / gw : Nat) : Int) * gw = ((ru k / gw * gw : Nat) : Int) := by push_cast; rfl
          have eat : ((ru k / gw * gw : Nat) : Int) + (ru k % gw : Nat) = ((ru k : Nat) : Int) := by omega
          have hsm : rt (ru k) = rt k := (hrt.same ((hru.conn k hkV).lower htu)).symm
          have hvq : u ≤ V.getD (ru k) 0 := (hru.conn k hkV).ge hvu
          have hlq : labF V t rt (ru k) = labF V t rt k := by rw [hlabl]; unfold labF; rw [if_pos (by omega), hsm]
          have hlq1 := hcn (labF V t rt) (ru k) hqV
          rw [hlq] at hlq1
          have sa_q : SomeA A_q := hPq.someA (by omega)
          have hdk : k / gw < gh := Nat.div_lt_of_lt_mul (by omega)
          have hmk : k % gw < gw := Nat.mod_lt _ (by omega)
          have hxb : -1 ≤ ((k % gw : Nat) : Int) ∧ ((k % gw : Nat) : Int) ≤ 1048576 := by generalize k % gw = q at *; omega
          have hyb : -1 ≤ ((k / gw : Nat) : Int) ∧ ((k / gw : Nat) : Int) ≤ 1048576 := by generalize k / gw = q at *; omega
          have ekm : (k : Int) % gw = ((k % gw : Nat) : Int) := by push_cast; rfl
          have ekd : (k : Int) / gw = ((k / gw : Nat) : Int) := by push_cast; rfl
          repeat refine cw_seq ?_
          refine cw_region ?_
          refine rw_v (op_pure rfl) ?_
          refine rw_v (op_pure rfl) ?_
          refine rw_v (op_pure rfl) ?_
          refine rw_v (op_idx Try.underlying22 Try.sizeOf2 rfl rfl sa_H (by omega) (by omega)) ?_
          refine rw_r (op_ldR Try.underlying2 rfl rfl (Row.rd (hH.gr S.out)) hh1) ?_
          refine rw_v (op_rng rfl (by omega)) ?_
          rw [eidx]
          refine rw_v (op_idx Try.underlying31 Try.sizeOf40 rfl rfl sa_q (by omega) (by omega)) ?_
          refine rw_v (op_fld Try.underlying40 rfl Try.sizeOf36 rfl rfl sa_q) ?_
          refine rw_r (op_ldRA Try.underlying36 rfl (Try.sizeOf36 _) rfl (Row.rd (hPq.gr S.out)) hcell rfl rfl) ?_
          refine rw_newB (op_alloc Try.zeroValue36 rfl) S ?_
          intro b_fc w11_ g11_ S
          refine rw_storeSA (i := 0) S rfl (Try.sizeOf36 _) rfl rfl rfl rfl rfl rfl ?_
          intro w12_ S
          first | refine rw_end ?_ | (refine rw_nil ?_; show CW _ _ _ _ _ _) | refine rw_nil ?_
          repeat refine cw_seq ?_
          refine cw_region ?_
          refine rw_v (op_fieldAddr Try.underlying36 rfl Try.sizeOf2 rfl rfl) ?_
          refine rw_r (op_loadB Try.underlying2 rfl rfl (S.blk (i := 0) rfl) rfl) ?_
          refine rw_v (op_pure rfl) ?_
          refine rw_v (op_rng rfl (by omega)) ?_
          rw [ediv]
          refine rw_v (op_fieldAddr Try.underlying36 rfl Try.sizeOf2 rfl rfl) ?_
          refine rw_r (op_loadB Try.underlying2 rfl rfl (S.blk (i := 0) rfl) rfl) ?_
          refine rw_v (op_rng rfl (by omega)) ?_
          rw [eat]
          refine rw_v (op_pure rfl) ?_
          first | refine rw_end ?_ | (refine rw_nil ?_; show CW _ _ _ _ _ _) | refine rw_nil ?_
          repeat refine cw_seq ?_
          refine cw_draw (C := fun wq => Gr w12_ wq) [0, 1, 2, 3, 4, 5, 6, 7, 8, 9, 10, 11, 12, 13, 14, 15, 16, 17, 18, 19, 20, 21, 22, 23, 24, 25, 26] [] (by kernel_rfl) (by kernel_rfl) (Gr.drew _) ?_
          simp only [pickL, List.drop_succ_cons, List.drop_zero]
          refine rq_v (op_pure rfl) ?_
          first | refine rq_v (op_b (b := true) rfl (decide_eq_true (by omega))) ?_ | refine rq_v (op_b (b := false) rfl (decide_eq_false (by omega))) ?_ | refine rq_v (op_pure rfl) ?_
          refine rq_v (op_pure rfl) ?_
          first | refine rq_off rfl ?_ | (refine rq_on rfl ?_; refine rq_v (op_pure rfl) ?_)
          first | refine rq_off rfl ?_ | (refine rq_on rfl ?_; refine rq_v (op_pure rfl) ?_)
          first | refine rq_off rfl ?_ | (refine rq_on rfl ?_; refine rq_v (op_pure rfl) ?_)
          first | refine rq_off rfl ?_ | (refine rq_on rfl ?_; refine rq_v (op_rng rfl (by omega)) ?_)
          first | refine rq_off rfl ?_ | (refine rq_on rfl ?_; (first | refine rq_v (op_b (b := true) rfl (decide_eq_true (by omega))) ?_ | refine rq_v (op_b (b := false) rfl (decide_eq_false (by omega))) ?_ | refine rq_v (op_pure rfl) ?_))
          refine rq_v (op_pure rfl) ?_
          refine rq_v (op_pure rfl) ?_
          first | refine rq_off rfl ?_ | (refine rq_on rfl ?_; refine rq_v (op_pure rfl) ?_)
          first | refine rq_off rfl ?_ | (refine rq_on rfl ?_; refine rq_v (op_pure rfl) ?_)
          first | refine rq_off rfl ?_ | (refine rq_on rfl ?_; refine rq_v (op_idx Try.underlying22 Try.sizeOf2 rfl rfl sa_L (by omega) (by omega)) ?_)
          first | refine rq_off rfl ?_ | (refine rq_on rfl ?_; refine rq_r (fun wq hq => op_ldR Try.underlying2 rfl rfl (Row.rd (hL.gr (S.gr hq).out)) hl1) ?_)
          first | refine rq_off rfl ?_ | (refine rq_on rfl ?_; (first | refine rq_v (op_b (b := true) rfl (beq_iff_eq.2 (by omega))) ?_ | refine rq_v (op_b (b := false) rfl (beq_eq_false_iff_ne.2 (by omega))) ?_ | refine rq_v (op_pure rfl) ?_))
          refine rq_v (op_pure rfl) ?_
          refine rq_v (op_pure rfl) ?_
          first | refine rq_off rfl ?_ | (refine rq_on rfl ?_; refine rq_v (op_pure rfl) ?_)
          first | refine rq_off rfl ?_ | (refine rq_on rfl ?_; refine rq_v (op_pure rfl) ?_)
          first | refine rq_off rfl ?_ | (refine rq_on rfl ?_; refine rq_v (op_idx Try.underlying22 Try.sizeOf2 rfl rfl sa_L (by omega) (by omega)) ?_)
          first | refine rq_off rfl ?_ | (refine rq_on rfl ?_; refine rq_r (fun wq hq => op_ldR Try.underlying2 rfl rfl (Row.rd (hL.gr (S.gr hq).out)) hlq1) ?_)
          first | refine rq_off rfl ?_ | (refine rq_on rfl ?_; refine rq_v (op_pure rfl) ?_)
          first | refine rq_off rfl ?_ | (refine rq_on rfl ?_; refine rq_v (op_pure rfl) ?_)
          first | refine rq_off rfl ?_ | (refine rq_on rfl ?_; refine rq_v (op_idx Try.underlying22 Try.sizeOf2 rfl rfl sa_L (by omega) (by omega)) ?_)
          first | refine rq_off rfl ?_ | (refine rq_on rfl ?_; refine rq_r (fun wq hq => op_ldR Try.underlying2 rfl rfl (Row.rd (hL.gr (S.gr hq).out)) hl1) ?_)
          first | refine rq_off rfl ?_ | (refine rq_on rfl ?_; (first | refine rq_v (op_b (b := true) rfl (bne_iff_ne.2 (by omega))) ?_ | refine rq_v (op_b (b := false) rfl (bne_eq_false_iff_eq.2 (by omega))) ?_ | refine rq_v (op_pure rfl) ?_))
          refine rq_v (op_pure rfl) ?_
          refine rq_nil ?_
          intro w13_ g13_
          have S := S.gr g13_
          first | refine rw_end ?_ | (refine rw_nil ?_; show CW _ _ _ _ _ _) | refine rw_nil ?_
          repeat refine cw_seq ?_
          refine cw_false rfl ?_
          repeat refine cw_seq ?_
          refine cw_skip ?_
          try show CW _ _ _ _ _ _
          repeat refine cw_seq ?_
          refine cw_draw (C := fun wq => Gr w13_ wq) [0, 1, 2, 3, 4, 5, 6, 7] [8, 9] (by kernel_rfl) (by kernel_rfl) (Gr.drew _) ?_
          simp only [pickL, List.drop_succ_cons, List.drop_zero]
          refine rq_r (fun wq hq => op_loadAB Try.underlying25 rfl (Try.sizeOf25 _) rfl (hmd.gr (S.gr hq).out) rfl rfl) ?_
          refine rq_v (op_pure rfl) ?_
          refine rq_v (op_pure rfl) ?_
          refine rq_v (op_rem rfl rfl (by omega) (by omega)) ?_
          rw [ekm]
          refine rq_v (op_pure rfl) ?_
          refine rq_v (op_pure rfl) ?_
          refine rq_v (op_div rfl rfl (by omega) (by omega)) ?_
          rw [ekd]
          refine rq_v (op_build (pl := [(0, 1), (1, 1)]) Try.underlying36 Try.zeroValue36 (fun w => by kernel_rfl) rfl rfl) ?_
          refine rq_nil ?_
          intro w14_ g14_
          have S := S.gr g14_
          refine rw_call rfl (rnear_E (W := w14_) (k % gw : Nat) (k / gw : Nat) hxb hyb hVg (by omega) (hA.gr S.out)) ?_
          rintro _ w15_ ⟨A_near, c_near, rfl, hR_near, hf_near, g15_⟩
          have S := S.pushRow hR_near hf_near g15_
          refine rw_v (op_pure rfl) ?_
          first | refine rw_end ?_ | (refine rw_nil ?_; show CW _ _ _ _ _ _) | refine rw_nil ?_
          repeat refine cw_seq ?_
          refine cw_region ?_
          refine rw_v (op_pure rfl) ?_
          first | refine rw_end ?_ | (refine rw_nil ?_; show CW _ _ _ _ _ _) | refine rw_nil ?_
          repeat refine cw_seq ?_
          refine cw_block ?_
          repeat refine cw_seq ?_
          refine cw_loop (fun m' e w => ∃ j : Nat, j + m' = (nearZ gw gh (k % gw : Nat) (k / gw : Nat)).length ∧ SL e [(0, .int .i64 gw), (1, .int .i64 gh), (2, .slice A V.length cap), (3, .int .i64 t), (4, .int .i64 u), (11, .pointer (some ⟨b_md, 0, none⟩)), (14, .slice A_L V.length c_L), (15, .slice A_p (cntR V t rt V.length) c_p), (17, .slice A_H V.length c_H), (18, .slice A_q (cntR V u ru V.length) c_q), (20, .int .i64 k), (23, .slice A_near (nearZ gw gh (k % gw : Nat) (k / gw : Nat)).length c_near), (24, .int .i64 j)] ∧ St No _ w [.row 36 2 A_near (nearZ gw gh (k % gw : Nat) (k / gw : Nat)).length c_near (cellsZ (nearZ gw gh (k % gw : Nat) (k / gw : Nat)))]) (nearZ gw gh (k % gw : Nat) (k / gw : Nat)).length
            ⟨0, by omega, ⟨rfl, rfl, rfl, rfl, rfl, rfl, rfl, rfl, rfl, rfl, rfl, rfl, rfl, trivial⟩, S.sub (.cons_cons _ (.cons _ .slnil))⟩ ?_
          rintro m' e w ⟨j, hj, hsl, S⟩
          rw [hsl.fold]
          have hnl : (nearZ gw gh (k % gw : Nat) (k / gw : Nat)).length ≤ 4 := Nat.le_trans (List.length_filter_le _ _) (by simp [near4])
          repeat refine cw_seq ?_
          refine cw_region ?_
          refine rw_v (op_pure rfl) ?_
          refine rw_v (op_pure rfl) ?_
          refine rw_v (op_len Try.underlying41 rfl) ?_
          refine rw_v (op_pure rfl) ?_
          first | refine rw_end ?_ | (refine rw_nil ?_; show CW _ _ _ _ _ _) | refine rw_nil ?_
          repeat refine cw_seq ?_
          refine cw_cond rfl (fun hcj => ?_) (fun hcj => ?_)
          · try simp only [decide_eq_true_eq, decide_eq_false_iff_not, beq_iff_eq, bne_iff_ne, beq_eq_false_iff_ne, bne_eq_false_iff_eq, Bool.not_eq_true', Bool.not_eq_false', ne_eq, Decidable.not_not, Int.natCast_inj, Int.ofNat_lt, Int.ofNat_le, gt_iff_lt, ge_iff_le, Int.not_lt, Int.not_le] at hcj
            have hcj : j < (nearZ gw gh (k % gw : Nat) (k / gw : Nat)).length := by omega
            obtain ⟨c, hcget⟩ : ∃ c, (nearZ gw gh (k % gw : Nat) (k / gw : Nat))[j]? = some c := ⟨_, List.getElem?_eq_getElem hcj⟩
            have hside := side_near (by omega) (by omega) (List.mem_of_getElem? hcget)
            have hin := inG_iff.1 hside.1
            obtain ⟨i1, i2, i3, i4⟩ := cell_idx (gw := gw) (gh := gh) (x := c.1) (y := c.2) (by omega) (by omega)
            have sa_near : SomeA A_near := (S.row (i := 0) rfl).someA (by omega)
            have hcx : (cellsZ (nearZ gw gh (k % gw : Nat) (k / gw : Nat)))[(j : Int).toNat * 2 + 0]? = some (.int .i64 c.1) := by rw [Int.toNat_natCast]; exact cellsZ_x hcget
            have hcy : (cellsZ (nearZ gw gh (k % gw : Nat) (k / gw : Nat)))[(j : Int).toNat * 2 + 1]? = some (.int .i64 c.2) := by rw [Int.toNat_natCast]; exact cellsZ_y hcget
            have hd1 := hcn (labF V u ru) _ (show c.2.toNat * gw + c.1.toNat < V.length by omega)
            have hdd : labF V u ru (c.2.toNat * gw + c.1.toNat) = 0 ∨ labF V u ru (c.2.toNat * gw + c.1.toNat) = labF V u ru k := by
              by_cases hvn : u ≤ V.getD (c.2.toNat * gw + c.1.toNat) 0
              · right
                have hadj : Adj gw V u k (c.2.toNat * gw + c.1.toNat) := ⟨hkV, by omega, hvu, hvn, hside.2⟩
                rw [hlabh]; unfold labF; rw [if_pos hvn, ← hru.adj hadj]
              · left; exact if_neg hvn
            rcases hdd with hdd | hdd
            · skip
              repeat refine cw_seq ?_
              refine cw_skip ?_
              try show CW _ _ _ _ _ _
              repeat refine cw_seq ?_
              refine cw_block ?_
              repeat refine cw_seq ?_
              refine cw_draw (C := fun wq => Gr w wq) [0, 1, 2, 3, 4, 5, 6, 7, 8, 9, 10, 11, 12, 13, 14, 15, 16] [] (by kernel_rfl) (by kernel_rfl) (Gr.drew _) ?_
              simp only [pickL, List.drop_succ_cons, List.drop_zero]
              refine rq_v (op_pure rfl) ?_
              refine rq_v (op_pure rfl) ?_
              refine rq_v (op_pure rfl) ?_
              refine rq_v (op_idx Try.underlying41 Try.sizeOf36 rfl rfl sa_near (by omega) (by omega)) ?_
              refine rq_v (op_fld Try.underlying36 rfl Try.sizeOf2 rfl rfl sa_near) ?_
              refine rq_r (fun wq hq => op_ldR Try.underlying2 rfl rfl ((S.gr hq).rd (i := 0) rfl) hcy) ?_
              refine rq_v (op_pure rfl) ?_
              refine rq_v (op_rng rfl (by omega)) ?_
              refine rq_v (op_pure rfl) ?_
              refine rq_v (op_pure rfl) ?_
              refine rq_v (op_idx Try.underlying41 Try.sizeOf36 rfl rfl sa_near (by omega) (by omega)) ?_
              refine rq_v (op_fld Try.underlying36 rfl Try.sizeOf2 rfl rfl sa_near) ?_
              refine rq_r (fun wq hq => op_ldR Try.underlying2 rfl rfl ((S.gr hq).rd (i := 0) rfl) hcx) ?_
              refine rq_v (op_rng rfl (by omega)) ?_
              rw [i3]
              refine rq_v (op_idx Try.underlying22 Try.sizeOf2 rfl rfl sa_H (by omega) (by omega)) ?_
              refine rq_r (fun wq hq => op_ldR Try.underlying2 rfl rfl (Row.rd (hH.gr (S.gr hq).out)) hd1) ?_
              refine rq_v (op_pure rfl) ?_
              refine rq_nil ?_
              intro w16_ g16_
              have S := S.gr g16_
              first | refine rw_end ?_ | (refine rw_nil ?_; show CW _ _ _ _ _ _) | refine rw_nil ?_
              repeat refine cw_seq ?_
              refine cw_region ?_
              refine rw_v (op_pure rfl) ?_
              first | refine rw_v (op_b (b := true) rfl (decide_eq_true (by omega))) ?_ | refine rw_v (op_b (b := false) rfl (decide_eq_false (by omega))) ?_ | refine rw_v (op_pure rfl) ?_
              refine rw_v (op_pure rfl) ?_
              first | refine rw_off rfl ?_ | (refine rw_on rfl ?_; refine rw_v (op_pure rfl) ?_)
              first | refine rw_off rfl ?_ | (refine rw_on rfl ?_; refine rw_v (op_pure rfl) ?_)
              first | refine rw_off rfl ?_ | (refine rw_on rfl ?_; refine rw_v (op_pure rfl) ?_)
              first | refine rw_off rfl ?_ | (refine rw_on rfl ?_; refine rw_v (op_idx Try.underlying22 Try.sizeOf2 rfl rfl sa_H (by omega) (by omega)) ?_)
              first | refine rw_off rfl ?_ | (refine rw_on rfl ?_; refine rw_r (op_ldR Try.underlying2 rfl rfl (Row.rd (hH.gr S.out)) hh1) ?_)
              first | refine rw_off rfl ?_ | (refine rw_on rfl ?_; (first | refine rw_v (op_b (b := true) rfl (bne_iff_ne.2 (by omega))) ?_ | refine rw_v (op_b (b := false) rfl (bne_eq_false_iff_eq.2 (by omega))) ?_ | refine rw_v (op_pure rfl) ?_))
              refine rw_v (op_pure rfl) ?_
              first | refine rw_end ?_ | (refine rw_nil ?_; show CW _ _ _ _ _ _) | refine rw_nil ?_
              repeat refine cw_seq ?_
              refine cw_false rfl ?_
              repeat refine cw_seq ?_
              refine cw_skip ?_
              try show CW _ _ _ _ _ _
              repeat refine cw_seq ?_
              refine cw_region ?_
              refine rw_v (op_pure rfl) ?_
              refine rw_v (op_rng rfl (by omega)) ?_
              refine rw_v (op_pure rfl) ?_
              first | refine rw_end ?_ | (refine rw_nil ?_; show CW _ _ _ _ _ _) | refine rw_nil ?_
              exact ⟨m' - 1, by omega, j + 1, by omega, ⟨rfl, rfl, rfl, rfl, rfl, rfl, rfl, rfl, rfl, rfl, rfl, rfl, ie (by omega), trivial⟩, S⟩
            · skip
              repeat refine cw_seq ?_
              refine cw_skip ?_
              try show CW _ _ _ _ _ _
              repeat refine cw_seq ?_
              refine cw_block ?_
              repeat refine cw_seq ?_
              refine cw_draw (C := fun wq => Gr w wq) [0, 1, 2, 3, 4, 5, 6, 7, 8, 9, 10, 11, 12, 13, 14, 15, 16] [] (by kernel_rfl) (by kernel_rfl) (Gr.drew _) ?_
              simp only [pickL, List.drop_succ_cons, List.drop_zero]
              refine rq_v (op_pure rfl) ?_
              refine rq_v (op_pure rfl) ?_
              refine rq_v (op_pure rfl) ?_
              refine rq_v (op_idx Try.underlying41 Try.sizeOf36 rfl rfl sa_near (by omega) (by omega)) ?_
              refine rq_v (op_fld Try.underlying36 rfl Try.sizeOf2 rfl rfl sa_near) ?_
              refine rq_r (fun wq hq => op_ldR Try.underlying2 rfl rfl ((S.gr hq).rd (i := 0) rfl) hcy) ?_
              refine rq_v (op_pure rfl) ?_
              refine rq_v (op_rng rfl (by omega)) ?_
              refine rq_v (op_pure rfl) ?_
              refine rq_v (op_pure rfl) ?_
              refine rq_v (op_idx Try.underlying41 Try.sizeOf36 rfl rfl sa_near (by omega) (by omega)) ?_
              refine rq_v (op_fld Try.underlying36 rfl Try.sizeOf2 rfl rfl sa_near) ?_
              refine rq_r (fun wq hq => op_ldR Try.underlying2 rfl rfl ((S.gr hq).rd (i := 0) rfl) hcx) ?_
              refine rq_v (op_rng rfl (by omega)) ?_
              rw [i3]
              refine rq_v (op_idx Try.underlying22 Try.sizeOf2 rfl rfl sa_H (by omega) (by omega)) ?_
              refine rq_r (fun wq hq => op_ldR Try.underlying2 rfl rfl (Row.rd (hH.gr (S.gr hq).out)) hd1) ?_
              refine rq_v (op_pure rfl) ?_
              refine rq_nil ?_
              intro w17_ g17_
              have S := S.gr g17_
              first | refine rw_end ?_ | (refine rw_nil ?_; show CW _ _ _ _ _ _) | refine rw_nil ?_
              repeat refine cw_seq ?_
              refine cw_region ?_
              refine rw_v (op_pure rfl) ?_
              first | refine rw_v (op_b (b := true) rfl (decide_eq_true (by omega))) ?_ | refine rw_v (op_b (b := false) rfl (decide_eq_false (by omega))) ?_ | refine rw_v (op_pure rfl) ?_
              refine rw_v (op_pure rfl) ?_
              first | refine rw_off rfl ?_ | (refine rw_on rfl ?_; refine rw_v (op_pure rfl) ?_)
              first | refine rw_off rfl ?_ | (refine rw_on rfl ?_; refine rw_v (op_pure rfl) ?_)
              first | refine rw_off rfl ?_ | (refine rw_on rfl ?_; refine rw_v (op_pure rfl) ?_)
              first | refine rw_off rfl ?_ | (refine rw_on rfl ?_; refine rw_v (op_idx Try.underlying22 Try.sizeOf2 rfl rfl sa_H (by omega) (by omega)) ?_)
              first | refine rw_off rfl ?_ | (refine rw_on rfl ?_; refine rw_r (op_ldR Try.underlying2 rfl rfl (Row.rd (hH.gr S.out)) hh1) ?_)
              first | refine rw_off rfl ?_ | (refine rw_on rfl ?_; (first | refine rw_v (op_b (b := true) rfl (bne_iff_ne.2 (by omega))) ?_ | refine rw_v (op_b (b := false) rfl (bne_eq_false_iff_eq.2 (by omega))) ?_ | refine rw_v (op_pure rfl) ?_))
              refine rw_v (op_pure rfl) ?_
              first | refine rw_end ?_ | (refine rw_nil ?_; show CW _ _ _ _ _ _) | refine rw_nil ?_
              repeat refine cw_seq ?_
              refine cw_false rfl ?_
              repeat refine cw_seq ?_
              refine cw_skip ?_
              try show CW _ _ _ _ _ _
              repeat refine cw_seq ?_
              refine cw_region ?_
              refine rw_v (op_pure rfl) ?_
              refine rw_v (op_rng rfl (by omega)) ?_
              refine rw_v (op_pure rfl) ?_
              first | refine rw_end ?_ | (refine rw_nil ?_; show CW _ _ _ _ _ _) | refine rw_nil ?_
              exact ⟨m' - 1, by omega, j + 1, by omega, ⟨rfl, rfl, rfl, rfl, rfl, rfl, rfl, rfl, rfl, rfl, rfl, rfl, ie (by omega), trivial⟩, S⟩
          · try simp only [decide_eq_true_eq, decide_eq_false_iff_not, beq_iff_eq, bne_iff_ne, beq_eq_false_iff_ne, bne_eq_false_iff_eq, Bool.not_eq_true', Bool.not_eq_false', ne_eq, Decidable.not_not, Int.natCast_inj, Int.ofNat_lt, Int.ofNat_le, gt_iff_lt, ge_iff_le, Int.not_lt, Int.not_le] at hcj
            repeat refine cw_seq ?_
            refine cw_exit ?_
            repeat first | refine exit_then ?_ | refine exit_inb ?_
            show CW _ _ _ _ _ _
            repeat refine cw_seq ?_
            refine cw_region ?_
            refine rw_v (op_pure rfl) ?_
            refine rw_v (op_rng rfl (by omega)) ?_
            refine rw_v (op_pure rfl) ?_
            first | refine rw_end ?_ | (refine rw_nil ?_; show CW _ _ _ _ _ _) | refine rw_nil ?_
            exact ⟨m - 1, by omega, k + 1, by omega, ⟨rfl, rfl, rfl, rfl, rfl, rfl, rfl, rfl, rfl, rfl, ie (by omega), trivial⟩, S.sub (.cons _ .slnil)⟩
        · have hlabh : labF V u ru k = 0 := if_neg hvu
          repeat refine cw_seq ?_
          refine cw_skip ?_
          try show CW _ _ _ _ _ _
          repeat refine cw_seq ?_
          refine cw_block ?_
          repeat refine cw_seq ?_
          refine cw_draw (C := fun wq => Gr w wq) [0, 1, 2, 3, 4, 5, 6, 7, 8, 9, 10, 11, 12, 13, 14, 15, 16, 17, 18, 19, 20, 21, 22, 23, 24, 25, 26, 27, 28, 29, 30, 31, 32, 33, 34, 35, 36, 37, 38, 39, 40, 41, 42, 43] [] (by kernel_rfl) (by kernel_rfl) (Gr.drew _) ?_
          simp only [pickL, List.drop_succ_cons, List.drop_zero]
          refine rq_v (op_pure rfl) ?_
          refine rq_v (op_pure rfl) ?_
          refine rq_v (op_idx Try.underlying22 Try.sizeOf2 rfl rfl sa_H (by omega) (by omega)) ?_
          refine rq_r (fun wq hq => op_ldR Try.underlying2 rfl rfl (Row.rd (hH.gr (S.gr hq).out)) hh1) ?_
          first | refine rq_v (op_b (b := true) rfl (decide_eq_true (by omega))) ?_ | refine rq_v (op_b (b := false) rfl (decide_eq_false (by omega))) ?_ | refine rq_v (op_pure rfl) ?_
          refine rq_v (op_pure rfl) ?_
          first | refine rq_off rfl ?_ | (refine rq_on rfl ?_; refine rq_v (op_pure rfl) ?_)
          first | refine rq_off rfl ?_ | (refine rq_on rfl ?_; refine rq_v (op_pure rfl) ?_)
          first | refine rq_off rfl ?_ | (refine rq_on rfl ?_; refine rq_v (op_idx Try.underlying22 Try.sizeOf2 rfl rfl sa_H (by omega) (by omega)) ?_)
          first | refine rq_off rfl ?_ | (refine rq_on rfl ?_; refine rq_r (fun wq hq => op_ldR Try.underlying2 rfl rfl (Row.rd (hH.gr (S.gr hq).out)) hh1) ?_)
          first | refine rq_off rfl ?_ | (refine rq_on rfl ?_; refine rq_v (op_pure rfl) ?_)
          first | refine rq_off rfl ?_ | (refine rq_on rfl ?_; refine rq_v (op_len Try.underlying31 rfl) ?_)
          first | refine rq_off rfl ?_ | (refine rq_on rfl ?_; (first | refine rq_v (op_b (b := true) rfl (decide_eq_true (by omega))) ?_ | refine rq_v (op_b (b := false) rfl (decide_eq_false (by omega))) ?_ | refine rq_v (op_pure rfl) ?_))
          refine rq_v (op_pure rfl) ?_
          refine rq_v (op_pure rfl) ?_
          first | refine rq_off rfl ?_ | (refine rq_on rfl ?_; refine rq_v (op_pure rfl) ?_)
          first | refine rq_off rfl ?_ | (refine rq_on rfl ?_; refine rq_v (op_pure rfl) ?_)
          first | refine rq_off rfl ?_ | (refine rq_on rfl ?_; refine rq_v (op_idx Try.underlying22 Try.sizeOf2 rfl rfl sa_L (by omega) (by omega)) ?_)
          first | refine rq_off rfl ?_ | (refine rq_on rfl ?_; refine rq_r (fun wq hq => op_ldR Try.underlying2 rfl rfl (Row.rd (hL.gr (S.gr hq).out)) hl1) ?_)
          first | refine rq_off rfl ?_ | (refine rq_on rfl ?_; (first | refine rq_v (op_b (b := true) rfl (decide_eq_true (by omega))) ?_ | refine rq_v (op_b (b := false) rfl (decide_eq_false (by omega))) ?_ | refine rq_v (op_pure rfl) ?_))
          refine rq_v (op_pure rfl) ?_
          refine rq_v (op_pure rfl) ?_
          first | refine rq_off rfl ?_ | (refine rq_on rfl ?_; refine rq_v (op_pure rfl) ?_)
          first | refine rq_off rfl ?_ | (refine rq_on rfl ?_; refine rq_v (op_pure rfl) ?_)
          first | refine rq_off rfl ?_ | (refine rq_on rfl ?_; refine rq_v (op_idx Try.underlying22 Try.sizeOf2 rfl rfl sa_L (by omega) (by omega)) ?_)
          first | refine rq_off rfl ?_ | (refine rq_on rfl ?_; refine rq_r (fun wq hq => op_ldR Try.underlying2 rfl rfl (Row.rd (hL.gr (S.gr hq).out)) hl1) ?_)
          first | refine rq_off rfl ?_ | (refine rq_on rfl ?_; refine rq_v (op_pure rfl) ?_)
          first | refine rq_off rfl ?_ | (refine rq_on rfl ?_; refine rq_v (op_len Try.underlying31 rfl) ?_)
          first | refine rq_off rfl ?_ | (refine rq_on rfl ?_; (first | refine rq_v (op_b (b := true) rfl (decide_eq_true (by omega))) ?_ | refine rq_v (op_b (b := false) rfl (decide_eq_false (by omega))) ?_ | refine rq_v (op_pure rfl) ?_))
          refine rq_v (op_pure rfl) ?_
          refine rq_v (op_pure rfl) ?_
          first | refine rq_off rfl ?_ | (refine rq_on rfl ?_; refine rq_v (op_pure rfl) ?_)
          first | refine rq_off rfl ?_ | (refine rq_on rfl ?_; refine rq_v (op_pure rfl) ?_)
          first | refine rq_off rfl ?_ | (refine rq_on rfl ?_; refine rq_v (op_idx Try.underlying22 Try.sizeOf2 rfl rfl sa_H (by omega) (by omega)) ?_)
          first | refine rq_off rfl ?_ | (refine rq_on rfl ?_; refine rq_r (fun wq hq => op_ldR Try.underlying2 rfl rfl (Row.rd (hH.gr (S.gr hq).out)) hh1) ?_)
          first | refine rq_off rfl ?_ | (refine rq_on rfl ?_; (first | refine rq_v (op_b (b := true) rfl (decide_eq_true (by omega))) ?_ | refine rq_v (op_b (b := false) rfl (decide_eq_false (by omega))) ?_ | refine rq_v (op_pure rfl) ?_))
          first | refine rq_off rfl ?_ | (refine rq_on rfl ?_; refine rq_v (op_pure rfl) ?_)
          first | refine rq_off rfl ?_ | (refine rq_on rfl ?_; refine rq_v (op_pure rfl) ?_)
          first | refine rq_off rfl ?_ | (refine rq_on rfl ?_; refine rq_v (op_idx Try.underlying22 Try.sizeOf2 rfl rfl sa_A (by omega) (by omega)) ?_)
          first | refine rq_off rfl ?_ | (refine rq_on rfl ?_; refine rq_r (fun wq hq => op_ldR Try.underlying2 rfl rfl (hA.gr (S.gr hq).out) hv) ?_)
          first | refine rq_off rfl ?_ | (refine rq_on rfl ?_; refine rq_v (op_pure rfl) ?_)
          first | refine rq_off rfl ?_ | (refine rq_on rfl ?_; (first | refine rq_v (op_b (b := true) rfl (decide_eq_true (by omega))) ?_ | refine rq_v (op_b (b := false) rfl (decide_eq_false (by omega))) ?_ | refine rq_v (op_pure rfl) ?_))
          refine rq_on rfl ?_
          refine rq_v (op_bne (B := false) Try.underlying4 rfl rfl rfl) ?_
          refine rq_v (op_pure rfl) ?_
          refine rq_nil ?_
          intro w18_ g18_
          have S := S.gr g18_
          first | refine rw_end ?_ | (refine rw_nil ?_; show CW _ _ _ _ _ _) | refine rw_nil ?_
          repeat refine cw_seq ?_
          refine cw_false rfl ?_
          repeat refine cw_seq ?_
          refine cw_skip ?_
          try show CW _ _ _ _ _ _
          repeat refine cw_seq ?_
          refine cw_region ?_
          refine rw_v (op_pure rfl) ?_
          refine rw_v (op_pure rfl) ?_
          refine rw_v (op_idx Try.underlying22 Try.sizeOf2 rfl rfl sa_H (by omega) (by omega)) ?_
          refine rw_r (op_ldR Try.underlying2 rfl rfl (Row.rd (hH.gr S.out)) hh1) ?_
          refine rw_v (op_b (b := true) rfl (beq_iff_eq.2 (by omega))) ?_
          first | refine rw_end ?_ | (refine rw_nil ?_; show CW _ _ _ _ _ _) | refine rw_nil ?_
          repeat refine cw_seq ?_
          refine cw_true rfl ?_
          repeat refine cw_seq ?_
          refine cw_exit ?_
          repeat first | refine exit_then ?_ | refine exit_inb ?_
          show CW _ _ _ _ _ _
          repeat refine cw_seq ?_
          refine cw_region ?_
          refine rw_v (op_pure rfl) ?_
          refine rw_v (op_rng rfl (by omega)) ?_
          refine rw_v (op_pure rfl) ?_
          first | refine rw_end ?_ | (refine rw_nil ?_; show CW _ _ _ _ _ _) | refine rw_nil ?_
          exact ⟨m - 1, by omega, k + 1, by omega, ⟨rfl, rfl, rfl, rfl, rfl, rfl, rfl, rfl, rfl, rfl, ie (by omega), trivial⟩, S⟩
      · try simp only [decide_eq_true_eq, decide_eq_false_iff_not, beq_iff_eq, bne_iff_ne, beq_eq_false_iff_ne, bne_eq_false_iff_eq, Bool.not_eq_true', Bool.not_eq_false', ne_eq, Decidable.not_not, Int.natCast_inj, Int.ofNat_lt, Int.ofNat_le, gt_iff_lt, ge_iff_le, Int.not_lt, Int.not_le] at hc
        repeat refine cw_seq ?_
        refine cw_exit ?_
        repeat first | refine exit_then ?_ | refine exit_inb ?_
        show CW _ _ _ _ _ _
        repeat refine cw_seq ?_
        refine cw_region ?_
        refine rw_v (op_pure rfl) ?_
        first | refine rw_end ?_ | (refine rw_nil ?_; show CW _ _ _ _ _ _) | refine rw_nil ?_
        repeat refine cw_seq ?_
        refine cw_ret ?_
        repeat first | refine ret_then ?_ | refine ret_inb ?_
        exact res1 rfl ⟨rfl, G.trans S.out⟩
    · skip
      have G := Gr.refl W
      have S := St.start W
      refine Fn_enter Try.func3 rfl Try.results3 Try.ntmps3 (by kernel_rfl) (by kernel_rfl) ?_
      repeat refine cw_seq ?_
      refine cw_region ?_
      refine rw_v (op_pure rfl) ?_
      first | refine rw_end ?_ | (refine rw_nil ?_; show CW _ _ _ _ _ _) | refine rw_nil ?_
      repeat refine cw_seq ?_
      refine cw_region ?_
      refine rw_call rfl (awake29_E W) ?_
      rintro _ w1_ ⟨rfl, g1_⟩
      have S := S.gr g1_
      refine rw_v (op_pure rfl) ?_
      first | refine rw_end ?_ | (refine rw_nil ?_; show CW _ _ _ _ _ _) | refine rw_nil ?_
      repeat refine cw_seq ?_
      refine cw_false rfl ?_
      repeat refine cw_seq ?_
      refine cw_skip ?_
      try show CW _ _ _ _ _ _
      repeat refine cw_seq ?_
      refine cw_region ?_
      refine rw_v (op_pure rfl) ?_
      refine rw_v (op_pure rfl) ?_
      refine rw_v (op_pure rfl) ?_
      refine rw_call rfl (land_E w h 1000 cap (by omega) hok (hA.gr S.out)) ?_
      rintro _ w2_ ⟨rfl, g2_⟩
      have S := S.gr g2_
      refine rw_v (op_pure rfl) ?_
      refine rw_v (op_pure rfl) ?_
      refine rw_v (op_pure rfl) ?_
      refine rw_newB (op_alloc Try.zeroValue25 rfl) S ?_
      intro b_b3 w4_ g4_ S
      refine rw_storeSA (i := 0) S rfl (Try.sizeOf25 _) rfl rfl rfl rfl rfl rfl ?_
      intro w5_ S
      refine rw_v (op_pure rfl) ?_
      first | refine rw_end ?_ | (refine rw_nil ?_; show CW _ _ _ _ _ _) | refine rw_nil ?_
      repeat refine cw_seq ?_
      refine cw_region ?_
      refine rw_v (op_pure rfl) ?_
      refine rw_v (op_pure rfl) ?_
      refine rw_v (op_pure rfl) ?_
      first | refine rw_off rfl ?_ | (refine rw_on rfl ?_; refine rw_v (op_pure rfl) ?_)
      first | refine rw_off rfl ?_ | (refine rw_on rfl ?_; refine rw_v (op_pure rfl) ?_)
      first | refine rw_off rfl ?_ | (refine rw_on rfl ?_; (first | refine rw_v (op_b (b := true) rfl (decide_eq_true (by omega))) ?_ | refine rw_v (op_b (b := false) rfl (decide_eq_false (by omega))) ?_ | refine rw_v (op_pure rfl) ?_))
      refine rw_v (op_pure rfl) ?_
      first | refine rw_end ?_ | (refine rw_nil ?_; show CW _ _ _ _ _ _) | refine rw_nil ?_
      repeat refine cw_seq ?_
      refine cw_true rfl ?_
      repeat refine cw_seq ?_
      refine cw_region ?_
      refine rw_v (op_pure rfl) ?_
      first | refine rw_end ?_ | (refine rw_nil ?_; show CW _ _ _ _ _ _) | refine rw_nil ?_
      repeat refine cw_seq ?_
      refine cw_ret ?_
      repeat first | refine ret_then ?_ | refine ret_inb ?_
      exact res1 rfl ⟨rfl, S.out⟩
  · skip
    have G := Gr.refl W
    have S := St.start W
    refine Fn_enter Try.func3 rfl Try.results3 Try.ntmps3 (by kernel_rfl) (by kernel_rfl) ?_
    repeat refine cw_seq ?_
    refine cw_region ?_
    refine rw_v (op_pure rfl) ?_
    first | refine rw_end ?_ | (refine rw_nil ?_; show CW _ _ _ _ _ _) | refine rw_nil ?_
    repeat refine cw_seq ?_
    refine cw_region ?_
    refine rw_call rfl (awake29_E W) ?_
    rintro _ w1_ ⟨rfl, g1_⟩
    have S := S.gr g1_
    refine rw_v (op_pure rfl) ?_
    first | refine rw_end ?_ | (refine rw_nil ?_; show CW _ _ _ _ _ _) | refine rw_nil ?_
    repeat refine cw_seq ?_
    refine cw_false rfl ?_
    repeat refine cw_seq ?_
    refine cw_skip ?_
    try show CW _ _ _ _ _ _
    repeat refine cw_seq ?_
    refine cw_region ?_
    refine rw_v (op_pure rfl) ?_
    refine rw_v (op_pure rfl) ?_
    refine rw_v (op_pure rfl) ?_
    refine rw_call rfl (landNo_E w h 1000 cap (by omega) hl hok (hA.gr S.out)) ?_
    rintro _ w2_ ⟨rfl, g2_⟩
    have S := S.gr g2_
    refine rw_v (op_pure rfl) ?_
    refine rw_v (op_pure rfl) ?_
    refine rw_v (op_pure rfl) ?_
    refine rw_newB (op_alloc Try.zeroValue25 rfl) S ?_
    intro b_b3 w4_ g4_ S
    refine rw_storeSA (i := 0) S rfl (Try.sizeOf25 _) rfl rfl rfl rfl rfl rfl ?_
    intro w5_ S
    refine rw_v (op_pure rfl) ?_
    first | refine rw_end ?_ | (refine rw_nil ?_; show CW _ _ _ _ _ _) | refine rw_nil ?_
    repeat refine cw_seq ?_
    refine cw_region ?_
    refine rw_v (op_pure rfl) ?_
    refine rw_v (op_pure rfl) ?_
    refine rw_v (op_pure rfl) ?_
    first | refine rw_off rfl ?_ | (refine rw_on rfl ?_; refine rw_v (op_pure rfl) ?_)
    first | refine rw_off rfl ?_ | (refine rw_on rfl ?_; refine rw_v (op_pure rfl) ?_)
    first | refine rw_off rfl ?_ | (refine rw_on rfl ?_; (first | refine rw_v (op_b (b := true) rfl (decide_eq_true (by omega))) ?_ | refine rw_v (op_b (b := false) rfl (decide_eq_false (by omega))) ?_ | refine rw_v (op_pure rfl) ?_))
    refine rw_v (op_pure rfl) ?_
    first | refine rw_end ?_ | (refine rw_nil ?_; show CW _ _ _ _ _ _) | refine rw_nil ?_
    repeat refine cw_seq ?_
    refine cw_true rfl ?_
    repeat refine cw_seq ?_
    refine cw_region ?_
    refine rw_v (op_pure rfl) ?_
    first | refine rw_end ?_ | (refine rw_nil ?_; show CW _ _ _ _ _ _) | refine rw_nil ?_
    repeat refine cw_seq ?_
    refine cw_ret ?_
    repeat first | refine ret_then ?_ | refine ret_inb ?_
    exact res1 rfl ⟨rfl, S.out⟩
end
end Go.Proofs.Ytmdkjohllinphaa
