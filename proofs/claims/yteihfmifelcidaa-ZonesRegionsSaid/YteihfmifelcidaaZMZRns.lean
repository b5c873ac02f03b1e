/- hachurelaw49.ZonesRegions: the walk. -/
import Derived.Test.YteihfmifelcidaaZLZRns
import Derived.Test.YteihfmifelcidaaZK
import Derived.Test.YteihfmifelcidaaRows
import Derived.WalkKit
import Derived.ProofKit
import Derived.OpenShut
import Derived.Below
import Derived.ChangeSame
import Derived.ChangeReads
import Derived.DataReads
import Derived.Lib.SmallJoins
import Derived.Test.YteihfmifelcidaaZA
import Derived.Test.YteihfmifelcidaaZE
namespace Go.Proofs.Yteihfmifelcidaa
open Go.RowKit
set_option linter.unusedVariables false
set_option linter.unusedSimpArgs false
set_option maxRecDepth 100000

theorem cellsN_labZ (V : List Int) (t : Int) (r : Nat → Nat) : cellsN V.length (labF V t r) = ints (labZ V t r) := by
  unfold cellsN ints labZ
  rw [List.map_map]
  rfl
theorem rows_apart {w : World} {el el' k k' n n' c c' : Nat} {A A' : Option Addr} {xs ys : List Value} (h : Row w el k A n c xs) (h' : Row w el' k' A' n' c' ys) (hne : el ≠ el') : ∀ g, ownA A g → ¬ ownA A' g := fun g hg hg' => by
  rcases h.form with ⟨rfl, _⟩ | ⟨b, l, rfl, hB, _⟩
  · cases hg
  · rcases h'.form with ⟨rfl, _⟩ | ⟨b', l', rfl, hB', _⟩
    · cases hg'
    · have e1 : b = g := Option.some.inj hg
      have e2 : b' = g := Option.some.inj hg'
      subst e1
      subst e2
      unfold Blk at hB hB'
      rw [hB] at hB'
      injection hB' with hB'
      injection hB' with _ h2
      exact hne h2
section
variable {W : World} {A : Option Addr} {V : List Int}
set_option maxHeartbeats 8000000 in
theorem zonesRegions_E (w h : Int) (cap : Nat) (t : Int) (hl : V.length ≤ 9223372036854775807) (hA : Rd W A (ints V)) :
    Fn Try.prog 10 [.int .i64 w, .int .i64 h, .slice A V.length cap, .int .i64 t] W (RetG (.bool true) W) := by
  by_cases hok : LandOk w h V 400
  · obtain ⟨gw, rfl⟩ := Int.eq_ofNat_of_zero_le (show 0 ≤ w by have := hok.w1; omega)
    obtain ⟨gh, rfl⟩ := Int.eq_ofNat_of_zero_le (show 0 ≤ h by have := hok.h1; omega)
    have hw : 1 ≤ gw ∧ gw ≤ 1024 := by have := hok.w1; have := hok.wm; omega
    have hh : 1 ≤ gh ∧ gh ≤ 1024 := by have := hok.h1; have := hok.hm; omega
    have hmi : (gw : Int) * gh = ((gw * gh : Nat) : Int) := by push_cast; rfl
    have hVg : V.length = gw * gh := by have := hok.len; rw [hmi] at this; omega
    have hm : gw * gh ≤ 400 := by have := hok.area; rw [hmi] at this; omega
    have hmay := hok.may
    have hbd := may_bnd hmay
    have hGl := gridL_made hVg
    have hro := fun (p : Nat) (B2 : Option Addr) (bc : Nat) (bs : Nat → Nat) (Rs : Nat → Option Nat) (w : World) (hG : GridAt w p gw gh (fun i => V.getD i 0) B2 bc bs Rs) => regionsOf_E (W := w) t hG
    have hzo := fun (L : List Int) (hL : L.length = gw * gh) (p : Nat) (B B2 : Option Addr) (bc cb : Nat) (bs : Nat → Nat) (Rs : Nat → Option Nat) (w : World) (hb : Rd w B (ints L)) (hG : GridAt w p gw gh (fun i => V.getD i 0) B2 bc bs Rs) => zof_E (W := w) (cb := cb) (by rw [hGl]; exact hbd) hL hb hG
    have hzb := fun (L : List Int) (hL : L.length = gw * gh) (p : Nat) (B B2 : Option Addr) (bc cb : Nat) (bs : Nat → Nat) (Rs : Nat → Option Nat) (w : World) (hb : Rd w B (ints L)) (hG : GridAt w p gw gh (fun i => V.getD i 0) B2 bc bs Rs) => zbord_E (W := w) (cb := cb) hL hb hG
    rw [hGl] at hro hzo
    rw [← hVg] at hzo hzb
    have G := Gr.refl W
    have S := St.start W
    refine Fn_enter Try.func10 rfl Try.results10 Try.ntmps10 (by kernel_rfl) (by kernel_rfl) ?_
    repeat refine cw_seq ?_
    refine cw_region ?_
    refine rw_v (op_pure rfl) ?_
    first | refine rw_end ?_ | (refine rw_nil ?_; show CW _ _ _ _ _ _) | refine rw_nil ?_
    repeat refine cw_seq ?_
    refine cw_region ?_
    refine rw_call rfl (awake49_E W) ?_
    rintro _ w1_ ⟨rfl, g1_⟩
    have S := S.gr g1_
    refine rw_v (op_pure rfl) ?_
    first | refine rw_end ?_ | (refine rw_nil ?_; show CW _ _ _ _ _ _) | refine rw_nil ?_
    repeat refine cw_seq ?_
    refine cw_false rfl ?_
    repeat refine cw_seq ?_
    refine cw_skip ?_
    try show CW _ _ _ _ _ _
    repeat refine cw_seq ?_
    refine cw_region ?_
    iterate 3 refine rw_v (op_pure rfl) ?_
    refine rw_call rfl (land_E gw gh 400 cap (by omega) hok (hA.gr S.out)) ?_
    rintro _ w2_ ⟨rfl, g2_⟩
    have S := S.gr g2_
    iterate 3 refine rw_v (op_pure rfl) ?_
    refine rw_newB (op_alloc Try.zeroValue25 rfl) S ?_
    intro b_md w4_ g4_ S
    refine rw_storeSA (i := 0) S rfl (Try.sizeOf25 _) rfl rfl rfl rfl rfl rfl ?_
    intro w5_ S
    refine rw_v (op_pure rfl) ?_
    first | refine rw_end ?_ | (refine rw_nil ?_; show CW _ _ _ _ _ _) | refine rw_nil ?_
    repeat refine cw_seq ?_
    refine cw_region ?_
    iterate 2 refine rw_v (op_pure rfl) ?_
    first | refine rw_end ?_ | (refine rw_nil ?_; show CW _ _ _ _ _ _) | refine rw_nil ?_
    repeat refine cw_seq ?_
    refine cw_false rfl ?_
    repeat refine cw_seq ?_
    refine cw_skip ?_
    try show CW _ _ _ _ _ _
    repeat refine cw_seq ?_
    refine cw_region ?_
    iterate 3 refine rw_v (op_pure rfl) ?_
    refine rw_call rfl (made_E gw gh cap hw hh hVg hmay (hA.gr S.out)) ?_
    rintro _ w6_ ⟨p, B2, bc, bs, Rs, rfl, hG, hf, g6_⟩
    have S := S.pushGrid hG hf g6_
    iterate 5 refine rw_v (op_pure rfl) ?_
    first | refine rw_end ?_ | (refine rw_nil ?_; show CW _ _ _ _ _ _) | refine rw_nil ?_
    repeat refine cw_seq ?_
    refine cw_region ?_
    iterate 2 refine rw_v (op_pure rfl) ?_
    first | refine rw_end ?_ | (refine rw_nil ?_; show CW _ _ _ _ _ _) | refine rw_nil ?_
    repeat refine cw_seq ?_
    refine cw_false rfl ?_
    repeat refine cw_seq ?_
    refine cw_skip ?_
    try show CW _ _ _ _ _ _
    repeat refine cw_seq ?_
    refine cw_region ?_
    iterate 2 refine rw_v (op_pure rfl) ?_
    refine rw_call rfl (hro p B2 bc bs Rs w6_ (S.grid (i := 0) rfl)) ?_
    rintro _ w7_ ⟨r, hR, A_lb, c_lb, A_pt, c_pt, rfl, hR1, hR2, hf1, hf2, g7_⟩
    have S := S.push2 g7_ (h1 := .row 2 1 A_lb V.length c_lb _) (h2 := .row 83 8 A_pt (cntR V t r V.length) c_pt _) hR1 hR2 hf1 hf2 (rows_apart hR1 hR2 (by decide))
    rw [cellsN_labZ] at S
    have hLz := labZ_len (V := V) (t := t) (r := r)
    have hz1 := hzo (labZ V t r) (by omega)
    have hz2 := hzb (labZ V t r) (by omega)
    rw [refLab_regs hR] at hz1
    rw [bord_regs hR] at hz2
    rw [List.length_map, List.length_range] at hz1
    iterate 7 refine rw_v (op_pure rfl) ?_
    first | refine rw_end ?_ | (refine rw_nil ?_; show CW _ _ _ _ _ _) | refine rw_nil ?_
    repeat refine cw_seq ?_
    refine cw_region ?_
    iterate 2 refine rw_v (op_pure rfl) ?_
    refine rw_call rfl (hz1 p A_lb B2 bc c_lb bs Rs w7_ (S.rd (i := 0) rfl) (S.grid (i := 2) rfl)) ?_
    rintro _ w8_ ⟨A_z, c_z, rfl, hR_z, hf_z, g8_⟩
    have S := S.pushRow hR_z hf_z g8_
    iterate 5 refine rw_v (op_pure rfl) ?_
    first | refine rw_end ?_ | (refine rw_nil ?_; show CW _ _ _ _ _ _) | refine rw_nil ?_
    repeat refine cw_seq ?_
    refine cw_region ?_
    iterate 2 refine rw_v (op_pure rfl) ?_
    refine rw_call rfl (hz2 p A_lb B2 bc c_lb bs Rs w8_ (S.rd (i := 1) rfl) (S.grid (i := 3) rfl)) ?_
    rintro _ w9_ ⟨A_bd, c_bd, rfl, hR_bd, hf_bd, g9_⟩
    have S := S.pushRow hR_bd hf_bd g9_
    iterate 5 refine rw_v (op_pure rfl) ?_
    first | refine rw_end ?_ | (refine rw_nil ?_; show CW _ _ _ _ _ _) | refine rw_nil ?_
    have S := S.sub (.cons _ (.cons_cons _ (.cons _ (.cons_cons _ (.cons _ (.cons _ (.slnil)))))))
    have hcl := cntR_le V t r V.length
    have hZ : ∀ j, j < cntR V t r V.length → (((List.range (cntR V t r V.length)).map fun j => ((j : Nat) : Int) + 1).map fun a => znN V (labZ V t r) a V.length)[j]? = some (znN V (labZ V t r) ((j : Int) + 1) V.length) := fun j hj => by
      rw [List.getElem?_map, List.getElem?_map, List.getElem?_range hj]; rfl
    have hq : ∀ j, j < cntR V t r V.length → ∃ q, (rootsL V t r V.length)[j]? = some q := fun j hj => ⟨_, List.getElem?_eq_getElem hj⟩
    have hpt : ∀ j q, (rootsL V t r V.length)[j]? = some q → (partsAt gw V t r V.length)[j]? = some (partAt gw V t r V.length q) := fun j q h => by unfold partsAt; rw [List.getElem?_map, h]; rfl
    generalize (((List.range (cntR V t r V.length)).map fun j => ((j : Nat) : Int) + 1).map fun a => znN V (labZ V t r) a V.length) = Z at *
    generalize partsAt gw V t r V.length = PT at *
    have hrz := fun j q (h : (rootsL V t r V.length)[j]? = some q) => zone_reg (j := j) (q := q) hR h
    have hrr := fun j q (h : (rootsL V t r V.length)[j]? = some q) => rootsL_at h
    generalize cntR V t r V.length = cn at *
    have e0 : ([] : List Pr).length = 0 := rfl
    repeat refine cw_seq ?_
    refine cw_region ?_
    refine rw_v (op_pure rfl) ?_
    refine rw_v (op_b (b := false) rfl (bne_eq_false_iff_eq.2 (by omega))) ?_
    refine rw_v (op_pure rfl) ?_
    first | refine rw_off rfl ?_ | (refine rw_on rfl ?_; refine rw_v (op_pure rfl) ?_)
    first | refine rw_off rfl ?_ | (refine rw_on rfl ?_; refine rw_v (op_b (b := false) rfl (bne_eq_false_iff_eq.2 (by omega))) ?_)
    iterate 2 refine rw_v (op_pure rfl) ?_
    first | refine rw_off rfl ?_ | (refine rw_on rfl ?_; refine rw_v (op_pure rfl) ?_)
    first | refine rw_off rfl ?_ | (refine rw_on rfl ?_; refine rw_v (op_b (b := false) rfl (bne_eq_false_iff_eq.2 (by omega))) ?_)
    iterate 2 refine rw_v (op_pure rfl) ?_
    first | refine rw_off rfl ?_ | (refine rw_on rfl ?_; refine rw_v (op_pure rfl) ?_)
    first | refine rw_off rfl ?_ | (refine rw_on rfl ?_; refine rw_v (op_len Try.underlying61 rfl) ?_)
    first | refine rw_off rfl ?_ | (refine rw_on rfl ?_; refine rw_v (op_b (b := false) rfl (bne_eq_false_iff_eq.2 (by omega))) ?_)
    iterate 2 refine rw_v (op_pure rfl) ?_
    first | refine rw_off rfl ?_ | (refine rw_on rfl ?_; refine rw_v (op_pure rfl) ?_)
    first | refine rw_off rfl ?_ | (refine rw_on rfl ?_; refine rw_v (op_len Try.underlying52 rfl) ?_)
    first | refine rw_off rfl ?_ | (refine rw_on rfl ?_; refine rw_v (op_pure rfl) ?_)
    first | refine rw_off rfl ?_ | (refine rw_on rfl ?_; refine rw_v (op_len Try.underlying77 rfl) ?_)
    first | refine rw_off rfl ?_ | (refine rw_on rfl ?_; refine rw_v (op_b (b := false) rfl (bne_eq_false_iff_eq.2 (by omega))) ?_)
    refine rw_v (op_pure rfl) ?_
    first | refine rw_end ?_ | (refine rw_nil ?_; show CW _ _ _ _ _ _) | refine rw_nil ?_
    repeat refine cw_seq ?_
    refine cw_false rfl ?_
    repeat refine cw_seq ?_
    refine cw_skip ?_
    try show CW _ _ _ _ _ _
    repeat refine cw_seq ?_
    refine cw_region ?_
    refine rw_v (op_pure rfl) ?_
    first | refine rw_end ?_ | (refine rw_nil ?_; show CW _ _ _ _ _ _) | refine rw_nil ?_
    repeat refine cw_seq ?_
    refine cw_block ?_
    repeat refine cw_seq ?_
    refine cw_loop (fun m e w => ∃ k : Nat, k + m = cn ∧ SL e [(3, .int .i64 t), (13, .slice A_pt cn c_pt), (15, .slice A_z cn c_z), (19, .int .i64 k)] ∧
      St No W w [.row 59 7 A_z cn c_z (Z.flatMap (encZ gw)), .row 83 8 A_pt cn c_pt (partsV PT)]) cn
      ⟨0, by omega, ⟨rfl, rfl, rfl, rfl, trivial⟩, S⟩ ?_
    clear S
    rintro m e w ⟨k, hk, hsl, S⟩
    rw [hsl.fold]
    by_cases hkn : k < cn
    · obtain ⟨q, hqk⟩ := hq k hkn
      have hzk := hZ k hkn
      obtain ⟨z1, z2, z3, z4⟩ := hrz k q hqk
      obtain ⟨q1, q2, q3⟩ := hrr k q hqk
      have hpk := hpt k q hqk
      generalize znN V (labZ V t r) ((k : Int) + 1) V.length = zz at *
      have g0 : (Z.flatMap (encZ gw))[(k : Int).toNat * 7 + 0]? = some (.int .i64 zz.lb) := fldZ hzk 0 (by omega)
      have g1 : (Z.flatMap (encZ gw))[(k : Int).toNat * 7 + 1]? = some (.int .i64 zz.ar) := fldZ hzk 1 (by omega)
      have g3 : (Z.flatMap (encZ gw))[(k : Int).toNat * 7 + 3]? = some (.int .i64 zz.mn) := fldZ hzk 3 (by omega)
      have g5 : ((Z.flatMap (encZ gw)).drop ((k : Int).toNat * 7 + 5)).take 2 = [.int .i64 (zz.fs % gw : Nat), .int .i64 (zz.fs / gw : Nat)] := by
        apply List.ext_getElem?
        intro x
        rw [List.getElem?_take, List.getElem?_drop, Nat.add_assoc]
        match x with
        | 0 => rw [if_pos (by omega), fldZ hzk 5 (by omega)]; rfl
        | 1 => rw [if_pos (by omega), fldZ hzk 6 (by omega)]; rfl
        | x + 2 => rw [if_neg (by omega)]; rfl
      have p0 : (partsV PT)[(k : Int).toNat * 8 + 0]? = some (.int .i64 (cntR V t r q + 1 : Nat)) := by rw [Int.toNat_natCast, partsV_get hpk (by omega)]; rfl
      have p1 : (partsV PT)[(k : Int).toNat * 8 + 1]? = some (.int .i64 ((members V t r q V.length).length : Nat)) := by rw [Int.toNat_natCast, partsV_get hpk (by omega)]; rfl
      have p2 : ((partsV PT).drop ((k : Int).toNat * 8 + 2)).take 2 = [.int .i64 (q % gw : Nat), .int .i64 (q / gw : Nat)] := by
        apply List.ext_getElem?
        intro x
        rw [List.getElem?_take, List.getElem?_drop, Nat.add_assoc, Int.toNat_natCast]
        match x with
        | 0 => rw [if_pos (by omega), partsV_get hpk (by omega)]; rfl
        | 1 => rw [if_pos (by omega), partsV_get hpk (by omega)]; rfl
        | x + 2 => rw [if_neg (by omega)]; rfl
      rw [z3] at g5
      have sa_z : SomeA A_z := (S.row (i := 0) rfl).someA (by omega)
      have sa_pt : SomeA A_pt := (S.row (i := 1) rfl).someA (by omega)
      repeat refine cw_seq ?_
      refine cw_region ?_
      iterate 2 refine rw_v (op_pure rfl) ?_
      refine rw_v (op_len Try.underlying52 rfl) ?_
      refine rw_v (op_b (b := true) rfl (decide_eq_true (by omega))) ?_
      first | refine rw_end ?_ | (refine rw_nil ?_; show CW _ _ _ _ _ _) | refine rw_nil ?_
      repeat refine cw_seq ?_
      refine cw_true rfl ?_
      repeat refine cw_seq ?_
      refine cw_skip ?_
      try show CW _ _ _ _ _ _
      repeat refine cw_seq ?_
      refine cw_block ?_
      repeat refine cw_seq ?_
      refine cw_draw (C := fun wq => Gr w wq) [0, 1, 2, 3, 4, 5, 6, 7, 8, 9, 10, 11, 12, 13, 14, 15, 16, 17, 18, 19, 20, 21, 22, 23, 24, 25, 26, 27, 28, 29, 30, 31, 32, 33, 34, 35, 36, 37, 38, 39, 40, 41, 42, 43, 44, 45] [] (by kernel_rfl) (by kernel_rfl) (Gr.drew _) ?_
      simp only [pickL, List.drop_succ_cons, List.drop_zero]
      iterate 2 refine rq_v (op_pure rfl) ?_
      refine rq_v (op_idx Try.underlying52 Try.sizeOf59 rfl rfl sa_z (by omega) (by omega)) ?_
      refine rq_v (op_fld Try.underlying59 rfl Try.sizeOf2 rfl rfl sa_z) ?_
      refine rq_r (fun wq hq => op_ldR Try.underlying2 rfl rfl ((S.gr hq).rd (i := 0) rfl) g0) ?_
      iterate 2 refine rq_v (op_pure rfl) ?_
      refine rq_v (op_idx Try.underlying77 Try.sizeOf83 rfl rfl sa_pt (by omega) (by omega)) ?_
      refine rq_v (op_fld Try.underlying83 rfl Try.sizeOf2 rfl rfl sa_pt) ?_
      refine rq_r (fun wq hq => op_ldR Try.underlying2 rfl rfl ((S.gr hq).rd (i := 1) rfl) p0) ?_
      refine rq_v (op_b (b := false) rfl (bne_eq_false_iff_eq.2 (by omega))) ?_
      refine rq_v (op_pure rfl) ?_
      first | refine rq_off rfl ?_ | (refine rq_on rfl ?_; refine rq_v (op_pure rfl) ?_)
      first | refine rq_off rfl ?_ | (refine rq_on rfl ?_; refine rq_v (op_pure rfl) ?_)
      first | refine rq_off rfl ?_ | (refine rq_on rfl ?_; refine rq_v (op_idx Try.underlying52 Try.sizeOf59 rfl rfl sa_z (by omega) (by omega)) ?_)
      first | refine rq_off rfl ?_ | (refine rq_on rfl ?_; refine rq_v (op_fld Try.underlying59 rfl Try.sizeOf2 rfl rfl sa_z) ?_)
      first | refine rq_off rfl ?_ | (refine rq_on rfl ?_; refine rq_r (fun wq hq => op_ldR Try.underlying2 rfl rfl ((S.gr hq).rd (i := 0) rfl) g1) ?_)
      first | refine rq_off rfl ?_ | (refine rq_on rfl ?_; refine rq_v (op_pure rfl) ?_)
      first | refine rq_off rfl ?_ | (refine rq_on rfl ?_; refine rq_v (op_pure rfl) ?_)
      first | refine rq_off rfl ?_ | (refine rq_on rfl ?_; refine rq_v (op_idx Try.underlying77 Try.sizeOf83 rfl rfl sa_pt (by omega) (by omega)) ?_)
      first | refine rq_off rfl ?_ | (refine rq_on rfl ?_; refine rq_v (op_fld Try.underlying83 rfl Try.sizeOf2 rfl rfl sa_pt) ?_)
      first | refine rq_off rfl ?_ | (refine rq_on rfl ?_; refine rq_r (fun wq hq => op_ldR Try.underlying2 rfl rfl ((S.gr hq).rd (i := 1) rfl) p1) ?_)
      first | refine rq_off rfl ?_ | (refine rq_on rfl ?_; refine rq_v (op_b (b := false) rfl (bne_eq_false_iff_eq.2 (by omega))) ?_)
      iterate 2 refine rq_v (op_pure rfl) ?_
      first | refine rq_off rfl ?_ | (refine rq_on rfl ?_; refine rq_v (op_pure rfl) ?_)
      first | refine rq_off rfl ?_ | (refine rq_on rfl ?_; refine rq_v (op_pure rfl) ?_)
      first | refine rq_off rfl ?_ | (refine rq_on rfl ?_; refine rq_v (op_idx Try.underlying52 Try.sizeOf59 rfl rfl sa_z (by omega) (by omega)) ?_)
      first | refine rq_off rfl ?_ | (refine rq_on rfl ?_; refine rq_v (op_fld Try.underlying59 rfl Try.sizeOf39 rfl rfl sa_z) ?_)
      first | refine rq_off rfl ?_ | (refine rq_on rfl ?_; refine rq_r (fun wq hq => op_ldRA Try.underlying39 rfl (Try.sizeOf39 _) rfl ((S.gr hq).rd (i := 0) rfl) g5 rfl rfl) ?_)
      first | refine rq_off rfl ?_ | (refine rq_on rfl ?_; refine rq_v (op_pure rfl) ?_)
      first | refine rq_off rfl ?_ | (refine rq_on rfl ?_; refine rq_v (op_pure rfl) ?_)
      first | refine rq_off rfl ?_ | (refine rq_on rfl ?_; refine rq_v (op_idx Try.underlying77 Try.sizeOf83 rfl rfl sa_pt (by omega) (by omega)) ?_)
      first | refine rq_off rfl ?_ | (refine rq_on rfl ?_; refine rq_v (op_fld Try.underlying83 rfl Try.sizeOf39 rfl rfl sa_pt) ?_)
      first | refine rq_off rfl ?_ | (refine rq_on rfl ?_; refine rq_r (fun wq hq => op_ldRA Try.underlying39 rfl (Try.sizeOf39 _) rfl ((S.gr hq).rd (i := 1) rfl) p2 rfl rfl) ?_)
      refine rq_on rfl ?_
      refine rq_v (op_neCell (r := false) rfl rfl (by simp)) ?_
      iterate 2 refine rq_v (op_pure rfl) ?_
      first | refine rq_off rfl ?_ | (refine rq_on rfl ?_; refine rq_v (op_pure rfl) ?_)
      first | refine rq_off rfl ?_ | (refine rq_on rfl ?_; refine rq_v (op_pure rfl) ?_)
      first | refine rq_off rfl ?_ | (refine rq_on rfl ?_; refine rq_v (op_idx Try.underlying52 Try.sizeOf59 rfl rfl sa_z (by omega) (by omega)) ?_)
      first | refine rq_off rfl ?_ | (refine rq_on rfl ?_; refine rq_v (op_fld Try.underlying59 rfl Try.sizeOf2 rfl rfl sa_z) ?_)
      first | refine rq_off rfl ?_ | (refine rq_on rfl ?_; refine rq_r (fun wq hq => op_ldR Try.underlying2 rfl rfl ((S.gr hq).rd (i := 0) rfl) g3) ?_)
      first | refine rq_off rfl ?_ | (refine rq_on rfl ?_; refine rq_v (op_pure rfl) ?_)
      first | refine rq_off rfl ?_ | (refine rq_on rfl ?_; refine rq_v (op_b (b := false) rfl (decide_eq_false (by omega))) ?_)
      refine rq_v (op_pure rfl) ?_
      refine rq_nil ?_
      intro w10_ g10_
      have S := S.gr g10_
      first | refine rw_end ?_ | (refine rw_nil ?_; show CW _ _ _ _ _ _) | refine rw_nil ?_
      repeat refine cw_seq ?_
      refine cw_false rfl ?_
      repeat refine cw_seq ?_
      refine cw_skip ?_
      try show CW _ _ _ _ _ _
      repeat refine cw_seq ?_
      refine cw_region ?_
      refine rw_v (op_pure rfl) ?_
      refine rw_v (op_rng rfl (by omega)) ?_
      refine rw_v (op_pure rfl) ?_
      first | refine rw_end ?_ | (refine rw_nil ?_; show CW _ _ _ _ _ _) | refine rw_nil ?_
      exact ⟨m - 1, by omega, k + 1, by omega, ⟨rfl, rfl, rfl, ie (by omega), trivial⟩, S⟩
    · skip
      repeat refine cw_seq ?_
      refine cw_region ?_
      iterate 2 refine rw_v (op_pure rfl) ?_
      refine rw_v (op_len Try.underlying52 rfl) ?_
      refine rw_v (op_b (b := false) rfl (decide_eq_false (by omega))) ?_
      first | refine rw_end ?_ | (refine rw_nil ?_; show CW _ _ _ _ _ _) | refine rw_nil ?_
      repeat refine cw_seq ?_
      refine cw_false rfl ?_
      repeat refine cw_seq ?_
      refine cw_exit ?_
      repeat first | refine exit_then ?_ | refine exit_inb ?_
      show CW _ _ _ _ _ _
      repeat refine cw_seq ?_
      refine cw_region ?_
      refine rw_v (op_pure rfl) ?_
      first | refine rw_end ?_ | (refine rw_nil ?_; show CW _ _ _ _ _ _) | refine rw_nil ?_
      repeat refine cw_seq ?_
      refine cw_ret ?_
      repeat first | refine ret_then ?_ | refine ret_inb ?_
      exact res1 rfl ⟨rfl, S.out⟩
  · skip
    have G := Gr.refl W
    have S := St.start W
    refine Fn_enter Try.func10 rfl Try.results10 Try.ntmps10 (by kernel_rfl) (by kernel_rfl) ?_
    repeat refine cw_seq ?_
    refine cw_region ?_
    refine rw_v (op_pure rfl) ?_
    first | refine rw_end ?_ | (refine rw_nil ?_; show CW _ _ _ _ _ _) | refine rw_nil ?_
    repeat refine cw_seq ?_
    refine cw_region ?_
    refine rw_call rfl (awake49_E W) ?_
    rintro _ w1_ ⟨rfl, g1_⟩
    have S := S.gr g1_
    refine rw_v (op_pure rfl) ?_
    first | refine rw_end ?_ | (refine rw_nil ?_; show CW _ _ _ _ _ _) | refine rw_nil ?_
    repeat refine cw_seq ?_
    refine cw_false rfl ?_
    repeat refine cw_seq ?_
    refine cw_skip ?_
    try show CW _ _ _ _ _ _
    repeat refine cw_seq ?_
    refine cw_region ?_
    iterate 3 refine rw_v (op_pure rfl) ?_
    refine rw_call rfl (landNo_E w h 400 cap (by omega) hl hok (hA.gr S.out)) ?_
    rintro _ w2_ ⟨rfl, g2_⟩
    have S := S.gr g2_
    iterate 3 refine rw_v (op_pure rfl) ?_
    refine rw_newB (op_alloc Try.zeroValue25 rfl) S ?_
    intro b_b3 w4_ g4_ S
    refine rw_storeSA (i := 0) S rfl (Try.sizeOf25 _) rfl rfl rfl rfl rfl rfl ?_
    intro w5_ S
    refine rw_v (op_pure rfl) ?_
    first | refine rw_end ?_ | (refine rw_nil ?_; show CW _ _ _ _ _ _) | refine rw_nil ?_
    repeat refine cw_seq ?_
    refine cw_region ?_
    iterate 2 refine rw_v (op_pure rfl) ?_
    first | refine rw_end ?_ | (refine rw_nil ?_; show CW _ _ _ _ _ _) | refine rw_nil ?_
    repeat refine cw_seq ?_
    refine cw_true rfl ?_
    repeat refine cw_seq ?_
    refine cw_region ?_
    refine rw_v (op_pure rfl) ?_
    first | refine rw_end ?_ | (refine rw_nil ?_; show CW _ _ _ _ _ _) | refine rw_nil ?_
    repeat refine cw_seq ?_
    refine cw_ret ?_
    repeat first | refine ret_then ?_ | refine ret_inb ?_
    exact res1 rfl ⟨rfl, S.out⟩
end
end Go.Proofs.Yteihfmifelcidaa
/- What an argument reads stays what it was where all that was there stands as it was; a law's row out of that. -/
namespace Go.Proofs.Yteihfmifelcidaa
open Go.RowKit Go.WideShapes Go.ChangeShapes
set_option linter.unusedVariables false
set_option linter.unusedSimpArgs false

section
variable {H : Type} {enc : TypeId × Value → H} {P : Program} {w w' : World} {base : Nat} {sp : Nat → Bool} {held : Bool}
theorem cells_lt {a : Addr} {n : Nat} {l : List Value} (h : w.cells? base a n = some l) (hn : 0 < n) : a.block < w.heap.size := by
  unfold World.cells? at h
  split at h
  · obtain ⟨y, hy⟩ := mapM_each h 0 (List.mem_range.2 hn)
    rcases Nat.lt_or_ge a.block w.heap.size with h' | h'
    · exact h'
    · have e : a.add 0 = a := rfl
      rw [e] at hy
      simp [World.cell?, Array.getElem?_eq_none h'] at hy
  · cases h
theorem add_block (a : Addr) (k : Nat) : (a.add k).block = a.block := by unfold Addr.add; split <;> rfl
theorem cells_stay (hc : ∀ a v, w.cell? a = some v → w'.cell? a = some v) {a : Addr} {n : Nat} {l : List Value} (h : w.cells? base a n = some l) : w'.cells? base a n = some l := by
  unfold World.cells? at h ⊢
  split at h
  · rename_i hb
    rw [if_pos hb]
    exact mapM_mono (fun i y hy => hc _ _ hy) h
  · cases h
theorem bind_stay {α β : Type} {x x' : Option α} {f f' : α → Option β} {y : β} (hx : ∀ a, x = some a → x' = some a) (hf : ∀ a b, f a = some b → f' a = some b) (h : x.bind f = some y) : x'.bind f' = some y := by
  obtain ⟨a, h1, h2⟩ := Option.bind_eq_some_iff.1 h
  exact Option.bind_eq_some_iff.2 ⟨a, hx a h1, hf a y h2⟩
theorem map_stay {α β : Type} {x x' : Option α} {f : α → β} {y : β} (hx : ∀ a, x = some a → x' = some a) (h : x.map f = some y) : x'.map f = some y := by
  obtain ⟨a, h1, h2⟩ := Option.map_eq_some_iff.1 h
  exact Option.map_eq_some_iff.2 ⟨a, hx a h1, h2⟩
theorem mapM_mem {α β : Type} {f g : α → Option β} : ∀ {l : List α} {r : List β}, (∀ x ∈ l, ∀ y, f x = some y → g x = some y) → l.mapM f = some r → l.mapM g = some r
  | [], r, _, h => by simpa using h
  | x :: xs, r, hfg, h => by
    rw [List.mapM_cons] at h ⊢
    obtain ⟨a, ha, h2⟩ := Option.bind_eq_some_iff.1 h
    obtain ⟨b, hb, h3⟩ := Option.bind_eq_some_iff.1 h2
    exact Option.bind_eq_some_iff.2 ⟨a, hfg x (by simp) a ha, Option.bind_eq_some_iff.2 ⟨b, mapM_mem (fun z hz => hfg z (by simp [hz])) hb, h3⟩⟩
/-- Types of plain data: numbers, bools, strings, structs, arrays and slices of such. -/
def plainB (P : Program) : Nat → TypeId → Bool
  | 0, _ => false
  | n + 1, t => match P.underlying t with
    | some .bool => true
    | some (.int _) => true
    | some (.float _) => true
    | some .string => true
    | some (.slice e) => Nat.blt 0 (P.cellsOf e) && plainB P n e
    | some (.struct fs) => fs.toList.all fun f => plainB P n f.type
    | some (.array _ e) => plainB P n e
    | _ => false
def Plain (P : Program) (t : TypeId) : Prop := ∃ n, plainB P n t = true
theorem Plain.slice {t e : TypeId} (h : Plain P t) (hu : P.underlying t = some (.slice e)) : 0 < P.cellsOf e ∧ Plain P e := by
  obtain ⟨n, h⟩ := h
  cases n with
  | zero => cases h
  | succ n =>
    simp only [plainB, hu, Bool.and_eq_true] at h
    exact ⟨Nat.le_of_ble_eq_true h.1, n, h.2⟩
theorem Plain.struct {t : TypeId} {fs : Array Field} (h : Plain P t) (hu : P.underlying t = some (.struct fs)) {f : Field} (hf : f ∈ fs.toList) : Plain P f.type := by
  obtain ⟨n, h⟩ := h
  cases n with
  | zero => cases h
  | succ n =>
    simp only [plainB, hu] at h
    exact ⟨n, List.all_eq_true.1 h f hf⟩
theorem Plain.array {t e : TypeId} {m : Nat} (h : Plain P t) (hu : P.underlying t = some (.array m e)) : Plain P e := by
  obtain ⟨n, h⟩ := h
  cases n with
  | zero => cases h
  | succ n =>
    simp only [plainB, hu] at h
    exact ⟨n, h⟩
theorem Plain.noptr {t e : TypeId} (h : Plain P t) (hu : P.underlying t = some (.pointer e)) : False := by
  obtain ⟨n, h⟩ := h
  cases n with
  | zero => cases h
  | succ n => simp [plainB, hu] at h
theorem Plain.noiface {t : TypeId} {ms : Array (String × TypeId)} (h : Plain P t) (hu : P.underlying t = some (.interface ms)) : False := by
  obtain ⟨n, h⟩ := h
  cases n with
  | zero => cases h
  | succ n => simp [plainB, hu] at h
theorem Plain.nomap {t k e : TypeId} (h : Plain P t) (hu : P.underlying t = some (.map k e)) : False := by
  obtain ⟨n, h⟩ := h
  cases n with
  | zero => cases h
  | succ n => simp [plainB, hu] at h
theorem step_stay (hc : ∀ a v, w.cell? a = some v → w'.cell? a = some v) {r r' : TypeId → List Value → Option (DataW H × List MemPlace)}
    (hr : ∀ t, Plain P t → ∀ cs x, r t cs = some x → r' t cs = some x) (hsp : ∀ b, b < w.heap.size → sp b = true) {t : TypeId} (ht : Plain P t) {cs : List Value} {x : DataW H × List MemPlace} (h : DataW.trodStep enc P w base (fun _ => true) held r t cs = some x) : DataW.trodStep enc P w' base sp held r' t cs = some x := by
  unfold DataW.trodStep at h ⊢
  split at h
  case h_6 => rename_i heq; exact (ht.noptr heq).elim
  case h_8 =>
    rename_i e a len cap heq
    have hz := ht.slice heq
    dsimp only at h ⊢
    split at h
    · rename_i hb
      rw [if_pos hb]
      refine bind_stay (fun _ => mapM_mono (fun i y => bind_stay (fun _ => cells_stay hc) (fun _ _ => hr _ hz.2 _ _))) (fun elems z => map_stay (fun rest hrest => ?_)) h
      rw [if_pos rfl] at hrest
      by_cases hs : sp a.block = true
      · rw [if_pos hs]
        exact mapM_mono (fun j y => bind_stay (fun _ => cells_stay hc) (fun _ _ => hr _ hz.2 _ _)) hrest
      · rw [if_neg hs]
        by_cases hcl : cap - len = 0
        · rw [hcl] at hrest
          simpa using hrest
        · obtain ⟨y, hy⟩ := mapM_each hrest 0 (List.mem_range.2 (by omega))
          obtain ⟨l, hl, _⟩ := Option.bind_eq_some_iff.1 hy
          have := cells_lt hl hz.1
          rw [add_block] at this
          exact absurd (hsp _ this) hs
    · cases h
  case h_9 =>
    rename_i heq
    split at h
    · rename_i hb
      rw [if_pos hb]
      exact map_stay (fun _ => mapM_mem (fun f hf y => hr _ (ht.struct heq hf) _ _)) h
    · cases h
  case h_10 =>
    rename_i heq
    split at h
    · rename_i hb
      rw [if_pos hb]
      exact map_stay (fun _ => mapM_mono (fun f y => hr _ (ht.array heq) _ _)) h
    · cases h
  case h_12 => rename_i heq; exact (ht.noiface heq).elim
  case h_14 => rename_i heq; exact (ht.nomap heq).elim
  all_goals first | exact h | (cases h; done)
theorem trod_stay_ (hc : ∀ a v, w.cell? a = some v → w'.cell? a = some v) (hsp : ∀ b, b < w.heap.size → sp b = true) :
    ∀ (n : Nat) (t : TypeId), Plain P t → ∀ (cs : List Value) (x : DataW H × List MemPlace), DataW.trod enc P w base (fun _ => true) held n t cs = some x → DataW.trod enc P w' base sp held n t cs = some x
  | 0, t, _, cs, x, h => by simp [DataW.trod] at h
  | n + 1, t, ht, cs, x, h => step_stay hc (trod_stay_ hc hsp n) hsp ht h
theorem Gr.cells {W W' : World} (g : Gr W W') (a : Addr) (v : Value) (h : W.cell? a = some v) : W'.cell? a = some v := by
  have hlt : a.block < W.heap.size := by
    rcases Nat.lt_or_ge a.block W.heap.size with h' | h'
    · exact h'
    · simp [World.cell?, Array.getElem?_eq_none h'] at h
  rw [World.cell?_of_block (g.block _ hlt)]
  exact h
theorem trodAll_gr {W W' : World} (g : Gr W W') (hsp : ∀ b, b < W.heap.size → sp b = true) : ∀ {ts : List TypeId} {vs : List Value} {ds : List (DataW H)} {p : List MemPlace}, (∀ t ∈ ts, Plain P t) → DataW.TrodAll enc P W base (fun _ => true) held ts vs ds p → DataW.TrodAll enc P W' base sp held ts vs ds p
  | [], vs, ds, p, _, h => by cases vs <;> cases ds <;> first | exact h | cases h
  | t :: ts, vs, ds, p, ht, h => by
    obtain ⟨v, vs', d, ds', p, q, rfl, rfl, rfl, ⟨f, h1⟩, h2⟩ := trodAll_cons h
    exact trodAll_cons_mk ⟨f, trod_stay_ g.cells hsp f _ (ht t (by simp)) _ _ h1⟩ (trodAll_gr g hsp (fun t h => ht t (by simp [h])) h2)
theorem plain_all {ts : List TypeId} (h : (ts.all fun t => plainB P 8 t) = true) : ∀ t ∈ ts, Plain P t := fun t ht => ⟨8, List.all_eq_true.1 h t ht⟩
/-- A law that answers true and leaves what was there as it was. -/
theorem post_of_gr {f : Func} {s : ChangeSpec} {apart fresh handsOn again : Bool} {W W' : World} {args : Array Value} {v : Value} {ds gs : List (DataW H)} {before : List MemPlace} (hz : ∀ t ∈ f.params.toList, Plain P t)
    (hW : DataW.Whole enc P f.params.toList s.vars apart W args.toList ds gs before) (hv : s.vars = []) (hg : Gr W W') (ha : (s.fn H (ds ++ gs)).args = ds) (hvs : (s.fn H (ds ++ gs)).vars = [])
    (hres : ∀ (b : Nat) (sp : Nat → Bool) (hd : Bool), DataW.TrodAll enc P W' b sp hd f.resultTypes.toList (v.resultList f.resultTypes.size) (s.fn H (ds ++ gs)).results [])
    (hok : ∀ (j : Nat) (t : TypeId) (r : Value), f.resultTypes[j]? = some t → (v.resultList f.resultTypes.size)[j]? = some r → Value.okWide P W' .any 0 t r) :
    s.post enc P f apart fresh handsOn again W args v W' := by
  have hW' := hW
  obtain ⟨p, q, hA, hV, rfl, hfz, hnd⟩ := hW
  rw [hv] at hV
  obtain ⟨rfl, rfl⟩ := trodVars_none hV
  have hlt : ∀ x ∈ p ++ [], x.block < W.heap.size := fun x hx => hW'.lt x hx
  have hold : ∀ b, b < W.heap.size → (fun b => decide (b < W.heap.size)) b = true := fun b hb => by simpa using hb
  have h1 : ∀ sp : Nat → Bool, (∀ b, b < W.heap.size → sp b = true) → DataW.TrodAll enc P W' 0 sp true f.params.toList args.toList (s.fn H (ds ++ [])).args p := fun sp hsp => by rw [ha]; exact trodAll_gr hg hsp hz hA
  have hvr : ∀ sp : Nat → Bool, DataW.TrodVars enc P W' sp s.vars (s.fn H (ds ++ [])).vars [] := fun sp => by rw [hv, hvs]; rfl
  refine ⟨ds, [], p ++ [], [], p, [], hW', hres _ _ _, h1 _ hold, hvr _, World.keptBut_mono (fun x hx => ⟨hx, ?_⟩) (hg.frame (· ∈ p ++ [])), fun _ => ?_⟩
  · rw [List.mem_append] at hx
    exact Or.inr hx
  · refine ⟨hok, _, _, ([] ++ p) ++ [], ⟨[] ++ p, [], trodAll_append (h1 _ (fun _ _ => rfl)) (hres _ _ _), hvr _, rfl, ?_, ?_⟩, ?_⟩
    · intro b off hp
      have hin : MemPlace.cell b off ∈ p ++ [] := by simpa using hp
      rw [Below.frozen hg (hlt _ hin)]
      exact hfz b off hin
    · intro hap
      have := hnd hap
      simpa using this
    · intro x hp _
      simpa using hp
end
end Go.Proofs.Yteihfmifelcidaa
/- Arguments, opened: numbers, lists of numbers, cells, rectangles. -/
namespace Go.Proofs.Yteihfmifelcidaa.args
open Go.ChangeShapes Go.WideShapes Go.ChangeAt Go.RowKit Go.Joins
set_option linter.unusedVariables false
set_option linter.unusedSimpArgs false
set_option maxRecDepth 100000

theorem ints_of {H : Type} {enc : TypeId × Value → H} {W : World} {base : Nat} {held : Bool} {fuel : Nat} {v : Value} {x : DataW H × List MemPlace} (h : DataW.trod enc Try.prog W base (fun _ => true) held fuel 22 [v] = some x) :
    ∃ A c xs, v = .slice A xs.length c ∧ xs.length ≤ 9223372036854775807 ∧ (∀ b ∈ xs, -9223372036854775808 ≤ b ∧ b ≤ 9223372036854775807) ∧ Rd W A (ints xs) := by
  rcases open_ints Try.underlying22 Try.underlying2 (by kernel_rfl) h with ⟨h1, _⟩ | ⟨a, len, cap, zs, h1, _, hl, hmx, hz, _, hc, hw⟩
  · injection h1 with h1
    subst h1
    exact ⟨_, _, [], rfl, by simp, (by intro b hb; cases hb), .inl rfl⟩
  · injection h1 with h1
    subst h1
    rw [if_pos rfl] at hz
    have hlen : (zs.take len).length = len := by simp; omega
    refine ⟨some a, cap, zs.take len, by rw [hlen], by rw [hlen]; unfold maxLen at hmx; omega, fun b hb => ?_, ?_⟩
    · have := hw b (List.mem_of_mem_take hb)
      simpa [Lit.wf, IntKind.min, IntKind.max, IntKind.signed, IntKind.bits] using this
    · by_cases h0 : len = 0
      · subst h0; exact .inl rfl
      · have hc0 := hc 0 (by omega)
        have e0 : a.add 0 = a := rfl
        rw [e0] at hc0
        have hlt : a.block < W.heap.size := by
          rcases Nat.lt_or_ge a.block W.heap.size with h' | h'
          · exact h'
          · simp [World.cell?, Array.getElem?_eq_none h'] at hc0
        have hsp : a.spot = none := by
          unfold World.cell? at hc0
          split at hc0
          · split at hc0
            · cases hc0
            · rename_i h; simpa using h
          · cases hc0
        obtain ⟨b, o, sp⟩ := a
        dsimp only at hsp hlt
        subst hsp
        refine .inr ⟨b, o, rfl, hlt, fun j v hj => ?_⟩
        have h3 : j < (ints (zs.take len)).length := (List.getElem?_eq_some_iff.1 hj).1
        rw [ints_len, hlen] at h3
        have h4 := hc j (by omega)
        rw [addr_add] at h4
        rw [h4, ← hj, ints, List.getElem?_map, List.getElem?_take, if_pos (by omega), List.getD_eq_getElem?_getD, List.getElem?_eq_getElem (by omega)]
        rfl
theorem list_of {H : Type} {enc : TypeId × Value → H} {W : World} {base : Nat} {held : Bool} {v : Value} {d : DataW H} {p : List MemPlace} (hv : Value.okWide Try.prog W .any base 22 v) (h : DataW.Trod enc Try.prog W 0 (fun _ => true) held 22 v d p) :
    ∃ A c xs, v = .slice A xs.length c ∧ xs.length ≤ 9223372036854775807 ∧ (∀ b ∈ xs, -9223372036854775808 ≤ b ∧ b ≤ 9223372036854775807) ∧ Rd W A (ints xs) := by
  obtain ⟨A, n, c, rfl⟩ := okWide_slice Try.underlying22 hv
  obtain ⟨f, t⟩ := h
  exact ints_of t
theorem num_of {H : Type} {enc : TypeId × Value → H} {W : World} {base : Nat} {held : Bool} {v : Value} {d : DataW H} {p : List MemPlace} {t : TypeId} (ht : Try.prog.underlying t = some (.int .i64)) (hv : Value.okWide Try.prog W .any base t v) (h : DataW.Trod enc Try.prog W 0 (fun _ => true) held t v d p) :
    ∃ n : Int, v = .int .i64 n ∧ -9223372036854775808 ≤ n ∧ n ≤ 9223372036854775807 := by
  obtain ⟨n, rfl, _, _, w⟩ := open_int ht hv h
  have : -9223372036854775808 ≤ n ∧ n ≤ 9223372036854775807 := by simpa [Lit.wf, IntKind.min, IntKind.max, IntKind.signed, IntKind.bits] using w
  exact ⟨n, rfl, this.1, this.2⟩

/-! ### Cells, rectangles -/
def i64B (n : Int) : Prop := -9223372036854775808 ≤ n ∧ n ≤ 9223372036854775807
theorem cell_of {H : Type} {enc : TypeId × Value → H} {W : World} {base : Nat} {held : Bool} {v : Value} {d : DataW H} {p : List MemPlace} (hv : Value.okWide Try.prog W .any base 39 v) (h : DataW.Trod enc Try.prog W 0 (fun _ => true) held 39 v d p) :
    ∃ x y : Int, v = .agg #[.int .i64 x, .int .i64 y] ∧ i64B x ∧ i64B y := by
  obtain ⟨u0, u1, y0, y1, n, rfl, _, _, t0, t1⟩ := open_agg2 Try.underlying39 (by kernel_rfl) (by kernel_rfl) hv h
  obtain ⟨a, e0, _, w0⟩ := DataW.trod_int Try.underlying2 t0
  obtain ⟨b, e1, _, w1⟩ := DataW.trod_int Try.underlying2 t1
  injection e0 with e0; injection e1 with e1
  subst e0; subst e1
  exact ⟨a, b, rfl, by simpa [i64B, Lit.wf, IntKind.min, IntKind.max, IntKind.signed, IntKind.bits] using w0, by simpa [i64B, Lit.wf, IntKind.min, IntKind.max, IntKind.signed, IntKind.bits] using w1⟩
theorem rect_of {H : Type} {enc : TypeId × Value → H} {W : World} {base : Nat} {held : Bool} {v : Value} {d : DataW H} {p : List MemPlace} (hv : Value.okWide Try.prog W .any base 81 v) (h : DataW.Trod enc Try.prog W 0 (fun _ => true) held 81 v d p) :
    ∃ x0 y0 x1 y1 : Int, v = .agg #[.int .i64 x0, .int .i64 y0, .int .i64 x1, .int .i64 y1] ∧ i64B x0 ∧ i64B y0 ∧ i64B x1 ∧ i64B y1 := by
  obtain ⟨u0, u1, u2, u3, y0, y1, y2, y3, n, rfl, _, _, t0, t1, t2, t3⟩ := open_agg4 Try.underlying81 (by kernel_rfl) (by kernel_rfl) hv h
  obtain ⟨a, e0, _, w0⟩ := DataW.trod_int Try.underlying2 t0
  obtain ⟨b, e1, _, w1⟩ := DataW.trod_int Try.underlying2 t1
  obtain ⟨c, e2, _, w2⟩ := DataW.trod_int Try.underlying2 t2
  obtain ⟨f, e3, _, w3⟩ := DataW.trod_int Try.underlying2 t3
  injection e0 with e0; injection e1 with e1; injection e2 with e2; injection e3 with e3
  subst e0; subst e1; subst e2; subst e3
  exact ⟨a, b, c, f, rfl, by simpa [i64B, Lit.wf, IntKind.min, IntKind.max, IntKind.signed, IntKind.bits] using w0, by simpa [i64B, Lit.wf, IntKind.min, IntKind.max, IntKind.signed, IntKind.bits] using w1,
    by simpa [i64B, Lit.wf, IntKind.min, IntKind.max, IntKind.signed, IntKind.bits] using w2, by simpa [i64B, Lit.wf, IntKind.min, IntKind.max, IntKind.signed, IntKind.bits] using w3⟩
theorem zone_of {H : Type} {enc : TypeId × Value → H} {W : World} {base : Nat} {held : Bool} {v : Value} {d : DataW H} {p : List MemPlace} (hv : Value.okWide Try.prog W .any base 59 v) (h : DataW.Trod enc Try.prog W 0 (fun _ => true) held 59 v d p) :
    ∃ a b c x y z u : Int, v = .agg #[.int .i64 a, .int .i64 b, .int .i64 c, .int .i64 x, .int .i64 y, .int .i64 z, .int .i64 u] ∧ i64B c := by
  obtain ⟨cs, rfl, hsz⟩ := okWide_struct Try.underlying59 hv
  have hC : Try.prog.cellsOf 59 = 7 := by kernel_rfl
  have h1 : Try.prog.cellsOf 2 = 1 := by kernel_rfl
  have h2 : Try.prog.cellsOf 39 = 2 := by kernel_rfl
  rw [hC] at hsz
  obtain ⟨l⟩ := cs
  match l, hsz with
  | [c0, c1, c2, c3, c4, c5, c6], _ =>
    obtain ⟨fuel, hf⟩ := h
    obtain ⟨xs, n, _, _, _, hlen, hF⟩ := DataW.trod_struct Try.underlying59 hf
    have get : ∀ i, i < 6 → ∃ y, xs[i]? = some y := fun i hi => ⟨_, List.getElem?_eq_getElem (by rw [hlen]; exact hi)⟩
    have f0 : DataW.trod enc Try.prog W 0 (fun _ => true) held n 2 (([c0, c1, c2, c3, c4, c5, c6].drop 0).take (Try.prog.cellsOf 2)) = xs[0]? := hF 0 _ rfl
    have f1 : DataW.trod enc Try.prog W 0 (fun _ => true) held n 2 (([c0, c1, c2, c3, c4, c5, c6].drop 1).take (Try.prog.cellsOf 2)) = xs[1]? := hF 1 _ rfl
    have f2 : DataW.trod enc Try.prog W 0 (fun _ => true) held n 2 (([c0, c1, c2, c3, c4, c5, c6].drop 2).take (Try.prog.cellsOf 2)) = xs[2]? := hF 2 _ rfl
    have f3 : DataW.trod enc Try.prog W 0 (fun _ => true) held n 2 (([c0, c1, c2, c3, c4, c5, c6].drop 3).take (Try.prog.cellsOf 2)) = xs[3]? := hF 3 _ rfl
    have f4 : DataW.trod enc Try.prog W 0 (fun _ => true) held n 2 (([c0, c1, c2, c3, c4, c5, c6].drop 4).take (Try.prog.cellsOf 2)) = xs[4]? := hF 4 _ rfl
    have f5 : DataW.trod enc Try.prog W 0 (fun _ => true) held n 39 (([c0, c1, c2, c3, c4, c5, c6].drop 5).take (Try.prog.cellsOf 39)) = xs[5]? := hF 5 _ rfl
    obtain ⟨y0, e0⟩ := get 0 (by omega)
    obtain ⟨y1, e1⟩ := get 1 (by omega)
    obtain ⟨y2, e2⟩ := get 2 (by omega)
    obtain ⟨y3, e3⟩ := get 3 (by omega)
    obtain ⟨y4, e4⟩ := get 4 (by omega)
    obtain ⟨y5, e5⟩ := get 5 (by omega)
    rw [e0] at f0; rw [e1] at f1; rw [e2] at f2; rw [e3] at f3; rw [e4] at f4; rw [e5] at f5
    rw [h1] at f0 f1 f2 f3 f4
    rw [h2] at f5
    obtain ⟨g0, g1, k, _, _, t5, t6⟩ := trod_struct2 Try.underlying39 f5
    replace t5 : DataW.trod enc Try.prog W 0 (fun _ => true) held k 2 (((([c0, c1, c2, c3, c4, c5, c6].drop 5).take 2).drop 0).take (Try.prog.cellsOf 2)) = some g0 := t5
    replace t6 : DataW.trod enc Try.prog W 0 (fun _ => true) held k 2 (((([c0, c1, c2, c3, c4, c5, c6].drop 5).take 2).drop 1).take (Try.prog.cellsOf 2)) = some g1 := t6
    rw [h1] at t5 t6
    obtain ⟨a, r0, _, w0⟩ := DataW.trod_int Try.underlying2 f0
    obtain ⟨b, r1, _, w1⟩ := DataW.trod_int Try.underlying2 f1
    obtain ⟨c, r2, _, w2⟩ := DataW.trod_int Try.underlying2 f2
    obtain ⟨x, r3, _, w3⟩ := DataW.trod_int Try.underlying2 f3
    obtain ⟨y, r4, _, w4⟩ := DataW.trod_int Try.underlying2 f4
    obtain ⟨z, r5, _, w5⟩ := DataW.trod_int Try.underlying2 t5
    obtain ⟨u, r6, _, w6⟩ := DataW.trod_int Try.underlying2 t6
    simp at r0 r1 r2 r3 r4 r5 r6
    subst r0 r1 r2 r3 r4 r5 r6
    exact ⟨a, b, c, x, y, z, u, rfl, by simpa [i64B, Lit.wf, IntKind.min, IntKind.max, IntKind.signed, IntKind.bits] using w2⟩
end Go.Proofs.Yteihfmifelcidaa.args
