/- hachurelaw46.PeaksOf: the walk. -/
import Derived.Test.YtiidmiebckkloaaPP
import Derived.Test.YtiidmiebckkloaaRows
import Derived.WalkKit
import Derived.ProofKit
import Derived.OpenShut
import Derived.Below
import Derived.ChangeSame
import Derived.ChangeReads
import Derived.DataReads
import Derived.Lib.SmallJoins
import Derived.Test.YtiidmiebckkloaaPA
import Derived.Test.YtiidmiebckkloaaPE
namespace Go.Proofs.Ytiidmiebckkloaa
open Go.RowKit
set_option linter.unusedVariables false
set_option linter.unusedSimpArgs false
set_option maxRecDepth 100000

theorem flat_dtP {gw : Nat} {L : List Pk} {i : Nat} (h : i < L.length) : ((L.flatMap (encPk gw)).drop ((i : Int).toNat * 5)).take 5 = encPk gw (L.getD i default) := by
  rw [Int.toNat_natCast]
  exact flatMap_one (f := encPk gw) (l := L) (k := i) (fun _ => rfl) (by rw [List.getD_eq_getElem?_getD, List.getElem?_eq_getElem h]; rfl)
section
variable {W : World} {A : Option Addr} {V : List Int}
set_option maxHeartbeats 8000000 in
theorem peaksOf_E (w h : Int) (cap : Nat) (rise : Int) (hl : V.length ≤ 9223372036854775807) (hA : Rd W A (ints V)) :
    Fn Try.prog 5 [.int .i64 w, .int .i64 h, .slice A V.length cap, .int .i64 rise] W (RetG (.bool true) W) := by
  by_cases hok : LandOk w h V 60
  · obtain ⟨gw, rfl⟩ := Int.eq_ofNat_of_zero_le (show 0 ≤ w by have := hok.w1; omega)
    obtain ⟨gh, rfl⟩ := Int.eq_ofNat_of_zero_le (show 0 ≤ h by have := hok.h1; omega)
    have hw : 1 ≤ gw ∧ gw ≤ 1024 := by have := hok.w1; have := hok.wm; omega
    have hh : 1 ≤ gh ∧ gh ≤ 1024 := by have := hok.h1; have := hok.hm; omega
    have hmi : (gw : Int) * gh = ((gw * gh : Nat) : Int) := by push_cast; rfl
    have hVg : V.length = gw * gh := by have := hok.len; rw [hmi] at this; omega
    have hm : gw * gh ≤ 60 := by have := hok.area; rw [hmi] at this; omega
    have hmay := hok.may
    have hGl := gridL_made hVg
    have hbd := pmay_bnd hmay
    have hof := fun (p : Nat) (B2 : Option Addr) (bc : Nat) (bs : Nat → Nat) (Rs : Nat → Option Nat) (w : World) (hG : GridAt w p gw gh (fun i => V.getD i 0) B2 bc bs Rs) => pof_E (W := w) (by rw [hGl]; exact hbd) hG
    have hov := fun (p : Nat) (B2 : Option Addr) (bc : Nat) (bs : Nat → Nat) (Rs : Nat → Option Nat) (w : World) (hG : GridAt w p gw gh (fun i => V.getD i 0) B2 bc bs Rs) => pover_E (W := w) rise (by rw [hGl]; exact hbd) hG
    rw [hGl] at hof hov
    have href := fun w h => rpeaks_E (W := w) (A := A) (cap := cap) hw hh hVg hbd h
    have hLl : (peaksL gw V).length ≤ 1048576 := by
      unfold peaksL
      rw [List.length_map]
      have := headsN_len gw V V.length
      omega
    generalize peaksL gw V = L at *
    have hmd : modV gw gh A V.length cap = .agg #[.int .i64 gw, .int .i64 gh, .slice A V.length cap] := rfl
    rw [hmd] at href
    have G := Gr.refl W
    have S := St.start W
    refine Fn_enter Try.func5 rfl Try.results5 Try.ntmps5 (by kernel_rfl) (by kernel_rfl) ?_
    repeat refine cw_seq ?_
    refine cw_region ?_
    refine rw_v (op_pure rfl) ?_
    first | refine rw_end ?_ | (refine rw_nil ?_; show CW _ _ _ _ _ _) | refine rw_nil ?_
    repeat refine cw_seq ?_
    refine cw_region ?_
    refine rw_call rfl (awake46_E W) ?_
    rintro _ w1_ ⟨rfl, g1_⟩
    have S := S.gr g1_
    refine rw_v (op_pure rfl) ?_
    first | refine rw_end ?_ | (refine rw_nil ?_; show CW _ _ _ _ _ _) | refine rw_nil ?_
    repeat refine cw_seq ?_
    refine cw_false rfl ?_
    repeat refine cw_seq ?_
    refine cw_skip ?_
    try show CW _ _ _ _ _ _
    repeat refine cw_seq ?_
    refine cw_region ?_
    iterate 3 refine rw_v (op_pure rfl) ?_
    refine rw_call rfl (land_E gw gh 60 cap (by omega) hok (hA.gr S.out)) ?_
    rintro _ w2_ ⟨rfl, g2_⟩
    have S := S.gr g2_
    iterate 3 refine rw_v (op_pure rfl) ?_
    refine rw_newB (op_alloc Try.zeroValue32 rfl) S ?_
    intro b_md w4_ g4_ S
    refine rw_storeSA (i := 0) S rfl (Try.sizeOf32 _) rfl rfl rfl rfl rfl rfl ?_
    intro w5_ S
    refine rw_v (op_pure rfl) ?_
    first | refine rw_end ?_ | (refine rw_nil ?_; show CW _ _ _ _ _ _) | refine rw_nil ?_
    repeat refine cw_seq ?_
    refine cw_region ?_
    iterate 2 refine rw_v (op_pure rfl) ?_
    first | refine rw_end ?_ | (refine rw_nil ?_; show CW _ _ _ _ _ _) | refine rw_nil ?_
    repeat refine cw_seq ?_
    refine cw_false rfl ?_
    repeat refine cw_seq ?_
    refine cw_skip ?_
    try show CW _ _ _ _ _ _
    repeat refine cw_seq ?_
    refine cw_region ?_
    iterate 3 refine rw_v (op_pure rfl) ?_
    refine rw_call rfl (made_E gw gh cap hw hh hVg hmay (hA.gr S.out)) ?_
    rintro _ w6_ ⟨p, B2, bc, bs, Rs, rfl, hG, hf, g6_⟩
    have S := S.pushGrid hG hf g6_
    iterate 5 refine rw_v (op_pure rfl) ?_
    first | refine rw_end ?_ | (refine rw_nil ?_; show CW _ _ _ _ _ _) | refine rw_nil ?_
    repeat refine cw_seq ?_
    refine cw_region ?_
    iterate 2 refine rw_v (op_pure rfl) ?_
    first | refine rw_end ?_ | (refine rw_nil ?_; show CW _ _ _ _ _ _) | refine rw_nil ?_
    repeat refine cw_seq ?_
    refine cw_false rfl ?_
    repeat refine cw_seq ?_
    refine cw_skip ?_
    try show CW _ _ _ _ _ _
    repeat refine cw_seq ?_
    refine cw_region ?_
    refine rw_v (op_pure rfl) ?_
    refine rw_call rfl (hof p B2 bc bs Rs w6_ (S.grid (i := 0) rfl)) ?_
    rintro _ w7_ ⟨A_al, c_al, rfl, hR_al, hf_al, g7_⟩
    have S := S.pushRow hR_al hf_al g7_
    iterate 5 refine rw_v (op_pure rfl) ?_
    first | refine rw_end ?_ | (refine rw_nil ?_; show CW _ _ _ _ _ _) | refine rw_nil ?_
    repeat refine cw_seq ?_
    refine cw_region ?_
    iterate 2 refine rw_v (op_pure rfl) ?_
    refine rw_call rfl (hov p B2 bc bs Rs w7_ (S.grid (i := 1) rfl)) ?_
    rintro _ w8_ ⟨A_ov, c_ov, rfl, hR_ov, hf_ov, g8_⟩
    have S := S.pushRow hR_ov hf_ov g8_
    iterate 5 refine rw_v (op_pure rfl) ?_
    first | refine rw_end ?_ | (refine rw_nil ?_; show CW _ _ _ _ _ _) | refine rw_nil ?_
    repeat refine cw_seq ?_
    refine cw_region ?_
    refine rw_r (op_loadAB Try.underlying32 rfl (Try.sizeOf32 _) rfl (S.blk (i := 3) rfl) rfl rfl) ?_
    refine rw_call rfl (href w8_ (hA.gr (G.trans S.out))) ?_
    rintro _ w9_ ⟨A_wa, c_wa, rfl, hR_wa, hf_wa, g9_⟩
    have S := S.pushRow hR_wa hf_wa g9_
    refine rw_v (op_pure rfl) ?_
    first | refine rw_end ?_ | (refine rw_nil ?_; show CW _ _ _ _ _ _) | refine rw_nil ?_
    repeat refine cw_seq ?_
    refine cw_region ?_
    refine rw_buildS0 Try.underlying44 Try.sizeOf46 S ?_
    intro A_z w11_ g11_ S sa_z
    refine rw_v (op_pure rfl) ?_
    first | refine rw_end ?_ | (refine rw_nil ?_; show CW _ _ _ _ _ _) | refine rw_nil ?_
    repeat refine cw_seq ?_
    refine cw_region ?_
    refine rw_v (op_pure rfl) ?_
    first | refine rw_end ?_ | (refine rw_nil ?_; show CW _ _ _ _ _ _) | refine rw_nil ?_
    repeat refine cw_seq ?_
    refine cw_block ?_
    repeat refine cw_seq ?_
    have hflt : ∀ i, i < L.length → (L.take (i + 1)).filter (fun x : Pk => decide (rise ≤ x.rz)) = (L.take i).filter (fun x : Pk => decide (rise ≤ x.rz)) ++ if rise ≤ (L.getD i default).rz then [L.getD i default] else [] := fun i hi => by
      have e1 : L[i]? = some (L.getD i default) := by rw [List.getD_eq_getElem?_getD, List.getElem?_eq_getElem hi]; rfl
      rw [List.take_add_one, List.filter_append, e1]
      generalize L.getD i default = y
      congr 1
      by_cases hr : rise ≤ y.rz
      · simp [hr]
      · simp [hr]
    refine cw_loop (fun m e w => ∃ (i : Nat) (A2 : Option Addr) (c2 : Nat), i + m = L.length ∧ SL e [(12, .slice A_al L.length c_al), (13, .int .i64 0), (14, .slice A_ov (L.filter fun x : Pk => decide (rise ≤ x.rz)).length c_ov), (15, .int .i64 0), (16, .slice A_wa L.length c_wa), (17, .slice A2 ((L.take i).filter fun x : Pk => decide (rise ≤ x.rz)).length c2), (18, .int .i64 i), (3, .int .i64 rise)] ∧
      St No W w [.row 46 5 A2 ((L.take i).filter fun x : Pk => decide (rise ≤ x.rz)).length c2 (((L.take i).filter fun x : Pk => decide (rise ≤ x.rz)).flatMap (encPk gw)), .row 46 5 A_wa L.length c_wa (L.flatMap (encPk gw)), .row 42 5 A_ov (L.filter fun x : Pk => decide (rise ≤ x.rz)).length c_ov ((L.filter fun x : Pk => decide (rise ≤ x.rz)).flatMap (encPk gw)), .row 42 5 A_al L.length c_al (L.flatMap (encPk gw)), .grid p gw gh (fun i => V.getD i 0) B2 bc bs Rs, .blk b_md 32 [.int .i64 gw, .int .i64 gh, .slice A V.length cap]]) L.length
      ⟨0, A_z, 0, by omega, ⟨rfl, rfl, rfl, rfl, rfl, rfl, rfl, rfl, trivial⟩, S⟩ ?_
    clear S
    rintro m e w ⟨i, A2, c2, hi, hsl, S⟩
    rw [hsl.fold]
    by_cases hin : i < L.length
    · have hfl := hflt i hin
      have g4 := pkT_get (gw := gw) hin 4 (by omega)
      have g4' : (L.flatMap (encPk gw))[(i : Int).toNat * 5 + 4]? = some (.int .i64 (L.getD i default).rz) := g4
      have gw5 : ((L.flatMap (encPk gw)).drop ((i : Int).toNat * 5)).take 5 = encPk gw (L.getD i default) := flat_dtP hin
      have sa_wa : SomeA A_wa := (S.row (i := 1) rfl).someA (by omega)
      have hle : ((L.take i).filter fun x : Pk => decide (rise ≤ x.rz)).length ≤ 1048576 := by
        have := List.length_filter_le (fun x : Pk => decide (rise ≤ x.rz)) (L.take i)
        rw [List.length_take] at this
        omega
      by_cases hr : rise ≤ (L.getD i default).rz
      · rw [if_pos hr] at hfl
        repeat refine cw_seq ?_
        refine cw_region ?_
        iterate 2 refine rw_v (op_pure rfl) ?_
        refine rw_v (op_len Try.underlying44 rfl) ?_
        refine rw_v (op_b (b := true) rfl (decide_eq_true (by omega))) ?_
        first | refine rw_end ?_ | (refine rw_nil ?_; show CW _ _ _ _ _ _) | refine rw_nil ?_
        repeat refine cw_seq ?_
        refine cw_true rfl ?_
        repeat refine cw_seq ?_
        refine cw_skip ?_
        try show CW _ _ _ _ _ _
        repeat refine cw_seq ?_
        refine cw_block ?_
        repeat refine cw_seq ?_
        refine cw_region ?_
        iterate 2 refine rw_v (op_pure rfl) ?_
        refine rw_v (op_idx Try.underlying44 Try.sizeOf46 rfl rfl sa_wa (by omega) (by omega)) ?_
        refine rw_v (op_fld Try.underlying46 rfl Try.sizeOf2 rfl rfl sa_wa) ?_
        refine rw_r (op_ldR Try.underlying2 rfl rfl (S.rd (i := 1) rfl) g4') ?_
        refine rw_v (op_pure rfl) ?_
        refine rw_v (op_b (b := true) rfl (decide_eq_true (by omega))) ?_
        first | refine rw_end ?_ | (refine rw_nil ?_; show CW _ _ _ _ _ _) | refine rw_nil ?_
        repeat refine cw_seq ?_
        refine cw_true rfl ?_
        repeat refine cw_seq ?_
        refine cw_region ?_
        iterate 3 refine rw_v (op_pure rfl) ?_
        refine rw_v (op_idx Try.underlying44 Try.sizeOf46 rfl rfl sa_wa (by omega) (by omega)) ?_
        refine rw_r (op_ldRA Try.underlying46 rfl (Try.sizeOf46 _) rfl (S.rd (i := 1) rfl) gw5 rfl rfl) ?_
        refine rw_buildS Try.underlying44 Try.sizeOf46 Try.zeroValue46 rfl rfl rfl rfl rfl rfl S ?_
        intro A_a5 w13_ g13_ S sa_a5
        refine rw_appS (i := 1) S rfl (fun h => rfl) Try.underlying44 info_t46 rfl rfl rfl rfl (by simp) (by omega) (S.rd (i := 0) rfl) rfl (by omega) ?_
        intro A_a6 c_a6 w14_ S sa_ou
        refine rw_v (op_pure rfl) ?_
        first | refine rw_end ?_ | (refine rw_nil ?_; show CW _ _ _ _ _ _) | refine rw_nil ?_
        repeat refine cw_seq ?_
        refine cw_region ?_
        refine rw_v (op_pure rfl) ?_
        refine rw_v (op_rng rfl (by omega)) ?_
        refine rw_v (op_pure rfl) ?_
        first | refine rw_end ?_ | (refine rw_nil ?_; show CW _ _ _ _ _ _) | refine rw_nil ?_
        have S := S.sub (.cons _ (.cons_cons _ (.cons_cons _ (.cons_cons _ (.cons_cons _ (.cons_cons _ (.cons_cons _ (.slnil))))))))
        have e2 : ((L.take i).filter fun x : Pk => decide (rise ≤ x.rz)).length + 1 = ((L.take (i + 1)).filter fun x : Pk => decide (rise ≤ x.rz)).length := by rw [hfl]; simp
        have e3 : (((L.take i).filter fun x : Pk => decide (rise ≤ x.rz)).flatMap (encPk gw)) ++ encPk gw (L.getD i default) = ((L.take (i + 1)).filter fun x : Pk => decide (rise ≤ x.rz)).flatMap (encPk gw) := by rw [hfl, List.flatMap_append]; simp
        exact ⟨m - 1, by omega, i + 1, A_a6, c_a6, by omega, ⟨rfl, rfl, rfl, rfl, rfl, by rw [← e2]; rfl, ie (by omega), rfl, trivial⟩, by rw [← e2, ← e3]; exact S⟩
      · rw [if_neg hr, List.append_nil] at hfl
        repeat refine cw_seq ?_
        refine cw_region ?_
        iterate 2 refine rw_v (op_pure rfl) ?_
        refine rw_v (op_len Try.underlying44 rfl) ?_
        refine rw_v (op_b (b := true) rfl (decide_eq_true (by omega))) ?_
        first | refine rw_end ?_ | (refine rw_nil ?_; show CW _ _ _ _ _ _) | refine rw_nil ?_
        repeat refine cw_seq ?_
        refine cw_true rfl ?_
        repeat refine cw_seq ?_
        refine cw_skip ?_
        try show CW _ _ _ _ _ _
        repeat refine cw_seq ?_
        refine cw_block ?_
        repeat refine cw_seq ?_
        refine cw_region ?_
        iterate 2 refine rw_v (op_pure rfl) ?_
        refine rw_v (op_idx Try.underlying44 Try.sizeOf46 rfl rfl sa_wa (by omega) (by omega)) ?_
        refine rw_v (op_fld Try.underlying46 rfl Try.sizeOf2 rfl rfl sa_wa) ?_
        refine rw_r (op_ldR Try.underlying2 rfl rfl (S.rd (i := 1) rfl) g4') ?_
        refine rw_v (op_pure rfl) ?_
        refine rw_v (op_b (b := false) rfl (decide_eq_false (by omega))) ?_
        first | refine rw_end ?_ | (refine rw_nil ?_; show CW _ _ _ _ _ _) | refine rw_nil ?_
        repeat refine cw_seq ?_
        refine cw_false rfl ?_
        repeat refine cw_seq ?_
        refine cw_skip ?_
        try show CW _ _ _ _ _ _
        repeat refine cw_seq ?_
        refine cw_region ?_
        refine rw_v (op_pure rfl) ?_
        refine rw_v (op_rng rfl (by omega)) ?_
        refine rw_v (op_pure rfl) ?_
        first | refine rw_end ?_ | (refine rw_nil ?_; show CW _ _ _ _ _ _) | refine rw_nil ?_
        exact ⟨m - 1, by omega, i + 1, A2, c2, by omega, ⟨rfl, rfl, rfl, rfl, rfl, by rw [hfl]; rfl, ie (by omega), rfl, trivial⟩, by rw [hfl]; exact S⟩
    · obtain rfl : i = L.length := by omega
      rw [List.take_length] at S ⊢
      have hl2 : (L.filter fun x : Pk => decide (rise ≤ x.rz)).length ≤ 1048576 := Nat.le_trans (List.length_filter_le _ _) hLl
      repeat refine cw_seq ?_
      refine cw_region ?_
      iterate 2 refine rw_v (op_pure rfl) ?_
      refine rw_v (op_len Try.underlying44 rfl) ?_
      refine rw_v (op_b (b := false) rfl (decide_eq_false (by omega))) ?_
      first | refine rw_end ?_ | (refine rw_nil ?_; show CW _ _ _ _ _ _) | refine rw_nil ?_
      repeat refine cw_seq ?_
      refine cw_false rfl ?_
      repeat refine cw_seq ?_
      refine cw_exit ?_
      repeat first | refine exit_then ?_ | refine exit_inb ?_
      show CW _ _ _ _ _ _
      repeat refine cw_seq ?_
      refine cw_region ?_
      refine rw_v (op_pure rfl) ?_
      refine rw_v (op_b (b := true) rfl (beq_iff_eq.2 (by omega))) ?_
      refine rw_v (op_pure rfl) ?_
      first | refine rw_off rfl ?_ | (refine rw_on rfl ?_; refine rw_v (op_pure rfl) ?_)
      first | refine rw_off rfl ?_ | (refine rw_on rfl ?_; refine rw_v (op_b (b := true) rfl (beq_iff_eq.2 (by omega))) ?_)
      iterate 2 refine rw_v (op_pure rfl) ?_
      first | refine rw_off rfl ?_ | (refine rw_on rfl ?_; refine rw_v (op_pure rfl) ?_)
      first | refine rw_off rfl ?_ | (refine rw_on rfl ?_; refine rw_v (op_pure rfl) ?_)
      refine rw_on rfl ?_
      refine rw_call rfl (psame_E gw L hLl (S.rd (i := 3) rfl) (S.rd (i := 1) rfl)) ?_
      rintro _ w15_ ⟨rfl, g15_⟩
      have S := S.gr g15_
      iterate 2 refine rw_v (op_pure rfl) ?_
      first | refine rw_off rfl ?_ | (refine rw_on rfl ?_; refine rw_v (op_pure rfl) ?_)
      first | refine rw_off rfl ?_ | (refine rw_on rfl ?_; refine rw_v (op_pure rfl) ?_)
      refine rw_on rfl ?_
      refine rw_call rfl (psame_E gw (L.filter fun x : Pk => decide (rise ≤ x.rz)) hl2 (S.rd (i := 2) rfl) (S.rd (i := 0) rfl)) ?_
      rintro _ w16_ ⟨rfl, g16_⟩
      have S := S.gr g16_
      iterate 2 refine rw_v (op_pure rfl) ?_
      first | refine rw_end ?_ | (refine rw_nil ?_; show CW _ _ _ _ _ _) | refine rw_nil ?_
      repeat refine cw_seq ?_
      refine cw_ret ?_
      repeat first | refine ret_then ?_ | refine ret_inb ?_
      exact res1 rfl ⟨rfl, S.out⟩
  · skip
    have G := Gr.refl W
    have S := St.start W
    refine Fn_enter Try.func5 rfl Try.results5 Try.ntmps5 (by kernel_rfl) (by kernel_rfl) ?_
    repeat refine cw_seq ?_
    refine cw_region ?_
    refine rw_v (op_pure rfl) ?_
    first | refine rw_end ?_ | (refine rw_nil ?_; show CW _ _ _ _ _ _) | refine rw_nil ?_
    repeat refine cw_seq ?_
    refine cw_region ?_
    refine rw_call rfl (awake46_E W) ?_
    rintro _ w1_ ⟨rfl, g1_⟩
    have S := S.gr g1_
    refine rw_v (op_pure rfl) ?_
    first | refine rw_end ?_ | (refine rw_nil ?_; show CW _ _ _ _ _ _) | refine rw_nil ?_
    repeat refine cw_seq ?_
    refine cw_false rfl ?_
    repeat refine cw_seq ?_
    refine cw_skip ?_
    try show CW _ _ _ _ _ _
    repeat refine cw_seq ?_
    refine cw_region ?_
    iterate 3 refine rw_v (op_pure rfl) ?_
    refine rw_call rfl (landNo_E w h 60 cap (by omega) hl hok (hA.gr S.out)) ?_
    rintro _ w2_ ⟨rfl, g2_⟩
    have S := S.gr g2_
    iterate 3 refine rw_v (op_pure rfl) ?_
    refine rw_newB (op_alloc Try.zeroValue32 rfl) S ?_
    intro b_b3 w4_ g4_ S
    refine rw_storeSA (i := 0) S rfl (Try.sizeOf32 _) rfl rfl rfl rfl rfl rfl ?_
    intro w5_ S
    refine rw_v (op_pure rfl) ?_
    first | refine rw_end ?_ | (refine rw_nil ?_; show CW _ _ _ _ _ _) | refine rw_nil ?_
    repeat refine cw_seq ?_
    refine cw_region ?_
    iterate 2 refine rw_v (op_pure rfl) ?_
    first | refine rw_end ?_ | (refine rw_nil ?_; show CW _ _ _ _ _ _) | refine rw_nil ?_
    repeat refine cw_seq ?_
    refine cw_true rfl ?_
    repeat refine cw_seq ?_
    refine cw_region ?_
    refine rw_v (op_pure rfl) ?_
    first | refine rw_end ?_ | (refine rw_nil ?_; show CW _ _ _ _ _ _) | refine rw_nil ?_
    repeat refine cw_seq ?_
    refine cw_ret ?_
    repeat first | refine ret_then ?_ | refine ret_inb ?_
    exact res1 rfl ⟨rfl, S.out⟩
end
end Go.Proofs.Ytiidmiebckkloaa
/- What an argument reads stays what it was where all that was there stands as it was; a law's row out of that. -/
namespace Go.Proofs.Ytiidmiebckkloaa
open Go.RowKit Go.WideShapes Go.ChangeShapes
set_option linter.unusedVariables false
set_option linter.unusedSimpArgs false

section
variable {H : Type} {enc : TypeId × Value → H} {P : Program} {w w' : World} {base : Nat} {sp : Nat → Bool} {held : Bool}
theorem cells_lt {a : Addr} {n : Nat} {l : List Value} (h : w.cells? base a n = some l) (hn : 0 < n) : a.block < w.heap.size := by
  unfold World.cells? at h
  split at h
  · obtain ⟨y, hy⟩ := mapM_each h 0 (List.mem_range.2 hn)
    rcases Nat.lt_or_ge a.block w.heap.size with h' | h'
    · exact h'
    · have e : a.add 0 = a := rfl
      rw [e] at hy
      simp [World.cell?, Array.getElem?_eq_none h'] at hy
  · cases h
theorem add_block (a : Addr) (k : Nat) : (a.add k).block = a.block := by unfold Addr.add; split <;> rfl
theorem cells_stay (hc : ∀ a v, w.cell? a = some v → w'.cell? a = some v) {a : Addr} {n : Nat} {l : List Value} (h : w.cells? base a n = some l) : w'.cells? base a n = some l := by
  unfold World.cells? at h ⊢
  split at h
  · rename_i hb
    rw [if_pos hb]
    exact mapM_mono (fun i y hy => hc _ _ hy) h
  · cases h
theorem bind_stay {α β : Type} {x x' : Option α} {f f' : α → Option β} {y : β} (hx : ∀ a, x = some a → x' = some a) (hf : ∀ a b, f a = some b → f' a = some b) (h : x.bind f = some y) : x'.bind f' = some y := by
  obtain ⟨a, h1, h2⟩ := Option.bind_eq_some_iff.1 h
  exact Option.bind_eq_some_iff.2 ⟨a, hx a h1, hf a y h2⟩
theorem map_stay {α β : Type} {x x' : Option α} {f : α → β} {y : β} (hx : ∀ a, x = some a → x' = some a) (h : x.map f = some y) : x'.map f = some y := by
  obtain ⟨a, h1, h2⟩ := Option.map_eq_some_iff.1 h
  exact Option.map_eq_some_iff.2 ⟨a, hx a h1, h2⟩
theorem mapM_mem {α β : Type} {f g : α → Option β} : ∀ {l : List α} {r : List β}, (∀ x ∈ l, ∀ y, f x = some y → g x = some y) → l.mapM f = some r → l.mapM g = some r
  | [], r, _, h => by simpa using h
  | x :: xs, r, hfg, h => by
    rw [List.mapM_cons] at h ⊢
    obtain ⟨a, ha, h2⟩ := Option.bind_eq_some_iff.1 h
    obtain ⟨b, hb, h3⟩ := Option.bind_eq_some_iff.1 h2
    exact Option.bind_eq_some_iff.2 ⟨a, hfg x (by simp) a ha, Option.bind_eq_some_iff.2 ⟨b, mapM_mem (fun z hz => hfg z (by simp [hz])) hb, h3⟩⟩
/-- Types of plain data: numbers, bools, strings, structs, arrays and slices of such. -/
def plainB (P : Program) : Nat → TypeId → Bool
  | 0, _ => false
  | n + 1, t => match P.underlying t with
    | some .bool => true
    | some (.int _) => true
    | some (.float _) => true
    | some .string => true
    | some (.slice e) => Nat.blt 0 (P.cellsOf e) && plainB P n e
    | some (.struct fs) => fs.toList.all fun f => plainB P n f.type
    | some (.array _ e) => plainB P n e
    | _ => false
def Plain (P : Program) (t : TypeId) : Prop := ∃ n, plainB P n t = true
theorem Plain.slice {t e : TypeId} (h : Plain P t) (hu : P.underlying t = some (.slice e)) : 0 < P.cellsOf e ∧ Plain P e := by
  obtain ⟨n, h⟩ := h
  cases n with
  | zero => cases h
  | succ n =>
    simp only [plainB, hu, Bool.and_eq_true] at h
    exact ⟨Nat.le_of_ble_eq_true h.1, n, h.2⟩
theorem Plain.struct {t : TypeId} {fs : Array Field} (h : Plain P t) (hu : P.underlying t = some (.struct fs)) {f : Field} (hf : f ∈ fs.toList) : Plain P f.type := by
  obtain ⟨n, h⟩ := h
  cases n with
  | zero => cases h
  | succ n =>
    simp only [plainB, hu] at h
    exact ⟨n, List.all_eq_true.1 h f hf⟩
theorem Plain.array {t e : TypeId} {m : Nat} (h : Plain P t) (hu : P.underlying t = some (.array m e)) : Plain P e := by
  obtain ⟨n, h⟩ := h
  cases n with
  | zero => cases h
  | succ n =>
    simp only [plainB, hu] at h
    exact ⟨n, h⟩
theorem Plain.noptr {t e : TypeId} (h : Plain P t) (hu : P.underlying t = some (.pointer e)) : False := by
  obtain ⟨n, h⟩ := h
  cases n with
  | zero => cases h
  | succ n => simp [plainB, hu] at h
theorem Plain.noiface {t : TypeId} {ms : Array (String × TypeId)} (h : Plain P t) (hu : P.underlying t = some (.interface ms)) : False := by
  obtain ⟨n, h⟩ := h
  cases n with
  | zero => cases h
  | succ n => simp [plainB, hu] at h
theorem Plain.nomap {t k e : TypeId} (h : Plain P t) (hu : P.underlying t = some (.map k e)) : False := by
  obtain ⟨n, h⟩ := h
  cases n with
  | zero => cases h
  | succ n => simp [plainB, hu] at h
theorem step_stay (hc : ∀ a v, w.cell? a = some v → w'.cell? a = some v) {r r' : TypeId → List Value → Option (DataW H × List MemPlace)}
    (hr : ∀ t, Plain P t → ∀ cs x, r t cs = some x → r' t cs = some x) (hsp : ∀ b, b < w.heap.size → sp b = true) {t : TypeId} (ht : Plain P t) {cs : List Value} {x : DataW H × List MemPlace} (h : DataW.trodStep enc P w base (fun _ => true) held r t cs = some x) : DataW.trodStep enc P w' base sp held r' t cs = some x := by
  unfold DataW.trodStep at h ⊢
  split at h
  case h_6 => rename_i heq; exact (ht.noptr heq).elim
  case h_8 =>
    rename_i e a len cap heq
    have hz := ht.slice heq
    dsimp only at h ⊢
    split at h
    · rename_i hb
      rw [if_pos hb]
      refine bind_stay (fun _ => mapM_mono (fun i y => bind_stay (fun _ => cells_stay hc) (fun _ _ => hr _ hz.2 _ _))) (fun elems z => map_stay (fun rest hrest => ?_)) h
      rw [if_pos rfl] at hrest
      by_cases hs : sp a.block = true
      · rw [if_pos hs]
        exact mapM_mono (fun j y => bind_stay (fun _ => cells_stay hc) (fun _ _ => hr _ hz.2 _ _)) hrest
      · rw [if_neg hs]
        by_cases hcl : cap - len = 0
        · rw [hcl] at hrest
          simpa using hrest
        · obtain ⟨y, hy⟩ := mapM_each hrest 0 (List.mem_range.2 (by omega))
          obtain ⟨l, hl, _⟩ := Option.bind_eq_some_iff.1 hy
          have := cells_lt hl hz.1
          rw [add_block] at this
          exact absurd (hsp _ this) hs
    · cases h
  case h_9 =>
    rename_i heq
    split at h
    · rename_i hb
      rw [if_pos hb]
      exact map_stay (fun _ => mapM_mem (fun f hf y => hr _ (ht.struct heq hf) _ _)) h
    · cases h
  case h_10 =>
    rename_i heq
    split at h
    · rename_i hb
      rw [if_pos hb]
      exact map_stay (fun _ => mapM_mono (fun f y => hr _ (ht.array heq) _ _)) h
    · cases h
  case h_12 => rename_i heq; exact (ht.noiface heq).elim
  case h_14 => rename_i heq; exact (ht.nomap heq).elim
  all_goals first | exact h | (cases h; done)
theorem trod_stay_ (hc : ∀ a v, w.cell? a = some v → w'.cell? a = some v) (hsp : ∀ b, b < w.heap.size → sp b = true) :
    ∀ (n : Nat) (t : TypeId), Plain P t → ∀ (cs : List Value) (x : DataW H × List MemPlace), DataW.trod enc P w base (fun _ => true) held n t cs = some x → DataW.trod enc P w' base sp held n t cs = some x
  | 0, t, _, cs, x, h => by simp [DataW.trod] at h
  | n + 1, t, ht, cs, x, h => step_stay hc (trod_stay_ hc hsp n) hsp ht h
theorem Gr.cells {W W' : World} (g : Gr W W') (a : Addr) (v : Value) (h : W.cell? a = some v) : W'.cell? a = some v := by
  have hlt : a.block < W.heap.size := by
    rcases Nat.lt_or_ge a.block W.heap.size with h' | h'
    · exact h'
    · simp [World.cell?, Array.getElem?_eq_none h'] at h
  rw [World.cell?_of_block (g.block _ hlt)]
  exact h
theorem trodAll_gr {W W' : World} (g : Gr W W') (hsp : ∀ b, b < W.heap.size → sp b = true) : ∀ {ts : List TypeId} {vs : List Value} {ds : List (DataW H)} {p : List MemPlace}, (∀ t ∈ ts, Plain P t) → DataW.TrodAll enc P W base (fun _ => true) held ts vs ds p → DataW.TrodAll enc P W' base sp held ts vs ds p
  | [], vs, ds, p, _, h => by cases vs <;> cases ds <;> first | exact h | cases h
  | t :: ts, vs, ds, p, ht, h => by
    obtain ⟨v, vs', d, ds', p, q, rfl, rfl, rfl, ⟨f, h1⟩, h2⟩ := trodAll_cons h
    exact trodAll_cons_mk ⟨f, trod_stay_ g.cells hsp f _ (ht t (by simp)) _ _ h1⟩ (trodAll_gr g hsp (fun t h => ht t (by simp [h])) h2)
theorem plain_all {ts : List TypeId} (h : (ts.all fun t => plainB P 8 t) = true) : ∀ t ∈ ts, Plain P t := fun t ht => ⟨8, List.all_eq_true.1 h t ht⟩
/-- A law that answers true and leaves what was there as it was. -/
theorem post_of_gr {f : Func} {s : ChangeSpec} {apart fresh handsOn again : Bool} {W W' : World} {args : Array Value} {v : Value} {ds gs : List (DataW H)} {before : List MemPlace} (hz : ∀ t ∈ f.params.toList, Plain P t)
    (hW : DataW.Whole enc P f.params.toList s.vars apart W args.toList ds gs before) (hv : s.vars = []) (hg : Gr W W') (ha : (s.fn H (ds ++ gs)).args = ds) (hvs : (s.fn H (ds ++ gs)).vars = [])
    (hres : ∀ (b : Nat) (sp : Nat → Bool) (hd : Bool), DataW.TrodAll enc P W' b sp hd f.resultTypes.toList (v.resultList f.resultTypes.size) (s.fn H (ds ++ gs)).results [])
    (hok : ∀ (j : Nat) (t : TypeId) (r : Value), f.resultTypes[j]? = some t → (v.resultList f.resultTypes.size)[j]? = some r → Value.okWide P W' .any 0 t r) :
    s.post enc P f apart fresh handsOn again W args v W' := by
  have hW' := hW
  obtain ⟨p, q, hA, hV, rfl, hfz, hnd⟩ := hW
  rw [hv] at hV
  obtain ⟨rfl, rfl⟩ := trodVars_none hV
  have hlt : ∀ x ∈ p ++ [], x.block < W.heap.size := fun x hx => hW'.lt x hx
  have hold : ∀ b, b < W.heap.size → (fun b => decide (b < W.heap.size)) b = true := fun b hb => by simpa using hb
  have h1 : ∀ sp : Nat → Bool, (∀ b, b < W.heap.size → sp b = true) → DataW.TrodAll enc P W' 0 sp true f.params.toList args.toList (s.fn H (ds ++ [])).args p := fun sp hsp => by rw [ha]; exact trodAll_gr hg hsp hz hA
  have hvr : ∀ sp : Nat → Bool, DataW.TrodVars enc P W' sp s.vars (s.fn H (ds ++ [])).vars [] := fun sp => by rw [hv, hvs]; rfl
  refine ⟨ds, [], p ++ [], [], p, [], hW', hres _ _ _, h1 _ hold, hvr _, World.keptBut_mono (fun x hx => ⟨hx, ?_⟩) (hg.frame (· ∈ p ++ [])), fun _ => ?_⟩
  · rw [List.mem_append] at hx
    exact Or.inr hx
  · refine ⟨hok, _, _, ([] ++ p) ++ [], ⟨[] ++ p, [], trodAll_append (h1 _ (fun _ _ => rfl)) (hres _ _ _), hvr _, rfl, ?_, ?_⟩, ?_⟩
    · intro b off hp
      have hin : MemPlace.cell b off ∈ p ++ [] := by simpa using hp
      rw [Below.frozen hg (hlt _ hin)]
      exact hfz b off hin
    · intro hap
      have := hnd hap
      simpa using this
    · intro x hp _
      simpa using hp
end
end Go.Proofs.Ytiidmiebckkloaa
/- Arguments, opened: numbers, lists of numbers, cells, rectangles. -/
namespace Go.Proofs.Ytiidmiebckkloaa.args
open Go.ChangeShapes Go.WideShapes Go.ChangeAt Go.RowKit Go.Joins
set_option linter.unusedVariables false
set_option linter.unusedSimpArgs false
set_option maxRecDepth 100000

theorem ints_of {H : Type} {enc : TypeId × Value → H} {W : World} {base : Nat} {held : Bool} {fuel : Nat} {v : Value} {x : DataW H × List MemPlace} (h : DataW.trod enc Try.prog W base (fun _ => true) held fuel 30 [v] = some x) :
    ∃ A c xs, v = .slice A xs.length c ∧ xs.length ≤ 9223372036854775807 ∧ (∀ b ∈ xs, -9223372036854775808 ≤ b ∧ b ≤ 9223372036854775807) ∧ Rd W A (ints xs) := by
  rcases open_ints Try.underlying30 Try.underlying2 (by kernel_rfl) h with ⟨h1, _⟩ | ⟨a, len, cap, zs, h1, _, hl, hmx, hz, _, hc, hw⟩
  · injection h1 with h1
    subst h1
    exact ⟨_, _, [], rfl, by simp, (by intro b hb; cases hb), .inl rfl⟩
  · injection h1 with h1
    subst h1
    rw [if_pos rfl] at hz
    have hlen : (zs.take len).length = len := by simp; omega
    refine ⟨some a, cap, zs.take len, by rw [hlen], by rw [hlen]; unfold maxLen at hmx; omega, fun b hb => ?_, ?_⟩
    · have := hw b (List.mem_of_mem_take hb)
      simpa [Lit.wf, IntKind.min, IntKind.max, IntKind.signed, IntKind.bits] using this
    · by_cases h0 : len = 0
      · subst h0; exact .inl rfl
      · have hc0 := hc 0 (by omega)
        have e0 : a.add 0 = a := rfl
        rw [e0] at hc0
        have hlt : a.block < W.heap.size := by
          rcases Nat.lt_or_ge a.block W.heap.size with h' | h'
          · exact h'
          · simp [World.cell?, Array.getElem?_eq_none h'] at hc0
        have hsp : a.spot = none := by
          unfold World.cell? at hc0
          split at hc0
          · split at hc0
            · cases hc0
            · rename_i h; simpa using h
          · cases hc0
        obtain ⟨b, o, sp⟩ := a
        dsimp only at hsp hlt
        subst hsp
        refine .inr ⟨b, o, rfl, hlt, fun j v hj => ?_⟩
        have h3 : j < (ints (zs.take len)).length := (List.getElem?_eq_some_iff.1 hj).1
        rw [ints_len, hlen] at h3
        have h4 := hc j (by omega)
        rw [addr_add] at h4
        rw [h4, ← hj, ints, List.getElem?_map, List.getElem?_take, if_pos (by omega), List.getD_eq_getElem?_getD, List.getElem?_eq_getElem (by omega)]
        rfl
theorem list_of {H : Type} {enc : TypeId × Value → H} {W : World} {base : Nat} {held : Bool} {v : Value} {d : DataW H} {p : List MemPlace} (hv : Value.okWide Try.prog W .any base 30 v) (h : DataW.Trod enc Try.prog W 0 (fun _ => true) held 30 v d p) :
    ∃ A c xs, v = .slice A xs.length c ∧ xs.length ≤ 9223372036854775807 ∧ (∀ b ∈ xs, -9223372036854775808 ≤ b ∧ b ≤ 9223372036854775807) ∧ Rd W A (ints xs) := by
  obtain ⟨A, n, c, rfl⟩ := okWide_slice Try.underlying30 hv
  obtain ⟨f, t⟩ := h
  exact ints_of t
theorem num_of {H : Type} {enc : TypeId × Value → H} {W : World} {base : Nat} {held : Bool} {v : Value} {d : DataW H} {p : List MemPlace} {t : TypeId} (ht : Try.prog.underlying t = some (.int .i64)) (hv : Value.okWide Try.prog W .any base t v) (h : DataW.Trod enc Try.prog W 0 (fun _ => true) held t v d p) :
    ∃ n : Int, v = .int .i64 n ∧ -9223372036854775808 ≤ n ∧ n ≤ 9223372036854775807 := by
  obtain ⟨n, rfl, _, _, w⟩ := open_int ht hv h
  have : -9223372036854775808 ≤ n ∧ n ≤ 9223372036854775807 := by simpa [Lit.wf, IntKind.min, IntKind.max, IntKind.signed, IntKind.bits] using w
  exact ⟨n, rfl, this.1, this.2⟩

/-! ### Cells, rectangles -/
def i64B (n : Int) : Prop := -9223372036854775808 ≤ n ∧ n ≤ 9223372036854775807
theorem cell_of {H : Type} {enc : TypeId × Value → H} {W : World} {base : Nat} {held : Bool} {v : Value} {d : DataW H} {p : List MemPlace} (hv : Value.okWide Try.prog W .any base 40 v) (h : DataW.Trod enc Try.prog W 0 (fun _ => true) held 40 v d p) :
    ∃ x y : Int, v = .agg #[.int .i64 x, .int .i64 y] ∧ i64B x ∧ i64B y := by
  obtain ⟨u0, u1, y0, y1, n, rfl, _, _, t0, t1⟩ := open_agg2 Try.underlying40 (by kernel_rfl) (by kernel_rfl) hv h
  obtain ⟨a, e0, _, w0⟩ := DataW.trod_int Try.underlying2 t0
  obtain ⟨b, e1, _, w1⟩ := DataW.trod_int Try.underlying2 t1
  injection e0 with e0; injection e1 with e1
  subst e0; subst e1
  exact ⟨a, b, rfl, by simpa [i64B, Lit.wf, IntKind.min, IntKind.max, IntKind.signed, IntKind.bits] using w0, by simpa [i64B, Lit.wf, IntKind.min, IntKind.max, IntKind.signed, IntKind.bits] using w1⟩
theorem rect_of {H : Type} {enc : TypeId × Value → H} {W : World} {base : Nat} {held : Bool} {v : Value} {d : DataW H} {p : List MemPlace} (hv : Value.okWide Try.prog W .any base 61 v) (h : DataW.Trod enc Try.prog W 0 (fun _ => true) held 61 v d p) :
    ∃ x0 y0 x1 y1 : Int, v = .agg #[.int .i64 x0, .int .i64 y0, .int .i64 x1, .int .i64 y1] ∧ i64B x0 ∧ i64B y0 ∧ i64B x1 ∧ i64B y1 := by
  obtain ⟨u0, u1, u2, u3, y0, y1, y2, y3, n, rfl, _, _, t0, t1, t2, t3⟩ := open_agg4 Try.underlying61 (by kernel_rfl) (by kernel_rfl) hv h
  obtain ⟨a, e0, _, w0⟩ := DataW.trod_int Try.underlying2 t0
  obtain ⟨b, e1, _, w1⟩ := DataW.trod_int Try.underlying2 t1
  obtain ⟨c, e2, _, w2⟩ := DataW.trod_int Try.underlying2 t2
  obtain ⟨f, e3, _, w3⟩ := DataW.trod_int Try.underlying2 t3
  injection e0 with e0; injection e1 with e1; injection e2 with e2; injection e3 with e3
  subst e0; subst e1; subst e2; subst e3
  exact ⟨a, b, c, f, rfl, by simpa [i64B, Lit.wf, IntKind.min, IntKind.max, IntKind.signed, IntKind.bits] using w0, by simpa [i64B, Lit.wf, IntKind.min, IntKind.max, IntKind.signed, IntKind.bits] using w1,
    by simpa [i64B, Lit.wf, IntKind.min, IntKind.max, IntKind.signed, IntKind.bits] using w2, by simpa [i64B, Lit.wf, IntKind.min, IntKind.max, IntKind.signed, IntKind.bits] using w3⟩
end Go.Proofs.Ytiidmiebckkloaa.args
