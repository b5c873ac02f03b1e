/- hachurelaw44.SmoothMeans: the walk. -/
import Derived.Test.YtbcgbcipigcbhaaMeaL
import Derived.Test.YtbcgbcipigcbhaaMeaM
import Derived.Test.YtbcgbcipigcbhaaMeaF
import Derived.Test.YtbcgbcipigcbhaaRows
import Derived.WalkKit
import Derived.ProofKit
import Derived.OpenShut
import Derived.Below
import Derived.ChangeSame
import Derived.ChangeReads
import Derived.DataReads
import Derived.Lib.SmallJoins
import Derived.Test.YtbcgbcipigcbhaaMeaA
import Derived.Test.YtbcgbcipigcbhaaMeaE
namespace Go.Proofs.Ytbcgbcipigcbhaa
open Go.RowKit
set_option linter.unusedVariables false
set_option linter.unusedSimpArgs false
set_option maxRecDepth 100000

section
variable {W : World} {p gw gh : Nat} {cc : Nat → Int} {A : Option Addr} {cap : Nat} {bs : Nat → Nat} {Rs : Nat → Option Nat}
theorem smeanFar_E (n : Int) (hn : n < 0 ∨ 1024 < n) (hB : vB (gridL gw gh cc)) (hG : GridAt W p gw gh cc A cap bs Rs) : Fn Try.prog 46 [.pointer (some ⟨p, 0, none⟩), .int .i64 n] W (RetG (.tuple #[.pointer none, .int .i64 9]) W) := by
  have hbuild := fun w (g : Gr W w) => abuild_E hB (hG.gr g)
  have S := St.start W
  refine Fn_enter Try.func46 rfl Try.results46 Try.ntmps46 (by kernel_rfl) (by kernel_rfl) ?_
  repeat refine cw_seq ?_
  refine cw_region ?_
  iterate 2 refine rw_v (op_pure rfl) ?_
  first | refine rw_end ?_ | (refine rw_nil ?_; show CW _ _ _ _ _ _) | refine rw_nil ?_
  repeat refine cw_seq ?_
  refine cw_region ?_
  refine rw_v (op_pure rfl) ?_
  refine rw_call rfl (hbuild W S.out) ?_
  rintro _ w1_ ⟨tb, rfl, hT, g1_⟩
  have G := (S.gr g1_).out
  have S := St.start w1_
  iterate 3 refine rw_v (op_pure rfl) ?_
  refine rw_newB (op_alloc Try.zeroValue158 rfl) S ?_
  intro b_tp w3_ g3_ S
  refine rw_storeS (i := 0) S rfl (Try.sizeOf158 _) rfl rfl rfl rfl rfl rfl ?_
  intro w4_ S
  refine rw_v (op_pure rfl) ?_
  first | refine rw_end ?_ | (refine rw_nil ?_; show CW _ _ _ _ _ _) | refine rw_nil ?_
  repeat refine cw_seq ?_
  refine cw_region ?_
  iterate 3 refine rw_v (op_pure rfl) ?_
  refine rw_call rfl (smadeFar_E (W := w4_) (fid := 101) (caps := [.pointer (some ⟨b_tp, 0, none⟩)]) n hn (hG.gr (G.trans S.out))) ?_
  rintro _ w5_ ⟨rfl, g5_⟩
  have S := S.gr g5_
  iterate 4 refine rw_v (op_pure rfl) ?_
  first | refine rw_end ?_ | (refine rw_nil ?_; show CW _ _ _ _ _ _) | refine rw_nil ?_
  repeat refine cw_seq ?_
  refine cw_ret ?_
  repeat first | refine ret_then ?_ | refine ret_inb ?_
  exact res2 rfl rfl ⟨rfl, G.trans S.out⟩
theorem smedianFar_E (n : Int) (hn : n < 0 ∨ 1024 < n) (hG : GridAt W p gw gh cc A cap bs Rs) : Fn Try.prog 47 [.pointer (some ⟨p, 0, none⟩), .int .i64 n] W (RetG (.tuple #[.pointer none, .int .i64 9]) W) := by
  have S := St.start W
  refine Fn_enter Try.func47 rfl Try.results47 Try.ntmps47 (by kernel_rfl) (by kernel_rfl) ?_
  repeat refine cw_seq ?_
  refine cw_region ?_
  refine rw_newB (op_box rfl) S ?_
  intro b_gp w2_ g2_ S
  iterate 2 refine rw_v (op_pure rfl) ?_
  first | refine rw_end ?_ | (refine rw_nil ?_; show CW _ _ _ _ _ _) | refine rw_nil ?_
  repeat refine cw_seq ?_
  refine cw_region ?_
  refine rw_r (op_loadB Try.underlying28 rfl rfl (S.blk (i := 0) rfl) rfl) ?_
  iterate 2 refine rw_v (op_pure rfl) ?_
  refine rw_call rfl (smadeFar_E (W := w2_) (fid := 103) (caps := [.pointer (some ⟨b_gp, 0, none⟩)]) n hn (hG.gr S.out)) ?_
  rintro _ w3_ ⟨rfl, g3_⟩
  have S := S.gr g3_
  iterate 4 refine rw_v (op_pure rfl) ?_
  first | refine rw_end ?_ | (refine rw_nil ?_; show CW _ _ _ _ _ _) | refine rw_nil ?_
  repeat refine cw_seq ?_
  refine cw_ret ?_
  repeat first | refine ret_then ?_ | refine ret_inb ?_
  exact res2 rfl rfl ⟨rfl, S.out⟩
end
section
variable {W : World} {A : Option Addr} {V : List Int}
set_option maxHeartbeats 8000000 in
theorem smoothMeans_E (w h : Int) (cap : Nat) (n : Int) (hl : V.length ≤ 9223372036854775807) (hA : Rd W A (ints V)) :
    Fn Try.prog 11 [.int .i64 w, .int .i64 h, .slice A V.length cap, .int .i64 n] W (RetG (.bool true) W) := by
  by_cases hok : LandOk w h V 200
  · obtain ⟨gw, rfl⟩ := Int.eq_ofNat_of_zero_le (show 0 ≤ w by have := hok.w1; omega)
    obtain ⟨gh, rfl⟩ := Int.eq_ofNat_of_zero_le (show 0 ≤ h by have := hok.h1; omega)
    have hw : 1 ≤ gw ∧ gw ≤ 1024 := by have := hok.w1; have := hok.wm; omega
    have hh : 1 ≤ gh ∧ gh ≤ 1024 := by have := hok.h1; have := hok.hm; omega
    have hmi : (gw : Int) * gh = ((gw * gh : Nat) : Int) := by push_cast; rfl
    have hVg : V.length = gw * gh := by have := hok.len; rw [hmi] at this; omega
    have hm : gw * gh ≤ 200 := by have := hok.area; rw [hmi] at this; omega
    have hm1 : 1 ≤ gw * gh := Nat.mul_le_mul hw.1 hh.1
    have hmay := hok.may
    have hGl := gridL_made hVg
    have hB : vB V := vB_of_may hmay
    by_cases hn : 0 ≤ n ∧ n ≤ 1024
    · obtain ⟨n, rfl⟩ := Int.eq_ofNat_of_zero_le hn.1
      have hn : n ≤ 1024 := by omega
      have hme := fun (p : Nat) (B : Option Addr) (bc : Nat) (bs : Nat → Nat) (Rs : Nat → Option Nat) (w : World) (h : GridAt w p gw gh (fun i => V.getD i 0) B bc bs Rs) => smean_E n hn (by rw [hGl]; exact hB) h
      have hmd := fun (p : Nat) (B : Option Addr) (bc : Nat) (bs : Nat → Nat) (Rs : Nat → Option Nat) (w : World) (h : GridAt w p gw gh (fun i => V.getD i 0) B bc bs Rs) => smedian_E n hn hB h
      have hrm := fun w (h : Rd w A (ints V)) => mean44_E (W := w) (cap := cap) n hB hw hh hn hVg h
      have hrd := fun w (h : Rd w A (ints V)) => median44_E (W := w) (cap := cap) n hB hw hh hn hVg h
      have his := fun (U : List Int) (hU : U.length = gw * gh) (p B3 c3 : _) (bs3 : Nat → Nat) (Rs3 : Nat → Option Nat) (A4 : Option Addr) (c4 : Nat) (w : World) (h : GridAt w p gw gh (fun i => U.getD i 0) B3 c3 bs3 Rs3) (hr : Rd w A4 (ints U)) => is_E (cu := c4) hU h hr
      have his1 := his _ (gridL_len gw gh fun i => meanW V gw gh i n)
      have his2 := his _ (gridL_len gw gh fun i => medW V gw gh i n)
      have his3 := his V hVg
      rw [gridL_self (gridL_len gw gh _), decide_eq_true rfl] at his1 his2
      rw [gridL_self hVg, decide_eq_true rfl] at his3
      rw [hGl] at hme
      unfold modV at hrm hrd
      rw [← hVg] at hrm hrd his1 his2 his3
      generalize hM : (gridL gw gh fun i => meanW V gw gh i n) = M at *
      generalize hD : (gridL gw gh fun i => medW V gw gh i n) = D at *
      have G := Gr.refl W
      have S := St.start W
      refine Fn_enter Try.func11 rfl Try.results11 Try.ntmps11 (by kernel_rfl) (by kernel_rfl) ?_
      repeat refine cw_seq ?_
      refine cw_region ?_
      refine rw_v (op_pure rfl) ?_
      first | refine rw_end ?_ | (refine rw_nil ?_; show CW _ _ _ _ _ _) | refine rw_nil ?_
      repeat refine cw_seq ?_
      refine cw_region ?_
      refine rw_call rfl (awake44_E W) ?_
      rintro _ w1_ ⟨rfl, g1_⟩
      have S := S.gr g1_
      refine rw_v (op_pure rfl) ?_
      first | refine rw_end ?_ | (refine rw_nil ?_; show CW _ _ _ _ _ _) | refine rw_nil ?_
      repeat refine cw_seq ?_
      refine cw_false rfl ?_
      repeat refine cw_seq ?_
      refine cw_skip ?_
      try show CW _ _ _ _ _ _
      repeat refine cw_seq ?_
      refine cw_region ?_
      iterate 3 refine rw_v (op_pure rfl) ?_
      refine rw_call rfl (land_E gw gh 200 cap (by omega) hok (hA.gr S.out)) ?_
      rintro _ w2_ ⟨rfl, g2_⟩
      have S := S.gr g2_
      iterate 3 refine rw_v (op_pure rfl) ?_
      refine rw_newB (op_alloc Try.zeroValue25 rfl) S ?_
      intro b_md w4_ g4_ S
      refine rw_storeSA (i := 0) S rfl (Try.sizeOf25 _) rfl rfl rfl rfl rfl rfl ?_
      intro w5_ S
      refine rw_v (op_pure rfl) ?_
      first | refine rw_end ?_ | (refine rw_nil ?_; show CW _ _ _ _ _ _) | refine rw_nil ?_
      repeat refine cw_seq ?_
      refine cw_region ?_
      iterate 2 refine rw_v (op_pure rfl) ?_
      first | refine rw_end ?_ | (refine rw_nil ?_; show CW _ _ _ _ _ _) | refine rw_nil ?_
      repeat refine cw_seq ?_
      refine cw_false rfl ?_
      repeat refine cw_seq ?_
      refine cw_skip ?_
      try show CW _ _ _ _ _ _
      repeat refine cw_seq ?_
      refine cw_region ?_
      iterate 3 refine rw_v (op_pure rfl) ?_
      refine rw_call rfl (made_E gw gh cap hw hh hVg hmay (hA.gr S.out)) ?_
      rintro _ w6_ ⟨p, B, bc, bs, Rs, rfl, hG, hf, g6_⟩
      have S := S.pushGrid hG hf g6_
      iterate 5 refine rw_v (op_pure rfl) ?_
      first | refine rw_end ?_ | (refine rw_nil ?_; show CW _ _ _ _ _ _) | refine rw_nil ?_
      repeat refine cw_seq ?_
      refine cw_region ?_
      iterate 2 refine rw_v (op_pure rfl) ?_
      first | refine rw_end ?_ | (refine rw_nil ?_; show CW _ _ _ _ _ _) | refine rw_nil ?_
      repeat refine cw_seq ?_
      refine cw_false rfl ?_
      repeat refine cw_seq ?_
      refine cw_skip ?_
      try show CW _ _ _ _ _ _
      repeat refine cw_seq ?_
      refine cw_region ?_
      iterate 2 refine rw_v (op_pure rfl) ?_
      refine rw_call rfl (hme p B bc bs Rs w6_ (S.grid (i := 0) rfl)) ?_
      rintro _ w7_ ⟨p2, B2, bc2, bs2, Rs2, rfl, hG2, hf2, g7_⟩
      have S := S.pushGrid hG2 hf2 g7_
      iterate 5 refine rw_v (op_pure rfl) ?_
      first | refine rw_end ?_ | (refine rw_nil ?_; show CW _ _ _ _ _ _) | refine rw_nil ?_
      repeat refine cw_seq ?_
      refine cw_region ?_
      iterate 2 refine rw_v (op_pure rfl) ?_
      refine rw_call rfl (hmd p B bc bs Rs w7_ (S.grid (i := 1) rfl)) ?_
      rintro _ w8_ ⟨p3, B3, bc3, bs3, Rs3, rfl, hG3, hf3, g8_⟩
      have S := S.pushGrid hG3 hf3 g8_
      iterate 5 refine rw_v (op_pure rfl) ?_
      first | refine rw_end ?_ | (refine rw_nil ?_; show CW _ _ _ _ _ _) | refine rw_nil ?_
      repeat refine cw_seq ?_
      refine cw_region ?_
      refine rw_v (op_pure rfl) ?_
      first | refine rw_v (op_b (b := true) rfl (decide_eq_true (by omega))) ?_ | refine rw_v (op_b (b := false) rfl (decide_eq_false (by omega))) ?_ | refine rw_v (op_pure rfl) ?_
      refine rw_v (op_pure rfl) ?_
      first | refine rw_off rfl ?_ | (refine rw_on rfl ?_; refine rw_v (op_pure rfl) ?_)
      first | refine rw_off rfl ?_ | (refine rw_on rfl ?_; (first | refine rw_v (op_b (b := true) rfl (decide_eq_true (by omega))) ?_ | refine rw_v (op_b (b := false) rfl (decide_eq_false (by omega))) ?_ | refine rw_v (op_pure rfl) ?_))
      refine rw_v (op_pure rfl) ?_
      first | refine rw_end ?_ | (refine rw_nil ?_; show CW _ _ _ _ _ _) | refine rw_nil ?_
      repeat refine cw_seq ?_
      refine cw_false rfl ?_
      repeat refine cw_seq ?_
      refine cw_skip ?_
      try show CW _ _ _ _ _ _
      repeat refine cw_seq ?_
      refine cw_region ?_
      refine rw_v (op_pure rfl) ?_
      first | refine rw_v (op_b (b := true) rfl (beq_iff_eq.2 (by omega))) ?_ | refine rw_v (op_b (b := false) rfl (beq_eq_false_iff_ne.2 (by omega))) ?_ | refine rw_v (op_pure rfl) ?_
      refine rw_v (op_pure rfl) ?_
      first | refine rw_off rfl ?_ | (refine rw_on rfl ?_; refine rw_v (op_pure rfl) ?_)
      first | refine rw_off rfl ?_ | (refine rw_on rfl ?_; (first | refine rw_v (op_b (b := true) rfl (beq_iff_eq.2 (by omega))) ?_ | refine rw_v (op_b (b := false) rfl (beq_eq_false_iff_ne.2 (by omega))) ?_ | refine rw_v (op_pure rfl) ?_))
      iterate 2 refine rw_v (op_pure rfl) ?_
      first | refine rw_off rfl ?_ | (refine rw_on rfl ?_; refine rw_v (op_pure rfl) ?_)
      first | refine rw_off rfl ?_ | (refine rw_on rfl ?_; refine rw_r (op_loadAB Try.underlying25 rfl (Try.sizeOf25 _) rfl (S.blk (i := 3) rfl) rfl rfl) ?_)
      first | refine rw_off rfl ?_ | (refine rw_on rfl ?_; refine rw_v (op_pure rfl) ?_)
      refine rw_on rfl ?_
      refine rw_call rfl (hrm _ (hA.gr S.out)) ?_
      rintro _ w9_ ⟨A_wm, c_wm, rfl, hR_wm, hf_wm, g9_⟩
      have S := S.pushRow hR_wm hf_wm g9_
      refine rw_on rfl ?_
      refine rw_call rfl (his1 p2 B2 bc2 bs2 Rs2 A_wm c_wm w9_ (S.grid (i := 2) rfl) (S.rd (i := 0) rfl)) ?_
      rintro _ w10_ ⟨rfl, g10_⟩
      have S := S.gr g10_
      iterate 2 refine rw_v (op_pure rfl) ?_
      first | refine rw_off rfl ?_ | (refine rw_on rfl ?_; refine rw_v (op_pure rfl) ?_)
      first | refine rw_off rfl ?_ | (refine rw_on rfl ?_; refine rw_r (op_loadAB Try.underlying25 rfl (Try.sizeOf25 _) rfl (S.blk (i := 4) rfl) rfl rfl) ?_)
      first | refine rw_off rfl ?_ | (refine rw_on rfl ?_; refine rw_v (op_pure rfl) ?_)
      refine rw_on rfl ?_
      refine rw_call rfl (hrd _ (hA.gr S.out)) ?_
      rintro _ w11_ ⟨A_wd, c_wd, rfl, hR_wd, hf_wd, g11_⟩
      have S := S.pushRow hR_wd hf_wd g11_
      refine rw_on rfl ?_
      refine rw_call rfl (his2 p3 B3 bc3 bs3 Rs3 A_wd c_wd w11_ (S.grid (i := 2) rfl) (S.rd (i := 0) rfl)) ?_
      rintro _ w12_ ⟨rfl, g12_⟩
      have S := S.gr g12_
      iterate 2 refine rw_v (op_pure rfl) ?_
      first | refine rw_off rfl ?_ | (refine rw_on rfl ?_; refine rw_v (op_pure rfl) ?_)
      first | refine rw_off rfl ?_ | (refine rw_on rfl ?_; refine rw_r (op_loadAB Try.underlying25 rfl (Try.sizeOf25 _) rfl (S.blk (i := 5) rfl) rfl rfl) ?_)
      refine rw_on rfl ?_
      refine rw_call rfl (his3 p B bc bs Rs A cap w12_ (S.grid (i := 4) rfl) (hA.gr S.out)) ?_
      rintro _ w13_ ⟨rfl, g13_⟩
      have S := S.gr g13_
      iterate 2 refine rw_v (op_pure rfl) ?_
      first | refine rw_end ?_ | (refine rw_nil ?_; show CW _ _ _ _ _ _) | refine rw_nil ?_
      repeat refine cw_seq ?_
      refine cw_ret ?_
      repeat first | refine ret_then ?_ | refine ret_inb ?_
      exact res1 rfl ⟨rfl, S.out⟩
    · have hn' : n < 0 ∨ 1024 < n := by omega
      rcases hn' with hn0 | hn0
      · skip
        have G := Gr.refl W
        have S := St.start W
        refine Fn_enter Try.func11 rfl Try.results11 Try.ntmps11 (by kernel_rfl) (by kernel_rfl) ?_
        repeat refine cw_seq ?_
        refine cw_region ?_
        refine rw_v (op_pure rfl) ?_
        first | refine rw_end ?_ | (refine rw_nil ?_; show CW _ _ _ _ _ _) | refine rw_nil ?_
        repeat refine cw_seq ?_
        refine cw_region ?_
        refine rw_call rfl (awake44_E W) ?_
        rintro _ w1_ ⟨rfl, g1_⟩
        have S := S.gr g1_
        refine rw_v (op_pure rfl) ?_
        first | refine rw_end ?_ | (refine rw_nil ?_; show CW _ _ _ _ _ _) | refine rw_nil ?_
        repeat refine cw_seq ?_
        refine cw_false rfl ?_
        repeat refine cw_seq ?_
        refine cw_skip ?_
        try show CW _ _ _ _ _ _
        repeat refine cw_seq ?_
        refine cw_region ?_
        iterate 3 refine rw_v (op_pure rfl) ?_
        refine rw_call rfl (land_E gw gh 200 cap (by omega) hok (hA.gr S.out)) ?_
        rintro _ w2_ ⟨rfl, g2_⟩
        have S := S.gr g2_
        iterate 3 refine rw_v (op_pure rfl) ?_
        refine rw_newB (op_alloc Try.zeroValue25 rfl) S ?_
        intro b_md w4_ g4_ S
        refine rw_storeSA (i := 0) S rfl (Try.sizeOf25 _) rfl rfl rfl rfl rfl rfl ?_
        intro w5_ S
        refine rw_v (op_pure rfl) ?_
        first | refine rw_end ?_ | (refine rw_nil ?_; show CW _ _ _ _ _ _) | refine rw_nil ?_
        repeat refine cw_seq ?_
        refine cw_region ?_
        iterate 2 refine rw_v (op_pure rfl) ?_
        first | refine rw_end ?_ | (refine rw_nil ?_; show CW _ _ _ _ _ _) | refine rw_nil ?_
        repeat refine cw_seq ?_
        refine cw_false rfl ?_
        repeat refine cw_seq ?_
        refine cw_skip ?_
        try show CW _ _ _ _ _ _
        repeat refine cw_seq ?_
        refine cw_region ?_
        iterate 3 refine rw_v (op_pure rfl) ?_
        refine rw_call rfl (made_E gw gh cap hw hh hVg hmay (hA.gr S.out)) ?_
        rintro _ w6_ ⟨p, B, bc, bs, Rs, rfl, hG, hf, g6_⟩
        have S := S.pushGrid hG hf g6_
        iterate 5 refine rw_v (op_pure rfl) ?_
        first | refine rw_end ?_ | (refine rw_nil ?_; show CW _ _ _ _ _ _) | refine rw_nil ?_
        repeat refine cw_seq ?_
        refine cw_region ?_
        iterate 2 refine rw_v (op_pure rfl) ?_
        first | refine rw_end ?_ | (refine rw_nil ?_; show CW _ _ _ _ _ _) | refine rw_nil ?_
        repeat refine cw_seq ?_
        refine cw_false rfl ?_
        repeat refine cw_seq ?_
        refine cw_skip ?_
        try show CW _ _ _ _ _ _
        repeat refine cw_seq ?_
        refine cw_region ?_
        iterate 2 refine rw_v (op_pure rfl) ?_
        refine rw_call rfl (smeanFar_E n (by omega) (by rw [hGl]; exact hB) (S.grid (i := 0) rfl)) ?_
        rintro _ w7_ ⟨rfl, g7_⟩
        have S := S.gr g7_
        iterate 5 refine rw_v (op_pure rfl) ?_
        first | refine rw_end ?_ | (refine rw_nil ?_; show CW _ _ _ _ _ _) | refine rw_nil ?_
        repeat refine cw_seq ?_
        refine cw_region ?_
        iterate 2 refine rw_v (op_pure rfl) ?_
        refine rw_call rfl (smedianFar_E n (by omega) (S.grid (i := 0) rfl)) ?_
        rintro _ w8_ ⟨rfl, g8_⟩
        have S := S.gr g8_
        iterate 5 refine rw_v (op_pure rfl) ?_
        first | refine rw_end ?_ | (refine rw_nil ?_; show CW _ _ _ _ _ _) | refine rw_nil ?_
        repeat refine cw_seq ?_
        refine cw_region ?_
        refine rw_v (op_pure rfl) ?_
        first | refine rw_v (op_b (b := true) rfl (decide_eq_true (by omega))) ?_ | refine rw_v (op_b (b := false) rfl (decide_eq_false (by omega))) ?_ | refine rw_v (op_pure rfl) ?_
        refine rw_v (op_pure rfl) ?_
        first | refine rw_off rfl ?_ | (refine rw_on rfl ?_; refine rw_v (op_pure rfl) ?_)
        first | refine rw_off rfl ?_ | (refine rw_on rfl ?_; (first | refine rw_v (op_b (b := true) rfl (decide_eq_true (by omega))) ?_ | refine rw_v (op_b (b := false) rfl (decide_eq_false (by omega))) ?_ | refine rw_v (op_pure rfl) ?_))
        refine rw_v (op_pure rfl) ?_
        first | refine rw_end ?_ | (refine rw_nil ?_; show CW _ _ _ _ _ _) | refine rw_nil ?_
        repeat refine cw_seq ?_
        refine cw_true rfl ?_
        repeat refine cw_seq ?_
        refine cw_region ?_
        refine rw_v (op_pure rfl) ?_
        refine rw_v (op_nilp Try.underlying28 rfl rfl) ?_
        refine rw_v (op_pure rfl) ?_
        first | refine rw_off rfl ?_ | (refine rw_on rfl ?_; refine rw_v (op_pure rfl) ?_)
        first | refine rw_off rfl ?_ | (refine rw_on rfl ?_; refine rw_v (op_b (b := true) rfl (beq_iff_eq.2 (by omega))) ?_)
        iterate 2 refine rw_v (op_pure rfl) ?_
        first | refine rw_off rfl ?_ | (refine rw_on rfl ?_; refine rw_v (op_pure rfl) ?_)
        first | refine rw_off rfl ?_ | (refine rw_on rfl ?_; refine rw_v (op_nilp Try.underlying28 rfl rfl) ?_)
        iterate 2 refine rw_v (op_pure rfl) ?_
        first | refine rw_off rfl ?_ | (refine rw_on rfl ?_; refine rw_v (op_pure rfl) ?_)
        first | refine rw_off rfl ?_ | (refine rw_on rfl ?_; refine rw_v (op_b (b := true) rfl (beq_iff_eq.2 (by omega))) ?_)
        iterate 2 refine rw_v (op_pure rfl) ?_
        first | refine rw_end ?_ | (refine rw_nil ?_; show CW _ _ _ _ _ _) | refine rw_nil ?_
        repeat refine cw_seq ?_
        refine cw_ret ?_
        repeat first | refine ret_then ?_ | refine ret_inb ?_
        exact res1 rfl ⟨rfl, S.out⟩
      · skip
        have G := Gr.refl W
        have S := St.start W
        refine Fn_enter Try.func11 rfl Try.results11 Try.ntmps11 (by kernel_rfl) (by kernel_rfl) ?_
        repeat refine cw_seq ?_
        refine cw_region ?_
        refine rw_v (op_pure rfl) ?_
        first | refine rw_end ?_ | (refine rw_nil ?_; show CW _ _ _ _ _ _) | refine rw_nil ?_
        repeat refine cw_seq ?_
        refine cw_region ?_
        refine rw_call rfl (awake44_E W) ?_
        rintro _ w1_ ⟨rfl, g1_⟩
        have S := S.gr g1_
        refine rw_v (op_pure rfl) ?_
        first | refine rw_end ?_ | (refine rw_nil ?_; show CW _ _ _ _ _ _) | refine rw_nil ?_
        repeat refine cw_seq ?_
        refine cw_false rfl ?_
        repeat refine cw_seq ?_
        refine cw_skip ?_
        try show CW _ _ _ _ _ _
        repeat refine cw_seq ?_
        refine cw_region ?_
        iterate 3 refine rw_v (op_pure rfl) ?_
        refine rw_call rfl (land_E gw gh 200 cap (by omega) hok (hA.gr S.out)) ?_
        rintro _ w2_ ⟨rfl, g2_⟩
        have S := S.gr g2_
        iterate 3 refine rw_v (op_pure rfl) ?_
        refine rw_newB (op_alloc Try.zeroValue25 rfl) S ?_
        intro b_md w4_ g4_ S
        refine rw_storeSA (i := 0) S rfl (Try.sizeOf25 _) rfl rfl rfl rfl rfl rfl ?_
        intro w5_ S
        refine rw_v (op_pure rfl) ?_
        first | refine rw_end ?_ | (refine rw_nil ?_; show CW _ _ _ _ _ _) | refine rw_nil ?_
        repeat refine cw_seq ?_
        refine cw_region ?_
        iterate 2 refine rw_v (op_pure rfl) ?_
        first | refine rw_end ?_ | (refine rw_nil ?_; show CW _ _ _ _ _ _) | refine rw_nil ?_
        repeat refine cw_seq ?_
        refine cw_false rfl ?_
        repeat refine cw_seq ?_
        refine cw_skip ?_
        try show CW _ _ _ _ _ _
        repeat refine cw_seq ?_
        refine cw_region ?_
        iterate 3 refine rw_v (op_pure rfl) ?_
        refine rw_call rfl (made_E gw gh cap hw hh hVg hmay (hA.gr S.out)) ?_
        rintro _ w6_ ⟨p, B, bc, bs, Rs, rfl, hG, hf, g6_⟩
        have S := S.pushGrid hG hf g6_
        iterate 5 refine rw_v (op_pure rfl) ?_
        first | refine rw_end ?_ | (refine rw_nil ?_; show CW _ _ _ _ _ _) | refine rw_nil ?_
        repeat refine cw_seq ?_
        refine cw_region ?_
        iterate 2 refine rw_v (op_pure rfl) ?_
        first | refine rw_end ?_ | (refine rw_nil ?_; show CW _ _ _ _ _ _) | refine rw_nil ?_
        repeat refine cw_seq ?_
        refine cw_false rfl ?_
        repeat refine cw_seq ?_
        refine cw_skip ?_
        try show CW _ _ _ _ _ _
        repeat refine cw_seq ?_
        refine cw_region ?_
        iterate 2 refine rw_v (op_pure rfl) ?_
        refine rw_call rfl (smeanFar_E n (by omega) (by rw [hGl]; exact hB) (S.grid (i := 0) rfl)) ?_
        rintro _ w7_ ⟨rfl, g7_⟩
        have S := S.gr g7_
        iterate 5 refine rw_v (op_pure rfl) ?_
        first | refine rw_end ?_ | (refine rw_nil ?_; show CW _ _ _ _ _ _) | refine rw_nil ?_
        repeat refine cw_seq ?_
        refine cw_region ?_
        iterate 2 refine rw_v (op_pure rfl) ?_
        refine rw_call rfl (smedianFar_E n (by omega) (S.grid (i := 0) rfl)) ?_
        rintro _ w8_ ⟨rfl, g8_⟩
        have S := S.gr g8_
        iterate 5 refine rw_v (op_pure rfl) ?_
        first | refine rw_end ?_ | (refine rw_nil ?_; show CW _ _ _ _ _ _) | refine rw_nil ?_
        repeat refine cw_seq ?_
        refine cw_region ?_
        refine rw_v (op_pure rfl) ?_
        first | refine rw_v (op_b (b := true) rfl (decide_eq_true (by omega))) ?_ | refine rw_v (op_b (b := false) rfl (decide_eq_false (by omega))) ?_ | refine rw_v (op_pure rfl) ?_
        refine rw_v (op_pure rfl) ?_
        first | refine rw_off rfl ?_ | (refine rw_on rfl ?_; refine rw_v (op_pure rfl) ?_)
        first | refine rw_off rfl ?_ | (refine rw_on rfl ?_; (first | refine rw_v (op_b (b := true) rfl (decide_eq_true (by omega))) ?_ | refine rw_v (op_b (b := false) rfl (decide_eq_false (by omega))) ?_ | refine rw_v (op_pure rfl) ?_))
        refine rw_v (op_pure rfl) ?_
        first | refine rw_end ?_ | (refine rw_nil ?_; show CW _ _ _ _ _ _) | refine rw_nil ?_
        repeat refine cw_seq ?_
        refine cw_true rfl ?_
        repeat refine cw_seq ?_
        refine cw_region ?_
        refine rw_v (op_pure rfl) ?_
        refine rw_v (op_nilp Try.underlying28 rfl rfl) ?_
        refine rw_v (op_pure rfl) ?_
        first | refine rw_off rfl ?_ | (refine rw_on rfl ?_; refine rw_v (op_pure rfl) ?_)
        first | refine rw_off rfl ?_ | (refine rw_on rfl ?_; refine rw_v (op_b (b := true) rfl (beq_iff_eq.2 (by omega))) ?_)
        iterate 2 refine rw_v (op_pure rfl) ?_
        first | refine rw_off rfl ?_ | (refine rw_on rfl ?_; refine rw_v (op_pure rfl) ?_)
        first | refine rw_off rfl ?_ | (refine rw_on rfl ?_; refine rw_v (op_nilp Try.underlying28 rfl rfl) ?_)
        iterate 2 refine rw_v (op_pure rfl) ?_
        first | refine rw_off rfl ?_ | (refine rw_on rfl ?_; refine rw_v (op_pure rfl) ?_)
        first | refine rw_off rfl ?_ | (refine rw_on rfl ?_; refine rw_v (op_b (b := true) rfl (beq_iff_eq.2 (by omega))) ?_)
        iterate 2 refine rw_v (op_pure rfl) ?_
        first | refine rw_end ?_ | (refine rw_nil ?_; show CW _ _ _ _ _ _) | refine rw_nil ?_
        repeat refine cw_seq ?_
        refine cw_ret ?_
        repeat first | refine ret_then ?_ | refine ret_inb ?_
        exact res1 rfl ⟨rfl, S.out⟩
  · skip
    have G := Gr.refl W
    have S := St.start W
    refine Fn_enter Try.func11 rfl Try.results11 Try.ntmps11 (by kernel_rfl) (by kernel_rfl) ?_
    repeat refine cw_seq ?_
    refine cw_region ?_
    refine rw_v (op_pure rfl) ?_
    first | refine rw_end ?_ | (refine rw_nil ?_; show CW _ _ _ _ _ _) | refine rw_nil ?_
    repeat refine cw_seq ?_
    refine cw_region ?_
    refine rw_call rfl (awake44_E W) ?_
    rintro _ w1_ ⟨rfl, g1_⟩
    have S := S.gr g1_
    refine rw_v (op_pure rfl) ?_
    first | refine rw_end ?_ | (refine rw_nil ?_; show CW _ _ _ _ _ _) | refine rw_nil ?_
    repeat refine cw_seq ?_
    refine cw_false rfl ?_
    repeat refine cw_seq ?_
    refine cw_skip ?_
    try show CW _ _ _ _ _ _
    repeat refine cw_seq ?_
    refine cw_region ?_
    iterate 3 refine rw_v (op_pure rfl) ?_
    refine rw_call rfl (landNo_E w h 200 cap (by omega) hl hok (hA.gr S.out)) ?_
    rintro _ w2_ ⟨rfl, g2_⟩
    have S := S.gr g2_
    iterate 3 refine rw_v (op_pure rfl) ?_
    refine rw_newB (op_alloc Try.zeroValue25 rfl) S ?_
    intro b_b3 w4_ g4_ S
    refine rw_storeSA (i := 0) S rfl (Try.sizeOf25 _) rfl rfl rfl rfl rfl rfl ?_
    intro w5_ S
    refine rw_v (op_pure rfl) ?_
    first | refine rw_end ?_ | (refine rw_nil ?_; show CW _ _ _ _ _ _) | refine rw_nil ?_
    repeat refine cw_seq ?_
    refine cw_region ?_
    iterate 2 refine rw_v (op_pure rfl) ?_
    first | refine rw_end ?_ | (refine rw_nil ?_; show CW _ _ _ _ _ _) | refine rw_nil ?_
    repeat refine cw_seq ?_
    refine cw_true rfl ?_
    repeat refine cw_seq ?_
    refine cw_region ?_
    refine rw_v (op_pure rfl) ?_
    first | refine rw_end ?_ | (refine rw_nil ?_; show CW _ _ _ _ _ _) | refine rw_nil ?_
    repeat refine cw_seq ?_
    refine cw_ret ?_
    repeat first | refine ret_then ?_ | refine ret_inb ?_
    exact res1 rfl ⟨rfl, S.out⟩
end
end Go.Proofs.Ytbcgbcipigcbhaa
/- What an argument reads stays what it was where all that was there stands as it was; a law's row out of that. -/
namespace Go.Proofs.Ytbcgbcipigcbhaa
open Go.RowKit Go.WideShapes Go.ChangeShapes
set_option linter.unusedVariables false
set_option linter.unusedSimpArgs false

section
variable {H : Type} {enc : TypeId × Value → H} {P : Program} {w w' : World} {base : Nat} {sp : Nat → Bool} {held : Bool}
theorem cells_lt {a : Addr} {n : Nat} {l : List Value} (h : w.cells? base a n = some l) (hn : 0 < n) : a.block < w.heap.size := by
  unfold World.cells? at h
  split at h
  · obtain ⟨y, hy⟩ := mapM_each h 0 (List.mem_range.2 hn)
    rcases Nat.lt_or_ge a.block w.heap.size with h' | h'
    · exact h'
    · have e : a.add 0 = a := rfl
      rw [e] at hy
      simp [World.cell?, Array.getElem?_eq_none h'] at hy
  · cases h
theorem add_block (a : Addr) (k : Nat) : (a.add k).block = a.block := by unfold Addr.add; split <;> rfl
theorem cells_stay (hc : ∀ a v, w.cell? a = some v → w'.cell? a = some v) {a : Addr} {n : Nat} {l : List Value} (h : w.cells? base a n = some l) : w'.cells? base a n = some l := by
  unfold World.cells? at h ⊢
  split at h
  · rename_i hb
    rw [if_pos hb]
    exact mapM_mono (fun i y hy => hc _ _ hy) h
  · cases h
theorem bind_stay {α β : Type} {x x' : Option α} {f f' : α → Option β} {y : β} (hx : ∀ a, x = some a → x' = some a) (hf : ∀ a b, f a = some b → f' a = some b) (h : x.bind f = some y) : x'.bind f' = some y := by
  obtain ⟨a, h1, h2⟩ := Option.bind_eq_some_iff.1 h
  exact Option.bind_eq_some_iff.2 ⟨a, hx a h1, hf a y h2⟩
theorem map_stay {α β : Type} {x x' : Option α} {f : α → β} {y : β} (hx : ∀ a, x = some a → x' = some a) (h : x.map f = some y) : x'.map f = some y := by
  obtain ⟨a, h1, h2⟩ := Option.map_eq_some_iff.1 h
  exact Option.map_eq_some_iff.2 ⟨a, hx a h1, h2⟩
theorem mapM_mem {α β : Type} {f g : α → Option β} : ∀ {l : List α} {r : List β}, (∀ x ∈ l, ∀ y, f x = some y → g x = some y) → l.mapM f = some r → l.mapM g = some r
  | [], r, _, h => by simpa using h
  | x :: xs, r, hfg, h => by
    rw [List.mapM_cons] at h ⊢
    obtain ⟨a, ha, h2⟩ := Option.bind_eq_some_iff.1 h
    obtain ⟨b, hb, h3⟩ := Option.bind_eq_some_iff.1 h2
    exact Option.bind_eq_some_iff.2 ⟨a, hfg x (by simp) a ha, Option.bind_eq_some_iff.2 ⟨b, mapM_mem (fun z hz => hfg z (by simp [hz])) hb, h3⟩⟩
/-- Types of plain data: numbers, bools, strings, structs, arrays and slices of such. -/
def plainB (P : Program) : Nat → TypeId → Bool
  | 0, _ => false
  | n + 1, t => match P.underlying t with
    | some .bool => true
    | some (.int _) => true
    | some (.float _) => true
    | some .string => true
    | some (.slice e) => Nat.blt 0 (P.cellsOf e) && plainB P n e
    | some (.struct fs) => fs.toList.all fun f => plainB P n f.type
    | some (.array _ e) => plainB P n e
    | _ => false
def Plain (P : Program) (t : TypeId) : Prop := ∃ n, plainB P n t = true
theorem Plain.slice {t e : TypeId} (h : Plain P t) (hu : P.underlying t = some (.slice e)) : 0 < P.cellsOf e ∧ Plain P e := by
  obtain ⟨n, h⟩ := h
  cases n with
  | zero => cases h
  | succ n =>
    simp only [plainB, hu, Bool.and_eq_true] at h
    exact ⟨Nat.le_of_ble_eq_true h.1, n, h.2⟩
theorem Plain.struct {t : TypeId} {fs : Array Field} (h : Plain P t) (hu : P.underlying t = some (.struct fs)) {f : Field} (hf : f ∈ fs.toList) : Plain P f.type := by
  obtain ⟨n, h⟩ := h
  cases n with
  | zero => cases h
  | succ n =>
    simp only [plainB, hu] at h
    exact ⟨n, List.all_eq_true.1 h f hf⟩
theorem Plain.array {t e : TypeId} {m : Nat} (h : Plain P t) (hu : P.underlying t = some (.array m e)) : Plain P e := by
  obtain ⟨n, h⟩ := h
  cases n with
  | zero => cases h
  | succ n =>
    simp only [plainB, hu] at h
    exact ⟨n, h⟩
theorem Plain.noptr {t e : TypeId} (h : Plain P t) (hu : P.underlying t = some (.pointer e)) : False := by
  obtain ⟨n, h⟩ := h
  cases n with
  | zero => cases h
  | succ n => simp [plainB, hu] at h
theorem Plain.noiface {t : TypeId} {ms : Array (String × TypeId)} (h : Plain P t) (hu : P.underlying t = some (.interface ms)) : False := by
  obtain ⟨n, h⟩ := h
  cases n with
  | zero => cases h
  | succ n => simp [plainB, hu] at h
theorem Plain.nomap {t k e : TypeId} (h : Plain P t) (hu : P.underlying t = some (.map k e)) : False := by
  obtain ⟨n, h⟩ := h
  cases n with
  | zero => cases h
  | succ n => simp [plainB, hu] at h
theorem step_stay (hc : ∀ a v, w.cell? a = some v → w'.cell? a = some v) {r r' : TypeId → List Value → Option (DataW H × List MemPlace)}
    (hr : ∀ t, Plain P t → ∀ cs x, r t cs = some x → r' t cs = some x) (hsp : ∀ b, b < w.heap.size → sp b = true) {t : TypeId} (ht : Plain P t) {cs : List Value} {x : DataW H × List MemPlace} (h : DataW.trodStep enc P w base (fun _ => true) held r t cs = some x) : DataW.trodStep enc P w' base sp held r' t cs = some x := by
  unfold DataW.trodStep at h ⊢
  split at h
  case h_6 => rename_i heq; exact (ht.noptr heq).elim
  case h_8 =>
    rename_i e a len cap heq
    have hz := ht.slice heq
    dsimp only at h ⊢
    split at h
    · rename_i hb
      rw [if_pos hb]
      refine bind_stay (fun _ => mapM_mono (fun i y => bind_stay (fun _ => cells_stay hc) (fun _ _ => hr _ hz.2 _ _))) (fun elems z => map_stay (fun rest hrest => ?_)) h
      rw [if_pos rfl] at hrest
      by_cases hs : sp a.block = true
      · rw [if_pos hs]
        exact mapM_mono (fun j y => bind_stay (fun _ => cells_stay hc) (fun _ _ => hr _ hz.2 _ _)) hrest
      · rw [if_neg hs]
        by_cases hcl : cap - len = 0
        · rw [hcl] at hrest
          simpa using hrest
        · obtain ⟨y, hy⟩ := mapM_each hrest 0 (List.mem_range.2 (by omega))
          obtain ⟨l, hl, _⟩ := Option.bind_eq_some_iff.1 hy
          have := cells_lt hl hz.1
          rw [add_block] at this
          exact absurd (hsp _ this) hs
    · cases h
  case h_9 =>
    rename_i heq
    split at h
    · rename_i hb
      rw [if_pos hb]
      exact map_stay (fun _ => mapM_mem (fun f hf y => hr _ (ht.struct heq hf) _ _)) h
    · cases h
  case h_10 =>
    rename_i heq
    split at h
    · rename_i hb
      rw [if_pos hb]
      exact map_stay (fun _ => mapM_mono (fun f y => hr _ (ht.array heq) _ _)) h
    · cases h
  case h_12 => rename_i heq; exact (ht.noiface heq).elim
  case h_14 => rename_i heq; exact (ht.nomap heq).elim
  all_goals first | exact h | (cases h; done)
theorem trod_stay_ (hc : ∀ a v, w.cell? a = some v → w'.cell? a = some v) (hsp : ∀ b, b < w.heap.size → sp b = true) :
    ∀ (n : Nat) (t : TypeId), Plain P t → ∀ (cs : List Value) (x : DataW H × List MemPlace), DataW.trod enc P w base (fun _ => true) held n t cs = some x → DataW.trod enc P w' base sp held n t cs = some x
  | 0, t, _, cs, x, h => by simp [DataW.trod] at h
  | n + 1, t, ht, cs, x, h => step_stay hc (trod_stay_ hc hsp n) hsp ht h
theorem Gr.cells {W W' : World} (g : Gr W W') (a : Addr) (v : Value) (h : W.cell? a = some v) : W'.cell? a = some v := by
  have hlt : a.block < W.heap.size := by
    rcases Nat.lt_or_ge a.block W.heap.size with h' | h'
    · exact h'
    · simp [World.cell?, Array.getElem?_eq_none h'] at h
  rw [World.cell?_of_block (g.block _ hlt)]
  exact h
theorem trodAll_gr {W W' : World} (g : Gr W W') (hsp : ∀ b, b < W.heap.size → sp b = true) : ∀ {ts : List TypeId} {vs : List Value} {ds : List (DataW H)} {p : List MemPlace}, (∀ t ∈ ts, Plain P t) → DataW.TrodAll enc P W base (fun _ => true) held ts vs ds p → DataW.TrodAll enc P W' base sp held ts vs ds p
  | [], vs, ds, p, _, h => by cases vs <;> cases ds <;> first | exact h | cases h
  | t :: ts, vs, ds, p, ht, h => by
    obtain ⟨v, vs', d, ds', p, q, rfl, rfl, rfl, ⟨f, h1⟩, h2⟩ := trodAll_cons h
    exact trodAll_cons_mk ⟨f, trod_stay_ g.cells hsp f _ (ht t (by simp)) _ _ h1⟩ (trodAll_gr g hsp (fun t h => ht t (by simp [h])) h2)
theorem plain_all {ts : List TypeId} (h : (ts.all fun t => plainB P 8 t) = true) : ∀ t ∈ ts, Plain P t := fun t ht => ⟨8, List.all_eq_true.1 h t ht⟩
/-- A law that answers true and leaves what was there as it was. -/
theorem post_of_gr {f : Func} {s : ChangeSpec} {apart fresh handsOn again : Bool} {W W' : World} {args : Array Value} {v : Value} {ds gs : List (DataW H)} {before : List MemPlace} (hz : ∀ t ∈ f.params.toList, Plain P t)
    (hW : DataW.Whole enc P f.params.toList s.vars apart W args.toList ds gs before) (hv : s.vars = []) (hg : Gr W W') (ha : (s.fn H (ds ++ gs)).args = ds) (hvs : (s.fn H (ds ++ gs)).vars = [])
    (hres : ∀ (b : Nat) (sp : Nat → Bool) (hd : Bool), DataW.TrodAll enc P W' b sp hd f.resultTypes.toList (v.resultList f.resultTypes.size) (s.fn H (ds ++ gs)).results [])
    (hok : ∀ (j : Nat) (t : TypeId) (r : Value), f.resultTypes[j]? = some t → (v.resultList f.resultTypes.size)[j]? = some r → Value.okWide P W' .any 0 t r) :
    s.post enc P f apart fresh handsOn again W args v W' := by
  have hW' := hW
  obtain ⟨p, q, hA, hV, rfl, hfz, hnd⟩ := hW
  rw [hv] at hV
  obtain ⟨rfl, rfl⟩ := trodVars_none hV
  have hlt : ∀ x ∈ p ++ [], x.block < W.heap.size := fun x hx => hW'.lt x hx
  have hold : ∀ b, b < W.heap.size → (fun b => decide (b < W.heap.size)) b = true := fun b hb => by simpa using hb
  have h1 : ∀ sp : Nat → Bool, (∀ b, b < W.heap.size → sp b = true) → DataW.TrodAll enc P W' 0 sp true f.params.toList args.toList (s.fn H (ds ++ [])).args p := fun sp hsp => by rw [ha]; exact trodAll_gr hg hsp hz hA
  have hvr : ∀ sp : Nat → Bool, DataW.TrodVars enc P W' sp s.vars (s.fn H (ds ++ [])).vars [] := fun sp => by rw [hv, hvs]; rfl
  refine ⟨ds, [], p ++ [], [], p, [], hW', hres _ _ _, h1 _ hold, hvr _, World.keptBut_mono (fun x hx => ⟨hx, ?_⟩) (hg.frame (· ∈ p ++ [])), fun _ => ?_⟩
  · rw [List.mem_append] at hx
    exact Or.inr hx
  · refine ⟨hok, _, _, ([] ++ p) ++ [], ⟨[] ++ p, [], trodAll_append (h1 _ (fun _ _ => rfl)) (hres _ _ _), hvr _, rfl, ?_, ?_⟩, ?_⟩
    · intro b off hp
      have hin : MemPlace.cell b off ∈ p ++ [] := by simpa using hp
      rw [Below.frozen hg (hlt _ hin)]
      exact hfz b off hin
    · intro hap
      have := hnd hap
      simpa using this
    · intro x hp _
      simpa using hp
end
end Go.Proofs.Ytbcgbcipigcbhaa
/- Arguments, opened: numbers, lists of numbers, cells, rectangles. -/
namespace Go.Proofs.Ytbcgbcipigcbhaa.args
open Go.ChangeShapes Go.WideShapes Go.ChangeAt Go.RowKit Go.Joins
set_option linter.unusedVariables false
set_option linter.unusedSimpArgs false
set_option maxRecDepth 100000

theorem ints_of {H : Type} {enc : TypeId × Value → H} {W : World} {base : Nat} {held : Bool} {fuel : Nat} {v : Value} {x : DataW H × List MemPlace} (h : DataW.trod enc Try.prog W base (fun _ => true) held fuel 22 [v] = some x) :
    ∃ A c xs, v = .slice A xs.length c ∧ xs.length ≤ 9223372036854775807 ∧ (∀ b ∈ xs, -9223372036854775808 ≤ b ∧ b ≤ 9223372036854775807) ∧ Rd W A (ints xs) := by
  rcases open_ints Try.underlying22 Try.underlying2 (by kernel_rfl) h with ⟨h1, _⟩ | ⟨a, len, cap, zs, h1, _, hl, hmx, hz, _, hc, hw⟩
  · injection h1 with h1
    subst h1
    exact ⟨_, _, [], rfl, by simp, (by intro b hb; cases hb), .inl rfl⟩
  · injection h1 with h1
    subst h1
    rw [if_pos rfl] at hz
    have hlen : (zs.take len).length = len := by simp; omega
    refine ⟨some a, cap, zs.take len, by rw [hlen], by rw [hlen]; unfold maxLen at hmx; omega, fun b hb => ?_, ?_⟩
    · have := hw b (List.mem_of_mem_take hb)
      simpa [Lit.wf, IntKind.min, IntKind.max, IntKind.signed, IntKind.bits] using this
    · by_cases h0 : len = 0
      · subst h0; exact .inl rfl
      · have hc0 := hc 0 (by omega)
        have e0 : a.add 0 = a := rfl
        rw [e0] at hc0
        have hlt : a.block < W.heap.size := by
          rcases Nat.lt_or_ge a.block W.heap.size with h' | h'
          · exact h'
          · simp [World.cell?, Array.getElem?_eq_none h'] at hc0
        have hsp : a.spot = none := by
          unfold World.cell? at hc0
          split at hc0
          · split at hc0
            · cases hc0
            · rename_i h; simpa using h
          · cases hc0
        obtain ⟨b, o, sp⟩ := a
        dsimp only at hsp hlt
        subst hsp
        refine .inr ⟨b, o, rfl, hlt, fun j v hj => ?_⟩
        have h3 : j < (ints (zs.take len)).length := (List.getElem?_eq_some_iff.1 hj).1
        rw [ints_len, hlen] at h3
        have h4 := hc j (by omega)
        rw [addr_add] at h4
        rw [h4, ← hj, ints, List.getElem?_map, List.getElem?_take, if_pos (by omega), List.getD_eq_getElem?_getD, List.getElem?_eq_getElem (by omega)]
        rfl
theorem list_of {H : Type} {enc : TypeId × Value → H} {W : World} {base : Nat} {held : Bool} {v : Value} {d : DataW H} {p : List MemPlace} (hv : Value.okWide Try.prog W .any base 22 v) (h : DataW.Trod enc Try.prog W 0 (fun _ => true) held 22 v d p) :
    ∃ A c xs, v = .slice A xs.length c ∧ xs.length ≤ 9223372036854775807 ∧ (∀ b ∈ xs, -9223372036854775808 ≤ b ∧ b ≤ 9223372036854775807) ∧ Rd W A (ints xs) := by
  obtain ⟨A, n, c, rfl⟩ := okWide_slice Try.underlying22 hv
  obtain ⟨f, t⟩ := h
  exact ints_of t
theorem num_of {H : Type} {enc : TypeId × Value → H} {W : World} {base : Nat} {held : Bool} {v : Value} {d : DataW H} {p : List MemPlace} {t : TypeId} (ht : Try.prog.underlying t = some (.int .i64)) (hv : Value.okWide Try.prog W .any base t v) (h : DataW.Trod enc Try.prog W 0 (fun _ => true) held t v d p) :
    ∃ n : Int, v = .int .i64 n ∧ -9223372036854775808 ≤ n ∧ n ≤ 9223372036854775807 := by
  obtain ⟨n, rfl, _, _, w⟩ := open_int ht hv h
  have : -9223372036854775808 ≤ n ∧ n ≤ 9223372036854775807 := by simpa [Lit.wf, IntKind.min, IntKind.max, IntKind.signed, IntKind.bits] using w
  exact ⟨n, rfl, this.1, this.2⟩

/-! ### Cells, rectangles -/
def i64B (n : Int) : Prop := -9223372036854775808 ≤ n ∧ n ≤ 9223372036854775807
theorem cell_of {H : Type} {enc : TypeId × Value → H} {W : World} {base : Nat} {held : Bool} {v : Value} {d : DataW H} {p : List MemPlace} (hv : Value.okWide Try.prog W .any base 44 v) (h : DataW.Trod enc Try.prog W 0 (fun _ => true) held 44 v d p) :
    ∃ x y : Int, v = .agg #[.int .i64 x, .int .i64 y] ∧ i64B x ∧ i64B y := by
  obtain ⟨u0, u1, y0, y1, n, rfl, _, _, t0, t1⟩ := open_agg2 Try.underlying44 (by kernel_rfl) (by kernel_rfl) hv h
  obtain ⟨a, e0, _, w0⟩ := DataW.trod_int Try.underlying2 t0
  obtain ⟨b, e1, _, w1⟩ := DataW.trod_int Try.underlying2 t1
  injection e0 with e0; injection e1 with e1
  subst e0; subst e1
  exact ⟨a, b, rfl, by simpa [i64B, Lit.wf, IntKind.min, IntKind.max, IntKind.signed, IntKind.bits] using w0, by simpa [i64B, Lit.wf, IntKind.min, IntKind.max, IntKind.signed, IntKind.bits] using w1⟩
theorem rect_of {H : Type} {enc : TypeId × Value → H} {W : World} {base : Nat} {held : Bool} {v : Value} {d : DataW H} {p : List MemPlace} (hv : Value.okWide Try.prog W .any base 75 v) (h : DataW.Trod enc Try.prog W 0 (fun _ => true) held 75 v d p) :
    ∃ x0 y0 x1 y1 : Int, v = .agg #[.int .i64 x0, .int .i64 y0, .int .i64 x1, .int .i64 y1] ∧ i64B x0 ∧ i64B y0 ∧ i64B x1 ∧ i64B y1 := by
  obtain ⟨u0, u1, u2, u3, y0, y1, y2, y3, n, rfl, _, _, t0, t1, t2, t3⟩ := open_agg4 Try.underlying75 (by kernel_rfl) (by kernel_rfl) hv h
  obtain ⟨a, e0, _, w0⟩ := DataW.trod_int Try.underlying2 t0
  obtain ⟨b, e1, _, w1⟩ := DataW.trod_int Try.underlying2 t1
  obtain ⟨c, e2, _, w2⟩ := DataW.trod_int Try.underlying2 t2
  obtain ⟨f, e3, _, w3⟩ := DataW.trod_int Try.underlying2 t3
  injection e0 with e0; injection e1 with e1; injection e2 with e2; injection e3 with e3
  subst e0; subst e1; subst e2; subst e3
  exact ⟨a, b, c, f, rfl, by simpa [i64B, Lit.wf, IntKind.min, IntKind.max, IntKind.signed, IntKind.bits] using w0, by simpa [i64B, Lit.wf, IntKind.min, IntKind.max, IntKind.signed, IntKind.bits] using w1,
    by simpa [i64B, Lit.wf, IntKind.min, IntKind.max, IntKind.signed, IntKind.bits] using w2, by simpa [i64B, Lit.wf, IntKind.min, IntKind.max, IntKind.signed, IntKind.bits] using w3⟩
end Go.Proofs.Ytbcgbcipigcbhaa.args
