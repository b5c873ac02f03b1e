/- hachurelaw31.SinkWays, SinkBasins: the walks. -/
import Derived.Test.YtbcgbcipigcbhaaSinkF
import Derived.Test.YtbcgbcipigcbhaaLand
namespace Go.Proofs.Ytbcgbcipigcbhaa
open Go.RowKit
set_option linter.unusedVariables false
set_option linter.unusedSimpArgs false
set_option maxRecDepth 100000

theorem cellsN_ints (n : Nat) (f : Nat → Nat) : cellsN n f = ints ((List.range n).map fun i => (f i : Int)) := by simp [cellsN, ints]
section
variable {P : Program} {e : Nat → Value} {d : Option Tmp} {ty : TypeId} {ps : String} {af : Array Edge}
theorem op_bne {t t' : TypeId} {x y : Operand} {a b B : Bool} (hu : P.underlying t = some .bool) (hx : ev e x = .bool a) (hy : ev e y = .bool b) (hB : (a != b) = B) : OpV P e ⟨d, .binOp .neq t x y t', ty, ps, af, none⟩ (.bool B) := by
  intro w
  subst hB
  have h3 : ∀ n' : Nat, (Op.equalIn (n' + 1) t (.bool a) (.bool b)).run P w = .ok (a == b) w := fun n' => by
    unfold Op.equalIn
    simp [run_underlying hu]
  have h4 : (Op.equal t (.bool a) (.bool b)).run P w = .ok (a == b) w := h3 9999
  simp [OpR, execOp, hx, hy, eqGuard, binOp, h4, bne]
end
section
variable {W : World} {A : Option Addr} {V : List Int}
set_option maxHeartbeats 4000000 in
theorem sinkWays_E (w h x y : Int) (cap : Nat) (hl : V.length ≤ 9223372036854775807) (hA : Rd W A (ints V)) :
    Fn Try.prog 6 [.int .i64 w, .int .i64 h, .slice A V.length cap, .agg #[.int .i64 x, .int .i64 y]] W (RetG (.bool true) W) := by
  by_cases hok : LandOk w h V 1000
  · obtain ⟨gw, rfl⟩ := Int.eq_ofNat_of_zero_le (show 0 ≤ w by have := hok.w1; omega)
    obtain ⟨gh, rfl⟩ := Int.eq_ofNat_of_zero_le (show 0 ≤ h by have := hok.h1; omega)
    have hw : 1 ≤ gw ∧ gw ≤ 1024 := by have := hok.w1; have := hok.wm; omega
    have hh : 1 ≤ gh ∧ gh ≤ 1024 := by have := hok.h1; have := hok.hm; omega
    have hmi : (gw : Int) * gh = ((gw * gh : Nat) : Int) := by push_cast; rfl
    have hVg : V.length = gw * gh := by have := hok.len; rw [hmi] at this; omega
    have hm : gw * gh ≤ 1000 := by have := hok.area; rw [hmi] at this; omega
    have hmay := hok.may
    have hGl := gridL_made hVg
    have hF := flow_fall hw.1 hVg
    cases hin : inG gw gh (x, y) with
    | true =>
      obtain ⟨i, hi, rfl, rfl⟩ := in_cz hin
      obtain ⟨k, hk, hkn⟩ := hF.stop hi
      have hwl : (wayN (flowN gw V) i k).length = k + 1 := wayN_len
      have hsc : ∀ (A1 A2 : Option Addr) (c1 c2 : Nat) (w : World), Rd w A1 (cellsZ ((wayN (flowN gw V) i k).map (cz gw))) → Rd w A2 (cellsZ ((wayN (flowN gw V) i k).map (cz gw))) → Fn Try.prog 31 [.slice A1 (k + 1) c1, .slice A2 (k + 1) c2] w (RetG (.bool true) w) := fun A1 A2 c1 c2 w h1 h2 => by
        have := rcells_E A1 A2 c1 c2 ((wayN (flowN gw V) i k).map (cz gw)) ((wayN (flowN gw V) i k).map (cz gw)) w (by rw [List.length_map, hwl]; omega) h1 h2
        rw [List.length_map, hwl, decide_eq_true rfl] at this
        exact this
      have G := Gr.refl W
      have S := St.start W
      refine Fn_enter Try.func6 rfl Try.results6 Try.ntmps6 (by kernel_rfl) (by kernel_rfl) ?_
      repeat refine cw_seq ?_
      refine cw_region ?_
      refine rw_newB (op_box rfl) S ?_
      intro b_c w2_ g2_ S
      refine rw_v (op_pure rfl) ?_
      first | refine rw_end ?_ | (refine rw_nil ?_; show CW _ _ _ _ _ _) | refine rw_nil ?_
      repeat refine cw_seq ?_
      refine cw_region ?_
      refine rw_call rfl (awake31_E w2_) ?_
      rintro _ w3_ ⟨rfl, g3_⟩
      have S := S.gr g3_
      refine rw_v (op_pure rfl) ?_
      first | refine rw_end ?_ | (refine rw_nil ?_; show CW _ _ _ _ _ _) | refine rw_nil ?_
      repeat refine cw_seq ?_
      refine cw_false rfl ?_
      repeat refine cw_seq ?_
      refine cw_skip ?_
      try show CW _ _ _ _ _ _
      repeat refine cw_seq ?_
      refine cw_region ?_
      iterate 3 refine rw_v (op_pure rfl) ?_
      refine rw_call rfl (land_E gw gh 1000 cap (by omega) hok (hA.gr S.out)) ?_
      rintro _ w4_ ⟨rfl, g4_⟩
      have S := S.gr g4_
      iterate 3 refine rw_v (op_pure rfl) ?_
      refine rw_newB (op_alloc Try.zeroValue25 rfl) S ?_
      intro b_md w6_ g6_ S
      refine rw_storeSA (i := 0) S rfl (Try.sizeOf25 _) rfl rfl rfl rfl rfl rfl ?_
      intro w7_ S
      refine rw_v (op_pure rfl) ?_
      first | refine rw_end ?_ | (refine rw_nil ?_; show CW _ _ _ _ _ _) | refine rw_nil ?_
      repeat refine cw_seq ?_
      refine cw_region ?_
      iterate 2 refine rw_v (op_pure rfl) ?_
      first | refine rw_end ?_ | (refine rw_nil ?_; show CW _ _ _ _ _ _) | refine rw_nil ?_
      repeat refine cw_seq ?_
      refine cw_false rfl ?_
      repeat refine cw_seq ?_
      refine cw_skip ?_
      try show CW _ _ _ _ _ _
      repeat refine cw_seq ?_
      refine cw_region ?_
      iterate 3 refine rw_v (op_pure rfl) ?_
      refine rw_call rfl (made_E gw gh cap hw hh hVg hmay (hA.gr S.out)) ?_
      rintro _ w8_ ⟨p, B, bc, bs, Rs, rfl, hG, hf, g8_⟩
      have S := S.pushGrid hG hf g8_
      iterate 5 refine rw_v (op_pure rfl) ?_
      first | refine rw_end ?_ | (refine rw_nil ?_; show CW _ _ _ _ _ _) | refine rw_nil ?_
      repeat refine cw_seq ?_
      refine cw_region ?_
      iterate 2 refine rw_v (op_pure rfl) ?_
      first | refine rw_end ?_ | (refine rw_nil ?_; show CW _ _ _ _ _ _) | refine rw_nil ?_
      repeat refine cw_seq ?_
      refine cw_false rfl ?_
      repeat refine cw_seq ?_
      refine cw_skip ?_
      try show CW _ _ _ _ _ _
      repeat refine cw_seq ?_
      refine cw_region ?_
      refine rw_v (op_pure rfl) ?_
      refine rw_r (op_loadAB Try.underlying44 rfl (Try.sizeOf44 _) rfl (S.blk (i := 2) rfl) rfl rfl) ?_
      refine rw_call rfl (snext_E i hi (S.grid (i := 0) rfl)) ?_
      rintro _ w9_ ⟨rfl, g9_⟩
      have S := S.gr g9_
      rw [hGl]
      iterate 4 refine rw_v (op_pure rfl) ?_
      refine rw_newB (op_alloc Try.zeroValue44 rfl) S ?_
      intro b_b10 w11_ g11_ S
      refine rw_storeSA (i := 0) S rfl (Try.sizeOf44 _) rfl rfl rfl rfl rfl rfl ?_
      intro w12_ S
      iterate 2 refine rw_v (op_pure rfl) ?_
      first | refine rw_end ?_ | (refine rw_nil ?_; show CW _ _ _ _ _ _) | refine rw_nil ?_
      repeat refine cw_seq ?_
      refine cw_region ?_
      refine rw_v (op_pure rfl) ?_
      refine rw_r (op_loadAB Try.underlying44 rfl (Try.sizeOf44 _) rfl (S.blk (i := 3) rfl) rfl rfl) ?_
      refine rw_call rfl (sway_E i k hi hkn (by rw [hGl]; exact hk) (S.grid (i := 1) rfl)) ?_
      rintro _ w13_ ⟨A_r, c_r, rfl, hR, hFr, g13_⟩
      rw [hGl] at hR
      have S := S.pushRow hR hFr g13_
      iterate 5 refine rw_v (op_pure rfl) ?_
      first | refine rw_end ?_ | (refine rw_nil ?_; show CW _ _ _ _ _ _) | refine rw_nil ?_
      repeat refine cw_seq ?_
      refine cw_region ?_
      refine rw_r (op_loadAB Try.underlying25 rfl (Try.sizeOf25 _) rfl (S.blk (i := 3) rfl) rfl rfl) ?_
      refine rw_r (op_loadAB Try.underlying44 rfl (Try.sizeOf44 _) rfl (S.blk (i := 4) rfl) rfl rfl) ?_
      refine rw_call rfl (matI_E i (by omega) hi hVg (by omega) (hA.gr S.out)) ?_
      rintro _ w14_ ⟨rfl, g14_⟩
      have S := S.gr g14_
      iterate 5 refine rw_v (op_pure rfl) ?_
      first | refine rw_end ?_ | (refine rw_nil ?_; show CW _ _ _ _ _ _) | refine rw_nil ?_
      repeat refine cw_seq ?_
      refine cw_region ?_
      refine rw_v (op_pure rfl) ?_
      refine rw_v (op_b (b := false) rfl (bne_eq_false_iff_eq.2 (by omega))) ?_
      first | refine rw_end ?_ | (refine rw_nil ?_; show CW _ _ _ _ _ _) | refine rw_nil ?_
      repeat refine cw_seq ?_
      refine cw_false rfl ?_
      repeat refine cw_seq ?_
      refine cw_skip ?_
      try show CW _ _ _ _ _ _
      repeat refine cw_seq ?_
      refine cw_region ?_
      refine rw_r (op_loadAB Try.underlying25 rfl (Try.sizeOf25 _) rfl (S.blk (i := 3) rfl) rfl rfl) ?_
      refine rw_r (op_loadAB Try.underlying44 rfl (Try.sizeOf44 _) rfl (S.blk (i := 4) rfl) rfl rfl) ?_
      refine rw_call rfl (rsnext_E i hw.1 hi hVg (by omega) (hA.gr S.out)) ?_
      rintro _ w15_ ⟨rfl, g15_⟩
      have S := S.gr g15_
      iterate 3 refine rw_v (op_pure rfl) ?_
      refine rw_newB (op_alloc Try.zeroValue44 rfl) S ?_
      intro b_x2 w17_ g17_ S
      refine rw_storeSA (i := 0) S rfl (Try.sizeOf44 _) rfl rfl rfl rfl rfl rfl ?_
      intro w18_ S
      refine rw_v (op_pure rfl) ?_
      first | refine rw_end ?_ | (refine rw_nil ?_; show CW _ _ _ _ _ _) | refine rw_nil ?_
      repeat refine cw_seq ?_
      refine cw_region ?_
      refine rw_r (op_loadAB Try.underlying44 rfl (Try.sizeOf44 _) rfl (S.blk (i := 2) rfl) rfl rfl) ?_
      refine rw_r (op_loadAB Try.underlying44 rfl (Try.sizeOf44 _) rfl (S.blk (i := 0) rfl) rfl rfl) ?_
      refine rw_v (op_neCell (r := false) rfl rfl (by simp)) ?_
      refine rw_v (op_pure rfl) ?_
      first | refine rw_off rfl ?_ | (refine rw_on rfl ?_; refine rw_v (op_pure rfl) ?_)
      first | refine rw_off rfl ?_ | (refine rw_on rfl ?_; refine rw_v (op_pure rfl) ?_)
      refine rw_on rfl ?_
      refine rw_v (op_bne (B := false) Try.underlying4 rfl rfl (bne_self_eq_false _)) ?_
      iterate 2 refine rw_v (op_pure rfl) ?_
      first | refine rw_off rfl ?_ | (refine rw_on rfl ?_; refine rw_v (op_pure rfl) ?_)
      first | refine rw_off rfl ?_ | (refine rw_on rfl ?_; (first | refine rw_v (op_b (b := true) rfl (bne_iff_ne.2 (by omega))) ?_ | refine rw_v (op_b (b := false) rfl (bne_eq_false_iff_eq.2 (by omega))) ?_ | refine rw_v (op_pure rfl) ?_))
      iterate 2 refine rw_v (op_pure rfl) ?_
      first | refine rw_off rfl ?_ | (refine rw_on rfl ?_; refine rw_v (op_pure rfl) ?_)
      first | refine rw_off rfl ?_ | (refine rw_on rfl ?_; (first | refine rw_v (op_b (b := true) rfl (bne_iff_ne.2 (by omega))) ?_ | refine rw_v (op_b (b := false) rfl (bne_eq_false_iff_eq.2 (by omega))) ?_ | refine rw_v (op_pure rfl) ?_))
      iterate 2 refine rw_v (op_pure rfl) ?_
      first | refine rw_off rfl ?_ | (refine rw_on rfl ?_; refine rw_v (op_pure rfl) ?_)
      first | refine rw_off rfl ?_ | (refine rw_on rfl ?_; refine rw_r (op_loadAB Try.underlying25 rfl (Try.sizeOf25 _) rfl (S.blk (i := 4) rfl) rfl rfl) ?_)
      first | refine rw_off rfl ?_ | (refine rw_on rfl ?_; refine rw_r (op_loadAB Try.underlying44 rfl (Try.sizeOf44 _) rfl (S.blk (i := 5) rfl) rfl rfl) ?_)
      refine rw_on rfl ?_
      refine rw_call rfl (rsway_E i k hw.1 hi hkn hk hVg (by omega) (hA.gr S.out)) ?_
      rintro _ w19_ ⟨A_want, c_want, rfl, hR_want, hf_want, g19_⟩
      have S := S.pushRow hR_want hf_want g19_
      refine rw_on rfl ?_
      refine rw_call rfl (hsc A_r A_want c_r c_want w19_ (S.rd (i := 2) rfl) (S.rd (i := 0) rfl)) ?_
      rintro _ w20_ ⟨rfl, g20_⟩
      have S := S.gr g20_
      first | refine rw_off rfl ?_ | (refine rw_on rfl ?_; refine rw_v (op_pure rfl) ?_)
      refine rw_v (op_pure rfl) ?_
      first | refine rw_end ?_ | (refine rw_nil ?_; show CW _ _ _ _ _ _) | refine rw_nil ?_
      repeat refine cw_seq ?_
      refine cw_false rfl ?_
      repeat refine cw_seq ?_
      refine cw_skip ?_
      try show CW _ _ _ _ _ _
      repeat refine cw_seq ?_
      refine cw_region ?_
      refine rw_v (op_pure rfl) ?_
      first | refine rw_end ?_ | (refine rw_nil ?_; show CW _ _ _ _ _ _) | refine rw_nil ?_
      repeat refine cw_seq ?_
      refine cw_block ?_
      repeat refine cw_seq ?_
      have S := S.sub (.cons _ (.cons _ (.cons_cons _ (.cons _ (.cons _ (.cons_cons _ (.cons _ (.slnil))))))))
      have sa_r : SomeA A_r := (S.row (i := 0) rfl).someA (by omega)
      refine cw_loop (fun m e w => ∃ j : Nat, j + m = k + 1 ∧ 1 ≤ j ∧ SL e [(9, .pointer (some ⟨b_md, 0, none⟩)), (15, .slice A_r (k + 1) c_r), (21, .int .i64 j)] ∧
        St No W w [.row 44 2 A_r (k + 1) c_r (cellsZ ((wayN (flowN gw V) i k).map (cz gw))), .blk b_md 25 [.int .i64 gw, .int .i64 gh, .slice A V.length cap]]) k
        ⟨1, by omega, by omega, ⟨rfl, rfl, rfl, trivial⟩, S⟩ ?_
      clear S
      rintro m e w ⟨j, hjm, hj1, hsl, S⟩
      rw [hsl.fold]
      repeat refine cw_seq ?_
      refine cw_region ?_
      iterate 2 refine rw_v (op_pure rfl) ?_
      refine rw_v (op_len Try.underlying50 rfl) ?_
      refine rw_v (op_pure rfl) ?_
      first | refine rw_end ?_ | (refine rw_nil ?_; show CW _ _ _ _ _ _) | refine rw_nil ?_
      repeat refine cw_seq ?_
      refine cw_cond rfl (fun hc => ?_) (fun hc => ?_)
      · try simp only [decide_eq_true_eq, decide_eq_false_iff_not, beq_iff_eq, bne_iff_ne, beq_eq_false_iff_ne, bne_eq_false_iff_eq, Bool.not_eq_true', Bool.not_eq_false', ne_eq, Decidable.not_not, Int.natCast_inj, Int.ofNat_lt, Int.ofNat_le, gt_iff_lt, ge_iff_le, Int.not_lt, Int.not_le] at hc
        have ej : (j : Int) - 1 = ((j - 1 : Nat) : Int) := by omega
        have hat : ∀ q, q < k + 1 → ((cellsZ ((wayN (flowN gw V) i k).map (cz gw))).drop ((q : Int).toNat * 2)).take 2 = [.int .i64 (itr (flowN gw V) q i % gw : Nat), .int .i64 (itr (flowN gw V) q i / gw : Nat)] := fun q hq => by
          rw [Int.toNat_natCast]; exact cellsZ_at (c := cz gw (itr (flowN gw V) q i)) (by rw [List.getElem?_map, wayN_get hq]; rfl)
        have hat0 := hat (j - 1) (by omega)
        have hat1 := hat j (by omega)
        have hl0 := hF.itr_lt hi (j - 1)
        have hl1 := hF.itr_lt hi j
        have hfall := (hF.fall _ hl0).resolve_left (hk.1 (j - 1) (by omega))
        have ejj : flowN gw V (itr (flowN gw V) (j - 1) i) = itr (flowN gw V) j i := by
          have : itr (flowN gw V) (j - 1 + 1) i = flowN gw V (itr (flowN gw V) (j - 1) i) := rfl
          rw [← this, show j - 1 + 1 = j by omega]
        rw [ejj] at hfall
        repeat refine cw_seq ?_
        refine cw_skip ?_
        try show CW _ _ _ _ _ _
        repeat refine cw_seq ?_
        refine cw_block ?_
        repeat refine cw_seq ?_
        refine cw_draw (C := fun wq => Gr w wq) [0, 1, 2, 3, 4, 5, 6, 7, 8, 9, 10, 11] [] (by kernel_rfl) (by kernel_rfl) (Gr.drew _) ?_
        simp only [pickL, List.drop_succ_cons, List.drop_zero]
        refine rq_r (fun wq hq => op_loadAB Try.underlying25 rfl (Try.sizeOf25 _) rfl ((S.gr hq).blk (i := 1) rfl) rfl rfl) ?_
        iterate 2 refine rq_v (op_pure rfl) ?_
        refine rq_v (op_rng rfl (by omega)) ?_
        rw [ej]
        refine rq_v (op_idx Try.underlying50 Try.sizeOf44 rfl rfl sa_r (by omega) (by omega)) ?_
        refine rq_r (fun wq hq => op_ldRA Try.underlying44 rfl (Try.sizeOf44 _) rfl ((S.gr hq).rd (i := 0) rfl) hat0 rfl rfl) ?_
        refine rq_call rfl (fun wq hq => (matI_E (W := wq) (itr (flowN gw V) (j - 1) i) (by omega) hl0 hVg (by omega) (hA.gr (S.gr hq).out)).mono (fun _ _ ⟨hv, hg⟩ => ⟨hv, hq.trans hg⟩)) ?_
        iterate 5 refine rq_v (op_pure rfl) ?_
        refine rq_nil ?_
        intro w21_ g21_
        have S := S.gr g21_
        first | refine rw_end ?_ | (refine rw_nil ?_; show CW _ _ _ _ _ _) | refine rw_nil ?_
        repeat refine cw_seq ?_
        refine cw_draw (C := fun wq => Gr w21_ wq) [0, 1, 2, 3, 4, 5, 6, 7, 8, 9, 10] [] (by kernel_rfl) (by kernel_rfl) (Gr.drew _) ?_
        simp only [pickL, List.drop_succ_cons, List.drop_zero]
        refine rq_r (fun wq hq => op_loadAB Try.underlying25 rfl (Try.sizeOf25 _) rfl ((S.gr hq).blk (i := 1) rfl) rfl rfl) ?_
        iterate 2 refine rq_v (op_pure rfl) ?_
        refine rq_v (op_idx Try.underlying50 Try.sizeOf44 rfl rfl sa_r (by omega) (by omega)) ?_
        refine rq_r (fun wq hq => op_ldRA Try.underlying44 rfl (Try.sizeOf44 _) rfl ((S.gr hq).rd (i := 0) rfl) hat1 rfl rfl) ?_
        refine rq_call rfl (fun wq hq => (matI_E (W := wq) (itr (flowN gw V) j i) (by omega) hl1 hVg (by omega) (hA.gr (S.gr hq).out)).mono (fun _ _ ⟨hv, hg⟩ => ⟨hv, hq.trans hg⟩)) ?_
        iterate 5 refine rq_v (op_pure rfl) ?_
        refine rq_nil ?_
        intro w22_ g22_
        have S := S.gr g22_
        first | refine rw_end ?_ | (refine rw_nil ?_; show CW _ _ _ _ _ _) | refine rw_nil ?_
        repeat refine cw_seq ?_
        refine cw_region ?_
        iterate 2 refine rw_v (op_pure rfl) ?_
        refine rw_v (op_b (b := false) rfl (decide_eq_false (by omega))) ?_
        first | refine rw_end ?_ | (refine rw_nil ?_; show CW _ _ _ _ _ _) | refine rw_nil ?_
        repeat refine cw_seq ?_
        refine cw_false rfl ?_
        repeat refine cw_seq ?_
        refine cw_skip ?_
        try show CW _ _ _ _ _ _
        repeat refine cw_seq ?_
        refine cw_region ?_
        refine rw_v (op_pure rfl) ?_
        refine rw_v (op_rng rfl (by omega)) ?_
        refine rw_v (op_pure rfl) ?_
        first | refine rw_end ?_ | (refine rw_nil ?_; show CW _ _ _ _ _ _) | refine rw_nil ?_
        exact ⟨m - 1, by omega, j + 1, by omega, by omega, ⟨rfl, rfl, ie (by omega), trivial⟩, S⟩
      · try simp only [decide_eq_true_eq, decide_eq_false_iff_not, beq_iff_eq, bne_iff_ne, beq_eq_false_iff_ne, bne_eq_false_iff_eq, Bool.not_eq_true', Bool.not_eq_false', ne_eq, Decidable.not_not, Int.natCast_inj, Int.ofNat_lt, Int.ofNat_le, gt_iff_lt, ge_iff_le, Int.not_lt, Int.not_le] at hc
        repeat refine cw_seq ?_
        refine cw_exit ?_
        repeat first | refine exit_then ?_ | refine exit_inb ?_
        show CW _ _ _ _ _ _
        repeat refine cw_seq ?_
        refine cw_region ?_
        refine rw_v (op_pure rfl) ?_
        first | refine rw_end ?_ | (refine rw_nil ?_; show CW _ _ _ _ _ _) | refine rw_nil ?_
        repeat refine cw_seq ?_
        refine cw_ret ?_
        repeat first | refine ret_then ?_ | refine ret_inb ?_
        exact res1 rfl ⟨rfl, S.out⟩
    | false =>
      have G := Gr.refl W
      have S := St.start W
      refine Fn_enter Try.func6 rfl Try.results6 Try.ntmps6 (by kernel_rfl) (by kernel_rfl) ?_
      repeat refine cw_seq ?_
      refine cw_region ?_
      refine rw_newB (op_box rfl) S ?_
      intro b_c w2_ g2_ S
      refine rw_v (op_pure rfl) ?_
      first | refine rw_end ?_ | (refine rw_nil ?_; show CW _ _ _ _ _ _) | refine rw_nil ?_
      repeat refine cw_seq ?_
      refine cw_region ?_
      refine rw_call rfl (awake31_E w2_) ?_
      rintro _ w3_ ⟨rfl, g3_⟩
      have S := S.gr g3_
      refine rw_v (op_pure rfl) ?_
      first | refine rw_end ?_ | (refine rw_nil ?_; show CW _ _ _ _ _ _) | refine rw_nil ?_
      repeat refine cw_seq ?_
      refine cw_false rfl ?_
      repeat refine cw_seq ?_
      refine cw_skip ?_
      try show CW _ _ _ _ _ _
      repeat refine cw_seq ?_
      refine cw_region ?_
      iterate 3 refine rw_v (op_pure rfl) ?_
      refine rw_call rfl (land_E gw gh 1000 cap (by omega) hok (hA.gr S.out)) ?_
      rintro _ w4_ ⟨rfl, g4_⟩
      have S := S.gr g4_
      iterate 3 refine rw_v (op_pure rfl) ?_
      refine rw_newB (op_alloc Try.zeroValue25 rfl) S ?_
      intro b_md w6_ g6_ S
      refine rw_storeSA (i := 0) S rfl (Try.sizeOf25 _) rfl rfl rfl rfl rfl rfl ?_
      intro w7_ S
      refine rw_v (op_pure rfl) ?_
      first | refine rw_end ?_ | (refine rw_nil ?_; show CW _ _ _ _ _ _) | refine rw_nil ?_
      repeat refine cw_seq ?_
      refine cw_region ?_
      iterate 2 refine rw_v (op_pure rfl) ?_
      first | refine rw_end ?_ | (refine rw_nil ?_; show CW _ _ _ _ _ _) | refine rw_nil ?_
      repeat refine cw_seq ?_
      refine cw_false rfl ?_
      repeat refine cw_seq ?_
      refine cw_skip ?_
      try show CW _ _ _ _ _ _
      repeat refine cw_seq ?_
      refine cw_region ?_
      iterate 3 refine rw_v (op_pure rfl) ?_
      refine rw_call rfl (made_E gw gh cap hw hh hVg hmay (hA.gr S.out)) ?_
      rintro _ w8_ ⟨p, B, bc, bs, Rs, rfl, hG, hf, g8_⟩
      have S := S.pushGrid hG hf g8_
      iterate 5 refine rw_v (op_pure rfl) ?_
      first | refine rw_end ?_ | (refine rw_nil ?_; show CW _ _ _ _ _ _) | refine rw_nil ?_
      repeat refine cw_seq ?_
      refine cw_region ?_
      iterate 2 refine rw_v (op_pure rfl) ?_
      first | refine rw_end ?_ | (refine rw_nil ?_; show CW _ _ _ _ _ _) | refine rw_nil ?_
      repeat refine cw_seq ?_
      refine cw_false rfl ?_
      repeat refine cw_seq ?_
      refine cw_skip ?_
      try show CW _ _ _ _ _ _
      repeat refine cw_seq ?_
      refine cw_region ?_
      refine rw_v (op_pure rfl) ?_
      refine rw_r (op_loadAB Try.underlying44 rfl (Try.sizeOf44 _) rfl (S.blk (i := 2) rfl) rfl rfl) ?_
      refine rw_call rfl (snextNo_E x y hin (S.grid (i := 0) rfl)) ?_
      rintro _ w9_ ⟨rfl, g9_⟩
      have S := S.gr g9_
      iterate 4 refine rw_v (op_pure rfl) ?_
      refine rw_newB (op_alloc Try.zeroValue44 rfl) S ?_
      intro b_b10 w11_ g11_ S
      refine rw_storeSA (i := 0) S rfl (Try.sizeOf44 _) rfl rfl rfl rfl rfl rfl ?_
      intro w12_ S
      iterate 2 refine rw_v (op_pure rfl) ?_
      first | refine rw_end ?_ | (refine rw_nil ?_; show CW _ _ _ _ _ _) | refine rw_nil ?_
      repeat refine cw_seq ?_
      refine cw_region ?_
      refine rw_v (op_pure rfl) ?_
      refine rw_r (op_loadAB Try.underlying44 rfl (Try.sizeOf44 _) rfl (S.blk (i := 3) rfl) rfl rfl) ?_
      refine rw_call rfl (swayNo_E x y hin (S.grid (i := 1) rfl)) ?_
      rintro _ w13_ ⟨rfl, g13_⟩
      have S := S.gr g13_
      iterate 5 refine rw_v (op_pure rfl) ?_
      first | refine rw_end ?_ | (refine rw_nil ?_; show CW _ _ _ _ _ _) | refine rw_nil ?_
      repeat refine cw_seq ?_
      refine cw_region ?_
      refine rw_r (op_loadAB Try.underlying25 rfl (Try.sizeOf25 _) rfl (S.blk (i := 2) rfl) rfl rfl) ?_
      refine rw_r (op_loadAB Try.underlying44 rfl (Try.sizeOf44 _) rfl (S.blk (i := 3) rfl) rfl rfl) ?_
      refine rw_call rfl (matNo_E (W := w13_) x y V.length hin) ?_
      rintro _ w14_ ⟨rfl, g14_⟩
      have S := S.gr g14_
      iterate 5 refine rw_v (op_pure rfl) ?_
      first | refine rw_end ?_ | (refine rw_nil ?_; show CW _ _ _ _ _ _) | refine rw_nil ?_
      repeat refine cw_seq ?_
      refine cw_region ?_
      refine rw_v (op_pure rfl) ?_
      refine rw_v (op_b (b := true) rfl (bne_iff_ne.2 (by omega))) ?_
      first | refine rw_end ?_ | (refine rw_nil ?_; show CW _ _ _ _ _ _) | refine rw_nil ?_
      repeat refine cw_seq ?_
      refine cw_true rfl ?_
      repeat refine cw_seq ?_
      refine cw_region ?_
      refine rw_r (op_loadAB Try.underlying44 rfl (Try.sizeOf44 _) rfl (S.blk (i := 0) rfl) rfl rfl) ?_
      refine rw_v (op_build (pl := [(0, 1), (1, 1)]) Try.underlying44 Try.zeroValue44 (fun w => by kernel_rfl) rfl rfl) ?_
      refine rw_v (op_eqCell (r := true) rfl rfl (by simp)) ?_
      refine rw_v (op_pure rfl) ?_
      first | refine rw_off rfl ?_ | (refine rw_on rfl ?_; refine rw_v (op_pure rfl) ?_)
      first | refine rw_off rfl ?_ | (refine rw_on rfl ?_; refine rw_v (op_pure rfl) ?_)
      iterate 2 refine rw_v (op_pure rfl) ?_
      first | refine rw_off rfl ?_ | (refine rw_on rfl ?_; refine rw_v (op_pure rfl) ?_)
      first | refine rw_off rfl ?_ | (refine rw_on rfl ?_; refine rw_v (op_pure rfl) ?_)
      first | refine rw_off rfl ?_ | (refine rw_on rfl ?_; refine rw_v (op_b (b := true) rfl (beq_iff_eq.2 (by omega))) ?_)
      iterate 2 refine rw_v (op_pure rfl) ?_
      first | refine rw_off rfl ?_ | (refine rw_on rfl ?_; refine rw_v (op_pure rfl) ?_)
      first | refine rw_off rfl ?_ | (refine rw_on rfl ?_; refine rw_v (op_len Try.underlying50 rfl) ?_)
      first | refine rw_off rfl ?_ | (refine rw_on rfl ?_; refine rw_v (op_b (b := true) rfl (beq_iff_eq.2 (by omega))) ?_)
      iterate 2 refine rw_v (op_pure rfl) ?_
      first | refine rw_off rfl ?_ | (refine rw_on rfl ?_; refine rw_v (op_pure rfl) ?_)
      first | refine rw_off rfl ?_ | (refine rw_on rfl ?_; refine rw_v (op_pure rfl) ?_)
      first | refine rw_off rfl ?_ | (refine rw_on rfl ?_; refine rw_v (op_b (b := true) rfl (beq_iff_eq.2 (by omega))) ?_)
      iterate 2 refine rw_v (op_pure rfl) ?_
      first | refine rw_end ?_ | (refine rw_nil ?_; show CW _ _ _ _ _ _) | refine rw_nil ?_
      repeat refine cw_seq ?_
      refine cw_ret ?_
      repeat first | refine ret_then ?_ | refine ret_inb ?_
      exact res1 rfl ⟨rfl, S.out⟩
  · skip
    have G := Gr.refl W
    have S := St.start W
    refine Fn_enter Try.func6 rfl Try.results6 Try.ntmps6 (by kernel_rfl) (by kernel_rfl) ?_
    repeat refine cw_seq ?_
    refine cw_region ?_
    refine rw_newB (op_box rfl) S ?_
    intro b_c w2_ g2_ S
    refine rw_v (op_pure rfl) ?_
    first | refine rw_end ?_ | (refine rw_nil ?_; show CW _ _ _ _ _ _) | refine rw_nil ?_
    repeat refine cw_seq ?_
    refine cw_region ?_
    refine rw_call rfl (awake31_E w2_) ?_
    rintro _ w3_ ⟨rfl, g3_⟩
    have S := S.gr g3_
    refine rw_v (op_pure rfl) ?_
    first | refine rw_end ?_ | (refine rw_nil ?_; show CW _ _ _ _ _ _) | refine rw_nil ?_
    repeat refine cw_seq ?_
    refine cw_false rfl ?_
    repeat refine cw_seq ?_
    refine cw_skip ?_
    try show CW _ _ _ _ _ _
    repeat refine cw_seq ?_
    refine cw_region ?_
    iterate 3 refine rw_v (op_pure rfl) ?_
    refine rw_call rfl (landNo_E w h 1000 cap (by omega) hl hok (hA.gr S.out)) ?_
    rintro _ w4_ ⟨rfl, g4_⟩
    have S := S.gr g4_
    iterate 3 refine rw_v (op_pure rfl) ?_
    refine rw_newB (op_alloc Try.zeroValue25 rfl) S ?_
    intro b_b5 w6_ g6_ S
    refine rw_storeSA (i := 0) S rfl (Try.sizeOf25 _) rfl rfl rfl rfl rfl rfl ?_
    intro w7_ S
    refine rw_v (op_pure rfl) ?_
    first | refine rw_end ?_ | (refine rw_nil ?_; show CW _ _ _ _ _ _) | refine rw_nil ?_
    repeat refine cw_seq ?_
    refine cw_region ?_
    iterate 2 refine rw_v (op_pure rfl) ?_
    first | refine rw_end ?_ | (refine rw_nil ?_; show CW _ _ _ _ _ _) | refine rw_nil ?_
    repeat refine cw_seq ?_
    refine cw_true rfl ?_
    repeat refine cw_seq ?_
    refine cw_region ?_
    refine rw_v (op_pure rfl) ?_
    first | refine rw_end ?_ | (refine rw_nil ?_; show CW _ _ _ _ _ _) | refine rw_nil ?_
    repeat refine cw_seq ?_
    refine cw_ret ?_
    repeat first | refine ret_then ?_ | refine ret_inb ?_
    exact res1 rfl ⟨rfl, S.out⟩
set_option maxHeartbeats 4000000 in
theorem sinkBasins_E (w h : Int) (cap : Nat) (hl : V.length ≤ 9223372036854775807) (hA : Rd W A (ints V)) :
    Fn Try.prog 5 [.int .i64 w, .int .i64 h, .slice A V.length cap] W (RetG (.bool true) W) := by
  by_cases hok : LandOk w h V 1000
  · obtain ⟨gw, rfl⟩ := Int.eq_ofNat_of_zero_le (show 0 ≤ w by have := hok.w1; omega)
    obtain ⟨gh, rfl⟩ := Int.eq_ofNat_of_zero_le (show 0 ≤ h by have := hok.h1; omega)
    have hw : 1 ≤ gw ∧ gw ≤ 1024 := by have := hok.w1; have := hok.wm; omega
    have hh : 1 ≤ gh ∧ gh ≤ 1024 := by have := hok.h1; have := hok.hm; omega
    have hmi : (gw : Int) * gh = ((gw * gh : Nat) : Int) := by push_cast; rfl
    have hVg : V.length = gw * gh := by have := hok.len; rw [hmi] at this; omega
    have hm : gw * gh ≤ 1000 := by have := hok.area; rw [hmi] at this; omega
    have hmay := hok.may
    have hGl := gridL_made hVg
    have hF := flow_fall hw.1 hVg
    obtain ⟨s, hs⟩ : ∃ s, s = sinkN (flowN gw V) (gw * gh) := ⟨_, rfl⟩
    have hfl := firsts_len (s := s) (n := gw * gh)
    have hsl : ∀ (A1 A2 : Option Addr) (c1 c2 : Nat) (w : World), Rd w A1 (cellsN (gw * gh) (labS s (gw * gh))) → Rd w A2 (cellsN (gw * gh) (labS s (gw * gh))) → Fn Try.prog 30 [.slice A1 (gw * gh) c1, .slice A2 (gw * gh) c2] w (RetG (.bool true) w) := fun A1 A2 c1 c2 w h1 h2 => by
      rw [cellsN_ints] at h1 h2
      have := rsame_E A1 A2 c1 c2 ((List.range (gw * gh)).map fun i => (labS s (gw * gh) i : Int)) ((List.range (gw * gh)).map fun i => (labS s (gw * gh) i : Int)) w (by rw [List.length_map, List.length_range]; omega) h1 h2
      rw [List.length_map, List.length_range, decide_eq_true rfl] at this
      exact this
    have hsc : ∀ (A1 A2 : Option Addr) (c1 c2 : Nat) (w : World), Rd w A1 (cellsZ ((firsts s (gw * gh)).map (cz gw))) → Rd w A2 (cellsZ ((firsts s (gw * gh)).map (cz gw))) → Fn Try.prog 31 [.slice A1 (firsts s (gw * gh)).length c1, .slice A2 (firsts s (gw * gh)).length c2] w (RetG (.bool true) w) := fun A1 A2 c1 c2 w h1 h2 => by
      have := rcells_E A1 A2 c1 c2 ((firsts s (gw * gh)).map (cz gw)) ((firsts s (gw * gh)).map (cz gw)) w (by rw [List.length_map]; omega) h1 h2
      rw [List.length_map, decide_eq_true rfl] at this
      exact this
    have G := Gr.refl W
    have S := St.start W
    refine Fn_enter Try.func5 rfl Try.results5 Try.ntmps5 (by kernel_rfl) (by kernel_rfl) ?_
    repeat refine cw_seq ?_
    refine cw_region ?_
    refine rw_v (op_pure rfl) ?_
    first | refine rw_end ?_ | (refine rw_nil ?_; show CW _ _ _ _ _ _) | refine rw_nil ?_
    repeat refine cw_seq ?_
    refine cw_region ?_
    refine rw_call rfl (awake31_E W) ?_
    rintro _ w1_ ⟨rfl, g1_⟩
    have S := S.gr g1_
    refine rw_v (op_pure rfl) ?_
    first | refine rw_end ?_ | (refine rw_nil ?_; show CW _ _ _ _ _ _) | refine rw_nil ?_
    repeat refine cw_seq ?_
    refine cw_false rfl ?_
    repeat refine cw_seq ?_
    refine cw_skip ?_
    try show CW _ _ _ _ _ _
    repeat refine cw_seq ?_
    refine cw_region ?_
    iterate 3 refine rw_v (op_pure rfl) ?_
    refine rw_call rfl (land_E gw gh 1000 cap (by omega) hok (hA.gr S.out)) ?_
    rintro _ w2_ ⟨rfl, g2_⟩
    have S := S.gr g2_
    iterate 3 refine rw_v (op_pure rfl) ?_
    refine rw_newB (op_alloc Try.zeroValue25 rfl) S ?_
    intro b_md w4_ g4_ S
    refine rw_storeSA (i := 0) S rfl (Try.sizeOf25 _) rfl rfl rfl rfl rfl rfl ?_
    intro w5_ S
    refine rw_v (op_pure rfl) ?_
    first | refine rw_end ?_ | (refine rw_nil ?_; show CW _ _ _ _ _ _) | refine rw_nil ?_
    repeat refine cw_seq ?_
    refine cw_region ?_
    iterate 2 refine rw_v (op_pure rfl) ?_
    first | refine rw_end ?_ | (refine rw_nil ?_; show CW _ _ _ _ _ _) | refine rw_nil ?_
    repeat refine cw_seq ?_
    refine cw_false rfl ?_
    repeat refine cw_seq ?_
    refine cw_skip ?_
    try show CW _ _ _ _ _ _
    repeat refine cw_seq ?_
    refine cw_region ?_
    iterate 3 refine rw_v (op_pure rfl) ?_
    refine rw_call rfl (made_E gw gh cap hw hh hVg hmay (hA.gr S.out)) ?_
    rintro _ w6_ ⟨p, B, bc, bs, Rs, rfl, hG, hf, g6_⟩
    have S := S.pushGrid hG hf g6_
    iterate 5 refine rw_v (op_pure rfl) ?_
    first | refine rw_end ?_ | (refine rw_nil ?_; show CW _ _ _ _ _ _) | refine rw_nil ?_
    repeat refine cw_seq ?_
    refine cw_region ?_
    iterate 2 refine rw_v (op_pure rfl) ?_
    first | refine rw_end ?_ | (refine rw_nil ?_; show CW _ _ _ _ _ _) | refine rw_nil ?_
    repeat refine cw_seq ?_
    refine cw_false rfl ?_
    repeat refine cw_seq ?_
    refine cw_skip ?_
    try show CW _ _ _ _ _ _
    repeat refine cw_seq ?_
    refine cw_region ?_
    refine rw_v (op_pure rfl) ?_
    refine rw_call rfl (sbas_E (S.grid (i := 0) rfl)) ?_
    rintro _ w7_ ⟨A1, c1, A2, c2, rfl, hR1, hF1, hR2, hF2, hd, g7_⟩
    rw [hGl, ← hs] at hR1 hR2
    rw [hGl, ← hs]
    have S := S.push2 g7_ (h1 := .row 2 1 A1 _ c1 _) (h2 := .row 44 2 A2 _ c2 _) hR1 hR2 hF1 hF2 hd
    iterate 7 refine rw_v (op_pure rfl) ?_
    first | refine rw_end ?_ | (refine rw_nil ?_; show CW _ _ _ _ _ _) | refine rw_nil ?_
    repeat refine cw_seq ?_
    refine cw_region ?_
    refine rw_r (op_loadAB Try.underlying25 rfl (Try.sizeOf25 _) rfl (S.blk (i := 3) rfl) rfl rfl) ?_
    refine rw_call rfl (rsbas_E hw.1 hVg (by omega) (hA.gr S.out)) ?_
    rintro _ w8_ ⟨A3, c3, A4, c4, rfl, hR3, hF3, hR4, hF4, hd, g8_⟩
    rw [← hs] at hR3 hR4
    rw [← hs]
    have S := S.push2 g8_ (h1 := .row 2 1 A3 _ c3 _) (h2 := .row 44 2 A4 _ c4 _) hR3 hR4 hF3 hF4 hd
    iterate 5 refine rw_v (op_pure rfl) ?_
    first | refine rw_end ?_ | (refine rw_nil ?_; show CW _ _ _ _ _ _) | refine rw_nil ?_
    repeat refine cw_seq ?_
    refine cw_region ?_
    refine rw_v (op_pure rfl) ?_
    refine rw_v (op_b (b := false) rfl (bne_eq_false_iff_eq.2 (by omega))) ?_
    refine rw_v (op_pure rfl) ?_
    first | refine rw_off rfl ?_ | (refine rw_on rfl ?_; refine rw_v (op_pure rfl) ?_)
    first | refine rw_off rfl ?_ | (refine rw_on rfl ?_; refine rw_v (op_pure rfl) ?_)
    refine rw_on rfl ?_
    refine rw_call rfl (hsl A1 A3 c1 c3 w8_ (S.rd (i := 2) rfl) (S.rd (i := 0) rfl)) ?_
    rintro _ w9_ ⟨rfl, g9_⟩
    have S := S.gr g9_
    first | refine rw_off rfl ?_ | (refine rw_on rfl ?_; refine rw_v (op_pure rfl) ?_)
    iterate 2 refine rw_v (op_pure rfl) ?_
    first | refine rw_off rfl ?_ | (refine rw_on rfl ?_; refine rw_v (op_pure rfl) ?_)
    first | refine rw_off rfl ?_ | (refine rw_on rfl ?_; refine rw_v (op_pure rfl) ?_)
    refine rw_on rfl ?_
    refine rw_call rfl (hsc A2 A4 c2 c4 w9_ (S.rd (i := 3) rfl) (S.rd (i := 1) rfl)) ?_
    rintro _ w10_ ⟨rfl, g10_⟩
    have S := S.gr g10_
    first | refine rw_off rfl ?_ | (refine rw_on rfl ?_; refine rw_v (op_pure rfl) ?_)
    refine rw_v (op_pure rfl) ?_
    first | refine rw_end ?_ | (refine rw_nil ?_; show CW _ _ _ _ _ _) | refine rw_nil ?_
    repeat refine cw_seq ?_
    refine cw_false rfl ?_
    repeat refine cw_seq ?_
    refine cw_skip ?_
    try show CW _ _ _ _ _ _
    repeat refine cw_seq ?_
    refine cw_region ?_
    refine rw_v (op_pure rfl) ?_
    first | refine rw_end ?_ | (refine rw_nil ?_; show CW _ _ _ _ _ _) | refine rw_nil ?_
    repeat refine cw_seq ?_
    refine cw_block ?_
    repeat refine cw_seq ?_
    have S := S.sub (.cons _ (.cons _ (.cons_cons _ (.cons_cons _ (.cons_cons _ (.cons _ (.slnil)))))))
    have sa1 : SomeA A1 := (S.row (i := 0) rfl).someA (Nat.mul_pos (by omega) (by omega))
    refine cw_loop (fun m e w => ∃ j : Nat, j + m = (firsts s (gw * gh)).length ∧ SL e [(0, .int .i64 gw), (9, .pointer (some ⟨p, 0, none⟩)), (10, .slice A1 (gw * gh) c1), (11, .slice A2 (firsts s (gw * gh)).length c2), (15, .int .i64 j)] ∧
      St No W w [.row 2 1 A1 (gw * gh) c1 (cellsN (gw * gh) (labS s (gw * gh))), .row 44 2 A2 (firsts s (gw * gh)).length c2 (cellsZ ((firsts s (gw * gh)).map (cz gw))), .grid p gw gh (fun i => V.getD i 0) B bc bs Rs]) (firsts s (gw * gh)).length
      ⟨0, by omega, ⟨rfl, rfl, rfl, rfl, rfl, trivial⟩, S⟩ ?_
    clear S
    rintro m e w ⟨j, hjm, hsl1, S⟩
    rw [hsl1.fold]
    repeat refine cw_seq ?_
    refine cw_region ?_
    iterate 2 refine rw_v (op_pure rfl) ?_
    refine rw_v (op_len Try.underlying50 rfl) ?_
    refine rw_v (op_pure rfl) ?_
    first | refine rw_end ?_ | (refine rw_nil ?_; show CW _ _ _ _ _ _) | refine rw_nil ?_
    repeat refine cw_seq ?_
    refine cw_cond rfl (fun hc => ?_) (fun hc => ?_)
    · try simp only [decide_eq_true_eq, decide_eq_false_iff_not, beq_iff_eq, bne_iff_ne, beq_eq_false_iff_ne, bne_eq_false_iff_eq, Bool.not_eq_true', Bool.not_eq_false', ne_eq, Decidable.not_not, Int.natCast_inj, Int.ofNat_lt, Int.ofNat_le, gt_iff_lt, ge_iff_le, Int.not_lt, Int.not_le] at hc
      have hjl : j < (firsts s (gw * gh)).length := by omega
      have sa_A2_ : SomeA A2 := (S.row (i := 1) rfl).someA (by omega)
      have sa_A1_ : SomeA A1 := sa1
      obtain ⟨a, ha⟩ : ∃ a, (firsts s (gw * gh))[j]? = some a := ⟨_, List.getElem?_eq_getElem hjl⟩
      obtain ⟨q, hq, hqa⟩ := firsts_of (List.mem_of_getElem? ha)
      have hal : a < gw * gh := by rw [← hqa, hs]; exact hF.sink_lt hq
      have hfa : flowN gw V a = a := by rw [← hqa, hs]; exact hF.sink_fix hq
      have hsa : s a = a := by rw [hs]; exact sink_here _ hfa
      have hlab : labS s (gw * gh) a = j + 1 := by
        have hj2 : (firsts s (gw * gh))[j] = a := by rw [List.getElem?_eq_getElem hjl] at ha; exact Option.some.inj ha
        unfold labS
        rw [hsa, ← hj2, List.Nodup.idxOf_getElem firsts_nodup]
      have hat : ((cellsZ ((firsts s (gw * gh)).map (cz gw))).drop ((j : Int).toNat * 2)).take 2 = [.int .i64 (a % gw : Nat), .int .i64 (a / gw : Nat)] := by
        rw [Int.toNat_natCast]; exact cellsZ_at (c := cz gw a) (by rw [List.getElem?_map, ha]; rfl)
      have hax : (cellsZ ((firsts s (gw * gh)).map (cz gw)))[(j : Int).toNat * 2 + 0]? = some (.int .i64 (a % gw : Nat)) := by
        rw [Int.toNat_natCast]; exact cellsZ_x (c := cz gw a) (by rw [List.getElem?_map, ha]; rfl)
      have hay : (cellsZ ((firsts s (gw * gh)).map (cz gw)))[(j : Int).toNat * 2 + 1]? = some (.int .i64 (a / gw : Nat)) := by
        rw [Int.toNat_natCast]; exact cellsZ_y (c := cz gw a) (by rw [List.getElem?_map, ha]; rfl)
      have hgl : (cellsN (gw * gh) (labS s (gw * gh)))[((a : Nat) : Int).toNat * 1]? = some (.int .i64 (j + 1 : Nat)) := by rw [Nat.mul_one, Int.toNat_natCast, cellsN_get hal, hlab]
      have hnx := fun w hG => snext_E (W := w) (p := p) (A := B) (cap := bc) (bs := bs) (Rs := Rs) (cc := fun i => V.getD i 0) a hal hG
      rw [hGl, hfa] at hnx
      have hidx : ((a / gw : Nat) : Int) * gw + ((a % gw : Nat) : Int) = (a : Int) := by
        have := Nat.div_add_mod a gw
        rw [Nat.mul_comm] at this
        rw [← Int.natCast_mul, ← Int.natCast_add, this]
      have hprod : 0 ≤ ((a / gw : Nat) : Int) * gw ∧ ((a / gw : Nat) : Int) * gw ≤ 1000 := by
        have h0 : 0 ≤ ((a % gw : Nat) : Int) := by exact Int.natCast_nonneg _
        have h1 : (0 : Int) ≤ ((a / gw : Nat) : Int) * gw := Int.mul_nonneg (Int.natCast_nonneg _) (Int.natCast_nonneg _)
        generalize ((a / gw : Nat) : Int) * gw = P at *
        generalize ((a % gw : Nat) : Int) = Q at *
        omega
      have hdec : (!decide (a = a)) = false := by simp
      rw [hdec] at hnx
      generalize a / gw = Y at *
      generalize a % gw = X at *
      repeat refine cw_seq ?_
      refine cw_skip ?_
      try show CW _ _ _ _ _ _
      repeat refine cw_seq ?_
      refine cw_block ?_
      repeat refine cw_seq ?_
      refine cw_region ?_
      iterate 3 refine rw_v (op_pure rfl) ?_
      refine rw_v (op_idx Try.underlying50 Try.sizeOf44 rfl rfl sa_A2_ (by omega) (by omega)) ?_
      refine rw_r (op_ldRA Try.underlying44 rfl (Try.sizeOf44 _) rfl (S.rd (i := 1) rfl) hat rfl rfl) ?_
      refine rw_call rfl (hnx w (S.grid (i := 2) rfl)) ?_
      rintro _ w11_ ⟨rfl, g11_⟩
      have S := S.gr g11_
      iterate 4 refine rw_v (op_pure rfl) ?_
      refine rw_newB (op_alloc Try.zeroValue44 rfl) S ?_
      intro b_nx w13_ g13_ S
      refine rw_storeSA (i := 0) S rfl (Try.sizeOf44 _) rfl rfl rfl rfl rfl rfl ?_
      intro w14_ S
      iterate 2 refine rw_v (op_pure rfl) ?_
      first | refine rw_end ?_ | (refine rw_nil ?_; show CW _ _ _ _ _ _) | refine rw_nil ?_
      repeat refine cw_seq ?_
      refine cw_draw (C := fun wq => Gr w14_ wq) [0, 1, 2, 3, 4, 5, 6, 7, 8, 9, 10, 11, 12, 13, 14, 15, 16, 17, 18, 19, 20, 21, 22, 23, 24, 25] [] (by kernel_rfl) (by kernel_rfl) (Gr.drew _) ?_
      simp only [pickL, List.drop_succ_cons, List.drop_zero]
      iterate 2 refine rq_v (op_pure rfl) ?_
      first | refine rq_off rfl ?_ | (refine rq_on rfl ?_; refine rq_v (op_pure rfl) ?_)
      first | refine rq_off rfl ?_ | (refine rq_on rfl ?_; refine rq_v (op_b (b := false) rfl (bne_eq_false_iff_eq.2 (by omega))) ?_)
      iterate 2 refine rq_v (op_pure rfl) ?_
      first | refine rq_off rfl ?_ | (refine rq_on rfl ?_; refine rq_v (op_pure rfl) ?_)
      first | refine rq_off rfl ?_ | (refine rq_on rfl ?_; refine rq_v (op_pure rfl) ?_)
      first | refine rq_off rfl ?_ | (refine rq_on rfl ?_; refine rq_v (op_pure rfl) ?_)
      first | refine rq_off rfl ?_ | (refine rq_on rfl ?_; refine rq_v (op_idx Try.underlying50 Try.sizeOf44 rfl rfl sa_A2_ (by omega) (by omega)) ?_)
      first | refine rq_off rfl ?_ | (refine rq_on rfl ?_; refine rq_v (op_fld Try.underlying44 rfl Try.sizeOf2 rfl rfl sa_A2_) ?_)
      first | refine rq_off rfl ?_ | (refine rq_on rfl ?_; refine rq_r (fun wq hq => op_ldR Try.underlying2 rfl rfl ((S.gr hq).rd (i := 2) rfl) hay) ?_)
      first | refine rq_off rfl ?_ | (refine rq_on rfl ?_; refine rq_v (op_pure rfl) ?_)
      first | refine rq_off rfl ?_ | (refine rq_on rfl ?_; refine rq_v (op_rng rfl (by generalize (Y : Int) * gw = P at *; omega)) ?_)
      first | refine rq_off rfl ?_ | (refine rq_on rfl ?_; refine rq_v (op_pure rfl) ?_)
      first | refine rq_off rfl ?_ | (refine rq_on rfl ?_; refine rq_v (op_pure rfl) ?_)
      first | refine rq_off rfl ?_ | (refine rq_on rfl ?_; refine rq_v (op_idx Try.underlying50 Try.sizeOf44 rfl rfl sa_A2_ (by omega) (by omega)) ?_)
      first | refine rq_off rfl ?_ | (refine rq_on rfl ?_; refine rq_v (op_fld Try.underlying44 rfl Try.sizeOf2 rfl rfl sa_A2_) ?_)
      first | refine rq_off rfl ?_ | (refine rq_on rfl ?_; refine rq_r (fun wq hq => op_ldR Try.underlying2 rfl rfl ((S.gr hq).rd (i := 2) rfl) hax) ?_)
      first | refine rq_off rfl ?_ | (refine rq_on rfl ?_; refine rq_v (op_rng rfl (by rw [hidx]; omega)) ?_)
      rw [hidx]
      first | refine rq_off rfl ?_ | (refine rq_on rfl ?_; refine rq_v (op_idx Try.underlying22 Try.sizeOf2 rfl rfl sa_A1_ (by omega) (by omega)) ?_)
      first | refine rq_off rfl ?_ | (refine rq_on rfl ?_; refine rq_r (fun wq hq => op_ldR Try.underlying2 rfl rfl ((S.gr hq).rd (i := 1) rfl) hgl) ?_)
      first | refine rq_off rfl ?_ | (refine rq_on rfl ?_; refine rq_v (op_pure rfl) ?_)
      first | refine rq_off rfl ?_ | (refine rq_on rfl ?_; refine rq_v (op_rng rfl (by omega)) ?_)
      first | refine rq_off rfl ?_ | (refine rq_on rfl ?_; refine rq_v (op_b (b := false) rfl (bne_eq_false_iff_eq.2 (by omega))) ?_)
      refine rq_v (op_pure rfl) ?_
      refine rq_nil ?_
      intro w15_ g15_
      have S := S.gr g15_
      first | refine rw_end ?_ | (refine rw_nil ?_; show CW _ _ _ _ _ _) | refine rw_nil ?_
      repeat refine cw_seq ?_
      refine cw_false rfl ?_
      repeat refine cw_seq ?_
      refine cw_skip ?_
      try show CW _ _ _ _ _ _
      repeat refine cw_seq ?_
      refine cw_region ?_
      refine rw_v (op_pure rfl) ?_
      refine rw_v (op_rng rfl (by omega)) ?_
      refine rw_v (op_pure rfl) ?_
      first | refine rw_end ?_ | (refine rw_nil ?_; show CW _ _ _ _ _ _) | refine rw_nil ?_
      exact ⟨m - 1, by omega, j + 1, by omega, ⟨rfl, rfl, rfl, rfl, ie (by omega), trivial⟩, S.drop 1⟩
    · try simp only [decide_eq_true_eq, decide_eq_false_iff_not, beq_iff_eq, bne_iff_ne, beq_eq_false_iff_ne, bne_eq_false_iff_eq, Bool.not_eq_true', Bool.not_eq_false', ne_eq, Decidable.not_not, Int.natCast_inj, Int.ofNat_lt, Int.ofNat_le, gt_iff_lt, ge_iff_le, Int.not_lt, Int.not_le] at hc
      repeat refine cw_seq ?_
      refine cw_exit ?_
      repeat first | refine exit_then ?_ | refine exit_inb ?_
      show CW _ _ _ _ _ _
      repeat refine cw_seq ?_
      refine cw_region ?_
      refine rw_v (op_pure rfl) ?_
      first | refine rw_end ?_ | (refine rw_nil ?_; show CW _ _ _ _ _ _) | refine rw_nil ?_
      repeat refine cw_seq ?_
      refine cw_ret ?_
      repeat first | refine ret_then ?_ | refine ret_inb ?_
      exact res1 rfl ⟨rfl, S.out⟩
  · skip
    have G := Gr.refl W
    have S := St.start W
    refine Fn_enter Try.func5 rfl Try.results5 Try.ntmps5 (by kernel_rfl) (by kernel_rfl) ?_
    repeat refine cw_seq ?_
    refine cw_region ?_
    refine rw_v (op_pure rfl) ?_
    first | refine rw_end ?_ | (refine rw_nil ?_; show CW _ _ _ _ _ _) | refine rw_nil ?_
    repeat refine cw_seq ?_
    refine cw_region ?_
    refine rw_call rfl (awake31_E W) ?_
    rintro _ w1_ ⟨rfl, g1_⟩
    have S := S.gr g1_
    refine rw_v (op_pure rfl) ?_
    first | refine rw_end ?_ | (refine rw_nil ?_; show CW _ _ _ _ _ _) | refine rw_nil ?_
    repeat refine cw_seq ?_
    refine cw_false rfl ?_
    repeat refine cw_seq ?_
    refine cw_skip ?_
    try show CW _ _ _ _ _ _
    repeat refine cw_seq ?_
    refine cw_region ?_
    iterate 3 refine rw_v (op_pure rfl) ?_
    refine rw_call rfl (landNo_E w h 1000 cap (by omega) hl hok (hA.gr S.out)) ?_
    rintro _ w2_ ⟨rfl, g2_⟩
    have S := S.gr g2_
    iterate 3 refine rw_v (op_pure rfl) ?_
    refine rw_newB (op_alloc Try.zeroValue25 rfl) S ?_
    intro b_b3 w4_ g4_ S
    refine rw_storeSA (i := 0) S rfl (Try.sizeOf25 _) rfl rfl rfl rfl rfl rfl ?_
    intro w5_ S
    refine rw_v (op_pure rfl) ?_
    first | refine rw_end ?_ | (refine rw_nil ?_; show CW _ _ _ _ _ _) | refine rw_nil ?_
    repeat refine cw_seq ?_
    refine cw_region ?_
    iterate 2 refine rw_v (op_pure rfl) ?_
    first | refine rw_end ?_ | (refine rw_nil ?_; show CW _ _ _ _ _ _) | refine rw_nil ?_
    repeat refine cw_seq ?_
    refine cw_true rfl ?_
    repeat refine cw_seq ?_
    refine cw_region ?_
    refine rw_v (op_pure rfl) ?_
    first | refine rw_end ?_ | (refine rw_nil ?_; show CW _ _ _ _ _ _) | refine rw_nil ?_
    repeat refine cw_seq ?_
    refine cw_ret ?_
    repeat first | refine ret_then ?_ | refine ret_inb ?_
    exact res1 rfl ⟨rfl, S.out⟩
end
end Go.Proofs.Ytbcgbcipigcbhaa
