/- hachureref31.Basins: contract; the chapter's example. -/
import Derived.Test.YtbcgbcipigcbhaaWetL
import Derived.Test.YtbcgbcipigcbhaaWetC
import Derived.RangeFuncRecord
namespace Go.Proofs.Ytbcgbcipigcbhaa
open Go.RowKit
set_option linter.unusedVariables false
set_option linter.unusedSimpArgs false
set_option maxRecDepth 100000

theorem cz_eq {gw a b : Nat} : ((cz gw a).1 = (cz gw b).1 ∧ (cz gw a).2 = (cz gw b).2) ↔ a = b :=
  ⟨fun h => cz_inj (Prod.ext h.1 h.2), fun h => by rw [h]; exact ⟨rfl, rfl⟩⟩
section
variable {W : World} {A B : Option Addr} {p gw gh cap c : Nat} {cc : Nat → Int} {bs : Nat → Nat} {Rs : Nat → Option Nat} {V : List Int}
set_option maxHeartbeats 4000000 in
theorem rsbas_E (hgw : 1 ≤ gw) (hV : V.length = gw * gh) (hm : gw * gh ≤ 1048576) (hA : Rd W A (ints V)) : Fn Try.prog 29 [modV gw gh A V.length cap] W
    (RetBas gw (gw * gh) (sinkN (flowN gw V) (gw * gh)) (fun a b => .tuple #[a, b]) W) := by
  have hF := flow_fall hgw hV
  have emul : (gw : Int) * gh = ((gw * gh : Nat) : Int) := by push_cast; rfl
  have S := St.start W
  refine Fn_enter Try.func29 rfl Try.results29 Try.ntmps29 (by kernel_rfl) (by kernel_rfl) ?_
  repeat refine cw_seq ?_
  refine cw_region ?_
  refine rw_newB (op_box rfl) S ?_
  intro b_md w2_ g2_ S
  iterate 2 refine rw_v (op_pure rfl) ?_
  first | refine rw_end ?_ | (refine rw_nil ?_; show CW _ _ _ _ _ _) | refine rw_nil ?_
  repeat refine cw_seq ?_
  refine cw_region ?_
  refine rw_buildS0 Try.underlying22 Try.sizeOf2 S ?_
  intro A_lb w4_ g4_ S sa_lb
  refine rw_v (op_pure rfl) ?_
  first | refine rw_end ?_ | (refine rw_nil ?_; show CW _ _ _ _ _ _) | refine rw_nil ?_
  repeat refine cw_seq ?_
  refine cw_region ?_
  refine rw_buildS0 Try.underlying50 Try.sizeOf44 S ?_
  intro A_cl w6_ g6_ S sa_cl
  refine rw_v (op_pure rfl) ?_
  first | refine rw_end ?_ | (refine rw_nil ?_; show CW _ _ _ _ _ _) | refine rw_nil ?_
  repeat refine cw_seq ?_
  refine cw_region ?_
  refine rw_v (op_pure rfl) ?_
  first | refine rw_end ?_ | (refine rw_nil ?_; show CW _ _ _ _ _ _) | refine rw_nil ?_
  repeat refine cw_seq ?_
  refine cw_block ?_
  repeat refine cw_seq ?_
  refine cw_loop (fun m e w => ∃ (k : Nat) (A_lb : Option Addr) (c_lb : Nat) (A_cl : Option Addr) (c_cl : Nat), k + m = gw * gh ∧ SL e [(1, .pointer (some ⟨b_md, 0, none⟩)), (4, .slice A_lb k c_lb), (5, .slice A_cl (firsts (sinkN (flowN gw V) (gw * gh)) k).length c_cl), (6, .int .i64 k)] ∧
    St No W w [.row 44 2 A_cl (firsts (sinkN (flowN gw V) (gw * gh)) k).length c_cl (cellsZ ((firsts (sinkN (flowN gw V) (gw * gh)) k).map (cz gw))), .row 2 1 A_lb k c_lb (cellsN k (labS (sinkN (flowN gw V) (gw * gh)) (gw * gh))), .blk b_md 25 [.int .i64 gw, .int .i64 gh, .slice A V.length cap]]) (gw * gh)
    ⟨0, A_lb, 0, A_cl, 0, by omega, ⟨rfl, rfl, rfl, rfl, trivial⟩, S⟩ ?_
  clear S
  rintro m e w ⟨k, A_lb, c_lb, A_cl, c_cl, hkm, hsl, S⟩
  rw [hsl.fold]
  repeat refine cw_seq ?_
  refine cw_region ?_
  refine rw_v (op_pure rfl) ?_
  refine rw_v (op_fieldAddr Try.underlying25 rfl Try.sizeOf2 rfl rfl) ?_
  refine rw_r (op_loadB Try.underlying2 rfl rfl (S.blk (i := 2) rfl) rfl) ?_
  refine rw_v (op_fieldAddr Try.underlying25 rfl Try.sizeOf2 rfl rfl) ?_
  refine rw_r (op_loadB Try.underlying2 rfl rfl (S.blk (i := 2) rfl) rfl) ?_
  refine rw_v (op_rng rfl (by omega)) ?_
  rw [emul]
  refine rw_v (op_pure rfl) ?_
  first | refine rw_end ?_ | (refine rw_nil ?_; show CW _ _ _ _ _ _) | refine rw_nil ?_
  repeat refine cw_seq ?_
  refine cw_cond rfl (fun hc => ?_) (fun hc => ?_)
  · try simp only [decide_eq_true_eq, decide_eq_false_iff_not, beq_iff_eq, bne_iff_ne, beq_eq_false_iff_ne, bne_eq_false_iff_eq, Bool.not_eq_true', Bool.not_eq_false', ne_eq, Decidable.not_not, Int.natCast_inj, Int.ofNat_lt, Int.ofNat_le, gt_iff_lt, ge_iff_le, Int.not_lt, Int.not_le] at hc
    have hkn : k < gw * gh := by omega
    have e1 : (k : Int) % gw = ((k % gw : Nat) : Int) := by push_cast; rfl
    have e2 : (k : Int) / gw = ((k / gw : Nat) : Int) := by push_cast; rfl
    obtain ⟨z, hz, hzn⟩ := hF.stop hkn
    have hend := hF.sink_eq hz hkn
    repeat refine cw_seq ?_
    refine cw_skip ?_
    try show CW _ _ _ _ _ _
    repeat refine cw_seq ?_
    refine cw_block ?_
    repeat refine cw_seq ?_
    refine cw_draw (C := fun wq => Gr w wq) [0, 1, 2, 3, 4, 5, 6, 7, 8, 9] [10, 11] (by kernel_rfl) (by kernel_rfl) (Gr.drew _) ?_
    simp only [pickL, List.drop_succ_cons, List.drop_zero]
    refine rq_r (fun wq hq => op_loadAB Try.underlying25 rfl (Try.sizeOf25 _) rfl ((S.gr hq).blk (i := 2) rfl) rfl rfl) ?_
    refine rq_v (op_pure rfl) ?_
    refine rq_v (op_fieldAddr Try.underlying25 rfl Try.sizeOf2 rfl rfl) ?_
    refine rq_r (fun wq hq => op_loadB Try.underlying2 rfl rfl ((S.gr hq).blk (i := 2) rfl) rfl) ?_
    refine rq_v (op_rem rfl rfl (by omega) (by omega)) ?_
    rw [e1]
    refine rq_v (op_pure rfl) ?_
    refine rq_v (op_fieldAddr Try.underlying25 rfl Try.sizeOf2 rfl rfl) ?_
    refine rq_r (fun wq hq => op_loadB Try.underlying2 rfl rfl ((S.gr hq).blk (i := 2) rfl) rfl) ?_
    refine rq_v (op_div rfl rfl (by omega) (by omega)) ?_
    rw [e2]
    refine rq_v (op_build (pl := [(0, 1), (1, 1)]) Try.underlying44 Try.zeroValue44 (fun w => by kernel_rfl) rfl rfl) ?_
    refine rq_nil ?_
    intro w7_ g7_
    have S := S.gr g7_
    refine rw_call rfl (rsway_E (W := w7_) (cap := cap) k z hgw hkn hzn hz hV hm (hA.gr S.out)) ?_
    rintro _ w8_ ⟨A_way, c_way, rfl, hR_way, hf_way, g8_⟩
    have S := S.pushRow hR_way hf_way g8_
    refine rw_v (op_pure rfl) ?_
    first | refine rw_end ?_ | (refine rw_nil ?_; show CW _ _ _ _ _ _) | refine rw_nil ?_
    have hlast := wayN_last (f := flowN gw V) (c := k) (k := z)
    rw [← hend] at hlast
    have ez : ((z + 1 : Nat) : Int) - 1 = (z : Int) := by omega
    have sa_way : SomeA A_way := (S.row (i := 0) rfl).someA (by omega)
    have hat : ((cellsZ ((wayN (flowN gw V) k z).map (cz gw))).drop ((z : Int).toNat * 2)).take 2 = [.int .i64 (cz gw (sinkN (flowN gw V) (gw * gh) k)).1, .int .i64 (cz gw (sinkN (flowN gw V) (gw * gh) k)).2] := by
      rw [Int.toNat_natCast]; exact cellsZ_at (by rw [List.getElem?_map, hlast]; rfl)
    generalize sinkN (flowN gw V) (gw * gh) = s2 at *
    repeat refine cw_seq ?_
    refine cw_region ?_
    iterate 2 refine rw_v (op_pure rfl) ?_
    refine rw_v (op_len Try.underlying50 rfl) ?_
    refine rw_v (op_rng rfl (by omega)) ?_
    rw [ez]
    refine rw_v (op_idx Try.underlying50 Try.sizeOf44 rfl rfl sa_way (by omega) (by omega)) ?_
    refine rw_r (op_ldRA Try.underlying44 rfl (Try.sizeOf44 _) rfl (S.rd (i := 0) rfl) hat rfl rfl) ?_
    refine rw_newB (op_alloc Try.zeroValue44 rfl) S ?_
    intro b_own w10_ g10_ S
    refine rw_storeSA (i := 0) S rfl (Try.sizeOf44 _) rfl rfl rfl rfl rfl rfl ?_
    intro w11_ S
    first | refine rw_end ?_ | (refine rw_nil ?_; show CW _ _ _ _ _ _) | refine rw_nil ?_
    repeat refine cw_seq ?_
    refine cw_region ?_
    refine rw_v (op_pure rfl) ?_
    first | refine rw_end ?_ | (refine rw_nil ?_; show CW _ _ _ _ _ _) | refine rw_nil ?_
    repeat refine cw_seq ?_
    refine cw_block ?_
    repeat refine cw_seq ?_
    have S := S.sub (.cons_cons _ (.cons _ (.cons_cons _ (.cons_cons _ (.cons_cons _ (.slnil))))))
    have hfl := firsts_len (s := s2) (n := k)
    have sa_cl : 0 < (firsts s2 k).length → SomeA A_cl := fun h => (S.row (i := 1) rfl).someA h
    refine cw_loop (fun m e w => ∃ q : Nat, q + m = (firsts s2 k).length ∧ (∀ j, j < q → (firsts s2 k)[j]? ≠ some (s2 k)) ∧ SL e [(1, .pointer (some ⟨b_md, 0, none⟩)), (4, .slice A_lb k c_lb), (5, .slice A_cl (firsts s2 k).length c_cl), (6, .int .i64 k), (8, .pointer (some ⟨b_own, 0, none⟩)), (9, .int .i64 q)] ∧
      St No W w [.blk b_own 44 [.int .i64 (cz gw (s2 k)).1, .int .i64 (cz gw (s2 k)).2], .row 44 2 A_cl (firsts s2 k).length c_cl (cellsZ ((firsts s2 k).map (cz gw))), .row 2 1 A_lb k c_lb (cellsN k (labS s2 (gw * gh))), .blk b_md 25 [.int .i64 gw, .int .i64 gh, .slice A V.length cap]]) (firsts s2 k).length
      ⟨0, by omega, fun j hj => by omega, ⟨rfl, rfl, rfl, rfl, rfl, rfl, trivial⟩, S⟩ ?_
    clear S
    rintro m2 e w2 ⟨q, hqm, hq, hsl2, S⟩
    rw [hsl2.fold]
    have hpushI : ∀ v : Int, v = (labS s2 (gw * gh) k : Nat) → cellsN k (labS s2 (gw * gh)) ++ [.int .i64 v] = cellsN (k + 1) (labS s2 (gw * gh)) := fun v hv => by
      rw [hv]; unfold cellsN; rw [List.range_succ, List.map_append]; rfl
    by_cases hql : q < (firsts s2 k).length
    · have sa_cl := sa_cl (by omega)
      obtain ⟨a, ha⟩ : ∃ a, (firsts s2 k)[q]? = some a := ⟨_, List.getElem?_eq_getElem hql⟩
      have hat2 : ((cellsZ ((firsts s2 k).map (cz gw))).drop ((q : Int).toNat * 2)).take 2 = [.int .i64 (cz gw a).1, .int .i64 (cz gw a).2] := by
        rw [Int.toNat_natCast]; exact cellsZ_at (by rw [List.getElem?_map, ha]; rfl)
      by_cases hav : a = s2 k
      · have hin : s2 k ∈ firsts s2 k := hav ▸ List.mem_of_getElem? ha
        obtain ⟨hlab, hfs⟩ := labS_old hkn hin
        have hqi : (firsts s2 k).idxOf (s2 k) = q := by
          have h1 := List.idxOf_lt_length_of_mem hin
          have h2 := List.getElem?_eq_getElem h1
          rw [List.getElem_idxOf] at h2
          rcases Nat.lt_trichotomy ((firsts s2 k).idxOf (s2 k)) q with h | h | h
          · exact absurd h2 (hq _ h)
          · exact h
          · have h3 := (List.getElem?_inj h1 firsts_nodup).1 (h2.trans (by rw [ha, hav]))
            exact h3 ▸ rfl
        repeat refine cw_seq ?_
        refine cw_draw (C := fun wq => Gr w2 wq) [0, 1, 2, 3, 4, 5, 6, 7, 8, 9, 10, 11] [] (by kernel_rfl) (by kernel_rfl) (Gr.drew _) ?_
        simp only [pickL, List.drop_succ_cons, List.drop_zero]
        iterate 2 refine rq_v (op_pure rfl) ?_
        refine rq_v (op_len Try.underlying50 rfl) ?_
        refine rq_v (op_b (b := true) rfl (decide_eq_true (by omega))) ?_
        refine rq_v (op_pure rfl) ?_
        first | refine rq_off rfl ?_ | (refine rq_on rfl ?_; refine rq_v (op_pure rfl) ?_)
        first | refine rq_off rfl ?_ | (refine rq_on rfl ?_; refine rq_v (op_pure rfl) ?_)
        first | refine rq_off rfl ?_ | (refine rq_on rfl ?_; refine rq_v (op_idx Try.underlying50 Try.sizeOf44 rfl rfl sa_cl (by omega) (by omega)) ?_)
        first | refine rq_off rfl ?_ | (refine rq_on rfl ?_; refine rq_r (fun wq hq => op_ldRA Try.underlying44 rfl (Try.sizeOf44 _) rfl ((S.gr hq).rd (i := 1) rfl) hat2 rfl rfl) ?_)
        first | refine rq_off rfl ?_ | (refine rq_on rfl ?_; refine rq_r (fun wq hq => op_loadAB Try.underlying44 rfl (Try.sizeOf44 _) rfl ((S.gr hq).blk (i := 0) rfl) rfl rfl) ?_)
        refine rq_on rfl ?_
        refine rq_v (op_neCell (r := false) rfl rfl (by rw [decide_eq_true (cz_eq.2 hav)]; rfl)) ?_
        refine rq_v (op_pure rfl) ?_
        refine rq_nil ?_
        intro w12_ g12_
        have S := S.gr g12_
        first | refine rw_end ?_ | (refine rw_nil ?_; show CW _ _ _ _ _ _) | refine rw_nil ?_
        repeat refine cw_seq ?_
        refine cw_false rfl ?_
        repeat refine cw_seq ?_
        refine cw_exit ?_
        repeat first | refine exit_then ?_ | refine exit_inb ?_
        show CW _ _ _ _ _ _
        repeat refine cw_seq ?_
        refine cw_region ?_
        iterate 2 refine rw_v (op_pure rfl) ?_
        refine rw_v (op_len Try.underlying50 rfl) ?_
        refine rw_v (op_b (b := false) rfl (beq_eq_false_iff_ne.2 (by omega))) ?_
        first | refine rw_end ?_ | (refine rw_nil ?_; show CW _ _ _ _ _ _) | refine rw_nil ?_
        repeat refine cw_seq ?_
        refine cw_false rfl ?_
        repeat refine cw_seq ?_
        refine cw_skip ?_
        try show CW _ _ _ _ _ _
        repeat refine cw_seq ?_
        refine cw_region ?_
        iterate 2 refine rw_v (op_pure rfl) ?_
        refine rw_v (op_rng rfl (by omega)) ?_
        refine rw_buildS Try.underlying22 Try.sizeOf2 Try.zeroValue2 rfl rfl rfl rfl rfl rfl S ?_
        intro A_lit w14_ g14_ S sa_lit
        refine rw_appS (i := 3) S rfl (fun h => rfl) Try.underlying22 info_t2 rfl rfl rfl rfl (by simp) (by omega) (S.rd (i := 0) rfl) rfl (by omega) ?_
        intro A_lb2 c_lb2 w15_ S sa_lb
        refine rw_v (op_pure rfl) ?_
        first | refine rw_end ?_ | (refine rw_nil ?_; show CW _ _ _ _ _ _) | refine rw_nil ?_
        repeat refine cw_seq ?_
        refine cw_region ?_
        refine rw_v (op_pure rfl) ?_
        refine rw_v (op_rng rfl (by omega)) ?_
        refine rw_v (op_pure rfl) ?_
        first | refine rw_end ?_ | (refine rw_nil ?_; show CW _ _ _ _ _ _) | refine rw_nil ?_
        have S := S.sub (.cons _ (.cons _ (.cons_cons _ (.cons_cons _ (.cons_cons _ (.slnil))))))
        rw [hpushI ((q : Int) + 1) (by rw [hlab, hqi]; push_cast; rfl), ← hfs] at S
        exact ⟨m - 1, by omega, k + 1, A_lb2, c_lb2, A_cl, c_cl, by omega, ⟨rfl, rfl, by rw [hfs]; rfl, ie (by omega), trivial⟩, S⟩
      · skip
        repeat refine cw_seq ?_
        refine cw_draw (C := fun wq => Gr w2 wq) [0, 1, 2, 3, 4, 5, 6, 7, 8, 9, 10, 11] [] (by kernel_rfl) (by kernel_rfl) (Gr.drew _) ?_
        simp only [pickL, List.drop_succ_cons, List.drop_zero]
        iterate 2 refine rq_v (op_pure rfl) ?_
        refine rq_v (op_len Try.underlying50 rfl) ?_
        refine rq_v (op_b (b := true) rfl (decide_eq_true (by omega))) ?_
        refine rq_v (op_pure rfl) ?_
        first | refine rq_off rfl ?_ | (refine rq_on rfl ?_; refine rq_v (op_pure rfl) ?_)
        first | refine rq_off rfl ?_ | (refine rq_on rfl ?_; refine rq_v (op_pure rfl) ?_)
        first | refine rq_off rfl ?_ | (refine rq_on rfl ?_; refine rq_v (op_idx Try.underlying50 Try.sizeOf44 rfl rfl sa_cl (by omega) (by omega)) ?_)
        first | refine rq_off rfl ?_ | (refine rq_on rfl ?_; refine rq_r (fun wq hq => op_ldRA Try.underlying44 rfl (Try.sizeOf44 _) rfl ((S.gr hq).rd (i := 1) rfl) hat2 rfl rfl) ?_)
        first | refine rq_off rfl ?_ | (refine rq_on rfl ?_; refine rq_r (fun wq hq => op_loadAB Try.underlying44 rfl (Try.sizeOf44 _) rfl ((S.gr hq).blk (i := 0) rfl) rfl rfl) ?_)
        refine rq_on rfl ?_
        refine rq_v (op_neCell (r := true) rfl rfl (by rw [decide_eq_false (fun h => hav (cz_eq.1 h))]; rfl)) ?_
        refine rq_v (op_pure rfl) ?_
        refine rq_nil ?_
        intro w16_ g16_
        have S := S.gr g16_
        first | refine rw_end ?_ | (refine rw_nil ?_; show CW _ _ _ _ _ _) | refine rw_nil ?_
        repeat refine cw_seq ?_
        refine cw_true rfl ?_
        repeat refine cw_seq ?_
        refine cw_skip ?_
        try show CW _ _ _ _ _ _
        repeat refine cw_seq ?_
        refine cw_block ?_
        repeat refine cw_seq ?_
        refine cw_region ?_
        refine rw_v (op_pure rfl) ?_
        refine rw_v (op_rng rfl (by omega)) ?_
        refine rw_v (op_pure rfl) ?_
        first | refine rw_end ?_ | (refine rw_nil ?_; show CW _ _ _ _ _ _) | refine rw_nil ?_
        exact ⟨m2 - 1, by omega, q + 1, by omega, fun j hj => by
          by_cases e : j = q
          · rw [e, ha]; exact fun h => hav (by injection h)
          · exact hq j (by omega), ⟨rfl, rfl, rfl, rfl, rfl, ie (by omega), trivial⟩, S⟩
    · obtain rfl : q = (firsts s2 k).length := by omega
      have hin : s2 k ∉ firsts s2 k := fun h => by
        obtain ⟨j, hj, he⟩ := List.mem_iff_getElem.1 h
        exact hq j hj (by rw [List.getElem?_eq_getElem hj, he])
      obtain ⟨hlab, hfs⟩ := labS_new hkn hin
      repeat refine cw_seq ?_
      refine cw_draw (C := fun wq => Gr w2 wq) [0, 1, 2, 3, 4, 5, 6, 7, 8, 9, 10, 11] [] (by kernel_rfl) (by kernel_rfl) (Gr.drew _) ?_
      simp only [pickL, List.drop_succ_cons, List.drop_zero]
      iterate 2 refine rq_v (op_pure rfl) ?_
      refine rq_v (op_len Try.underlying50 rfl) ?_
      refine rq_v (op_b (b := false) rfl (decide_eq_false (by omega))) ?_
      refine rq_v (op_pure rfl) ?_
      refine rq_off rfl ?_
      refine rq_off rfl ?_
      refine rq_off rfl ?_
      refine rq_off rfl ?_
      refine rq_off rfl ?_
      refine rq_off rfl ?_
      refine rq_v (op_pure rfl) ?_
      refine rq_nil ?_
      intro w17_ g17_
      have S := S.gr g17_
      first | refine rw_end ?_ | (refine rw_nil ?_; show CW _ _ _ _ _ _) | refine rw_nil ?_
      repeat refine cw_seq ?_
      refine cw_false rfl ?_
      repeat refine cw_seq ?_
      refine cw_exit ?_
      repeat first | refine exit_then ?_ | refine exit_inb ?_
      show CW _ _ _ _ _ _
      repeat refine cw_seq ?_
      refine cw_region ?_
      iterate 2 refine rw_v (op_pure rfl) ?_
      refine rw_v (op_len Try.underlying50 rfl) ?_
      refine rw_v (op_b (b := true) rfl (beq_iff_eq.2 (by omega))) ?_
      first | refine rw_end ?_ | (refine rw_nil ?_; show CW _ _ _ _ _ _) | refine rw_nil ?_
      repeat refine cw_seq ?_
      refine cw_true rfl ?_
      repeat refine cw_seq ?_
      refine cw_region ?_
      refine rw_v (op_pure rfl) ?_
      refine rw_r (op_loadAB Try.underlying44 rfl (Try.sizeOf44 _) rfl (S.blk (i := 0) rfl) rfl rfl) ?_
      refine rw_buildS Try.underlying50 Try.sizeOf44 Try.zeroValue44 rfl rfl rfl rfl rfl rfl S ?_
      intro A_litc w19_ g19_ S sa_litc
      refine rw_appS (i := 2) S rfl (fun h => rfl) Try.underlying50 info_t44 rfl rfl rfl rfl (by simp) (by omega) (S.rd (i := 0) rfl) rfl (by omega) ?_
      intro A_cl2 c_cl2 w20_ S sa_cl
      refine rw_v (op_pure rfl) ?_
      first | refine rw_end ?_ | (refine rw_nil ?_; show CW _ _ _ _ _ _) | refine rw_nil ?_
      repeat refine cw_seq ?_
      refine cw_region ?_
      iterate 2 refine rw_v (op_pure rfl) ?_
      refine rw_v (op_rng rfl (by omega)) ?_
      refine rw_buildS Try.underlying22 Try.sizeOf2 Try.zeroValue2 rfl rfl rfl rfl rfl rfl S ?_
      intro A_lit w22_ g22_ S sa_lit
      refine rw_appS (i := 4) S rfl (fun h => rfl) Try.underlying22 info_t2 rfl rfl rfl rfl (by simp) (by omega) (S.rd (i := 0) rfl) rfl (by omega) ?_
      intro A_lb2 c_lb2 w23_ S sa_lb
      refine rw_v (op_pure rfl) ?_
      first | refine rw_end ?_ | (refine rw_nil ?_; show CW _ _ _ _ _ _) | refine rw_nil ?_
      repeat refine cw_seq ?_
      refine cw_region ?_
      refine rw_v (op_pure rfl) ?_
      refine rw_v (op_rng rfl (by omega)) ?_
      refine rw_v (op_pure rfl) ?_
      first | refine rw_end ?_ | (refine rw_nil ?_; show CW _ _ _ _ _ _) | refine rw_nil ?_
      have S := S.sub (.cons _ (.cons _ (.cons _ (.cons_cons _ (.cons_cons _ (.cons_cons _ (.slnil)))))))
      have hl2 : (firsts s2 (k + 1)).length = (firsts s2 k).length + 1 := by rw [hfs]; simp
      have hpc : cellsZ ((firsts s2 k).map (cz gw)) ++ [.int .i64 (cz gw (s2 k)).1, .int .i64 (cz gw (s2 k)).2] = cellsZ ((firsts s2 (k + 1)).map (cz gw)) := by rw [hfs]; exact cellsZ_push gw _ _
      rw [hpushI _ (by rw [hlab]; push_cast; rfl), hpc] at S
      exact ⟨m - 1, by omega, k + 1, A_lb2, c_lb2, A_cl2, c_cl2, by omega, ⟨rfl, rfl, by rw [hl2]; rfl, ie (by omega), trivial⟩, by rw [hl2]; exact S⟩
  · try simp only [decide_eq_true_eq, decide_eq_false_iff_not, beq_iff_eq, bne_iff_ne, beq_eq_false_iff_ne, bne_eq_false_iff_eq, Bool.not_eq_true', Bool.not_eq_false', ne_eq, Decidable.not_not, Int.natCast_inj, Int.ofNat_lt, Int.ofNat_le, gt_iff_lt, ge_iff_le, Int.not_lt, Int.not_le] at hc
    obtain rfl : k = gw * gh := by omega
    repeat refine cw_seq ?_
    refine cw_exit ?_
    repeat first | refine exit_then ?_ | refine exit_inb ?_
    show CW _ _ _ _ _ _
    repeat refine cw_seq ?_
    refine cw_region ?_
    iterate 4 refine rw_v (op_pure rfl) ?_
    first | refine rw_end ?_ | (refine rw_nil ?_; show CW _ _ _ _ _ _) | refine rw_nil ?_
    repeat refine cw_seq ?_
    refine cw_ret ?_
    repeat first | refine ret_then ?_ | refine ret_inb ?_
    exact res2 rfl rfl ⟨_, _, _, _, rfl, S.row (i := 1) rfl, SepL.fresh S (i := 1) rfl, S.row (i := 0) rfl, SepL.fresh S (i := 0) rfl, fun g h1 h2 => S.sep.2.1 g h2 _ List.mem_cons_self h1, S.out⟩
end
section
variable {W : World}
theorem awake31_E (W : World) : Fn Try.prog 27 [] W (RetG (.bool true) W) := by
  have hG3 : gridL 3 1 (fun i => ([3, 1, 2] : List Int).getD i 0) = [3, 1, 2] := gridL_made rfl
  have hmay : ∀ v ∈ ([3, 1, 2] : List Int), mayB v = true := fun v hv => by
    simp only [List.mem_cons, List.not_mem_nil, or_false] at hv
    rcases hv with rfl | rfl | rfl <;> rfl
  have hfs : firsts (sinkN (flowN 3 [3, 1, 2]) (3 * 1)) (3 * 1) = [1] := by decide
  have hlb : cellsN (3 * 1) (labS (sinkN (flowN 3 [3, 1, 2]) (3 * 1)) (3 * 1)) = ints [1, 1, 1] := by rfl
  have S := St.start W
  refine Fn_enter Try.func27 rfl Try.results27 Try.ntmps27 (by kernel_rfl) (by kernel_rfl) ?_
  repeat refine cw_seq ?_
  refine cw_region ?_
  refine rw_v (op_pure rfl) ?_
  first | refine rw_end ?_ | (refine rw_nil ?_; show CW _ _ _ _ _ _) | refine rw_nil ?_
  repeat refine cw_seq ?_
  refine cw_region ?_
  refine rw_buildS Try.underlying22 Try.sizeOf2 Try.zeroValue2 rfl rfl rfl rfl rfl rfl S ?_
  intro A_v3 w2_ g2_ S sa_v3
  refine rw_call rfl (from_E (W := w2_) (V := [3, 1, 2]) (gw := 3) (gh := 1) 3 (by omega) (by omega) rfl hmay (S.rd (i := 0) rfl)) ?_
  rintro _ w3_ ⟨p2, B, bc, bs2, Rs2, rfl, hG2, hf2, g3_⟩
  have S := S.pushGrid hG2 hf2 g3_
  iterate 5 refine rw_v (op_pure rfl) ?_
  first | refine rw_end ?_ | (refine rw_nil ?_; show CW _ _ _ _ _ _) | refine rw_nil ?_
  repeat refine cw_seq ?_
  refine cw_region ?_
  refine rw_v (op_pure rfl) ?_
  refine rw_call rfl (sbas_E (W := w3_) (S.grid (i := 0) rfl)) ?_
  rintro _ w4_ ⟨A1, c1, A2, c2, rfl, hR1, hF1, hR2, hF2, hd, g4_⟩
  rw [hG3, hfs] at hR2
  rw [hG3, hlb] at hR1
  have S := S.push2 g4_ (h1 := .row 2 1 A1 _ c1 _) (h2 := .row 44 2 A2 _ c2 _) hR1 hR2 hF1 hF2 hd
  rw [hG3, hfs]
  iterate 7 refine rw_v (op_pure rfl) ?_
  first | refine rw_end ?_ | (refine rw_nil ?_; show CW _ _ _ _ _ _) | refine rw_nil ?_
  repeat refine cw_seq ?_
  refine cw_region ?_
  refine rw_v (op_pure rfl) ?_
  refine rw_v (op_b (b := true) rfl (beq_iff_eq.2 (by omega))) ?_
  refine rw_v (op_pure rfl) ?_
  first | refine rw_off rfl ?_ | (refine rw_on rfl ?_; refine rw_v (op_pure rfl) ?_)
  first | refine rw_off rfl ?_ | (refine rw_on rfl ?_; refine rw_v (op_b (b := true) rfl (beq_iff_eq.2 (by omega))) ?_)
  iterate 2 refine rw_v (op_pure rfl) ?_
  first | refine rw_off rfl ?_ | (refine rw_on rfl ?_; refine rw_v (op_pure rfl) ?_)
  refine rw_on rfl ?_
  refine rw_buildS Try.underlying22 Try.sizeOf2 Try.zeroValue2 rfl rfl rfl rfl rfl rfl S ?_
  intro A_v4 w6_ g6_ S sa_v4
  refine rw_on rfl ?_
  refine rw_call rfl (rsame_E A1 A_v4 c1 3 [1, 1, 1] [1, 1, 1] w6_ (by decide) (S.rd (i := 1) rfl) (S.rd (i := 0) rfl)) ?_
  rintro _ w7_ ⟨rfl, g7_⟩
  have S := S.gr g7_
  iterate 2 refine rw_v (op_pure rfl) ?_
  first | refine rw_off rfl ?_ | (refine rw_on rfl ?_; refine rw_v (op_pure rfl) ?_)
  first | refine rw_off rfl ?_ | (refine rw_on rfl ?_; refine rw_v (op_build (pl := [(0, 1), (1, 1)]) Try.underlying44 Try.zeroValue44 (fun w => by kernel_rfl) rfl rfl) ?_)
  refine rw_on rfl ?_
  refine rw_buildS Try.underlying50 Try.sizeOf44 Try.zeroValue44 rfl rfl rfl rfl rfl rfl S ?_
  intro A_v5 w9_ g9_ S sa_v5
  refine rw_on rfl ?_
  refine rw_call rfl (rcells_E A2 A_v5 c2 1 ([1].map (cz 3)) ([1].map (cz 3)) w9_ (by decide) (S.rd (i := 3) rfl) (S.rd (i := 0) rfl)) ?_
  rintro _ w10_ ⟨rfl, g10_⟩
  have S := S.gr g10_
  iterate 2 refine rw_v (op_pure rfl) ?_
  first | refine rw_end ?_ | (refine rw_nil ?_; show CW _ _ _ _ _ _) | refine rw_nil ?_
  repeat refine cw_seq ?_
  refine cw_ret ?_
  repeat first | refine ret_then ?_ | refine ret_inb ?_
  exact res1 rfl ⟨rfl, S.out⟩
end
end Go.Proofs.Ytbcgbcipigcbhaa

namespace Go.Proofs.Ytbcgbcipigcbhaa
open Go.RowKit
set_option linter.unusedVariables false
set_option linter.unusedSimpArgs false
set_option maxRecDepth 100000

section
variable {W : World}
theorem swetNil_E (x y : Int) : Fn Try.prog 36 [.pointer none, .agg #[.int .i64 x, .int .i64 y]] W (RetG (.tuple #[.int .i64 0, .int .i64 1]) W) := by
  have S := St.start W
  refine Fn_enter Try.func36 rfl Try.results36 Try.ntmps36 (by kernel_rfl) (by kernel_rfl) ?_
  repeat refine cw_seq ?_
  refine cw_region ?_
  refine rw_newB (op_box rfl) S ?_
  intro b_c w2_ g2_ S
  iterate 2 refine rw_v (op_pure rfl) ?_
  first | refine rw_end ?_ | (refine rw_nil ?_; show CW _ _ _ _ _ _) | refine rw_nil ?_
  repeat refine cw_seq ?_
  refine cw_region ?_
  refine rw_v (op_pure rfl) ?_
  refine rw_r (op_loadAB Try.underlying44 rfl (Try.sizeOf44 _) rfl (S.blk (i := 0) rfl) rfl rfl) ?_
  refine rw_call rfl (sbeginNil_E x y) ?_
  rintro _ w3_ ⟨rfl, g3_⟩
  have S := S.gr g3_
  iterate 4 refine rw_v (op_pure rfl) ?_
  refine rw_newB (op_alloc Try.zeroValue136 rfl) S ?_
  intro b_l w5_ g5_ S
  refine rw_storeSA (i := 0) S rfl (Try.sizeOf136 _) rfl rfl rfl rfl rfl rfl ?_
  intro w6_ S
  iterate 2 refine rw_v (op_pure rfl) ?_
  first | refine rw_end ?_ | (refine rw_nil ?_; show CW _ _ _ _ _ _) | refine rw_nil ?_
  repeat refine cw_seq ?_
  refine cw_region ?_
  refine rw_v (op_pure rfl) ?_
  refine rw_v (op_b (b := true) rfl (bne_iff_ne.2 (by omega))) ?_
  first | refine rw_end ?_ | (refine rw_nil ?_; show CW _ _ _ _ _ _) | refine rw_nil ?_
  repeat refine cw_seq ?_
  refine cw_true rfl ?_
  repeat refine cw_seq ?_
  refine cw_region ?_
  iterate 3 refine rw_v (op_pure rfl) ?_
  first | refine rw_end ?_ | (refine rw_nil ?_; show CW _ _ _ _ _ _) | refine rw_nil ?_
  repeat refine cw_seq ?_
  refine cw_ret ?_
  repeat first | refine ret_then ?_ | refine ret_inb ?_
  exact res2 rfl rfl ⟨rfl, S.out⟩
theorem sinkNil_E (x y : Int) (W : World) : Fn Try.prog 8 [.agg #[.int .i64 x, .int .i64 y]] W (RetG (.bool true) W) := by
  have S := St.start W
  refine Fn_enter Try.func8 rfl Try.results8 Try.ntmps8 (by kernel_rfl) (by kernel_rfl) ?_
  repeat refine cw_seq ?_
  refine cw_region ?_
  refine rw_newB (op_box rfl) S ?_
  intro b_c w2_ g2_ S
  refine rw_v (op_pure rfl) ?_
  first | refine rw_end ?_ | (refine rw_nil ?_; show CW _ _ _ _ _ _) | refine rw_nil ?_
  repeat refine cw_seq ?_
  refine cw_region ?_
  refine rw_call rfl (awake31_E w2_) ?_
  rintro _ w3_ ⟨rfl, g3_⟩
  have S := S.gr g3_
  refine rw_v (op_pure rfl) ?_
  first | refine rw_end ?_ | (refine rw_nil ?_; show CW _ _ _ _ _ _) | refine rw_nil ?_
  repeat refine cw_seq ?_
  refine cw_false rfl ?_
  repeat refine cw_seq ?_
  refine cw_skip ?_
  try show CW _ _ _ _ _ _
  repeat refine cw_seq ?_
  refine cw_region ?_
  refine rw_r (op_loadAB Try.underlying44 rfl (Try.sizeOf44 _) rfl (S.blk (i := 0) rfl) rfl rfl) ?_
  refine rw_call rfl (snextNil_E x y) ?_
  rintro _ w4_ ⟨rfl, g4_⟩
  have S := S.gr g4_
  iterate 4 refine rw_v (op_pure rfl) ?_
  refine rw_newB (op_alloc Try.zeroValue44 rfl) S ?_
  intro b_d w6_ g6_ S
  refine rw_storeSA (i := 0) S rfl (Try.sizeOf44 _) rfl rfl rfl rfl rfl rfl ?_
  intro w7_ S
  iterate 2 refine rw_v (op_pure rfl) ?_
  first | refine rw_end ?_ | (refine rw_nil ?_; show CW _ _ _ _ _ _) | refine rw_nil ?_
  repeat refine cw_seq ?_
  refine cw_region ?_
  refine rw_r (op_loadAB Try.underlying44 rfl (Try.sizeOf44 _) rfl (S.blk (i := 1) rfl) rfl rfl) ?_
  refine rw_call rfl (swayNil_E x y) ?_
  rintro _ w8_ ⟨rfl, g8_⟩
  have S := S.gr g8_
  iterate 5 refine rw_v (op_pure rfl) ?_
  first | refine rw_end ?_ | (refine rw_nil ?_; show CW _ _ _ _ _ _) | refine rw_nil ?_
  repeat refine cw_seq ?_
  refine cw_region ?_
  refine rw_call rfl (sbasNil_E) ?_
  rintro _ w9_ ⟨rfl, g9_⟩
  have S := S.gr g9_
  iterate 7 refine rw_v (op_pure rfl) ?_
  first | refine rw_end ?_ | (refine rw_nil ?_; show CW _ _ _ _ _ _) | refine rw_nil ?_
  repeat refine cw_seq ?_
  refine cw_region ?_
  refine rw_r (op_loadAB Try.underlying44 rfl (Try.sizeOf44 _) rfl (S.blk (i := 1) rfl) rfl rfl) ?_
  refine rw_call rfl (swetNil_E x y) ?_
  rintro _ w10_ ⟨rfl, g10_⟩
  have S := S.gr g10_
  iterate 5 refine rw_v (op_pure rfl) ?_
  first | refine rw_end ?_ | (refine rw_nil ?_; show CW _ _ _ _ _ _) | refine rw_nil ?_
  repeat refine cw_seq ?_
  refine cw_region ?_
  refine rw_r (op_loadAB Try.underlying44 rfl (Try.sizeOf44 _) rfl (S.blk (i := 0) rfl) rfl rfl) ?_
  refine rw_v (op_build (pl := [(0, 1), (1, 1)]) Try.underlying44 Try.zeroValue44 (fun w => by kernel_rfl) rfl rfl) ?_
  refine rw_v (op_eqCell (r := true) rfl rfl (by simp)) ?_
  refine rw_v (op_pure rfl) ?_
  first | refine rw_off rfl ?_ | (refine rw_on rfl ?_; refine rw_v (op_pure rfl) ?_)
  first | refine rw_off rfl ?_ | (refine rw_on rfl ?_; refine rw_v (op_pure rfl) ?_)
  iterate 2 refine rw_v (op_pure rfl) ?_
  first | refine rw_off rfl ?_ | (refine rw_on rfl ?_; refine rw_v (op_pure rfl) ?_)
  first | refine rw_off rfl ?_ | (refine rw_on rfl ?_; refine rw_v (op_b (b := true) rfl (beq_iff_eq.2 (by omega))) ?_)
  iterate 2 refine rw_v (op_pure rfl) ?_
  first | refine rw_off rfl ?_ | (refine rw_on rfl ?_; refine rw_v (op_pure rfl) ?_)
  first | refine rw_off rfl ?_ | (refine rw_on rfl ?_; refine rw_v (op_len Try.underlying50 rfl) ?_)
  first | refine rw_off rfl ?_ | (refine rw_on rfl ?_; refine rw_v (op_b (b := true) rfl (beq_iff_eq.2 (by omega))) ?_)
  iterate 2 refine rw_v (op_pure rfl) ?_
  first | refine rw_off rfl ?_ | (refine rw_on rfl ?_; refine rw_v (op_pure rfl) ?_)
  first | refine rw_off rfl ?_ | (refine rw_on rfl ?_; refine rw_v (op_b (b := true) rfl (beq_iff_eq.2 (by omega))) ?_)
  iterate 2 refine rw_v (op_pure rfl) ?_
  first | refine rw_off rfl ?_ | (refine rw_on rfl ?_; refine rw_v (op_pure rfl) ?_)
  first | refine rw_off rfl ?_ | (refine rw_on rfl ?_; refine rw_v (op_len Try.underlying22 rfl) ?_)
  first | refine rw_off rfl ?_ | (refine rw_on rfl ?_; refine rw_v (op_b (b := true) rfl (beq_iff_eq.2 (by omega))) ?_)
  iterate 2 refine rw_v (op_pure rfl) ?_
  first | refine rw_off rfl ?_ | (refine rw_on rfl ?_; refine rw_v (op_pure rfl) ?_)
  first | refine rw_off rfl ?_ | (refine rw_on rfl ?_; refine rw_v (op_len Try.underlying50 rfl) ?_)
  first | refine rw_off rfl ?_ | (refine rw_on rfl ?_; refine rw_v (op_b (b := true) rfl (beq_iff_eq.2 (by omega))) ?_)
  iterate 2 refine rw_v (op_pure rfl) ?_
  first | refine rw_off rfl ?_ | (refine rw_on rfl ?_; refine rw_v (op_pure rfl) ?_)
  first | refine rw_off rfl ?_ | (refine rw_on rfl ?_; refine rw_v (op_b (b := true) rfl (beq_iff_eq.2 (by omega))) ?_)
  iterate 2 refine rw_v (op_pure rfl) ?_
  first | refine rw_off rfl ?_ | (refine rw_on rfl ?_; refine rw_v (op_pure rfl) ?_)
  first | refine rw_off rfl ?_ | (refine rw_on rfl ?_; refine rw_v (op_b (b := true) rfl (beq_iff_eq.2 (by omega))) ?_)
  iterate 2 refine rw_v (op_pure rfl) ?_
  first | refine rw_off rfl ?_ | (refine rw_on rfl ?_; refine rw_v (op_pure rfl) ?_)
  first | refine rw_off rfl ?_ | (refine rw_on rfl ?_; refine rw_v (op_b (b := true) rfl (beq_iff_eq.2 (by omega))) ?_)
  iterate 2 refine rw_v (op_pure rfl) ?_
  first | refine rw_end ?_ | (refine rw_nil ?_; show CW _ _ _ _ _ _) | refine rw_nil ?_
  repeat refine cw_seq ?_
  refine cw_ret ?_
  repeat first | refine ret_then ?_ | refine ret_inb ?_
  exact res1 rfl ⟨rfl, S.out⟩
end
end Go.Proofs.Ytbcgbcipigcbhaa
/- A range over a function: the statement, its rounds, the iterator's calls of yield, and the mark that the activation keeps. -/
namespace Go.Proofs.Ytbcgbcipigcbhaa
open Go.RowKit
set_option linter.unusedVariables false
set_option linter.unusedSimpArgs false

/-- a block that is whatever object -/
def HA.obj (b : Nat) (o : Obj) : HA := ⟨fun g => g = b, fun w => w.heap[b]? = some o, fun _ _ h _ ho => (h b rfl).trans ho, fun w ho g hg => by subst hg; exact (Array.getElem?_eq_some_iff.1 ho).1⟩
section
variable {P : Program} {F : Nat → Prop} {W w : World} {L L' : List HA} {b i : Nat} {o o' : Obj}
theorem Fr.putObj (w : World) (b : Nat) (o : Obj) : Fr (fun g => g = b) w (w.putObj b o) := ⟨rfl, rfl, rfl, by simp, fun g _ hn => World.putObj_heap_other hn⟩
theorem St.putObj (S : St F W w L) (hi : getO L i = some (.obj b o)) (hs : setO L i (.obj b o') = some L') : St F W (w.putObj b o') L' :=
  S.set hi hs (Fr.putObj w b o') (fun g hg => .inl hg) (World.putObj_heap_same (Array.getElem?_eq_some_iff.1 (S.ok hi)).1) (fun g hg => .inl hg)
theorem St.pushObj (S : St F W w L) (o : Obj) : St F W (w.alloc o) (.obj w.heap.size o :: L) :=
  S.push (Gr.alloc w o) (h := .obj w.heap.size o) (World.alloc_heap_new w o) (fun g hg => by have : g = w.heap.size := hg; omega)
end

/-- what a call of yield comes to -/
def Yld (P : Program) (l : Nat) (vs : List Value) (w : World) (R : Value → World → Prop) : Prop :=
  ∃ fn tmps sg bd, (Instr.yield l vs.toArray).run P w = .ok (.round l fn tmps sg bd) w ∧ RoundIn Fence.wide 0 P l fn tmps sg bd w fun en w' => ∃ v, en = .returned v ∧ R v w'
theorem Yld.mono {P : Program} {l : Nat} {vs : List Value} {w : World} {R R' : Value → World → Prop} (h : Yld P l vs w R) (hr : ∀ v w', R v w' → R' v w') : Yld P l vs w R' := by
  obtain ⟨fn, tmps, sg, bd, hy, hR⟩ := h
  exact ⟨fn, tmps, sg, bd, hy, hR.mono fun en w' ⟨v, e, h⟩ => ⟨v, e, hr v w' h⟩⟩
section
variable {P : Program} {ops : Array Oper} {Q : (Nat → Value) → World → Prop} {rest : List Oper} {e : Nat → Value} {w : World} {d : Option Tmp} {ty : TypeId} {ps : String} {af : Array Edge}
/-- an iterator calls yield -/
theorem rw_yield {l : Nat} {f : Operand} {args : List Operand} {tys : Array TypeId} {vs : List Value} {R : Value → World → Prop} (hf : ev e f = .func (.yield l) #[] #[]) (hv : fzl (args.map (ev e)) = some vs)
    (hy : Yld P l vs w R) (h : ∀ v w', R v w' → RW P ops Q rest (updO e d v) w') : RW P ops Q (⟨d, .call ⟨.value f, args.toArray, tys⟩, ty, ps, af, none⟩ :: rest) e w := by
  have h0 := fzl_eq hv
  obtain ⟨fn, tmps, sg, bd, hrun, hR⟩ := hy
  have hx : (execOp (ev e) ⟨d, .call ⟨.value f, args.toArray, tys⟩, ty, ps, af, none⟩).run P w = .ok (.round l fn tmps sg bd) w := by
    simp [execOp, resolve, hf, Deferred.ofValue, invoke, h0, hrun]
  rw [RW_t rfl]
  unfold opNext
  rw [hx]
  exact ⟨rfl, hR.mono fun en w' ⟨v, he, hv⟩ => ⟨v, he, h v w' hv⟩⟩
end

/-! ### A function's code up to the statement, and behind it -/
def mark (D : Nat) : Deferred := { target := .collected D, args := #[] }
/-- Code of an activation, in which a range over a function may stand: it ends by Qn where none was gone through, else by Qm, the mark among the deferred calls. -/
def CWK (P : Program) (N : Nat) (c : Code) (Qn : Exit → (Nat → Value) → World → Prop) (Qm : Nat → Exit → (Nat → Value) → World → Prop) (e : Nat → Value) (w : World) : Prop :=
  codeOk N c = true → ∀ a, Rep N [] e a → c.wpIn (wF none) 0 P (fun x a' w' => (∃ e', Rep N [] e' a' ∧ Qn x e' w') ∨ ∃ e' D, Rep N [mark D] e' a' ∧ Qm D x e' w') a w
def NoN (Q : Exit → (Nat → Value) → World → Prop) : Exit → (Nat → Value) → World → Prop
  | .normal, _, _ => False
  | x, e, w => Q x e w
/-- The statement: env stays; a mark is pushed. -/
def RF (P : Program) (N : Nat) (g : Operand) (ps : Array Tmp) (sg bd : Code) (K : Nat → (Nat → Value) → World → Prop) (e : Nat → Value) (w : World) : Prop :=
  ∀ a, Rep N [] e a → (Code.rangeFunc g ps sg bd).wpIn (wF none) 0 P (fun x a' w' => x = .normal ∧ ∃ D, Rep N [mark D] e a' ∧ K D e w') a w
section
variable {P : Program} {N : Nat} {Qn : Exit → (Nat → Value) → World → Prop} {Qm : Nat → Exit → (Nat → Value) → World → Prop} {e : Nat → Value} {w : World}
theorem cwk_seq_r {x y : Code} (h : CW P N x (Then (CWK P N y Qn Qm) Qn) e w) : CWK P N (.seq x y) Qn Qm e w := fun hc a hr => by
  simp only [codeOk, Bool.and_eq_true] at hc
  refine wpIn_seq (wpIn_mono (h hc.1 [] a hr none) ?_)
  rintro x' a' w' ⟨e', hr', hq⟩
  cases x' <;> first | exact hq hc.2 a' hr' | exact .inl ⟨e', hr', hq⟩
theorem cwk_seq_l {x y : Code} (h : CWK P N x (NoN Qn) (fun D => Then (CW P N y (Qm D)) (Qm D)) e w) : CWK P N (.seq x y) Qn Qm e w := fun hc a hr => by
  simp only [codeOk, Bool.and_eq_true] at hc
  refine wpIn_seq (wpIn_mono (h hc.1 a hr) ?_)
  rintro x' a' w' (⟨e', hr', hq⟩ | ⟨e', D, hr', hq⟩)
  · cases x' <;> first | exact hq.elim | exact .inl ⟨e', hr', hq⟩
  · cases x' <;> first | exact .inr ⟨e', D, hr', hq⟩ | skip
    refine wpIn_mono (hq hc.2 [mark D] a' hr' none) ?_
    rintro x2 a2 w2 ⟨e2, hr2, hq2⟩
    exact .inr ⟨e2, D, hr2, hq2⟩
theorem cwk_rf {g : Operand} {ps : Array Tmp} {sg bd : Code} (h : RF P N g ps sg bd (fun D e w => Qm D .normal e w) e w) : CWK P N (.rangeFunc g ps sg bd) Qn Qm e w := fun _ a hr => by
  refine wpIn_mono (h a hr) ?_
  rintro x a' w' ⟨rfl, D, hr', hq⟩
  exact .inr ⟨e, D, hr', hq⟩
theorem cwk_block {id : Nat} {g : Operand} {ps : Array Tmp} {sg bd : Code} (h : RF P N g ps sg bd (fun D e w => Qm D .normal e w) e w) : CWK P N (.block id (.rangeFunc g ps sg bd)) Qn Qm e w := fun _ a hr => by
  refine wpIn_block (wpIn_mono (h a hr) ?_)
  rintro x a' w' ⟨rfl, D, hr', hq⟩
  exact .inr ⟨e, D, hr', hq⟩
end
/-- At the end the mark's block is shut. -/
def QM (P : Program) (rs : Array ResultVar) (R : Value → World → Prop) (D : Nat) : Exit → (Nat → Value) → World → Prop
  | .normal, e, w | .ret, e, w => w.heap[D]? = some (.deferred (some [])) ∧ Res P R rs e (w.putObj D (.deferred none))
  | _, _, _ => False
theorem qf_ret {P : Program} {rs : Array ResultVar} {R : Value → World → Prop} {e : Nat → Value} {w : World} (h : QF P rs R .ret e w) : Res P R rs e w := h
theorem qm_ret {P : Program} {rs : Array ResultVar} {R : Value → World → Prop} {D i : Nat} {e : Nat → Value} {F : Nat → Prop} {W w : World} {L L' : List HA} (S : St F W w L) (hi : getO L i = some (.obj D (.deferred (some [])))) (hs : setO L i (.obj D (.deferred none)) = some L') (h : ∀ w', St F W w' L' → Res P R rs e w') : QM P rs R D .ret e w :=
  ⟨S.ok hi, h _ (S.putObj hi hs)⟩
theorem Fn_enter_rf {P : Program} {f : FuncId} {fn : Func} {c : Code} {args : List Value} {w : World} {R : Value → World → Prop} {rs : Array ResultVar} {N : Nat}
    (hf : P.funcs[f]? = some fn) (hb : fn.body = some c) (hr : fn.results = rs) (hN : fn.ntmps = N) (hcl : callableB P f = true) (hk : (codeOk N c && Nat.ble args.length N) = true)
    (h : CWK P N c (QF P rs R) (QM P rs R) (envOf args) w) : Fn P f args w R := by
  simp only [Bool.and_eq_true] at hk
  have hle : args.length ≤ N := Nat.le_of_ble_eq_true hk.2
  refine ⟨hcl, callsIn_wide.1 (callsIn_of_wp_marks (F := Fence.wide) (n := 0) hf hb trivial ?_)⟩
  refine wpIn_mono (h hk.1 _ ⟨rfl, by simp [hN]; omega, fun k => ?_⟩) ?_
  · simp only [envOf, List.getD_eq_getElem?_getD, Array.getD_eq_getD_getElem?, Array.getElem?_append, List.size_toArray, List.getElem?_toArray, hN]
    split
    · rfl
    · rename_i hge
      rw [List.getElem?_eq_none (by omega)]
      simp only [Array.getElem?_replicate]
      split <;> rfl
  · rintro x a' w' (⟨e', hr', hq⟩ | ⟨e', D, hr', hq⟩)
    · cases x <;> first | exact hq.elim | skip
      all_goals
        obtain ⟨v, hv, hR⟩ := hq
        show LeavesInM _ _ _ _ _ _ _ _ _
        rw [hr'.defers]
        exact ⟨v, hv fn _ hr hr'.get, v, rfl, hR⟩
    · cases x <;> first | exact hq.elim | skip
      all_goals
        obtain ⟨hD, v, hv, hR⟩ := hq
        show LeavesInM _ _ _ _ _ _ _ _ _
        rw [hr'.defers]
        exact ⟨by simp, .inl ⟨D, _, rfl, run_takeDeferred hD, v, hv fn _ hr hr'.get, v, rfl, hR⟩⟩

/-! ### The law of the statement -/
def updL (e : Nat → Value) : List (Nat × Value) → Nat → Value
  | [] => e
  | (p, v) :: r => updL (upd e p v) r
theorem Rep.updL {N : Nat} {df : List Deferred} : ∀ (l : List (Nat × Value)) {e : Nat → Value} {a : Act}, Rep N df e a → (l.all fun p => Nat.blt p.1 N) = true → Rep N df (updL e l) { a with tmps := l.foldl (fun t (p, v) => t.setIfInBounds p v) a.tmps }
  | [], _, _, h, _ => h
  | (p, v) :: r, e, a, h, hd => by
    simp only [List.all_cons, Bool.and_eq_true] at hd
    exact Rep.updL r (h.put (d := some p) hd.1 v) hd.2
def LoopIs (st : LoopState) (o : Obj) : Prop := ∃ r : Loop, o = .loop r ∧ r.state = st
section
variable {P : Program} {N : Nat} {g : Operand} {ps : Array Tmp} {sg bd : Code} {K : Nat → (Nat → Value) → World → Prop} {e : Nat → Value} {w W : World} {F : Nat → Prop}
/-- The iterator is a function whose contract is told for whatever its calls of yield do; a round: the assignment, then the body. -/
theorem rf_law {σ : Type} {gf : FuncId} {lb : List Value} (Inv : σ → List HA → Prop) (step : σ → List Value → σ → Prop) (fin : σ → Prop) (s0 : σ) {L0 : List HA} (hg : ev e g = .func (.func gf) #[] lb.toArray) (hcl : callableB P gf = true) (hkc : (codeOk N sg && codeOk N bd && ps.toList.all (fun p => Nat.blt p N)) = true)
    (Mid : σ → σ → (Nat → Value) → List HA → Prop) (h0 : Inv s0 L0) (S : St F W w L0) (hlen : ∀ s vs s', step s vs s' → vs.length = ps.size)
    (hit : ∀ (l : Nat) (J : σ → World → Prop) (w1 : World), (∀ s w w', J s w → Gr w w' → J s w') → (∀ s w, J s w → ∃ L, Inv s L ∧ ∃ o d : HA, St F W w (o :: d :: L)) → J s0 w1 → (∀ s vs s' w, step s vs s' → J s w → Yld P l vs w fun v w' => v = .bool true ∧ J s' w') →
      Fn P gf (.func (.yield l) #[] #[] :: lb) w1 fun _ w' => ∃ s, fin s ∧ J s w')
    (hsg : ∀ (o d : HA) (s : σ) (vs : List Value) (s' : σ) (w : World) (L : List HA), step s vs s' → Inv s L → St F W w (o :: d :: L) → CW P N sg (Then (fun e' w' => ∃ L', Mid s s' e' L' ∧ St F W w' (o :: d :: L')) fun _ _ _ => False) (updL e (ps.toList.zip vs)) w)
    (hbd : ∀ (o d : HA) (s s' : σ) (e' : Nat → Value) (w : World) (L : List HA), Mid s s' e' L → St F W w (o :: d :: L) → CW P N bd (Then (fun _ w' => ∃ L', Inv s' L' ∧ St F W w' (o :: d :: L')) fun _ _ _ => False) e' w)
    (hK : ∀ (l D : Nat) (o : Obj) (s : σ) (w' : World) (L : List HA), fin s → Inv s L → St F W w' (.obj l o :: .obj D (.deferred (some [])) :: L) → K D e w') : RF P N g ps sg bd K e w := by
  intro a hr
  simp only [Bool.and_eq_true] at hkc
  refine wpIn_rangeFunc fun fn _ => ?_
  have S1 := S.pushObj (.deferred (some []))
  have S2 := S1.pushObj (.loop { state := .ready, pending := none, fn, tmps := a.tmps, params := ps, assign := sg, body := bd, defers := w.heap.size })
  rw [World.size_alloc] at S2
  generalize hW1 : (w.alloc (.deferred (some []))).alloc (.loop { state := .ready, pending := none, fn, tmps := a.tmps, params := ps, assign := sg, body := bd, defers := w.heap.size }) = W1 at S2
  have hent := run_enterLoop_outer (P := P) (w := w) fn a.tmps ps sg bd
  rw [hW1] at hent
  generalize w.heap.size + 1 = l at *
  generalize w.heap.size = D at *
  have eg : ∀ args w, (callFunc gf args).run P w = .ok (.enter gf args) w := fun args w => run_callFunc_E hcl args w
  let rec_ : LoopState → Obj := fun st => .loop { state := st, pending := none, fn, tmps := a.tmps, params := ps, assign := sg, body := bd, defers := D }
  let J : σ → World → Prop := fun s w' => ∃ L, Inv s L ∧ St F W w' (.obj l (rec_ .ready) :: .obj D (.deferred (some [])) :: L)
  have hJy : ∀ s vs s' w, step s vs s' → J s w → Yld P l vs w fun v w' => v = .bool true ∧ J s' w' := by
    rintro s vs s' w2 hst ⟨L, hI, T⟩
    have hl := T.ok (i := 0) rfl
    have hy := run_yield (P := P) (args := vs.toArray) hl (by simpa using hlen s vs s' hst)
    refine ⟨fn, _, sg, bd, hy, roundIn_of_wpIn (F := Fence.wide) trivial ?_⟩
    have hrep : Rep N [] (updL e (ps.toList.zip vs)) { tmps := (ps.zip vs.toArray).foldl (fun t (p, v) => t.setIfInBounds p v) a.tmps, defers := [] } := by
      have h1 := Rep.updL (ps.toList.zip vs) (a := { tmps := a.tmps, defers := [] }) ⟨rfl, hr.size, hr.get⟩ (List.all_eq_true.2 fun p hp => List.all_eq_true.1 hkc.2 p.1 (List.of_mem_zip hp).1)
      have h2 : (ps.zip vs.toArray).foldl (fun t (p, v) => t.setIfInBounds p v) a.tmps = (ps.toList.zip vs).foldl (fun t (p, v) => t.setIfInBounds p v) a.tmps := by
        rw [← Array.foldl_toList]; simp
      rw [h2]
      exact h1
    refine wpIn_mono (hsg _ _ s vs s' w2 L hst hI T hkc.1.1 [] _ hrep (some l)) ?_
    rintro x a1 w3 ⟨e1, hr1, hq⟩
    cases x <;> first | exact hq.elim | skip
    obtain ⟨L1, hM, T1⟩ := hq
    have hl1 := T1.ok (i := 0) rfl
    refine ⟨_, run_beginRound hl1 rfl, ?_⟩
    have T2 : St F W (w3.putObj l (rec_ .busy)) (.obj l (rec_ .busy) :: .obj D (.deferred (some [])) :: L1) := T1.putObj (i := 0) rfl rfl
    refine wpIn_mono (hbd _ _ s s' e1 _ L1 hM T2 hkc.1.2 [] a1 hr1 (some l)) ?_
    rintro x a2 w4 ⟨e2, hr2, hq⟩
    cases x <;> first | exact hq.elim | skip
    obtain ⟨L2, hI2, T3⟩ := hq
    have hl3 := T3.ok (i := 0) rfl
    exact ⟨_, _, run_endRound none hl3, _, rfl, rfl, L2, hI2, T3.putObj (i := 0) rfl rfl⟩
  have hfn := hit l J W1 (fun s w w' ⟨L, hI, T⟩ g => ⟨L, hI, T.gr g⟩) (fun s w ⟨L, hI, T⟩ => ⟨L, hI, _, _, T⟩) ⟨L0, h0, S2⟩ hJy
  refine ⟨l, [mark D], W1, { target := .fn (.func gf) lb.toArray, args := #[.func (.yield l) #[] #[]] }, W1, gf, #[.func (.yield l) #[] #[]] ++ lb.toArray, W1, hent, ?_, fun _ _ => trivial, ?_, fun h => (by cases h), ?_⟩
  · have h1 : ev e (.const (.func (.yield l) #[] #[])) = .func (.yield l) #[] #[] := rfl
    simp [resolve, hr.eval, hg, h1, Deferred.ofValue]
  · simp [invoke, go_sem, eg]
  · refine (callsIn_wide (n := 0)).2 ?_
    have h2 := hfn.2
    rw [show (Value.func (.yield l) #[] #[] :: lb).toArray = #[.func (.yield l) #[] #[]] ++ lb.toArray by simp] at h2
    refine h2.mono ?_
    rintro en w' ⟨v, rfl, s, hf, L, hI, T⟩
    have hl := T.ok (i := 0) rfl
    refine ⟨none, _, run_endLoop hl (by simp), rfl, D, ⟨?_, hr.size, hr.get⟩, hK l D _ s _ L hf hI (T.putObj (i := 0) rfl rfl)⟩
    show [mark D] ++ a.defers = [mark D]
    rw [hr.defers]; rfl
end
end Go.Proofs.Ytbcgbcipigcbhaa
/- How many ways come by: plain laws. -/
namespace Go.Proofs.Ytbcgbcipigcbhaa
set_option linter.unusedVariables false
set_option linter.unusedSimpArgs false

def sgm (F : Nat → Int) : Nat → Int
  | 0 => 0
  | m + 1 => sgm F m + F m
theorem sgm_congr {F G : Nat → Int} : ∀ {m : Nat}, (∀ a, a < m → F a = G a) → sgm F m = sgm G m
  | 0, _ => rfl
  | m + 1, h => by rw [sgm, sgm, sgm_congr (fun a ha => h a (by omega)), h m (by omega)]
theorem sgm_one {F G : Nat → Int} {b : Nat} {d : Int} : ∀ {m : Nat}, b < m → (∀ a, a < m → a ≠ b → F a = G a) → F b = G b + d → sgm F m = sgm G m + d
  | 0, hb, _, _ => by omega
  | m + 1, hb, h, e => by
    rw [sgm, sgm]
    by_cases hm : m = b
    · subst hm
      rw [sgm_congr (fun a ha => h a (by omega) (by omega)), e]; omega
    · rw [sgm_one (b := b) (d := d) (by omega) (fun a ha => h a (by omega)) e, h m (by omega) hm]; omega
theorem sgm_pos {F : Nat → Int} : ∀ {m : Nat}, (∀ a, a < m → 0 ≤ F a) → 0 ≤ sgm F m
  | 0, _ => Int.le_refl _
  | m + 1, h => by have h1 := sgm_pos (m := m) (fun a ha => h a (by omega)); have h2 := h m (by omega); rw [sgm]; omega
theorem sgm_ge {F : Nat → Int} {b : Nat} : ∀ {m : Nat}, (∀ a, a < m → 0 ≤ F a) → b < m → F b ≤ sgm F m
  | 0, _, hb => by omega
  | m + 1, h, hb => by
    rw [sgm]
    by_cases e : b = m
    · subst e
      have h1 := sgm_pos (m := b) (fun a ha => h a (by omega)); omega
    · have := sgm_ge (m := m) (fun a ha => h a (by omega)) (show b < m by omega)
      have := h m (by omega); omega
theorem sgm_le {F : Nat → Int} {d : Int} : ∀ {m : Nat}, (∀ a, a < m → F a ≤ d) → sgm F m ≤ m * d
  | 0, _ => by simp [sgm]
  | m + 1, h => by
    have h1 := sgm_le (m := m) (fun a ha => h a (by omega)); have h2 := h m (by omega); rw [sgm]; push_cast; rw [Int.add_mul]; omega
theorem sgm_add {F G : Nat → Int} : ∀ {m : Nat}, sgm (fun a => F a + G a) m = sgm F m + sgm G m
  | 0 => rfl
  | m + 1 => by rw [sgm, sgm, sgm, sgm_add]; omega
theorem sgm_const {d : Int} : ∀ {m : Nat}, sgm (fun _ => d) m = m * d
  | 0 => by simp [sgm]
  | m + 1 => by rw [sgm, sgm_const]; push_cast; rw [Int.add_mul]; omega
/-- by whatever order -/
theorem sgm_perm {F : Nat → Int} {l l' : List Nat} (h : l.Perm l') : (l.map F).sum = (l'.map F).sum := by
  induction h with
  | nil => rfl
  | cons x _ ih => simp only [List.map_cons, List.sum_cons, ih]
  | swap x y l => simp only [List.map_cons, List.sum_cons]; omega
  | trans _ _ ih1 ih2 => exact ih1.trans ih2
theorem sgm_sum {F : Nat → Int} : ∀ {m : Nat}, sgm F m = ((List.range m).map F).sum
  | 0 => rfl
  | m + 1 => by rw [sgm, sgm_sum, List.range_succ, List.map_append, List.sum_append]; simp

theorem PS.inj {n : Nat} {o : Nat → Nat} (h : PS 0 n (fun i => i) o) : ∀ a b, a < n → b < n → o a = o b → a = b := by
  induction h with
  | refl => intro a b _ _ e; exact e
  | swap i j hi hj h ih =>
    rename_i o'
    intro a b ha hb e
    have key : ∀ x, x < n → ∃ y, y < n ∧ swp o' i j x = o' y ∧ (x = i → y = j) ∧ (x ≠ i → x = j → y = i) ∧ (x ≠ i → x ≠ j → y = x) := fun x hx => by
      by_cases h1 : x = i
      · subst h1; exact ⟨j, hj.2, swp_l, fun _ => rfl, fun h => absurd rfl h, fun h => absurd rfl h⟩
      · by_cases h2 : x = j
        · subst h2; exact ⟨i, hi.2, swp_r, fun h => absurd h h1, fun _ _ => rfl, fun _ h => absurd rfl h⟩
        · exact ⟨x, hx, swp_ne h1 h2, fun h => absurd h h1, fun _ h => absurd h h2, fun _ _ => rfl⟩
    obtain ⟨y, hy, e1, p1, p2, p3⟩ := key a ha
    obtain ⟨z, hz, e2, q1, q2, q3⟩ := key b hb
    have hyz := ih y z hy hz (by rw [← e1, ← e2, e])
    by_cases a1 : a = i <;> by_cases b1 : b = i
    · omega
    · have := p1 a1
      by_cases b2 : b = j
      · have := q2 b1 b2; omega
      · have := q3 b1 b2; omega
    · have := q1 b1
      by_cases a2 : a = j
      · have := p2 a1 a2; omega
      · have := p3 a1 a2; omega
    · by_cases a2 : a = j <;> by_cases b2 : b = j
      · omega
      · have := p2 a1 a2; have := q3 b1 b2; omega
      · have := p3 a1 a2; have := q2 b1 b2; omega
      · have := p3 a1 a2; have := q3 b1 b2; omega
theorem PS.sgm {n : Nat} {o : Nat → Nat} (h : PS 0 n (fun i => i) o) (F : Nat → Int) : Go.Proofs.Ytbcgbcipigcbhaa.sgm (fun a => F (o a)) n = Go.Proofs.Ytbcgbcipigcbhaa.sgm F n := by
  induction h with
  | refl => rfl
  | swap i j hi hj h ih =>
    rename_i o'
    rw [← ih]
    by_cases hij : i = j
    · subst hij
      refine sgm_congr fun a _ => ?_
      by_cases h1 : a = i
      · subst h1; rw [swp_l]
      · rw [swp_ne h1 h1]
    · have e1 : Go.Proofs.Ytbcgbcipigcbhaa.sgm (fun a => if a = i then F (o' j) else F (o' a)) n = Go.Proofs.Ytbcgbcipigcbhaa.sgm (fun a => F (o' a)) n + (F (o' j) - F (o' i)) :=
        sgm_one (b := i) hi.2 (fun a _ h => if_neg h) (by simp only [if_true]; omega)
      have e2 : Go.Proofs.Ytbcgbcipigcbhaa.sgm (fun a => F (swp o' i j a)) n = Go.Proofs.Ytbcgbcipigcbhaa.sgm (fun a => if a = i then F (o' j) else F (o' a)) n + (F (o' i) - F (o' j)) :=
        sgm_one (b := j) hj.2 (fun a _ h => by
          by_cases h1 : a = i
          · subst h1; rw [if_pos rfl, swp_l]
          · rw [if_neg h1, swp_ne h1 h]) (by rw [swp_r, if_neg (Ne.symm hij)]; omega)
      rw [e2, e1]; omega

/-! ### How often a way has a cell -/
def stp (f : Nat → Nat) (n i : Nat) : Nat := ((List.range n).find? fun k => decide (f (itr f k i) = itr f k i)).getD 0
section
variable {n : Nat} {v : Nat → Int} {f : Nat → Nat} {c k i x : Nat}
theorem Fall.stp (h : Fall n v f) (hi : i < n) : Stop f i (stp f n i) ∧ stp f n i < n := by
  obtain ⟨k, hk, hkn⟩ := h.stop hi
  have : Go.Proofs.Ytbcgbcipigcbhaa.stp f n i = k := by
    unfold Go.Proofs.Ytbcgbcipigcbhaa.stp
    have : (List.range n).find? (fun k => decide (f (itr f k i) = itr f k i)) = some k := by
      rw [List.find?_eq_some_iff_getElem]
      refine ⟨decide_eq_true hk.2, k, by simpa using hkn, by simp, fun j hj => ?_⟩
      have h1 : ¬ f (itr f j i) = itr f j i := hk.1 j hj
      simp [h1]
    rw [this]; rfl
  rw [this]
  exact ⟨hk, hkn⟩
def hitN (f : Nat → Nat) (n c i : Nat) : Int := ((wayN f i (stp f n i)).count c : Nat)
theorem wayN_cons : wayN f i (k + 1) = i :: wayN f (f i) k := by
  unfold wayN
  rw [List.range_succ_eq_map, List.map_cons, List.map_map]
  refine congrArg _ (List.map_congr_left fun j _ => ?_)
  exact itr_out f j i
theorem hit_stay (h : Fall n v f) (hi : i < n) (e : f i = i) : hitN f n c i = if i = c then 1 else 0 := by
  have h0 : stp f n i = 0 := (h.stp hi).1.uniq ⟨fun j hj => by omega, e⟩
  unfold hitN
  rw [h0]
  simp only [wayN, List.range_succ, List.range_zero, List.nil_append, List.map_cons, List.map_nil, itr, List.count_cons, List.count_nil]
  by_cases e : i = c <;> simp [e]
theorem hit_next (h : Fall n v f) (hi : i < n) (e : f i ≠ i) : hitN f n c i = (if i = c then 1 else 0) + hitN f n c (f i) := by
  have h1 := (h.stp (h.lt i hi)).1
  have h0 : stp f n i = stp f n (f i) + 1 := (h.stp hi).1.uniq ⟨fun j hj => by
    cases j with
    | zero => exact e
    | succ j => rw [itr_out f (j + 1) i, itr_out f j i]; exact h1.1 j (by omega), by
    rw [itr_out f (_ + 1) i, itr_out f _ i]; exact h1.2⟩
  unfold hitN
  rw [h0, wayN_cons, List.count_cons]
  by_cases e : i = c
  · simp [e]; omega
  · simp [e]
theorem hit_pos : 0 ≤ hitN f n c i := by unfold hitN; omega
/-- lower cells' ways don't come by -/
theorem hit_low (h : Fall n v f) : ∀ (r : Nat) {i : Nat}, i < n → rank n v i ≤ r → v i < v c → hitN f n c i = 0
  | r, i, hi, hr, hl => by
    have hne : i ≠ c := fun e => by subst e; omega
    by_cases e : f i = i
    · rw [hit_stay h hi e, if_neg hne]
    · have hf := (h.fall i hi).resolve_left e
      have h1 := rank_lt (n := n) (d := v) (i := f i) (j := i) (h.lt i hi) hf
      cases r with
      | zero => omega
      | succ r => rw [hit_next h hi e, if_neg hne, hit_low h r (h.lt i hi) (by omega) (by omega)]; rfl
theorem hit_self (h : Fall n v f) (hc : c < n) : hitN f n c c = 1 := by
  by_cases e : f c = c
  · rw [hit_stay h hc e, if_pos rfl]
  · have hf := (h.fall c hc).resolve_left e
    rw [hit_next h hc e, if_pos rfl, hit_low h _ (h.lt c hc) (Nat.le_refl _) hf]; rfl
theorem hit_le (h : Fall n v f) (hc : c < n) : ∀ (r : Nat) {i : Nat}, i < n → rank n v i ≤ r → hitN f n c i ≤ 1
  | r, i, hi, hr => by
    by_cases hic : i = c
    · subst hic; rw [hit_self h hi]; omega
    · by_cases e : f i = i
      · rw [hit_stay h hi e, if_neg hic]; omega
      · have h1 := rank_lt (n := n) (d := v) (i := f i) (j := i) (h.lt i hi) ((h.fall i hi).resolve_left e)
        cases r with
        | zero => omega
        | succ r => rw [hit_next h hi e, if_neg hic]; have := hit_le h hc r (h.lt i hi) (by omega); omega
/-- a sink is met by those whose sink it is -/
theorem hit_sink (h : Fall n v f) (hc : c < n) (hs : f c = c) : ∀ (r : Nat) {i : Nat}, i < n → rank n v i ≤ r → hitN f n c i = if sinkN f n i = c then 1 else 0
  | r, i, hi, hr => by
    by_cases e : f i = i
    · rw [hit_stay h hi e, sink_here n e]
    · have h1 := rank_lt (n := n) (d := v) (i := f i) (j := i) (h.lt i hi) ((h.fall i hi).resolve_left e)
      have hic : i ≠ c := fun e2 => by subst e2; exact e hs
      cases r with
      | zero => omega
      | succ r => rw [hit_next h hi e, if_neg hic, hit_sink h hc hs r (h.lt i hi) (by omega), h.sink_next hi]; omega
/-- all ways -/
def totN (f : Nat → Nat) (n c : Nat) : Int := sgm (hitN f n c) n
theorem tot_le (h : Fall n v f) (hc : c < n) : totN f n c ≤ n := by
  have := sgm_le (F := hitN f n c) (d := 1) (m := n) (fun a ha => hit_le h hc _ ha (Nat.le_refl _))
  unfold totN; omega
theorem tot_pos : 0 ≤ totN f n c := sgm_pos (fun _ _ => hit_pos)

/-! ### The wet row, by falling cells -/
open Classical in
/-- m cells are still to come -/
structure WetI (n : Nat) (f o : Nat → Nat) (m : Nat) (u : Nat → Int) : Prop where
  pos : ∀ x, x < n → 0 ≤ u x
  eq : ∀ c, c < n → sgm (fun a => (1 + u (o a)) * hitN f n c (o a)) m + (if ∃ a, m ≤ a ∧ a < n ∧ o a = c then u c else 0) = totN f n c
open Classical in
theorem WetI.le (h : Fall n v f) {o : Nat → Nat} {m : Nat} {u : Nat → Int} (ho : ∀ a, a < n → o a < n) (hm : m ≤ n) (I : WetI n f o m u) {a : Nat} (ha : a < m) : u (o a) + 1 ≤ n := by
  have hc := ho a (by omega)
  have h1 := I.eq (o a) hc
  have h2 := sgm_ge (F := fun b => (1 + u (o b)) * hitN f n (o a) (o b)) (b := a) (m := m) (fun b hb => Int.mul_nonneg (by have := I.pos (o b) (ho b (by omega)); omega) hit_pos) ha
  simp only [hit_self h hc, Int.mul_one] at h2
  have h3 := tot_le h hc
  have h4 : (0 : Int) ≤ if ∃ b, m ≤ b ∧ b < n ∧ o b = o a then u (o a) else 0 := by split; exact I.pos _ hc; exact Int.le_refl _
  omega
open Classical in
theorem wetI_start {o : Nat → Nat} (ho : ∀ F : Nat → Int, sgm (fun a => F (o a)) n = sgm F n) : WetI n f o n (fun _ => 0) where
  pos := fun _ _ => Int.le_refl _
  eq := fun c hc => by
    rw [if_neg (fun ⟨a, h1, h2, _⟩ => by omega)]
    simp only [Int.add_zero, Int.one_mul]
    exact ho (hitN f n c)
/-- one cell: it is added to where it goes -/
def wetU (f : Nat → Nat) (u : Nat → Int) (x : Nat) : Nat → Int := fun y => if y = x then u x + 1 else if y = f x then u y + (u x + 1) else u y
open Classical in
theorem wetI_step (h : Fall n v f) {o : Nat → Nat} {m : Nat} {u : Nat → Int} (ho : ∀ a, a < n → o a < n) (hinj : ∀ a b, a < n → b < n → o a = o b → a = b) (hsur : ∀ c, c < n → ∃ a, a < n ∧ o a = c)
    (hup : ∀ a b, a ≤ b → b < n → v (o a) ≤ v (o b)) (hm : m < n) (I : WetI n f o (m + 1) u) : WetI n f o m (wetU f u (o m)) := by
  have hx := ho m hm
  have hux := I.pos _ hx
  refine ⟨fun y hy => ?_, fun c hc => ?_⟩
  · have := I.pos y hy
    unfold wetU
    split
    · omega
    · split <;> omega
  · have hI := I.eq c hc
    rw [sgm] at hI
    generalize hxe : o m = x at *
    -- where the water goes comes later
    have hnew : f x ≠ x → ∃ b, b < m ∧ o b = f x := fun e => by
      obtain ⟨b, hb, hbe⟩ := hsur (f x) (h.lt x hx)
      refine ⟨b, ?_, hbe⟩
      rcases Nat.lt_or_ge b m with hlt | hge
      · exact hlt
      · have h1 := hup m b hge hb
        have h2 := (h.fall x hx).resolve_left e
        rw [hxe, hbe] at h1
        omega
    have hsum : sgm (fun a => (1 + wetU f u x (o a)) * hitN f n c (o a)) m = sgm (fun a => (1 + u (o a)) * hitN f n c (o a)) m + (if f x = x then 0 else (u x + 1) * hitN f n c (f x)) := by
      have hne : ∀ a, a < m → o a ≠ x := fun a ha e => by
        have := hinj a m (by omega) hm (by rw [hxe]; exact e)
        omega
      by_cases e : f x = x
      · rw [if_pos e, Int.add_zero]
        refine sgm_congr fun a ha => ?_
        unfold wetU
        rw [if_neg (hne a ha), if_neg (by rw [e]; exact hne a ha)]
      · rw [if_neg e]
        obtain ⟨b, hb, hbe⟩ := hnew e
        refine sgm_one (b := b) hb (fun a ha hab => ?_) ?_
        · unfold wetU
          rw [if_neg (hne a ha), if_neg (fun e2 => hab (hinj a b (by omega) (by omega) (by rw [e2, hbe])))]
        · unfold wetU
          rw [if_neg (hne b hb), if_pos hbe, hbe, ← Int.add_assoc, Int.add_mul]
    rw [hsum]
    generalize hZ : (if f x = x then (0 : Int) else (u x + 1) * hitN f n c (f x)) = Z
    by_cases hcx : c = x
    · subst hcx
      rw [if_pos ⟨m, Nat.le_refl _, hm, hxe⟩]
      rw [if_neg (fun ⟨a, h1, h2, h3⟩ => by have := hinj a m (by omega) hm (by rw [hxe]; exact h3); omega), hit_self h hc] at hI
      have hz : Z = 0 := by
        rw [← hZ]
        split
        · rfl
        · rename_i e
          rw [hit_low h _ (h.lt c hc) (Nat.le_refl _) ((h.fall c hc).resolve_left e), Int.mul_zero]
      rw [hz]
      have hw : wetU f u c c = u c + 1 := by unfold wetU; rw [if_pos rfl]
      rw [hw]
      omega
    · have hg : (1 + u x) * hitN f n c x = if f x = x then 0 else (u x + 1) * hitN f n c (f x) := by
        split
        · rename_i e; rw [hit_stay h hx e, if_neg (Ne.symm hcx), Int.mul_zero]
        · rename_i e; rw [hit_next h hx e, if_neg (Ne.symm hcx), Int.zero_add, Int.add_comm 1]
      rw [hg] at hI
      have hp : (if ∃ a, m ≤ a ∧ a < n ∧ o a = c then wetU f u x c else 0) = if ∃ a, m + 1 ≤ a ∧ a < n ∧ o a = c then u c else 0 := by
        by_cases hex : ∃ a, m + 1 ≤ a ∧ a < n ∧ o a = c
        · obtain ⟨a, h1, h2, h3⟩ := hex
          rw [if_pos ⟨a, by omega, h2, h3⟩, if_pos ⟨a, h1, h2, h3⟩]
          unfold wetU
          rw [if_neg hcx, if_neg]
          intro e
          have hfx : f x ≠ x := fun e2 => hcx (e.trans e2)
          obtain ⟨b, hb, hbe⟩ := hnew hfx
          have := hinj a b h2 (by omega) (by rw [h3, e, hbe])
          omega
        · rw [if_neg hex, if_neg]
          rintro ⟨a, h1, h2, h3⟩
          by_cases e : a = m
          · rw [e, hxe] at h3; exact hcx h3.symm
          · exact hex ⟨a, by omega, h2, h3⟩
      rw [hp]
      omega
open Classical in
theorem wetI_end {o : Nat → Nat} {u : Nat → Int} (hsur : ∀ c, c < n → ∃ a, a < n ∧ o a = c) (I : WetI n f o 0 u) (hc : c < n) : u c = totN f n c := by
  have h1 := I.eq c hc
  obtain ⟨a, ha, he⟩ := hsur c hc
  rw [if_pos ⟨a, Nat.zero_le _, ha, he⟩] at h1
  simpa [sgm] using h1
/-! ### All sinks together -/
theorem sum_hits {h : Nat → Nat} : ∀ {l : List Nat}, l.Nodup → (∀ i, i < n → h i ∈ l) → (l.map fun s => sgm (fun i => if h i = s then 1 else 0) n).sum = n := by
  intro l hl hin
  have key : ∀ m, m ≤ n → (l.map fun s => sgm (fun i => if h i = s then 1 else 0) m).sum = (m : Int) := by
    intro m
    induction m with
    | zero =>
      intro _
      have h0 : ∀ l : List Nat, (l.map fun s => sgm (fun i => if h i = s then (1 : Int) else 0) 0).sum = 0 := by
        intro l
        induction l with
        | nil => rfl
        | cons a l ih => rw [List.map_cons, List.sum_cons, ih]; rfl
      exact h0 l
    | succ m ih =>
      intro hm
      have h1 := ih (by omega)
      have h2 : ∀ (l : List Nat), (l.map fun s => sgm (fun i => if h i = s then (1 : Int) else 0) (m + 1)).sum = (l.map fun s => sgm (fun i => if h i = s then (1 : Int) else 0) m).sum + (l.count (h m) : Nat) := by
        intro l
        induction l with
        | nil => rfl
        | cons a l ih =>
          simp only [List.map_cons, List.sum_cons, ih, List.count_cons]
          rw [sgm]
          by_cases e : h m = a
          · simp [e]; omega
          · simp [e, Ne.symm e]; omega
      rw [h2, h1, List.Nodup.count hl, if_pos (hin m (by omega))]
      push_cast; rfl
  exact key n (Nat.le_refl _)
end
end Go.Proofs.Ytbcgbcipigcbhaa
/- slices.Backward; sink.Wet. -/
namespace Go.Proofs.Ytbcgbcipigcbhaa
open Go.RowKit
set_option linter.unusedVariables false
set_option linter.unusedSimpArgs false
set_option maxRecDepth 100000

theorem rf_cut {P : Program} {N : Nat} {g : Operand} {ps : Array Tmp} {sg bd : Code} {K : Nat → (Nat → Value) → World → Prop} {e : Nat → Value} {w : World} (M : (Nat → Value) → Prop) (hM : M e) (h : ∀ e, M e → RF P N g ps sg bd K e w) : RF P N g ps sg bd K e w := h e hM
section
variable {W : World} {A : Option Addr} {n c : Nat} {o : Nat → Nat}
theorem backward_E : Fn Try.prog 85 [.slice A n c] W
    (fun v w' => ∃ b, v = .func (.func 133) (([] : List Value).toArray) [.pointer (some ⟨b, 0, none⟩)].toArray ∧ Blk w' b 122 [.slice A n c] ∧ W.heap.size ≤ b ∧ Gr W w') := by
  have S := St.start W
  refine Fn_enter Try.func85 rfl Try.results85 Try.ntmps85 (by kernel_rfl) (by kernel_rfl) ?_
  repeat refine cw_seq ?_
  refine cw_region ?_
  refine rw_newB (op_box rfl) S ?_
  intro b_bx w2_ g2_ S
  refine rw_v (op_pure rfl) ?_
  first | refine rw_end ?_ | (refine rw_nil ?_; show CW _ _ _ _ _ _) | refine rw_nil ?_
  repeat refine cw_seq ?_
  refine cw_region ?_
  iterate 2 refine rw_v (op_pure rfl) ?_
  first | refine rw_end ?_ | (refine rw_nil ?_; show CW _ _ _ _ _ _) | refine rw_nil ?_
  repeat refine cw_seq ?_
  refine cw_ret ?_
  repeat first | refine ret_then ?_ | refine ret_inb ?_
  exact res1 rfl ⟨b_bx, rfl, S.blk (i := 0) rfl, (S.sep.1.2 _ rfl).resolve_left (fun h => h), S.out⟩
theorem backward1_E {l b : Nat} (J : Nat → World → Prop) (hn : n ≤ 1048576) (hgr : ∀ k w w', J k w → Gr w w' → J k w') (hf : ∀ k w, J k w → Blk w b 122 [.slice A n c] ∧ Rd w A (cellsN n o))
    (hy : ∀ k w, k < n → J k w → Yld Try.prog l [.int .i64 (n - 1 - k : Nat), .int .i64 (o (n - 1 - k) : Nat)] w (fun v w' => v = .bool true ∧ J (k + 1) w')) (h0 : J 0 W) :
    Fn Try.prog 133 ([.func (.yield l) #[] #[]] ++ [.pointer (some ⟨b, 0, none⟩)]) W (fun _ w' => J n w') := by
  have hB0 := (hf 0 W h0).1
  have S := St.start W
  refine Fn_enter Try.func133 rfl Try.results133 Try.ntmps133 (by kernel_rfl) (by kernel_rfl) ?_
  repeat refine cw_seq ?_
  refine cw_region ?_
  refine rw_r (op_loadB Try.underlying122 rfl rfl (hB0.gr S.out) rfl) ?_
  refine rw_v (op_len Try.underlying122 rfl) ?_
  refine rw_v (op_rng rfl (by omega)) ?_
  refine rw_v (op_pure rfl) ?_
  first | refine rw_end ?_ | (refine rw_nil ?_; show CW _ _ _ _ _ _) | refine rw_nil ?_
  repeat refine cw_seq ?_
  refine cw_block ?_
  repeat refine cw_seq ?_
  refine cw_loop (fun m e w => ∃ k : Nat, k + m = n ∧ SL e [(0, .func (.yield l) #[] #[]), (1, .pointer (some ⟨b, 0, none⟩)), (3, .int .i64 ((n : Int) - 1 - k))] ∧ J k w) n ⟨0, by omega, ⟨rfl, rfl, ie (by omega), trivial⟩, hgr _ _ _ h0 S.out⟩ ?_
  clear S hB0
  rintro m e w ⟨k, hk, hsl, hJ⟩
  rw [hsl.fold]
  obtain ⟨hB, hA⟩ := hf k w hJ
  have G := Gr.refl w
  have S := St.start w
  by_cases hkn : k < n
  · have sa_A : SomeA A := hA.someA (by rw [cellsN_len]; omega)
    have ek : (n : Int) - 1 - k = ((n - 1 - k : Nat) : Int) := by omega
    rw [ek]
    have hget : (cellsN n o)[((n - 1 - k : Nat) : Int).toNat * 1]? = some (.int .i64 (o (n - 1 - k) : Nat)) := by rw [Nat.mul_one, Int.toNat_natCast]; exact cellsN_get (by omega)
    have hyk := hy k w hkn hJ
    generalize hq : n - 1 - k = q at *
    repeat refine cw_seq ?_
    refine cw_region ?_
    refine rw_v (op_pure rfl) ?_
    refine rw_v (op_b (b := true) rfl (decide_eq_true (by omega))) ?_
    first | refine rw_end ?_ | (refine rw_nil ?_; show CW _ _ _ _ _ _) | refine rw_nil ?_
    repeat refine cw_seq ?_
    refine cw_true rfl ?_
    repeat refine cw_seq ?_
    refine cw_skip ?_
    try show CW _ _ _ _ _ _
    repeat refine cw_seq ?_
    refine cw_block ?_
    repeat refine cw_seq ?_
    refine cw_region ?_
    iterate 2 refine rw_v (op_pure rfl) ?_
    refine rw_r (op_loadB Try.underlying122 rfl rfl (hB.gr S.out) rfl) ?_
    refine rw_v (op_pure rfl) ?_
    refine rw_v (op_idx Try.underlying122 Try.sizeOf3 rfl rfl sa_A (by omega) (by omega)) ?_
    refine rw_r (op_ldR Try.underlying3 rfl rfl (hA.gr S.out) hget) ?_
    refine rw_yield rfl rfl hyk ?_
    rintro _ w2 ⟨rfl, hJ2⟩
    refine rw_v (op_pure rfl) ?_
    first | refine rw_end ?_ | (refine rw_nil ?_; show CW _ _ _ _ _ _) | refine rw_nil ?_
    repeat refine cw_seq ?_
    refine cw_false rfl ?_
    repeat refine cw_seq ?_
    refine cw_skip ?_
    try show CW _ _ _ _ _ _
    clear S
    have S := St.start w2
    repeat refine cw_seq ?_
    refine cw_region ?_
    refine rw_v (op_pure rfl) ?_
    refine rw_v (op_rng rfl (by omega)) ?_
    refine rw_v (op_pure rfl) ?_
    first | refine rw_end ?_ | (refine rw_nil ?_; show CW _ _ _ _ _ _) | refine rw_nil ?_
    exact ⟨m - 1, by omega, k + 1, by omega, ⟨rfl, rfl, ie (by omega), trivial⟩, hgr _ _ _ hJ2 S.out⟩
  · obtain rfl : k = n := by omega
    repeat refine cw_seq ?_
    refine cw_region ?_
    refine rw_v (op_pure rfl) ?_
    refine rw_v (op_b (b := false) rfl (decide_eq_false (by omega))) ?_
    first | refine rw_end ?_ | (refine rw_nil ?_; show CW _ _ _ _ _ _) | refine rw_nil ?_
    repeat refine cw_seq ?_
    refine cw_false rfl ?_
    repeat refine cw_seq ?_
    refine cw_exit ?_
    repeat first | refine exit_then ?_ | refine exit_inb ?_
    exact res0n (hgr _ _ _ hJ S.out)
end
end Go.Proofs.Ytbcgbcipigcbhaa
/- sink.Wet: contract. -/
namespace Go.Proofs.Ytbcgbcipigcbhaa
open Go.RowKit
set_option linter.unusedVariables false
set_option linter.unusedSimpArgs false
set_option maxRecDepth 100000

section
variable {n : Nat} {v : Nat → Int} {f o : Nat → Nat} {m : Nat} {u : Nat → Int}
theorem WetI.all (h : Fall n v f) (ho : Ord n o) (hm : m ≤ n) (I : WetI n f o m u) {y : Nat} (hy : y < n) : 0 ≤ u y ∧ u y ≤ n := by
  refine ⟨I.pos y hy, ?_⟩
  obtain ⟨a, ha, rfl⟩ := ho.all y hy
  rcases Nat.lt_or_ge a m with hlt | hge
  · have := I.le h ho.lt hm hlt; omega
  · have h1 := I.eq _ hy
    rw [if_pos ⟨a, hge, ha, rfl⟩] at h1
    have h2 := sgm_pos (F := fun b => (1 + u (o b)) * hitN f n (o a) (o b)) (m := m) (fun b hb => Int.mul_nonneg (by have := I.pos (o b) (ho.lt b (by omega)); omega) hit_pos)
    have h3 := tot_le h hy
    omega
end
theorem wetU_same {f : Nat → Nat} {u : Nat → Int} {x n : Nat} (e : f x = x) : cellsQ n (updI u x (u x + 1)) = cellsQ n (wetU f u x) := cellsQ_congr fun i _ => by
  unfold updI wetU
  by_cases h : i = x
  · simp [h]
  · simp [h, e]
theorem wetU_next {f : Nat → Nat} {u : Nat → Int} {x n : Nat} (e : f x ≠ x) : cellsQ n (updI (updI u x (u x + 1)) (f x) (u (f x) + (u x + 1))) = cellsQ n (wetU f u x) := cellsQ_congr fun i _ => by
  unfold updI wetU
  by_cases h : i = x
  · subst h; simp [Ne.symm e]
  · by_cases h2 : i = f x
    · subst h2; simp [e]
    · simp [h, h2]
section
variable {W : World} {A : Option Addr} {p gw gh cap : Nat} {cc : Nat → Int} {bs : Nat → Nat} {Rs : Nat → Option Nat}
set_option maxHeartbeats 4000000 in
theorem swet_E (i : Nat) (hi : i < gw * gh) (hG : GridAt W p gw gh cc A cap bs Rs) : Fn Try.prog 36 [.pointer (some ⟨p, 0, none⟩), .agg #[.int .i64 (i % gw : Nat), .int .i64 (i / gw : Nat)]] W
    (RetG (.tuple #[.int .i64 (totN (flowN gw (gridL gw gh cc)) (gw * gh) i), .int .i64 0]) W) := by
  have hw := hG.sw
  have hh := hG.sh
  have hV := gridL_len gw gh cc
  have hgm : gw * gh ≤ 1024 * 1024 := Nat.mul_le_mul hw.2 hh.2
  have hF := flow_fall hw.1 hV
  have hbeg := fun w (g : Gr W w) => sbeginI_E i hi (hG.gr g)
  unfold RetSL at hbeg
  generalize gridL gw gh cc = V at *
  have hrise := fun (A : Option Addr) (c : Nat) (B : Option Addr) (c2 : Nat) (w : World) (hA : Rd w A (ints V)) => rising_E (W := w) (A := A) (B := B) (gw := gw) (c := c) (n2 := gw * gh) (c2 := c2) (V := V) (by omega) hA
  rw [hV] at hrise
  generalize hff : flowN gw V = f at *
  generalize hnn : gw * gh = n at *
  have S := St.start W
  refine Fn_enter_rf Try.func36 rfl Try.results36 Try.ntmps36 (by kernel_rfl) (by kernel_rfl) ?_
  try show CWK _ _ _ _ _ _ _
  refine cwk_seq_r ?_
  repeat refine cw_seq ?_
  refine cw_region ?_
  refine rw_newB (op_box rfl) S ?_
  intro b_c w2_ g2_ S
  iterate 2 refine rw_v (op_pure rfl) ?_
  first | refine rw_end ?_ | (refine rw_nil ?_; show CW _ _ _ _ _ _) | refine rw_nil ?_
  try show CWK _ _ _ _ _ _ _
  refine cwk_seq_r ?_
  repeat refine cw_seq ?_
  refine cw_region ?_
  refine rw_v (op_pure rfl) ?_
  refine rw_r (op_loadAB Try.underlying44 rfl (Try.sizeOf44 _) rfl (S.blk (i := 0) rfl) rfl rfl) ?_
  refine rw_call rfl (hbeg w2_ S.out) ?_
  rintro _ w3_ ⟨A_v, c_v, A_to, c_to, rfl, hv, hFv, hto, hFt, hd, g3_⟩
  have S := S.push2 g3_ (h1 := .row 2 1 A_v _ c_v _) (h2 := .row 3 1 A_to _ c_to _) hv hto hFv hFt hd
  iterate 4 refine rw_v (op_pure rfl) ?_
  refine rw_newB (op_alloc Try.zeroValue136 rfl) S ?_
  intro b_l w5_ g5_ S
  refine rw_storeSA (i := 0) S rfl (Try.sizeOf136 _) rfl rfl rfl rfl rfl rfl ?_
  intro w6_ S
  iterate 2 refine rw_v (op_pure rfl) ?_
  first | refine rw_end ?_ | (refine rw_nil ?_; show CW _ _ _ _ _ _) | refine rw_nil ?_
  try show CWK _ _ _ _ _ _ _
  refine cwk_seq_r ?_
  repeat refine cw_seq ?_
  refine cw_region ?_
  refine rw_v (op_pure rfl) ?_
  refine rw_v (op_b (b := false) rfl (bne_eq_false_iff_eq.2 (by omega))) ?_
  first | refine rw_end ?_ | (refine rw_nil ?_; show CW _ _ _ _ _ _) | refine rw_nil ?_
  repeat refine cw_seq ?_
  refine cw_false rfl ?_
  repeat refine cw_seq ?_
  refine cw_skip ?_
  try show CW _ _ _ _ _ _
  try show CWK _ _ _ _ _ _ _
  refine cwk_seq_r ?_
  repeat refine cw_seq ?_
  refine cw_region ?_
  refine rw_v (op_fieldAddr Try.underlying136 rfl Try.sizeOf22 rfl rfl) ?_
  refine rw_r (op_loadB Try.underlying22 rfl rfl (S.blk (i := 0) rfl) rfl) ?_
  refine rw_v (op_len Try.underlying22 rfl) ?_
  refine rw_makeS1 Try.underlying22 info_t2 rfl rfl rfl (n := n) (c := n) (by omega) (by omega) (by omega) (by omega) S ?_
  intro A_wt w8_ g8_ S sa_wt
  refine rw_newB (op_alloc Try.zeroValue22 rfl) S ?_
  intro b_wp w10_ g10_ S
  refine rw_storeS (i := 0) S rfl (Try.sizeOf22 _) rfl rfl rfl rfl rfl rfl ?_
  intro w11_ S
  first | refine rw_end ?_ | (refine rw_nil ?_; show CW _ _ _ _ _ _) | refine rw_nil ?_
  try show CWK _ _ _ _ _ _ _
  refine cwk_seq_l ?_
  try show CWK _ _ _ _ _ _ _
  refine cwk_seq_r ?_
  repeat refine cw_seq ?_
  refine cw_region ?_
  refine rw_r (op_loadAB Try.underlying136 rfl (Try.sizeOf136 _) rfl (S.blk (i := 2) rfl) rfl rfl) ?_
  refine rw_call rfl (hrise A_v c_v A_to c_to w11_ (S.rd (i := 3) rfl)) ?_
  rintro _ w12_ ⟨o, hord, hup, A_od, c_od, rfl, hRo, hFo, g12_⟩
  have S := S.pushRow hRo hFo g12_
  refine rw_call rfl (backward_E) ?_
  rintro _ w13_ ⟨b_bw, rfl, hBw, hFw, g13_⟩
  have S := S.push g13_ (h := .blk b_bw _ _) hBw (fun g hg => by have : g = b_bw := hg; omega)
  first | refine rw_end ?_ | (refine rw_nil ?_; show CW _ _ _ _ _ _) | refine rw_nil ?_
  try show CWK _ _ _ _ _ _ _
  rw [cellsQ_zero] at S
  have S := S.sub (.cons_cons _ (.cons_cons _ (.cons_cons _ (.cons_cons _ (.cons_cons _ (.cons_cons _ (.cons_cons _ (.cons _ (.slnil)))))))))
  refine cwk_block ?_
  refine rf_cut (fun e => SL e [(6, .pointer (some ⟨b_l, 0, none⟩)), (7, .int .i64 i), (9, .pointer (some ⟨b_wp, 0, none⟩)), (28, .func (.func 133) (([] : List Value).toArray) [.pointer (some ⟨b_bw, 0, none⟩)].toArray)]) ⟨rfl, rfl, rfl, rfl, trivial⟩ ?_
  intro e hsl
  rw [hsl.fold]
  refine rf_law (gf := 133) (lb := [.pointer (some ⟨b_bw, 0, none⟩)])
    (fun (k : Nat) L => ∃ u, k ≤ n ∧ WetI n f o (n - k) u ∧ L = [.blk b_bw 122 [.slice A_od n c_od], .row 3 1 A_od n c_od (cellsN n o), .blk b_wp 22 [.slice A_wt n n], .row 2 1 A_wt n n (cellsQ n u), .blk b_l 136 [.int .i64 gw, .slice A_v n c_v, .slice A_to n c_to], .row 2 1 A_v n c_v (ints V), .row 3 1 A_to n c_to (cellsN n f)])
    (fun k vs k' => k < n ∧ vs = [.int .i64 (n - 1 - k : Nat), .int .i64 (o (n - 1 - k) : Nat)] ∧ k' = k + 1) (fun k => k = n) 0 rfl (by kernel_rfl) (by kernel_rfl)
    (fun k k' e L => k < n ∧ k' = k + 1 ∧ SL e [(6, .pointer (some ⟨b_l, 0, none⟩)), (9, .pointer (some ⟨b_wp, 0, none⟩)), (11, .int .i64 (o (n - 1 - k) : Nat))] ∧ ∃ u, WetI n f o (n - k) u ∧ L = [.blk b_bw 122 [.slice A_od n c_od], .row 3 1 A_od n c_od (cellsN n o), .blk b_wp 22 [.slice A_wt n n], .row 2 1 A_wt n n (cellsQ n u), .blk b_l 136 [.int .i64 gw, .slice A_v n c_v, .slice A_to n c_to], .row 2 1 A_v n c_v (ints V), .row 3 1 A_to n c_to (cellsN n f)])
    ⟨_, Nat.zero_le _, wetI_start (fun F => hord.ps.sgm F), rfl⟩ S (by rintro k vs k' ⟨_, rfl, _⟩; rfl) ?_ ?_ ?_ ?_
  · intro l J w1 hgr hJ h0 hy
    refine (backward1_E (n := n) (c := c_od) (A := A_od) (o := o) (W := w1) (b := b_bw) (l := l) J (by omega) hgr (fun k w hk => ?_) (fun k w hk hJk => hy k _ _ w ⟨hk, rfl, rfl⟩ hJk) h0).mono (fun _ w' h => ⟨n, rfl, h⟩)
    obtain ⟨L, ⟨u, _, _, rfl⟩, o1, d1, S1⟩ := hJ k w hk
    exact ⟨S1.blk (i := 2) rfl, S1.rd (i := 3) rfl⟩
  · rintro ob db k vs k' w2 L ⟨hk, rfl, rfl⟩ ⟨u, hkn, hI, rfl⟩ S
    show CW _ _ _ _ (upd (upd _ 29 _) 30 _) _
    repeat refine cw_seq ?_
    refine cw_region ?_
    refine rw_v (op_pure rfl) ?_
    first | refine rw_end ?_ | (refine rw_nil ?_; show CW _ _ _ _ _ _) | refine rw_nil ?_
    exact ⟨_, ⟨hk, rfl, ⟨rfl, rfl, rfl, trivial⟩, u, hI, rfl⟩, S⟩
  · rintro ob db k k' e w2 L ⟨hk, rfl, hsl2, u, hI, rfl⟩ S
    rw [hsl2.fold]
    obtain ⟨m, hm⟩ : ∃ m, m = n - 1 - k := ⟨_, rfl⟩
    rw [← hm]
    rw [show n - k = m + 1 by omega] at hI
    have hx := hord.lt m (by omega)
    have hI' := wetI_step hF hord.lt hord.ps.inj hord.all (fun a b hab hb => hup a b hab hb) (by omega) hI
    have hux := hI.all hF hord (by omega) hx
    have hufx := hI.all hF hord (by omega) (hF.lt _ hx)
    have hfx := hF.lt _ hx
    generalize o m = x at *
    have hg1 : (cellsQ n u)[((x : Nat) : Int).toNat * 1]? = some (.int .i64 (u x)) := cellsQ_get hx
    have hg2 : (cellsN n f)[((x : Nat) : Int).toNat * 1]? = some (.int .i64 (f x : Nat)) := by rw [Nat.mul_one, Int.toNat_natCast]; exact cellsN_get hx
    have sa_wt : SomeA A_wt := (S.row (i := 5) rfl).someA (by omega)
    have sa_to : SomeA A_to := (S.row (i := 8) rfl).someA (by omega)
    by_cases hfe : f x = x
    · skip
      repeat refine cw_seq ?_
      refine cw_block ?_
      repeat refine cw_seq ?_
      refine cw_region ?_
      refine rw_r (op_loadB Try.underlying22 rfl rfl (S.blk (i := 4) rfl) rfl) ?_
      refine rw_v (op_pure rfl) ?_
      refine rw_v (op_idx Try.underlying22 Try.sizeOf2 rfl rfl sa_wt (by omega) (by omega)) ?_
      refine rw_r (op_ldR Try.underlying2 rfl rfl (S.rd (i := 5) rfl) hg1) ?_
      refine rw_v (op_rng rfl (by omega)) ?_
      refine rw_v (op_idx Try.underlying22 Try.sizeOf2 rfl rfl sa_wt (by omega) (by omega)) ?_
      refine rw_storeR (i := 5) S rfl (Try.sizeOf2 _) rfl rfl rfl rfl (by rw [cellsQ_len]; omega) rfl ?_
      intro w14_ S
      first | refine rw_end ?_ | (refine rw_nil ?_; show CW _ _ _ _ _ _) | refine rw_nil ?_
      repeat refine cw_seq ?_
      refine cw_region ?_
      refine rw_v (op_fieldAddr Try.underlying136 rfl Try.sizeOf122 rfl rfl) ?_
      refine rw_r (op_loadB Try.underlying122 rfl rfl (S.blk (i := 6) rfl) rfl) ?_
      refine rw_v (op_pure rfl) ?_
      refine rw_v (op_idx Try.underlying122 Try.sizeOf3 rfl rfl sa_to (by omega) (by omega)) ?_
      refine rw_r (op_ldR Try.underlying3 rfl rfl (S.rd (i := 8) rfl) hg2) ?_
      refine rw_v (op_pure rfl) ?_
      refine rw_v (op_b (b := false) rfl (bne_eq_false_iff_eq.2 (by omega))) ?_
      first | refine rw_end ?_ | (refine rw_nil ?_; show CW _ _ _ _ _ _) | refine rw_nil ?_
      repeat refine cw_seq ?_
      refine cw_false rfl ?_
      repeat refine cw_seq ?_
      refine cw_skip ?_
      try show CW _ _ _ _ _ _
      rw [cellsQ_set, wetU_same hfe] at S
      exact ⟨_, ⟨_, by omega, by rw [show n - (k + 1) = m by omega]; exact hI', rfl⟩, S⟩
    · have hg3 : (cellsQ n (updI u x (u x + 1)))[((f x : Nat) : Int).toNat * 1]? = some (.int .i64 (u (f x))) := by
        rw [cellsQ_get hfx]; unfold updI; rw [if_neg hfe]
      have hg4 : (cellsQ n (updI u x (u x + 1)))[((x : Nat) : Int).toNat * 1]? = some (.int .i64 (u x + 1)) := by
        rw [cellsQ_get hx]; unfold updI; rw [if_pos rfl]
      repeat refine cw_seq ?_
      refine cw_block ?_
      repeat refine cw_seq ?_
      refine cw_region ?_
      refine rw_r (op_loadB Try.underlying22 rfl rfl (S.blk (i := 4) rfl) rfl) ?_
      refine rw_v (op_pure rfl) ?_
      refine rw_v (op_idx Try.underlying22 Try.sizeOf2 rfl rfl sa_wt (by omega) (by omega)) ?_
      refine rw_r (op_ldR Try.underlying2 rfl rfl (S.rd (i := 5) rfl) hg1) ?_
      refine rw_v (op_rng rfl (by omega)) ?_
      refine rw_v (op_idx Try.underlying22 Try.sizeOf2 rfl rfl sa_wt (by omega) (by omega)) ?_
      refine rw_storeR (i := 5) S rfl (Try.sizeOf2 _) rfl rfl rfl rfl (by rw [cellsQ_len]; omega) rfl ?_
      intro w15_ S
      first | refine rw_end ?_ | (refine rw_nil ?_; show CW _ _ _ _ _ _) | refine rw_nil ?_
      repeat refine cw_seq ?_
      refine cw_region ?_
      refine rw_v (op_fieldAddr Try.underlying136 rfl Try.sizeOf122 rfl rfl) ?_
      refine rw_r (op_loadB Try.underlying122 rfl rfl (S.blk (i := 6) rfl) rfl) ?_
      refine rw_v (op_pure rfl) ?_
      refine rw_v (op_idx Try.underlying122 Try.sizeOf3 rfl rfl sa_to (by omega) (by omega)) ?_
      refine rw_r (op_ldR Try.underlying3 rfl rfl (S.rd (i := 8) rfl) hg2) ?_
      refine rw_v (op_pure rfl) ?_
      refine rw_v (op_b (b := true) rfl (bne_iff_ne.2 (by omega))) ?_
      first | refine rw_end ?_ | (refine rw_nil ?_; show CW _ _ _ _ _ _) | refine rw_nil ?_
      repeat refine cw_seq ?_
      refine cw_true rfl ?_
      repeat refine cw_seq ?_
      refine cw_draw (C := fun wq => Gr w15_ wq) [0, 1, 2, 3, 4, 5, 6, 7, 8, 9, 10, 11] [12, 13, 14] (by kernel_rfl) (by kernel_rfl) (Gr.drew _) ?_
      simp only [pickL, List.drop_succ_cons, List.drop_zero]
      rw [cellsQ_set] at S
      refine rq_r (fun wq hq => op_loadB Try.underlying22 rfl rfl ((S.gr hq).blk (i := 4) rfl) rfl) ?_
      refine rq_v (op_fieldAddr Try.underlying136 rfl Try.sizeOf122 rfl rfl) ?_
      refine rq_r (fun wq hq => op_loadB Try.underlying122 rfl rfl ((S.gr hq).blk (i := 6) rfl) rfl) ?_
      refine rq_v (op_pure rfl) ?_
      refine rq_v (op_idx Try.underlying122 Try.sizeOf3 rfl rfl sa_to (by omega) (by omega)) ?_
      refine rq_r (fun wq hq => op_ldR Try.underlying3 rfl rfl ((S.gr hq).rd (i := 8) rfl) hg2) ?_
      refine rq_v (op_idx Try.underlying22 Try.sizeOf2 rfl rfl sa_wt (by omega) (by omega)) ?_
      refine rq_r (fun wq hq => op_ldR Try.underlying2 rfl rfl ((S.gr hq).rd (i := 5) rfl) hg3) ?_
      refine rq_r (fun wq hq => op_loadB Try.underlying22 rfl rfl ((S.gr hq).blk (i := 4) rfl) rfl) ?_
      refine rq_v (op_pure rfl) ?_
      refine rq_v (op_idx Try.underlying22 Try.sizeOf2 rfl rfl sa_wt (by omega) (by omega)) ?_
      refine rq_r (fun wq hq => op_ldR Try.underlying2 rfl rfl ((S.gr hq).rd (i := 5) rfl) hg4) ?_
      refine rq_nil ?_
      intro w16_ g16_
      have S := S.gr g16_
      refine rw_v (op_rng rfl (by omega)) ?_
      refine rw_v (op_idx Try.underlying22 Try.sizeOf2 rfl rfl sa_wt (by omega) (by omega)) ?_
      refine rw_storeR (i := 5) S rfl (Try.sizeOf2 _) rfl rfl rfl rfl (by rw [cellsQ_len]; omega) rfl ?_
      intro w17_ S
      first | refine rw_end ?_ | (refine rw_nil ?_; show CW _ _ _ _ _ _) | refine rw_nil ?_
      rw [cellsQ_set, wetU_next hfe] at S
      exact ⟨_, ⟨_, by omega, by rw [show n - (k + 1) = m by omega]; exact hI', rfl⟩, S⟩
  · rintro l D ob k w2 L rfl ⟨u, _, hI, rfl⟩ S
    rw [Nat.sub_self] at hI
    have hui := wetI_end hord.all hI hi
    have hg1 : (cellsQ k u)[((i : Nat) : Int).toNat * 1]? = some (.int .i64 (totN f k i)) := by rw [cellsQ_get hi, hui]
    show CW _ _ _ _ _ _
    have sa_wt : SomeA A_wt := (S.row (i := 5) rfl).someA (by omega)
    repeat refine cw_seq ?_
    refine cw_region ?_
    refine rw_r (op_loadB Try.underlying22 rfl rfl (S.blk (i := 4) rfl) rfl) ?_
    refine rw_v (op_pure rfl) ?_
    refine rw_v (op_idx Try.underlying22 Try.sizeOf2 rfl rfl sa_wt (by omega) (by omega)) ?_
    refine rw_r (op_ldR Try.underlying2 rfl rfl (S.rd (i := 5) rfl) hg1) ?_
    iterate 2 refine rw_v (op_pure rfl) ?_
    first | refine rw_end ?_ | (refine rw_nil ?_; show CW _ _ _ _ _ _) | refine rw_nil ?_
    repeat refine cw_seq ?_
    refine cw_ret ?_
    repeat first | refine ret_then ?_ | refine ret_inb ?_
    refine qm_ret S (i := 1) rfl rfl fun w' S' => ?_
    exact qf_ret (res2 rfl rfl ⟨rfl, S'.out⟩)
end
end Go.Proofs.Ytbcgbcipigcbhaa
