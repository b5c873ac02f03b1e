/- hachureref31.Basins: contract; the chapter's example. -/
import Derived.Test.YtbcgbcipigcbhaaSinkE
namespace Go.Proofs.Ytbcgbcipigcbhaa
open Go.RowKit
set_option linter.unusedVariables false
set_option linter.unusedSimpArgs false
set_option maxRecDepth 100000

theorem cz_eq {gw a b : Nat} : ((cz gw a).1 = (cz gw b).1 ∧ (cz gw a).2 = (cz gw b).2) ↔ a = b :=
  ⟨fun h => cz_inj (Prod.ext h.1 h.2), fun h => by rw [h]; exact ⟨rfl, rfl⟩⟩
section
variable {W : World} {A B : Option Addr} {p gw gh cap c : Nat} {cc : Nat → Int} {bs : Nat → Nat} {Rs : Nat → Option Nat} {V : List Int}
set_option maxHeartbeats 4000000 in
theorem rsbas_E (hgw : 1 ≤ gw) (hV : V.length = gw * gh) (hm : gw * gh ≤ 1048576) (hA : Rd W A (ints V)) : Fn Try.prog 29 [modV gw gh A V.length cap] W
    (RetBas gw (gw * gh) (sinkN (flowN gw V) (gw * gh)) (fun a b => .tuple #[a, b]) W) := by
  have hF := flow_fall hgw hV
  have emul : (gw : Int) * gh = ((gw * gh : Nat) : Int) := by push_cast; rfl
  have S := St.start W
  refine Fn_enter Try.func29 rfl Try.results29 Try.ntmps29 (by kernel_rfl) (by kernel_rfl) ?_
  repeat refine cw_seq ?_
  refine cw_region ?_
  refine rw_newB (op_box rfl) S ?_
  intro b_md w2_ g2_ S
  iterate 2 refine rw_v (op_pure rfl) ?_
  first | refine rw_end ?_ | (refine rw_nil ?_; show CW _ _ _ _ _ _) | refine rw_nil ?_
  repeat refine cw_seq ?_
  refine cw_region ?_
  refine rw_buildS0 Try.underlying22 Try.sizeOf2 S ?_
  intro A_lb w4_ g4_ S sa_lb
  refine rw_v (op_pure rfl) ?_
  first | refine rw_end ?_ | (refine rw_nil ?_; show CW _ _ _ _ _ _) | refine rw_nil ?_
  repeat refine cw_seq ?_
  refine cw_region ?_
  refine rw_buildS0 Try.underlying50 Try.sizeOf44 S ?_
  intro A_cl w6_ g6_ S sa_cl
  refine rw_v (op_pure rfl) ?_
  first | refine rw_end ?_ | (refine rw_nil ?_; show CW _ _ _ _ _ _) | refine rw_nil ?_
  repeat refine cw_seq ?_
  refine cw_region ?_
  refine rw_v (op_pure rfl) ?_
  first | refine rw_end ?_ | (refine rw_nil ?_; show CW _ _ _ _ _ _) | refine rw_nil ?_
  repeat refine cw_seq ?_
  refine cw_block ?_
  repeat refine cw_seq ?_
  refine cw_loop (fun m e w => ∃ (k : Nat) (A_lb : Option Addr) (c_lb : Nat) (A_cl : Option Addr) (c_cl : Nat), k + m = gw * gh ∧ SL e [(1, .pointer (some ⟨b_md, 0, none⟩)), (4, .slice A_lb k c_lb), (5, .slice A_cl (firsts (sinkN (flowN gw V) (gw * gh)) k).length c_cl), (6, .int .i64 k)] ∧
    St No W w [.row 44 2 A_cl (firsts (sinkN (flowN gw V) (gw * gh)) k).length c_cl (cellsZ ((firsts (sinkN (flowN gw V) (gw * gh)) k).map (cz gw))), .row 2 1 A_lb k c_lb (cellsN k (labS (sinkN (flowN gw V) (gw * gh)) (gw * gh))), .blk b_md 25 [.int .i64 gw, .int .i64 gh, .slice A V.length cap]]) (gw * gh)
    ⟨0, A_lb, 0, A_cl, 0, by omega, ⟨rfl, rfl, rfl, rfl, trivial⟩, S⟩ ?_
  clear S
  rintro m e w ⟨k, A_lb, c_lb, A_cl, c_cl, hkm, hsl, S⟩
  rw [hsl.fold]
  repeat refine cw_seq ?_
  refine cw_region ?_
  refine rw_v (op_pure rfl) ?_
  refine rw_v (op_fieldAddr Try.underlying25 rfl Try.sizeOf2 rfl rfl) ?_
  refine rw_r (op_loadB Try.underlying2 rfl rfl (S.blk (i := 2) rfl) rfl) ?_
  refine rw_v (op_fieldAddr Try.underlying25 rfl Try.sizeOf2 rfl rfl) ?_
  refine rw_r (op_loadB Try.underlying2 rfl rfl (S.blk (i := 2) rfl) rfl) ?_
  refine rw_v (op_rng rfl (by omega)) ?_
  rw [emul]
  refine rw_v (op_pure rfl) ?_
  first | refine rw_end ?_ | (refine rw_nil ?_; show CW _ _ _ _ _ _) | refine rw_nil ?_
  repeat refine cw_seq ?_
  refine cw_cond rfl (fun hc => ?_) (fun hc => ?_)
  · try simp only [decide_eq_true_eq, decide_eq_false_iff_not, beq_iff_eq, bne_iff_ne, beq_eq_false_iff_ne, bne_eq_false_iff_eq, Bool.not_eq_true', Bool.not_eq_false', ne_eq, Decidable.not_not, Int.natCast_inj, Int.ofNat_lt, Int.ofNat_le, gt_iff_lt, ge_iff_le, Int.not_lt, Int.not_le] at hc
    have hkn : k < gw * gh := by omega
    have e1 : (k : Int) % gw = ((k % gw : Nat) : Int) := by push_cast; rfl
    have e2 : (k : Int) / gw = ((k / gw : Nat) : Int) := by push_cast; rfl
    obtain ⟨z, hz, hzn⟩ := hF.stop hkn
    have hend := hF.sink_eq hz hkn
    repeat refine cw_seq ?_
    refine cw_skip ?_
    try show CW _ _ _ _ _ _
    repeat refine cw_seq ?_
    refine cw_block ?_
    repeat refine cw_seq ?_
    refine cw_draw (C := fun wq => Gr w wq) [0, 1, 2, 3, 4, 5, 6, 7, 8, 9] [10, 11] (by kernel_rfl) (by kernel_rfl) (Gr.drew _) ?_
    simp only [pickL, List.drop_succ_cons, List.drop_zero]
    refine rq_r (fun wq hq => op_loadAB Try.underlying25 rfl (Try.sizeOf25 _) rfl ((S.gr hq).blk (i := 2) rfl) rfl rfl) ?_
    refine rq_v (op_pure rfl) ?_
    refine rq_v (op_fieldAddr Try.underlying25 rfl Try.sizeOf2 rfl rfl) ?_
    refine rq_r (fun wq hq => op_loadB Try.underlying2 rfl rfl ((S.gr hq).blk (i := 2) rfl) rfl) ?_
    refine rq_v (op_rem rfl rfl (by omega) (by omega)) ?_
    rw [e1]
    refine rq_v (op_pure rfl) ?_
    refine rq_v (op_fieldAddr Try.underlying25 rfl Try.sizeOf2 rfl rfl) ?_
    refine rq_r (fun wq hq => op_loadB Try.underlying2 rfl rfl ((S.gr hq).blk (i := 2) rfl) rfl) ?_
    refine rq_v (op_div rfl rfl (by omega) (by omega)) ?_
    rw [e2]
    refine rq_v (op_build (pl := [(0, 1), (1, 1)]) Try.underlying44 Try.zeroValue44 (fun w => by kernel_rfl) rfl rfl) ?_
    refine rq_nil ?_
    intro w7_ g7_
    have S := S.gr g7_
    refine rw_call rfl (rsway_E (W := w7_) (cap := cap) k z hgw hkn hzn hz hV hm (hA.gr S.out)) ?_
    rintro _ w8_ ⟨A_way, c_way, rfl, hR_way, hf_way, g8_⟩
    have S := S.pushRow hR_way hf_way g8_
    refine rw_v (op_pure rfl) ?_
    first | refine rw_end ?_ | (refine rw_nil ?_; show CW _ _ _ _ _ _) | refine rw_nil ?_
    have hlast := wayN_last (f := flowN gw V) (c := k) (k := z)
    rw [← hend] at hlast
    have ez : ((z + 1 : Nat) : Int) - 1 = (z : Int) := by omega
    have sa_way : SomeA A_way := (S.row (i := 0) rfl).someA (by omega)
    have hat : ((cellsZ ((wayN (flowN gw V) k z).map (cz gw))).drop ((z : Int).toNat * 2)).take 2 = [.int .i64 (cz gw (sinkN (flowN gw V) (gw * gh) k)).1, .int .i64 (cz gw (sinkN (flowN gw V) (gw * gh) k)).2] := by
      rw [Int.toNat_natCast]; exact cellsZ_at (by rw [List.getElem?_map, hlast]; rfl)
    generalize sinkN (flowN gw V) (gw * gh) = s2 at *
    repeat refine cw_seq ?_
    refine cw_region ?_
    iterate 2 refine rw_v (op_pure rfl) ?_
    refine rw_v (op_len Try.underlying50 rfl) ?_
    refine rw_v (op_rng rfl (by omega)) ?_
    rw [ez]
    refine rw_v (op_idx Try.underlying50 Try.sizeOf44 rfl rfl sa_way (by omega) (by omega)) ?_
    refine rw_r (op_ldRA Try.underlying44 rfl (Try.sizeOf44 _) rfl (S.rd (i := 0) rfl) hat rfl rfl) ?_
    refine rw_newB (op_alloc Try.zeroValue44 rfl) S ?_
    intro b_own w10_ g10_ S
    refine rw_storeSA (i := 0) S rfl (Try.sizeOf44 _) rfl rfl rfl rfl rfl rfl ?_
    intro w11_ S
    first | refine rw_end ?_ | (refine rw_nil ?_; show CW _ _ _ _ _ _) | refine rw_nil ?_
    repeat refine cw_seq ?_
    refine cw_region ?_
    refine rw_v (op_pure rfl) ?_
    first | refine rw_end ?_ | (refine rw_nil ?_; show CW _ _ _ _ _ _) | refine rw_nil ?_
    repeat refine cw_seq ?_
    refine cw_block ?_
    repeat refine cw_seq ?_
    have S := S.sub (.cons_cons _ (.cons _ (.cons_cons _ (.cons_cons _ (.cons_cons _ (.slnil))))))
    have hfl := firsts_len (s := s2) (n := k)
    have sa_cl : 0 < (firsts s2 k).length → SomeA A_cl := fun h => (S.row (i := 1) rfl).someA h
    refine cw_loop (fun m e w => ∃ q : Nat, q + m = (firsts s2 k).length ∧ (∀ j, j < q → (firsts s2 k)[j]? ≠ some (s2 k)) ∧ SL e [(1, .pointer (some ⟨b_md, 0, none⟩)), (4, .slice A_lb k c_lb), (5, .slice A_cl (firsts s2 k).length c_cl), (6, .int .i64 k), (8, .pointer (some ⟨b_own, 0, none⟩)), (9, .int .i64 q)] ∧
      St No W w [.blk b_own 44 [.int .i64 (cz gw (s2 k)).1, .int .i64 (cz gw (s2 k)).2], .row 44 2 A_cl (firsts s2 k).length c_cl (cellsZ ((firsts s2 k).map (cz gw))), .row 2 1 A_lb k c_lb (cellsN k (labS s2 (gw * gh))), .blk b_md 25 [.int .i64 gw, .int .i64 gh, .slice A V.length cap]]) (firsts s2 k).length
      ⟨0, by omega, fun j hj => by omega, ⟨rfl, rfl, rfl, rfl, rfl, rfl, trivial⟩, S⟩ ?_
    clear S
    rintro m2 e w2 ⟨q, hqm, hq, hsl2, S⟩
    rw [hsl2.fold]
    have hpushI : ∀ v : Int, v = (labS s2 (gw * gh) k : Nat) → cellsN k (labS s2 (gw * gh)) ++ [.int .i64 v] = cellsN (k + 1) (labS s2 (gw * gh)) := fun v hv => by
      rw [hv]; unfold cellsN; rw [List.range_succ, List.map_append]; rfl
    by_cases hql : q < (firsts s2 k).length
    · have sa_cl := sa_cl (by omega)
      obtain ⟨a, ha⟩ : ∃ a, (firsts s2 k)[q]? = some a := ⟨_, List.getElem?_eq_getElem hql⟩
      have hat2 : ((cellsZ ((firsts s2 k).map (cz gw))).drop ((q : Int).toNat * 2)).take 2 = [.int .i64 (cz gw a).1, .int .i64 (cz gw a).2] := by
        rw [Int.toNat_natCast]; exact cellsZ_at (by rw [List.getElem?_map, ha]; rfl)
      by_cases hav : a = s2 k
      · have hin : s2 k ∈ firsts s2 k := hav ▸ List.mem_of_getElem? ha
        obtain ⟨hlab, hfs⟩ := labS_old hkn hin
        have hqi : (firsts s2 k).idxOf (s2 k) = q := by
          have h1 := List.idxOf_lt_length_of_mem hin
          have h2 := List.getElem?_eq_getElem h1
          rw [List.getElem_idxOf] at h2
          rcases Nat.lt_trichotomy ((firsts s2 k).idxOf (s2 k)) q with h | h | h
          · exact absurd h2 (hq _ h)
          · exact h
          · have h3 := (List.getElem?_inj h1 firsts_nodup).1 (h2.trans (by rw [ha, hav]))
            exact h3 ▸ rfl
        repeat refine cw_seq ?_
        refine cw_draw (C := fun wq => Gr w2 wq) [0, 1, 2, 3, 4, 5, 6, 7, 8, 9, 10, 11] [] (by kernel_rfl) (by kernel_rfl) (Gr.drew _) ?_
        simp only [pickL, List.drop_succ_cons, List.drop_zero]
        iterate 2 refine rq_v (op_pure rfl) ?_
        refine rq_v (op_len Try.underlying50 rfl) ?_
        refine rq_v (op_b (b := true) rfl (decide_eq_true (by omega))) ?_
        refine rq_v (op_pure rfl) ?_
        first | refine rq_off rfl ?_ | (refine rq_on rfl ?_; refine rq_v (op_pure rfl) ?_)
        first | refine rq_off rfl ?_ | (refine rq_on rfl ?_; refine rq_v (op_pure rfl) ?_)
        first | refine rq_off rfl ?_ | (refine rq_on rfl ?_; refine rq_v (op_idx Try.underlying50 Try.sizeOf44 rfl rfl sa_cl (by omega) (by omega)) ?_)
        first | refine rq_off rfl ?_ | (refine rq_on rfl ?_; refine rq_r (fun wq hq => op_ldRA Try.underlying44 rfl (Try.sizeOf44 _) rfl ((S.gr hq).rd (i := 1) rfl) hat2 rfl rfl) ?_)
        first | refine rq_off rfl ?_ | (refine rq_on rfl ?_; refine rq_r (fun wq hq => op_loadAB Try.underlying44 rfl (Try.sizeOf44 _) rfl ((S.gr hq).blk (i := 0) rfl) rfl rfl) ?_)
        refine rq_on rfl ?_
        refine rq_v (op_neCell (r := false) rfl rfl (by rw [decide_eq_true (cz_eq.2 hav)]; rfl)) ?_
        refine rq_v (op_pure rfl) ?_
        refine rq_nil ?_
        intro w12_ g12_
        have S := S.gr g12_
        first | refine rw_end ?_ | (refine rw_nil ?_; show CW _ _ _ _ _ _) | refine rw_nil ?_
        repeat refine cw_seq ?_
        refine cw_false rfl ?_
        repeat refine cw_seq ?_
        refine cw_exit ?_
        repeat first | refine exit_then ?_ | refine exit_inb ?_
        show CW _ _ _ _ _ _
        repeat refine cw_seq ?_
        refine cw_region ?_
        iterate 2 refine rw_v (op_pure rfl) ?_
        refine rw_v (op_len Try.underlying50 rfl) ?_
        refine rw_v (op_b (b := false) rfl (beq_eq_false_iff_ne.2 (by omega))) ?_
        first | refine rw_end ?_ | (refine rw_nil ?_; show CW _ _ _ _ _ _) | refine rw_nil ?_
        repeat refine cw_seq ?_
        refine cw_false rfl ?_
        repeat refine cw_seq ?_
        refine cw_skip ?_
        try show CW _ _ _ _ _ _
        repeat refine cw_seq ?_
        refine cw_region ?_
        iterate 2 refine rw_v (op_pure rfl) ?_
        refine rw_v (op_rng rfl (by omega)) ?_
        refine rw_buildS Try.underlying22 Try.sizeOf2 Try.zeroValue2 rfl rfl rfl rfl rfl rfl S ?_
        intro A_lit w14_ g14_ S sa_lit
        refine rw_appS (i := 3) S rfl (fun h => rfl) Try.underlying22 info_t2 rfl rfl rfl rfl (by simp) (by omega) (S.rd (i := 0) rfl) rfl (by omega) ?_
        intro A_lb2 c_lb2 w15_ S sa_lb
        refine rw_v (op_pure rfl) ?_
        first | refine rw_end ?_ | (refine rw_nil ?_; show CW _ _ _ _ _ _) | refine rw_nil ?_
        repeat refine cw_seq ?_
        refine cw_region ?_
        refine rw_v (op_pure rfl) ?_
        refine rw_v (op_rng rfl (by omega)) ?_
        refine rw_v (op_pure rfl) ?_
        first | refine rw_end ?_ | (refine rw_nil ?_; show CW _ _ _ _ _ _) | refine rw_nil ?_
        have S := S.sub (.cons _ (.cons _ (.cons_cons _ (.cons_cons _ (.cons_cons _ (.slnil))))))
        rw [hpushI ((q : Int) + 1) (by rw [hlab, hqi]; push_cast; rfl), ← hfs] at S
        exact ⟨m - 1, by omega, k + 1, A_lb2, c_lb2, A_cl, c_cl, by omega, ⟨rfl, rfl, by rw [hfs]; rfl, ie (by omega), trivial⟩, S⟩
      · skip
        repeat refine cw_seq ?_
        refine cw_draw (C := fun wq => Gr w2 wq) [0, 1, 2, 3, 4, 5, 6, 7, 8, 9, 10, 11] [] (by kernel_rfl) (by kernel_rfl) (Gr.drew _) ?_
        simp only [pickL, List.drop_succ_cons, List.drop_zero]
        iterate 2 refine rq_v (op_pure rfl) ?_
        refine rq_v (op_len Try.underlying50 rfl) ?_
        refine rq_v (op_b (b := true) rfl (decide_eq_true (by omega))) ?_
        refine rq_v (op_pure rfl) ?_
        first | refine rq_off rfl ?_ | (refine rq_on rfl ?_; refine rq_v (op_pure rfl) ?_)
        first | refine rq_off rfl ?_ | (refine rq_on rfl ?_; refine rq_v (op_pure rfl) ?_)
        first | refine rq_off rfl ?_ | (refine rq_on rfl ?_; refine rq_v (op_idx Try.underlying50 Try.sizeOf44 rfl rfl sa_cl (by omega) (by omega)) ?_)
        first | refine rq_off rfl ?_ | (refine rq_on rfl ?_; refine rq_r (fun wq hq => op_ldRA Try.underlying44 rfl (Try.sizeOf44 _) rfl ((S.gr hq).rd (i := 1) rfl) hat2 rfl rfl) ?_)
        first | refine rq_off rfl ?_ | (refine rq_on rfl ?_; refine rq_r (fun wq hq => op_loadAB Try.underlying44 rfl (Try.sizeOf44 _) rfl ((S.gr hq).blk (i := 0) rfl) rfl rfl) ?_)
        refine rq_on rfl ?_
        refine rq_v (op_neCell (r := true) rfl rfl (by rw [decide_eq_false (fun h => hav (cz_eq.1 h))]; rfl)) ?_
        refine rq_v (op_pure rfl) ?_
        refine rq_nil ?_
        intro w16_ g16_
        have S := S.gr g16_
        first | refine rw_end ?_ | (refine rw_nil ?_; show CW _ _ _ _ _ _) | refine rw_nil ?_
        repeat refine cw_seq ?_
        refine cw_true rfl ?_
        repeat refine cw_seq ?_
        refine cw_skip ?_
        try show CW _ _ _ _ _ _
        repeat refine cw_seq ?_
        refine cw_block ?_
        repeat refine cw_seq ?_
        refine cw_region ?_
        refine rw_v (op_pure rfl) ?_
        refine rw_v (op_rng rfl (by omega)) ?_
        refine rw_v (op_pure rfl) ?_
        first | refine rw_end ?_ | (refine rw_nil ?_; show CW _ _ _ _ _ _) | refine rw_nil ?_
        exact ⟨m2 - 1, by omega, q + 1, by omega, fun j hj => by
          by_cases e : j = q
          · rw [e, ha]; exact fun h => hav (by injection h)
          · exact hq j (by omega), ⟨rfl, rfl, rfl, rfl, rfl, ie (by omega), trivial⟩, S⟩
    · obtain rfl : q = (firsts s2 k).length := by omega
      have hin : s2 k ∉ firsts s2 k := fun h => by
        obtain ⟨j, hj, he⟩ := List.mem_iff_getElem.1 h
        exact hq j hj (by rw [List.getElem?_eq_getElem hj, he])
      obtain ⟨hlab, hfs⟩ := labS_new hkn hin
      repeat refine cw_seq ?_
      refine cw_draw (C := fun wq => Gr w2 wq) [0, 1, 2, 3, 4, 5, 6, 7, 8, 9, 10, 11] [] (by kernel_rfl) (by kernel_rfl) (Gr.drew _) ?_
      simp only [pickL, List.drop_succ_cons, List.drop_zero]
      iterate 2 refine rq_v (op_pure rfl) ?_
      refine rq_v (op_len Try.underlying50 rfl) ?_
      refine rq_v (op_b (b := false) rfl (decide_eq_false (by omega))) ?_
      refine rq_v (op_pure rfl) ?_
      refine rq_off rfl ?_
      refine rq_off rfl ?_
      refine rq_off rfl ?_
      refine rq_off rfl ?_
      refine rq_off rfl ?_
      refine rq_off rfl ?_
      refine rq_v (op_pure rfl) ?_
      refine rq_nil ?_
      intro w17_ g17_
      have S := S.gr g17_
      first | refine rw_end ?_ | (refine rw_nil ?_; show CW _ _ _ _ _ _) | refine rw_nil ?_
      repeat refine cw_seq ?_
      refine cw_false rfl ?_
      repeat refine cw_seq ?_
      refine cw_exit ?_
      repeat first | refine exit_then ?_ | refine exit_inb ?_
      show CW _ _ _ _ _ _
      repeat refine cw_seq ?_
      refine cw_region ?_
      iterate 2 refine rw_v (op_pure rfl) ?_
      refine rw_v (op_len Try.underlying50 rfl) ?_
      refine rw_v (op_b (b := true) rfl (beq_iff_eq.2 (by omega))) ?_
      first | refine rw_end ?_ | (refine rw_nil ?_; show CW _ _ _ _ _ _) | refine rw_nil ?_
      repeat refine cw_seq ?_
      refine cw_true rfl ?_
      repeat refine cw_seq ?_
      refine cw_region ?_
      refine rw_v (op_pure rfl) ?_
      refine rw_r (op_loadAB Try.underlying44 rfl (Try.sizeOf44 _) rfl (S.blk (i := 0) rfl) rfl rfl) ?_
      refine rw_buildS Try.underlying50 Try.sizeOf44 Try.zeroValue44 rfl rfl rfl rfl rfl rfl S ?_
      intro A_litc w19_ g19_ S sa_litc
      refine rw_appS (i := 2) S rfl (fun h => rfl) Try.underlying50 info_t44 rfl rfl rfl rfl (by simp) (by omega) (S.rd (i := 0) rfl) rfl (by omega) ?_
      intro A_cl2 c_cl2 w20_ S sa_cl
      refine rw_v (op_pure rfl) ?_
      first | refine rw_end ?_ | (refine rw_nil ?_; show CW _ _ _ _ _ _) | refine rw_nil ?_
      repeat refine cw_seq ?_
      refine cw_region ?_
      iterate 2 refine rw_v (op_pure rfl) ?_
      refine rw_v (op_rng rfl (by omega)) ?_
      refine rw_buildS Try.underlying22 Try.sizeOf2 Try.zeroValue2 rfl rfl rfl rfl rfl rfl S ?_
      intro A_lit w22_ g22_ S sa_lit
      refine rw_appS (i := 4) S rfl (fun h => rfl) Try.underlying22 info_t2 rfl rfl rfl rfl (by simp) (by omega) (S.rd (i := 0) rfl) rfl (by omega) ?_
      intro A_lb2 c_lb2 w23_ S sa_lb
      refine rw_v (op_pure rfl) ?_
      first | refine rw_end ?_ | (refine rw_nil ?_; show CW _ _ _ _ _ _) | refine rw_nil ?_
      repeat refine cw_seq ?_
      refine cw_region ?_
      refine rw_v (op_pure rfl) ?_
      refine rw_v (op_rng rfl (by omega)) ?_
      refine rw_v (op_pure rfl) ?_
      first | refine rw_end ?_ | (refine rw_nil ?_; show CW _ _ _ _ _ _) | refine rw_nil ?_
      have S := S.sub (.cons _ (.cons _ (.cons _ (.cons_cons _ (.cons_cons _ (.cons_cons _ (.slnil)))))))
      have hl2 : (firsts s2 (k + 1)).length = (firsts s2 k).length + 1 := by rw [hfs]; simp
      have hpc : cellsZ ((firsts s2 k).map (cz gw)) ++ [.int .i64 (cz gw (s2 k)).1, .int .i64 (cz gw (s2 k)).2] = cellsZ ((firsts s2 (k + 1)).map (cz gw)) := by rw [hfs]; exact cellsZ_push gw _ _
      rw [hpushI _ (by rw [hlab]; push_cast; rfl), hpc] at S
      exact ⟨m - 1, by omega, k + 1, A_lb2, c_lb2, A_cl2, c_cl2, by omega, ⟨rfl, rfl, by rw [hl2]; rfl, ie (by omega), trivial⟩, by rw [hl2]; exact S⟩
  · try simp only [decide_eq_true_eq, decide_eq_false_iff_not, beq_iff_eq, bne_iff_ne, beq_eq_false_iff_ne, bne_eq_false_iff_eq, Bool.not_eq_true', Bool.not_eq_false', ne_eq, Decidable.not_not, Int.natCast_inj, Int.ofNat_lt, Int.ofNat_le, gt_iff_lt, ge_iff_le, Int.not_lt, Int.not_le] at hc
    obtain rfl : k = gw * gh := by omega
    repeat refine cw_seq ?_
    refine cw_exit ?_
    repeat first | refine exit_then ?_ | refine exit_inb ?_
    show CW _ _ _ _ _ _
    repeat refine cw_seq ?_
    refine cw_region ?_
    iterate 4 refine rw_v (op_pure rfl) ?_
    first | refine rw_end ?_ | (refine rw_nil ?_; show CW _ _ _ _ _ _) | refine rw_nil ?_
    repeat refine cw_seq ?_
    refine cw_ret ?_
    repeat first | refine ret_then ?_ | refine ret_inb ?_
    exact res2 rfl rfl ⟨_, _, _, _, rfl, S.row (i := 1) rfl, SepL.fresh S (i := 1) rfl, S.row (i := 0) rfl, SepL.fresh S (i := 0) rfl, fun g h1 h2 => S.sep.2.1 g h2 _ List.mem_cons_self h1, S.out⟩
end
section
variable {W : World}
theorem awake31_E (W : World) : Fn Try.prog 27 [] W (RetG (.bool true) W) := by
  have hG3 : gridL 3 1 (fun i => ([3, 1, 2] : List Int).getD i 0) = [3, 1, 2] := gridL_made rfl
  have hmay : ∀ v ∈ ([3, 1, 2] : List Int), mayB v = true := fun v hv => by
    simp only [List.mem_cons, List.not_mem_nil, or_false] at hv
    rcases hv with rfl | rfl | rfl <;> rfl
  have hfs : firsts (sinkN (flowN 3 [3, 1, 2]) (3 * 1)) (3 * 1) = [1] := by decide
  have hlb : cellsN (3 * 1) (labS (sinkN (flowN 3 [3, 1, 2]) (3 * 1)) (3 * 1)) = ints [1, 1, 1] := by rfl
  have S := St.start W
  refine Fn_enter Try.func27 rfl Try.results27 Try.ntmps27 (by kernel_rfl) (by kernel_rfl) ?_
  repeat refine cw_seq ?_
  refine cw_region ?_
  refine rw_v (op_pure rfl) ?_
  first | refine rw_end ?_ | (refine rw_nil ?_; show CW _ _ _ _ _ _) | refine rw_nil ?_
  repeat refine cw_seq ?_
  refine cw_region ?_
  refine rw_buildS Try.underlying22 Try.sizeOf2 Try.zeroValue2 rfl rfl rfl rfl rfl rfl S ?_
  intro A_v3 w2_ g2_ S sa_v3
  refine rw_call rfl (from_E (W := w2_) (V := [3, 1, 2]) (gw := 3) (gh := 1) 3 (by omega) (by omega) rfl hmay (S.rd (i := 0) rfl)) ?_
  rintro _ w3_ ⟨p2, B, bc, bs2, Rs2, rfl, hG2, hf2, g3_⟩
  have S := S.pushGrid hG2 hf2 g3_
  iterate 5 refine rw_v (op_pure rfl) ?_
  first | refine rw_end ?_ | (refine rw_nil ?_; show CW _ _ _ _ _ _) | refine rw_nil ?_
  repeat refine cw_seq ?_
  refine cw_region ?_
  refine rw_v (op_pure rfl) ?_
  refine rw_call rfl (sbas_E (W := w3_) (S.grid (i := 0) rfl)) ?_
  rintro _ w4_ ⟨A1, c1, A2, c2, rfl, hR1, hF1, hR2, hF2, hd, g4_⟩
  rw [hG3, hfs] at hR2
  rw [hG3, hlb] at hR1
  have S := S.push2 g4_ (h1 := .row 2 1 A1 _ c1 _) (h2 := .row 44 2 A2 _ c2 _) hR1 hR2 hF1 hF2 hd
  rw [hG3, hfs]
  iterate 7 refine rw_v (op_pure rfl) ?_
  first | refine rw_end ?_ | (refine rw_nil ?_; show CW _ _ _ _ _ _) | refine rw_nil ?_
  repeat refine cw_seq ?_
  refine cw_region ?_
  refine rw_v (op_pure rfl) ?_
  refine rw_v (op_b (b := true) rfl (beq_iff_eq.2 (by omega))) ?_
  refine rw_v (op_pure rfl) ?_
  first | refine rw_off rfl ?_ | (refine rw_on rfl ?_; refine rw_v (op_pure rfl) ?_)
  first | refine rw_off rfl ?_ | (refine rw_on rfl ?_; refine rw_v (op_b (b := true) rfl (beq_iff_eq.2 (by omega))) ?_)
  iterate 2 refine rw_v (op_pure rfl) ?_
  first | refine rw_off rfl ?_ | (refine rw_on rfl ?_; refine rw_v (op_pure rfl) ?_)
  refine rw_on rfl ?_
  refine rw_buildS Try.underlying22 Try.sizeOf2 Try.zeroValue2 rfl rfl rfl rfl rfl rfl S ?_
  intro A_v4 w6_ g6_ S sa_v4
  refine rw_on rfl ?_
  refine rw_call rfl (rsame_E A1 A_v4 c1 3 [1, 1, 1] [1, 1, 1] w6_ (by decide) (S.rd (i := 1) rfl) (S.rd (i := 0) rfl)) ?_
  rintro _ w7_ ⟨rfl, g7_⟩
  have S := S.gr g7_
  iterate 2 refine rw_v (op_pure rfl) ?_
  first | refine rw_off rfl ?_ | (refine rw_on rfl ?_; refine rw_v (op_pure rfl) ?_)
  first | refine rw_off rfl ?_ | (refine rw_on rfl ?_; refine rw_v (op_build (pl := [(0, 1), (1, 1)]) Try.underlying44 Try.zeroValue44 (fun w => by kernel_rfl) rfl rfl) ?_)
  refine rw_on rfl ?_
  refine rw_buildS Try.underlying50 Try.sizeOf44 Try.zeroValue44 rfl rfl rfl rfl rfl rfl S ?_
  intro A_v5 w9_ g9_ S sa_v5
  refine rw_on rfl ?_
  refine rw_call rfl (rcells_E A2 A_v5 c2 1 ([1].map (cz 3)) ([1].map (cz 3)) w9_ (by decide) (S.rd (i := 3) rfl) (S.rd (i := 0) rfl)) ?_
  rintro _ w10_ ⟨rfl, g10_⟩
  have S := S.gr g10_
  iterate 2 refine rw_v (op_pure rfl) ?_
  first | refine rw_end ?_ | (refine rw_nil ?_; show CW _ _ _ _ _ _) | refine rw_nil ?_
  repeat refine cw_seq ?_
  refine cw_ret ?_
  repeat first | refine ret_then ?_ | refine ret_inb ?_
  exact res1 rfl ⟨rfl, S.out⟩
end
end Go.Proofs.Ytbcgbcipigcbhaa

namespace Go.Proofs.Ytbcgbcipigcbhaa
open Go.RowKit
set_option linter.unusedVariables false
set_option linter.unusedSimpArgs false
set_option maxRecDepth 100000

section
variable {W : World}
theorem swetNil_E (x y : Int) : Fn Try.prog 36 [.pointer none, .agg #[.int .i64 x, .int .i64 y]] W (RetG (.tuple #[.int .i64 0, .int .i64 1]) W) := by
  have S := St.start W
  refine Fn_enter Try.func36 rfl Try.results36 Try.ntmps36 (by kernel_rfl) (by kernel_rfl) ?_
  repeat refine cw_seq ?_
  refine cw_region ?_
  refine rw_newB (op_box rfl) S ?_
  intro b_c w2_ g2_ S
  iterate 2 refine rw_v (op_pure rfl) ?_
  first | refine rw_end ?_ | (refine rw_nil ?_; show CW _ _ _ _ _ _) | refine rw_nil ?_
  repeat refine cw_seq ?_
  refine cw_region ?_
  refine rw_v (op_pure rfl) ?_
  refine rw_r (op_loadAB Try.underlying44 rfl (Try.sizeOf44 _) rfl (S.blk (i := 0) rfl) rfl rfl) ?_
  refine rw_call rfl (sbeginNil_E x y) ?_
  rintro _ w3_ ⟨rfl, g3_⟩
  have S := S.gr g3_
  iterate 4 refine rw_v (op_pure rfl) ?_
  refine rw_newB (op_alloc Try.zeroValue136 rfl) S ?_
  intro b_l w5_ g5_ S
  refine rw_storeSA (i := 0) S rfl (Try.sizeOf136 _) rfl rfl rfl rfl rfl rfl ?_
  intro w6_ S
  iterate 2 refine rw_v (op_pure rfl) ?_
  first | refine rw_end ?_ | (refine rw_nil ?_; show CW _ _ _ _ _ _) | refine rw_nil ?_
  repeat refine cw_seq ?_
  refine cw_region ?_
  refine rw_v (op_pure rfl) ?_
  refine rw_v (op_b (b := true) rfl (bne_iff_ne.2 (by omega))) ?_
  first | refine rw_end ?_ | (refine rw_nil ?_; show CW _ _ _ _ _ _) | refine rw_nil ?_
  repeat refine cw_seq ?_
  refine cw_true rfl ?_
  repeat refine cw_seq ?_
  refine cw_region ?_
  iterate 3 refine rw_v (op_pure rfl) ?_
  first | refine rw_end ?_ | (refine rw_nil ?_; show CW _ _ _ _ _ _) | refine rw_nil ?_
  repeat refine cw_seq ?_
  refine cw_ret ?_
  repeat first | refine ret_then ?_ | refine ret_inb ?_
  exact res2 rfl rfl ⟨rfl, S.out⟩
theorem sinkNil_E (x y : Int) (W : World) : Fn Try.prog 8 [.agg #[.int .i64 x, .int .i64 y]] W (RetG (.bool true) W) := by
  have S := St.start W
  refine Fn_enter Try.func8 rfl Try.results8 Try.ntmps8 (by kernel_rfl) (by kernel_rfl) ?_
  repeat refine cw_seq ?_
  refine cw_region ?_
  refine rw_newB (op_box rfl) S ?_
  intro b_c w2_ g2_ S
  refine rw_v (op_pure rfl) ?_
  first | refine rw_end ?_ | (refine rw_nil ?_; show CW _ _ _ _ _ _) | refine rw_nil ?_
  repeat refine cw_seq ?_
  refine cw_region ?_
  refine rw_call rfl (awake31_E w2_) ?_
  rintro _ w3_ ⟨rfl, g3_⟩
  have S := S.gr g3_
  refine rw_v (op_pure rfl) ?_
  first | refine rw_end ?_ | (refine rw_nil ?_; show CW _ _ _ _ _ _) | refine rw_nil ?_
  repeat refine cw_seq ?_
  refine cw_false rfl ?_
  repeat refine cw_seq ?_
  refine cw_skip ?_
  try show CW _ _ _ _ _ _
  repeat refine cw_seq ?_
  refine cw_region ?_
  refine rw_r (op_loadAB Try.underlying44 rfl (Try.sizeOf44 _) rfl (S.blk (i := 0) rfl) rfl rfl) ?_
  refine rw_call rfl (snextNil_E x y) ?_
  rintro _ w4_ ⟨rfl, g4_⟩
  have S := S.gr g4_
  iterate 4 refine rw_v (op_pure rfl) ?_
  refine rw_newB (op_alloc Try.zeroValue44 rfl) S ?_
  intro b_d w6_ g6_ S
  refine rw_storeSA (i := 0) S rfl (Try.sizeOf44 _) rfl rfl rfl rfl rfl rfl ?_
  intro w7_ S
  iterate 2 refine rw_v (op_pure rfl) ?_
  first | refine rw_end ?_ | (refine rw_nil ?_; show CW _ _ _ _ _ _) | refine rw_nil ?_
  repeat refine cw_seq ?_
  refine cw_region ?_
  refine rw_r (op_loadAB Try.underlying44 rfl (Try.sizeOf44 _) rfl (S.blk (i := 1) rfl) rfl rfl) ?_
  refine rw_call rfl (swayNil_E x y) ?_
  rintro _ w8_ ⟨rfl, g8_⟩
  have S := S.gr g8_
  iterate 5 refine rw_v (op_pure rfl) ?_
  first | refine rw_end ?_ | (refine rw_nil ?_; show CW _ _ _ _ _ _) | refine rw_nil ?_
  repeat refine cw_seq ?_
  refine cw_region ?_
  refine rw_call rfl (sbasNil_E) ?_
  rintro _ w9_ ⟨rfl, g9_⟩
  have S := S.gr g9_
  iterate 7 refine rw_v (op_pure rfl) ?_
  first | refine rw_end ?_ | (refine rw_nil ?_; show CW _ _ _ _ _ _) | refine rw_nil ?_
  repeat refine cw_seq ?_
  refine cw_region ?_
  refine rw_r (op_loadAB Try.underlying44 rfl (Try.sizeOf44 _) rfl (S.blk (i := 1) rfl) rfl rfl) ?_
  refine rw_call rfl (swetNil_E x y) ?_
  rintro _ w10_ ⟨rfl, g10_⟩
  have S := S.gr g10_
  iterate 5 refine rw_v (op_pure rfl) ?_
  first | refine rw_end ?_ | (refine rw_nil ?_; show CW _ _ _ _ _ _) | refine rw_nil ?_
  repeat refine cw_seq ?_
  refine cw_region ?_
  refine rw_r (op_loadAB Try.underlying44 rfl (Try.sizeOf44 _) rfl (S.blk (i := 0) rfl) rfl rfl) ?_
  refine rw_v (op_build (pl := [(0, 1), (1, 1)]) Try.underlying44 Try.zeroValue44 (fun w => by kernel_rfl) rfl rfl) ?_
  refine rw_v (op_eqCell (r := true) rfl rfl (by simp)) ?_
  refine rw_v (op_pure rfl) ?_
  first | refine rw_off rfl ?_ | (refine rw_on rfl ?_; refine rw_v (op_pure rfl) ?_)
  first | refine rw_off rfl ?_ | (refine rw_on rfl ?_; refine rw_v (op_pure rfl) ?_)
  iterate 2 refine rw_v (op_pure rfl) ?_
  first | refine rw_off rfl ?_ | (refine rw_on rfl ?_; refine rw_v (op_pure rfl) ?_)
  first | refine rw_off rfl ?_ | (refine rw_on rfl ?_; refine rw_v (op_b (b := true) rfl (beq_iff_eq.2 (by omega))) ?_)
  iterate 2 refine rw_v (op_pure rfl) ?_
  first | refine rw_off rfl ?_ | (refine rw_on rfl ?_; refine rw_v (op_pure rfl) ?_)
  first | refine rw_off rfl ?_ | (refine rw_on rfl ?_; refine rw_v (op_len Try.underlying50 rfl) ?_)
  first | refine rw_off rfl ?_ | (refine rw_on rfl ?_; refine rw_v (op_b (b := true) rfl (beq_iff_eq.2 (by omega))) ?_)
  iterate 2 refine rw_v (op_pure rfl) ?_
  first | refine rw_off rfl ?_ | (refine rw_on rfl ?_; refine rw_v (op_pure rfl) ?_)
  first | refine rw_off rfl ?_ | (refine rw_on rfl ?_; refine rw_v (op_b (b := true) rfl (beq_iff_eq.2 (by omega))) ?_)
  iterate 2 refine rw_v (op_pure rfl) ?_
  first | refine rw_off rfl ?_ | (refine rw_on rfl ?_; refine rw_v (op_pure rfl) ?_)
  first | refine rw_off rfl ?_ | (refine rw_on rfl ?_; refine rw_v (op_len Try.underlying22 rfl) ?_)
  first | refine rw_off rfl ?_ | (refine rw_on rfl ?_; refine rw_v (op_b (b := true) rfl (beq_iff_eq.2 (by omega))) ?_)
  iterate 2 refine rw_v (op_pure rfl) ?_
  first | refine rw_off rfl ?_ | (refine rw_on rfl ?_; refine rw_v (op_pure rfl) ?_)
  first | refine rw_off rfl ?_ | (refine rw_on rfl ?_; refine rw_v (op_len Try.underlying50 rfl) ?_)
  first | refine rw_off rfl ?_ | (refine rw_on rfl ?_; refine rw_v (op_b (b := true) rfl (beq_iff_eq.2 (by omega))) ?_)
  iterate 2 refine rw_v (op_pure rfl) ?_
  first | refine rw_off rfl ?_ | (refine rw_on rfl ?_; refine rw_v (op_pure rfl) ?_)
  first | refine rw_off rfl ?_ | (refine rw_on rfl ?_; refine rw_v (op_b (b := true) rfl (beq_iff_eq.2 (by omega))) ?_)
  iterate 2 refine rw_v (op_pure rfl) ?_
  first | refine rw_off rfl ?_ | (refine rw_on rfl ?_; refine rw_v (op_pure rfl) ?_)
  first | refine rw_off rfl ?_ | (refine rw_on rfl ?_; refine rw_v (op_b (b := true) rfl (beq_iff_eq.2 (by omega))) ?_)
  iterate 2 refine rw_v (op_pure rfl) ?_
  first | refine rw_off rfl ?_ | (refine rw_on rfl ?_; refine rw_v (op_pure rfl) ?_)
  first | refine rw_off rfl ?_ | (refine rw_on rfl ?_; refine rw_v (op_b (b := true) rfl (beq_iff_eq.2 (by omega))) ?_)
  iterate 2 refine rw_v (op_pure rfl) ?_
  first | refine rw_end ?_ | (refine rw_nil ?_; show CW _ _ _ _ _ _) | refine rw_nil ?_
  repeat refine cw_seq ?_
  refine cw_ret ?_
  repeat first | refine ret_then ?_ | refine ret_inb ?_
  exact res1 rfl ⟨rfl, S.out⟩
end
end Go.Proofs.Ytbcgbcipigcbhaa
