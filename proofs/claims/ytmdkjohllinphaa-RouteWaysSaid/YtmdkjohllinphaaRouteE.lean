/- The document's route: hachureref32.Find. -/
import Derived.Test.YtmdkjohllinphaaRouteN
import Derived.Test.YtmdkjohllinphaaRouteS
namespace Go.Proofs.Ytmdkjohllinphaa
open Go.RowKit
set_option linter.unusedVariables false
set_option linter.unusedSimpArgs false
set_option maxRecDepth 100000

section
variable {W : World} {A : Option Addr} {gw gh cap : Nat} {V : List Int}
theorem cz_ne {gw i j : Nat} (h : i ≠ j) : ¬ (((i % gw : Nat) : Int) = (j % gw : Nat) ∧ ((i / gw : Nat) : Int) = (j / gw : Nat)) := fun e => h (cz_inj (gw := gw) (Prod.ext e.1 e.2))
set_option maxHeartbeats 8000000 in
theorem rfindR_E (a b : Nat) (d : Nat → Int) (hgw : 1 ≤ gw ∧ gw ≤ 1024) (hgh : 1 ≤ gh ∧ gh ≤ 1024) (hV : V.length = gw * gh) (hn : gw * gh ≤ 1048576) (ha : a < gw * gh) (hb : b < gw * gh) (hB : vB V) (hd : IsDist gw V b d) (hA : Rd W A (ints V)) :
    Fn Try.prog 29 [modV gw gh A V.length cap, .agg #[.int .i64 (a % gw : Nat), .int .i64 (a / gw : Nat)], .agg #[.int .i64 (b % gw : Nat), .int .i64 (b / gw : Nat)]] W
      (RetNew (fun s => .tuple #[.int .i64 (d a), s]) 36 2 (routeL gw V d b a).length (cellsZ ((routeL gw V d b a).map (cz gw))) W) := by
  have S := St.start W
  refine Fn_enter Try.func29 rfl Try.results29 Try.ntmps29 (by kernel_rfl) (by kernel_rfl) ?_
  repeat refine cw_seq ?_
  refine cw_region ?_
  refine rw_newB (op_box rfl) S ?_
  intro b_md w2_ g2_ S
  refine rw_newB (op_box rfl) S ?_
  intro b_a w4_ g4_ S
  refine rw_newB (op_box rfl) S ?_
  intro b_b w6_ g6_ S
  refine rw_v (op_pure rfl) ?_
  refine rw_v (op_pure rfl) ?_
  first | refine rw_end ?_ | (refine rw_nil ?_; show CW _ _ _ _ _ _) | refine rw_nil ?_
  repeat refine cw_seq ?_
  refine cw_region ?_
  refine rw_r (op_loadAB Try.underlying25 rfl (Try.sizeOf25 _) rfl (S.blk (i := 2) rfl) rfl rfl) ?_
  refine rw_r (op_loadAB Try.underlying36 rfl (Try.sizeOf36 _) rfl (S.blk (i := 0) rfl) rfl rfl) ?_
  refine rw_call rfl (rcostsR_E b d hgw hgh hV hn hb hB hd (hA.gr S.out)) ?_
  rintro _ w7_ ⟨A_left, c_left, rfl, hR_left, hf_left, g7_⟩
  have S := S.pushRow hR_left hf_left g7_
  refine rw_v (op_pure rfl) ?_
  first | refine rw_end ?_ | (refine rw_nil ?_; show CW _ _ _ _ _ _) | refine rw_nil ?_
  repeat refine cw_seq ?_
  refine cw_region ?_
  refine rw_r (op_loadAB Try.underlying36 rfl (Try.sizeOf36 _) rfl (S.blk (i := 2) rfl) rfl rfl) ?_
  refine rw_buildS Try.underlying41 Try.sizeOf36 Try.zeroValue36 rfl rfl rfl rfl rfl rfl S ?_
  intro A_out w9_ g9_ S sa_out
  refine rw_v (op_pure rfl) ?_
  first | refine rw_end ?_ | (refine rw_nil ?_; show CW _ _ _ _ _ _) | refine rw_nil ?_
  repeat refine cw_seq ?_
  refine cw_region ?_
  refine rw_r (op_loadAB Try.underlying36 rfl (Try.sizeOf36 _) rfl (S.blk (i := 3) rfl) rfl rfl) ?_
  refine rw_newB (op_alloc Try.zeroValue36 rfl) S ?_
  intro b_c w11_ g11_ S
  refine rw_storeSA (i := 0) S rfl (Try.sizeOf36 _) rfl rfl rfl rfl rfl rfl ?_
  intro w12_ S
  first | refine rw_end ?_ | (refine rw_nil ?_; show CW _ _ _ _ _ _) | refine rw_nil ?_
  repeat refine cw_seq ?_
  refine cw_block ?_
  repeat refine cw_seq ?_
  have hroute0 : [] ++ routeL gw V d b a = routeL gw V d b a := rfl
  have hrank0 := rank_top (d := d) ha
  have S := S.perm (List.Perm.swap _ _ _)
  refine cw_loop (fun m e w => ∃ (pre : List Nat) (i : Nat) (A_out : Option Addr) (c_out : Nat), (d i).toNat = m ∧ i < gw * gh ∧ pre ++ routeL gw V d b i = routeL gw V d b a ∧ rank (gw * gh) d i + pre.length + 1 ≤ gw * gh ∧
    SL e [(3, .pointer (some ⟨b_md, 0, none⟩)), (4, .pointer (some ⟨b_a, 0, none⟩)), (5, .pointer (some ⟨b_b, 0, none⟩)), (8, .slice A_left V.length c_left), (9, .slice A_out (pre.length + 1) c_out), (10, .pointer (some ⟨b_c, 0, none⟩))] ∧ St No W w [.row 36 2 A_out (pre.length + 1) c_out (cellsZ ((pre ++ [i]).map (cz gw))), .blk b_c 36 [.int .i64 (i % gw : Nat), .int .i64 (i / gw : Nat)], .row 2 1 A_left V.length c_left (cellsQ V.length d), .blk b_b 36 [.int .i64 (b % gw : Nat), .int .i64 (b / gw : Nat)], .blk b_a 36 [.int .i64 (a % gw : Nat), .int .i64 (a / gw : Nat)], .blk b_md 25 [.int .i64 gw, .int .i64 gh, .slice A V.length cap]]) (d a).toNat
    ⟨[], a, A_out, 1, rfl, ha, hroute0, hrank0, ⟨rfl, rfl, rfl, rfl, rfl, rfl, trivial⟩, S⟩ ?_
  clear S hroute0 hrank0
  rintro m e w ⟨pre, i, A_out, c_out, rfl, hi, hroute, hrank, hsl, S⟩
  rw [hsl.fold]
  have sa_left : SomeA A_left := (S.row (i := 2) rfl).someA (by omega)
  have ei : ((i / gw : Nat) : Int) * gw = ((i / gw * gw : Nat) : Int) := by push_cast; rfl
  have eim : i / gw * gw + i % gw = i := by rw [Nat.mul_comm]; exact Nat.div_add_mod _ _
  have ei2 : ((i / gw * gw : Nat) : Int) + (i % gw : Nat) = ((i : Nat) : Int) := by omega
  by_cases hib : i = b
  · subst hib
    rw [routeL_here hd] at hroute
    have hl : (routeL gw V d i a).length = pre.length + 1 := by rw [← hroute]; simp
    have ea : ((a / gw : Nat) : Int) * gw = ((a / gw * gw : Nat) : Int) := by push_cast; rfl
    have eam : a / gw * gw + a % gw = a := by rw [Nat.mul_comm]; exact Nat.div_add_mod _ _
    have ea2 : ((a / gw * gw : Nat) : Int) + (a % gw : Nat) = ((a : Nat) : Int) := by omega
    repeat refine cw_seq ?_
    refine cw_region ?_
    refine rw_r (op_loadAB Try.underlying36 rfl (Try.sizeOf36 _) rfl (S.blk (i := 1) rfl) rfl rfl) ?_
    refine rw_r (op_loadAB Try.underlying36 rfl (Try.sizeOf36 _) rfl (S.blk (i := 3) rfl) rfl rfl) ?_
    refine rw_v (op_neCell (r := false) rfl rfl (by simp)) ?_
    refine rw_v (op_pure rfl) ?_
    first | refine rw_off rfl ?_ | (refine rw_on rfl ?_; refine rw_v (op_pure rfl) ?_)
    first | refine rw_off rfl ?_ | (refine rw_on rfl ?_; refine rw_v (op_len Try.underlying41 rfl) ?_)
    first | refine rw_off rfl ?_ | (refine rw_on rfl ?_; refine rw_v (op_fieldAddr Try.underlying25 rfl Try.sizeOf22 rfl rfl) ?_)
    first | refine rw_off rfl ?_ | (refine rw_on rfl ?_; refine rw_r (op_loadB Try.underlying22 rfl rfl (S.blk (i := 5) rfl) rfl) ?_)
    first | refine rw_off rfl ?_ | (refine rw_on rfl ?_; refine rw_v (op_len Try.underlying22 rfl) ?_)
    first | refine rw_off rfl ?_ | (refine rw_on rfl ?_; (first | refine rw_v (op_b (b := true) rfl (decide_eq_true (by omega))) ?_ | refine rw_v (op_b (b := false) rfl (decide_eq_false (by omega))) ?_ | refine rw_v (op_pure rfl) ?_))
    refine rw_v (op_pure rfl) ?_
    first | refine rw_end ?_ | (refine rw_nil ?_; show CW _ _ _ _ _ _) | refine rw_nil ?_
    repeat refine cw_seq ?_
    refine cw_false rfl ?_
    repeat refine cw_seq ?_
    refine cw_exit ?_
    repeat first | refine exit_then ?_ | refine exit_inb ?_
    show CW _ _ _ _ _ _
    repeat refine cw_seq ?_
    refine cw_region ?_
    refine rw_v (op_pure rfl) ?_
    refine rw_v (op_fieldAddr Try.underlying36 rfl Try.sizeOf2 rfl rfl) ?_
    refine rw_r (op_loadB Try.underlying2 rfl rfl (S.blk (i := 4) rfl) rfl) ?_
    refine rw_v (op_fieldAddr Try.underlying25 rfl Try.sizeOf2 rfl rfl) ?_
    refine rw_r (op_loadB Try.underlying2 rfl rfl (S.blk (i := 5) rfl) rfl) ?_
    refine rw_v (op_rng rfl (by omega)) ?_
    rw [ea]
    refine rw_v (op_fieldAddr Try.underlying36 rfl Try.sizeOf2 rfl rfl) ?_
    refine rw_r (op_loadB Try.underlying2 rfl rfl (S.blk (i := 4) rfl) rfl) ?_
    refine rw_v (op_rng rfl (by omega)) ?_
    rw [ea2]
    refine rw_v (op_idx Try.underlying22 Try.sizeOf2 rfl rfl sa_left (by omega) (by omega)) ?_
    refine rw_r (op_ldR Try.underlying2 rfl rfl (S.rd (i := 2) rfl) (cellsQ_get (by omega))) ?_
    refine rw_v (op_pure rfl) ?_
    refine rw_v (op_pure rfl) ?_
    refine rw_v (op_pure rfl) ?_
    first | refine rw_end ?_ | (refine rw_nil ?_; show CW _ _ _ _ _ _) | refine rw_nil ?_
    repeat refine cw_seq ?_
    refine cw_ret ?_
    repeat first | refine ret_then ?_ | refine ret_inb ?_
    rw [hroute] at S
    rw [hl]
    exact res2 rfl rfl (S.retNew (i := 0) (mk := fun s => .tuple #[.int .i64 (d a), s]) rfl)
  · obtain ⟨p1, post, hL, hp1, hnx, hnlt, hside⟩ := nextN_ok (show 0 < gw by omega) hV hd hi hib
    have hnl := nearN_len gw V.length i
    rw [routeL_step (show 0 < gw by omega) hV hd hi hib] at hroute
    have hst0 := st_pos V i (nextN gw V d i)
    have hnn := hd.nn (nextN gw V d i) (by omega)
    have hrk := rank_lt (n := gw * gh) (d := d) (i := nextN gw V d i) (j := i) hnlt (by omega)
    generalize nextN gw V d i = nx at *
    have hnxi : nx ≠ i := fun e => by subst e; omega
    repeat refine cw_seq ?_
    refine cw_region ?_
    refine rw_r (op_loadAB Try.underlying36 rfl (Try.sizeOf36 _) rfl (S.blk (i := 1) rfl) rfl rfl) ?_
    refine rw_r (op_loadAB Try.underlying36 rfl (Try.sizeOf36 _) rfl (S.blk (i := 3) rfl) rfl rfl) ?_
    refine rw_v (op_neCell (r := true) rfl rfl (by rw [decide_eq_false (cz_ne hib)]; rfl)) ?_
    refine rw_v (op_pure rfl) ?_
    first | refine rw_off rfl ?_ | (refine rw_on rfl ?_; refine rw_v (op_pure rfl) ?_)
    first | refine rw_off rfl ?_ | (refine rw_on rfl ?_; refine rw_v (op_len Try.underlying41 rfl) ?_)
    first | refine rw_off rfl ?_ | (refine rw_on rfl ?_; refine rw_v (op_fieldAddr Try.underlying25 rfl Try.sizeOf22 rfl rfl) ?_)
    first | refine rw_off rfl ?_ | (refine rw_on rfl ?_; refine rw_r (op_loadB Try.underlying22 rfl rfl (S.blk (i := 5) rfl) rfl) ?_)
    first | refine rw_off rfl ?_ | (refine rw_on rfl ?_; refine rw_v (op_len Try.underlying22 rfl) ?_)
    first | refine rw_off rfl ?_ | (refine rw_on rfl ?_; (first | refine rw_v (op_b (b := true) rfl (decide_eq_true (by omega))) ?_ | refine rw_v (op_b (b := false) rfl (decide_eq_false (by omega))) ?_ | refine rw_v (op_pure rfl) ?_))
    refine rw_v (op_pure rfl) ?_
    first | refine rw_end ?_ | (refine rw_nil ?_; show CW _ _ _ _ _ _) | refine rw_nil ?_
    repeat refine cw_seq ?_
    refine cw_true rfl ?_
    repeat refine cw_seq ?_
    refine cw_skip ?_
    try show CW _ _ _ _ _ _
    repeat refine cw_seq ?_
    refine cw_block ?_
    repeat refine cw_seq ?_
    refine cw_region ?_
    refine rw_r (op_loadAB Try.underlying25 rfl (Try.sizeOf25 _) rfl (S.blk (i := 5) rfl) rfl rfl) ?_
    refine rw_r (op_loadAB Try.underlying36 rfl (Try.sizeOf36 _) rfl (S.blk (i := 1) rfl) rfl rfl) ?_
    refine rw_call rfl (nearI_E (W := w) i (by omega) hi hV hn (hA.gr S.out)) ?_
    rintro _ w13_ ⟨A_near, c_near, rfl, hR_near, hf_near, g13_⟩
    have S := S.pushRow hR_near hf_near g13_
    refine rw_v (op_pure rfl) ?_
    first | refine rw_end ?_ | (refine rw_nil ?_; show CW _ _ _ _ _ _) | refine rw_nil ?_
    repeat refine cw_seq ?_
    refine cw_region ?_
    refine rw_r (op_loadAB Try.underlying36 rfl (Try.sizeOf36 _) rfl (S.blk (i := 2) rfl) rfl rfl) ?_
    refine rw_newB (op_alloc Try.zeroValue36 rfl) S ?_
    intro b_nxt w15_ g15_ S
    refine rw_storeSA (i := 0) S rfl (Try.sizeOf36 _) rfl rfl rfl rfl rfl rfl ?_
    intro w16_ S
    first | refine rw_end ?_ | (refine rw_nil ?_; show CW _ _ _ _ _ _) | refine rw_nil ?_
    repeat refine cw_seq ?_
    refine cw_region ?_
    refine rw_v (op_pure rfl) ?_
    first | refine rw_end ?_ | (refine rw_nil ?_; show CW _ _ _ _ _ _) | refine rw_nil ?_
    repeat refine cw_seq ?_
    refine cw_block ?_
    repeat refine cw_seq ?_
    rw [hL] at S hnl ⊢
    have sa_near : SomeA A_near := (S.row (i := 1) rfl).someA (by show 0 < (p1 ++ nx :: post).length; rw [List.length_append, List.length_cons]; omega)
    refine cw_loop (fun m2 e w => ∃ k q : Nat, k + m2 = p1.length + 1 ∧ ((q = i ∧ k ≤ p1.length) ∨ (q = nx ∧ k = p1.length + 1)) ∧ SL e [(3, .pointer (some ⟨b_md, 0, none⟩)), (4, .pointer (some ⟨b_a, 0, none⟩)), (5, .pointer (some ⟨b_b, 0, none⟩)), (8, .slice A_left V.length c_left), (9, .slice A_out (pre.length + 1) c_out), (10, .pointer (some ⟨b_c, 0, none⟩)), (11, .slice A_near (p1 ++ nx :: post).length c_near), (12, .pointer (some ⟨b_nxt, 0, none⟩)), (13, .int .i64 k)] ∧
      St No W w [.blk b_nxt 36 [.int .i64 (q % gw : Nat), .int .i64 (q / gw : Nat)], .row 36 2 A_near (p1 ++ nx :: post).length c_near (cellsZ ((p1 ++ nx :: post).map (cz gw))), .row 36 2 A_out (pre.length + 1) c_out (cellsZ ((pre ++ [i]).map (cz gw))), .blk b_c 36 [.int .i64 (i % gw : Nat), .int .i64 (i / gw : Nat)], .row 2 1 A_left V.length c_left (cellsQ V.length d), .blk b_b 36 [.int .i64 (b % gw : Nat), .int .i64 (b / gw : Nat)], .blk b_a 36 [.int .i64 (a % gw : Nat), .int .i64 (a / gw : Nat)], .blk b_md 25 [.int .i64 gw, .int .i64 gh, .slice A V.length cap]]) (p1.length + 1)
      ⟨0, i, by omega, .inl ⟨rfl, by omega⟩, ⟨rfl, rfl, rfl, rfl, rfl, rfl, rfl, rfl, rfl, trivial⟩, S⟩ ?_
    clear S
    rintro m2 e w ⟨k, q, hk, hq, hsl, S⟩
    rw [hsl.fold]
    have hlen : (p1 ++ nx :: post).length = p1.length + 1 + post.length := by simp; omega
    have hmemN : ∀ y, y ∈ p1 ++ nx :: post → y < gw * gh := fun y hy => by rw [← hL, hV] at hy; exact ((nearN_mem (by omega) hi).1 hy).1
    rcases hq with ⟨hq, hkp⟩ | ⟨hq, hk1⟩
    · rw [hq] at S
      by_cases hkp : k < p1.length
      · obtain ⟨y, hy⟩ : ∃ y, p1[k]? = some y := ⟨_, List.getElem?_eq_getElem hkp⟩
        have hy2 : (p1 ++ nx :: post)[k]? = some y := by rw [List.getElem?_append_left hkp]; exact hy
        have hylt := hmemN y (List.mem_of_getElem? hy2)
        have hne := hp1 y (List.mem_of_getElem? hy)
        have hmy : ((p1 ++ nx :: post).map (cz gw))[k]? = some (cz gw y) := by rw [List.getElem?_map, hy2]; rfl
        have hat : ((cellsZ ((p1 ++ nx :: post).map (cz gw))).drop ((k : Int).toNat * 2)).take 2 = [.int .i64 (y % gw : Nat), .int .i64 (y / gw : Nat)] := by rw [Int.toNat_natCast]; exact cellsZ_at hmy
        have hcx : (cellsZ ((p1 ++ nx :: post).map (cz gw)))[(k : Int).toNat * 2 + 0]? = some (.int .i64 (y % gw : Nat)) := by rw [Int.toNat_natCast]; exact cellsZ_x hmy
        have hcy : (cellsZ ((p1 ++ nx :: post).map (cz gw)))[(k : Int).toNat * 2 + 1]? = some (.int .i64 (y / gw : Nat)) := by rw [Int.toNat_natCast]; exact cellsZ_y hmy
        have ey : ((y / gw : Nat) : Int) * gw = ((y / gw * gw : Nat) : Int) := by push_cast; rfl
        have eym : y / gw * gw + y % gw = y := by rw [Nat.mul_comm]; exact Nat.div_add_mod _ _
        have ey2 : ((y / gw * gw : Nat) : Int) + (y % gw : Nat) = ((y : Nat) : Int) := by omega
        have hys := st_far hB i y
        have hys0 := st_pos V i y
        have hdy := hd.nn y (by omega)
        have hdb := hd.bound hB y (by omega)
        have hdr := rank_top (d := d) hylt
        rw [hV] at hdb
        repeat refine cw_seq ?_
        refine cw_region ?_
        refine rw_v (op_pure rfl) ?_
        refine rw_v (op_pure rfl) ?_
        refine rw_v (op_len Try.underlying41 rfl) ?_
        first | refine rw_v (op_b (b := true) rfl (decide_eq_true (by omega))) ?_ | refine rw_v (op_b (b := false) rfl (decide_eq_false (by omega))) ?_ | refine rw_v (op_pure rfl) ?_
        refine rw_v (op_pure rfl) ?_
        first | refine rw_off rfl ?_ | (refine rw_on rfl ?_; refine rw_r (op_loadAB Try.underlying36 rfl (Try.sizeOf36 _) rfl (S.blk (i := 0) rfl) rfl rfl) ?_)
        first | refine rw_off rfl ?_ | (refine rw_on rfl ?_; refine rw_r (op_loadAB Try.underlying36 rfl (Try.sizeOf36 _) rfl (S.blk (i := 3) rfl) rfl rfl) ?_)
        refine rw_on rfl ?_
        refine rw_v (op_eqCell (r := true) rfl rfl (by simp)) ?_
        refine rw_v (op_pure rfl) ?_
        first | refine rw_end ?_ | (refine rw_nil ?_; show CW _ _ _ _ _ _) | refine rw_nil ?_
        repeat refine cw_seq ?_
        refine cw_true rfl ?_
        repeat refine cw_seq ?_
        refine cw_skip ?_
        try show CW _ _ _ _ _ _
        repeat refine cw_seq ?_
        refine cw_block ?_
        repeat refine cw_seq ?_
        refine cw_draw (C := fun wq => Gr w wq) [0, 1, 2, 3, 4, 5, 6, 7, 8, 9, 10, 11, 12, 13, 14, 15, 16, 17, 18, 19, 20, 21, 22, 23, 24, 25, 26, 27, 28, 29, 30, 31, 32, 33, 34, 35, 36] [] (by kernel_rfl) (by kernel_rfl) (Gr.drew _) ?_
        simp only [pickL, List.drop_succ_cons, List.drop_zero]
        refine rq_v (op_pure rfl) ?_
        refine rq_v (op_pure rfl) ?_
        refine rq_v (op_pure rfl) ?_
        refine rq_v (op_idx Try.underlying41 Try.sizeOf36 rfl rfl sa_near (by omega) (by omega)) ?_
        refine rq_v (op_fld Try.underlying36 rfl Try.sizeOf2 rfl rfl sa_near) ?_
        refine rq_r (fun wq hq => op_ldR Try.underlying2 rfl rfl ((S.gr hq).rd (i := 1) rfl) hcy) ?_
        refine rq_v (op_fieldAddr Try.underlying25 rfl Try.sizeOf2 rfl rfl) ?_
        refine rq_r (fun wq hq => op_loadB Try.underlying2 rfl rfl ((S.gr hq).blk (i := 7) rfl) rfl) ?_
        refine rq_v (op_rng rfl (by omega)) ?_
        rw [ey]
        refine rq_v (op_pure rfl) ?_
        refine rq_v (op_pure rfl) ?_
        refine rq_v (op_idx Try.underlying41 Try.sizeOf36 rfl rfl sa_near (by omega) (by omega)) ?_
        refine rq_v (op_fld Try.underlying36 rfl Try.sizeOf2 rfl rfl sa_near) ?_
        refine rq_r (fun wq hq => op_ldR Try.underlying2 rfl rfl ((S.gr hq).rd (i := 1) rfl) hcx) ?_
        refine rq_v (op_rng rfl (by omega)) ?_
        rw [ey2]
        refine rq_v (op_idx Try.underlying22 Try.sizeOf2 rfl rfl sa_left (by omega) (by omega)) ?_
        refine rq_r (fun wq hq => op_ldR Try.underlying2 rfl rfl ((S.gr hq).rd (i := 4) rfl) (cellsQ_get (by omega))) ?_
        refine rq_r (fun wq hq => op_loadAB Try.underlying25 rfl (Try.sizeOf25 _) rfl ((S.gr hq).blk (i := 7) rfl) rfl rfl) ?_
        refine rq_r (fun wq hq => op_loadAB Try.underlying36 rfl (Try.sizeOf36 _) rfl ((S.gr hq).blk (i := 3) rfl) rfl rfl) ?_
        refine rq_v (op_pure rfl) ?_
        refine rq_v (op_pure rfl) ?_
        refine rq_v (op_idx Try.underlying41 Try.sizeOf36 rfl rfl sa_near (by omega) (by omega)) ?_
        refine rq_r (fun wq hq => op_ldRA Try.underlying36 rfl (Try.sizeOf36 _) rfl ((S.gr hq).rd (i := 1) rfl) hat rfl rfl) ?_
        refine rq_call rfl (fun wq hq => (rstepR_E i y (by omega) hi (by omega) hV hn hB (hA.gr (S.gr hq).out)).mono (fun _ _ ⟨hv, hg⟩ => ⟨hv, hq.trans hg⟩)) ?_
        refine rq_v (op_rng rfl (by unfold far at *; omega)) ?_
        refine rq_v (op_pure rfl) ?_
        refine rq_v (op_fieldAddr Try.underlying36 rfl Try.sizeOf2 rfl rfl) ?_
        refine rq_r (fun wq hq => op_loadB Try.underlying2 rfl rfl ((S.gr hq).blk (i := 3) rfl) rfl) ?_
        refine rq_v (op_fieldAddr Try.underlying25 rfl Try.sizeOf2 rfl rfl) ?_
        refine rq_r (fun wq hq => op_loadB Try.underlying2 rfl rfl ((S.gr hq).blk (i := 7) rfl) rfl) ?_
        refine rq_v (op_rng rfl (by omega)) ?_
        rw [ei]
        refine rq_v (op_fieldAddr Try.underlying36 rfl Try.sizeOf2 rfl rfl) ?_
        refine rq_r (fun wq hq => op_loadB Try.underlying2 rfl rfl ((S.gr hq).blk (i := 3) rfl) rfl) ?_
        refine rq_v (op_rng rfl (by omega)) ?_
        rw [ei2]
        refine rq_v (op_idx Try.underlying22 Try.sizeOf2 rfl rfl sa_left (by omega) (by omega)) ?_
        refine rq_r (fun wq hq => op_ldR Try.underlying2 rfl rfl ((S.gr hq).rd (i := 4) rfl) (cellsQ_get (by omega))) ?_
        first | refine rq_v (op_b (b := true) rfl (beq_iff_eq.2 (by omega))) ?_ | refine rq_v (op_b (b := false) rfl (beq_eq_false_iff_ne.2 (by omega))) ?_ | refine rq_v (op_pure rfl) ?_
        refine rq_nil ?_
        intro w17_ g17_
        have S := S.gr g17_
        first | refine rw_end ?_ | (refine rw_nil ?_; show CW _ _ _ _ _ _) | refine rw_nil ?_
        repeat refine cw_seq ?_
        refine cw_false rfl ?_
        repeat refine cw_seq ?_
        refine cw_skip ?_
        try show CW _ _ _ _ _ _
        repeat refine cw_seq ?_
        refine cw_region ?_
        refine rw_v (op_pure rfl) ?_
        refine rw_v (op_rng rfl (by omega)) ?_
        refine rw_v (op_pure rfl) ?_
        first | refine rw_end ?_ | (refine rw_nil ?_; show CW _ _ _ _ _ _) | refine rw_nil ?_
        exact ⟨m2 - 1, by omega, k + 1, i, by omega, .inl ⟨rfl, by omega⟩, ⟨rfl, rfl, rfl, rfl, rfl, rfl, rfl, rfl, ie (by omega), trivial⟩, S⟩
      · obtain rfl : k = p1.length := by omega
        have hy2 : (p1 ++ nx :: post)[p1.length]? = some nx := by rw [List.getElem?_append_right (Nat.le_refl _)]; simp
        have hylt := hnlt
        have hmy : ((p1 ++ nx :: post).map (cz gw))[p1.length]? = some (cz gw nx) := by rw [List.getElem?_map, hy2]; rfl
        have hat : ((cellsZ ((p1 ++ nx :: post).map (cz gw))).drop (((p1.length : Nat) : Int).toNat * 2)).take 2 = [.int .i64 (nx % gw : Nat), .int .i64 (nx / gw : Nat)] := by rw [Int.toNat_natCast]; exact cellsZ_at hmy
        have hcx : (cellsZ ((p1 ++ nx :: post).map (cz gw)))[((p1.length : Nat) : Int).toNat * 2 + 0]? = some (.int .i64 (nx % gw : Nat)) := by rw [Int.toNat_natCast]; exact cellsZ_x hmy
        have hcy : (cellsZ ((p1 ++ nx :: post).map (cz gw)))[((p1.length : Nat) : Int).toNat * 2 + 1]? = some (.int .i64 (nx / gw : Nat)) := by rw [Int.toNat_natCast]; exact cellsZ_y hmy
        have ey : ((nx / gw : Nat) : Int) * gw = ((nx / gw * gw : Nat) : Int) := by push_cast; rfl
        have eym : nx / gw * gw + nx % gw = nx := by rw [Nat.mul_comm]; exact Nat.div_add_mod _ _
        have ey2 : ((nx / gw * gw : Nat) : Int) + (nx % gw : Nat) = ((nx : Nat) : Int) := by omega
        have hys := st_far hB i nx
        have hys0 := st_pos V i nx
        have hdy := hd.nn nx (by omega)
        have hdb := hd.bound hB nx (by omega)
        have hdr := rank_top (d := d) hylt
        rw [hV] at hdb
        repeat refine cw_seq ?_
        refine cw_region ?_
        refine rw_v (op_pure rfl) ?_
        refine rw_v (op_pure rfl) ?_
        refine rw_v (op_len Try.underlying41 rfl) ?_
        first | refine rw_v (op_b (b := true) rfl (decide_eq_true (by omega))) ?_ | refine rw_v (op_b (b := false) rfl (decide_eq_false (by omega))) ?_ | refine rw_v (op_pure rfl) ?_
        refine rw_v (op_pure rfl) ?_
        first | refine rw_off rfl ?_ | (refine rw_on rfl ?_; refine rw_r (op_loadAB Try.underlying36 rfl (Try.sizeOf36 _) rfl (S.blk (i := 0) rfl) rfl rfl) ?_)
        first | refine rw_off rfl ?_ | (refine rw_on rfl ?_; refine rw_r (op_loadAB Try.underlying36 rfl (Try.sizeOf36 _) rfl (S.blk (i := 3) rfl) rfl rfl) ?_)
        refine rw_on rfl ?_
        refine rw_v (op_eqCell (r := true) rfl rfl (by simp)) ?_
        refine rw_v (op_pure rfl) ?_
        first | refine rw_end ?_ | (refine rw_nil ?_; show CW _ _ _ _ _ _) | refine rw_nil ?_
        repeat refine cw_seq ?_
        refine cw_true rfl ?_
        repeat refine cw_seq ?_
        refine cw_skip ?_
        try show CW _ _ _ _ _ _
        repeat refine cw_seq ?_
        refine cw_block ?_
        repeat refine cw_seq ?_
        refine cw_draw (C := fun wq => Gr w wq) [0, 1, 2, 3, 4, 5, 6, 7, 8, 9, 10, 11, 12, 13, 14, 15, 16, 17, 18, 19, 20, 21, 22, 23, 24, 25, 26, 27, 28, 29, 30, 31, 32, 33, 34, 35, 36] [] (by kernel_rfl) (by kernel_rfl) (Gr.drew _) ?_
        simp only [pickL, List.drop_succ_cons, List.drop_zero]
        refine rq_v (op_pure rfl) ?_
        refine rq_v (op_pure rfl) ?_
        refine rq_v (op_pure rfl) ?_
        refine rq_v (op_idx Try.underlying41 Try.sizeOf36 rfl rfl sa_near (by omega) (by omega)) ?_
        refine rq_v (op_fld Try.underlying36 rfl Try.sizeOf2 rfl rfl sa_near) ?_
        refine rq_r (fun wq hq => op_ldR Try.underlying2 rfl rfl ((S.gr hq).rd (i := 1) rfl) hcy) ?_
        refine rq_v (op_fieldAddr Try.underlying25 rfl Try.sizeOf2 rfl rfl) ?_
        refine rq_r (fun wq hq => op_loadB Try.underlying2 rfl rfl ((S.gr hq).blk (i := 7) rfl) rfl) ?_
        refine rq_v (op_rng rfl (by omega)) ?_
        rw [ey]
        refine rq_v (op_pure rfl) ?_
        refine rq_v (op_pure rfl) ?_
        refine rq_v (op_idx Try.underlying41 Try.sizeOf36 rfl rfl sa_near (by omega) (by omega)) ?_
        refine rq_v (op_fld Try.underlying36 rfl Try.sizeOf2 rfl rfl sa_near) ?_
        refine rq_r (fun wq hq => op_ldR Try.underlying2 rfl rfl ((S.gr hq).rd (i := 1) rfl) hcx) ?_
        refine rq_v (op_rng rfl (by omega)) ?_
        rw [ey2]
        refine rq_v (op_idx Try.underlying22 Try.sizeOf2 rfl rfl sa_left (by omega) (by omega)) ?_
        refine rq_r (fun wq hq => op_ldR Try.underlying2 rfl rfl ((S.gr hq).rd (i := 4) rfl) (cellsQ_get (by omega))) ?_
        refine rq_r (fun wq hq => op_loadAB Try.underlying25 rfl (Try.sizeOf25 _) rfl ((S.gr hq).blk (i := 7) rfl) rfl rfl) ?_
        refine rq_r (fun wq hq => op_loadAB Try.underlying36 rfl (Try.sizeOf36 _) rfl ((S.gr hq).blk (i := 3) rfl) rfl rfl) ?_
        refine rq_v (op_pure rfl) ?_
        refine rq_v (op_pure rfl) ?_
        refine rq_v (op_idx Try.underlying41 Try.sizeOf36 rfl rfl sa_near (by omega) (by omega)) ?_
        refine rq_r (fun wq hq => op_ldRA Try.underlying36 rfl (Try.sizeOf36 _) rfl ((S.gr hq).rd (i := 1) rfl) hat rfl rfl) ?_
        refine rq_call rfl (fun wq hq => (rstepR_E i nx (by omega) hi (by omega) hV hn hB (hA.gr (S.gr hq).out)).mono (fun _ _ ⟨hv, hg⟩ => ⟨hv, hq.trans hg⟩)) ?_
        refine rq_v (op_rng rfl (by unfold far at *; omega)) ?_
        refine rq_v (op_pure rfl) ?_
        refine rq_v (op_fieldAddr Try.underlying36 rfl Try.sizeOf2 rfl rfl) ?_
        refine rq_r (fun wq hq => op_loadB Try.underlying2 rfl rfl ((S.gr hq).blk (i := 3) rfl) rfl) ?_
        refine rq_v (op_fieldAddr Try.underlying25 rfl Try.sizeOf2 rfl rfl) ?_
        refine rq_r (fun wq hq => op_loadB Try.underlying2 rfl rfl ((S.gr hq).blk (i := 7) rfl) rfl) ?_
        refine rq_v (op_rng rfl (by omega)) ?_
        rw [ei]
        refine rq_v (op_fieldAddr Try.underlying36 rfl Try.sizeOf2 rfl rfl) ?_
        refine rq_r (fun wq hq => op_loadB Try.underlying2 rfl rfl ((S.gr hq).blk (i := 3) rfl) rfl) ?_
        refine rq_v (op_rng rfl (by omega)) ?_
        rw [ei2]
        refine rq_v (op_idx Try.underlying22 Try.sizeOf2 rfl rfl sa_left (by omega) (by omega)) ?_
        refine rq_r (fun wq hq => op_ldR Try.underlying2 rfl rfl ((S.gr hq).rd (i := 4) rfl) (cellsQ_get (by omega))) ?_
        first | refine rq_v (op_b (b := true) rfl (beq_iff_eq.2 (by omega))) ?_ | refine rq_v (op_b (b := false) rfl (beq_eq_false_iff_ne.2 (by omega))) ?_ | refine rq_v (op_pure rfl) ?_
        refine rq_nil ?_
        intro w18_ g18_
        have S := S.gr g18_
        first | refine rw_end ?_ | (refine rw_nil ?_; show CW _ _ _ _ _ _) | refine rw_nil ?_
        repeat refine cw_seq ?_
        refine cw_true rfl ?_
        repeat refine cw_seq ?_
        refine cw_region ?_
        refine rw_v (op_pure rfl) ?_
        refine rw_v (op_pure rfl) ?_
        refine rw_v (op_idx Try.underlying41 Try.sizeOf36 rfl rfl sa_near (by omega) (by omega)) ?_
        refine rw_r (op_ldRA Try.underlying36 rfl (Try.sizeOf36 _) rfl (S.rd (i := 1) rfl) hat rfl rfl) ?_
        refine rw_storeSA (i := 0) S rfl (Try.sizeOf36 _) rfl rfl rfl rfl rfl rfl ?_
        intro w19_ S
        first | refine rw_end ?_ | (refine rw_nil ?_; show CW _ _ _ _ _ _) | refine rw_nil ?_
        repeat refine cw_seq ?_
        refine cw_region ?_
        refine rw_v (op_pure rfl) ?_
        refine rw_v (op_rng rfl (by omega)) ?_
        refine rw_v (op_pure rfl) ?_
        first | refine rw_end ?_ | (refine rw_nil ?_; show CW _ _ _ _ _ _) | refine rw_nil ?_
        exact ⟨m2 - 1, by omega, p1.length + 1, nx, by omega, .inr ⟨rfl, rfl⟩, ⟨rfl, rfl, rfl, rfl, rfl, rfl, rfl, rfl, ie (by omega), trivial⟩, S⟩
    · rw [hq] at S
      subst hk1
      have e1 : cellsZ ((pre ++ [i]).map (cz gw)) ++ [.int .i64 (nx % gw : Nat), .int .i64 (nx / gw : Nat)] = cellsZ ((pre ++ [i] ++ [nx]).map (cz gw)) := by simp [cellsZ, cz]
      have hrank' : rank (gw * gh) d nx + (pre ++ [i]).length + 1 ≤ gw * gh := by rw [List.length_append, List.length_singleton]; omega
      by_cases hp0 : 0 < post.length
      · skip
        repeat refine cw_seq ?_
        refine cw_region ?_
        refine rw_v (op_pure rfl) ?_
        refine rw_v (op_pure rfl) ?_
        refine rw_v (op_len Try.underlying41 rfl) ?_
        first | refine rw_v (op_b (b := true) rfl (decide_eq_true (by omega))) ?_ | refine rw_v (op_b (b := false) rfl (decide_eq_false (by omega))) ?_ | refine rw_v (op_pure rfl) ?_
        refine rw_v (op_pure rfl) ?_
        first | refine rw_off rfl ?_ | (refine rw_on rfl ?_; refine rw_r (op_loadAB Try.underlying36 rfl (Try.sizeOf36 _) rfl (S.blk (i := 0) rfl) rfl rfl) ?_)
        first | refine rw_off rfl ?_ | (refine rw_on rfl ?_; refine rw_r (op_loadAB Try.underlying36 rfl (Try.sizeOf36 _) rfl (S.blk (i := 3) rfl) rfl rfl) ?_)
        refine rw_on rfl ?_
        refine rw_v (op_eqCell (r := false) rfl rfl (decide_eq_false (cz_ne hnxi))) ?_
        refine rw_v (op_pure rfl) ?_
        first | refine rw_end ?_ | (refine rw_nil ?_; show CW _ _ _ _ _ _) | refine rw_nil ?_
        repeat refine cw_seq ?_
        refine cw_false rfl ?_
        repeat refine cw_seq ?_
        refine cw_exit ?_
        repeat first | refine exit_then ?_ | refine exit_inb ?_
        show CW _ _ _ _ _ _
        repeat refine cw_seq ?_
        refine cw_region ?_
        refine rw_r (op_loadAB Try.underlying36 rfl (Try.sizeOf36 _) rfl (S.blk (i := 0) rfl) rfl rfl) ?_
        refine rw_storeSA (i := 3) S rfl (Try.sizeOf36 _) rfl rfl rfl rfl rfl rfl ?_
        intro w20_ S
        first | refine rw_end ?_ | (refine rw_nil ?_; show CW _ _ _ _ _ _) | refine rw_nil ?_
        repeat refine cw_seq ?_
        refine cw_region ?_
        refine rw_v (op_pure rfl) ?_
        refine rw_r (op_loadAB Try.underlying36 rfl (Try.sizeOf36 _) rfl (S.blk (i := 3) rfl) rfl rfl) ?_
        refine rw_buildS Try.underlying41 Try.sizeOf36 Try.zeroValue36 rfl rfl rfl rfl rfl rfl S ?_
        intro A_lit w22_ g22_ S sa_lit
        refine rw_appS (i := 3) S rfl (fun h => rfl) Try.underlying41 info_t36 rfl rfl rfl rfl (by simp) (by omega) (S.rd (i := 0) rfl) rfl (by omega) ?_
        intro A_out23 c_out23 w23_ S sa_out
        refine rw_v (op_pure rfl) ?_
        first | refine rw_end ?_ | (refine rw_nil ?_; show CW _ _ _ _ _ _) | refine rw_nil ?_
        have S := S.sub (.cons _ (.cons _ (.cons _ (.cons_cons _ (.cons_cons _ (.cons_cons _ (.cons_cons _ (.cons_cons _ (.cons_cons _ .slnil)))))))))
        rw [e1] at S
        refine ⟨_, by omega, pre ++ [i], nx, _, _, rfl, hnlt, by rw [List.append_assoc]; exact hroute, hrank', ⟨rfl, rfl, rfl, rfl, se (by simp) rfl, rfl, trivial⟩, ?_⟩
        rw [List.length_append, List.length_singleton]
        exact S
      · skip
        repeat refine cw_seq ?_
        refine cw_region ?_
        refine rw_v (op_pure rfl) ?_
        refine rw_v (op_pure rfl) ?_
        refine rw_v (op_len Try.underlying41 rfl) ?_
        first | refine rw_v (op_b (b := true) rfl (decide_eq_true (by omega))) ?_ | refine rw_v (op_b (b := false) rfl (decide_eq_false (by omega))) ?_ | refine rw_v (op_pure rfl) ?_
        refine rw_v (op_pure rfl) ?_
        first | refine rw_off rfl ?_ | (refine rw_on rfl ?_; refine rw_r (op_loadAB Try.underlying36 rfl (Try.sizeOf36 _) rfl (S.blk (i := 0) rfl) rfl rfl) ?_)
        first | refine rw_off rfl ?_ | (refine rw_on rfl ?_; refine rw_r (op_loadAB Try.underlying36 rfl (Try.sizeOf36 _) rfl (S.blk (i := 3) rfl) rfl rfl) ?_)
        refine rw_off rfl ?_
        refine rw_v (op_pure rfl) ?_
        first | refine rw_end ?_ | (refine rw_nil ?_; show CW _ _ _ _ _ _) | refine rw_nil ?_
        repeat refine cw_seq ?_
        refine cw_false rfl ?_
        repeat refine cw_seq ?_
        refine cw_exit ?_
        repeat first | refine exit_then ?_ | refine exit_inb ?_
        show CW _ _ _ _ _ _
        repeat refine cw_seq ?_
        refine cw_region ?_
        refine rw_r (op_loadAB Try.underlying36 rfl (Try.sizeOf36 _) rfl (S.blk (i := 0) rfl) rfl rfl) ?_
        refine rw_storeSA (i := 3) S rfl (Try.sizeOf36 _) rfl rfl rfl rfl rfl rfl ?_
        intro w24_ S
        first | refine rw_end ?_ | (refine rw_nil ?_; show CW _ _ _ _ _ _) | refine rw_nil ?_
        repeat refine cw_seq ?_
        refine cw_region ?_
        refine rw_v (op_pure rfl) ?_
        refine rw_r (op_loadAB Try.underlying36 rfl (Try.sizeOf36 _) rfl (S.blk (i := 3) rfl) rfl rfl) ?_
        refine rw_buildS Try.underlying41 Try.sizeOf36 Try.zeroValue36 rfl rfl rfl rfl rfl rfl S ?_
        intro A_lit w26_ g26_ S sa_lit
        refine rw_appS (i := 3) S rfl (fun h => rfl) Try.underlying41 info_t36 rfl rfl rfl rfl (by simp) (by omega) (S.rd (i := 0) rfl) rfl (by omega) ?_
        intro A_out27 c_out27 w27_ S sa_out
        refine rw_v (op_pure rfl) ?_
        first | refine rw_end ?_ | (refine rw_nil ?_; show CW _ _ _ _ _ _) | refine rw_nil ?_
        have S := S.sub (.cons _ (.cons _ (.cons _ (.cons_cons _ (.cons_cons _ (.cons_cons _ (.cons_cons _ (.cons_cons _ (.cons_cons _ .slnil)))))))))
        rw [e1] at S
        refine ⟨_, by omega, pre ++ [i], nx, _, _, rfl, hnlt, by rw [List.append_assoc]; exact hroute, hrank', ⟨rfl, rfl, rfl, rfl, se (by simp) rfl, rfl, trivial⟩, ?_⟩
        rw [List.length_append, List.length_singleton]
        exact S
end
end Go.Proofs.Ytmdkjohllinphaa
