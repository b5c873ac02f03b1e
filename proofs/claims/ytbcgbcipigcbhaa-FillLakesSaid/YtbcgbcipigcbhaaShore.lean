/- The methods of fill.shore, as container/heap calls them. -/
import Derived.Test.YtbcgbcipigcbhaaJobs
import Derived.Test.YtbcgbcipigcbhaaGridD
namespace Go.Proofs.Ytbcgbcipigcbhaa.shore
open Go.RowKit Go.Proofs.Ytbcgbcipigcbhaa
set_option linter.unusedVariables false
set_option linter.unusedSimpArgs false
set_option maxRecDepth 100000

section
variable {F : Nat → Prop} {W0 : World} {L : List HA} {q : Nat} {x0 x1 x2 x3 : Value}
/-- a queue that holds jobs, its header's block and its row first of all parts -/
def QH (F : Nat → Prop) (W0 : World) (L : List HA) (q : Nat) (x0 x1 x2 x3 : Value) (l : List Job) (w : World) : Prop :=
  l.length ≤ 1099511627777 ∧ ∃ A c, St F W0 w (.blk q 106 [x0, x1, x2, x3, .slice A l.length c] :: .row 187 2 A l.length c (jobsV l) :: L)
theorem QH.mk {l : List Job} {w : World} {A : Option Addr} {n c : Nat} (hn : l.length = n) (hl : n ≤ 1099511627777) (S : St F W0 w (.blk q 106 [x0, x1, x2, x3, .slice A n c] :: .row 187 2 A n c (jobsV l) :: L)) : QH F W0 L q x0 x1 x2 x3 l w := by
  subst hn; exact ⟨hl, A, c, S⟩
theorem dlen_E (A : Option Addr) (n c : Nat) (w : World) : Fn Try.prog 124 [.slice A n c] w (RetG (.int .i64 n) w) := by
  have S := St.start w
  refine Fn_enter Try.func124 rfl Try.results124 Try.ntmps124 (by kernel_rfl) (by kernel_rfl) ?_
  repeat refine cw_seq ?_
  refine cw_region ?_
  refine rw_v (op_pure rfl) ?_
  first | refine rw_end ?_ | (refine rw_nil ?_; show CW _ _ _ _ _ _) | refine rw_nil ?_
  repeat refine cw_seq ?_
  refine cw_region ?_
  refine rw_v (op_pure rfl) ?_
  refine rw_v (op_len Try.underlying104 rfl) ?_
  refine rw_v (op_pure rfl) ?_
  first | refine rw_end ?_ | (refine rw_nil ?_; show CW _ _ _ _ _ _) | refine rw_nil ?_
  repeat refine cw_seq ?_
  refine cw_ret ?_
  repeat first | refine ret_then ?_ | refine ret_inb ?_
  exact res1 rfl ⟨rfl, S.out⟩
theorem qlen_E {l : List Job} {w : World} (hH : QH F W0 L q x0 x1 x2 x3 l w) : Inv_ Try.prog 189 (.pointer (some ⟨q, 4, none⟩)) "Len" [] w (fun v w' => v = .int .i64 l.length ∧ QH F W0 L q x0 x1 x2 x3 l w') := by
  obtain ⟨hl, A, c, S⟩ := hH
  refine ⟨124, _, method_val (by kernel_rfl) Try.underlying189 (load_run Try.underlying104 rfl (S.blk (i := 0) rfl) rfl), ?_⟩
  refine Fn_enter Try.func124 rfl Try.results124 Try.ntmps124 (by kernel_rfl) (by kernel_rfl) ?_
  repeat refine cw_seq ?_
  refine cw_region ?_
  refine rw_v (op_pure rfl) ?_
  first | refine rw_end ?_ | (refine rw_nil ?_; show CW _ _ _ _ _ _) | refine rw_nil ?_
  repeat refine cw_seq ?_
  refine cw_region ?_
  refine rw_v (op_pure rfl) ?_
  refine rw_v (op_len Try.underlying104 rfl) ?_
  refine rw_v (op_pure rfl) ?_
  first | refine rw_end ?_ | (refine rw_nil ?_; show CW _ _ _ _ _ _) | refine rw_nil ?_
  repeat refine cw_seq ?_
  refine cw_ret ?_
  repeat first | refine ret_then ?_ | refine ret_inb ?_
  exact res1 rfl ⟨rfl, hl, A, c, S⟩
theorem qless_E {l : List Job} {w : World} {i j : Nat} (hH : QH F W0 L q x0 x1 x2 x3 l w) (hi : i < l.length) (hj : j < l.length) :
    Inv_ Try.prog 189 (.pointer (some ⟨q, 4, none⟩)) "Less" [.int .i64 i, .int .i64 j] w (fun v w' => v = .bool (decide ((jobAt l i).1 < (jobAt l j).1)) ∧ QH F W0 L q x0 x1 x2 x3 l w') := by
  obtain ⟨hl, A_R, c, S⟩ := hH
  have sa_R : SomeA A_R := (S.row (i := 1) rfl).someA (by omega)
  have ci := jobsV_cost hi
  have cj := jobsV_cost hj
  refine ⟨227, _, method_val (by kernel_rfl) Try.underlying189 (load_run Try.underlying104 rfl (S.blk (i := 0) rfl) rfl), ?_⟩
  refine Fn_enter Try.func227 rfl Try.results227 Try.ntmps227 (by kernel_rfl) (by kernel_rfl) ?_
  repeat refine cw_seq ?_
  refine cw_region ?_
  refine rw_v (op_pure rfl) ?_
  first | refine rw_end ?_ | (refine rw_nil ?_; show CW _ _ _ _ _ _) | refine rw_nil ?_
  repeat refine cw_seq ?_
  refine cw_draw (C := fun wq => Gr w wq) [0, 1, 2, 3, 4, 5, 6, 7, 8, 9, 10, 11] [] (by kernel_rfl) (by kernel_rfl) (Gr.drew _) ?_
  simp only [pickL, List.drop_succ_cons, List.drop_zero]
  iterate 2 refine rq_v (op_pure rfl) ?_
  refine rq_v (op_idx Try.underlying104 Try.sizeOf187 rfl rfl sa_R (by omega) (by omega)) ?_
  refine rq_v (op_fld Try.underlying187 rfl Try.sizeOf2 rfl rfl sa_R) ?_
  refine rq_r (fun wq hq => op_ldR Try.underlying2 rfl rfl ((S.gr hq).rd (i := 1) rfl) ci) ?_
  iterate 2 refine rq_v (op_pure rfl) ?_
  refine rq_v (op_idx Try.underlying104 Try.sizeOf187 rfl rfl sa_R (by omega) (by omega)) ?_
  refine rq_v (op_fld Try.underlying187 rfl Try.sizeOf2 rfl rfl sa_R) ?_
  refine rq_r (fun wq hq => op_ldR Try.underlying2 rfl rfl ((S.gr hq).rd (i := 1) rfl) cj) ?_
  iterate 2 refine rq_v (op_pure rfl) ?_
  refine rq_nil ?_
  intro w1_ g1_
  have S := S.gr g1_
  first | refine rw_end ?_ | (refine rw_nil ?_; show CW _ _ _ _ _ _) | refine rw_nil ?_
  repeat refine cw_seq ?_
  refine cw_ret ?_
  repeat first | refine ret_then ?_ | refine ret_inb ?_
  exact res1 rfl ⟨rfl, hl, A_R, c, S⟩
theorem qswap_E {l : List Job} {w : World} {i j : Nat} (hH : QH F W0 L q x0 x1 x2 x3 l w) (hi : i < l.length) (hj : j < l.length) :
    Inv_ Try.prog 189 (.pointer (some ⟨q, 4, none⟩)) "Swap" [.int .i64 i, .int .i64 j] w (fun v w' => v = .tuple #[] ∧ QH F W0 L q x0 x1 x2 x3 (swapJ l i j) w') := by
  obtain ⟨hl, A_R, c, S⟩ := hH
  have sa_R : SomeA A_R := (S.row (i := 1) rfl).someA (by omega)
  have ci := jobsV_at hi
  have cj := jobsV_at hj
  have hlen := jobsV_len l
  have e1 : ((i : Nat) : Int).toNat * 2 = i * 2 := by omega
  have e2 : ((j : Nat) : Int).toNat * 2 = j * 2 := by omega
  have hp1 := jobsV_put (l := l) (i := i) (jobAt l j) hi
  have hlen1 := jobsV_len (l.set i (jobAt l j))
  have hp2 := jobsV_put (l := l.set i (jobAt l j)) (i := j) (jobAt l i) (by simpa using hj)
  rw [List.length_set] at hlen1
  refine ⟨228, _, method_val (by kernel_rfl) Try.underlying189 (load_run Try.underlying104 rfl (S.blk (i := 0) rfl) rfl), ?_⟩
  refine Fn_enter Try.func228 rfl Try.results228 Try.ntmps228 (by kernel_rfl) (by kernel_rfl) ?_
  repeat refine cw_seq ?_
  refine TI.cw_tree (C := (SWC F W0 (.blk q 106 [x0, x1, x2, x3, .slice A_R l.length c] :: .row 187 2 A_R l.length c (jobsV l) :: L) (.blk q 106 [x0, x1, x2, x3, .slice A_R l.length c] :: .row 187 2 A_R l.length c (jobsV (l.set i (jobAt l j))) :: L) 7 11 13 (.agg (jobC (jobAt l j)).toArray) (.agg (jobC (jobAt l i)).toArray))) [7, 11, 13] (.one 0 (.one 1 (.one 2 (.one 3 (.one 4 (.one 5 (.one 6 (.one 8 (.one 9 (.one 10 (.two 7 (.one 11 (.one 12 (.one 13 .nil))) 11 (.one 7 (.one 12 (.one 13 .nil)))))))))))))) [14, 15] (by kernel_rfl) (by kernel_rfl) (SWC.start (S.gr (Gr.drew _))) ?_
  simp only [pickO, pickL, List.drop_succ_cons, List.drop_zero]
  refine TI.ro_one ?_
  refine TI.rs_v rfl (op_pure rfl) ?_
  refine TI.rs_nil ?_
  refine TI.ro_one ?_
  refine TI.rs_v rfl (op_pure rfl) ?_
  refine TI.rs_nil ?_
  refine TI.ro_one ?_
  refine TI.rs_v rfl (op_pure rfl) ?_
  refine TI.rs_nil ?_
  refine TI.ro_one ?_
  refine TI.rs_v rfl (op_pure rfl) ?_
  refine TI.rs_nil ?_
  refine TI.ro_one ?_
  refine TI.rs_v rfl (op_pure rfl) ?_
  refine TI.rs_nil ?_
  refine TI.ro_one ?_
  refine TI.rs_v rfl (op_pure rfl) ?_
  refine TI.rs_nil ?_
  refine TI.ro_one ?_
  refine TI.rs_v rfl (op_idx Try.underlying104 Try.sizeOf187 rfl rfl sa_R (by omega) (by omega)) ?_
  refine TI.rs_nil ?_
  refine TI.ro_one ?_
  refine TI.rs_v rfl (op_pure rfl) ?_
  refine TI.rs_nil ?_
  refine TI.ro_one ?_
  refine TI.rs_v rfl (op_pure rfl) ?_
  refine TI.rs_nil ?_
  refine TI.ro_one ?_
  refine TI.rs_v rfl (op_idx Try.underlying104 Try.sizeOf187 rfl rfl sa_R (by omega) (by omega)) ?_
  refine TI.rs_nil ?_
  refine TI.ro_two ?_ ?_
  · refine TI.rs_special rfl rfl (fun wq hq => to_r (op_ldRA Try.underlying187 rfl (Try.sizeOf187 _) rfl ((hq.st0 rfl).rd (i := 1) rfl) (by rw [e2]; exact cj) rfl rfl) (hq.push rfl rfl ⟨fun _ => rfl, fun h => by cases h⟩)) ?_
    rintro v7 w7 h7
    obtain rfl := h7.first
    refine TI.rs_nil ?_
    refine TI.ro_one ?_
    refine TI.rs_special rfl rfl (fun wq hq => to_r (op_ldRA Try.underlying187 rfl (Try.sizeOf187 _) rfl ((hq.st0 rfl).rd (i := 1) rfl) (by rw [e1]; exact ci) rfl rfl) (hq.push rfl rfl ⟨fun h => (by cases h), fun _ => rfl⟩)) ?_
    rintro v11 w11 h11
    obtain rfl := h11.second
    refine TI.rs_nil ?_
    refine TI.ro_one ?_
    refine TI.rs_v rfl (op_idx Try.underlying104 Try.sizeOf187 rfl rfl sa_R (by omega) (by omega)) ?_
    refine TI.rs_nil ?_
    refine TI.ro_one ?_
    refine TI.rs_special rfl rfl (fun wq hq => to_storeRA (i := 1) (hq.st0 rfl) rfl (Try.sizeOf187 _) rfl rfl rfl rfl (by rw [e1]; omega) (by rw [e1]; exact congrArg some (by rw [show i * 2 + 2 = i * 2 + 2 from rfl, hp1])) rfl (fun w' S' => hq.made ⟨fun h => (by cases h), fun h => (by cases h)⟩ S')) ?_
    rintro v13 w13 _
    refine TI.rs_nil ?_
    refine TI.ro_nil ?_
    rintro wz hz
    have S := hz.st1 rfl
    refine rw_v (op_idx Try.underlying104 Try.sizeOf187 rfl rfl sa_R (by omega) (by omega)) ?_
    refine rw_storeRA (i := 1) S rfl (Try.sizeOf187 _) rfl rfl rfl rfl (by rw [e2]; omega) rfl rfl ?_
    intro wz S
    first | refine rw_end ?_ | (refine rw_nil ?_; show CW _ _ _ _ _ _) | refine rw_nil ?_
    refine res0n ⟨rfl, QH.mk (swapJ_len l i j) hl (c := c) (A := A_R) ?_⟩
    rw [e2] at S
    have hp2' := hp2
    unfold jobC at hp2'
    unfold swapJ
    rw [← hp2]
    exact S
  · refine TI.rs_special rfl rfl (fun wq hq => to_r (op_ldRA Try.underlying187 rfl (Try.sizeOf187 _) rfl ((hq.st0 rfl).rd (i := 1) rfl) (by rw [e1]; exact ci) rfl rfl) (hq.push rfl rfl ⟨fun h => (by cases h), fun _ => rfl⟩)) ?_
    rintro v11 w11 h11
    obtain rfl := h11.second
    refine TI.rs_nil ?_
    refine TI.ro_one ?_
    refine TI.rs_special rfl rfl (fun wq hq => to_r (op_ldRA Try.underlying187 rfl (Try.sizeOf187 _) rfl ((hq.st0 rfl).rd (i := 1) rfl) (by rw [e2]; exact cj) rfl rfl) (hq.push rfl rfl ⟨fun _ => rfl, fun h => by cases h⟩)) ?_
    rintro v7 w7 h7
    obtain rfl := h7.first
    refine TI.rs_nil ?_
    refine TI.ro_one ?_
    refine TI.rs_v rfl (op_idx Try.underlying104 Try.sizeOf187 rfl rfl sa_R (by omega) (by omega)) ?_
    refine TI.rs_nil ?_
    refine TI.ro_one ?_
    refine TI.rs_special rfl rfl (fun wq hq => to_storeRA (i := 1) (hq.st0 rfl) rfl (Try.sizeOf187 _) rfl rfl rfl rfl (by rw [e1]; omega) (by rw [e1]; exact congrArg some (by rw [show i * 2 + 2 = i * 2 + 2 from rfl, hp1])) rfl (fun w' S' => hq.made ⟨fun h => (by cases h), fun h => (by cases h)⟩ S')) ?_
    rintro v13 w13 _
    refine TI.rs_nil ?_
    refine TI.ro_nil ?_
    rintro wz hz
    have S := hz.st1 rfl
    refine rw_v (op_idx Try.underlying104 Try.sizeOf187 rfl rfl sa_R (by omega) (by omega)) ?_
    refine rw_storeRA (i := 1) S rfl (Try.sizeOf187 _) rfl rfl rfl rfl (by rw [e2]; omega) rfl rfl ?_
    intro wz S
    first | refine rw_end ?_ | (refine rw_nil ?_; show CW _ _ _ _ _ _) | refine rw_nil ?_
    refine res0n ⟨rfl, QH.mk (swapJ_len l i j) hl (c := c) (A := A_R) ?_⟩
    rw [e2] at S
    have hp2' := hp2
    unfold jobC at hp2'
    unfold swapJ
    rw [← hp2]
    exact S
theorem qpush_E {l : List Job} {w : World} (x : Job) (hH : QH F W0 L q x0 x1 x2 x3 l w) (hl : l.length ≤ 1099511627776) :
    Inv_ Try.prog 189 (.pointer (some ⟨q, 4, none⟩)) "Push" [.iface 187 (.agg #[.int .i64 x.1, .int .i64 x.2])] w (fun v w' => v = .tuple #[] ∧ QH F W0 L q x0 x1 x2 x3 (l ++ [x]) w') := by
  obtain ⟨_, A_R, c, S⟩ := hH
  refine ⟨232, _, method_ptr (by kernel_rfl) Try.underlying189, ?_⟩
  refine Fn_enter Try.func232 rfl Try.results232 Try.ntmps232 (by kernel_rfl) (by kernel_rfl) ?_
  repeat refine cw_seq ?_
  refine cw_region ?_
  refine rw_v (op_pure rfl) ?_
  refine rw_v (op_assert Try.underlying187 rfl rfl) ?_
  iterate 3 refine rw_v (op_pure rfl) ?_
  refine rw_newB (op_alloc Try.zeroValue187 rfl) S ?_
  intro b_P w2_ g2_ S
  refine rw_storeSA (i := 0) S rfl (Try.sizeOf187 _) rfl rfl rfl rfl rfl rfl ?_
  intro w3_ S
  refine rw_v (op_pure rfl) ?_
  first | refine rw_end ?_ | (refine rw_nil ?_; show CW _ _ _ _ _ _) | refine rw_nil ?_
  repeat refine cw_seq ?_
  refine cw_region ?_
  refine rw_v (op_pure rfl) ?_
  first | refine rw_end ?_ | (refine rw_nil ?_; show CW _ _ _ _ _ _) | refine rw_nil ?_
  repeat refine cw_seq ?_
  refine cw_true rfl ?_
  repeat refine cw_seq ?_
  refine cw_tri (C := (fun σ wq => CS F W0 (.blk b_P 187 (jobC x) :: .blk q 106 [x0, x1, x2, x3, .slice A_R l.length c] :: .row 187 2 A_R l.length c (jobsV l) :: L) 2 187 2 l.length (jobsV l) (jobC x) wq σ)) [5, 6] [0, 1, 2, 3, 4, 5, 6] [7, 8] (by kernel_rfl) (by kernel_rfl) (S.gr (Gr.drew _)) ?_
  simp only [pickI, pickL, List.drop_succ_cons, List.drop_zero]
  refine rs_v rfl (op_pure rfl) ?_
  refine rs_v rfl (op_pure rfl) ?_
  refine rs_v rfl (op_pure rfl) ?_
  refine rs_r rfl (fun τ wq hq => op_loadB Try.underlying104 rfl rfl (hq.ok (j := 1) (by decide) rfl) rfl) ?_
  refine rs_r rfl (fun τ wq hq => op_loadAB Try.underlying187 rfl (Try.sizeOf187 _) rfl (hq.ok (j := 0) (by decide) rfl) rfl rfl) ?_
  refine rs_special rfl rfl (fun wq hq => to_buildCS hq Try.underlying104 Try.sizeOf187 Try.zeroValue187 rfl rfl rfl rfl rfl rfl) ?_
  rintro v6 w6 ⟨A6, rfl, _⟩
  refine rs_special rfl rfl (fun wq hq => to_appCS hq rfl (fun h => ⟨_, rfl⟩) Try.underlying104 info_t187 rfl rfl rfl rfl rfl rfl (by omega)) ?_
  rintro v7 w7 ⟨A7, c7, L7, rfl, _, _⟩
  refine rs_nil ?_
  rintro w8 ⟨A8_, c8_, L_st, e_st, h_st, S⟩
  cases e_st
  obtain rfl := Option.some.inj h_st
  refine rw_v (op_pure rfl) ?_
  refine rw_storeS (i := 1) S rfl (Try.sizeOf104 _) rfl rfl rfl rfl rfl rfl ?_
  intro w5_ S
  first | refine rw_end ?_ | (refine rw_nil ?_; show CW _ _ _ _ _ _) | refine rw_nil ?_
  have S := S.drop 1
  rw [jobsV_app] at S
  exact res0n ⟨rfl, QH.mk (A := A7) (c := c7) (n := l.length + 1) (by simp) (by omega) S⟩
theorem qpop_E {l : List Job} {w : World} (hH : QH F W0 L q x0 x1 x2 x3 l w) (h0 : 0 < l.length) :
    Inv_ Try.prog 189 (.pointer (some ⟨q, 4, none⟩)) "Pop" [] w (fun v w' => v = .iface 187 (.agg #[.int .i64 (jobAt l (l.length - 1)).1, .int .i64 (jobAt l (l.length - 1)).2]) ∧ QH F W0 L q x0 x1 x2 x3 (l.take (l.length - 1)) w') := by
  obtain ⟨hl, A_R, c, S⟩ := hH
  have sa_R : SomeA A_R := (S.row (i := 1) rfl).someA (by omega)
  have hcap := (S.row (i := 1) rfl).cap
  have hlast := jobsV_at (l := l) (i := l.length - 1) (by omega)
  have em : ((l.length : Nat) : Int) - 1 = ((l.length - 1 : Nat) : Int) := by omega
  have hlast' : ((jobsV l).drop (((l.length - 1 : Nat) : Int).toNat * 2)).take 2 = jobC (jobAt l (l.length - 1)) := by rw [Int.toNat_natCast]; exact hlast
  refine ⟨231, _, method_ptr (by kernel_rfl) Try.underlying189, ?_⟩
  refine Fn_enter Try.func231 rfl Try.results231 Try.ntmps231 (by kernel_rfl) (by kernel_rfl) ?_
  repeat refine cw_seq ?_
  refine cw_region ?_
  refine rw_v (op_pure rfl) ?_
  first | refine rw_end ?_ | (refine rw_nil ?_; show CW _ _ _ _ _ _) | refine rw_nil ?_
  repeat refine cw_seq ?_
  refine cw_tri (C := (fun σ wq => Gr w wq ∧ SpA w wq 187 [.int .i64 0, .int .i64 0] σ)) [10] [0, 1, 2, 3, 4, 5, 6, 7, 8, 9, 10] [11] (by kernel_rfl) (by kernel_rfl) ⟨Gr.drew _, trivial⟩ ?_
  simp only [pickI, pickL, List.drop_succ_cons, List.drop_zero]
  refine rs_v rfl (op_pure rfl) ?_
  refine rs_v rfl (op_pure rfl) ?_
  refine rs_r rfl (fun τ wq hq => op_loadB Try.underlying104 rfl rfl ((S.gr hq.1).blk (i := 0) rfl) rfl) ?_
  refine rs_v rfl (op_pure rfl) ?_
  refine rs_v rfl (op_pure rfl) ?_
  refine rs_r rfl (fun τ wq hq => op_loadB Try.underlying104 rfl rfl ((S.gr hq.1).blk (i := 0) rfl) rfl) ?_
  refine rs_v rfl (op_len Try.underlying104 rfl) ?_
  refine rs_v rfl (op_rng rfl (by omega)) ?_
  rw [em]
  refine rs_v rfl (op_idx Try.underlying104 Try.sizeOf187 rfl rfl sa_R (by omega) (by omega)) ?_
  refine rs_r rfl (fun τ wq hq => op_ldRA Try.underlying187 rfl (Try.sizeOf187 _) rfl ((S.gr hq.1).rd (i := 1) rfl) hlast' rfl rfl) ?_
  refine rs_special rfl rfl (fun wq hq => to_alloc1 Try.zeroValue187 rfl hq.1 (fun v w' g h => ⟨g, h⟩)) ?_
  rintro v10 w10 ⟨_, hsp10⟩
  refine rs_nil ?_
  rintro wz ⟨gz, hsp⟩
  obtain ⟨b_P, he1, hB1, hs1⟩ := hsp
  cases he1
  have S := S.push gz (h := .blk b_P 187 _) hB1 (fun g h => h ▸ hs1)
  refine rw_storeSA (i := 0) S rfl (Try.sizeOf187 _) rfl rfl rfl rfl rfl rfl ?_
  intro wy S
  first | refine rw_end ?_ | (refine rw_nil ?_; show CW _ _ _ _ _ _) | refine rw_nil ?_
  repeat refine cw_seq ?_
  refine cw_draw (C := fun wq => Gr wy wq) [0, 1, 2, 3, 4, 5, 6, 7, 8, 9] [10, 11] (by kernel_rfl) (by kernel_rfl) (Gr.drew _) ?_
  simp only [pickL, List.drop_succ_cons, List.drop_zero]
  iterate 3 refine rq_v (op_pure rfl) ?_
  refine rq_r (fun wq hq => op_loadB Try.underlying104 rfl rfl ((S.gr hq).blk (i := 1) rfl) rfl) ?_
  iterate 2 refine rq_v (op_pure rfl) ?_
  refine rq_r (fun wq hq => op_loadB Try.underlying104 rfl rfl ((S.gr hq).blk (i := 1) rfl) rfl) ?_
  refine rq_v (op_len Try.underlying104 rfl) ?_
  refine rq_v (op_rng rfl (by omega)) ?_
  rw [em]
  refine rq_v (op_slice_h Try.underlying104 Try.sizeOf187 rfl rfl (by omega) (by omega)) ?_
  refine rq_nil ?_
  intro w2_ g2_
  have S := S.gr g2_
  refine rw_v (op_pure rfl) ?_
  refine rw_storeS (i := 1) S rfl (Try.sizeOf104 _) rfl rfl rfl rfl rfl rfl ?_
  intro w3_ S
  first | refine rw_end ?_ | (refine rw_nil ?_; show CW _ _ _ _ _ _) | refine rw_nil ?_
  repeat refine cw_seq ?_
  refine cw_region ?_
  refine rw_r (op_loadAB Try.underlying187 rfl (Try.sizeOf187 _) rfl (S.blk (i := 0) rfl) rfl rfl) ?_
  refine rw_v (op_iface Try.underlying187 rfl rfl) ?_
  refine rw_v (op_pure rfl) ?_
  first | refine rw_end ?_ | (refine rw_nil ?_; show CW _ _ _ _ _ _) | refine rw_nil ?_
  repeat refine cw_seq ?_
  refine cw_ret ?_
  repeat first | refine ret_then ?_ | refine ret_inb ?_
  have hR := (S.row (i := 2) rfl).take (m := l.length - 1) (by omega)
  rw [jobsV_take] at hR
  have S := (S.set (i := 2) (h' := .row 187 2 A_R (l.length - 1) c (jobsV (l.take (l.length - 1)))) rfl rfl (Fr.refl No _) (fun _ h => h.elim) hR (fun g h => .inl h)).drop 1
  refine res1 rfl ⟨rfl, QH.mk (A := A_R) (c := c) (n := l.length - 1) (by rw [List.length_take]; omega) (by omega) S⟩
theorem qops : HeapOps Try.prog 189 (.pointer (some ⟨q, 4, none⟩)) 187 (QH F W0 L q x0 x1 x2 x3) :=
  ⟨fun l w h => qlen_E h, fun l w i j h hi hj => qless_E h hi hj, fun l w i j h hi hj => qswap_E h hi hj, fun l w x h hl => qpush_E x h hl, fun l w h h0 => qpop_E h h0, fun l w h => h.1⟩
end
end Go.Proofs.Ytbcgbcipigcbhaa.shore
