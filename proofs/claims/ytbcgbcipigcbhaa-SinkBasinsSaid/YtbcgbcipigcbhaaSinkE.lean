/- sink.Basins and the document's: contracts; the chapter's example. -/
import Derived.Test.YtbcgbcipigcbhaaSinkD
namespace Go.Proofs.Ytbcgbcipigcbhaa
open Go.RowKit
set_option linter.unusedVariables false
set_option linter.unusedSimpArgs false
set_option maxRecDepth 100000

section
variable {W : World} {A B : Option Addr} {p gw gh cap c : Nat} {cc : Nat → Int} {bs : Nat → Nat} {Rs : Nat → Option Nat} {V : List Int}
theorem sbasNil_E : Fn Try.prog 28 [.pointer none] W (RetG (.tuple #[.slice none 0 0, .slice none 0 0, .int .i64 1]) W) := by
  have S := St.start W
  refine Fn_enter Try.func28 rfl Try.results28 Try.ntmps28 (by kernel_rfl) (by kernel_rfl) ?_
  repeat refine cw_seq ?_
  refine cw_region ?_
  iterate 3 refine rw_v (op_pure rfl) ?_
  first | refine rw_end ?_ | (refine rw_nil ?_; show CW _ _ _ _ _ _) | refine rw_nil ?_
  repeat refine cw_seq ?_
  refine cw_region ?_
  refine rw_v (op_pure rfl) ?_
  refine rw_call rfl (sofNil_E) ?_
  rintro _ w1_ ⟨rfl, g1_⟩
  have S := S.gr g1_
  iterate 3 refine rw_v (op_pure rfl) ?_
  refine rw_newB (op_alloc Try.zeroValue136 rfl) S ?_
  intro b_l w3_ g3_ S
  refine rw_storeSA (i := 0) S rfl (Try.sizeOf136 _) rfl rfl rfl rfl rfl rfl ?_
  intro w4_ S
  refine rw_v (op_pure rfl) ?_
  first | refine rw_end ?_ | (refine rw_nil ?_; show CW _ _ _ _ _ _) | refine rw_nil ?_
  repeat refine cw_seq ?_
  refine cw_region ?_
  refine rw_v (op_pure rfl) ?_
  refine rw_v (op_b (b := true) rfl (bne_iff_ne.2 (by omega))) ?_
  first | refine rw_end ?_ | (refine rw_nil ?_; show CW _ _ _ _ _ _) | refine rw_nil ?_
  repeat refine cw_seq ?_
  refine cw_true rfl ?_
  repeat refine cw_seq ?_
  refine cw_region ?_
  iterate 4 refine rw_v (op_pure rfl) ?_
  first | refine rw_end ?_ | (refine rw_nil ?_; show CW _ _ _ _ _ _) | refine rw_nil ?_
  repeat refine cw_seq ?_
  refine cw_ret ?_
  repeat first | refine ret_then ?_ | refine ret_inb ?_
  exact res3 rfl rfl rfl ⟨rfl, S.out⟩
set_option maxHeartbeats 4000000 in
theorem sbas_E (hG : GridAt W p gw gh cc A cap bs Rs) : Fn Try.prog 28 [.pointer (some ⟨p, 0, none⟩)] W
    (RetBas gw (gw * gh) (sinkN (flowN gw (gridL gw gh cc)) (gw * gh)) (fun a b => .tuple #[a, b, .int .i64 0]) W) := by
  have hw := hG.sw
  have hh := hG.sh
  have hV := gridL_len gw gh cc
  have hgm : gw * gh ≤ 1024 * 1024 := Nat.mul_le_mul hw.2 hh.2
  have hF := flow_fall hw.1 hV
  have hof := fun w (g : Gr W w) => sof_E (hG.gr g)
  generalize gridL gw gh cc = V at *
  have hrise := fun (A : Option Addr) (c : Nat) (B : Option Addr) (c2 : Nat) (w : World) (hA : Rd w A (ints V)) => rising_E (W := w) (A := A) (B := B) (gw := gw) (c := c) (n2 := gw * gh) (c2 := c2) (V := V) (by omega) hA
  rw [hV] at hrise
  have S := St.start W
  refine Fn_enter Try.func28 rfl Try.results28 Try.ntmps28 (by kernel_rfl) (by kernel_rfl) ?_
  repeat refine cw_seq ?_
  refine cw_region ?_
  iterate 3 refine rw_v (op_pure rfl) ?_
  first | refine rw_end ?_ | (refine rw_nil ?_; show CW _ _ _ _ _ _) | refine rw_nil ?_
  repeat refine cw_seq ?_
  refine cw_region ?_
  refine rw_v (op_pure rfl) ?_
  refine rw_call rfl (hof W S.out) ?_
  rintro _ w1_ ⟨A_v, c_v, A_to, c_to, rfl, hv, hFv, hto, hFt, hd, g1_⟩
  have S := S.push2 g1_ (h1 := .row 2 1 A_v _ c_v _) (h2 := .row 3 1 A_to _ c_to _) hv hto hFv hFt hd
  iterate 3 refine rw_v (op_pure rfl) ?_
  refine rw_newB (op_alloc Try.zeroValue136 rfl) S ?_
  intro b_l w3_ g3_ S
  refine rw_storeSA (i := 0) S rfl (Try.sizeOf136 _) rfl rfl rfl rfl rfl rfl ?_
  intro w4_ S
  refine rw_v (op_pure rfl) ?_
  first | refine rw_end ?_ | (refine rw_nil ?_; show CW _ _ _ _ _ _) | refine rw_nil ?_
  repeat refine cw_seq ?_
  refine cw_region ?_
  refine rw_v (op_pure rfl) ?_
  refine rw_v (op_b (b := false) rfl (bne_eq_false_iff_eq.2 (by omega))) ?_
  first | refine rw_end ?_ | (refine rw_nil ?_; show CW _ _ _ _ _ _) | refine rw_nil ?_
  repeat refine cw_seq ?_
  refine cw_false rfl ?_
  repeat refine cw_seq ?_
  refine cw_skip ?_
  try show CW _ _ _ _ _ _
  repeat refine cw_seq ?_
  refine cw_region ?_
  refine rw_v (op_fieldAddr Try.underlying136 rfl Try.sizeOf22 rfl rfl) ?_
  refine rw_r (op_loadB Try.underlying22 rfl rfl (S.blk (i := 0) rfl) rfl) ?_
  refine rw_v (op_len Try.underlying22 rfl) ?_
  refine rw_makeS1 Try.underlying122 info_t3 rfl rfl rfl (n := gw * gh) (c := gw * gh) (by omega) (by omega) (by omega) (by omega) S ?_
  intro A_sk w6_ g6_ S sa_sk
  refine rw_v (op_pure rfl) ?_
  first | refine rw_end ?_ | (refine rw_nil ?_; show CW _ _ _ _ _ _) | refine rw_nil ?_
  repeat refine cw_seq ?_
  refine cw_region ?_
  refine rw_r (op_loadAB Try.underlying136 rfl (Try.sizeOf136 _) rfl (S.blk (i := 1) rfl) rfl rfl) ?_
  refine rw_call rfl (hrise A_v c_v A_to c_to w6_ (S.rd (i := 2) rfl)) ?_
  rintro _ w7_ ⟨o, hord, hup, A_od, c_od, rfl, hRo, hFo, g7_⟩
  have S := S.pushRow hRo hFo g7_
  refine rw_v (op_len Try.underlying122 rfl) ?_
  refine rw_v (op_pure rfl) ?_
  first | refine rw_end ?_ | (refine rw_nil ?_; show CW _ _ _ _ _ _) | refine rw_nil ?_
  repeat refine cw_seq ?_
  refine cw_block ?_
  repeat refine cw_seq ?_
  have hz : List.replicate (gw * gh) (Value.int .i64 0) = cellsN (gw * gh) (fun _ => 0) := by
    unfold cellsN
    rw [List.map_const', List.length_range]
    rfl
  rw [hz] at S
  generalize hff : flowN gw V = f at *
  have hget : ∀ i, i < gw * gh → (cellsN (gw * gh) f)[((i : Nat) : Int).toNat * 1]? = some (.int .i64 (f i : Nat)) := fun i hi => by rw [Nat.mul_one, Int.toNat_natCast]; exact cellsN_get hi
  refine cw_loop (fun m e w => ∃ (k : Nat) (s : Nat → Nat), k + m = gw * gh ∧ (∀ x, x < k → s (o x) = sinkN f (gw * gh) (o x)) ∧ SL e [(5, .pointer (some ⟨b_l, 0, none⟩)), (7, .slice A_sk (gw * gh) (gw * gh)), (28, .slice A_od (gw * gh) c_od), (29, .int .i64 (gw * gh : Nat)), (30, .int .i64 k)] ∧
    St No W w [.row 3 1 A_od (gw * gh) c_od (cellsN (gw * gh) o), .row 3 1 A_sk (gw * gh) (gw * gh) (cellsN (gw * gh) s), .blk b_l 136 [.int .i64 gw, .slice A_v (gw * gh) c_v, .slice A_to (gw * gh) c_to], .row 2 1 A_v (gw * gh) c_v (ints V), .row 3 1 A_to (gw * gh) c_to (cellsN (gw * gh) f)]) (gw * gh)
    ⟨0, fun _ => 0, by omega, fun x hx => by omega, ⟨rfl, rfl, rfl, rfl, rfl, trivial⟩, S⟩ ?_
  clear S
  rintro m e w ⟨k, s, hkm, hs, hsl, S⟩
  rw [hsl.fold]
  by_cases hk : k < gw * gh
  · have sa_od : SomeA A_od := (S.row (i := 0) rfl).someA (by omega)
    have sa_sk : SomeA A_sk := (S.row (i := 1) rfl).someA (by omega)
    have sa_to : SomeA A_to := (S.row (i := 4) rfl).someA (by omega)
    have hgo : (cellsN (gw * gh) o)[((k : Nat) : Int).toNat * 1]? = some (.int .i64 (o k : Nat)) := by rw [Nat.mul_one, Int.toNat_natCast]; exact cellsN_get hk
    have hik := hord.lt k hk
    have hold : ∀ x, x < k → o x ≠ o k → o x ≠ o k := fun _ _ h => h
    by_cases hfi : f (o k) = o k
    · have hgi := hget _ hik
      rw [hfi] at hgi
      repeat refine cw_seq ?_
      refine cw_region ?_
      refine rw_v (op_b (b := true) rfl (decide_eq_true (by omega))) ?_
      first | refine rw_end ?_ | (refine rw_nil ?_; show CW _ _ _ _ _ _) | refine rw_nil ?_
      repeat refine cw_seq ?_
      refine cw_true rfl ?_
      repeat refine cw_seq ?_
      refine cw_skip ?_
      try show CW _ _ _ _ _ _
      repeat refine cw_seq ?_
      refine cw_block ?_
      repeat refine cw_seq ?_
      refine cw_region ?_
      refine rw_v (op_idx Try.underlying122 Try.sizeOf3 rfl rfl sa_od (by omega) (by omega)) ?_
      refine rw_r (op_ldR Try.underlying3 rfl rfl (S.rd (i := 0) rfl) hgo) ?_
      refine rw_v (op_pure rfl) ?_
      first | refine rw_end ?_ | (refine rw_nil ?_; show CW _ _ _ _ _ _) | refine rw_nil ?_
      repeat refine cw_seq ?_
      refine cw_region ?_
      iterate 3 refine rw_v (op_pure rfl) ?_
      refine rw_v (op_idx Try.underlying122 Try.sizeOf3 rfl rfl sa_sk (by omega) (by omega)) ?_
      refine rw_storeR (i := 1) S rfl (Try.sizeOf3 _) rfl rfl rfl rfl (by rw [cellsN_len]; omega) rfl ?_
      intro w8_ S
      first | refine rw_end ?_ | (refine rw_nil ?_; show CW _ _ _ _ _ _) | refine rw_nil ?_
      repeat refine cw_seq ?_
      refine cw_region ?_
      refine rw_v (op_fieldAddr Try.underlying136 rfl Try.sizeOf122 rfl rfl) ?_
      refine rw_r (op_loadB Try.underlying122 rfl rfl (S.blk (i := 2) rfl) rfl) ?_
      refine rw_v (op_pure rfl) ?_
      refine rw_v (op_idx Try.underlying122 Try.sizeOf3 rfl rfl sa_to (by omega) (by omega)) ?_
      refine rw_r (op_ldR Try.underlying3 rfl rfl (S.rd (i := 4) rfl) hgi) ?_
      refine rw_v (op_pure rfl) ?_
      refine rw_v (op_b (b := false) rfl (bne_eq_false_iff_eq.2 (by omega))) ?_
      first | refine rw_end ?_ | (refine rw_nil ?_; show CW _ _ _ _ _ _) | refine rw_nil ?_
      repeat refine cw_seq ?_
      refine cw_false rfl ?_
      repeat refine cw_seq ?_
      refine cw_skip ?_
      try show CW _ _ _ _ _ _
      repeat refine cw_seq ?_
      refine cw_region ?_
      refine rw_v (op_rng rfl (by omega)) ?_
      refine rw_v (op_pure rfl) ?_
      first | refine rw_end ?_ | (refine rw_nil ?_; show CW _ _ _ _ _ _) | refine rw_nil ?_
      rw [Nat.mul_one, Int.toNat_natCast, cellsN_set] at S
      refine ⟨m - 1, by omega, k + 1, updF s (o k) (o k), by omega, fun x hx => ?_, ⟨rfl, rfl, rfl, rfl, ie (by omega), trivial⟩, S⟩
      by_cases e1 : o x = o k
      · rw [e1, updF_at, sink_here _ hfi]
      · have : x ≠ k := fun e2 => e1 (by rw [e2])
        rw [updF_ne e1]; exact hs x (by omega)
    · have hgi := hget _ hik
      have hlt := hF.lt _ hik
      have hfall := (hF.fall _ hik).resolve_left hfi
      obtain ⟨x, hx, hox⟩ := hord.all _ hlt
      have hxk : x < k := by
        rcases Nat.lt_or_ge x k with h | h
        · exact h
        · have := hup k x h hx
          rw [hox] at this
          omega
      have hsf := hs x hxk
      rw [hox, hF.sink_next hik] at hsf
      have hgs : (cellsN (gw * gh) (updF s (o k) (o k)))[((f (o k) : Nat) : Int).toNat * 1]? = some (.int .i64 (s (f (o k)) : Nat)) := by rw [Nat.mul_one, Int.toNat_natCast, cellsN_get hlt, updF_ne hfi]
      repeat refine cw_seq ?_
      refine cw_region ?_
      refine rw_v (op_b (b := true) rfl (decide_eq_true (by omega))) ?_
      first | refine rw_end ?_ | (refine rw_nil ?_; show CW _ _ _ _ _ _) | refine rw_nil ?_
      repeat refine cw_seq ?_
      refine cw_true rfl ?_
      repeat refine cw_seq ?_
      refine cw_skip ?_
      try show CW _ _ _ _ _ _
      repeat refine cw_seq ?_
      refine cw_block ?_
      repeat refine cw_seq ?_
      refine cw_region ?_
      refine rw_v (op_idx Try.underlying122 Try.sizeOf3 rfl rfl sa_od (by omega) (by omega)) ?_
      refine rw_r (op_ldR Try.underlying3 rfl rfl (S.rd (i := 0) rfl) hgo) ?_
      refine rw_v (op_pure rfl) ?_
      first | refine rw_end ?_ | (refine rw_nil ?_; show CW _ _ _ _ _ _) | refine rw_nil ?_
      repeat refine cw_seq ?_
      refine cw_region ?_
      iterate 3 refine rw_v (op_pure rfl) ?_
      refine rw_v (op_idx Try.underlying122 Try.sizeOf3 rfl rfl sa_sk (by omega) (by omega)) ?_
      refine rw_storeR (i := 1) S rfl (Try.sizeOf3 _) rfl rfl rfl rfl (by rw [cellsN_len]; omega) rfl ?_
      intro w9_ S
      rw [Nat.mul_one, Int.toNat_natCast, cellsN_set] at S
      first | refine rw_end ?_ | (refine rw_nil ?_; show CW _ _ _ _ _ _) | refine rw_nil ?_
      repeat refine cw_seq ?_
      refine cw_region ?_
      refine rw_v (op_fieldAddr Try.underlying136 rfl Try.sizeOf122 rfl rfl) ?_
      refine rw_r (op_loadB Try.underlying122 rfl rfl (S.blk (i := 2) rfl) rfl) ?_
      refine rw_v (op_pure rfl) ?_
      refine rw_v (op_idx Try.underlying122 Try.sizeOf3 rfl rfl sa_to (by omega) (by omega)) ?_
      refine rw_r (op_ldR Try.underlying3 rfl rfl (S.rd (i := 4) rfl) hgi) ?_
      refine rw_v (op_pure rfl) ?_
      refine rw_v (op_b (b := true) rfl (bne_iff_ne.2 (by omega))) ?_
      first | refine rw_end ?_ | (refine rw_nil ?_; show CW _ _ _ _ _ _) | refine rw_nil ?_
      repeat refine cw_seq ?_
      refine cw_true rfl ?_
      repeat refine cw_seq ?_
      refine cw_region ?_
      iterate 3 refine rw_v (op_pure rfl) ?_
      refine rw_v (op_fieldAddr Try.underlying136 rfl Try.sizeOf122 rfl rfl) ?_
      refine rw_r (op_loadB Try.underlying122 rfl rfl (S.blk (i := 2) rfl) rfl) ?_
      refine rw_v (op_pure rfl) ?_
      refine rw_v (op_idx Try.underlying122 Try.sizeOf3 rfl rfl sa_to (by omega) (by omega)) ?_
      refine rw_r (op_ldR Try.underlying3 rfl rfl (S.rd (i := 4) rfl) hgi) ?_
      refine rw_v (op_idx Try.underlying122 Try.sizeOf3 rfl rfl sa_sk (by omega) (by omega)) ?_
      refine rw_r (op_ldR Try.underlying3 rfl rfl (S.rd (i := 1) rfl) hgs) ?_
      refine rw_v (op_idx Try.underlying122 Try.sizeOf3 rfl rfl sa_sk (by omega) (by omega)) ?_
      refine rw_storeR (i := 1) S rfl (Try.sizeOf3 _) rfl rfl rfl rfl (by rw [cellsN_len]; omega) rfl ?_
      intro w10_ S
      first | refine rw_end ?_ | (refine rw_nil ?_; show CW _ _ _ _ _ _) | refine rw_nil ?_
      repeat refine cw_seq ?_
      refine cw_region ?_
      refine rw_v (op_rng rfl (by omega)) ?_
      refine rw_v (op_pure rfl) ?_
      first | refine rw_end ?_ | (refine rw_nil ?_; show CW _ _ _ _ _ _) | refine rw_nil ?_
      rw [Nat.mul_one, Int.toNat_natCast, cellsN_set] at S
      refine ⟨m - 1, by omega, k + 1, updF (updF s (o k) (o k)) (o k) (s (f (o k))), by omega, fun x hx => ?_, ⟨rfl, rfl, rfl, rfl, ie (by omega), trivial⟩, S⟩
      by_cases e1 : o x = o k
      · rw [e1, updF_at, hsf]
      · have : x ≠ k := fun e2 => e1 (by rw [e2])
        rw [updF_ne e1, updF_ne e1]; exact hs x (by omega)
  · obtain rfl : k = gw * gh := by omega
    have hs2 : ∀ j, j < gw * gh → s j = sinkN f (gw * gh) j := fun j hj => by
      obtain ⟨x, hx, rfl⟩ := hord.all j hj
      exact hs x hx
    rw [cellsN_congr (f' := sinkN f (gw * gh)) hs2] at S
    have hslt : ∀ j, j < gw * gh → sinkN f (gw * gh) j < gw * gh := fun j hj => hF.sink_lt hj
    generalize sinkN f (gw * gh) = s2 at *
    have sa_sk : 0 < gw * gh → SomeA A_sk := fun h => (S.row (i := 1) rfl).someA h
    repeat refine cw_seq ?_
    refine cw_region ?_
    refine rw_v (op_b (b := false) rfl (decide_eq_false (by omega))) ?_
    first | refine rw_end ?_ | (refine rw_nil ?_; show CW _ _ _ _ _ _) | refine rw_nil ?_
    repeat refine cw_seq ?_
    refine cw_false rfl ?_
    repeat refine cw_seq ?_
    refine cw_exit ?_
    repeat first | refine exit_then ?_ | refine exit_inb ?_
    show CW _ _ _ _ _ _
    repeat refine cw_seq ?_
    refine cw_region ?_
    refine rw_v (op_fieldAddr Try.underlying136 rfl Try.sizeOf22 rfl rfl) ?_
    refine rw_r (op_loadB Try.underlying22 rfl rfl (S.blk (i := 2) rfl) rfl) ?_
    refine rw_v (op_len Try.underlying22 rfl) ?_
    refine rw_makeS1 Try.underlying22 info_t2 rfl rfl rfl (n := gw * gh) (c := gw * gh) (by omega) (by omega) (by omega) (by omega) S ?_
    intro A_lb w12_ g12_ S sa_lb
    refine rw_v (op_pure rfl) ?_
    first | refine rw_end ?_ | (refine rw_nil ?_; show CW _ _ _ _ _ _) | refine rw_nil ?_
    repeat refine cw_seq ?_
    refine cw_region ?_
    refine rw_makeMap S ?_
    intro b_mp w14_ g14_ S
    refine rw_v (op_pure rfl) ?_
    first | refine rw_end ?_ | (refine rw_nil ?_; show CW _ _ _ _ _ _) | refine rw_nil ?_
    repeat refine cw_seq ?_
    refine cw_region ?_
    refine rw_v (op_pure rfl) ?_
    first | refine rw_end ?_ | (refine rw_nil ?_; show CW _ _ _ _ _ _) | refine rw_nil ?_
    repeat refine cw_seq ?_
    refine cw_region ?_
    refine rw_v (op_pure rfl) ?_
    refine rw_v (op_len Try.underlying122 rfl) ?_
    refine rw_v (op_pure rfl) ?_
    first | refine rw_end ?_ | (refine rw_nil ?_; show CW _ _ _ _ _ _) | refine rw_nil ?_
    repeat refine cw_seq ?_
    refine cw_block ?_
    repeat refine cw_seq ?_
    rw [hz] at S
    have S := S.pushNil 44 2
    have hm0 : (fun _ => none : Int → Option Int) = numM (firsts s2 0) := by
      funext x
      unfold numM
      rw [if_neg (fun h => by cases h.2)]
    rw [hm0] at S
    have hl0 : cellsN (gw * gh) (fun _ => 0) = cellsN (gw * gh) (fun j => if j < 0 then labS s2 (gw * gh) j else 0) := by simp
    rw [hl0] at S
    refine cw_loop (fun m e w => ∃ (k : Nat) (A_cl : Option Addr) (c_cl : Nat), k + m = gw * gh ∧ SL e [(5, .pointer (some ⟨b_l, 0, none⟩)), (7, .slice A_sk (gw * gh) (gw * gh)), (10, .slice A_lb (gw * gh) (gw * gh)), (11, .map (some b_mp)), (12, .slice A_cl (firsts s2 k).length c_cl), (62, .slice A_sk (gw * gh) (gw * gh)), (63, .int .i64 (gw * gh : Nat)), (64, .int .i64 k)] ∧
      St No W w [.row 44 2 A_cl (firsts s2 k).length c_cl (cellsZ ((firsts s2 k).map (cz gw))), .map b_mp (numM (firsts s2 k)), .row 2 1 A_lb (gw * gh) (gw * gh) (cellsN (gw * gh) fun j => if j < k then labS s2 (gw * gh) j else 0), .row 3 1 A_od (gw * gh) c_od (cellsN (gw * gh) o), .row 3 1 A_sk (gw * gh) (gw * gh) (cellsN (gw * gh) s2), .blk b_l 136 [.int .i64 gw, .slice A_v (gw * gh) c_v, .slice A_to (gw * gh) c_to], .row 2 1 A_v (gw * gh) c_v (ints V), .row 3 1 A_to (gw * gh) c_to (cellsN (gw * gh) f)]) (gw * gh)
      ⟨0, none, 0, by omega, ⟨rfl, rfl, rfl, rfl, rfl, rfl, rfl, rfl, trivial⟩, S⟩ ?_
    clear S hz hm0 hl0
    rintro m2 e2 w2 ⟨k, A_cl, c_cl, hkm2, hsl2, S⟩
    rw [hsl2.fold]
    by_cases hkn : k < gw * gh
    · have sa_sk := sa_sk (by omega)
      have sa_lb : SomeA A_lb := (S.row (i := 2) rfl).someA (by omega)
      have hgk : (cellsN (gw * gh) s2)[((k : Nat) : Int).toNat * 1]? = some (.int .i64 (s2 k : Nat)) := by rw [Nat.mul_one, Int.toNat_natCast]; exact cellsN_get hkn
      have hsk := hslt k hkn
      have hfl := firsts_len (s := s2) (n := k)
      have hset : ∀ v, v = labS s2 (gw * gh) k → (cellsN (gw * gh) fun j => if j < k then labS s2 (gw * gh) j else 0).set (((k : Nat) : Int).toNat * 1) (.int .i64 (v : Nat)) = cellsN (gw * gh) fun j => if j < k + 1 then labS s2 (gw * gh) j else 0 := fun v hv => by
        rw [Nat.mul_one, Int.toNat_natCast, cellsN_set]
        refine cellsN_congr fun j hj => ?_
        unfold updF
        (try dsimp only)
        by_cases e1 : j = k
        · rw [if_pos e1, if_pos (by omega), e1, hv]
        · by_cases e2 : j < k
          · rw [if_neg e1, if_pos e2, if_pos (by omega)]
          · rw [if_neg e1, if_neg e2, if_neg (by omega)]
      by_cases hin : s2 k ∈ firsts s2 k
      · obtain ⟨hlab, hfs⟩ := labS_old hkn hin
        have hlk : (numM (firsts s2 k) (s2 k : Nat)).getD 0 = (((firsts s2 k).idxOf (s2 k) + 1 : Nat) : Int) := by rw [numM_in hin]; rfl
        repeat refine cw_seq ?_
        refine cw_region ?_
        refine rw_v (op_b (b := true) rfl (decide_eq_true (by omega))) ?_
        first | refine rw_end ?_ | (refine rw_nil ?_; show CW _ _ _ _ _ _) | refine rw_nil ?_
        repeat refine cw_seq ?_
        refine cw_true rfl ?_
        repeat refine cw_seq ?_
        refine cw_skip ?_
        try show CW _ _ _ _ _ _
        repeat refine cw_seq ?_
        refine cw_block ?_
        repeat refine cw_seq ?_
        refine cw_region ?_
        refine rw_v (op_pure rfl) ?_
        refine rw_v (op_idx Try.underlying122 Try.sizeOf3 rfl rfl sa_sk (by omega) (by omega)) ?_
        refine rw_r (op_ldR Try.underlying3 rfl rfl (S.rd (i := 4) rfl) hgk) ?_
        iterate 2 refine rw_v (op_pure rfl) ?_
        first | refine rw_end ?_ | (refine rw_nil ?_; show CW _ _ _ _ _ _) | refine rw_nil ?_
        repeat refine cw_seq ?_
        refine cw_region ?_
        iterate 2 refine rw_v (op_pure rfl) ?_
        refine rw_r (op_look Try.underlying140 Try.underlying3 (Try.zeroValue2 _) rfl rfl (S.map (i := 1) rfl)) ?_
        rw [hlk]
        refine rw_v (op_b (b := false) rfl (beq_eq_false_iff_ne.2 (by omega))) ?_
        first | refine rw_end ?_ | (refine rw_nil ?_; show CW _ _ _ _ _ _) | refine rw_nil ?_
        repeat refine cw_seq ?_
        refine cw_false rfl ?_
        repeat refine cw_seq ?_
        refine cw_skip ?_
        try show CW _ _ _ _ _ _
        repeat refine cw_seq ?_
        refine cw_region ?_
        iterate 4 refine rw_v (op_pure rfl) ?_
        refine rw_r (op_look Try.underlying140 Try.underlying3 (Try.zeroValue2 _) rfl rfl (S.map (i := 1) rfl)) ?_
        rw [hlk]
        refine rw_v (op_idx Try.underlying22 Try.sizeOf2 rfl rfl sa_lb (by omega) (by omega)) ?_
        refine rw_storeR (i := 2) S rfl (Try.sizeOf2 _) rfl rfl rfl rfl (by rw [cellsN_len]; omega) rfl ?_
        intro w15_ S
        first | refine rw_end ?_ | (refine rw_nil ?_; show CW _ _ _ _ _ _) | refine rw_nil ?_
        repeat refine cw_seq ?_
        refine cw_region ?_
        refine rw_v (op_rng rfl (by omega)) ?_
        refine rw_v (op_pure rfl) ?_
        first | refine rw_end ?_ | (refine rw_nil ?_; show CW _ _ _ _ _ _) | refine rw_nil ?_
        rw [hset _ hlab.symm, ← hfs] at S
        exact ⟨m2 - 1, by omega, k + 1, A_cl, c_cl, by omega, ⟨rfl, rfl, rfl, rfl, by rw [hfs]; rfl, rfl, rfl, ie (by omega), trivial⟩, S⟩
      · obtain ⟨hlab, hfs⟩ := labS_new hkn hin
        have hlk : (numM (firsts s2 k) (s2 k : Nat)).getD 0 = 0 := by rw [numM_out hin]; rfl
        have hlk2 : (numM (firsts s2 (k + 1)) (s2 k : Nat)).getD 0 = (((firsts s2 k).length + 1 : Nat) : Int) := by
          rw [numM_in (firsts_mem (Nat.lt_succ_self k)), hfs, List.idxOf_append, if_neg hin]; simp
        repeat refine cw_seq ?_
        refine cw_region ?_
        refine rw_v (op_b (b := true) rfl (decide_eq_true (by omega))) ?_
        first | refine rw_end ?_ | (refine rw_nil ?_; show CW _ _ _ _ _ _) | refine rw_nil ?_
        repeat refine cw_seq ?_
        refine cw_true rfl ?_
        repeat refine cw_seq ?_
        refine cw_skip ?_
        try show CW _ _ _ _ _ _
        repeat refine cw_seq ?_
        refine cw_block ?_
        repeat refine cw_seq ?_
        refine cw_region ?_
        refine rw_v (op_pure rfl) ?_
        refine rw_v (op_idx Try.underlying122 Try.sizeOf3 rfl rfl sa_sk (by omega) (by omega)) ?_
        refine rw_r (op_ldR Try.underlying3 rfl rfl (S.rd (i := 4) rfl) hgk) ?_
        iterate 2 refine rw_v (op_pure rfl) ?_
        first | refine rw_end ?_ | (refine rw_nil ?_; show CW _ _ _ _ _ _) | refine rw_nil ?_
        repeat refine cw_seq ?_
        refine cw_region ?_
        iterate 2 refine rw_v (op_pure rfl) ?_
        refine rw_r (op_look Try.underlying140 Try.underlying3 (Try.zeroValue2 _) rfl rfl (S.map (i := 1) rfl)) ?_
        rw [hlk]
        refine rw_v (op_b (b := true) rfl (beq_iff_eq.2 (by omega))) ?_
        first | refine rw_end ?_ | (refine rw_nil ?_; show CW _ _ _ _ _ _) | refine rw_nil ?_
        repeat refine cw_seq ?_
        refine cw_true rfl ?_
        repeat refine cw_seq ?_
        refine cw_region ?_
        refine rw_v (op_pure rfl) ?_
        refine rw_r (op_loadAB Try.underlying136 rfl (Try.sizeOf136 _) rfl (S.blk (i := 5) rfl) rfl rfl) ?_
        refine rw_v (op_pure rfl) ?_
        refine rw_call rfl (satt_E (W := w2) (s2 k) (gw * gh) hw.1 (by omega)) ?_
        rintro _ w16_ ⟨rfl, g16_⟩
        have S := S.gr g16_
        refine rw_buildS Try.underlying50 Try.sizeOf44 Try.zeroValue44 rfl rfl rfl rfl rfl rfl S ?_
        intro A_lit w18_ g18_ S sa_lit
        refine rw_appS (i := 1) S rfl (fun h => rfl) Try.underlying50 info_t44 rfl rfl rfl rfl (by simp) (by omega) (S.rd (i := 0) rfl) rfl (by omega) ?_
        intro A_o2 c_o2 w19_ S sa_cl
        refine rw_v (op_pure rfl) ?_
        first | refine rw_end ?_ | (refine rw_nil ?_; show CW _ _ _ _ _ _) | refine rw_nil ?_
        repeat refine cw_seq ?_
        refine cw_region ?_
        iterate 3 refine rw_v (op_pure rfl) ?_
        refine rw_v (op_len Try.underlying50 rfl) ?_
        refine rw_mapUpd (i := 2) S rfl Try.underlying140 Try.underlying3 rfl rfl rfl rfl ?_
        intro w20_ S
        rw [numM_push hin, cellsZ_push, ← hfs] at S
        first | refine rw_end ?_ | (refine rw_nil ?_; show CW _ _ _ _ _ _) | refine rw_nil ?_
        repeat refine cw_seq ?_
        refine cw_region ?_
        iterate 4 refine rw_v (op_pure rfl) ?_
        refine rw_r (op_look Try.underlying140 Try.underlying3 (Try.zeroValue2 _) rfl rfl (S.map (i := 2) rfl)) ?_
        rw [hlk2]
        refine rw_v (op_idx Try.underlying22 Try.sizeOf2 rfl rfl sa_lb (by omega) (by omega)) ?_
        refine rw_storeR (i := 3) S rfl (Try.sizeOf2 _) rfl rfl rfl rfl (by rw [cellsN_len]; omega) rfl ?_
        intro w21_ S
        first | refine rw_end ?_ | (refine rw_nil ?_; show CW _ _ _ _ _ _) | refine rw_nil ?_
        repeat refine cw_seq ?_
        refine cw_region ?_
        refine rw_v (op_rng rfl (by omega)) ?_
        refine rw_v (op_pure rfl) ?_
        first | refine rw_end ?_ | (refine rw_nil ?_; show CW _ _ _ _ _ _) | refine rw_nil ?_
        have S := S.drop 1
        rw [hset _ hlab.symm] at S
        have hl2 : (firsts s2 (k + 1)).length = (firsts s2 k).length + 1 := by rw [hfs]; simp
        exact ⟨m2 - 1, by omega, k + 1, A_o2, c_o2, by omega, ⟨rfl, rfl, rfl, rfl, by rw [hl2]; rfl, rfl, rfl, ie (by omega), trivial⟩, by rw [hl2]; exact S⟩
    · obtain rfl : k = gw * gh := by omega
      rw [cellsN_congr (f' := labS s2 (gw * gh)) (fun j hj => by (try dsimp only); rw [if_pos hj])] at S
      repeat refine cw_seq ?_
      refine cw_region ?_
      refine rw_v (op_b (b := false) rfl (decide_eq_false (by omega))) ?_
      first | refine rw_end ?_ | (refine rw_nil ?_; show CW _ _ _ _ _ _) | refine rw_nil ?_
      repeat refine cw_seq ?_
      refine cw_false rfl ?_
      repeat refine cw_seq ?_
      refine cw_exit ?_
      repeat first | refine exit_then ?_ | refine exit_inb ?_
      show CW _ _ _ _ _ _
      repeat refine cw_seq ?_
      refine cw_region ?_
      iterate 5 refine rw_v (op_pure rfl) ?_
      first | refine rw_end ?_ | (refine rw_nil ?_; show CW _ _ _ _ _ _) | refine rw_nil ?_
      repeat refine cw_seq ?_
      refine cw_ret ?_
      repeat first | refine ret_then ?_ | refine ret_inb ?_
      exact res3 rfl rfl rfl ⟨_, _, _, _, rfl, S.row (i := 2) rfl, SepL.fresh S (i := 2) rfl, S.row (i := 0) rfl, SepL.fresh S (i := 0) rfl, fun g h1 h2 => S.sep.2.1 g h2 _ (List.mem_cons_of_mem _ List.mem_cons_self) h1, S.out⟩
end
end Go.Proofs.Ytbcgbcipigcbhaa
