/- route.of: a grid's values, and the places of cells in it. -/
import Derived.Test.YtmdkjohllinphaaRouteR
import Derived.Test.YtmdkjohllinphaaAppR
namespace Go.Proofs.Ytmdkjohllinphaa
open Go.RowKit
set_option linter.unusedVariables false
set_option linter.unusedSimpArgs false
set_option maxRecDepth 100000

def CN (F : Nat → Prop) (W : World) (L : List HA) (T : Value → HA → Prop) (wq : World) : List Value → Prop
  | [] => St F W wq L
  | v :: _ => ∃ h, T v h ∧ St F W wq (h :: L)
theorem CN.st {F : Nat → Prop} {W : World} {L : List HA} {T : Value → HA → Prop} {wq : World} : ∀ {τ : List Value}, CN F W L T wq τ → St F W wq L
  | [], h => h
  | v :: _, ⟨_, _, S⟩ => S.drop 1
theorem CN.gr {F : Nat → Prop} {W : World} {L : List HA} {T : Value → HA → Prop} {wq w' : World} (g : Gr wq w') : ∀ {τ : List Value}, CN F W L T wq τ → CN F W L T w' τ
  | [], h => St.gr h g
  | v :: _, ⟨x, t, S⟩ => ⟨x, t, S.gr g⟩
section
variable {P : Program} {w : World} {e : Nat → Value}
/-- results: a struct in memory, and two more -/
theorem resATT {a u u' : Tmp} {t tb : TypeId} {b o n : Nat} {dd : TypeDesc} {cs l : List Value} {v2 v3 : Value} {R : Value → World → Prop} (hu : P.underlying t = some dd) (hd : aggD dd = true) (hz : (sizeOf t).run P w = .ok n w) (hx : e a = .pointer (some ⟨b, o, none⟩)) (hB : Blk w b tb l)
    (hl : fzl ((l.drop o).take n) = some cs) (hn : cs.length = n) (h2 : fz (e u) = some v2) (h3 : fz (e u') = some v3) (hR : R (.tuple #[.agg cs.toArray, v2, v3]) w) : QF P #[.cell a t, .tmp u, .tmp u'] R .ret e w :=
  ⟨_, fun fn tmps hr hg => by
    have h1 := run_loadVar_E (o := default) (op_loadAB (P := P) (d := none) (ty := 0) (ps := "") (af := #[]) (e := fun _ => .pointer (some ⟨b, o, none⟩)) (x := .tmp 0) hu hd hz rfl hB hl hn)
    have g1 := hg a
    have g2 := hg u
    have g3 := hg u'
    rw [hx, Array.getD_eq_getD_getElem?] at g1
    rw [fz_eq h2, Array.getD_eq_getD_getElem?] at g2
    rw [fz_eq h3, Array.getD_eq_getD_getElem?] at g3
    simp [results, hr, g1, g2, g3, asAddr, h1], hR⟩
end
def idxZ (gw : Nat) (z : Int × Int) : Nat := z.2.toNat * gw + z.1.toNat
def RetOf (gw gh : Nat) (V : List Int) (ps : List Nat) (W : World) : Value → World → Prop := fun v w' =>
  ∃ A' c' A2 c2, v = .tuple #[.agg #[.int .i64 gw, .slice A' (gw * gh) c'], .slice A2 ps.length c2, .int .i64 0] ∧ Row w' 2 1 A' (gw * gh) c' (ints V) ∧ FreshA W A' ∧ Row w' 3 1 A2 ps.length c2 (natsV ps) ∧ FreshA W A2 ∧ (∀ g, ownA A' g → ¬ ownA A2 g) ∧ Gr W w'
section
variable {W : World} {A B : Option Addr} {p gw gh cap cB : Nat} {cc : Nat → Int} {bs : Nat → Nat} {Rs : Nat → Option Nat}
theorem rofNil_E (n : Nat) : Fn Try.prog 67 [.pointer none, .slice B n cB] W (RetG (.tuple #[.agg #[.int .i64 0, .slice none 0 0], .slice none 0 0, .int .i64 1]) W) := by
  have S := St.start W
  refine Fn_enter Try.func67 rfl Try.results67 Try.ntmps67 (by kernel_rfl) (by kernel_rfl) ?_
  repeat refine cw_seq ?_
  refine cw_region ?_
  refine rw_newB (op_alloc Try.zeroValue120 rfl) S ?_
  intro b_res w2_ g2_ S
  refine rw_v (op_pure rfl) ?_
  refine rw_v (op_pure rfl) ?_
  first | refine rw_end ?_ | (refine rw_nil ?_; show CW _ _ _ _ _ _) | refine rw_nil ?_
  repeat refine cw_seq ?_
  refine cw_region ?_
  refine rw_v (op_pure rfl) ?_
  refine rw_v (op_nilp Try.underlying28 rfl rfl) ?_
  first | refine rw_end ?_ | (refine rw_nil ?_; show CW _ _ _ _ _ _) | refine rw_nil ?_
  repeat refine cw_seq ?_
  refine cw_true rfl ?_
  repeat refine cw_seq ?_
  refine cw_region ?_
  refine rw_v (op_build (pl := [(0, 1), (1, 1)]) Try.underlying120 Try.zeroValue120 (fun w => by kernel_rfl) rfl rfl) ?_
  refine rw_storeSA (i := 0) S rfl (Try.sizeOf120 _) rfl rfl rfl rfl rfl rfl ?_
  intro w3_ S
  refine rw_v (op_pure rfl) ?_
  refine rw_v (op_pure rfl) ?_
  first | refine rw_end ?_ | (refine rw_nil ?_; show CW _ _ _ _ _ _) | refine rw_nil ?_
  repeat refine cw_seq ?_
  refine cw_ret ?_
  repeat first | refine ret_then ?_ | refine ret_inb ?_
  exact resATT Try.underlying120 rfl (Try.sizeOf120 _) rfl (S.blk (i := 0) rfl) rfl rfl rfl rfl ⟨rfl, S.out⟩
set_option maxHeartbeats 2000000 in
theorem rof_E (zs : List (Int × Int)) (hz : zs.length ≤ 16) (hG : GridAt W p gw gh cc A cap bs Rs) (hC : Rd W B (cellsZ zs)) :
    Fn Try.prog 67 [.pointer (some ⟨p, 0, none⟩), .slice B zs.length cB] W (fun v w' => (zs.all (inG gw gh) = true → RetOf gw gh (gridL gw gh cc) (zs.map (idxZ gw)) W v w') ∧
      (zs.all (inG gw gh) = false → RetG (.tuple #[.agg #[.int .i64 0, .slice none 0 0], .slice none 0 0, .int .i64 4]) W v w')) := by
  have hw := hG.sw
  have hh := hG.sh
  have hn : gw * gh ≤ 1024 * 1024 := Nat.mul_le_mul hw.2 hh.2
  have e1 : ((gw : Int) - 1) = ((gw - 1 : Nat) : Int) := by omega
  have e2 : ((gh : Int) - 1) = ((gh - 1 : Nat) : Int) := by omega
  have hval : ∀ w, Gr W w → Fn Try.prog 43 [.pointer (some ⟨p, 0, none⟩), .agg #[.int .i64 0, .int .i64 0, .int .i64 (gw - 1), .int .i64 (gh - 1)]] w (RetNew (fun v => .tuple #[v, .int .i64 0]) 2 1 (gw * gh) (ints (gridL gw gh cc)) w) := fun w g => by
    have := gvalues_E (W := w) 0 0 (gw - 1) (gh - 1) (by omega) (by omega) (hG.gr g)
    rw [← e1, ← e2, show gw - 1 + 1 - 0 = gw by omega, show gh - 1 + 1 - 0 = gh by omega, rectV_all, Nat.mul_comm gh gw] at this
    exact this
  have S := St.start W
  refine Fn_enter Try.func67 rfl Try.results67 Try.ntmps67 (by kernel_rfl) (by kernel_rfl) ?_
  repeat refine cw_seq ?_
  refine cw_region ?_
  refine rw_newB (op_alloc Try.zeroValue120 rfl) S ?_
  intro b_res w2_ g2_ S
  refine rw_v (op_pure rfl) ?_
  refine rw_v (op_pure rfl) ?_
  first | refine rw_end ?_ | (refine rw_nil ?_; show CW _ _ _ _ _ _) | refine rw_nil ?_
  repeat refine cw_seq ?_
  refine cw_region ?_
  refine rw_v (op_pure rfl) ?_
  refine rw_v (op_nilp Try.underlying28 rfl rfl) ?_
  first | refine rw_end ?_ | (refine rw_nil ?_; show CW _ _ _ _ _ _) | refine rw_nil ?_
  repeat refine cw_seq ?_
  refine cw_false rfl ?_
  repeat refine cw_seq ?_
  refine cw_skip ?_
  try show CW _ _ _ _ _ _
  repeat refine cw_seq ?_
  refine cw_region ?_
  refine rw_v (op_pure rfl) ?_
  refine rw_call rfl (gsize_E p gw gh _ w2_ (hG.top.gr S.out)) ?_
  rintro _ w3_ ⟨rfl, g3_⟩
  have S := S.gr g3_
  refine rw_v (op_pure rfl) ?_
  refine rw_v (op_pure rfl) ?_
  refine rw_v (op_pure rfl) ?_
  refine rw_v (op_pure rfl) ?_
  refine rw_v (op_pure rfl) ?_
  first | refine rw_end ?_ | (refine rw_nil ?_; show CW _ _ _ _ _ _) | refine rw_nil ?_
  repeat refine cw_seq ?_
  refine cw_region ?_
  refine rw_v (op_pure rfl) ?_
  refine rw_v (op_build (pl := [(0, 1), (1, 1)]) Try.underlying120 Try.zeroValue120 (fun w => by kernel_rfl) rfl rfl) ?_
  refine rw_newB (op_alloc Try.zeroValue120 rfl) S ?_
  intro b_l w5_ g5_ S
  refine rw_storeSA (i := 0) S rfl (Try.sizeOf120 _) rfl rfl rfl rfl rfl rfl ?_
  intro w6_ S
  first | refine rw_end ?_ | (refine rw_nil ?_; show CW _ _ _ _ _ _) | refine rw_nil ?_
  repeat refine cw_seq ?_
  refine cw_region ?_
  refine rw_v (op_pure rfl) ?_
  first | refine rw_end ?_ | (refine rw_nil ?_; show CW _ _ _ _ _ _) | refine rw_nil ?_
  repeat refine cw_seq ?_
  refine cw_region ?_
  refine rw_v (op_pure rfl) ?_
  refine rw_v (op_len Try.underlying41 rfl) ?_
  refine rw_v (op_pure rfl) ?_
  first | refine rw_end ?_ | (refine rw_nil ?_; show CW _ _ _ _ _ _) | refine rw_nil ?_
  repeat refine cw_seq ?_
  refine cw_block ?_
  repeat refine cw_seq ?_
  have S := S.pushNil 3 1
  refine cw_loop (fun m e w => ∃ (k : Nat) (A_ps : Option Addr) (c_ps : Nat), k + m = zs.length ∧ SL e [(0, .pointer (some ⟨p, 0, none⟩)), (4, .pointer (some ⟨b_res, 0, none⟩)), (9, .pointer (some ⟨b_l, 0, none⟩)), (10, .slice A_ps k c_ps), (25, .slice B zs.length cB), (26, .int .i64 zs.length), (27, .int .i64 k)] ∧
    (zs.take k).all (inG gw gh) = true ∧ St No W w [.row 3 1 A_ps k c_ps (natsV ((zs.take k).map (idxZ gw))), .blk b_l 120 [.int .i64 gw, .slice none 0 0], .blk b_res 120 [.int .i64 0, .slice none 0 0]]) zs.length
    ⟨0, _, _, by omega, ⟨rfl, rfl, rfl, rfl, rfl, rfl, rfl, trivial⟩, rfl, S⟩ ?_
  clear S
  rintro m e w ⟨k, A_ps, c_ps, hk, hsl, hall, S⟩
  rw [hsl.fold]
  repeat refine cw_seq ?_
  refine cw_region ?_
  refine rw_v (op_pure rfl) ?_
  first | refine rw_end ?_ | (refine rw_nil ?_; show CW _ _ _ _ _ _) | refine rw_nil ?_
  repeat refine cw_seq ?_
  refine cw_cond rfl (fun hc => ?_) (fun hc => ?_)
  · try simp only [decide_eq_true_eq, decide_eq_false_iff_not, beq_iff_eq, bne_iff_ne, beq_eq_false_iff_ne, bne_eq_false_iff_eq, Bool.not_eq_true', Bool.not_eq_false', ne_eq, Decidable.not_not, Int.natCast_inj, Int.ofNat_lt, Int.ofNat_le, gt_iff_lt, ge_iff_le, Int.not_lt, Int.not_le] at hc
    have hkz : k < zs.length := by omega
    obtain ⟨z, hzk, htk⟩ : ∃ z, zs[k]? = some z ∧ zs.take (k + 1) = zs.take k ++ [z] := ⟨zs[k]'hkz, List.getElem?_eq_getElem hkz, List.take_succ_eq_append_getElem hkz⟩
    have hat : ((cellsZ zs).drop ((k : Int).toNat * 2)).take 2 = [.int .i64 z.1, .int .i64 z.2] := by rw [Int.toNat_natCast]; exact cellsZ_at hzk
    have sa_B : SomeA B := hC.someA (by rw [cellsZ_len]; omega)
    cases hin : inG gw gh z with
    | false =>
      have hno : ¬ (0 ≤ z.1 ∧ z.1 < gw ∧ 0 ≤ z.2 ∧ z.2 < gh) := fun h => by rw [inG_iff.2 h] at hin; cases hin
      repeat refine cw_seq ?_
      refine cw_skip ?_
      try show CW _ _ _ _ _ _
      repeat refine cw_seq ?_
      refine cw_block ?_
      repeat refine cw_seq ?_
      refine cw_region ?_
      refine rw_v (op_idx Try.underlying41 Try.sizeOf36 rfl rfl sa_B (by omega) (by omega)) ?_
      refine rw_r (op_ldRA Try.underlying36 rfl (Try.sizeOf36 _) rfl (hC.gr S.out) hat rfl rfl) ?_
      refine rw_newB (op_alloc Try.zeroValue36 rfl) S ?_
      intro b_c w8_ g8_ S
      refine rw_storeSA (i := 0) S rfl (Try.sizeOf36 _) rfl rfl rfl rfl rfl rfl ?_
      intro w9_ S
      first | refine rw_end ?_ | (refine rw_nil ?_; show CW _ _ _ _ _ _) | refine rw_nil ?_
      repeat refine cw_seq ?_
      refine cw_region ?_
      refine rw_v (op_pure rfl) ?_
      refine rw_r (op_loadAB Try.underlying36 rfl (Try.sizeOf36 _) rfl (S.blk (i := 0) rfl) rfl rfl) ?_
      refine rw_call rfl (gatNo_E (W := w9_) z.1 z.2 hno (hG.gr S.out)) ?_
      rintro _ w10_ ⟨rfl, g10_⟩
      have S := S.gr g10_
      refine rw_v (op_pure rfl) ?_
      refine rw_v (op_pure rfl) ?_
      refine rw_v (op_pure rfl) ?_
      refine rw_v (op_pure rfl) ?_
      refine rw_v (op_pure rfl) ?_
      first | refine rw_end ?_ | (refine rw_nil ?_; show CW _ _ _ _ _ _) | refine rw_nil ?_
      repeat refine cw_seq ?_
      refine cw_region ?_
      refine rw_v (op_pure rfl) ?_
      refine rw_v (op_b (b := true) rfl (bne_iff_ne.2 (by omega))) ?_
      first | refine rw_end ?_ | (refine rw_nil ?_; show CW _ _ _ _ _ _) | refine rw_nil ?_
      repeat refine cw_seq ?_
      refine cw_true rfl ?_
      repeat refine cw_seq ?_
      refine cw_region ?_
      refine rw_v (op_build (pl := [(0, 1), (1, 1)]) Try.underlying120 Try.zeroValue120 (fun w => by kernel_rfl) rfl rfl) ?_
      refine rw_v (op_pure rfl) ?_
      refine rw_storeSA (i := 3) S rfl (Try.sizeOf120 _) rfl rfl rfl rfl rfl rfl ?_
      intro w11_ S
      refine rw_v (op_pure rfl) ?_
      refine rw_v (op_pure rfl) ?_
      first | refine rw_end ?_ | (refine rw_nil ?_; show CW _ _ _ _ _ _) | refine rw_nil ?_
      repeat refine cw_seq ?_
      refine cw_ret ?_
      repeat first | refine ret_then ?_ | refine ret_inb ?_
      refine resATT Try.underlying120 rfl (Try.sizeOf120 _) rfl (S.blk (i := 3) rfl) rfl rfl rfl rfl ⟨fun h => ?_, fun _ => ⟨rfl, S.out⟩⟩
      have := List.all_eq_true.1 h z (List.mem_of_getElem? hzk)
      rw [hin] at this; cases this
    | true =>
      have hin' := inG_iff.1 hin
      obtain ⟨zx, zy⟩ := z
      dsimp only at hin' hat
      obtain ⟨x, rfl⟩ := Int.eq_ofNat_of_zero_le hin'.1
      obtain ⟨y, rfl⟩ := Int.eq_ofNat_of_zero_le hin'.2.2.1
      have em : (y : Int) * gw = ((y * gw : Nat) : Int) := by push_cast; rfl
      have ea : ((y * gw : Nat) : Int) + (x : Nat) = ((y * gw + x : Nat) : Int) := by push_cast; rfl
      have hyg : (y + 1) * gw ≤ gh * gw := Nat.mul_le_mul_right _ (by omega)
      rw [Nat.succ_mul, Nat.mul_comm gh] at hyg
      repeat refine cw_seq ?_
      refine cw_skip ?_
      try show CW _ _ _ _ _ _
      repeat refine cw_seq ?_
      refine cw_block ?_
      repeat refine cw_seq ?_
      refine cw_region ?_
      refine rw_v (op_idx Try.underlying41 Try.sizeOf36 rfl rfl sa_B (by omega) (by omega)) ?_
      refine rw_r (op_ldRA Try.underlying36 rfl (Try.sizeOf36 _) rfl (hC.gr S.out) hat rfl rfl) ?_
      refine rw_newB (op_alloc Try.zeroValue36 rfl) S ?_
      intro b_c w13_ g13_ S
      refine rw_storeSA (i := 0) S rfl (Try.sizeOf36 _) rfl rfl rfl rfl rfl rfl ?_
      intro w14_ S
      first | refine rw_end ?_ | (refine rw_nil ?_; show CW _ _ _ _ _ _) | refine rw_nil ?_
      repeat refine cw_seq ?_
      refine cw_region ?_
      refine rw_v (op_pure rfl) ?_
      refine rw_r (op_loadAB Try.underlying36 rfl (Try.sizeOf36 _) rfl (S.blk (i := 0) rfl) rfl rfl) ?_
      refine rw_call rfl (gat_E x y (by omega) (by omega) (hG.gr S.out)) ?_
      rintro _ w15_ ⟨rfl, g15_⟩
      have S := S.gr g15_
      refine rw_v (op_pure rfl) ?_
      refine rw_v (op_pure rfl) ?_
      refine rw_v (op_pure rfl) ?_
      refine rw_v (op_pure rfl) ?_
      refine rw_v (op_pure rfl) ?_
      first | refine rw_end ?_ | (refine rw_nil ?_; show CW _ _ _ _ _ _) | refine rw_nil ?_
      repeat refine cw_seq ?_
      refine cw_region ?_
      refine rw_v (op_pure rfl) ?_
      refine rw_v (op_b (b := false) rfl (bne_eq_false_iff_eq.2 (by omega))) ?_
      first | refine rw_end ?_ | (refine rw_nil ?_; show CW _ _ _ _ _ _) | refine rw_nil ?_
      repeat refine cw_seq ?_
      refine cw_false rfl ?_
      repeat refine cw_seq ?_
      refine cw_skip ?_
      try show CW _ _ _ _ _ _
      repeat refine cw_seq ?_
      refine cw_region ?_
      refine rw_v (op_pure rfl) ?_
      refine rw_v (op_fieldAddr Try.underlying36 rfl Try.sizeOf2 rfl rfl) ?_
      refine rw_r (op_loadB Try.underlying2 rfl rfl (S.blk (i := 0) rfl) rfl) ?_
      refine rw_v (op_fieldAddr Try.underlying120 rfl Try.sizeOf3 rfl rfl) ?_
      refine rw_r (op_loadB Try.underlying3 rfl rfl (S.blk (i := 2) rfl) rfl) ?_
      refine rw_v (op_rng rfl (by omega)) ?_
      rw [em]
      refine rw_v (op_fieldAddr Try.underlying36 rfl Try.sizeOf2 rfl rfl) ?_
      refine rw_r (op_loadB Try.underlying2 rfl rfl (S.blk (i := 0) rfl) rfl) ?_
      refine rw_v (op_rng rfl (by omega)) ?_
      rw [ea]
      refine rw_buildS Try.underlying102 Try.sizeOf3 Try.zeroValue3 rfl rfl rfl rfl rfl rfl S ?_
      intro A_lit w17_ g17_ S sa_lit
      refine rw_appS (i := 2) S rfl (fun h => rfl) Try.underlying102 info_t3 rfl rfl rfl rfl (by simp) (by omega) (S.rd (i := 0) rfl) rfl (by omega) ?_
      intro A_ps18 c_ps18 w18_ S sa_ps
      refine rw_v (op_pure rfl) ?_
      first | refine rw_end ?_ | (refine rw_nil ?_; show CW _ _ _ _ _ _) | refine rw_nil ?_
      repeat refine cw_seq ?_
      refine cw_region ?_
      refine rw_v (op_rng rfl (by omega)) ?_
      refine rw_v (op_pure rfl) ?_
      first | refine rw_end ?_ | (refine rw_nil ?_; show CW _ _ _ _ _ _) | refine rw_nil ?_
      have S := S.sub (.cons _ (.cons _ (.cons_cons _ (.cons_cons _ (.cons_cons _ .slnil)))))
      have hid : idxZ gw ((x : Int), (y : Int)) = y * gw + x := by simp [idxZ]
      have e3 : natsV ((zs.take k).map (idxZ gw)) ++ [.int .i64 ((y * gw + x : Nat) : Int)] = natsV ((zs.take (k + 1)).map (idxZ gw)) := by rw [htk, List.map_append, List.map_singleton, hid]; simp [natsV]
      rw [e3] at S
      refine ⟨m - 1, by omega, k + 1, _, _, by omega, ⟨rfl, rfl, rfl, rfl, rfl, rfl, ie (by omega), trivial⟩, ?_, S⟩
      rw [htk, List.all_append, hall]; simp [hin]
  · try simp only [decide_eq_true_eq, decide_eq_false_iff_not, beq_iff_eq, bne_iff_ne, beq_eq_false_iff_ne, bne_eq_false_iff_eq, Bool.not_eq_true', Bool.not_eq_false', ne_eq, Decidable.not_not, Int.natCast_inj, Int.ofNat_lt, Int.ofNat_le, gt_iff_lt, ge_iff_le, Int.not_lt, Int.not_le] at hc
    obtain rfl : k = zs.length := by omega
    rw [List.take_length] at hall S
    repeat refine cw_seq ?_
    refine cw_exit ?_
    repeat first | refine exit_then ?_ | refine exit_inb ?_
    show CW _ _ _ _ _ _
    repeat refine cw_seq ?_
    refine cw_region ?_
    refine rw_v (op_pure rfl) ?_
    refine rw_v (op_pure rfl) ?_
    refine rw_call rfl (gall_E p gw gh hw.2 hh.2 _ w (hG.top.gr S.out)) ?_
    rintro _ w19_ ⟨rfl, g19_⟩
    have S := S.gr g19_
    refine rw_call rfl (hval w19_ S.out) ?_
    rintro _ w20_ ⟨A_vs, c_vs, rfl, hR_vs, hf_vs, g20_⟩
    have S := S.pushRow hR_vs hf_vs g20_
    refine rw_v (op_pure rfl) ?_
    refine rw_v (op_pure rfl) ?_
    refine rw_v (op_pure rfl) ?_
    refine rw_v (op_fieldAddr Try.underlying120 rfl Try.sizeOf22 rfl rfl) ?_
    refine rw_storeS (i := 2) S rfl (Try.sizeOf22 _) rfl rfl rfl rfl rfl rfl ?_
    intro w21_ S
    first | refine rw_end ?_ | (refine rw_nil ?_; show CW _ _ _ _ _ _) | refine rw_nil ?_
    repeat refine cw_seq ?_
    refine cw_region ?_
    refine rw_r (op_loadAB Try.underlying120 rfl (Try.sizeOf120 _) rfl (S.blk (i := 2) rfl) rfl rfl) ?_
    refine rw_v (op_pure rfl) ?_
    refine rw_storeSA (i := 3) S rfl (Try.sizeOf120 _) rfl rfl rfl rfl rfl rfl ?_
    intro w22_ S
    refine rw_v (op_pure rfl) ?_
    refine rw_v (op_pure rfl) ?_
    first | refine rw_end ?_ | (refine rw_nil ?_; show CW _ _ _ _ _ _) | refine rw_nil ?_
    repeat refine cw_seq ?_
    refine cw_ret ?_
    repeat first | refine ret_then ?_ | refine ret_inb ?_
    refine resATT Try.underlying120 rfl (Try.sizeOf120 _) rfl (S.blk (i := 3) rfl) rfl rfl rfl rfl ⟨fun _ => ?_, fun h => by rw [hall] at h; cases h⟩
    have hlm : (zs.map (idxZ gw)).length = zs.length := by simp
    exact ⟨_, _, _, _, by rw [hlm], S.row (i := 0) rfl, SepL.fresh S (i := 0) rfl, by rw [hlm]; exact S.row (i := 1) rfl, SepL.fresh S (i := 1) rfl, fun g hg => S.sep.2.1 g hg _ List.mem_cons_self, S.out⟩
end
end Go.Proofs.Ytmdkjohllinphaa
