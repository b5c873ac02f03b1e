/- A new grid. -/
import Derived.Test.YtbcgbcipigcbhaaGridD
namespace Go.Proofs.Ytbcgbcipigcbhaa
open Go.RowKit
set_option linter.unusedVariables false
set_option linter.unusedSimpArgs false
set_option maxRecDepth 100000

/-- blocks of one type -/
def HA.fam (k : Nat) (bs : Nat → Nat) (ty : TypeId) (cells : Nat → List Value) : HA :=
  ⟨fun g => ∃ t, t < k ∧ g = bs t, fun w => ∀ t, t < k → Blk w (bs t) ty (cells t), fun _ _ h _ hB t ht => (hB t ht).keep (h _ ⟨t, ht, rfl⟩), fun _ hB _ ⟨t, ht, e⟩ => e ▸ (hB t ht).lt⟩
section
variable {F : Nat → Prop} {W w : World} {L : List HA}
theorem St.famNil (S : St F W w L) (bs : Nat → Nat) (ty : TypeId) (cells : Nat → List Value) : St F W w (.fam 0 bs ty cells :: L) :=
  S.push (Gr.refl w) (h := .fam 0 bs ty cells) (fun t ht => by omega) (fun g ⟨t, ht, _⟩ => by omega)
def addB (bs : Nat → Nat) (k b : Nat) : Nat → Nat := fun t => if t = k then b else bs t
theorem addB_lt {bs : Nat → Nat} {k b t : Nat} (h : t < k) : addB bs k b t = bs t := if_neg (by omega)
theorem addB_at (bs : Nat → Nat) (k b : Nat) : addB bs k b k = b := if_pos rfl
theorem St.famPush {k b : Nat} {bs : Nat → Nat} {ty : TypeId} {cells : Nat → List Value} {l : List Value} (S : St F W w (.blk b ty l :: .fam k bs ty cells :: L)) (hl : cells k = l) : St F W w (.fam (k + 1) (addB bs k b) ty cells :: L) := by
  have h1 := S.sep.1
  have h2 := S.sep.2.2.1
  have h3 := S.sep.2.2.2
  refine ⟨S.fr, ⟨fun t ht => ?_, fun g ⟨t, ht, e⟩ => ?_⟩, fun g ⟨t, ht, e⟩ h hh => ?_, h3.2⟩
  · by_cases e : t = k
    · subst e; rw [addB_at, hl]; exact h1.1
    · rw [addB_lt (by omega)]; exact h2.1 t (by omega)
  · by_cases ek : t = k
    · subst ek; rw [addB_at] at e; exact h1.2 g e
    · rw [addB_lt (by omega)] at e; exact h2.2 g ⟨t, by omega, e⟩
  · by_cases ek : t = k
    · subst ek; rw [addB_at] at e; exact S.sep.2.1 g e h (List.mem_cons_of_mem _ hh)
    · rw [addB_lt (by omega)] at e; exact h3.1 g ⟨t, by omega, e⟩ h hh
theorem St.famNew {k b : Nat} {bs : Nat → Nat} {ty : TypeId} {cells : Nat → List Value} {l : List Value} (S : St F W w (.blk b ty l :: .fam k bs ty cells :: L)) (t : Nat) (ht : t < k) : bs t ≠ b := fun e =>
  S.sep.2.1 b rfl (.fam k bs ty cells) (by simp) ⟨t, ht, e.symm⟩
end
theorem addB_inj {bs : Nat → Nat} {k b : Nat} (hi : ∀ t u, t < k → u < k → bs t = bs u → t = u) (hn : ∀ t, t < k → bs t ≠ b) : ∀ t u, t < k + 1 → u < k + 1 → addB bs k b t = addB bs k b u → t = u := fun t u ht hu e => by
  by_cases h1 : t = k
  · by_cases h2 : u = k
    · rw [h1, h2]
    · rw [h1, addB_at, addB_lt (by omega)] at e; exact absurd e.symm (hn u (by omega))
  · by_cases h2 : u = k
    · rw [h2, addB_at, addB_lt (by omega)] at e; exact absurd e (hn t (by omega))
    · rw [addB_lt (by omega), addB_lt (by omega)] at e; exact hi t u (by omega) (by omega) e
theorem ptrs_add (k b : Nat) (bs : Nat → Nat) : ptrs k bs ++ [.pointer (some ⟨b, 0, none⟩)] = ptrs (k + 1) (addB bs k b) := by
  unfold ptrs
  rw [List.range_succ, List.map_append, List.map_singleton, addB_at]
  congr 1
  exact List.map_congr_left fun t ht => by rw [addB_lt (List.mem_range.1 ht)]

/-- a grid of the call's own -/
def RetGrid (mk : Value → Value) (gw gh : Nat) (c : Nat → Int) (W : World) : Value → World → Prop := fun v w' => ∃ p A cap bs Rs, v = mk (.pointer (some ⟨p, 0, none⟩)) ∧ GridAt w' p gw gh c A cap bs Rs ∧ (∀ g, gridB (acr gw * acr gh) p A bs Rs g → W.heap.size ≤ g) ∧ Gr W w'
theorem St.pushGrid {F : Nat → Prop} {W w w' : World} {L : List HA} (S : St F W w L) {p gw gh cap : Nat} {c : Nat → Int} {A : Option Addr} {bs : Nat → Nat} {Rs : Nat → Option Nat} (hG : GridAt w' p gw gh c A cap bs Rs) (hf : ∀ g, gridB (acr gw * acr gh) p A bs Rs g → w.heap.size ≤ g) (g : Gr w w') :
    St F W w' (.grid p gw gh c A cap bs Rs :: L) := S.push g (h := .grid p gw gh c A cap bs Rs) hG hf
theorem St.retGrid {W w : World} {L : List HA} (S : St No W w L) {i p gw gh cap : Nat} {c : Nat → Int} {A : Option Addr} {bs : Nat → Nat} {Rs : Nat → Option Nat} {mk : Value → Value} (hi : getO L i = some (.grid p gw gh c A cap bs Rs)) : RetGrid mk gw gh c W (mk (.pointer (some ⟨p, 0, none⟩))) w :=
  ⟨p, A, cap, bs, Rs, rfl, S.grid hi, fun g hg => ((S.sep.get hi).2 g hg).elim (fun h => h.elim) id, S.out⟩
theorem tilesN_acr {n : Nat} (h : 1 ≤ n) : tilesN (0 : Int) ((n : Int) - 1) = acr n := by unfold tilesN acr; omega
theorem p_tsz {n i : Nat} (h : i < acr n) : ((min (0 - 0 % 16 + 16 * (i : Int) + 16 - 1) ((n : Int) - 1)) - max (0 - 0 % 16 + 16 * (i : Int)) 0 + 1) = (tsz n i : Nat) := by
  unfold acr at h; unfold tsz; omega

set_option maxHeartbeats 1000000 in
theorem gnew_E (gw gh : Nat) (v : Int) (hw : 1 ≤ gw ∧ gw ≤ 1024) (hh : 1 ≤ gh ∧ gh ≤ 1024) (hv : -2147483648 ≤ v ∧ v ≤ 2147483647) (W : World) :
    Fn Try.prog 57 [.int .i64 gw, .int .i64 gh, .int .i64 v] W (RetGrid (fun p => .tuple #[p, .int .i64 0]) gw gh (fun _ => v) W) := by
  have hwi : within 0 0 0 0 gw gh = 0 := within_fine (by omega) (by omega) (by omega) (by omega)
  have hN : acr gh * acr gw ≤ 64 * 64 := Nat.mul_le_mul (acr_le hh.2) (acr_le hw.2)
  have hac : ((gw : Int) + 16 - 1) / 16 = (acr gw : Nat) := by unfold acr; omega
  have hpw := acr_pos hw.1
  have hph := acr_pos hh.1
  have S := St.start W
  refine Fn_enter Try.func57 rfl Try.results57 Try.ntmps57 (by kernel_rfl) (by kernel_rfl) ?_
  repeat refine cw_seq ?_
  refine cw_region ?_
  iterate 2 refine rw_v (op_pure rfl) ?_
  first | refine rw_end ?_ | (refine rw_nil ?_; show CW _ _ _ _ _ _) | refine rw_nil ?_
  repeat refine cw_seq ?_
  refine cw_region ?_
  refine rw_v (op_pure rfl) ?_
  refine rw_v (op_rng rfl (by omega)) ?_
  refine rw_v (op_pure rfl) ?_
  refine rw_v (op_rng rfl (by omega)) ?_
  refine rw_v (op_build (pl := [(0, 1), (1, 1), (2, 1), (3, 1)]) Try.underlying75 Try.zeroValue75 (fun w => by kernel_rfl) rfl rfl) ?_
  refine rw_newB (op_alloc Try.zeroValue75 rfl) S ?_
  intro b_all w2_ g2_ S
  refine rw_storeSA (i := 0) S rfl (Try.sizeOf75 _) rfl rfl rfl rfl rfl rfl ?_
  intro w3_ S
  first | refine rw_end ?_ | (refine rw_nil ?_; show CW _ _ _ _ _ _) | refine rw_nil ?_
  repeat refine cw_seq ?_
  refine cw_region ?_
  refine rw_v (op_build (pl := [(0, 1), (1, 1), (2, 1), (3, 1)]) Try.underlying75 Try.zeroValue75 (fun w => by kernel_rfl) rfl rfl) ?_
  iterate 2 refine rw_v (op_pure rfl) ?_
  refine rw_call rfl (within_E _ _ _ _ _ _ (by omega) (by omega) w3_) ?_
  rintro _ w4_ ⟨rfl, g4_⟩
  have S := S.gr g4_
  refine rw_v (op_pure rfl) ?_
  first | refine rw_end ?_ | (refine rw_nil ?_; show CW _ _ _ _ _ _) | refine rw_nil ?_
  repeat refine cw_seq ?_
  refine cw_region ?_
  refine rw_v (op_pure rfl) ?_
  refine rw_v (op_b (b := false) rfl (bne_eq_false_iff_eq.2 (by omega))) ?_
  first | refine rw_end ?_ | (refine rw_nil ?_; show CW _ _ _ _ _ _) | refine rw_nil ?_
  repeat refine cw_seq ?_
  refine cw_false (by rw [hwi]; rfl) ?_
  repeat refine cw_seq ?_
  refine cw_skip ?_
  try show CW _ _ _ _ _ _
  repeat refine cw_seq ?_
  refine cw_region ?_
  iterate 3 refine rw_v (op_pure rfl) ?_
  refine rw_v (op_rng rfl (by omega)) ?_
  refine rw_v (op_rng rfl (by omega)) ?_
  refine rw_v (op_div rfl rfl (by omega) (by omega)) ?_
  rw [hac]
  refine rw_v (op_build (pl := [(0, 1), (1, 1), (2, 1), (3, 1)]) Try.underlying112 Try.zeroValue112 (fun w => by kernel_rfl) rfl rfl) ?_
  refine rw_newB (op_box rfl) S ?_
  intro b_gr w6_ g6_ S
  refine rw_v (op_pure rfl) ?_
  first | refine rw_end ?_ | (refine rw_nil ?_; show CW _ _ _ _ _ _) | refine rw_nil ?_
  repeat refine cw_seq ?_
  refine cw_region ?_
  refine rw_r (op_loadAB Try.underlying75 rfl (Try.sizeOf75 _) rfl (S.blk (i := 1) rfl) rfl rfl) ?_
  refine rw_call rfl (pieces_N 0 0 ((gw : Int) - 1) ((gh : Int) - 1) (by omega) w6_) ?_
  rintro _ w7_ ⟨A_ps, c_ps, rfl, hR_ps, hf_ps, g7_⟩
  have S := S.pushRow hR_ps hf_ps g7_
  refine rw_v (op_len Try.underlying176 rfl) ?_
  refine rw_v (op_pure rfl) ?_
  first | refine rw_end ?_ | (refine rw_nil ?_; show CW _ _ _ _ _ _) | refine rw_nil ?_
  repeat refine cw_seq ?_
  refine cw_block ?_
  repeat refine cw_seq ?_
  rw [tilesN_acr hw.1, tilesN_acr hh.1]
  rw [tilesN_acr hw.1, tilesN_acr hh.1] at hR_ps S
  have sa_ps : SomeA A_ps := hR_ps.someA (Nat.mul_pos hph hpw)
  have S := S.sub (.cons_cons _ (.cons_cons _ (.cons _ .slnil)))
  have S := ((S.pushNil 114 1).famNil (fun t => t) 196 (fun t => [.int .i64 (tsz gw (t % acr gw) : Nat), .int .i64 (tsz gh (t / acr gw) : Nat), .iface 227 (.int .i32 v)]))
  refine cw_loop (fun m e w => ∃ (k : Nat) (A : Option Addr) (cp : Nat) (bs : Nat → Nat), k + m = acr gh * acr gw ∧ SL e [(2, .int .i64 v), (10, .pointer (some ⟨b_gr, 0, none⟩)), (35, .slice A_ps (acr gh * acr gw) c_ps), (36, .int .i64 (acr gh * acr gw : Nat)), (37, .int .i64 k)] ∧
    (∀ t u, t < k → u < k → bs t = bs u → t = u) ∧ St No W w [.fam k bs 196 (fun t => [.int .i64 (tsz gw (t % acr gw) : Nat), .int .i64 (tsz gh (t / acr gw) : Nat), .iface 227 (.int .i32 v)]), .row 114 1 A k cp (ptrs k bs),
      .row 75 4 A_ps (acr gh * acr gw) c_ps (piecesC 0 0 ((gw : Int) - 1) ((gh : Int) - 1) (acr gh)), .blk b_gr 112 [.int .i64 gw, .int .i64 gh, .int .i64 (acr gw), .slice A k cp]]) (acr gh * acr gw)
    ⟨0, none, 0, fun t => t, by omega, ⟨rfl, rfl, rfl, rfl, rfl, trivial⟩, fun t u ht => by omega, S⟩ ?_
  rintro m e w ⟨k, A, cp, bs, hk, hsl, hinj, S⟩
  rw [hsl.fold]
  repeat refine cw_seq ?_
  refine cw_region ?_
  refine rw_v (op_pure rfl) ?_
  first | refine rw_end ?_ | (refine rw_nil ?_; show CW _ _ _ _ _ _) | refine rw_nil ?_
  repeat refine cw_seq ?_
  refine cw_cond rfl (fun hc => ?_) (fun hc => ?_)
  · try simp only [decide_eq_true_eq, decide_eq_false_iff_not, beq_iff_eq, bne_iff_ne, beq_eq_false_iff_ne, bne_eq_false_iff_eq, Bool.not_eq_true', Bool.not_eq_false', ne_eq, Decidable.not_not, Int.natCast_inj, Int.ofNat_lt, Int.ofNat_le, gt_iff_lt, ge_iff_le, Int.not_lt, Int.not_le] at hc
    have hkN : k < acr gh * acr gw := by omega
    have hi : k % acr gw < acr gw := Nat.mod_lt _ hpw
    have hj : k / acr gw < acr gh := Nat.div_lt_of_lt_mul (by rw [Nat.mul_comm]; exact hkN)
    have hat := piecesC_at 0 0 ((gw : Int) - 1) ((gh : Int) - 1) (acr gh) (k % acr gw) (k / acr gw) (by rw [tilesN_acr hw.1]; exact hi) hj
    rw [tilesN_acr hw.1, show k / acr gw * acr gw + k % acr gw = k by rw [Nat.mul_comm]; exact Nat.div_add_mod _ _] at hat
    have hat' : ((piecesC 0 0 ((gw : Int) - 1) ((gh : Int) - 1) (acr gh)).drop ((k : Int).toNat * 4)).take 4 = [.int .i64 (max (0 - 0 % 16 + 16 * ((k % acr gw : Nat) : Int)) 0), .int .i64 (max (0 - 0 % 16 + 16 * ((k / acr gw : Nat) : Int)) 0), .int .i64 (min (0 - 0 % 16 + 16 * ((k % acr gw : Nat) : Int) + 16 - 1) ((gw : Int) - 1)), .int .i64 (min (0 - 0 % 16 + 16 * ((k / acr gw : Nat) : Int) + 16 - 1) ((gh : Int) - 1))] := by rw [Int.toNat_natCast]; exact hat
    have hs1 := p_tsz hi
    have hs2 := p_tsz hj
    have hz1 := tsz_pos hi
    have hz2 := tsz_pos hj
    have hle := S.le
    repeat refine cw_seq ?_
    refine cw_skip ?_
    try show CW _ _ _ _ _ _
    repeat refine cw_seq ?_
    refine cw_block ?_
    repeat refine cw_seq ?_
    refine cw_region ?_
    refine rw_v (op_idx Try.underlying176 Try.sizeOf75 rfl rfl sa_ps (by omega) (by omega)) ?_
    refine rw_r (op_ldRA Try.underlying75 rfl (Try.sizeOf75 _) rfl (S.rd (i := 2) rfl) hat' rfl rfl) ?_
    refine rw_newB (op_alloc Try.zeroValue75 rfl) S ?_
    intro b_pc w9_ g9_ S
    refine rw_storeSA (i := 0) S rfl (Try.sizeOf75 _) rfl rfl rfl rfl rfl rfl ?_
    intro w10_ S
    first | refine rw_end ?_ | (refine rw_nil ?_; show CW _ _ _ _ _ _) | refine rw_nil ?_
    repeat refine cw_seq ?_
    refine cw_region ?_
    refine rw_v (op_fieldAddr Try.underlying75 rfl Try.sizeOf2 rfl rfl) ?_
    refine rw_r (op_loadB Try.underlying2 rfl rfl (S.blk (i := 0) rfl) rfl) ?_
    refine rw_v (op_fieldAddr Try.underlying75 rfl Try.sizeOf2 rfl rfl) ?_
    refine rw_r (op_loadB Try.underlying2 rfl rfl (S.blk (i := 0) rfl) rfl) ?_
    refine rw_v (op_rng rfl (by omega)) ?_
    refine rw_v (op_rng rfl (by omega)) ?_
    rw [hs1]
    refine rw_v (op_fieldAddr Try.underlying75 rfl Try.sizeOf2 rfl rfl) ?_
    refine rw_r (op_loadB Try.underlying2 rfl rfl (S.blk (i := 0) rfl) rfl) ?_
    refine rw_v (op_fieldAddr Try.underlying75 rfl Try.sizeOf2 rfl rfl) ?_
    refine rw_r (op_loadB Try.underlying2 rfl rfl (S.blk (i := 0) rfl) rfl) ?_
    refine rw_v (op_rng rfl (by omega)) ?_
    refine rw_v (op_rng rfl (by omega)) ?_
    rw [hs2]
    refine rw_v (op_pure rfl) ?_
    refine rw_call rfl (snew_E (tsz gw (k % acr gw) : Nat) (tsz gh (k / acr gw) : Nat) v (by omega) (by omega) hv w10_) ?_
    rintro _ w11_ ⟨sb, rfl, hsb, hsB, g11_⟩
    have S := S.push g11_ (h := .blk sb 196 _) hsB (fun g h => h ▸ hsb)
    iterate 5 refine rw_v (op_pure rfl) ?_
    first | refine rw_end ?_ | (refine rw_nil ?_; show CW _ _ _ _ _ _) | refine rw_nil ?_
    repeat refine cw_seq ?_
    refine cw_region ?_
    refine rw_v (op_pure rfl) ?_
    refine rw_v (op_b (b := false) rfl (bne_eq_false_iff_eq.2 (by omega))) ?_
    first | refine rw_end ?_ | (refine rw_nil ?_; show CW _ _ _ _ _ _) | refine rw_nil ?_
    repeat refine cw_seq ?_
    refine cw_false rfl ?_
    repeat refine cw_seq ?_
    refine cw_skip ?_
    try show CW _ _ _ _ _ _
    repeat refine cw_seq ?_
    refine cw_region ?_
    iterate 3 refine rw_v (op_pure rfl) ?_
    refine rw_v (op_fieldAddr Try.underlying112 rfl Try.sizeOf110 rfl rfl) ?_
    refine rw_r (op_loadB Try.underlying110 rfl rfl (S.blk (i := 5) rfl) rfl) ?_
    refine rw_v (op_pure rfl) ?_
    refine rw_buildS Try.underlying110 Try.sizeOf114 Try.zeroValue114 rfl rfl rfl rfl rfl rfl S ?_
    intro A_lit w13_ g13_ S sa_lit
    refine rw_appS (i := 4) S rfl (fun h => rfl) Try.underlying110 info_t114 rfl rfl rfl rfl (by simp) (by omega) (S.rd (i := 0) rfl) rfl (by omega) ?_
    intro A_sl14 c_sl14 w14_ S sa_sl
    refine rw_v (op_pure rfl) ?_
    refine rw_v (op_fieldAddr Try.underlying112 rfl Try.sizeOf110 rfl rfl) ?_
    refine rw_storeS (i := 6) S rfl (Try.sizeOf110 _) rfl rfl rfl rfl rfl rfl ?_
    intro w15_ S
    first | refine rw_end ?_ | (refine rw_nil ?_; show CW _ _ _ _ _ _) | refine rw_nil ?_
    repeat refine cw_seq ?_
    refine cw_region ?_
    refine rw_v (op_rng rfl (by omega)) ?_
    refine rw_v (op_pure rfl) ?_
    first | refine rw_end ?_ | (refine rw_nil ?_; show CW _ _ _ _ _ _) | refine rw_nil ?_
    have S := S.sub (.cons _ (.cons_cons _ (.cons _ (.cons_cons _ (.cons_cons _ (.cons_cons _ (.cons_cons _ .slnil)))))))
    have hn := S.famNew
    have S := S.famPush rfl
    rw [ptrs_add] at S
    exact ⟨m - 1, by omega, k + 1, _, _, _, by omega, ⟨rfl, rfl, rfl, rfl, ie (by omega), trivial⟩, addB_inj hinj hn, S⟩
  · try simp only [decide_eq_true_eq, decide_eq_false_iff_not, beq_iff_eq, bne_iff_ne, beq_eq_false_iff_ne, bne_eq_false_iff_eq, Bool.not_eq_true', Bool.not_eq_false', ne_eq, Decidable.not_not, Int.natCast_inj, Int.ofNat_lt, Int.ofNat_le, gt_iff_lt, ge_iff_le, Int.not_lt, Int.not_le] at hc
    repeat refine cw_seq ?_
    refine cw_exit ?_
    repeat first | refine exit_then ?_ | refine exit_inb ?_
    show CW _ _ _ _ _ _
    repeat refine cw_seq ?_
    refine cw_region ?_
    iterate 3 refine rw_v (op_pure rfl) ?_
    first | refine rw_end ?_ | (refine rw_nil ?_; show CW _ _ _ _ _ _) | refine rw_nil ?_
    repeat refine cw_seq ?_
    refine cw_ret ?_
    repeat first | refine ret_then ?_ | refine ret_inb ?_
    obtain rfl : k = acr gh * acr gw := by omega
    have hT := S.blk (i := 3) rfl
    have hR := S.row (i := 1) rfl
    have hF : ∀ t, t < acr gh * acr gw → Blk w (bs t) 196 [.int .i64 (tsz gw (t % acr gw) : Nat), .int .i64 (tsz gh (t / acr gw) : Nat), .iface 227 (.int .i32 v)] := S.ok (i := 0) (h := .fam _ bs _ _) rfl
    have hcm : acr gh * acr gw = acr gw * acr gh := Nat.mul_comm _ _
    have hG : GridAt w b_gr gw gh (fun _ => v) A cp bs (fun _ => none) := ⟨hw, hh, by rw [← hcm]; exact hT, by rw [← hcm]; exact hR, fun t ht => ⟨fun _ _ => hv, v, hF t (by omega), hv, fun _ _ => rfl⟩, fun t u ht hu => hinj t u (by omega) (by omega), fun t u g _ _ h => by cases h⟩
    refine res2 rfl rfl ⟨b_gr, A, cp, bs, fun _ => none, rfl, hG, fun g hg => ?_, S.out⟩
    rcases hg with hg | hg | ⟨t, ht, hg⟩
    · exact ((S.sep.get (i := 3) rfl).2 g hg).elim (fun h => h.elim) id
    · exact ((S.sep.get (i := 1) rfl).2 g hg).elim (fun h => h.elim) id
    · rcases hg with hg | hg
      · exact ((S.sep.get (i := 0) rfl).2 g ⟨t, by omega, hg⟩).elim (fun h => h.elim) id
      · cases hg
end Go.Proofs.Ytbcgbcipigcbhaa
