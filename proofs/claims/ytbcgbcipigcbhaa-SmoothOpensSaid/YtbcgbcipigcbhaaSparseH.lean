/- sparse.Build: contract. -/
import Derived.Test.YtbcgbcipigcbhaaSparseG
import Derived.Test.YtbcgbcipigcbhaaArea
namespace Go.Proofs.Ytbcgbcipigcbhaa
open Go.RowKit
set_option linter.unusedVariables false
set_option linter.unusedSimpArgs false
set_option maxRecDepth 100000

theorem rgsV_push (l : List RG) (r : RG) : rgsV (l ++ [r]) = rgsV l ++ r.cells := by simp [rgsV]
theorem rgsV_set {l : List RG} {k : Nat} {r : RG} (h : k < l.length) : (rgsV l).take (k * 2) ++ r.cells ++ (rgsV l).drop (k * 2 + 2) = rgsV (l.set k r) := by
  have := flatMap_put (f := RG.cells) (m := 2) (fun _ => rfl) (l := l) (k := k) (a := l[k]) (a' := r) (d := 0) (cs := r.cells) (List.getElem?_eq_getElem h) (by show 0 + 2 ≤ 2; omega) (by simp [RG.cells])
  exact this
/-! ### Rows of several lengths -/
def HA.gfam (el sz k : Nat) (As : Nat → Option Addr) (ns cs : Nat → Nat) (xs : Nat → List Value) : HA :=
  ⟨fun g => ∃ t, t < k ∧ ownA (As t) g, fun w => ∀ t, t < k → Row w el sz (As t) (ns t) (cs t) (xs t), fun _ _ h _ hR t ht => (hR t ht).keep (fun g hg => h g ⟨t, ht, hg⟩), fun _ hR _ ⟨t, ht, hg⟩ => (hR t ht).lt hg⟩
section
variable {F : Nat → Prop} {W w : World} {L : List HA} {el sz k n c i : Nat} {As : Nat → Option Addr} {ns cs : Nat → Nat} {xs : Nat → List Value} {A : Option Addr} {l : List Value}
theorem St.gfam0 (S : St F W w L) (As : Nat → Option Addr) (ns cs : Nat → Nat) (xs : Nat → List Value) : St F W w (.gfam el sz 0 As ns cs xs :: L) :=
  S.push (Gr.refl w) (h := .gfam el sz 0 As ns cs xs) (fun t ht => by omega) (fun g ⟨t, ht, _⟩ => by omega)
theorem St.grow_ (S : St F W w L) (hi : getO L i = some (.gfam el sz k As ns cs xs)) {t : Nat} (ht : t < k) : Row w el sz (As t) (ns t) (cs t) (xs t) := S.ok hi t ht
theorem St.gfamPush (S : St F W w (.row el sz A n c l :: .gfam el sz k As ns cs xs :: L)) (hl : xs k = l) (hn : ns k = n) : St F W w (.gfam el sz (k + 1) (addO As k A) ns (addO cs k c) xs :: L) := by
  have h1 := S.sep.1
  have h2 := S.sep.2.2.1
  have h3 := S.sep.2.2.2
  refine ⟨S.fr, ⟨fun t ht => ?_, fun g ⟨t, ht, e⟩ => ?_⟩, fun g ⟨t, ht, e⟩ h hh => ?_, h3.2⟩
  · by_cases e : t = k
    · subst e; rw [addO_at, addO_at, hl, hn]; exact h1.1
    · rw [addO_lt (by omega), addO_lt (by omega)]; exact h2.1 t (by omega)
  · by_cases ek : t = k
    · subst ek; rw [addO_at] at e; exact h1.2 g e
    · rw [addO_lt (by omega)] at e; exact h2.2 g ⟨t, by omega, e⟩
  · by_cases ek : t = k
    · subst ek; rw [addO_at] at e; exact S.sep.2.1 g e h (List.mem_cons_of_mem _ hh)
    · rw [addO_lt (by omega)] at e; exact h3.1 g ⟨t, by omega, e⟩ h hh
end
theorem CS.gfamRd {F : Nat → Prop} {W wq : World} {L : List HA} {i j el' k' n' el sz k t : Nat} {As : Nat → Option Addr} {ns cs : Nat → Nat} {xs : Nat → List Value} {xs' ys' τ : List Value} (hq : CS F W L i el' k' n' xs' ys' wq τ) (hji : j ≠ i) (hj : getO L j = some (.gfam el sz k As ns cs xs)) (ht : t < k) : Rd wq (As t) (xs t) := by
  have h := hq.ok hji hj
  exact Row.rd (h t ht)
/-- the steps -/
def stV (k : Nat) (ac : Nat → Nat) (As : Nat → Option Addr) (ns cs : Nat → Nat) : List Value := (List.range k).flatMap fun j => [.int .i64 (ac j : Nat), .slice (As j) (ns j) (cs j)]
theorem stV_len (k : Nat) (ac : Nat → Nat) (As : Nat → Option Addr) (ns cs : Nat → Nat) : (stV k ac As ns cs).length = k * 2 := by
  have := flatMap_len (f := fun j => [Value.int .i64 (ac j : Nat), .slice (As j) (ns j) (cs j)]) (m := 2) (fun _ => rfl) (List.range k)
  rw [List.length_range] at this
  exact this
theorem stV_at {k j : Nat} {ac : Nat → Nat} {As : Nat → Option Addr} {ns cs : Nat → Nat} (h : j < k) : ((stV k ac As ns cs).drop (j * 2)).take 2 = [.int .i64 (ac j : Nat), .slice (As j) (ns j) (cs j)] :=
  flatMap_one (f := fun j => [Value.int .i64 (ac j : Nat), .slice (As j) (ns j) (cs j)]) (fun _ => rfl) (List.getElem?_range h)
theorem stV_push {k c : Nat} {ac : Nat → Nat} {As : Nat → Option Addr} {ns cs : Nat → Nat} {A : Option Addr} : stV k ac As ns cs ++ [.int .i64 (ac k : Nat), .slice A (ns k) c] = stV (k + 1) ac (addO As k A) ns (addO cs k c) := by
  unfold stV
  rw [List.range_succ, List.flatMap_append, List.flatMap_singleton, addO_at, addO_at]
  congr 1
  rw [List.flatMap_def, List.flatMap_def]
  congr 1
  exact List.map_congr_left fun t ht => by rw [addO_lt (List.mem_range.1 ht), addO_lt (List.mem_range.1 ht)]
/-- a table of ranges in memory -/
def SparseAt (w : World) (tb gw gh : Nat) (V : List Int) : Prop := ∃ Ao co As cs, Blk w tb 239 [.int .i64 gw, .int .i64 gh, .slice Ao (Nat.log2 (min gw gh) + 1) co] ∧
  Row w 242 2 Ao (Nat.log2 (min gw gh) + 1) co (stV (Nat.log2 (min gw gh) + 1) (acK gw) As (fun k => acK gw k * acK gh k) cs) ∧
  ∀ k, k < Nat.log2 (min gw gh) + 1 → Row w 78 2 (As k) (acK gw k * acK gh k) (cs k) (rgsV (levK V gw gh k))
def SpL (tb : Nat) (Ao : Option Addr) (co : Nat) (As : Nat → Option Addr) (cs : Nat → Nat) (gw gh : Nat) (V : List Int) : List HA :=
  [.row 242 2 Ao (Nat.log2 (min gw gh) + 1) co (stV (Nat.log2 (min gw gh) + 1) (acK gw) As (fun k => acK gw k * acK gh k) cs),
   .gfam 78 2 (Nat.log2 (min gw gh) + 1) As (fun k => acK gw k * acK gh k) cs (fun k => rgsV (levK V gw gh k)), .blk tb 239 [.int .i64 gw, .int .i64 gh, .slice Ao (Nat.log2 (min gw gh) + 1) co]]
theorem SparseAt.gr {w w' : World} {tb gw gh : Nat} {V : List Int} (h : SparseAt w tb gw gh V) (g : Gr w w') : SparseAt w' tb gw gh V := by
  obtain ⟨Ao, co, As, cs, h1, h2, h3⟩ := h
  exact ⟨Ao, co, As, cs, h1.gr g, h2.gr g, fun y hy => (h3 y hy).gr g⟩
def preK (V : List Int) (gw k n : Nat) : List RG := (List.range n).map fun i => sqR V gw k (i % acK gw k) (i / acK gw k)
theorem preK_len (V : List Int) (gw k n : Nat) : (preK V gw k n).length = n := by simp [preK]
theorem preK_push (V : List Int) {gw k x : Nat} (y : Nat) (hx : x < acK gw k) : preK V gw k (y * acK gw k + x) ++ [sqR V gw k x y] = preK V gw k (y * acK gw k + x + 1) := by
  have h1 := cell_split (Y := y) hx
  unfold preK
  rw [List.range_succ, List.map_append, List.map_singleton, h1.1, h1.2]
section
variable {W : World} {A : Option Addr} {p gw gh cap : Nat} {cc : Nat → Int} {bs : Nat → Nat} {Rs : Nat → Option Nat}
set_option maxHeartbeats 8000000 in
theorem sbuild_E (hG : GridAt W p gw gh cc A cap bs Rs) : Fn Try.prog 134 [.pointer (some ⟨p, 0, none⟩)] W
    (fun v w' => ∃ tb Ao co As cs, v = .tuple #[.pointer (some ⟨tb, 0, none⟩), .int .i64 0] ∧ St No W w' (SpL tb Ao co As cs gw gh (gridL gw gh cc))) := by
  have hw := hG.sw
  have hh := hG.sh
  have hm : 1 ≤ gw * gh ∧ gw * gh ≤ 1024 * 1024 := ⟨Nat.mul_le_mul hw.1 hh.1, Nat.mul_le_mul hw.2 hh.2⟩
  have e1 : ((gw : Int) - 1) = ((gw - 1 : Nat) : Int) := by omega
  have e2 : ((gh : Int) - 1) = ((gh - 1 : Nat) : Int) := by omega
  have hV := gridL_len gw gh cc
  have hval : ∀ w, Gr W w → Fn Try.prog 43 [.pointer (some ⟨p, 0, none⟩), .agg #[.int .i64 0, .int .i64 0, .int .i64 (gw - 1), .int .i64 (gh - 1)]] w (RetNew (fun v => .tuple #[v, .int .i64 0]) 2 1 (gw * gh) (ints (gridL gw gh cc)) w) := fun w g => by
    have := gvalues_E (W := w) 0 0 (gw - 1) (gh - 1) (by omega) (by omega) (hG.gr g)
    rw [← e1, ← e2, show gw - 1 + 1 - 0 = gw by omega, show gh - 1 + 1 - 0 = gh by omega, rectV_all, Nat.mul_comm gh gw] at this
    exact this
  generalize gridL gw gh cc = V at *
  have emin : min (gw : Int) gh = ((min gw gh : Nat) : Int) := by omega
  obtain ⟨mn, hmn⟩ : ∃ mn, mn = min gw gh := ⟨_, rfl⟩
  have hmn1 : 1 ≤ mn ∧ mn ≤ 1024 ∧ mn ≤ gw ∧ mn ≤ gh := by omega
  have hK : 2 ^ Nat.log2 mn ≤ mn := Nat.log2_self_le (by omega)
  have hK10 : Nat.log2 mn ≤ 10 := by
    by_cases h : Nat.log2 mn ≤ 10
    · exact h
    · have := Nat.pow_le_pow_right (show 0 < 2 by omega) (show 11 ≤ Nat.log2 mn by omega)
      omega
  unfold SpL
  rw [← hmn] at emin ⊢
  obtain ⟨K, eK⟩ : ∃ K, K = Nat.log2 mn := ⟨_, rfl⟩
  rw [← eK] at hK hK10 ⊢
  have S := St.start W
  refine Fn_enter Try.func134 rfl Try.results134 Try.ntmps134 (by kernel_rfl) (by kernel_rfl) ?_
  repeat refine cw_seq ?_
  refine cw_region ?_
  iterate 2 refine rw_v (op_pure rfl) ?_
  first | refine rw_end ?_ | (refine rw_nil ?_; show CW _ _ _ _ _ _) | refine rw_nil ?_
  repeat refine cw_seq ?_
  refine cw_region ?_
  refine rw_v (op_pure rfl) ?_
  refine rw_v (op_nilp Try.underlying28 rfl rfl) ?_
  first | refine rw_end ?_ | (refine rw_nil ?_; show CW _ _ _ _ _ _) | refine rw_nil ?_
  repeat refine cw_seq ?_
  refine cw_false rfl ?_
  repeat refine cw_seq ?_
  refine cw_skip ?_
  try show CW _ _ _ _ _ _
  repeat refine cw_seq ?_
  refine cw_region ?_
  refine rw_v (op_pure rfl) ?_
  refine rw_call rfl (gsize_E p gw gh _ W (hG.top.gr S.out)) ?_
  rintro _ w1_ ⟨rfl, g1_⟩
  have S := S.gr g1_
  iterate 5 refine rw_v (op_pure rfl) ?_
  first | refine rw_end ?_ | (refine rw_nil ?_; show CW _ _ _ _ _ _) | refine rw_nil ?_
  repeat refine cw_seq ?_
  refine cw_region ?_
  iterate 2 refine rw_v (op_pure rfl) ?_
  refine rw_v (op_build (pl := [(0, 1), (1, 1), (2, 1)]) Try.underlying239 Try.zeroValue239 (fun w => by kernel_rfl) rfl rfl) ?_
  refine rw_newB (op_box rfl) S ?_
  intro b_T w3_ g3_ S
  refine rw_v (op_pure rfl) ?_
  first | refine rw_end ?_ | (refine rw_nil ?_; show CW _ _ _ _ _ _) | refine rw_nil ?_
  repeat refine cw_seq ?_
  refine cw_region ?_
  iterate 2 refine rw_v (op_pure rfl) ?_
  refine rw_call rfl (gall_E p gw gh hw.2 hh.2 _ w3_ (hG.top.gr S.out)) ?_
  rintro _ w4_ ⟨rfl, g4_⟩
  have S := S.gr g4_
  refine rw_call rfl (hval w4_ S.out) ?_
  rintro _ w5_ ⟨A_vs, c_vs, rfl, hR_vs, hf_vs, g5_⟩
  have S := S.pushRow hR_vs hf_vs g5_
  iterate 5 refine rw_v (op_pure rfl) ?_
  first | refine rw_end ?_ | (refine rw_nil ?_; show CW _ _ _ _ _ _) | refine rw_nil ?_
  repeat refine cw_seq ?_
  refine cw_region ?_
  iterate 2 refine rw_v (op_pure rfl) ?_
  refine rw_v (op_len Try.underlying22 rfl) ?_
  refine rw_makeS Try.underlying240 info_t78 rfl rfl rfl (n := gw * gh) (c := gw * gh) (by omega) (by omega) (by omega) (by omega) S ?_
  intro A_c0 w7_ g7_ S sa_c0
  refine rw_v (op_build (pl := [(0, 1), (1, 1)]) Try.underlying242 Try.zeroValue242 (fun w => by kernel_rfl) rfl rfl) ?_
  refine rw_newB (op_alloc Try.zeroValue242 rfl) S ?_
  intro b_s0 w9_ g9_ S
  refine rw_storeSA (i := 0) S rfl (Try.sizeOf242 _) rfl rfl rfl rfl rfl rfl ?_
  intro w10_ S
  first | refine rw_end ?_ | (refine rw_nil ?_; show CW _ _ _ _ _ _) | refine rw_nil ?_
  repeat refine cw_seq ?_
  refine cw_region ?_
  refine rw_v (op_pure rfl) ?_
  refine rw_v (op_len Try.underlying22 rfl) ?_
  refine rw_v (op_pure rfl) ?_
  first | refine rw_end ?_ | (refine rw_nil ?_; show CW _ _ _ _ _ _) | refine rw_nil ?_
  repeat refine cw_seq ?_
  refine cw_block ?_
  repeat refine cw_seq ?_
  refine cw_loop (fun m e w => ∃ (k : Nat) (l : List RG), k + m = gw * gh ∧ l.length = gw * gh ∧ (∀ i, i < k → l[i]? = some (sqR V gw 0 (i % gw) (i / gw))) ∧ SL e [(4, .int .i64 gw), (5, .int .i64 gh), (6, .pointer (some ⟨b_T, 0, none⟩)), (9, .pointer (some ⟨b_s0, 0, none⟩)), (42, .slice A_vs (gw * gh) c_vs), (43, .int .i64 (gw * gh : Nat)), (44, .int .i64 k)] ∧
    St No W w [.blk b_s0 242 [.int .i64 gw, .slice A_c0 (gw * gh) (gw * gh)], .row 78 2 A_c0 (gw * gh) (gw * gh) (rgsV l), .row 2 1 A_vs (gw * gh) c_vs (ints V), .blk b_T 239 [.int .i64 gw, .int .i64 gh, .slice none 0 0]]) (gw * gh)
    ⟨0, List.replicate (gw * gh) ⟨0, 0⟩, by omega, by simp, fun i hi => by omega, ⟨rfl, rfl, rfl, rfl, rfl, rfl, rfl, trivial⟩, by
      have e0 : (List.replicate (gw * gh) [Value.int .i64 0, Value.int .i64 0]).flatten = rgsV (List.replicate (gw * gh) ⟨0, 0⟩) := by
        unfold rgsV
        rw [List.flatMap_def, List.map_replicate]
        rfl
      rw [← e0]; exact S⟩ ?_
  clear S
  rintro m e w ⟨k, l, hk, hl, hlk, hsl, S⟩
  rw [hsl.fold]
  have sa_vs : 0 < gw * gh → SomeA A_vs := fun h => (S.row (i := 2) rfl).someA h
  have sa_vs := sa_vs (by omega)
  have sa_c0 : 0 < gw * gh → SomeA A_c0 := fun h => (S.row (i := 1) rfl).someA h
  have sa_c0 := sa_c0 (by omega)
  by_cases hkn : k < gw * gh
  · have hgv : (ints V)[(k : Int).toNat * 1]? = some (.int .i64 (V.getD k 0)) := by rw [Nat.mul_one, Int.toNat_natCast]; exact ints_get (getD_at (by omega))
    repeat refine cw_seq ?_
    refine cw_region ?_
    refine rw_v (op_b (b := true) rfl (decide_eq_true (by omega))) ?_
    first | refine rw_end ?_ | (refine rw_nil ?_; show CW _ _ _ _ _ _) | refine rw_nil ?_
    repeat refine cw_seq ?_
    refine cw_true rfl ?_
    repeat refine cw_seq ?_
    refine cw_skip ?_
    try show CW _ _ _ _ _ _
    repeat refine cw_seq ?_
    refine cw_block ?_
    repeat refine cw_seq ?_
    refine cw_region ?_
    refine rw_v (op_pure rfl) ?_
    refine rw_v (op_idx Try.underlying22 Try.sizeOf2 rfl rfl sa_vs (by omega) (by omega)) ?_
    refine rw_r (op_ldR Try.underlying2 rfl rfl (S.rd (i := 2) rfl) hgv) ?_
    iterate 2 refine rw_v (op_pure rfl) ?_
    first | refine rw_end ?_ | (refine rw_nil ?_; show CW _ _ _ _ _ _) | refine rw_nil ?_
    repeat refine cw_seq ?_
    refine cw_region ?_
    refine rw_v (op_fieldAddr Try.underlying242 rfl Try.sizeOf240 rfl rfl) ?_
    refine rw_r (op_loadB Try.underlying240 rfl rfl (S.blk (i := 0) rfl) rfl) ?_
    iterate 3 refine rw_v (op_pure rfl) ?_
    refine rw_v (op_build (pl := [(0, 1), (1, 1)]) Try.underlying78 Try.zeroValue78 (fun w => by kernel_rfl) rfl rfl) ?_
    refine rw_v (op_idx Try.underlying240 Try.sizeOf78 rfl rfl sa_c0 (by omega) (by omega)) ?_
    refine rw_storeRA (i := 1) S rfl (Try.sizeOf78 _) rfl rfl rfl rfl (by rw [rgsV_len]; omega) rfl rfl ?_
    intro w11_ S
    first | refine rw_end ?_ | (refine rw_nil ?_; show CW _ _ _ _ _ _) | refine rw_nil ?_
    repeat refine cw_seq ?_
    refine cw_region ?_
    refine rw_v (op_rng rfl (by omega)) ?_
    refine rw_v (op_pure rfl) ?_
    first | refine rw_end ?_ | (refine rw_nil ?_; show CW _ _ _ _ _ _) | refine rw_nil ?_
    refine ⟨m - 1, by omega, k + 1, l.set k ⟨V.getD k 0, V.getD k 0⟩, by omega, by simp [hl], fun i hi => ?_, ⟨rfl, rfl, rfl, rfl, rfl, rfl, ie (by omega), trivial⟩, ?_⟩
    · by_cases e : i = k
      · subst e
        rw [List.getElem?_set_self (by omega)]
        unfold sqR
        rw [show i / gw * gw + i % gw = i by rw [Nat.mul_comm]; exact Nat.div_add_mod i gw]
      · rw [List.getElem?_set_ne (fun h => e h.symm)]; exact hlk i (by omega)
    · rw [← rgsV_set (by omega)]
      exact S
  · obtain rfl : k = gw * gh := by omega
    have hac0 : acK gw 0 = gw ∧ acK gh 0 = gh := by unfold acK; simp
    have hlev : l = levK V gw gh 0 := by
      apply List.ext_getElem?
      intro i
      by_cases hi : i < gw * gh
      · rw [hlk i hi]
        unfold levK
        rw [hac0.1, hac0.2, List.getElem?_map, List.getElem?_range hi]
        rfl
      · rw [List.getElem?_eq_none (by omega), List.getElem?_eq_none (by rw [levK_len, hac0.1, hac0.2]; omega)]
    subst hlev
    have S := S.pushNil 242 2
    repeat refine cw_seq ?_
    refine cw_region ?_
    refine rw_v (op_b (b := false) rfl (decide_eq_false (by omega))) ?_
    first | refine rw_end ?_ | (refine rw_nil ?_; show CW _ _ _ _ _ _) | refine rw_nil ?_
    repeat refine cw_seq ?_
    refine cw_false rfl ?_
    repeat refine cw_seq ?_
    refine cw_exit ?_
    repeat first | refine exit_then ?_ | refine exit_inb ?_
    show CW _ _ _ _ _ _
    repeat refine cw_seq ?_
    refine cw_tri (C := (fun σ wq => CS No W [.row 242 2 none 0 0 [], .blk b_s0 242 [.int .i64 gw, .slice A_c0 (gw * gh) (gw * gh)], .row 78 2 A_c0 (gw * gh) (gw * gh) (rgsV (levK V gw gh 0)), .row 2 1 A_vs (gw * gh) c_vs (ints V), .blk b_T 239 [.int .i64 gw, .int .i64 gh, .slice none 0 0]] 0 242 2 0 [] [.int .i64 gw, .slice A_c0 (gw * gh) (gw * gh)] wq σ)) [6, 7] [0, 1, 2, 3, 4, 5, 6, 7] [8, 9, 10] (by kernel_rfl) (by kernel_rfl) (S.gr (Gr.drew _)) ?_
    simp only [pickI, pickL, List.drop_succ_cons, List.drop_zero]
    refine rs_v rfl (op_pure rfl) ?_
    refine rs_v rfl (op_pure rfl) ?_
    refine rs_v rfl (op_pure rfl) ?_
    refine rs_v rfl (op_fieldAddr Try.underlying239 rfl Try.sizeOf237 rfl rfl) ?_
    refine rs_r rfl (fun τ wq hq => op_loadB Try.underlying237 rfl rfl (hq.ok (j := 4) (by decide) rfl) rfl) ?_
    refine rs_r rfl (fun τ wq hq => op_loadAB Try.underlying242 rfl (Try.sizeOf242 _) rfl (hq.ok (j := 1) (by decide) rfl) rfl rfl) ?_
    refine rs_special rfl rfl (fun wq hq => to_buildCS hq Try.underlying237 Try.sizeOf242 Try.zeroValue242 rfl rfl rfl rfl rfl rfl) ?_
    rintro v6 w6 ⟨A6, rfl, _⟩
    refine rs_special rfl rfl (fun wq hq => to_appCS hq rfl (fun h => ⟨_, rfl⟩) Try.underlying237 info_t242 rfl rfl rfl rfl rfl rfl (by omega)) ?_
    rintro v7 w7 ⟨A7, c7, L7, rfl, _, _⟩
    refine rs_nil ?_
    rintro w8 ⟨A8_, c8_, L_st, e_st, h_st, S⟩
    cases e_st
    obtain rfl := Option.some.inj h_st
    refine rw_v (op_pure rfl) ?_
    refine rw_v (op_fieldAddr Try.underlying239 rfl Try.sizeOf237 rfl rfl) ?_
    refine rw_storeS (i := 4) S rfl (Try.sizeOf237 _) rfl rfl rfl rfl rfl rfl ?_
    intro w13_ S
    first | refine rw_end ?_ | (refine rw_nil ?_; show CW _ _ _ _ _ _) | refine rw_nil ?_
    repeat refine cw_seq ?_
    refine cw_region ?_
    iterate 3 refine rw_v (op_pure rfl) ?_
    rw [emin]
    refine rw_call rfl (slog_E mn hmn1.1 hmn1.2.1) ?_
    rintro _ w14_ ⟨rfl, g14_⟩
    have S := S.gr g14_
    rw [← eK]
    refine rw_v (op_pure rfl) ?_
    first | refine rw_end ?_ | (refine rw_nil ?_; show CW _ _ _ _ _ _) | refine rw_nil ?_
    repeat refine cw_seq ?_
    refine cw_block ?_
    repeat refine cw_seq ?_
    have hac0 : acK gw 0 * acK gh 0 = gw * gh := by unfold acK; simp
    have eg : acK gw 0 = gw := by unfold acK; simp
    have S := S.sub (.cons_cons _ (.cons _ (.cons_cons _ (.cons _ (.cons_cons _ (.slnil))))))
    have S := (S.gfam0 (el := 78) (sz := 2) (fun _ => none) (fun k => acK gw k * acK gh k) (fun _ => 0) (fun k => rgsV (levK V gw gh k))).perm_ (perm_three _ _ _ _)
    have S := (S.gfamPush rfl hac0).swap
    have ep := stV_push (k := 0) (ac := acK gw) (As := fun _ => none) (ns := fun k => acK gw k * acK gh k) (cs := fun _ => 0) (A := A_c0) (c := gw * gh)
    rw [hac0, eg] at ep
    refine cw_loop (fun m e w => ∃ (k : Nat) (Ast : Option Addr) (cst : Nat) (As : Nat → Option Addr) (cs : Nat → Nat), k + m = K ∧ SL e [(4, .int .i64 gw), (5, .int .i64 gh), (6, .pointer (some ⟨b_T, 0, none⟩)), (70, .int .i64 K), (71, .int .i64 k)] ∧
      St No W w [.row 242 2 Ast (k + 1) cst (stV (k + 1) (acK gw) As (fun k => acK gw k * acK gh k) cs), .gfam 78 2 (k + 1) As (fun k => acK gw k * acK gh k) cs (fun k => rgsV (levK V gw gh k)), .blk b_T 239 [.int .i64 gw, .int .i64 gh, .slice Ast (k + 1) cst]]) K
      ⟨0, A7, c7, _, _, by omega, ⟨rfl, rfl, rfl, rfl, rfl, trivial⟩, by rw [← ep]; exact S⟩ ?_
    clear S
    rintro m e w ⟨k, Ast, cst, As, cs, hk, hsl, S⟩
    rw [hsl.fold]
    by_cases hkn : k < K
    · obtain ⟨hf, ehf⟩ : ∃ hf, hf = 2 ^ k := ⟨_, rfl⟩
      have h2hf : 2 * hf ≤ mn := by
        have := Nat.pow_le_pow_right (show 0 < 2 by omega) (show k + 1 ≤ K by omega)
        rw [Nat.pow_succ, ← ehf] at this
        omega
      have hhf : 1 ≤ hf := by rw [ehf]; exact Nat.two_pow_pos k
      obtain ⟨ac, eac⟩ : ∃ ac, ac = acK gw (k + 1) := ⟨_, rfl⟩
      obtain ⟨dn, edn⟩ : ∃ dn, dn = acK gh (k + 1) := ⟨_, rfl⟩
      obtain ⟨aw, eaw⟩ : ∃ aw, aw = acK gw k := ⟨_, rfl⟩
      have hac : ac + 2 * hf = gw + 1 := by
        rw [eac]; unfold acK; rw [Nat.pow_succ, ← ehf]; omega
      have hdn : dn + 2 * hf = gh + 1 := by
        rw [edn]; unfold acK; rw [Nat.pow_succ, ← ehf]; omega
      have haw : aw + hf = gw + 1 := by
        rw [eaw]; unfold acK; rw [← ehf]; omega
      have hah : acK gh k + hf = gh + 1 := by
        unfold acK; rw [← ehf]; omega
      have hm2 : ac * dn ≤ 1024 * 1024 := Nat.mul_le_mul (by omega) (by omega)
      have e14 : (gw : Int) - 2 * (hf : Int) + 1 = ((ac : Nat) : Int) := by omega
      have e15 : (gh : Int) - 2 * (hf : Int) + 1 = ((dn : Nat) : Int) := by omega
      have e18 : (ac : Int) * (dn : Int) = ((ac * dn : Nat) : Int) := by push_cast; rfl
      have hsh : IntKind.i64.wrap (1 * 2 ^ (min (k : Int).toNat IntKind.i64.bits)) = (hf : Int) := by
        have e : (1 : Int) * 2 ^ (min (k : Int).toNat IntKind.i64.bits) = ((hf : Nat) : Int) := by
          rw [Int.one_mul, ehf, show min (k : Int).toNat IntKind.i64.bits = k by unfold IntKind.bits; dsimp only; omega]
          push_cast; rfl
        rw [e]
        exact IntWalk.i64_in _ (by omega)
      repeat refine cw_seq ?_
      refine cw_region ?_
      refine rw_v (op_b (b := true) rfl (decide_eq_true (by omega))) ?_
      first | refine rw_end ?_ | (refine rw_nil ?_; show CW _ _ _ _ _ _) | refine rw_nil ?_
      repeat refine cw_seq ?_
      refine cw_true rfl ?_
      repeat refine cw_seq ?_
      refine cw_skip ?_
      try show CW _ _ _ _ _ _
      repeat refine cw_seq ?_
      refine cw_block ?_
      repeat refine cw_seq ?_
      refine cw_region ?_
      iterate 2 refine rw_v (op_pure rfl) ?_
      first | refine rw_end ?_ | (refine rw_nil ?_; show CW _ _ _ _ _ _) | refine rw_nil ?_
      repeat refine cw_seq ?_
      refine cw_region ?_
      refine rw_v (op_pure rfl) ?_
      refine rw_v (op_shl (c := (hf : Int)) rfl rfl (by omega) hsh) ?_
      refine rw_v (op_pure rfl) ?_
      first | refine rw_end ?_ | (refine rw_nil ?_; show CW _ _ _ _ _ _) | refine rw_nil ?_
      repeat refine cw_seq ?_
      refine cw_region ?_
      iterate 2 refine rw_v (op_pure rfl) ?_
      refine rw_v (op_rng rfl (by omega)) ?_
      refine rw_v (op_rng rfl (by omega)) ?_
      refine rw_v (op_rng rfl (by omega)) ?_
      rw [e14]
      iterate 2 refine rw_v (op_pure rfl) ?_
      refine rw_v (op_rng rfl (by omega)) ?_
      refine rw_v (op_rng rfl (by omega)) ?_
      refine rw_v (op_rng rfl (by omega)) ?_
      rw [e15]
      iterate 2 refine rw_v (op_pure rfl) ?_
      first | refine rw_end ?_ | (refine rw_nil ?_; show CW _ _ _ _ _ _) | refine rw_nil ?_
      repeat refine cw_seq ?_
      refine cw_region ?_
      iterate 3 refine rw_v (op_pure rfl) ?_
      refine rw_v (op_rng rfl (by rw [e18]; omega)) ?_
      rw [e18]
      refine rw_makeS Try.underlying240 info_t78 rfl rfl rfl (n := 0) (c := ac * dn) (by omega) (by omega) (by omega) (by omega) S ?_
      intro A_c1 w16_ g16_ S sa_c1
      refine rw_v (op_build (pl := [(0, 1), (1, 1)]) Try.underlying242 Try.zeroValue242 (fun w => by kernel_rfl) rfl rfl) ?_
      refine rw_newB (op_alloc Try.zeroValue242 rfl) S ?_
      intro b_s1 w18_ g18_ S
      refine rw_storeSA (i := 0) S rfl (Try.sizeOf242 _) rfl rfl rfl rfl rfl rfl ?_
      intro w19_ S
      first | refine rw_end ?_ | (refine rw_nil ?_; show CW _ _ _ _ _ _) | refine rw_nil ?_
      repeat refine cw_seq ?_
      refine cw_region ?_
      iterate 2 refine rw_v (op_pure rfl) ?_
      first | refine rw_end ?_ | (refine rw_nil ?_; show CW _ _ _ _ _ _) | refine rw_nil ?_
      repeat refine cw_seq ?_
      refine cw_block ?_
      repeat refine cw_seq ?_
      have S := S.sub (.cons_cons _ (.cons_cons _ (.cons_cons _ (.cons_cons _ (.cons_cons _ (.slnil))))))
      refine cw_loop (fun m e w => ∃ (y : Nat) (A1 : Option Addr) (c1 : Nat), y + m = dn ∧ SL e [(4, .int .i64 gw), (5, .int .i64 gh), (6, .pointer (some ⟨b_T, 0, none⟩)), (12, .int .i64 k), (13, .int .i64 hf), (14, .int .i64 ac), (15, .int .i64 dn), (16, .pointer (some ⟨b_s1, 0, none⟩)), (70, .int .i64 K), (71, .int .i64 k), (92, .int .i64 dn), (93, .int .i64 y)] ∧ St No W w [.blk b_s1 242 [.int .i64 ac, .slice A1 (y * ac) c1], .row 78 2 A1 (y * ac) c1 (rgsV (preK V gw (k + 1) (y * ac))), .row 242 2 Ast (k + 1) cst (stV (k + 1) (acK gw) As (fun k => acK gw k * acK gh k) cs), .gfam 78 2 (k + 1) As (fun k => acK gw k * acK gh k) cs (fun k => rgsV (levK V gw gh k)), .blk b_T 239 [.int .i64 gw, .int .i64 gh, .slice Ast (k + 1) cst]]) dn
        ⟨0, A_c1, ac * dn, by omega, ⟨rfl, rfl, rfl, rfl, rfl, rfl, rfl, rfl, rfl, rfl, rfl, rfl, trivial⟩, by rw [Nat.zero_mul]; exact S⟩ ?_
      clear S
      rintro m1 e w ⟨y, A1, c1, hy, hsl, S⟩
      rw [hsl.fold]
      by_cases hyn : y < dn
      · skip
        repeat refine cw_seq ?_
        refine cw_region ?_
        refine rw_v (op_b (b := true) rfl (decide_eq_true (by omega))) ?_
        first | refine rw_end ?_ | (refine rw_nil ?_; show CW _ _ _ _ _ _) | refine rw_nil ?_
        repeat refine cw_seq ?_
        refine cw_true rfl ?_
        repeat refine cw_seq ?_
        refine cw_skip ?_
        try show CW _ _ _ _ _ _
        repeat refine cw_seq ?_
        refine cw_block ?_
        repeat refine cw_seq ?_
        refine cw_region ?_
        iterate 2 refine rw_v (op_pure rfl) ?_
        first | refine rw_end ?_ | (refine rw_nil ?_; show CW _ _ _ _ _ _) | refine rw_nil ?_
        repeat refine cw_seq ?_
        refine cw_region ?_
        iterate 2 refine rw_v (op_pure rfl) ?_
        first | refine rw_end ?_ | (refine rw_nil ?_; show CW _ _ _ _ _ _) | refine rw_nil ?_
        repeat refine cw_seq ?_
        refine cw_block ?_
        repeat refine cw_seq ?_
        refine cw_loop (fun m e w => ∃ (x : Nat) (A1 : Option Addr) (c1 : Nat), x + m = ac ∧ SL e [(4, .int .i64 gw), (5, .int .i64 gh), (6, .pointer (some ⟨b_T, 0, none⟩)), (12, .int .i64 k), (13, .int .i64 hf), (14, .int .i64 ac), (15, .int .i64 dn), (16, .pointer (some ⟨b_s1, 0, none⟩)), (70, .int .i64 K), (71, .int .i64 k), (92, .int .i64 dn), (17, .int .i64 y), (93, .int .i64 y), (96, .int .i64 ac), (97, .int .i64 x)] ∧ St No W w [.blk b_s1 242 [.int .i64 ac, .slice A1 (y * ac + x) c1], .row 78 2 A1 (y * ac + x) c1 (rgsV (preK V gw (k + 1) (y * ac + x))), .row 242 2 Ast (k + 1) cst (stV (k + 1) (acK gw) As (fun k => acK gw k * acK gh k) cs), .gfam 78 2 (k + 1) As (fun k => acK gw k * acK gh k) cs (fun k => rgsV (levK V gw gh k)), .blk b_T 239 [.int .i64 gw, .int .i64 gh, .slice Ast (k + 1) cst]]) ac
          ⟨0, A1, c1, by omega, ⟨rfl, rfl, rfl, rfl, rfl, rfl, rfl, rfl, rfl, rfl, rfl, rfl, rfl, rfl, rfl, trivial⟩, S⟩ ?_
        clear S
        rintro m2 e w ⟨x, A1, c1, hx, hsl, S⟩
        rw [hsl.fold]
        by_cases hxn : x < ac
        · have hra := levK_at V (gw := gw) (gh := gh) (k := k) (x := x) (y := y) (by rw [← eaw]; omega) (by omega)
          have hrb := levK_at V (gw := gw) (gh := gh) (k := k) (x := x + hf) (y := y) (by rw [← eaw]; omega) (by omega)
          have hrc := levK_at V (gw := gw) (gh := gh) (k := k) (x := x) (y := y + hf) (by rw [← eaw]; omega) (by omega)
          have hrd := levK_at V (gw := gw) (gh := gh) (k := k) (x := x + hf) (y := y + hf) (by rw [← eaw]; omega) (by omega)
          have hnk := levK_len V gw gh k
          have hst := stV_at (k := k + 1) (j := k) (ac := acK gw) (As := As) (ns := fun k => acK gw k * acK gh k) (cs := cs) (by omega)
          have hpp := preK_push V (gw := gw) (k := k + 1) y (x := x) (by rw [← eac]; exact hxn)
          rw [← eac] at hpp
          rw [← Nat.add_assoc] at hrb hrd
          have hle : y * ac + x + 1 ≤ 1024 * 1024 := by
            have := Nat.mul_le_mul_right ac (show y + 1 ≤ dn by omega)
            rw [Nat.succ_mul, Nat.mul_comm dn] at this
            omega
          have hsq : joinR (joinR (sqR V gw k x y) (sqR V gw k (x + hf) y)) (joinR (sqR V gw k x (y + hf)) (sqR V gw k (x + hf) (y + hf))) = sqR V gw (k + 1) x y := by rw [ehf]; rfl
          have ey : (y : Int) + (hf : Int) = ((y + hf : Nat) : Int) := by push_cast; rfl
          generalize sqR V gw k x y = ra at *
          generalize sqR V gw k (x + hf) y = rb at *
          generalize sqR V gw k x (y + hf) = rc at *
          generalize sqR V gw k (x + hf) (y + hf) = rd_ at *
          generalize sqR V gw (k + 1) x y = rn at *
          subst eaw
          repeat refine cw_seq ?_
          refine cw_region ?_
          refine rw_v (op_b (b := true) rfl (decide_eq_true (by omega))) ?_
          first | refine rw_end ?_ | (refine rw_nil ?_; show CW _ _ _ _ _ _) | refine rw_nil ?_
          repeat refine cw_seq ?_
          refine cw_true rfl ?_
          repeat refine cw_seq ?_
          refine cw_skip ?_
          try show CW _ _ _ _ _ _
          repeat refine cw_seq ?_
          refine cw_block ?_
          repeat refine cw_seq ?_
          refine cw_region ?_
          iterate 2 refine rw_v (op_pure rfl) ?_
          first | refine rw_end ?_ | (refine rw_nil ?_; show CW _ _ _ _ _ _) | refine rw_nil ?_
          repeat refine cw_seq ?_
          refine cw_tri (C := (fun σ wq => CS No W [.blk b_s1 242 [.int .i64 ac, .slice A1 (y * ac + x) c1], .row 78 2 A1 (y * ac + x) c1 (rgsV (preK V gw (k + 1) (y * ac + x))), .row 242 2 Ast (k + 1) cst (stV (k + 1) (acK gw) As (fun k => acK gw k * acK gh k) cs), .gfam 78 2 (k + 1) As (fun k => acK gw k * acK gh k) cs (fun k => rgsV (levK V gw gh k)), .blk b_T 239 [.int .i64 gw, .int .i64 gh, .slice Ast (k + 1) cst]] 1 78 2 (y * ac + x) (rgsV (preK V gw (k + 1) (y * ac + x))) (joinR (joinR ra rb) (joinR rc rd_)).cells wq σ)) [17, 18] [0, 1, 2, 3, 4, 5, 6, 7, 8, 9, 10, 11, 12, 13, 14, 15, 16, 17, 18] [19, 20] (by kernel_rfl) (by kernel_rfl) (S.gr (Gr.drew _)) ?_
          simp only [pickI, pickL, List.drop_succ_cons, List.drop_zero]
          refine rs_v rfl (op_fieldAddr Try.underlying242 rfl Try.sizeOf240 rfl rfl) ?_
          refine rs_r rfl (fun τ wq hq => op_loadB Try.underlying240 rfl rfl (hq.ok (j := 0) (by decide) rfl) rfl) ?_
          refine rs_v rfl (op_pure rfl) ?_
          refine rs_v rfl (op_pure rfl) ?_
          refine rs_v rfl (op_pure rfl) ?_
          refine rs_v rfl (op_pure rfl) ?_
          refine rs_v rfl (op_pure rfl) ?_
          refine rs_call rfl rfl (fun τ wq hq => (square_E b_T (k + 1) cst k (acK gw k) (acK gw k * acK gh k) (cs k) x y hf 0 Ast (As k) _ _ _ (levK V gw gh k) ra rb wq (hq.ok (j := 4) (by decide) rfl) (Row.rd (hq.ok (j := 2) (by decide) rfl)) (by omega) hst (hq.gfamRd (j := 3) (by decide) rfl (by omega)) hnk (by omega) (by omega) (by omega) (by omega) (by omega) hra hrb).mono (fun _ _ ⟨hv, hg⟩ => ⟨hv, hq.gr hg⟩)) ?_
          refine rs_v rfl (op_pure rfl) ?_
          refine rs_v rfl (op_pure rfl) ?_
          refine rs_v rfl (op_pure rfl) ?_
          refine rs_v rfl (op_pure rfl) ?_
          refine rs_v rfl (op_pure rfl) ?_
          refine rs_v rfl (op_rng rfl (by omega)) ?_
          rw [ey]
          refine rs_v rfl (op_pure rfl) ?_
          refine rs_call rfl rfl (fun τ wq hq => (square_E b_T (k + 1) cst k (acK gw k) (acK gw k * acK gh k) (cs k) x (y + hf) hf 0 Ast (As k) _ _ _ (levK V gw gh k) rc rd_ wq (hq.ok (j := 4) (by decide) rfl) (Row.rd (hq.ok (j := 2) (by decide) rfl)) (by omega) hst (hq.gfamRd (j := 3) (by decide) rfl (by omega)) hnk (by omega) (by omega) (by omega) (by omega) (by omega) hrc hrd).mono (fun _ _ ⟨hv, hg⟩ => ⟨hv, hq.gr hg⟩)) ?_
          refine rs_call rfl rfl (fun τ wq hq => (sjoin_E (joinR ra rb) (joinR rc rd_) wq).mono (fun _ _ ⟨hv, hg⟩ => ⟨hv, hq.gr hg⟩)) ?_
          refine rs_special rfl rfl (fun wq hq => to_buildCS hq Try.underlying240 Try.sizeOf78 Try.zeroValue78 rfl rfl rfl rfl rfl rfl) ?_
          rintro v6 w6 ⟨A6, rfl, _⟩
          refine rs_special rfl rfl (fun wq hq => to_appCS hq rfl (fun h => ⟨_, rfl⟩) Try.underlying240 info_t78 rfl rfl rfl rfl rfl rfl (by omega)) ?_
          rintro v7 w7 ⟨A10, c10, L10, rfl, _, _⟩
          refine rs_nil ?_
          rintro w8 ⟨A9_, c9_, L9_, e9_, h9_, S⟩
          cases e9_
          obtain rfl := Option.some.inj h9_
          refine rw_v (op_fieldAddr Try.underlying242 rfl Try.sizeOf240 rfl rfl) ?_
          refine rw_storeS (i := 0) S rfl (Try.sizeOf240 _) rfl rfl rfl rfl rfl rfl ?_
          intro w21_ S
          first | refine rw_end ?_ | (refine rw_nil ?_; show CW _ _ _ _ _ _) | refine rw_nil ?_
          repeat refine cw_seq ?_
          refine cw_region ?_
          refine rw_v (op_rng rfl (by omega)) ?_
          refine rw_v (op_pure rfl) ?_
          first | refine rw_end ?_ | (refine rw_nil ?_; show CW _ _ _ _ _ _) | refine rw_nil ?_
          refine ⟨m2 - 1, by omega, x + 1, A10, c10, by omega, ⟨rfl, rfl, rfl, rfl, rfl, rfl, rfl, rfl, rfl, rfl, rfl, rfl, rfl, rfl, ie (by omega), trivial⟩, ?_⟩
          rw [← Nat.add_assoc, ← hpp, rgsV_push, ← hsq]
          exact S
        · have ex : x = ac := by omega
          rw [ex] at S
          repeat refine cw_seq ?_
          refine cw_region ?_
          refine rw_v (op_b (b := false) rfl (decide_eq_false (by omega))) ?_
          first | refine rw_end ?_ | (refine rw_nil ?_; show CW _ _ _ _ _ _) | refine rw_nil ?_
          repeat refine cw_seq ?_
          refine cw_false rfl ?_
          repeat refine cw_seq ?_
          refine cw_exit ?_
          repeat first | refine exit_then ?_ | refine exit_inb ?_
          show CW _ _ _ _ _ _
          repeat refine cw_seq ?_
          refine cw_region ?_
          refine rw_v (op_rng rfl (by omega)) ?_
          refine rw_v (op_pure rfl) ?_
          first | refine rw_end ?_ | (refine rw_nil ?_; show CW _ _ _ _ _ _) | refine rw_nil ?_
          exact ⟨m1 - 1, by omega, y + 1, A1, c1, by omega, ⟨rfl, rfl, rfl, rfl, rfl, rfl, rfl, rfl, rfl, rfl, rfl, ie (by omega), trivial⟩, by rw [Nat.succ_mul]; exact S⟩
      · have ey : y = dn := by omega
        have en : y * ac = acK gw (k + 1) * acK gh (k + 1) := by rw [ey, eac, edn, Nat.mul_comm]
        have hlv : preK V gw (k + 1) (y * ac) = levK V gw gh (k + 1) := by rw [en]; rfl
        rw [hlv, en] at S
        repeat refine cw_seq ?_
        refine cw_region ?_
        refine rw_v (op_b (b := false) rfl (decide_eq_false (by omega))) ?_
        first | refine rw_end ?_ | (refine rw_nil ?_; show CW _ _ _ _ _ _) | refine rw_nil ?_
        repeat refine cw_seq ?_
        refine cw_false rfl ?_
        repeat refine cw_seq ?_
        refine cw_exit ?_
        repeat first | refine exit_then ?_ | refine exit_inb ?_
        show CW _ _ _ _ _ _
        repeat refine cw_seq ?_
        refine cw_tri (C := (fun σ wq => CS No W [.blk b_s1 242 [.int .i64 ac, .slice A1 (acK gw (k + 1) * acK gh (k + 1)) c1], .row 78 2 A1 (acK gw (k + 1) * acK gh (k + 1)) c1 (rgsV (levK V gw gh (k + 1))), .row 242 2 Ast (k + 1) cst (stV (k + 1) (acK gw) As (fun k => acK gw k * acK gh k) cs), .gfam 78 2 (k + 1) As (fun k => acK gw k * acK gh k) cs (fun k => rgsV (levK V gw gh k)), .blk b_T 239 [.int .i64 gw, .int .i64 gh, .slice Ast (k + 1) cst]] 2 242 2 (k + 1) (stV (k + 1) (acK gw) As (fun k => acK gw k * acK gh k) cs) [.int .i64 ac, .slice A1 (acK gw (k + 1) * acK gh (k + 1)) c1] wq σ)) [6, 7] [0, 1, 2, 3, 4, 5, 6, 7] [8, 9, 10] (by kernel_rfl) (by kernel_rfl) (S.gr (Gr.drew _)) ?_
        simp only [pickI, pickL, List.drop_succ_cons, List.drop_zero]
        refine rs_v rfl (op_pure rfl) ?_
        refine rs_v rfl (op_pure rfl) ?_
        refine rs_v rfl (op_pure rfl) ?_
        refine rs_v rfl (op_fieldAddr Try.underlying239 rfl Try.sizeOf237 rfl rfl) ?_
        refine rs_r rfl (fun τ wq hq => op_loadB Try.underlying237 rfl rfl (hq.ok (j := 4) (by decide) rfl) rfl) ?_
        refine rs_r rfl (fun τ wq hq => op_loadAB Try.underlying242 rfl (Try.sizeOf242 _) rfl (hq.ok (j := 0) (by decide) rfl) rfl rfl) ?_
        refine rs_special rfl rfl (fun wq hq => to_buildCS hq Try.underlying237 Try.sizeOf242 Try.zeroValue242 rfl rfl rfl rfl rfl rfl) ?_
        rintro v6 w6 ⟨A6, rfl, _⟩
        refine rs_special rfl rfl (fun wq hq => to_appCS hq rfl (fun h => ⟨_, rfl⟩) Try.underlying237 info_t242 rfl rfl rfl rfl rfl rfl (by omega)) ?_
        rintro v7 w7 ⟨A10, c10, L10, rfl, _, _⟩
        refine rs_nil ?_
        rintro w8 ⟨A9_, c9_, L9_, e9_, h9_, S⟩
        cases e9_
        obtain rfl := Option.some.inj h9_
        refine rw_v (op_pure rfl) ?_
        refine rw_v (op_fieldAddr Try.underlying239 rfl Try.sizeOf237 rfl rfl) ?_
        refine rw_storeS (i := 4) S rfl (Try.sizeOf237 _) rfl rfl rfl rfl rfl rfl ?_
        intro w23_ S
        first | refine rw_end ?_ | (refine rw_nil ?_; show CW _ _ _ _ _ _) | refine rw_nil ?_
        repeat refine cw_seq ?_
        refine cw_region ?_
        refine rw_v (op_rng rfl (by omega)) ?_
        refine rw_v (op_pure rfl) ?_
        first | refine rw_end ?_ | (refine rw_nil ?_; show CW _ _ _ _ _ _) | refine rw_nil ?_
        have S := S.sub (.cons _ (.cons_cons _ (.cons_cons _ (.cons_cons _ (.cons_cons _ (.slnil))))))
        have ep := stV_push (k := k + 1) (ac := acK gw) (As := As) (ns := fun k => acK gw k * acK gh k) (cs := cs) (A := A1) (c := c1)
        rw [eac] at S
        exact ⟨m - 1, by omega, k + 1, A10, c10, addO As (k + 1) A1, addO cs (k + 1) c1, by omega, ⟨rfl, rfl, rfl, rfl, ie (by omega), trivial⟩, by
          rw [← ep]
          exact ((S.perm_ ((List.Perm.swap _ _ _).cons _)).gfamPush rfl rfl).swap⟩
    · have ek : k = K := by omega
      rw [ek] at S
      repeat refine cw_seq ?_
      refine cw_region ?_
      refine rw_v (op_b (b := false) rfl (decide_eq_false (by omega))) ?_
      first | refine rw_end ?_ | (refine rw_nil ?_; show CW _ _ _ _ _ _) | refine rw_nil ?_
      repeat refine cw_seq ?_
      refine cw_false rfl ?_
      repeat refine cw_seq ?_
      refine cw_exit ?_
      repeat first | refine exit_then ?_ | refine exit_inb ?_
      show CW _ _ _ _ _ _
      repeat refine cw_seq ?_
      refine cw_region ?_
      iterate 3 refine rw_v (op_pure rfl) ?_
      first | refine rw_end ?_ | (refine rw_nil ?_; show CW _ _ _ _ _ _) | refine rw_nil ?_
      repeat refine cw_seq ?_
      refine cw_ret ?_
      repeat first | refine ret_then ?_ | refine ret_inb ?_
      exact res2 rfl rfl ⟨b_T, Ast, cst, As, cs, rfl, S⟩
end
end Go.Proofs.Ytbcgbcipigcbhaa
