/- sparse.Build: contract. -/
import Derived.Test.YtbcgbcipigcbhaaGreatKzI
import Derived.Test.YtbcgbcipigcbhaaGreatKzG
import Derived.Test.YtbcgbcipigcbhaaGreatKzH
namespace Go.Proofs.YtbcgbcipigcbhaaGreat
open Go.RowKit
set_option linter.unusedVariables false
set_option linter.unusedSimpArgs false
set_option maxRecDepth 100000

theorem rgsV_push (l : List RG) (r : RG) : rgsV (l ++ [r]) = rgsV l ++ r.cells := by simp [rgsV]
theorem rgsV_set {l : List RG} {k : Nat} {r : RG} (h : k < l.length) : (rgsV l).take (k * 2) ++ r.cells ++ (rgsV l).drop (k * 2 + 2) = rgsV (l.set k r) := by
  have := flatMap_put (f := RG.cells) (m := 2) (fun _ => rfl) (l := l) (k := k) (a := l[k]) (a' := r) (d := 0) (cs := r.cells) (List.getElem?_eq_getElem h) (by show 0 + 2 ≤ 2; omega) (by simp [RG.cells])
  exact this
/-! ### Rows of several lengths -/
def HA.gfam (el sz k : Nat) (As : Nat → Option Addr) (ns cs : Nat → Nat) (xs : Nat → List Value) : HA :=
  ⟨fun g => ∃ t, t < k ∧ ownA (As t) g, fun w => ∀ t, t < k → Row w el sz (As t) (ns t) (cs t) (xs t), fun _ _ h _ hR t ht => (hR t ht).keep (fun g hg => h g ⟨t, ht, hg⟩), fun _ hR _ ⟨t, ht, hg⟩ => (hR t ht).lt hg⟩
section
variable {F : Nat → Prop} {W w : World} {L : List HA} {el sz k n c i : Nat} {As : Nat → Option Addr} {ns cs : Nat → Nat} {xs : Nat → List Value} {A : Option Addr} {l : List Value}
theorem St.gfam0 (S : St F W w L) (As : Nat → Option Addr) (ns cs : Nat → Nat) (xs : Nat → List Value) : St F W w (.gfam el sz 0 As ns cs xs :: L) :=
  S.push (Gr.refl w) (h := .gfam el sz 0 As ns cs xs) (fun t ht => by omega) (fun g ⟨t, ht, _⟩ => by omega)
theorem St.grow_ (S : St F W w L) (hi : getO L i = some (.gfam el sz k As ns cs xs)) {t : Nat} (ht : t < k) : Row w el sz (As t) (ns t) (cs t) (xs t) := S.ok hi t ht
theorem St.gfamPush (S : St F W w (.row el sz A n c l :: .gfam el sz k As ns cs xs :: L)) (hl : xs k = l) (hn : ns k = n) : St F W w (.gfam el sz (k + 1) (addO As k A) ns (addO cs k c) xs :: L) := by
  have h1 := S.sep.1
  have h2 := S.sep.2.2.1
  have h3 := S.sep.2.2.2
  refine ⟨S.fr, ⟨fun t ht => ?_, fun g ⟨t, ht, e⟩ => ?_⟩, fun g ⟨t, ht, e⟩ h hh => ?_, h3.2⟩
  · by_cases e : t = k
    · subst e; rw [addO_at, addO_at, hl, hn]; exact h1.1
    · rw [addO_lt (by omega), addO_lt (by omega)]; exact h2.1 t (by omega)
  · by_cases ek : t = k
    · subst ek; rw [addO_at] at e; exact h1.2 g e
    · rw [addO_lt (by omega)] at e; exact h2.2 g ⟨t, by omega, e⟩
  · by_cases ek : t = k
    · subst ek; rw [addO_at] at e; exact S.sep.2.1 g e h (List.mem_cons_of_mem _ hh)
    · rw [addO_lt (by omega)] at e; exact h3.1 g ⟨t, by omega, e⟩ h hh
end
theorem CS.gfamRd {F : Nat → Prop} {W wq : World} {L : List HA} {i j el' k' n' el sz k t : Nat} {As : Nat → Option Addr} {ns cs : Nat → Nat} {xs : Nat → List Value} {xs' ys' τ : List Value} (hq : CS F W L i el' k' n' xs' ys' wq τ) (hji : j ≠ i) (hj : getO L j = some (.gfam el sz k As ns cs xs)) (ht : t < k) : Rd wq (As t) (xs t) := by
  have h := hq.ok hji hj
  exact Row.rd (h t ht)
/-- the steps -/
def stV (k : Nat) (ac : Nat → Nat) (As : Nat → Option Addr) (ns cs : Nat → Nat) : List Value := (List.range k).flatMap fun j => [.int .i64 (ac j : Nat), .slice (As j) (ns j) (cs j)]
theorem stV_len (k : Nat) (ac : Nat → Nat) (As : Nat → Option Addr) (ns cs : Nat → Nat) : (stV k ac As ns cs).length = k * 2 := by
  have := flatMap_len (f := fun j => [Value.int .i64 (ac j : Nat), .slice (As j) (ns j) (cs j)]) (m := 2) (fun _ => rfl) (List.range k)
  rw [List.length_range] at this
  exact this
theorem stV_at {k j : Nat} {ac : Nat → Nat} {As : Nat → Option Addr} {ns cs : Nat → Nat} (h : j < k) : ((stV k ac As ns cs).drop (j * 2)).take 2 = [.int .i64 (ac j : Nat), .slice (As j) (ns j) (cs j)] :=
  flatMap_one (f := fun j => [Value.int .i64 (ac j : Nat), .slice (As j) (ns j) (cs j)]) (fun _ => rfl) (List.getElem?_range h)
theorem stV_push {k c : Nat} {ac : Nat → Nat} {As : Nat → Option Addr} {ns cs : Nat → Nat} {A : Option Addr} : stV k ac As ns cs ++ [.int .i64 (ac k : Nat), .slice A (ns k) c] = stV (k + 1) ac (addO As k A) ns (addO cs k c) := by
  unfold stV
  rw [List.range_succ, List.flatMap_append, List.flatMap_singleton, addO_at, addO_at]
  congr 1
  rw [List.flatMap_def, List.flatMap_def]
  congr 1
  exact List.map_congr_left fun t ht => by rw [addO_lt (List.mem_range.1 ht), addO_lt (List.mem_range.1 ht)]
/-- a table of ranges in memory -/
def SparseAt (w : World) (tb gw gh : Nat) (V : List Int) : Prop := ∃ Ao co As cs, Blk w tb 124 [.int .i64 gw, .int .i64 gh, .slice Ao (Nat.log2 (min gw gh) + 1) co] ∧
  Row w 127 2 Ao (Nat.log2 (min gw gh) + 1) co (stV (Nat.log2 (min gw gh) + 1) (acK gw) As (fun k => acK gw k * acK gh k) cs) ∧
  ∀ k, k < Nat.log2 (min gw gh) + 1 → Row w 41 2 (As k) (acK gw k * acK gh k) (cs k) (rgsV (levK V gw gh k))
def SpL (tb : Nat) (Ao : Option Addr) (co : Nat) (As : Nat → Option Addr) (cs : Nat → Nat) (gw gh : Nat) (V : List Int) : List HA :=
  [.row 127 2 Ao (Nat.log2 (min gw gh) + 1) co (stV (Nat.log2 (min gw gh) + 1) (acK gw) As (fun k => acK gw k * acK gh k) cs),
   .gfam 41 2 (Nat.log2 (min gw gh) + 1) As (fun k => acK gw k * acK gh k) cs (fun k => rgsV (levK V gw gh k)), .blk tb 124 [.int .i64 gw, .int .i64 gh, .slice Ao (Nat.log2 (min gw gh) + 1) co]]
theorem SparseAt.gr {w w' : World} {tb gw gh : Nat} {V : List Int} (h : SparseAt w tb gw gh V) (g : Gr w w') : SparseAt w' tb gw gh V := by
  obtain ⟨Ao, co, As, cs, h1, h2, h3⟩ := h
  exact ⟨Ao, co, As, cs, h1.gr g, h2.gr g, fun y hy => (h3 y hy).gr g⟩
def preK (V : List Int) (gw k n : Nat) : List RG := (List.range n).map fun i => sqR V gw k (i % acK gw k) (i / acK gw k)
theorem preK_len (V : List Int) (gw k n : Nat) : (preK V gw k n).length = n := by simp [preK]
theorem preK_push (V : List Int) {gw k x : Nat} (y : Nat) (hx : x < acK gw k) : preK V gw k (y * acK gw k + x) ++ [sqR V gw k x y] = preK V gw k (y * acK gw k + x + 1) := by
  have h1 := cell_split (Y := y) hx
  unfold preK
  rw [List.range_succ, List.map_append, List.map_singleton, h1.1, h1.2]
section
variable {W : World} {A : Option Addr} {p gw gh cap : Nat} {cc : Nat → Int} {bs : Nat → Nat} {Rs : Nat → Option Nat}
set_option maxHeartbeats 8000000 in
theorem sbuild_E (hG : GridAt W p gw gh cc A cap bs Rs) : Fn Tryz.prog 51 [.pointer (some ⟨p, 0, none⟩)] W
    (fun v w' => ∃ tb Ao co As cs, v = .tuple #[.pointer (some ⟨tb, 0, none⟩), .int .i64 0] ∧ St No W w' (SpL tb Ao co As cs gw gh (gridL gw gh cc))) := by
  have hw := hG.sw
  have hh := hG.sh
  have hm : 1 ≤ gw * gh ∧ gw * gh ≤ 1024 * 1024 := ⟨Nat.mul_le_mul hw.1 hh.1, Nat.mul_le_mul hw.2 hh.2⟩
  have e1 : ((gw : Int) - 1) = ((gw - 1 : Nat) : Int) := by omega
  have e2 : ((gh : Int) - 1) = ((gh - 1 : Nat) : Int) := by omega
  have hV := gridL_len gw gh cc
  have hval : ∀ w, Gr W w → Fn Tryz.prog 11 [.pointer (some ⟨p, 0, none⟩), .agg #[.int .i64 0, .int .i64 0, .int .i64 (gw - 1), .int .i64 (gh - 1)]] w (RetNew (fun v => .tuple #[v, .int .i64 0]) 2 1 (gw * gh) (ints (gridL gw gh cc)) w) := fun w g => by
    have := gvalues_E (W := w) 0 0 (gw - 1) (gh - 1) (by omega) (by omega) (hG.gr g)
    rw [← e1, ← e2, show gw - 1 + 1 - 0 = gw by omega, show gh - 1 + 1 - 0 = gh by omega, rectV_all, Nat.mul_comm gh gw] at this
    exact this
  generalize gridL gw gh cc = V at *
  have emin : min (gw : Int) gh = ((min gw gh : Nat) : Int) := by omega
  obtain ⟨mn, hmn⟩ : ∃ mn, mn = min gw gh := ⟨_, rfl⟩
  have hmn1 : 1 ≤ mn ∧ mn ≤ 1024 ∧ mn ≤ gw ∧ mn ≤ gh := by omega
  have hK : 2 ^ Nat.log2 mn ≤ mn := Nat.log2_self_le (by omega)
  have hK10 : Nat.log2 mn ≤ 10 := by
    by_cases h : Nat.log2 mn ≤ 10
    · exact h
    · have := Nat.pow_le_pow_right (show 0 < 2 by omega) (show 11 ≤ Nat.log2 mn by omega)
      omega
  unfold SpL
  rw [← hmn] at emin ⊢
  obtain ⟨K, eK⟩ : ∃ K, K = Nat.log2 mn := ⟨_, rfl⟩
  rw [← eK] at hK hK10 ⊢
  have S := St.start W
  refine Fn_enter Tryz.func51 rfl Tryz.results51 Tryz.ntmps51 (by kernel_rfl) (by kernel_rfl) ?_
  repeat refine cw_seq ?_
  refine cw_region ?_
  iterate 2 refine rw_v (op_pure rfl) ?_
  first | refine rw_end ?_ | (refine rw_nil ?_; show CW _ _ _ _ _ _) | refine rw_nil ?_
  repeat refine cw_seq ?_
  refine cw_region ?_
  refine rw_v (op_pure rfl) ?_
  refine rw_v (op_nilp Tryz.underlying28 rfl rfl) ?_
  first | refine rw_end ?_ | (refine rw_nil ?_; show CW _ _ _ _ _ _) | refine rw_nil ?_
  repeat refine cw_seq ?_
  refine cw_false rfl ?_
  repeat refine cw_seq ?_
  refine cw_skip ?_
  try show CW _ _ _ _ _ _
  repeat refine cw_seq ?_
  refine cw_region ?_
  refine rw_v (op_pure rfl) ?_
  refine rw_call rfl (gsize_E p gw gh _ W (hG.top.gr S.out)) ?_
  rintro _ w1_ ⟨rfl, g1_⟩
  have S := S.gr g1_
  iterate 5 refine rw_v (op_pure rfl) ?_
  first | refine rw_end ?_ | (refine rw_nil ?_; show CW _ _ _ _ _ _) | refine rw_nil ?_
  repeat refine cw_seq ?_
  refine cw_region ?_
  iterate 2 refine rw_v (op_pure rfl) ?_
  refine rw_v (op_build (pl := [(0, 1), (1, 1), (2, 1)]) Tryz.underlying124 Tryz.zeroValue124 (fun w => by kernel_rfl) rfl rfl) ?_
  refine rw_newB (op_box rfl) S ?_
  intro b_T w3_ g3_ S
  refine rw_v (op_pure rfl) ?_
  first | refine rw_end ?_ | (refine rw_nil ?_; show CW _ _ _ _ _ _) | refine rw_nil ?_
  repeat refine cw_seq ?_
  refine cw_region ?_
  iterate 2 refine rw_v (op_pure rfl) ?_
  refine rw_call rfl (gall_E p gw gh hw.2 hh.2 _ w3_ (hG.top.gr S.out)) ?_
  rintro _ w4_ ⟨rfl, g4_⟩
  have S := S.gr g4_
  refine rw_call rfl (hval w4_ S.out) ?_
  rintro _ w5_ ⟨A_vs, c_vs, rfl, hR_vs, hf_vs, g5_⟩
  have S := S.pushRow hR_vs hf_vs g5_
  iterate 5 refine rw_v (op_pure rfl) ?_
  first | refine rw_end ?_ | (refine rw_nil ?_; show CW _ _ _ _ _ _) | refine rw_nil ?_
  repeat refine cw_seq ?_
  refine cw_region ?_
  iterate 2 refine rw_v (op_pure rfl) ?_
  refine rw_v (op_len Tryz.underlying22 rfl) ?_
  refine rw_makeS Tryz.underlying125 info_t41 rfl rfl rfl (n := gw * gh) (c := gw * gh) (by omega) (by omega) (by omega) (by omega) S ?_
  intro A_c0 w7_ g7_ S sa_c0
  refine rw_v (op_build (pl := [(0, 1), (1, 1)]) Tryz.underlying127 Tryz.zeroValue127 (fun w => by kernel_rfl) rfl rfl) ?_
  refine rw_newB (op_alloc Tryz.zeroValue127 rfl) S ?_
  intro b_s0 w9_ g9_ S
  refine rw_storeSA (i := 0) S rfl (Tryz.sizeOf127 _) rfl rfl rfl rfl rfl rfl ?_
  intro w10_ S
  first | refine rw_end ?_ | (refine rw_nil ?_; show CW _ _ _ _ _ _) | refine rw_nil ?_
  repeat refine cw_seq ?_
  refine cw_region ?_
  refine rw_v (op_pure rfl) ?_
  refine rw_v (op_len Tryz.underlying22 rfl) ?_
  refine rw_v (op_pure rfl) ?_
  first | refine rw_end ?_ | (refine rw_nil ?_; show CW _ _ _ _ _ _) | refine rw_nil ?_
  repeat refine cw_seq ?_
  refine cw_block ?_
  repeat refine cw_seq ?_
  refine cw_loop (fun m e w => ∃ (k : Nat) (l : List RG), k + m = gw * gh ∧ l.length = gw * gh ∧ (∀ i, i < k → l[i]? = some (sqR V gw 0 (i % gw) (i / gw))) ∧ SL e [(4, .int .i64 gw), (5, .int .i64 gh), (6, .pointer (some ⟨b_T, 0, none⟩)), (9, .pointer (some ⟨b_s0, 0, none⟩)), (42, .slice A_vs (gw * gh) c_vs), (43, .int .i64 (gw * gh : Nat)), (44, .int .i64 k)] ∧
    St No W w [.blk b_s0 127 [.int .i64 gw, .slice A_c0 (gw * gh) (gw * gh)], .row 41 2 A_c0 (gw * gh) (gw * gh) (rgsV l), .row 2 1 A_vs (gw * gh) c_vs (ints V), .blk b_T 124 [.int .i64 gw, .int .i64 gh, .slice none 0 0]]) (gw * gh)
    ⟨0, List.replicate (gw * gh) ⟨0, 0⟩, by omega, by simp, fun i hi => by omega, ⟨rfl, rfl, rfl, rfl, rfl, rfl, rfl, trivial⟩, by
      have e0 : (List.replicate (gw * gh) [Value.int .i64 0, Value.int .i64 0]).flatten = rgsV (List.replicate (gw * gh) ⟨0, 0⟩) := by
        unfold rgsV
        rw [List.flatMap_def, List.map_replicate]
        rfl
      rw [← e0]; exact S⟩ ?_
  clear S
  rintro m e w ⟨k, l, hk, hl, hlk, hsl, S⟩
  rw [hsl.fold]
  have sa_vs : 0 < gw * gh → SomeA A_vs := fun h => (S.row (i := 2) rfl).someA h
  have sa_vs := sa_vs (by omega)
  have sa_c0 : 0 < gw * gh → SomeA A_c0 := fun h => (S.row (i := 1) rfl).someA h
  have sa_c0 := sa_c0 (by omega)
  by_cases hkn : k < gw * gh
  · have hgv : (ints V)[(k : Int).toNat * 1]? = some (.int .i64 (V.getD k 0)) := by rw [Nat.mul_one, Int.toNat_natCast]; exact ints_get (getD_at (by omega))
    repeat refine cw_seq ?_
    refine cw_region ?_
    refine rw_v (op_b (b := true) rfl (decide_eq_true (by omega))) ?_
    first | refine rw_end ?_ | (refine rw_nil ?_; show CW _ _ _ _ _ _) | refine rw_nil ?_
    repeat refine cw_seq ?_
    refine cw_true rfl ?_
    repeat refine cw_seq ?_
    refine cw_skip ?_
    try show CW _ _ _ _ _ _
    repeat refine cw_seq ?_
    refine cw_block ?_
    repeat refine cw_seq ?_
    refine cw_region ?_
    refine rw_v (op_pure rfl) ?_
    refine rw_v (op_idx Tryz.underlying22 Tryz.sizeOf2 rfl rfl sa_vs (by omega) (by omega)) ?_
    refine rw_r (op_ldR Tryz.underlying2 rfl rfl (S.rd (i := 2) rfl) hgv) ?_
    iterate 2 refine rw_v (op_pure rfl) ?_
    first | refine rw_end ?_ | (refine rw_nil ?_; show CW _ _ _ _ _ _) | refine rw_nil ?_
    repeat refine cw_seq ?_
    refine cw_region ?_
    refine rw_v (op_fieldAddr Tryz.underlying127 rfl Tryz.sizeOf125 rfl rfl) ?_
    refine rw_r (op_loadB Tryz.underlying125 rfl rfl (S.blk (i := 0) rfl) rfl) ?_
    iterate 3 refine rw_v (op_pure rfl) ?_
    refine rw_v (op_build (pl := [(0, 1), (1, 1)]) Tryz.underlying41 Tryz.zeroValue41 (fun w => by kernel_rfl) rfl rfl) ?_
    refine rw_v (op_idx Tryz.underlying125 Tryz.sizeOf41 rfl rfl sa_c0 (by omega) (by omega)) ?_
    refine rw_storeRA (i := 1) S rfl (Tryz.sizeOf41 _) rfl rfl rfl rfl (by rw [rgsV_len]; omega) rfl rfl ?_
    intro w11_ S
    first | refine rw_end ?_ | (refine rw_nil ?_; show CW _ _ _ _ _ _) | refine rw_nil ?_
    repeat refine cw_seq ?_
    refine cw_region ?_
    refine rw_v (op_rng rfl (by omega)) ?_
    refine rw_v (op_pure rfl) ?_
    first | refine rw_end ?_ | (refine rw_nil ?_; show CW _ _ _ _ _ _) | refine rw_nil ?_
    refine ⟨m - 1, by omega, k + 1, l.set k ⟨V.getD k 0, V.getD k 0⟩, by omega, by simp [hl], fun i hi => ?_, ⟨rfl, rfl, rfl, rfl, rfl, rfl, ie (by omega), trivial⟩, ?_⟩
    · by_cases e : i = k
      · subst e
        rw [List.getElem?_set_self (by omega)]
        unfold sqR
        rw [show i / gw * gw + i % gw = i by rw [Nat.mul_comm]; exact Nat.div_add_mod i gw]
      · rw [List.getElem?_set_ne (fun h => e h.symm)]; exact hlk i (by omega)
    · rw [← rgsV_set (by omega)]
      exact S
  · obtain rfl : k = gw * gh := by omega
    have hac0 : acK gw 0 = gw ∧ acK gh 0 = gh := by unfold acK; simp
    have hlev : l = levK V gw gh 0 := by
      apply List.ext_getElem?
      intro i
      by_cases hi : i < gw * gh
      · rw [hlk i hi]
        unfold levK
        rw [hac0.1, hac0.2, List.getElem?_map, List.getElem?_range hi]
        rfl
      · rw [List.getElem?_eq_none (by omega), List.getElem?_eq_none (by rw [levK_len, hac0.1, hac0.2]; omega)]
    subst hlev
    have S := S.pushNil 127 2
    repeat refine cw_seq ?_
    refine cw_region ?_
    refine rw_v (op_b (b := false) rfl (decide_eq_false (by omega))) ?_
    first | refine rw_end ?_ | (refine rw_nil ?_; show CW _ _ _ _ _ _) | refine rw_nil ?_
    repeat refine cw_seq ?_
    refine cw_false rfl ?_
    repeat refine cw_seq ?_
    refine cw_exit ?_
    repeat first | refine exit_then ?_ | refine exit_inb ?_
    show CW _ _ _ _ _ _
    repeat refine cw_seq ?_
    refine cw_tri (C := (fun σ wq => CS No W [.row 127 2 none 0 0 [], .blk b_s0 127 [.int .i64 gw, .slice A_c0 (gw * gh) (gw * gh)], .row 41 2 A_c0 (gw * gh) (gw * gh) (rgsV (levK V gw gh 0)), .row 2 1 A_vs (gw * gh) c_vs (ints V), .blk b_T 124 [.int .i64 gw, .int .i64 gh, .slice none 0 0]] 0 127 2 0 [] [.int .i64 gw, .slice A_c0 (gw * gh) (gw * gh)] wq σ)) [6, 7] [0, 1, 2, 3, 4, 5, 6, 7] [8, 9, 10] (by kernel_rfl) (by kernel_rfl) (S.gr (Gr.drew _)) ?_
    simp only [pickI, pickL, List.drop_succ_cons, List.drop_zero]
    refine rs_v rfl (op_pure rfl) ?_
    refine rs_v rfl (op_pure rfl) ?_
    refine rs_v rfl (op_pure rfl) ?_
    refine rs_v rfl (op_fieldAddr Tryz.underlying124 rfl Tryz.sizeOf122 rfl rfl) ?_
    refine rs_r rfl (fun τ wq hq => op_loadB Tryz.underlying122 rfl rfl (hq.ok (j := 4) (by decide) rfl) rfl) ?_
    refine rs_r rfl (fun τ wq hq => op_loadAB Tryz.underlying127 rfl (Tryz.sizeOf127 _) rfl (hq.ok (j := 1) (by decide) rfl) rfl rfl) ?_
    refine rs_special rfl rfl (fun wq hq => to_buildCS hq Tryz.underlying122 Tryz.sizeOf127 Tryz.zeroValue127 rfl rfl rfl rfl rfl rfl) ?_
    rintro v6 w6 ⟨A6, rfl, _⟩
    refine rs_special rfl rfl (fun wq hq => to_appCS hq rfl (fun h => ⟨_, rfl⟩) Tryz.underlying122 info_t127 rfl rfl rfl rfl rfl rfl (by omega)) ?_
    rintro v7 w7 ⟨A7, c7, L7, rfl, _, _⟩
    refine rs_nil ?_
    rintro w8 ⟨A8_, c8_, L_st, e_st, h_st, S⟩
    cases e_st
    obtain rfl := Option.some.inj h_st
    refine rw_v (op_pure rfl) ?_
    refine rw_v (op_fieldAddr Tryz.underlying124 rfl Tryz.sizeOf122 rfl rfl) ?_
    refine rw_storeS (i := 4) S rfl (Tryz.sizeOf122 _) rfl rfl rfl rfl rfl rfl ?_
    intro w13_ S
    first | refine rw_end ?_ | (refine rw_nil ?_; show CW _ _ _ _ _ _) | refine rw_nil ?_
    repeat refine cw_seq ?_
    refine cw_region ?_
    iterate 3 refine rw_v (op_pure rfl) ?_
    rw [emin]
    refine rw_call rfl (slog_E mn hmn1.1 hmn1.2.1) ?_
    rintro _ w14_ ⟨rfl, g14_⟩
    have S := S.gr g14_
    rw [← eK]
    refine rw_v (op_pure rfl) ?_
    first | refine rw_end ?_ | (refine rw_nil ?_; show CW _ _ _ _ _ _) | refine rw_nil ?_
    repeat refine cw_seq ?_
    refine cw_block ?_
    repeat refine cw_seq ?_
    have hac0 : acK gw 0 * acK gh 0 = gw * gh := by unfold acK; simp
    have eg : acK gw 0 = gw := by unfold acK; simp
    have S := S.sub (.cons_cons _ (.cons _ (.cons_cons _ (.cons _ (.cons_cons _ (.slnil))))))
    have S := (S.gfam0 (el := 41) (sz := 2) (fun _ => none) (fun k => acK gw k * acK gh k) (fun _ => 0) (fun k => rgsV (levK V gw gh k))).perm_ (perm_three _ _ _ _)
    have S := (S.gfamPush rfl hac0).swap
    have ep := stV_push (k := 0) (ac := acK gw) (As := fun _ => none) (ns := fun k => acK gw k * acK gh k) (cs := fun _ => 0) (A := A_c0) (c := gw * gh)
    rw [hac0, eg] at ep
    refine cw_loop (fun m e w => ∃ (k : Nat) (Ast : Option Addr) (cst : Nat) (As : Nat → Option Addr) (cs : Nat → Nat), k + m = K ∧ SL e [(4, .int .i64 gw), (5, .int .i64 gh), (6, .pointer (some ⟨b_T, 0, none⟩)), (70, .int .i64 K), (71, .int .i64 k)] ∧
      St No W w [.row 127 2 Ast (k + 1) cst (stV (k + 1) (acK gw) As (fun k => acK gw k * acK gh k) cs), .gfam 41 2 (k + 1) As (fun k => acK gw k * acK gh k) cs (fun k => rgsV (levK V gw gh k)), .blk b_T 124 [.int .i64 gw, .int .i64 gh, .slice Ast (k + 1) cst]]) K
      ⟨0, A7, c7, _, _, by omega, ⟨rfl, rfl, rfl, rfl, rfl, trivial⟩, by rw [← ep]; exact S⟩ ?_
    clear S
    rintro m e w ⟨k, Ast, cst, As, cs, hk, hsl, S⟩
    rw [hsl.fold]
    by_cases hkn : k < K
    · obtain ⟨hf, ehf⟩ : ∃ hf, hf = 2 ^ k := ⟨_, rfl⟩
      have h2hf : 2 * hf ≤ mn := by
        have := Nat.pow_le_pow_right (show 0 < 2 by omega) (show k + 1 ≤ K by omega)
        rw [Nat.pow_succ, ← ehf] at this
        omega
      have hhf : 1 ≤ hf := by rw [ehf]; exact Nat.two_pow_pos k
      obtain ⟨ac, eac⟩ : ∃ ac, ac = acK gw (k + 1) := ⟨_, rfl⟩
      obtain ⟨dn, edn⟩ : ∃ dn, dn = acK gh (k + 1) := ⟨_, rfl⟩
      obtain ⟨aw, eaw⟩ : ∃ aw, aw = acK gw k := ⟨_, rfl⟩
      have hac : ac + 2 * hf = gw + 1 := by
        rw [eac]; unfold acK; rw [Nat.pow_succ, ← ehf]; omega
      have hdn : dn + 2 * hf = gh + 1 := by
        rw [edn]; unfold acK; rw [Nat.pow_succ, ← ehf]; omega
      have haw : aw + hf = gw + 1 := by
        rw [eaw]; unfold acK; rw [← ehf]; omega
      have hah : acK gh k + hf = gh + 1 := by
        unfold acK; rw [← ehf]; omega
      have hm2 : ac * dn ≤ 1024 * 1024 := Nat.mul_le_mul (by omega) (by omega)
      have e14 : (gw : Int) - 2 * (hf : Int) + 1 = ((ac : Nat) : Int) := by omega
      have e15 : (gh : Int) - 2 * (hf : Int) + 1 = ((dn : Nat) : Int) := by omega
      have e18 : (ac : Int) * (dn : Int) = ((ac * dn : Nat) : Int) := by push_cast; rfl
      have hsh : IntKind.i64.wrap (1 * 2 ^ (min (k : Int).toNat IntKind.i64.bits)) = (hf : Int) := by
        have e : (1 : Int) * 2 ^ (min (k : Int).toNat IntKind.i64.bits) = ((hf : Nat) : Int) := by
          rw [Int.one_mul, ehf, show min (k : Int).toNat IntKind.i64.bits = k by unfold IntKind.bits; dsimp only; omega]
          push_cast; rfl
        rw [e]
        exact IntWalk.i64_in _ (by omega)
      repeat refine cw_seq ?_
      refine cw_region ?_
      refine rw_v (op_b (b := true) rfl (decide_eq_true (by omega))) ?_
      first | refine rw_end ?_ | (refine rw_nil ?_; show CW _ _ _ _ _ _) | refine rw_nil ?_
      repeat refine cw_seq ?_
      refine cw_true rfl ?_
      repeat refine cw_seq ?_
      refine cw_skip ?_
      try show CW _ _ _ _ _ _
      repeat refine cw_seq ?_
      refine cw_block ?_
      repeat refine cw_seq ?_
      refine cw_region ?_
      iterate 2 refine rw_v (op_pure rfl) ?_
      first | refine rw_end ?_ | (refine rw_nil ?_; show CW _ _ _ _ _ _) | refine rw_nil ?_
      repeat refine cw_seq ?_
      refine cw_region ?_
      refine rw_v (op_pure rfl) ?_
      refine rw_v (op_shl (c := (hf : Int)) rfl rfl (by omega) hsh) ?_
      refine rw_v (op_pure rfl) ?_
      first | refine rw_end ?_ | (refine rw_nil ?_; show CW _ _ _ _ _ _) | refine rw_nil ?_
      repeat refine cw_seq ?_
      refine cw_region ?_
      iterate 2 refine rw_v (op_pure rfl) ?_
      refine rw_v (op_rng rfl (by omega)) ?_
      refine rw_v (op_rng rfl (by omega)) ?_
      refine rw_v (op_rng rfl (by omega)) ?_
      rw [e14]
      iterate 2 refine rw_v (op_pure rfl) ?_
      refine rw_v (op_rng rfl (by omega)) ?_
      refine rw_v (op_rng rfl (by omega)) ?_
      refine rw_v (op_rng rfl (by omega)) ?_
      rw [e15]
      iterate 2 refine rw_v (op_pure rfl) ?_
      first | refine rw_end ?_ | (refine rw_nil ?_; show CW _ _ _ _ _ _) | refine rw_nil ?_
      repeat refine cw_seq ?_
      refine cw_region ?_
      iterate 3 refine rw_v (op_pure rfl) ?_
      refine rw_v (op_rng rfl (by rw [e18]; omega)) ?_
      rw [e18]
      refine rw_makeS Tryz.underlying125 info_t41 rfl rfl rfl (n := 0) (c := ac * dn) (by omega) (by omega) (by omega) (by omega) S ?_
      intro A_c1 w16_ g16_ S sa_c1
      refine rw_v (op_build (pl := [(0, 1), (1, 1)]) Tryz.underlying127 Tryz.zeroValue127 (fun w => by kernel_rfl) rfl rfl) ?_
      refine rw_newB (op_alloc Tryz.zeroValue127 rfl) S ?_
      intro b_s1 w18_ g18_ S
      refine rw_storeSA (i := 0) S rfl (Tryz.sizeOf127 _) rfl rfl rfl rfl rfl rfl ?_
      intro w19_ S
      first | refine rw_end ?_ | (refine rw_nil ?_; show CW _ _ _ _ _ _) | refine rw_nil ?_
      repeat refine cw_seq ?_
      refine cw_region ?_
      iterate 2 refine rw_v (op_pure rfl) ?_
      first | refine rw_end ?_ | (refine rw_nil ?_; show CW _ _ _ _ _ _) | refine rw_nil ?_
      repeat refine cw_seq ?_
      refine cw_block ?_
      repeat refine cw_seq ?_
      have S := S.sub (.cons_cons _ (.cons_cons _ (.cons_cons _ (.cons_cons _ (.cons_cons _ (.slnil))))))
      refine cw_loop (fun m e w => ∃ (y : Nat) (A1 : Option Addr) (c1 : Nat), y + m = dn ∧ SL e [(4, .int .i64 gw), (5, .int .i64 gh), (6, .pointer (some ⟨b_T, 0, none⟩)), (12, .int .i64 k), (13, .int .i64 hf), (14, .int .i64 ac), (15, .int .i64 dn), (16, .pointer (some ⟨b_s1, 0, none⟩)), (70, .int .i64 K), (71, .int .i64 k), (92, .int .i64 dn), (93, .int .i64 y)] ∧ St No W w [.blk b_s1 127 [.int .i64 ac, .slice A1 (y * ac) c1], .row 41 2 A1 (y * ac) c1 (rgsV (preK V gw (k + 1) (y * ac))), .row 127 2 Ast (k + 1) cst (stV (k + 1) (acK gw) As (fun k => acK gw k * acK gh k) cs), .gfam 41 2 (k + 1) As (fun k => acK gw k * acK gh k) cs (fun k => rgsV (levK V gw gh k)), .blk b_T 124 [.int .i64 gw, .int .i64 gh, .slice Ast (k + 1) cst]]) dn
        ⟨0, A_c1, ac * dn, by omega, ⟨rfl, rfl, rfl, rfl, rfl, rfl, rfl, rfl, rfl, rfl, rfl, rfl, trivial⟩, by rw [Nat.zero_mul]; exact S⟩ ?_
      clear S
      rintro m1 e w ⟨y, A1, c1, hy, hsl, S⟩
      rw [hsl.fold]
      by_cases hyn : y < dn
      · skip
        repeat refine cw_seq ?_
        refine cw_region ?_
        refine rw_v (op_b (b := true) rfl (decide_eq_true (by omega))) ?_
        first | refine rw_end ?_ | (refine rw_nil ?_; show CW _ _ _ _ _ _) | refine rw_nil ?_
        repeat refine cw_seq ?_
        refine cw_true rfl ?_
        repeat refine cw_seq ?_
        refine cw_skip ?_
        try show CW _ _ _ _ _ _
        repeat refine cw_seq ?_
        refine cw_block ?_
        repeat refine cw_seq ?_
        refine cw_region ?_
        iterate 2 refine rw_v (op_pure rfl) ?_
        first | refine rw_end ?_ | (refine rw_nil ?_; show CW _ _ _ _ _ _) | refine rw_nil ?_
        repeat refine cw_seq ?_
        refine cw_region ?_
        iterate 2 refine rw_v (op_pure rfl) ?_
        first | refine rw_end ?_ | (refine rw_nil ?_; show CW _ _ _ _ _ _) | refine rw_nil ?_
        repeat refine cw_seq ?_
        refine cw_block ?_
        repeat refine cw_seq ?_
        refine cw_loop (fun m e w => ∃ (x : Nat) (A1 : Option Addr) (c1 : Nat), x + m = ac ∧ SL e [(4, .int .i64 gw), (5, .int .i64 gh), (6, .pointer (some ⟨b_T, 0, none⟩)), (12, .int .i64 k), (13, .int .i64 hf), (14, .int .i64 ac), (15, .int .i64 dn), (16, .pointer (some ⟨b_s1, 0, none⟩)), (70, .int .i64 K), (71, .int .i64 k), (92, .int .i64 dn), (17, .int .i64 y), (93, .int .i64 y), (96, .int .i64 ac), (97, .int .i64 x)] ∧ St No W w [.blk b_s1 127 [.int .i64 ac, .slice A1 (y * ac + x) c1], .row 41 2 A1 (y * ac + x) c1 (rgsV (preK V gw (k + 1) (y * ac + x))), .row 127 2 Ast (k + 1) cst (stV (k + 1) (acK gw) As (fun k => acK gw k * acK gh k) cs), .gfam 41 2 (k + 1) As (fun k => acK gw k * acK gh k) cs (fun k => rgsV (levK V gw gh k)), .blk b_T 124 [.int .i64 gw, .int .i64 gh, .slice Ast (k + 1) cst]]) ac
          ⟨0, A1, c1, by omega, ⟨rfl, rfl, rfl, rfl, rfl, rfl, rfl, rfl, rfl, rfl, rfl, rfl, rfl, rfl, rfl, trivial⟩, S⟩ ?_
        clear S
        rintro m2 e w ⟨x, A1, c1, hx, hsl, S⟩
        rw [hsl.fold]
        by_cases hxn : x < ac
        · have hra := levK_at V (gw := gw) (gh := gh) (k := k) (x := x) (y := y) (by rw [← eaw]; omega) (by omega)
          have hrb := levK_at V (gw := gw) (gh := gh) (k := k) (x := x + hf) (y := y) (by rw [← eaw]; omega) (by omega)
          have hrc := levK_at V (gw := gw) (gh := gh) (k := k) (x := x) (y := y + hf) (by rw [← eaw]; omega) (by omega)
          have hrd := levK_at V (gw := gw) (gh := gh) (k := k) (x := x + hf) (y := y + hf) (by rw [← eaw]; omega) (by omega)
          have hnk := levK_len V gw gh k
          have hst := stV_at (k := k + 1) (j := k) (ac := acK gw) (As := As) (ns := fun k => acK gw k * acK gh k) (cs := cs) (by omega)
          have hpp := preK_push V (gw := gw) (k := k + 1) y (x := x) (by rw [← eac]; exact hxn)
          rw [← eac] at hpp
          rw [← Nat.add_assoc] at hrb hrd
          have hle : y * ac + x + 1 ≤ 1024 * 1024 := by
            have := Nat.mul_le_mul_right ac (show y + 1 ≤ dn by omega)
            rw [Nat.succ_mul, Nat.mul_comm dn] at this
            omega
          have hsq : joinR (joinR (sqR V gw k x y) (sqR V gw k (x + hf) y)) (joinR (sqR V gw k x (y + hf)) (sqR V gw k (x + hf) (y + hf))) = sqR V gw (k + 1) x y := by rw [ehf]; rfl
          have ey : (y : Int) + (hf : Int) = ((y + hf : Nat) : Int) := by push_cast; rfl
          generalize sqR V gw k x y = ra at *
          generalize sqR V gw k (x + hf) y = rb at *
          generalize sqR V gw k x (y + hf) = rc at *
          generalize sqR V gw k (x + hf) (y + hf) = rd_ at *
          generalize sqR V gw (k + 1) x y = rn at *
          subst eaw
          repeat refine cw_seq ?_
          refine cw_region ?_
          refine rw_v (op_b (b := true) rfl (decide_eq_true (by omega))) ?_
          first | refine rw_end ?_ | (refine rw_nil ?_; show CW _ _ _ _ _ _) | refine rw_nil ?_
          repeat refine cw_seq ?_
          refine cw_true rfl ?_
          repeat refine cw_seq ?_
          refine cw_skip ?_
          try show CW _ _ _ _ _ _
          repeat refine cw_seq ?_
          refine cw_block ?_
          repeat refine cw_seq ?_
          refine cw_region ?_
          iterate 2 refine rw_v (op_pure rfl) ?_
          first | refine rw_end ?_ | (refine rw_nil ?_; show CW _ _ _ _ _ _) | refine rw_nil ?_
          repeat refine cw_seq ?_
          refine cw_tri (C := (fun σ wq => CS No W [.blk b_s1 127 [.int .i64 ac, .slice A1 (y * ac + x) c1], .row 41 2 A1 (y * ac + x) c1 (rgsV (preK V gw (k + 1) (y * ac + x))), .row 127 2 Ast (k + 1) cst (stV (k + 1) (acK gw) As (fun k => acK gw k * acK gh k) cs), .gfam 41 2 (k + 1) As (fun k => acK gw k * acK gh k) cs (fun k => rgsV (levK V gw gh k)), .blk b_T 124 [.int .i64 gw, .int .i64 gh, .slice Ast (k + 1) cst]] 1 41 2 (y * ac + x) (rgsV (preK V gw (k + 1) (y * ac + x))) (joinR (joinR ra rb) (joinR rc rd_)).cells wq σ)) [17, 18] [0, 1, 2, 3, 4, 5, 6, 7, 8, 9, 10, 11, 12, 13, 14, 15, 16, 17, 18] [19, 20] (by kernel_rfl) (by kernel_rfl) (S.gr (Gr.drew _)) ?_
          simp only [pickI, pickL, List.drop_succ_cons, List.drop_zero]
          refine rs_v rfl (op_fieldAddr Tryz.underlying127 rfl Tryz.sizeOf125 rfl rfl) ?_
          refine rs_r rfl (fun τ wq hq => op_loadB Tryz.underlying125 rfl rfl (hq.ok (j := 0) (by decide) rfl) rfl) ?_
          refine rs_v rfl (op_pure rfl) ?_
          refine rs_v rfl (op_pure rfl) ?_
          refine rs_v rfl (op_pure rfl) ?_
          refine rs_v rfl (op_pure rfl) ?_
          refine rs_v rfl (op_pure rfl) ?_
          refine rs_call rfl rfl (fun τ wq hq => (square_E b_T (k + 1) cst k (acK gw k) (acK gw k * acK gh k) (cs k) x y hf 0 Ast (As k) _ _ _ (levK V gw gh k) ra rb wq (hq.ok (j := 4) (by decide) rfl) (Row.rd (hq.ok (j := 2) (by decide) rfl)) (by omega) hst (hq.gfamRd (j := 3) (by decide) rfl (by omega)) hnk (by omega) (by omega) (by omega) (by omega) (by omega) hra hrb).mono (fun _ _ ⟨hv, hg⟩ => ⟨hv, hq.gr hg⟩)) ?_
          refine rs_v rfl (op_pure rfl) ?_
          refine rs_v rfl (op_pure rfl) ?_
          refine rs_v rfl (op_pure rfl) ?_
          refine rs_v rfl (op_pure rfl) ?_
          refine rs_v rfl (op_pure rfl) ?_
          refine rs_v rfl (op_rng rfl (by omega)) ?_
          rw [ey]
          refine rs_v rfl (op_pure rfl) ?_
          refine rs_call rfl rfl (fun τ wq hq => (square_E b_T (k + 1) cst k (acK gw k) (acK gw k * acK gh k) (cs k) x (y + hf) hf 0 Ast (As k) _ _ _ (levK V gw gh k) rc rd_ wq (hq.ok (j := 4) (by decide) rfl) (Row.rd (hq.ok (j := 2) (by decide) rfl)) (by omega) hst (hq.gfamRd (j := 3) (by decide) rfl (by omega)) hnk (by omega) (by omega) (by omega) (by omega) (by omega) hrc hrd).mono (fun _ _ ⟨hv, hg⟩ => ⟨hv, hq.gr hg⟩)) ?_
          refine rs_call rfl rfl (fun τ wq hq => (sjoin_E (joinR ra rb) (joinR rc rd_) wq).mono (fun _ _ ⟨hv, hg⟩ => ⟨hv, hq.gr hg⟩)) ?_
          refine rs_special rfl rfl (fun wq hq => to_buildCS hq Tryz.underlying125 Tryz.sizeOf41 Tryz.zeroValue41 rfl rfl rfl rfl rfl rfl) ?_
          rintro v6 w6 ⟨A6, rfl, _⟩
          refine rs_special rfl rfl (fun wq hq => to_appCS hq rfl (fun h => ⟨_, rfl⟩) Tryz.underlying125 info_t41 rfl rfl rfl rfl rfl rfl (by omega)) ?_
          rintro v7 w7 ⟨A10, c10, L10, rfl, _, _⟩
          refine rs_nil ?_
          rintro w8 ⟨A9_, c9_, L9_, e9_, h9_, S⟩
          cases e9_
          obtain rfl := Option.some.inj h9_
          refine rw_v (op_fieldAddr Tryz.underlying127 rfl Tryz.sizeOf125 rfl rfl) ?_
          refine rw_storeS (i := 0) S rfl (Tryz.sizeOf125 _) rfl rfl rfl rfl rfl rfl ?_
          intro w21_ S
          first | refine rw_end ?_ | (refine rw_nil ?_; show CW _ _ _ _ _ _) | refine rw_nil ?_
          repeat refine cw_seq ?_
          refine cw_region ?_
          refine rw_v (op_rng rfl (by omega)) ?_
          refine rw_v (op_pure rfl) ?_
          first | refine rw_end ?_ | (refine rw_nil ?_; show CW _ _ _ _ _ _) | refine rw_nil ?_
          refine ⟨m2 - 1, by omega, x + 1, A10, c10, by omega, ⟨rfl, rfl, rfl, rfl, rfl, rfl, rfl, rfl, rfl, rfl, rfl, rfl, rfl, rfl, ie (by omega), trivial⟩, ?_⟩
          rw [← Nat.add_assoc, ← hpp, rgsV_push, ← hsq]
          exact S
        · have ex : x = ac := by omega
          rw [ex] at S
          repeat refine cw_seq ?_
          refine cw_region ?_
          refine rw_v (op_b (b := false) rfl (decide_eq_false (by omega))) ?_
          first | refine rw_end ?_ | (refine rw_nil ?_; show CW _ _ _ _ _ _) | refine rw_nil ?_
          repeat refine cw_seq ?_
          refine cw_false rfl ?_
          repeat refine cw_seq ?_
          refine cw_exit ?_
          repeat first | refine exit_then ?_ | refine exit_inb ?_
          show CW _ _ _ _ _ _
          repeat refine cw_seq ?_
          refine cw_region ?_
          refine rw_v (op_rng rfl (by omega)) ?_
          refine rw_v (op_pure rfl) ?_
          first | refine rw_end ?_ | (refine rw_nil ?_; show CW _ _ _ _ _ _) | refine rw_nil ?_
          exact ⟨m1 - 1, by omega, y + 1, A1, c1, by omega, ⟨rfl, rfl, rfl, rfl, rfl, rfl, rfl, rfl, rfl, rfl, rfl, ie (by omega), trivial⟩, by rw [Nat.succ_mul]; exact S⟩
      · have ey : y = dn := by omega
        have en : y * ac = acK gw (k + 1) * acK gh (k + 1) := by rw [ey, eac, edn, Nat.mul_comm]
        have hlv : preK V gw (k + 1) (y * ac) = levK V gw gh (k + 1) := by rw [en]; rfl
        rw [hlv, en] at S
        repeat refine cw_seq ?_
        refine cw_region ?_
        refine rw_v (op_b (b := false) rfl (decide_eq_false (by omega))) ?_
        first | refine rw_end ?_ | (refine rw_nil ?_; show CW _ _ _ _ _ _) | refine rw_nil ?_
        repeat refine cw_seq ?_
        refine cw_false rfl ?_
        repeat refine cw_seq ?_
        refine cw_exit ?_
        repeat first | refine exit_then ?_ | refine exit_inb ?_
        show CW _ _ _ _ _ _
        repeat refine cw_seq ?_
        refine cw_tri (C := (fun σ wq => CS No W [.blk b_s1 127 [.int .i64 ac, .slice A1 (acK gw (k + 1) * acK gh (k + 1)) c1], .row 41 2 A1 (acK gw (k + 1) * acK gh (k + 1)) c1 (rgsV (levK V gw gh (k + 1))), .row 127 2 Ast (k + 1) cst (stV (k + 1) (acK gw) As (fun k => acK gw k * acK gh k) cs), .gfam 41 2 (k + 1) As (fun k => acK gw k * acK gh k) cs (fun k => rgsV (levK V gw gh k)), .blk b_T 124 [.int .i64 gw, .int .i64 gh, .slice Ast (k + 1) cst]] 2 127 2 (k + 1) (stV (k + 1) (acK gw) As (fun k => acK gw k * acK gh k) cs) [.int .i64 ac, .slice A1 (acK gw (k + 1) * acK gh (k + 1)) c1] wq σ)) [6, 7] [0, 1, 2, 3, 4, 5, 6, 7] [8, 9, 10] (by kernel_rfl) (by kernel_rfl) (S.gr (Gr.drew _)) ?_
        simp only [pickI, pickL, List.drop_succ_cons, List.drop_zero]
        refine rs_v rfl (op_pure rfl) ?_
        refine rs_v rfl (op_pure rfl) ?_
        refine rs_v rfl (op_pure rfl) ?_
        refine rs_v rfl (op_fieldAddr Tryz.underlying124 rfl Tryz.sizeOf122 rfl rfl) ?_
        refine rs_r rfl (fun τ wq hq => op_loadB Tryz.underlying122 rfl rfl (hq.ok (j := 4) (by decide) rfl) rfl) ?_
        refine rs_r rfl (fun τ wq hq => op_loadAB Tryz.underlying127 rfl (Tryz.sizeOf127 _) rfl (hq.ok (j := 0) (by decide) rfl) rfl rfl) ?_
        refine rs_special rfl rfl (fun wq hq => to_buildCS hq Tryz.underlying122 Tryz.sizeOf127 Tryz.zeroValue127 rfl rfl rfl rfl rfl rfl) ?_
        rintro v6 w6 ⟨A6, rfl, _⟩
        refine rs_special rfl rfl (fun wq hq => to_appCS hq rfl (fun h => ⟨_, rfl⟩) Tryz.underlying122 info_t127 rfl rfl rfl rfl rfl rfl (by omega)) ?_
        rintro v7 w7 ⟨A10, c10, L10, rfl, _, _⟩
        refine rs_nil ?_
        rintro w8 ⟨A9_, c9_, L9_, e9_, h9_, S⟩
        cases e9_
        obtain rfl := Option.some.inj h9_
        refine rw_v (op_pure rfl) ?_
        refine rw_v (op_fieldAddr Tryz.underlying124 rfl Tryz.sizeOf122 rfl rfl) ?_
        refine rw_storeS (i := 4) S rfl (Tryz.sizeOf122 _) rfl rfl rfl rfl rfl rfl ?_
        intro w23_ S
        first | refine rw_end ?_ | (refine rw_nil ?_; show CW _ _ _ _ _ _) | refine rw_nil ?_
        repeat refine cw_seq ?_
        refine cw_region ?_
        refine rw_v (op_rng rfl (by omega)) ?_
        refine rw_v (op_pure rfl) ?_
        first | refine rw_end ?_ | (refine rw_nil ?_; show CW _ _ _ _ _ _) | refine rw_nil ?_
        have S := S.sub (.cons _ (.cons_cons _ (.cons_cons _ (.cons_cons _ (.cons_cons _ (.slnil))))))
        have ep := stV_push (k := k + 1) (ac := acK gw) (As := As) (ns := fun k => acK gw k * acK gh k) (cs := cs) (A := A1) (c := c1)
        rw [eac] at S
        exact ⟨m - 1, by omega, k + 1, A10, c10, addO As (k + 1) A1, addO cs (k + 1) c1, by omega, ⟨rfl, rfl, rfl, rfl, ie (by omega), trivial⟩, by
          rw [← ep]
          exact ((S.perm_ ((List.Perm.swap _ _ _).cons _)).gfamPush rfl rfl).swap⟩
    · have ek : k = K := by omega
      rw [ek] at S
      repeat refine cw_seq ?_
      refine cw_region ?_
      refine rw_v (op_b (b := false) rfl (decide_eq_false (by omega))) ?_
      first | refine rw_end ?_ | (refine rw_nil ?_; show CW _ _ _ _ _ _) | refine rw_nil ?_
      repeat refine cw_seq ?_
      refine cw_false rfl ?_
      repeat refine cw_seq ?_
      refine cw_exit ?_
      repeat first | refine exit_then ?_ | refine exit_inb ?_
      show CW _ _ _ _ _ _
      repeat refine cw_seq ?_
      refine cw_region ?_
      iterate 3 refine rw_v (op_pure rfl) ?_
      first | refine rw_end ?_ | (refine rw_nil ?_; show CW _ _ _ _ _ _) | refine rw_nil ?_
      repeat refine cw_seq ?_
      refine cw_ret ?_
      repeat first | refine ret_then ?_ | refine ret_inb ?_
      exact res2 rfl rfl ⟨b_T, Ast, cst, As, cs, rfl, S⟩
end
end Go.Proofs.YtbcgbcipigcbhaaGreat
/- sparse.Table.Square, Range: contracts. -/
namespace Go.Proofs.YtbcgbcipigcbhaaGreat
open Go.RowKit
set_option linter.unusedVariables false
set_option linter.unusedSimpArgs false
set_option maxRecDepth 100000

theorem RgOf.congr {v : Nat → Nat → Int} {P Q : Nat → Nat → Prop} {r : RG} (h : RgOf v P r) (hPQ : ∀ x y, P x y ↔ Q x y) : RgOf v Q r := by
  obtain ⟨x1, y1, p1, e1⟩ := h.lo
  obtain ⟨x2, y2, p2, e2⟩ := h.hi
  exact ⟨fun x y hq => h.all x y ((hPQ x y).2 hq), ⟨x1, y1, (hPQ _ _).1 p1, e1⟩, x2, y2, (hPQ _ _).1 p2, e2⟩
/-- the range of a box -/
noncomputable def rgB (V : List Int) (gw x0 y0 x1 y1 : Nat) : RG :=
  open Classical in if h : ∃ r, RgOf (cellV V gw) (boxP x0 y0 x1 y1) r then h.choose else ⟨0, 0⟩
theorem rgB_eq {V : List Int} {gw x0 y0 x1 y1 : Nat} {r : RG} (h : RgOf (cellV V gw) (boxP x0 y0 x1 y1) r) : rgB V gw x0 y0 x1 y1 = r := by
  have h' : ∃ r, RgOf (cellV V gw) (boxP x0 y0 x1 y1) r := ⟨r, h⟩
  unfold rgB
  rw [dif_pos h']
  exact h'.choose_spec.uniq h
section
variable {W : World} {tb gw gh : Nat} {V : List Int}
set_option maxHeartbeats 2000000 in
theorem tsquareA_E (k x y : Nat) (hw : 1 ≤ gw ∧ gw ≤ 1024) (hh : 1 ≤ gh ∧ gh ≤ 1024) (hk : k ≤ Nat.log2 (min gw gh)) (hx : x < acK gw k) (hy : y < acK gh k) (hA : SparseAt W tb gw gh V) :
    Fn Tryz.prog 85 [.pointer (some ⟨tb, 0, none⟩), .int .i64 k, .agg #[.int .i64 x, .int .i64 y]] W (RetG (.tuple #[.agg (sqR V gw k x y).cells.toArray, .int .i64 0]) W) := by
  obtain ⟨As, cs, Ac, cc, hT, hS, hF⟩ := hA
  generalize Nat.log2 (min gw gh) = K at *
  have hst := stV_at (k := K + 1) (j := k) (ac := acK gw) (As := Ac) (ns := fun k => acK gw k * acK gh k) (cs := cc) (by omega)
  have hC := (hF k (by omega)).rd
  have hS' := hS.rd
  have hat := rgsV_at (levK_at V (gw := gw) (gh := gh) (k := k) hx hy)
  have hlen : (rgsV (levK V gw gh k)).length = acK gw k * acK gh k * 2 := by rw [rgsV_len, levK_len]
  have haw : acK gw k ≤ 1024 := by unfold acK; have := Nat.two_pow_pos k; omega
  have hah : acK gh k ≤ 1024 := by unfold acK; have := Nat.two_pow_pos k; omega
  have hm : acK gw k * acK gh k ≤ 1024 * 1024 := Nat.mul_le_mul haw hah
  have hk2 : k < 1024 := by
    by_cases h : k < 1024
    · exact h
    · exfalso
      have h2 : k < 2 ^ k := Nat.lt_two_pow_self
      unfold acK at hx
      omega
  have hlt : y * acK gw k + x < acK gw k * acK gh k := by
    have := Nat.mul_le_mul_right (acK gw k) (show y + 1 ≤ acK gh k from hy)
    rw [Nat.succ_mul, Nat.mul_comm (acK gh k)] at this
    omega
  have hq : (((acK gw k * acK gh k : Nat) : Int)).tdiv ((acK gw k : Nat) : Int) = ((acK gh k : Nat) : Int) := by
    rw [Int.natCast_mul]
    exact Int.mul_tdiv_cancel_left _ (by omega)
  generalize acK gw k = aw at *
  generalize acK gh k = ah at *
  generalize levK V gw gh k = l at *
  generalize sqR V gw k x y = r at *
  have e1 : (y : Int) * (aw : Int) = ((y * aw : Nat) : Int) := by push_cast; rfl
  generalize y * aw = p at *
  have hat2 : ((rgsV l).drop (((p : Int) + x).toNat * 2)).take 2 = r.cells := by rw [show ((p : Int) + x).toNat = p + x by omega]; exact hat
  have sa_S : SomeA As := hS.someA (by omega)
  have sa_C : SomeA (Ac k) := hC.someA (by omega)
  unfold RG.cells at hat2 ⊢
  have S := St.start W
  refine Fn_enter Tryz.func85 rfl Tryz.results85 Tryz.ntmps85 (by kernel_rfl) (by kernel_rfl) ?_
  repeat refine cw_seq ?_
  refine cw_region ?_
  refine rw_newB (op_box rfl) S ?_
  intro b_c w2_ g2_ S
  refine rw_newB (op_alloc Tryz.zeroValue41 rfl) S ?_
  intro b_R w4_ g4_ S
  refine rw_v (op_pure rfl) ?_
  first | refine rw_end ?_ | (refine rw_nil ?_; show CW _ _ _ _ _ _) | refine rw_nil ?_
  repeat refine cw_seq ?_
  refine cw_block ?_
  repeat refine cw_seq ?_
  refine cw_region ?_
  refine rw_v (op_pure rfl) ?_
  refine rw_v (op_nilp Tryz.underlying92 rfl rfl) ?_
  refine rw_v (op_pure rfl) ?_
  first | refine rw_end ?_ | (refine rw_nil ?_; show CW _ _ _ _ _ _) | refine rw_nil ?_
  repeat refine cw_seq ?_
  refine cw_false rfl ?_
  repeat refine cw_seq ?_
  refine cw_region ?_
  refine rw_v (op_pure rfl) ?_
  first | refine rw_v (op_b (b := true) rfl (decide_eq_true (by omega))) ?_ | refine rw_v (op_b (b := false) rfl (decide_eq_false (by omega))) ?_ | refine rw_v (op_pure rfl) ?_
  refine rw_v (op_pure rfl) ?_
  first | refine rw_off rfl ?_ | (refine rw_on rfl ?_; refine rw_v (op_pure rfl) ?_)
  first | refine rw_off rfl ?_ | (refine rw_on rfl ?_; refine rw_v (op_pure rfl) ?_)
  first | refine rw_off rfl ?_ | (refine rw_on rfl ?_; refine rw_v (op_pure rfl) ?_)
  first | refine rw_off rfl ?_ | (refine rw_on rfl ?_; refine rw_v (op_fieldAddr Tryz.underlying124 rfl Tryz.sizeOf122 rfl rfl) ?_)
  first | refine rw_off rfl ?_ | (refine rw_on rfl ?_; refine rw_r (op_loadB Tryz.underlying122 rfl rfl (hT.gr S.out) rfl) ?_)
  first | refine rw_off rfl ?_ | (refine rw_on rfl ?_; refine rw_v (op_len Tryz.underlying122 rfl) ?_)
  first | refine rw_off rfl ?_ | (refine rw_on rfl ?_; (first | refine rw_v (op_b (b := true) rfl (decide_eq_true (by omega))) ?_ | refine rw_v (op_b (b := false) rfl (decide_eq_false (by omega))) ?_ | refine rw_v (op_pure rfl) ?_))
  iterate 2 refine rw_v (op_pure rfl) ?_
  first | refine rw_end ?_ | (refine rw_nil ?_; show CW _ _ _ _ _ _) | refine rw_nil ?_
  repeat refine cw_seq ?_
  refine cw_false rfl ?_
  repeat refine cw_seq ?_
  refine cw_skip ?_
  try show CW _ _ _ _ _ _
  repeat refine cw_seq ?_
  refine cw_region ?_
  iterate 2 refine rw_v (op_pure rfl) ?_
  refine rw_v (op_fieldAddr Tryz.underlying124 rfl Tryz.sizeOf122 rfl rfl) ?_
  refine rw_r (op_loadB Tryz.underlying122 rfl rfl (hT.gr S.out) rfl) ?_
  refine rw_v (op_pure rfl) ?_
  refine rw_v (op_idx Tryz.underlying122 Tryz.sizeOf127 rfl rfl sa_S (by omega) (by omega)) ?_
  refine rw_r (op_ldRA Tryz.underlying127 rfl (Tryz.sizeOf127 _) rfl (hS'.gr S.out) hst rfl rfl) ?_
  refine rw_newB (op_alloc Tryz.zeroValue127 rfl) S ?_
  intro b_s w6_ g6_ S
  refine rw_storeSA (i := 0) S rfl (Tryz.sizeOf127 _) rfl rfl rfl rfl rfl rfl ?_
  intro w7_ S
  first | refine rw_end ?_ | (refine rw_nil ?_; show CW _ _ _ _ _ _) | refine rw_nil ?_
  repeat refine cw_seq ?_
  refine cw_region ?_
  refine rw_v (op_fieldAddr Tryz.underlying127 rfl Tryz.sizeOf125 rfl rfl) ?_
  refine rw_r (op_loadB Tryz.underlying125 rfl rfl (S.blk (i := 0) rfl) rfl) ?_
  refine rw_v (op_len Tryz.underlying125 rfl) ?_
  refine rw_v (op_fieldAddr Tryz.underlying127 rfl Tryz.sizeOf2 rfl rfl) ?_
  refine rw_r (op_loadB Tryz.underlying2 rfl rfl (S.blk (i := 0) rfl) rfl) ?_
  refine rw_v (op_quoT rfl rfl (by omega) hq (by omega)) ?_
  refine rw_v (op_pure rfl) ?_
  first | refine rw_end ?_ | (refine rw_nil ?_; show CW _ _ _ _ _ _) | refine rw_nil ?_
  repeat refine cw_seq ?_
  refine cw_region ?_
  refine rw_v (op_fieldAddr Tryz.underlying50 rfl Tryz.sizeOf2 rfl rfl) ?_
  refine rw_r (op_loadB Tryz.underlying2 rfl rfl (S.blk (i := 2) rfl) rfl) ?_
  first | refine rw_v (op_b (b := true) rfl (decide_eq_true (by omega))) ?_ | refine rw_v (op_b (b := false) rfl (decide_eq_false (by omega))) ?_ | refine rw_v (op_pure rfl) ?_
  refine rw_v (op_pure rfl) ?_
  first | refine rw_off rfl ?_ | (refine rw_on rfl ?_; refine rw_v (op_fieldAddr Tryz.underlying50 rfl Tryz.sizeOf2 rfl rfl) ?_)
  first | refine rw_off rfl ?_ | (refine rw_on rfl ?_; refine rw_r (op_loadB Tryz.underlying2 rfl rfl (S.blk (i := 2) rfl) rfl) ?_)
  first | refine rw_off rfl ?_ | (refine rw_on rfl ?_; refine rw_v (op_fieldAddr Tryz.underlying127 rfl Tryz.sizeOf2 rfl rfl) ?_)
  first | refine rw_off rfl ?_ | (refine rw_on rfl ?_; refine rw_r (op_loadB Tryz.underlying2 rfl rfl (S.blk (i := 0) rfl) rfl) ?_)
  first | refine rw_off rfl ?_ | (refine rw_on rfl ?_; (first | refine rw_v (op_b (b := true) rfl (decide_eq_true (by omega))) ?_ | refine rw_v (op_b (b := false) rfl (decide_eq_false (by omega))) ?_ | refine rw_v (op_pure rfl) ?_))
  iterate 2 refine rw_v (op_pure rfl) ?_
  first | refine rw_off rfl ?_ | (refine rw_on rfl ?_; refine rw_v (op_fieldAddr Tryz.underlying50 rfl Tryz.sizeOf2 rfl rfl) ?_)
  first | refine rw_off rfl ?_ | (refine rw_on rfl ?_; refine rw_r (op_loadB Tryz.underlying2 rfl rfl (S.blk (i := 2) rfl) rfl) ?_)
  first | refine rw_off rfl ?_ | (refine rw_on rfl ?_; (first | refine rw_v (op_b (b := true) rfl (decide_eq_true (by omega))) ?_ | refine rw_v (op_b (b := false) rfl (decide_eq_false (by omega))) ?_ | refine rw_v (op_pure rfl) ?_))
  iterate 2 refine rw_v (op_pure rfl) ?_
  first | refine rw_off rfl ?_ | (refine rw_on rfl ?_; refine rw_v (op_fieldAddr Tryz.underlying50 rfl Tryz.sizeOf2 rfl rfl) ?_)
  first | refine rw_off rfl ?_ | (refine rw_on rfl ?_; refine rw_r (op_loadB Tryz.underlying2 rfl rfl (S.blk (i := 2) rfl) rfl) ?_)
  first | refine rw_off rfl ?_ | (refine rw_on rfl ?_; refine rw_v (op_pure rfl) ?_)
  first | refine rw_off rfl ?_ | (refine rw_on rfl ?_; (first | refine rw_v (op_b (b := true) rfl (decide_eq_true (by omega))) ?_ | refine rw_v (op_b (b := false) rfl (decide_eq_false (by omega))) ?_ | refine rw_v (op_pure rfl) ?_))
  refine rw_v (op_pure rfl) ?_
  first | refine rw_end ?_ | (refine rw_nil ?_; show CW _ _ _ _ _ _) | refine rw_nil ?_
  repeat refine cw_seq ?_
  refine cw_false rfl ?_
  repeat refine cw_seq ?_
  refine cw_skip ?_
  try show CW _ _ _ _ _ _
  repeat refine cw_seq ?_
  refine cw_region ?_
  refine rw_v (op_fieldAddr Tryz.underlying127 rfl Tryz.sizeOf125 rfl rfl) ?_
  refine rw_r (op_loadB Tryz.underlying125 rfl rfl (S.blk (i := 0) rfl) rfl) ?_
  refine rw_v (op_fieldAddr Tryz.underlying50 rfl Tryz.sizeOf2 rfl rfl) ?_
  refine rw_r (op_loadB Tryz.underlying2 rfl rfl (S.blk (i := 2) rfl) rfl) ?_
  refine rw_v (op_fieldAddr Tryz.underlying127 rfl Tryz.sizeOf2 rfl rfl) ?_
  refine rw_r (op_loadB Tryz.underlying2 rfl rfl (S.blk (i := 0) rfl) rfl) ?_
  refine rw_v (op_rng rfl (by rw [e1]; omega)) ?_
  rw [e1]
  refine rw_v (op_fieldAddr Tryz.underlying50 rfl Tryz.sizeOf2 rfl rfl) ?_
  refine rw_r (op_loadB Tryz.underlying2 rfl rfl (S.blk (i := 2) rfl) rfl) ?_
  refine rw_v (op_rng rfl (by omega)) ?_
  refine rw_v (op_idx Tryz.underlying125 Tryz.sizeOf41 rfl rfl sa_C (by omega) (by omega)) ?_
  refine rw_r (op_ldRA Tryz.underlying41 rfl (Tryz.sizeOf41 _) rfl (hC.gr S.out) hat2 rfl rfl) ?_
  refine rw_storeSA (i := 1) S rfl (Tryz.sizeOf41 _) rfl rfl rfl rfl rfl rfl ?_
  intro w8_ S
  refine rw_v (op_pure rfl) ?_
  first | refine rw_end ?_ | (refine rw_nil ?_; show CW _ _ _ _ _ _) | refine rw_nil ?_
  repeat refine cw_seq ?_
  refine cw_ret ?_
  repeat first | refine ret_then ?_ | refine ret_inb ?_
  exact resAT Tryz.underlying41 rfl (Tryz.sizeOf41 _) rfl (S.blk (i := 1) rfl) rfl rfl rfl ⟨rfl, S.out⟩
set_option maxHeartbeats 4000000 in
theorem trangeA_E (x0 y0 x1 y1 : Nat) (hw : 1 ≤ gw ∧ gw ≤ 1024) (hh : 1 ≤ gh ∧ gh ≤ 1024) (hx : x0 ≤ x1 ∧ x1 < gw) (hy : y0 ≤ y1 ∧ y1 < gh) (hA : SparseAt W tb gw gh V) :
    Fn Tryz.prog 53 [.pointer (some ⟨tb, 0, none⟩), .agg #[.int .i64 x0, .int .i64 y0, .int .i64 x1, .int .i64 y1]] W (RetG (.tuple #[.agg (rgB V gw x0 y0 x1 y1).cells.toArray, .int .i64 0]) W) := by
  have hA' := hA
  obtain ⟨Ao, co, As, cs, hT, hO, hF⟩ := hA'
  have hwi : within x0 y0 x1 y1 gw gh = 0 := within_fine (by omega) (by omega) (by omega) (by omega)
  obtain ⟨mn, hmn⟩ : ∃ mn, mn = min (x1 - x0) (y1 - y0) + 1 := ⟨_, rfl⟩
  have emn : min ((x1 : Int) - x0) ((y1 : Int) - y0) + 1 = ((mn : Nat) : Int) := by omega
  have hsq := fun (k x y : Nat) (w : World) (g : Gr W w) hk hx hy => tsquareA_E (W := w) (V := V) (tb := tb) k x y hw hh hk hx hy (hA.gr g)
  have hkK : Nat.log2 mn ≤ Nat.log2 (min gw gh) := by
    have h1 : 2 ^ Nat.log2 mn ≤ mn := Nat.log2_self_le (by omega)
    exact (Nat.le_log2 (by omega)).2 (by omega)
  have hKb : Nat.log2 (min gw gh) ≤ 1024 := Nat.le_trans (Nat.log2_le_self _) (by omega)
  have h2k : 2 ^ Nat.log2 mn ≤ mn := Nat.log2_self_le (by omega)
  obtain ⟨k, ek⟩ : ∃ k, k = Nat.log2 mn := ⟨_, rfl⟩
  rw [← ek] at hkK h2k
  have hk10 : k ≤ 10 := by
    by_cases h : k ≤ 10
    · exact h
    · have := Nat.pow_le_pow_right (show 0 < 2 by omega) (show 11 ≤ k by omega)
      omega
  have hof := fun x y => sqR_of V gw k x y
  have hhf1 : 1 ≤ 2 ^ k := Nat.two_pow_pos k
  have hsh : IntKind.i64.wrap (1 * 2 ^ (min (k : Int).toNat IntKind.i64.bits)) = ((2 ^ k : Nat) : Int) := by
    have e : (1 : Int) * 2 ^ (min (k : Int).toNat IntKind.i64.bits) = ((2 ^ k : Nat) : Int) := by
      rw [Int.one_mul, show min (k : Int).toNat IntKind.i64.bits = k by unfold IntKind.bits; dsimp only; omega]
      push_cast; rfl
    rw [e]
    exact IntWalk.i64_in _ (by omega)
  have hacw : acK gw k + 2 ^ k = gw + 1 := by unfold acK; omega
  have hach : acK gh k + 2 ^ k = gh + 1 := by unfold acK; omega
  generalize 2 ^ k = hf at *
  generalize hKg : Nat.log2 (min gw gh) = K at *
  obtain ⟨xe, hxe⟩ : ∃ xe, xe + hf = x1 + 1 := ⟨x1 + 1 - hf, by omega⟩
  obtain ⟨ye, hye⟩ : ∃ ye, ye + hf = y1 + 1 := ⟨y1 + 1 - hf, by omega⟩
  have exe : (x1 : Int) - hf + 1 = ((xe : Nat) : Int) := by omega
  have eye : (y1 : Int) - hf + 1 = ((ye : Nat) : Int) := by omega
  have hq0 := fun w g => hsq k x0 y0 w g hkK (by omega) (by omega)
  have S := St.start W
  refine Fn_enter Tryz.func53 rfl Tryz.results53 Tryz.ntmps53 (by kernel_rfl) (by kernel_rfl) ?_
  repeat refine cw_seq ?_
  refine cw_region ?_
  refine rw_newB (op_box rfl) S ?_
  intro b_r w2_ g2_ S
  refine rw_newB (op_alloc Tryz.zeroValue41 rfl) S ?_
  intro b_R w4_ g4_ S
  refine rw_v (op_pure rfl) ?_
  first | refine rw_end ?_ | (refine rw_nil ?_; show CW _ _ _ _ _ _) | refine rw_nil ?_
  repeat refine cw_seq ?_
  refine cw_region ?_
  refine rw_v (op_pure rfl) ?_
  refine rw_v (op_nilp Tryz.underlying92 rfl rfl) ?_
  first | refine rw_end ?_ | (refine rw_nil ?_; show CW _ _ _ _ _ _) | refine rw_nil ?_
  repeat refine cw_seq ?_
  refine cw_false rfl ?_
  repeat refine cw_seq ?_
  refine cw_skip ?_
  try show CW _ _ _ _ _ _
  repeat refine cw_seq ?_
  refine cw_draw (C := fun wq => Gr w4_ wq) [0, 1, 2, 3, 4, 5, 6, 7, 8, 9, 10] [] (by kernel_rfl) (by kernel_rfl) (Gr.drew _) ?_
  simp only [pickL, List.drop_succ_cons, List.drop_zero]
  refine rq_r (fun wq hq => op_loadAB Tryz.underlying38 rfl (Tryz.sizeOf38 _) rfl ((S.gr hq).blk (i := 1) rfl) rfl rfl) ?_
  iterate 2 refine rq_v (op_pure rfl) ?_
  refine rq_v (op_fieldAddr Tryz.underlying124 rfl Tryz.sizeOf2 rfl rfl) ?_
  refine rq_r (fun wq hq => op_loadB Tryz.underlying2 rfl rfl (hT.gr (S.gr hq).out) rfl) ?_
  iterate 2 refine rq_v (op_pure rfl) ?_
  refine rq_v (op_fieldAddr Tryz.underlying124 rfl Tryz.sizeOf2 rfl rfl) ?_
  refine rq_r (fun wq hq => op_loadB Tryz.underlying2 rfl rfl (hT.gr (S.gr hq).out) rfl) ?_
  refine rq_call rfl (fun wq hq => (within_E _ _ _ _ _ _ (by omega) (by omega) wq).mono (fun _ _ ⟨hv, hg⟩ => ⟨hv, hq.trans hg⟩)) ?_
  rw [hwi]
  refine rq_v (op_pure rfl) ?_
  refine rq_nil ?_
  intro w5_ g5_
  have S := S.gr g5_
  first | refine rw_end ?_ | (refine rw_nil ?_; show CW _ _ _ _ _ _) | refine rw_nil ?_
  repeat refine cw_seq ?_
  refine cw_region ?_
  refine rw_v (op_pure rfl) ?_
  refine rw_v (op_b (b := false) rfl (bne_eq_false_iff_eq.2 (by omega))) ?_
  first | refine rw_end ?_ | (refine rw_nil ?_; show CW _ _ _ _ _ _) | refine rw_nil ?_
  repeat refine cw_seq ?_
  refine cw_false rfl ?_
  repeat refine cw_seq ?_
  refine cw_skip ?_
  try show CW _ _ _ _ _ _
  repeat refine cw_seq ?_
  refine cw_region ?_
  refine rw_v (op_fieldAddr Tryz.underlying38 rfl Tryz.sizeOf2 rfl rfl) ?_
  refine rw_r (op_loadB Tryz.underlying2 rfl rfl (S.blk (i := 1) rfl) rfl) ?_
  refine rw_v (op_fieldAddr Tryz.underlying38 rfl Tryz.sizeOf2 rfl rfl) ?_
  refine rw_r (op_loadB Tryz.underlying2 rfl rfl (S.blk (i := 1) rfl) rfl) ?_
  refine rw_v (op_rng rfl (by omega)) ?_
  refine rw_v (op_fieldAddr Tryz.underlying38 rfl Tryz.sizeOf2 rfl rfl) ?_
  refine rw_r (op_loadB Tryz.underlying2 rfl rfl (S.blk (i := 1) rfl) rfl) ?_
  refine rw_v (op_fieldAddr Tryz.underlying38 rfl Tryz.sizeOf2 rfl rfl) ?_
  refine rw_r (op_loadB Tryz.underlying2 rfl rfl (S.blk (i := 1) rfl) rfl) ?_
  refine rw_v (op_rng rfl (by omega)) ?_
  refine rw_v (op_pure rfl) ?_
  refine rw_v (op_rng rfl (by omega)) ?_
  rw [emn]
  refine rw_call rfl (slog_E mn (by omega) (by omega)) ?_
  rintro _ w6_ ⟨rfl, g6_⟩
  have S := S.gr g6_
  rw [← ek]
  refine rw_v (op_pure rfl) ?_
  first | refine rw_end ?_ | (refine rw_nil ?_; show CW _ _ _ _ _ _) | refine rw_nil ?_
  repeat refine cw_seq ?_
  refine cw_region ?_
  refine rw_v (op_pure rfl) ?_
  refine rw_v (op_shl (c := (hf : Int)) rfl rfl (by omega) hsh) ?_
  refine rw_v (op_pure rfl) ?_
  first | refine rw_end ?_ | (refine rw_nil ?_; show CW _ _ _ _ _ _) | refine rw_nil ?_
  repeat refine cw_seq ?_
  refine cw_draw (C := fun wq => Gr w6_ wq) [0, 1, 2, 3, 4, 5, 6, 7, 8, 9, 10, 11] [] (by kernel_rfl) (by kernel_rfl) (Gr.drew _) ?_
  simp only [pickL, List.drop_succ_cons, List.drop_zero]
  refine rq_v (op_fieldAddr Tryz.underlying38 rfl Tryz.sizeOf2 rfl rfl) ?_
  refine rq_r (fun wq hq => op_loadB Tryz.underlying2 rfl rfl ((S.gr hq).blk (i := 1) rfl) rfl) ?_
  refine rq_v (op_pure rfl) ?_
  refine rq_v (op_rng rfl (by omega)) ?_
  refine rq_v (op_rng rfl (by omega)) ?_
  rw [exe]
  refine rq_v (op_fieldAddr Tryz.underlying38 rfl Tryz.sizeOf2 rfl rfl) ?_
  refine rq_r (fun wq hq => op_loadB Tryz.underlying2 rfl rfl ((S.gr hq).blk (i := 1) rfl) rfl) ?_
  refine rq_v (op_pure rfl) ?_
  refine rq_v (op_rng rfl (by omega)) ?_
  refine rq_v (op_rng rfl (by omega)) ?_
  rw [eye]
  iterate 2 refine rq_v (op_pure rfl) ?_
  refine rq_nil ?_
  intro w7_ g7_
  have S := S.gr g7_
  first | refine rw_end ?_ | (refine rw_nil ?_; show CW _ _ _ _ _ _) | refine rw_nil ?_
  repeat refine cw_seq ?_
  refine cw_region ?_
  iterate 2 refine rw_v (op_pure rfl) ?_
  refine rw_v (op_fieldAddr Tryz.underlying38 rfl Tryz.sizeOf2 rfl rfl) ?_
  refine rw_r (op_loadB Tryz.underlying2 rfl rfl (S.blk (i := 1) rfl) rfl) ?_
  refine rw_v (op_fieldAddr Tryz.underlying38 rfl Tryz.sizeOf2 rfl rfl) ?_
  refine rw_r (op_loadB Tryz.underlying2 rfl rfl (S.blk (i := 1) rfl) rfl) ?_
  refine rw_v (op_build (pl := [(0, 1), (1, 1)]) Tryz.underlying50 Tryz.zeroValue50 (fun w => by kernel_rfl) rfl rfl) ?_
  refine rw_call rfl (hq0 w7_ S.out) ?_
  rintro _ w8_ ⟨rfl, g8_⟩
  have S := S.gr g8_
  iterate 3 refine rw_v (op_pure rfl) ?_
  refine rw_newB (op_alloc Tryz.zeroValue41 rfl) S ?_
  intro b_rr w10_ g10_ S
  refine rw_storeSA (i := 0) S rfl (Tryz.sizeOf41 _) rfl rfl rfl rfl rfl rfl ?_
  intro w11_ S
  refine rw_v (op_pure rfl) ?_
  first | refine rw_end ?_ | (refine rw_nil ?_; show CW _ _ _ _ _ _) | refine rw_nil ?_
  repeat refine cw_seq ?_
  refine cw_region ?_
  refine rw_v (op_fieldAddr Tryz.underlying38 rfl Tryz.sizeOf2 rfl rfl) ?_
  refine rw_r (op_loadB Tryz.underlying2 rfl rfl (S.blk (i := 2) rfl) rfl) ?_
  refine rw_v (op_pure rfl) ?_
  first | refine rw_end ?_ | (refine rw_nil ?_; show CW _ _ _ _ _ _) | refine rw_nil ?_
  repeat refine cw_seq ?_
  refine cw_block ?_
  repeat refine cw_seq ?_
  refine cw_loop (fun m e w => ∃ (y : Nat) (g : RG) (Q : Nat → Nat → Prop), y + m = ye ∧ y0 ≤ y ∧ RgOf (cellV V gw) Q g ∧ (∀ a b, Q a b → boxP x0 y0 x1 y1 a b) ∧ (∀ a b, boxP x0 y0 x1 y1 a b → b < y → Q a b) ∧
    SL e [(0, .pointer (some ⟨tb, 0, none⟩)), (3, .pointer (some ⟨b_r, 0, none⟩)), (4, .pointer (some ⟨b_R, 0, none⟩)), (7, .int .i64 k), (8, .int .i64 hf), (9, .int .i64 xe), (10, .int .i64 ye), (11, .pointer (some ⟨b_rr, 0, none⟩)), (13, .int .i64 y)] ∧ St No W w [.blk b_rr 41 g.cells, .blk b_R 41 [.int .i64 0, .int .i64 0], .blk b_r 38 [.int .i64 x0, .int .i64 y0, .int .i64 x1, .int .i64 y1]]) (ye - y0)
    ⟨y0, _, _, by omega, Nat.le_refl _, hof x0 y0, fun a b h => by unfold boxP at *; omega, fun a b h hb => by unfold boxP at *; omega, ⟨rfl, rfl, rfl, rfl, rfl, rfl, rfl, rfl, rfl, trivial⟩, S⟩ ?_
  clear S
  rintro m e w ⟨y, g, Q, hym, hy0, hQ, hQ1, hQ2, hsl, S⟩
  rw [hsl.fold]
  repeat refine cw_seq ?_
  refine cw_block ?_
  repeat refine cw_seq ?_
  refine cw_region ?_
  refine rw_v (op_fieldAddr Tryz.underlying38 rfl Tryz.sizeOf2 rfl rfl) ?_
  refine rw_r (op_loadB Tryz.underlying2 rfl rfl (S.blk (i := 2) rfl) rfl) ?_
  refine rw_v (op_pure rfl) ?_
  first | refine rw_end ?_ | (refine rw_nil ?_; show CW _ _ _ _ _ _) | refine rw_nil ?_
  repeat refine cw_seq ?_
  refine cw_block ?_
  repeat refine cw_seq ?_
  refine cw_loop (fun m e w => ∃ (x : Nat) (g : RG) (Q : Nat → Nat → Prop), x + m = xe ∧ x0 ≤ x ∧ RgOf (cellV V gw) Q g ∧ (∀ a b, Q a b → boxP x0 y0 x1 y1 a b) ∧ (∀ a b, boxP x0 y0 x1 y1 a b → b < y → Q a b) ∧ (∀ a b, boxP x0 y0 x1 y1 a b → b < y + hf → a < x → Q a b) ∧
    SL e [(0, .pointer (some ⟨tb, 0, none⟩)), (3, .pointer (some ⟨b_r, 0, none⟩)), (4, .pointer (some ⟨b_R, 0, none⟩)), (7, .int .i64 k), (8, .int .i64 hf), (9, .int .i64 xe), (10, .int .i64 ye), (11, .pointer (some ⟨b_rr, 0, none⟩)), (13, .int .i64 y), (14, .int .i64 x)] ∧ St No W w [.blk b_rr 41 g.cells, .blk b_R 41 [.int .i64 0, .int .i64 0], .blk b_r 38 [.int .i64 x0, .int .i64 y0, .int .i64 x1, .int .i64 y1]]) (xe - x0)
    ⟨x0, g, Q, by omega, Nat.le_refl _, hQ, hQ1, hQ2, fun a b h hb ha => by unfold boxP at h; omega, ⟨rfl, rfl, rfl, rfl, rfl, rfl, rfl, rfl, rfl, rfl, trivial⟩, S⟩ ?_
  clear S hQ hQ1 hQ2 Q g
  rintro m2 e w ⟨x, g, Q, hxm, hx0, hQ, hQ1, hQ2, hQ3, hsl, S⟩
  rw [hsl.fold]
  have hq1 := fun w g => hsq k x y w g hkK (by omega) (by omega)
  have hsq' := hof x y
  generalize sqR V gw k x y = q at *
  have hJ : RgOf (cellV V gw) (fun a b => Q a b ∨ boxP x y (x + hf - 1) (y + hf - 1) a b) (joinR g q) := hQ.join hsq' (fun a b => Iff.rfl)
  have hJ1 : ∀ a b, (Q a b ∨ boxP x y (x + hf - 1) (y + hf - 1) a b) → boxP x0 y0 x1 y1 a b := fun a b h => by
    rcases h with h | h
    · exact hQ1 a b h
    · unfold boxP at *; omega
  have hJ3 : ∀ a b, boxP x0 y0 x1 y1 a b → b < y + hf → a < x + hf → (Q a b ∨ boxP x y (x + hf - 1) (y + hf - 1) a b) := fun a b h hb ha => by
    by_cases hby : b < y
    · exact .inl (hQ2 a b h hby)
    · by_cases hax : a < x
      · exact .inl (hQ3 a b h hb hax)
      · right; unfold boxP at *; omega
  repeat refine cw_seq ?_
  refine cw_block ?_
  repeat refine cw_seq ?_
  refine cw_region ?_
  iterate 4 refine rw_v (op_pure rfl) ?_
  refine rw_v (op_build (pl := [(0, 1), (1, 1)]) Tryz.underlying50 Tryz.zeroValue50 (fun w => by kernel_rfl) rfl rfl) ?_
  refine rw_call rfl (hq1 w S.out) ?_
  rintro _ w12_ ⟨rfl, g12_⟩
  have S := S.gr g12_
  iterate 3 refine rw_v (op_pure rfl) ?_
  refine rw_newB (op_alloc Tryz.zeroValue41 rfl) S ?_
  intro b_sq w14_ g14_ S
  refine rw_storeSA (i := 0) S rfl (Tryz.sizeOf41 _) rfl rfl rfl rfl rfl rfl ?_
  intro w15_ S
  refine rw_v (op_pure rfl) ?_
  first | refine rw_end ?_ | (refine rw_nil ?_; show CW _ _ _ _ _ _) | refine rw_nil ?_
  repeat refine cw_seq ?_
  refine cw_region ?_
  refine rw_r (op_loadAB Tryz.underlying41 rfl (Tryz.sizeOf41 _) rfl (S.blk (i := 1) rfl) rfl rfl) ?_
  refine rw_r (op_loadAB Tryz.underlying41 rfl (Tryz.sizeOf41 _) rfl (S.blk (i := 0) rfl) rfl rfl) ?_
  refine rw_call rfl (sjoin_E g q w15_) ?_
  rintro _ w16_ ⟨rfl, g16_⟩
  have S := S.gr g16_
  refine rw_storeSA (i := 1) S rfl (Tryz.sizeOf41 _) rfl rfl rfl rfl rfl rfl ?_
  intro w17_ S
  first | refine rw_end ?_ | (refine rw_nil ?_; show CW _ _ _ _ _ _) | refine rw_nil ?_
  repeat refine cw_seq ?_
  refine cw_region ?_
  iterate 3 refine rw_v (op_pure rfl) ?_
  first | refine rw_end ?_ | (refine rw_nil ?_; show CW _ _ _ _ _ _) | refine rw_nil ?_
  repeat refine cw_seq ?_
  refine cw_cond rfl (fun hxe => ?_) (fun hxe => ?_)
  · try simp only [decide_eq_true_eq, decide_eq_false_iff_not, beq_iff_eq, bne_iff_ne, beq_eq_false_iff_ne, bne_eq_false_iff_eq, Bool.not_eq_true', Bool.not_eq_false', ne_eq, Decidable.not_not, Int.natCast_inj, Int.ofNat_lt, Int.ofNat_le, gt_iff_lt, ge_iff_le, Int.not_lt, Int.not_le] at hxe
    obtain rfl : x = xe := by omega
    repeat refine cw_seq ?_
    refine cw_exit ?_
    repeat first | refine exit_then ?_ | refine exit_inb ?_
    show CW _ _ _ _ _ _
    repeat refine cw_seq ?_
    refine cw_region ?_
    iterate 3 refine rw_v (op_pure rfl) ?_
    first | refine rw_end ?_ | (refine rw_nil ?_; show CW _ _ _ _ _ _) | refine rw_nil ?_
    repeat refine cw_seq ?_
    refine cw_cond rfl (fun hye => ?_) (fun hye => ?_)
    · try simp only [decide_eq_true_eq, decide_eq_false_iff_not, beq_iff_eq, bne_iff_ne, beq_eq_false_iff_ne, bne_eq_false_iff_eq, Bool.not_eq_true', Bool.not_eq_false', ne_eq, Decidable.not_not, Int.natCast_inj, Int.ofNat_lt, Int.ofNat_le, gt_iff_lt, ge_iff_le, Int.not_lt, Int.not_le] at hye
      have ebx : ∀ a b, (Q a b ∨ boxP x y (x + hf - 1) (y + hf - 1) a b) ↔ boxP x0 y0 x1 y1 a b := fun a b => ⟨hJ1 a b, fun h => hJ3 a b h (by unfold boxP at h; omega) (by unfold boxP at h; omega)⟩
      have hfin := rgB_eq (hJ.congr ebx)
      rw [hfin]
      repeat refine cw_seq ?_
      refine cw_region ?_
      refine rw_r (op_loadAB Tryz.underlying41 rfl (Tryz.sizeOf41 _) rfl (S.blk (i := 1) rfl) rfl rfl) ?_
      refine rw_storeSA (i := 2) S rfl (Tryz.sizeOf41 _) rfl rfl rfl rfl rfl rfl ?_
      intro w18_ S
      refine rw_v (op_pure rfl) ?_
      first | refine rw_end ?_ | (refine rw_nil ?_; show CW _ _ _ _ _ _) | refine rw_nil ?_
      repeat refine cw_seq ?_
      refine cw_ret ?_
      repeat first | refine ret_then ?_ | refine ret_inb ?_
      exact resAT Tryz.underlying41 rfl (Tryz.sizeOf41 _) rfl (S.blk (i := 2) rfl) rfl rfl rfl ⟨rfl, S.out⟩
    · try simp only [decide_eq_true_eq, decide_eq_false_iff_not, beq_iff_eq, bne_iff_ne, beq_eq_false_iff_ne, bne_eq_false_iff_eq, Bool.not_eq_true', Bool.not_eq_false', ne_eq, Decidable.not_not, Int.natCast_inj, Int.ofNat_lt, Int.ofNat_le, gt_iff_lt, ge_iff_le, Int.not_lt, Int.not_le] at hye
      repeat refine cw_seq ?_
      refine cw_skip ?_
      try show CW _ _ _ _ _ _
      repeat refine cw_seq ?_
      refine cw_region ?_
      iterate 2 refine rw_v (op_pure rfl) ?_
      refine rw_v (op_rng rfl (by omega)) ?_
      iterate 3 refine rw_v (op_pure rfl) ?_
      first | refine rw_end ?_ | (refine rw_nil ?_; show CW _ _ _ _ _ _) | refine rw_nil ?_
      have S := S.sub (.cons _ (.cons_cons _ (.cons_cons _ (.cons_cons _ (.slnil)))))
      exact ⟨ye - min (y + hf) ye, by omega, min (y + hf) ye, joinR g q, _, by omega, by omega, hJ, hJ1, fun a b h hb => hJ3 a b h (by omega) (by unfold boxP at h; omega), ⟨rfl, rfl, rfl, rfl, rfl, rfl, rfl, rfl, ie (by omega), trivial⟩, S⟩
  · try simp only [decide_eq_true_eq, decide_eq_false_iff_not, beq_iff_eq, bne_iff_ne, beq_eq_false_iff_ne, bne_eq_false_iff_eq, Bool.not_eq_true', Bool.not_eq_false', ne_eq, Decidable.not_not, Int.natCast_inj, Int.ofNat_lt, Int.ofNat_le, gt_iff_lt, ge_iff_le, Int.not_lt, Int.not_le] at hxe
    repeat refine cw_seq ?_
    refine cw_skip ?_
    try show CW _ _ _ _ _ _
    repeat refine cw_seq ?_
    refine cw_region ?_
    iterate 2 refine rw_v (op_pure rfl) ?_
    refine rw_v (op_rng rfl (by omega)) ?_
    iterate 3 refine rw_v (op_pure rfl) ?_
    first | refine rw_end ?_ | (refine rw_nil ?_; show CW _ _ _ _ _ _) | refine rw_nil ?_
    have S := S.sub (.cons _ (.cons_cons _ (.cons_cons _ (.cons_cons _ (.slnil)))))
    exact ⟨xe - min (x + hf) xe, by omega, min (x + hf) xe, joinR g q, _, by omega, by omega, hJ, hJ1, fun a b h hb => .inl (hQ2 a b h hb), fun a b h hb ha => hJ3 a b h hb (by omega), ⟨rfl, rfl, rfl, rfl, rfl, rfl, rfl, rfl, rfl, ie (by omega), trivial⟩, S⟩
end
end Go.Proofs.YtbcgbcipigcbhaaGreat
/- smooth.Mean; the chapter's example; hachurelaw44.SmoothNil: the walks. -/
namespace Go.Proofs.YtbcgbcipigcbhaaGreat
open Go.RowKit
set_option linter.unusedVariables false
set_option linter.unusedSimpArgs false
set_option maxRecDepth 100000

/-! ### means of windows are values -/
def rowD (V : List Int) (o x0 k : Nat) : Int := rowS V o (x0 + k) - rowS V o x0
theorem rowD_bnd {V : List Int} (hB : vB V) (o x0 : Nat) : ∀ k : Nat, -(2147483648 * (k : Int)) ≤ rowD V o x0 k ∧ rowD V o x0 k ≤ 2147483647 * (k : Int)
  | 0 => by simp [rowD]
  | k + 1 => by
    have h1 := rowD_bnd hB o x0 k
    have h2 := hB (o + (x0 + k))
    have h3 : rowD V o x0 (k + 1) = rowD V o x0 k + V.getD (o + (x0 + k)) 0 := by
      have : rowS V o (x0 + (k + 1)) = rowS V o (x0 + k) + V.getD (o + (x0 + k)) 0 := rfl
      unfold rowD
      rw [this]
      omega
    rw [h3]
    omega
theorem rsum_bnd {V : List Int} (hB : vB V) (gw x0 y0 k : Nat) : ∀ j : Nat, -(2147483648 * ((k * j : Nat) : Int)) ≤ psum V gw (y0 + j) (x0 + k) - psum V gw (y0 + j) x0 - psum V gw y0 (x0 + k) + psum V gw y0 x0 ∧
    psum V gw (y0 + j) (x0 + k) - psum V gw (y0 + j) x0 - psum V gw y0 (x0 + k) + psum V gw y0 x0 ≤ 2147483647 * ((k * j : Nat) : Int)
  | 0 => by
    simp only [Nat.add_zero, Nat.mul_zero, Int.natCast_zero, Int.mul_zero, Int.neg_zero]
    omega
  | j + 1 => by
    have h1 := rsum_bnd hB gw x0 y0 k j
    have h2 := rowD_bnd hB ((y0 + j) * gw) x0 k
    have h3 : psum V gw (y0 + (j + 1)) (x0 + k) = rowS V ((y0 + j) * gw) (x0 + k) + psum V gw (y0 + j) (x0 + k) := rfl
    have h4 : psum V gw (y0 + (j + 1)) x0 = rowS V ((y0 + j) * gw) x0 + psum V gw (y0 + j) x0 := rfl
    rw [h3, h4, Nat.mul_succ]
    unfold rowD at h2
    omega
def meanW (V : List Int) (gw gh i n : Nat) : Int := rsum V gw (winW gw gh i n).x0 (winW gw gh i n).y0 (winW gw gh i n).x1 (winW gw gh i n).y1 / ((((winW gw gh i n).x1 + 1 - (winW gw gh i n).x0) * ((winW gw gh i n).y1 + 1 - (winW gw gh i n).y0) : Nat) : Int)
theorem mean_bnd {V : List Int} (hB : vB V) (gw : Nat) {x0 y0 x1 y1 : Nat} (hx : x0 ≤ x1) (hy : y0 ≤ y1) : -2147483648 ≤ rsum V gw x0 y0 x1 y1 / (((x1 + 1 - x0) * (y1 + 1 - y0) : Nat) : Int) ∧ rsum V gw x0 y0 x1 y1 / (((x1 + 1 - x0) * (y1 + 1 - y0) : Nat) : Int) ≤ 2147483647 := by
  have h := rsum_bnd hB gw x0 y0 (x1 + 1 - x0) (y1 + 1 - y0)
  rw [show x0 + (x1 + 1 - x0) = x1 + 1 by omega, show y0 + (y1 + 1 - y0) = y1 + 1 by omega] at h
  have hn : 1 ≤ (x1 + 1 - x0) * (y1 + 1 - y0) := Nat.mul_pos (by omega) (by omega)
  unfold rsum
  generalize psum V gw (y1 + 1) (x1 + 1) - psum V gw (y1 + 1) x0 - psum V gw y0 (x1 + 1) + psum V gw y0 x0 = s at *
  generalize (x1 + 1 - x0) * (y1 + 1 - y0) = n at *
  constructor
  · exact Int.le_ediv_of_mul_le (by omega) (by omega)
  · have : s / (n : Int) < 2147483648 := Int.ediv_lt_of_lt_mul (by omega) (by omega)
    omega
theorem meanW_may {V : List Int} (hB : vB V) {gw gh i n : Nat} (hgw : 0 < gw) (hi : i < gw * gh) : mayB (meanW V gw gh i n) = true := by
  obtain ⟨h1, h2⟩ := winW_ok (n := n) hgw hi
  have := mean_bnd hB gw h1.1 h2.1
  exact (mayB_iff _).2 this
theorem RetGrid.weaken {mk : Value → Value} {gw gh : Nat} {c : Nat → Int} {W w w' : World} {v : Value} (h : RetGrid mk gw gh c w v w') (g : Gr W w) : RetGrid mk gw gh c W v w' := by
  obtain ⟨p, A, cap, bs, Rs, e, hG, hf, hg⟩ := h
  exact ⟨p, A, cap, bs, Rs, e, hG, fun b hb => Nat.le_trans g.le (hf b hb), g.trans hg⟩
section
variable {W : World} {A : Option Addr} {p gw gh cap C tb : Nat} {cc : Nat → Int} {bs : Nat → Nat} {Rs : Nat → Option Nat} {V : List Int}
theorem meanC_E (i n : Nat) (hB : vB V) (hw : 1 ≤ gw ∧ gw ≤ 1024) (hh : 1 ≤ gh ∧ gh ≤ 1024) (hi : i < gw * gh) (hC : Blk W C 51 [.pointer (some ⟨tb, 0, none⟩)]) (hA : AreaAt W tb gw gh V) :
    Fn Tryz.prog 21 ([] ++ [(winW gw gh i n).val] ++ [.pointer (some ⟨C, 0, none⟩)]) W (RetG (.int .i64 (meanW V gw gh i n)) W) := by
  obtain ⟨h1, h2⟩ := winW_ok (n := n) hw.1 hi
  unfold meanW Win.val
  generalize winW gw gh i n = r at *
  have S := St.start W
  refine Fn_enter Tryz.func21 rfl Tryz.results21 Tryz.ntmps21 (by kernel_rfl) (by kernel_rfl) ?_
  repeat refine cw_seq ?_
  refine cw_region ?_
  refine rw_newB (op_box rfl) S ?_
  intro b_r w2_ g2_ S
  refine rw_v (op_pure rfl) ?_
  first | refine rw_end ?_ | (refine rw_nil ?_; show CW _ _ _ _ _ _) | refine rw_nil ?_
  repeat refine cw_seq ?_
  refine cw_region ?_
  refine rw_r (op_loadB Tryz.underlying51 rfl rfl (hC.gr S.out) rfl) ?_
  refine rw_r (op_loadAB Tryz.underlying38 rfl (Tryz.sizeOf38 _) rfl (S.blk (i := 0) rfl) rfl rfl) ?_
  refine rw_call rfl (amean_E (W := w2_) r.x0 r.y0 r.x1 r.y1 hB hw hh h1 h2 (hA.gr S.out)) ?_
  rintro _ w3_ ⟨rfl, g3_⟩
  have S := S.gr g3_
  iterate 5 refine rw_v (op_pure rfl) ?_
  first | refine rw_end ?_ | (refine rw_nil ?_; show CW _ _ _ _ _ _) | refine rw_nil ?_
  repeat refine cw_seq ?_
  refine cw_region ?_
  iterate 2 refine rw_v (op_pure rfl) ?_
  first | refine rw_end ?_ | (refine rw_nil ?_; show CW _ _ _ _ _ _) | refine rw_nil ?_
  repeat refine cw_seq ?_
  refine cw_ret ?_
  repeat first | refine ret_then ?_ | refine ret_inb ?_
  exact res1 rfl ⟨rfl, S.out⟩
theorem smeanNil_E (n : Int) : Fn Tryz.prog 7 [.pointer none, .int .i64 n] W (RetG (.tuple #[.pointer none, .int .i64 1]) W) := by
  have S := St.start W
  refine Fn_enter Tryz.func7 rfl Tryz.results7 Tryz.ntmps7 (by kernel_rfl) (by kernel_rfl) ?_
  repeat refine cw_seq ?_
  refine cw_region ?_
  iterate 2 refine rw_v (op_pure rfl) ?_
  first | refine rw_end ?_ | (refine rw_nil ?_; show CW _ _ _ _ _ _) | refine rw_nil ?_
  repeat refine cw_seq ?_
  refine cw_region ?_
  refine rw_v (op_pure rfl) ?_
  refine rw_call rfl (abuildNil_E) ?_
  rintro _ w1_ ⟨rfl, g1_⟩
  have S := S.gr g1_
  iterate 3 refine rw_v (op_pure rfl) ?_
  refine rw_newB (op_alloc Tryz.zeroValue51 rfl) S ?_
  intro b_tp w3_ g3_ S
  refine rw_storeS (i := 0) S rfl (Tryz.sizeOf51 _) rfl rfl rfl rfl rfl rfl ?_
  intro w4_ S
  refine rw_v (op_pure rfl) ?_
  first | refine rw_end ?_ | (refine rw_nil ?_; show CW _ _ _ _ _ _) | refine rw_nil ?_
  repeat refine cw_seq ?_
  refine cw_region ?_
  iterate 3 refine rw_v (op_pure rfl) ?_
  refine rw_call rfl (smadeNil_E (fid := 21) (caps := [.pointer (some ⟨b_tp, 0, none⟩)]) n) ?_
  rintro _ w5_ ⟨rfl, g5_⟩
  have S := S.gr g5_
  iterate 4 refine rw_v (op_pure rfl) ?_
  first | refine rw_end ?_ | (refine rw_nil ?_; show CW _ _ _ _ _ _) | refine rw_nil ?_
  repeat refine cw_seq ?_
  refine cw_ret ?_
  repeat first | refine ret_then ?_ | refine ret_inb ?_
  exact res2 rfl rfl ⟨rfl, S.out⟩
theorem smean_E (n : Nat) (hn : n ≤ 1024) (hB : vB (gridL gw gh cc)) (hG : GridAt W p gw gh cc A cap bs Rs) : Fn Tryz.prog 7 [.pointer (some ⟨p, 0, none⟩), .int .i64 n] W
    (RetGrid (fun p => .tuple #[p, .int .i64 0]) gw gh (fun i => (gridL gw gh fun i => meanW (gridL gw gh cc) gw gh i n).getD i 0) W) := by
  have hw := hG.sw
  have hh := hG.sh
  have hbuild := fun w (g : Gr W w) => abuild_E hB (hG.gr g)
  have hmay : ∀ i, i < gw * gh → mayB (meanW (gridL gw gh cc) gw gh i n) = true := fun i hi => meanW_may hB hw.1 hi
  have hmade := fun (b : Nat) w (g : Gr W w) => smade_E (W := w) (fid := 21) (caps := [.pointer (some ⟨b, 0, none⟩)]) (q := fun i => meanW (gridL gw gh cc) gw gh i n) n hn (hG.gr g) hmay
  generalize gridL gw gh cc = V at *
  have S := St.start W
  refine Fn_enter Tryz.func7 rfl Tryz.results7 Tryz.ntmps7 (by kernel_rfl) (by kernel_rfl) ?_
  repeat refine cw_seq ?_
  refine cw_region ?_
  iterate 2 refine rw_v (op_pure rfl) ?_
  first | refine rw_end ?_ | (refine rw_nil ?_; show CW _ _ _ _ _ _) | refine rw_nil ?_
  repeat refine cw_seq ?_
  refine cw_region ?_
  refine rw_v (op_pure rfl) ?_
  refine rw_call rfl (hbuild W S.out) ?_
  rintro _ w1_ ⟨tb, rfl, hT, g1_⟩
  have G := (S.gr g1_).out
  have S := St.start w1_
  iterate 3 refine rw_v (op_pure rfl) ?_
  refine rw_newB (op_alloc Tryz.zeroValue51 rfl) S ?_
  intro b_tp w3_ g3_ S
  refine rw_storeS (i := 0) S rfl (Tryz.sizeOf51 _) rfl rfl rfl rfl rfl rfl ?_
  intro w4_ S
  refine rw_v (op_pure rfl) ?_
  first | refine rw_end ?_ | (refine rw_nil ?_; show CW _ _ _ _ _ _) | refine rw_nil ?_
  have hS1 := S
  repeat refine cw_seq ?_
  refine cw_region ?_
  iterate 3 refine rw_v (op_pure rfl) ?_
  refine rw_call rfl (hmade b_tp w4_ (G.trans S.out) (fun w g i hi => meanC_E i n hB hw hh hi ((hS1.gr g).blk (i := 0) rfl) (hT.gr (hS1.gr g).out))) ?_
  rintro _ w5_ ⟨p2, B2, bc2, bs2, Rs2, rfl, hG2, hf2, g5_⟩
  have S := S.pushGrid hG2 hf2 g5_
  iterate 4 refine rw_v (op_pure rfl) ?_
  first | refine rw_end ?_ | (refine rw_nil ?_; show CW _ _ _ _ _ _) | refine rw_nil ?_
  repeat refine cw_seq ?_
  refine cw_ret ?_
  repeat first | refine ret_then ?_ | refine ret_inb ?_
  exact res2 rfl rfl ((S.retGrid (i := 0) (mk := fun p => .tuple #[p, .int .i64 0]) rfl).weaken G)
theorem smedianNil_E (n : Int) : Fn Tryz.prog 8 [.pointer none, .int .i64 n] W (RetG (.tuple #[.pointer none, .int .i64 1]) W) := by
  have S := St.start W
  refine Fn_enter Tryz.func8 rfl Tryz.results8 Tryz.ntmps8 (by kernel_rfl) (by kernel_rfl) ?_
  repeat refine cw_seq ?_
  refine cw_region ?_
  refine rw_newB (op_box rfl) S ?_
  intro b_gp w2_ g2_ S
  iterate 2 refine rw_v (op_pure rfl) ?_
  first | refine rw_end ?_ | (refine rw_nil ?_; show CW _ _ _ _ _ _) | refine rw_nil ?_
  repeat refine cw_seq ?_
  refine cw_region ?_
  refine rw_r (op_loadB Tryz.underlying28 rfl rfl (S.blk (i := 0) rfl) rfl) ?_
  iterate 2 refine rw_v (op_pure rfl) ?_
  refine rw_call rfl (smadeNil_E (fid := 23) (caps := [.pointer (some ⟨b_gp, 0, none⟩)]) n) ?_
  rintro _ w3_ ⟨rfl, g3_⟩
  have S := S.gr g3_
  iterate 4 refine rw_v (op_pure rfl) ?_
  first | refine rw_end ?_ | (refine rw_nil ?_; show CW _ _ _ _ _ _) | refine rw_nil ?_
  repeat refine cw_seq ?_
  refine cw_ret ?_
  repeat first | refine ret_then ?_ | refine ret_inb ?_
  exact res2 rfl rfl ⟨rfl, S.out⟩
theorem sbuildNil44_E : Fn Tryz.prog 51 [.pointer none] W (RetG (.tuple #[.pointer none, .int .i64 1]) W) := by
  have S := St.start W
  refine Fn_enter Tryz.func51 rfl Tryz.results51 Tryz.ntmps51 (by kernel_rfl) (by kernel_rfl) ?_
  repeat refine cw_seq ?_
  refine cw_region ?_
  iterate 2 refine rw_v (op_pure rfl) ?_
  first | refine rw_end ?_ | (refine rw_nil ?_; show CW _ _ _ _ _ _) | refine rw_nil ?_
  repeat refine cw_seq ?_
  refine cw_region ?_
  refine rw_v (op_pure rfl) ?_
  refine rw_v (op_nilp Tryz.underlying28 rfl rfl) ?_
  first | refine rw_end ?_ | (refine rw_nil ?_; show CW _ _ _ _ _ _) | refine rw_nil ?_
  repeat refine cw_seq ?_
  refine cw_true rfl ?_
  repeat refine cw_seq ?_
  refine cw_region ?_
  iterate 2 refine rw_v (op_pure rfl) ?_
  first | refine rw_end ?_ | (refine rw_nil ?_; show CW _ _ _ _ _ _) | refine rw_nil ?_
  repeat refine cw_seq ?_
  refine cw_ret ?_
  repeat first | refine ret_then ?_ | refine ret_inb ?_
  exact res2 rfl rfl ⟨rfl, S.out⟩
theorem srangesNil_E : Fn Tryz.prog 25 [.pointer none] W (fun v w' => ∃ b, v = .func (.func 52) (([] : List Value).toArray) [.pointer (some ⟨b, 0, none⟩)].toArray ∧ Gr W w') := by
  have S := St.start W
  refine Fn_enter Tryz.func25 rfl Tryz.results25 Tryz.ntmps25 (by kernel_rfl) (by kernel_rfl) ?_
  repeat refine cw_seq ?_
  refine cw_region ?_
  refine rw_v (op_pure rfl) ?_
  first | refine rw_end ?_ | (refine rw_nil ?_; show CW _ _ _ _ _ _) | refine rw_nil ?_
  repeat refine cw_seq ?_
  refine cw_region ?_
  refine rw_v (op_pure rfl) ?_
  refine rw_call rfl (sbuildNil44_E) ?_
  rintro _ w1_ ⟨rfl, g1_⟩
  have S := S.gr g1_
  iterate 3 refine rw_v (op_pure rfl) ?_
  refine rw_newB (op_alloc Tryz.zeroValue92 rfl) S ?_
  intro b_tp w3_ g3_ S
  refine rw_storeS (i := 0) S rfl (Tryz.sizeOf92 _) rfl rfl rfl rfl rfl rfl ?_
  intro w4_ S
  refine rw_v (op_pure rfl) ?_
  first | refine rw_end ?_ | (refine rw_nil ?_; show CW _ _ _ _ _ _) | refine rw_nil ?_
  repeat refine cw_seq ?_
  refine cw_region ?_
  iterate 2 refine rw_v (op_pure rfl) ?_
  first | refine rw_end ?_ | (refine rw_nil ?_; show CW _ _ _ _ _ _) | refine rw_nil ?_
  repeat refine cw_seq ?_
  refine cw_ret ?_
  repeat first | refine ret_then ?_ | refine ret_inb ?_
  exact res1 rfl ⟨b_tp, rfl, S.out⟩
theorem sopenNil_E (n : Int) : Fn Tryz.prog 9 [.pointer none, .int .i64 n] W (RetG (.tuple #[.pointer none, .int .i64 1]) W) := by
  have S := St.start W
  refine Fn_enter Tryz.func9 rfl Tryz.results9 Tryz.ntmps9 (by kernel_rfl) (by kernel_rfl) ?_
  repeat refine cw_seq ?_
  refine cw_region ?_
  iterate 2 refine rw_v (op_pure rfl) ?_
  first | refine rw_end ?_ | (refine rw_nil ?_; show CW _ _ _ _ _ _) | refine rw_nil ?_
  repeat refine cw_seq ?_
  refine cw_region ?_
  refine rw_v (op_pure rfl) ?_
  refine rw_call rfl (srangesNil_E) ?_
  rintro _ w1_ ⟨b, rfl, g1_⟩
  have S := S.gr g1_
  refine rw_newB (op_alloc Tryz.zeroValue59 rfl) S ?_
  intro b_fp w3_ g3_ S
  refine rw_storeS (i := 0) S rfl (Tryz.sizeOf59 _) rfl rfl rfl rfl rfl rfl ?_
  intro w4_ S
  first | refine rw_end ?_ | (refine rw_nil ?_; show CW _ _ _ _ _ _) | refine rw_nil ?_
  repeat refine cw_seq ?_
  refine cw_region ?_
  iterate 3 refine rw_v (op_pure rfl) ?_
  refine rw_call rfl (smadeNil_E (fid := 26) (caps := [.pointer (some ⟨b_fp, 0, none⟩)]) n) ?_
  rintro _ w5_ ⟨rfl, g5_⟩
  have S := S.gr g5_
  iterate 5 refine rw_v (op_pure rfl) ?_
  first | refine rw_end ?_ | (refine rw_nil ?_; show CW _ _ _ _ _ _) | refine rw_nil ?_
  repeat refine cw_seq ?_
  refine cw_region ?_
  refine rw_v (op_pure rfl) ?_
  refine rw_v (op_b (b := true) rfl (bne_iff_ne.2 (by omega))) ?_
  first | refine rw_end ?_ | (refine rw_nil ?_; show CW _ _ _ _ _ _) | refine rw_nil ?_
  repeat refine cw_seq ?_
  refine cw_true rfl ?_
  repeat refine cw_seq ?_
  refine cw_region ?_
  iterate 3 refine rw_v (op_pure rfl) ?_
  first | refine rw_end ?_ | (refine rw_nil ?_; show CW _ _ _ _ _ _) | refine rw_nil ?_
  repeat refine cw_seq ?_
  refine cw_ret ?_
  repeat first | refine ret_then ?_ | refine ret_inb ?_
  exact res2 rfl rfl ⟨rfl, S.out⟩
theorem awake44_E (W : World) : Fn Tryz.prog 4 [] W (RetG (.bool true) W) := by
  have hG3 : gridL 3 1 (fun i => ([0, 9, 0] : List Int).getD i 0) = [0, 9, 0] := gridL_made rfl
  have hmay : ∀ v ∈ ([0, 9, 0] : List Int), mayB v = true := fun v hv => by
    simp only [List.mem_cons, List.not_mem_nil, or_false] at hv
    rcases hv with rfl | rfl | rfl <;> rfl
  have hB : vB (gridL 3 1 (fun i => ([0, 9, 0] : List Int).getD i 0)) := by rw [hG3]; exact vB_of_may hmay
  have hmean : (gridL 3 1 fun i => meanW [0, 9, 0] 3 1 i 1) = [4, 3, 4] := by decide
  have hm2 : gridL 3 1 (fun i => (gridL 3 1 fun i => meanW (gridL 3 1 fun i => ([0, 9, 0] : List Int).getD i 0) 3 1 i 1).getD i 0) = [4, 3, 4] := by rw [hG3, hmean]; exact gridL_made rfl
  have hmeanC := fun (W : World) (p : Nat) (A : Option Addr) (cap : Nat) (bs : Nat → Nat) (Rs : Nat → Option Nat) (hG : GridAt W p 3 1 (fun i => ([0, 9, 0] : List Int).getD i 0) A cap bs Rs) => smean_E (W := W) 1 (by omega) hB hG
  have hvals := fun (W : World) (p : Nat) (A : Option Addr) (cap : Nat) (bs : Nat → Nat) (Rs : Nat → Option Nat) (hG : GridAt W p 3 1 (fun i => (gridL 3 1 fun i => meanW (gridL 3 1 fun i => ([0, 9, 0] : List Int).getD i 0) 3 1 i 1).getD i 0) A cap bs Rs) => gvalues_E (W := W) 0 0 2 0 (by omega) (by omega) hG
  have hrect : rectV 3 (fun i => (gridL 3 1 fun i => meanW (gridL 3 1 fun i => ([0, 9, 0] : List Int).getD i 0) 3 1 i 1).getD i 0) 0 0 (2 + 1 - 0) (0 + 1 - 0) = [4, 3, 4] := by
    rw [show (2 + 1 - 0) = 3 by rfl, show (0 + 1 - 0) = 1 by rfl, rectV_all]; exact hm2
  rw [hrect] at hvals
  have S := St.start W
  refine Fn_enter Tryz.func4 rfl Tryz.results4 Tryz.ntmps4 (by kernel_rfl) (by kernel_rfl) ?_
  repeat refine cw_seq ?_
  refine cw_region ?_
  refine rw_v (op_pure rfl) ?_
  first | refine rw_end ?_ | (refine rw_nil ?_; show CW _ _ _ _ _ _) | refine rw_nil ?_
  repeat refine cw_seq ?_
  refine cw_region ?_
  refine rw_buildS Tryz.underlying22 Tryz.sizeOf2 Tryz.zeroValue2 rfl rfl rfl rfl rfl rfl S ?_
  intro A_v3 w2_ g2_ S sa_v3
  refine rw_call rfl (from_E (W := w2_) (V := [0, 9, 0]) (gw := 3) (gh := 1) 3 (by omega) (by omega) rfl hmay (S.rd (i := 0) rfl)) ?_
  rintro _ w3_ ⟨p2, B, bc, bs2, Rs2, rfl, hG2, hf2, g3_⟩
  have S := S.pushGrid hG2 hf2 g3_
  iterate 5 refine rw_v (op_pure rfl) ?_
  first | refine rw_end ?_ | (refine rw_nil ?_; show CW _ _ _ _ _ _) | refine rw_nil ?_
  repeat refine cw_seq ?_
  refine cw_region ?_
  refine rw_v (op_pure rfl) ?_
  refine rw_call rfl (hmeanC _ _ _ _ _ _ (S.grid (i := 0) rfl)) ?_
  rintro _ w4_ ⟨p3, B3, bc3, bs3, Rs3, rfl, hG3_, hf3, g4_⟩
  have S := S.pushGrid hG3_ hf3 g4_
  iterate 5 refine rw_v (op_pure rfl) ?_
  first | refine rw_end ?_ | (refine rw_nil ?_; show CW _ _ _ _ _ _) | refine rw_nil ?_
  repeat refine cw_seq ?_
  refine cw_region ?_
  iterate 2 refine rw_v (op_pure rfl) ?_
  refine rw_call rfl (gall_E p3 3 1 (by omega) (by omega) _ w4_ ((S.grid (i := 0) rfl).top)) ?_
  rintro _ w5_ ⟨rfl, g5_⟩
  have S := S.gr g5_
  refine rw_call rfl (hvals _ _ _ _ _ _ (S.grid (i := 0) rfl)) ?_
  rintro _ w6_ ⟨A_l, c_l, rfl, hR_l, hf_l, g6_⟩
  have S := S.pushRow hR_l hf_l g6_
  iterate 5 refine rw_v (op_pure rfl) ?_
  first | refine rw_end ?_ | (refine rw_nil ?_; show CW _ _ _ _ _ _) | refine rw_nil ?_
  repeat refine cw_seq ?_
  refine cw_region ?_
  refine rw_v (op_pure rfl) ?_
  refine rw_v (op_b (b := true) rfl (beq_iff_eq.2 (by omega))) ?_
  refine rw_v (op_pure rfl) ?_
  first | refine rw_off rfl ?_ | (refine rw_on rfl ?_; refine rw_v (op_pure rfl) ?_)
  first | refine rw_off rfl ?_ | (refine rw_on rfl ?_; refine rw_v (op_b (b := true) rfl (beq_iff_eq.2 (by omega))) ?_)
  iterate 2 refine rw_v (op_pure rfl) ?_
  first | refine rw_off rfl ?_ | (refine rw_on rfl ?_; refine rw_v (op_pure rfl) ?_)
  first | refine rw_off rfl ?_ | (refine rw_on rfl ?_; refine rw_v (op_b (b := true) rfl (beq_iff_eq.2 (by omega))) ?_)
  iterate 2 refine rw_v (op_pure rfl) ?_
  first | refine rw_off rfl ?_ | (refine rw_on rfl ?_; refine rw_v (op_pure rfl) ?_)
  refine rw_on rfl ?_
  refine rw_buildS Tryz.underlying22 Tryz.sizeOf2 Tryz.zeroValue2 rfl rfl rfl rfl rfl rfl S ?_
  intro A_v4 w8_ g8_ S sa_v4
  refine rw_on rfl ?_
  refine rw_call rfl (rsame_E A_l A_v4 c_l 3 [4, 3, 4] [4, 3, 4] w8_ (by decide) (S.rd (i := 1) rfl) (S.rd (i := 0) rfl)) ?_
  rintro _ w9_ ⟨rfl, g9_⟩
  have S := S.gr g9_
  iterate 2 refine rw_v (op_pure rfl) ?_
  first | refine rw_end ?_ | (refine rw_nil ?_; show CW _ _ _ _ _ _) | refine rw_nil ?_
  repeat refine cw_seq ?_
  refine cw_ret ?_
  repeat first | refine ret_then ?_ | refine ret_inb ?_
  exact res1 rfl ⟨rfl, S.out⟩
end
end Go.Proofs.YtbcgbcipigcbhaaGreat
/- smooth.ranges, Spread, Open: contracts. -/
namespace Go.Proofs.YtbcgbcipigcbhaaGreat
open Go.RowKit
set_option linter.unusedVariables false
set_option linter.unusedSimpArgs false
set_option maxRecDepth 100000

/-! ### Ranges of windows -/
theorem rgOf_row (v : Nat → Nat → Int) (x0 y : Nat) : ∀ d : Nat, ∃ r, RgOf v (boxP x0 y (x0 + d) y) r
  | 0 => ⟨⟨v x0 y, v x0 y⟩, fun x' y' h => by
      unfold boxP at h
      obtain rfl : x' = x0 := by omega
      obtain rfl : y' = y := by omega
      exact ⟨Int.le_refl _, Int.le_refl _⟩, ⟨x0, y, by unfold boxP; omega, rfl⟩, x0, y, by unfold boxP; omega, rfl⟩
  | d + 1 => by
    obtain ⟨r, hr⟩ := rgOf_row v x0 y d
    have h1 : RgOf v (boxP (x0 + d + 1) y (x0 + d + 1) y) ⟨v (x0 + d + 1) y, v (x0 + d + 1) y⟩ := ⟨fun x' y' h => by
      unfold boxP at h
      obtain rfl : x' = x0 + d + 1 := by omega
      obtain rfl : y' = y := by omega
      exact ⟨Int.le_refl _, Int.le_refl _⟩, ⟨_, y, by unfold boxP; omega, rfl⟩, _, y, by unfold boxP; omega, rfl⟩
    exact ⟨_, hr.join h1 (fun a b => by unfold boxP; omega)⟩
theorem rgOf_box (v : Nat → Nat → Int) (x0 d y0 : Nat) : ∀ d' : Nat, ∃ r, RgOf v (boxP x0 y0 (x0 + d) (y0 + d')) r
  | 0 => rgOf_row v x0 y0 d
  | d' + 1 => by
    obtain ⟨r, hr⟩ := rgOf_box v x0 d y0 d'
    obtain ⟨r', hr'⟩ := rgOf_row v x0 (y0 + d' + 1) d
    exact ⟨_, hr.join hr' (fun a b => by unfold boxP; omega)⟩
theorem rgB_of (V : List Int) (gw : Nat) {x0 y0 x1 y1 : Nat} (hx : x0 ≤ x1) (hy : y0 ≤ y1) : RgOf (cellV V gw) (boxP x0 y0 x1 y1) (rgB V gw x0 y0 x1 y1) := by
  obtain ⟨r, hr⟩ := rgOf_box (cellV V gw) x0 (x1 - x0) y0 (y1 - y0)
  rw [show x0 + (x1 - x0) = x1 by omega, show y0 + (y1 - y0) = y1 by omega] at hr
  rw [rgB_eq hr]
  exact hr
noncomputable def rgW (V : List Int) (gw gh i n : Nat) : RG := rgB V gw (winW gw gh i n).x0 (winW gw gh i n).y0 (winW gw gh i n).x1 (winW gw gh i n).y1
theorem rgW_of (V : List Int) {gw gh i : Nat} (n : Nat) (hgw : 0 < gw) (hi : i < gw * gh) : RgOf (cellV V gw) (boxP (winW gw gh i n).x0 (winW gw gh i n).y0 (winW gw gh i n).x1 (winW gw gh i n).y1) (rgW V gw gh i n) := by
  obtain ⟨h1, h2⟩ := winW_ok (n := n) hgw hi
  exact rgB_of V gw h1.1 h2.1
theorem cellV_may {V : List Int} (hB : vB V) (gw x y : Nat) : mayB (cellV V gw x y) = true := (mayB_iff _).2 (hB _)
theorem rgW_may {V : List Int} (hB : vB V) {gw gh i : Nat} (n : Nat) (hgw : 0 < gw) (hi : i < gw * gh) : mayB (rgW V gw gh i n).lo = true ∧ mayB (rgW V gw gh i n).hi = true := by
  have h := rgW_of V n hgw hi
  obtain ⟨x, y, _, e⟩ := h.lo
  obtain ⟨x', y', _, e'⟩ := h.hi
  rw [← e, ← e']
  exact ⟨cellV_may hB _ _ _, cellV_may hB _ _ _⟩
/-- the least of each window; the greatest of these -/
noncomputable def lowL (V : List Int) (gw gh n : Nat) : List Int := gridL gw gh fun i => (rgW V gw gh i n).lo
noncomputable def openL (V : List Int) (gw gh n : Nat) : List Int := gridL gw gh fun i => (rgW (lowL V gw gh n) gw gh i n).hi
theorem lowL_len (V : List Int) (gw gh n : Nat) : (lowL V gw gh n).length = gw * gh := gridL_len _ _ _
theorem openL_len (V : List Int) (gw gh n : Nat) : (openL V gw gh n).length = gw * gh := gridL_len _ _ _
theorem gridL_at {gw gh i : Nat} (c : Nat → Int) (h : i < gw * gh) : (gridL gw gh c).getD i 0 = c i := by
  unfold gridL
  rw [List.getD_eq_getElem?_getD, List.getElem?_map, List.getElem?_range h]
  rfl
theorem gridL_self {gw gh : Nat} {l : List Int} (h : l.length = gw * gh) : gridL gw gh (fun i => l.getD i 0) = l := by
  apply List.ext_getElem?
  intro i
  by_cases hi : i < gw * gh
  · unfold gridL
    rw [List.getElem?_map, List.getElem?_range hi, Option.map_some, List.getD_eq_getElem?_getD, List.getElem?_eq_getElem (by omega)]
    rfl
  · rw [List.getElem?_eq_none (by rw [gridL_len]; omega), List.getElem?_eq_none (by omega)]
theorem lowL_vB {V : List Int} (hB : vB V) {gw gh : Nat} (n : Nat) (hgw : 0 < gw) : vB (lowL V gw gh n) := vB_of_may fun v hv => by
  obtain ⟨i, hi, rfl⟩ := List.mem_map.1 hv
  exact (rgW_may hB n hgw (List.mem_range.1 hi)).1
theorem openL_vB {V : List Int} (hB : vB V) {gw gh : Nat} (n : Nat) (hgw : 0 < gw) : vB (openL V gw gh n) := vB_of_may fun v hv => by
  obtain ⟨i, hi, rfl⟩ := List.mem_map.1 hv
  exact (rgW_may (lowL_vB hB n hgw) n hgw (List.mem_range.1 hi)).2
section
variable {W : World} {A : Option Addr} {p gw gh cap C D tb : Nat} {cc : Nat → Int} {bs : Nat → Nat} {Rs : Nat → Option Nat} {V : List Int}
theorem rangesC_E (i n : Nat) (hw : 1 ≤ gw ∧ gw ≤ 1024) (hh : 1 ≤ gh ∧ gh ≤ 1024) (hi : i < gw * gh) (hC : Blk W C 92 [.pointer (some ⟨tb, 0, none⟩)]) (hA : SparseAt W tb gw gh V) :
    Fn Tryz.prog 52 ([] ++ [(winW gw gh i n).val] ++ [.pointer (some ⟨C, 0, none⟩)]) W (RetG (.agg (rgW V gw gh i n).cells.toArray) W) := by
  obtain ⟨h1, h2⟩ := winW_ok (n := n) hw.1 hi
  unfold rgW Win.val
  generalize winW gw gh i n = r at *
  have S := St.start W
  refine Fn_enter Tryz.func52 rfl Tryz.results52 Tryz.ntmps52 (by kernel_rfl) (by kernel_rfl) ?_
  repeat refine cw_seq ?_
  refine cw_region ?_
  refine rw_newB (op_box rfl) S ?_
  intro b_r w2_ g2_ S
  refine rw_newB (op_alloc Tryz.zeroValue41 rfl) S ?_
  intro b_R w4_ g4_ S
  first | refine rw_end ?_ | (refine rw_nil ?_; show CW _ _ _ _ _ _) | refine rw_nil ?_
  repeat refine cw_seq ?_
  refine cw_region ?_
  refine rw_r (op_loadB Tryz.underlying92 rfl rfl (hC.gr S.out) rfl) ?_
  refine rw_r (op_loadAB Tryz.underlying38 rfl (Tryz.sizeOf38 _) rfl (S.blk (i := 1) rfl) rfl rfl) ?_
  refine rw_call rfl (trangeA_E (W := w4_) r.x0 r.y0 r.x1 r.y1 hw hh h1 h2 (hA.gr S.out)) ?_
  rintro _ w5_ ⟨rfl, g5_⟩
  have S := S.gr g5_
  iterate 3 refine rw_v (op_pure rfl) ?_
  refine rw_newB (op_alloc Tryz.zeroValue41 rfl) S ?_
  intro b_rg w7_ g7_ S
  refine rw_storeSA (i := 0) S rfl (Tryz.sizeOf41 _) rfl rfl rfl rfl rfl rfl ?_
  intro w8_ S
  refine rw_v (op_pure rfl) ?_
  first | refine rw_end ?_ | (refine rw_nil ?_; show CW _ _ _ _ _ _) | refine rw_nil ?_
  repeat refine cw_seq ?_
  refine cw_region ?_
  refine rw_r (op_loadAB Tryz.underlying41 rfl (Tryz.sizeOf41 _) rfl (S.blk (i := 0) rfl) rfl rfl) ?_
  refine rw_storeSA (i := 1) S rfl (Tryz.sizeOf41 _) rfl rfl rfl rfl rfl rfl ?_
  intro w9_ S
  first | refine rw_end ?_ | (refine rw_nil ?_; show CW _ _ _ _ _ _) | refine rw_nil ?_
  repeat refine cw_seq ?_
  refine cw_ret ?_
  repeat first | refine ret_then ?_ | refine ret_inb ?_
  exact resA Tryz.underlying41 rfl (Tryz.sizeOf41 _) rfl (S.blk (i := 1) rfl) rfl rfl ⟨rfl, S.out⟩
theorem sranges_E (hG : GridAt W p gw gh cc A cap bs Rs) : Fn Tryz.prog 25 [.pointer (some ⟨p, 0, none⟩)] W
    (fun v w' => ∃ C tb Ao co As cs, v = .func (.func 52) (([] : List Value).toArray) [.pointer (some ⟨C, 0, none⟩)].toArray ∧ St No W w' (.blk C 92 [.pointer (some ⟨tb, 0, none⟩)] :: SpL tb Ao co As cs gw gh (gridL gw gh cc))) := by
  have S := St.start W
  refine Fn_enter Tryz.func25 rfl Tryz.results25 Tryz.ntmps25 (by kernel_rfl) (by kernel_rfl) ?_
  repeat refine cw_seq ?_
  refine cw_region ?_
  refine rw_v (op_pure rfl) ?_
  first | refine rw_end ?_ | (refine rw_nil ?_; show CW _ _ _ _ _ _) | refine rw_nil ?_
  repeat refine cw_seq ?_
  refine cw_region ?_
  refine rw_v (op_pure rfl) ?_
  refine rw_call rfl (sbuild_E (W := W) (hG.gr S.out)) ?_
  rintro _ w1_ ⟨tb, Ao, co, As, cs, rfl, S2⟩
  have S := S.app S2
  iterate 3 refine rw_v (op_pure rfl) ?_
  refine rw_newB (op_alloc Tryz.zeroValue92 rfl) S ?_
  intro b_tp w3_ g3_ S
  refine rw_storeS (i := 0) S rfl (Tryz.sizeOf92 _) rfl rfl rfl rfl rfl rfl ?_
  intro w4_ S
  refine rw_v (op_pure rfl) ?_
  first | refine rw_end ?_ | (refine rw_nil ?_; show CW _ _ _ _ _ _) | refine rw_nil ?_
  repeat refine cw_seq ?_
  refine cw_region ?_
  iterate 2 refine rw_v (op_pure rfl) ?_
  first | refine rw_end ?_ | (refine rw_nil ?_; show CW _ _ _ _ _ _) | refine rw_nil ?_
  repeat refine cw_seq ?_
  refine cw_ret ?_
  repeat first | refine ret_then ?_ | refine ret_inb ?_
  exact res1 rfl ⟨b_tp, tb, Ao, co, As, cs, rfl, S⟩
/-- the function of ranges: its variable, its table -/
structure RgFn (w : World) (D gw gh : Nat) (V : List Int) : Prop where
  ex : ∃ C tb, Blk w D 59 [.func (.func 52) (([] : List Value).toArray) [.pointer (some ⟨C, 0, none⟩)].toArray] ∧ Blk w C 92 [.pointer (some ⟨tb, 0, none⟩)] ∧ SparseAt w tb gw gh V
theorem RgFn.gr {w w' : World} {D gw gh : Nat} {V : List Int} (h : RgFn w D gw gh V) (g : Gr w w') : RgFn w' D gw gh V := by
  obtain ⟨C, tb, h1, h2, h3⟩ := h.ex
  exact ⟨C, tb, h1.gr g, h2.gr g, h3.gr g⟩
theorem open1_E (i n : Nat) (hw : 1 ≤ gw ∧ gw ≤ 1024) (hh : 1 ≤ gh ∧ gh ≤ 1024) (hi : i < gw * gh) (hD : RgFn W D gw gh V) :
    Fn Tryz.prog 26 ([] ++ [(winW gw gh i n).val] ++ [.pointer (some ⟨D, 0, none⟩)]) W (RetG (.int .i64 (rgW V gw gh i n).lo) W) := by
  obtain ⟨C, tb, hF, hC, hA⟩ := hD.ex
  have hr := fun w (g : Gr W w) => rangesC_E (W := w) i n hw hh hi (hC.gr g) (hA.gr g)
  generalize rgW V gw gh i n = q at *
  unfold Win.val at *
  unfold RG.cells at hr
  have S := St.start W
  refine Fn_enter Tryz.func26 rfl Tryz.results26 Tryz.ntmps26 (by kernel_rfl) (by kernel_rfl) ?_
  repeat refine cw_seq ?_
  refine cw_region ?_
  refine rw_newB (op_box rfl) S ?_
  intro b_r w2_ g2_ S
  refine rw_v (op_pure rfl) ?_
  first | refine rw_end ?_ | (refine rw_nil ?_; show CW _ _ _ _ _ _) | refine rw_nil ?_
  repeat refine cw_seq ?_
  refine cw_region ?_
  refine rw_r (op_loadB Tryz.underlying59 rfl rfl (hF.gr S.out) rfl) ?_
  refine rw_r (op_loadAB Tryz.underlying38 rfl (Tryz.sizeOf38 _) rfl (S.blk (i := 0) rfl) rfl rfl) ?_
  refine rw_callv rfl rfl (hr w2_ S.out) ?_
  rintro _ w3_ ⟨rfl, g3_⟩
  have S := S.gr g3_
  refine rw_v (op_field Tryz.underlying41 rfl Tryz.underlying2 rfl rfl rfl) ?_
  refine rw_v (op_pure rfl) ?_
  first | refine rw_end ?_ | (refine rw_nil ?_; show CW _ _ _ _ _ _) | refine rw_nil ?_
  repeat refine cw_seq ?_
  refine cw_ret ?_
  repeat first | refine ret_then ?_ | refine ret_inb ?_
  exact res1 rfl ⟨rfl, S.out⟩
theorem open2_E (i n : Nat) (hw : 1 ≤ gw ∧ gw ≤ 1024) (hh : 1 ≤ gh ∧ gh ≤ 1024) (hi : i < gw * gh) (hD : RgFn W D gw gh V) :
    Fn Tryz.prog 27 ([] ++ [(winW gw gh i n).val] ++ [.pointer (some ⟨D, 0, none⟩)]) W (RetG (.int .i64 (rgW V gw gh i n).hi) W) := by
  obtain ⟨C, tb, hF, hC, hA⟩ := hD.ex
  have hr := fun w (g : Gr W w) => rangesC_E (W := w) i n hw hh hi (hC.gr g) (hA.gr g)
  generalize rgW V gw gh i n = q at *
  unfold Win.val at *
  unfold RG.cells at hr
  have S := St.start W
  refine Fn_enter Tryz.func27 rfl Tryz.results27 Tryz.ntmps27 (by kernel_rfl) (by kernel_rfl) ?_
  repeat refine cw_seq ?_
  refine cw_region ?_
  refine rw_newB (op_box rfl) S ?_
  intro b_r w2_ g2_ S
  refine rw_v (op_pure rfl) ?_
  first | refine rw_end ?_ | (refine rw_nil ?_; show CW _ _ _ _ _ _) | refine rw_nil ?_
  repeat refine cw_seq ?_
  refine cw_region ?_
  refine rw_r (op_loadB Tryz.underlying59 rfl rfl (hF.gr S.out) rfl) ?_
  refine rw_r (op_loadAB Tryz.underlying38 rfl (Tryz.sizeOf38 _) rfl (S.blk (i := 0) rfl) rfl rfl) ?_
  refine rw_callv rfl rfl (hr w2_ S.out) ?_
  rintro _ w3_ ⟨rfl, g3_⟩
  have S := S.gr g3_
  refine rw_v (op_field Tryz.underlying41 rfl Tryz.underlying2 rfl rfl rfl) ?_
  refine rw_v (op_pure rfl) ?_
  first | refine rw_end ?_ | (refine rw_nil ?_; show CW _ _ _ _ _ _) | refine rw_nil ?_
  repeat refine cw_seq ?_
  refine cw_ret ?_
  repeat first | refine ret_then ?_ | refine ret_inb ?_
  exact res1 rfl ⟨rfl, S.out⟩
set_option maxHeartbeats 2000000 in
theorem sopen_E (n : Nat) (hn : n ≤ 1024) (hB : vB (gridL gw gh cc)) (hG : GridAt W p gw gh cc A cap bs Rs) : Fn Tryz.prog 9 [.pointer (some ⟨p, 0, none⟩), .int .i64 n] W
    (RetGrid (fun p => .tuple #[p, .int .i64 0]) gw gh (fun i => (openL (gridL gw gh cc) gw gh n).getD i 0) W) := by
  have hw := hG.sw
  have hh := hG.sh
  have hrg := fun w (g : Gr W w) => sranges_E (hG.gr g)
  have hmade := fun (b : Nat) w (g : Gr W w) => smade_E (W := w) (fid := 26) (caps := [.pointer (some ⟨b, 0, none⟩)]) (q := fun i => (rgW (gridL gw gh cc) gw gh i n).lo) n hn (hG.gr g) (fun i hi => (rgW_may hB n hw.1 hi).1)
  generalize gridL gw gh cc = V at *
  have hBl := lowL_vB hB (gw := gw) (gh := gh) n hw.1
  have elow : gridL gw gh (fun i => (lowL V gw gh n).getD i 0) = lowL V gw gh n := gridL_self (lowL_len _ _ _ _)
  have hrg2 := fun w (p2 cap2 : Nat) (A2 : Option Addr) (bs2 : Nat → Nat) (Rs2 : Nat → Option Nat) (h : GridAt w p2 gw gh (fun i => (lowL V gw gh n).getD i 0) A2 cap2 bs2 Rs2) => sranges_E h
  have hmade2 := fun (b : Nat) w (p2 cap2 : Nat) (A2 : Option Addr) (bs2 : Nat → Nat) (Rs2 : Nat → Option Nat) (h : GridAt w p2 gw gh (fun i => (lowL V gw gh n).getD i 0) A2 cap2 bs2 Rs2) => smade_E (W := w) (fid := 27) (caps := [.pointer (some ⟨b, 0, none⟩)]) (q := fun i => (rgW (lowL V gw gh n) gw gh i n).hi) n hn h (fun i hi => (rgW_may hBl n hw.1 hi).2)
  rw [elow] at hrg2
  have S := St.start W
  refine Fn_enter Tryz.func9 rfl Tryz.results9 Tryz.ntmps9 (by kernel_rfl) (by kernel_rfl) ?_
  repeat refine cw_seq ?_
  refine cw_region ?_
  iterate 2 refine rw_v (op_pure rfl) ?_
  first | refine rw_end ?_ | (refine rw_nil ?_; show CW _ _ _ _ _ _) | refine rw_nil ?_
  repeat refine cw_seq ?_
  refine cw_region ?_
  refine rw_v (op_pure rfl) ?_
  refine rw_call rfl (hrg W S.out) ?_
  rintro _ w1_ ⟨C, tb, Ao, co, As, cs, rfl, S2⟩
  have S := S.app S2
  refine rw_newB (op_alloc Tryz.zeroValue59 rfl) S ?_
  intro b_fp w3_ g3_ S
  refine rw_storeS (i := 0) S rfl (Tryz.sizeOf59 _) rfl rfl rfl rfl rfl rfl ?_
  intro w4_ S
  first | refine rw_end ?_ | (refine rw_nil ?_; show CW _ _ _ _ _ _) | refine rw_nil ?_
  have hD : RgFn _ b_fp gw gh V := ⟨C, tb, S.blk (i := 0) rfl, S.blk (i := 1) rfl, Ao, co, As, cs, S.blk (i := 4) rfl, S.row (i := 2) rfl, fun k hk => S.grow_ (i := 3) rfl hk⟩
  have S := S.sub (.cons_cons _ (.cons _ (.cons _ (.cons _ (.cons _ (.slnil))))))
  repeat refine cw_seq ?_
  refine cw_region ?_
  iterate 3 refine rw_v (op_pure rfl) ?_
  refine rw_call rfl (hmade b_fp w4_ S.out (fun w g i hi => open1_E i n hw hh hi (hD.gr g))) ?_
  rintro _ w5_ ⟨p2, B2, bc2, bs2, Rs2, rfl, hG2, hf2, g5_⟩
  have S := S.pushGrid hG2 hf2 g5_
  iterate 5 refine rw_v (op_pure rfl) ?_
  first | refine rw_end ?_ | (refine rw_nil ?_; show CW _ _ _ _ _ _) | refine rw_nil ?_
  repeat refine cw_seq ?_
  refine cw_region ?_
  refine rw_v (op_pure rfl) ?_
  refine rw_v (op_b (b := false) rfl (bne_eq_false_iff_eq.2 (by omega))) ?_
  first | refine rw_end ?_ | (refine rw_nil ?_; show CW _ _ _ _ _ _) | refine rw_nil ?_
  repeat refine cw_seq ?_
  refine cw_false rfl ?_
  repeat refine cw_seq ?_
  refine cw_skip ?_
  try show CW _ _ _ _ _ _
  repeat refine cw_seq ?_
  refine cw_region ?_
  refine rw_v (op_pure rfl) ?_
  refine rw_call rfl (hrg2 w5_ _ _ _ _ _ (S.grid (i := 0) rfl)) ?_
  rintro _ w6_ ⟨C2, tb2, Ao2, co2, As2, cs2, rfl, S2⟩
  have S := S.app S2
  refine rw_storeS (i := 5) S rfl (Tryz.sizeOf59 _) rfl rfl rfl rfl rfl rfl ?_
  intro w7_ S
  first | refine rw_end ?_ | (refine rw_nil ?_; show CW _ _ _ _ _ _) | refine rw_nil ?_
  have hD2 : RgFn _ b_fp gw gh (lowL V gw gh n) := ⟨C2, tb2, S.blk (i := 5) rfl, S.blk (i := 0) rfl, Ao2, co2, As2, cs2, S.blk (i := 3) rfl, S.row (i := 1) rfl, fun k hk => S.grow_ (i := 2) rfl hk⟩
  repeat refine cw_seq ?_
  refine cw_region ?_
  iterate 3 refine rw_v (op_pure rfl) ?_
  refine rw_call rfl (hmade2 b_fp w7_ _ _ _ _ _ (S.grid (i := 4) rfl) (fun w g i hi => open2_E i n hw hh hi (hD2.gr g))) ?_
  rintro _ w8_ ⟨p3, B3, bc3, bs3, Rs3, rfl, hG3, hf3, g8_⟩
  have S := S.pushGrid hG3 hf3 g8_
  iterate 4 refine rw_v (op_pure rfl) ?_
  first | refine rw_end ?_ | (refine rw_nil ?_; show CW _ _ _ _ _ _) | refine rw_nil ?_
  repeat refine cw_seq ?_
  refine cw_ret ?_
  repeat first | refine ret_then ?_ | refine ret_inb ?_
  exact res2 rfl rfl (S.retGrid (i := 0) (mk := fun p => .tuple #[p, .int .i64 0]) rfl)
end
end Go.Proofs.YtbcgbcipigcbhaaGreat
