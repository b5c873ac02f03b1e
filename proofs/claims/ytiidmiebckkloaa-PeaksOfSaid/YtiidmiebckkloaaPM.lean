/- hachureref29.Of: labels and parts, by definition. -/
import Derived.Test.YtiidmiebckkloaaPL
import Derived.Test.YtiidmiebckkloaaPH
import Derived.Laws.StructEq
namespace Go.Proofs.Ytiidmiebckkloaa
open Go.RowKit
set_option linter.unusedVariables false
set_option linter.unusedSimpArgs false
set_option maxRecDepth 100000

/-! ### The plain law -/
def lz (o : Nat → Nat) : Nat → Int := fun i => (o i : Int) - 1
theorem lz_upd (o : Nat → Nat) (y lab : Nat) : lz (updF o y lab) = updI (lz o) y ((lab : Int) - 1) := by
  funext i
  unfold lz updI updF
  by_cases e : i = y
  · rw [if_pos e, if_pos e]
  · rw [if_neg e, if_neg e]
section
variable {gw gh c lab : Nat} {V : List Int} {t : Int} {o0 o : Nat → Nat} {T : List Nat} {X : Nat → Nat → Prop}
structure SP (gw : Nat) (V : List Int) (t : Int) (c lab : Nat) (o0 o : Nat → Nat) (T : List Nat) (X : Nat → Nat → Prop) : Prop where
  old : ∀ j, j < V.length → o0 j ≠ 0 → o j = o0 j
  new : ∀ j, j < V.length → o0 j = 0 → o j ≠ 0 → o j = lab ∧ Conn gw V t c j
  start : o c ≠ 0
  todo : ∀ j ∈ T, j < V.length ∧ o0 j = 0 ∧ o j ≠ 0 ∧ t ≤ V.getD j 0
  closed : ∀ i j, Adj gw V t i j → o0 i = 0 → o i ≠ 0 → i ∉ T → o j ≠ 0 ∨ X i j
  room : cntS V.length (lz o) + (V.length - cntS V.length (lz o)) ≤ V.length ∧ T.length ≤ cntS V.length (lz o)
theorem SP.init (hc : c < V.length) (ht : t ≤ V.getD c 0) (h0 : o0 c = 0) (hl : lab ≠ 0) : SP gw V t c lab o0 (updF o0 c lab) [c] (fun _ _ => False) := by
  have hcu : cntS V.length (lz (updF o0 c lab)) = cntS V.length (lz o0) + 1 := by
    rw [lz_upd, cntS_upd (by omega) (by unfold lz; omega), if_pos hc]
  refine ⟨fun j _ h => updF_ne (fun e => h (e ▸ h0)), fun j _ h hn => ?_, by rw [updF_at]; exact hl, fun j hj => ?_, fun i j _ hi hn hT => ?_, ?_⟩
  · by_cases e : j = c
    · subst e; exact ⟨updF_at _ _ _, .refl _⟩
    · rw [updF_ne e] at hn; exact absurd h hn
  · obtain rfl := List.mem_singleton.1 hj
    exact ⟨hc, h0, by rw [updF_at]; exact hl, ht⟩
  · by_cases e : i = c
    · exact absurd (List.mem_singleton.2 e) hT
    · rw [updF_ne e] at hn; exact absurd hi hn
  · have := cntS_le V.length (lz (updF o0 c lab))
    rw [hcu] at this ⊢
    simp only [List.length_singleton]
    omega
/-- the last of those that wait is taken -/
theorem SP.pop {p : List Nat} {d : Nat} (h : SP gw V t c lab o0 o (p ++ [d]) (fun _ _ => False)) : SP gw V t c lab o0 o p (fun i j => i = d ∧ Adj gw V t d j) := by
  refine ⟨h.old, h.new, h.start, fun j hj => h.todo j (List.mem_append_left _ hj), fun i j ha hi hn hT => ?_, ?_⟩
  · by_cases e : i = d
    · exact .inr ⟨e, e ▸ ha⟩
    · have hnm : i ∉ p ++ [d] := fun hm => (List.mem_append.1 hm).elim hT (fun hm => e (List.mem_singleton.1 hm))
      exact (h.closed i j ha hi hn hnm).elim .inl (fun h1 => h1.elim)
  · have := h.room
    rw [List.length_append, List.length_singleton] at this
    omega
theorem SP.weak {Y : Nat → Nat → Prop} (h : SP gw V t c lab o0 o T X) (hX : ∀ i j, X i j → o j ≠ 0 ∨ Y i j) : SP gw V t c lab o0 o T Y :=
  ⟨h.old, h.new, h.start, h.todo, fun i j ha hi hn hT => (h.closed i j ha hi hn hT).elim .inl (hX i j), h.room⟩
/-- a neighbour that has no label gets it -/
theorem SP.put {d y : Nat} (h : SP gw V t c lab o0 o T X) (hl : lab ≠ 0) (hy : y < V.length) (h0 : o y = 0) (hd : o0 d = 0) (hdn : o d ≠ 0) (hdl : d < V.length) (ha : Adj gw V t d y) : SP gw V t c lab o0 (updF o y lab) (T ++ [y]) X := by
  have h00 : o0 y = 0 := by
    apply Classical.byContradiction
    intro hne
    rw [h.old y hy hne] at h0
    exact hne h0
  have hcu : cntS V.length (lz (updF o y lab)) = cntS V.length (lz o) + 1 := by
    rw [lz_upd, cntS_upd (by omega) (by unfold lz; omega), if_pos hy]
  have keep : ∀ j, o j ≠ 0 → updF o y lab j ≠ 0 := fun j hj => by
    by_cases e : j = y
    · subst e; rw [updF_at]; exact hl
    · rw [updF_ne e]; exact hj
  refine ⟨fun j hj hn => ?_, fun j hj hz hn => ?_, keep c h.start, fun j hj => ?_, fun i j hij hi hn hT => ?_, ?_⟩
  · rw [updF_ne (fun e => hn (by rw [e]; exact h00))]; exact h.old j hj hn
  · by_cases e : j = y
    · subst e
      exact ⟨updF_at _ _ _, (h.new d hdl hd hdn).2.trans (.of_adj ha)⟩
    · rw [updF_ne e] at hn ⊢; exact h.new j hj hz hn
  · rcases List.mem_append.1 hj with hj | hj
    · obtain ⟨g1, g2, g3, g4⟩ := h.todo j hj
      exact ⟨g1, g2, keep j g3, g4⟩
    · obtain rfl := List.mem_singleton.1 hj
      exact ⟨hy, h00, by rw [updF_at]; exact hl, ha.2.2.2.1⟩
  · have hne : i ≠ y := fun e => hT (List.mem_append_right _ (List.mem_singleton.2 e))
    rw [updF_ne hne] at hn
    exact (h.closed i j hij hi hn (fun hm => hT (List.mem_append_left _ hm))).imp (keep j) id
  · have h1 := h.room
    have h2 := cntS_le V.length (lz (updF o y lab))
    rw [hcu] at h2 ⊢
    rw [List.length_append, List.length_singleton]
    omega
theorem SP.done (h : SP gw V t c lab o0 o [] (fun _ _ => False)) (hc0 : ∀ j, Conn gw V t c j → o0 j = 0) {j : Nat} (hcj : Conn gw V t c j) : o j ≠ 0 := by
  have key : ∀ i j, Conn gw V t i j → Conn gw V t c i → o i ≠ 0 → o j ≠ 0 := by
    intro i j hij
    induction hij with
    | refl => exact fun _ h => h
    | @step i j k ha _ ih =>
      intro hci hoi
      refine ih (hci.trans (.of_adj ha)) ?_
      rcases h.closed i j ha (hc0 i hci) hoi (by simp) with h1 | h1
      · exact h1
      · exact h1.elim
  exact key c j hcj (.refl _) h.start
end
/-! ### The walk -/
section
variable {W : World} {A AL : Option Addr} {gw gh cap cL : Nat} {V : List Int} {o0 : Nat → Nat}
set_option maxHeartbeats 4000000 in
theorem spread_E (c lab : Nat) (t : Int) (hgw : 0 < gw) (hV : V.length = gw * gh) (hm : gw * gh ≤ 1048576) (hc : c < gw * gh) (ht : t ≤ V.getD c 0) (h0 : o0 c = 0) (hl : lab ≠ 0) (hlb : lab ≤ 1048577) (hA : Rd W A (ints V)) (hL : Row W 2 1 AL V.length cL (cellsN V.length o0)) (hdis : ∀ g, ownA A g → ¬ ownA AL g) :
    Fn Try.prog 63 [modV gw gh A V.length cap, .slice AL V.length cL, .agg #[.int .i64 (c % gw : Nat), .int .i64 (c / gw : Nat)], .int .i64 t, .int .i64 lab] W
      (fun v w' => v = .tuple #[] ∧ ∃ o, SP gw V t c lab o0 o [] (fun _ _ => False) ∧ Row w' 2 1 AL V.length cL (cellsN V.length o) ∧ Fr (ownA AL) W w') := by
  have hn1 : 1 ≤ gw * gh := by omega
  have hAk : ∀ {w : World}, Fr (ownA AL) W w → Rd w A (ints V) := fun {w} hF => hA.fr hF (fun a ha => hdis _ (by rw [ha]; rfl))
  have sa_A : SomeA A := hA.someA (by rw [ints_len]; omega)
  have sa_L : SomeA AL := hL.someA (by omega)
  have S := St.start1 W (.row 2 1 AL V.length cL (cellsN V.length o0)) hL
  have ec : ((c / gw : Nat) : Int) * gw = ((c / gw * gw : Nat) : Int) := by push_cast; rfl
  have ecm : c / gw * gw + c % gw = c := by rw [Nat.mul_comm]; exact Nat.div_add_mod _ _
  have ec2 : ((c / gw * gw : Nat) : Int) + (c % gw : Nat) = ((c : Nat) : Int) := by omega
  refine Fn_enter Try.func63 rfl Try.results63 Try.ntmps63 (by kernel_rfl) (by kernel_rfl) ?_
  repeat refine cw_seq ?_
  refine cw_region ?_
  refine rw_newB (op_box rfl) S ?_
  intro b_md w2_ g2_ S
  refine rw_newB (op_box rfl) S ?_
  intro b_c w4_ g4_ S
  first | refine rw_end ?_ | (refine rw_nil ?_; show CW _ _ _ _ _ _) | refine rw_nil ?_
  repeat refine cw_seq ?_
  refine cw_region ?_
  refine rw_r (op_loadAB Try.underlying40 rfl (Try.sizeOf40 _) rfl (S.blk (i := 0) rfl) rfl rfl) ?_
  refine rw_buildS Try.underlying52 Try.sizeOf40 Try.zeroValue40 rfl rfl rfl rfl rfl rfl S ?_
  intro A_T w6_ g6_ S sa_T
  refine rw_v (op_pure rfl) ?_
  first | refine rw_end ?_ | (refine rw_nil ?_; show CW _ _ _ _ _ _) | refine rw_nil ?_
  repeat refine cw_seq ?_
  refine cw_region ?_
  refine rw_v (op_pure rfl) ?_
  refine rw_v (op_fieldAddr Try.underlying40 rfl Try.sizeOf2 rfl rfl) ?_
  refine rw_r (op_loadB Try.underlying2 rfl rfl (S.blk (i := 1) rfl) rfl) ?_
  refine rw_v (op_fieldAddr Try.underlying32 rfl Try.sizeOf2 rfl rfl) ?_
  refine rw_r (op_loadB Try.underlying2 rfl rfl (S.blk (i := 2) rfl) rfl) ?_
  refine rw_v (op_rng rfl (by omega)) ?_
  rw [ec]
  refine rw_v (op_fieldAddr Try.underlying40 rfl Try.sizeOf2 rfl rfl) ?_
  refine rw_r (op_loadB Try.underlying2 rfl rfl (S.blk (i := 1) rfl) rfl) ?_
  refine rw_v (op_rng rfl (by omega)) ?_
  rw [ec2]
  refine rw_v (op_pure rfl) ?_
  refine rw_v (op_idx Try.underlying30 Try.sizeOf2 rfl rfl sa_L (by omega) (by omega)) ?_
  refine rw_storeR (i := 3) S rfl (Try.sizeOf2 _) rfl rfl rfl rfl (by rw [cellsN_len]; omega) rfl ?_
  intro w7_ S
  first | refine rw_end ?_ | (refine rw_nil ?_; show CW _ _ _ _ _ _) | refine rw_nil ?_
  repeat refine cw_seq ?_
  refine cw_block ?_
  repeat refine cw_seq ?_
  rw [Nat.mul_one, Int.toNat_natCast, cellsN_set] at S
  have hp0 := SP.init (gw := gw) (hV ▸ hc) ht h0 hl
  have hc0 := cntS_le V.length (lz (updF o0 c lab))
  refine cw_loop (fun m e w => ∃ (o : Nat → Nat) (T : List Nat) (A_T : Option Addr) (c_T : Nat), 2 * (V.length - cntS V.length (lz o)) + T.length = m ∧ SL e [(1, .slice AL V.length cL), (3, .int .i64 t), (4, .int .i64 lab), (5, .pointer (some ⟨b_md, 0, none⟩)), (10, .slice A_T T.length c_T)] ∧ SP gw V t c lab o0 o T (fun _ _ => False) ∧
    St (ownA AL) W w [.row 40 2 A_T T.length c_T (cellsZ (T.map (cz gw))), .blk b_md 32 [.int .i64 gw, .int .i64 gh, .slice A V.length cap], .row 2 1 AL V.length cL (cellsN V.length o)]) _
    ⟨_, [c], A_T, 1, rfl, ⟨rfl, rfl, rfl, rfl, rfl, trivial⟩, hp0, S.sub (.cons_cons _ (.cons _ (.cons_cons _ (.cons_cons _ .slnil))))⟩ ?_
  clear S hp0
  rintro m e w ⟨o, T, A_T, c_T, rfl, hsl, hp, S⟩
  rw [hsl.fold]
  by_cases hT : T = []
  · subst hT
    have h0l : ([] : List Nat).length = 0 := rfl
    repeat refine cw_seq ?_
    refine cw_region ?_
    refine rw_v (op_pure rfl) ?_
    refine rw_v (op_len Try.underlying52 rfl) ?_
    refine rw_v (op_b (b := false) rfl (decide_eq_false (by omega))) ?_
    first | refine rw_end ?_ | (refine rw_nil ?_; show CW _ _ _ _ _ _) | refine rw_nil ?_
    repeat refine cw_seq ?_
    refine cw_false rfl ?_
    repeat refine cw_seq ?_
    refine cw_exit ?_
    repeat first | refine exit_then ?_ | refine exit_inb ?_
    exact res0 ⟨rfl, o, hp, S.row (i := 2) rfl, S.fr⟩
  · obtain ⟨p, d, rfl⟩ : ∃ p d, T = p ++ [d] := by
      rcases List.eq_nil_or_concat T with h | ⟨p, d, h⟩
      · exact absurd h hT
      · exact ⟨p, d, by rw [h, List.concat_eq_append]⟩
    obtain ⟨hdl, hd0, hdn, hdt⟩ := hp.todo d (by simp)
    have hTl : (p ++ [d]).length = p.length + 1 := by simp
    have hmd : ((p ++ [d]).map (cz gw))[p.length]? = some (cz gw d) := by rw [List.getElem?_map, List.getElem?_append_right (Nat.le_refl _)]; simp
    have em : (((p ++ [d]).length : Nat) : Int) - 1 = ((p.length : Nat) : Int) := by omega
    have hatd : ((cellsZ ((p ++ [d]).map (cz gw))).drop (((p.length : Nat) : Int).toNat * 2)).take 2 = [.int .i64 (d % gw : Nat), .int .i64 (d / gw : Nat)] := by rw [Int.toNat_natCast]; exact cellsZ_at hmd
    have sa_T : SomeA A_T := (S.row (i := 0) rfl).someA (by omega)
    have hcapT := (S.row (i := 0) rfl).cap
    have hpp := hp.pop
    have hroom := hp.room
    repeat refine cw_seq ?_
    refine cw_region ?_
    refine rw_v (op_pure rfl) ?_
    refine rw_v (op_len Try.underlying52 rfl) ?_
    refine rw_v (op_b (b := true) rfl (decide_eq_true (by omega))) ?_
    first | refine rw_end ?_ | (refine rw_nil ?_; show CW _ _ _ _ _ _) | refine rw_nil ?_
    repeat refine cw_seq ?_
    refine cw_true rfl ?_
    repeat refine cw_seq ?_
    refine cw_skip ?_
    try show CW _ _ _ _ _ _
    repeat refine cw_seq ?_
    refine cw_block ?_
    repeat refine cw_seq ?_
    refine cw_region ?_
    iterate 2 refine rw_v (op_pure rfl) ?_
    refine rw_v (op_len Try.underlying52 rfl) ?_
    refine rw_v (op_rng rfl (by omega)) ?_
    rw [em]
    refine rw_v (op_idx Try.underlying52 Try.sizeOf40 rfl rfl sa_T (by omega) (by omega)) ?_
    refine rw_r (op_ldRA Try.underlying40 rfl (Try.sizeOf40 _) rfl (S.rd (i := 0) rfl) hatd rfl rfl) ?_
    refine rw_newB (op_alloc Try.zeroValue40 rfl) S ?_
    intro b_d w9_ g9_ S
    refine rw_storeSA (i := 0) S rfl (Try.sizeOf40 _) rfl rfl rfl rfl rfl rfl ?_
    intro w10_ S
    first | refine rw_end ?_ | (refine rw_nil ?_; show CW _ _ _ _ _ _) | refine rw_nil ?_
    repeat refine cw_seq ?_
    refine cw_region ?_
    iterate 2 refine rw_v (op_pure rfl) ?_
    refine rw_v (op_len Try.underlying52 rfl) ?_
    refine rw_v (op_rng rfl (by omega)) ?_
    rw [em]
    refine rw_v (op_slice_h Try.underlying52 Try.sizeOf40 rfl rfl (by omega) (by omega)) ?_
    refine rw_v (op_pure rfl) ?_
    first | refine rw_end ?_ | (refine rw_nil ?_; show CW _ _ _ _ _ _) | refine rw_nil ?_
    repeat refine cw_seq ?_
    refine cw_region ?_
    refine rw_r (op_loadAB Try.underlying32 rfl (Try.sizeOf32 _) rfl (S.blk (i := 2) rfl) rfl rfl) ?_
    refine rw_r (op_loadAB Try.underlying40 rfl (Try.sizeOf40 _) rfl (S.blk (i := 0) rfl) rfl rfl) ?_
    refine rw_call rfl (nearI_E (W := w10_) d hgw (by omega) hV hm (hAk S.fr)) ?_
    rintro _ w11_ ⟨A_near, c_near, rfl, hR_near, hf_near, g11_⟩
    have S := S.pushRow hR_near hf_near g11_
    refine rw_v (op_pure rfl) ?_
    first | refine rw_end ?_ | (refine rw_nil ?_; show CW _ _ _ _ _ _) | refine rw_nil ?_
    repeat refine cw_seq ?_
    refine cw_region ?_
    refine rw_v (op_pure rfl) ?_
    first | refine rw_end ?_ | (refine rw_nil ?_; show CW _ _ _ _ _ _) | refine rw_nil ?_
    repeat refine cw_seq ?_
    refine cw_block ?_
    repeat refine cw_seq ?_
    have hR := (S.row (i := 2) rfl).take (m := p.length) (by omega)
    have etk : (cellsZ ((p ++ [d]).map (cz gw))).take (p.length * 2) = cellsZ (p.map (cz gw)) := by
      rw [List.map_append, ← cellsZ_app]
      have : (cellsZ (p.map (cz gw))).length = p.length * 2 := by rw [cellsZ_len, List.length_map]
      rw [← this, List.take_left]
    rw [etk] at hR
    have S := S.set (i := 2) (h' := .row 40 2 A_T p.length c_T (cellsZ (p.map (cz gw)))) rfl rfl (Fr.refl No _) (fun _ h => h.elim) hR (fun g h => .inl h)
    have hnl := nearN_len gw V.length d
    have sa_near0 : 0 < (nearN gw V.length d).length → SomeA A_near := fun h => (S.row (i := 0) rfl).someA (by omega)
    have hmemN : ∀ y, y ∈ nearN gw V.length d ↔ y < gw * gh ∧ Side gw d y := fun y => by rw [hV]; exact nearN_mem hgw (by omega)
    generalize hNr : nearN gw V.length d = Nr at *
    refine cw_loop (fun m2 e w => ∃ (k : Nat) (o' : Nat → Nat) (p' : List Nat) (A_T : Option Addr) (c_T : Nat), k + m2 = Nr.length ∧ 2 * (V.length - cntS V.length (lz o')) + p'.length ≤ 2 * (V.length - cntS V.length (lz o)) + p.length ∧ o' d ≠ 0 ∧ SL e [(1, .slice AL V.length cL), (3, .int .i64 t), (4, .int .i64 lab), (5, .pointer (some ⟨b_md, 0, none⟩)), (10, .slice A_T p'.length c_T), (12, .slice A_near Nr.length c_near), (13, .int .i64 k)] ∧
      SP gw V t c lab o0 o' p' (fun i j => i = d ∧ ∃ x, k ≤ x ∧ Nr[x]? = some j) ∧
      St (ownA AL) W w [.row 40 2 A_near Nr.length c_near (cellsZ (Nr.map (cz gw))), .row 40 2 A_T p'.length c_T (cellsZ (p'.map (cz gw))), .blk b_md 32 [.int .i64 gw, .int .i64 gh, .slice A V.length cap], .row 2 1 AL V.length cL (cellsN V.length o')]) Nr.length
      ⟨0, o, p, A_T, c_T, by omega, Nat.le_refl _, hdn, ⟨rfl, rfl, rfl, rfl, rfl, rfl, rfl, trivial⟩, hpp.weak (fun i j ⟨e, ha⟩ => .inr ⟨e, by
        obtain ⟨x, hx⟩ := List.getElem?_of_mem ((hmemN j).2 ⟨by have := ha.2.1; omega, ha.2.2.2.2⟩)
        exact ⟨x, Nat.zero_le _, hx⟩⟩), S.sub (.cons_cons _ (.cons _ (.cons_cons _ (.cons_cons _ (.cons_cons _ .slnil)))))⟩ ?_
    clear S hpp
    rintro m2 e w ⟨k, o', p', A_T, c_T, hk, hmea, hod, hsl, hp', S⟩
    rw [hsl.fold]
    have hroom' := hp'.room
    repeat refine cw_seq ?_
    refine cw_region ?_
    iterate 2 refine rw_v (op_pure rfl) ?_
    refine rw_v (op_len Try.underlying52 rfl) ?_
    refine rw_v (op_pure rfl) ?_
    first | refine rw_end ?_ | (refine rw_nil ?_; show CW _ _ _ _ _ _) | refine rw_nil ?_
    repeat refine cw_seq ?_
    refine cw_cond rfl (fun hcl => ?_) (fun hcl => ?_)
    · try simp only [decide_eq_true_eq, decide_eq_false_iff_not, beq_iff_eq, bne_iff_ne, beq_eq_false_iff_ne, bne_eq_false_iff_eq, Bool.not_eq_true', Bool.not_eq_false', ne_eq, Decidable.not_not, Int.natCast_inj, Int.ofNat_lt, Int.ofNat_le, gt_iff_lt, ge_iff_le, Int.not_lt, Int.not_le] at hcl
      obtain ⟨y, hy⟩ : ∃ y, Nr[k]? = some y := ⟨_, List.getElem?_eq_getElem (by omega)⟩
      obtain ⟨hyl, hys⟩ := (hmemN y).1 (List.mem_of_getElem? hy)
      have sa_near : SomeA A_near := sa_near0 (by omega)
      have hmy : (Nr.map (cz gw))[k]? = some (cz gw y) := by rw [List.getElem?_map, hy]; rfl
      have haty : ((cellsZ (Nr.map (cz gw))).drop ((k : Int).toNat * 2)).take 2 = [.int .i64 (y % gw : Nat), .int .i64 (y / gw : Nat)] := by rw [Int.toNat_natCast]; exact cellsZ_at hmy
      have hcx : (cellsZ (Nr.map (cz gw)))[(k : Int).toNat * 2 + 0]? = some (.int .i64 (y % gw : Nat)) := by rw [Int.toNat_natCast]; exact cellsZ_x hmy
      have hcy : (cellsZ (Nr.map (cz gw)))[(k : Int).toNat * 2 + 1]? = some (.int .i64 (y / gw : Nat)) := by rw [Int.toNat_natCast]; exact cellsZ_y hmy
      have ey : ((y / gw : Nat) : Int) * gw = ((y / gw * gw : Nat) : Int) := by push_cast; rfl
      have eym : y / gw * gw + y % gw = y := by rw [Nat.mul_comm]; exact Nat.div_add_mod _ _
      have ey2 : ((y / gw * gw : Nat) : Int) + (y % gw : Nat) = ((y : Nat) : Int) := by omega
      have hvy : (ints V)[(y : Int).toNat * 1]? = some (.int .i64 (V.getD y 0)) := by rw [Nat.mul_one, Int.toNat_natCast]; exact ints_get (getD_at (by omega))
      have hoy : (cellsN V.length o')[(y : Int).toNat * 1]? = some (.int .i64 (o' y : Nat)) := by rw [Nat.mul_one, Int.toNat_natCast]; exact cellsN_get (by omega)
      have hnext : (∀ i j, (i = d ∧ ∃ x, k ≤ x ∧ Nr[x]? = some j) → j = y ∨ (i = d ∧ ∃ x, k + 1 ≤ x ∧ Nr[x]? = some j)) := fun i j ⟨e, x, hx, hj⟩ => by
        by_cases ex : x = k
        · subst ex; exact .inl (Option.some.inj (hj.symm.trans hy))
        · exact .inr ⟨e, x, by omega, hj⟩
      by_cases hb : t ≤ V.getD y 0 ∧ o' y = 0
      · obtain ⟨hb1, hb2⟩ := hb
        rw [hb2] at hoy
        have hadj : Adj gw V t d y := ⟨hdl, by omega, hdt, hb1, hys⟩
        have hput := hp'.put hl (by omega) hb2 hd0 hod hdl hadj
        have hod2 : updF o' y lab d ≠ 0 := by
          rw [updF_ne (fun e => hod (by rw [e]; exact hb2))]; exact hod
        have hcu : cntS V.length (lz (updF o' y lab)) = cntS V.length (lz o') + 1 := by
          rw [lz_upd, cntS_upd (by omega) (by unfold lz; omega), if_pos (by omega)]
        have hcu2 := cntS_le V.length (lz (updF o' y lab))
        repeat refine cw_seq ?_
        refine cw_skip ?_
        try show CW _ _ _ _ _ _
        repeat refine cw_seq ?_
        refine cw_block ?_
        repeat refine cw_seq ?_
        refine cw_draw (C := fun wq => Gr w wq) [0, 1, 2, 3, 4, 5, 6, 7, 8, 9, 10, 11, 12, 13, 14] [] (by kernel_rfl) (by kernel_rfl) (Gr.drew _) ?_
        simp only [pickL, List.drop_succ_cons, List.drop_zero]
        iterate 2 refine rq_v (op_pure rfl) ?_
        refine rq_v (op_idx Try.underlying52 Try.sizeOf40 rfl rfl sa_near (by omega) (by omega)) ?_
        refine rq_v (op_fld Try.underlying40 rfl Try.sizeOf2 rfl rfl sa_near) ?_
        refine rq_r (fun wq hq => op_ldR Try.underlying2 rfl rfl ((S.gr hq).rd (i := 0) rfl) hcy) ?_
        refine rq_v (op_fieldAddr Try.underlying32 rfl Try.sizeOf2 rfl rfl) ?_
        refine rq_r (fun wq hq => op_loadB Try.underlying2 rfl rfl ((S.gr hq).blk (i := 2) rfl) rfl) ?_
        refine rq_v (op_rng rfl (by omega)) ?_
        rw [ey]
        iterate 2 refine rq_v (op_pure rfl) ?_
        refine rq_v (op_idx Try.underlying52 Try.sizeOf40 rfl rfl sa_near (by omega) (by omega)) ?_
        refine rq_v (op_fld Try.underlying40 rfl Try.sizeOf2 rfl rfl sa_near) ?_
        refine rq_r (fun wq hq => op_ldR Try.underlying2 rfl rfl ((S.gr hq).rd (i := 0) rfl) hcx) ?_
        refine rq_v (op_rng rfl (by omega)) ?_
        rw [ey2]
        refine rq_v (op_pure rfl) ?_
        refine rq_nil ?_
        intro w12_ g12_
        have S := S.gr g12_
        first | refine rw_end ?_ | (refine rw_nil ?_; show CW _ _ _ _ _ _) | refine rw_nil ?_
        repeat refine cw_seq ?_
        refine cw_region ?_
        refine rw_v (op_fieldAddr Try.underlying32 rfl Try.sizeOf30 rfl rfl) ?_
        refine rw_r (op_loadB Try.underlying30 rfl rfl (S.blk (i := 2) rfl) rfl) ?_
        refine rw_v (op_pure rfl) ?_
        refine rw_v (op_idx Try.underlying30 Try.sizeOf2 rfl rfl sa_A (by omega) (by omega)) ?_
        refine rw_r (op_ldR Try.underlying2 rfl rfl (hAk S.fr) hvy) ?_
        refine rw_v (op_pure rfl) ?_
        first | refine rw_v (op_b (b := true) rfl (decide_eq_true (by omega))) ?_ | refine rw_v (op_b (b := false) rfl (decide_eq_false (by omega))) ?_ | refine rw_v (op_pure rfl) ?_
        refine rw_v (op_pure rfl) ?_
        first | refine rw_off rfl ?_ | (refine rw_on rfl ?_; refine rw_v (op_pure rfl) ?_)
        first | refine rw_off rfl ?_ | (refine rw_on rfl ?_; refine rw_v (op_pure rfl) ?_)
        first | refine rw_off rfl ?_ | (refine rw_on rfl ?_; refine rw_v (op_idx Try.underlying30 Try.sizeOf2 rfl rfl sa_L (by omega) (by omega)) ?_)
        first | refine rw_off rfl ?_ | (refine rw_on rfl ?_; refine rw_r (op_ldR Try.underlying2 rfl rfl (S.rd (i := 3) rfl) hoy) ?_)
        first | refine rw_off rfl ?_ | (refine rw_on rfl ?_; (first | refine rw_v (op_b (b := true) rfl (beq_iff_eq.2 (by omega))) ?_ | refine rw_v (op_b (b := false) rfl (beq_eq_false_iff_ne.2 (by omega))) ?_ | refine rw_v (op_pure rfl) ?_))
        refine rw_v (op_pure rfl) ?_
        first | refine rw_end ?_ | (refine rw_nil ?_; show CW _ _ _ _ _ _) | refine rw_nil ?_
        repeat refine cw_seq ?_
        refine cw_true rfl ?_
        repeat refine cw_seq ?_
        refine cw_region ?_
        iterate 3 refine rw_v (op_pure rfl) ?_
        refine rw_v (op_idx Try.underlying30 Try.sizeOf2 rfl rfl sa_L (by omega) (by omega)) ?_
        refine rw_storeR (i := 3) S rfl (Try.sizeOf2 _) rfl rfl rfl rfl (by rw [cellsN_len]; omega) rfl ?_
        intro w13_ S
        first | refine rw_end ?_ | (refine rw_nil ?_; show CW _ _ _ _ _ _) | refine rw_nil ?_
        repeat refine cw_seq ?_
        refine cw_region ?_
        iterate 3 refine rw_v (op_pure rfl) ?_
        refine rw_v (op_idx Try.underlying52 Try.sizeOf40 rfl rfl sa_near (by omega) (by omega)) ?_
        refine rw_r (op_ldRA Try.underlying40 rfl (Try.sizeOf40 _) rfl (S.rd (i := 0) rfl) haty rfl rfl) ?_
        refine rw_buildS Try.underlying52 Try.sizeOf40 Try.zeroValue40 rfl rfl rfl rfl rfl rfl S ?_
        intro A_lit w15_ g15_ S sa_lit
        refine rw_appS (i := 2) S rfl (fun h => rfl) Try.underlying52 info_t40 rfl rfl rfl rfl (by simp) (by omega) (S.rd (i := 0) rfl) rfl (by omega) ?_
        intro A_T2 c_T2 w16_ S sa_T
        refine rw_v (op_pure rfl) ?_
        first | refine rw_end ?_ | (refine rw_nil ?_; show CW _ _ _ _ _ _) | refine rw_nil ?_
        repeat refine cw_seq ?_
        refine cw_region ?_
        refine rw_v (op_pure rfl) ?_
        refine rw_v (op_rng rfl (by omega)) ?_
        refine rw_v (op_pure rfl) ?_
        first | refine rw_end ?_ | (refine rw_nil ?_; show CW _ _ _ _ _ _) | refine rw_nil ?_
        have S := S.drop 1
        rw [Nat.mul_one, Int.toNat_natCast, cellsN_set] at S
        have e1 : cellsZ (p'.map (cz gw)) ++ [.int .i64 (y % gw : Nat), .int .i64 (y / gw : Nat)] = cellsZ ((p' ++ [y]).map (cz gw)) := by rw [List.map_append, ← cellsZ_app]; rfl
        rw [e1] at S
        have hl1 : (p' ++ [y]).length = p'.length + 1 := by simp
        refine ⟨m2 - 1, by omega, k + 1, updF o' y lab, p' ++ [y], A_T2, c_T2, by omega, by rw [hcu, hl1]; omega, hod2, ⟨rfl, rfl, rfl, rfl, se (by rw [hl1]) rfl, rfl, ie (by omega), trivial⟩, hput.weak (fun i j h => (hnext i j h).imp (fun e => by rw [e, updF_at]; exact hl) id), ?_⟩
        rw [hl1]
        exact S
      · have hw2 : ∀ i j, Adj gw V t i j → (i = d ∧ ∃ x, k ≤ x ∧ Nr[x]? = some j) → o' j ≠ 0 ∨ (i = d ∧ ∃ x, k + 1 ≤ x ∧ Nr[x]? = some j) := fun i j ha h => (hnext i j h).imp (fun e => by
          subst e
          exact fun h0 => hb ⟨ha.2.2.2.1, h0⟩) id
        have hp2 : SP gw V t c lab o0 o' p' (fun i j => i = d ∧ ∃ x, k + 1 ≤ x ∧ Nr[x]? = some j) := ⟨hp'.old, hp'.new, hp'.start, hp'.todo, fun i j ha hi hn hT => (hp'.closed i j ha hi hn hT).elim .inl (hw2 i j ha), hp'.room⟩
        by_cases hb1 : t ≤ V.getD y 0
        · have hb2 : o' y ≠ 0 := fun h => hb ⟨hb1, h⟩
          repeat refine cw_seq ?_
          refine cw_skip ?_
          try show CW _ _ _ _ _ _
          repeat refine cw_seq ?_
          refine cw_block ?_
          repeat refine cw_seq ?_
          refine cw_draw (C := fun wq => Gr w wq) [0, 1, 2, 3, 4, 5, 6, 7, 8, 9, 10, 11, 12, 13, 14] [] (by kernel_rfl) (by kernel_rfl) (Gr.drew _) ?_
          simp only [pickL, List.drop_succ_cons, List.drop_zero]
          iterate 2 refine rq_v (op_pure rfl) ?_
          refine rq_v (op_idx Try.underlying52 Try.sizeOf40 rfl rfl sa_near (by omega) (by omega)) ?_
          refine rq_v (op_fld Try.underlying40 rfl Try.sizeOf2 rfl rfl sa_near) ?_
          refine rq_r (fun wq hq => op_ldR Try.underlying2 rfl rfl ((S.gr hq).rd (i := 0) rfl) hcy) ?_
          refine rq_v (op_fieldAddr Try.underlying32 rfl Try.sizeOf2 rfl rfl) ?_
          refine rq_r (fun wq hq => op_loadB Try.underlying2 rfl rfl ((S.gr hq).blk (i := 2) rfl) rfl) ?_
          refine rq_v (op_rng rfl (by omega)) ?_
          rw [ey]
          iterate 2 refine rq_v (op_pure rfl) ?_
          refine rq_v (op_idx Try.underlying52 Try.sizeOf40 rfl rfl sa_near (by omega) (by omega)) ?_
          refine rq_v (op_fld Try.underlying40 rfl Try.sizeOf2 rfl rfl sa_near) ?_
          refine rq_r (fun wq hq => op_ldR Try.underlying2 rfl rfl ((S.gr hq).rd (i := 0) rfl) hcx) ?_
          refine rq_v (op_rng rfl (by omega)) ?_
          rw [ey2]
          refine rq_v (op_pure rfl) ?_
          refine rq_nil ?_
          intro w17_ g17_
          have S := S.gr g17_
          first | refine rw_end ?_ | (refine rw_nil ?_; show CW _ _ _ _ _ _) | refine rw_nil ?_
          repeat refine cw_seq ?_
          refine cw_region ?_
          refine rw_v (op_fieldAddr Try.underlying32 rfl Try.sizeOf30 rfl rfl) ?_
          refine rw_r (op_loadB Try.underlying30 rfl rfl (S.blk (i := 2) rfl) rfl) ?_
          refine rw_v (op_pure rfl) ?_
          refine rw_v (op_idx Try.underlying30 Try.sizeOf2 rfl rfl sa_A (by omega) (by omega)) ?_
          refine rw_r (op_ldR Try.underlying2 rfl rfl (hAk S.fr) hvy) ?_
          refine rw_v (op_pure rfl) ?_
          first | refine rw_v (op_b (b := true) rfl (decide_eq_true (by omega))) ?_ | refine rw_v (op_b (b := false) rfl (decide_eq_false (by omega))) ?_ | refine rw_v (op_pure rfl) ?_
          refine rw_v (op_pure rfl) ?_
          first | refine rw_off rfl ?_ | (refine rw_on rfl ?_; refine rw_v (op_pure rfl) ?_)
          first | refine rw_off rfl ?_ | (refine rw_on rfl ?_; refine rw_v (op_pure rfl) ?_)
          first | refine rw_off rfl ?_ | (refine rw_on rfl ?_; refine rw_v (op_idx Try.underlying30 Try.sizeOf2 rfl rfl sa_L (by omega) (by omega)) ?_)
          first | refine rw_off rfl ?_ | (refine rw_on rfl ?_; refine rw_r (op_ldR Try.underlying2 rfl rfl (S.rd (i := 3) rfl) hoy) ?_)
          first | refine rw_off rfl ?_ | (refine rw_on rfl ?_; (first | refine rw_v (op_b (b := true) rfl (beq_iff_eq.2 (by omega))) ?_ | refine rw_v (op_b (b := false) rfl (beq_eq_false_iff_ne.2 (by omega))) ?_ | refine rw_v (op_pure rfl) ?_))
          refine rw_v (op_pure rfl) ?_
          first | refine rw_end ?_ | (refine rw_nil ?_; show CW _ _ _ _ _ _) | refine rw_nil ?_
          repeat refine cw_seq ?_
          refine cw_false rfl ?_
          repeat refine cw_seq ?_
          refine cw_skip ?_
          try show CW _ _ _ _ _ _
          repeat refine cw_seq ?_
          refine cw_region ?_
          refine rw_v (op_pure rfl) ?_
          refine rw_v (op_rng rfl (by omega)) ?_
          refine rw_v (op_pure rfl) ?_
          first | refine rw_end ?_ | (refine rw_nil ?_; show CW _ _ _ _ _ _) | refine rw_nil ?_
          exact ⟨m2 - 1, by omega, k + 1, o', p', A_T, c_T, by omega, hmea, hod, ⟨rfl, rfl, rfl, rfl, rfl, rfl, ie (by omega), trivial⟩, hp2, S⟩
        · skip
          repeat refine cw_seq ?_
          refine cw_skip ?_
          try show CW _ _ _ _ _ _
          repeat refine cw_seq ?_
          refine cw_block ?_
          repeat refine cw_seq ?_
          refine cw_draw (C := fun wq => Gr w wq) [0, 1, 2, 3, 4, 5, 6, 7, 8, 9, 10, 11, 12, 13, 14] [] (by kernel_rfl) (by kernel_rfl) (Gr.drew _) ?_
          simp only [pickL, List.drop_succ_cons, List.drop_zero]
          iterate 2 refine rq_v (op_pure rfl) ?_
          refine rq_v (op_idx Try.underlying52 Try.sizeOf40 rfl rfl sa_near (by omega) (by omega)) ?_
          refine rq_v (op_fld Try.underlying40 rfl Try.sizeOf2 rfl rfl sa_near) ?_
          refine rq_r (fun wq hq => op_ldR Try.underlying2 rfl rfl ((S.gr hq).rd (i := 0) rfl) hcy) ?_
          refine rq_v (op_fieldAddr Try.underlying32 rfl Try.sizeOf2 rfl rfl) ?_
          refine rq_r (fun wq hq => op_loadB Try.underlying2 rfl rfl ((S.gr hq).blk (i := 2) rfl) rfl) ?_
          refine rq_v (op_rng rfl (by omega)) ?_
          rw [ey]
          iterate 2 refine rq_v (op_pure rfl) ?_
          refine rq_v (op_idx Try.underlying52 Try.sizeOf40 rfl rfl sa_near (by omega) (by omega)) ?_
          refine rq_v (op_fld Try.underlying40 rfl Try.sizeOf2 rfl rfl sa_near) ?_
          refine rq_r (fun wq hq => op_ldR Try.underlying2 rfl rfl ((S.gr hq).rd (i := 0) rfl) hcx) ?_
          refine rq_v (op_rng rfl (by omega)) ?_
          rw [ey2]
          refine rq_v (op_pure rfl) ?_
          refine rq_nil ?_
          intro w18_ g18_
          have S := S.gr g18_
          first | refine rw_end ?_ | (refine rw_nil ?_; show CW _ _ _ _ _ _) | refine rw_nil ?_
          repeat refine cw_seq ?_
          refine cw_region ?_
          refine rw_v (op_fieldAddr Try.underlying32 rfl Try.sizeOf30 rfl rfl) ?_
          refine rw_r (op_loadB Try.underlying30 rfl rfl (S.blk (i := 2) rfl) rfl) ?_
          refine rw_v (op_pure rfl) ?_
          refine rw_v (op_idx Try.underlying30 Try.sizeOf2 rfl rfl sa_A (by omega) (by omega)) ?_
          refine rw_r (op_ldR Try.underlying2 rfl rfl (hAk S.fr) hvy) ?_
          refine rw_v (op_pure rfl) ?_
          first | refine rw_v (op_b (b := true) rfl (decide_eq_true (by omega))) ?_ | refine rw_v (op_b (b := false) rfl (decide_eq_false (by omega))) ?_ | refine rw_v (op_pure rfl) ?_
          refine rw_v (op_pure rfl) ?_
          first | refine rw_off rfl ?_ | (refine rw_on rfl ?_; refine rw_v (op_pure rfl) ?_)
          first | refine rw_off rfl ?_ | (refine rw_on rfl ?_; refine rw_v (op_pure rfl) ?_)
          refine rw_off rfl ?_
          refine rw_off rfl ?_
          first | refine rw_off rfl ?_ | (refine rw_on rfl ?_; (first | refine rw_v (op_b (b := true) rfl (beq_iff_eq.2 (by omega))) ?_ | refine rw_v (op_b (b := false) rfl (beq_eq_false_iff_ne.2 (by omega))) ?_ | refine rw_v (op_pure rfl) ?_))
          refine rw_v (op_pure rfl) ?_
          first | refine rw_end ?_ | (refine rw_nil ?_; show CW _ _ _ _ _ _) | refine rw_nil ?_
          repeat refine cw_seq ?_
          refine cw_false rfl ?_
          repeat refine cw_seq ?_
          refine cw_skip ?_
          try show CW _ _ _ _ _ _
          repeat refine cw_seq ?_
          refine cw_region ?_
          refine rw_v (op_pure rfl) ?_
          refine rw_v (op_rng rfl (by omega)) ?_
          refine rw_v (op_pure rfl) ?_
          first | refine rw_end ?_ | (refine rw_nil ?_; show CW _ _ _ _ _ _) | refine rw_nil ?_
          exact ⟨m2 - 1, by omega, k + 1, o', p', A_T, c_T, by omega, hmea, hod, ⟨rfl, rfl, rfl, rfl, rfl, rfl, ie (by omega), trivial⟩, hp2, S⟩
    · try simp only [decide_eq_true_eq, decide_eq_false_iff_not, beq_iff_eq, bne_iff_ne, beq_eq_false_iff_ne, bne_eq_false_iff_eq, Bool.not_eq_true', Bool.not_eq_false', ne_eq, Decidable.not_not, Int.natCast_inj, Int.ofNat_lt, Int.ofNat_le, gt_iff_lt, ge_iff_le, Int.not_lt, Int.not_le] at hcl
      repeat refine cw_seq ?_
      refine cw_exit ?_
      repeat first | refine exit_then ?_ | refine exit_inb ?_
      refine ⟨2 * (V.length - cntS V.length (lz o')) + p'.length, by rw [hTl]; omega, o', p', A_T, c_T, rfl, ⟨rfl, rfl, rfl, rfl, rfl, trivial⟩, hp'.weak (fun i j ⟨_, x, hx, hj⟩ => by
        have := (List.getElem?_eq_some_iff.1 hj).1
        omega), S.drop 1⟩
end

theorem right7_E (a : RV) (ha : a.right) (W : World) : Fn Try.prog 84 [.agg #[.int .i64 a.x0, .int .i64 a.y0, .int .i64 a.x1, .int .i64 a.y1]] W (RetG (.bool true) W) := by
  have ha' := ha
  unfold RV.right at ha'
  have S := St.start W
  refine Fn_enter Try.func84 rfl Try.results84 Try.ntmps84 (by kernel_rfl) (by kernel_rfl) ?_
  repeat refine cw_seq ?_
  refine cw_region ?_
  refine rw_newB (op_box rfl) S ?_
  intro b_a w2_ g2_ S
  refine rw_v (op_pure rfl) ?_
  first | refine rw_end ?_ | (refine rw_nil ?_; show CW _ _ _ _ _ _) | refine rw_nil ?_
  repeat refine cw_seq ?_
  refine cw_region ?_
  refine rw_v (op_fieldAddr Try.underlying61 rfl Try.sizeOf2 rfl rfl) ?_
  refine rw_r (op_loadB Try.underlying2 rfl rfl (S.blk (i := 0) rfl) rfl) ?_
  first | refine rw_v (op_b (b := true) rfl (decide_eq_true (by omega))) ?_ | refine rw_v (op_b (b := false) rfl (decide_eq_false (by omega))) ?_ | refine rw_v (op_pure rfl) ?_
  refine rw_v (op_pure rfl) ?_
  first | refine rw_off rfl ?_ | (refine rw_on rfl ?_; refine rw_v (op_fieldAddr Try.underlying61 rfl Try.sizeOf2 rfl rfl) ?_)
  first | refine rw_off rfl ?_ | (refine rw_on rfl ?_; refine rw_r (op_loadB Try.underlying2 rfl rfl (S.blk (i := 0) rfl) rfl) ?_)
  first | refine rw_off rfl ?_ | (refine rw_on rfl ?_; refine rw_v (op_fieldAddr Try.underlying61 rfl Try.sizeOf2 rfl rfl) ?_)
  first | refine rw_off rfl ?_ | (refine rw_on rfl ?_; refine rw_r (op_loadB Try.underlying2 rfl rfl (S.blk (i := 0) rfl) rfl) ?_)
  first | refine rw_off rfl ?_ | (refine rw_on rfl ?_; (first | refine rw_v (op_b (b := true) rfl (decide_eq_true (by omega))) ?_ | refine rw_v (op_b (b := false) rfl (decide_eq_false (by omega))) ?_ | refine rw_v (op_pure rfl) ?_))
  iterate 2 refine rw_v (op_pure rfl) ?_
  first | refine rw_off rfl ?_ | (refine rw_on rfl ?_; refine rw_v (op_fieldAddr Try.underlying61 rfl Try.sizeOf2 rfl rfl) ?_)
  first | refine rw_off rfl ?_ | (refine rw_on rfl ?_; refine rw_r (op_loadB Try.underlying2 rfl rfl (S.blk (i := 0) rfl) rfl) ?_)
  first | refine rw_off rfl ?_ | (refine rw_on rfl ?_; (first | refine rw_v (op_b (b := true) rfl (decide_eq_true (by omega))) ?_ | refine rw_v (op_b (b := false) rfl (decide_eq_false (by omega))) ?_ | refine rw_v (op_pure rfl) ?_))
  iterate 2 refine rw_v (op_pure rfl) ?_
  first | refine rw_off rfl ?_ | (refine rw_on rfl ?_; refine rw_v (op_fieldAddr Try.underlying61 rfl Try.sizeOf2 rfl rfl) ?_)
  first | refine rw_off rfl ?_ | (refine rw_on rfl ?_; refine rw_r (op_loadB Try.underlying2 rfl rfl (S.blk (i := 0) rfl) rfl) ?_)
  first | refine rw_off rfl ?_ | (refine rw_on rfl ?_; (first | refine rw_v (op_b (b := true) rfl (decide_eq_true (by omega))) ?_ | refine rw_v (op_b (b := false) rfl (decide_eq_false (by omega))) ?_ | refine rw_v (op_pure rfl) ?_))
  iterate 2 refine rw_v (op_pure rfl) ?_
  first | refine rw_off rfl ?_ | (refine rw_on rfl ?_; refine rw_v (op_fieldAddr Try.underlying61 rfl Try.sizeOf2 rfl rfl) ?_)
  first | refine rw_off rfl ?_ | (refine rw_on rfl ?_; refine rw_r (op_loadB Try.underlying2 rfl rfl (S.blk (i := 0) rfl) rfl) ?_)
  first | refine rw_off rfl ?_ | (refine rw_on rfl ?_; refine rw_v (op_fieldAddr Try.underlying61 rfl Try.sizeOf2 rfl rfl) ?_)
  first | refine rw_off rfl ?_ | (refine rw_on rfl ?_; refine rw_r (op_loadB Try.underlying2 rfl rfl (S.blk (i := 0) rfl) rfl) ?_)
  first | refine rw_off rfl ?_ | (refine rw_on rfl ?_; (first | refine rw_v (op_b (b := true) rfl (decide_eq_true (by omega))) ?_ | refine rw_v (op_b (b := false) rfl (decide_eq_false (by omega))) ?_ | refine rw_v (op_pure rfl) ?_))
  iterate 2 refine rw_v (op_pure rfl) ?_
  first | refine rw_off rfl ?_ | (refine rw_on rfl ?_; refine rw_v (op_fieldAddr Try.underlying61 rfl Try.sizeOf2 rfl rfl) ?_)
  first | refine rw_off rfl ?_ | (refine rw_on rfl ?_; refine rw_r (op_loadB Try.underlying2 rfl rfl (S.blk (i := 0) rfl) rfl) ?_)
  first | refine rw_off rfl ?_ | (refine rw_on rfl ?_; (first | refine rw_v (op_b (b := true) rfl (decide_eq_true (by omega))) ?_ | refine rw_v (op_b (b := false) rfl (decide_eq_false (by omega))) ?_ | refine rw_v (op_pure rfl) ?_))
  iterate 2 refine rw_v (op_pure rfl) ?_
  first | refine rw_end ?_ | (refine rw_nil ?_; show CW _ _ _ _ _ _) | refine rw_nil ?_
  repeat refine cw_seq ?_
  refine cw_ret ?_
  repeat first | refine ret_then ?_ | refine ret_inb ?_
  exact res1 rfl ⟨rfl, S.out⟩
theorem spot8_E (x y : Int) (W : World) : Fn Try.prog 64 [.agg #[.int .i64 x, .int .i64 y]] W (RetG (.agg #[.int .i64 x, .int .i64 y, .int .i64 x, .int .i64 y]) W) := by
  have S := St.start W
  refine Fn_enter Try.func64 rfl Try.results64 Try.ntmps64 (by kernel_rfl) (by kernel_rfl) ?_
  repeat refine cw_seq ?_
  refine cw_region ?_
  refine rw_newB (op_box rfl) S ?_
  intro b_c w2_ g2_ S
  refine rw_newB (op_alloc Try.zeroValue61 rfl) S ?_
  intro b_r w4_ g4_ S
  first | refine rw_end ?_ | (refine rw_nil ?_; show CW _ _ _ _ _ _) | refine rw_nil ?_
  repeat refine cw_seq ?_
  refine cw_region ?_
  refine rw_v (op_fieldAddr Try.underlying40 rfl Try.sizeOf2 rfl rfl) ?_
  refine rw_r (op_loadB Try.underlying2 rfl rfl (S.blk (i := 1) rfl) rfl) ?_
  refine rw_v (op_fieldAddr Try.underlying40 rfl Try.sizeOf2 rfl rfl) ?_
  refine rw_r (op_loadB Try.underlying2 rfl rfl (S.blk (i := 1) rfl) rfl) ?_
  refine rw_v (op_fieldAddr Try.underlying40 rfl Try.sizeOf2 rfl rfl) ?_
  refine rw_r (op_loadB Try.underlying2 rfl rfl (S.blk (i := 1) rfl) rfl) ?_
  refine rw_v (op_fieldAddr Try.underlying40 rfl Try.sizeOf2 rfl rfl) ?_
  refine rw_r (op_loadB Try.underlying2 rfl rfl (S.blk (i := 1) rfl) rfl) ?_
  refine rw_v (op_build (pl := [(0, 1), (1, 1), (2, 1), (3, 1)]) Try.underlying61 Try.zeroValue61 (fun w => by kernel_rfl) rfl rfl) ?_
  refine rw_storeSA (i := 0) S rfl (Try.sizeOf61 _) rfl rfl rfl rfl rfl rfl ?_
  intro w5_ S
  first | refine rw_end ?_ | (refine rw_nil ?_; show CW _ _ _ _ _ _) | refine rw_nil ?_
  repeat refine cw_seq ?_
  refine cw_ret ?_
  repeat first | refine ret_then ?_ | refine ret_inb ?_
  exact resA Try.underlying61 rfl (Try.sizeOf61 _) rfl (S.blk (i := 0) rfl) rfl rfl ⟨rfl, S.out⟩
set_option maxHeartbeats 2000000 in
theorem hull7_E (a b : RV) (ha : a.right) (hb : b.right) (W : World) : Fn Try.prog 65 [.agg #[.int .i64 a.x0, .int .i64 a.y0, .int .i64 a.x1, .int .i64 a.y1], .agg #[.int .i64 b.x0, .int .i64 b.y0, .int .i64 b.x1, .int .i64 b.y1]] W
    (RetG (.agg #[.int .i64 (hullR a b).x0, .int .i64 (hullR a b).y0, .int .i64 (hullR a b).x1, .int .i64 (hullR a b).y1]) W) := by
  have S := St.start W
  refine Fn_enter Try.func65 rfl Try.results65 Try.ntmps65 (by kernel_rfl) (by kernel_rfl) ?_
  repeat refine cw_seq ?_
  refine cw_region ?_
  refine rw_newB (op_box rfl) S ?_
  intro b_ra w2_ g2_ S
  refine rw_newB (op_box rfl) S ?_
  intro b_rb w4_ g4_ S
  refine rw_newB (op_alloc Try.zeroValue61 rfl) S ?_
  intro b_res w6_ g6_ S
  first | refine rw_end ?_ | (refine rw_nil ?_; show CW _ _ _ _ _ _) | refine rw_nil ?_
  repeat refine cw_seq ?_
  refine cw_region ?_
  refine rw_r (op_loadAB Try.underlying61 rfl (Try.sizeOf61 _) rfl (S.blk (i := 2) rfl) rfl rfl) ?_
  refine rw_call rfl (right7_E a ha w6_) ?_
  rintro _ w7_ ⟨rfl, g7_⟩
  have S := S.gr g7_
  iterate 2 refine rw_v (op_pure rfl) ?_
  first | refine rw_off rfl ?_ | (refine rw_on rfl ?_; refine rw_r (op_loadAB Try.underlying61 rfl (Try.sizeOf61 _) rfl (S.blk (i := 1) rfl) rfl rfl) ?_)
  refine rw_off rfl ?_
  first | refine rw_off rfl ?_ | (refine rw_on rfl ?_; refine rw_v (op_pure rfl) ?_)
  refine rw_v (op_pure rfl) ?_
  first | refine rw_end ?_ | (refine rw_nil ?_; show CW _ _ _ _ _ _) | refine rw_nil ?_
  repeat refine cw_seq ?_
  refine cw_false rfl ?_
  repeat refine cw_seq ?_
  refine cw_skip ?_
  try show CW _ _ _ _ _ _
  repeat refine cw_seq ?_
  refine cw_region ?_
  refine rw_r (op_loadAB Try.underlying61 rfl (Try.sizeOf61 _) rfl (S.blk (i := 2) rfl) rfl rfl) ?_
  refine rw_call rfl (right7_E a ha w7_) ?_
  rintro _ w8_ ⟨rfl, g8_⟩
  have S := S.gr g8_
  refine rw_v (op_pure rfl) ?_
  first | refine rw_end ?_ | (refine rw_nil ?_; show CW _ _ _ _ _ _) | refine rw_nil ?_
  repeat refine cw_seq ?_
  refine cw_false rfl ?_
  repeat refine cw_seq ?_
  refine cw_skip ?_
  try show CW _ _ _ _ _ _
  repeat refine cw_seq ?_
  refine cw_region ?_
  refine rw_r (op_loadAB Try.underlying61 rfl (Try.sizeOf61 _) rfl (S.blk (i := 1) rfl) rfl rfl) ?_
  refine rw_call rfl (right7_E b hb w8_) ?_
  rintro _ w9_ ⟨rfl, g9_⟩
  have S := S.gr g9_
  refine rw_v (op_pure rfl) ?_
  first | refine rw_end ?_ | (refine rw_nil ?_; show CW _ _ _ _ _ _) | refine rw_nil ?_
  repeat refine cw_seq ?_
  refine cw_false rfl ?_
  repeat refine cw_seq ?_
  refine cw_skip ?_
  try show CW _ _ _ _ _ _
  repeat refine cw_seq ?_
  refine cw_region ?_
  refine rw_v (op_fieldAddr Try.underlying61 rfl Try.sizeOf2 rfl rfl) ?_
  refine rw_r (op_loadB Try.underlying2 rfl rfl (S.blk (i := 1) rfl) rfl) ?_
  refine rw_v (op_fieldAddr Try.underlying61 rfl Try.sizeOf2 rfl rfl) ?_
  refine rw_r (op_loadB Try.underlying2 rfl rfl (S.blk (i := 2) rfl) rfl) ?_
  refine rw_v (op_pure rfl) ?_
  first | refine rw_end ?_ | (refine rw_nil ?_; show CW _ _ _ _ _ _) | refine rw_nil ?_
  repeat refine cw_seq ?_
  refine cw_cutT (M := fun e w => SL e [(2, .pointer (some ⟨b_ra, 0, none⟩)), (3, .pointer (some ⟨b_rb, 0, none⟩)), (4, .pointer (some ⟨b_res, 0, none⟩))] ∧ St No W w [.blk b_res 61 [.int .i64 0, .int .i64 0, .int .i64 0, .int .i64 0], .blk b_rb 61 [.int .i64 b.x0, .int .i64 b.y0, .int .i64 b.x1, .int .i64 b.y1], .blk b_ra 61 [.int .i64 (min a.x0 b.x0), .int .i64 a.y0, .int .i64 a.x1, .int .i64 a.y1]]) ?_ ?_
  · skip
    repeat refine cw_seq ?_
    refine cw_cond rfl (fun c0 => ?_) (fun c0 => ?_)
    · try simp only [decide_eq_true_eq, decide_eq_false_iff_not, beq_iff_eq, bne_iff_ne, beq_eq_false_iff_ne, bne_eq_false_iff_eq, Bool.not_eq_true', Bool.not_eq_false', ne_eq, Decidable.not_not, Int.natCast_inj, Int.ofNat_lt, Int.ofNat_le, gt_iff_lt, ge_iff_le, Int.not_lt, Int.not_le] at c0
      have e0 : min a.x0 b.x0 = b.x0 := by omega
      repeat refine cw_seq ?_
      refine cw_region ?_
      refine rw_v (op_fieldAddr Try.underlying61 rfl Try.sizeOf2 rfl rfl) ?_
      refine rw_r (op_loadB Try.underlying2 rfl rfl (S.blk (i := 1) rfl) rfl) ?_
      refine rw_v (op_fieldAddr Try.underlying61 rfl Try.sizeOf2 rfl rfl) ?_
      refine rw_storeS (i := 2) S rfl (Try.sizeOf2 _) rfl rfl rfl rfl rfl rfl ?_
      intro w10_ S
      first | refine rw_end ?_ | (refine rw_nil ?_; show CW _ _ _ _ _ _) | refine rw_nil ?_
      rw [e0]
      exact ⟨⟨rfl, rfl, rfl, trivial⟩, S⟩
    · try simp only [decide_eq_true_eq, decide_eq_false_iff_not, beq_iff_eq, bne_iff_ne, beq_eq_false_iff_ne, bne_eq_false_iff_eq, Bool.not_eq_true', Bool.not_eq_false', ne_eq, Decidable.not_not, Int.natCast_inj, Int.ofNat_lt, Int.ofNat_le, gt_iff_lt, ge_iff_le, Int.not_lt, Int.not_le] at c0
      have e0 : min a.x0 b.x0 = a.x0 := by omega
      repeat refine cw_seq ?_
      refine cw_skip ?_
      try show CW _ _ _ _ _ _
      rw [e0]
      exact ⟨⟨rfl, rfl, rfl, trivial⟩, S⟩
  · rintro e0 w0_ ⟨hsl, S⟩
    rw [hsl.fold]
    repeat refine cw_seq ?_
    refine cw_region ?_
    refine rw_v (op_fieldAddr Try.underlying61 rfl Try.sizeOf2 rfl rfl) ?_
    refine rw_r (op_loadB Try.underlying2 rfl rfl (S.blk (i := 1) rfl) rfl) ?_
    refine rw_v (op_fieldAddr Try.underlying61 rfl Try.sizeOf2 rfl rfl) ?_
    refine rw_r (op_loadB Try.underlying2 rfl rfl (S.blk (i := 2) rfl) rfl) ?_
    refine rw_v (op_pure rfl) ?_
    first | refine rw_end ?_ | (refine rw_nil ?_; show CW _ _ _ _ _ _) | refine rw_nil ?_
    repeat refine cw_seq ?_
    refine cw_cutT (M := fun e w => SL e [(2, .pointer (some ⟨b_ra, 0, none⟩)), (3, .pointer (some ⟨b_rb, 0, none⟩)), (4, .pointer (some ⟨b_res, 0, none⟩))] ∧ St No W w [.blk b_res 61 [.int .i64 0, .int .i64 0, .int .i64 0, .int .i64 0], .blk b_rb 61 [.int .i64 b.x0, .int .i64 b.y0, .int .i64 b.x1, .int .i64 b.y1], .blk b_ra 61 [.int .i64 (min a.x0 b.x0), .int .i64 (min a.y0 b.y0), .int .i64 a.x1, .int .i64 a.y1]]) ?_ ?_
    · skip
      repeat refine cw_seq ?_
      refine cw_cond rfl (fun c1 => ?_) (fun c1 => ?_)
      · try simp only [decide_eq_true_eq, decide_eq_false_iff_not, beq_iff_eq, bne_iff_ne, beq_eq_false_iff_ne, bne_eq_false_iff_eq, Bool.not_eq_true', Bool.not_eq_false', ne_eq, Decidable.not_not, Int.natCast_inj, Int.ofNat_lt, Int.ofNat_le, gt_iff_lt, ge_iff_le, Int.not_lt, Int.not_le] at c1
        have e0 : min a.y0 b.y0 = b.y0 := by omega
        repeat refine cw_seq ?_
        refine cw_region ?_
        refine rw_v (op_fieldAddr Try.underlying61 rfl Try.sizeOf2 rfl rfl) ?_
        refine rw_r (op_loadB Try.underlying2 rfl rfl (S.blk (i := 1) rfl) rfl) ?_
        refine rw_v (op_fieldAddr Try.underlying61 rfl Try.sizeOf2 rfl rfl) ?_
        refine rw_storeS (i := 2) S rfl (Try.sizeOf2 _) rfl rfl rfl rfl rfl rfl ?_
        intro w11_ S
        first | refine rw_end ?_ | (refine rw_nil ?_; show CW _ _ _ _ _ _) | refine rw_nil ?_
        rw [e0]
        exact ⟨⟨rfl, rfl, rfl, trivial⟩, S⟩
      · try simp only [decide_eq_true_eq, decide_eq_false_iff_not, beq_iff_eq, bne_iff_ne, beq_eq_false_iff_ne, bne_eq_false_iff_eq, Bool.not_eq_true', Bool.not_eq_false', ne_eq, Decidable.not_not, Int.natCast_inj, Int.ofNat_lt, Int.ofNat_le, gt_iff_lt, ge_iff_le, Int.not_lt, Int.not_le] at c1
        have e0 : min a.y0 b.y0 = a.y0 := by omega
        repeat refine cw_seq ?_
        refine cw_skip ?_
        try show CW _ _ _ _ _ _
        rw [e0]
        exact ⟨⟨rfl, rfl, rfl, trivial⟩, S⟩
    · rintro e1 w1_ ⟨hsl, S⟩
      rw [hsl.fold]
      repeat refine cw_seq ?_
      refine cw_region ?_
      refine rw_v (op_fieldAddr Try.underlying61 rfl Try.sizeOf2 rfl rfl) ?_
      refine rw_r (op_loadB Try.underlying2 rfl rfl (S.blk (i := 1) rfl) rfl) ?_
      refine rw_v (op_fieldAddr Try.underlying61 rfl Try.sizeOf2 rfl rfl) ?_
      refine rw_r (op_loadB Try.underlying2 rfl rfl (S.blk (i := 2) rfl) rfl) ?_
      refine rw_v (op_pure rfl) ?_
      first | refine rw_end ?_ | (refine rw_nil ?_; show CW _ _ _ _ _ _) | refine rw_nil ?_
      repeat refine cw_seq ?_
      refine cw_cutT (M := fun e w => SL e [(2, .pointer (some ⟨b_ra, 0, none⟩)), (3, .pointer (some ⟨b_rb, 0, none⟩)), (4, .pointer (some ⟨b_res, 0, none⟩))] ∧ St No W w [.blk b_res 61 [.int .i64 0, .int .i64 0, .int .i64 0, .int .i64 0], .blk b_rb 61 [.int .i64 b.x0, .int .i64 b.y0, .int .i64 b.x1, .int .i64 b.y1], .blk b_ra 61 [.int .i64 (min a.x0 b.x0), .int .i64 (min a.y0 b.y0), .int .i64 (max a.x1 b.x1), .int .i64 a.y1]]) ?_ ?_
      · skip
        repeat refine cw_seq ?_
        refine cw_cond rfl (fun c2 => ?_) (fun c2 => ?_)
        · try simp only [decide_eq_true_eq, decide_eq_false_iff_not, beq_iff_eq, bne_iff_ne, beq_eq_false_iff_ne, bne_eq_false_iff_eq, Bool.not_eq_true', Bool.not_eq_false', ne_eq, Decidable.not_not, Int.natCast_inj, Int.ofNat_lt, Int.ofNat_le, gt_iff_lt, ge_iff_le, Int.not_lt, Int.not_le] at c2
          have e0 : max a.x1 b.x1 = b.x1 := by omega
          repeat refine cw_seq ?_
          refine cw_region ?_
          refine rw_v (op_fieldAddr Try.underlying61 rfl Try.sizeOf2 rfl rfl) ?_
          refine rw_r (op_loadB Try.underlying2 rfl rfl (S.blk (i := 1) rfl) rfl) ?_
          refine rw_v (op_fieldAddr Try.underlying61 rfl Try.sizeOf2 rfl rfl) ?_
          refine rw_storeS (i := 2) S rfl (Try.sizeOf2 _) rfl rfl rfl rfl rfl rfl ?_
          intro w12_ S
          first | refine rw_end ?_ | (refine rw_nil ?_; show CW _ _ _ _ _ _) | refine rw_nil ?_
          rw [e0]
          exact ⟨⟨rfl, rfl, rfl, trivial⟩, S⟩
        · try simp only [decide_eq_true_eq, decide_eq_false_iff_not, beq_iff_eq, bne_iff_ne, beq_eq_false_iff_ne, bne_eq_false_iff_eq, Bool.not_eq_true', Bool.not_eq_false', ne_eq, Decidable.not_not, Int.natCast_inj, Int.ofNat_lt, Int.ofNat_le, gt_iff_lt, ge_iff_le, Int.not_lt, Int.not_le] at c2
          have e0 : max a.x1 b.x1 = a.x1 := by omega
          repeat refine cw_seq ?_
          refine cw_skip ?_
          try show CW _ _ _ _ _ _
          rw [e0]
          exact ⟨⟨rfl, rfl, rfl, trivial⟩, S⟩
      · rintro e2 w2_ ⟨hsl, S⟩
        rw [hsl.fold]
        repeat refine cw_seq ?_
        refine cw_region ?_
        refine rw_v (op_fieldAddr Try.underlying61 rfl Try.sizeOf2 rfl rfl) ?_
        refine rw_r (op_loadB Try.underlying2 rfl rfl (S.blk (i := 1) rfl) rfl) ?_
        refine rw_v (op_fieldAddr Try.underlying61 rfl Try.sizeOf2 rfl rfl) ?_
        refine rw_r (op_loadB Try.underlying2 rfl rfl (S.blk (i := 2) rfl) rfl) ?_
        refine rw_v (op_pure rfl) ?_
        first | refine rw_end ?_ | (refine rw_nil ?_; show CW _ _ _ _ _ _) | refine rw_nil ?_
        repeat refine cw_seq ?_
        refine cw_cutT (M := fun e w => SL e [(2, .pointer (some ⟨b_ra, 0, none⟩)), (3, .pointer (some ⟨b_rb, 0, none⟩)), (4, .pointer (some ⟨b_res, 0, none⟩))] ∧ St No W w [.blk b_res 61 [.int .i64 0, .int .i64 0, .int .i64 0, .int .i64 0], .blk b_rb 61 [.int .i64 b.x0, .int .i64 b.y0, .int .i64 b.x1, .int .i64 b.y1], .blk b_ra 61 [.int .i64 (min a.x0 b.x0), .int .i64 (min a.y0 b.y0), .int .i64 (max a.x1 b.x1), .int .i64 (max a.y1 b.y1)]]) ?_ ?_
        · skip
          repeat refine cw_seq ?_
          refine cw_cond rfl (fun c3 => ?_) (fun c3 => ?_)
          · try simp only [decide_eq_true_eq, decide_eq_false_iff_not, beq_iff_eq, bne_iff_ne, beq_eq_false_iff_ne, bne_eq_false_iff_eq, Bool.not_eq_true', Bool.not_eq_false', ne_eq, Decidable.not_not, Int.natCast_inj, Int.ofNat_lt, Int.ofNat_le, gt_iff_lt, ge_iff_le, Int.not_lt, Int.not_le] at c3
            have e0 : max a.y1 b.y1 = b.y1 := by omega
            repeat refine cw_seq ?_
            refine cw_region ?_
            refine rw_v (op_fieldAddr Try.underlying61 rfl Try.sizeOf2 rfl rfl) ?_
            refine rw_r (op_loadB Try.underlying2 rfl rfl (S.blk (i := 1) rfl) rfl) ?_
            refine rw_v (op_fieldAddr Try.underlying61 rfl Try.sizeOf2 rfl rfl) ?_
            refine rw_storeS (i := 2) S rfl (Try.sizeOf2 _) rfl rfl rfl rfl rfl rfl ?_
            intro w13_ S
            first | refine rw_end ?_ | (refine rw_nil ?_; show CW _ _ _ _ _ _) | refine rw_nil ?_
            rw [e0]
            exact ⟨⟨rfl, rfl, rfl, trivial⟩, S⟩
          · try simp only [decide_eq_true_eq, decide_eq_false_iff_not, beq_iff_eq, bne_iff_ne, beq_eq_false_iff_ne, bne_eq_false_iff_eq, Bool.not_eq_true', Bool.not_eq_false', ne_eq, Decidable.not_not, Int.natCast_inj, Int.ofNat_lt, Int.ofNat_le, gt_iff_lt, ge_iff_le, Int.not_lt, Int.not_le] at c3
            have e0 : max a.y1 b.y1 = a.y1 := by omega
            repeat refine cw_seq ?_
            refine cw_skip ?_
            try show CW _ _ _ _ _ _
            rw [e0]
            exact ⟨⟨rfl, rfl, rfl, trivial⟩, S⟩
        · rintro e3 w3_ ⟨hsl, S⟩
          rw [hsl.fold]
          repeat refine cw_seq ?_
          refine cw_region ?_
          refine rw_r (op_loadAB Try.underlying61 rfl (Try.sizeOf61 _) rfl (S.blk (i := 2) rfl) rfl rfl) ?_
          refine rw_storeSA (i := 0) S rfl (Try.sizeOf61 _) rfl rfl rfl rfl rfl rfl ?_
          intro w14_ S
          first | refine rw_end ?_ | (refine rw_nil ?_; show CW _ _ _ _ _ _) | refine rw_nil ?_
          repeat refine cw_seq ?_
          refine cw_ret ?_
          repeat first | refine ret_then ?_ | refine ret_inb ?_
          exact resA Try.underlying61 rfl (Try.sizeOf61 _) rfl (S.blk (i := 0) rfl) rfl rfl ⟨rfl, S.out⟩

/-! ### Lists -/
theorem cellsN_succ (n : Nat) (f : Nat → Nat) : cellsN n f ++ [.int .i64 (f n : Nat)] = cellsN (n + 1) f := by
  unfold cellsN
  rw [List.range_succ, List.map_append]
  rfl
section
variable {gw gh : Nat} {V : List Int} {t : Int} {r : Nat → Nat}
/-- parts, of which the first so many cells are counted -/
def partsK (gw : Nat) (V : List Int) (t : Int) (r : Nat → Nat) (m k : Nat) : List PV := (rootsL V t r m).map (partAt gw V t r k)
theorem partsK_len (m k : Nat) : (partsK gw V t r m k).length = cntR V t r m := by unfold partsK cntR; rw [List.length_map]
theorem partAt_zero (q : Nat) : partAt gw V t r 0 q = ⟨(cntR V t r q + 1 : Nat), 0, (q % gw : Nat), (q / gw : Nat), spotR gw q⟩ := rfl
theorem partsK_new {k : Nat} (h : isRoot V t r k = true) : partsK gw V t r (k + 1) 0 = partsK gw V t r k 0 ++ [partAt gw V t r 0 k] := by
  unfold partsK
  rw [rootsL_succ, if_pos h, List.map_append]
  rfl
theorem partsK_old {k : Nat} (h : isRoot V t r k = false) (j : Nat) : partsK gw V t r (k + 1) j = partsK gw V t r k j := by
  unfold partsK
  rw [rootsL_succ, if_neg (by rw [h]; simp)]
theorem partsK_more {m k q : Nat} (hr : r k = q) (hq : q < m) (hrq : r q = q) (hvq : t ≤ V.getD q 0) :
    partsK gw V t r m (k + 1) = (partsK gw V t r m k).set (cntR V t r q) (partAt gw V t r (k + 1) q) ∧ (partsK gw V t r m k)[cntR V t r q]? = some (partAt gw V t r k q) := by
  have hroot : isRoot V t r q = true := by unfold isRoot; simp only [Bool.and_eq_true, decide_eq_true_eq]; exact ⟨hvq, hrq⟩
  have hidx : (rootsL V t r m)[cntR V t r q]? = some q := filter_range_get hq hroot
  constructor
  · unfold partsK
    symm
    refine map_set_nodup (rootsL_nodup _ _ _ _) hidx fun x hx hne => partAt_skip ?_
    unfold memB
    simp only [Bool.and_eq_false_iff, decide_eq_false_iff_not]
    right
    rw [hr]
    exact fun e => hne e.symm
  · unfold partsK
    rw [List.getElem?_map, hidx]; rfl
theorem partsK_skip {m k : Nat} (hv : ¬ t ≤ V.getD k 0) : partsK gw V t r m (k + 1) = partsK gw V t r m k := by
  unfold partsK
  refine List.map_congr_left fun q _ => partAt_skip ?_
  unfold memB
  simp only [Bool.and_eq_false_iff, decide_eq_false_iff_not]
  exact .inl hv
/-- labels of the regions that begin before a cell -/
def labK (V : List Int) (t : Int) (r : Nat → Nat) (k : Nat) : Nat → Nat := fun j => if t ≤ V.getD j 0 ∧ r j < k then cntR V t r (r j) + 1 else 0
theorem Roots.adj1 (h : Roots gw V t r) {i j : Nat} (a : Adj gw V t i j) : r i = r j := by
  obtain ⟨hi, hj, hvi, hvj, s⟩ := a
  rcases s with ⟨e, hm⟩ | ⟨e, hm⟩ | e | e
  · obtain rfl : j = i - 1 := by omega
    exact h.left i hi hvi hm hvj
  · obtain rfl : i = j - 1 := by omega
    exact (h.left j hj hvj hm hvi).symm
  · obtain rfl : j = i - gw := by omega
    exact h.up i hi hvi (by omega) hvj
  · obtain rfl : i = j - gw := by omega
    exact (h.up j hj hvj (by omega) hvi).symm
theorem Roots.same1 (h : Roots gw V t r) {i j : Nat} (c : Conn gw V t i j) : r i = r j := by
  induction c with
  | refl => rfl
  | step a _ ih => exact (h.adj1 a).trans ih
/-- a cell that has no label yet and is high enough begins a region -/
theorem Roots.first (h : Roots gw V t r) {k : Nat} (hk : k < V.length) (ht : t ≤ V.getD k 0) (h0 : labK V t r k k = 0) : r k = k := by
  have h1 := h.le k hk
  unfold labK at h0
  apply Classical.byContradiction
  intro hne
  rw [if_pos ⟨ht, by omega⟩] at h0
  omega
/-- what is spread from there -/
theorem SP.labK (h : Roots gw V t r) {k : Nat} {o : Nat → Nat} (hk : k < V.length) (ht : t ≤ V.getD k 0) (hr : r k = k) (hs : SP gw V t k (cntR V t r k + 1) (labK V t r k) o [] (fun _ _ => False)) : ∀ j, j < V.length → o j = labK V t r (k + 1) j := by
  have hc0 : ∀ j, Conn gw V t k j → Proofs.Ytiidmiebckkloaa.labK V t r k j = 0 := fun j hc => by
    have := h.same1 hc
    unfold Proofs.Ytiidmiebckkloaa.labK
    rw [if_neg (by omega)]
  intro j hj
  have hlj := h.le j hj
  by_cases hc : Conn gw V t k j
  · have e := h.same1 hc
    have h1 := hs.new j hj (hc0 j hc) (hs.done hc0 hc)
    have h2 : t ≤ V.getD j 0 := hc.ge ht
    rw [h1.1]
    unfold Proofs.Ytiidmiebckkloaa.labK
    rw [if_pos ⟨h2, by omega⟩, ← e, hr]
  · have hne : ¬ (t ≤ V.getD j 0 ∧ r j = k) := fun ⟨_, e⟩ => hc (by have := (h.conn j hj).symm; rwa [e] at this)
    have e2 : Proofs.Ytiidmiebckkloaa.labK V t r (k + 1) j = Proofs.Ytiidmiebckkloaa.labK V t r k j := by
      unfold Proofs.Ytiidmiebckkloaa.labK
      by_cases h3 : t ≤ V.getD j 0 ∧ r j < k
      · rw [if_pos h3, if_pos ⟨h3.1, by omega⟩]
      · rw [if_neg h3, if_neg (fun h4 => h3 ⟨h4.1, by
          have : r j ≠ k := fun e => hne ⟨h4.1, e⟩
          omega⟩)]
    rw [e2]
    by_cases h0 : Proofs.Ytiidmiebckkloaa.labK V t r k j = 0
    · rw [h0]
      apply Classical.byContradiction
      intro hn
      exact hc (hs.new j hj h0 hn).2
    · exact hs.old j hj h0
theorem labK_full (h : Roots gw V t r) {j : Nat} (hj : j < V.length) : labK V t r V.length j = labF V t r j := by
  have := h.le j hj
  unfold labK labF
  by_cases ht : t ≤ V.getD j 0
  · rw [if_pos ⟨ht, by omega⟩, if_pos ht]
  · rw [if_neg (fun h => ht h.1), if_neg ht]
end
def RetOf29 (gw : Nat) (V : List Int) (t : Int) (r : Nat → Nat) (W : World) (v : Value) (w' : World) : Prop := ∃ A1 c1 A2 c2, v = .tuple #[.slice A1 V.length c1, .slice A2 (cntR V t r V.length) c2] ∧
  Row w' 2 1 A1 V.length c1 (cellsN V.length (labF V t r)) ∧ Row w' 87 8 A2 (cntR V t r V.length) c2 (partsV (partsAt gw V t r V.length)) ∧ FreshA W A1 ∧ FreshA W A2 ∧ Gr W w'
section
variable {W : World} {A : Option Addr} {gw gh cap : Nat} {V : List Int} {r : Nat → Nat}
set_option maxHeartbeats 8000000 in
theorem of29_E (t : Int) (hw : 1 ≤ gw ∧ gw ≤ 1024) (hh : 1 ≤ gh ∧ gh ≤ 1024) (hV : V.length = gw * gh) (hro : Roots gw V t r) (hA : Rd W A (ints V)) :
    Fn Try.prog 33 [modV gw gh A V.length cap, .int .i64 t] W (RetOf29 gw V t r W) := by
  have hm : 1 ≤ gw * gh ∧ gw * gh ≤ 1024 * 1024 := ⟨Nat.mul_le_mul hw.1 hh.1, Nat.mul_le_mul hw.2 hh.2⟩
  have hmi : (gw : Int) * gh = ((gw * gh : Nat) : Int) := by push_cast; rfl
  have sa_A : SomeA A := hA.someA (by rw [ints_len]; omega)
  have hAlt : ∀ g, ownA A g → g < W.heap.size := fun g hg => hA.lt (by rw [ints_len]; omega) hg
  have S := St.start W
  refine Fn_enter Try.func33 rfl Try.results33 Try.ntmps33 (by kernel_rfl) (by kernel_rfl) ?_
  repeat refine cw_seq ?_
  refine cw_region ?_
  refine rw_newB (op_box rfl) S ?_
  intro b_md w2_ g2_ S
  iterate 2 refine rw_v (op_pure rfl) ?_
  first | refine rw_end ?_ | (refine rw_nil ?_; show CW _ _ _ _ _ _) | refine rw_nil ?_
  repeat refine cw_seq ?_
  refine cw_region ?_
  refine rw_buildS0 Try.underlying30 Try.sizeOf2 S ?_
  intro A_L w4_ g4_ S sa_L
  refine rw_v (op_pure rfl) ?_
  first | refine rw_end ?_ | (refine rw_nil ?_; show CW _ _ _ _ _ _) | refine rw_nil ?_
  repeat refine cw_seq ?_
  refine cw_region ?_
  refine rw_v (op_pure rfl) ?_
  first | refine rw_end ?_ | (refine rw_nil ?_; show CW _ _ _ _ _ _) | refine rw_nil ?_
  repeat refine cw_seq ?_
  refine cw_block ?_
  repeat refine cw_seq ?_
  refine cw_loop (fun m e w => ∃ (k : Nat) (A_L : Option Addr) (c_L : Nat), k + m = V.length ∧ SL e [(1, .int .i64 t), (2, .pointer (some ⟨b_md, 0, none⟩)), (6, .slice A_L k c_L), (7, .int .i64 k)] ∧
    St No W w [.row 2 1 A_L k c_L (cellsN k fun _ => 0), .blk b_md 32 [.int .i64 gw, .int .i64 gh, .slice A V.length cap]]) V.length
    ⟨0, _, _, by omega, ⟨rfl, rfl, rfl, rfl, trivial⟩, S⟩ ?_
  clear S
  rintro m e w ⟨k, A_L, c_L, hk, hsl, S⟩
  rw [hsl.fold]
  repeat refine cw_seq ?_
  refine cw_region ?_
  refine rw_v (op_pure rfl) ?_
  refine rw_v (op_fieldAddr Try.underlying32 rfl Try.sizeOf30 rfl rfl) ?_
  refine rw_r (op_loadB Try.underlying30 rfl rfl (S.blk (i := 1) rfl) rfl) ?_
  refine rw_v (op_len Try.underlying30 rfl) ?_
  refine rw_v (op_pure rfl) ?_
  first | refine rw_end ?_ | (refine rw_nil ?_; show CW _ _ _ _ _ _) | refine rw_nil ?_
  repeat refine cw_seq ?_
  refine cw_cond rfl (fun hc => ?_) (fun hc => ?_)
  · try simp only [decide_eq_true_eq, decide_eq_false_iff_not, beq_iff_eq, bne_iff_ne, beq_eq_false_iff_ne, bne_eq_false_iff_eq, Bool.not_eq_true', Bool.not_eq_false', ne_eq, Decidable.not_not, Int.natCast_inj, Int.ofNat_lt, Int.ofNat_le, gt_iff_lt, ge_iff_le, Int.not_lt, Int.not_le] at hc
    repeat refine cw_seq ?_
    refine cw_skip ?_
    try show CW _ _ _ _ _ _
    repeat refine cw_seq ?_
    refine cw_block ?_
    repeat refine cw_seq ?_
    refine cw_region ?_
    refine rw_v (op_pure rfl) ?_
    refine rw_buildS Try.underlying30 Try.sizeOf2 Try.zeroValue2 rfl rfl rfl rfl rfl rfl S ?_
    intro A_lit w6_ g6_ S sa_lit
    refine rw_appS (i := 1) S rfl (fun h => rfl) Try.underlying30 info_t2 rfl rfl rfl rfl (by simp) (by omega) (S.rd (i := 0) rfl) rfl (by omega) ?_
    intro A_L2 c_L2 w7_ S sa_L
    refine rw_v (op_pure rfl) ?_
    first | refine rw_end ?_ | (refine rw_nil ?_; show CW _ _ _ _ _ _) | refine rw_nil ?_
    repeat refine cw_seq ?_
    refine cw_region ?_
    refine rw_v (op_pure rfl) ?_
    refine rw_v (op_rng rfl (by omega)) ?_
    refine rw_v (op_pure rfl) ?_
    first | refine rw_end ?_ | (refine rw_nil ?_; show CW _ _ _ _ _ _) | refine rw_nil ?_
    have S := S.drop 1
    have e1 : cellsN k (fun _ => 0) ++ [.int .i64 0] = cellsN (k + 1) (fun _ => 0) := cellsN_succ k (fun _ => 0)
    rw [e1] at S
    exact ⟨m - 1, by omega, k + 1, A_L2, c_L2, by omega, ⟨rfl, rfl, rfl, ie (by omega), trivial⟩, S⟩
  · try simp only [decide_eq_true_eq, decide_eq_false_iff_not, beq_iff_eq, bne_iff_ne, beq_eq_false_iff_ne, bne_eq_false_iff_eq, Bool.not_eq_true', Bool.not_eq_false', ne_eq, Decidable.not_not, Int.natCast_inj, Int.ofNat_lt, Int.ofNat_le, gt_iff_lt, ge_iff_le, Int.not_lt, Int.not_le] at hc
    obtain rfl : k = V.length := by omega
    have e0 : cellsN V.length (fun _ => 0) = cellsN V.length (labK V t r 0) := cellsN_congr fun i _ => by unfold labK; rw [if_neg (by omega)]
    rw [e0] at S
    repeat refine cw_seq ?_
    refine cw_exit ?_
    repeat first | refine exit_then ?_ | refine exit_inb ?_
    show CW _ _ _ _ _ _
    repeat refine cw_seq ?_
    refine cw_region ?_
    refine rw_buildS0 Try.underlying82 Try.sizeOf87 S ?_
    intro A_P w9_ g9_ S sa_P
    refine rw_v (op_pure rfl) ?_
    first | refine rw_end ?_ | (refine rw_nil ?_; show CW _ _ _ _ _ _) | refine rw_nil ?_
    repeat refine cw_seq ?_
    refine cw_region ?_
    refine rw_v (op_pure rfl) ?_
    first | refine rw_end ?_ | (refine rw_nil ?_; show CW _ _ _ _ _ _) | refine rw_nil ?_
    repeat refine cw_seq ?_
    refine cw_block ?_
    repeat refine cw_seq ?_
    refine cw_loop (fun m e w => ∃ (k : Nat) (A_P : Option Addr) (c_P : Nat), k + m = V.length ∧ SL e [(1, .int .i64 t), (2, .pointer (some ⟨b_md, 0, none⟩)), (6, .slice A_L V.length c_L), (8, .slice A_P (cntR V t r k) c_P), (9, .int .i64 k)] ∧
      St No W w [.row 87 8 A_P (cntR V t r k) c_P (partsV (partsK gw V t r k 0)), .row 2 1 A_L V.length c_L (cellsN V.length (labK V t r k)), .blk b_md 32 [.int .i64 gw, .int .i64 gh, .slice A V.length cap]]) V.length
      ⟨0, _, _, by omega, ⟨rfl, rfl, rfl, rfl, rfl, trivial⟩, S⟩ ?_
    clear S e0
    rintro m e w ⟨k, A_P, c_P, hk, hsl, S⟩
    rw [hsl.fold]
    have hcnt := cntR_le V t r k
    have sa_L : SomeA A_L := (S.row (i := 1) rfl).someA (by omega)
    repeat refine cw_seq ?_
    refine cw_region ?_
    refine rw_v (op_pure rfl) ?_
    refine rw_v (op_fieldAddr Try.underlying32 rfl Try.sizeOf2 rfl rfl) ?_
    refine rw_r (op_loadB Try.underlying2 rfl rfl (S.blk (i := 2) rfl) rfl) ?_
    refine rw_v (op_fieldAddr Try.underlying32 rfl Try.sizeOf2 rfl rfl) ?_
    refine rw_r (op_loadB Try.underlying2 rfl rfl (S.blk (i := 2) rfl) rfl) ?_
    refine rw_v (op_rng rfl (by omega)) ?_
    rw [hmi]
    refine rw_v (op_pure rfl) ?_
    first | refine rw_end ?_ | (refine rw_nil ?_; show CW _ _ _ _ _ _) | refine rw_nil ?_
    repeat refine cw_seq ?_
    refine cw_cond rfl (fun hcl => ?_) (fun hcl => ?_)
    · try simp only [decide_eq_true_eq, decide_eq_false_iff_not, beq_iff_eq, bne_iff_ne, beq_eq_false_iff_ne, bne_eq_false_iff_eq, Bool.not_eq_true', Bool.not_eq_false', ne_eq, Decidable.not_not, Int.natCast_inj, Int.ofNat_lt, Int.ofNat_le, gt_iff_lt, ge_iff_le, Int.not_lt, Int.not_le] at hcl
      have hkV : k < V.length := by omega
      have em : (k : Int) % gw = ((k % gw : Nat) : Int) := by push_cast; rfl
      have ed : (k : Int) / gw = ((k / gw : Nat) : Int) := by push_cast; rfl
      have hvk : (ints V)[(k : Int).toNat * 1]? = some (.int .i64 (V.getD k 0)) := by rw [Nat.mul_one, Int.toNat_natCast]; exact ints_get (getD_at hkV)
      have hok : (cellsN V.length (labK V t r k))[(k : Int).toNat * 1]? = some (.int .i64 (labK V t r k k : Nat)) := by rw [Nat.mul_one, Int.toNat_natCast]; exact cellsN_get hkV
      repeat refine cw_seq ?_
      refine cw_skip ?_
      try show CW _ _ _ _ _ _
      repeat refine cw_seq ?_
      refine cw_block ?_
      repeat refine cw_seq ?_
      refine cw_tri (C := (fun σ wq => Gr w wq ∧ SpA w wq 40 [.int .i64 0, .int .i64 0] σ)) [9] [0, 1, 2, 3, 4, 5, 6, 7, 8, 9] [10] (by kernel_rfl) (by kernel_rfl) ⟨Gr.drew _, trivial⟩ ?_
      simp only [pickI, pickL, List.drop_succ_cons, List.drop_zero]
      refine rs_v rfl (op_pure rfl) ?_
      refine rs_v rfl (op_fieldAddr Try.underlying32 rfl Try.sizeOf2 rfl rfl) ?_
      refine rs_r rfl (fun τ wq hq => op_loadB Try.underlying2 rfl rfl ((S.gr hq.1).blk (i := 2) rfl) rfl) ?_
      refine rs_v rfl (op_rem rfl rfl (by omega) (by omega)) ?_
      rw [em]
      refine rs_v rfl (op_pure rfl) ?_
      refine rs_v rfl (op_fieldAddr Try.underlying32 rfl Try.sizeOf2 rfl rfl) ?_
      refine rs_r rfl (fun τ wq hq => op_loadB Try.underlying2 rfl rfl ((S.gr hq.1).blk (i := 2) rfl) rfl) ?_
      refine rs_v rfl (op_div rfl rfl (by omega) (by omega)) ?_
      rw [ed]
      refine rs_v rfl (op_build (pl := [(0, 1), (1, 1)]) Try.underlying40 Try.zeroValue40 (fun w => by kernel_rfl) rfl rfl) ?_
      refine rs_special rfl rfl (fun wq hq => to_alloc1 Try.zeroValue40 rfl hq.1 (fun v w' g h => ⟨g, h⟩)) ?_
      rintro v9 w9 ⟨_, hsp9⟩
      refine rs_nil ?_
      rintro wz ⟨gz, hsp⟩
      obtain ⟨b_c, he1, hB1, hs1⟩ := hsp
      cases he1
      have S := S.push gz (h := .blk b_c 40 _) hB1 (fun g h => h ▸ hs1)
      refine rw_storeSA (i := 0) S rfl (Try.sizeOf40 _) rfl rfl rfl rfl rfl rfl ?_
      intro wy S
      first | refine rw_end ?_ | (refine rw_nil ?_; show CW _ _ _ _ _ _) | refine rw_nil ?_
      by_cases hb : t ≤ V.getD k 0 ∧ labK V t r k k = 0
      · obtain ⟨hb1, hb2⟩ := hb
        have hrk := hro.first hkV hb1 hb2
        have hroot : isRoot V t r k = true := by unfold isRoot; simp only [Bool.and_eq_true, decide_eq_true_eq]; exact ⟨hb1, hrk⟩
        have hcs : cntR V t r (k + 1) = cntR V t r k + 1 := by unfold cntR; rw [rootsL_succ, if_pos hroot]; simp
        rw [hb2] at hok
        have elb : ((cntR V t r k : Nat) : Int) + 1 = ((cntR V t r k + 1 : Nat) : Int) := by push_cast; rfl
        repeat refine cw_seq ?_
        refine cw_region ?_
        refine rw_v (op_fieldAddr Try.underlying32 rfl Try.sizeOf30 rfl rfl) ?_
        refine rw_r (op_loadB Try.underlying30 rfl rfl (S.blk (i := 3) rfl) rfl) ?_
        refine rw_v (op_pure rfl) ?_
        refine rw_v (op_idx Try.underlying30 Try.sizeOf2 rfl rfl sa_A (by omega) (by omega)) ?_
        refine rw_r (op_ldR Try.underlying2 rfl rfl (hA.gr S.out) hvk) ?_
        refine rw_v (op_pure rfl) ?_
        first | refine rw_v (op_b (b := true) rfl (decide_eq_true (by omega))) ?_ | refine rw_v (op_b (b := false) rfl (decide_eq_false (by omega))) ?_ | refine rw_v (op_pure rfl) ?_
        refine rw_v (op_pure rfl) ?_
        first | refine rw_off rfl ?_ | (refine rw_on rfl ?_; refine rw_v (op_pure rfl) ?_)
        first | refine rw_off rfl ?_ | (refine rw_on rfl ?_; refine rw_v (op_pure rfl) ?_)
        first | refine rw_off rfl ?_ | (refine rw_on rfl ?_; refine rw_v (op_idx Try.underlying30 Try.sizeOf2 rfl rfl sa_L (by omega) (by omega)) ?_)
        first | refine rw_off rfl ?_ | (refine rw_on rfl ?_; refine rw_r (op_ldR Try.underlying2 rfl rfl (S.rd (i := 2) rfl) hok) ?_)
        first | refine rw_off rfl ?_ | (refine rw_on rfl ?_; (first | refine rw_v (op_b (b := true) rfl (beq_iff_eq.2 (by omega))) ?_ | refine rw_v (op_b (b := false) rfl (beq_eq_false_iff_ne.2 (by omega))) ?_ | refine rw_v (op_pure rfl) ?_))
        refine rw_v (op_pure rfl) ?_
        first | refine rw_end ?_ | (refine rw_nil ?_; show CW _ _ _ _ _ _) | refine rw_nil ?_
        repeat refine cw_seq ?_
        refine cw_true rfl ?_
        repeat refine cw_seq ?_
        refine cw_region ?_
        refine rw_r (op_loadAB Try.underlying32 rfl (Try.sizeOf32 _) rfl (S.blk (i := 3) rfl) rfl rfl) ?_
        refine rw_v (op_pure rfl) ?_
        refine rw_r (op_loadAB Try.underlying40 rfl (Try.sizeOf40 _) rfl (S.blk (i := 0) rfl) rfl rfl) ?_
        iterate 2 refine rw_v (op_pure rfl) ?_
        refine rw_v (op_len Try.underlying82 rfl) ?_
        refine rw_v (op_rng rfl (by omega)) ?_
        rw [elb]
        refine rw_call rfl (spread_E (W := wy) k (cntR V t r k + 1) t (by omega) hV (by omega) (by omega) hb1 hb2 (by omega) (by omega) (hA.gr S.out) (S.row (i := 2) rfl) (fun g h1 h2 => by have h3 := SepL.fresh S (i := 2) rfl g h2; have h4 := hAlt g h1; omega)) ?_
        rintro _ w11_ ⟨rfl, o, hsp2, hR2, hF2⟩
        have S := S.set (i := 2) (h' := .row 2 1 A_L V.length c_L (cellsN V.length o)) rfl rfl hF2 (fun g h => .inl h) hR2 (fun g h => .inl h)
        first | refine rw_end ?_ | (refine rw_nil ?_; show CW _ _ _ _ _ _) | refine rw_nil ?_
        have hol := SP.labK hro hkV hb1 hrk hsp2
        rw [cellsN_congr hol] at S
        repeat refine cw_seq ?_
        refine cw_tri (C := (fun σ wq => CS No W [.blk b_c 40 [.int .i64 (k % gw : Nat), .int .i64 (k / gw : Nat)], .row 87 8 A_P (cntR V t r k) c_P (partsV (partsK gw V t r k 0)), .row 2 1 A_L V.length c_L (cellsN V.length (labK V t r (k + 1))), .blk b_md 32 [.int .i64 gw, .int .i64 gh, .slice A V.length cap]] 1 87 8 (cntR V t r k) (partsV (partsK gw V t r k 0)) (partAt gw V t r 0 k).cells wq σ)) [8, 9] [0, 1, 2, 3, 4, 5, 6, 7, 8, 9] [10] (by kernel_rfl) (by kernel_rfl) (S.gr (Gr.drew _)) ?_
        simp only [pickI, pickL, List.drop_succ_cons, List.drop_zero]
        refine rs_v rfl (op_pure rfl) ?_
        refine rs_v rfl (op_pure rfl) ?_
        refine rs_v rfl (op_len Try.underlying82 rfl) ?_
        refine rs_v rfl (op_rng rfl (by omega)) ?_
        rw [elb]
        refine rs_r rfl (fun τ wq hq => op_loadAB Try.underlying40 rfl (Try.sizeOf40 _) rfl (hq.ok (j := 0) (by decide) rfl) rfl rfl) ?_
        refine rs_r rfl (fun τ wq hq => op_loadAB Try.underlying40 rfl (Try.sizeOf40 _) rfl (hq.ok (j := 0) (by decide) rfl) rfl rfl) ?_
        refine rs_call rfl rfl (fun τ wq hq => (spot8_E (k % gw : Nat) (k / gw : Nat) wq).mono (fun _ _ ⟨hv, hg⟩ => ⟨hv, CS.gr hq hg⟩)) ?_
        refine rs_v rfl (op_build (pl := [(0, 1), (1, 1), (2, 2), (4, 4)]) Try.underlying87 Try.zeroValue87 (fun w => by kernel_rfl) rfl rfl) ?_
        refine rs_special rfl rfl (fun wq hq => to_buildCS hq Try.underlying82 Try.sizeOf87 Try.zeroValue87 rfl rfl rfl rfl rfl rfl) ?_
        rintro v6 w6 ⟨A6, rfl, _⟩
        refine rs_special rfl rfl (fun wq hq => to_appCS hq rfl (fun h => ⟨_, rfl⟩) Try.underlying82 info_t87 rfl rfl rfl rfl rfl rfl (by omega)) ?_
        rintro v7 w7 ⟨A7, c7, L7, rfl, _, _⟩
        refine rs_nil ?_
        rintro w8 ⟨A8_, c8_, L_st, e_st, h_st, S⟩
        cases e_st
        obtain rfl := Option.some.inj h_st
        refine rw_v (op_pure rfl) ?_
        first | refine rw_end ?_ | (refine rw_nil ?_; show CW _ _ _ _ _ _) | refine rw_nil ?_
        repeat refine cw_seq ?_
        refine cw_region ?_
        refine rw_v (op_pure rfl) ?_
        refine rw_v (op_rng rfl (by omega)) ?_
        refine rw_v (op_pure rfl) ?_
        first | refine rw_end ?_ | (refine rw_nil ?_; show CW _ _ _ _ _ _) | refine rw_nil ?_
        have S := S.drop 1
        have e2 : partsV (partsK gw V t r k 0) ++ (partAt gw V t r 0 k).cells = partsV (partsK gw V t r (k + 1) 0) := by rw [partsK_new hroot]; simp [partsV]
        rw [e2] at S
        refine ⟨m - 1, by omega, k + 1, A7, c7, by omega, ⟨rfl, rfl, rfl, se (by rw [hcs]) rfl, ie (by omega), trivial⟩, ?_⟩
        rw [hcs]
        exact S
      · have hnr : isRoot V t r k = false := by
          unfold isRoot
          simp only [Bool.and_eq_false_iff, decide_eq_false_iff_not]
          apply Classical.byContradiction
          intro hcon
          have h1 : t ≤ V.getD k 0 := Classical.byContradiction fun h => hcon (.inl h)
          have h2 : r k = k := Classical.byContradiction fun h => hcon (.inr h)
          exact hb ⟨h1, by unfold labK; rw [if_neg (by omega)]⟩
        have hcs : cntR V t r (k + 1) = cntR V t r k := by unfold cntR; rw [rootsL_succ, if_neg (by rw [hnr]; simp)]
        have hlk : ∀ j, j < V.length → labK V t r k j = labK V t r (k + 1) j := fun j hj => by
          unfold labK
          by_cases h3 : t ≤ V.getD j 0 ∧ r j < k
          · rw [if_pos h3, if_pos ⟨h3.1, by omega⟩]
          · rw [if_neg h3, if_neg (fun h4 => h3 ⟨h4.1, by
              have hne : r j ≠ k := fun e => by
                have h5 := hro.idem j hj
                have h6 := (hro.conn j hj).ge h4.1
                rw [e] at h5 h6
                unfold isRoot at hnr
                simp only [Bool.and_eq_false_iff, decide_eq_false_iff_not] at hnr
                exact hnr.elim (fun h => h h6) (fun h => h h5)
              omega⟩)]
        have hfin : ∀ {wz : World}, St No W wz [.blk b_c 40 [.int .i64 (k % gw : Nat), .int .i64 (k / gw : Nat)], .row 87 8 A_P (cntR V t r k) c_P (partsV (partsK gw V t r k 0)), .row 2 1 A_L V.length c_L (cellsN V.length (labK V t r k)), .blk b_md 32 [.int .i64 gw, .int .i64 gh, .slice A V.length cap]] →
            St No W wz [.row 87 8 A_P (cntR V t r (k + 1)) c_P (partsV (partsK gw V t r (k + 1) 0)), .row 2 1 A_L V.length c_L (cellsN V.length (labK V t r (k + 1))), .blk b_md 32 [.int .i64 gw, .int .i64 gh, .slice A V.length cap]] := fun S => by
          rw [hcs, partsK_old hnr, ← cellsN_congr hlk]
          exact S.drop 1
        by_cases hb1 : t ≤ V.getD k 0
        · have hb2 : labK V t r k k ≠ 0 := fun h => hb ⟨hb1, h⟩
          repeat refine cw_seq ?_
          refine cw_region ?_
          refine rw_v (op_fieldAddr Try.underlying32 rfl Try.sizeOf30 rfl rfl) ?_
          refine rw_r (op_loadB Try.underlying30 rfl rfl (S.blk (i := 3) rfl) rfl) ?_
          refine rw_v (op_pure rfl) ?_
          refine rw_v (op_idx Try.underlying30 Try.sizeOf2 rfl rfl sa_A (by omega) (by omega)) ?_
          refine rw_r (op_ldR Try.underlying2 rfl rfl (hA.gr S.out) hvk) ?_
          refine rw_v (op_pure rfl) ?_
          first | refine rw_v (op_b (b := true) rfl (decide_eq_true (by omega))) ?_ | refine rw_v (op_b (b := false) rfl (decide_eq_false (by omega))) ?_ | refine rw_v (op_pure rfl) ?_
          refine rw_v (op_pure rfl) ?_
          first | refine rw_off rfl ?_ | (refine rw_on rfl ?_; refine rw_v (op_pure rfl) ?_)
          first | refine rw_off rfl ?_ | (refine rw_on rfl ?_; refine rw_v (op_pure rfl) ?_)
          first | refine rw_off rfl ?_ | (refine rw_on rfl ?_; refine rw_v (op_idx Try.underlying30 Try.sizeOf2 rfl rfl sa_L (by omega) (by omega)) ?_)
          first | refine rw_off rfl ?_ | (refine rw_on rfl ?_; refine rw_r (op_ldR Try.underlying2 rfl rfl (S.rd (i := 2) rfl) hok) ?_)
          first | refine rw_off rfl ?_ | (refine rw_on rfl ?_; (first | refine rw_v (op_b (b := true) rfl (beq_iff_eq.2 (by omega))) ?_ | refine rw_v (op_b (b := false) rfl (beq_eq_false_iff_ne.2 (by omega))) ?_ | refine rw_v (op_pure rfl) ?_))
          refine rw_v (op_pure rfl) ?_
          first | refine rw_end ?_ | (refine rw_nil ?_; show CW _ _ _ _ _ _) | refine rw_nil ?_
          repeat refine cw_seq ?_
          refine cw_false rfl ?_
          repeat refine cw_seq ?_
          refine cw_skip ?_
          try show CW _ _ _ _ _ _
          repeat refine cw_seq ?_
          refine cw_region ?_
          refine rw_v (op_pure rfl) ?_
          refine rw_v (op_rng rfl (by omega)) ?_
          refine rw_v (op_pure rfl) ?_
          first | refine rw_end ?_ | (refine rw_nil ?_; show CW _ _ _ _ _ _) | refine rw_nil ?_
          exact ⟨m - 1, by omega, k + 1, A_P, c_P, by omega, ⟨rfl, rfl, rfl, se (by rw [hcs]) rfl, ie (by omega), trivial⟩, hfin S⟩
        · skip
          repeat refine cw_seq ?_
          refine cw_region ?_
          refine rw_v (op_fieldAddr Try.underlying32 rfl Try.sizeOf30 rfl rfl) ?_
          refine rw_r (op_loadB Try.underlying30 rfl rfl (S.blk (i := 3) rfl) rfl) ?_
          refine rw_v (op_pure rfl) ?_
          refine rw_v (op_idx Try.underlying30 Try.sizeOf2 rfl rfl sa_A (by omega) (by omega)) ?_
          refine rw_r (op_ldR Try.underlying2 rfl rfl (hA.gr S.out) hvk) ?_
          refine rw_v (op_pure rfl) ?_
          first | refine rw_v (op_b (b := true) rfl (decide_eq_true (by omega))) ?_ | refine rw_v (op_b (b := false) rfl (decide_eq_false (by omega))) ?_ | refine rw_v (op_pure rfl) ?_
          refine rw_v (op_pure rfl) ?_
          first | refine rw_off rfl ?_ | (refine rw_on rfl ?_; refine rw_v (op_pure rfl) ?_)
          first | refine rw_off rfl ?_ | (refine rw_on rfl ?_; refine rw_v (op_pure rfl) ?_)
          refine rw_off rfl ?_
          refine rw_off rfl ?_
          first | refine rw_off rfl ?_ | (refine rw_on rfl ?_; (first | refine rw_v (op_b (b := true) rfl (beq_iff_eq.2 (by omega))) ?_ | refine rw_v (op_b (b := false) rfl (beq_eq_false_iff_ne.2 (by omega))) ?_ | refine rw_v (op_pure rfl) ?_))
          refine rw_v (op_pure rfl) ?_
          first | refine rw_end ?_ | (refine rw_nil ?_; show CW _ _ _ _ _ _) | refine rw_nil ?_
          repeat refine cw_seq ?_
          refine cw_false rfl ?_
          repeat refine cw_seq ?_
          refine cw_skip ?_
          try show CW _ _ _ _ _ _
          repeat refine cw_seq ?_
          refine cw_region ?_
          refine rw_v (op_pure rfl) ?_
          refine rw_v (op_rng rfl (by omega)) ?_
          refine rw_v (op_pure rfl) ?_
          first | refine rw_end ?_ | (refine rw_nil ?_; show CW _ _ _ _ _ _) | refine rw_nil ?_
          exact ⟨m - 1, by omega, k + 1, A_P, c_P, by omega, ⟨rfl, rfl, rfl, se (by rw [hcs]) rfl, ie (by omega), trivial⟩, hfin S⟩
    · try simp only [decide_eq_true_eq, decide_eq_false_iff_not, beq_iff_eq, bne_iff_ne, beq_eq_false_iff_ne, bne_eq_false_iff_eq, Bool.not_eq_true', Bool.not_eq_false', ne_eq, Decidable.not_not, Int.natCast_inj, Int.ofNat_lt, Int.ofNat_le, gt_iff_lt, ge_iff_le, Int.not_lt, Int.not_le] at hcl
      obtain rfl : k = V.length := by omega
      rw [cellsN_congr (fun j hj => labK_full hro hj)] at S
      repeat refine cw_seq ?_
      refine cw_exit ?_
      repeat first | refine exit_then ?_ | refine exit_inb ?_
      show CW _ _ _ _ _ _
      repeat refine cw_seq ?_
      refine cw_region ?_
      refine rw_v (op_pure rfl) ?_
      first | refine rw_end ?_ | (refine rw_nil ?_; show CW _ _ _ _ _ _) | refine rw_nil ?_
      repeat refine cw_seq ?_
      refine cw_block ?_
      repeat refine cw_seq ?_
      refine cw_loop (fun m e w => ∃ k : Nat, k + m = V.length ∧ SL e [(2, .pointer (some ⟨b_md, 0, none⟩)), (6, .slice A_L V.length c_L), (8, .slice A_P (cntR V t r V.length) c_P), (11, .int .i64 k)] ∧
        St No W w [.row 87 8 A_P (cntR V t r V.length) c_P (partsV (partsK gw V t r V.length k)), .row 2 1 A_L V.length c_L (cellsN V.length (labF V t r)), .blk b_md 32 [.int .i64 gw, .int .i64 gh, .slice A V.length cap]]) V.length
        ⟨0, by omega, ⟨rfl, rfl, rfl, rfl, trivial⟩, S⟩ ?_
      clear S
      rintro m e w ⟨k, hk, hsl, S⟩
      rw [hsl.fold]
      repeat refine cw_seq ?_
      refine cw_region ?_
      refine rw_v (op_pure rfl) ?_
      refine rw_v (op_fieldAddr Try.underlying32 rfl Try.sizeOf2 rfl rfl) ?_
      refine rw_r (op_loadB Try.underlying2 rfl rfl (S.blk (i := 2) rfl) rfl) ?_
      refine rw_v (op_fieldAddr Try.underlying32 rfl Try.sizeOf2 rfl rfl) ?_
      refine rw_r (op_loadB Try.underlying2 rfl rfl (S.blk (i := 2) rfl) rfl) ?_
      refine rw_v (op_rng rfl (by omega)) ?_
      rw [hmi]
      refine rw_v (op_pure rfl) ?_
      first | refine rw_end ?_ | (refine rw_nil ?_; show CW _ _ _ _ _ _) | refine rw_nil ?_
      repeat refine cw_seq ?_
      refine cw_cond rfl (fun hcl => ?_) (fun hcl => ?_)
      · try simp only [decide_eq_true_eq, decide_eq_false_iff_not, beq_iff_eq, bne_iff_ne, beq_eq_false_iff_ne, bne_eq_false_iff_eq, Bool.not_eq_true', Bool.not_eq_false', ne_eq, Decidable.not_not, Int.natCast_inj, Int.ofNat_lt, Int.ofNat_le, gt_iff_lt, ge_iff_le, Int.not_lt, Int.not_le] at hcl
        have hkV : k < V.length := by omega
        have em : (k : Int) % gw = ((k % gw : Nat) : Int) := by push_cast; rfl
        have ed : (k : Int) / gw = ((k / gw : Nat) : Int) := by push_cast; rfl
        have hlk : (cellsN V.length (labF V t r))[(k : Int).toNat * 1]? = some (.int .i64 (labF V t r k : Nat)) := by rw [Nat.mul_one, Int.toNat_natCast]; exact cellsN_get hkV
        by_cases hlow : t ≤ V.getD k 0
        · have hrl := hro.le k hkV
          have hrr := hro.idem k hkV
          have hvr : t ≤ V.getD (r k) 0 := (hro.conn k hkV).ge hlow
          have hlabk : labF V t r k = cntR V t r (r k) + 1 := if_pos hlow
          have hlab0 : 0 < labF V t r k := by omega
          obtain ⟨hmore, hat⟩ := partsK_more (gw := gw) (V := V) (t := t) (r := r) (m := V.length) (k := k) rfl (show r k < V.length by omega) hrr hvr
          have eidx : ((labF V t r k : Nat) : Int) - 1 = ((cntR V t r (r k) : Nat) : Int) := by rw [hlabk]; omega
          have hbr := partAt_right (gw := gw) (gh := gh) (V := V) (t := t) (r := r) (k := k) (q := r k) hw hh.2 hV (by omega) (by omega)
          have hspot := spotR_right hw hh.2 (hV ▸ hkV)
          have harea : (partAt gw V t r k (r k)).area ≤ 1048576 := by
            have : (members V t r (r k) k).length ≤ k := Nat.le_trans (List.length_filter_le _ _) (by simp)
            show (((members V t r (r k) k).length : Nat) : Int) ≤ _
            omega
          have harea0 : 0 ≤ (partAt gw V t r k (r k)).area := Int.natCast_nonneg _
          have hpad := partAt_add (gw := gw) (V := V) (t := t) (r := r) (k := k) (q := r k) (by unfold memB; simp [hlow] <;> exact hlow)
          have hPl := partsK_len (gw := gw) (V := V) (t := t) (r := r) V.length k
          have hidx := (List.getElem?_eq_some_iff.1 hat).1
          generalize hpa : partAt gw V t r k (r k) = pa at *
          generalize cntR V t r (r k) = ci at *
          generalize partsK gw V t r V.length k = Pk at *
          obtain ⟨pb, hpb⟩ : ∃ pb : PV, pb = { pa with area := pa.area + 1 } := ⟨_, rfl⟩
          have sa_P : SomeA A_P := (S.row (i := 0) rfl).someA (by omega)
          have sa_L : SomeA A_L := (S.row (i := 1) rfl).someA (by omega)
          have hga : (partsV Pk)[(ci : Int).toNat * 8 + 1]? = some (.int .i64 pa.area) := by rw [Int.toNat_natCast, partsV_get hat (by omega)]; rfl
          have ep1 : ((partsV Pk).set ((ci : Int).toNat * 8 + 1) (.int .i64 (pa.area + 1))) = partsV (Pk.set ci pb) := by
            rw [Int.toNat_natCast, set_take (by rw [partsV_len]; omega)]
            exact partsV_put (d := 1) (cs := [.int .i64 (pa.area + 1)]) hat (by simp) (by rw [hpb]; rfl)
          have hPb : (Pk.set ci pb)[ci]? = some pb := by rw [List.getElem?_set, if_pos rfl, if_pos hidx]
          have hbox : ((partsV (Pk.set ci pb)).drop ((ci : Int).toNat * 8 + 4)).take 4 = [.int .i64 pa.box.x0, .int .i64 pa.box.y0, .int .i64 pa.box.x1, .int .i64 pa.box.y1] := by
            rw [Int.toNat_natCast, partsV_box hPb, hpb]; rfl
          have hlenP : (partsV (Pk.set ci pb)).length = Pk.length * 8 := by rw [partsV_len, List.length_set]
          have ep2 : (partsV (Pk.set ci pb)).take ((ci : Int).toNat * 8 + 4) ++ (hullR pa.box (spotR gw k)).cells ++ (partsV (Pk.set ci pb)).drop ((ci : Int).toNat * 8 + 4 + 4) = partsV (Pk.set ci (partAt gw V t r (k + 1) (r k))) := by
            have := partsV_put (l := Pk.set ci pb) (k := ci) (a := pb) (a' := partAt gw V t r (k + 1) (r k)) (d := 4) (cs := (hullR pa.box (spotR gw k)).cells) hPb (by simp [RV.cells]) (by rw [hpad, hpb]; rfl)
            rw [List.set_set] at this
            rw [Int.toNat_natCast]
            exact this
          repeat refine cw_seq ?_
          refine cw_skip ?_
          try show CW _ _ _ _ _ _
          repeat refine cw_seq ?_
          refine cw_block ?_
          repeat refine cw_seq ?_
          refine cw_region ?_
          iterate 2 refine rw_v (op_pure rfl) ?_
          refine rw_v (op_idx Try.underlying30 Try.sizeOf2 rfl rfl sa_L (by omega) (by omega)) ?_
          refine rw_r (op_ldR Try.underlying2 rfl rfl (S.rd (i := 1) rfl) hlk) ?_
          refine rw_v (op_b (b := true) rfl (decide_eq_true (by omega))) ?_
          first | refine rw_end ?_ | (refine rw_nil ?_; show CW _ _ _ _ _ _) | refine rw_nil ?_
          repeat refine cw_seq ?_
          refine cw_true rfl ?_
          repeat refine cw_seq ?_
          refine cw_region ?_
          iterate 2 refine rw_v (op_pure rfl) ?_
          refine rw_v (op_idx Try.underlying30 Try.sizeOf2 rfl rfl sa_L (by omega) (by omega)) ?_
          refine rw_r (op_ldR Try.underlying2 rfl rfl (S.rd (i := 1) rfl) hlk) ?_
          refine rw_v (op_rng rfl (by omega)) ?_
          rw [eidx]
          refine rw_v (op_pure rfl) ?_
          first | refine rw_end ?_ | (refine rw_nil ?_; show CW _ _ _ _ _ _) | refine rw_nil ?_
          repeat refine cw_seq ?_
          refine cw_region ?_
          iterate 4 refine rw_v (op_pure rfl) ?_
          refine rw_v (op_idx Try.underlying82 Try.sizeOf87 rfl rfl sa_P (by omega) (by omega)) ?_
          refine rw_v (op_fld Try.underlying87 rfl Try.sizeOf2 rfl rfl sa_P) ?_
          refine rw_r (op_ldR Try.underlying2 rfl rfl (S.rd (i := 0) rfl) hga) ?_
          refine rw_v (op_rng rfl (by omega)) ?_
          refine rw_v (op_idx Try.underlying82 Try.sizeOf87 rfl rfl sa_P (by omega) (by omega)) ?_
          refine rw_v (op_fld Try.underlying87 rfl Try.sizeOf2 rfl rfl sa_P) ?_
          refine rw_storeR (i := 0) S rfl (Try.sizeOf2 _) rfl rfl rfl rfl (show (ci : Int).toNat * 8 + 1 < (partsV Pk).length by rw [partsV_len]; omega) rfl ?_
          intro w13_ S
          have S := S.as_ (i := 0) (h' := .row 87 8 A_P (cntR V t r V.length) c_P (partsV (Pk.set ci pb))) rfl rfl (fun h => h.congr ep1) (fun g h => h)
          first | refine rw_end ?_ | (refine rw_nil ?_; show CW _ _ _ _ _ _) | refine rw_nil ?_
          repeat refine cw_seq ?_
          refine cw_draw (C := fun wq => Gr w13_ wq) [0, 1, 2, 3, 4, 5, 6, 7, 8, 9, 10, 11, 12, 13, 14, 15, 16, 17] [18, 19, 20] (by kernel_rfl) (by kernel_rfl) (Gr.drew _) ?_
          simp only [pickL, List.drop_succ_cons, List.drop_zero]
          iterate 4 refine rq_v (op_pure rfl) ?_
          refine rq_v (op_idx Try.underlying82 Try.sizeOf87 rfl rfl sa_P (by omega) (by omega)) ?_
          refine rq_v (op_fld Try.underlying87 rfl Try.sizeOf61 rfl rfl sa_P) ?_
          refine rq_r (fun wq hq => op_ldRA Try.underlying61 rfl (Try.sizeOf61 _) rfl ((S.gr hq).rd (i := 0) rfl) hbox rfl rfl) ?_
          refine rq_v (op_pure rfl) ?_
          refine rq_v (op_fieldAddr Try.underlying32 rfl Try.sizeOf2 rfl rfl) ?_
          refine rq_r (fun wq hq => op_loadB Try.underlying2 rfl rfl ((S.gr hq).blk (i := 2) rfl) rfl) ?_
          refine rq_v (op_rem rfl rfl (by omega) (by omega)) ?_
          rw [em]
          refine rq_v (op_pure rfl) ?_
          refine rq_v (op_fieldAddr Try.underlying32 rfl Try.sizeOf2 rfl rfl) ?_
          refine rq_r (fun wq hq => op_loadB Try.underlying2 rfl rfl ((S.gr hq).blk (i := 2) rfl) rfl) ?_
          refine rq_v (op_div rfl rfl (by omega) (by omega)) ?_
          rw [ed]
          refine rq_v (op_build (pl := [(0, 1), (1, 1)]) Try.underlying40 Try.zeroValue40 (fun w => by kernel_rfl) rfl rfl) ?_
          refine rq_call rfl (fun wq hq => (spot8_E (k % gw : Nat) (k / gw : Nat) wq).mono (fun _ _ ⟨hv, hg⟩ => ⟨hv, hq.trans hg⟩)) ?_
          refine rq_call rfl (fun wq hq => (hull7_E pa.box (spotR gw k) hbr hspot wq).mono (fun _ _ ⟨hv, hg⟩ => ⟨hv, hq.trans hg⟩)) ?_
          refine rq_nil ?_
          intro w14_ g14_
          have S := S.gr g14_
          refine rw_v (op_idx Try.underlying82 Try.sizeOf87 rfl rfl sa_P (by omega) (by omega)) ?_
          refine rw_v (op_fld Try.underlying87 rfl Try.sizeOf61 rfl rfl sa_P) ?_
          refine rw_storeRA (i := 0) S rfl (Try.sizeOf61 _) rfl rfl rfl rfl (show (ci : Int).toNat * 8 + 4 + 4 ≤ (partsV (Pk.set ci pb)).length by rw [hlenP]; omega) rfl rfl ?_
          intro w15_ S
          have S := S.as_ (i := 0) (h' := .row 87 8 A_P (cntR V t r V.length) c_P (partsV (Pk.set ci (partAt gw V t r (k + 1) (r k))))) rfl rfl (fun h => h.congr ep2) (fun g h => h)
          first | refine rw_end ?_ | (refine rw_nil ?_; show CW _ _ _ _ _ _) | refine rw_nil ?_
          repeat refine cw_seq ?_
          refine cw_region ?_
          refine rw_v (op_pure rfl) ?_
          refine rw_v (op_rng rfl (by omega)) ?_
          refine rw_v (op_pure rfl) ?_
          first | refine rw_end ?_ | (refine rw_nil ?_; show CW _ _ _ _ _ _) | refine rw_nil ?_
          exact ⟨m - 1, by omega, k + 1, by omega, ⟨rfl, rfl, rfl, ie (by omega), trivial⟩, hmore ▸ S⟩
        · have hlabk : labF V t r k = 0 := if_neg hlow
          rw [hlabk] at hlk
          have sa_L : SomeA A_L := (S.row (i := 1) rfl).someA (by omega)
          repeat refine cw_seq ?_
          refine cw_skip ?_
          try show CW _ _ _ _ _ _
          repeat refine cw_seq ?_
          refine cw_block ?_
          repeat refine cw_seq ?_
          refine cw_region ?_
          iterate 2 refine rw_v (op_pure rfl) ?_
          refine rw_v (op_idx Try.underlying30 Try.sizeOf2 rfl rfl sa_L (by omega) (by omega)) ?_
          refine rw_r (op_ldR Try.underlying2 rfl rfl (S.rd (i := 1) rfl) hlk) ?_
          refine rw_v (op_b (b := false) rfl (decide_eq_false (by omega))) ?_
          first | refine rw_end ?_ | (refine rw_nil ?_; show CW _ _ _ _ _ _) | refine rw_nil ?_
          repeat refine cw_seq ?_
          refine cw_false rfl ?_
          repeat refine cw_seq ?_
          refine cw_skip ?_
          try show CW _ _ _ _ _ _
          repeat refine cw_seq ?_
          refine cw_region ?_
          refine rw_v (op_pure rfl) ?_
          refine rw_v (op_rng rfl (by omega)) ?_
          refine rw_v (op_pure rfl) ?_
          first | refine rw_end ?_ | (refine rw_nil ?_; show CW _ _ _ _ _ _) | refine rw_nil ?_
          rw [← partsK_skip hlow] at S
          exact ⟨m - 1, by omega, k + 1, by omega, ⟨rfl, rfl, rfl, ie (by omega), trivial⟩, S⟩
      · try simp only [decide_eq_true_eq, decide_eq_false_iff_not, beq_iff_eq, bne_iff_ne, beq_eq_false_iff_ne, bne_eq_false_iff_eq, Bool.not_eq_true', Bool.not_eq_false', ne_eq, Decidable.not_not, Int.natCast_inj, Int.ofNat_lt, Int.ofNat_le, gt_iff_lt, ge_iff_le, Int.not_lt, Int.not_le] at hcl
        obtain rfl : k = V.length := by omega
        repeat refine cw_seq ?_
        refine cw_exit ?_
        repeat first | refine exit_then ?_ | refine exit_inb ?_
        show CW _ _ _ _ _ _
        repeat refine cw_seq ?_
        refine cw_region ?_
        iterate 4 refine rw_v (op_pure rfl) ?_
        first | refine rw_end ?_ | (refine rw_nil ?_; show CW _ _ _ _ _ _) | refine rw_nil ?_
        repeat refine cw_seq ?_
        refine cw_ret ?_
        repeat first | refine ret_then ?_ | refine ret_inb ?_
        exact res2 rfl rfl ⟨A_L, c_L, A_P, c_P, rfl, S.row (i := 1) rfl, S.row (i := 0) rfl, SepL.fresh S (i := 1) rfl, SepL.fresh S (i := 0) rfl, S.out⟩
end
theorem nePart_run (a b c d f g h i : Int) (w : World) : (binOp .neq 87 (.agg #[.int .i64 a, .int .i64 b, .int .i64 c, .int .i64 d, .int .i64 f, .int .i64 g, .int .i64 h, .int .i64 i]) (.agg #[.int .i64 a, .int .i64 b, .int .i64 c, .int .i64 d, .int .i64 f, .int .i64 g, .int .i64 h, .int .i64 i])).run Try.prog w = .ok (.bool false) w := by
  have u3 := Try.underlying2
  have a3 := Try.isAgg2
  have z3 := Try.sizeOf2
  have z4 := Try.sizeOf40
  have z5 := Try.sizeOf61
  have a4 := Try.isAgg40
  have a5 := Try.isAgg61
  have hS : Try.prog.underlying 87 = some (.struct (Try.prog.fieldsOf 87)) := by kernel_rfl
  have hp : Try.prog.stoodInHeld 87 = false := by kernel_rfl
  have hS1 : Try.prog.underlying 40 = some (.struct (Try.prog.fieldsOf 40)) := by kernel_rfl
  have hp1 : Try.prog.stoodInHeld 40 = false := by kernel_rfl
  have hS2 : Try.prog.underlying 61 = some (.struct (Try.prog.fieldsOf 61)) := by kernel_rfl
  have hp2 : Try.prog.stoodInHeld 61 = false := by kernel_rfl
  have hC : ∀ w, (Op.equalIn 9999 40 (.agg #[.int .i64 c, .int .i64 d]) (.agg #[.int .i64 c, .int .i64 d])).run Try.prog w = .ok true w := fun w => by
    rw [show (9999 : Nat) = 9998 + 1 from rfl, run_equalIn_agg w 9998 40 _ _ hS1 hp1]
    simp only [Program.fieldsOf, Try.underlying40]
    go_simp
  have hR : ∀ w, (Op.equalIn 9999 61 (.agg #[.int .i64 f, .int .i64 g, .int .i64 h, .int .i64 i]) (.agg #[.int .i64 f, .int .i64 g, .int .i64 h, .int .i64 i])).run Try.prog w = .ok true w := fun w => by
    rw [show (9999 : Nat) = 9998 + 1 from rfl, run_equalIn_agg w 9998 61 _ _ hS2 hp2]
    simp only [Program.fieldsOf, Try.underlying61]
    go_simp
  rw [run_neq_struct, show (10000 : Nat) = 9999 + 1 from rfl, run_equalIn_agg w 9999 87 _ _ hS hp]
  simp only [Program.fieldsOf, Try.underlying87]
  go_simp
section
variable {e : Nat → Value} {dd : Option Tmp} {ty : TypeId} {ps : String} {af : Array Edge} {t' : TypeId} {x y : Operand}
theorem op_nePart (a : PV) (hx : ev e x = .agg a.cells.toArray) (hy : ev e y = .agg a.cells.toArray) : OpV Try.prog e ⟨dd, .binOp .neq 87 x y t', ty, ps, af, none⟩ (.bool false) := by
  intro w
  unfold PV.cells at hx hy
  have h1 := fun w => nePart_run a.lab a.area a.x a.y a.box.x0 a.box.y0 a.box.x1 a.box.y1 w
  have hg : ∀ w, (eqGuard .neq 87 x y (.agg a.cells.toArray) (.agg a.cells.toArray)).run Try.prog w = .ok () w := fun w => guard_agg (by kernel_rfl)
  unfold PV.cells at hg
  simp [OpR, execOp, hx, hy, hg, h1]
end
section
variable {W : World}
end
end Go.Proofs.Ytiidmiebckkloaa
