/- hachureref46.Of: its contract. -/
import Derived.Test.YtiidmiebckkloaaPN
import Derived.Test.YtiidmiebckkloaaPO
import Derived.Test.YtiidmiebckkloaaPH
namespace Go.Proofs.Ytiidmiebckkloaa
open Go.RowKit
set_option linter.unusedVariables false
set_option linter.unusedSimpArgs false
set_option maxRecDepth 100000

theorem rows_apartP {w : World} {el el' k k' n n' c c' : Nat} {A A' : Option Addr} {xs ys : List Value} (h : Row w el k A n c xs) (h' : Row w el' k' A' n' c' ys) (hne : el ≠ el') : ∀ g, ownA A g → ¬ ownA A' g := fun g hg hg' => by
  rcases h.form with ⟨rfl, _⟩ | ⟨b, l, rfl, hB, _⟩
  · cases hg
  · rcases h'.form with ⟨rfl, _⟩ | ⟨b', l', rfl, hB', _⟩
    · cases hg'
    · have e1 : b = g := Option.some.inj hg
      have e2 : b' = g := Option.some.inj hg'
      subst e1
      subst e2
      unfold Blk at hB hB'
      rw [hB] at hB'
      injection hB' with hB'
      injection hB' with _ h2
      exact hne h2
section
variable {gw gh : Nat} {V : List Int} {q : Nat}
theorem lab_plat (hq : q < V.length) {i : Nat} (hi : i < V.length) : labF (lvl V (V.getD q 0)) 1 (rootC gw (lvl V (V.getD q 0)) 1) i = labF (lvl V (V.getD q 0)) 1 (rootC gw (lvl V (V.getD q 0)) 1) q ↔ pR gw V i = pR gw V q := by
  have hro := rootC_roots gw (lvl V (V.getD q 0)) 1
  have hq' : q < (lvl V (V.getD q 0)).length := by rwa [lvl_len]
  have hi' : i < (lvl V (V.getD q 0)).length := by rwa [lvl_len]
  have hvq : 1 ≤ (lvl V (V.getD q 0)).getD q 0 := (lvl_one hq).2 rfl
  by_cases hv : V.getD i 0 = V.getD q 0
  · rw [lab_eq hro hi' hq' ((lvl_one hi).2 hv) hvq]
    show _ ↔ rootC gw (lvl V (V.getD i 0)) 1 i = rootC gw (lvl V (V.getD q 0)) 1 q
    rw [hv]
  · have h1 : labF (lvl V (V.getD q 0)) 1 (rootC gw (lvl V (V.getD q 0)) 1) i = 0 := if_neg (fun h => hv ((lvl_one hi).1 h))
    have h2 : 0 < labF (lvl V (V.getD q 0)) 1 (rootC gw (lvl V (V.getD q 0)) 1) q := lab_pos.2 hvq
    constructor
    · intro e; omega
    · intro e
      have a := pR_val (gw := gw) hi
      have b := pR_val (gw := gw) hq
      rw [e] at a
      exact absurd (a.symm.trans b) hv
theorem lab_own (hq : q < V.length) : labF (lvl V (V.getD q 0)) 1 (rootC gw (lvl V (V.getD q 0)) 1) q = cntR (lvl V (V.getD q 0)) 1 (rootC gw (lvl V (V.getD q 0)) 1) (pR gw V q) + 1 := if_pos ((lvl_one hq).2 rfl)
theorem part_own (hq : q < V.length) : (partsAt gw (lvl V (V.getD q 0)) 1 (rootC gw (lvl V (V.getD q 0)) 1) V.length)[cntR (lvl V (V.getD q 0)) 1 (rootC gw (lvl V (V.getD q 0)) 1) (pR gw V q)]? = some (partAt gw (lvl V (V.getD q 0)) 1 (rootC gw (lvl V (V.getD q 0)) 1) V.length (pR gw V q)) := by
  have hro := rootC_roots gw (lvl V (V.getD q 0)) 1
  have hr := hro.isRoot (i := q) (by rwa [lvl_len]) ((lvl_one hq).2 rfl)
  have h3 := filter_range_get (pR_lt (gw := gw) hq) hr
  unfold partsAt
  rw [List.getElem?_map]
  have h3 : (rootsL (lvl V (V.getD q 0)) 1 (rootC gw (lvl V (V.getD q 0)) 1) V.length)[cntR (lvl V (V.getD q 0)) 1 (rootC gw (lvl V (V.getD q 0)) 1) (pR gw V q)]? = some (pR gw V q) := h3
  rw [h3]
  rfl
theorem memb_plat (hq : q < V.length) (hr : pR gw V q = q) : (members (lvl V (V.getD q 0)) 1 (rootC gw (lvl V (V.getD q 0)) 1) q V.length).length = (plat gw V q).length := by
  unfold members plat
  congr 1
  refine List.filter_congr fun i hi => ?_
  have hi := List.mem_range.1 hi
  unfold memB
  rw [Bool.eq_iff_iff, Bool.and_eq_true, decide_eq_true_iff, decide_eq_true_iff, decide_eq_true_iff, lvl_one hi]
  constructor
  · rintro ⟨h1, h2⟩
    show rootC gw (lvl V (V.getD i 0)) 1 i = q
    rw [h1]; exact h2
  · intro h
    have a := pR_val (gw := gw) hi
    rw [h] at a
    refine ⟨a.symm, ?_⟩
    have h : rootC gw (lvl V (V.getD i 0)) 1 i = q := h
    rwa [← a] at h
theorem key_low {b lo : Int} (hgw : 1 ≤ gw) (hV : V.length = gw * gh) (hq : q < V.length) (h : IsKey gw V q b) (hm : IsMin V lo) : lo ≤ b ∧ b ≤ V.getD q 0 := by
  have hle := h.1.le
  refine ⟨?_, hle⟩
  obtain ⟨j, hj, _, hv⟩ := h.1
  have c := fun i hi => grid_conn29 (gh := gh) (V := V) (u := lo) hgw hm.2 i hi
  have hlow : HiC gw V lo q := ⟨j, hj, (c q hq).trans (c j hj).symm, hv⟩
  rcases Int.lt_or_le b lo with h2 | h2
  · exact absurd hlow (h.2 lo h2)
  · exact h2
end
/-- two calls, one after the other: a new row, then two -/
def C3 (F : Nat → Prop) (W : World) (L : List HA) (T1 : Value → HA → Prop) (T2 : Value → HA → HA → Prop) (wq : World) : List Value → Prop
  | [] => St F W wq L
  | [v] => ∃ h, T1 v h ∧ St F W wq (h :: L)
  | [u, v] => ∃ h g k, T1 v h ∧ T2 u g k ∧ St F W wq (g :: k :: h :: L)
  | _ => False
theorem C3.st {F : Nat → Prop} {W : World} {L : List HA} {T1 : Value → HA → Prop} {T2 : Value → HA → HA → Prop} {wq : World} : ∀ {τ : List Value}, C3 F W L T1 T2 wq τ → St F W wq L
  | [], h => h
  | [v], ⟨_, _, S⟩ => S.drop 1
  | [u, v], ⟨_, _, _, _, _, S⟩ => S.drop 3
def T1L (gw gh : Nat) (V : List Int) (x : Int) : Value → HA → Prop := fun v h => ∃ A' c', v = .agg #[.int .i64 gw, .int .i64 gh, .slice A' V.length c'] ∧ h = .row 2 1 A' V.length c' (ints (lvl V x))
def T2L (gw : Nat) (V : List Int) (x : Int) (r : Nat → Nat) : Value → HA → HA → Prop := fun u g h => ∃ A1 c1 A2 c2, u = .tuple #[.slice A1 V.length c1, .slice A2 (cntR (lvl V x) 1 r V.length) c2] ∧ g = .row 2 1 A1 V.length c1 (cellsN V.length (labF (lvl V x) 1 r)) ∧ h = .row 87 8 A2 (cntR (lvl V x) 1 r V.length) c2 (partsV (partsAt gw (lvl V x) 1 r V.length))
section
variable {P : Program} {e : Nat → Value} {o : Oper} {F : Nat → Prop} {W wq w' : World} {L : List HA} {gw gh : Nat} {V : List Int} {x : Int} {r : Nat → Nat} {A' : Option Addr} {c' : Nat} {v : Value}
theorem c3_two {Q : Value → World → Prop} (hq : C3 F W L (T1L gw gh V x) (T2L gw V x r) wq [.agg #[.int .i64 gw, .int .i64 gh, .slice A' V.length c']]) (h : St F W wq (.row 2 1 A' V.length c' (ints (lvl V x)) :: L) → opTo P e o wq Q) : opTo P e o wq Q := by
  obtain ⟨h1, ⟨A2, c2, e2, eh⟩, S⟩ := hq
  cases e2
  subst eh
  exact h S
theorem c3_done (S : St F W wq (.row 2 1 A' V.length c' (ints (lvl V x)) :: L)) (h : RetOf29 gw (lvl V x) 1 r wq v w') : C3 F W L (T1L gw gh V x) (T2L gw V x r) w' [v, .agg #[.int .i64 gw, .int .i64 gh, .slice A' V.length c']] := by
  obtain ⟨A1, c1, A2, c2, hv, hR1, hR2, hf1, hf2, g⟩ := h
  rw [lvl_len] at hv hR1 hR2
  exact ⟨_, _, _, ⟨A', c', rfl, rfl⟩, ⟨A1, c1, A2, c2, hv, rfl, rfl⟩, S.push2 g (h1 := .row 2 1 A1 V.length c1 _) (h2 := .row 87 8 A2 (cntR (lvl V x) 1 r V.length) c2 _) hR1 hR2 hf1 hf2 (rows_apartP hR1 hR2 (by decide))⟩
end
section
variable {W : World} {A : Option Addr} {gw gh cap : Nat} {V : List Int}
set_option maxHeartbeats 16000000 in
theorem rpeaks_E (hw : 1 ≤ gw ∧ gw ≤ 1024) (hh : 1 ≤ gh ∧ gh ≤ 1024) (hV : V.length = gw * gh) (hbd : ∀ j, -2147483648 ≤ V.getD j 0 ∧ V.getD j 0 ≤ 2147483647) (hA : Rd W A (ints V)) :
    Fn Try.prog 13 [modV gw gh A V.length cap] W (RetNew id 46 5 (peaksL gw V).length ((peaksL gw V).flatMap (encPk gw)) W) := by
  have hm : gw * gh ≤ 1024 * 1024 := Nat.mul_le_mul hw.2 hh.2
  have hpos : 1 ≤ gw * gh := Nat.mul_le_mul hw.1 hh.1
  have hpe : peaksL gw V = (headsN gw V V.length).map (pkAt gw V (riseN gw V)) := rfl
  have hple : (peaksL gw V).length = (headsN gw V V.length).length := by rw [hpe, List.length_map]
  rw [hpe, hple] at *
  clear hpe hple
  have hne : V ≠ [] := fun e => by rw [e] at hV; simp at hV; omega
  have hrg := fun w h => range8_E (W := w) (A := A) V cap hne (by omega) h
  have hkey := fun q hq w h => key46_E (W := w) (A := A) (cap := cap) q hw hh hV hq h
  have hlev := fun x w h => level46_E (W := w) (A := A) (gw := gw) (gh := gh) (cap := cap) (V := V) x (by omega) h
  have hoh := fun x (A : Option Addr) (c : Nat) w (h : Rd w A (ints (lvl V x))) => of29_E (W := w) (A := A) (cap := c) (V := lvl V x) (gh := gh) 1 hw hh (by rw [lvl_len]; exact hV) (rootC_roots gw (lvl V x) 1) h
  have hnr := fun i hi w h => nearI_E (W := w) (A := A) (cap := cap) (V := V) (gw := gw) (gh := gh) i hw.1 hi hV (by omega) h
  have hget : ∀ i, i < V.length → (ints V)[(i : Int).toNat * 1]? = some (.int .i64 (V.getD i 0)) := fun i hi => by rw [Nat.mul_one, Int.toNat_natCast]; exact ints_get (getD_at hi)
  have sa_A : SomeA A := hA.someA (by rw [ints_len]; omega)
  have emul : (gw : Int) * gh = ((gw * gh : Nat) : Int) := by push_cast; rfl
  simp only [lvl_len] at hoh
  unfold modV at hkey hlev hoh hnr ⊢
  have S := St.start W
  refine Fn_enter Try.func13 rfl Try.results13 Try.ntmps13 (by kernel_rfl) (by kernel_rfl) ?_
  repeat refine cw_seq ?_
  refine cw_region ?_
  refine rw_newB (op_box rfl) S ?_
  intro b_md w2_ g2_ S
  refine rw_v (op_pure rfl) ?_
  first | refine rw_end ?_ | (refine rw_nil ?_; show CW _ _ _ _ _ _) | refine rw_nil ?_
  repeat refine cw_seq ?_
  refine cw_region ?_
  refine rw_buildS0 Try.underlying44 Try.sizeOf46 S ?_
  intro A_out w4_ g4_ S sa_out
  refine rw_v (op_pure rfl) ?_
  first | refine rw_end ?_ | (refine rw_nil ?_; show CW _ _ _ _ _ _) | refine rw_nil ?_
  repeat refine cw_seq ?_
  refine cw_region ?_
  refine rw_v (op_fieldAddr Try.underlying32 rfl Try.sizeOf30 rfl rfl) ?_
  refine rw_r (op_loadB Try.underlying30 rfl rfl (S.blk (i := 1) rfl) rfl) ?_
  refine rw_call rfl (hrg w4_ (hA.gr S.out)) ?_
  rintro _ w5_ ⟨lo, hi, rfl, hRg, g5_⟩
  have S := S.gr g5_
  refine rw_newB (op_alloc Try.zeroValue80 rfl) S ?_
  intro b_rg w7_ g7_ S
  refine rw_storeSA (i := 0) S rfl (Try.sizeOf80 _) rfl rfl rfl rfl rfl rfl ?_
  intro w8_ S
  first | refine rw_end ?_ | (refine rw_nil ?_; show CW _ _ _ _ _ _) | refine rw_nil ?_
  repeat refine cw_seq ?_
  refine cw_region ?_
  refine rw_v (op_pure rfl) ?_
  first | refine rw_end ?_ | (refine rw_nil ?_; show CW _ _ _ _ _ _) | refine rw_nil ?_
  repeat refine cw_seq ?_
  refine cw_block ?_
  repeat refine cw_seq ?_
  have hmin : IsMin V lo := by
    obtain ⟨h1, h2, _⟩ := hRg
    obtain ⟨i, hi, he⟩ := List.mem_iff_getElem.1 h2
    exact ⟨⟨i, hi, by rw [List.getD_eq_getElem?_getD, List.getElem?_eq_getElem hi]; exact he⟩, fun i hi => (h1 _ (by rw [List.getD_eq_getElem?_getD, List.getElem?_eq_getElem hi]; exact List.getElem_mem hi)).1⟩
  refine cw_loop (fun m e w => ∃ (k : Nat) (A2 : Option Addr) (c2 : Nat), k + m = V.length ∧ SL e [(1, .pointer (some ⟨b_md, 0, none⟩)), (3, .slice A2 (headsN gw V k).length c2), (4, .pointer (some ⟨b_rg, 0, none⟩)), (5, .int .i64 k)] ∧
    St No W w [.blk b_rg 80 [.int .i64 lo, .int .i64 hi], .row 46 5 A2 (headsN gw V k).length c2 (((headsN gw V k).map (pkAt gw V (riseN gw V))).flatMap (encPk gw)), .blk b_md 32 [.int .i64 gw, .int .i64 gh, .slice A V.length cap]]) V.length
    ⟨0, A_out, 0, by omega, ⟨rfl, rfl, rfl, rfl, trivial⟩, S⟩ ?_
  clear S sa_out
  rintro m e w ⟨k, A2, c2, hk, hsl, S⟩
  rw [hsl.fold]
  by_cases hkn : k < V.length
  · have em : (k : Int) % gw = ((k % gw : Nat) : Int) := by push_cast; rfl
    have ed : (k : Int) / gw = ((k / gw : Nat) : Int) := by push_cast; rfl
    have hgk := hget k hkn
    have hsucc := headsN_succ (gw := gw) (V := V) (k := k)
    have hown := lab_own (gw := gw) hkn
    have hpart := part_own (gw := gw) hkn
    have hlp := fun i hi => lab_plat (gw := gw) hkn (i := i) hi
    have hmp := memb_plat (gw := gw) hkn
    have hoh := hoh (V.getD k 0)
    generalize hr : rootC gw (lvl V (V.getD k 0)) 1 = r at *
    have hcl := cntR_le (lvl V (V.getD k 0)) 1 r (pR gw V k)
    have hcl2 : cntR (lvl V (V.getD k 0)) 1 r (pR gw V k) < cntR (lvl V (V.getD k 0)) 1 r V.length := by
      have := (List.getElem?_eq_some_iff.1 hpart).1
      unfold partsAt at this
      rw [List.length_map] at this
      exact this
    have hcn : cntR (lvl V (V.getD k 0)) 1 r V.length ≤ V.length := cntR_le _ _ _ _
    have hple := pR_le (gw := gw) hkn
    repeat refine cw_seq ?_
    refine cw_region ?_
    refine rw_v (op_pure rfl) ?_
    refine rw_v (op_fieldAddr Try.underlying32 rfl Try.sizeOf2 rfl rfl) ?_
    refine rw_r (op_loadB Try.underlying2 rfl rfl (S.blk (i := 2) rfl) rfl) ?_
    refine rw_v (op_fieldAddr Try.underlying32 rfl Try.sizeOf2 rfl rfl) ?_
    refine rw_r (op_loadB Try.underlying2 rfl rfl (S.blk (i := 2) rfl) rfl) ?_
    refine rw_v (op_rng rfl (by omega)) ?_
    rw [emul, ← hV]
    refine rw_v (op_b (b := true) rfl (decide_eq_true (by omega))) ?_
    first | refine rw_end ?_ | (refine rw_nil ?_; show CW _ _ _ _ _ _) | refine rw_nil ?_
    repeat refine cw_seq ?_
    refine cw_true rfl ?_
    repeat refine cw_seq ?_
    refine cw_skip ?_
    try show CW _ _ _ _ _ _
    repeat refine cw_seq ?_
    refine cw_block ?_
    repeat refine cw_seq ?_
    refine cw_tri (C := (CA No W [.blk b_rg 80 [.int .i64 lo, .int .i64 hi], .row 46 5 A2 (headsN gw V k).length c2 (((headsN gw V k).map (pkAt gw V (riseN gw V))).flatMap (encPk gw)), .blk b_md 32 [.int .i64 gw, .int .i64 gh, .slice A V.length cap]] 40 [.int .i64 0, .int .i64 0] [.int .i64 (k % gw : Nat), .int .i64 (k / gw : Nat)])) [9, 10] [0, 1, 2, 3, 4, 5, 6, 7, 8, 9, 10] [] (by kernel_rfl) (by kernel_rfl) (CA.start (S.gr (Gr.drew _))) ?_
    simp only [pickI, pickL, List.drop_succ_cons, List.drop_zero]
    refine rs_v rfl (op_pure rfl) ?_
    refine rs_v rfl (op_fieldAddr Try.underlying32 rfl Try.sizeOf2 rfl rfl) ?_
    refine rs_r rfl (fun τ wq hq => op_loadB Try.underlying2 rfl rfl ((CA.st hq).blk (i := 2) rfl) rfl) ?_
    refine rs_v rfl (op_rem rfl rfl (by omega) (by omega)) ?_
    rw [em]
    refine rs_v rfl (op_pure rfl) ?_
    refine rs_v rfl (op_fieldAddr Try.underlying32 rfl Try.sizeOf2 rfl rfl) ?_
    refine rs_r rfl (fun τ wq hq => op_loadB Try.underlying2 rfl rfl ((CA.st hq).blk (i := 2) rfl) rfl) ?_
    refine rs_v rfl (op_div rfl rfl (by omega) (by omega)) ?_
    rw [ed]
    refine rs_v rfl (op_build (pl := [(0, 1), (1, 1)]) Try.underlying40 Try.zeroValue40 (fun w => by kernel_rfl) rfl rfl) ?_
    refine rs_special rfl rfl (fun wq hq => to_allocCA hq Try.zeroValue40 rfl) ?_
    rintro v14 w14 ⟨b_ce, rfl, _⟩
    refine rs_special rfl rfl (fun wq hq => to_storeCA hq (Try.sizeOf40 _) rfl rfl rfl rfl rfl) ?_
    rintro v15 w15 _
    refine rs_nil ?_
    rintro wz hz
    first | refine rw_end ?_ | (refine rw_nil ?_; show CW _ _ _ _ _ _) | refine rw_nil ?_
    obtain ⟨b_ce2, e_ce2, S⟩ := hz.fin
    cases e_ce2
    repeat refine cw_seq ?_
    refine cw_tri (C := (fun σ wq => C3 No W [.blk b_ce 40 [.int .i64 (k % gw : Nat), .int .i64 (k / gw : Nat)], .blk b_rg 80 [.int .i64 lo, .int .i64 hi], .row 46 5 A2 (headsN gw V k).length c2 (((headsN gw V k).map (pkAt gw V (riseN gw V))).flatMap (encPk gw)), .blk b_md 32 [.int .i64 gw, .int .i64 gh, .slice A V.length cap]] (T1L gw gh V (V.getD k 0)) (T2L gw V (V.getD k 0) r) wq σ)) [6, 7] [0, 1, 2, 3, 4, 5, 6, 7, 8, 9, 10, 11] [12] (by kernel_rfl) (by kernel_rfl) (S.gr (Gr.drew _)) ?_
    simp only [pickI, pickL, List.drop_succ_cons, List.drop_zero]
    refine rs_r rfl (fun τ wq hq => op_loadAB Try.underlying32 rfl (Try.sizeOf32 _) rfl (hq.st.blk (i := 3) rfl) rfl rfl) ?_
    refine rs_v rfl (op_fieldAddr Try.underlying32 rfl Try.sizeOf30 rfl rfl) ?_
    refine rs_r rfl (fun τ wq hq => op_loadB Try.underlying30 rfl rfl (hq.st.blk (i := 3) rfl) rfl) ?_
    refine rs_v rfl (op_pure rfl) ?_
    refine rs_v rfl (op_idx Try.underlying30 Try.sizeOf2 rfl rfl sa_A (by omega) (by omega)) ?_
    refine rs_r rfl (fun τ wq hq => op_ldR Try.underlying2 rfl rfl (hA.gr hq.st.out) hgk) ?_
    refine rs_special rfl rfl (fun wq hq => to_call rfl ((hlev (V.getD k 0) wq (hA.gr (C3.st hq).out)).mono (fun v w' ⟨A', c', hv, hR, hF, g⟩ => ⟨_, ⟨A', c', hv, rfl⟩, (C3.st hq).pushRow hR hF g⟩))) ?_
    rintro v6 w6 ⟨_, ⟨A_lv, c_lv, rfl, _⟩, _⟩
    refine rs_special rfl rfl (fun wq hq => c3_two hq (fun S => to_call rfl ((hoh A_lv c_lv wq (S.rd (i := 0) rfl)).mono (fun v w' h => c3_done S h)))) ?_
    rintro v7 w7 ⟨_, _, _, _, ⟨A_lb, c_lb, A_pt, c_pt, rfl, _, _⟩, _⟩
    refine rs_v rfl (op_pure rfl) ?_
    refine rs_v rfl (op_pure rfl) ?_
    refine rs_v rfl (op_pure rfl) ?_
    refine rs_v rfl (op_pure rfl) ?_
    refine rs_nil ?_
    rintro w8 ⟨_, _, _, ⟨A_lv0, c_lv0, e_lv, rfl⟩, ⟨A_lb0, c_lb0, A_pt0, c_pt0, e_lb, rfl, rfl⟩, S⟩
    cases e_lv
    cases e_lb
    refine rw_v (op_pure rfl) ?_
    first | refine rw_end ?_ | (refine rw_nil ?_; show CW _ _ _ _ _ _) | refine rw_nil ?_
    have S := S.sub (.cons_cons _ (.cons_cons _ (.cons _ (.cons_cons _ (.cons_cons _ (.cons_cons _ (.cons_cons _ (.slnil))))))))
    have sa_lb : SomeA A_lb := (S.row (i := 0) rfl).someA (by omega)
    have sa_pt : SomeA A_pt := (S.row (i := 1) rfl).someA (by omega)
    have hmp' := hmp
    generalize cntR (lvl V (V.getD k 0)) 1 r (pR gw V k) = c1 at *
    generalize cntR (lvl V (V.getD k 0)) 1 r V.length = PTn at *
    have p1 : (partsV (partsAt gw (lvl V (V.getD k 0)) 1 r V.length))[(c1 : Int).toNat * 8 + 1]? = some (.int .i64 ((members (lvl V (V.getD k 0)) 1 r (pR gw V k) V.length).length : Nat)) := by rw [Int.toNat_natCast, partsV_get hpart (by omega)]; rfl
    have p2 : ((partsV (partsAt gw (lvl V (V.getD k 0)) 1 r V.length)).drop ((c1 : Int).toNat * 8 + 2)).take 2 = [.int .i64 (pR gw V k % gw : Nat), .int .i64 (pR gw V k / gw : Nat)] := by
      apply List.ext_getElem?
      intro x
      rw [List.getElem?_take, List.getElem?_drop, Nat.add_assoc, Int.toNat_natCast]
      match x with
      | 0 => rw [if_pos (by omega), partsV_get hpart (by omega)]; rfl
      | 1 => rw [if_pos (by omega), partsV_get hpart (by omega)]; rfl
      | x + 2 => rw [if_neg (by omega)]; rfl
    generalize partsAt gw (lvl V (V.getD k 0)) 1 r V.length = PT at *
    have hml : ∀ q, (members (lvl V (V.getD k 0)) 1 r q V.length).length ≤ V.length := fun q => by
      unfold members
      have := List.length_filter_le (memB (lvl V (V.getD k 0)) 1 r q) (List.range V.length)
      rwa [List.length_range] at this
    generalize hLF : labF (lvl V (V.getD k 0)) 1 r = LF at *
    have hgl : ∀ i, i < V.length → (cellsN V.length LF)[(i : Int).toNat * 1]? = some (.int .i64 (LF i : Nat)) := fun i hi => by rw [Nat.mul_one, Int.toNat_natCast]; exact cellsN_get hi
    have hglk := hgl k hkn
    rw [hown] at hglk
    have ec1 : ((c1 + 1 : Nat) : Int) - 1 = (c1 : Nat) := by omega
    by_cases hpk : pR gw V k = k
    · rw [hpk] at p1 p2
      simp only [hown, hpk] at hlp
      have hmp2 := hmp' hpk
      rw [hmp2] at p1
      have hpl : (plat gw V k).length ≤ V.length := by rw [← hmp2]; exact hml k
      have hdk : hdB gw V k = topB gw V k := by unfold hdB; rw [decide_eq_true hpk]; rfl
      rw [hdk] at hsucc
      repeat refine cw_seq ?_
      refine cw_region ?_
      iterate 2 refine rw_v (op_pure rfl) ?_
      refine rw_v (op_idx Try.underlying30 Try.sizeOf2 rfl rfl sa_lb (by omega) (by omega)) ?_
      refine rw_r (op_ldR Try.underlying2 rfl rfl (S.rd (i := 0) rfl) hglk) ?_
      refine rw_v (op_pure rfl) ?_
      first | refine rw_end ?_ | (refine rw_nil ?_; show CW _ _ _ _ _ _) | refine rw_nil ?_
      repeat refine cw_seq ?_
      refine cw_draw (C := fun wq => Gr w8 wq) [0, 1, 2, 3, 4, 5, 6, 7] [] (by kernel_rfl) (by kernel_rfl) (Gr.drew _) ?_
      simp only [pickL, List.drop_succ_cons, List.drop_zero]
      iterate 2 refine rq_v (op_pure rfl) ?_
      refine rq_v (op_rng rfl (by omega)) ?_
      rw [ec1]
      refine rq_v (op_idx Try.underlying82 Try.sizeOf87 rfl rfl sa_pt (by omega) (by omega)) ?_
      refine rq_v (op_fld Try.underlying87 rfl Try.sizeOf40 rfl rfl sa_pt) ?_
      refine rq_r (fun wq hq => op_ldRA Try.underlying40 rfl (Try.sizeOf40 _) rfl ((S.gr hq).rd (i := 1) rfl) p2 rfl rfl) ?_
      refine rq_r (fun wq hq => op_loadAB Try.underlying40 rfl (Try.sizeOf40 _) rfl ((S.gr hq).blk (i := 2) rfl) rfl rfl) ?_
      refine rq_v (op_neCell (r := false) rfl rfl (by simp)) ?_
      refine rq_nil ?_
      intro w11_ g11_
      have S := S.gr g11_
      first | refine rw_end ?_ | (refine rw_nil ?_; show CW _ _ _ _ _ _) | refine rw_nil ?_
      repeat refine cw_seq ?_
      refine cw_false rfl ?_
      repeat refine cw_seq ?_
      refine cw_skip ?_
      try show CW _ _ _ _ _ _
      repeat refine cw_seq ?_
      refine cw_region ?_
      refine rw_v (op_pure rfl) ?_
      first | refine rw_end ?_ | (refine rw_nil ?_; show CW _ _ _ _ _ _) | refine rw_nil ?_
      repeat refine cw_seq ?_
      refine cw_region ?_
      refine rw_v (op_pure rfl) ?_
      first | refine rw_end ?_ | (refine rw_nil ?_; show CW _ _ _ _ _ _) | refine rw_nil ?_
      repeat refine cw_seq ?_
      refine cw_block ?_
      repeat refine cw_seq ?_
      refine cw_loop (fun m2 e w => ∃ (i : Nat) (tp : Bool), i + m2 = V.length ∧ (tp = true ↔ ∀ i', i' < i → pR gw V i' = k → ∀ j, j ∈ nearN gw V.length i' → V.getD j 0 ≤ V.getD k 0) ∧ SL e [(1, .pointer (some ⟨b_md, 0, none⟩)), (3, .slice A2 (headsN gw V k).length c2), (4, .pointer (some ⟨b_rg, 0, none⟩)), (5, .int .i64 k), (6, .pointer (some ⟨b_ce, 0, none⟩)), (7, .slice A_lb V.length c_lb), (8, .slice A_pt PTn c_pt), (9, .int .i64 (c1 + 1 : Nat)), (10, .bool tp), (11, .int .i64 i)] ∧
        St No W w [.row 2 1 A_lb V.length c_lb (cellsN V.length LF), .row 87 8 A_pt PTn c_pt (partsV PT), .blk b_ce 40 [.int .i64 (k % gw : Nat), .int .i64 (k / gw : Nat)], .blk b_rg 80 [.int .i64 lo, .int .i64 hi], .row 46 5 A2 (headsN gw V k).length c2 (((headsN gw V k).map (pkAt gw V (riseN gw V))).flatMap (encPk gw)), .blk b_md 32 [.int .i64 gw, .int .i64 gh, .slice A V.length cap]]) V.length
        ⟨0, true, by omega, ⟨fun _ i' h => by omega, fun _ => rfl⟩, ⟨rfl, rfl, rfl, rfl, rfl, rfl, rfl, rfl, rfl, rfl, trivial⟩, S⟩ ?_
      clear S
      rintro m2 e2 w2 ⟨i, tp, hi2, htp, hsl2, S⟩
      rw [hsl2.fold]
      by_cases hin : i < V.length
      · have hgli := hgl i hin
        have hlpi := hlp i hin
        by_cases hpi : pR gw V i = k
        · have hli := hlpi.2 hpi
          have emi : (i : Int) % gw = ((i % gw : Nat) : Int) := by push_cast; rfl
          have edi : (i : Int) / gw = ((i / gw : Nat) : Int) := by push_cast; rfl
          have hnri := hnr i (by omega)
          have hnn := nearN_len gw V.length i
          have hmemN : ∀ y, y ∈ nearN gw V.length i → y < V.length := fun y hy => by rw [hV] at hy ⊢; exact ((nearN_mem hw.1 (by omega)).1 hy).1
          have hsplit : ∀ b : Bool, (b = true ↔ (∀ i', i' < i → pR gw V i' = k → ∀ j, j ∈ nearN gw V.length i' → V.getD j 0 ≤ V.getD k 0) ∧ ∀ j, j ∈ nearN gw V.length i → V.getD j 0 ≤ V.getD k 0) → (b = true ↔ ∀ i', i' < i + 1 → pR gw V i' = k → ∀ j, j ∈ nearN gw V.length i' → V.getD j 0 ≤ V.getD k 0) := fun b h => by
            rw [h]
            constructor
            · rintro ⟨h1, h2⟩ i' hi' hp j hj
              by_cases e : i' = i
              · subst e; exact h2 j hj
              · exact h1 i' (by omega) hp j hj
            · intro h1
              exact ⟨fun i' hi' => h1 i' (by omega), h1 i (by omega) hpi⟩
          generalize nearN gw V.length i = Nr at *
          repeat refine cw_seq ?_
          refine cw_region ?_
          refine rw_v (op_pure rfl) ?_
          refine rw_v (op_fieldAddr Try.underlying32 rfl Try.sizeOf2 rfl rfl) ?_
          refine rw_r (op_loadB Try.underlying2 rfl rfl (S.blk (i := 5) rfl) rfl) ?_
          refine rw_v (op_fieldAddr Try.underlying32 rfl Try.sizeOf2 rfl rfl) ?_
          refine rw_r (op_loadB Try.underlying2 rfl rfl (S.blk (i := 5) rfl) rfl) ?_
          refine rw_v (op_rng rfl (by omega)) ?_
          rw [emul, ← hV]
          refine rw_v (op_b (b := true) rfl (decide_eq_true (by omega))) ?_
          first | refine rw_end ?_ | (refine rw_nil ?_; show CW _ _ _ _ _ _) | refine rw_nil ?_
          repeat refine cw_seq ?_
          refine cw_true rfl ?_
          repeat refine cw_seq ?_
          refine cw_skip ?_
          try show CW _ _ _ _ _ _
          repeat refine cw_seq ?_
          refine cw_block ?_
          repeat refine cw_seq ?_
          refine cw_region ?_
          iterate 2 refine rw_v (op_pure rfl) ?_
          refine rw_v (op_idx Try.underlying30 Try.sizeOf2 rfl rfl sa_lb (by omega) (by omega)) ?_
          refine rw_r (op_ldR Try.underlying2 rfl rfl (S.rd (i := 0) rfl) hgli) ?_
          refine rw_v (op_pure rfl) ?_
          refine rw_v (op_b (b := false) rfl (bne_eq_false_iff_eq.2 (by omega))) ?_
          first | refine rw_end ?_ | (refine rw_nil ?_; show CW _ _ _ _ _ _) | refine rw_nil ?_
          repeat refine cw_seq ?_
          refine cw_false rfl ?_
          repeat refine cw_seq ?_
          refine cw_skip ?_
          try show CW _ _ _ _ _ _
          repeat refine cw_seq ?_
          refine cw_draw (C := fun wq => Gr w2 wq) [0, 1, 2, 3, 4, 5, 6, 7, 8, 9] [10, 11] (by kernel_rfl) (by kernel_rfl) (Gr.drew _) ?_
          simp only [pickL, List.drop_succ_cons, List.drop_zero]
          refine rq_r (fun wq hq => op_loadAB Try.underlying32 rfl (Try.sizeOf32 _) rfl ((S.gr hq).blk (i := 5) rfl) rfl rfl) ?_
          refine rq_v (op_pure rfl) ?_
          refine rq_v (op_fieldAddr Try.underlying32 rfl Try.sizeOf2 rfl rfl) ?_
          refine rq_r (fun wq hq => op_loadB Try.underlying2 rfl rfl ((S.gr hq).blk (i := 5) rfl) rfl) ?_
          refine rq_v (op_rem rfl rfl (by omega) (by omega)) ?_
          rw [emi]
          refine rq_v (op_pure rfl) ?_
          refine rq_v (op_fieldAddr Try.underlying32 rfl Try.sizeOf2 rfl rfl) ?_
          refine rq_r (fun wq hq => op_loadB Try.underlying2 rfl rfl ((S.gr hq).blk (i := 5) rfl) rfl) ?_
          refine rq_v (op_div rfl rfl (by omega) (by omega)) ?_
          rw [edi]
          refine rq_v (op_build (pl := [(0, 1), (1, 1)]) Try.underlying40 Try.zeroValue40 (fun w => by kernel_rfl) rfl rfl) ?_
          refine rq_nil ?_
          intro w12_ g12_
          have S := S.gr g12_
          refine rw_call rfl (hnri w12_ (hA.gr S.out)) ?_
          rintro _ w13_ ⟨A_nr, c_nr, rfl, hR_nr, hf_nr, g13_⟩
          have S := S.pushRow hR_nr hf_nr g13_
          refine rw_v (op_pure rfl) ?_
          first | refine rw_end ?_ | (refine rw_nil ?_; show CW _ _ _ _ _ _) | refine rw_nil ?_
          repeat refine cw_seq ?_
          refine cw_region ?_
          refine rw_v (op_pure rfl) ?_
          first | refine rw_end ?_ | (refine rw_nil ?_; show CW _ _ _ _ _ _) | refine rw_nil ?_
          repeat refine cw_seq ?_
          refine cw_block ?_
          repeat refine cw_seq ?_
          have sa_nr : 0 < Nr.length → SomeA A_nr := fun h => (S.row (i := 0) rfl).someA (by omega)
          refine cw_loop (fun m3 e w => ∃ (j : Nat) (tp : Bool), j + m3 = Nr.length ∧ (tp = true ↔ (∀ i', i' < i → pR gw V i' = k → ∀ j, j ∈ nearN gw V.length i' → V.getD j 0 ≤ V.getD k 0) ∧ ∀ y, y ∈ Nr.take j → V.getD y 0 ≤ V.getD k 0) ∧ SL e [(1, .pointer (some ⟨b_md, 0, none⟩)), (3, .slice A2 (headsN gw V k).length c2), (4, .pointer (some ⟨b_rg, 0, none⟩)), (5, .int .i64 k), (6, .pointer (some ⟨b_ce, 0, none⟩)), (7, .slice A_lb V.length c_lb), (8, .slice A_pt PTn c_pt), (9, .int .i64 (c1 + 1 : Nat)), (10, .bool tp), (11, .int .i64 i), (12, .slice A_nr Nr.length c_nr), (13, .int .i64 j)] ∧
            St No W w [.row 40 2 A_nr Nr.length c_nr (cellsZ (Nr.map (cz gw))), .row 2 1 A_lb V.length c_lb (cellsN V.length LF), .row 87 8 A_pt PTn c_pt (partsV PT), .blk b_ce 40 [.int .i64 (k % gw : Nat), .int .i64 (k / gw : Nat)], .blk b_rg 80 [.int .i64 lo, .int .i64 hi], .row 46 5 A2 (headsN gw V k).length c2 (((headsN gw V k).map (pkAt gw V (riseN gw V))).flatMap (encPk gw)), .blk b_md 32 [.int .i64 gw, .int .i64 gh, .slice A V.length cap]]) Nr.length
            ⟨0, tp, by omega, by rw [htp]; simp, ⟨rfl, rfl, rfl, rfl, rfl, rfl, rfl, rfl, rfl, rfl, rfl, rfl, trivial⟩, S⟩ ?_
          clear S htp
          rintro m3 e3 w3 ⟨j, tp, hj2, htp, hsl3, S⟩
          rw [hsl3.fold]
          by_cases hjn : j < Nr.length
          · have sa_nr := sa_nr (by omega)
            obtain ⟨y, hy⟩ : ∃ y, Nr[j]? = some y := ⟨_, List.getElem?_eq_getElem hjn⟩
            have hyl := hmemN y (List.mem_of_getElem? hy)
            have hgy := hget y hyl
            have hcy : ∀ x, x < 2 → (cellsZ (Nr.map (cz gw)))[(j : Int).toNat * 2 + x]? = ([.int .i64 (y % gw : Nat), .int .i64 (y / gw : Nat)] : List Value)[x]? := fun x hx => by
              rw [Int.toNat_natCast]
              exact pflat_get (enc := fun c : Int × Int => [.int .i64 c.1, .int .i64 c.2]) (k := 2) (fun _ => rfl) (Nr.map (cz gw)) j x (cz gw y) (by rw [List.getElem?_map, hy]; rfl) hx
            have gX : (cellsZ (Nr.map (cz gw)))[(j : Int).toNat * 2 + 0]? = some (.int .i64 (y % gw : Nat)) := hcy 0 (by omega)
            have gY : (cellsZ (Nr.map (cz gw)))[(j : Int).toNat * 2 + 1]? = some (.int .i64 (y / gw : Nat)) := hcy 1 (by omega)
            have hidx : ((y / gw : Nat) : Int) * gw + ((y % gw : Nat) : Int) = (y : Int) := by
              have := Nat.div_add_mod y gw
              rw [Nat.mul_comm] at this
              rw [← Int.natCast_mul, ← Int.natCast_add, this]
            have hprod : 0 ≤ ((y / gw : Nat) : Int) * gw ∧ ((y / gw : Nat) : Int) * gw ≤ 1048576 := by
              have h0 : 0 ≤ ((y % gw : Nat) : Int) := Int.natCast_nonneg _
              have h1 : (0 : Int) ≤ ((y / gw : Nat) : Int) * gw := Int.mul_nonneg (Int.natCast_nonneg _) (Int.natCast_nonneg _)
              generalize ((y / gw : Nat) : Int) * gw = P at *
              generalize ((y % gw : Nat) : Int) = Q at *
              omega
            have htk : Nr.take (j + 1) = Nr.take j ++ [y] := by rw [List.take_add_one, hy]; rfl
            generalize y / gw = Y at *
            generalize y % gw = X at *
            by_cases hv : V.getD y 0 > V.getD k 0
            · skip
              repeat refine cw_seq ?_
              refine cw_region ?_
              iterate 2 refine rw_v (op_pure rfl) ?_
              refine rw_v (op_len Try.underlying52 rfl) ?_
              refine rw_v (op_b (b := true) rfl (decide_eq_true (by omega))) ?_
              first | refine rw_end ?_ | (refine rw_nil ?_; show CW _ _ _ _ _ _) | refine rw_nil ?_
              repeat refine cw_seq ?_
              refine cw_true rfl ?_
              repeat refine cw_seq ?_
              refine cw_skip ?_
              try show CW _ _ _ _ _ _
              repeat refine cw_seq ?_
              refine cw_block ?_
              repeat refine cw_seq ?_
              refine cw_draw (C := fun wq => Gr w3 wq) [0, 1, 2, 3, 4, 5, 6, 7, 8, 9, 10, 11, 12, 13, 14, 15, 16, 17, 18, 19, 20, 21, 22, 23] [] (by kernel_rfl) (by kernel_rfl) (Gr.drew _) ?_
              simp only [pickL, List.drop_succ_cons, List.drop_zero]
              refine rq_v (op_fieldAddr Try.underlying32 rfl Try.sizeOf30 rfl rfl) ?_
              refine rq_r (fun wq hq => op_loadB Try.underlying30 rfl rfl ((S.gr hq).blk (i := 6) rfl) rfl) ?_
              iterate 2 refine rq_v (op_pure rfl) ?_
              refine rq_v (op_idx Try.underlying52 Try.sizeOf40 rfl rfl sa_nr (by omega) (by omega)) ?_
              refine rq_v (op_fld Try.underlying40 rfl Try.sizeOf2 rfl rfl sa_nr) ?_
              refine rq_r (fun wq hq => op_ldR Try.underlying2 rfl rfl ((S.gr hq).rd (i := 0) rfl) gY) ?_
              refine rq_v (op_fieldAddr Try.underlying32 rfl Try.sizeOf2 rfl rfl) ?_
              refine rq_r (fun wq hq => op_loadB Try.underlying2 rfl rfl ((S.gr hq).blk (i := 6) rfl) rfl) ?_
              refine rq_v (op_rng rfl (by generalize (Y : Int) * gw = P at *; omega)) ?_
              iterate 2 refine rq_v (op_pure rfl) ?_
              refine rq_v (op_idx Try.underlying52 Try.sizeOf40 rfl rfl sa_nr (by omega) (by omega)) ?_
              refine rq_v (op_fld Try.underlying40 rfl Try.sizeOf2 rfl rfl sa_nr) ?_
              refine rq_r (fun wq hq => op_ldR Try.underlying2 rfl rfl ((S.gr hq).rd (i := 0) rfl) gX) ?_
              refine rq_v (op_rng rfl (by rw [hidx]; omega)) ?_
              rw [hidx]
              refine rq_v (op_idx Try.underlying30 Try.sizeOf2 rfl rfl sa_A (by omega) (by omega)) ?_
              refine rq_r (fun wq hq => op_ldR Try.underlying2 rfl rfl (hA.gr (S.gr hq).out) hgy) ?_
              refine rq_v (op_fieldAddr Try.underlying32 rfl Try.sizeOf30 rfl rfl) ?_
              refine rq_r (fun wq hq => op_loadB Try.underlying30 rfl rfl ((S.gr hq).blk (i := 6) rfl) rfl) ?_
              refine rq_v (op_pure rfl) ?_
              refine rq_v (op_idx Try.underlying30 Try.sizeOf2 rfl rfl sa_A (by omega) (by omega)) ?_
              refine rq_r (fun wq hq => op_ldR Try.underlying2 rfl rfl (hA.gr (S.gr hq).out) hgk) ?_
              refine rq_v (op_b (b := true) rfl (decide_eq_true (by omega))) ?_
              refine rq_nil ?_
              intro w14_ g14_
              have S := S.gr g14_
              first | refine rw_end ?_ | (refine rw_nil ?_; show CW _ _ _ _ _ _) | refine rw_nil ?_
              repeat refine cw_seq ?_
              refine cw_true rfl ?_
              repeat refine cw_seq ?_
              refine cw_region ?_
              refine rw_v (op_pure rfl) ?_
              first | refine rw_end ?_ | (refine rw_nil ?_; show CW _ _ _ _ _ _) | refine rw_nil ?_
              repeat refine cw_seq ?_
              refine cw_region ?_
              refine rw_v (op_pure rfl) ?_
              refine rw_v (op_rng rfl (by omega)) ?_
              refine rw_v (op_pure rfl) ?_
              first | refine rw_end ?_ | (refine rw_nil ?_; show CW _ _ _ _ _ _) | refine rw_nil ?_
              exact ⟨m3 - 1, by omega, j + 1, false, by omega, ⟨fun h => (by cases h), fun h => by
                have := h.2 y (by rw [htk]; simp)
                omega⟩, ⟨rfl, rfl, rfl, rfl, rfl, rfl, rfl, rfl, rfl, rfl, rfl, ie (by omega), trivial⟩, S⟩
            · skip
              repeat refine cw_seq ?_
              refine cw_region ?_
              iterate 2 refine rw_v (op_pure rfl) ?_
              refine rw_v (op_len Try.underlying52 rfl) ?_
              refine rw_v (op_b (b := true) rfl (decide_eq_true (by omega))) ?_
              first | refine rw_end ?_ | (refine rw_nil ?_; show CW _ _ _ _ _ _) | refine rw_nil ?_
              repeat refine cw_seq ?_
              refine cw_true rfl ?_
              repeat refine cw_seq ?_
              refine cw_skip ?_
              try show CW _ _ _ _ _ _
              repeat refine cw_seq ?_
              refine cw_block ?_
              repeat refine cw_seq ?_
              refine cw_draw (C := fun wq => Gr w3 wq) [0, 1, 2, 3, 4, 5, 6, 7, 8, 9, 10, 11, 12, 13, 14, 15, 16, 17, 18, 19, 20, 21, 22, 23] [] (by kernel_rfl) (by kernel_rfl) (Gr.drew _) ?_
              simp only [pickL, List.drop_succ_cons, List.drop_zero]
              refine rq_v (op_fieldAddr Try.underlying32 rfl Try.sizeOf30 rfl rfl) ?_
              refine rq_r (fun wq hq => op_loadB Try.underlying30 rfl rfl ((S.gr hq).blk (i := 6) rfl) rfl) ?_
              iterate 2 refine rq_v (op_pure rfl) ?_
              refine rq_v (op_idx Try.underlying52 Try.sizeOf40 rfl rfl sa_nr (by omega) (by omega)) ?_
              refine rq_v (op_fld Try.underlying40 rfl Try.sizeOf2 rfl rfl sa_nr) ?_
              refine rq_r (fun wq hq => op_ldR Try.underlying2 rfl rfl ((S.gr hq).rd (i := 0) rfl) gY) ?_
              refine rq_v (op_fieldAddr Try.underlying32 rfl Try.sizeOf2 rfl rfl) ?_
              refine rq_r (fun wq hq => op_loadB Try.underlying2 rfl rfl ((S.gr hq).blk (i := 6) rfl) rfl) ?_
              refine rq_v (op_rng rfl (by generalize (Y : Int) * gw = P at *; omega)) ?_
              iterate 2 refine rq_v (op_pure rfl) ?_
              refine rq_v (op_idx Try.underlying52 Try.sizeOf40 rfl rfl sa_nr (by omega) (by omega)) ?_
              refine rq_v (op_fld Try.underlying40 rfl Try.sizeOf2 rfl rfl sa_nr) ?_
              refine rq_r (fun wq hq => op_ldR Try.underlying2 rfl rfl ((S.gr hq).rd (i := 0) rfl) gX) ?_
              refine rq_v (op_rng rfl (by rw [hidx]; omega)) ?_
              rw [hidx]
              refine rq_v (op_idx Try.underlying30 Try.sizeOf2 rfl rfl sa_A (by omega) (by omega)) ?_
              refine rq_r (fun wq hq => op_ldR Try.underlying2 rfl rfl (hA.gr (S.gr hq).out) hgy) ?_
              refine rq_v (op_fieldAddr Try.underlying32 rfl Try.sizeOf30 rfl rfl) ?_
              refine rq_r (fun wq hq => op_loadB Try.underlying30 rfl rfl ((S.gr hq).blk (i := 6) rfl) rfl) ?_
              refine rq_v (op_pure rfl) ?_
              refine rq_v (op_idx Try.underlying30 Try.sizeOf2 rfl rfl sa_A (by omega) (by omega)) ?_
              refine rq_r (fun wq hq => op_ldR Try.underlying2 rfl rfl (hA.gr (S.gr hq).out) hgk) ?_
              refine rq_v (op_b (b := false) rfl (decide_eq_false (by omega))) ?_
              refine rq_nil ?_
              intro w15_ g15_
              have S := S.gr g15_
              first | refine rw_end ?_ | (refine rw_nil ?_; show CW _ _ _ _ _ _) | refine rw_nil ?_
              repeat refine cw_seq ?_
              refine cw_false rfl ?_
              repeat refine cw_seq ?_
              refine cw_skip ?_
              try show CW _ _ _ _ _ _
              repeat refine cw_seq ?_
              refine cw_region ?_
              refine rw_v (op_pure rfl) ?_
              refine rw_v (op_rng rfl (by omega)) ?_
              refine rw_v (op_pure rfl) ?_
              first | refine rw_end ?_ | (refine rw_nil ?_; show CW _ _ _ _ _ _) | refine rw_nil ?_
              exact ⟨m3 - 1, by omega, j + 1, tp, by omega, by
                rw [htp, htk]
                exact ⟨fun h => ⟨h.1, fun z hz => by
                  rcases List.mem_append.1 hz with hz | hz
                  · exact h.2 z hz
                  · rw [List.mem_singleton.1 hz]; omega⟩, fun h => ⟨h.1, fun z hz => h.2 z (List.mem_append_left _ hz)⟩⟩, ⟨rfl, rfl, rfl, rfl, rfl, rfl, rfl, rfl, rfl, rfl, rfl, ie (by omega), trivial⟩, S⟩
          · obtain rfl : j = Nr.length := by omega
            rw [List.take_length] at htp
            have hn := hsplit tp htp
            have S := S.drop 1
            repeat refine cw_seq ?_
            refine cw_region ?_
            iterate 2 refine rw_v (op_pure rfl) ?_
            refine rw_v (op_len Try.underlying52 rfl) ?_
            refine rw_v (op_b (b := false) rfl (decide_eq_false (by omega))) ?_
            first | refine rw_end ?_ | (refine rw_nil ?_; show CW _ _ _ _ _ _) | refine rw_nil ?_
            repeat refine cw_seq ?_
            refine cw_false rfl ?_
            repeat refine cw_seq ?_
            refine cw_exit ?_
            repeat first | refine exit_then ?_ | refine exit_inb ?_
            show CW _ _ _ _ _ _
            repeat refine cw_seq ?_
            refine cw_region ?_
            refine rw_v (op_pure rfl) ?_
            refine rw_v (op_rng rfl (by omega)) ?_
            refine rw_v (op_pure rfl) ?_
            first | refine rw_end ?_ | (refine rw_nil ?_; show CW _ _ _ _ _ _) | refine rw_nil ?_
            exact ⟨m2 - 1, by omega, i + 1, tp, by omega, hn, ⟨rfl, rfl, rfl, rfl, rfl, rfl, rfl, rfl, rfl, ie (by omega), trivial⟩, S⟩
        · have hli : ¬ LF i = c1 + 1 := fun h => hpi (hlpi.1 h)
          repeat refine cw_seq ?_
          refine cw_region ?_
          refine rw_v (op_pure rfl) ?_
          refine rw_v (op_fieldAddr Try.underlying32 rfl Try.sizeOf2 rfl rfl) ?_
          refine rw_r (op_loadB Try.underlying2 rfl rfl (S.blk (i := 5) rfl) rfl) ?_
          refine rw_v (op_fieldAddr Try.underlying32 rfl Try.sizeOf2 rfl rfl) ?_
          refine rw_r (op_loadB Try.underlying2 rfl rfl (S.blk (i := 5) rfl) rfl) ?_
          refine rw_v (op_rng rfl (by omega)) ?_
          rw [emul, ← hV]
          refine rw_v (op_b (b := true) rfl (decide_eq_true (by omega))) ?_
          first | refine rw_end ?_ | (refine rw_nil ?_; show CW _ _ _ _ _ _) | refine rw_nil ?_
          repeat refine cw_seq ?_
          refine cw_true rfl ?_
          repeat refine cw_seq ?_
          refine cw_skip ?_
          try show CW _ _ _ _ _ _
          repeat refine cw_seq ?_
          refine cw_block ?_
          repeat refine cw_seq ?_
          refine cw_region ?_
          iterate 2 refine rw_v (op_pure rfl) ?_
          refine rw_v (op_idx Try.underlying30 Try.sizeOf2 rfl rfl sa_lb (by omega) (by omega)) ?_
          refine rw_r (op_ldR Try.underlying2 rfl rfl (S.rd (i := 0) rfl) hgli) ?_
          refine rw_v (op_pure rfl) ?_
          refine rw_v (op_b (b := true) rfl (bne_iff_ne.2 (by omega))) ?_
          first | refine rw_end ?_ | (refine rw_nil ?_; show CW _ _ _ _ _ _) | refine rw_nil ?_
          repeat refine cw_seq ?_
          refine cw_true rfl ?_
          repeat refine cw_seq ?_
          refine cw_exit ?_
          repeat first | refine exit_then ?_ | refine exit_inb ?_
          show CW _ _ _ _ _ _
          repeat refine cw_seq ?_
          refine cw_region ?_
          refine rw_v (op_pure rfl) ?_
          refine rw_v (op_rng rfl (by omega)) ?_
          refine rw_v (op_pure rfl) ?_
          first | refine rw_end ?_ | (refine rw_nil ?_; show CW _ _ _ _ _ _) | refine rw_nil ?_
          exact ⟨m2 - 1, by omega, i + 1, tp, by omega, by
            rw [htp]
            exact ⟨fun h i' hi' hp => by
              by_cases e : i' = i
              · subst e; exact absurd hp hpi
              · exact h i' (by omega) hp, fun h i' hi' => h i' (by omega)⟩, ⟨rfl, rfl, rfl, rfl, rfl, rfl, rfl, rfl, rfl, ie (by omega), trivial⟩, S⟩
      · obtain rfl : i = V.length := by omega
        have htb : tp = topB gw V k := by
          rw [Bool.eq_iff_iff, htp]
          unfold topB
          simp only [decide_eq_true_eq]
          unfold TopP
          exact ⟨fun h i j hi hj hp s => h i hi hp j (by rw [hV]; exact (nearN_mem hw.1 (by omega)).2 ⟨by omega, s⟩), fun h i hi hp j hj => by
            rw [hV] at hj
            have := (nearN_mem hw.1 (by omega)).1 hj
            exact h i j hi (by omega) hp this.2⟩
        cases tp with
        | false =>
          rw [← htb, if_neg (by simp)] at hsucc
          repeat refine cw_seq ?_
          refine cw_region ?_
          refine rw_v (op_pure rfl) ?_
          refine rw_v (op_fieldAddr Try.underlying32 rfl Try.sizeOf2 rfl rfl) ?_
          refine rw_r (op_loadB Try.underlying2 rfl rfl (S.blk (i := 5) rfl) rfl) ?_
          refine rw_v (op_fieldAddr Try.underlying32 rfl Try.sizeOf2 rfl rfl) ?_
          refine rw_r (op_loadB Try.underlying2 rfl rfl (S.blk (i := 5) rfl) rfl) ?_
          refine rw_v (op_rng rfl (by omega)) ?_
          rw [emul, ← hV]
          refine rw_v (op_b (b := false) rfl (decide_eq_false (by omega))) ?_
          first | refine rw_end ?_ | (refine rw_nil ?_; show CW _ _ _ _ _ _) | refine rw_nil ?_
          repeat refine cw_seq ?_
          refine cw_false rfl ?_
          repeat refine cw_seq ?_
          refine cw_exit ?_
          repeat first | refine exit_then ?_ | refine exit_inb ?_
          show CW _ _ _ _ _ _
          repeat refine cw_seq ?_
          refine cw_region ?_
          iterate 2 refine rw_v (op_pure rfl) ?_
          first | refine rw_end ?_ | (refine rw_nil ?_; show CW _ _ _ _ _ _) | refine rw_nil ?_
          repeat refine cw_seq ?_
          refine cw_true rfl ?_
          repeat refine cw_seq ?_
          refine cw_exit ?_
          repeat first | refine exit_then ?_ | refine exit_inb ?_
          show CW _ _ _ _ _ _
          repeat refine cw_seq ?_
          refine cw_region ?_
          refine rw_v (op_pure rfl) ?_
          refine rw_v (op_rng rfl (by omega)) ?_
          refine rw_v (op_pure rfl) ?_
          first | refine rw_end ?_ | (refine rw_nil ?_; show CW _ _ _ _ _ _) | refine rw_nil ?_
          have S := S.sub (.cons _ (.cons _ (.cons _ (.cons_cons _ (.cons_cons _ (.cons_cons _ (.slnil)))))))
          exact ⟨m - 1, by omega, k + 1, A2, c2, by omega, ⟨rfl, by rw [hsucc]; rfl, rfl, ie (by omega), trivial⟩, by rw [hsucc]; exact S⟩
        | true =>
          rw [← htb, if_pos rfl] at hsucc
          have hbk := hbd k
          have hlob : -2147483648 ≤ lo ∧ lo ≤ V.getD k 0 := by obtain ⟨⟨x, hx, he⟩, h2⟩ := hmin; rw [← he]; exact ⟨(hbd x).1, by rw [he]; exact h2 k hkn⟩
          have hhl := headsN_len gw V k
          repeat refine cw_seq ?_
          refine cw_region ?_
          refine rw_v (op_pure rfl) ?_
          refine rw_v (op_fieldAddr Try.underlying32 rfl Try.sizeOf2 rfl rfl) ?_
          refine rw_r (op_loadB Try.underlying2 rfl rfl (S.blk (i := 5) rfl) rfl) ?_
          refine rw_v (op_fieldAddr Try.underlying32 rfl Try.sizeOf2 rfl rfl) ?_
          refine rw_r (op_loadB Try.underlying2 rfl rfl (S.blk (i := 5) rfl) rfl) ?_
          refine rw_v (op_rng rfl (by omega)) ?_
          rw [emul, ← hV]
          refine rw_v (op_b (b := false) rfl (decide_eq_false (by omega))) ?_
          first | refine rw_end ?_ | (refine rw_nil ?_; show CW _ _ _ _ _ _) | refine rw_nil ?_
          repeat refine cw_seq ?_
          refine cw_false rfl ?_
          repeat refine cw_seq ?_
          refine cw_exit ?_
          repeat first | refine exit_then ?_ | refine exit_inb ?_
          show CW _ _ _ _ _ _
          repeat refine cw_seq ?_
          refine cw_region ?_
          iterate 2 refine rw_v (op_pure rfl) ?_
          first | refine rw_end ?_ | (refine rw_nil ?_; show CW _ _ _ _ _ _) | refine rw_nil ?_
          repeat refine cw_seq ?_
          refine cw_false rfl ?_
          repeat refine cw_seq ?_
          refine cw_skip ?_
          try show CW _ _ _ _ _ _
          repeat refine cw_seq ?_
          refine cw_region ?_
          refine rw_r (op_loadAB Try.underlying32 rfl (Try.sizeOf32 _) rfl (S.blk (i := 5) rfl) rfl rfl) ?_
          refine rw_v (op_pure rfl) ?_
          refine rw_call rfl (hkey k hkn w2 (hA.gr S.out)) ?_
          rintro _ w16_ ⟨kb, kf, rfl, hk1, hk2, g16_⟩
          have S := S.gr g16_
          iterate 5 refine rw_v (op_pure rfl) ?_
          first | refine rw_end ?_ | (refine rw_nil ?_; show CW _ _ _ _ _ _) | refine rw_nil ?_
          obtain ⟨low, hlow⟩ : ∃ low, low = if kf = true then kb else lo := ⟨_, rfl⟩
          have hri : riseN gw V k = V.getD k 0 - low ∧ lo ≤ low ∧ low ≤ V.getD k 0 := by
            cases kf with
            | true =>
              have h1 := hk1 rfl
              have h2 := key_low (gh := gh) hw.1 hV hkn h1 hmin
              rw [if_pos rfl] at hlow
              subst hlow
              exact ⟨riseN_eq (.inl (by rw [show V.getD k 0 - (V.getD k 0 - low) = low by omega]; exact h1)), h2.1, h2.2⟩
            | false =>
              rw [if_neg (by simp)] at hlow
              subst hlow
              exact ⟨riseN_eq (.inr ⟨hk2 rfl, by rw [show V.getD k 0 - (V.getD k 0 - low) = low by omega]; exact hmin⟩), by omega, by omega⟩
          obtain ⟨hri, hlw1, hlw2⟩ := hri
          repeat refine cw_seq ?_
          refine cw_region ?_
          iterate 2 refine rw_v (op_pure rfl) ?_
          first | refine rw_end ?_ | (refine rw_nil ?_; show CW _ _ _ _ _ _) | refine rw_nil ?_
          repeat refine cw_seq ?_
          refine cw_cutT (M := fun e w => SL e [(1, .pointer (some ⟨b_md, 0, none⟩)), (3, .slice A2 (headsN gw V k).length c2), (4, .pointer (some ⟨b_rg, 0, none⟩)), (5, .int .i64 k), (6, .pointer (some ⟨b_ce, 0, none⟩)), (7, .slice A_lb V.length c_lb), (8, .slice A_pt PTn c_pt), (9, .int .i64 (c1 + 1 : Nat)), (14, .int .i64 low)] ∧ St No W w [.row 2 1 A_lb V.length c_lb (cellsN V.length LF), .row 87 8 A_pt PTn c_pt (partsV PT), .blk b_ce 40 [.int .i64 (k % gw : Nat), .int .i64 (k / gw : Nat)], .blk b_rg 80 [.int .i64 lo, .int .i64 hi], .row 46 5 A2 (headsN gw V k).length c2 (((headsN gw V k).map (pkAt gw V (riseN gw V))).flatMap (encPk gw)), .blk b_md 32 [.int .i64 gw, .int .i64 gh, .slice A V.length cap]]) ?_ ?_
          · cases kf with
            | true =>
              rw [if_pos rfl] at hlow
              repeat refine cw_seq ?_
              refine cw_false rfl ?_
              repeat refine cw_seq ?_
              refine cw_skip ?_
              try show CW _ _ _ _ _ _
              exact ⟨⟨rfl, rfl, rfl, rfl, rfl, rfl, rfl, rfl, ie (by omega), trivial⟩, S⟩
            | false =>
              rw [if_neg (by simp)] at hlow
              repeat refine cw_seq ?_
              refine cw_true rfl ?_
              repeat refine cw_seq ?_
              refine cw_region ?_
              refine rw_v (op_fieldAddr Try.underlying80 rfl Try.sizeOf2 rfl rfl) ?_
              refine rw_r (op_loadB Try.underlying2 rfl rfl (S.blk (i := 3) rfl) rfl) ?_
              refine rw_v (op_pure rfl) ?_
              first | refine rw_end ?_ | (refine rw_nil ?_; show CW _ _ _ _ _ _) | refine rw_nil ?_
              exact ⟨⟨rfl, rfl, rfl, rfl, rfl, rfl, rfl, rfl, ie (by omega), trivial⟩, S⟩
          · clear S
            rintro e w ⟨hsl, S⟩
            rw [hsl.fold]
            repeat refine cw_seq ?_
            refine cw_tri (C := (fun σ wq => CS No W [.row 2 1 A_lb V.length c_lb (cellsN V.length LF), .row 87 8 A_pt PTn c_pt (partsV PT), .blk b_ce 40 [.int .i64 (k % gw : Nat), .int .i64 (k / gw : Nat)], .blk b_rg 80 [.int .i64 lo, .int .i64 hi], .row 46 5 A2 (headsN gw V k).length c2 (((headsN gw V k).map (pkAt gw V (riseN gw V))).flatMap (encPk gw)), .blk b_md 32 [.int .i64 gw, .int .i64 gh, .slice A V.length cap]] 4 46 5 (headsN gw V k).length (((headsN gw V k).map (pkAt gw V (riseN gw V))).flatMap (encPk gw)) [.int .i64 (k % gw : Nat), .int .i64 (k / gw : Nat), .int .i64 (V.getD k 0), .int .i64 ((plat gw V k).length : Nat), .int .i64 (V.getD k 0 - low)] wq σ)) [21, 22] [0, 1, 2, 3, 4, 5, 6, 7, 8, 9, 10, 11, 12, 13, 14, 15, 16, 17, 18, 19, 20, 21, 22] [23] (by kernel_rfl) (by kernel_rfl) (S.gr (Gr.drew _)) ?_
            simp only [pickI, pickL, List.drop_succ_cons, List.drop_zero]
            refine rs_v rfl (op_pure rfl) ?_
            refine rs_r rfl (fun τ wq hq => op_loadAB Try.underlying40 rfl (Try.sizeOf40 _) rfl (CS.ok hq (j := 2) (by omega) rfl) rfl rfl) ?_
            refine rs_v rfl (op_fieldAddr Try.underlying32 rfl Try.sizeOf30 rfl rfl) ?_
            refine rs_r rfl (fun τ wq hq => op_loadB Try.underlying30 rfl rfl (CS.ok hq (j := 5) (by omega) rfl) rfl) ?_
            refine rs_v rfl (op_pure rfl) ?_
            refine rs_v rfl (op_idx Try.underlying30 Try.sizeOf2 rfl rfl sa_A (by omega) (by omega)) ?_
            refine rs_r rfl (fun τ wq hq => op_ldR Try.underlying2 rfl rfl (hA.fr (CS.frw hq) (fun _ _ h => h)) hgk) ?_
            refine rs_v rfl (op_pure rfl) ?_
            refine rs_v rfl (op_pure rfl) ?_
            refine rs_v rfl (op_rng rfl (by omega)) ?_
            rw [ec1]
            refine rs_v rfl (op_idx Try.underlying82 Try.sizeOf87 rfl rfl sa_pt (by omega) (by omega)) ?_
            refine rs_v rfl (op_fld Try.underlying87 rfl Try.sizeOf2 rfl rfl sa_pt) ?_
            refine rs_r rfl (fun τ wq hq => op_ldR Try.underlying2 rfl rfl (Row.rd (CS.ok hq (j := 1) (by omega) rfl)) p1) ?_
            refine rs_v rfl (op_fieldAddr Try.underlying32 rfl Try.sizeOf30 rfl rfl) ?_
            refine rs_r rfl (fun τ wq hq => op_loadB Try.underlying30 rfl rfl (CS.ok hq (j := 5) (by omega) rfl) rfl) ?_
            refine rs_v rfl (op_pure rfl) ?_
            refine rs_v rfl (op_idx Try.underlying30 Try.sizeOf2 rfl rfl sa_A (by omega) (by omega)) ?_
            refine rs_r rfl (fun τ wq hq => op_ldR Try.underlying2 rfl rfl (hA.fr (CS.frw hq) (fun _ _ h => h)) hgk) ?_
            refine rs_v rfl (op_pure rfl) ?_
            refine rs_v rfl (op_rng rfl (by omega)) ?_
            refine rs_v rfl (op_build (pl := [(0, 2), (2, 1), (3, 1), (4, 1)]) Try.underlying46 Try.zeroValue46 (fun w => by kernel_rfl) rfl rfl) ?_
            refine rs_special rfl rfl (fun wq hq => to_buildCS hq Try.underlying44 Try.sizeOf46 Try.zeroValue46 rfl rfl rfl rfl rfl rfl) ?_
            rintro v6 w6 ⟨A6, rfl, _⟩
            refine rs_special rfl rfl (fun wq hq => to_appCS hq rfl (fun h => ⟨_, rfl⟩) Try.underlying44 info_t46 rfl rfl rfl rfl rfl rfl (by omega)) ?_
            rintro v7 w7 ⟨A7, c7, L7, rfl, _, _⟩
            refine rs_nil ?_
            rintro w8 ⟨A8_, c8_, L_st, e_st, h_st, S⟩
            cases e_st
            obtain rfl := Option.some.inj h_st
            refine rw_v (op_pure rfl) ?_
            first | refine rw_end ?_ | (refine rw_nil ?_; show CW _ _ _ _ _ _) | refine rw_nil ?_
            repeat refine cw_seq ?_
            refine cw_region ?_
            refine rw_v (op_pure rfl) ?_
            refine rw_v (op_rng rfl (by omega)) ?_
            refine rw_v (op_pure rfl) ?_
            first | refine rw_end ?_ | (refine rw_nil ?_; show CW _ _ _ _ _ _) | refine rw_nil ?_
            have e2 : (((headsN gw V k).map (pkAt gw V (riseN gw V))).flatMap (encPk gw)) ++ [.int .i64 (k % gw : Nat), .int .i64 (k / gw : Nat), .int .i64 (V.getD k 0), .int .i64 ((plat gw V k).length : Nat), .int .i64 (V.getD k 0 - low)] = ((headsN gw V (k + 1)).map (pkAt gw V (riseN gw V))).flatMap (encPk gw) := by
              rw [hsucc, List.map_append, List.flatMap_append, ← hri]; simp [pkAt, encPk]
            have e3 : (headsN gw V k).length + 1 = (headsN gw V (k + 1)).length := by rw [hsucc]; simp
            rw [e2, e3] at S
            exact ⟨m - 1, by omega, k + 1, A7, c7, by omega, ⟨rfl, by rw [← e3]; rfl, rfl, ie (by omega), trivial⟩, S.sub (.cons _ (.cons _ (.cons _ (.cons_cons _ (.cons_cons _ (.cons_cons _ .slnil))))))⟩
    · have hno : hdB gw V k = false := by unfold hdB; rw [decide_eq_false hpk]; rfl
      rw [hno, if_neg (by simp)] at hsucc
      have hnec : ¬ (((pR gw V k % gw : Nat) : Int) = (k % gw : Nat) ∧ ((pR gw V k / gw : Nat) : Int) = (k / gw : Nat)) := fun ⟨h1, h2⟩ => hpk (by
        have a := Nat.div_add_mod (pR gw V k) gw
        have b := Nat.div_add_mod k gw
        rw [show pR gw V k % gw = k % gw by omega, show pR gw V k / gw = k / gw by omega, b] at a
        exact a.symm)
      repeat refine cw_seq ?_
      refine cw_region ?_
      iterate 2 refine rw_v (op_pure rfl) ?_
      refine rw_v (op_idx Try.underlying30 Try.sizeOf2 rfl rfl sa_lb (by omega) (by omega)) ?_
      refine rw_r (op_ldR Try.underlying2 rfl rfl (S.rd (i := 0) rfl) hglk) ?_
      refine rw_v (op_pure rfl) ?_
      first | refine rw_end ?_ | (refine rw_nil ?_; show CW _ _ _ _ _ _) | refine rw_nil ?_
      repeat refine cw_seq ?_
      refine cw_draw (C := fun wq => Gr w8 wq) [0, 1, 2, 3, 4, 5, 6, 7] [] (by kernel_rfl) (by kernel_rfl) (Gr.drew _) ?_
      simp only [pickL, List.drop_succ_cons, List.drop_zero]
      iterate 2 refine rq_v (op_pure rfl) ?_
      refine rq_v (op_rng rfl (by omega)) ?_
      rw [ec1]
      refine rq_v (op_idx Try.underlying82 Try.sizeOf87 rfl rfl sa_pt (by omega) (by omega)) ?_
      refine rq_v (op_fld Try.underlying87 rfl Try.sizeOf40 rfl rfl sa_pt) ?_
      refine rq_r (fun wq hq => op_ldRA Try.underlying40 rfl (Try.sizeOf40 _) rfl ((S.gr hq).rd (i := 1) rfl) p2 rfl rfl) ?_
      refine rq_r (fun wq hq => op_loadAB Try.underlying40 rfl (Try.sizeOf40 _) rfl ((S.gr hq).blk (i := 2) rfl) rfl rfl) ?_
      refine rq_v (op_neCell (r := true) rfl rfl (by rw [decide_eq_false hnec]; rfl)) ?_
      refine rq_nil ?_
      intro w18_ g18_
      have S := S.gr g18_
      first | refine rw_end ?_ | (refine rw_nil ?_; show CW _ _ _ _ _ _) | refine rw_nil ?_
      repeat refine cw_seq ?_
      refine cw_true rfl ?_
      repeat refine cw_seq ?_
      refine cw_exit ?_
      repeat first | refine exit_then ?_ | refine exit_inb ?_
      show CW _ _ _ _ _ _
      repeat refine cw_seq ?_
      refine cw_region ?_
      refine rw_v (op_pure rfl) ?_
      refine rw_v (op_rng rfl (by omega)) ?_
      refine rw_v (op_pure rfl) ?_
      first | refine rw_end ?_ | (refine rw_nil ?_; show CW _ _ _ _ _ _) | refine rw_nil ?_
      have S := S.sub (.cons _ (.cons _ (.cons _ (.cons_cons _ (.cons_cons _ (.cons_cons _ (.slnil)))))))
      exact ⟨m - 1, by omega, k + 1, A2, c2, by omega, ⟨rfl, by rw [hsucc]; rfl, rfl, ie (by omega), trivial⟩, by rw [hsucc]; exact S⟩
  · obtain rfl : k = V.length := by omega
    repeat refine cw_seq ?_
    refine cw_region ?_
    refine rw_v (op_pure rfl) ?_
    refine rw_v (op_fieldAddr Try.underlying32 rfl Try.sizeOf2 rfl rfl) ?_
    refine rw_r (op_loadB Try.underlying2 rfl rfl (S.blk (i := 2) rfl) rfl) ?_
    refine rw_v (op_fieldAddr Try.underlying32 rfl Try.sizeOf2 rfl rfl) ?_
    refine rw_r (op_loadB Try.underlying2 rfl rfl (S.blk (i := 2) rfl) rfl) ?_
    refine rw_v (op_rng rfl (by omega)) ?_
    rw [emul, ← hV]
    refine rw_v (op_b (b := false) rfl (decide_eq_false (by omega))) ?_
    first | refine rw_end ?_ | (refine rw_nil ?_; show CW _ _ _ _ _ _) | refine rw_nil ?_
    repeat refine cw_seq ?_
    refine cw_false rfl ?_
    repeat refine cw_seq ?_
    refine cw_exit ?_
    repeat first | refine exit_then ?_ | refine exit_inb ?_
    show CW _ _ _ _ _ _
    repeat refine cw_seq ?_
    refine cw_region ?_
    iterate 2 refine rw_v (op_pure rfl) ?_
    first | refine rw_end ?_ | (refine rw_nil ?_; show CW _ _ _ _ _ _) | refine rw_nil ?_
    repeat refine cw_seq ?_
    refine cw_ret ?_
    repeat first | refine ret_then ?_ | refine ret_inb ?_
    exact res1 rfl (S.retNew (i := 1) rfl)
end
end Go.Proofs.Ytiidmiebckkloaa
/- clear; slices.IndexFunc, slices.DeleteFunc of peaks; peaks.Over; hachurelaw46.same: contracts. -/
namespace Go.Proofs.Ytiidmiebckkloaa
open Go.RowKit
set_option linter.unusedVariables false
set_option linter.unusedSimpArgs false
set_option maxRecDepth 100000

section
variable {P : Program} {ops : Array Oper} {Q : (Nat → Value) → World → Prop} {e : Nat → Value} {w W : World} {rest : List Oper} {d : Option Tmp} {ty : TypeId} {ps : String} {af : Array Edge} {F : Nat → Prop} {L L' : List HA}
/-- clear(s[j:]) of a row -/
theorem rw_clearS {i : Nat} {t el' : TypeId} {x : Operand} {el k n c j m c' : Nat} {A : Option Addr} {xs zl : List Value} {z : Value} (S : St F W w L) (hi : getO L i = some (.row el k A n c xs)) (hu : P.underlying t = some (.slice el')) (hz : ∀ w, (zeroValue el').run P w = .ok z w) (hzc : z.cells = zl.toArray) (hzl : zl.length = k)
    (hone : (zl.all fun v => v.oneCell') = true) (hx : ev e x = .slice (at_ A (j * k)) m c') (hm : j + m = n) (hm0 : 0 < m) (hs : setO L i (.row el k A n c (xs.take (j * k) ++ (List.replicate m zl).flatten)) = some L') (hr : ∀ w', St F W w' L' → RW P ops Q rest (updO e d (.tuple #[])) w') :
    RW P ops Q (⟨d, .call ⟨.builtin .clear, #[x], #[t]⟩, ty, ps, af, none⟩ :: rest) e w := by
  have hR := S.row hi
  rcases hR.form with ⟨rfl, rfl, rfl, rfl⟩ | ⟨g, l, rfl, hB, hn, hl, ht, hmx⟩
  · omega
  · have hfl : (List.replicate m zl).flatten.length = m * k := by simp [hzl]
    have hjm : j * k + m * k = n * k := by rw [← Nat.add_mul, hm]
    have hnk : n * k ≤ l.length := by rw [hl]; exact Nat.mul_le_mul_right _ hn
    obtain ⟨w', hw', hg', hsz', hB'⟩ := storeCells_E (P := P) (o := j * k) (List.replicate m zl).flatten 0 w l hB (fun u hu => by
      obtain ⟨y, hy, hu⟩ := List.mem_flatten.1 hu
      rw [List.eq_of_mem_replicate hy] at hu
      exact List.all_eq_true.1 hone u hu) (by omega)
    have hx' : ev e x = .slice (some ⟨g, j * k, none⟩) m c' := by rw [hx, at_some, Nat.zero_add]
    have hzero : (Builtin.zeroCells z.cells m).toList = (List.replicate m zl).flatten := by
      have := range_flat z.cells k (by rw [hzc]; simpa using hzl) m
      rw [hzc] at this ⊢
      unfold Builtin.zeroCells
      simpa [hzl] using this
    obtain ⟨m', rfl⟩ : ∃ m', m = m' + 1 := ⟨m - 1, by omega⟩
    refine rw_w (w' := w') ?_ (hr w' ?_)
    · simp [execOp, resolve, invoke, builtin, Builtin.clear_, hx', run_underlying hu, hz, hzero, hw']
    · refine S.set hi hs (Fr.of_grown (F := fun b => b = g) hg' (fun b e => by injection e with e; exact e.symm)) (fun b e => .inl (by rw [e]; rfl)) (Row.mk_ hB' hn ?_ ?_ hmx) (fun b e => .inl e)
      · simp only [List.length_append, List.length_take, List.length_drop, hfl]; omega
      · rw [Nat.add_zero, hfl, hjm, ← ht, List.take_take, Nat.min_eq_left (by omega), List.take_append_of_le_length (by simp only [List.length_append, List.length_take, hfl]; omega), List.take_of_length_le (by simp only [List.length_append, List.length_take, hfl]; omega)]
end

/-- a peak's cells, its value -/
@[reducible] def encT (pk : Nat → Nat → Int) (i : Nat) : List Value := [.int .i64 (pk 0 i), .int .i64 (pk 1 i), .int .i64 (pk 2 i), .int .i64 (pk 3 i), .int .i64 (pk 4 i)]
@[reducible] def valT (pk : Nat → Nat → Int) (i : Nat) : Value := .agg #[.int .i64 (pk 0 i), .int .i64 (pk 1 i), .int .i64 (pk 2 i), .int .i64 (pk 3 i), .int .i64 (pk 4 i)]
/-- a peak's numbers -/
def pkT (gw : Nat) (L : List Pk) (f i : Nat) : Int := match f with
  | 0 => ((L.getD i default).fs % gw : Nat)
  | 1 => ((L.getD i default).fs / gw : Nat)
  | 2 => (L.getD i default).v
  | 3 => (L.getD i default).ar
  | _ => (L.getD i default).rz
theorem pkT_enc (gw : Nat) (L : List Pk) (i : Nat) : encT (pkT gw L) i = encPk gw (L.getD i default) := rfl
theorem rowE_pkT (gw : Nat) (L : List Pk) : rowE (encT (pkT gw L)) L.length (fun i => i) = L.flatMap (encPk gw) := by
  unfold rowE
  rw [List.flatMap_def]
  congr 1
  apply List.ext_getElem?
  intro i
  rw [List.getElem?_map, List.getElem?_map]
  by_cases h : i < L.length
  · rw [List.getElem?_range h, List.getElem?_eq_getElem h, Option.map_some, Option.map_some, pkT_enc, List.getD_eq_getElem?_getD, List.getElem?_eq_getElem h]
    rfl
  · rw [List.getElem?_eq_none (by simp; omega), List.getElem?_eq_none (by omega)]
    rfl
theorem rowE_takeT {enc : Nat → List Value} {k : Nat} {o : Nat → Nat} (hk : ∀ i, (enc i).length = k) (m : Nat) : ∀ n, m ≤ n → (rowE enc n o).take (m * k) = rowE enc m o
  | 0, h => by
    obtain rfl : m = 0 := by omega
    simp [rowE]
  | n + 1, h => by
    by_cases e : m = n + 1
    · subst e
      rw [List.take_of_length_le (by rw [rowE_len hk]; exact Nat.le_refl _)]
    · rw [rowE_succ, List.take_append_of_le_length (by rw [rowE_len hk]; exact Nat.mul_le_mul_right _ (by omega)), rowE_takeT hk m n (by omega)]
theorem pkT_get {gw : Nat} {L : List Pk} {j : Nat} (h : j < L.length) (r : Nat) (hr : r < 5) : (L.flatMap (encPk gw))[(j : Int).toNat * 5 + r]? = (encPk gw (L.getD j default))[r]? := by
  rw [Int.toNat_natCast]
  exact pflat_get (k := 5) (fun _ => rfl) L j r _ (by rw [List.getD_eq_getElem?_getD, List.getElem?_eq_getElem h]; rfl) hr
def keepN (del : Nat → Bool) (n : Nat) : List Nat := (List.range n).filter fun i => !del i
theorem keepN_succ (del : Nat → Bool) (n : Nat) : keepN del (n + 1) = keepN del n ++ if del n then [] else [n] := by
  unfold keepN
  rw [List.range_succ, List.filter_append]
  cases h : del n <;> simp [h]
theorem keepN_first {del : Nat → Bool} : ∀ {q : Nat}, (∀ i, i < q → del i = false) → keepN del q = List.range q
  | 0, _ => rfl
  | q + 1, h => by rw [keepN_succ, h q (by omega), keepN_first (fun i hi => h i (by omega)), List.range_succ]; rfl
theorem keepN_le (del : Nat → Bool) (n : Nat) : (keepN del n).length ≤ n := by
  have := List.length_filter_le (fun i => !del i) (List.range n)
  rw [List.length_range] at this
  exact this
theorem keepN_row {enc : Nat → List Value} {o : Nat → Nat} {del : Nat → Bool} {m n : Nat} (h : (List.range m).map o = keepN del n) : rowE enc m o = (keepN del n).flatMap enc := by
  unfold rowE
  rw [← h, List.flatMap_def, List.map_map]
  rfl
theorem keepN_map {α : Type} [Inhabited α] (p : α → Bool) (L : List α) : (keepN (fun i => !p (L.getD i default)) L.length).map (fun i => L.getD i default) = L.filter p := by
  have h : L = (List.range L.length).map (fun i => L.getD i default) := by
    apply List.ext_getElem?
    intro i
    rw [List.getElem?_map]
    by_cases hi : i < L.length
    · rw [List.getElem?_range hi, Option.map_some, List.getD_eq_getElem?_getD, List.getElem?_eq_getElem hi]; rfl
    · rw [List.getElem?_eq_none (by omega), List.getElem?_eq_none (by simp; omega)]; rfl
  have h2 : L.filter p = ((List.range L.length).map (fun i => L.getD i default)).filter p := by rw [← h]
  rw [h2, List.filter_map]
  unfold keepN
  simp [Function.comp_def]
section
variable {pk : Nat → Nat → Int} {W : World} {A : Option Addr} {n c fid : Nat} {caps : List Value} {del : Nat → Bool}
theorem pidx_E (hn : n ≤ 1048576) (hA : Rd W A (rowE (encT pk) n fun i => i)) (hf : ∀ i, i < n → ∀ w', Gr W w' → Fn Try.prog fid ([] ++ [valT pk i] ++ caps) w' (RetG (.bool (del i)) w')) :
    Fn Try.prog 55 [.slice A n c, .func (.func fid) (([] : List Value).toArray) caps.toArray] W (fun v w' => ∃ r : Int, v = .int .i64 r ∧ Gr W w' ∧ ((r = -1 ∧ ∀ i, i < n → del i = false) ∨ ∃ q : Nat, r = q ∧ q < n ∧ del q = true ∧ ∀ i, i < q → del i = false)) := by
  have S := St.start W
  refine Fn_enter Try.func55 rfl Try.results55 Try.ntmps55 (by kernel_rfl) (by kernel_rfl) ?_
  repeat refine cw_seq ?_
  refine cw_region ?_
  refine rw_v (op_pure rfl) ?_
  first | refine rw_end ?_ | (refine rw_nil ?_; show CW _ _ _ _ _ _) | refine rw_nil ?_
  repeat refine cw_seq ?_
  refine cw_region ?_
  refine rw_v (op_pure rfl) ?_
  refine rw_v (op_len Try.underlying23 rfl) ?_
  refine rw_v (op_pure rfl) ?_
  first | refine rw_end ?_ | (refine rw_nil ?_; show CW _ _ _ _ _ _) | refine rw_nil ?_
  repeat refine cw_seq ?_
  refine cw_block ?_
  repeat refine cw_seq ?_
  refine cw_loop (fun m e w => ∃ k : Nat, k + m = n ∧ SL e [(0, .slice A n c), (1, .func (.func fid) (([] : List Value).toArray) caps.toArray), (7, .int .i64 n), (8, .int .i64 k)] ∧ (∀ i, i < k → del i = false) ∧ St No W w []) n
    ⟨0, by omega, ⟨rfl, rfl, rfl, rfl, trivial⟩, fun i hi => by omega, S⟩ ?_
  rintro m e w ⟨k, hkm, hsl, hI, S⟩
  rw [hsl.fold]
  repeat refine cw_seq ?_
  refine cw_region ?_
  refine rw_v (op_pure rfl) ?_
  first | refine rw_end ?_ | (refine rw_nil ?_; show CW _ _ _ _ _ _) | refine rw_nil ?_
  repeat refine cw_seq ?_
  refine cw_cond rfl (fun hc => ?_) (fun hc => ?_)
  · try simp only [decide_eq_true_eq, decide_eq_false_iff_not, beq_iff_eq, bne_iff_ne, beq_eq_false_iff_ne, bne_eq_false_iff_eq, Bool.not_eq_true', Bool.not_eq_false', ne_eq, Decidable.not_not, Int.natCast_inj, Int.ofNat_lt, Int.ofNat_le, gt_iff_lt, ge_iff_le, Int.not_lt, Int.not_le] at hc
    have sa_A : SomeA A := hA.someA (by rw [rowE_len (k := 5) (fun _ => rfl)]; omega)
    have hx' : ((rowE (encT pk) n fun i => i).drop ((k : Int).toNat * 5)).take 5 = encT pk k := rowE_get (fun _ => rfl) (by omega)
    repeat refine cw_seq ?_
    refine cw_skip ?_
    try show CW _ _ _ _ _ _
    repeat refine cw_seq ?_
    refine cw_block ?_
    repeat refine cw_seq ?_
    refine cw_region ?_
    iterate 2 refine rw_v (op_pure rfl) ?_
    first | refine rw_end ?_ | (refine rw_nil ?_; show CW _ _ _ _ _ _) | refine rw_nil ?_
    repeat refine cw_seq ?_
    refine cw_region ?_
    iterate 3 refine rw_v (op_pure rfl) ?_
    refine rw_v (op_idx Try.underlying23 Try.sizeOf42 rfl rfl sa_A (by omega) (by omega)) ?_
    refine rw_r (op_ldRA Try.underlying42 rfl (Try.sizeOf42 _) rfl (hA.gr S.out) hx' rfl rfl) ?_
    refine rw_callv rfl rfl (hf k (by omega) _ S.out) ?_
    rintro _ w1_ ⟨rfl, g1_⟩
    have S := S.gr g1_
    first | refine rw_end ?_ | (refine rw_nil ?_; show CW _ _ _ _ _ _) | refine rw_nil ?_
    repeat refine cw_seq ?_
    refine cw_cond rfl (fun hp => ?_) (fun hp => ?_)
    · try simp only [decide_eq_true_eq, decide_eq_false_iff_not, beq_iff_eq, bne_iff_ne, beq_eq_false_iff_ne, bne_eq_false_iff_eq, Bool.not_eq_true', Bool.not_eq_false', ne_eq, Decidable.not_not, Int.natCast_inj, Int.ofNat_lt, Int.ofNat_le, gt_iff_lt, ge_iff_le, Int.not_lt, Int.not_le] at hp
      repeat refine cw_seq ?_
      refine cw_region ?_
      iterate 2 refine rw_v (op_pure rfl) ?_
      first | refine rw_end ?_ | (refine rw_nil ?_; show CW _ _ _ _ _ _) | refine rw_nil ?_
      repeat refine cw_seq ?_
      refine cw_ret ?_
      repeat first | refine ret_then ?_ | refine ret_inb ?_
      exact res1 rfl ⟨_, rfl, S.out, .inr ⟨k, rfl, by omega, hp, hI⟩⟩
    · try simp only [decide_eq_true_eq, decide_eq_false_iff_not, beq_iff_eq, bne_iff_ne, beq_eq_false_iff_ne, bne_eq_false_iff_eq, Bool.not_eq_true', Bool.not_eq_false', ne_eq, Decidable.not_not, Int.natCast_inj, Int.ofNat_lt, Int.ofNat_le, gt_iff_lt, ge_iff_le, Int.not_lt, Int.not_le] at hp
      repeat refine cw_seq ?_
      refine cw_skip ?_
      try show CW _ _ _ _ _ _
      repeat refine cw_seq ?_
      refine cw_region ?_
      refine rw_v (op_rng rfl (by omega)) ?_
      refine rw_v (op_pure rfl) ?_
      first | refine rw_end ?_ | (refine rw_nil ?_; show CW _ _ _ _ _ _) | refine rw_nil ?_
      exact ⟨m - 1, by omega, k + 1, by omega, ⟨rfl, rfl, rfl, ie (by omega), trivial⟩, fun i hi => by
        by_cases hik : i = k
        · subst hik; exact hp
        · exact hI i (by omega), S⟩
  · try simp only [decide_eq_true_eq, decide_eq_false_iff_not, beq_iff_eq, bne_iff_ne, beq_eq_false_iff_ne, bne_eq_false_iff_eq, Bool.not_eq_true', Bool.not_eq_false', ne_eq, Decidable.not_not, Int.natCast_inj, Int.ofNat_lt, Int.ofNat_le, gt_iff_lt, ge_iff_le, Int.not_lt, Int.not_le] at hc
    repeat refine cw_seq ?_
    refine cw_exit ?_
    repeat first | refine exit_then ?_ | refine exit_inb ?_
    show CW _ _ _ _ _ _
    repeat refine cw_seq ?_
    refine cw_region ?_
    refine rw_v (op_pure rfl) ?_
    first | refine rw_end ?_ | (refine rw_nil ?_; show CW _ _ _ _ _ _) | refine rw_nil ?_
    repeat refine cw_seq ?_
    refine cw_ret ?_
    repeat first | refine ret_then ?_ | refine ret_inb ?_
    exact res1 rfl ⟨_, rfl, S.out, .inl ⟨rfl, fun i hi => hI i (by omega)⟩⟩
set_option maxHeartbeats 2000000 in
theorem pdel_E (hn : n ≤ 1048576) (hA : Row W 42 5 A n c (rowE (encT pk) n fun i => i)) (hf : ∀ i, i < n → ∀ w', Fr (ownA A) W w' → Fn Try.prog fid ([] ++ [valT pk i] ++ caps) w' (RetG (.bool (del i)) w')) :
    Fn Try.prog 24 [.slice A n c, .func (.func fid) (([] : List Value).toArray) caps.toArray] W (fun v w' => v = .slice A (keepN del n).length c ∧ Row w' 42 5 A (keepN del n).length c ((keepN del n).flatMap (encT pk)) ∧ Fr (ownA A) W w') := by
  have S := St.start1 W (HA.row 42 5 A n c (rowE (encT pk) n fun i => i)) hA
  have hidx := fun w (g : Gr W w) => pidx_E (c := c) (fid := fid) (caps := caps) (del := del) hn (hA.rd.gr g) (fun i hi w' g' => hf i hi w' (Fr.of_gr (g.trans g')))
  refine Fn_enter Try.func24 rfl Try.results24 Try.ntmps24 (by kernel_rfl) (by kernel_rfl) ?_
  repeat refine cw_seq ?_
  refine cw_region ?_
  refine rw_v (op_pure rfl) ?_
  first | refine rw_end ?_ | (refine rw_nil ?_; show CW _ _ _ _ _ _) | refine rw_nil ?_
  repeat refine cw_seq ?_
  refine cw_region ?_
  iterate 2 refine rw_v (op_pure rfl) ?_
  refine rw_call rfl (hidx W (Gr.refl _)) ?_
  rintro _ w1_ ⟨r, rfl, g1_, hr⟩
  have S := S.gr g1_
  refine rw_v (op_pure rfl) ?_
  first | refine rw_end ?_ | (refine rw_nil ?_; show CW _ _ _ _ _ _) | refine rw_nil ?_
  repeat refine cw_seq ?_
  refine cw_region ?_
  iterate 2 refine rw_v (op_pure rfl) ?_
  first | refine rw_end ?_ | (refine rw_nil ?_; show CW _ _ _ _ _ _) | refine rw_nil ?_
  rcases hr with ⟨rfl, hno⟩ | ⟨q, rfl, hq, hdq, hI⟩
  · have hk := keepN_first hno
    repeat refine cw_seq ?_
    refine cw_true rfl ?_
    repeat refine cw_seq ?_
    refine cw_region ?_
    iterate 2 refine rw_v (op_pure rfl) ?_
    first | refine rw_end ?_ | (refine rw_nil ?_; show CW _ _ _ _ _ _) | refine rw_nil ?_
    repeat refine cw_seq ?_
    refine cw_ret ?_
    repeat first | refine ret_then ?_ | refine ret_inb ?_
    refine res1 rfl ?_
    rw [hk, List.length_range]
    refine ⟨rfl, ?_, S.fr⟩
    have := S.row (i := 0) rfl
    rwa [show rowE (encT pk) n (fun i => i) = (List.range n).flatMap (encT pk) by rw [rowE, List.flatMap_def]] at this
  · skip
    repeat refine cw_seq ?_
    refine cw_false rfl ?_
    repeat refine cw_seq ?_
    refine cw_skip ?_
    try show CW _ _ _ _ _ _
    repeat refine cw_seq ?_
    refine cw_region ?_
    refine rw_v (op_pure rfl) ?_
    refine rw_v (op_rng rfl (by omega)) ?_
    refine rw_v (op_pure rfl) ?_
    first | refine rw_end ?_ | (refine rw_nil ?_; show CW _ _ _ _ _ _) | refine rw_nil ?_
    repeat refine cw_seq ?_
    refine cw_block ?_
    repeat refine cw_seq ?_
    have hmi : ((q : Nat) : Int) + 1 = ((q + 1 : Nat) : Int) := by push_cast; rfl
    refine cw_loop (fun m e w => ∃ (j : Nat) (o : Nat → Nat), j + m = n ∧ (keepN del j).length < j ∧ (List.range (keepN del j).length).map o = keepN del j ∧ (∀ k, j ≤ k → o k = k) ∧ SL e [(0, .slice A n c), (1, .func (.func fid) (([] : List Value).toArray) caps.toArray), (5, .int .i64 (keepN del j).length), (6, .int .i64 j)] ∧ St (ownA A) W w [HA.row 42 5 A n c (rowE (encT pk) n o)]) (n - (q + 1))
      ⟨q + 1, fun i => i, by omega, by rw [keepN_succ, hdq, keepN_first hI]; simp, by rw [keepN_succ, hdq, keepN_first hI]; simp, fun k _ => rfl, ⟨rfl, rfl, by rw [keepN_succ, hdq, keepN_first hI]; simp; rfl, ie (by omega), trivial⟩, S⟩ ?_
    clear S
    rintro m e w ⟨j, o, hj, hlt, ho, hid, hsl, S⟩
    rw [hsl.fold]
    have hsucc := keepN_succ del j
    generalize hkl : (keepN del j).length = kl at *
    have sa_A : SomeA A := (S.row (i := 0) rfl).someA (by omega)
    repeat refine cw_seq ?_
    refine cw_region ?_
    iterate 2 refine rw_v (op_pure rfl) ?_
    refine rw_v (op_len Try.underlying23 rfl) ?_
    refine rw_v (op_pure rfl) ?_
    first | refine rw_end ?_ | (refine rw_nil ?_; show CW _ _ _ _ _ _) | refine rw_nil ?_
    repeat refine cw_seq ?_
    refine cw_cond rfl (fun hc => ?_) (fun hc => ?_)
    · try simp only [decide_eq_true_eq, decide_eq_false_iff_not, beq_iff_eq, bne_iff_ne, beq_eq_false_iff_ne, bne_eq_false_iff_eq, Bool.not_eq_true', Bool.not_eq_false', ne_eq, Decidable.not_not, Int.natCast_inj, Int.ofNat_lt, Int.ofNat_le, gt_iff_lt, ge_iff_le, Int.not_lt, Int.not_le] at hc
      have hx' : ((rowE (encT pk) n o).drop ((j : Int).toNat * 5)).take 5 = encT pk j := (rowE_get (enc := encT pk) (k := 5) (o := o) (n := n) (i := j) (fun _ => rfl) (by omega)).trans (by rw [hid j (Nat.le_refl _)])
      repeat refine cw_seq ?_
      refine cw_skip ?_
      try show CW _ _ _ _ _ _
      repeat refine cw_seq ?_
      refine cw_block ?_
      repeat refine cw_seq ?_
      refine cw_region ?_
      iterate 2 refine rw_v (op_pure rfl) ?_
      refine rw_v (op_idx Try.underlying23 Try.sizeOf42 rfl rfl sa_A (by omega) (by omega)) ?_
      refine rw_r (op_ldRA Try.underlying42 rfl (Try.sizeOf42 _) rfl (S.rd (i := 0) rfl) hx' rfl rfl) ?_
      refine rw_newB (op_alloc Try.zeroValue42 rfl) S ?_
      intro b_el w3_ g3_ S
      refine rw_storeSA (i := 0) S rfl (Try.sizeOf42 _) rfl rfl rfl rfl rfl rfl ?_
      intro w4_ S
      first | refine rw_end ?_ | (refine rw_nil ?_; show CW _ _ _ _ _ _) | refine rw_nil ?_
      repeat refine cw_seq ?_
      refine cw_region ?_
      refine rw_v (op_pure rfl) ?_
      refine rw_r (op_loadAB Try.underlying42 rfl (Try.sizeOf42 _) rfl (S.blk (i := 0) rfl) rfl rfl) ?_
      refine rw_callv rfl rfl (hf j (by omega) _ (S.fr)) ?_
      rintro _ w5_ ⟨rfl, g5_⟩
      have S := S.gr g5_
      refine rw_v (op_pure rfl) ?_
      first | refine rw_end ?_ | (refine rw_nil ?_; show CW _ _ _ _ _ _) | refine rw_nil ?_
      repeat refine cw_seq ?_
      refine cw_cond rfl (fun hp => ?_) (fun hp => ?_)
      · try simp only [decide_eq_true_eq, decide_eq_false_iff_not, beq_iff_eq, bne_iff_ne, beq_eq_false_iff_ne, bne_eq_false_iff_eq, Bool.not_eq_true', Bool.not_eq_false', ne_eq, Decidable.not_not, Int.natCast_inj, Int.ofNat_lt, Int.ofNat_le, gt_iff_lt, ge_iff_le, Int.not_lt, Int.not_le] at hp
        rw [hp] at hsucc
        have hset : (rowE (encT pk) n o).take ((kl : Int).toNat * 5) ++ encT pk j ++ (rowE (encT pk) n o).drop ((kl : Int).toNat * 5 + 5) = rowE (encT pk) n (updF o kl j) := rowE_set (fun _ => rfl) (by omega)
        have hlen : (kl : Int).toNat * 5 + 5 ≤ (rowE (encT pk) n o).length := by rw [rowE_len (k := 5) (fun _ => rfl)]; omega
        have hfin : (List.range (keepN del (j + 1)).length).map (updF o kl j) = keepN del (j + 1) := by
          rw [hsucc]
          simp only [Bool.false_eq_true, if_false, List.length_append, hkl, List.length_singleton, List.range_succ, List.map_append, List.map_cons, List.map_nil]
          rw [← ho]
          congr 1
          · apply List.map_congr_left
            intro i hi
            unfold updF
            rw [if_neg (by have := List.mem_range.1 hi; omega)]
          · simp [updF]
        have hkl2 : (keepN del (j + 1)).length = kl + 1 := by rw [hsucc]; simp [hkl]
        repeat refine cw_seq ?_
        refine cw_region ?_
        iterate 2 refine rw_v (op_pure rfl) ?_
        refine rw_r (op_loadAB Try.underlying42 rfl (Try.sizeOf42 _) rfl (S.blk (i := 0) rfl) rfl rfl) ?_
        refine rw_v (op_idx Try.underlying23 Try.sizeOf42 rfl rfl sa_A (by omega) (by omega)) ?_
        refine rw_storeRA (i := 1) S rfl (Try.sizeOf42 _) rfl rfl rfl rfl hlen rfl rfl ?_
        intro w6_ S
        first | refine rw_end ?_ | (refine rw_nil ?_; show CW _ _ _ _ _ _) | refine rw_nil ?_
        repeat refine cw_seq ?_
        refine cw_region ?_
        refine rw_v (op_pure rfl) ?_
        refine rw_v (op_rng rfl (by omega)) ?_
        refine rw_v (op_pure rfl) ?_
        first | refine rw_end ?_ | (refine rw_nil ?_; show CW _ _ _ _ _ _) | refine rw_nil ?_
        repeat refine cw_seq ?_
        refine cw_region ?_
        refine rw_v (op_pure rfl) ?_
        refine rw_v (op_rng rfl (by omega)) ?_
        refine rw_v (op_pure rfl) ?_
        first | refine rw_end ?_ | (refine rw_nil ?_; show CW _ _ _ _ _ _) | refine rw_nil ?_
        rw [hset] at S
        exact ⟨m - 1, by omega, j + 1, updF o kl j, by omega, by omega, hfin, fun k hk => by unfold updF; rw [if_neg (by omega)]; exact hid k (by omega), ⟨rfl, rfl, ie (by omega), ie (by omega), trivial⟩, S.drop 1⟩
      · try simp only [decide_eq_true_eq, decide_eq_false_iff_not, beq_iff_eq, bne_iff_ne, beq_eq_false_iff_ne, bne_eq_false_iff_eq, Bool.not_eq_true', Bool.not_eq_false', ne_eq, Decidable.not_not, Int.natCast_inj, Int.ofNat_lt, Int.ofNat_le, gt_iff_lt, ge_iff_le, Int.not_lt, Int.not_le] at hp
        rw [hp] at hsucc
        have e1 : keepN del (j + 1) = keepN del j := by rw [hsucc]; simp
        repeat refine cw_seq ?_
        refine cw_skip ?_
        try show CW _ _ _ _ _ _
        repeat refine cw_seq ?_
        refine cw_region ?_
        refine rw_v (op_pure rfl) ?_
        refine rw_v (op_rng rfl (by omega)) ?_
        refine rw_v (op_pure rfl) ?_
        first | refine rw_end ?_ | (refine rw_nil ?_; show CW _ _ _ _ _ _) | refine rw_nil ?_
        exact ⟨m - 1, by omega, j + 1, o, by omega, by rw [e1]; omega, by rw [e1, hkl]; exact ho, fun k hk => hid k (by omega), ⟨rfl, rfl, by rw [e1, hkl]; rfl, ie (by omega), trivial⟩, S.drop 1⟩
    · try simp only [decide_eq_true_eq, decide_eq_false_iff_not, beq_iff_eq, bne_iff_ne, beq_eq_false_iff_ne, bne_eq_false_iff_eq, Bool.not_eq_true', Bool.not_eq_false', ne_eq, Decidable.not_not, Int.natCast_inj, Int.ofNat_lt, Int.ofNat_le, gt_iff_lt, ge_iff_le, Int.not_lt, Int.not_le] at hc
      obtain rfl : j = n := by omega
      obtain ⟨b_A, hA0⟩ : ∃ b, A = some ⟨b, 0, none⟩ := by
        rcases (S.row (i := 0) rfl).form with ⟨_, h0, _⟩ | ⟨g, l, h, _⟩
        · omega
        · exact ⟨g, h⟩
      have hcap := (S.row (i := 0) rfl).cap
      have hz5 : (Value.agg #[.int .i64 0, .int .i64 0, .int .i64 0, .int .i64 0, .int .i64 0]).cells = ([.int .i64 0, .int .i64 0, .int .i64 0, .int .i64 0, .int .i64 0] : List Value).toArray := rfl
      subst hA0
      repeat refine cw_seq ?_
      refine cw_exit ?_
      repeat first | refine exit_then ?_ | refine exit_inb ?_
      show CW _ _ _ _ _ _
      repeat refine cw_seq ?_
      refine cw_region ?_
      iterate 2 refine rw_v (op_pure rfl) ?_
      refine rw_v (op_slice_l Try.underlying23 Try.sizeOf42 rfl rfl (by omega) (by omega) (by omega)) ?_
      rw [Int.toNat_natCast]
      refine rw_clearS (i := 0) (j := kl) (m := j - kl) S rfl Try.underlying23 (Try.zeroValue42) hz5 rfl rfl rfl (by omega) (by omega) rfl ?_
      intro w9 S
      first | refine rw_end ?_ | (refine rw_nil ?_; show CW _ _ _ _ _ _) | refine rw_nil ?_
      repeat refine cw_seq ?_
      refine cw_region ?_
      iterate 2 refine rw_v (op_pure rfl) ?_
      refine rw_v (op_slice_h (n := (kl : Nat)) Try.underlying23 Try.sizeOf42 rfl rfl (by omega) (by omega)) ?_
      rw [Int.toNat_natCast]
      refine rw_v (op_pure rfl) ?_
      first | refine rw_end ?_ | (refine rw_nil ?_; show CW _ _ _ _ _ _) | refine rw_nil ?_
      repeat refine cw_seq ?_
      refine cw_ret ?_
      repeat first | refine ret_then ?_ | refine ret_inb ?_
      have hrow := (S.row (i := 0) rfl).take (m := kl) (by omega)
      rw [List.take_append_of_le_length (by rw [List.length_take, rowE_len (k := 5) (fun _ => rfl)]; omega), List.take_take, Nat.min_self, rowE_takeT (k := 5) (fun _ => rfl) kl j (by omega), keepN_row ho] at hrow
      refine res1 rfl ?_
      rw [hkl]
      exact ⟨rfl, hrow, S.fr⟩
end
section
variable {W : World} {A B : Option Addr} {p gw gh cap n c c' : Nat} {cc : Nat → Int} {bs : Nat → Nat} {Rs : Nat → Option Nat}
theorem poverC_E (rb : Nat) (rise : Int) (a0 a1 a2 a3 a4 : Int) (hB : Blk W rb 2 [.int .i64 rise]) : Fn Try.prog 25 ([] ++ [.agg #[.int .i64 a0, .int .i64 a1, .int .i64 a2, .int .i64 a3, .int .i64 a4]] ++ [.pointer (some ⟨rb, 0, none⟩)]) W (RetG (.bool (decide (a4 < rise))) W) := by
  have S := St.start W
  refine Fn_enter Try.func25 rfl Try.results25 Try.ntmps25 (by kernel_rfl) (by kernel_rfl) ?_
  repeat refine cw_seq ?_
  refine cw_region ?_
  refine rw_newB (op_box rfl) S ?_
  intro b_a w2_ g2_ S
  refine rw_v (op_pure rfl) ?_
  first | refine rw_end ?_ | (refine rw_nil ?_; show CW _ _ _ _ _ _) | refine rw_nil ?_
  repeat refine cw_seq ?_
  refine cw_region ?_
  refine rw_v (op_fieldAddr Try.underlying42 rfl Try.sizeOf2 rfl rfl) ?_
  refine rw_r (op_loadB Try.underlying2 rfl rfl (S.blk (i := 0) rfl) rfl) ?_
  refine rw_r (op_loadB Try.underlying2 rfl rfl (hB.gr S.out) rfl) ?_
  first | refine rw_v (op_b (b := true) rfl (decide_eq_true (by omega))) ?_ | refine rw_v (op_b (b := false) rfl (decide_eq_false (by omega))) ?_ | refine rw_v (op_pure rfl) ?_
  refine rw_v (op_pure rfl) ?_
  first | refine rw_end ?_ | (refine rw_nil ?_; show CW _ _ _ _ _ _) | refine rw_nil ?_
  repeat refine cw_seq ?_
  refine cw_ret ?_
  repeat first | refine ret_then ?_ | refine ret_inb ?_
  exact res1 rfl ⟨rfl, S.out⟩
theorem pover_E (rise : Int) (hb : ∀ j, -2147483648 ≤ (gridL gw gh cc).getD j 0 ∧ (gridL gw gh cc).getD j 0 ≤ 2147483647) (hG : GridAt W p gw gh cc A cap bs Rs) :
    Fn Try.prog 9 [.pointer (some ⟨p, 0, none⟩), .int .i64 rise] W (RetNew (fun v => .tuple #[v, .int .i64 0]) 42 5 ((peaksL gw (gridL gw gh cc)).filter fun x => decide (rise ≤ x.rz)).length (((peaksL gw (gridL gw gh cc)).filter fun x => decide (rise ≤ x.rz)).flatMap (encPk gw)) W) := by
  have hw := hG.sw
  have hh := hG.sh
  have hm : gw * gh ≤ 1024 * 1024 := Nat.mul_le_mul hw.2 hh.2
  have hof := fun w (g : Gr W w) => pof_E hb (hG.gr g)
  have hLl : (peaksL gw (gridL gw gh cc)).length ≤ 1048576 := by
    unfold peaksL
    rw [List.length_map]
    have := headsN_len gw (gridL gw gh cc) (gridL gw gh cc).length
    rw [gridL_len] at *
    omega
  generalize peaksL gw (gridL gw gh cc) = L at *
  have hkm := keepN_map (fun x : Pk => decide (rise ≤ x.rz)) L
  have hdel : (fun i => !decide (rise ≤ (L.getD i default).rz)) = fun i => decide (pkT gw L 4 i < rise) := funext fun i => by
    show (!decide (rise ≤ (L.getD i default).rz)) = decide ((L.getD i default).rz < rise)
    rw [Bool.eq_iff_iff]; simp
  rw [hdel] at hkm
  rw [← hkm, List.length_map, List.flatMap_map]
  have he : (fun a => encPk gw (L.getD a default)) = encT (pkT gw L) := funext fun a => (pkT_enc gw L a).symm
  rw [he]
  rw [← rowE_pkT] at hof
  have S := St.start W
  refine Fn_enter Try.func9 rfl Try.results9 Try.ntmps9 (by kernel_rfl) (by kernel_rfl) ?_
  repeat refine cw_seq ?_
  refine cw_region ?_
  refine rw_newB (op_box rfl) S ?_
  intro b_rb w2_ g2_ S
  iterate 2 refine rw_v (op_pure rfl) ?_
  first | refine rw_end ?_ | (refine rw_nil ?_; show CW _ _ _ _ _ _) | refine rw_nil ?_
  repeat refine cw_seq ?_
  refine cw_region ?_
  refine rw_v (op_pure rfl) ?_
  refine rw_call rfl (hof w2_ S.out) ?_
  rintro _ w3_ ⟨A_al, c_al, rfl, hR_al, hf_al, g3_⟩
  have S := S.pushRow hR_al hf_al g3_
  iterate 5 refine rw_v (op_pure rfl) ?_
  first | refine rw_end ?_ | (refine rw_nil ?_; show CW _ _ _ _ _ _) | refine rw_nil ?_
  have hap : ¬ ownA A_al b_rb := fun h => S.sep.2.1 b_rb h (.blk b_rb 2 [.int .i64 rise]) (List.mem_cons_self) rfl
  have hclos := fun (i : Nat) (_ : i < L.length) (w' : World) (hF : Fr (ownA A_al) _ w') => poverC_E b_rb rise (pkT gw L 0 i) (pkT gw L 1 i) (pkT gw L 2 i) (pkT gw L 3 i) (pkT gw L 4 i) ((S.blk (i := 1) rfl).fr hF hap)
  repeat refine cw_seq ?_
  refine cw_region ?_
  iterate 2 refine rw_v (op_pure rfl) ?_
  refine rw_call rfl (pdel_E (del := fun i => decide (pkT gw L 4 i < rise)) (caps := [.pointer (some ⟨b_rb, 0, none⟩)]) hLl (S.row (i := 0) rfl) hclos) ?_
  rintro _ w4_ ⟨rfl, hR, hF⟩
  have S := S.set (i := 0) (h' := .row 42 5 A_al (keepN (fun i => decide (pkT gw L 4 i < rise)) L.length).length c_al ((keepN (fun i => decide (pkT gw L 4 i < rise)) L.length).flatMap (encT (pkT gw L)))) rfl rfl hF (fun g h => .inl h) hR (fun g h => .inl h)
  iterate 3 refine rw_v (op_pure rfl) ?_
  first | refine rw_end ?_ | (refine rw_nil ?_; show CW _ _ _ _ _ _) | refine rw_nil ?_
  repeat refine cw_seq ?_
  refine cw_ret ?_
  repeat first | refine ret_then ?_ | refine ret_inb ?_
  exact res2 rfl rfl (S.retNew (i := 0) (mk := fun v => .tuple #[v, .int .i64 0]) rfl)
set_option maxHeartbeats 2000000 in
theorem psame_E (gw : Nat) (L : List Pk) (hL : L.length ≤ 1048576) (hA : Rd W A (L.flatMap (encPk gw))) (hB : Rd W B (L.flatMap (encPk gw))) : Fn Try.prog 14 [.slice A L.length c, .slice B L.length c'] W (RetG (.bool true) W) := by
  have S := St.start W
  refine Fn_enter Try.func14 rfl Try.results14 Try.ntmps14 (by kernel_rfl) (by kernel_rfl) ?_
  repeat refine cw_seq ?_
  refine cw_region ?_
  refine rw_v (op_pure rfl) ?_
  first | refine rw_end ?_ | (refine rw_nil ?_; show CW _ _ _ _ _ _) | refine rw_nil ?_
  repeat refine cw_seq ?_
  refine cw_region ?_
  refine rw_v (op_pure rfl) ?_
  refine rw_v (op_len Try.underlying23 rfl) ?_
  refine rw_v (op_pure rfl) ?_
  refine rw_v (op_len Try.underlying44 rfl) ?_
  refine rw_v (op_b (b := false) rfl (bne_eq_false_iff_eq.2 (by omega))) ?_
  first | refine rw_end ?_ | (refine rw_nil ?_; show CW _ _ _ _ _ _) | refine rw_nil ?_
  repeat refine cw_seq ?_
  refine cw_false rfl ?_
  repeat refine cw_seq ?_
  refine cw_skip ?_
  try show CW _ _ _ _ _ _
  repeat refine cw_seq ?_
  refine cw_region ?_
  refine rw_v (op_pure rfl) ?_
  first | refine rw_end ?_ | (refine rw_nil ?_; show CW _ _ _ _ _ _) | refine rw_nil ?_
  repeat refine cw_seq ?_
  refine cw_block ?_
  repeat refine cw_seq ?_
  refine cw_loop (fun m e w => ∃ i : Nat, i + m = L.length ∧ SL e [(0, .slice A L.length c), (1, .slice B L.length c'), (5, .int .i64 i)] ∧ St No W w []) L.length ⟨0, by omega, ⟨rfl, rfl, rfl, trivial⟩, S⟩ ?_
  clear S
  rintro m e w ⟨i, hi, hsl, S⟩
  rw [hsl.fold]
  by_cases hin : i < L.length
  · have hfl : (L.flatMap (encPk gw)).length = L.length * 5 := by rw [← rowE_pkT, rowE_len (k := 5) (fun _ => rfl)]
    have sa_A : SomeA A := hA.someA (by rw [hfl]; omega)
    have sa_B : SomeA B := hB.someA (by rw [hfl]; omega)
    have g := fun r hr => pkT_get (gw := gw) hin r hr
    have g2 := g 2 (by omega)
    have g3 := g 3 (by omega)
    have g4 := g 4 (by omega)
    have g01 : ((L.flatMap (encPk gw)).drop ((i : Int).toNat * 5 + 0)).take 2 = [.int .i64 ((L.getD i default).fs % gw : Nat), .int .i64 ((L.getD i default).fs / gw : Nat)] := by
      apply List.ext_getElem?
      intro r
      rw [List.getElem?_take, List.getElem?_drop, Nat.add_assoc]
      match r with
      | 0 => rw [if_pos (by omega), g 0 (by omega)]; rfl
      | 1 => rw [if_pos (by omega), g 1 (by omega)]; rfl
      | r + 2 => rw [if_neg (by omega)]; rfl
    repeat refine cw_seq ?_
    refine cw_region ?_
    iterate 2 refine rw_v (op_pure rfl) ?_
    refine rw_v (op_len Try.underlying23 rfl) ?_
    refine rw_v (op_b (b := true) rfl (decide_eq_true (by omega))) ?_
    first | refine rw_end ?_ | (refine rw_nil ?_; show CW _ _ _ _ _ _) | refine rw_nil ?_
    repeat refine cw_seq ?_
    refine cw_true rfl ?_
    repeat refine cw_seq ?_
    refine cw_skip ?_
    try show CW _ _ _ _ _ _
    repeat refine cw_seq ?_
    refine cw_block ?_
    repeat refine cw_seq ?_
    refine cw_draw (C := fun wq => Gr w wq) [0, 1, 2, 3, 4, 5, 6, 7, 8, 9, 10, 11, 12, 13, 14, 15, 16, 17, 18, 19, 20, 21, 22, 23, 24, 25, 26, 27, 28, 29, 30, 31, 32, 33, 34, 35, 36, 37, 38, 39, 40, 41, 42, 43, 44, 45, 46, 47, 48, 49] [] (by kernel_rfl) (by kernel_rfl) (Gr.drew _) ?_
    simp only [pickL, List.drop_succ_cons, List.drop_zero]
    iterate 2 refine rq_v (op_pure rfl) ?_
    refine rq_v (op_idx Try.underlying23 Try.sizeOf42 rfl rfl sa_A (by omega) (by omega)) ?_
    refine rq_v (op_fld Try.underlying42 rfl Try.sizeOf40 rfl rfl sa_A) ?_
    refine rq_r (fun wq hq => op_ldRA Try.underlying40 rfl (Try.sizeOf40 _) rfl (hA.gr (S.gr hq).out) g01 rfl rfl) ?_
    iterate 2 refine rq_v (op_pure rfl) ?_
    refine rq_v (op_idx Try.underlying44 Try.sizeOf46 rfl rfl sa_B (by omega) (by omega)) ?_
    refine rq_v (op_fld Try.underlying46 rfl Try.sizeOf40 rfl rfl sa_B) ?_
    refine rq_r (fun wq hq => op_ldRA Try.underlying40 rfl (Try.sizeOf40 _) rfl (hB.gr (S.gr hq).out) g01 rfl rfl) ?_
    refine rq_v (op_neCell (r := false) rfl rfl (by rw [decide_eq_true ⟨rfl, rfl⟩]; rfl)) ?_
    refine rq_v (op_pure rfl) ?_
    first | refine rq_off rfl ?_ | (refine rq_on rfl ?_; refine rq_v (op_pure rfl) ?_)
    first | refine rq_off rfl ?_ | (refine rq_on rfl ?_; refine rq_v (op_pure rfl) ?_)
    first | refine rq_off rfl ?_ | (refine rq_on rfl ?_; refine rq_v (op_idx Try.underlying23 Try.sizeOf42 rfl rfl sa_A (by omega) (by omega)) ?_)
    first | refine rq_off rfl ?_ | (refine rq_on rfl ?_; refine rq_v (op_fld Try.underlying42 rfl Try.sizeOf2 rfl rfl sa_A) ?_)
    first | refine rq_off rfl ?_ | (refine rq_on rfl ?_; refine rq_r (fun wq hq => op_ldR Try.underlying2 rfl rfl (hA.gr (S.gr hq).out) g2) ?_)
    first | refine rq_off rfl ?_ | (refine rq_on rfl ?_; refine rq_v (op_pure rfl) ?_)
    first | refine rq_off rfl ?_ | (refine rq_on rfl ?_; refine rq_v (op_pure rfl) ?_)
    first | refine rq_off rfl ?_ | (refine rq_on rfl ?_; refine rq_v (op_idx Try.underlying44 Try.sizeOf46 rfl rfl sa_B (by omega) (by omega)) ?_)
    first | refine rq_off rfl ?_ | (refine rq_on rfl ?_; refine rq_v (op_fld Try.underlying46 rfl Try.sizeOf2 rfl rfl sa_B) ?_)
    first | refine rq_off rfl ?_ | (refine rq_on rfl ?_; refine rq_r (fun wq hq => op_ldR Try.underlying2 rfl rfl (hB.gr (S.gr hq).out) g2) ?_)
    first | refine rq_off rfl ?_ | (refine rq_on rfl ?_; refine rq_v (op_b (b := false) rfl (bne_eq_false_iff_eq.2 (by omega))) ?_)
    iterate 2 refine rq_v (op_pure rfl) ?_
    first | refine rq_off rfl ?_ | (refine rq_on rfl ?_; refine rq_v (op_pure rfl) ?_)
    first | refine rq_off rfl ?_ | (refine rq_on rfl ?_; refine rq_v (op_pure rfl) ?_)
    first | refine rq_off rfl ?_ | (refine rq_on rfl ?_; refine rq_v (op_idx Try.underlying23 Try.sizeOf42 rfl rfl sa_A (by omega) (by omega)) ?_)
    first | refine rq_off rfl ?_ | (refine rq_on rfl ?_; refine rq_v (op_fld Try.underlying42 rfl Try.sizeOf2 rfl rfl sa_A) ?_)
    first | refine rq_off rfl ?_ | (refine rq_on rfl ?_; refine rq_r (fun wq hq => op_ldR Try.underlying2 rfl rfl (hA.gr (S.gr hq).out) g3) ?_)
    first | refine rq_off rfl ?_ | (refine rq_on rfl ?_; refine rq_v (op_pure rfl) ?_)
    first | refine rq_off rfl ?_ | (refine rq_on rfl ?_; refine rq_v (op_pure rfl) ?_)
    first | refine rq_off rfl ?_ | (refine rq_on rfl ?_; refine rq_v (op_idx Try.underlying44 Try.sizeOf46 rfl rfl sa_B (by omega) (by omega)) ?_)
    first | refine rq_off rfl ?_ | (refine rq_on rfl ?_; refine rq_v (op_fld Try.underlying46 rfl Try.sizeOf2 rfl rfl sa_B) ?_)
    first | refine rq_off rfl ?_ | (refine rq_on rfl ?_; refine rq_r (fun wq hq => op_ldR Try.underlying2 rfl rfl (hB.gr (S.gr hq).out) g3) ?_)
    first | refine rq_off rfl ?_ | (refine rq_on rfl ?_; refine rq_v (op_b (b := false) rfl (bne_eq_false_iff_eq.2 (by omega))) ?_)
    iterate 2 refine rq_v (op_pure rfl) ?_
    first | refine rq_off rfl ?_ | (refine rq_on rfl ?_; refine rq_v (op_pure rfl) ?_)
    first | refine rq_off rfl ?_ | (refine rq_on rfl ?_; refine rq_v (op_pure rfl) ?_)
    first | refine rq_off rfl ?_ | (refine rq_on rfl ?_; refine rq_v (op_idx Try.underlying23 Try.sizeOf42 rfl rfl sa_A (by omega) (by omega)) ?_)
    first | refine rq_off rfl ?_ | (refine rq_on rfl ?_; refine rq_v (op_fld Try.underlying42 rfl Try.sizeOf2 rfl rfl sa_A) ?_)
    first | refine rq_off rfl ?_ | (refine rq_on rfl ?_; refine rq_r (fun wq hq => op_ldR Try.underlying2 rfl rfl (hA.gr (S.gr hq).out) g4) ?_)
    first | refine rq_off rfl ?_ | (refine rq_on rfl ?_; refine rq_v (op_pure rfl) ?_)
    first | refine rq_off rfl ?_ | (refine rq_on rfl ?_; refine rq_v (op_pure rfl) ?_)
    first | refine rq_off rfl ?_ | (refine rq_on rfl ?_; refine rq_v (op_idx Try.underlying44 Try.sizeOf46 rfl rfl sa_B (by omega) (by omega)) ?_)
    first | refine rq_off rfl ?_ | (refine rq_on rfl ?_; refine rq_v (op_fld Try.underlying46 rfl Try.sizeOf2 rfl rfl sa_B) ?_)
    first | refine rq_off rfl ?_ | (refine rq_on rfl ?_; refine rq_r (fun wq hq => op_ldR Try.underlying2 rfl rfl (hB.gr (S.gr hq).out) g4) ?_)
    first | refine rq_off rfl ?_ | (refine rq_on rfl ?_; refine rq_v (op_b (b := false) rfl (bne_eq_false_iff_eq.2 (by omega))) ?_)
    refine rq_v (op_pure rfl) ?_
    refine rq_nil ?_
    intro w1_ g1_
    have S := S.gr g1_
    first | refine rw_end ?_ | (refine rw_nil ?_; show CW _ _ _ _ _ _) | refine rw_nil ?_
    repeat refine cw_seq ?_
    refine cw_false rfl ?_
    repeat refine cw_seq ?_
    refine cw_skip ?_
    try show CW _ _ _ _ _ _
    repeat refine cw_seq ?_
    refine cw_region ?_
    refine rw_v (op_pure rfl) ?_
    refine rw_v (op_rng rfl (by omega)) ?_
    refine rw_v (op_pure rfl) ?_
    first | refine rw_end ?_ | (refine rw_nil ?_; show CW _ _ _ _ _ _) | refine rw_nil ?_
    exact ⟨m - 1, by omega, i + 1, by omega, ⟨rfl, rfl, ie (by omega), trivial⟩, S⟩
  · skip
    repeat refine cw_seq ?_
    refine cw_region ?_
    iterate 2 refine rw_v (op_pure rfl) ?_
    refine rw_v (op_len Try.underlying23 rfl) ?_
    refine rw_v (op_b (b := false) rfl (decide_eq_false (by omega))) ?_
    first | refine rw_end ?_ | (refine rw_nil ?_; show CW _ _ _ _ _ _) | refine rw_nil ?_
    repeat refine cw_seq ?_
    refine cw_false rfl ?_
    repeat refine cw_seq ?_
    refine cw_exit ?_
    repeat first | refine exit_then ?_ | refine exit_inb ?_
    show CW _ _ _ _ _ _
    repeat refine cw_seq ?_
    refine cw_region ?_
    refine rw_v (op_pure rfl) ?_
    first | refine rw_end ?_ | (refine rw_nil ?_; show CW _ _ _ _ _ _) | refine rw_nil ?_
    repeat refine cw_seq ?_
    refine cw_ret ?_
    repeat first | refine ret_then ?_ | refine ret_inb ?_
    exact res1 rfl ⟨rfl, S.out⟩
end
end Go.Proofs.Ytiidmiebckkloaa
