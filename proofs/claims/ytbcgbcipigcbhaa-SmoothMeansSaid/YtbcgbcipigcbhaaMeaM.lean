/- hachureref30.merged: sorted by halves. -/
import Derived.Test.YtbcgbcipigcbhaaMeaL
import Derived.Shelf.SortG.Plain
import Derived.Ground.SlgnProg
import Derived.Test.YtbcgbcipigcbhaaProg
import Derived.Test.YtbcgbcipigcbhaaMeaE
import Derived.Test.YtbcgbcipigcbhaaMeaK
import Derived.Test.YtbcgbcipigcbhaaMeaH
namespace Go.Proofs.Ytbcgbcipigcbhaa
open Go.RowKit
set_option linter.unusedVariables false
set_option linter.unusedSimpArgs false
set_option maxRecDepth 100000

def leB (x y : Int) : Bool := decide (x ≤ y)
theorem mrg_perm (xs ys : List Int) : (List.merge xs ys leB).Perm (xs ++ ys) := List.merge_perm_append leB
theorem mrg_sorted {xs ys : List Int} (h1 : xs.Pairwise (· ≤ ·)) (h2 : ys.Pairwise (· ≤ ·)) : (List.merge xs ys leB).Pairwise (· ≤ ·) := by
  have h := List.pairwise_merge (le := leB) (fun a b c h1 h2 => by unfold leB at *; simp at *; omega) (fun a b => by unfold leB; simp; omega) xs ys
    (h1.imp (fun h => by unfold leB; simpa using h)) (h2.imp (fun h => by unfold leB; simpa using h))
  exact h.imp (fun h => by unfold leB at h; simpa using h)
theorem drop_cons {l : List Int} {i : Nat} (h : i < l.length) : l.drop i = l.getD i 0 :: l.drop (i + 1) := by
  rw [List.drop_eq_getElem_cons h]
  congr 1
  rw [List.getD_eq_getElem?_getD, List.getElem?_eq_getElem h]
  rfl
theorem Rd.dropO {w : World} {b o : Nat} {xs : List Value} (h : Rd w (some ⟨b, o, none⟩) xs) (k : Nat) : Rd w (some ⟨b, o + k, none⟩) (xs.drop k) := by
  rcases h with rfl | ⟨b', o', e, hb, hc⟩
  · exact .inl (by simp)
  · cases e
    refine .inr ⟨b, o + k, rfl, hb, fun j v hj => ?_⟩
    rw [List.getElem?_drop] at hj
    rw [Nat.add_assoc]
    exact hc (k + j) v hj
theorem Rd.takeO {w : World} {A : Option Addr} {xs : List Value} (h : Rd w A xs) (n : Nat) : Rd w A (xs.take n) := by
  rcases h with rfl | ⟨b, o, h, hb, hc⟩
  · exact .inl (by simp)
  · refine .inr ⟨b, o, h, hb, fun j v hj => hc j v ?_⟩
    rw [List.getElem?_take] at hj
    split at hj
    · exact hj
    · cases hj
/-- a slice that holds a list sorted -/
def HV (n : Nat) (L : List Int) (wq : World) (v : Value) : Prop := ∃ M b o c, v = .slice (some ⟨b, o, none⟩) n c ∧ M.Perm L ∧ M.Pairwise (· ≤ ·) ∧ Rd wq (some ⟨b, o, none⟩) (ints M)
theorem HV.gr {n : Nat} {L : List Int} {w w' : World} {v : Value} (h : HV n L w v) (g : Gr w w') : HV n L w' v := by
  obtain ⟨M, b, o, c, e, h1, h2, h3⟩ := h
  exact ⟨M, b, o, c, e, h1, h2, h3.gr g⟩
def MC (W : World) (n1 n2 : Nat) (L1 L2 : List Int) (σ : List Value) (wq : World) : Prop := match σ with
  | [] => Gr W wq
  | [v] => Gr W wq ∧ HV n1 L1 wq v
  | [u, v] => Gr W wq ∧ HV n1 L1 wq v ∧ HV n2 L2 wq u
  | _ => False
set_option maxHeartbeats 4000000 in
theorem merged_E : ∀ (f : Nat) (L : List Int) (b o c : Nat) (W : World), 1 ≤ L.length → L.length ≤ f → L.length ≤ 1048576 → L.length ≤ c → Rd W (some ⟨b, o, none⟩) (ints L) →
    Fn Try.prog 149 [.slice (some ⟨b, o, none⟩) L.length c] W (fun v w' => HV L.length L w' v ∧ Gr W w') := by
  intro f
  induction f with
  | zero => intro L b o c W h1 hf; omega
  | succ f ih =>
    intro L b o c W h1 hf hm hc hR
    by_cases h2 : L.length < 2
    · have hs : L.Pairwise (· ≤ ·) := by
        cases L with
        | nil => exact List.Pairwise.nil
        | cons a l =>
          cases l with
          | nil => exact List.pairwise_singleton _ _
          | cons a' l => rw [List.length_cons, List.length_cons] at h2; omega
      have S := St.start W
      refine Fn_enter Try.func149 rfl Try.results149 Try.ntmps149 (by kernel_rfl) (by kernel_rfl) ?_
      repeat refine cw_seq ?_
      refine cw_region ?_
      refine rw_v (op_pure rfl) ?_
      first | refine rw_end ?_ | (refine rw_nil ?_; show CW _ _ _ _ _ _) | refine rw_nil ?_
      repeat refine cw_seq ?_
      refine cw_region ?_
      refine rw_v (op_pure rfl) ?_
      refine rw_v (op_len Try.underlying22 rfl) ?_
      refine rw_v (op_b (b := true) rfl (decide_eq_true (by omega))) ?_
      first | refine rw_end ?_ | (refine rw_nil ?_; show CW _ _ _ _ _ _) | refine rw_nil ?_
      repeat refine cw_seq ?_
      refine cw_true rfl ?_
      repeat refine cw_seq ?_
      refine cw_region ?_
      iterate 2 refine rw_v (op_pure rfl) ?_
      first | refine rw_end ?_ | (refine rw_nil ?_; show CW _ _ _ _ _ _) | refine rw_nil ?_
      repeat refine cw_seq ?_
      refine cw_ret ?_
      repeat first | refine ret_then ?_ | refine ret_inb ?_
      exact res1 rfl ⟨⟨L, b, o, c, rfl, List.Perm.refl _, hs, hR.gr S.out⟩, S.out⟩
    · obtain ⟨n1, hn1⟩ : ∃ n1, n1 = L.length / 2 := ⟨_, rfl⟩
      have ed : (L.length : Int) / 2 = ((n1 : Nat) : Int) := by omega
      have l1 : (L.take n1).length = n1 := by rw [List.length_take]; omega
      have l2 : (L.drop n1).length = L.length - n1 := by rw [List.length_drop]
      have hR1 : Rd W (some ⟨b, o, none⟩) (ints (L.take n1)) := by
        have := hR.takeO n1
        rw [show (ints L).take n1 = ints (L.take n1) by unfold ints; rw [List.map_take]] at this
        exact this
      have hR2 : Rd W (some ⟨b, o + n1, none⟩) (ints (L.drop n1)) := by
        have := hR.dropO n1
        rw [show (ints L).drop n1 = ints (L.drop n1) by unfold ints; rw [List.map_drop]] at this
        exact this
      have k1 := fun w (g : Gr W w) => ih (L.take n1) b o c w (by omega) (by omega) (by omega) (by omega) (hR1.gr g)
      have k2 := fun w (g : Gr W w) => ih (L.drop n1) b (o + n1) (c - n1) w (by omega) (by omega) (by omega) (by omega) (hR2.gr g)
      rw [l1] at k1
      rw [l2] at k2
      obtain ⟨n2, hn2⟩ : ∃ n2, n2 = L.length - n1 := ⟨_, rfl⟩
      rw [← hn2] at k2 l2
      have htd : L.take n1 ++ L.drop n1 = L := List.take_append_drop _ _
      generalize L.take n1 = L1 at *
      generalize L.drop n1 = L2 at *
      have S := St.start W
      refine Fn_enter Try.func149 rfl Try.results149 Try.ntmps149 (by kernel_rfl) (by kernel_rfl) ?_
      repeat refine cw_seq ?_
      refine cw_region ?_
      refine rw_v (op_pure rfl) ?_
      first | refine rw_end ?_ | (refine rw_nil ?_; show CW _ _ _ _ _ _) | refine rw_nil ?_
      repeat refine cw_seq ?_
      refine cw_region ?_
      refine rw_v (op_pure rfl) ?_
      refine rw_v (op_len Try.underlying22 rfl) ?_
      refine rw_v (op_b (b := false) rfl (decide_eq_false (by omega))) ?_
      first | refine rw_end ?_ | (refine rw_nil ?_; show CW _ _ _ _ _ _) | refine rw_nil ?_
      repeat refine cw_seq ?_
      refine cw_false rfl ?_
      repeat refine cw_seq ?_
      refine cw_skip ?_
      try show CW _ _ _ _ _ _
      repeat refine cw_seq ?_
      refine cw_tri (C := (MC W n1 n2 L1 L2)) [5, 11] [0, 1, 2, 3, 4, 6, 7, 8, 9, 10, 5, 11, 12] [13] (by kernel_rfl) (by kernel_rfl) (S.out.trans (Gr.drew _)) ?_
      simp only [pickI, pickL, List.drop_succ_cons, List.drop_zero]
      refine rs_v rfl (op_pure rfl) ?_
      refine rs_v rfl (op_pure rfl) ?_
      refine rs_v rfl (op_len Try.underlying22 rfl) ?_
      refine rs_v rfl (op_div rfl rfl (by omega) (by omega)) ?_
      rw [ed]
      refine rs_v rfl (op_slice_h Try.underlying22 (Try.sizeOf2 ·) rfl rfl (by omega) (by omega)) ?_
      rw [Int.toNat_natCast]
      refine rs_v rfl (op_pure rfl) ?_
      refine rs_v rfl (op_pure rfl) ?_
      refine rs_v rfl (op_len Try.underlying22 rfl) ?_
      refine rs_v rfl (op_div rfl rfl (by omega) (by omega)) ?_
      rw [ed]
      refine rs_v rfl (op_slice_l Try.underlying22 (Try.sizeOf2 ·) rfl rfl (by omega) (by omega) (by omega)) ?_
      rw [Int.toNat_natCast, Nat.mul_one, ← hn2]
      refine rs_special rfl rfl (fun wq hq => to_call rfl ((k1 wq hq).mono (fun v w' h => ⟨Gr.trans hq h.2, h.1⟩))) ?_
      rintro v5 w5 ⟨_, M1, b1, o1, c1, rfl, _⟩
      refine rs_special rfl rfl (fun wq hq => to_call rfl ((k2 wq hq.1).mono (fun v w' h => ⟨Gr.trans hq.1 h.2, hq.2.gr h.2, h.1⟩))) ?_
      rintro v11 w11 ⟨_, _, M2, b2, o2, c2, rfl, _⟩
      refine rs_v rfl (op_pure rfl) ?_
      refine rs_nil ?_
      rintro wz hz
      obtain ⟨G, ⟨N1, _, _, _, e1, hp1, hs1, hr1⟩, N2, _, _, _, e2, hp2, hs2, hr2⟩ := hz
      cases e1
      cases e2
      have S := St.start wz
      refine rw_v (op_pure rfl) ?_
      first | refine rw_end ?_ | (refine rw_nil ?_; show CW _ _ _ _ _ _) | refine rw_nil ?_
      repeat refine cw_seq ?_
      refine cw_region ?_
      refine rw_buildS0 Try.underlying22 Try.sizeOf2 S ?_
      intro A_o w3_ g3_ S sa_o
      refine rw_v (op_pure rfl) ?_
      first | refine rw_end ?_ | (refine rw_nil ?_; show CW _ _ _ _ _ _) | refine rw_nil ?_
      repeat refine cw_seq ?_
      refine cw_region ?_
      iterate 2 refine rw_v (op_pure rfl) ?_
      first | refine rw_end ?_ | (refine rw_nil ?_; show CW _ _ _ _ _ _) | refine rw_nil ?_
      repeat refine cw_seq ?_
      refine cw_block ?_
      repeat refine cw_seq ?_
      have q1 : N1.length = n1 := by rw [hp1.length_eq, l1]
      have q2 : N2.length = n2 := by rw [hp2.length_eq, l2]
      have S := S
      refine cw_loop (fun m e w => ∃ (i j : Nat) (O : List Int) (A_o : Option Addr) (c_o : Nat), i + j + m = n1 + n2 ∧ i ≤ n1 ∧ j ≤ n2 ∧ O.length = i + j ∧ O ++ List.merge (N1.drop i) (N2.drop j) leB = List.merge N1 N2 leB ∧
        SL e [(3, .slice (some ⟨b1, o1, none⟩) n1 c1), (4, .slice (some ⟨b2, o2, none⟩) n2 c2), (5, .slice A_o O.length c_o), (6, .int .i64 i), (7, .int .i64 j)] ∧ St No wz w [.row 2 1 A_o O.length c_o (ints O)]) (n1 + n2)
        ⟨0, 0, [], _, _, by omega, by omega, by omega, rfl, rfl, ⟨rfl, rfl, rfl, rfl, rfl, trivial⟩, S⟩ ?_
      clear S
      rintro m e w ⟨i, j, O, A_o, c_o, hijm, hi, hj, hOl, hO, hsl, S⟩
      rw [hsl.fold]
      have sa_P : SomeA (some ⟨b1, o1, none⟩) := ⟨b1, o1, rfl⟩
      have sa_Q : SomeA (some ⟨b2, o2, none⟩) := ⟨b2, o2, rfl⟩
      have dgi := fun h : i < N1.length => drop_cons h
      have dgj := fun h : j < N2.length => drop_cons h
      have gi : i < n1 → (ints N1)[(i : Int).toNat * 1]? = some (.int .i64 (N1.getD i 0)) := fun h => by rw [Nat.mul_one, Int.toNat_natCast]; exact ints_get (getD_at (by omega))
      have gj : j < n2 → (ints N2)[(j : Int).toNat * 1]? = some (.int .i64 (N2.getD j 0)) := fun h => by rw [Nat.mul_one, Int.toNat_natCast]; exact ints_get (getD_at (by omega))
      have di : ¬ i < n1 → N1.drop i = [] := fun h => List.drop_eq_nil_of_le (by omega)
      have dj : ¬ j < n2 → N2.drop j = [] := fun h => List.drop_eq_nil_of_le (by omega)
      by_cases hj2 : j < n2
      · by_cases hi2 : i < n1
        · have gi := gi hi2
          have gj := gj hj2
          have dgi := dgi (by omega)
          have dgj := dgj (by omega)
          generalize N1.getD i 0 = x at *
          generalize N2.getD j 0 = y at *
          by_cases hxy : x ≤ y
          · have e9 : List.merge (N1.drop i) (N2.drop j) leB = x :: List.merge (N1.drop (i + 1)) (N2.drop j) leB := by
              rw [dgi, dgj, List.cons_merge_cons_pos leB _ _ (by unfold leB; simpa using hxy)]
            rw [e9] at hO
            repeat refine cw_seq ?_
            refine cw_region ?_
            iterate 2 refine rw_v (op_pure rfl) ?_
            refine rw_v (op_len Try.underlying22 rfl) ?_
            first | refine rw_v (op_b (b := true) rfl (decide_eq_true (by omega))) ?_ | refine rw_v (op_b (b := false) rfl (decide_eq_false (by omega))) ?_ | refine rw_v (op_pure rfl) ?_
            refine rw_v (op_pure rfl) ?_
            first | refine rw_off rfl ?_ | (refine rw_on rfl ?_; refine rw_v (op_pure rfl) ?_)
            first | refine rw_off rfl ?_ | (refine rw_on rfl ?_; refine rw_v (op_pure rfl) ?_)
            first | refine rw_off rfl ?_ | (refine rw_on rfl ?_; refine rw_v (op_len Try.underlying22 rfl) ?_)
            first | refine rw_off rfl ?_ | (refine rw_on rfl ?_; (first | refine rw_v (op_b (b := true) rfl (decide_eq_true (by omega))) ?_ | refine rw_v (op_b (b := false) rfl (decide_eq_false (by omega))) ?_ | refine rw_v (op_pure rfl) ?_))
            refine rw_v (op_pure rfl) ?_
            first | refine rw_end ?_ | (refine rw_nil ?_; show CW _ _ _ _ _ _) | refine rw_nil ?_
            repeat refine cw_seq ?_
            refine cw_true rfl ?_
            repeat refine cw_seq ?_
            refine cw_skip ?_
            try show CW _ _ _ _ _ _
            repeat refine cw_seq ?_
            refine cw_block ?_
            repeat refine cw_seq ?_
            refine cw_draw (C := fun wq => Gr w wq) [0, 1, 2, 3, 4, 5, 6, 7, 8, 9, 10, 11, 12, 13, 14, 15, 16, 17, 18, 19, 20] [] (by kernel_rfl) (by kernel_rfl) (Gr.drew _) ?_
            simp only [pickL, List.drop_succ_cons, List.drop_zero]
            iterate 2 refine rq_v (op_pure rfl) ?_
            refine rq_v (op_len Try.underlying22 rfl) ?_
            first | refine rq_v (op_b (b := true) rfl (beq_iff_eq.2 (by omega))) ?_ | refine rq_v (op_b (b := false) rfl (beq_eq_false_iff_ne.2 (by omega))) ?_ | refine rq_v (op_pure rfl) ?_
            refine rq_v (op_pure rfl) ?_
            first | refine rq_off rfl ?_ | (refine rq_on rfl ?_; refine rq_v (op_pure rfl) ?_)
            first | refine rq_off rfl ?_ | (refine rq_on rfl ?_; refine rq_v (op_pure rfl) ?_)
            first | refine rq_off rfl ?_ | (refine rq_on rfl ?_; refine rq_v (op_len Try.underlying22 rfl) ?_)
            first | refine rq_off rfl ?_ | (refine rq_on rfl ?_; (first | refine rq_v (op_b (b := true) rfl (decide_eq_true (by omega))) ?_ | refine rq_v (op_b (b := false) rfl (decide_eq_false (by omega))) ?_ | refine rq_v (op_pure rfl) ?_))
            first | refine rq_off rfl ?_ | (refine rq_on rfl ?_; refine rq_v (op_pure rfl) ?_)
            first | refine rq_off rfl ?_ | (refine rq_on rfl ?_; refine rq_v (op_pure rfl) ?_)
            first | refine rq_off rfl ?_ | (refine rq_on rfl ?_; refine rq_v (op_pure rfl) ?_)
            first | refine rq_off rfl ?_ | (refine rq_on rfl ?_; refine rq_v (op_idx Try.underlying22 Try.sizeOf2 rfl rfl sa_P (by omega) (by omega)) ?_)
            first | refine rq_off rfl ?_ | (refine rq_on rfl ?_; refine rq_r (fun wq hq => op_ldR Try.underlying2 rfl rfl (hr1.gr (S.gr hq).out) gi) ?_)
            first | refine rq_off rfl ?_ | (refine rq_on rfl ?_; refine rq_v (op_pure rfl) ?_)
            first | refine rq_off rfl ?_ | (refine rq_on rfl ?_; refine rq_v (op_pure rfl) ?_)
            first | refine rq_off rfl ?_ | (refine rq_on rfl ?_; refine rq_v (op_idx Try.underlying22 Try.sizeOf2 rfl rfl sa_Q (by omega) (by omega)) ?_)
            first | refine rq_off rfl ?_ | (refine rq_on rfl ?_; refine rq_r (fun wq hq => op_ldR Try.underlying2 rfl rfl (hr2.gr (S.gr hq).out) gj) ?_)
            first | refine rq_off rfl ?_ | (refine rq_on rfl ?_; (first | refine rq_v (op_b (b := true) rfl (decide_eq_true (by omega))) ?_ | refine rq_v (op_b (b := false) rfl (decide_eq_false (by omega))) ?_ | refine rq_v (op_pure rfl) ?_))
            first | refine rq_off rfl ?_ | (refine rq_on rfl ?_; refine rq_v (op_pure rfl) ?_)
            refine rq_v (op_pure rfl) ?_
            refine rq_nil ?_
            intro w4_ g4_
            have S := S.gr g4_
            first | refine rw_end ?_ | (refine rw_nil ?_; show CW _ _ _ _ _ _) | refine rw_nil ?_
            repeat refine cw_seq ?_
            refine cw_true rfl ?_
            repeat refine cw_seq ?_
            refine cw_region ?_
            iterate 3 refine rw_v (op_pure rfl) ?_
            refine rw_v (op_idx Try.underlying22 Try.sizeOf2 rfl rfl sa_P (by omega) (by omega)) ?_
            refine rw_r (op_ldR Try.underlying2 rfl rfl (hr1.gr S.out) gi) ?_
            refine rw_buildS Try.underlying22 Try.sizeOf2 Try.zeroValue2 rfl rfl rfl rfl rfl rfl S ?_
            intro A_lit w6_ g6_ S sa_lit
            refine rw_appS (i := 1) S rfl (fun h => rfl) Try.underlying22 info_t2 rfl rfl rfl rfl (by simp) (by omega) (S.rd (i := 0) rfl) rfl (by omega) ?_
            intro A_o2 c_o2 w7_ S sa_o
            refine rw_v (op_pure rfl) ?_
            first | refine rw_end ?_ | (refine rw_nil ?_; show CW _ _ _ _ _ _) | refine rw_nil ?_
            repeat refine cw_seq ?_
            refine cw_region ?_
            refine rw_v (op_pure rfl) ?_
            refine rw_v (op_rng rfl (by omega)) ?_
            refine rw_v (op_pure rfl) ?_
            first | refine rw_end ?_ | (refine rw_nil ?_; show CW _ _ _ _ _ _) | refine rw_nil ?_
            have S := S.sub (.cons _ (.cons_cons _ (.slnil)))
            refine ⟨m - 1, by omega, i + 1, j, O ++ [x], A_o2, c_o2, by omega, by omega, by omega, by rw [List.length_append, List.length_singleton]; omega, ?_, ⟨rfl, rfl, by rw [List.length_append]; rfl, ie (by omega), rfl, trivial⟩, ?_⟩
            · rw [List.append_assoc]; exact hO
            · rw [List.length_append, ← ints_app]; exact S
          · have e9 : List.merge (N1.drop i) (N2.drop j) leB = y :: List.merge (N1.drop i) (N2.drop (j + 1)) leB := by
              rw [dgi, dgj, List.cons_merge_cons_neg leB _ _ (by unfold leB; simpa using hxy)]
            rw [e9] at hO
            repeat refine cw_seq ?_
            refine cw_region ?_
            iterate 2 refine rw_v (op_pure rfl) ?_
            refine rw_v (op_len Try.underlying22 rfl) ?_
            first | refine rw_v (op_b (b := true) rfl (decide_eq_true (by omega))) ?_ | refine rw_v (op_b (b := false) rfl (decide_eq_false (by omega))) ?_ | refine rw_v (op_pure rfl) ?_
            refine rw_v (op_pure rfl) ?_
            first | refine rw_off rfl ?_ | (refine rw_on rfl ?_; refine rw_v (op_pure rfl) ?_)
            first | refine rw_off rfl ?_ | (refine rw_on rfl ?_; refine rw_v (op_pure rfl) ?_)
            first | refine rw_off rfl ?_ | (refine rw_on rfl ?_; refine rw_v (op_len Try.underlying22 rfl) ?_)
            first | refine rw_off rfl ?_ | (refine rw_on rfl ?_; (first | refine rw_v (op_b (b := true) rfl (decide_eq_true (by omega))) ?_ | refine rw_v (op_b (b := false) rfl (decide_eq_false (by omega))) ?_ | refine rw_v (op_pure rfl) ?_))
            refine rw_v (op_pure rfl) ?_
            first | refine rw_end ?_ | (refine rw_nil ?_; show CW _ _ _ _ _ _) | refine rw_nil ?_
            repeat refine cw_seq ?_
            refine cw_true rfl ?_
            repeat refine cw_seq ?_
            refine cw_skip ?_
            try show CW _ _ _ _ _ _
            repeat refine cw_seq ?_
            refine cw_block ?_
            repeat refine cw_seq ?_
            refine cw_draw (C := fun wq => Gr w wq) [0, 1, 2, 3, 4, 5, 6, 7, 8, 9, 10, 11, 12, 13, 14, 15, 16, 17, 18, 19, 20] [] (by kernel_rfl) (by kernel_rfl) (Gr.drew _) ?_
            simp only [pickL, List.drop_succ_cons, List.drop_zero]
            iterate 2 refine rq_v (op_pure rfl) ?_
            refine rq_v (op_len Try.underlying22 rfl) ?_
            first | refine rq_v (op_b (b := true) rfl (beq_iff_eq.2 (by omega))) ?_ | refine rq_v (op_b (b := false) rfl (beq_eq_false_iff_ne.2 (by omega))) ?_ | refine rq_v (op_pure rfl) ?_
            refine rq_v (op_pure rfl) ?_
            first | refine rq_off rfl ?_ | (refine rq_on rfl ?_; refine rq_v (op_pure rfl) ?_)
            first | refine rq_off rfl ?_ | (refine rq_on rfl ?_; refine rq_v (op_pure rfl) ?_)
            first | refine rq_off rfl ?_ | (refine rq_on rfl ?_; refine rq_v (op_len Try.underlying22 rfl) ?_)
            first | refine rq_off rfl ?_ | (refine rq_on rfl ?_; (first | refine rq_v (op_b (b := true) rfl (decide_eq_true (by omega))) ?_ | refine rq_v (op_b (b := false) rfl (decide_eq_false (by omega))) ?_ | refine rq_v (op_pure rfl) ?_))
            first | refine rq_off rfl ?_ | (refine rq_on rfl ?_; refine rq_v (op_pure rfl) ?_)
            first | refine rq_off rfl ?_ | (refine rq_on rfl ?_; refine rq_v (op_pure rfl) ?_)
            first | refine rq_off rfl ?_ | (refine rq_on rfl ?_; refine rq_v (op_pure rfl) ?_)
            first | refine rq_off rfl ?_ | (refine rq_on rfl ?_; refine rq_v (op_idx Try.underlying22 Try.sizeOf2 rfl rfl sa_P (by omega) (by omega)) ?_)
            first | refine rq_off rfl ?_ | (refine rq_on rfl ?_; refine rq_r (fun wq hq => op_ldR Try.underlying2 rfl rfl (hr1.gr (S.gr hq).out) gi) ?_)
            first | refine rq_off rfl ?_ | (refine rq_on rfl ?_; refine rq_v (op_pure rfl) ?_)
            first | refine rq_off rfl ?_ | (refine rq_on rfl ?_; refine rq_v (op_pure rfl) ?_)
            first | refine rq_off rfl ?_ | (refine rq_on rfl ?_; refine rq_v (op_idx Try.underlying22 Try.sizeOf2 rfl rfl sa_Q (by omega) (by omega)) ?_)
            first | refine rq_off rfl ?_ | (refine rq_on rfl ?_; refine rq_r (fun wq hq => op_ldR Try.underlying2 rfl rfl (hr2.gr (S.gr hq).out) gj) ?_)
            first | refine rq_off rfl ?_ | (refine rq_on rfl ?_; (first | refine rq_v (op_b (b := true) rfl (decide_eq_true (by omega))) ?_ | refine rq_v (op_b (b := false) rfl (decide_eq_false (by omega))) ?_ | refine rq_v (op_pure rfl) ?_))
            first | refine rq_off rfl ?_ | (refine rq_on rfl ?_; refine rq_v (op_pure rfl) ?_)
            refine rq_v (op_pure rfl) ?_
            refine rq_nil ?_
            intro w8_ g8_
            have S := S.gr g8_
            first | refine rw_end ?_ | (refine rw_nil ?_; show CW _ _ _ _ _ _) | refine rw_nil ?_
            repeat refine cw_seq ?_
            refine cw_false rfl ?_
            repeat refine cw_seq ?_
            refine cw_region ?_
            iterate 3 refine rw_v (op_pure rfl) ?_
            refine rw_v (op_idx Try.underlying22 Try.sizeOf2 rfl rfl sa_Q (by omega) (by omega)) ?_
            refine rw_r (op_ldR Try.underlying2 rfl rfl (hr2.gr S.out) gj) ?_
            refine rw_buildS Try.underlying22 Try.sizeOf2 Try.zeroValue2 rfl rfl rfl rfl rfl rfl S ?_
            intro A_lit w10_ g10_ S sa_lit
            refine rw_appS (i := 1) S rfl (fun h => rfl) Try.underlying22 info_t2 rfl rfl rfl rfl (by simp) (by omega) (S.rd (i := 0) rfl) rfl (by omega) ?_
            intro A_o2 c_o2 w11_ S sa_o
            refine rw_v (op_pure rfl) ?_
            first | refine rw_end ?_ | (refine rw_nil ?_; show CW _ _ _ _ _ _) | refine rw_nil ?_
            repeat refine cw_seq ?_
            refine cw_region ?_
            refine rw_v (op_pure rfl) ?_
            refine rw_v (op_rng rfl (by omega)) ?_
            refine rw_v (op_pure rfl) ?_
            first | refine rw_end ?_ | (refine rw_nil ?_; show CW _ _ _ _ _ _) | refine rw_nil ?_
            have S := S.sub (.cons _ (.cons_cons _ (.slnil)))
            refine ⟨m - 1, by omega, i, j + 1, O ++ [y], A_o2, c_o2, by omega, by omega, by omega, by rw [List.length_append, List.length_singleton]; omega, ?_, ⟨rfl, rfl, by rw [List.length_append]; rfl, rfl, ie (by omega), trivial⟩, ?_⟩
            · rw [List.append_assoc]; exact hO
            · rw [List.length_append, ← ints_app]; exact S
        · have gj := gj hj2
          have dgj := dgj (by omega)
          have e9 : List.merge (N1.drop i) (N2.drop j) leB = N2.getD j 0 :: List.merge (N1.drop i) (N2.drop (j + 1)) leB := by
            rw [di hi2, dgj, List.nil_merge, List.nil_merge]
          generalize N2.getD j 0 = y at *
          rw [e9] at hO
          repeat refine cw_seq ?_
          refine cw_region ?_
          iterate 2 refine rw_v (op_pure rfl) ?_
          refine rw_v (op_len Try.underlying22 rfl) ?_
          first | refine rw_v (op_b (b := true) rfl (decide_eq_true (by omega))) ?_ | refine rw_v (op_b (b := false) rfl (decide_eq_false (by omega))) ?_ | refine rw_v (op_pure rfl) ?_
          refine rw_v (op_pure rfl) ?_
          first | refine rw_off rfl ?_ | (refine rw_on rfl ?_; refine rw_v (op_pure rfl) ?_)
          first | refine rw_off rfl ?_ | (refine rw_on rfl ?_; refine rw_v (op_pure rfl) ?_)
          first | refine rw_off rfl ?_ | (refine rw_on rfl ?_; refine rw_v (op_len Try.underlying22 rfl) ?_)
          first | refine rw_off rfl ?_ | (refine rw_on rfl ?_; (first | refine rw_v (op_b (b := true) rfl (decide_eq_true (by omega))) ?_ | refine rw_v (op_b (b := false) rfl (decide_eq_false (by omega))) ?_ | refine rw_v (op_pure rfl) ?_))
          refine rw_v (op_pure rfl) ?_
          first | refine rw_end ?_ | (refine rw_nil ?_; show CW _ _ _ _ _ _) | refine rw_nil ?_
          repeat refine cw_seq ?_
          refine cw_true rfl ?_
          repeat refine cw_seq ?_
          refine cw_skip ?_
          try show CW _ _ _ _ _ _
          repeat refine cw_seq ?_
          refine cw_block ?_
          repeat refine cw_seq ?_
          refine cw_draw (C := fun wq => Gr w wq) [0, 1, 2, 3, 4, 5, 6, 7, 8, 9, 10, 11, 12, 13, 14, 15, 16, 17, 18, 19, 20] [] (by kernel_rfl) (by kernel_rfl) (Gr.drew _) ?_
          simp only [pickL, List.drop_succ_cons, List.drop_zero]
          iterate 2 refine rq_v (op_pure rfl) ?_
          refine rq_v (op_len Try.underlying22 rfl) ?_
          first | refine rq_v (op_b (b := true) rfl (beq_iff_eq.2 (by omega))) ?_ | refine rq_v (op_b (b := false) rfl (beq_eq_false_iff_ne.2 (by omega))) ?_ | refine rq_v (op_pure rfl) ?_
          refine rq_v (op_pure rfl) ?_
          first | refine rq_off rfl ?_ | (refine rq_on rfl ?_; refine rq_v (op_pure rfl) ?_)
          first | refine rq_off rfl ?_ | (refine rq_on rfl ?_; refine rq_v (op_pure rfl) ?_)
          first | refine rq_off rfl ?_ | (refine rq_on rfl ?_; refine rq_v (op_len Try.underlying22 rfl) ?_)
          first | refine rq_off rfl ?_ | (refine rq_on rfl ?_; (first | refine rq_v (op_b (b := true) rfl (decide_eq_true (by omega))) ?_ | refine rq_v (op_b (b := false) rfl (decide_eq_false (by omega))) ?_ | refine rq_v (op_pure rfl) ?_))
          first | refine rq_off rfl ?_ | (refine rq_on rfl ?_; refine rq_v (op_pure rfl) ?_)
          first | refine rq_off rfl ?_ | (refine rq_on rfl ?_; refine rq_v (op_pure rfl) ?_)
          first | refine rq_off rfl ?_ | (refine rq_on rfl ?_; refine rq_v (op_pure rfl) ?_)
          first | refine rq_off rfl ?_ | (refine rq_on rfl ?_; refine rq_v (op_idx Try.underlying22 Try.sizeOf2 rfl rfl sa_P (by omega) (by omega)) ?_)
          first | refine rq_off rfl ?_ | (refine rq_on rfl ?_; refine rq_r (fun wq hq => op_ldR Try.underlying2 rfl rfl (hr1.gr (S.gr hq).out) (by assumption)) ?_)
          first | refine rq_off rfl ?_ | (refine rq_on rfl ?_; refine rq_v (op_pure rfl) ?_)
          first | refine rq_off rfl ?_ | (refine rq_on rfl ?_; refine rq_v (op_pure rfl) ?_)
          first | refine rq_off rfl ?_ | (refine rq_on rfl ?_; refine rq_v (op_idx Try.underlying22 Try.sizeOf2 rfl rfl sa_Q (by omega) (by omega)) ?_)
          first | refine rq_off rfl ?_ | (refine rq_on rfl ?_; refine rq_r (fun wq hq => op_ldR Try.underlying2 rfl rfl (hr2.gr (S.gr hq).out) (by assumption)) ?_)
          first | refine rq_off rfl ?_ | (refine rq_on rfl ?_; (first | refine rq_v (op_b (b := true) rfl (decide_eq_true (by omega))) ?_ | refine rq_v (op_b (b := false) rfl (decide_eq_false (by omega))) ?_ | refine rq_v (op_pure rfl) ?_))
          first | refine rq_off rfl ?_ | (refine rq_on rfl ?_; refine rq_v (op_pure rfl) ?_)
          refine rq_v (op_pure rfl) ?_
          refine rq_nil ?_
          intro w12_ g12_
          have S := S.gr g12_
          first | refine rw_end ?_ | (refine rw_nil ?_; show CW _ _ _ _ _ _) | refine rw_nil ?_
          repeat refine cw_seq ?_
          refine cw_false rfl ?_
          repeat refine cw_seq ?_
          refine cw_region ?_
          iterate 3 refine rw_v (op_pure rfl) ?_
          refine rw_v (op_idx Try.underlying22 Try.sizeOf2 rfl rfl sa_Q (by omega) (by omega)) ?_
          refine rw_r (op_ldR Try.underlying2 rfl rfl (hr2.gr S.out) gj) ?_
          refine rw_buildS Try.underlying22 Try.sizeOf2 Try.zeroValue2 rfl rfl rfl rfl rfl rfl S ?_
          intro A_lit w14_ g14_ S sa_lit
          refine rw_appS (i := 1) S rfl (fun h => rfl) Try.underlying22 info_t2 rfl rfl rfl rfl (by simp) (by omega) (S.rd (i := 0) rfl) rfl (by omega) ?_
          intro A_o2 c_o2 w15_ S sa_o
          refine rw_v (op_pure rfl) ?_
          first | refine rw_end ?_ | (refine rw_nil ?_; show CW _ _ _ _ _ _) | refine rw_nil ?_
          repeat refine cw_seq ?_
          refine cw_region ?_
          refine rw_v (op_pure rfl) ?_
          refine rw_v (op_rng rfl (by omega)) ?_
          refine rw_v (op_pure rfl) ?_
          first | refine rw_end ?_ | (refine rw_nil ?_; show CW _ _ _ _ _ _) | refine rw_nil ?_
          have S := S.sub (.cons _ (.cons_cons _ (.slnil)))
          refine ⟨m - 1, by omega, i, j + 1, O ++ [y], A_o2, c_o2, by omega, by omega, by omega, by rw [List.length_append, List.length_singleton]; omega, ?_, ⟨rfl, rfl, by rw [List.length_append]; rfl, rfl, ie (by omega), trivial⟩, ?_⟩
          · rw [List.append_assoc]; exact hO
          · rw [List.length_append, ← ints_app]; exact S
      · by_cases hi2 : i < n1
        · have gi := gi hi2
          have dgi := dgi (by omega)
          have e9 : List.merge (N1.drop i) (N2.drop j) leB = N1.getD i 0 :: List.merge (N1.drop (i + 1)) (N2.drop j) leB := by
            rw [dj hj2, dgi, List.merge_right, List.merge_right]
          generalize N1.getD i 0 = x at *
          rw [e9] at hO
          repeat refine cw_seq ?_
          refine cw_region ?_
          iterate 2 refine rw_v (op_pure rfl) ?_
          refine rw_v (op_len Try.underlying22 rfl) ?_
          first | refine rw_v (op_b (b := true) rfl (decide_eq_true (by omega))) ?_ | refine rw_v (op_b (b := false) rfl (decide_eq_false (by omega))) ?_ | refine rw_v (op_pure rfl) ?_
          refine rw_v (op_pure rfl) ?_
          first | refine rw_off rfl ?_ | (refine rw_on rfl ?_; refine rw_v (op_pure rfl) ?_)
          first | refine rw_off rfl ?_ | (refine rw_on rfl ?_; refine rw_v (op_pure rfl) ?_)
          first | refine rw_off rfl ?_ | (refine rw_on rfl ?_; refine rw_v (op_len Try.underlying22 rfl) ?_)
          first | refine rw_off rfl ?_ | (refine rw_on rfl ?_; (first | refine rw_v (op_b (b := true) rfl (decide_eq_true (by omega))) ?_ | refine rw_v (op_b (b := false) rfl (decide_eq_false (by omega))) ?_ | refine rw_v (op_pure rfl) ?_))
          refine rw_v (op_pure rfl) ?_
          first | refine rw_end ?_ | (refine rw_nil ?_; show CW _ _ _ _ _ _) | refine rw_nil ?_
          repeat refine cw_seq ?_
          refine cw_true rfl ?_
          repeat refine cw_seq ?_
          refine cw_skip ?_
          try show CW _ _ _ _ _ _
          repeat refine cw_seq ?_
          refine cw_block ?_
          repeat refine cw_seq ?_
          refine cw_draw (C := fun wq => Gr w wq) [0, 1, 2, 3, 4, 5, 6, 7, 8, 9, 10, 11, 12, 13, 14, 15, 16, 17, 18, 19, 20] [] (by kernel_rfl) (by kernel_rfl) (Gr.drew _) ?_
          simp only [pickL, List.drop_succ_cons, List.drop_zero]
          iterate 2 refine rq_v (op_pure rfl) ?_
          refine rq_v (op_len Try.underlying22 rfl) ?_
          first | refine rq_v (op_b (b := true) rfl (beq_iff_eq.2 (by omega))) ?_ | refine rq_v (op_b (b := false) rfl (beq_eq_false_iff_ne.2 (by omega))) ?_ | refine rq_v (op_pure rfl) ?_
          refine rq_v (op_pure rfl) ?_
          first | refine rq_off rfl ?_ | (refine rq_on rfl ?_; refine rq_v (op_pure rfl) ?_)
          first | refine rq_off rfl ?_ | (refine rq_on rfl ?_; refine rq_v (op_pure rfl) ?_)
          first | refine rq_off rfl ?_ | (refine rq_on rfl ?_; refine rq_v (op_len Try.underlying22 rfl) ?_)
          first | refine rq_off rfl ?_ | (refine rq_on rfl ?_; (first | refine rq_v (op_b (b := true) rfl (decide_eq_true (by omega))) ?_ | refine rq_v (op_b (b := false) rfl (decide_eq_false (by omega))) ?_ | refine rq_v (op_pure rfl) ?_))
          first | refine rq_off rfl ?_ | (refine rq_on rfl ?_; refine rq_v (op_pure rfl) ?_)
          first | refine rq_off rfl ?_ | (refine rq_on rfl ?_; refine rq_v (op_pure rfl) ?_)
          first | refine rq_off rfl ?_ | (refine rq_on rfl ?_; refine rq_v (op_pure rfl) ?_)
          first | refine rq_off rfl ?_ | (refine rq_on rfl ?_; refine rq_v (op_idx Try.underlying22 Try.sizeOf2 rfl rfl sa_P (by omega) (by omega)) ?_)
          first | refine rq_off rfl ?_ | (refine rq_on rfl ?_; refine rq_r (fun wq hq => op_ldR Try.underlying2 rfl rfl (hr1.gr (S.gr hq).out) (by assumption)) ?_)
          first | refine rq_off rfl ?_ | (refine rq_on rfl ?_; refine rq_v (op_pure rfl) ?_)
          first | refine rq_off rfl ?_ | (refine rq_on rfl ?_; refine rq_v (op_pure rfl) ?_)
          first | refine rq_off rfl ?_ | (refine rq_on rfl ?_; refine rq_v (op_idx Try.underlying22 Try.sizeOf2 rfl rfl sa_Q (by omega) (by omega)) ?_)
          first | refine rq_off rfl ?_ | (refine rq_on rfl ?_; refine rq_r (fun wq hq => op_ldR Try.underlying2 rfl rfl (hr2.gr (S.gr hq).out) (by assumption)) ?_)
          first | refine rq_off rfl ?_ | (refine rq_on rfl ?_; (first | refine rq_v (op_b (b := true) rfl (decide_eq_true (by omega))) ?_ | refine rq_v (op_b (b := false) rfl (decide_eq_false (by omega))) ?_ | refine rq_v (op_pure rfl) ?_))
          first | refine rq_off rfl ?_ | (refine rq_on rfl ?_; refine rq_v (op_pure rfl) ?_)
          refine rq_v (op_pure rfl) ?_
          refine rq_nil ?_
          intro w16_ g16_
          have S := S.gr g16_
          first | refine rw_end ?_ | (refine rw_nil ?_; show CW _ _ _ _ _ _) | refine rw_nil ?_
          repeat refine cw_seq ?_
          refine cw_true rfl ?_
          repeat refine cw_seq ?_
          refine cw_region ?_
          iterate 3 refine rw_v (op_pure rfl) ?_
          refine rw_v (op_idx Try.underlying22 Try.sizeOf2 rfl rfl sa_P (by omega) (by omega)) ?_
          refine rw_r (op_ldR Try.underlying2 rfl rfl (hr1.gr S.out) gi) ?_
          refine rw_buildS Try.underlying22 Try.sizeOf2 Try.zeroValue2 rfl rfl rfl rfl rfl rfl S ?_
          intro A_lit w18_ g18_ S sa_lit
          refine rw_appS (i := 1) S rfl (fun h => rfl) Try.underlying22 info_t2 rfl rfl rfl rfl (by simp) (by omega) (S.rd (i := 0) rfl) rfl (by omega) ?_
          intro A_o2 c_o2 w19_ S sa_o
          refine rw_v (op_pure rfl) ?_
          first | refine rw_end ?_ | (refine rw_nil ?_; show CW _ _ _ _ _ _) | refine rw_nil ?_
          repeat refine cw_seq ?_
          refine cw_region ?_
          refine rw_v (op_pure rfl) ?_
          refine rw_v (op_rng rfl (by omega)) ?_
          refine rw_v (op_pure rfl) ?_
          first | refine rw_end ?_ | (refine rw_nil ?_; show CW _ _ _ _ _ _) | refine rw_nil ?_
          have S := S.sub (.cons _ (.cons_cons _ (.slnil)))
          refine ⟨m - 1, by omega, i + 1, j, O ++ [x], A_o2, c_o2, by omega, by omega, by omega, by rw [List.length_append, List.length_singleton]; omega, ?_, ⟨rfl, rfl, by rw [List.length_append]; rfl, ie (by omega), rfl, trivial⟩, ?_⟩
          · rw [List.append_assoc]; exact hO
          · rw [List.length_append, ← ints_app]; exact S
        · rw [di hi2, dj hj2, List.nil_merge, List.append_nil] at hO
          have hp : O.Perm L := by
            rw [hO, ← htd]
            exact (mrg_perm N1 N2).trans (hp1.append hp2)
          have hs : O.Pairwise (· ≤ ·) := by rw [hO]; exact mrg_sorted hs1 hs2
          have hOL : O.length = L.length := hp.length_eq
          have hrd := (S.row (i := 0) rfl).rd
          obtain ⟨b9, o9, rfl⟩ := (S.row (i := 0) rfl).someA (by omega)
          repeat refine cw_seq ?_
          refine cw_region ?_
          iterate 2 refine rw_v (op_pure rfl) ?_
          refine rw_v (op_len Try.underlying22 rfl) ?_
          first | refine rw_v (op_b (b := true) rfl (decide_eq_true (by omega))) ?_ | refine rw_v (op_b (b := false) rfl (decide_eq_false (by omega))) ?_ | refine rw_v (op_pure rfl) ?_
          refine rw_v (op_pure rfl) ?_
          first | refine rw_off rfl ?_ | (refine rw_on rfl ?_; refine rw_v (op_pure rfl) ?_)
          first | refine rw_off rfl ?_ | (refine rw_on rfl ?_; refine rw_v (op_pure rfl) ?_)
          first | refine rw_off rfl ?_ | (refine rw_on rfl ?_; refine rw_v (op_len Try.underlying22 rfl) ?_)
          first | refine rw_off rfl ?_ | (refine rw_on rfl ?_; (first | refine rw_v (op_b (b := true) rfl (decide_eq_true (by omega))) ?_ | refine rw_v (op_b (b := false) rfl (decide_eq_false (by omega))) ?_ | refine rw_v (op_pure rfl) ?_))
          refine rw_v (op_pure rfl) ?_
          first | refine rw_end ?_ | (refine rw_nil ?_; show CW _ _ _ _ _ _) | refine rw_nil ?_
          repeat refine cw_seq ?_
          refine cw_false rfl ?_
          repeat refine cw_seq ?_
          refine cw_exit ?_
          repeat first | refine exit_then ?_ | refine exit_inb ?_
          show CW _ _ _ _ _ _
          repeat refine cw_seq ?_
          refine cw_region ?_
          iterate 2 refine rw_v (op_pure rfl) ?_
          first | refine rw_end ?_ | (refine rw_nil ?_; show CW _ _ _ _ _ _) | refine rw_nil ?_
          repeat refine cw_seq ?_
          refine cw_ret ?_
          repeat first | refine ret_then ?_ | refine ret_inb ?_
          exact res1 rfl ⟨⟨O, b9, o9, c_o, by rw [hOL], hp, hs, hrd⟩, G.trans S.out⟩
end Go.Proofs.Ytbcgbcipigcbhaa
/- hachureref30.Sorted; the middle of a list. -/
namespace Go.Proofs.Ytbcgbcipigcbhaa
open Go.RowKit
set_option linter.unusedVariables false
set_option linter.unusedSimpArgs false
set_option maxRecDepth 100000

theorem sorted_uniq {M L : List Int} (hp : M.Perm L) (hs : M.Pairwise (· ≤ ·)) : M = L.mergeSort leB := by
  have h2 : (L.mergeSort leB).Pairwise (· ≤ ·) := by
    have h := List.pairwise_mergeSort (le := leB) (fun a b c h1 h2 => by unfold leB at *; simp at *; omega) (fun a b => by unfold leB; simp; omega) L
    exact h.imp (fun h => by unfold leB at h; simpa using h)
  exact List.Perm.eq_of_pairwise (le := (· ≤ ·)) (fun a b _ _ h1 h2 => Int.le_antisymm h1 h2) hs h2 (hp.trans (List.mergeSort_perm L leB).symm)
theorem HV.srt {n : Nat} {L : List Int} {w : World} {v : Value} (h : HV n L w v) : ∃ b o c, v = .slice (some ⟨b, o, none⟩) n c ∧ Rd w (some ⟨b, o, none⟩) (ints (L.mergeSort leB)) := by
  obtain ⟨M, b, o, c, e, hp, hs, hr⟩ := h
  rw [sorted_uniq hp hs] at hr
  exact ⟨b, o, c, e, hr⟩
section
variable {W : World} {A : Option Addr} {gw gh cap : Nat} {V : List Int}
theorem sorted30_E (x0 y0 x1 y1 : Nat) (hw : 1 ≤ gw ∧ gw ≤ 1024) (hh : 1 ≤ gh ∧ gh ≤ 1024) (hx : x0 ≤ x1 ∧ x1 < gw) (hy : y0 ≤ y1 ∧ y1 < gh) (hV : V.length = gw * gh) (hA : Rd W A (ints V)) :
    Fn Try.prog 106 [modV gw gh A (gw * gh) cap, .agg #[.int .i64 x0, .int .i64 y0, .int .i64 x1, .int .i64 y1]] W
    (fun v w' => ∃ b o c, v = .tuple #[.slice (some ⟨b, o, none⟩) (winL V gw x0 y0 x1 y1).length c, .int .i64 0] ∧ Rd w' (some ⟨b, o, none⟩) (ints ((winL V gw x0 y0 x1 y1).mergeSort leB)) ∧ Gr W w') := by
  have hval := fun w (g : Gr W w) => values9X_E (W := w) (cap := cap) x0 y0 x1 y1 hw hh hx hy hV (hA.gr g)
  have hlen : (winL V gw x0 y0 x1 y1).length ≤ 1024 * 1024 := by rw [winL_len]; exact Nat.mul_le_mul (by omega) (by omega)
  have hlen1 : 1 ≤ (winL V gw x0 y0 x1 y1).length := by rw [winL_len]; exact Nat.mul_pos (by omega) (by omega)
  generalize winL V gw x0 y0 x1 y1 = L at *
  unfold modV at *
  have S := St.start W
  refine Fn_enter Try.func106 rfl Try.results106 Try.ntmps106 (by kernel_rfl) (by kernel_rfl) ?_
  repeat refine cw_seq ?_
  refine cw_region ?_
  refine rw_newB (op_box rfl) S ?_
  intro b_md w2_ g2_ S
  refine rw_newB (op_box rfl) S ?_
  intro b_r w4_ g4_ S
  iterate 2 refine rw_v (op_pure rfl) ?_
  first | refine rw_end ?_ | (refine rw_nil ?_; show CW _ _ _ _ _ _) | refine rw_nil ?_
  repeat refine cw_seq ?_
  refine cw_region ?_
  refine rw_r (op_loadAB Try.underlying25 rfl (Try.sizeOf25 _) rfl (S.blk (i := 1) rfl) rfl rfl) ?_
  refine rw_r (op_loadAB Try.underlying75 rfl (Try.sizeOf75 _) rfl (S.blk (i := 0) rfl) rfl rfl) ?_
  refine rw_call rfl (hval w4_ S.out) ?_
  rintro _ w5_ ⟨A_l, c_l, rfl, hR_l, hf_l, g5_⟩
  have S := S.pushRow hR_l hf_l g5_
  iterate 5 refine rw_v (op_pure rfl) ?_
  first | refine rw_end ?_ | (refine rw_nil ?_; show CW _ _ _ _ _ _) | refine rw_nil ?_
  repeat refine cw_seq ?_
  refine cw_region ?_
  refine rw_v (op_pure rfl) ?_
  refine rw_v (op_b (b := false) rfl (bne_eq_false_iff_eq.2 (by omega))) ?_
  first | refine rw_end ?_ | (refine rw_nil ?_; show CW _ _ _ _ _ _) | refine rw_nil ?_
  repeat refine cw_seq ?_
  refine cw_false rfl ?_
  repeat refine cw_seq ?_
  refine cw_skip ?_
  try show CW _ _ _ _ _ _
  have hrow := S.row (i := 0) rfl
  obtain ⟨b9, o9, rfl⟩ := hrow.someA (by omega)
  have hcap : L.length ≤ c_l := hrow.cap
  have hm := merged_E L.length L b9 o9 c_l _ hlen1 (Nat.le_refl _) hlen hcap hrow.rd
  repeat refine cw_seq ?_
  refine cw_region ?_
  refine rw_v (op_pure rfl) ?_
  refine rw_call rfl (hm) ?_
  rintro _ w6_ ⟨hv, g6_⟩
  have S := S.gr g6_
  obtain ⟨b3, o3, c3, rfl, hr3⟩ := hv.srt
  iterate 2 refine rw_v (op_pure rfl) ?_
  first | refine rw_end ?_ | (refine rw_nil ?_; show CW _ _ _ _ _ _) | refine rw_nil ?_
  repeat refine cw_seq ?_
  refine cw_ret ?_
  repeat first | refine ret_then ?_ | refine ret_inb ?_
  exact res2 rfl rfl ⟨b3, o3, c3, rfl, hr3, S.out⟩
end
end Go.Proofs.Ytbcgbcipigcbhaa
/- slices.Sort at int64: the shelf's contract, laid out in plain Lean. Printed by mksortk.py. -/
namespace Go.Proofs.Ytbcgbcipigcbhaa
open Go.Shelf Go.RowKit
set_option maxRecDepth 100000

def ren64 : Shelf.Ren where
  f := fun n => match n with | 53 => 104 | 64 => 146 | 63 => 145 | 78 => 186 | 79 => 187 | 70 => 177 | 71 => 178 | 72 => 179 | 73 => 180 | 74 => 181 | 75 => 182 | 59 => 183 | 76 => 184 | 77 => 185 | 88 => 197 | 89 => 198 | 90 => 199 | 91 => 200 | 92 => 201 | 68 => 129 | 96 => 206 | n => n
  t := fun n => match n with | 22 => 22 | 23 => 2 | 3 => 3 | 51 => 213 | 0 => 0 | 67 => 257 | 69 => 259 | 4 => 4 | 61 => 251 | 60 => 250 | 44 => 191 | 5 => 5 | 9 => 9 | 75 => 274 | 79 => 278 | 83 => 283 | 84 => 284 | n => n
  g := fun n => n
theorem sort64 : SlLaysN.n53 Try.prog ren64 where
  mixed := rfl
  f53 := ⟨"slices.Sort[[]int64,int64]", by decide +kernel, Try.func104.trans rfl⟩
  f59 := ⟨"cmp.Less[int64]", by decide +kernel, Try.func183.trans rfl⟩
  f63 := ⟨"slices.pdqsortOrdered[int64]", by decide +kernel, Try.func145.trans rfl⟩
  f64 := Try.func146.trans rfl
  f68 := ⟨"cmp.isNaN[int64]", by decide +kernel, Try.func129.trans rfl⟩
  f70 := ⟨"slices.insertionSortOrdered[int64]", by decide +kernel, Try.func177.trans rfl⟩
  f71 := ⟨"slices.heapSortOrdered[int64]", by decide +kernel, Try.func178.trans rfl⟩
  f72 := ⟨"slices.breakPatternsOrdered[int64]", by decide +kernel, Try.func179.trans rfl⟩
  f73 := ⟨"slices.choosePivotOrdered[int64]", by decide +kernel, Try.func180.trans rfl⟩
  f74 := ⟨"slices.reverseRangeOrdered[int64]", by decide +kernel, Try.func181.trans rfl⟩
  f75 := ⟨"slices.partialInsertionSortOrdered[int64]", by decide +kernel, Try.func182.trans rfl⟩
  f76 := ⟨"slices.partitionEqualOrdered[int64]", by decide +kernel, Try.func184.trans rfl⟩
  f77 := ⟨"slices.partitionOrdered[int64]", by decide +kernel, Try.func185.trans rfl⟩
  f78 := Try.func186.trans rfl
  f79 := Try.func187.trans rfl
  f88 := ⟨"slices.siftDownOrdered[int64]", by decide +kernel, Try.func197.trans rfl⟩
  f89 := Try.func198.trans rfl
  f90 := Try.func199.trans rfl
  f91 := ⟨"slices.medianAdjacentOrdered[int64]", by decide +kernel, Try.func200.trans rfl⟩
  f92 := ⟨"slices.medianOrdered[int64]", by decide +kernel, Try.func201.trans rfl⟩
  f96 := ⟨"slices.order2Ordered[int64]", by decide +kernel, Try.func206.trans rfl⟩
  t0 := Try.underlying0
  a0 := Try.isAgg0
  z0 := Try.sizeOf0
  v0 := Try.zeroValue0
  t3 := Try.underlying3
  a3 := Try.isAgg3
  z3 := Try.sizeOf3
  v3 := Try.zeroValue3
  t4 := Try.underlying4
  a4 := Try.isAgg4
  z4 := Try.sizeOf4
  v4 := Try.zeroValue4
  t5 := Try.underlying5
  a5 := Try.isAgg5
  z5 := Try.sizeOf5
  v5 := Try.zeroValue5
  t9 := Try.underlying9
  a9 := Try.isAgg9
  z9 := Try.sizeOf9
  v9 := Try.zeroValue9
  t22 := Try.underlying22
  a22 := Try.isAgg22
  z22 := Try.sizeOf22
  v22 := Try.zeroValue22
  t23 := Try.underlying2
  a23 := Try.isAgg2
  z23 := Try.sizeOf2
  v23 := Try.zeroValue2
  t44 := Try.underlying191
  a44 := Try.isAgg191
  z44 := Try.sizeOf191
  v44 := Try.zeroValue191
  t51 := Try.underlying213
  a51 := Try.isAgg213
  z51 := Try.sizeOf213
  v51 := Try.zeroValue213
  t60 := Try.underlying250
  a60 := Try.isAgg250
  z60 := Try.sizeOf250
  v60 := Try.zeroValue250
  t61 := Try.underlying251
  a61 := Try.isAgg251
  z61 := Try.sizeOf251
  v61 := Try.zeroValue251
  t67 := Try.underlying257
  a67 := Try.isAgg257
  z67 := Try.sizeOf257
  v67 := Try.zeroValue257
  t69 := Try.underlying259
  a69 := Try.isAgg259
  z69 := Try.sizeOf259
  v69 := Try.zeroValue259
  t75 := Try.underlying274
  a75 := Try.isAgg274
  z75 := Try.sizeOf274
  v75 := Try.zeroValue274
  t79 := Try.underlying278
  a79 := Try.isAgg278
  z79 := Try.sizeOf278
  v79 := Try.zeroValue278
  t83 := Try.underlying283
  a83 := Try.isAgg283
  z83 := Try.sizeOf283
  v83 := Try.zeroValue283
  t84 := Try.underlying284
  a84 := Try.isAgg284
  z84 := Try.sizeOf284
  v84 := Try.zeroValue284
theorem sort64_calls (blk off cap : Nat) (zs : List Int) (w : World) (hH : Sort.Holds (Value.int .i64) w blk off zs.toArray) (hb : blk < w.heap.size) (hl : zs.length < 4611686018427387904) :
    Calls Try.prog 104 #[.slice (some ⟨blk, off, none⟩) zs.length cap] w (fun e w' => e = .returned (.tuple #[]) ∧ ∃ n os, w' = Sort.grow (Sort.putRow (Value.int .i64) (Sort.ahead w n) blk off (zs.mergeSort fun x y => decide (x ≤ y)).toArray) os) := AnyG.slices_Sort_int sort64 blk off cap zs w hH hb hl
end Go.Proofs.Ytbcgbcipigcbhaa
/- What the shelf's sort leaves: one block changed, its cells sorted. -/
namespace Go.Proofs.Ytbcgbcipigcbhaa
open Go.RowKit
set_option linter.unusedVariables false
set_option linter.unusedSimpArgs false
set_option maxRecDepth 100000

section
variable {w : World} {n blk t : Nat} {os : Array Obj} {d : Array Int} {l : List Value}
theorem sortW_fr : Fr (fun g => g = blk) w (Sort.grow (Sort.putRow (Value.int .i64) (Sort.ahead w n) blk 0 d) os) := by
  refine ⟨rfl, rfl, rfl, ?_, fun g hg hn => ?_⟩
  · simp [Sort.grow, Sort.putRow, Sort.mapBlock, Sort.ahead]
  · simp only [Sort.grow, Sort.putRow, Sort.mapBlock, Sort.ahead]
    rw [Array.getElem?_append_left (by simpa using hg), Array.getElem?_modify, if_neg (fun e => hn e.symm)]
theorem sortW_blk (h : Blk w blk t l) (hd : d.size ≤ l.length) : Blk (Sort.grow (Sort.putRow (Value.int .i64) (Sort.ahead w n) blk 0 d) os) blk t (ints d.toList ++ l.drop d.size) := by
  have hlt : blk < w.heap.size := h.lt
  unfold Blk at *
  simp only [Sort.grow, Sort.putRow, Sort.mapBlock, Sort.ahead]
  rw [Array.getElem?_append_left (by simpa using hlt), Array.getElem?_modify, if_pos rfl, h]
  simp only [Option.map_some, Sort.onCells, Sort.putCells]
  congr 2
  apply Array.ext_getElem?
  intro k
  rw [Array.getElem?_mapIdx, List.getElem?_toArray, List.getElem?_toArray]
  by_cases hk : k < d.size
  · rw [List.getElem?_append_left (by rw [ints_len]; simpa using hk), List.getElem?_eq_getElem (by omega), Option.map_some, if_pos (by omega)]
    unfold ints
    rw [List.getElem?_map, Nat.sub_zero, getElem!_pos d k hk, Array.getElem?_toList, Array.getElem?_eq_getElem hk]
    rfl
  · rw [List.getElem?_append_right (by rw [ints_len]; simp; omega), ints_len, List.getElem?_drop, Array.length_toList, show d.size + (k - d.size) = k by omega]
    cases l[k]? with
    | none => rfl
    | some v => rw [Option.map_some, if_neg (by omega)]
end
end Go.Proofs.Ytbcgbcipigcbhaa
/- slices.Sort at int64: contract over parts. -/
namespace Go.Proofs.Ytbcgbcipigcbhaa
open Go.RowKit
set_option linter.unusedVariables false
set_option linter.unusedSimpArgs false
set_option maxRecDepth 100000

section
variable {F : Nat → Prop} {W w : World} {L L' : List HA} {i c t : Nat} {A : Option Addr} {l : List Int}
theorem ssort_E (S : St F W w L) (hi : getO L i = some (.row t 1 A l.length c (ints l))) (h1 : 1 ≤ l.length) (hl : l.length ≤ 1048576) (hs : setO L i (.row t 1 A l.length c (ints (l.mergeSort leB))) = some L') :
    Fn Try.prog 104 [.slice A l.length c] w (fun v w' => v = .tuple #[] ∧ St F W w' L') := by
  refine ⟨by kernel_rfl, ?_⟩
  have hrow := S.row hi
  rcases hrow.form with ⟨_, h, _, _⟩ | ⟨g, cs, rfl, hB, hn, hcs, ht, hm⟩
  · omega
  have hlt : g < w.heap.size := hB.lt
  have hH : Sort.Holds (Value.int .i64) w g 0 l.toArray := fun j hj => by
    have hj' : j < l.length := by simpa using hj
    constructor
    · rcases hrow.rd with h | ⟨b', o', e, _, hc⟩
      · exfalso
        have := congrArg List.length h
        rw [ints_len, List.length_nil] at this
        omega
      · cases e
        refine hc j _ ?_
        unfold ints
        rw [List.getElem?_map, getElem!_pos l.toArray j hj, List.getElem?_eq_getElem hj']
        rfl
    · unfold Blk at hB
      simp [World.frozen?, hB]
  refine (sort64_calls g 0 c l w hH hlt (by omega)).mono ?_
  rintro e w' ⟨rfl, n, os, rfl⟩
  refine ⟨_, rfl, rfl, ?_⟩
  have hml : (l.mergeSort leB).length = l.length := List.length_mergeSort l
  have hcl : l.length ≤ cs.length := by rw [hcs]; omega
  have hB2 := sortW_blk (n := n) (os := os) (d := (l.mergeSort leB).toArray) hB (by simpa [hml] using hcl)
  refine S.set hi hs (F' := fun x => x = g) sortW_fr (fun x e => .inl (by subst e; rfl)) ?_ (fun x e => .inl e)
  refine Row.mk_ hB2 hn ?_ ?_ hm
  · rw [List.length_append, ints_len, List.length_drop, List.size_toArray, hml]; omega
  · rw [Nat.mul_one, List.take_append_of_le_length (by rw [ints_len]; simp [hml]), List.take_of_length_le (by rw [ints_len]; simp [hml])]
end
end Go.Proofs.Ytbcgbcipigcbhaa
/- smooth.Median$1: contract. -/
namespace Go.Proofs.Ytbcgbcipigcbhaa
open Go.RowKit
set_option linter.unusedVariables false
set_option linter.unusedSimpArgs false
set_option maxRecDepth 100000

/-- the middle of a list -/
def medL (l : List Int) : Int := (l.mergeSort leB).getD ((l.length - 1) / 2) 0
def medW (V : List Int) (gw gh i n : Nat) : Int := medL (winL V gw (winW gw gh i n).x0 (winW gw gh i n).y0 (winW gw gh i n).x1 (winW gw gh i n).y1)
section
variable {W : World} {A : Option Addr} {p gw gh cap D : Nat} {bs : Nat → Nat} {Rs : Nat → Option Nat} {V : List Int}
set_option maxHeartbeats 1000000 in
theorem medianC_E (i n : Nat) (hw : 1 ≤ gw ∧ gw ≤ 1024) (hh : 1 ≤ gh ∧ gh ≤ 1024) (hi : i < gw * gh) (hD : Blk W D 28 [.pointer (some ⟨p, 0, none⟩)]) (hG : GridAt W p gw gh (fun j => V.getD j 0) A cap bs Rs) :
    Fn Try.prog 103 ([] ++ [(winW gw gh i n).val] ++ [.pointer (some ⟨D, 0, none⟩)]) W (RetG (.int .i64 (medW V gw gh i n)) W) := by
  obtain ⟨hx, hy⟩ := winW_ok (n := n) hw.1 hi
  unfold medW Win.val
  generalize winW gw gh i n = r at *
  have hval := fun w (g : Gr W w) => gvalues_E (W := w) r.x0 r.y0 r.x1 r.y1 (by omega) (by omega) (hG.gr g)
  have hlw := winL_len V gw r.x0 r.y0 r.x1 r.y1
  have hrw : rectV gw (fun j => V.getD j 0) r.x0 r.y0 (r.x1 + 1 - r.x0) (r.y1 + 1 - r.y0) = winL V gw r.x0 r.y0 r.x1 r.y1 := rfl
  have hlen : (winL V gw r.x0 r.y0 r.x1 r.y1).length ≤ 1024 * 1024 := by rw [hlw]; exact Nat.mul_le_mul (by omega) (by omega)
  have hlen1 : 1 ≤ (winL V gw r.x0 r.y0 r.x1 r.y1).length := by rw [hlw]; exact Nat.mul_pos (by omega) (by omega)
  rw [hrw, ← hlw] at hval
  generalize winL V gw r.x0 r.y0 r.x1 r.y1 = l at *
  unfold medL
  obtain ⟨k, hk⟩ : ∃ k, k = (l.length - 1) / 2 := ⟨_, rfl⟩
  rw [← hk]
  have ek : ((l.length : Int) - 1) / 2 = (k : Int) := by omega
  have hml : (l.mergeSort leB).length = l.length := List.length_mergeSort l
  have hget : (ints (l.mergeSort leB))[(k : Int).toNat * 1]? = some (.int .i64 ((l.mergeSort leB).getD k 0)) := by rw [Nat.mul_one, Int.toNat_natCast]; exact ints_get (getD_at (by omega))
  have S := St.start W
  refine Fn_enter Try.func103 rfl Try.results103 Try.ntmps103 (by kernel_rfl) (by kernel_rfl) ?_
  repeat refine cw_seq ?_
  refine cw_region ?_
  refine rw_newB (op_box rfl) S ?_
  intro b_r w2_ g2_ S
  refine rw_v (op_pure rfl) ?_
  first | refine rw_end ?_ | (refine rw_nil ?_; show CW _ _ _ _ _ _) | refine rw_nil ?_
  repeat refine cw_seq ?_
  refine cw_region ?_
  refine rw_r (op_loadB Try.underlying28 rfl rfl (hD.gr S.out) rfl) ?_
  refine rw_r (op_loadAB Try.underlying75 rfl (Try.sizeOf75 _) rfl (S.blk (i := 0) rfl) rfl rfl) ?_
  refine rw_call rfl (hval w2_ S.out) ?_
  rintro _ w3_ ⟨A_l, c_l, rfl, hR_l, hf_l, g3_⟩
  have S := S.pushRow hR_l hf_l g3_
  iterate 5 refine rw_v (op_pure rfl) ?_
  first | refine rw_end ?_ | (refine rw_nil ?_; show CW _ _ _ _ _ _) | refine rw_nil ?_
  have sa_l : SomeA A_l := (S.row (i := 0) rfl).someA (by omega)
  repeat refine cw_seq ?_
  refine cw_region ?_
  refine rw_v (op_pure rfl) ?_
  refine rw_call rfl (ssort_E (i := 0) S rfl hlen1 (by omega) rfl) ?_
  rintro _ w4_ ⟨rfl, S⟩
  first | refine rw_end ?_ | (refine rw_nil ?_; show CW _ _ _ _ _ _) | refine rw_nil ?_
  repeat refine cw_seq ?_
  refine cw_region ?_
  iterate 2 refine rw_v (op_pure rfl) ?_
  refine rw_v (op_len Try.underlying22 rfl) ?_
  refine rw_v (op_rng rfl (by omega)) ?_
  refine rw_v (op_div rfl rfl (by omega) (by omega)) ?_
  rw [ek]
  refine rw_v (op_idx Try.underlying22 Try.sizeOf2 rfl rfl sa_l (by omega) (by omega)) ?_
  refine rw_r (op_ldR Try.underlying2 rfl rfl (S.rd (i := 0) rfl) hget) ?_
  refine rw_v (op_pure rfl) ?_
  first | refine rw_end ?_ | (refine rw_nil ?_; show CW _ _ _ _ _ _) | refine rw_nil ?_
  repeat refine cw_seq ?_
  refine cw_ret ?_
  repeat first | refine ret_then ?_ | refine ret_inb ?_
  exact res1 rfl ⟨rfl, S.out⟩
theorem medL_mem {l : List Int} (h : 1 ≤ l.length) : medL l ∈ l := by
  unfold medL
  have hml : (l.mergeSort leB).length = l.length := List.length_mergeSort l
  have hlt : (l.length - 1) / 2 < (l.mergeSort leB).length := by omega
  rw [List.getD_eq_getElem?_getD, List.getElem?_eq_getElem hlt]
  exact List.mem_mergeSort.1 (List.getElem_mem hlt)
theorem medW_may (hB : vB V) {i : Nat} (n : Nat) (hw : 0 < gw) (hi : i < gw * gh) : mayB (medW V gw gh i n) = true := by
  obtain ⟨hx, hy⟩ := winW_ok (n := n) hw hi
  unfold medW
  generalize winW gw gh i n = r at *
  obtain ⟨j, hj⟩ := winL_mem (medL_mem (l := winL V gw r.x0 r.y0 r.x1 r.y1) (by rw [winL_len]; exact Nat.mul_pos (by omega) (by omega)))
  rw [hj]
  exact (mayB_iff _).2 (hB j)
theorem smedian_E (n : Nat) (hn : n ≤ 1024) (hB : vB V) (hG : GridAt W p gw gh (fun j => V.getD j 0) A cap bs Rs) : Fn Try.prog 47 [.pointer (some ⟨p, 0, none⟩), .int .i64 n] W
    (RetGrid (fun p => .tuple #[p, .int .i64 0]) gw gh (fun i => (gridL gw gh fun i => medW V gw gh i n).getD i 0) W) := by
  have hw := hG.sw
  have hh := hG.sh
  have hmade := fun (b : Nat) w (g : Gr W w) => smade_E (W := w) (fid := 103) (caps := [.pointer (some ⟨b, 0, none⟩)]) (q := fun i => medW V gw gh i n) n hn (hG.gr g) (fun i hi => medW_may hB n hw.1 hi)
  have S := St.start W
  refine Fn_enter Try.func47 rfl Try.results47 Try.ntmps47 (by kernel_rfl) (by kernel_rfl) ?_
  repeat refine cw_seq ?_
  refine cw_region ?_
  refine rw_newB (op_box rfl) S ?_
  intro b_bx w2_ g2_ S
  iterate 2 refine rw_v (op_pure rfl) ?_
  first | refine rw_end ?_ | (refine rw_nil ?_; show CW _ _ _ _ _ _) | refine rw_nil ?_
  have hS1 := S
  repeat refine cw_seq ?_
  refine cw_region ?_
  refine rw_r (op_loadB Try.underlying28 rfl rfl (S.blk (i := 0) rfl) rfl) ?_
  iterate 2 refine rw_v (op_pure rfl) ?_
  refine rw_call rfl (hmade b_bx w2_ S.out (fun w g i hi => medianC_E i n hw hh hi ((hS1.gr g).blk (i := 0) rfl) (hG.gr (hS1.gr g).out))) ?_
  rintro _ w3_ ⟨p2, B2, bc2, bs2, Rs2, rfl, hG2, hf2, g3_⟩
  have S := S.pushGrid hG2 hf2 g3_
  iterate 4 refine rw_v (op_pure rfl) ?_
  first | refine rw_end ?_ | (refine rw_nil ?_; show CW _ _ _ _ _ _) | refine rw_nil ?_
  repeat refine cw_seq ?_
  refine cw_ret ?_
  repeat first | refine ret_then ?_ | refine ret_inb ?_
  exact res2 rfl rfl (S.retGrid (i := 0) (mk := fun p => .tuple #[p, .int .i64 0]) rfl)
end
end Go.Proofs.Ytbcgbcipigcbhaa
/- hachureref44.Median. -/
namespace Go.Proofs.Ytbcgbcipigcbhaa
open Go.RowKit
set_option linter.unusedVariables false
set_option linter.unusedSimpArgs false
set_option maxRecDepth 100000

def DC (W : World) (L : List HA) (l : List Int) (σ : List Value) (wq : World) : Prop := match σ with
  | [] => St No W wq L
  | [v] => ∃ b o c, v = .tuple #[.slice (some ⟨b, o, none⟩) l.length c, .int .i64 0] ∧ Rd wq (some ⟨b, o, none⟩) (ints (l.mergeSort leB)) ∧ St No W wq L
  | _ => False
section
variable {W w w' : World} {L : List HA} {l : List Int} {σ : List Value}
theorem DC.st (h : DC W L l σ w) : St No W w L := by
  match σ, h with
  | [], h => exact h
  | [v], ⟨_, _, _, _, _, S⟩ => exact S
theorem DC.gr (h : DC W L l σ w) (g : Gr w w') : DC W L l σ w' := by
  match σ, h with
  | [], h => exact St.gr (show St No W w L from h) g
  | [v], ⟨b, o, c, e, hr, S⟩ => exact ⟨b, o, c, e, hr.gr g, S.gr g⟩
theorem DC.step (h : DC W L l [] w) (v : Value) (w' : World) (hv : ∃ b o c, v = .tuple #[.slice (some ⟨b, o, none⟩) l.length c, .int .i64 0] ∧ Rd w' (some ⟨b, o, none⟩) (ints (l.mergeSort leB)) ∧ Gr w w') : DC W L l [v] w' := by
  obtain ⟨b, o, c, e, hr, g⟩ := hv
  exact ⟨b, o, c, e, hr, (DC.st h).gr g⟩
end
theorem opTo_mono {P : Program} {e : Nat → Value} {o : Oper} {w : World} {R R' : Value → World → Prop} (h : opTo P e o w R) (hr : ∀ v w', R v w' → R' v w') : opTo P e o w R' := by
  unfold opTo at *
  generalize (execOp (ev e) o).run P w = r at *
  cases r with
  | ok n w' => cases n <;> first | exact hr _ _ h | exact h.elim | exact h.mono (fun en w2 ⟨v, he, h⟩ => ⟨v, he, hr _ _ h⟩)
  | halt x w' => exact h
/-- one load first, of what only stands till then -/
def LdC (R : World → Prop) (q : Value) (C : List Value → World → Prop) : List Value → World → Prop
  | [], w => C [] w ∧ R w
  | [x], w => x = q ∧ C [] w
  | [v, x], w => x = q ∧ C [v] w
  | [u, v, x], w => x = q ∧ C [u, v] w
  | _, _ => False
theorem LdC.ex {R : World → Prop} {q : Value} {C : List Value → World → Prop} {τ : List Value} {w : World} (h : LdC R q C τ w) : ∃ σ, C σ w := by
  match τ, h with
  | [], h => exact ⟨_, h.1⟩
  | [x], h => exact ⟨_, h.2⟩
  | [v, x], h => exact ⟨_, h.2⟩
  | [u, v, x], h => exact ⟨_, h.2⟩
section
variable {W : World} {A : Option Addr} {gw gh cap : Nat} {V : List Int}
set_option maxHeartbeats 4000000 in
theorem median44_E (n : Nat) (hB : vB V) (hw : 1 ≤ gw ∧ gw ≤ 1024) (hh : 1 ≤ gh ∧ gh ≤ 1024) (hn : n ≤ 1024) (hV : V.length = gw * gh) (hA : Rd W A (ints V)) :
    Fn Try.prog 49 [modV gw gh A (gw * gh) cap, .int .i64 n] W (RetNew (fun s => .agg #[.int .i64 gw, .int .i64 gh, s]) 2 1 (gw * gh) (ints (gridL gw gh fun i => medW V gw gh i n)) W) := by
  have hmi : (gw : Int) * gh = ((gw * gh : Nat) : Int) := by push_cast; rfl
  have hm : gw * gh ≤ 1024 * 1024 := Nat.mul_le_mul hw.2 hh.2
  have hwin := fun (i : Nat) w (hi : i < gw * gh) => window44_E (W := w) (A := A) i n (gw * gh) cap hw hh hi hn
  have hsrt := fun (i : Nat) w (g : Gr W w) (hi : i < gw * gh) => sorted30_E (W := w) (cap := cap) (winW gw gh i n).x0 (winW gw gh i n).y0 (winW gw gh i n).x1 (winW gw gh i n).y1 hw hh (winW_ok (n := n) hw.1 hi).1 (winW_ok (n := n) hw.1 hi).2 hV (hA.gr g)
  have em : cellsQ (gw * gh) (fun i => medW V gw gh i n) = ints (gridL gw gh fun i => medW V gw gh i n) := cellsQ_ints _ _
  unfold modV Win.val at *
  have S := St.start W
  refine Fn_enter Try.func49 rfl Try.results49 Try.ntmps49 (by kernel_rfl) (by kernel_rfl) ?_
  repeat refine cw_seq ?_
  refine cw_region ?_
  refine rw_newB (op_box rfl) S ?_
  intro b_md w2_ g2_ S
  refine rw_newB (op_alloc Try.zeroValue25 rfl) S ?_
  intro b_res w4_ g4_ S
  first | refine rw_end ?_ | (refine rw_nil ?_; show CW _ _ _ _ _ _) | refine rw_nil ?_
  repeat refine cw_seq ?_
  refine cw_region ?_
  refine rw_v (op_fieldAddr Try.underlying25 rfl Try.sizeOf2 rfl rfl) ?_
  refine rw_r (op_loadB Try.underlying2 rfl rfl (S.blk (i := 1) rfl) rfl) ?_
  refine rw_v (op_fieldAddr Try.underlying25 rfl Try.sizeOf2 rfl rfl) ?_
  refine rw_r (op_loadB Try.underlying2 rfl rfl (S.blk (i := 1) rfl) rfl) ?_
  refine rw_v (op_build (pl := [(0, 1), (1, 1), (2, 1)]) Try.underlying25 Try.zeroValue25 (fun w => by kernel_rfl) rfl rfl) ?_
  refine rw_newB (op_alloc Try.zeroValue25 rfl) S ?_
  intro b_om w6_ g6_ S
  refine rw_storeSA (i := 0) S rfl (Try.sizeOf25 _) rfl rfl rfl rfl rfl rfl ?_
  intro w7_ S
  first | refine rw_end ?_ | (refine rw_nil ?_; show CW _ _ _ _ _ _) | refine rw_nil ?_
  repeat refine cw_seq ?_
  refine cw_region ?_
  refine rw_v (op_pure rfl) ?_
  first | refine rw_end ?_ | (refine rw_nil ?_; show CW _ _ _ _ _ _) | refine rw_nil ?_
  repeat refine cw_seq ?_
  refine cw_block ?_
  repeat refine cw_seq ?_
  have S := S.pushNil 2 1
  refine cw_loop (fun m e w => ∃ (k : Nat) (A_o : Option Addr) (c_o : Nat), k + m = gw * gh ∧ SL e [(1, .int .i64 n), (2, .pointer (some ⟨b_md, 0, none⟩)), (4, .pointer (some ⟨b_res, 0, none⟩)), (5, .pointer (some ⟨b_om, 0, none⟩)), (6, .int .i64 k)] ∧
    St No W w [.row 2 1 A_o k c_o (cellsQ k fun i => medW V gw gh i n), .blk b_om 25 [.int .i64 gw, .int .i64 gh, .slice A_o k c_o], .blk b_res 25 [.int .i64 0, .int .i64 0, .slice none 0 0], .blk b_md 25 [.int .i64 gw, .int .i64 gh, .slice A (gw * gh) cap]]) (gw * gh)
    ⟨0, none, 0, by omega, ⟨rfl, rfl, rfl, rfl, rfl, trivial⟩, S⟩ ?_
  clear S
  rintro m e w ⟨k, A_o, c_o, hk, hsl, S⟩
  rw [hsl.fold]
  repeat refine cw_seq ?_
  refine cw_region ?_
  refine rw_v (op_pure rfl) ?_
  refine rw_v (op_fieldAddr Try.underlying25 rfl Try.sizeOf2 rfl rfl) ?_
  refine rw_r (op_loadB Try.underlying2 rfl rfl (S.blk (i := 3) rfl) rfl) ?_
  refine rw_v (op_fieldAddr Try.underlying25 rfl Try.sizeOf2 rfl rfl) ?_
  refine rw_r (op_loadB Try.underlying2 rfl rfl (S.blk (i := 3) rfl) rfl) ?_
  refine rw_v (op_rng rfl (by omega)) ?_
  rw [hmi]
  refine rw_v (op_pure rfl) ?_
  first | refine rw_end ?_ | (refine rw_nil ?_; show CW _ _ _ _ _ _) | refine rw_nil ?_
  repeat refine cw_seq ?_
  refine cw_cond rfl (fun hc => ?_) (fun hc => ?_)
  · try simp only [decide_eq_true_eq, decide_eq_false_iff_not, beq_iff_eq, bne_iff_ne, beq_eq_false_iff_ne, bne_eq_false_iff_eq, Bool.not_eq_true', Bool.not_eq_false', ne_eq, Decidable.not_not, Int.natCast_inj, Int.ofNat_lt, Int.ofNat_le, gt_iff_lt, ge_iff_le, Int.not_lt, Int.not_le] at hc
    have hkn : k < gw * gh := by omega
    have hpush := cellsQ_push (n := k) (o := fun i => medW V gw gh i n) (v := medW V gw gh k n) rfl
    have hwk := fun w => hwin k w hkn
    have hmk := fun w (g : Gr W w) => hsrt k w g hkn
    obtain ⟨hx, hy⟩ := winW_ok (n := n) hw.1 hkn
    have hl1 : 1 ≤ (winL V gw (winW gw gh k n).x0 (winW gw gh k n).y0 (winW gw gh k n).x1 (winW gw gh k n).y1).length := by rw [winL_len]; exact Nat.mul_pos (by omega) (by omega)
    have hl2 : (winL V gw (winW gw gh k n).x0 (winW gw gh k n).y0 (winW gw gh k n).x1 (winW gw gh k n).y1).length ≤ 1024 * 1024 := by rw [winL_len]; exact Nat.mul_le_mul (by omega) (by omega)
    have emk : medL (winL V gw (winW gw gh k n).x0 (winW gw gh k n).y0 (winW gw gh k n).x1 (winW gw gh k n).y1) = medW V gw gh k n := rfl
    generalize medW V gw gh k n = q at *
    generalize winL V gw (winW gw gh k n).x0 (winW gw gh k n).y0 (winW gw gh k n).x1 (winW gw gh k n).y1 = l at *
    unfold medL at emk
    obtain ⟨h2, hh2⟩ : ∃ h2, h2 = (l.length - 1) / 2 := ⟨_, rfl⟩
    rw [← hh2] at emk
    have eh2 : ((l.length : Int) - 1) / 2 = (h2 : Int) := by omega
    have hml : (l.mergeSort leB).length = l.length := List.length_mergeSort l
    have hget : (ints (l.mergeSort leB))[(h2 : Int).toNat * 1]? = some (.int .i64 q) := by rw [Nat.mul_one, Int.toNat_natCast, ← emk]; exact ints_get (getD_at (by omega))
    repeat refine cw_seq ?_
    refine cw_skip ?_
    try show CW _ _ _ _ _ _
    repeat refine cw_seq ?_
    refine cw_block ?_
    repeat refine cw_seq ?_
    refine cw_tri (C := (DC W [.row 2 1 A_o k c_o (cellsQ k fun i => medW V gw gh i n), .blk b_om 25 [.int .i64 gw, .int .i64 gh, .slice A_o k c_o], .blk b_res 25 [.int .i64 0, .int .i64 0, .slice none 0 0], .blk b_md 25 [.int .i64 gw, .int .i64 gh, .slice A (gw * gh) cap]] l)) [5] [0, 1, 2, 3, 4, 5, 6, 7, 8, 9] [10] (by kernel_rfl) (by kernel_rfl) (S.gr (Gr.drew _)) ?_
    simp only [pickI, pickL, List.drop_succ_cons, List.drop_zero]
    refine rs_r rfl (fun τ wq hq => op_loadAB Try.underlying25 rfl (Try.sizeOf25 _) rfl ((DC.st hq).blk (i := 3) rfl) rfl rfl) ?_
    refine rs_r rfl (fun τ wq hq => op_loadAB Try.underlying25 rfl (Try.sizeOf25 _) rfl ((DC.st hq).blk (i := 3) rfl) rfl rfl) ?_
    refine rs_v rfl (op_pure rfl) ?_
    refine rs_v rfl (op_pure rfl) ?_
    refine rs_call rfl rfl (fun τ wq hq => (hwk wq).mono (fun _ _ ⟨hv, hg⟩ => ⟨hv, DC.gr hq hg⟩)) ?_
    refine rs_special rfl rfl (fun wq hq => to_call rfl ((hmk wq (DC.st hq).out).mono (DC.step hq))) ?_
    rintro v5 w5 ⟨b5, o5, c5, rfl, _, _⟩
    refine rs_v rfl (op_pure rfl) ?_
    refine rs_v rfl (op_pure rfl) ?_
    refine rs_v rfl (op_pure rfl) ?_
    refine rs_v rfl (op_pure rfl) ?_
    refine rs_nil ?_
    rintro wz hz
    obtain ⟨_, _, _, e5, hrd, S⟩ := hz
    cases e5
    refine rw_v (op_pure rfl) ?_
    first | refine rw_end ?_ | (refine rw_nil ?_; show CW _ _ _ _ _ _) | refine rw_nil ?_
    repeat refine cw_seq ?_
    refine cw_tri (C := (LdC (fun wq => Rd wq (some ⟨b5, o5, none⟩) (ints (l.mergeSort leB))) (.int .i64 q) (fun σ wq => CS No W [.row 2 1 A_o k c_o (cellsQ k fun i => medW V gw gh i n), .blk b_om 25 [.int .i64 gw, .int .i64 gh, .slice A_o k c_o], .blk b_res 25 [.int .i64 0, .int .i64 0, .slice none 0 0], .blk b_md 25 [.int .i64 gw, .int .i64 gh, .slice A (gw * gh) cap]] 0 2 1 k (cellsQ k fun i => medW V gw gh i n) [.int .i64 q] wq σ))) [8, 9, 10] [0, 1, 2, 3, 4, 5, 6, 7, 8, 9, 10] [11, 12] (by kernel_rfl) (by kernel_rfl) ⟨S.gr (Gr.drew _), hrd.gr (Gr.drew _)⟩ ?_
    simp only [pickI, pickL, List.drop_succ_cons, List.drop_zero]
    refine rs_v rfl (op_fieldAddr Try.underlying25 rfl Try.sizeOf22 rfl rfl) ?_
    refine rs_r rfl (fun τ wq hq => op_loadB Try.underlying22 rfl rfl (hq.ex.choose_spec.ok (j := 1) (by decide) rfl) rfl) ?_
    refine rs_v rfl (op_pure rfl) ?_
    refine rs_v rfl (op_pure rfl) ?_
    refine rs_v rfl (op_len Try.underlying22 rfl) ?_
    refine rs_v rfl (op_rng rfl (by omega)) ?_
    refine rs_v rfl (op_div rfl rfl (by omega) (by omega)) ?_
    rw [eh2]
    refine rs_v rfl (op_indexAddr Try.underlying22 Try.sizeOf2 rfl rfl (by omega) (by omega)) ?_
    refine rs_special rfl rfl (fun wq hq => to_r (op_ldR Try.underlying2 rfl rfl hq.2 hget) ⟨rfl, hq.1⟩) ?_
    rintro v8 w8 ⟨rfl, _⟩
    refine rs_special rfl rfl (fun wq hq => opTo_mono (to_buildCS hq.2 Try.underlying22 Try.sizeOf2 Try.zeroValue2 rfl rfl rfl rfl rfl rfl) (fun _ _ h => ⟨rfl, h⟩)) ?_
    rintro v6 w6 ⟨_, A6, rfl, _⟩
    refine rs_special rfl rfl (fun wq hq => opTo_mono (to_appCS hq.2 rfl (fun h => ⟨_, rfl⟩) Try.underlying22 info_t2 rfl rfl rfl rfl rfl rfl (by omega)) (fun _ _ h => ⟨rfl, h⟩)) ?_
    rintro v7 w7 ⟨_, A7, c7, L7, rfl, _, _⟩
    refine rs_nil ?_
    rintro w8 ⟨_, A8_, c8_, L_st, e_st, h_st, S⟩
    cases e_st
    obtain rfl := Option.some.inj h_st
    refine rw_v (op_fieldAddr Try.underlying25 rfl Try.sizeOf22 rfl rfl) ?_
    refine rw_storeS (i := 1) S rfl (Try.sizeOf22 _) rfl rfl rfl rfl rfl rfl ?_
    intro w10_ S
    first | refine rw_end ?_ | (refine rw_nil ?_; show CW _ _ _ _ _ _) | refine rw_nil ?_
    repeat refine cw_seq ?_
    refine cw_region ?_
    refine rw_v (op_pure rfl) ?_
    refine rw_v (op_rng rfl (by omega)) ?_
    refine rw_v (op_pure rfl) ?_
    first | refine rw_end ?_ | (refine rw_nil ?_; show CW _ _ _ _ _ _) | refine rw_nil ?_
    rw [hpush] at S
    exact ⟨m - 1, by omega, k + 1, A7, c7, by omega, ⟨rfl, rfl, rfl, rfl, ie (by omega), trivial⟩, S⟩
  · try simp only [decide_eq_true_eq, decide_eq_false_iff_not, beq_iff_eq, bne_iff_ne, beq_eq_false_iff_ne, bne_eq_false_iff_eq, Bool.not_eq_true', Bool.not_eq_false', ne_eq, Decidable.not_not, Int.natCast_inj, Int.ofNat_lt, Int.ofNat_le, gt_iff_lt, ge_iff_le, Int.not_lt, Int.not_le] at hc
    have ek : k = gw * gh := by omega
    rw [ek, em] at S
    repeat refine cw_seq ?_
    refine cw_exit ?_
    repeat first | refine exit_then ?_ | refine exit_inb ?_
    show CW _ _ _ _ _ _
    repeat refine cw_seq ?_
    refine cw_region ?_
    refine rw_r (op_loadAB Try.underlying25 rfl (Try.sizeOf25 _) rfl (S.blk (i := 1) rfl) rfl rfl) ?_
    refine rw_storeSA (i := 2) S rfl (Try.sizeOf25 _) rfl rfl rfl rfl rfl rfl ?_
    intro w11_ S
    first | refine rw_end ?_ | (refine rw_nil ?_; show CW _ _ _ _ _ _) | refine rw_nil ?_
    repeat refine cw_seq ?_
    refine cw_ret ?_
    repeat first | refine ret_then ?_ | refine ret_inb ?_
    exact resA Try.underlying25 rfl (Try.sizeOf25 _) rfl (S.blk (i := 2) rfl) rfl rfl (S.retNew (i := 0) (mk := fun s => .agg #[.int .i64 gw, .int .i64 gh, s]) rfl)
end
end Go.Proofs.Ytbcgbcipigcbhaa
/- grid.Same, hachurelaw09.Is (also in FillK and FillV, here apart from fill). -/
namespace Go.Proofs.Ytbcgbcipigcbhaa
open Go.RowKit
set_option linter.unusedVariables false
set_option linter.unusedSimpArgs false
set_option maxRecDepth 100000

section
variable {W : World}
theorem scells_E (b : Nat) (R : Option Nat) (sw sh : Nat) (c : Nat → Int) (hw : 1 ≤ sw ∧ sw ≤ 16) (hh : 1 ≤ sh ∧ sh ≤ 16) (W : World) (hS : SlabIs W b R sw sh c) :
    Fn Try.prog 67 [.pointer (some ⟨b, 0, none⟩)] W (RetNew id 2 1 (sw * sh) (cellsQ (sw * sh) c) W) := by
  have hsz : sw * sh ≤ 16 * 16 := Nat.mul_le_mul hw.2 hh.2
  have hpos : 1 ≤ sw * sh := Nat.mul_le_mul hw.1 hh.1
  have hmi : (sw : Int) * sh = ((sw * sh : Nat) : Int) := by push_cast; rfl
  have hsucc : ∀ k, k < sw * sh → cellsQ (sw * sh) (updI (fun i => if i < k then c i else 0) k (c k)) = cellsQ (sw * sh) (fun i => if i < k + 1 then c i else 0) := fun k hk => cellsQ_congr fun i hi => by
    unfold updI
    (try dsimp only)
    by_cases e1 : i = k
    · rw [if_pos e1, if_pos (by omega), e1]
    · by_cases e2 : i < k
      · rw [if_neg e1, if_pos e2, if_pos (by omega)]
      · rw [if_neg e1, if_neg e2, if_neg (by omega)]
  obtain ⟨hr, hS⟩ := hS
  cases R with
  | none =>
    obtain ⟨v, hB, hv, hc⟩ := hS
    have S := St.start W
    refine Fn_enter Try.func67 rfl Try.results67 Try.ntmps67 (by kernel_rfl) (by kernel_rfl) ?_
    repeat refine cw_seq ?_
    refine cw_region ?_
    refine rw_v (op_pure rfl) ?_
    first | refine rw_end ?_ | (refine rw_nil ?_; show CW _ _ _ _ _ _) | refine rw_nil ?_
    repeat refine cw_seq ?_
    refine cw_region ?_
    refine rw_v (op_pure rfl) ?_
    refine rw_v (op_nilp Try.underlying114 rfl rfl) ?_
    first | refine rw_end ?_ | (refine rw_nil ?_; show CW _ _ _ _ _ _) | refine rw_nil ?_
    repeat refine cw_seq ?_
    refine cw_false rfl ?_
    repeat refine cw_seq ?_
    refine cw_skip ?_
    try show CW _ _ _ _ _ _
    repeat refine cw_seq ?_
    refine cw_draw (C := fun wq => Gr W wq) [0, 1, 2, 3, 4, 5, 6, 7] [8, 9, 10] (by kernel_rfl) (by kernel_rfl) (Gr.drew _) ?_
    simp only [pickL, List.drop_succ_cons, List.drop_zero]
    iterate 2 refine rq_v (op_pure rfl) ?_
    refine rq_v (op_fieldAddr Try.underlying196 rfl Try.sizeOf2 rfl rfl) ?_
    refine rq_r (fun wq hq => op_loadB Try.underlying2 rfl rfl (hB.gr (S.gr hq).out) rfl) ?_
    iterate 2 refine rq_v (op_pure rfl) ?_
    refine rq_v (op_fieldAddr Try.underlying196 rfl Try.sizeOf2 rfl rfl) ?_
    refine rq_r (fun wq hq => op_loadB Try.underlying2 rfl rfl (hB.gr (S.gr hq).out) rfl) ?_
    refine rq_nil ?_
    intro w1_ g1_
    have S := S.gr g1_
    refine rw_v (op_rng rfl (by omega)) ?_
    rw [hmi]
    refine rw_makeS1 Try.underlying22 info_t2 rfl rfl rfl (n := sw * sh) (c := sw * sh) (by omega) (by omega) (by omega) (by omega) S ?_
    intro A_out w3_ g3_ S sa_out
    refine rw_v (op_pure rfl) ?_
    first | refine rw_end ?_ | (refine rw_nil ?_; show CW _ _ _ _ _ _) | refine rw_nil ?_
    repeat refine cw_seq ?_
    refine cw_region ?_
    refine rw_v (op_pure rfl) ?_
    refine rw_v (op_len Try.underlying22 rfl) ?_
    refine rw_v (op_pure rfl) ?_
    first | refine rw_end ?_ | (refine rw_nil ?_; show CW _ _ _ _ _ _) | refine rw_nil ?_
    repeat refine cw_seq ?_
    refine cw_block ?_
    repeat refine cw_seq ?_
    rw [cellsQ_zero] at S
    refine cw_loop (fun m e w => ∃ k : Nat, k + m = sw * sh ∧ SL e [(0, .pointer (some ⟨b, 0, none⟩)), (3, .slice A_out (sw * sh) (sw * sh)), (18, .int .i64 (sw * sh : Nat)), (19, .int .i64 k)] ∧
      St No W w [.row 2 1 A_out (sw * sh) (sw * sh) (cellsQ (sw * sh) (fun i => if i < k then c i else 0))]) (sw * sh)
      ⟨0, by omega, ⟨rfl, rfl, rfl, rfl, trivial⟩, by simpa using S⟩ ?_
    clear S
    rintro m e w ⟨k, hk, hsl, S⟩
    rw [hsl.fold]
    repeat refine cw_seq ?_
    refine cw_region ?_
    refine rw_v (op_pure rfl) ?_
    first | refine rw_end ?_ | (refine rw_nil ?_; show CW _ _ _ _ _ _) | refine rw_nil ?_
    repeat refine cw_seq ?_
    refine cw_cond rfl (fun hcl => ?_) (fun hcl => ?_)
    · try simp only [decide_eq_true_eq, decide_eq_false_iff_not, beq_iff_eq, bne_iff_ne, beq_eq_false_iff_ne, bne_eq_false_iff_eq, Bool.not_eq_true', Bool.not_eq_false', ne_eq, Decidable.not_not, Int.natCast_inj, Int.ofNat_lt, Int.ofNat_le, gt_iff_lt, ge_iff_le, Int.not_lt, Int.not_le] at hcl
      have hkn : k < sw * sh := by omega
      repeat refine cw_seq ?_
      refine cw_skip ?_
      try show CW _ _ _ _ _ _
      repeat refine cw_seq ?_
      refine cw_block ?_
      repeat refine cw_seq ?_
      refine cw_region ?_
      iterate 2 refine rw_v (op_pure rfl) ?_
      first | refine rw_end ?_ | (refine rw_nil ?_; show CW _ _ _ _ _ _) | refine rw_nil ?_
      repeat refine cw_seq ?_
      refine cw_region ?_
      iterate 4 refine rw_v (op_pure rfl) ?_
      refine rw_v (op_fieldAddr Try.underlying196 rfl Try.sizeOf194 rfl rfl) ?_
      refine rw_r (op_loadB Try.underlying194 rfl rfl (hB.gr S.out) rfl) ?_
      refine rw_v (op_pure rfl) ?_
      refine rw_invoke rfl (meth_flat _ _) rfl (flatAt_E v k hv w) ?_
      rintro _ w4_ ⟨rfl, g4_⟩
      have S := S.gr g4_
      refine rw_v (op_idx Try.underlying22 Try.sizeOf2 rfl rfl sa_out (by omega) (by omega)) ?_
      refine rw_storeR (i := 0) S rfl (Try.sizeOf2 _) rfl rfl rfl rfl (by rw [cellsQ_len]; omega) rfl ?_
      intro w5_ S
      first | refine rw_end ?_ | (refine rw_nil ?_; show CW _ _ _ _ _ _) | refine rw_nil ?_
      repeat refine cw_seq ?_
      refine cw_region ?_
      refine rw_v (op_rng rfl (by omega)) ?_
      refine rw_v (op_pure rfl) ?_
      first | refine rw_end ?_ | (refine rw_nil ?_; show CW _ _ _ _ _ _) | refine rw_nil ?_
      rw [cellsQ_set, ← hc k hkn, hsucc k hkn] at S
      exact ⟨m - 1, by omega, k + 1, by omega, ⟨rfl, rfl, rfl, ie (by omega), trivial⟩, S⟩
    · try simp only [decide_eq_true_eq, decide_eq_false_iff_not, beq_iff_eq, bne_iff_ne, beq_eq_false_iff_ne, bne_eq_false_iff_eq, Bool.not_eq_true', Bool.not_eq_false', ne_eq, Decidable.not_not, Int.natCast_inj, Int.ofNat_lt, Int.ofNat_le, gt_iff_lt, ge_iff_le, Int.not_lt, Int.not_le] at hcl
      rw [cellsQ_congr (o' := c) (fun i hi => by (try dsimp only); rw [if_pos (by omega)])] at S
      repeat refine cw_seq ?_
      refine cw_exit ?_
      repeat first | refine exit_then ?_ | refine exit_inb ?_
      show CW _ _ _ _ _ _
      repeat refine cw_seq ?_
      refine cw_region ?_
      iterate 2 refine rw_v (op_pure rfl) ?_
      first | refine rw_end ?_ | (refine rw_nil ?_; show CW _ _ _ _ _ _) | refine rw_nil ?_
      repeat refine cw_seq ?_
      refine cw_ret ?_
      repeat first | refine ret_then ?_ | refine ret_inb ?_
      exact res1 rfl (S.retNew (i := 0) (mk := id) rfl)
  | some g =>
    obtain ⟨cap, hB, hL⟩ := hS
    have S := St.start W
    refine Fn_enter Try.func67 rfl Try.results67 Try.ntmps67 (by kernel_rfl) (by kernel_rfl) ?_
    repeat refine cw_seq ?_
    refine cw_region ?_
    refine rw_v (op_pure rfl) ?_
    first | refine rw_end ?_ | (refine rw_nil ?_; show CW _ _ _ _ _ _) | refine rw_nil ?_
    repeat refine cw_seq ?_
    refine cw_region ?_
    refine rw_v (op_pure rfl) ?_
    refine rw_v (op_nilp Try.underlying114 rfl rfl) ?_
    first | refine rw_end ?_ | (refine rw_nil ?_; show CW _ _ _ _ _ _) | refine rw_nil ?_
    repeat refine cw_seq ?_
    refine cw_false rfl ?_
    repeat refine cw_seq ?_
    refine cw_skip ?_
    try show CW _ _ _ _ _ _
    repeat refine cw_seq ?_
    refine cw_draw (C := fun wq => Gr W wq) [0, 1, 2, 3, 4, 5, 6, 7] [8, 9, 10] (by kernel_rfl) (by kernel_rfl) (Gr.drew _) ?_
    simp only [pickL, List.drop_succ_cons, List.drop_zero]
    iterate 2 refine rq_v (op_pure rfl) ?_
    refine rq_v (op_fieldAddr Try.underlying196 rfl Try.sizeOf2 rfl rfl) ?_
    refine rq_r (fun wq hq => op_loadB Try.underlying2 rfl rfl (hB.gr (S.gr hq).out) rfl) ?_
    iterate 2 refine rq_v (op_pure rfl) ?_
    refine rq_v (op_fieldAddr Try.underlying196 rfl Try.sizeOf2 rfl rfl) ?_
    refine rq_r (fun wq hq => op_loadB Try.underlying2 rfl rfl (hB.gr (S.gr hq).out) rfl) ?_
    refine rq_nil ?_
    intro w1_ g1_
    have S := S.gr g1_
    refine rw_v (op_rng rfl (by omega)) ?_
    rw [hmi]
    refine rw_makeS1 Try.underlying22 info_t2 rfl rfl rfl (n := sw * sh) (c := sw * sh) (by omega) (by omega) (by omega) (by omega) S ?_
    intro A_out w3_ g3_ S sa_out
    refine rw_v (op_pure rfl) ?_
    first | refine rw_end ?_ | (refine rw_nil ?_; show CW _ _ _ _ _ _) | refine rw_nil ?_
    repeat refine cw_seq ?_
    refine cw_region ?_
    refine rw_v (op_pure rfl) ?_
    refine rw_v (op_len Try.underlying22 rfl) ?_
    refine rw_v (op_pure rfl) ?_
    first | refine rw_end ?_ | (refine rw_nil ?_; show CW _ _ _ _ _ _) | refine rw_nil ?_
    repeat refine cw_seq ?_
    refine cw_block ?_
    repeat refine cw_seq ?_
    rw [cellsQ_zero] at S
    refine cw_loop (fun m e w => ∃ k : Nat, k + m = sw * sh ∧ SL e [(0, .pointer (some ⟨b, 0, none⟩)), (3, .slice A_out (sw * sh) (sw * sh)), (18, .int .i64 (sw * sh : Nat)), (19, .int .i64 k)] ∧
      St No W w [.row 2 1 A_out (sw * sh) (sw * sh) (cellsQ (sw * sh) (fun i => if i < k then c i else 0))]) (sw * sh)
      ⟨0, by omega, ⟨rfl, rfl, rfl, rfl, trivial⟩, by simpa using S⟩ ?_
    clear S
    rintro m e w ⟨k, hk, hsl, S⟩
    rw [hsl.fold]
    repeat refine cw_seq ?_
    refine cw_region ?_
    refine rw_v (op_pure rfl) ?_
    first | refine rw_end ?_ | (refine rw_nil ?_; show CW _ _ _ _ _ _) | refine rw_nil ?_
    repeat refine cw_seq ?_
    refine cw_cond rfl (fun hcl => ?_) (fun hcl => ?_)
    · try simp only [decide_eq_true_eq, decide_eq_false_iff_not, beq_iff_eq, bne_iff_ne, beq_eq_false_iff_ne, bne_eq_false_iff_eq, Bool.not_eq_true', Bool.not_eq_false', ne_eq, Decidable.not_not, Int.natCast_inj, Int.ofNat_lt, Int.ofNat_le, gt_iff_lt, ge_iff_le, Int.not_lt, Int.not_le] at hcl
      have hkn : k < sw * sh := by omega
      have hck := cellsI_get (c := c) hkn
      repeat refine cw_seq ?_
      refine cw_skip ?_
      try show CW _ _ _ _ _ _
      repeat refine cw_seq ?_
      refine cw_block ?_
      repeat refine cw_seq ?_
      refine cw_region ?_
      iterate 2 refine rw_v (op_pure rfl) ?_
      first | refine rw_end ?_ | (refine rw_nil ?_; show CW _ _ _ _ _ _) | refine rw_nil ?_
      repeat refine cw_seq ?_
      refine cw_region ?_
      iterate 4 refine rw_v (op_pure rfl) ?_
      refine rw_v (op_fieldAddr Try.underlying196 rfl Try.sizeOf194 rfl rfl) ?_
      refine rw_r (op_loadB Try.underlying194 rfl rfl (hB.gr S.out) rfl) ?_
      refine rw_v (op_pure rfl) ?_
      refine rw_invoke rfl (meth_rough _ _) rfl (roughAt_E (some ⟨g, 0, none⟩) (sw * sh) cap k (c k) (cellsI (sw * sh) c) (hr k hkn) w (hL.rd.gr S.out) ⟨_, _, rfl⟩ (by omega) (by omega) (by rw [Int.toNat_natCast]; exact hck)) ?_
      rintro _ w4_ ⟨rfl, g4_⟩
      have S := S.gr g4_
      refine rw_v (op_idx Try.underlying22 Try.sizeOf2 rfl rfl sa_out (by omega) (by omega)) ?_
      refine rw_storeR (i := 0) S rfl (Try.sizeOf2 _) rfl rfl rfl rfl (by rw [cellsQ_len]; omega) rfl ?_
      intro w5_ S
      first | refine rw_end ?_ | (refine rw_nil ?_; show CW _ _ _ _ _ _) | refine rw_nil ?_
      repeat refine cw_seq ?_
      refine cw_region ?_
      refine rw_v (op_rng rfl (by omega)) ?_
      refine rw_v (op_pure rfl) ?_
      first | refine rw_end ?_ | (refine rw_nil ?_; show CW _ _ _ _ _ _) | refine rw_nil ?_
      rw [cellsQ_set, hsucc k hkn] at S
      exact ⟨m - 1, by omega, k + 1, by omega, ⟨rfl, rfl, rfl, ie (by omega), trivial⟩, S⟩
    · try simp only [decide_eq_true_eq, decide_eq_false_iff_not, beq_iff_eq, bne_iff_ne, beq_eq_false_iff_ne, bne_eq_false_iff_eq, Bool.not_eq_true', Bool.not_eq_false', ne_eq, Decidable.not_not, Int.natCast_inj, Int.ofNat_lt, Int.ofNat_le, gt_iff_lt, ge_iff_le, Int.not_lt, Int.not_le] at hcl
      rw [cellsQ_congr (o' := c) (fun i hi => by (try dsimp only); rw [if_pos (by omega)])] at S
      repeat refine cw_seq ?_
      refine cw_exit ?_
      repeat first | refine exit_then ?_ | refine exit_inb ?_
      show CW _ _ _ _ _ _
      repeat refine cw_seq ?_
      refine cw_region ?_
      iterate 2 refine rw_v (op_pure rfl) ?_
      first | refine rw_end ?_ | (refine rw_nil ?_; show CW _ _ _ _ _ _) | refine rw_nil ?_
      repeat refine cw_seq ?_
      refine cw_ret ?_
      repeat first | refine ret_then ?_ | refine ret_inb ?_
      exact res1 rfl (S.retNew (i := 0) (mk := id) rfl)
theorem sequal_E (n : Nat) (f : Nat → Int) (A B : Option Addr) (c d : Nat) (hn : n ≤ 1048576) (W : World) (hA : Rd W A (cellsQ n f)) (hB : Rd W B (cellsQ n f)) : Fn Try.prog 66 [.slice A n c, .slice B n d] W (RetG (.bool true) W) := by
  have S := St.start W
  refine Fn_enter Try.func66 rfl Try.results66 Try.ntmps66 (by kernel_rfl) (by kernel_rfl) ?_
  repeat refine cw_seq ?_
  refine cw_region ?_
  refine rw_v (op_pure rfl) ?_
  first | refine rw_end ?_ | (refine rw_nil ?_; show CW _ _ _ _ _ _) | refine rw_nil ?_
  repeat refine cw_seq ?_
  refine cw_region ?_
  refine rw_v (op_pure rfl) ?_
  refine rw_v (op_len Try.underlying22 rfl) ?_
  refine rw_v (op_pure rfl) ?_
  refine rw_v (op_len Try.underlying22 rfl) ?_
  refine rw_v (op_b (b := false) rfl (bne_eq_false_iff_eq.2 (by omega))) ?_
  first | refine rw_end ?_ | (refine rw_nil ?_; show CW _ _ _ _ _ _) | refine rw_nil ?_
  repeat refine cw_seq ?_
  refine cw_false rfl ?_
  repeat refine cw_seq ?_
  refine cw_skip ?_
  try show CW _ _ _ _ _ _
  repeat refine cw_seq ?_
  refine cw_region ?_
  refine rw_v (op_pure rfl) ?_
  refine rw_v (op_len Try.underlying22 rfl) ?_
  refine rw_v (op_pure rfl) ?_
  first | refine rw_end ?_ | (refine rw_nil ?_; show CW _ _ _ _ _ _) | refine rw_nil ?_
  repeat refine cw_seq ?_
  refine cw_block ?_
  repeat refine cw_seq ?_
  refine cw_loop (fun m e w => ∃ k : Nat, k + m = n ∧ SL e [(0, .slice A n c), (1, .slice B n d), (12, .int .i64 n), (13, .int .i64 k)] ∧ St No W w []) n
    ⟨0, by omega, ⟨rfl, rfl, rfl, rfl, trivial⟩, S⟩ ?_
  rintro m e w ⟨k, hk, hsl, S⟩
  rw [hsl.fold]
  repeat refine cw_seq ?_
  refine cw_region ?_
  refine rw_v (op_pure rfl) ?_
  first | refine rw_end ?_ | (refine rw_nil ?_; show CW _ _ _ _ _ _) | refine rw_nil ?_
  repeat refine cw_seq ?_
  refine cw_cond rfl (fun hk1 => ?_) (fun hk1 => ?_)
  · try simp only [decide_eq_true_eq, decide_eq_false_iff_not, beq_iff_eq, bne_iff_ne, beq_eq_false_iff_ne, bne_eq_false_iff_eq, Bool.not_eq_true', Bool.not_eq_false', ne_eq, Decidable.not_not, Int.natCast_inj, Int.ofNat_lt, Int.ofNat_le, gt_iff_lt, ge_iff_le, Int.not_lt, Int.not_le] at hk1
    have hk1 : k < n := by omega
    have sa_A : SomeA A := hA.someA (by rw [cellsQ_len]; omega)
    have sa_B : SomeA B := hB.someA (by rw [cellsQ_len]; omega)
    have hx := cellsQ_get (o := f) hk1
    repeat refine cw_seq ?_
    refine cw_skip ?_
    try show CW _ _ _ _ _ _
    repeat refine cw_seq ?_
    refine cw_block ?_
    repeat refine cw_seq ?_
    refine cw_region ?_
    iterate 2 refine rw_v (op_pure rfl) ?_
    first | refine rw_end ?_ | (refine rw_nil ?_; show CW _ _ _ _ _ _) | refine rw_nil ?_
    repeat refine cw_seq ?_
    refine cw_draw (C := fun wq => Gr w wq) [0, 1, 2, 3, 4, 5, 6, 7, 8] [] (by kernel_rfl) (by kernel_rfl) (Gr.drew _) ?_
    simp only [pickL, List.drop_succ_cons, List.drop_zero]
    iterate 2 refine rq_v (op_pure rfl) ?_
    refine rq_v (op_idx Try.underlying22 Try.sizeOf2 rfl rfl sa_A (by omega) (by omega)) ?_
    refine rq_r (fun wq hq => op_ldR Try.underlying2 rfl rfl (hA.gr (S.gr hq).out) hx) ?_
    iterate 2 refine rq_v (op_pure rfl) ?_
    refine rq_v (op_idx Try.underlying22 Try.sizeOf2 rfl rfl sa_B (by omega) (by omega)) ?_
    refine rq_r (fun wq hq => op_ldR Try.underlying2 rfl rfl (hB.gr (S.gr hq).out) hx) ?_
    first | refine rq_v (op_b (b := true) rfl (bne_iff_ne.2 (by omega))) ?_ | refine rq_v (op_b (b := false) rfl (bne_eq_false_iff_eq.2 (by omega))) ?_ | refine rq_v (op_pure rfl) ?_
    refine rq_nil ?_
    intro w1_ g1_
    have S := S.gr g1_
    first | refine rw_end ?_ | (refine rw_nil ?_; show CW _ _ _ _ _ _) | refine rw_nil ?_
    repeat refine cw_seq ?_
    refine cw_false rfl ?_
    repeat refine cw_seq ?_
    refine cw_skip ?_
    try show CW _ _ _ _ _ _
    repeat refine cw_seq ?_
    refine cw_region ?_
    refine rw_v (op_rng rfl (by omega)) ?_
    refine rw_v (op_pure rfl) ?_
    first | refine rw_end ?_ | (refine rw_nil ?_; show CW _ _ _ _ _ _) | refine rw_nil ?_
    exact ⟨m - 1, by omega, k + 1, by omega, ⟨rfl, rfl, rfl, ie (by omega), trivial⟩, S⟩
  · try simp only [decide_eq_true_eq, decide_eq_false_iff_not, beq_iff_eq, bne_iff_ne, beq_eq_false_iff_ne, bne_eq_false_iff_eq, Bool.not_eq_true', Bool.not_eq_false', ne_eq, Decidable.not_not, Int.natCast_inj, Int.ofNat_lt, Int.ofNat_le, gt_iff_lt, ge_iff_le, Int.not_lt, Int.not_le] at hk1
    repeat refine cw_seq ?_
    refine cw_exit ?_
    repeat first | refine exit_then ?_ | refine exit_inb ?_
    show CW _ _ _ _ _ _
    repeat refine cw_seq ?_
    refine cw_region ?_
    refine rw_v (op_pure rfl) ?_
    first | refine rw_end ?_ | (refine rw_nil ?_; show CW _ _ _ _ _ _) | refine rw_nil ?_
    repeat refine cw_seq ?_
    refine cw_ret ?_
    repeat first | refine ret_then ?_ | refine ret_inb ?_
    exact res1 rfl ⟨rfl, S.out⟩
theorem same1_E (b b2 : Nat) (R R2 : Option Nat) (sw sh : Nat) (c : Nat → Int) (hw : 1 ≤ sw ∧ sw ≤ 16) (hh : 1 ≤ sh ∧ sh ≤ 16) (W : World) (hS : SlabIs W b R sw sh c) (hS2 : SlabIs W b2 R2 sw sh c) :
    Fn Try.prog 65 [.pointer (some ⟨b, 0, none⟩), .pointer (some ⟨b2, 0, none⟩)] W (RetG (.bool true) W) := by
  have hsz : sw * sh ≤ 16 * 16 := Nat.mul_le_mul hw.2 hh.2
  have S := St.start W
  refine Fn_enter Try.func65 rfl Try.results65 Try.ntmps65 (by kernel_rfl) (by kernel_rfl) ?_
  repeat refine cw_seq ?_
  refine cw_region ?_
  refine rw_v (op_pure rfl) ?_
  first | refine rw_end ?_ | (refine rw_nil ?_; show CW _ _ _ _ _ _) | refine rw_nil ?_
  repeat refine cw_seq ?_
  refine cw_region ?_
  refine rw_v (op_pure rfl) ?_
  refine rw_call rfl (scells_E b R sw sh c hw hh W (hS.gr S.out)) ?_
  rintro _ w1_ ⟨A_x, c_x, rfl, hR_x, hf_x, g1_⟩
  have S := S.pushRow hR_x hf_x g1_
  refine rw_v (op_pure rfl) ?_
  refine rw_call rfl (scells_E b2 R2 sw sh c hw hh w1_ (hS2.gr S.out)) ?_
  rintro _ w2_ ⟨A_y, c_y, rfl, hR_y, hf_y, g2_⟩
  have S := S.pushRow hR_y hf_y g2_
  refine rw_call rfl (sequal_E (sw * sh) c _ _ _ _ (by omega) w2_ (S.rd (i := 1) rfl) (S.rd (i := 0) rfl)) ?_
  rintro _ w3_ ⟨rfl, g3_⟩
  have S := S.gr g3_
  refine rw_v (op_pure rfl) ?_
  first | refine rw_end ?_ | (refine rw_nil ?_; show CW _ _ _ _ _ _) | refine rw_nil ?_
  repeat refine cw_seq ?_
  refine cw_ret ?_
  repeat first | refine ret_then ?_ | refine ret_inb ?_
  exact res1 rfl ⟨rfl, S.out⟩
theorem equalFunc_E (n fid : Nat) (bs bs2 : Nat → Nat) (A B : Option Addr) (c d : Nat) (hn : n ≤ 1048576) (W : World) (hA : Rd W A (ptrs n bs)) (hB : Rd W B (ptrs n bs2))
    (hf : ∀ t, t < n → ∀ w', Gr W w' → Fn Try.prog fid (([] : List Value) ++ [.pointer (some ⟨bs t, 0, none⟩), .pointer (some ⟨bs2 t, 0, none⟩)] ++ ([] : List Value)) w' (RetG (.bool true) w')) :
    Fn Try.prog 64 [.slice A n c, .slice B n d, .func (.func fid) (([] : List Value).toArray) (([] : List Value).toArray)] W (RetG (.bool true) W) := by
  have S := St.start W
  refine Fn_enter Try.func64 rfl Try.results64 Try.ntmps64 (by kernel_rfl) (by kernel_rfl) ?_
  repeat refine cw_seq ?_
  refine cw_region ?_
  refine rw_v (op_pure rfl) ?_
  first | refine rw_end ?_ | (refine rw_nil ?_; show CW _ _ _ _ _ _) | refine rw_nil ?_
  repeat refine cw_seq ?_
  refine cw_region ?_
  refine rw_v (op_pure rfl) ?_
  refine rw_v (op_len Try.underlying110 rfl) ?_
  refine rw_v (op_pure rfl) ?_
  refine rw_v (op_len Try.underlying110 rfl) ?_
  refine rw_v (op_b (b := false) rfl (bne_eq_false_iff_eq.2 (by omega))) ?_
  first | refine rw_end ?_ | (refine rw_nil ?_; show CW _ _ _ _ _ _) | refine rw_nil ?_
  repeat refine cw_seq ?_
  refine cw_false rfl ?_
  repeat refine cw_seq ?_
  refine cw_skip ?_
  try show CW _ _ _ _ _ _
  repeat refine cw_seq ?_
  refine cw_region ?_
  refine rw_v (op_pure rfl) ?_
  refine rw_v (op_len Try.underlying110 rfl) ?_
  refine rw_v (op_pure rfl) ?_
  first | refine rw_end ?_ | (refine rw_nil ?_; show CW _ _ _ _ _ _) | refine rw_nil ?_
  repeat refine cw_seq ?_
  refine cw_block ?_
  repeat refine cw_seq ?_
  refine cw_loop (fun m e w => ∃ k : Nat, k + m = n ∧ SL e [(0, .slice A n c), (1, .slice B n d), (2, .func (.func fid) (([] : List Value).toArray) (([] : List Value).toArray)), (15, .slice A n c), (16, .int .i64 n), (17, .int .i64 k)] ∧ St No W w []) n
    ⟨0, by omega, ⟨rfl, rfl, rfl, rfl, rfl, rfl, trivial⟩, S⟩ ?_
  rintro m e w ⟨k, hk, hsl, S⟩
  rw [hsl.fold]
  repeat refine cw_seq ?_
  refine cw_region ?_
  refine rw_v (op_pure rfl) ?_
  first | refine rw_end ?_ | (refine rw_nil ?_; show CW _ _ _ _ _ _) | refine rw_nil ?_
  repeat refine cw_seq ?_
  refine cw_cond rfl (fun hk1 => ?_) (fun hk1 => ?_)
  · try simp only [decide_eq_true_eq, decide_eq_false_iff_not, beq_iff_eq, bne_iff_ne, beq_eq_false_iff_ne, bne_eq_false_iff_eq, Bool.not_eq_true', Bool.not_eq_false', ne_eq, Decidable.not_not, Int.natCast_inj, Int.ofNat_lt, Int.ofNat_le, gt_iff_lt, ge_iff_le, Int.not_lt, Int.not_le] at hk1
    have hk1 : k < n := by omega
    have hx : (ptrs n bs)[(k : Int).toNat * 1]? = some (.pointer (some ⟨bs k, 0, none⟩)) := by rw [Nat.mul_one, Int.toNat_natCast]; exact ptrs_get hk1
    have hy : (ptrs n bs2)[(k : Int).toNat * 1]? = some (.pointer (some ⟨bs2 k, 0, none⟩)) := by rw [Nat.mul_one, Int.toNat_natCast]; exact ptrs_get hk1
    have hlenp : 0 < (ptrs n bs).length ∧ 0 < (ptrs n bs2).length := ⟨by have := (List.getElem?_eq_some_iff.1 hx).1; omega, by have := (List.getElem?_eq_some_iff.1 hy).1; omega⟩
    have sa_A : SomeA A := hA.someA hlenp.1
    have sa_B : SomeA B := hB.someA hlenp.2
    repeat refine cw_seq ?_
    refine cw_skip ?_
    try show CW _ _ _ _ _ _
    repeat refine cw_seq ?_
    refine cw_block ?_
    repeat refine cw_seq ?_
    refine cw_region ?_
    refine rw_v (op_pure rfl) ?_
    refine rw_v (op_idx Try.underlying110 Try.sizeOf114 rfl rfl sa_A (by omega) (by omega)) ?_
    refine rw_r (op_ldR Try.underlying114 rfl rfl (hA.gr S.out) hx) ?_
    iterate 2 refine rw_v (op_pure rfl) ?_
    first | refine rw_end ?_ | (refine rw_nil ?_; show CW _ _ _ _ _ _) | refine rw_nil ?_
    repeat refine cw_seq ?_
    refine cw_region ?_
    iterate 2 refine rw_v (op_pure rfl) ?_
    refine rw_v (op_idx Try.underlying110 Try.sizeOf114 rfl rfl sa_B (by omega) (by omega)) ?_
    refine rw_r (op_ldR Try.underlying114 rfl rfl (hB.gr S.out) hy) ?_
    refine rw_v (op_pure rfl) ?_
    first | refine rw_end ?_ | (refine rw_nil ?_; show CW _ _ _ _ _ _) | refine rw_nil ?_
    repeat refine cw_seq ?_
    refine cw_region ?_
    iterate 3 refine rw_v (op_pure rfl) ?_
    refine rw_callv rfl rfl (hf k hk1 _ S.out) ?_
    rintro _ w1_ ⟨rfl, g1_⟩
    have S := S.gr g1_
    refine rw_v (op_pure rfl) ?_
    first | refine rw_end ?_ | (refine rw_nil ?_; show CW _ _ _ _ _ _) | refine rw_nil ?_
    repeat refine cw_seq ?_
    refine cw_false rfl ?_
    repeat refine cw_seq ?_
    refine cw_skip ?_
    try show CW _ _ _ _ _ _
    repeat refine cw_seq ?_
    refine cw_region ?_
    refine rw_v (op_rng rfl (by omega)) ?_
    refine rw_v (op_pure rfl) ?_
    first | refine rw_end ?_ | (refine rw_nil ?_; show CW _ _ _ _ _ _) | refine rw_nil ?_
    exact ⟨m - 1, by omega, k + 1, by omega, ⟨rfl, rfl, rfl, rfl, rfl, ie (by omega), trivial⟩, S⟩
  · try simp only [decide_eq_true_eq, decide_eq_false_iff_not, beq_iff_eq, bne_iff_ne, beq_eq_false_iff_ne, bne_eq_false_iff_eq, Bool.not_eq_true', Bool.not_eq_false', ne_eq, Decidable.not_not, Int.natCast_inj, Int.ofNat_lt, Int.ofNat_le, gt_iff_lt, ge_iff_le, Int.not_lt, Int.not_le] at hk1
    repeat refine cw_seq ?_
    refine cw_exit ?_
    repeat first | refine exit_then ?_ | refine exit_inb ?_
    show CW _ _ _ _ _ _
    repeat refine cw_seq ?_
    refine cw_region ?_
    refine rw_v (op_pure rfl) ?_
    first | refine rw_end ?_ | (refine rw_nil ?_; show CW _ _ _ _ _ _) | refine rw_nil ?_
    repeat refine cw_seq ?_
    refine cw_ret ?_
    repeat first | refine ret_then ?_ | refine ret_inb ?_
    exact res1 rfl ⟨rfl, S.out⟩
theorem gsame_E {p p2 gw gh cap cap2 : Nat} {A A2 : Option Addr} {cc : Nat → Int} {bs bs2 : Nat → Nat} {Rs Rs2 : Nat → Option Nat} (hG : GridAt W p gw gh cc A cap bs Rs) (hG2 : GridAt W p2 gw gh cc A2 cap2 bs2 Rs2) :
    Fn Try.prog 22 [.pointer (some ⟨p, 0, none⟩), .pointer (some ⟨p2, 0, none⟩)] W (RetG (.bool true) W) := by
  have hN : acr gw * acr gh ≤ 1048576 := by
    have h1 := hG.sw
    have h2 := hG.sh
    have : acr gw * acr gh ≤ 1024 * 1024 := Nat.mul_le_mul (by unfold acr; omega) (by unfold acr; omega)
    omega
  have hf : ∀ w, Gr W w → ∀ t, t < acr gw * acr gh → ∀ w', Gr w w' → Fn Try.prog 65 (([] : List Value) ++ [.pointer (some ⟨bs t, 0, none⟩), .pointer (some ⟨bs2 t, 0, none⟩)] ++ ([] : List Value)) w' (RetG (.bool true) w') := fun w g t ht w' g' => by
    have hpos : 0 < acr gw := by have h1 := hG.sw; unfold acr; omega
    exact same1_E _ _ _ _ _ _ _ (tsz_pos (Nat.mod_lt _ hpos)) (tsz_pos (Nat.div_lt_of_lt_mul ht)) w' ((hG.slab t ht).gr (g.trans g')) ((hG2.slab t ht).gr (g.trans g'))
  have S := St.start W
  refine Fn_enter Try.func22 rfl Try.results22 Try.ntmps22 (by kernel_rfl) (by kernel_rfl) ?_
  repeat refine cw_seq ?_
  refine cw_region ?_
  refine rw_v (op_pure rfl) ?_
  first | refine rw_end ?_ | (refine rw_nil ?_; show CW _ _ _ _ _ _) | refine rw_nil ?_
  repeat refine cw_seq ?_
  refine cw_region ?_
  refine rw_v (op_pure rfl) ?_
  refine rw_v (op_nilp Try.underlying28 rfl rfl) ?_
  refine rw_v (op_pure rfl) ?_
  first | refine rw_off rfl ?_ | (refine rw_on rfl ?_; refine rw_v (op_pure rfl) ?_)
  first | refine rw_off rfl ?_ | (refine rw_on rfl ?_; refine rw_v (op_nilp Try.underlying28 rfl rfl) ?_)
  refine rw_v (op_pure rfl) ?_
  first | refine rw_end ?_ | (refine rw_nil ?_; show CW _ _ _ _ _ _) | refine rw_nil ?_
  repeat refine cw_seq ?_
  refine cw_false rfl ?_
  repeat refine cw_seq ?_
  refine cw_skip ?_
  try show CW _ _ _ _ _ _
  repeat refine cw_seq ?_
  refine cw_draw (C := fun wq => Gr W wq) [0, 1, 2, 3, 4, 5, 6, 7, 8, 9, 10, 11, 12, 13, 14, 15, 16, 17, 18, 19, 20, 21, 22, 23, 24, 25, 26, 27, 28, 29, 30, 31] [] (by kernel_rfl) (by kernel_rfl) (Gr.drew _) ?_
  simp only [pickL, List.drop_succ_cons, List.drop_zero]
  iterate 2 refine rq_v (op_pure rfl) ?_
  refine rq_v (op_fieldAddr Try.underlying112 rfl Try.sizeOf2 rfl rfl) ?_
  refine rq_r (fun wq hq => op_loadB Try.underlying2 rfl rfl (hG.top.gr (S.gr hq).out) rfl) ?_
  iterate 2 refine rq_v (op_pure rfl) ?_
  refine rq_v (op_fieldAddr Try.underlying112 rfl Try.sizeOf2 rfl rfl) ?_
  refine rq_r (fun wq hq => op_loadB Try.underlying2 rfl rfl (hG2.top.gr (S.gr hq).out) rfl) ?_
  first | refine rq_v (op_b (b := true) rfl (beq_iff_eq.2 (by omega))) ?_ | refine rq_v (op_b (b := false) rfl (beq_eq_false_iff_ne.2 (by omega))) ?_ | refine rq_v (op_pure rfl) ?_
  refine rq_v (op_pure rfl) ?_
  first | refine rq_off rfl ?_ | (refine rq_on rfl ?_; refine rq_v (op_pure rfl) ?_)
  first | refine rq_off rfl ?_ | (refine rq_on rfl ?_; refine rq_v (op_pure rfl) ?_)
  first | refine rq_off rfl ?_ | (refine rq_on rfl ?_; refine rq_v (op_fieldAddr Try.underlying112 rfl Try.sizeOf2 rfl rfl) ?_)
  first | refine rq_off rfl ?_ | (refine rq_on rfl ?_; refine rq_r (fun wq hq => op_loadB Try.underlying2 rfl rfl (hG.top.gr (S.gr hq).out) rfl) ?_)
  first | refine rq_off rfl ?_ | (refine rq_on rfl ?_; refine rq_v (op_pure rfl) ?_)
  first | refine rq_off rfl ?_ | (refine rq_on rfl ?_; refine rq_v (op_pure rfl) ?_)
  first | refine rq_off rfl ?_ | (refine rq_on rfl ?_; refine rq_v (op_fieldAddr Try.underlying112 rfl Try.sizeOf2 rfl rfl) ?_)
  first | refine rq_off rfl ?_ | (refine rq_on rfl ?_; refine rq_r (fun wq hq => op_loadB Try.underlying2 rfl rfl (hG2.top.gr (S.gr hq).out) rfl) ?_)
  first | refine rq_off rfl ?_ | (refine rq_on rfl ?_; (first | refine rq_v (op_b (b := true) rfl (beq_iff_eq.2 (by omega))) ?_ | refine rq_v (op_b (b := false) rfl (beq_eq_false_iff_ne.2 (by omega))) ?_ | refine rq_v (op_pure rfl) ?_))
  iterate 2 refine rq_v (op_pure rfl) ?_
  first | refine rq_off rfl ?_ | (refine rq_on rfl ?_; refine rq_v (op_pure rfl) ?_)
  first | refine rq_off rfl ?_ | (refine rq_on rfl ?_; refine rq_v (op_pure rfl) ?_)
  first | refine rq_off rfl ?_ | (refine rq_on rfl ?_; refine rq_v (op_fieldAddr Try.underlying112 rfl Try.sizeOf110 rfl rfl) ?_)
  first | refine rq_off rfl ?_ | (refine rq_on rfl ?_; refine rq_r (fun wq hq => op_loadB Try.underlying110 rfl rfl (hG.top.gr (S.gr hq).out) rfl) ?_)
  first | refine rq_off rfl ?_ | (refine rq_on rfl ?_; refine rq_v (op_pure rfl) ?_)
  first | refine rq_off rfl ?_ | (refine rq_on rfl ?_; refine rq_v (op_pure rfl) ?_)
  first | refine rq_off rfl ?_ | (refine rq_on rfl ?_; refine rq_v (op_fieldAddr Try.underlying112 rfl Try.sizeOf110 rfl rfl) ?_)
  first | refine rq_off rfl ?_ | (refine rq_on rfl ?_; refine rq_r (fun wq hq => op_loadB Try.underlying110 rfl rfl (hG2.top.gr (S.gr hq).out) rfl) ?_)
  refine rq_on rfl ?_
  refine rq_call rfl (fun wq hq => (equalFunc_E (acr gw * acr gh) _ bs bs2 _ _ _ _ hN wq (hG.row.rd.gr (S.gr hq).out) (hG2.row.rd.gr (S.gr hq).out) (hf wq (S.gr hq).out)).mono (fun _ _ ⟨hv, hg⟩ => ⟨hv, hq.trans hg⟩)) ?_
  iterate 2 refine rq_v (op_pure rfl) ?_
  refine rq_nil ?_
  intro w1_ g1_
  have S := S.gr g1_
  first | refine rw_end ?_ | (refine rw_nil ?_; show CW _ _ _ _ _ _) | refine rw_nil ?_
  repeat refine cw_seq ?_
  refine cw_ret ?_
  repeat first | refine ret_then ?_ | refine ret_inb ?_
  exact res1 rfl ⟨rfl, S.out⟩
end
section
variable {W : World} {A B : Option Addr} {p gw gh cap cu : Nat} {cc : Nat → Int} {bs : Nat → Nat} {Rs : Nat → Option Nat} {U : List Int}
theorem is_E (hU : U.length = gw * gh) (hG : GridAt W p gw gh cc A cap bs Rs) (hR : Rd W B (ints U)) :
    Fn Try.prog 41 [.pointer (some ⟨p, 0, none⟩), .agg #[.int .i64 gw, .int .i64 gh, .slice B (gw * gh) cu]] W (RetG (.bool (decide (gridL gw gh cc = U))) W) := by
  have hw := hG.sw
  have hh := hG.sh
  have hn : gw * gh ≤ 1024 * 1024 := Nat.mul_le_mul hw.2 hh.2
  have hV := gridL_len gw gh cc
  have e1 : ((gw : Int) - 1) = ((gw - 1 : Nat) : Int) := by omega
  have e2 : ((gh : Int) - 1) = ((gh - 1 : Nat) : Int) := by omega
  have hval : ∀ w, Gr W w → Fn Try.prog 43 [.pointer (some ⟨p, 0, none⟩), .agg #[.int .i64 0, .int .i64 0, .int .i64 (gw - 1), .int .i64 (gh - 1)]] w (RetNew (fun v => .tuple #[v, .int .i64 0]) 2 1 (gw * gh) (ints (gridL gw gh cc)) w) := fun w g => by
    have := gvalues_E (W := w) 0 0 (gw - 1) (gh - 1) (by omega) (by omega) (hG.gr g)
    rw [← e1, ← e2, show gw - 1 + 1 - 0 = gw by omega, show gh - 1 + 1 - 0 = gh by omega, rectV_all, Nat.mul_comm gh gw] at this
    exact this
  have hsame : ∀ (A1 : Option Addr) (c1 : Nat) (w : World), Rd w A1 (ints (gridL gw gh cc)) → Rd w B (ints U) → Fn Try.prog 30 [.slice A1 (gw * gh) c1, .slice B (gw * gh) cu] w (RetG (.bool (decide (gridL gw gh cc = U))) w) := fun A1 c1 w h1 h2 => by
    have := rsame_E A1 B c1 cu (gridL gw gh cc) U w (by omega) h1 h2
    rw [hV, hU] at this
    exact this
  have S := St.start W
  refine Fn_enter Try.func41 rfl Try.results41 Try.ntmps41 (by kernel_rfl) (by kernel_rfl) ?_
  repeat refine cw_seq ?_
  refine cw_region ?_
  refine rw_newB (op_box rfl) S ?_
  intro b_md w2_ g2_ S
  refine rw_v (op_pure rfl) ?_
  first | refine rw_end ?_ | (refine rw_nil ?_; show CW _ _ _ _ _ _) | refine rw_nil ?_
  repeat refine cw_seq ?_
  refine cw_region ?_
  refine rw_v (op_pure rfl) ?_
  refine rw_call rfl (gsize_E p gw gh _ w2_ (hG.top.gr S.out)) ?_
  rintro _ w3_ ⟨rfl, g3_⟩
  have S := S.gr g3_
  iterate 5 refine rw_v (op_pure rfl) ?_
  first | refine rw_end ?_ | (refine rw_nil ?_; show CW _ _ _ _ _ _) | refine rw_nil ?_
  repeat refine cw_seq ?_
  refine cw_region ?_
  iterate 2 refine rw_v (op_pure rfl) ?_
  refine rw_call rfl (gall_E p gw gh hw.2 hh.2 _ w3_ (hG.top.gr S.out)) ?_
  rintro _ w4_ ⟨rfl, g4_⟩
  have S := S.gr g4_
  refine rw_call rfl (hval w4_ S.out) ?_
  rintro _ w5_ ⟨A_v, c_v, rfl, hR_v, hf_v, g5_⟩
  have S := S.pushRow hR_v hf_v g5_
  iterate 5 refine rw_v (op_pure rfl) ?_
  first | refine rw_end ?_ | (refine rw_nil ?_; show CW _ _ _ _ _ _) | refine rw_nil ?_
  repeat refine cw_seq ?_
  refine cw_region ?_
  refine rw_v (op_pure rfl) ?_
  refine rw_v (op_fieldAddr Try.underlying25 rfl Try.sizeOf2 rfl rfl) ?_
  refine rw_r (op_loadB Try.underlying2 rfl rfl (S.blk (i := 1) rfl) rfl) ?_
  first | refine rw_v (op_b (b := true) rfl (beq_iff_eq.2 (by omega))) ?_ | refine rw_v (op_b (b := false) rfl (beq_eq_false_iff_ne.2 (by omega))) ?_ | refine rw_v (op_pure rfl) ?_
  refine rw_v (op_pure rfl) ?_
  first | refine rw_off rfl ?_ | (refine rw_on rfl ?_; refine rw_v (op_pure rfl) ?_)
  first | refine rw_off rfl ?_ | (refine rw_on rfl ?_; refine rw_v (op_fieldAddr Try.underlying25 rfl Try.sizeOf2 rfl rfl) ?_)
  first | refine rw_off rfl ?_ | (refine rw_on rfl ?_; refine rw_r (op_loadB Try.underlying2 rfl rfl (S.blk (i := 1) rfl) rfl) ?_)
  first | refine rw_off rfl ?_ | (refine rw_on rfl ?_; (first | refine rw_v (op_b (b := true) rfl (beq_iff_eq.2 (by omega))) ?_ | refine rw_v (op_b (b := false) rfl (beq_eq_false_iff_ne.2 (by omega))) ?_ | refine rw_v (op_pure rfl) ?_))
  iterate 2 refine rw_v (op_pure rfl) ?_
  first | refine rw_off rfl ?_ | (refine rw_on rfl ?_; refine rw_v (op_pure rfl) ?_)
  first | refine rw_off rfl ?_ | (refine rw_on rfl ?_; (first | refine rw_v (op_b (b := true) rfl (beq_iff_eq.2 (by omega))) ?_ | refine rw_v (op_b (b := false) rfl (beq_eq_false_iff_ne.2 (by omega))) ?_ | refine rw_v (op_pure rfl) ?_))
  iterate 2 refine rw_v (op_pure rfl) ?_
  first | refine rw_off rfl ?_ | (refine rw_on rfl ?_; refine rw_v (op_pure rfl) ?_)
  first | refine rw_off rfl ?_ | (refine rw_on rfl ?_; refine rw_v (op_fieldAddr Try.underlying25 rfl Try.sizeOf22 rfl rfl) ?_)
  first | refine rw_off rfl ?_ | (refine rw_on rfl ?_; refine rw_r (op_loadB Try.underlying22 rfl rfl (S.blk (i := 1) rfl) rfl) ?_)
  refine rw_on rfl ?_
  refine rw_call rfl (hsame A_v c_v w5_ (S.rd (i := 0) rfl) (hR.gr S.out)) ?_
  rintro _ w6_ ⟨rfl, g6_⟩
  have S := S.gr g6_
  iterate 2 refine rw_v (op_pure rfl) ?_
  first | refine rw_end ?_ | (refine rw_nil ?_; show CW _ _ _ _ _ _) | refine rw_nil ?_
  repeat refine cw_seq ?_
  refine cw_ret ?_
  repeat first | refine ret_then ?_ | refine ret_inb ?_
  exact res1 rfl ⟨rfl, S.out⟩
end
end Go.Proofs.Ytbcgbcipigcbhaa
