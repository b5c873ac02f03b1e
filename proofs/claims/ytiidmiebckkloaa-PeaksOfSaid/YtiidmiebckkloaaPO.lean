/- peaks.land.rises: its contract. -/
import Derived.Test.YtiidmiebckkloaaPL
import Derived.Test.YtiidmiebckkloaaPN
import Derived.Test.YtiidmiebckkloaaPE
import Derived.Test.YtiidmiebckkloaaPG
import Derived.Test.YtiidmiebckkloaaPF
namespace Go.Proofs.Ytiidmiebckkloaa
open Go.RowKit
set_option linter.unusedVariables false
set_option linter.unusedSimpArgs false
set_option maxRecDepth 100000

theorem info_t115 : (Try.prog.info? 115).map (fun i => (i.zero, i.size, i.bytes)) = some (some (.agg #[.pointer none, .int .i64 0, .slice none 0 0]), 3, 40) := by kernel_rfl
/-- a head's number -/
def idxP : List Nat → Int → Option Int
  | [], _ => none
  | a :: r, x => if (a : Int) = x then some 0 else (idxP r x).map (· + 1)
theorem idxP_none {q : Nat} : ∀ {l : List Nat}, idxP l q = none ↔ q ∉ l
  | [] => by simp [idxP]
  | a :: r => by
    unfold idxP
    split
    · rename_i h
      have : a = q := by omega
      subst this; simp
    · rename_i h
      rw [Option.map_eq_none_iff, idxP_none, List.mem_cons]
      exact ⟨fun h1 h2 => h2.elim (fun e => h (by rw [e])) h1, fun h1 h2 => h1 (.inr h2)⟩
theorem idxP_some {q : Nat} {i : Int} : ∀ {l : List Nat}, idxP l q = some i → ∃ p : Nat, i = p ∧ l[p]? = some q
  | [], h => by cases h
  | a :: r, h => by
    unfold idxP at h
    split at h
    · rename_i e
      injection h with h
      exact ⟨0, by omega, by have : a = q := by omega
                             rw [this]; rfl⟩
    · cases hr : idxP r q with
      | none => rw [hr] at h; cases h
      | some y =>
        rw [hr] at h
        injection h with h
        obtain ⟨p, rfl, hp⟩ := idxP_some hr
        have h' : (p : Int) + 1 = i := h
        exact ⟨p + 1, by omega, by rw [List.getElem?_cons_succ]; exact hp⟩
theorem idxP_push {q : Nat} : ∀ {l : List Nat}, q ∉ l → updM (idxP l) q l.length = idxP (l ++ [q])
  | [], _ => by
    funext x
    unfold updM
    simp only [List.nil_append, idxP, List.length_nil]
    by_cases h : x = (q : Int)
    · rw [if_pos h, if_pos h.symm]; rfl
    · rw [if_neg h, if_neg (fun e => h e.symm)]; rfl
  | b :: l, h => by
    have ih := idxP_push (l := l) (q := q) (fun e => h (List.mem_cons_of_mem _ e))
    funext x
    have ihx := congrFun ih x
    unfold updM at *
    simp only [List.cons_append, idxP]
    rw [← ihx]
    have hne : (q : Int) ≠ (b : Int) := fun e => h (by rw [show q = b by omega]; simp)
    by_cases hx : x = (q : Int)
    · rw [if_pos hx, if_pos hx, if_neg (fun e => hne (by rw [← hx, e]))]
      simp
    · rw [if_neg hx, if_neg hx]
def bitD (D : List Nat) (j : Nat) : Bool := decide (j ∈ D)
/-- the isles' pointers -/
def islV (n : Nat) (D : List Nat) (bk : Nat → Nat) : List Value := (List.range n).map fun j => if j ∈ D then .pointer (some ⟨bk j, 0, none⟩) else .pointer none
section
variable {n i j : Nat} {D : List Nat} {bk bk' : Nat → Nat}
theorem islV_len : (islV n D bk).length = n := by simp [islV]
theorem islV_get (h : i < n) : (islV n D bk)[(i : Int).toNat * 1]? = some (if i ∈ D then .pointer (some ⟨bk i, 0, none⟩) else .pointer none) := by
  rw [Nat.mul_one, Int.toNat_natCast, islV, List.getElem?_map, List.getElem?_range h]; rfl
theorem islV_zero : List.replicate n (Value.pointer none) = islV n [] bk := by
  unfold islV
  simp only [List.not_mem_nil, if_false]
  rw [List.map_const', List.length_range]
theorem islV_set {b : Nat} (hb : bk' i = b) (hbk : ∀ j, j ∈ D → j ≠ i → bk' j = bk j) : (islV n D bk).set ((i : Int).toNat * 1) (.pointer (some ⟨b, 0, none⟩)) = islV n (i :: D) bk' := by
  rw [Nat.mul_one, Int.toNat_natCast]
  apply List.ext_getElem?
  intro j
  rw [List.getElem?_set]
  unfold islV
  by_cases e : i = j
  · subst e
    rw [if_pos rfl]
    simp only [List.length_map, List.length_range]
    split
    · rename_i h; rw [List.getElem?_map, List.getElem?_range h]; simp [hb]
    · rename_i h; rw [List.getElem?_eq_none (by simp; omega)]
  · rw [if_neg e, List.getElem?_map, List.getElem?_map]
    by_cases h : j < n
    · rw [List.getElem?_range h, Option.map_some, Option.map_some]
      have : j ∈ i :: D ↔ j ∈ D := by rw [List.mem_cons]; exact ⟨fun h => h.elim (fun e2 => absurd e2.symm e) id, .inr⟩
      by_cases hj : j ∈ D
      · rw [if_pos hj, if_pos (this.2 hj), hbk j hj (fun e2 => e e2.symm)]
      · rw [if_neg hj, if_neg (fun h => hj (this.1 h))]
    · rw [List.getElem?_eq_none (by simp; omega)]; rfl
theorem islV_congr (h : ∀ j, j ∈ D → bk j = bk' j) : islV n D bk = islV n D bk' := by
  unfold islV
  refine List.map_congr_left fun j _ => ?_
  by_cases hj : j ∈ D
  · rw [if_pos hj, if_pos hj, h j hj]
  · rw [if_neg hj, if_neg hj]
end
theorem ps_inj {n : Nat} {o : Nat → Nat} (h : PS 0 n (fun i => i) o) : ∀ x y, x < n → y < n → o x = o y → x = y := by
  induction h with
  | refl => exact fun x y _ _ e => e
  | @swap o' i j hi hj _ ih =>
    intro x y hx hy e
    have key : ∀ x, swp o' i j x = o' (if x = i then j else if x = j then i else x) := fun x => by
      unfold swp
      by_cases h1 : x = i
      · rw [if_pos h1, if_pos h1]
      · rw [if_neg h1, if_neg h1]
        by_cases h2 : x = j
        · rw [if_pos h2, if_pos h2]
        · rw [if_neg h2, if_neg h2]
    rw [key, key] at e
    have := ih _ _ (by split <;> (try split) <;> omega) (by split <;> (try split) <;> omega) e
    split at this <;> split at this <;> (try split at this) <;> (try split at this) <;> omega
theorem laidL_nodup {n : Nat} {o : Nat → Nat} (ho : ∀ x y, x < n → y < n → o x = o y → x = y) : ∀ k, k ≤ n → (laidL o k).Nodup
  | 0, _ => by simp [laidL]
  | k + 1, hk => by
    unfold laidL
    rw [List.nodup_cons]
    refine ⟨fun h => ?_, laidL_nodup ho k (by omega)⟩
    obtain ⟨x, hx, e⟩ := mem_laidL.1 h
    have := ho x k (by omega) (by omega) e
    omega
theorem St.isl {F : Nat → Prop} {W w : World} {A tl : List HA} {il : Nat → Il} {D : List Nat} (S : St F W w (A ++ (islP il D ++ tl))) {j : Nat} (hj : j ∈ D) : Blk w (il j).b 115 (il j).cells := S.mem (List.mem_append_right _ (List.mem_append_left _ (mem_islP hj)))
theorem St.islr {F : Nat → Prop} {W w : World} {A tl : List HA} {il : Nat → Il} {D : List Nat} (S : St F W w (A ++ (islP il D ++ tl))) {j : Nat} (hj : j ∈ D) : Row w 3 1 (il j).A (il j).o.length (il j).c (natsV (il j).o) :=
  S.mem (h := (il j).row) (List.mem_append_right _ (List.mem_append_left _ (List.mem_flatMap.2 ⟨j, hj, List.mem_cons_of_mem _ List.mem_cons_self⟩)))
theorem St.at3 {F : Nat → Prop} {W w : World} {a b c' : HA} {el k n c : Nat} {A : Option Addr} {xs ys : List Value} {L : List HA} (S : St F W w (a :: b :: c' :: .row el k A n c xs :: L)) (h : xs = ys) : St F W w (a :: b :: c' :: .row el k A n c ys :: L) := h ▸ S
/-- two isles change -/
def ilSet (il : Nat → Il) (x y : Nat) (X Y : Il) : Nat → Il := fun i => if i = x then X else if i = y then Y else il i
section
variable {il : Nat → Il} {x y : Nat} {X Y : Il} {D : List Nat}
theorem ilSet_x : ilSet il x y X Y x = X := if_pos rfl
theorem ilSet_y (h : x ≠ y) : ilSet il x y X Y y = Y := by unfold ilSet; rw [if_neg (fun e => h e.symm), if_pos rfl]
theorem ilSet_o {i : Nat} (h1 : i ≠ x) (h2 : i ≠ y) : ilSet il x y X Y i = il i := by unfold ilSet; rw [if_neg h1, if_neg h2]
theorem ilSet_b (hX : X.b = (il x).b) (hY : Y.b = (il y).b) : (fun j => (ilSet il x y X Y j).b) = fun j => (il j).b := funext fun j => by
  unfold ilSet
  by_cases h1 : j = x
  · rw [if_pos h1, hX, h1]
  · rw [if_neg h1]
    by_cases h2 : j = y
    · rw [if_pos h2, hY, h2]
    · rw [if_neg h2]
theorem ilSet_v (hX : X.v = (il x).v) (hY : Y.v = (il y).v) (j : Nat) : (il j).v = (ilSet il x y X Y j).v := by
  unfold ilSet
  by_cases h1 : j = x
  · rw [if_pos h1, hX, h1]
  · rw [if_neg h1]
    by_cases h2 : j = y
    · rw [if_pos h2, hY, h2]
    · rw [if_neg h2]
theorem ilSet_perm (hD : D.Nodup) (hx : x ∈ D) (hy : y ∈ D) (h : x ≠ y) : (islP (ilSet il x y X Y) D).Perm ([X.blk, X.row, Y.blk, Y.row] ++ islP il ((D.erase x).erase y)) := by
  refine (islP_perm (erase2 hx hy h)).trans ?_
  rw [islP_cons, islP_cons, ilSet_x, ilSet_y h, islP_congr (il' := il) fun i hi => ilSet_o (erase2_mem hD hi).1 (erase2_mem hD hi).2]
  exact .refl _
theorem isl_perm (hx : x ∈ D) (hy : y ∈ D) (h : x ≠ y) : (islP il D).Perm ([(il x).blk, (il x).row, (il y).blk, (il y).row] ++ islP il ((D.erase x).erase y)) := islP_perm (erase2 hx hy h)
theorem ilSet_u {up : Nat → Option Nat} (hu : ∀ j, j ∈ D → (il j).u = (up j).map fun q => (il q).b) (h : x ≠ y) (hux : up x = none) (hX : X.b = (il x).b) (hXu : X.u = (il x).u) (hY : Y.b = (il y).b) (hYu : Y.u = some (il x).b) (hx : x ∈ D) :
    ∀ j, j ∈ D → (ilSet il x y X Y j).u = (updO_ up y x j).map fun q => (ilSet il x y X Y q).b := fun j hj => by
  have hb := ilSet_b (il := il) (x := x) (y := y) hX hY
  rw [hb]
  unfold updO_
  by_cases h2 : j = y
  · subst h2; rw [ilSet_y h, if_pos rfl, hYu]; rfl
  · rw [if_neg h2]
    by_cases h1 : j = x
    · subst h1; rw [ilSet_x, hXu]; exact hu _ hj
    · rw [ilSet_o h1 h2]; exact hu j hj
end
theorem IsI.olen {gw : Nat} {V : List Int} {H : List Nat} {laid : Nat → Prop} {up : Nat → Option Nat} {val : Nat → Int} {op : Nat → List Nat} {z : Nat → Int} {r : Nat → Nat} (h : IsI gw V H laid up val op z r) {b : Nat} (lb : laid b) (rb : r b = b) : (∀ p, p ∈ op b → p < H.length) ∧ (op b).length ≤ H.length := by
  have h1 : ∀ p, p ∈ op b → p < H.length := fun p hp => by
    obtain ⟨q, hq, _⟩ := (h.opn b lb rb p).1 hp
    exact (List.getElem?_eq_some_iff.1 hq).1
  refine ⟨h1, ?_⟩
  have h2 : (op b).Perm ((List.range H.length).filter fun j => decide (j ∈ op b)) := by
    rw [List.perm_ext_iff_of_nodup (h.ond b lb rb) (List.Pairwise.filter _ List.nodup_range)]
    intro j
    rw [List.mem_filter, List.mem_range, decide_eq_true_iff]
    exact ⟨fun hj => ⟨h1 j hj, hj⟩, fun hj => hj.2⟩
  rw [h2.length_eq]
  have := List.length_filter_le (fun j => decide (j ∈ op b)) (List.range H.length)
  rwa [List.length_range] at this
section
variable {F : Nat → Prop} {W w : World} {tl : List HA} {gw gh : Nat} {V : List Int} {H : List Nat}
set_option maxHeartbeats 16000000 in
theorem prises_E {n co bm cv : Nat} {Ao Av : Option Addr} {z0 : Nat → Int} (hgw : 1 ≤ gw ∧ gw ≤ 1024) (hgh : 1 ≤ gh ∧ gh ≤ 1024) (hV : V.length = gw * gh) (hB : ∀ j, -2147483648 ≤ V.getD j 0 ∧ V.getD j 0 ≤ 2147483647) (hHn : H.Nodup) (hHl : ∀ q, q ∈ H → q < V.length) (hHc : H.length ≤ V.length) (hn : n = H.length)
    (S : St F W w (.row 42 5 Ao n co ((H.map (pkAt gw V z0)).flatMap (encPk gw)) :: .map bm (idxP H) :: .row 2 1 Av (gw * gh) cv (ints V) :: tl)) :
    Fn Try.prog 23 [.agg #[.int .i64 gw, .slice Av (gw * gh) cv], .map (some bm), .slice Ao n co] w (fun v w' => v = .tuple #[] ∧
      St F W w' (.row 42 5 Ao n co ((H.map (pkAt gw V (riseN gw V))).flatMap (encPk gw)) :: .map bm (idxP H) :: .row 2 1 Av (gw * gh) cv (ints V) :: tl)) := by
  have hgm : gw * gh ≤ 1024 * 1024 := Nat.mul_le_mul hgw.2 hgh.2
  have hpos : 1 ≤ gw * gh := Nat.mul_le_mul hgw.1 hgh.1
  have hgetv : ∀ i, i < gw * gh → (ints V)[(i : Int).toNat * 1]? = some (.int .i64 (V.getD i 0)) := fun i hi => by rw [Nat.mul_one, Int.toNat_natCast]; exact ints_get (getD_at (by omega))
  have sa_vs : SomeA Av := (S.row (i := 2) rfl).someA (by omega)
  refine Fn_enter Try.func23 rfl Try.results23 Try.ntmps23 (by kernel_rfl) (by kernel_rfl) ?_
  repeat refine cw_seq ?_
  refine cw_region ?_
  refine rw_newB (op_box rfl) S ?_
  intro b_l w2_ g2_ S
  first | refine rw_end ?_ | (refine rw_nil ?_; show CW _ _ _ _ _ _) | refine rw_nil ?_
  repeat refine cw_seq ?_
  refine cw_region ?_
  refine rw_v (op_fieldAddr Try.underlying66 rfl Try.sizeOf30 rfl rfl) ?_
  refine rw_r (op_loadB Try.underlying30 rfl rfl (S.blk (i := 0) rfl) rfl) ?_
  refine rw_v (op_len Try.underlying30 rfl) ?_
  refine rw_makeS1 Try.underlying94 info_t3 rfl rfl rfl (n := gw * gh) (c := gw * gh) (by omega) (by omega) (by omega) (by omega) S ?_
  intro A_od w4_ g4_ S sa_od
  refine rw_v (op_pure rfl) ?_
  first | refine rw_end ?_ | (refine rw_nil ?_; show CW _ _ _ _ _ _) | refine rw_nil ?_
  repeat refine cw_seq ?_
  refine cw_region ?_
  refine rw_v (op_pure rfl) ?_
  refine rw_v (op_len Try.underlying94 rfl) ?_
  refine rw_v (op_pure rfl) ?_
  first | refine rw_end ?_ | (refine rw_nil ?_; show CW _ _ _ _ _ _) | refine rw_nil ?_
  repeat refine cw_seq ?_
  refine cw_block ?_
  repeat refine cw_seq ?_
  have hz : List.replicate (gw * gh) (Value.int .i64 0) = cellsN (gw * gh) (fun j => if j < 0 then j else 0) := by
    unfold cellsN
    simp only [Nat.not_lt_zero, if_false]
    rw [List.map_const', List.length_range]
    rfl
  rw [hz] at S
  refine cw_loop (fun m e w => ∃ k : Nat, k + m = gw * gh ∧ SL e [(1, .map (some bm)), (2, .slice Ao n co), (3, .pointer (some ⟨b_l, 0, none⟩)), (6, .slice A_od (gw * gh) (gw * gh)), (24, .int .i64 (gw * gh : Nat)), (25, .int .i64 k)] ∧
    St F W w (.row 3 1 A_od (gw * gh) (gw * gh) (cellsN (gw * gh) (fun j => if j < k then j else 0)) :: .blk b_l 66 [.int .i64 gw, .slice Av (gw * gh) cv] :: .row 42 5 Ao n co ((H.map (pkAt gw V z0)).flatMap (encPk gw)) :: .map bm (idxP H) :: .row 2 1 Av (gw * gh) cv (ints V) :: tl)) (gw * gh)
    ⟨0, by omega, ⟨rfl, rfl, rfl, rfl, rfl, rfl, trivial⟩, S⟩ ?_
  clear S hz
  rintro m e w ⟨k, hk, hsl, S⟩
  rw [hsl.fold]
  by_cases hkn : k < gw * gh
  · skip
    repeat refine cw_seq ?_
    refine cw_region ?_
    refine rw_v (op_b (b := true) rfl (decide_eq_true (by omega))) ?_
    first | refine rw_end ?_ | (refine rw_nil ?_; show CW _ _ _ _ _ _) | refine rw_nil ?_
    repeat refine cw_seq ?_
    refine cw_true rfl ?_
    repeat refine cw_seq ?_
    refine cw_skip ?_
    try show CW _ _ _ _ _ _
    repeat refine cw_seq ?_
    refine cw_block ?_
    repeat refine cw_seq ?_
    refine cw_region ?_
    iterate 2 refine rw_v (op_pure rfl) ?_
    first | refine rw_end ?_ | (refine rw_nil ?_; show CW _ _ _ _ _ _) | refine rw_nil ?_
    repeat refine cw_seq ?_
    refine cw_region ?_
    iterate 3 refine rw_v (op_pure rfl) ?_
    refine rw_v (op_idx Try.underlying94 Try.sizeOf3 rfl rfl sa_od (by omega) (by omega)) ?_
    refine rw_storeR (i := 0) S rfl (Try.sizeOf3 _) rfl rfl rfl rfl (by rw [cellsN_len]; omega) rfl ?_
    intro w5_ S
    first | refine rw_end ?_ | (refine rw_nil ?_; show CW _ _ _ _ _ _) | refine rw_nil ?_
    repeat refine cw_seq ?_
    refine cw_region ?_
    refine rw_v (op_rng rfl (by omega)) ?_
    refine rw_v (op_pure rfl) ?_
    first | refine rw_end ?_ | (refine rw_nil ?_; show CW _ _ _ _ _ _) | refine rw_nil ?_
    rw [Nat.mul_one, Int.toNat_natCast, cellsN_set, cellsN_congr (f' := fun j => if j < k + 1 then j else 0) (fun j hj => by
      unfold updF
      (try dsimp only)
      by_cases e1 : j = k
      · rw [if_pos e1, if_pos (by omega), e1]
      · by_cases e2 : j < k
        · rw [if_neg e1, if_pos e2, if_pos (by omega)]
        · rw [if_neg e1, if_neg e2, if_neg (by omega)])] at S
    exact ⟨m - 1, by omega, k + 1, by omega, ⟨rfl, rfl, rfl, rfl, rfl, ie (by omega), trivial⟩, S⟩
  · obtain rfl : k = gw * gh := by omega
    rw [cellsN_congr (f' := fun j => j) (fun j hj => by (try dsimp only); rw [if_pos hj]), ← rowE_I] at S
    have hcmp : Cmp (ownA A_od) w (gw * gh) 51 [.pointer (some ⟨b_l, 0, none⟩)] valI (fun a b => cmpI (V.getD b 0) (V.getD a 0)) := fun w' hfr x y hx hy => by
      have S' := S.hole (i := 0) rfl rfl hfr
      have hbl := S'.blk (i := 1) rfl
      rw [← hV] at hbl
      exact prisesC_E x y (by omega) (by omega) hbl (S'.rd (i := 4) rfl)
    repeat refine cw_seq ?_
    refine cw_region ?_
    refine rw_v (op_b (b := false) rfl (decide_eq_false (by omega))) ?_
    first | refine rw_end ?_ | (refine rw_nil ?_; show CW _ _ _ _ _ _) | refine rw_nil ?_
    repeat refine cw_seq ?_
    refine cw_false rfl ?_
    repeat refine cw_seq ?_
    refine cw_exit ?_
    repeat first | refine exit_then ?_ | refine exit_inb ?_
    show CW _ _ _ _ _ _
    repeat refine cw_seq ?_
    refine cw_region ?_
    iterate 2 refine rw_v (op_pure rfl) ?_
    refine rw_call rfl (sortStable_I (fid := 51) (caps := [.pointer (some ⟨b_l, 0, none⟩)]) (by omega) (wk_down fun i => V.getD i 0) XA.self hcmp (S.row (i := 0) rfl)) ?_
    rintro _ w6_ ⟨rfl, o, hP, hO, hR, hF⟩
    have S := S.set (i := 0) (h' := .row 3 1 A_od (gw * gh) (gw * gh) (rowE encI (gw * gh) o)) rfl rfl hF (fun g h => .inl h) hR (fun g h => .inl h)
    first | refine rw_end ?_ | (refine rw_nil ?_; show CW _ _ _ _ _ _) | refine rw_nil ?_
    repeat refine cw_seq ?_
    refine cw_region ?_
    refine rw_v (op_fieldAddr Try.underlying66 rfl Try.sizeOf30 rfl rfl) ?_
    refine rw_r (op_loadB Try.underlying30 rfl rfl (S.blk (i := 1) rfl) rfl) ?_
    refine rw_v (op_len Try.underlying30 rfl) ?_
    refine rw_makeS1 Try.underlying112 info_t113 rfl rfl rfl (n := gw * gh) (c := gw * gh) (by omega) (by omega) (by omega) (by omega) S ?_
    intro A_is w8_ g8_ S sa_is
    refine rw_v (op_pure rfl) ?_
    first | refine rw_end ?_ | (refine rw_nil ?_; show CW _ _ _ _ _ _) | refine rw_nil ?_
    repeat refine cw_seq ?_
    refine cw_region ?_
    refine rw_v (op_pure rfl) ?_
    refine rw_v (op_len Try.underlying94 rfl) ?_
    refine rw_v (op_pure rfl) ?_
    first | refine rw_end ?_ | (refine rw_nil ?_; show CW _ _ _ _ _ _) | refine rw_nil ?_
    repeat refine cw_seq ?_
    refine cw_block ?_
    repeat refine cw_seq ?_
    have hord := hP.ord
    have hdn : ∀ x y, x ≤ y → y < gw * gh → V.getD (o y) 0 ≤ V.getD (o x) 0 := fun x y hxy hy => so_down (g := fun i => V.getD i 0) hO hxy hy
    rw [← hV] at hord hdn
    have hinj := ps_inj hord.ps
    rw [rowE_I, islV_zero (bk := fun _ => 0)] at S
    clear hR hF hP hO hcmp
    have hlt : ∀ x, x < V.length → o x < V.length := hord.lt
    have hHnd := hHn
    have sa_od : SomeA A_od := (S.row (i := 1) rfl).someA (by omega)
    have sa_is : SomeA A_is := (S.row (i := 0) rfl).someA (by omega)
    obtain ⟨ji, hji, _, hjs, _⟩ := info_parts info_t115
    refine cw_loop (fun m e w => ∃ (k : Nat) (il : Nat → Il) (up : Nat → Option Nat) (z : Nat → Int) (r : Nat → Nat), k + m = gw * gh ∧ IsI gw V H (fun i => i ∈ laidL o k) up (fun i => (il i).v) (fun i => (il i).o) z r ∧ JN gw V o k r ∧ (∀ j, j ∈ laidL o k → (il j).u = (up j).map fun q => (il q).b) ∧
      SL e [(1, .map (some bm)), (2, .slice Ao n co), (3, .pointer (some ⟨b_l, 0, none⟩)), (8, .slice A_is (gw * gh) (gw * gh)), (40, .slice A_od (gw * gh) (gw * gh)), (41, .int .i64 (gw * gh : Nat)), (42, .int .i64 k)] ∧
      St F W w (.row 113 1 A_is (gw * gh) (gw * gh) (islV (gw * gh) (laidL o k) fun j => (il j).b) :: .row 3 1 A_od (gw * gh) (gw * gh) (cellsN (gw * gh) o) :: .blk b_l 66 [.int .i64 gw, .slice Av (gw * gh) cv] :: .row 42 5 Ao n co ((H.map (pkAt gw V z)).flatMap (encPk gw)) :: .map bm (idxP H) :: .row 2 1 Av (gw * gh) cv (ints V) :: (islP il (laidL o k) ++ tl))) (gw * gh)
      ⟨0, fun _ => ⟨0, none, 0, [], none, 0⟩, fun _ => none, z0, fun i => i, by omega, IsI.start.to (fun i => by simp [laidL]) (fun _ => rfl) (fun _ => rfl), JN.start, (by intro j hj; cases hj), ⟨rfl, rfl, rfl, rfl, rfl, rfl, rfl, trivial⟩, S⟩ ?_
    clear S
    rintro m e w ⟨k, il, up, z, r, hkm, hI, hJ, hu, hsl, S⟩
    rw [hsl.fold]
    by_cases hkn : k < gw * gh
    · have hgo : (cellsN (gw * gh) o)[((k : Nat) : Int).toNat * 1]? = some (.int .i64 (o k : Nat)) := by rw [Nat.mul_one, Int.toNat_natCast]; exact cellsN_get hkn
      have hil := hlt k (by omega)
      have hnd := laidL_nodup hinj (k + 1) (by omega)
      have hnl : o k ∉ laidL o k := (List.nodup_cons.1 hnd).1
      have hmemN : ∀ y, y ∈ nearN gw (gw * gh) (o k) ↔ y < gw * gh ∧ Side gw (o k) y := fun y => nearN_mem hgw.1 (by omega)
      have hnel := nearN_len gw (gw * gh) (o k)
      repeat refine cw_seq ?_
      refine cw_region ?_
      refine rw_v (op_b (b := true) rfl (decide_eq_true (by omega))) ?_
      first | refine rw_end ?_ | (refine rw_nil ?_; show CW _ _ _ _ _ _) | refine rw_nil ?_
      repeat refine cw_seq ?_
      refine cw_true rfl ?_
      repeat refine cw_seq ?_
      refine cw_skip ?_
      try show CW _ _ _ _ _ _
      repeat refine cw_seq ?_
      refine cw_block ?_
      repeat refine cw_seq ?_
      refine cw_region ?_
      refine rw_v (op_idx Try.underlying94 Try.sizeOf3 rfl rfl sa_od (by omega) (by omega)) ?_
      refine rw_r (op_ldR Try.underlying3 rfl rfl (S.rd (i := 1) rfl) hgo) ?_
      refine rw_v (op_pure rfl) ?_
      first | refine rw_end ?_ | (refine rw_nil ?_; show CW _ _ _ _ _ _) | refine rw_nil ?_
      repeat refine cw_seq ?_
      refine cw_region ?_
      iterate 2 refine rw_v (op_pure rfl) ?_
      refine rw_v (op_fieldAddr Try.underlying66 rfl Try.sizeOf30 rfl rfl) ?_
      refine rw_r (op_loadB Try.underlying30 rfl rfl (S.blk (i := 2) rfl) rfl) ?_
      refine rw_v (op_pure rfl) ?_
      refine rw_v (op_idx Try.underlying30 Try.sizeOf2 rfl rfl sa_vs (by omega) (by omega)) ?_
      refine rw_r (op_ldR Try.underlying2 rfl rfl (S.rd (i := 5) rfl) (hgetv _ (by omega))) ?_
      refine rw_v (op_build (pl := [(0, 1), (1, 1), (2, 1)]) Try.underlying115 Try.zeroValue115 (fun w => by kernel_rfl) rfl rfl) ?_
      refine rw_newB (op_box rfl) S ?_
      intro b_nb w10_ g10_ S
      refine rw_v (op_idx Try.underlying112 Try.sizeOf113 rfl rfl sa_is (by omega) (by omega)) ?_
      refine rw_storeR (i := 1) S rfl (Try.sizeOf113 _) rfl rfl rfl rfl (by rw [islV_len]; omega) rfl ?_
      intro w11_ S
      first | refine rw_end ?_ | (refine rw_nil ?_; show CW _ _ _ _ _ _) | refine rw_nil ?_
      repeat refine cw_seq ?_
      refine cw_region ?_
      iterate 2 refine rw_v (op_pure rfl) ?_
      refine rw_r (op_lookOk Try.underlying67 Try.underlying3 (Try.zeroValue3 _) rfl rfl (S.map (i := 5) rfl)) ?_
      iterate 5 refine rw_v (op_pure rfl) ?_
      first | refine rw_end ?_ | (refine rw_nil ?_; show CW _ _ _ _ _ _) | refine rw_nil ?_
      repeat refine cw_seq ?_
      refine cw_region ?_
      refine rw_v (op_pure rfl) ?_
      first | refine rw_end ?_ | (refine rw_nil ?_; show CW _ _ _ _ _ _) | refine rw_nil ?_
      repeat refine cw_seq ?_
      refine cw_cutT (M := fun e w => ∃ (l : List Nat) (A : Option Addr) (c : Nat), (∀ p, p ∈ l ↔ H[p]? = some (o k)) ∧ l.Nodup ∧ SL e [(1, .map (some bm)), (2, .slice Ao n co), (3, .pointer (some ⟨b_l, 0, none⟩)), (8, .slice A_is (gw * gh) (gw * gh)), (40, .slice A_od (gw * gh) (gw * gh)), (41, .int .i64 (gw * gh : Nat)), (42, .int .i64 k), (10, .int .i64 (o k : Nat))] ∧ St F W w (.blk b_nb 115 [.pointer none, .int .i64 (V.getD (o k) 0), .slice A l.length c] :: .row 3 1 A l.length c (natsV l) :: .row 113 1 A_is (gw * gh) (gw * gh) (islV (gw * gh) (laidL o (k + 1)) fun j => if j = o k then b_nb else (il j).b) :: .row 3 1 A_od (gw * gh) (gw * gh) (cellsN (gw * gh) o) :: .blk b_l 66 [.int .i64 gw, .slice Av (gw * gh) cv] :: .row 42 5 Ao n co ((H.map (pkAt gw V z)).flatMap (encPk gw)) :: .map bm (idxP H) :: .row 2 1 Av (gw * gh) cv (ints V) :: (islP il (laidL o k) ++ tl))) ?_ ?_
      · have hset := islV_set (n := gw * gh) (i := o k) (D := laidL o k) (bk := fun j => (il j).b) (bk' := fun j => if j = o k then b_nb else (il j).b) (b := b_nb) (if_pos rfl) (fun j _ hj => if_neg hj)
        cases hix : idxP H (o k) with
        | none =>
          have hno := idxP_none.1 hix
          repeat refine cw_seq ?_
          refine cw_false rfl ?_
          repeat refine cw_seq ?_
          refine cw_skip ?_
          try show CW _ _ _ _ _ _
          have S := (S.pushNil 3 1).swap
          rw [hset] at S
          exact ⟨[], none, 0, fun p => ⟨fun h => (by cases h), fun h => absurd (List.mem_of_getElem? h) hno⟩, .nil, ⟨rfl, rfl, rfl, rfl, rfl, rfl, rfl, rfl, trivial⟩, S⟩
        | some y =>
          obtain ⟨p, rfl, hp⟩ := idxP_some hix
          have hgn := islV_get (n := gw * gh) (i := o k) (D := o k :: laidL o k) (bk := fun j => if j = o k then b_nb else (il j).b) (by omega)
          rw [if_pos List.mem_cons_self, if_pos rfl] at hgn
          rw [hset] at S
          repeat refine cw_seq ?_
          refine cw_true rfl ?_
          repeat refine cw_seq ?_
          refine cw_region ?_
          iterate 2 refine rw_v (op_pure rfl) ?_
          refine rw_v (op_idx Try.underlying112 Try.sizeOf113 rfl rfl sa_is (by omega) (by omega)) ?_
          refine rw_r (op_ldR Try.underlying113 rfl rfl (S.rd (i := 1) rfl) hgn) ?_
          refine rw_v (op_pure rfl) ?_
          refine rw_buildS Try.underlying94 Try.sizeOf3 Try.zeroValue3 rfl rfl rfl rfl rfl rfl S ?_
          intro A_op w13_ g13_ S sa_op
          refine rw_v (op_pure rfl) ?_
          refine rw_v (op_fieldAddr Try.underlying115 rfl Try.sizeOf94 rfl rfl) ?_
          refine rw_storeS (i := 1) S rfl (Try.sizeOf94 _) rfl rfl rfl rfl rfl rfl ?_
          intro w14_ S
          first | refine rw_end ?_ | (refine rw_nil ?_; show CW _ _ _ _ _ _) | refine rw_nil ?_
          refine ⟨[p], A_op, 1, fun p' => ?_, by simp, ⟨rfl, rfl, rfl, rfl, rfl, rfl, rfl, rfl, trivial⟩, S.swap⟩
          rw [List.mem_singleton]
          constructor
          · rintro rfl; exact hp
          · intro h; exact ((List.getElem?_inj (List.getElem?_eq_some_iff.1 hp).1 hHnd).1 (hp.trans h.symm)).symm
      · clear S
        rintro e w ⟨l, A, c, hl, hlN, hsl, S⟩
        rw [hsl.fold]
        obtain ⟨il2, hil2⟩ : ∃ il2 : Nat → Il, il2 = fun j => if j = o k then ⟨b_nb, none, V.getD (o k) 0, l, A, c⟩ else il j := ⟨_, rfl⟩
        have e1 : il2 (o k) = ⟨b_nb, none, V.getD (o k) 0, l, A, c⟩ := by rw [hil2]; exact if_pos rfl
        have e2 : ∀ j, j ≠ o k → il2 j = il j := fun j hj => by rw [hil2]; exact if_neg hj
        have hI2 : IsI gw V H (fun i => i ∈ laidL o (k + 1)) up (fun i => (il2 i).v) (fun i => (il2 i).o) z r :=
          (hI.lay hil hnl hl hlN).to (fun i => by show _ ↔ i ∈ o k :: laidL o k; rw [List.mem_cons]; exact Or.comm)
            (fun i => by
              (try dsimp only)
              by_cases e : i = o k
              · rw [if_pos e, e, e1]
              · rw [if_neg e, e2 i e])
            (fun i => by
              unfold updL
              (try dsimp only)
              by_cases e : i = o k
              · rw [if_pos e, e, e1]
              · rw [if_neg e, e2 i e])
        have hb2 : (fun j => if j = o k then b_nb else (il j).b) = fun j => (il2 j).b := funext fun j => by
          by_cases e : j = o k
          · rw [if_pos e, e, e1]
          · rw [if_neg e, e2 j e]
        have hu2 : ∀ j, j ∈ laidL o (k + 1) → (il2 j).u = (up j).map fun q => (il2 q).b := fun j hj => by
          by_cases e : j = o k
          · rw [e, e1, hI.un _ hnl]; rfl
          · have hjk : j ∈ laidL o k := (List.mem_cons.1 hj).elim (fun h => absurd h e) id
            rw [e2 j e, hu j hjk]
            cases hup : up j with
            | none => rfl
            | some q =>
              have hq := hI.closed hjk hup
              rw [Option.map_some, Option.map_some, e2 q (fun h => hnl (h ▸ hq))]
        have hJ2 := hJ.enter
        have hP : islP il2 (laidL o (k + 1)) = .blk b_nb 115 [.pointer none, .int .i64 (V.getD (o k) 0), .slice A l.length c] :: .row 3 1 A l.length c (natsV l) :: islP il (laidL o k) := by
          show islP il2 (o k :: laidL o k) = _
          rw [islP_cons, e1, islP_congr fun i hi => e2 i (fun h => hnl (h ▸ hi))]
          rfl
        rw [hb2] at S
        have S : St F W w (.row 113 1 A_is (gw * gh) (gw * gh) (islV (gw * gh) (laidL o (k + 1)) fun j => (il2 j).b) :: .row 3 1 A_od (gw * gh) (gw * gh) (cellsN (gw * gh) o) :: .blk b_l 66 [.int .i64 gw, .slice Av (gw * gh) cv] :: .row 42 5 Ao n co ((H.map (pkAt gw V z)).flatMap (encPk gw)) :: .map bm (idxP H) :: .row 2 1 Av (gw * gh) cv (ints V) :: (islP il2 (laidL o (k + 1)) ++ tl)) := by
          rw [hP]
          exact S.permK (List.perm_append_comm_assoc [_, _] [_, _, _, _, _, _] _)
        clear hP hb2 hI hu hJ e1 e2 hil2
        repeat refine cw_seq ?_
        refine cw_region ?_
        refine rw_r (op_loadAB Try.underlying66 rfl (Try.sizeOf66 _) rfl (S.blk (i := 2) rfl) rfl rfl) ?_
        refine rw_v (op_pure rfl) ?_
        refine rw_call rfl (pnear_E (W := w) (A := Av) (c := cv) (gw := gw) (gh := gh) (o k) ⟨hgw.1, by omega⟩ (by omega) (by omega)) ?_
        rintro _ w15_ ⟨A_near, c_near, rfl, hR_near, hf_near, g15_⟩
        have S := S.pushRow hR_near hf_near g15_
        refine rw_v (op_len Try.underlying94 rfl) ?_
        refine rw_v (op_pure rfl) ?_
        first | refine rw_end ?_ | (refine rw_nil ?_; show CW _ _ _ _ _ _) | refine rw_nil ?_
        repeat refine cw_seq ?_
        refine cw_block ?_
        repeat refine cw_seq ?_
        generalize hNr : nearN gw (gw * gh) (o k) = Nr at *
        have sa_near : 0 < Nr.length → SomeA A_near := fun h => (S.row (i := 0) rfl).someA h
        refine cw_loop (fun m2 e w => ∃ (j : Nat) (il : Nat → Il) (up : Nat → Option Nat) (z : Nat → Int) (r : Nat → Nat), j + m2 = Nr.length ∧ IsI gw V H (fun i => i ∈ laidL o (k + 1)) up (fun i => (il i).v) (fun i => (il i).o) z r ∧ JP gw V o k (fun y => ∃ x, x < j ∧ Nr[x]? = some y) r ∧ (∀ j, j ∈ laidL o (k + 1) → (il j).u = (up j).map fun q => (il q).b) ∧
          SL e [(1, .map (some bm)), (2, .slice Ao n co), (3, .pointer (some ⟨b_l, 0, none⟩)), (8, .slice A_is (gw * gh) (gw * gh)), (40, .slice A_od (gw * gh) (gw * gh)), (41, .int .i64 (gw * gh : Nat)), (42, .int .i64 k), (10, .int .i64 (o k : Nat)), (73, .slice A_near Nr.length c_near), (74, .int .i64 Nr.length), (75, .int .i64 j)] ∧
          St F W w (.row 3 1 A_near Nr.length c_near (natsV Nr) :: .row 113 1 A_is (gw * gh) (gw * gh) (islV (gw * gh) (laidL o (k + 1)) fun j => (il j).b) :: .row 3 1 A_od (gw * gh) (gw * gh) (cellsN (gw * gh) o) :: .blk b_l 66 [.int .i64 gw, .slice Av (gw * gh) cv] :: .row 42 5 Ao n co ((H.map (pkAt gw V z)).flatMap (encPk gw)) :: .map bm (idxP H) :: .row 2 1 Av (gw * gh) cv (ints V) :: (islP il (laidL o (k + 1)) ++ tl))) Nr.length
          ⟨0, il2, up, z, r, by omega, hI2, hJ2.weak (fun x hx ⟨y, hy, _⟩ => by omega), hu2, ⟨rfl, rfl, rfl, rfl, rfl, rfl, rfl, rfl, rfl, rfl, rfl, trivial⟩, S⟩ ?_
        clear S hI2 hJ2 hu2
        rintro m2 e2 w2 ⟨j, il, up, z, r, hjm, hI, hJ, hu, hsl2, S⟩
        rw [hsl2.fold]
        by_cases hjl : j < Nr.length
        · have sa_near := sa_near (by omega)
          obtain ⟨y, hy⟩ : ∃ y, Nr[j]? = some y := ⟨_, List.getElem?_eq_getElem hjl⟩
          obtain ⟨hyl, hys⟩ := (hmemN y).1 (List.mem_of_getElem? hy)
          have hgy := islV_get (n := gw * gh) (i := y) (D := laidL o (k + 1)) (bk := fun j => (il j).b) hyl
          by_cases hym : y ∈ laidL o (k + 1)
          · rw [if_pos hym] at hgy
            have hkm' : o k ∈ laidL o (k + 1) := List.mem_cons_self
            have hgk := islV_get (n := gw * gh) (i := o k) (D := laidL o (k + 1)) (bk := fun j => (il j).b) (by omega)
            rw [if_pos hkm'] at hgk
            obtain ⟨x0, hx0, hox⟩ := mem_laidL.1 hym
            obtain ⟨m1, c1⟩ := hI.ch (o k)
            obtain ⟨m2', c2⟩ := hI.ch y
            have hcl : ∀ j j', j ∈ laidL o (k + 1) → up j = some j' → j' ∈ laidL o (k + 1) := fun j j' h1 h2 => hI.closed h1 h2
            have hstep : ∀ x, x < k + 1 → (∃ z, z < j + 1 ∧ Nr[z]? = some (o x)) → (∃ z, z < j ∧ Nr[z]? = some (o x)) ∨ o x = o x0 := fun x hx ⟨z, hz, hzx⟩ => by
              by_cases e1 : z = j
              · subst e1; rw [hy] at hzx; exact .inr ((Option.some.inj hzx).symm.trans hox.symm)
              · exact .inl ⟨z, by omega, hzx⟩
            by_cases hrr : r (o k) = r y
            · rw [← hrr] at c2
              repeat refine cw_seq ?_
              refine cw_region ?_
              refine rw_v (op_b (b := true) rfl (decide_eq_true (by omega))) ?_
              first | refine rw_end ?_ | (refine rw_nil ?_; show CW _ _ _ _ _ _) | refine rw_nil ?_
              repeat refine cw_seq ?_
              refine cw_true rfl ?_
              repeat refine cw_seq ?_
              refine cw_skip ?_
              try show CW _ _ _ _ _ _
              repeat refine cw_seq ?_
              refine cw_block ?_
              repeat refine cw_seq ?_
              refine cw_region ?_
              refine rw_v (op_idx Try.underlying94 Try.sizeOf3 rfl rfl sa_near (by omega) (by omega)) ?_
              refine rw_r (op_ldR Try.underlying3 rfl rfl (S.rd (i := 0) rfl) (natsV_get hy)) ?_
              refine rw_v (op_pure rfl) ?_
              first | refine rw_end ?_ | (refine rw_nil ?_; show CW _ _ _ _ _ _) | refine rw_nil ?_
              repeat refine cw_seq ?_
              refine cw_region ?_
              iterate 2 refine rw_v (op_pure rfl) ?_
              refine rw_v (op_idx Try.underlying112 Try.sizeOf113 rfl rfl sa_is (by omega) (by omega)) ?_
              refine rw_r (op_ldR Try.underlying113 rfl rfl (S.rd (i := 1) rfl) hgy) ?_
              refine rw_v (op_nilp Try.underlying113 rfl rfl) ?_
              first | refine rw_end ?_ | (refine rw_nil ?_; show CW _ _ _ _ _ _) | refine rw_nil ?_
              repeat refine cw_seq ?_
              refine cw_false rfl ?_
              repeat refine cw_seq ?_
              refine cw_skip ?_
              try show CW _ _ _ _ _ _
              repeat refine cw_seq ?_
              refine cw_draw (C := fun wq => Gr w2 wq) [0, 1, 2, 3, 4, 5, 6, 7, 8, 9, 10, 11] [] (by kernel_rfl) (by kernel_rfl) (Gr.drew _) ?_
              simp only [pickL, List.drop_succ_cons, List.drop_zero]
              iterate 2 refine rq_v (op_pure rfl) ?_
              refine rq_v (op_idx Try.underlying112 Try.sizeOf113 rfl rfl sa_is (by omega) (by omega)) ?_
              refine rq_r (fun wq hq => op_ldR Try.underlying113 rfl rfl ((S.gr hq).rd (i := 1) rfl) hgk) ?_
              refine rq_call rfl (fun wq hq => (proot_E (W := wq) c1 hkm' hcl hu (fun j hj => St.isl (A := [_, _, _, _, _, _, _]) ((S.gr hq)) hj)).mono (fun _ _ ⟨hv, hg⟩ => ⟨hv, hq.trans hg⟩)) ?_
              iterate 2 refine rq_v (op_pure rfl) ?_
              refine rq_v (op_idx Try.underlying112 Try.sizeOf113 rfl rfl sa_is (by omega) (by omega)) ?_
              refine rq_r (fun wq hq => op_ldR Try.underlying113 rfl rfl ((S.gr hq).rd (i := 1) rfl) hgy) ?_
              refine rq_call rfl (fun wq hq => (proot_E (W := wq) c2 hym hcl hu (fun j hj => St.isl (A := [_, _, _, _, _, _, _]) ((S.gr hq)) hj)).mono (fun _ _ ⟨hv, hg⟩ => ⟨hv, hq.trans hg⟩)) ?_
              iterate 2 refine rq_v (op_pure rfl) ?_
              refine rq_nil ?_
              intro w16_ g16_
              have S := S.gr g16_
              first | refine rw_end ?_ | (refine rw_nil ?_; show CW _ _ _ _ _ _) | refine rw_nil ?_
              repeat refine cw_seq ?_
              refine cw_region ?_
              iterate 2 refine rw_v (op_pure rfl) ?_
              refine rw_r (op_neSame Try.underlying113 hji rfl rfl) ?_
              first | refine rw_end ?_ | (refine rw_nil ?_; show CW _ _ _ _ _ _) | refine rw_nil ?_
              repeat refine cw_seq ?_
              refine cw_false rfl ?_
              repeat refine cw_seq ?_
              refine cw_skip ?_
              try show CW _ _ _ _ _ _
              repeat refine cw_seq ?_
              refine cw_region ?_
              refine rw_v (op_rng rfl (by omega)) ?_
              refine rw_v (op_pure rfl) ?_
              first | refine rw_end ?_ | (refine rw_nil ?_; show CW _ _ _ _ _ _) | refine rw_nil ?_
              refine ⟨m2 - 1, by omega, j + 1, il, up, z, r, by omega, hI, ⟨hJ.conn, hJ.compl, fun x hx hd => ?_⟩, hu, ⟨rfl, rfl, rfl, rfl, rfl, rfl, rfl, rfl, rfl, rfl, ie (by omega), trivial⟩, S⟩
              rcases hstep x hx hd with h | h
              · exact hJ.now x hx h
              · rw [h, hox]; exact hrr
            · have hoxl : ∀ x, x < k + 1 → o x < V.length := fun x hx => hlt x (by omega)
              have la : r (o k) ∈ laidL o (k + 1) := hI.rl _ hkm'
              have lb : r y ∈ laidL o (k + 1) := hI.rl _ hym
              obtain ⟨sx, sy, sw, hsel⟩ : ∃ sx sy sw, (sw = false ∧ sx = r (o k) ∧ sy = r y ∧ ¬ (il sx).v < (il sy).v) ∨ (sw = true ∧ sx = r y ∧ sy = r (o k) ∧ (il sy).v < (il sx).v) := by
                by_cases hv : (il (r (o k))).v < (il (r y)).v
                · exact ⟨_, _, true, .inr ⟨rfl, rfl, rfl, hv⟩⟩
                · exact ⟨_, _, false, .inl ⟨rfl, rfl, rfl, hv⟩⟩
              have hab : (sx = r (o k) ∧ sy = r (o x0)) ∨ (sx = r (o x0) ∧ sy = r (o k)) := by
                rw [hox]
                exact hsel.imp (fun h => ⟨h.2.1, h.2.2.1⟩) (fun h => ⟨h.2.1, h.2.2.1⟩)
              have hargs : (sw = false ∧ (il (r (o k))).b = (il sx).b ∧ (il (r y)).b = (il sy).b ∧ ¬ (il sx).v < (il sy).v) ∨ (sw = true ∧ (il (r (o k))).b = (il sy).b ∧ (il (r y)).b = (il sx).b ∧ (il sy).v < (il sx).v) :=
                hsel.imp (fun h => ⟨h.1, by rw [h.2.1], by rw [h.2.2.1], h.2.2.2⟩) (fun h => ⟨h.1, by rw [h.2.2.1], by rw [h.2.1], h.2.2.2⟩)
              have hle : (il sy).v ≤ (il sx).v := by rcases hsel with h | h <;> have := h.2.2.2 <;> omega
              have hne : sx ≠ sy := by
                rcases hsel with ⟨_, rfl, rfl, _⟩ | ⟨_, rfl, rfl, _⟩
                · exact hrr
                · exact fun e => hrr e.symm
              have lx : sx ∈ laidL o (k + 1) := by rcases hsel with ⟨_, rfl, _, _⟩ | ⟨_, rfl, _, _⟩ <;> assumption
              have ly : sy ∈ laidL o (k + 1) := by rcases hsel with ⟨_, _, rfl, _⟩ | ⟨_, _, rfl, _⟩ <;> assumption
              have rx : r sx = sx := by rcases hsel with ⟨_, rfl, _, _⟩ | ⟨_, rfl, _, _⟩ <;> exact hI.idem _
              have ry : r sy = sy := by rcases hsel with ⟨_, _, rfl, _⟩ | ⟨_, _, rfl, _⟩ <;> exact hI.idem _
              have hux : up sx = none := by have := hI.root_up sx; rwa [rx] at this
              have hox1 := hI.olen lx rx
              have hoy1 := hI.olen ly ry
              have hperm := isl_perm (il := il) lx ly hne
              have hbne : (il (r (o k))).b ≠ (il (r y)).b := by
                have S' := S.permK (perm_isl [_, _, _, _] [_, _] tl _ hperm)
                have h1 : (il sx).b ≠ (il sy).b := fun e => S'.sep.2.2.2.1 (il sx).b rfl (il sy).blk (List.mem_cons_of_mem _ List.mem_cons_self) e
                rcases hsel with ⟨_, rfl, rfl, _⟩ | ⟨_, rfl, rfl, _⟩
                · exact h1
                · exact fun e => h1 e.symm
              have hBk := hB (o k)
              have hJ2 := (hJ.join2 (r' := fun i => if r i = sy then sx else r i) hoxl hx0 (by rw [hox]; exact hys) hab (fun j => rfl)).weak (D' := fun y => ∃ x, x < j + 1 ∧ Nr[x]? = some y) hstep
              by_cases hveq : (il sx).v = (il sy).v
              · have hI2 := hI.merge lx ly rx ry hne hveq.symm
                repeat refine cw_seq ?_
                refine cw_region ?_
                refine rw_v (op_b (b := true) rfl (decide_eq_true (by omega))) ?_
                first | refine rw_end ?_ | (refine rw_nil ?_; show CW _ _ _ _ _ _) | refine rw_nil ?_
                repeat refine cw_seq ?_
                refine cw_true rfl ?_
                repeat refine cw_seq ?_
                refine cw_skip ?_
                try show CW _ _ _ _ _ _
                repeat refine cw_seq ?_
                refine cw_block ?_
                repeat refine cw_seq ?_
                refine cw_region ?_
                refine rw_v (op_idx Try.underlying94 Try.sizeOf3 rfl rfl sa_near (by omega) (by omega)) ?_
                refine rw_r (op_ldR Try.underlying3 rfl rfl (S.rd (i := 0) rfl) (natsV_get hy)) ?_
                refine rw_v (op_pure rfl) ?_
                first | refine rw_end ?_ | (refine rw_nil ?_; show CW _ _ _ _ _ _) | refine rw_nil ?_
                repeat refine cw_seq ?_
                refine cw_region ?_
                iterate 2 refine rw_v (op_pure rfl) ?_
                refine rw_v (op_idx Try.underlying112 Try.sizeOf113 rfl rfl sa_is (by omega) (by omega)) ?_
                refine rw_r (op_ldR Try.underlying113 rfl rfl (S.rd (i := 1) rfl) hgy) ?_
                refine rw_v (op_nilp Try.underlying113 rfl rfl) ?_
                first | refine rw_end ?_ | (refine rw_nil ?_; show CW _ _ _ _ _ _) | refine rw_nil ?_
                repeat refine cw_seq ?_
                refine cw_false rfl ?_
                repeat refine cw_seq ?_
                refine cw_skip ?_
                try show CW _ _ _ _ _ _
                repeat refine cw_seq ?_
                refine cw_draw (C := fun wq => Gr w2 wq) [0, 1, 2, 3, 4, 5, 6, 7, 8, 9, 10, 11] [] (by kernel_rfl) (by kernel_rfl) (Gr.drew _) ?_
                simp only [pickL, List.drop_succ_cons, List.drop_zero]
                iterate 2 refine rq_v (op_pure rfl) ?_
                refine rq_v (op_idx Try.underlying112 Try.sizeOf113 rfl rfl sa_is (by omega) (by omega)) ?_
                refine rq_r (fun wq hq => op_ldR Try.underlying113 rfl rfl ((S.gr hq).rd (i := 1) rfl) hgk) ?_
                refine rq_call rfl (fun wq hq => (proot_E (W := wq) c1 hkm' hcl hu (fun j hj => St.isl (A := [_, _, _, _, _, _, _]) ((S.gr hq)) hj)).mono (fun _ _ ⟨hv, hg⟩ => ⟨hv, hq.trans hg⟩)) ?_
                iterate 2 refine rq_v (op_pure rfl) ?_
                refine rq_v (op_idx Try.underlying112 Try.sizeOf113 rfl rfl sa_is (by omega) (by omega)) ?_
                refine rq_r (fun wq hq => op_ldR Try.underlying113 rfl rfl ((S.gr hq).rd (i := 1) rfl) hgy) ?_
                refine rq_call rfl (fun wq hq => (proot_E (W := wq) c2 hym hcl hu (fun j hj => St.isl (A := [_, _, _, _, _, _, _]) ((S.gr hq)) hj)).mono (fun _ _ ⟨hv, hg⟩ => ⟨hv, hq.trans hg⟩)) ?_
                iterate 2 refine rq_v (op_pure rfl) ?_
                refine rq_nil ?_
                intro w17_ g17_
                have S := S.gr g17_
                first | refine rw_end ?_ | (refine rw_nil ?_; show CW _ _ _ _ _ _) | refine rw_nil ?_
                repeat refine cw_seq ?_
                refine cw_region ?_
                iterate 2 refine rw_v (op_pure rfl) ?_
                refine rw_r (op_neOther Try.underlying113 hji (by rw [hjs]; decide) rfl rfl hbne (St.isl (A := [_, _, _, _, _, _, _]) S la) (St.isl (A := [_, _, _, _, _, _, _]) S lb)) ?_
                first | refine rw_end ?_ | (refine rw_nil ?_; show CW _ _ _ _ _ _) | refine rw_nil ?_
                repeat refine cw_seq ?_
                refine cw_true rfl ?_
                repeat refine cw_seq ?_
                refine cw_region ?_
                iterate 2 refine rw_v (op_pure rfl) ?_
                refine rw_v (op_fieldAddr Try.underlying66 rfl Try.sizeOf30 rfl rfl) ?_
                refine rw_r (op_loadB Try.underlying30 rfl rfl (S.blk (i := 3) rfl) rfl) ?_
                refine rw_v (op_pure rfl) ?_
                refine rw_v (op_idx Try.underlying30 Try.sizeOf2 rfl rfl sa_vs (by omega) (by omega)) ?_
                refine rw_r (op_ldR Try.underlying2 rfl rfl (S.rd (i := 6) rfl) (hgetv _ (by omega))) ?_
                refine rw_v (op_pure rfl) ?_
                refine rw_call rfl (pjoin_E (V.getD (o k) 0) (il sx) (il sy) sw hargs hHn hn hoy1.1 (by have := hox1.2; omega) (by have := hoy1.2; omega) (by omega) hB hBk (S.permK (perm_isl [_, _, _, _] [_, _] tl _ hperm))) ?_
                rintro _ w18_ ⟨rfl, hE, hL⟩
                obtain ⟨A9, c9, S⟩ := hE hveq
                first | refine rw_end ?_ | (refine rw_nil ?_; show CW _ _ _ _ _ _) | refine rw_nil ?_
                repeat refine cw_seq ?_
                refine cw_region ?_
                refine rw_v (op_rng rfl (by omega)) ?_
                refine rw_v (op_pure rfl) ?_
                first | refine rw_end ?_ | (refine rw_nil ?_; show CW _ _ _ _ _ _) | refine rw_nil ?_
                have hp2 := ilSet_perm (il := il) (X := Il.mk (il sx).b (il sx).u (il sx).v ((il sx).o ++ (il sy).o) A9 c9) (Y := Il.mk (il sy).b (some (il sx).b) (il sy).v (il sy).o (il sy).A (il sy).c) hnd lx ly hne
                have hu2 := ilSet_u (X := Il.mk (il sx).b (il sx).u (il sx).v ((il sx).o ++ (il sy).o) A9 c9) (Y := Il.mk (il sy).b (some (il sx).b) (il sy).v (il sy).o (il sy).A (il sy).c) hu hne hux rfl rfl rfl rfl lx
                have S := S.permK (perm_isl [_, _, _, _] [_, _] tl _ hp2).symm
                have hbb := ilSet_b (il := il) (x := sx) (y := sy) (X := Il.mk (il sx).b (il sx).u (il sx).v ((il sx).o ++ (il sy).o) A9 c9) (Y := Il.mk (il sy).b (some (il sx).b) (il sy).v (il sy).o (il sy).A (il sy).c) rfl rfl
                rw [← hbb] at S
                refine ⟨m2 - 1, by omega, j + 1, ilSet il sx sy (Il.mk (il sx).b (il sx).u (il sx).v ((il sx).o ++ (il sy).o) A9 c9) (Il.mk (il sy).b (some (il sx).b) (il sy).v (il sy).o (il sy).A (il sy).c), updO_ up sy sx, z, fun i => if r i = sy then sx else r i, by omega, hI2.to (fun _ => Iff.rfl) (ilSet_v rfl rfl) (fun i => ?_), hJ2, hu2, ⟨rfl, rfl, rfl, rfl, rfl, rfl, rfl, rfl, rfl, rfl, ie (by omega), trivial⟩, S⟩
                unfold updL ilSet
                by_cases h1 : i = sx
                · rw [if_pos h1, if_pos h1]
                · rw [if_neg h1, if_neg h1]
                  by_cases h2 : i = sy
                  · rw [if_pos h2, h2]
                  · rw [if_neg h2]
              · have hvlt : (il sy).v < (il sx).v := by omega
                have hI2 := hI.joinP (fun i => mem_laidL) hJ hord (by omega) hdn hx0 (by rw [hox]; exact hys) hab hne hvlt
                repeat refine cw_seq ?_
                refine cw_region ?_
                refine rw_v (op_b (b := true) rfl (decide_eq_true (by omega))) ?_
                first | refine rw_end ?_ | (refine rw_nil ?_; show CW _ _ _ _ _ _) | refine rw_nil ?_
                repeat refine cw_seq ?_
                refine cw_true rfl ?_
                repeat refine cw_seq ?_
                refine cw_skip ?_
                try show CW _ _ _ _ _ _
                repeat refine cw_seq ?_
                refine cw_block ?_
                repeat refine cw_seq ?_
                refine cw_region ?_
                refine rw_v (op_idx Try.underlying94 Try.sizeOf3 rfl rfl sa_near (by omega) (by omega)) ?_
                refine rw_r (op_ldR Try.underlying3 rfl rfl (S.rd (i := 0) rfl) (natsV_get hy)) ?_
                refine rw_v (op_pure rfl) ?_
                first | refine rw_end ?_ | (refine rw_nil ?_; show CW _ _ _ _ _ _) | refine rw_nil ?_
                repeat refine cw_seq ?_
                refine cw_region ?_
                iterate 2 refine rw_v (op_pure rfl) ?_
                refine rw_v (op_idx Try.underlying112 Try.sizeOf113 rfl rfl sa_is (by omega) (by omega)) ?_
                refine rw_r (op_ldR Try.underlying113 rfl rfl (S.rd (i := 1) rfl) hgy) ?_
                refine rw_v (op_nilp Try.underlying113 rfl rfl) ?_
                first | refine rw_end ?_ | (refine rw_nil ?_; show CW _ _ _ _ _ _) | refine rw_nil ?_
                repeat refine cw_seq ?_
                refine cw_false rfl ?_
                repeat refine cw_seq ?_
                refine cw_skip ?_
                try show CW _ _ _ _ _ _
                repeat refine cw_seq ?_
                refine cw_draw (C := fun wq => Gr w2 wq) [0, 1, 2, 3, 4, 5, 6, 7, 8, 9, 10, 11] [] (by kernel_rfl) (by kernel_rfl) (Gr.drew _) ?_
                simp only [pickL, List.drop_succ_cons, List.drop_zero]
                iterate 2 refine rq_v (op_pure rfl) ?_
                refine rq_v (op_idx Try.underlying112 Try.sizeOf113 rfl rfl sa_is (by omega) (by omega)) ?_
                refine rq_r (fun wq hq => op_ldR Try.underlying113 rfl rfl ((S.gr hq).rd (i := 1) rfl) hgk) ?_
                refine rq_call rfl (fun wq hq => (proot_E (W := wq) c1 hkm' hcl hu (fun j hj => St.isl (A := [_, _, _, _, _, _, _]) ((S.gr hq)) hj)).mono (fun _ _ ⟨hv, hg⟩ => ⟨hv, hq.trans hg⟩)) ?_
                iterate 2 refine rq_v (op_pure rfl) ?_
                refine rq_v (op_idx Try.underlying112 Try.sizeOf113 rfl rfl sa_is (by omega) (by omega)) ?_
                refine rq_r (fun wq hq => op_ldR Try.underlying113 rfl rfl ((S.gr hq).rd (i := 1) rfl) hgy) ?_
                refine rq_call rfl (fun wq hq => (proot_E (W := wq) c2 hym hcl hu (fun j hj => St.isl (A := [_, _, _, _, _, _, _]) ((S.gr hq)) hj)).mono (fun _ _ ⟨hv, hg⟩ => ⟨hv, hq.trans hg⟩)) ?_
                iterate 2 refine rq_v (op_pure rfl) ?_
                refine rq_nil ?_
                intro w19_ g19_
                have S := S.gr g19_
                first | refine rw_end ?_ | (refine rw_nil ?_; show CW _ _ _ _ _ _) | refine rw_nil ?_
                repeat refine cw_seq ?_
                refine cw_region ?_
                iterate 2 refine rw_v (op_pure rfl) ?_
                refine rw_r (op_neOther Try.underlying113 hji (by rw [hjs]; decide) rfl rfl hbne (St.isl (A := [_, _, _, _, _, _, _]) S la) (St.isl (A := [_, _, _, _, _, _, _]) S lb)) ?_
                first | refine rw_end ?_ | (refine rw_nil ?_; show CW _ _ _ _ _ _) | refine rw_nil ?_
                repeat refine cw_seq ?_
                refine cw_true rfl ?_
                repeat refine cw_seq ?_
                refine cw_region ?_
                iterate 2 refine rw_v (op_pure rfl) ?_
                refine rw_v (op_fieldAddr Try.underlying66 rfl Try.sizeOf30 rfl rfl) ?_
                refine rw_r (op_loadB Try.underlying30 rfl rfl (S.blk (i := 3) rfl) rfl) ?_
                refine rw_v (op_pure rfl) ?_
                refine rw_v (op_idx Try.underlying30 Try.sizeOf2 rfl rfl sa_vs (by omega) (by omega)) ?_
                refine rw_r (op_ldR Try.underlying2 rfl rfl (S.rd (i := 6) rfl) (hgetv _ (by omega))) ?_
                refine rw_v (op_pure rfl) ?_
                refine rw_call rfl (pjoin_E (V.getD (o k) 0) (il sx) (il sy) sw hargs hHn hn hoy1.1 (by have := hox1.2; omega) (by have := hoy1.2; omega) (by omega) hB hBk (S.permK (perm_isl [_, _, _, _] [_, _] tl _ hperm))) ?_
                rintro _ w20_ ⟨rfl, hE, hL⟩
                have S := hL hvlt
                first | refine rw_end ?_ | (refine rw_nil ?_; show CW _ _ _ _ _ _) | refine rw_nil ?_
                repeat refine cw_seq ?_
                refine cw_region ?_
                refine rw_v (op_rng rfl (by omega)) ?_
                refine rw_v (op_pure rfl) ?_
                first | refine rw_end ?_ | (refine rw_nil ?_; show CW _ _ _ _ _ _) | refine rw_nil ?_
                have hp2 := ilSet_perm (il := il) (X := il sx) (Y := Il.mk (il sy).b (some (il sx).b) (il sy).v (il sy).o (il sy).A (il sy).c) hnd lx ly hne
                have hu2 := ilSet_u (X := il sx) (Y := Il.mk (il sy).b (some (il sx).b) (il sy).v (il sy).o (il sy).A (il sy).c) hu hne hux rfl rfl rfl rfl lx
                have S := S.permK (perm_isl [_, _, _, _] [_, _] tl _ hp2).symm
                have hbb := ilSet_b (il := il) (x := sx) (y := sy) (X := il sx) (Y := Il.mk (il sy).b (some (il sx).b) (il sy).v (il sy).o (il sy).A (il sy).c) rfl rfl
                rw [← hbb] at S
                refine ⟨m2 - 1, by omega, j + 1, ilSet il sx sy (il sx) (Il.mk (il sy).b (some (il sx).b) (il sy).v (il sy).o (il sy).A (il sy).c), updO_ up sy sx, _, fun i => if r i = sy then sx else r i, by omega, hI2.to (fun _ => Iff.rfl) (ilSet_v rfl rfl) (fun i => ?_), hJ2, hu2, ⟨rfl, rfl, rfl, rfl, rfl, rfl, rfl, rfl, rfl, rfl, ie (by omega), trivial⟩, S⟩
                unfold ilSet
                by_cases h1 : i = sx
                · rw [if_pos h1, h1]
                · rw [if_neg h1]
                  by_cases h2 : i = sy
                  · rw [if_pos h2, h2]
                  · rw [if_neg h2]
          · rw [if_neg hym] at hgy
            repeat refine cw_seq ?_
            refine cw_region ?_
            refine rw_v (op_b (b := true) rfl (decide_eq_true (by omega))) ?_
            first | refine rw_end ?_ | (refine rw_nil ?_; show CW _ _ _ _ _ _) | refine rw_nil ?_
            repeat refine cw_seq ?_
            refine cw_true rfl ?_
            repeat refine cw_seq ?_
            refine cw_skip ?_
            try show CW _ _ _ _ _ _
            repeat refine cw_seq ?_
            refine cw_block ?_
            repeat refine cw_seq ?_
            refine cw_region ?_
            refine rw_v (op_idx Try.underlying94 Try.sizeOf3 rfl rfl sa_near (by omega) (by omega)) ?_
            refine rw_r (op_ldR Try.underlying3 rfl rfl (S.rd (i := 0) rfl) (natsV_get hy)) ?_
            refine rw_v (op_pure rfl) ?_
            first | refine rw_end ?_ | (refine rw_nil ?_; show CW _ _ _ _ _ _) | refine rw_nil ?_
            repeat refine cw_seq ?_
            refine cw_region ?_
            iterate 2 refine rw_v (op_pure rfl) ?_
            refine rw_v (op_idx Try.underlying112 Try.sizeOf113 rfl rfl sa_is (by omega) (by omega)) ?_
            refine rw_r (op_ldR Try.underlying113 rfl rfl (S.rd (i := 1) rfl) hgy) ?_
            refine rw_v (op_nilp Try.underlying113 rfl rfl) ?_
            first | refine rw_end ?_ | (refine rw_nil ?_; show CW _ _ _ _ _ _) | refine rw_nil ?_
            repeat refine cw_seq ?_
            refine cw_true rfl ?_
            repeat refine cw_seq ?_
            refine cw_exit ?_
            repeat first | refine exit_then ?_ | refine exit_inb ?_
            show CW _ _ _ _ _ _
            repeat refine cw_seq ?_
            refine cw_region ?_
            refine rw_v (op_rng rfl (by omega)) ?_
            refine rw_v (op_pure rfl) ?_
            first | refine rw_end ?_ | (refine rw_nil ?_; show CW _ _ _ _ _ _) | refine rw_nil ?_
            refine ⟨m2 - 1, by omega, j + 1, il, up, z, r, by omega, hI, hJ.weak fun x hx ⟨z, hz, hzx⟩ => ?_, hu, ⟨rfl, rfl, rfl, rfl, rfl, rfl, rfl, rfl, rfl, rfl, ie (by omega), trivial⟩, S⟩
            by_cases e1 : z = j
            · subst e1
              rw [hy] at hzx
              exact absurd (mem_laidL.2 ⟨x, hx, (Option.some.inj hzx).symm⟩) hym
            · exact ⟨z, by omega, hzx⟩
        · obtain rfl : j = Nr.length := by omega
          have hJ2 : JN gw V o (k + 1) r := (hJ.weak (D' := fun y => Side gw (o k) y) (fun x hx hs => by
            have hm := (hmemN (o x)).2 ⟨by have := hlt x (by omega); omega, hs⟩
            obtain ⟨z, hz, he⟩ := List.mem_iff_getElem.1 hm
            exact ⟨z, hz, by rw [List.getElem?_eq_getElem hz, he]⟩)).leave
          have S := S.drop 1
          repeat refine cw_seq ?_
          refine cw_region ?_
          refine rw_v (op_b (b := false) rfl (decide_eq_false (by omega))) ?_
          first | refine rw_end ?_ | (refine rw_nil ?_; show CW _ _ _ _ _ _) | refine rw_nil ?_
          repeat refine cw_seq ?_
          refine cw_false rfl ?_
          repeat refine cw_seq ?_
          refine cw_exit ?_
          repeat first | refine exit_then ?_ | refine exit_inb ?_
          show CW _ _ _ _ _ _
          repeat refine cw_seq ?_
          refine cw_region ?_
          refine rw_v (op_rng rfl (by omega)) ?_
          refine rw_v (op_pure rfl) ?_
          first | refine rw_end ?_ | (refine rw_nil ?_; show CW _ _ _ _ _ _) | refine rw_nil ?_
          exact ⟨m - 1, by omega, k + 1, il, up, z, r, by omega, hI, hJ2, hu, ⟨rfl, rfl, rfl, rfl, rfl, rfl, ie (by omega), trivial⟩, S⟩
    · obtain rfl : k = gw * gh := by omega
      have hall : ∀ i, i < V.length → i ∈ laidL o (gw * gh) := fun i hi => by
        obtain ⟨x, hx, e⟩ := hord.all i hi
        exact mem_laidL.2 ⟨x, by omega, e⟩
      have h0m := hall 0 (by omega)
      obtain ⟨m1, c1⟩ := hI.ch 0
      have hcl : ∀ j j', j ∈ laidL o (gw * gh) → up j = some j' → j' ∈ laidL o (gw * gh) := fun j j' h1 h2 => hI.closed h1 h2
      have ls := hI.rl _ h0m
      have rs := hI.idem 0
      have hmin : IsMin V (minN V (V.length - 1)) := by
        obtain ⟨⟨i, hi, he⟩, h2⟩ := minN_spec (V := V) (V.length - 1) (by omega)
        exact ⟨⟨i, by omega, he⟩, fun i hi => h2 i (by omega)⟩
      have hs : ∀ i, i < V.length → r i = r 0 := fun i hi => by
        have c := grid_conn29 (gh := gh) (V := V) (u := minN V (V.length - 1)) hgw.1 hmin.2 i hi
        have key : ∀ {i j}, Conn gw V (minN V (V.length - 1)) i j → r i = r j := by
          intro i j c
          induction c with
          | refl => rfl
          | step a _ ih =>
            obtain ⟨hi, hj, _, _, s⟩ := a
            obtain ⟨x, hx, rfl⟩ := hord.all _ hi
            obtain ⟨y, hy, rfl⟩ := hord.all _ hj
            exact (hJ.compl x y (by omega) (by omega) s).trans ih
        exact key c
      have hg0 := islV_get (n := gw * gh) (i := 0) (D := laidL o (gw * gh)) (bk := fun j => (il j).b) (by omega)
      rw [if_pos h0m] at hg0
      have hsm := fun w h => smin_E (W := w) (A := Av) (c := cv) (V := V) ⟨by omega, by omega⟩ h
      have hmb : -2147483648 ≤ minN V (V.length - 1) ∧ minN V (V.length - 1) ≤ 2147483647 := by
        obtain ⟨⟨i, hi, he⟩, _⟩ := hmin
        rw [← he]; exact hB i
      have hfin := hI.fin hall hs hHl hmin (z' := zUp V H (minN V (V.length - 1)) (il (r 0)).o z) (fun q hq => by
        have h1 := zUp_z hI ls rs (minN V (V.length - 1)) q hq
        exact ⟨fun h => h1.1 ⟨hall q (hHl q hq), hs q (hHl q hq), h⟩, fun h => h1.2 (fun h2 => h h2.2.2)⟩)
      have hops := hI.olen ls rs
      rw [hV] at hsm
      rw [hV] at hmb hfin
      generalize minN V (gw * gh - 1) = mv at *
      repeat refine cw_seq ?_
      refine cw_region ?_
      refine rw_v (op_b (b := false) rfl (decide_eq_false (by omega))) ?_
      first | refine rw_end ?_ | (refine rw_nil ?_; show CW _ _ _ _ _ _) | refine rw_nil ?_
      repeat refine cw_seq ?_
      refine cw_false rfl ?_
      repeat refine cw_seq ?_
      refine cw_exit ?_
      repeat first | refine exit_then ?_ | refine exit_inb ?_
      show CW _ _ _ _ _ _
      repeat refine cw_seq ?_
      refine cw_region ?_
      refine rw_v (op_pure rfl) ?_
      refine rw_v (op_idx Try.underlying112 Try.sizeOf113 rfl rfl sa_is (by omega) (by omega)) ?_
      refine rw_r (op_ldR Try.underlying113 rfl rfl (S.rd (i := 0) rfl) hg0) ?_
      refine rw_call rfl (proot_E (W := w) c1 h0m hcl hu (fun j hj => St.isl (A := [_, _, _, _, _, _]) (S) hj)) ?_
      rintro _ w21_ ⟨rfl, g21_⟩
      have S := S.gr g21_
      refine rw_v (op_pure rfl) ?_
      refine rw_v (op_fieldAddr Try.underlying115 rfl Try.sizeOf94 rfl rfl) ?_
      refine rw_r (op_loadB Try.underlying94 rfl rfl ((St.isl (A := [_, _, _, _, _, _]) S ls)) rfl) ?_
      refine rw_v (op_len Try.underlying94 rfl) ?_
      refine rw_v (op_pure rfl) ?_
      first | refine rw_end ?_ | (refine rw_nil ?_; show CW _ _ _ _ _ _) | refine rw_nil ?_
      repeat refine cw_seq ?_
      refine cw_block ?_
      repeat refine cw_seq ?_
      rw [← zUp_nil V H mv z] at S
      refine cw_loop (fun m e w => ∃ j : Nat, j + m = (il (r 0)).o.length ∧ SL e [(2, .slice Ao n co), (3, .pointer (some ⟨b_l, 0, none⟩)), (114, .slice (il (r 0)).A (il (r 0)).o.length (il (r 0)).c), (115, .int .i64 (il (r 0)).o.length), (116, .int .i64 j)] ∧
        St F W w (.row 113 1 A_is (gw * gh) (gw * gh) (islV (gw * gh) (laidL o (gw * gh)) fun j => (il j).b) :: .row 3 1 A_od (gw * gh) (gw * gh) (cellsN (gw * gh) o) :: .blk b_l 66 [.int .i64 gw, .slice Av (gw * gh) cv] :: .row 42 5 Ao n co ((H.map (pkAt gw V (zUp V H mv ((il (r 0)).o.take j) z))).flatMap (encPk gw)) :: .map bm (idxP H) :: .row 2 1 Av (gw * gh) cv (ints V) :: (islP il (laidL o (gw * gh)) ++ tl))) (il (r 0)).o.length
        ⟨0, by omega, ⟨rfl, rfl, rfl, rfl, rfl, trivial⟩, S⟩ ?_
      clear S
      rintro m e w ⟨j, hj, hsl, S⟩
      rw [hsl.fold]
      have hro := St.islr (A := [_, _, _, _, _, _]) S ls
      repeat refine cw_seq ?_
      refine cw_region ?_
      refine rw_v (op_pure rfl) ?_
      first | refine rw_end ?_ | (refine rw_nil ?_; show CW _ _ _ _ _ _) | refine rw_nil ?_
      repeat refine cw_seq ?_
      refine cw_cond rfl (fun hc => ?_) (fun hc => ?_)
      · try simp only [decide_eq_true_eq, decide_eq_false_iff_not, beq_iff_eq, bne_iff_ne, beq_eq_false_iff_ne, bne_eq_false_iff_eq, Bool.not_eq_true', Bool.not_eq_false', ne_eq, Decidable.not_not, Int.natCast_inj, Int.ofNat_lt, Int.ofNat_le, gt_iff_lt, ge_iff_le, Int.not_lt, Int.not_le] at hc
        have hjl : j < (il (r 0)).o.length := by omega
        have sa_op : SomeA (il (r 0)).A := hro.someA (by omega)
        obtain ⟨p, hp⟩ : ∃ p, (il (r 0)).o[j]? = some p := ⟨_, List.getElem?_eq_getElem hjl⟩
        have hpl := hops.1 p (List.mem_of_getElem? hp)
        obtain ⟨q, hq⟩ : ∃ q, H[p]? = some q := ⟨_, List.getElem?_eq_getElem hpl⟩
        have hg : ((H.map (pkAt gw V (zUp V H mv ((il (r 0)).o.take j) z))).flatMap (encPk gw))[(p : Int).toNat * 5 + 2]? = some (.int .i64 (V.getD q 0)) := pk_get (gw := gw) (V := V) (z := zUp V H mv ((il (r 0)).o.take j) z) hq 2 (by omega)
        have hlt5 := pk_lt (gw := gw) (V := V) (z := zUp V H mv ((il (r 0)).o.take j) z) hq 4 (by omega)
        have hset := pk_set (gw := gw) (V := V) (h := mv) (ps := (il (r 0)).o.take j) (z := z) hHn hq
        have htk : (il (r 0)).o.take (j + 1) = (il (r 0)).o.take j ++ [p] := by rw [List.take_add_one, hp]; rfl
        rw [← htk] at hset
        have hBq := hB q
        have sa_out : SomeA Ao := (S.row (i := 3) rfl).someA (by omega)
        repeat refine cw_seq ?_
        refine cw_skip ?_
        try show CW _ _ _ _ _ _
        repeat refine cw_seq ?_
        refine cw_block ?_
        repeat refine cw_seq ?_
        refine cw_region ?_
        refine rw_v (op_idx Try.underlying94 Try.sizeOf3 rfl rfl sa_op (by omega) (by omega)) ?_
        refine rw_r (op_ldR Try.underlying3 rfl rfl ((St.islr (A := [_, _, _, _, _, _]) S ls).rd) (natsV_get hp)) ?_
        refine rw_v (op_pure rfl) ?_
        first | refine rw_end ?_ | (refine rw_nil ?_; show CW _ _ _ _ _ _) | refine rw_nil ?_
        repeat refine cw_seq ?_
        refine cw_draw (C := fun wq => Gr w wq) [0, 1, 2, 3, 4, 5, 6, 7, 8, 9, 10] [11, 12, 13] (by kernel_rfl) (by kernel_rfl) (Gr.drew _) ?_
        simp only [pickL, List.drop_succ_cons, List.drop_zero]
        iterate 4 refine rq_v (op_pure rfl) ?_
        refine rq_v (op_idx Try.underlying23 Try.sizeOf42 rfl rfl sa_out (by omega) (by omega)) ?_
        refine rq_v (op_fld Try.underlying42 rfl Try.sizeOf2 rfl rfl sa_out) ?_
        refine rq_r (fun wq hq => op_ldR Try.underlying2 rfl rfl ((S.gr hq).rd (i := 3) rfl) hg) ?_
        refine rq_v (op_fieldAddr Try.underlying66 rfl Try.sizeOf30 rfl rfl) ?_
        refine rq_r (fun wq hq => op_loadB Try.underlying30 rfl rfl ((S.gr hq).blk (i := 2) rfl) rfl) ?_
        refine rq_call rfl (fun wq hq => (hsm wq ((S.gr hq).rd (i := 5) rfl)).mono (fun _ _ ⟨hv, hg⟩ => ⟨hv, hq.trans hg⟩)) ?_
        refine rq_v (op_rng rfl (by omega)) ?_
        refine rq_nil ?_
        intro w22_ g22_
        have S := S.gr g22_
        refine rw_v (op_idx Try.underlying23 Try.sizeOf42 rfl rfl sa_out (by omega) (by omega)) ?_
        refine rw_v (op_fld Try.underlying42 rfl Try.sizeOf2 rfl rfl sa_out) ?_
        refine rw_storeR (i := 3) S rfl (Try.sizeOf2 _) rfl rfl rfl rfl hlt5 rfl ?_
        intro w23_ S
        first | refine rw_end ?_ | (refine rw_nil ?_; show CW _ _ _ _ _ _) | refine rw_nil ?_
        repeat refine cw_seq ?_
        refine cw_region ?_
        refine rw_v (op_rng rfl (by omega)) ?_
        refine rw_v (op_pure rfl) ?_
        first | refine rw_end ?_ | (refine rw_nil ?_; show CW _ _ _ _ _ _) | refine rw_nil ?_
        have S := St.at3 S hset
        exact ⟨m - 1, by omega, j + 1, by omega, ⟨rfl, rfl, rfl, rfl, ie (by omega), trivial⟩, S⟩
      · try simp only [decide_eq_true_eq, decide_eq_false_iff_not, beq_iff_eq, bne_iff_ne, beq_eq_false_iff_ne, bne_eq_false_iff_eq, Bool.not_eq_true', Bool.not_eq_false', ne_eq, Decidable.not_not, Int.natCast_inj, Int.ofNat_lt, Int.ofNat_le, gt_iff_lt, ge_iff_le, Int.not_lt, Int.not_le] at hc
        obtain rfl : j = (il (r 0)).o.length := by omega
        rw [List.take_length, show H.map (pkAt gw V (zUp V H mv (il (r 0)).o z)) = H.map (pkAt gw V (riseN gw V)) from List.map_congr_left fun q hq => by unfold pkAt; rw [hfin q hq]] at S
        repeat refine cw_seq ?_
        refine cw_exit ?_
        repeat first | refine exit_then ?_ | refine exit_inb ?_
        exact res0n ⟨rfl, (S.drop 3).sub (.cons_cons _ (.cons_cons _ (.cons_cons _ (List.sublist_append_right _ _))))⟩
end
end Go.Proofs.Ytiidmiebckkloaa
/- peaks.Of: its contract. -/
namespace Go.Proofs.Ytiidmiebckkloaa
open Go.RowKit
set_option linter.unusedVariables false
set_option linter.unusedSimpArgs false
set_option maxRecDepth 100000

theorem perm5P {α : Type} {a b c d e : α} {L : List α} : (a :: b :: c :: d :: e :: L).Perm (a :: c :: e :: b :: d :: L) := .cons a ((List.Perm.swap c b _).trans (.cons c (List.perm_middle (l₁ := [b, d]))))
section
variable {W : World} {A B : Option Addr} {p gw gh cap c n : Nat} {cc : Nat → Int} {bs : Nat → Nat} {Rs : Nat → Option Nat}
theorem pgall_E : Fn Try.prog 20 [.pointer none] W (RetG (.agg #[.int .i64 0, .int .i64 0, .int .i64 0, .int .i64 0]) W) := by
  have S := St.start W
  refine Fn_enter Try.func20 rfl Try.results20 Try.ntmps20 (by kernel_rfl) (by kernel_rfl) ?_
  repeat refine cw_seq ?_
  refine cw_region ?_
  refine rw_newB (op_alloc Try.zeroValue61 rfl) S ?_
  intro b_r w2_ g2_ S
  first | refine rw_end ?_ | (refine rw_nil ?_; show CW _ _ _ _ _ _) | refine rw_nil ?_
  repeat refine cw_seq ?_
  refine cw_region ?_
  refine rw_v (op_pure rfl) ?_
  refine rw_v (op_nilp Try.underlying35 rfl rfl) ?_
  first | refine rw_end ?_ | (refine rw_nil ?_; show CW _ _ _ _ _ _) | refine rw_nil ?_
  repeat refine cw_seq ?_
  refine cw_true rfl ?_
  repeat refine cw_seq ?_
  refine cw_region ?_
  refine rw_v (op_build (pl := [(0, 1), (1, 1), (2, 1), (3, 1)]) Try.underlying61 Try.zeroValue61 (fun w => by kernel_rfl) rfl rfl) ?_
  refine rw_storeSA (i := 0) S rfl (Try.sizeOf61 _) rfl rfl rfl rfl rfl rfl ?_
  intro w3_ S
  first | refine rw_end ?_ | (refine rw_nil ?_; show CW _ _ _ _ _ _) | refine rw_nil ?_
  repeat refine cw_seq ?_
  refine cw_ret ?_
  repeat first | refine ret_then ?_ | refine ret_inb ?_
  exact resA Try.underlying61 rfl (Try.sizeOf61 _) rfl (S.blk (i := 0) rfl) rfl rfl ⟨rfl, S.out⟩
theorem pgcheck_E (x0 y0 x1 y1 : Int) : Fn Try.prog 44 [.pointer none, .agg #[.int .i64 x0, .int .i64 y0, .int .i64 x1, .int .i64 y1]] W (RetG (.int .i64 1) W) := by
  have S := St.start W
  refine Fn_enter Try.func44 rfl Try.results44 Try.ntmps44 (by kernel_rfl) (by kernel_rfl) ?_
  repeat refine cw_seq ?_
  refine cw_region ?_
  refine rw_newB (op_box rfl) S ?_
  intro b_b1 w2_ g2_ S
  refine rw_v (op_pure rfl) ?_
  first | refine rw_end ?_ | (refine rw_nil ?_; show CW _ _ _ _ _ _) | refine rw_nil ?_
  repeat refine cw_seq ?_
  refine cw_region ?_
  refine rw_v (op_pure rfl) ?_
  refine rw_v (op_nilp Try.underlying35 rfl rfl) ?_
  first | refine rw_end ?_ | (refine rw_nil ?_; show CW _ _ _ _ _ _) | refine rw_nil ?_
  repeat refine cw_seq ?_
  refine cw_true rfl ?_
  repeat refine cw_seq ?_
  refine cw_region ?_
  refine rw_v (op_pure rfl) ?_
  first | refine rw_end ?_ | (refine rw_nil ?_; show CW _ _ _ _ _ _) | refine rw_nil ?_
  repeat refine cw_seq ?_
  refine cw_ret ?_
  repeat first | refine ret_then ?_ | refine ret_inb ?_
  exact res1 rfl ⟨rfl, S.out⟩
theorem pgval_E (x0 y0 x1 y1 : Int) : Fn Try.prog 19 [.pointer none, .agg #[.int .i64 x0, .int .i64 y0, .int .i64 x1, .int .i64 y1]] W (RetG (.tuple #[.slice none 0 0, .int .i64 1]) W) := by
  have S := St.start W
  refine Fn_enter Try.func19 rfl Try.results19 Try.ntmps19 (by kernel_rfl) (by kernel_rfl) ?_
  repeat refine cw_seq ?_
  refine cw_region ?_
  refine rw_newB (op_box rfl) S ?_
  intro b_r w2_ g2_ S
  iterate 2 refine rw_v (op_pure rfl) ?_
  first | refine rw_end ?_ | (refine rw_nil ?_; show CW _ _ _ _ _ _) | refine rw_nil ?_
  repeat refine cw_seq ?_
  refine cw_region ?_
  refine rw_v (op_pure rfl) ?_
  refine rw_r (op_loadAB Try.underlying61 rfl (Try.sizeOf61 _) rfl (S.blk (i := 0) rfl) rfl rfl) ?_
  refine rw_call rfl (pgcheck_E (W := w2_) _ _ _ _) ?_
  rintro _ w3_ ⟨rfl, g3_⟩
  have S := S.gr g3_
  refine rw_v (op_pure rfl) ?_
  first | refine rw_end ?_ | (refine rw_nil ?_; show CW _ _ _ _ _ _) | refine rw_nil ?_
  repeat refine cw_seq ?_
  refine cw_region ?_
  refine rw_v (op_pure rfl) ?_
  refine rw_v (op_b (b := true) rfl (bne_iff_ne.2 (by omega))) ?_
  first | refine rw_end ?_ | (refine rw_nil ?_; show CW _ _ _ _ _ _) | refine rw_nil ?_
  repeat refine cw_seq ?_
  refine cw_true rfl ?_
  repeat refine cw_seq ?_
  refine cw_region ?_
  iterate 3 refine rw_v (op_pure rfl) ?_
  first | refine rw_end ?_ | (refine rw_nil ?_; show CW _ _ _ _ _ _) | refine rw_nil ?_
  repeat refine cw_seq ?_
  refine cw_ret ?_
  repeat first | refine ret_then ?_ | refine ret_inb ?_
  exact res2 rfl rfl ⟨rfl, S.out⟩
theorem pval0 (hG : GridAt W p gw gh cc A cap bs Rs) : ∀ w, Gr W w → Fn Try.prog 19 [.pointer (some ⟨p, 0, none⟩), .agg #[.int .i64 0, .int .i64 0, .int .i64 (gw - 1), .int .i64 (gh - 1)]] w (RetNew (fun v => .tuple #[v, .int .i64 0]) 2 1 (gw * gh) (ints (gridL gw gh cc)) w) := fun w g => by
  have hw := hG.sw
  have hh := hG.sh
  have e1 : ((gw : Int) - 1) = ((gw - 1 : Nat) : Int) := by omega
  have e2 : ((gh : Int) - 1) = ((gh - 1 : Nat) : Int) := by omega
  have := gvalues_E (W := w) 0 0 (gw - 1) (gh - 1) (by omega) (by omega) (hG.gr g)
  rw [← e1, ← e2, show gw - 1 + 1 - 0 = gw by omega, show gh - 1 + 1 - 0 = gh by omega, rectV_all, Nat.mul_comm gh gw] at this
  exact this
theorem pofNil_E : Fn Try.prog 8 [.pointer none] W (RetG (.tuple #[.slice none 0 0, .int .i64 1]) W) := by
  have S := St.start W
  refine Fn_enter Try.func8 rfl Try.results8 Try.ntmps8 (by kernel_rfl) (by kernel_rfl) ?_
  repeat refine cw_seq ?_
  refine cw_region ?_
  iterate 2 refine rw_v (op_pure rfl) ?_
  first | refine rw_end ?_ | (refine rw_nil ?_; show CW _ _ _ _ _ _) | refine rw_nil ?_
  repeat refine cw_seq ?_
  refine cw_region ?_
  iterate 2 refine rw_v (op_pure rfl) ?_
  refine rw_call rfl (pgall_E) ?_
  rintro _ w1_ ⟨rfl, g1_⟩
  have S := S.gr g1_
  refine rw_call rfl (pgval_E (W := w1_) 0 0 0 0) ?_
  rintro _ w2_ ⟨rfl, g2_⟩
  have S := S.gr g2_
  iterate 5 refine rw_v (op_pure rfl) ?_
  first | refine rw_end ?_ | (refine rw_nil ?_; show CW _ _ _ _ _ _) | refine rw_nil ?_
  repeat refine cw_seq ?_
  refine cw_region ?_
  refine rw_v (op_pure rfl) ?_
  refine rw_v (op_b (b := true) rfl (bne_iff_ne.2 (by omega))) ?_
  first | refine rw_end ?_ | (refine rw_nil ?_; show CW _ _ _ _ _ _) | refine rw_nil ?_
  repeat refine cw_seq ?_
  refine cw_true rfl ?_
  repeat refine cw_seq ?_
  refine cw_region ?_
  iterate 3 refine rw_v (op_pure rfl) ?_
  first | refine rw_end ?_ | (refine rw_nil ?_; show CW _ _ _ _ _ _) | refine rw_nil ?_
  repeat refine cw_seq ?_
  refine cw_ret ?_
  repeat first | refine ret_then ?_ | refine ret_inb ?_
  exact res2 rfl rfl ⟨rfl, S.out⟩
set_option maxHeartbeats 8000000 in
theorem pof_E (hb : ∀ j, -2147483648 ≤ (gridL gw gh cc).getD j 0 ∧ (gridL gw gh cc).getD j 0 ≤ 2147483647) (hG : GridAt W p gw gh cc A cap bs Rs) :
    Fn Try.prog 8 [.pointer (some ⟨p, 0, none⟩)] W (RetNew (fun v => .tuple #[v, .int .i64 0]) 42 5 (peaksL gw (gridL gw gh cc)).length ((peaksL gw (gridL gw gh cc)).flatMap (encPk gw)) W) := by
  have hw := hG.sw
  have hh := hG.sh
  have hm : gw * gh ≤ 1024 * 1024 := Nat.mul_le_mul hw.2 hh.2
  have hpos : 1 ≤ gw * gh := Nat.mul_le_mul hw.1 hh.1
  have hV := gridL_len gw gh cc
  have hval := pval0 hG
  generalize gridL gw gh cc = V at *
  have hget : ∀ i, i < gw * gh → (ints V)[(i : Int).toNat * 1]? = some (.int .i64 (V.getD i 0)) := fun i hi => by rw [Nat.mul_one, Int.toNat_natCast]; exact ints_get (getD_at (by omega))
  have S := St.start W
  refine Fn_enter Try.func8 rfl Try.results8 Try.ntmps8 (by kernel_rfl) (by kernel_rfl) ?_
  repeat refine cw_seq ?_
  refine cw_region ?_
  iterate 2 refine rw_v (op_pure rfl) ?_
  first | refine rw_end ?_ | (refine rw_nil ?_; show CW _ _ _ _ _ _) | refine rw_nil ?_
  repeat refine cw_seq ?_
  refine cw_region ?_
  iterate 2 refine rw_v (op_pure rfl) ?_
  refine rw_call rfl (gall_E p gw gh hw.2 hh.2 _ W (hG.top.gr S.out)) ?_
  rintro _ w1_ ⟨rfl, g1_⟩
  have S := S.gr g1_
  refine rw_call rfl (hval w1_ S.out) ?_
  rintro _ w2_ ⟨A_vs, c_vs, rfl, hR_vs, hf_vs, g2_⟩
  have S := S.pushRow hR_vs hf_vs g2_
  iterate 5 refine rw_v (op_pure rfl) ?_
  first | refine rw_end ?_ | (refine rw_nil ?_; show CW _ _ _ _ _ _) | refine rw_nil ?_
  repeat refine cw_seq ?_
  refine cw_region ?_
  refine rw_v (op_pure rfl) ?_
  refine rw_v (op_b (b := false) rfl (bne_eq_false_iff_eq.2 (by omega))) ?_
  first | refine rw_end ?_ | (refine rw_nil ?_; show CW _ _ _ _ _ _) | refine rw_nil ?_
  repeat refine cw_seq ?_
  refine cw_false rfl ?_
  repeat refine cw_seq ?_
  refine cw_skip ?_
  try show CW _ _ _ _ _ _
  repeat refine cw_seq ?_
  refine cw_region ?_
  refine rw_v (op_pure rfl) ?_
  refine rw_call rfl (gsize_E p gw gh _ w2_ (hG.top.gr S.out)) ?_
  rintro _ w3_ ⟨rfl, g3_⟩
  have S := S.gr g3_
  iterate 5 refine rw_v (op_pure rfl) ?_
  first | refine rw_end ?_ | (refine rw_nil ?_; show CW _ _ _ _ _ _) | refine rw_nil ?_
  repeat refine cw_seq ?_
  refine cw_region ?_
  iterate 2 refine rw_v (op_pure rfl) ?_
  refine rw_v (op_build (pl := [(0, 1), (1, 1)]) Try.underlying66 Try.zeroValue66 (fun w => by kernel_rfl) rfl rfl) ?_
  refine rw_newB (op_alloc Try.zeroValue66 rfl) S ?_
  intro b_l w5_ g5_ S
  refine rw_storeSA (i := 0) S rfl (Try.sizeOf66 _) rfl rfl rfl rfl rfl rfl ?_
  intro w6_ S
  first | refine rw_end ?_ | (refine rw_nil ?_; show CW _ _ _ _ _ _) | refine rw_nil ?_
  repeat refine cw_seq ?_
  refine cw_region ?_
  refine rw_v (op_pure rfl) ?_
  first | refine rw_end ?_ | (refine rw_nil ?_; show CW _ _ _ _ _ _) | refine rw_nil ?_
  repeat refine cw_seq ?_
  refine cw_region ?_
  refine rw_makeMap S ?_
  intro b_mp w8_ g8_ S
  refine rw_v (op_pure rfl) ?_
  first | refine rw_end ?_ | (refine rw_nil ?_; show CW _ _ _ _ _ _) | refine rw_nil ?_
  repeat refine cw_seq ?_
  refine cw_region ?_
  refine rw_v (op_pure rfl) ?_
  refine rw_v (op_len Try.underlying30 rfl) ?_
  refine rw_makeS1 Try.underlying38 info_t4 rfl rfl rfl (n := gw * gh) (c := gw * gh) (by omega) (by omega) (by omega) (by omega) S ?_
  intro A_gone w10_ g10_ S sa_gone
  refine rw_v (op_pure rfl) ?_
  first | refine rw_end ?_ | (refine rw_nil ?_; show CW _ _ _ _ _ _) | refine rw_nil ?_
  repeat refine cw_seq ?_
  refine cw_region ?_
  refine rw_v (op_pure rfl) ?_
  refine rw_v (op_len Try.underlying30 rfl) ?_
  refine rw_v (op_pure rfl) ?_
  first | refine rw_end ?_ | (refine rw_nil ?_; show CW _ _ _ _ _ _) | refine rw_nil ?_
  repeat refine cw_seq ?_
  refine cw_block ?_
  repeat refine cw_seq ?_
  rw [bitsP_zero, bitsP_congr (f' := fun j => decide (pR gw V j < 0)) (fun j _ => by simp)] at S
  have S := S.pushNil 42 5
  refine cw_loop (fun m e w => ∃ (k : Nat) (A2 : Option Addr) (c2 : Nat), k + m = gw * gh ∧ SL e [(4, .slice A_vs (gw * gh) c_vs), (6, .int .i64 gw), (8, .pointer (some ⟨b_l, 0, none⟩)), (9, .slice A2 (headsN gw V k).length c2), (10, .map (some b_mp)), (11, .slice A_gone (gw * gh) (gw * gh)), (38, .int .i64 (gw * gh : Nat)), (39, .int .i64 k)] ∧
    St No W w [.row 42 5 A2 (headsN gw V k).length c2 (((headsN gw V k).map (pkAt gw V fun _ => 0)).flatMap (encPk gw)), .row 4 1 A_gone (gw * gh) (gw * gh) (bitsP (gw * gh) fun j => decide (pR gw V j < k)), .map b_mp (idxP (headsN gw V k)), .blk b_l 66 [.int .i64 gw, .slice A_vs (gw * gh) c_vs], .row 2 1 A_vs (gw * gh) c_vs (ints V)]) (gw * gh)
    ⟨0, none, 0, by omega, ⟨rfl, rfl, rfl, rfl, rfl, rfl, rfl, rfl, trivial⟩, S⟩ ?_
  clear S
  rintro m e w ⟨k, A2, c2, hk, hsl, S⟩
  rw [hsl.fold]
  by_cases hkn : k < gw * gh
  · have hkl : k < V.length := by omega
    have hgk := bitsP_get (n := gw * gh) (f := fun j => decide (pR gw V j < k)) hkn
    have hsucc := headsN_succ (gw := gw) (V := V) (k := k)
    have hhl := headsN_len gw V k
    have hle := pR_le (gw := gw) hkl
    have sa_vs : SomeA A_vs := (S.row (i := 4) rfl).someA (by omega)
    have sa_gone : SomeA A_gone := (S.row (i := 1) rfl).someA (by omega)
    by_cases hp : pR gw V k < k
    · rw [decide_eq_true hp] at hgk
      have hno : hdB gw V k = false := by unfold hdB; rw [decide_eq_false (by omega)]; rfl
      rw [hno, if_neg (by simp)] at hsucc
      have hbits : bitsP (gw * gh) (fun j => decide (pR gw V j < k)) = bitsP (gw * gh) fun j => decide (pR gw V j < k + 1) := bitsP_congr fun j hj => by
        have : pR gw V j ≠ k := fun e => by have := pR_idem (gw := gw) (V := V) (i := j) (by omega); rw [e] at this; omega
        rw [Bool.eq_iff_iff, decide_eq_true_iff, decide_eq_true_iff]; omega
      repeat refine cw_seq ?_
      refine cw_region ?_
      refine rw_v (op_b (b := true) rfl (decide_eq_true (by omega))) ?_
      first | refine rw_end ?_ | (refine rw_nil ?_; show CW _ _ _ _ _ _) | refine rw_nil ?_
      repeat refine cw_seq ?_
      refine cw_true rfl ?_
      repeat refine cw_seq ?_
      refine cw_skip ?_
      try show CW _ _ _ _ _ _
      repeat refine cw_seq ?_
      refine cw_block ?_
      repeat refine cw_seq ?_
      refine cw_region ?_
      iterate 2 refine rw_v (op_pure rfl) ?_
      first | refine rw_end ?_ | (refine rw_nil ?_; show CW _ _ _ _ _ _) | refine rw_nil ?_
      repeat refine cw_seq ?_
      refine cw_region ?_
      iterate 2 refine rw_v (op_pure rfl) ?_
      refine rw_v (op_idx Try.underlying38 Try.sizeOf4 rfl rfl sa_gone (by omega) (by omega)) ?_
      refine rw_r (op_ldR Try.underlying4 rfl rfl (S.rd (i := 1) rfl) hgk) ?_
      first | refine rw_end ?_ | (refine rw_nil ?_; show CW _ _ _ _ _ _) | refine rw_nil ?_
      repeat refine cw_seq ?_
      refine cw_true rfl ?_
      repeat refine cw_seq ?_
      refine cw_exit ?_
      repeat first | refine exit_then ?_ | refine exit_inb ?_
      show CW _ _ _ _ _ _
      repeat refine cw_seq ?_
      refine cw_region ?_
      refine rw_v (op_rng rfl (by omega)) ?_
      refine rw_v (op_pure rfl) ?_
      first | refine rw_end ?_ | (refine rw_nil ?_; show CW _ _ _ _ _ _) | refine rw_nil ?_
      rw [hbits] at S
      exact ⟨m - 1, by omega, k + 1, A2, c2, by omega, ⟨rfl, rfl, rfl, by rw [hsucc]; rfl, rfl, rfl, rfl, ie (by omega), trivial⟩, by rw [hsucc]; exact S⟩
    · rw [decide_eq_false hp] at hgk
      have hpk : pR gw V k = k := by omega
      have h0 : ∀ j, j < V.length → pR gw V j = k → (fun j => decide (pR gw V j < k)) j = false := fun j _ e => decide_eq_false (by omega)
      have hbits : bitsP (gw * gh) (fun j => decide (pR gw V j < k) || decide (pR gw V j = k)) = bitsP (gw * gh) fun j => decide (pR gw V j < k + 1) := bitsP_congr fun j hj => by
        rw [Bool.eq_iff_iff, Bool.or_eq_true, decide_eq_true_iff, decide_eq_true_iff, decide_eq_true_iff]; omega
      have hap : ∀ g, ownA A_gone g → ¬ ownA A_vs g := fun g hg => S.sep.2.2.2.1 g hg (.row 2 1 A_vs (gw * gh) c_vs (ints V)) (by simp)
      have hdk : hdB gw V k = topB gw V k := by unfold hdB; rw [decide_eq_true hpk]; rfl
      rw [hdk] at hsucc
      have hpl : (plat gw V k).length ≤ gw * gh := by
        have := List.length_filter_le (fun i => decide (pR gw V i = k)) (List.range V.length)
        rw [List.length_range] at this
        exact Nat.le_trans this (by omega)
      have hpush := idxP_push (l := headsN gw V k) (q := k) (fun h => by have := (mem_headsN.1 h).1; omega)
      cases htop : topB gw V k with
      | true =>
        rw [htop, if_pos rfl] at hsucc
        have em : (k : Int) % gw = ((k % gw : Nat) : Int) := by push_cast; rfl
        have ed : (k : Int) / gw = ((k / gw : Nat) : Int) := by push_cast; rfl
        repeat refine cw_seq ?_
        refine cw_region ?_
        refine rw_v (op_b (b := true) rfl (decide_eq_true (by omega))) ?_
        first | refine rw_end ?_ | (refine rw_nil ?_; show CW _ _ _ _ _ _) | refine rw_nil ?_
        repeat refine cw_seq ?_
        refine cw_true rfl ?_
        repeat refine cw_seq ?_
        refine cw_skip ?_
        try show CW _ _ _ _ _ _
        repeat refine cw_seq ?_
        refine cw_block ?_
        repeat refine cw_seq ?_
        refine cw_region ?_
        iterate 2 refine rw_v (op_pure rfl) ?_
        first | refine rw_end ?_ | (refine rw_nil ?_; show CW _ _ _ _ _ _) | refine rw_nil ?_
        repeat refine cw_seq ?_
        refine cw_region ?_
        iterate 2 refine rw_v (op_pure rfl) ?_
        refine rw_v (op_idx Try.underlying38 Try.sizeOf4 rfl rfl sa_gone (by omega) (by omega)) ?_
        refine rw_r (op_ldR Try.underlying4 rfl rfl (S.rd (i := 1) rfl) hgk) ?_
        first | refine rw_end ?_ | (refine rw_nil ?_; show CW _ _ _ _ _ _) | refine rw_nil ?_
        repeat refine cw_seq ?_
        refine cw_false rfl ?_
        repeat refine cw_seq ?_
        refine cw_skip ?_
        try show CW _ _ _ _ _ _
        repeat refine cw_seq ?_
        refine cw_region ?_
        refine rw_r (op_loadAB Try.underlying66 rfl (Try.sizeOf66 _) rfl (S.blk (i := 3) rfl) rfl rfl) ?_
        iterate 2 refine rw_v (op_pure rfl) ?_
        refine rw_call rfl (plain_E (W := w) (A := A_vs) (c := c_vs) (gw := gw) (gh := gh) k ⟨hw.1, by omega⟩ (by omega) hV hkn hpk h0 (S.rd (i := 4) rfl) (S.row (i := 1) rfl) hap) ?_
        rintro _ w11_ ⟨rfl, hR, hF⟩
        have S := S.set (i := 1) (h' := .row 4 1 A_gone (gw * gh) (gw * gh) _) rfl rfl hF (fun g h => .inl h) hR (fun g h => .inl h)
        rw [htop]
        iterate 5 refine rw_v (op_pure rfl) ?_
        first | refine rw_end ?_ | (refine rw_nil ?_; show CW _ _ _ _ _ _) | refine rw_nil ?_
        repeat refine cw_seq ?_
        refine cw_region ?_
        refine rw_v (op_pure rfl) ?_
        first | refine rw_end ?_ | (refine rw_nil ?_; show CW _ _ _ _ _ _) | refine rw_nil ?_
        repeat refine cw_seq ?_
        refine cw_true rfl ?_
        rw [hbits] at S
        repeat refine cw_seq ?_
        refine cw_region ?_
        iterate 3 refine rw_v (op_pure rfl) ?_
        refine rw_v (op_len Try.underlying23 rfl) ?_
        refine rw_mapUpd (i := 2) S rfl Try.underlying67 Try.underlying3 rfl rfl rfl rfl ?_
        intro w12_ S
        first | refine rw_end ?_ | (refine rw_nil ?_; show CW _ _ _ _ _ _) | refine rw_nil ?_
        rw [hpush, ← hsucc] at S
        repeat refine cw_seq ?_
        refine cw_tri (C := (fun σ wq => CS No W [.row 42 5 A2 (headsN gw V k).length c2 (((headsN gw V k).map (pkAt gw V fun _ => 0)).flatMap (encPk gw)), .row 4 1 A_gone (gw * gh) (gw * gh) (bitsP (gw * gh) fun j => decide (pR gw V j < k + 1)), .map b_mp (idxP (headsN gw V (k + 1))), .blk b_l 66 [.int .i64 gw, .slice A_vs (gw * gh) c_vs], .row 2 1 A_vs (gw * gh) c_vs (ints V)] 0 42 5 (headsN gw V k).length (((headsN gw V k).map (pkAt gw V fun _ => 0)).flatMap (encPk gw)) (encPk gw (pkAt gw V (fun _ => 0) k)) wq σ)) [14, 15] [0, 1, 2, 3, 4, 5, 6, 7, 8, 9, 10, 11, 12, 13, 14, 15] [16] (by kernel_rfl) (by kernel_rfl) (S.gr (Gr.drew _)) ?_
        simp only [pickI, pickL, List.drop_succ_cons, List.drop_zero]
        refine rs_v rfl (op_pure rfl) ?_
        refine rs_v rfl (op_pure rfl) ?_
        refine rs_v rfl (op_pure rfl) ?_
        refine rs_v rfl (op_rem rfl rfl (by omega) (by omega)) ?_
        rw [em]
        refine rs_v rfl (op_pure rfl) ?_
        refine rs_v rfl (op_pure rfl) ?_
        refine rs_v rfl (op_div rfl rfl (by omega) (by omega)) ?_
        rw [ed]
        refine rs_v rfl (op_build (pl := [(0, 1), (1, 1)]) Try.underlying40 Try.zeroValue40 (fun w => by kernel_rfl) rfl rfl) ?_
        refine rs_v rfl (op_pure rfl) ?_
        refine rs_v rfl (op_pure rfl) ?_
        refine rs_v rfl (op_idx Try.underlying30 Try.sizeOf2 rfl rfl sa_vs (by omega) (by omega)) ?_
        refine rs_r rfl (fun τ wq hq => op_ldR Try.underlying2 rfl rfl (Row.rd (CS.ok hq (j := 4) (by omega) rfl)) (hget k hkn)) ?_
        refine rs_v rfl (op_pure rfl) ?_
        refine rs_v rfl (op_build (pl := [(0, 2), (2, 1), (3, 1), (4, 1)]) Try.underlying42 Try.zeroValue42 (fun w => by kernel_rfl) rfl rfl) ?_
        refine rs_special rfl rfl (fun wq hq => to_buildCS hq Try.underlying23 Try.sizeOf42 Try.zeroValue42 rfl rfl rfl rfl rfl rfl) ?_
        rintro v6 w6 ⟨A6, rfl, _⟩
        refine rs_special rfl rfl (fun wq hq => to_appCS hq rfl (fun h => ⟨_, rfl⟩) Try.underlying23 info_t42 rfl rfl rfl rfl rfl rfl (by omega)) ?_
        rintro v7 w7 ⟨A7, c7, L7, rfl, _, _⟩
        refine rs_nil ?_
        rintro w8 ⟨A8_, c8_, L_st, e_st, h_st, S⟩
        cases e_st
        obtain rfl := Option.some.inj h_st
        refine rw_v (op_pure rfl) ?_
        first | refine rw_end ?_ | (refine rw_nil ?_; show CW _ _ _ _ _ _) | refine rw_nil ?_
        repeat refine cw_seq ?_
        refine cw_region ?_
        refine rw_v (op_rng rfl (by omega)) ?_
        refine rw_v (op_pure rfl) ?_
        first | refine rw_end ?_ | (refine rw_nil ?_; show CW _ _ _ _ _ _) | refine rw_nil ?_
        have e2 : (((headsN gw V k).map (pkAt gw V fun _ => 0)).flatMap (encPk gw)) ++ encPk gw (pkAt gw V (fun _ => 0) k) = ((headsN gw V (k + 1)).map (pkAt gw V fun _ => 0)).flatMap (encPk gw) := by rw [hsucc, List.map_append, List.flatMap_append]; simp
        have e3 : (headsN gw V k).length + 1 = (headsN gw V (k + 1)).length := by rw [hsucc]; simp
        rw [e2, e3] at S
        exact ⟨m - 1, by omega, k + 1, A7, c7, by omega, ⟨rfl, rfl, rfl, by rw [← e3]; rfl, rfl, rfl, rfl, ie (by omega), trivial⟩, S⟩
      | false =>
        rw [htop, if_neg (by simp)] at hsucc
        repeat refine cw_seq ?_
        refine cw_region ?_
        refine rw_v (op_b (b := true) rfl (decide_eq_true (by omega))) ?_
        first | refine rw_end ?_ | (refine rw_nil ?_; show CW _ _ _ _ _ _) | refine rw_nil ?_
        repeat refine cw_seq ?_
        refine cw_true rfl ?_
        repeat refine cw_seq ?_
        refine cw_skip ?_
        try show CW _ _ _ _ _ _
        repeat refine cw_seq ?_
        refine cw_block ?_
        repeat refine cw_seq ?_
        refine cw_region ?_
        iterate 2 refine rw_v (op_pure rfl) ?_
        first | refine rw_end ?_ | (refine rw_nil ?_; show CW _ _ _ _ _ _) | refine rw_nil ?_
        repeat refine cw_seq ?_
        refine cw_region ?_
        iterate 2 refine rw_v (op_pure rfl) ?_
        refine rw_v (op_idx Try.underlying38 Try.sizeOf4 rfl rfl sa_gone (by omega) (by omega)) ?_
        refine rw_r (op_ldR Try.underlying4 rfl rfl (S.rd (i := 1) rfl) hgk) ?_
        first | refine rw_end ?_ | (refine rw_nil ?_; show CW _ _ _ _ _ _) | refine rw_nil ?_
        repeat refine cw_seq ?_
        refine cw_false rfl ?_
        repeat refine cw_seq ?_
        refine cw_skip ?_
        try show CW _ _ _ _ _ _
        repeat refine cw_seq ?_
        refine cw_region ?_
        refine rw_r (op_loadAB Try.underlying66 rfl (Try.sizeOf66 _) rfl (S.blk (i := 3) rfl) rfl rfl) ?_
        iterate 2 refine rw_v (op_pure rfl) ?_
        refine rw_call rfl (plain_E (W := w) (A := A_vs) (c := c_vs) (gw := gw) (gh := gh) k ⟨hw.1, by omega⟩ (by omega) hV hkn hpk h0 (S.rd (i := 4) rfl) (S.row (i := 1) rfl) hap) ?_
        rintro _ w14_ ⟨rfl, hR, hF⟩
        have S := S.set (i := 1) (h' := .row 4 1 A_gone (gw * gh) (gw * gh) _) rfl rfl hF (fun g h => .inl h) hR (fun g h => .inl h)
        rw [htop]
        iterate 5 refine rw_v (op_pure rfl) ?_
        first | refine rw_end ?_ | (refine rw_nil ?_; show CW _ _ _ _ _ _) | refine rw_nil ?_
        repeat refine cw_seq ?_
        refine cw_region ?_
        refine rw_v (op_pure rfl) ?_
        first | refine rw_end ?_ | (refine rw_nil ?_; show CW _ _ _ _ _ _) | refine rw_nil ?_
        repeat refine cw_seq ?_
        refine cw_false rfl ?_
        repeat refine cw_seq ?_
        refine cw_skip ?_
        try show CW _ _ _ _ _ _
        repeat refine cw_seq ?_
        refine cw_region ?_
        refine rw_v (op_rng rfl (by omega)) ?_
        refine rw_v (op_pure rfl) ?_
        first | refine rw_end ?_ | (refine rw_nil ?_; show CW _ _ _ _ _ _) | refine rw_nil ?_
        rw [hbits] at S
        exact ⟨m - 1, by omega, k + 1, A2, c2, by omega, ⟨rfl, rfl, rfl, by rw [hsucc]; rfl, rfl, rfl, rfl, ie (by omega), trivial⟩, by rw [hsucc]; exact S⟩
  · obtain rfl : k = gw * gh := by omega
    have hhl := headsN_len gw V (gw * gh)
    have hHn := headsN_nodup gw V (gw * gh)
    have hHl : ∀ q, q ∈ headsN gw V (gw * gh) → q < V.length := fun q hq => by have := (mem_headsN.1 hq).1; omega
    have hpe : peaksL gw V = (headsN gw V (gw * gh)).map (pkAt gw V (riseN gw V)) := by unfold peaksL; rw [hV]
    have hple : (peaksL gw V).length = (headsN gw V (gw * gh)).length := by rw [hpe, List.length_map]
    repeat refine cw_seq ?_
    refine cw_region ?_
    refine rw_v (op_b (b := false) rfl (decide_eq_false (by omega))) ?_
    first | refine rw_end ?_ | (refine rw_nil ?_; show CW _ _ _ _ _ _) | refine rw_nil ?_
    repeat refine cw_seq ?_
    refine cw_false rfl ?_
    repeat refine cw_seq ?_
    refine cw_exit ?_
    repeat first | refine exit_then ?_ | refine exit_inb ?_
    show CW _ _ _ _ _ _
    repeat refine cw_seq ?_
    refine cw_region ?_
    refine rw_r (op_loadAB Try.underlying66 rfl (Try.sizeOf66 _) rfl (S.blk (i := 3) rfl) rfl rfl) ?_
    iterate 2 refine rw_v (op_pure rfl) ?_
    refine rw_call rfl (prises_E (z0 := fun _ => 0) hw hh hV hb hHn hHl (by omega) rfl (S.permK perm5P)) ?_
    rintro _ w15_ ⟨rfl, S⟩
    first | refine rw_end ?_ | (refine rw_nil ?_; show CW _ _ _ _ _ _) | refine rw_nil ?_
    repeat refine cw_seq ?_
    refine cw_region ?_
    iterate 3 refine rw_v (op_pure rfl) ?_
    first | refine rw_end ?_ | (refine rw_nil ?_; show CW _ _ _ _ _ _) | refine rw_nil ?_
    repeat refine cw_seq ?_
    refine cw_ret ?_
    repeat first | refine ret_then ?_ | refine ret_inb ?_
    rw [← hpe, ← hple] at S
    rw [← hple]
    exact res2 rfl rfl (S.retNew (i := 0) rfl)
end
end Go.Proofs.Ytiidmiebckkloaa
/- The peaks' example. -/
namespace Go.Proofs.Ytiidmiebckkloaa
open Go.RowKit
set_option linter.unusedVariables false
set_option linter.unusedSimpArgs false
set_option maxRecDepth 100000

/-! ### the example -/
def exV : List Int := [1, 5, 2, 4, 0]
theorem exV_inj : ∀ i, i < 5 → ∀ j, j < 5 → exV.getD i 0 = exV.getD j 0 → i = j := by decide
theorem exV_pR : ∀ i, i < 5 → pR 5 exV i = i := fun i hi => by
  have hl : exV.length = 5 := rfl
  have h1 := pR_lt (gw := 5) (V := exV) (i := i) (by omega)
  exact exV_inj _ (by omega) _ hi (pR_val (by omega))
theorem exV_top (q : Nat) (hq : q < 5) : topB 5 exV q = (List.range 5).all fun j => !(decide (j + 1 = q ∧ 0 < q % 5) || decide (q + 1 = j ∧ 0 < j % 5) || decide (j + 5 = q) || decide (q + 5 = j)) || decide (exV.getD j 0 ≤ exV.getD q 0) := by
  have hl : exV.length = 5 := rfl
  unfold topB
  rw [Bool.eq_iff_iff]
  simp only [decide_eq_true_eq, List.all_eq_true, List.mem_range, Bool.or_eq_true, Bool.not_eq_true', Bool.or_eq_false_iff, decide_eq_false_iff_not]
  unfold TopP
  constructor
  · intro h j hj
    by_cases hc : exV.getD j 0 ≤ exV.getD q 0
    · exact .inr hc
    · left
      refine ⟨⟨⟨fun s => ?_, fun s => ?_⟩, fun s => ?_⟩, fun s => ?_⟩
      · exact hc (h q j (by omega) (by omega) (exV_pR q hq) (.inl s))
      · exact hc (h q j (by omega) (by omega) (exV_pR q hq) (.inr (.inl s)))
      · exact hc (h q j (by omega) (by omega) (exV_pR q hq) (.inr (.inr (.inl s))))
      · exact hc (h q j (by omega) (by omega) (exV_pR q hq) (.inr (.inr (.inr s))))
  · intro h i j hi hj hp s
    rw [exV_pR i (by omega)] at hp
    subst hp
    rcases h j (by omega) with ⟨⟨⟨h1, h2⟩, h3⟩, h4⟩ | h
    · rcases s with s | s | s | s
      · exact absurd s h1
      · exact absurd s h2
      · exact absurd s h3
      · exact absurd s h4
    · exact h
theorem exV_heads : headsN 5 exV 5 = [1, 3] := by
  have h : ∀ q, q < 5 → hdB 5 exV q = decide (q = 1 ∨ q = 3) := fun q hq => by
    unfold hdB
    rw [exV_pR q hq, exV_top q hq, decide_eq_true rfl, Bool.true_and]
    revert q
    decide
  unfold headsN
  have : (List.range 5).filter (hdB 5 exV) = (List.range 5).filter fun q => decide (q = 1 ∨ q = 3) := by
    refine List.filter_congr fun q hq => h q (List.mem_range.1 hq)
  rw [this]
  decide
theorem exV_rise1 : riseN 5 exV 1 = 5 := by
  apply riseN_eq
  right
  refine ⟨fun t => ?_, ⟨4, by decide, by decide⟩, by decide⟩
  rintro ⟨j, hj, _, h⟩
  revert h
  have : ∀ j, j < 5 → ¬ exV.getD 1 0 < exV.getD j 0 := by decide
  exact this j (by have hl : exV.length = 5 := rfl; omega)
theorem exV_rise3 : riseN 5 exV 3 = 2 := by
  apply riseN_eq
  left
  have hl : exV.length = 5 := rfl
  refine ⟨⟨1, by decide, ?_, by decide⟩, fun t ht => ?_⟩
  · refine .step (j := 2) ?_ (.step (j := 1) ?_ (.refl 1))
    · exact ⟨by decide, by decide, by decide, by decide, .inl ⟨by decide, by decide⟩⟩
    · exact ⟨by decide, by decide, by decide, by decide, .inl ⟨by decide, by decide⟩⟩
  · rintro ⟨j, hj, c, h⟩
    cases c with
    | refl => exact absurd h (by decide)
    | @step _ k _ a c =>
      obtain ⟨_, hk, _, hv, s⟩ := a
      have h3 : ∀ k, k < 5 → ((k + 1 = 3 ∧ 0 < 3 % 5) ∨ (3 + 1 = k ∧ 0 < k % 5) ∨ k + 5 = 3 ∨ 3 + 5 = k) → exV.getD k 0 ≤ exV.getD 3 0 - 2 := by decide
      have := h3 k hk s
      omega
theorem exV_peaks : ∃ a b : Int, peaksL 5 exV = [⟨1, 5, a, 5⟩, ⟨3, 4, b, 2⟩] := by
  refine ⟨(plat 5 exV 1).length, (plat 5 exV 3).length, ?_⟩
  unfold peaksL
  rw [show exV.length = 5 from rfl, exV_heads, List.map_cons, List.map_cons, List.map_nil]
  unfold pkAt
  rw [exV_rise1, exV_rise3]
  rfl
theorem pmay_bnd {V : List Int} (h : ∀ v ∈ V, mayB v = true) (j : Nat) : -2147483648 ≤ V.getD j 0 ∧ V.getD j 0 ≤ 2147483647 := by
  rw [List.getD_eq_getElem?_getD]
  cases hj : V[j]? with
  | none => simp
  | some v => exact (mayB_iff v).1 (h v (List.mem_of_getElem? hj))
theorem awake46_E (W : World) : Fn Try.prog 7 [] W (RetG (.bool true) W) := by
  have hG5 : gridL 5 1 (fun i => exV.getD i 0) = exV := gridL_made rfl
  have hmay : ∀ v ∈ exV, mayB v = true := fun v hv => by
    simp only [exV, List.mem_cons, List.not_mem_nil, or_false] at hv
    rcases hv with rfl | rfl | rfl | rfl | rfl <;> rfl
  obtain ⟨a1, a2, hpk⟩ := exV_peaks
  have hzo : ∀ (W : World) (p : Nat) (A : Option Addr) (cap : Nat) (bs : Nat → Nat) (Rs : Nat → Option Nat) (hG : GridAt W p 5 1 (fun i => exV.getD i 0) A cap bs Rs),
      Fn Try.prog 8 [.pointer (some ⟨p, 0, none⟩)] W (RetNew (fun v => .tuple #[v, .int .i64 0]) 42 5 2 [.int .i64 1, .int .i64 0, .int .i64 5, .int .i64 a1, .int .i64 5, .int .i64 3, .int .i64 0, .int .i64 4, .int .i64 a2, .int .i64 2] W) := fun W p A cap bs Rs hG => by
    have := pof_E (W := W) (by rw [hG5]; exact pmay_bnd hmay) hG
    rw [hG5, hpk, show ([⟨1, 5, a1, 5⟩, ⟨3, 4, a2, 2⟩] : List Pk).flatMap (encPk 5) = [.int .i64 1, .int .i64 0, .int .i64 5, .int .i64 a1, .int .i64 5, .int .i64 3, .int .i64 0, .int .i64 4, .int .i64 a2, .int .i64 2] by simp [encPk]] at this
    exact this
  have hfrom := fun w B (h : Rd w B (ints exV)) => from_E (W := w) (B := B) (V := exV) (gw := 5) (gh := 1) 5 (by omega) (by omega) rfl hmay h
  have S := St.start W
  refine Fn_enter Try.func7 rfl Try.results7 Try.ntmps7 (by kernel_rfl) (by kernel_rfl) ?_
  repeat refine cw_seq ?_
  refine cw_region ?_
  refine rw_v (op_pure rfl) ?_
  first | refine rw_end ?_ | (refine rw_nil ?_; show CW _ _ _ _ _ _) | refine rw_nil ?_
  repeat refine cw_seq ?_
  refine cw_region ?_
  refine rw_buildS Try.underlying30 Try.sizeOf2 Try.zeroValue2 rfl rfl rfl rfl rfl rfl S ?_
  intro A_v3 w2_ g2_ S sa_v3
  refine rw_call rfl (hfrom w2_ _ (S.rd (i := 0) rfl)) ?_
  rintro _ w3_ ⟨p2, B, bc, bs2, Rs2, rfl, hG2, hf2, g3_⟩
  have S := S.pushGrid hG2 hf2 g3_
  iterate 5 refine rw_v (op_pure rfl) ?_
  first | refine rw_end ?_ | (refine rw_nil ?_; show CW _ _ _ _ _ _) | refine rw_nil ?_
  repeat refine cw_seq ?_
  refine cw_region ?_
  refine rw_v (op_pure rfl) ?_
  refine rw_call rfl (hzo w3_ p2 B bc bs2 Rs2 (S.grid (i := 0) rfl)) ?_
  rintro _ w4_ ⟨A_z, c_z, rfl, hR_z, hf_z, g4_⟩
  have S := S.pushRow hR_z hf_z g4_
  iterate 5 refine rw_v (op_pure rfl) ?_
  first | refine rw_end ?_ | (refine rw_nil ?_; show CW _ _ _ _ _ _) | refine rw_nil ?_
  repeat refine cw_seq ?_
  refine cw_region ?_
  have sa_z : SomeA A_z := (S.row (i := 0) rfl).someA (by omega)
  refine rw_v (op_pure rfl) ?_
  refine rw_v (op_b (b := true) rfl (beq_iff_eq.2 (by omega))) ?_
  refine rw_v (op_pure rfl) ?_
  first | refine rw_off rfl ?_ | (refine rw_on rfl ?_; refine rw_v (op_pure rfl) ?_)
  first | refine rw_off rfl ?_ | (refine rw_on rfl ?_; refine rw_v (op_b (b := true) rfl (beq_iff_eq.2 (by omega))) ?_)
  iterate 2 refine rw_v (op_pure rfl) ?_
  first | refine rw_off rfl ?_ | (refine rw_on rfl ?_; refine rw_v (op_pure rfl) ?_)
  first | refine rw_off rfl ?_ | (refine rw_on rfl ?_; refine rw_v (op_len Try.underlying23 rfl) ?_)
  first | refine rw_off rfl ?_ | (refine rw_on rfl ?_; refine rw_v (op_b (b := true) rfl (beq_iff_eq.2 (by omega))) ?_)
  iterate 2 refine rw_v (op_pure rfl) ?_
  first | refine rw_off rfl ?_ | (refine rw_on rfl ?_; refine rw_v (op_pure rfl) ?_)
  first | refine rw_off rfl ?_ | (refine rw_on rfl ?_; refine rw_v (op_idx Try.underlying23 Try.sizeOf42 rfl rfl sa_z (by omega) (by omega)) ?_)
  first | refine rw_off rfl ?_ | (refine rw_on rfl ?_; refine rw_v (op_fld Try.underlying42 rfl Try.sizeOf2 rfl rfl sa_z) ?_)
  first | refine rw_off rfl ?_ | (refine rw_on rfl ?_; refine rw_r (op_ldR Try.underlying2 rfl rfl (S.rd (i := 0) rfl) rfl) ?_)
  first | refine rw_off rfl ?_ | (refine rw_on rfl ?_; refine rw_v (op_b (b := true) rfl (beq_iff_eq.2 (by omega))) ?_)
  iterate 2 refine rw_v (op_pure rfl) ?_
  first | refine rw_off rfl ?_ | (refine rw_on rfl ?_; refine rw_v (op_pure rfl) ?_)
  first | refine rw_off rfl ?_ | (refine rw_on rfl ?_; refine rw_v (op_idx Try.underlying23 Try.sizeOf42 rfl rfl sa_z (by omega) (by omega)) ?_)
  first | refine rw_off rfl ?_ | (refine rw_on rfl ?_; refine rw_v (op_fld Try.underlying42 rfl Try.sizeOf2 rfl rfl sa_z) ?_)
  first | refine rw_off rfl ?_ | (refine rw_on rfl ?_; refine rw_r (op_ldR Try.underlying2 rfl rfl (S.rd (i := 0) rfl) rfl) ?_)
  first | refine rw_off rfl ?_ | (refine rw_on rfl ?_; refine rw_v (op_b (b := true) rfl (beq_iff_eq.2 (by omega))) ?_)
  iterate 2 refine rw_v (op_pure rfl) ?_
  first | refine rw_off rfl ?_ | (refine rw_on rfl ?_; refine rw_v (op_pure rfl) ?_)
  first | refine rw_off rfl ?_ | (refine rw_on rfl ?_; refine rw_v (op_idx Try.underlying23 Try.sizeOf42 rfl rfl sa_z (by omega) (by omega)) ?_)
  first | refine rw_off rfl ?_ | (refine rw_on rfl ?_; refine rw_v (op_fld Try.underlying42 rfl Try.sizeOf2 rfl rfl sa_z) ?_)
  first | refine rw_off rfl ?_ | (refine rw_on rfl ?_; refine rw_r (op_ldR Try.underlying2 rfl rfl (S.rd (i := 0) rfl) rfl) ?_)
  first | refine rw_off rfl ?_ | (refine rw_on rfl ?_; refine rw_v (op_b (b := true) rfl (beq_iff_eq.2 (by omega))) ?_)
  iterate 2 refine rw_v (op_pure rfl) ?_
  first | refine rw_off rfl ?_ | (refine rw_on rfl ?_; refine rw_v (op_pure rfl) ?_)
  first | refine rw_off rfl ?_ | (refine rw_on rfl ?_; refine rw_v (op_idx Try.underlying23 Try.sizeOf42 rfl rfl sa_z (by omega) (by omega)) ?_)
  first | refine rw_off rfl ?_ | (refine rw_on rfl ?_; refine rw_v (op_fld Try.underlying42 rfl Try.sizeOf2 rfl rfl sa_z) ?_)
  first | refine rw_off rfl ?_ | (refine rw_on rfl ?_; refine rw_r (op_ldR Try.underlying2 rfl rfl (S.rd (i := 0) rfl) rfl) ?_)
  first | refine rw_off rfl ?_ | (refine rw_on rfl ?_; refine rw_v (op_b (b := true) rfl (beq_iff_eq.2 (by omega))) ?_)
  iterate 2 refine rw_v (op_pure rfl) ?_
  first | refine rw_end ?_ | (refine rw_nil ?_; show CW _ _ _ _ _ _) | refine rw_nil ?_
  repeat refine cw_seq ?_
  refine cw_ret ?_
  repeat first | refine ret_then ?_ | refine ret_inb ?_
  exact res1 rfl ⟨rfl, S.out⟩
end Go.Proofs.Ytiidmiebckkloaa
