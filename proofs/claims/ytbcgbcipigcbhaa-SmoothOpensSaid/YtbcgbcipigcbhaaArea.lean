/- area.Build, Sum, Mean: a table of sums. -/
import Derived.Test.YtbcgbcipigcbhaaRouteA
namespace Go.Proofs.Ytbcgbcipigcbhaa
open Go.RowKit
set_option linter.unusedVariables false
set_option linter.unusedSimpArgs false
set_option maxRecDepth 100000

theorem info_t22 : (Try.prog.info? 22).map (fun i => (i.zero, i.size, i.bytes)) = some (some (.slice none 0 0), 1, 24) := by kernel_rfl
/-! ### Rows of one length -/
def slV (k : Nat) (As : Nat → Option Addr) (n : Nat) (cs : Nat → Nat) : List Value := (List.range k).map fun y => .slice (As y) n (cs y)
theorem slV_len (k : Nat) (As : Nat → Option Addr) (n : Nat) (cs : Nat → Nat) : (slV k As n cs).length = k := by simp [slV]
theorem slV_get {k : Nat} {As : Nat → Option Addr} {n : Nat} {cs : Nat → Nat} {y : Nat} (h : y < k) : (slV k As n cs)[((y : Nat) : Int).toNat * 1]? = some (.slice (As y) n (cs y)) := by simp [slV, h]
def addO {α : Type} (f : Nat → α) (k : Nat) (x : α) : Nat → α := fun t => if t = k then x else f t
theorem addO_at {α : Type} {f : Nat → α} {k : Nat} {x : α} : addO f k x k = x := if_pos rfl
theorem addO_lt {α : Type} {f : Nat → α} {k t : Nat} {x : α} (h : t < k) : addO f k x t = f t := if_neg (by omega)
theorem slV_push {k : Nat} {As : Nat → Option Addr} {n : Nat} {cs : Nat → Nat} {A : Option Addr} {c : Nat} : slV k As n cs ++ [.slice A n c] = slV (k + 1) (addO As k A) n (addO cs k c) := by
  unfold slV
  rw [List.range_succ, List.map_append, List.map_singleton, addO_at, addO_at]
  congr 1
  exact List.map_congr_left fun t ht => by rw [addO_lt (List.mem_range.1 ht), addO_lt (List.mem_range.1 ht)]
def HA.rfam (el k : Nat) (As : Nat → Option Addr) (cs : Nat → Nat) (n : Nat) (xs : Nat → List Value) : HA :=
  ⟨fun g => ∃ t, t < k ∧ ownA (As t) g, fun w => ∀ t, t < k → Row w el 1 (As t) n (cs t) (xs t), fun _ _ h _ hR t ht => (hR t ht).keep (fun g hg => h g ⟨t, ht, hg⟩), fun _ hR _ ⟨t, ht, hg⟩ => (hR t ht).lt hg⟩
section
variable {F : Nat → Prop} {W w : World} {L : List HA} {el k n c i : Nat} {As : Nat → Option Addr} {cs : Nat → Nat} {xs : Nat → List Value} {A : Option Addr} {l : List Value}
theorem St.rfam0 (S : St F W w L) (As : Nat → Option Addr) (cs : Nat → Nat) (xs : Nat → List Value) : St F W w (.rfam el 0 As cs n xs :: L) :=
  S.push (Gr.refl w) (h := .rfam el 0 As cs n xs) (fun t ht => by omega) (fun g ⟨t, ht, _⟩ => by omega)
theorem St.rrow (S : St F W w L) (hi : getO L i = some (.rfam el k As cs n xs)) {t : Nat} (ht : t < k) : Row w el 1 (As t) n (cs t) (xs t) := S.ok hi t ht
theorem St.rrd (S : St F W w L) (hi : getO L i = some (.rfam el k As cs n xs)) {t : Nat} (ht : t < k) : Rd w (As t) (xs t) := (S.rrow hi ht).rd
theorem St.rfamPush (S : St F W w (.row el 1 A n c l :: .rfam el k As cs n xs :: L)) (hl : xs k = l) : St F W w (.rfam el (k + 1) (addO As k A) (addO cs k c) n xs :: L) := by
  have h1 := S.sep.1
  have h2 := S.sep.2.2.1
  have h3 := S.sep.2.2.2
  refine ⟨S.fr, ⟨fun t ht => ?_, fun g ⟨t, ht, e⟩ => ?_⟩, fun g ⟨t, ht, e⟩ h hh => ?_, h3.2⟩
  · by_cases e : t = k
    · subst e; rw [addO_at, addO_at, hl]; exact h1.1
    · rw [addO_lt (by omega), addO_lt (by omega)]; exact h2.1 t (by omega)
  · by_cases ek : t = k
    · subst ek; rw [addO_at] at e; exact h1.2 g e
    · rw [addO_lt (by omega)] at e; exact h2.2 g ⟨t, by omega, e⟩
  · by_cases ek : t = k
    · subst ek; rw [addO_at] at e; exact S.sep.2.1 g e h (List.mem_cons_of_mem _ hh)
    · rw [addO_lt (by omega)] at e; exact h3.1 g ⟨t, by omega, e⟩ h hh
end
theorem SepL.perm_ {X : Nat → Prop} {w : World} {L L' : List HA} (p : L.Perm L') : SepL X w L → SepL X w L' := by
  induction p with
  | nil => exact id
  | cons a p ih => exact fun h => ⟨h.1, fun g hg h' hh => h.2.1 g hg h' (p.mem_iff.2 hh), ih h.2.2⟩
  | swap a b l =>
    intro h
    refine ⟨h.2.2.1, fun g hg h' hh => ?_, h.1, fun g hg h' hh => h.2.1 g hg h' (List.mem_cons_of_mem _ hh), h.2.2.2.2⟩
    rcases List.mem_cons.1 hh with e | hh
    · subst e; exact fun ho => h.2.1 g ho a List.mem_cons_self hg
    · exact h.2.2.2.1 g hg h' hh
  | trans _ _ ih1 ih2 => exact fun h => ih2 (ih1 h)
theorem St.perm_ {F : Nat → Prop} {W w : World} {L L' : List HA} (S : St F W w L) (p : L.Perm L') : St F W w L' := ⟨S.fr, S.sep.perm_ p⟩
theorem perm_three {α : Type} (a b c : α) (L : List α) : (a :: b :: c :: L).Perm (c :: a :: b :: L) := (List.perm_append_comm (l₁ := [a, b]) (l₂ := [c])).append_right L
/-! ### Sums -/
def rowS (V : List Int) (o : Nat) : Nat → Int
  | 0 => 0
  | x + 1 => rowS V o x + V.getD (o + x) 0
def psum (V : List Int) (gw : Nat) : Nat → Nat → Int
  | 0, _ => 0
  | y + 1, x => rowS V (y * gw) x + psum V gw y x
theorem psum_col (V : List Int) (gw : Nat) : ∀ y, psum V gw y 0 = 0
  | 0 => rfl
  | y + 1 => by show rowS V (y * gw) 0 + psum V gw y 0 = 0; rw [psum_col V gw y]; rfl
theorem rowS_bnd {V : List Int} (hB : vB V) (o : Nat) : ∀ x : Nat, -(2147483648 * (x : Int)) ≤ rowS V o x ∧ rowS V o x ≤ 2147483648 * (x : Int)
  | 0 => by simp [rowS]
  | x + 1 => by
    have := rowS_bnd hB o x
    have := hB (o + x)
    show _ ≤ rowS V o x + V.getD (o + x) 0 ∧ rowS V o x + V.getD (o + x) 0 ≤ _
    omega
theorem psum_bnd {V : List Int} (hB : vB V) (gw : Nat) {x : Nat} (hx : x ≤ 1024) : ∀ y : Nat, -(2199023255552 * (y : Int)) ≤ psum V gw y x ∧ psum V gw y x ≤ 2199023255552 * (y : Int)
  | 0 => by simp [psum]
  | y + 1 => by
    have := psum_bnd hB gw hx y
    have := rowS_bnd hB (y * gw) x
    show _ ≤ rowS V (y * gw) x + psum V gw y x ∧ rowS V (y * gw) x + psum V gw y x ≤ _
    omega
/-- a table of sums in memory -/
def AreaAt (w : World) (tb gw gh : Nat) (V : List Int) : Prop := ∃ Ao co As cs, Blk w tb 210 [.int .i64 gw, .int .i64 gh, .slice Ao (gh + 1) co] ∧ Row w 22 1 Ao (gh + 1) co (slV (gh + 1) As (gw + 1) cs) ∧
  ∀ y, y < gh + 1 → Row w 2 1 (As y) (gw + 1) (cs y) (cellsQ (gw + 1) (psum V gw y))
theorem AreaAt.gr {w w' : World} {tb gw gh : Nat} {V : List Int} (h : AreaAt w tb gw gh V) (g : Gr w w') : AreaAt w' tb gw gh V := by
  obtain ⟨Ao, co, As, cs, h1, h2, h3⟩ := h
  exact ⟨Ao, co, As, cs, h1.gr g, h2.gr g, fun y hy => (h3 y hy).gr g⟩
theorem cellsQ_push {n : Nat} {o : Nat → Int} {v : Int} (h : v = o n) : cellsQ n o ++ [.int .i64 v] = cellsQ (n + 1) o := by
  subst h
  unfold cellsQ
  rw [List.range_succ, List.map_append]
  rfl
section
variable {W : World} {A : Option Addr} {p gw gh cap : Nat} {cc : Nat → Int} {bs : Nat → Nat} {Rs : Nat → Option Nat}
theorem abuildNil_E : Fn Try.prog 100 [.pointer none] W (RetG (.tuple #[.pointer none, .int .i64 1]) W) := by
  have S := St.start W
  refine Fn_enter Try.func100 rfl Try.results100 Try.ntmps100 (by kernel_rfl) (by kernel_rfl) ?_
  repeat refine cw_seq ?_
  refine cw_region ?_
  iterate 2 refine rw_v (op_pure rfl) ?_
  first | refine rw_end ?_ | (refine rw_nil ?_; show CW _ _ _ _ _ _) | refine rw_nil ?_
  repeat refine cw_seq ?_
  refine cw_region ?_
  refine rw_v (op_pure rfl) ?_
  refine rw_v (op_nilp Try.underlying28 rfl rfl) ?_
  first | refine rw_end ?_ | (refine rw_nil ?_; show CW _ _ _ _ _ _) | refine rw_nil ?_
  repeat refine cw_seq ?_
  refine cw_true rfl ?_
  repeat refine cw_seq ?_
  refine cw_region ?_
  iterate 2 refine rw_v (op_pure rfl) ?_
  first | refine rw_end ?_ | (refine rw_nil ?_; show CW _ _ _ _ _ _) | refine rw_nil ?_
  repeat refine cw_seq ?_
  refine cw_ret ?_
  repeat first | refine ret_then ?_ | refine ret_inb ?_
  exact res2 rfl rfl ⟨rfl, S.out⟩
set_option maxHeartbeats 4000000 in
theorem abuild_E (hB : vB (gridL gw gh cc)) (hG : GridAt W p gw gh cc A cap bs Rs) : Fn Try.prog 100 [.pointer (some ⟨p, 0, none⟩)] W
    (fun v w' => ∃ tb, v = .tuple #[.pointer (some ⟨tb, 0, none⟩), .int .i64 0] ∧ AreaAt w' tb gw gh (gridL gw gh cc) ∧ Gr W w') := by
  have hw := hG.sw
  have hh := hG.sh
  have hV := gridL_len gw gh cc
  have hval : ∀ (y : Nat) (w : World), y < gh → Gr W w → Fn Try.prog 43 [.pointer (some ⟨p, 0, none⟩), .agg #[.int .i64 0, .int .i64 y, .int .i64 (gw - 1 : Nat), .int .i64 y]] w (RetNew (fun v => .tuple #[v, .int .i64 0]) 2 1 gw (cellsQ gw fun x => (gridL gw gh cc).getD (y * gw + x) 0) w) := fun y w hy g => by
    have h1 := gvalues_E (W := w) 0 y (gw - 1) y (by omega) (by omega) (hG.gr g)
    have e2 : ints (rectV gw cc 0 y (gw - 1 + 1 - 0) (y + 1 - y)) = cellsQ gw fun x => (gridL gw gh cc).getD (y * gw + x) 0 := by
      have hyg : (y + 1) * gw ≤ gh * gw := Nat.mul_le_mul_right _ hy
      rw [Nat.succ_mul, Nat.mul_comm gh] at hyg
      rw [show gw - 1 + 1 - 0 = gw by omega, show y + 1 - y = 1 by omega, cellsQ_ints]
      congr 1
      simp only [rectV, rowV, List.range_one, List.flatMap_singleton]
      refine List.map_congr_left fun x hx => ?_
      have hx := List.mem_range.1 hx
      unfold gridL
      rw [List.getD_eq_getElem?_getD, List.getElem?_map, List.getElem?_range (by omega)]
      simp
    rw [e2, show (y + 1 - y) * (gw - 1 + 1 - 0) = gw by rw [show y + 1 - y = 1 by omega]; omega] at h1
    exact h1
  generalize gridL gw gh cc = V at *
  have e1 : ((gw : Int) - 1) = ((gw - 1 : Nat) : Int) := by omega
  have e2 : ((gw : Int) + 1) = ((gw + 1 : Nat) : Int) := by push_cast; rfl
  have S := St.start W
  refine Fn_enter Try.func100 rfl Try.results100 Try.ntmps100 (by kernel_rfl) (by kernel_rfl) ?_
  repeat refine cw_seq ?_
  refine cw_region ?_
  iterate 2 refine rw_v (op_pure rfl) ?_
  first | refine rw_end ?_ | (refine rw_nil ?_; show CW _ _ _ _ _ _) | refine rw_nil ?_
  repeat refine cw_seq ?_
  refine cw_region ?_
  refine rw_v (op_pure rfl) ?_
  refine rw_v (op_nilp Try.underlying28 rfl rfl) ?_
  first | refine rw_end ?_ | (refine rw_nil ?_; show CW _ _ _ _ _ _) | refine rw_nil ?_
  repeat refine cw_seq ?_
  refine cw_false rfl ?_
  repeat refine cw_seq ?_
  refine cw_skip ?_
  try show CW _ _ _ _ _ _
  repeat refine cw_seq ?_
  refine cw_region ?_
  refine rw_v (op_pure rfl) ?_
  refine rw_call rfl (gsize_E p gw gh _ W (hG.top.gr S.out)) ?_
  rintro _ w1_ ⟨rfl, g1_⟩
  have S := S.gr g1_
  iterate 5 refine rw_v (op_pure rfl) ?_
  first | refine rw_end ?_ | (refine rw_nil ?_; show CW _ _ _ _ _ _) | refine rw_nil ?_
  repeat refine cw_seq ?_
  refine cw_region ?_
  iterate 3 refine rw_v (op_pure rfl) ?_
  refine rw_v (op_rng rfl (by omega)) ?_
  rw [e2]
  refine rw_makeS1 Try.underlying22 info_t2 rfl rfl rfl (n := gw + 1) (c := gw + 1) (by omega) (by omega) (by omega) (by omega) S ?_
  intro A_r0 w3_ g3_ S sa_r0
  refine rw_buildS Try.underlying208 Try.sizeOf22 Try.zeroValue22 rfl rfl rfl rfl rfl rfl S ?_
  intro A_out w5_ g5_ S sa_out
  refine rw_v (op_build (pl := [(0, 1), (1, 1), (2, 1)]) Try.underlying210 Try.zeroValue210 (fun w => by kernel_rfl) rfl rfl) ?_
  refine rw_newB (op_box rfl) S ?_
  intro b_tb w7_ g7_ S
  refine rw_v (op_pure rfl) ?_
  first | refine rw_end ?_ | (refine rw_nil ?_; show CW _ _ _ _ _ _) | refine rw_nil ?_
  repeat refine cw_seq ?_
  refine cw_region ?_
  iterate 2 refine rw_v (op_pure rfl) ?_
  first | refine rw_end ?_ | (refine rw_nil ?_; show CW _ _ _ _ _ _) | refine rw_nil ?_
  repeat refine cw_seq ?_
  refine cw_block ?_
  repeat refine cw_seq ?_
  have hr0 : List.replicate (gw + 1) (Value.int .i64 0) = cellsQ (gw + 1) (psum V gw 0) := by
    unfold cellsQ psum
    rw [List.map_const', List.length_range]
  rw [hr0] at S
  have S := ((S.perm_ (perm_three _ _ _ _)).rfam0 (el := 2) (n := gw + 1) (fun _ => none) (fun _ => 0) (fun y => cellsQ (gw + 1) (psum V gw y))).swap.rfamPush rfl
  have h0 : [Value.slice A_r0 (gw + 1) (gw + 1)] = slV (0 + 1) (addO (fun _ => none) 0 A_r0) (gw + 1) (addO (fun _ => 0) 0 (gw + 1)) := by
    have := slV_push (k := 0) (As := fun _ => none) (n := gw + 1) (cs := fun _ => 0) (A := A_r0) (c := gw + 1)
    exact this
  rw [h0] at S
  generalize addO (fun _ => none) 0 A_r0 = As0 at *
  generalize addO (fun _ => 0) 0 (gw + 1) = cs0 at *
  refine cw_loop (fun m e w => ∃ (y : Nat) (As : Nat → Option Addr) (cs : Nat → Nat) (A_out : Option Addr) (c_out : Nat), y + m = gh ∧ SL e [(0, .pointer (some ⟨p, 0, none⟩)), (4, .int .i64 gw), (6, .pointer (some ⟨b_tb, 0, none⟩)), (29, .int .i64 gh), (30, .int .i64 y)] ∧
    St No W w [.rfam 2 (y + 1) As cs (gw + 1) (fun y => cellsQ (gw + 1) (psum V gw y)), .blk b_tb 210 [.int .i64 gw, .int .i64 gh, .slice A_out (y + 1) c_out], .row 22 1 A_out (y + 1) c_out (slV (y + 1) As (gw + 1) cs)]) gh
    ⟨0, As0, cs0, A_out, 1, by omega, ⟨rfl, rfl, rfl, rfl, rfl, trivial⟩, S⟩ ?_
  clear S hr0 h0
  rintro m e w ⟨y, As, cs, A_out, c_out, hym, hsl, S⟩
  rw [hsl.fold]
  by_cases hy : y < gh
  · have hyk : y < y + 1 := Nat.lt_succ_self y
    have sa_out : SomeA A_out := (S.row (i := 2) rfl).someA (by omega)
    have sa_ry : SomeA (As y) := (S.rrow (i := 0) rfl hyk).someA (by omega)
    have hgo := slV_get (As := As) (n := gw + 1) (cs := cs) hyk
    have hn1 : [Value.int .i64 0] = cellsQ 1 (psum V gw (y + 1)) := by
      have : psum V gw (y + 1) 0 = 0 := psum_col V gw (y + 1)
      unfold cellsQ
      simp [this]
    repeat refine cw_seq ?_
    refine cw_region ?_
    refine rw_v (op_b (b := true) rfl (decide_eq_true (by omega))) ?_
    first | refine rw_end ?_ | (refine rw_nil ?_; show CW _ _ _ _ _ _) | refine rw_nil ?_
    repeat refine cw_seq ?_
    refine cw_true rfl ?_
    repeat refine cw_seq ?_
    refine cw_skip ?_
    try show CW _ _ _ _ _ _
    repeat refine cw_seq ?_
    refine cw_block ?_
    repeat refine cw_seq ?_
    refine cw_region ?_
    iterate 2 refine rw_v (op_pure rfl) ?_
    first | refine rw_end ?_ | (refine rw_nil ?_; show CW _ _ _ _ _ _) | refine rw_nil ?_
    repeat refine cw_seq ?_
    refine cw_region ?_
    iterate 3 refine rw_v (op_pure rfl) ?_
    refine rw_v (op_rng rfl (by omega)) ?_
    rw [e1]
    refine rw_v (op_pure rfl) ?_
    refine rw_v (op_build (pl := [(0, 1), (1, 1), (2, 1), (3, 1)]) Try.underlying75 Try.zeroValue75 (fun w => by kernel_rfl) rfl rfl) ?_
    refine rw_call rfl (hval y w hy S.out) ?_
    rintro _ w8_ ⟨A_l, c_l, rfl, hR_l, hf_l, g8_⟩
    have S := S.pushRow hR_l hf_l g8_
    iterate 5 refine rw_v (op_pure rfl) ?_
    first | refine rw_end ?_ | (refine rw_nil ?_; show CW _ _ _ _ _ _) | refine rw_nil ?_
    repeat refine cw_seq ?_
    refine cw_region ?_
    refine rw_v (op_pure rfl) ?_
    refine rw_v (op_rng rfl (by omega)) ?_
    rw [e2]
    refine rw_makeS1 Try.underlying22 info_t2 rfl rfl rfl (n := 1) (c := gw + 1) (by omega) (by omega) (by omega) (by omega) S ?_
    intro A_nr w10_ g10_ S sa_nr
    refine rw_v (op_pure rfl) ?_
    first | refine rw_end ?_ | (refine rw_nil ?_; show CW _ _ _ _ _ _) | refine rw_nil ?_
    repeat refine cw_seq ?_
    refine cw_region ?_
    refine rw_v (op_pure rfl) ?_
    first | refine rw_end ?_ | (refine rw_nil ?_; show CW _ _ _ _ _ _) | refine rw_nil ?_
    repeat refine cw_seq ?_
    refine cw_region ?_
    refine rw_v (op_pure rfl) ?_
    refine rw_v (op_len Try.underlying22 rfl) ?_
    refine rw_v (op_pure rfl) ?_
    first | refine rw_end ?_ | (refine rw_nil ?_; show CW _ _ _ _ _ _) | refine rw_nil ?_
    repeat refine cw_seq ?_
    refine cw_block ?_
    repeat refine cw_seq ?_
    have hn2 : List.replicate 1 (Value.int .i64 0) = cellsQ 1 (psum V gw (y + 1)) := hn1
    rw [hn2] at S
    have sa_l : SomeA A_l := (S.row (i := 1) rfl).someA (by omega)
    refine cw_loop (fun m2 e w => ∃ (x : Nat) (A_nr : Option Addr) (c_nr : Nat), x + m2 = gw ∧ SL e [(0, .pointer (some ⟨p, 0, none⟩)), (4, .int .i64 gw), (6, .pointer (some ⟨b_tb, 0, none⟩)), (7, .int .i64 y), (10, .slice A_nr (x + 1) c_nr), (11, .int .i64 (rowS V (y * gw) x)), (29, .int .i64 gh), (30, .int .i64 y), (46, .slice A_l gw c_l), (47, .int .i64 gw), (48, .int .i64 x)] ∧
      St No W w [.row 2 1 A_nr (x + 1) c_nr (cellsQ (x + 1) (psum V gw (y + 1))), .row 2 1 A_l gw c_l (cellsQ gw fun x => V.getD (y * gw + x) 0), .rfam 2 (y + 1) As cs (gw + 1) (fun y => cellsQ (gw + 1) (psum V gw y)), .blk b_tb 210 [.int .i64 gw, .int .i64 gh, .slice A_out (y + 1) c_out], .row 22 1 A_out (y + 1) c_out (slV (y + 1) As (gw + 1) cs)]) gw
      ⟨0, A_nr, gw + 1, by omega, ⟨rfl, rfl, rfl, rfl, rfl, rfl, rfl, rfl, rfl, rfl, rfl, trivial⟩, S⟩ ?_
    clear S hn1 hn2
    rintro m2 e2_ w2 ⟨x, A_nr, c_nr, hxm, hsl2, S⟩
    rw [hsl2.fold]
    by_cases hx : x < gw
    · have hgl := cellsQ_get (o := fun x => V.getD (y * gw + x) 0) hx
      have hgr := cellsQ_get (o := psum V gw y) (show x + 1 < gw + 1 by omega)
      have ex : (x : Int) + 1 = ((x + 1 : Nat) : Int) := by push_cast; rfl
      have hb1 := rowS_bnd hB (y * gw) x
      have hb2 := psum_bnd hB gw (x := x + 1) (by omega) y
      have hb3 := hB (y * gw + x)
      have hval2 : rowS V (y * gw) x + V.getD (y * gw + x) 0 + psum V gw y (x + 1) = psum V gw (y + 1) (x + 1) := rfl
      have hrs : rowS V (y * gw) x + V.getD (y * gw + x) 0 = rowS V (y * gw) (x + 1) := rfl
      generalize psum V gw y (x + 1) = pv at *
      generalize rowS V (y * gw) x = rv at *
      generalize V.getD (y * gw + x) 0 = vv at *
      repeat refine cw_seq ?_
      refine cw_region ?_
      refine rw_v (op_b (b := true) rfl (decide_eq_true (by omega))) ?_
      first | refine rw_end ?_ | (refine rw_nil ?_; show CW _ _ _ _ _ _) | refine rw_nil ?_
      repeat refine cw_seq ?_
      refine cw_true rfl ?_
      repeat refine cw_seq ?_
      refine cw_skip ?_
      try show CW _ _ _ _ _ _
      repeat refine cw_seq ?_
      refine cw_block ?_
      repeat refine cw_seq ?_
      refine cw_region ?_
      refine rw_v (op_pure rfl) ?_
      refine rw_v (op_idx Try.underlying22 Try.sizeOf2 rfl rfl sa_l (by omega) (by omega)) ?_
      refine rw_r (op_ldR Try.underlying2 rfl rfl (S.rd (i := 1) rfl) hgl) ?_
      iterate 2 refine rw_v (op_pure rfl) ?_
      first | refine rw_end ?_ | (refine rw_nil ?_; show CW _ _ _ _ _ _) | refine rw_nil ?_
      repeat refine cw_seq ?_
      refine cw_region ?_
      iterate 2 refine rw_v (op_pure rfl) ?_
      refine rw_v (op_rng rfl (by omega)) ?_
      refine rw_v (op_pure rfl) ?_
      first | refine rw_end ?_ | (refine rw_nil ?_; show CW _ _ _ _ _ _) | refine rw_nil ?_
      repeat refine cw_seq ?_
      refine cw_region ?_
      iterate 4 refine rw_v (op_pure rfl) ?_
      refine rw_v (op_fieldAddr Try.underlying210 rfl Try.sizeOf208 rfl rfl) ?_
      refine rw_r (op_loadB Try.underlying208 rfl rfl (S.blk (i := 3) rfl) rfl) ?_
      refine rw_v (op_pure rfl) ?_
      refine rw_v (op_idx Try.underlying208 Try.sizeOf22 rfl rfl sa_out (by omega) (by omega)) ?_
      refine rw_r (op_ldR Try.underlying22 rfl rfl (S.rd (i := 4) rfl) hgo) ?_
      refine rw_v (op_pure rfl) ?_
      refine rw_v (op_rng rfl (by omega)) ?_
      rw [ex]
      refine rw_v (op_idx Try.underlying22 Try.sizeOf2 rfl rfl sa_ry (by omega) (by omega)) ?_
      refine rw_r (op_ldR Try.underlying2 rfl rfl ((S.rrd (i := 2) rfl hyk)) hgr) ?_
      refine rw_v (op_rng rfl (by omega)) ?_
      refine rw_buildS Try.underlying22 Try.sizeOf2 Try.zeroValue2 rfl rfl rfl rfl rfl rfl S ?_
      intro A_lit w12_ g12_ S sa_lit
      refine rw_appS (i := 1) S rfl (fun h => rfl) Try.underlying22 info_t2 rfl rfl rfl rfl (by simp) (by omega) (S.rd (i := 0) rfl) rfl (by omega) ?_
      intro A_nr2 c_nr2 w13_ S sa_nr
      refine rw_v (op_pure rfl) ?_
      first | refine rw_end ?_ | (refine rw_nil ?_; show CW _ _ _ _ _ _) | refine rw_nil ?_
      repeat refine cw_seq ?_
      refine cw_region ?_
      refine rw_v (op_rng rfl (by omega)) ?_
      refine rw_v (op_pure rfl) ?_
      first | refine rw_end ?_ | (refine rw_nil ?_; show CW _ _ _ _ _ _) | refine rw_nil ?_
      have S := S.drop 1
      rw [cellsQ_push hval2] at S
      exact ⟨m2 - 1, by omega, x + 1, A_nr2, c_nr2, by omega, ⟨rfl, rfl, rfl, rfl, rfl, ie hrs, rfl, rfl, rfl, rfl, ie (by omega), trivial⟩, S⟩
    · obtain rfl : x = gw := by omega
      repeat refine cw_seq ?_
      refine cw_region ?_
      refine rw_v (op_b (b := false) rfl (decide_eq_false (by omega))) ?_
      first | refine rw_end ?_ | (refine rw_nil ?_; show CW _ _ _ _ _ _) | refine rw_nil ?_
      repeat refine cw_seq ?_
      refine cw_false rfl ?_
      repeat refine cw_seq ?_
      refine cw_exit ?_
      repeat first | refine exit_then ?_ | refine exit_inb ?_
      show CW _ _ _ _ _ _
      repeat refine cw_seq ?_
      refine cw_region ?_
      iterate 3 refine rw_v (op_pure rfl) ?_
      refine rw_v (op_fieldAddr Try.underlying210 rfl Try.sizeOf208 rfl rfl) ?_
      refine rw_r (op_loadB Try.underlying208 rfl rfl (S.blk (i := 3) rfl) rfl) ?_
      refine rw_v (op_pure rfl) ?_
      refine rw_buildS Try.underlying208 Try.sizeOf22 Try.zeroValue22 rfl rfl rfl rfl rfl rfl S ?_
      intro A_lit w15_ g15_ S sa_lit
      refine rw_appS (i := 5) S rfl (fun h => rfl) Try.underlying208 info_t22 rfl rfl rfl rfl (by simp) (by omega) (S.rd (i := 0) rfl) rfl (by omega) ?_
      intro A_out2 c_out2 w16_ S sa_out
      refine rw_v (op_pure rfl) ?_
      refine rw_v (op_fieldAddr Try.underlying210 rfl Try.sizeOf208 rfl rfl) ?_
      refine rw_storeS (i := 4) S rfl (Try.sizeOf208 _) rfl rfl rfl rfl rfl rfl ?_
      intro w17_ S
      first | refine rw_end ?_ | (refine rw_nil ?_; show CW _ _ _ _ _ _) | refine rw_nil ?_
      repeat refine cw_seq ?_
      refine cw_region ?_
      refine rw_v (op_rng rfl (by omega)) ?_
      refine rw_v (op_pure rfl) ?_
      first | refine rw_end ?_ | (refine rw_nil ?_; show CW _ _ _ _ _ _) | refine rw_nil ?_
      have S := S.sub (.cons _ (.cons_cons _ (.cons _ (.cons_cons _ (.cons_cons _ (.cons_cons _ (.slnil)))))))
      have S := S.rfamPush rfl
      rw [slV_push] at S
      exact ⟨m - 1, by omega, y + 1, _, _, A_out2, c_out2, by omega, ⟨rfl, rfl, rfl, rfl, ie (by omega), trivial⟩, S⟩
  · obtain rfl : y = gh := by omega
    repeat refine cw_seq ?_
    refine cw_region ?_
    refine rw_v (op_b (b := false) rfl (decide_eq_false (by omega))) ?_
    first | refine rw_end ?_ | (refine rw_nil ?_; show CW _ _ _ _ _ _) | refine rw_nil ?_
    repeat refine cw_seq ?_
    refine cw_false rfl ?_
    repeat refine cw_seq ?_
    refine cw_exit ?_
    repeat first | refine exit_then ?_ | refine exit_inb ?_
    show CW _ _ _ _ _ _
    repeat refine cw_seq ?_
    refine cw_region ?_
    iterate 3 refine rw_v (op_pure rfl) ?_
    first | refine rw_end ?_ | (refine rw_nil ?_; show CW _ _ _ _ _ _) | refine rw_nil ?_
    repeat refine cw_seq ?_
    refine cw_ret ?_
    repeat first | refine ret_then ?_ | refine ret_inb ?_
    exact res2 rfl rfl ⟨_, rfl, ⟨_, _, _, _, S.blk (i := 1) rfl, S.row (i := 2) rfl, fun y hy => S.rrow (i := 0) rfl hy⟩, S.out⟩
end
end Go.Proofs.Ytbcgbcipigcbhaa
