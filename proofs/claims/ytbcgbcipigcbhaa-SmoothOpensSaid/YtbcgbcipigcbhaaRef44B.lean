/- hachureref09.Values, hachureref08.Range, hachureref44.window, Range: contracts. -/
import Derived.Test.YtbcgbcipigcbhaaRef44A
import Derived.Test.YtbcgbcipigcbhaaSmoothD
namespace Go.Proofs.Ytbcgbcipigcbhaa
open Go.RowKit
set_option linter.unusedVariables false
set_option linter.unusedSimpArgs false
set_option maxRecDepth 100000

/-- the values of a box, up to a place -/
structure IsVals (V : List Int) (gw x0 y0 x1 y1 y x : Nat) (L : List Int) : Prop where
  of : ∀ v ∈ L, ∃ a b, boxP x0 y0 x1 y1 a b ∧ cellV V gw a b = v
  all : ∀ a b, boxP x0 y0 x1 y1 a b → (b < y ∨ (b = y ∧ a < x)) → cellV V gw a b ∈ L
theorem IsVals.push {V : List Int} {gw x0 y0 x1 y1 y x : Nat} {L : List Int} (h : IsVals V gw x0 y0 x1 y1 y x L) (hb : boxP x0 y0 x1 y1 x y) : IsVals V gw x0 y0 x1 y1 y (x + 1) (L ++ [cellV V gw x y]) := by
  refine ⟨fun v hv => ?_, fun a b hab hlt => ?_⟩
  · rcases List.mem_append.1 hv with hv | hv
    · exact h.of v hv
    · exact ⟨x, y, hb, (List.mem_singleton.1 hv).symm⟩
  · by_cases e : b = y ∧ a = x
    · obtain ⟨rfl, rfl⟩ := e
      exact List.mem_append_right _ (List.mem_singleton.2 rfl)
    · exact List.mem_append_left _ (h.all a b hab (by omega))
/-- the range of a list -/
def RgL (L : List Int) (lo hi : Int) : Prop := (∀ v ∈ L, lo ≤ v ∧ v ≤ hi) ∧ lo ∈ L ∧ hi ∈ L
theorem RgL.push {L : List Int} {lo hi lo' hi' v : Int} (h : RgL L lo hi) (e1 : lo' = min lo v) (e2 : hi' = max hi v) : RgL (L ++ [v]) lo' hi' := by
  obtain ⟨h1, h2, h3⟩ := h
  refine ⟨fun u hu => ?_, ?_, ?_⟩
  · rcases List.mem_append.1 hu with hu | hu
    · have := h1 u hu; omega
    · rw [List.mem_singleton.1 hu]; omega
  · by_cases e : lo ≤ v
    · rw [e1, show min lo v = lo by omega]; exact List.mem_append_left _ h2
    · rw [e1, show min lo v = v by omega]; exact List.mem_append_right _ (List.mem_singleton.2 rfl)
  · by_cases e : v ≤ hi
    · rw [e2, show max hi v = hi by omega]; exact List.mem_append_left _ h3
    · rw [e2, show max hi v = v by omega]; exact List.mem_append_right _ (List.mem_singleton.2 rfl)
theorem rg_vals {V : List Int} {gw x0 y0 x1 y1 : Nat} {L : List Int} {lo hi : Int} (h : IsVals V gw x0 y0 x1 y1 (y1 + 1) x0 L) (hr : RgL L lo hi) : rgB V gw x0 y0 x1 y1 = ⟨lo, hi⟩ := by
  obtain ⟨h1, h2, h3⟩ := hr
  obtain ⟨a, b, hab, e⟩ := h.of lo h2
  obtain ⟨a', b', hab', e'⟩ := h.of hi h3
  exact rgB_eq ⟨fun x y hxy => h1 _ (h.all x y hxy (.inl (by unfold boxP at hxy; omega))), ⟨a, b, hab, e⟩, a', b', hab', e'⟩
/-- a region that draws and holds one call that tells a fresh row -/
def VC (W : World) (L : List HA) (Q : List Int → Prop) (σ : List Value) (wq : World) : Prop := match σ with
  | [] => St No W wq L
  | [v] => ∃ l A c, v = .tuple #[.slice A l.length c, .int .i64 0] ∧ Q l ∧ St No W wq (.row 2 1 A l.length c (ints l) :: L)
  | _ => False
section
variable {W w w' : World} {L : List HA} {Q : List Int → Prop} {σ : List Value}
theorem VC.gr (h : VC W L Q σ w) (g : Gr w w') : VC W L Q σ w' := by
  match σ, h with
  | [], h => exact St.gr (show St No W w L from h) g
  | [v], ⟨l, A, c, e, q, S⟩ => exact ⟨l, A, c, e, q, S.gr g⟩
theorem VC.blk (h : VC W L Q σ w) {i b t : Nat} {l : List Value} (hi : getO L i = some (.blk b t l)) : Blk w b t l := by
  match σ, h with
  | [], h => exact St.blk (show St No W w L from h) hi
  | [v], ⟨_, _, _, e, q, S⟩ => exact S.blk (i := i + 1) hi
theorem VC.out (h : VC W L Q [] w) : Gr W w := St.out (show St No W w L from h)
theorem VC.step (h : VC W L Q [] w) (v : Value) (w' : World) (hv : ∃ L : List Int, Q L ∧ RetNew (fun s => .tuple #[s, .int .i64 0]) 2 1 L.length (ints L) w v w') : VC W L Q [v] w' := by
  obtain ⟨l, q, A, c, rfl, hR, hF, g⟩ := hv
  exact ⟨l, A, c, rfl, q, St.pushRow (show St No W w L from h) hR hF g⟩
end
theorem tup_inj {A A2 : Option Addr} {n n2 c c2 : Nat} {z : Value} (h : Value.tuple #[.slice A n c, z] = .tuple #[.slice A2 n2 c2, z]) : A = A2 ∧ n = n2 ∧ c = c2 := by simpa using h
section
variable {W : World} {A : Option Addr} {gw gh cap : Nat} {V : List Int}
set_option maxHeartbeats 2000000 in
theorem values9_E (x0 y0 x1 y1 : Nat) (hw : 1 ≤ gw ∧ gw ≤ 1024) (hh : 1 ≤ gh ∧ gh ≤ 1024) (hx : x0 ≤ x1 ∧ x1 < gw) (hy : y0 ≤ y1 ∧ y1 < gh) (hV : V.length = gw * gh) (hA : Rd W A (ints V)) :
    Fn Try.prog 97 [modV gw gh A (gw * gh) cap, .agg #[.int .i64 x0, .int .i64 y0, .int .i64 x1, .int .i64 y1]] W
    (fun v w' => ∃ L : List Int, (IsVals V gw x0 y0 x1 y1 (y1 + 1) x0 L ∧ L.length ≤ 1048576 ∧ L ≠ []) ∧ RetNew (fun s => .tuple #[s, .int .i64 0]) 2 1 L.length (ints L) W v w') := by
  have hwi := fun w => within44_E x0 y0 x1 y1 gw gh hw hh hx hy w
  have hm : 1 ≤ gw * gh ∧ gw * gh ≤ 1024 * 1024 := ⟨Nat.mul_le_mul hw.1 hh.1, Nat.mul_le_mul hw.2 hh.2⟩
  obtain ⟨nx, hnx⟩ : ∃ nx, nx = x1 + 1 - x0 := ⟨_, rfl⟩
  have sa_A : SomeA A := hA.someA (by rw [ints_len]; omega)
  unfold modV
  have S := St.start W
  refine Fn_enter Try.func97 rfl Try.results97 Try.ntmps97 (by kernel_rfl) (by kernel_rfl) ?_
  repeat refine cw_seq ?_
  refine cw_region ?_
  refine rw_newB (op_box rfl) S ?_
  intro b_md w2_ g2_ S
  refine rw_newB (op_box rfl) S ?_
  intro b_r w4_ g4_ S
  iterate 2 refine rw_v (op_pure rfl) ?_
  first | refine rw_end ?_ | (refine rw_nil ?_; show CW _ _ _ _ _ _) | refine rw_nil ?_
  repeat refine cw_seq ?_
  refine cw_region ?_
  refine rw_r (op_loadAB Try.underlying75 rfl (Try.sizeOf75 _) rfl (S.blk (i := 0) rfl) rfl rfl) ?_
  refine rw_v (op_fieldAddr Try.underlying25 rfl Try.sizeOf2 rfl rfl) ?_
  refine rw_r (op_loadB Try.underlying2 rfl rfl (S.blk (i := 1) rfl) rfl) ?_
  refine rw_v (op_fieldAddr Try.underlying25 rfl Try.sizeOf2 rfl rfl) ?_
  refine rw_r (op_loadB Try.underlying2 rfl rfl (S.blk (i := 1) rfl) rfl) ?_
  refine rw_call rfl (hwi w4_) ?_
  rintro _ w5_ ⟨rfl, g5_⟩
  have S := S.gr g5_
  refine rw_v (op_pure rfl) ?_
  first | refine rw_end ?_ | (refine rw_nil ?_; show CW _ _ _ _ _ _) | refine rw_nil ?_
  repeat refine cw_seq ?_
  refine cw_region ?_
  refine rw_v (op_pure rfl) ?_
  refine rw_v (op_b (b := false) rfl (bne_eq_false_iff_eq.2 (by omega))) ?_
  first | refine rw_end ?_ | (refine rw_nil ?_; show CW _ _ _ _ _ _) | refine rw_nil ?_
  repeat refine cw_seq ?_
  refine cw_false rfl ?_
  repeat refine cw_seq ?_
  refine cw_skip ?_
  try show CW _ _ _ _ _ _
  repeat refine cw_seq ?_
  refine cw_region ?_
  refine rw_buildS0 Try.underlying22 Try.sizeOf2 S ?_
  intro A_l w7_ g7_ S sa_l
  refine rw_v (op_pure rfl) ?_
  first | refine rw_end ?_ | (refine rw_nil ?_; show CW _ _ _ _ _ _) | refine rw_nil ?_
  repeat refine cw_seq ?_
  refine cw_region ?_
  refine rw_v (op_fieldAddr Try.underlying75 rfl Try.sizeOf2 rfl rfl) ?_
  refine rw_r (op_loadB Try.underlying2 rfl rfl (S.blk (i := 1) rfl) rfl) ?_
  refine rw_v (op_pure rfl) ?_
  first | refine rw_end ?_ | (refine rw_nil ?_; show CW _ _ _ _ _ _) | refine rw_nil ?_
  repeat refine cw_seq ?_
  refine cw_block ?_
  repeat refine cw_seq ?_
  refine cw_loop (fun m e w => ∃ (y : Nat) (L : List Int) (A_l : Option Addr) (c_l : Nat), y + m = y1 + 1 ∧ y0 ≤ y ∧ L.length = (y - y0) * nx ∧ IsVals V gw x0 y0 x1 y1 y x0 L ∧ SL e [(2, .pointer (some ⟨b_md, 0, none⟩)), (3, .pointer (some ⟨b_r, 0, none⟩)), (7, .slice A_l L.length c_l), (8, .int .i64 y)] ∧
    St No W w [.row 2 1 A_l L.length c_l (ints L), .blk b_r 75 [.int .i64 x0, .int .i64 y0, .int .i64 x1, .int .i64 y1], .blk b_md 25 [.int .i64 gw, .int .i64 gh, .slice A (gw * gh) cap]]) (y1 + 1 - y0)
    ⟨y0, [], A_l, _, by omega, Nat.le_refl _, by simp, ⟨fun v hv => (nomatch hv), fun a b h hlt => by unfold boxP at h; omega⟩, ⟨rfl, rfl, rfl, rfl, trivial⟩, S⟩ ?_
  clear S
  rintro m e w ⟨y, L, A_l, c_l, hym, hy0, hLl, hL, hsl, S⟩
  rw [hsl.fold]
  by_cases hyn : y ≤ y1
  · have hq : (y - y0 + 1) * nx ≤ 1024 * 1024 := Nat.mul_le_mul (by omega) (by omega)
    rw [Nat.succ_mul, ← hLl] at hq
    obtain ⟨q, hqe⟩ : ∃ q, q = L.length := ⟨_, rfl⟩
    repeat refine cw_seq ?_
    refine cw_region ?_
    refine rw_v (op_pure rfl) ?_
    refine rw_v (op_fieldAddr Try.underlying75 rfl Try.sizeOf2 rfl rfl) ?_
    refine rw_r (op_loadB Try.underlying2 rfl rfl (S.blk (i := 1) rfl) rfl) ?_
    refine rw_v (op_b (b := true) rfl (decide_eq_true (by omega))) ?_
    first | refine rw_end ?_ | (refine rw_nil ?_; show CW _ _ _ _ _ _) | refine rw_nil ?_
    repeat refine cw_seq ?_
    refine cw_true rfl ?_
    repeat refine cw_seq ?_
    refine cw_skip ?_
    try show CW _ _ _ _ _ _
    repeat refine cw_seq ?_
    refine cw_block ?_
    repeat refine cw_seq ?_
    refine cw_region ?_
    refine rw_v (op_fieldAddr Try.underlying75 rfl Try.sizeOf2 rfl rfl) ?_
    refine rw_r (op_loadB Try.underlying2 rfl rfl (S.blk (i := 1) rfl) rfl) ?_
    refine rw_v (op_pure rfl) ?_
    first | refine rw_end ?_ | (refine rw_nil ?_; show CW _ _ _ _ _ _) | refine rw_nil ?_
    repeat refine cw_seq ?_
    refine cw_block ?_
    repeat refine cw_seq ?_
    refine cw_loop (fun m e w => ∃ (x : Nat) (L : List Int) (A_l : Option Addr) (c_l : Nat), x + m = x1 + 1 ∧ x0 ≤ x ∧ L.length = q + (x - x0) ∧ IsVals V gw x0 y0 x1 y1 y x L ∧ SL e [(2, .pointer (some ⟨b_md, 0, none⟩)), (3, .pointer (some ⟨b_r, 0, none⟩)), (7, .slice A_l L.length c_l), (8, .int .i64 y), (9, .int .i64 x)] ∧
      St No W w [.row 2 1 A_l L.length c_l (ints L), .blk b_r 75 [.int .i64 x0, .int .i64 y0, .int .i64 x1, .int .i64 y1], .blk b_md 25 [.int .i64 gw, .int .i64 gh, .slice A (gw * gh) cap]]) (x1 + 1 - x0)
      ⟨x0, L, A_l, c_l, by omega, Nat.le_refl _, by omega, hL, ⟨rfl, rfl, rfl, rfl, rfl, trivial⟩, S⟩ ?_
    rw [← hqe] at hq
    rw [← hqe] at hLl
    clear S hL
    rintro m2 e w ⟨x, L, A_l, c_l, hxm, hx0, hLx, hL, hsl, S⟩
    rw [hsl.fold]
    by_cases hxn : x ≤ x1
    · have hlt : y * gw + x < gw * gh := by
        have := Nat.mul_le_mul_right gw (show y + 1 ≤ gh by omega)
        rw [Nat.succ_mul, Nat.mul_comm gh] at this
        omega
      have e1 : (y : Int) * (gw : Int) = ((y * gw : Nat) : Int) := by push_cast; rfl
      have hcv : cellV V gw x y = V.getD (y * gw + x) 0 := rfl
      have hpush := hL.push (by unfold boxP; omega)
      rw [hcv] at hpush
      generalize y * gw = yg at *
      have hget : (ints V)[((yg : Int) + (x : Int)).toNat * 1]? = some (.int .i64 (V.getD (yg + x) 0)) := by rw [Nat.mul_one, show ((yg : Int) + (x : Int)).toNat = yg + x by omega]; exact ints_get (getD_at (by omega))
      repeat refine cw_seq ?_
      refine cw_region ?_
      refine rw_v (op_pure rfl) ?_
      refine rw_v (op_fieldAddr Try.underlying75 rfl Try.sizeOf2 rfl rfl) ?_
      refine rw_r (op_loadB Try.underlying2 rfl rfl (S.blk (i := 1) rfl) rfl) ?_
      refine rw_v (op_b (b := true) rfl (decide_eq_true (by omega))) ?_
      first | refine rw_end ?_ | (refine rw_nil ?_; show CW _ _ _ _ _ _) | refine rw_nil ?_
      repeat refine cw_seq ?_
      refine cw_true rfl ?_
      repeat refine cw_seq ?_
      refine cw_skip ?_
      try show CW _ _ _ _ _ _
      repeat refine cw_seq ?_
      refine cw_block ?_
      repeat refine cw_seq ?_
      refine cw_region ?_
      refine rw_v (op_pure rfl) ?_
      refine rw_v (op_fieldAddr Try.underlying25 rfl Try.sizeOf22 rfl rfl) ?_
      refine rw_r (op_loadB Try.underlying22 rfl rfl (S.blk (i := 2) rfl) rfl) ?_
      refine rw_v (op_pure rfl) ?_
      refine rw_v (op_fieldAddr Try.underlying25 rfl Try.sizeOf2 rfl rfl) ?_
      refine rw_r (op_loadB Try.underlying2 rfl rfl (S.blk (i := 2) rfl) rfl) ?_
      refine rw_v (op_rng rfl (by rw [e1]; omega)) ?_
      rw [e1]
      refine rw_v (op_pure rfl) ?_
      refine rw_v (op_rng rfl (by omega)) ?_
      refine rw_v (op_idx Try.underlying22 Try.sizeOf2 rfl rfl sa_A (by omega) (by omega)) ?_
      refine rw_r (op_ldR Try.underlying2 rfl rfl (hA.gr S.out) hget) ?_
      refine rw_buildS Try.underlying22 Try.sizeOf2 Try.zeroValue2 rfl rfl rfl rfl rfl rfl S ?_
      intro A_lit w9_ g9_ S sa_lit
      refine rw_appS (i := 1) S rfl (fun h => rfl) Try.underlying22 info_t2 rfl rfl rfl rfl (by simp) (by omega) (S.rd (i := 0) rfl) rfl (by omega) ?_
      intro A_l2 c_l2 w10_ S sa_l
      refine rw_v (op_pure rfl) ?_
      first | refine rw_end ?_ | (refine rw_nil ?_; show CW _ _ _ _ _ _) | refine rw_nil ?_
      repeat refine cw_seq ?_
      refine cw_region ?_
      refine rw_v (op_pure rfl) ?_
      refine rw_v (op_rng rfl (by omega)) ?_
      refine rw_v (op_pure rfl) ?_
      first | refine rw_end ?_ | (refine rw_nil ?_; show CW _ _ _ _ _ _) | refine rw_nil ?_
      have S := S.sub (.cons _ (.cons_cons _ (.cons_cons _ (.cons_cons _ (.slnil)))))
      refine ⟨m2 - 1, by omega, x + 1, L ++ [V.getD (yg + x) 0], A_l2, c_l2, by omega, by omega, by simp; omega, hpush, ⟨rfl, rfl, ?_, rfl, ie (by omega), trivial⟩, ?_⟩
      · rw [List.length_append]; rfl
      · rw [List.length_append, ← ints_app]; exact S
    · have ex : x = x1 + 1 := by omega
      repeat refine cw_seq ?_
      refine cw_region ?_
      refine rw_v (op_pure rfl) ?_
      refine rw_v (op_fieldAddr Try.underlying75 rfl Try.sizeOf2 rfl rfl) ?_
      refine rw_r (op_loadB Try.underlying2 rfl rfl (S.blk (i := 1) rfl) rfl) ?_
      refine rw_v (op_b (b := false) rfl (decide_eq_false (by omega))) ?_
      first | refine rw_end ?_ | (refine rw_nil ?_; show CW _ _ _ _ _ _) | refine rw_nil ?_
      repeat refine cw_seq ?_
      refine cw_false rfl ?_
      repeat refine cw_seq ?_
      refine cw_exit ?_
      repeat first | refine exit_then ?_ | refine exit_inb ?_
      show CW _ _ _ _ _ _
      repeat refine cw_seq ?_
      refine cw_region ?_
      refine rw_v (op_pure rfl) ?_
      refine rw_v (op_rng rfl (by omega)) ?_
      refine rw_v (op_pure rfl) ?_
      first | refine rw_end ?_ | (refine rw_nil ?_; show CW _ _ _ _ _ _) | refine rw_nil ?_
      exact ⟨m - 1, by omega, y + 1, L, A_l, c_l, by omega, by omega, by rw [show y + 1 - y0 = (y - y0) + 1 by omega, Nat.succ_mul]; omega, ⟨hL.of, fun a b hab hlt => hL.all a b hab (by unfold boxP at hab; omega)⟩, ⟨rfl, rfl, rfl, ie (by omega), trivial⟩, S⟩
  · have ey : y = y1 + 1 := by omega
    rw [ey] at hL hLl
    have hle : (y1 + 1 - y0) * nx ≤ 1024 * 1024 := Nat.mul_le_mul (by omega) (by omega)
    have hne : L ≠ [] := fun e => by
      have := hL.all x0 y0 (by unfold boxP; omega) (by omega)
      rw [e] at this
      cases this
    repeat refine cw_seq ?_
    refine cw_region ?_
    refine rw_v (op_pure rfl) ?_
    refine rw_v (op_fieldAddr Try.underlying75 rfl Try.sizeOf2 rfl rfl) ?_
    refine rw_r (op_loadB Try.underlying2 rfl rfl (S.blk (i := 1) rfl) rfl) ?_
    refine rw_v (op_b (b := false) rfl (decide_eq_false (by omega))) ?_
    first | refine rw_end ?_ | (refine rw_nil ?_; show CW _ _ _ _ _ _) | refine rw_nil ?_
    repeat refine cw_seq ?_
    refine cw_false rfl ?_
    repeat refine cw_seq ?_
    refine cw_exit ?_
    repeat first | refine exit_then ?_ | refine exit_inb ?_
    show CW _ _ _ _ _ _
    repeat refine cw_seq ?_
    refine cw_region ?_
    iterate 3 refine rw_v (op_pure rfl) ?_
    first | refine rw_end ?_ | (refine rw_nil ?_; show CW _ _ _ _ _ _) | refine rw_nil ?_
    repeat refine cw_seq ?_
    refine cw_ret ?_
    repeat first | refine ret_then ?_ | refine ret_inb ?_
    exact res2 rfl rfl ⟨L, ⟨hL, by omega, hne⟩, S.retNew (i := 0) (mk := fun s => .tuple #[s, .int .i64 0]) rfl⟩
set_option maxHeartbeats 2000000 in
theorem range8_E (L : List Int) (c : Nat) (hne : L ≠ []) (hlen : L.length ≤ 1048576) (hR : Rd W A (ints L)) :
    Fn Try.prog 99 [.slice A L.length c] W (fun v w' => ∃ lo hi, v = .agg #[.int .i64 lo, .int .i64 hi] ∧ RgL L lo hi ∧ Gr W w') := by
  have hl1 : 1 ≤ L.length := by
    cases L with
    | nil => exact absurd rfl hne
    | cons a l => simp
  have sa_A : SomeA A := hR.someA (by rw [ints_len]; omega)
  have hget0 : (ints L)[(0 : Int).toNat * 1]? = some (.int .i64 (L.getD 0 0)) := ints_get (getD_at (by omega))
  have htk : L.take 1 = [L.getD 0 0] := by
    cases L with
    | nil => exact absurd rfl hne
    | cons a l => simp
  have S := St.start W
  refine Fn_enter Try.func99 rfl Try.results99 Try.ntmps99 (by kernel_rfl) (by kernel_rfl) ?_
  repeat refine cw_seq ?_
  refine cw_region ?_
  refine rw_newB (op_alloc Try.zeroValue78 rfl) S ?_
  intro b_res w2_ g2_ S
  first | refine rw_end ?_ | (refine rw_nil ?_; show CW _ _ _ _ _ _) | refine rw_nil ?_
  repeat refine cw_seq ?_
  refine cw_region ?_
  refine rw_v (op_pure rfl) ?_
  refine rw_v (op_len Try.underlying22 rfl) ?_
  refine rw_v (op_b (b := false) rfl (beq_eq_false_iff_ne.2 (by omega))) ?_
  first | refine rw_end ?_ | (refine rw_nil ?_; show CW _ _ _ _ _ _) | refine rw_nil ?_
  repeat refine cw_seq ?_
  refine cw_false rfl ?_
  repeat refine cw_seq ?_
  refine cw_skip ?_
  try show CW _ _ _ _ _ _
  repeat refine cw_seq ?_
  refine cw_tri (C := (CA No W [.blk b_res 78 [.int .i64 0, .int .i64 0]] 78 [.int .i64 0, .int .i64 0] [.int .i64 (L.getD 0 0), .int .i64 (L.getD 0 0)])) [7, 8] [0, 1, 2, 3, 4, 5, 6, 7, 8] [] (by kernel_rfl) (by kernel_rfl) (CA.start (S.gr (Gr.drew _))) ?_
  simp only [pickI, pickL, List.drop_succ_cons, List.drop_zero]
  refine rs_v rfl (op_pure rfl) ?_
  refine rs_v rfl (op_idx Try.underlying22 Try.sizeOf2 rfl rfl sa_A (by omega) (by omega)) ?_
  refine rs_r rfl (fun τ wq hq => op_ldR Try.underlying2 rfl rfl (hR.gr (CA.st hq).out) hget0) ?_
  refine rs_v rfl (op_pure rfl) ?_
  refine rs_v rfl (op_idx Try.underlying22 Try.sizeOf2 rfl rfl sa_A (by omega) (by omega)) ?_
  refine rs_r rfl (fun τ wq hq => op_ldR Try.underlying2 rfl rfl (hR.gr (CA.st hq).out) hget0) ?_
  refine rs_v rfl (op_build (pl := [(0, 1), (1, 1)]) Try.underlying78 Try.zeroValue78 (fun w => by kernel_rfl) rfl rfl) ?_
  refine rs_special rfl rfl (fun wq hq => to_allocCA hq Try.zeroValue78 rfl) ?_
  rintro v14 w14 ⟨b_r, rfl, _⟩
  refine rs_special rfl rfl (fun wq hq => to_storeCA hq (Try.sizeOf78 _) rfl rfl rfl rfl rfl) ?_
  rintro v15 w15 _
  refine rs_nil ?_
  rintro wz hz
  first | refine rw_end ?_ | (refine rw_nil ?_; show CW _ _ _ _ _ _) | refine rw_nil ?_
  repeat refine cw_seq ?_
  refine cw_region ?_
  obtain ⟨b_r2, e_r2, S⟩ := hz.fin
  cases e_r2
  refine rw_v (op_pure rfl) ?_
  first | refine rw_end ?_ | (refine rw_nil ?_; show CW _ _ _ _ _ _) | refine rw_nil ?_
  repeat refine cw_seq ?_
  refine cw_block ?_
  repeat refine cw_seq ?_
  refine cw_loop (fun m e w => ∃ (i : Nat) (lo hi : Int), i + m = L.length ∧ 1 ≤ i ∧ RgL (L.take i) lo hi ∧ SL e [(0, .slice A L.length c), (2, .pointer (some ⟨b_res, 0, none⟩)), (3, .pointer (some ⟨b_r, 0, none⟩)), (4, .int .i64 i)] ∧
    St No W w [.blk b_r 78 [.int .i64 lo, .int .i64 hi], .blk b_res 78 [.int .i64 0, .int .i64 0]]) (L.length - 1)
    ⟨1, L.getD 0 0, L.getD 0 0, by omega, by omega, by rw [htk]; exact ⟨fun v hv => by rw [List.mem_singleton.1 hv]; omega, by simp, by simp⟩, ⟨rfl, rfl, rfl, rfl, trivial⟩, S⟩ ?_
  clear S
  rintro m e w ⟨i, lo, hi, him, hi1, hL, hsl, S⟩
  rw [hsl.fold]
  by_cases hin : i < L.length
  · have hget : (ints L)[(i : Int).toNat * 1]? = some (.int .i64 (L.getD i 0)) := by rw [Nat.mul_one, Int.toNat_natCast]; exact ints_get (getD_at hin)
    have htk1 : L.take (i + 1) = L.take i ++ [L.getD i 0] := by
      rw [List.take_add_one, getD_at hin]; rfl
    have hpush := fun lo' hi' (e1 : lo' = min lo (L.getD i 0)) (e2 : hi' = max hi (L.getD i 0)) => hL.push (v := L.getD i 0) e1 e2
    rw [← htk1] at hpush
    generalize L.getD i 0 = v at *
    by_cases c1 : v < lo
    · by_cases c2 : v > hi
      · skip
        repeat refine cw_seq ?_
        refine cw_region ?_
        iterate 2 refine rw_v (op_pure rfl) ?_
        refine rw_v (op_len Try.underlying22 rfl) ?_
        refine rw_v (op_b (b := true) rfl (decide_eq_true (by omega))) ?_
        first | refine rw_end ?_ | (refine rw_nil ?_; show CW _ _ _ _ _ _) | refine rw_nil ?_
        repeat refine cw_seq ?_
        refine cw_true rfl ?_
        repeat refine cw_seq ?_
        refine cw_skip ?_
        try show CW _ _ _ _ _ _
        repeat refine cw_seq ?_
        refine cw_block ?_
        repeat refine cw_seq ?_
        refine cw_draw (C := fun wq => Gr w wq) [0, 1, 2, 3, 4, 5, 6] [] (by kernel_rfl) (by kernel_rfl) (Gr.drew _) ?_
        simp only [pickL, List.drop_succ_cons, List.drop_zero]
        iterate 2 refine rq_v (op_pure rfl) ?_
        refine rq_v (op_idx Try.underlying22 Try.sizeOf2 rfl rfl sa_A (by omega) (by omega)) ?_
        refine rq_r (fun wq hq => op_ldR Try.underlying2 rfl rfl (hR.gr (S.gr hq).out) hget) ?_
        refine rq_v (op_fieldAddr Try.underlying78 rfl Try.sizeOf2 rfl rfl) ?_
        refine rq_r (fun wq hq => op_loadB Try.underlying2 rfl rfl ((S.gr hq).blk (i := 0) rfl) rfl) ?_
        first | refine rq_v (op_b (b := true) rfl (decide_eq_true (by omega))) ?_ | refine rq_v (op_b (b := false) rfl (decide_eq_false (by omega))) ?_ | refine rq_v (op_pure rfl) ?_
        refine rq_nil ?_
        intro w4_ g4_
        have S := S.gr g4_
        first | refine rw_end ?_ | (refine rw_nil ?_; show CW _ _ _ _ _ _) | refine rw_nil ?_
        repeat refine cw_seq ?_
        refine cw_true rfl ?_
        repeat refine cw_seq ?_
        refine cw_region ?_
        iterate 2 refine rw_v (op_pure rfl) ?_
        refine rw_v (op_idx Try.underlying22 Try.sizeOf2 rfl rfl sa_A (by omega) (by omega)) ?_
        refine rw_r (op_ldR Try.underlying2 rfl rfl (hR.gr S.out) hget) ?_
        refine rw_v (op_fieldAddr Try.underlying78 rfl Try.sizeOf2 rfl rfl) ?_
        refine rw_storeS (i := 0) S rfl (Try.sizeOf2 _) rfl rfl rfl rfl rfl rfl ?_
        intro w5_ S
        first | refine rw_end ?_ | (refine rw_nil ?_; show CW _ _ _ _ _ _) | refine rw_nil ?_
        repeat refine cw_seq ?_
        refine cw_draw (C := fun wq => Gr w5_ wq) [0, 1, 2, 3, 4, 5, 6] [] (by kernel_rfl) (by kernel_rfl) (Gr.drew _) ?_
        simp only [pickL, List.drop_succ_cons, List.drop_zero]
        iterate 2 refine rq_v (op_pure rfl) ?_
        refine rq_v (op_idx Try.underlying22 Try.sizeOf2 rfl rfl sa_A (by omega) (by omega)) ?_
        refine rq_r (fun wq hq => op_ldR Try.underlying2 rfl rfl (hR.gr (S.gr hq).out) hget) ?_
        refine rq_v (op_fieldAddr Try.underlying78 rfl Try.sizeOf2 rfl rfl) ?_
        refine rq_r (fun wq hq => op_loadB Try.underlying2 rfl rfl ((S.gr hq).blk (i := 0) rfl) rfl) ?_
        first | refine rq_v (op_b (b := true) rfl (decide_eq_true (by omega))) ?_ | refine rq_v (op_b (b := false) rfl (decide_eq_false (by omega))) ?_ | refine rq_v (op_pure rfl) ?_
        refine rq_nil ?_
        intro w6_ g6_
        have S := S.gr g6_
        first | refine rw_end ?_ | (refine rw_nil ?_; show CW _ _ _ _ _ _) | refine rw_nil ?_
        repeat refine cw_seq ?_
        refine cw_true rfl ?_
        repeat refine cw_seq ?_
        refine cw_region ?_
        iterate 2 refine rw_v (op_pure rfl) ?_
        refine rw_v (op_idx Try.underlying22 Try.sizeOf2 rfl rfl sa_A (by omega) (by omega)) ?_
        refine rw_r (op_ldR Try.underlying2 rfl rfl (hR.gr S.out) hget) ?_
        refine rw_v (op_fieldAddr Try.underlying78 rfl Try.sizeOf2 rfl rfl) ?_
        refine rw_storeS (i := 0) S rfl (Try.sizeOf2 _) rfl rfl rfl rfl rfl rfl ?_
        intro w7_ S
        first | refine rw_end ?_ | (refine rw_nil ?_; show CW _ _ _ _ _ _) | refine rw_nil ?_
        repeat refine cw_seq ?_
        refine cw_region ?_
        refine rw_v (op_pure rfl) ?_
        refine rw_v (op_rng rfl (by omega)) ?_
        refine rw_v (op_pure rfl) ?_
        first | refine rw_end ?_ | (refine rw_nil ?_; show CW _ _ _ _ _ _) | refine rw_nil ?_
        exact ⟨m - 1, by omega, i + 1, v, v, by omega, by omega, hpush _ _ (by omega) (by omega), ⟨rfl, rfl, rfl, ie (by omega), trivial⟩, S⟩
      · skip
        repeat refine cw_seq ?_
        refine cw_region ?_
        iterate 2 refine rw_v (op_pure rfl) ?_
        refine rw_v (op_len Try.underlying22 rfl) ?_
        refine rw_v (op_b (b := true) rfl (decide_eq_true (by omega))) ?_
        first | refine rw_end ?_ | (refine rw_nil ?_; show CW _ _ _ _ _ _) | refine rw_nil ?_
        repeat refine cw_seq ?_
        refine cw_true rfl ?_
        repeat refine cw_seq ?_
        refine cw_skip ?_
        try show CW _ _ _ _ _ _
        repeat refine cw_seq ?_
        refine cw_block ?_
        repeat refine cw_seq ?_
        refine cw_draw (C := fun wq => Gr w wq) [0, 1, 2, 3, 4, 5, 6] [] (by kernel_rfl) (by kernel_rfl) (Gr.drew _) ?_
        simp only [pickL, List.drop_succ_cons, List.drop_zero]
        iterate 2 refine rq_v (op_pure rfl) ?_
        refine rq_v (op_idx Try.underlying22 Try.sizeOf2 rfl rfl sa_A (by omega) (by omega)) ?_
        refine rq_r (fun wq hq => op_ldR Try.underlying2 rfl rfl (hR.gr (S.gr hq).out) hget) ?_
        refine rq_v (op_fieldAddr Try.underlying78 rfl Try.sizeOf2 rfl rfl) ?_
        refine rq_r (fun wq hq => op_loadB Try.underlying2 rfl rfl ((S.gr hq).blk (i := 0) rfl) rfl) ?_
        first | refine rq_v (op_b (b := true) rfl (decide_eq_true (by omega))) ?_ | refine rq_v (op_b (b := false) rfl (decide_eq_false (by omega))) ?_ | refine rq_v (op_pure rfl) ?_
        refine rq_nil ?_
        intro w8_ g8_
        have S := S.gr g8_
        first | refine rw_end ?_ | (refine rw_nil ?_; show CW _ _ _ _ _ _) | refine rw_nil ?_
        repeat refine cw_seq ?_
        refine cw_true rfl ?_
        repeat refine cw_seq ?_
        refine cw_region ?_
        iterate 2 refine rw_v (op_pure rfl) ?_
        refine rw_v (op_idx Try.underlying22 Try.sizeOf2 rfl rfl sa_A (by omega) (by omega)) ?_
        refine rw_r (op_ldR Try.underlying2 rfl rfl (hR.gr S.out) hget) ?_
        refine rw_v (op_fieldAddr Try.underlying78 rfl Try.sizeOf2 rfl rfl) ?_
        refine rw_storeS (i := 0) S rfl (Try.sizeOf2 _) rfl rfl rfl rfl rfl rfl ?_
        intro w9_ S
        first | refine rw_end ?_ | (refine rw_nil ?_; show CW _ _ _ _ _ _) | refine rw_nil ?_
        repeat refine cw_seq ?_
        refine cw_draw (C := fun wq => Gr w9_ wq) [0, 1, 2, 3, 4, 5, 6] [] (by kernel_rfl) (by kernel_rfl) (Gr.drew _) ?_
        simp only [pickL, List.drop_succ_cons, List.drop_zero]
        iterate 2 refine rq_v (op_pure rfl) ?_
        refine rq_v (op_idx Try.underlying22 Try.sizeOf2 rfl rfl sa_A (by omega) (by omega)) ?_
        refine rq_r (fun wq hq => op_ldR Try.underlying2 rfl rfl (hR.gr (S.gr hq).out) hget) ?_
        refine rq_v (op_fieldAddr Try.underlying78 rfl Try.sizeOf2 rfl rfl) ?_
        refine rq_r (fun wq hq => op_loadB Try.underlying2 rfl rfl ((S.gr hq).blk (i := 0) rfl) rfl) ?_
        first | refine rq_v (op_b (b := true) rfl (decide_eq_true (by omega))) ?_ | refine rq_v (op_b (b := false) rfl (decide_eq_false (by omega))) ?_ | refine rq_v (op_pure rfl) ?_
        refine rq_nil ?_
        intro w10_ g10_
        have S := S.gr g10_
        first | refine rw_end ?_ | (refine rw_nil ?_; show CW _ _ _ _ _ _) | refine rw_nil ?_
        repeat refine cw_seq ?_
        refine cw_false rfl ?_
        repeat refine cw_seq ?_
        refine cw_skip ?_
        try show CW _ _ _ _ _ _
        repeat refine cw_seq ?_
        refine cw_region ?_
        refine rw_v (op_pure rfl) ?_
        refine rw_v (op_rng rfl (by omega)) ?_
        refine rw_v (op_pure rfl) ?_
        first | refine rw_end ?_ | (refine rw_nil ?_; show CW _ _ _ _ _ _) | refine rw_nil ?_
        exact ⟨m - 1, by omega, i + 1, v, hi, by omega, by omega, hpush _ _ (by omega) (by omega), ⟨rfl, rfl, rfl, ie (by omega), trivial⟩, S⟩
    · by_cases c2 : v > hi
      · skip
        repeat refine cw_seq ?_
        refine cw_region ?_
        iterate 2 refine rw_v (op_pure rfl) ?_
        refine rw_v (op_len Try.underlying22 rfl) ?_
        refine rw_v (op_b (b := true) rfl (decide_eq_true (by omega))) ?_
        first | refine rw_end ?_ | (refine rw_nil ?_; show CW _ _ _ _ _ _) | refine rw_nil ?_
        repeat refine cw_seq ?_
        refine cw_true rfl ?_
        repeat refine cw_seq ?_
        refine cw_skip ?_
        try show CW _ _ _ _ _ _
        repeat refine cw_seq ?_
        refine cw_block ?_
        repeat refine cw_seq ?_
        refine cw_draw (C := fun wq => Gr w wq) [0, 1, 2, 3, 4, 5, 6] [] (by kernel_rfl) (by kernel_rfl) (Gr.drew _) ?_
        simp only [pickL, List.drop_succ_cons, List.drop_zero]
        iterate 2 refine rq_v (op_pure rfl) ?_
        refine rq_v (op_idx Try.underlying22 Try.sizeOf2 rfl rfl sa_A (by omega) (by omega)) ?_
        refine rq_r (fun wq hq => op_ldR Try.underlying2 rfl rfl (hR.gr (S.gr hq).out) hget) ?_
        refine rq_v (op_fieldAddr Try.underlying78 rfl Try.sizeOf2 rfl rfl) ?_
        refine rq_r (fun wq hq => op_loadB Try.underlying2 rfl rfl ((S.gr hq).blk (i := 0) rfl) rfl) ?_
        first | refine rq_v (op_b (b := true) rfl (decide_eq_true (by omega))) ?_ | refine rq_v (op_b (b := false) rfl (decide_eq_false (by omega))) ?_ | refine rq_v (op_pure rfl) ?_
        refine rq_nil ?_
        intro w11_ g11_
        have S := S.gr g11_
        first | refine rw_end ?_ | (refine rw_nil ?_; show CW _ _ _ _ _ _) | refine rw_nil ?_
        repeat refine cw_seq ?_
        refine cw_false rfl ?_
        repeat refine cw_seq ?_
        refine cw_skip ?_
        try show CW _ _ _ _ _ _
        repeat refine cw_seq ?_
        refine cw_draw (C := fun wq => Gr w11_ wq) [0, 1, 2, 3, 4, 5, 6] [] (by kernel_rfl) (by kernel_rfl) (Gr.drew _) ?_
        simp only [pickL, List.drop_succ_cons, List.drop_zero]
        iterate 2 refine rq_v (op_pure rfl) ?_
        refine rq_v (op_idx Try.underlying22 Try.sizeOf2 rfl rfl sa_A (by omega) (by omega)) ?_
        refine rq_r (fun wq hq => op_ldR Try.underlying2 rfl rfl (hR.gr (S.gr hq).out) hget) ?_
        refine rq_v (op_fieldAddr Try.underlying78 rfl Try.sizeOf2 rfl rfl) ?_
        refine rq_r (fun wq hq => op_loadB Try.underlying2 rfl rfl ((S.gr hq).blk (i := 0) rfl) rfl) ?_
        first | refine rq_v (op_b (b := true) rfl (decide_eq_true (by omega))) ?_ | refine rq_v (op_b (b := false) rfl (decide_eq_false (by omega))) ?_ | refine rq_v (op_pure rfl) ?_
        refine rq_nil ?_
        intro w12_ g12_
        have S := S.gr g12_
        first | refine rw_end ?_ | (refine rw_nil ?_; show CW _ _ _ _ _ _) | refine rw_nil ?_
        repeat refine cw_seq ?_
        refine cw_true rfl ?_
        repeat refine cw_seq ?_
        refine cw_region ?_
        iterate 2 refine rw_v (op_pure rfl) ?_
        refine rw_v (op_idx Try.underlying22 Try.sizeOf2 rfl rfl sa_A (by omega) (by omega)) ?_
        refine rw_r (op_ldR Try.underlying2 rfl rfl (hR.gr S.out) hget) ?_
        refine rw_v (op_fieldAddr Try.underlying78 rfl Try.sizeOf2 rfl rfl) ?_
        refine rw_storeS (i := 0) S rfl (Try.sizeOf2 _) rfl rfl rfl rfl rfl rfl ?_
        intro w13_ S
        first | refine rw_end ?_ | (refine rw_nil ?_; show CW _ _ _ _ _ _) | refine rw_nil ?_
        repeat refine cw_seq ?_
        refine cw_region ?_
        refine rw_v (op_pure rfl) ?_
        refine rw_v (op_rng rfl (by omega)) ?_
        refine rw_v (op_pure rfl) ?_
        first | refine rw_end ?_ | (refine rw_nil ?_; show CW _ _ _ _ _ _) | refine rw_nil ?_
        exact ⟨m - 1, by omega, i + 1, lo, v, by omega, by omega, hpush _ _ (by omega) (by omega), ⟨rfl, rfl, rfl, ie (by omega), trivial⟩, S⟩
      · skip
        repeat refine cw_seq ?_
        refine cw_region ?_
        iterate 2 refine rw_v (op_pure rfl) ?_
        refine rw_v (op_len Try.underlying22 rfl) ?_
        refine rw_v (op_b (b := true) rfl (decide_eq_true (by omega))) ?_
        first | refine rw_end ?_ | (refine rw_nil ?_; show CW _ _ _ _ _ _) | refine rw_nil ?_
        repeat refine cw_seq ?_
        refine cw_true rfl ?_
        repeat refine cw_seq ?_
        refine cw_skip ?_
        try show CW _ _ _ _ _ _
        repeat refine cw_seq ?_
        refine cw_block ?_
        repeat refine cw_seq ?_
        refine cw_draw (C := fun wq => Gr w wq) [0, 1, 2, 3, 4, 5, 6] [] (by kernel_rfl) (by kernel_rfl) (Gr.drew _) ?_
        simp only [pickL, List.drop_succ_cons, List.drop_zero]
        iterate 2 refine rq_v (op_pure rfl) ?_
        refine rq_v (op_idx Try.underlying22 Try.sizeOf2 rfl rfl sa_A (by omega) (by omega)) ?_
        refine rq_r (fun wq hq => op_ldR Try.underlying2 rfl rfl (hR.gr (S.gr hq).out) hget) ?_
        refine rq_v (op_fieldAddr Try.underlying78 rfl Try.sizeOf2 rfl rfl) ?_
        refine rq_r (fun wq hq => op_loadB Try.underlying2 rfl rfl ((S.gr hq).blk (i := 0) rfl) rfl) ?_
        first | refine rq_v (op_b (b := true) rfl (decide_eq_true (by omega))) ?_ | refine rq_v (op_b (b := false) rfl (decide_eq_false (by omega))) ?_ | refine rq_v (op_pure rfl) ?_
        refine rq_nil ?_
        intro w14_ g14_
        have S := S.gr g14_
        first | refine rw_end ?_ | (refine rw_nil ?_; show CW _ _ _ _ _ _) | refine rw_nil ?_
        repeat refine cw_seq ?_
        refine cw_false rfl ?_
        repeat refine cw_seq ?_
        refine cw_skip ?_
        try show CW _ _ _ _ _ _
        repeat refine cw_seq ?_
        refine cw_draw (C := fun wq => Gr w14_ wq) [0, 1, 2, 3, 4, 5, 6] [] (by kernel_rfl) (by kernel_rfl) (Gr.drew _) ?_
        simp only [pickL, List.drop_succ_cons, List.drop_zero]
        iterate 2 refine rq_v (op_pure rfl) ?_
        refine rq_v (op_idx Try.underlying22 Try.sizeOf2 rfl rfl sa_A (by omega) (by omega)) ?_
        refine rq_r (fun wq hq => op_ldR Try.underlying2 rfl rfl (hR.gr (S.gr hq).out) hget) ?_
        refine rq_v (op_fieldAddr Try.underlying78 rfl Try.sizeOf2 rfl rfl) ?_
        refine rq_r (fun wq hq => op_loadB Try.underlying2 rfl rfl ((S.gr hq).blk (i := 0) rfl) rfl) ?_
        first | refine rq_v (op_b (b := true) rfl (decide_eq_true (by omega))) ?_ | refine rq_v (op_b (b := false) rfl (decide_eq_false (by omega))) ?_ | refine rq_v (op_pure rfl) ?_
        refine rq_nil ?_
        intro w15_ g15_
        have S := S.gr g15_
        first | refine rw_end ?_ | (refine rw_nil ?_; show CW _ _ _ _ _ _) | refine rw_nil ?_
        repeat refine cw_seq ?_
        refine cw_false rfl ?_
        repeat refine cw_seq ?_
        refine cw_skip ?_
        try show CW _ _ _ _ _ _
        repeat refine cw_seq ?_
        refine cw_region ?_
        refine rw_v (op_pure rfl) ?_
        refine rw_v (op_rng rfl (by omega)) ?_
        refine rw_v (op_pure rfl) ?_
        first | refine rw_end ?_ | (refine rw_nil ?_; show CW _ _ _ _ _ _) | refine rw_nil ?_
        exact ⟨m - 1, by omega, i + 1, lo, hi, by omega, by omega, hpush _ _ (by omega) (by omega), ⟨rfl, rfl, rfl, ie (by omega), trivial⟩, S⟩
  · have ei : i = L.length := by omega
    rw [ei, List.take_length] at hL
    repeat refine cw_seq ?_
    refine cw_region ?_
    iterate 2 refine rw_v (op_pure rfl) ?_
    refine rw_v (op_len Try.underlying22 rfl) ?_
    refine rw_v (op_b (b := false) rfl (decide_eq_false (by omega))) ?_
    first | refine rw_end ?_ | (refine rw_nil ?_; show CW _ _ _ _ _ _) | refine rw_nil ?_
    repeat refine cw_seq ?_
    refine cw_false rfl ?_
    repeat refine cw_seq ?_
    refine cw_exit ?_
    repeat first | refine exit_then ?_ | refine exit_inb ?_
    show CW _ _ _ _ _ _
    repeat refine cw_seq ?_
    refine cw_region ?_
    refine rw_r (op_loadAB Try.underlying78 rfl (Try.sizeOf78 _) rfl (S.blk (i := 0) rfl) rfl rfl) ?_
    refine rw_storeSA (i := 1) S rfl (Try.sizeOf78 _) rfl rfl rfl rfl rfl rfl ?_
    intro w16_ S
    first | refine rw_end ?_ | (refine rw_nil ?_; show CW _ _ _ _ _ _) | refine rw_nil ?_
    repeat refine cw_seq ?_
    refine cw_ret ?_
    repeat first | refine ret_then ?_ | refine ret_inb ?_
    exact resA Try.underlying78 rfl (Try.sizeOf78 _) rfl (S.blk (i := 1) rfl) rfl rfl ⟨lo, hi, rfl, hL, S.out⟩
theorem window44_E (i n : Nat) (nc cap : Nat) (hw : 1 ≤ gw ∧ gw ≤ 1024) (hh : 1 ≤ gh ∧ gh ≤ 1024) (hi : i < gw * gh) (hn : n ≤ 1024) : Fn Try.prog 98 [modV gw gh A nc cap, .int .i64 i, .int .i64 n] W (RetG (winW gw gh i n).val W) := by
  have e1 : (i : Int) % gw = ((i % gw : Nat) : Int) := by push_cast; rfl
  have e2 : (i : Int) / gw = ((i / gw : Nat) : Int) := by push_cast; rfl
  have hm : gw * gh ≤ 1024 * 1024 := Nat.mul_le_mul hw.2 hh.2
  unfold modV
  have S := St.start W
  refine Fn_enter Try.func98 rfl Try.results98 Try.ntmps98 (by kernel_rfl) (by kernel_rfl) ?_
  repeat refine cw_seq ?_
  refine cw_region ?_
  refine rw_newB (op_box rfl) S ?_
  intro b_md w2_ g2_ S
  refine rw_newB (op_alloc Try.zeroValue75 rfl) S ?_
  intro b_res w4_ g4_ S
  first | refine rw_end ?_ | (refine rw_nil ?_; show CW _ _ _ _ _ _) | refine rw_nil ?_
  repeat refine cw_seq ?_
  refine cw_tri (C := (CA No W [.blk b_res 75 [.int .i64 0, .int .i64 0, .int .i64 0, .int .i64 0], .blk b_md 25 [.int .i64 gw, .int .i64 gh, .slice A nc cap]] 75 [.int .i64 0, .int .i64 0, .int .i64 0, .int .i64 0] [.int .i64 (winW gw gh i n).x0, .int .i64 (winW gw gh i n).y0, .int .i64 (winW gw gh i n).x1, .int .i64 (winW gw gh i n).y1])) [18, 19] [0, 1, 2, 3, 4, 5, 6, 7, 8, 9, 10, 11, 12, 13, 14, 15, 16, 17, 18, 19] [20] (by kernel_rfl) (by kernel_rfl) (CA.start (S.gr (Gr.drew _))) ?_
  simp only [pickI, pickL, List.drop_succ_cons, List.drop_zero]
  refine rs_v rfl (op_pure rfl) ?_
  refine rs_v rfl (op_fieldAddr Try.underlying25 rfl Try.sizeOf2 rfl rfl) ?_
  refine rs_r rfl (fun τ wq hq => op_loadB Try.underlying2 rfl rfl ((CA.st hq).blk (i := 1) rfl) rfl) ?_
  refine rs_v rfl (op_rem rfl rfl (by omega) (by omega)) ?_
  rw [e1]
  refine rs_v rfl (op_pure rfl) ?_
  refine rs_v rfl (op_fieldAddr Try.underlying25 rfl Try.sizeOf2 rfl rfl) ?_
  refine rs_r rfl (fun τ wq hq => op_loadB Try.underlying2 rfl rfl ((CA.st hq).blk (i := 1) rfl) rfl) ?_
  refine rs_v rfl (op_div rfl rfl (by omega) (by omega)) ?_
  rw [e2]
  refine rs_v rfl (op_build (pl := [(0, 1), (1, 1)]) Try.underlying44 Try.zeroValue44 (fun w => by kernel_rfl) rfl rfl) ?_
  refine rs_v rfl (op_pure rfl) ?_
  refine rs_v rfl (op_fieldAddr Try.underlying25 rfl Try.sizeOf2 rfl rfl) ?_
  refine rs_r rfl (fun τ wq hq => op_loadB Try.underlying2 rfl rfl ((CA.st hq).blk (i := 1) rfl) rfl) ?_
  refine rs_v rfl (op_fieldAddr Try.underlying25 rfl Try.sizeOf2 rfl rfl) ?_
  refine rs_r rfl (fun τ wq hq => op_loadB Try.underlying2 rfl rfl ((CA.st hq).blk (i := 1) rfl) rfl) ?_
  refine rs_call rfl rfl (fun τ wq hq => (around44_E i n gw gh hw hh hi hn wq).mono (fun _ _ ⟨hv, hg⟩ => ⟨hv, CA.gr hq hg⟩)) ?_
  refine rs_v rfl (op_pure rfl) ?_
  refine rs_v rfl (op_pure rfl) ?_
  refine rs_v rfl (op_pure rfl) ?_
  refine rs_special rfl rfl (fun wq hq => to_allocCA hq Try.zeroValue75 rfl) ?_
  rintro v14 w14 ⟨b_r, rfl, _⟩
  refine rs_special rfl rfl (fun wq hq => to_storeCA hq (Try.sizeOf75 _) rfl rfl rfl rfl rfl) ?_
  rintro v15 w15 _
  refine rs_nil ?_
  rintro wz hz
  obtain ⟨b_r2, e_r2, S⟩ := hz.fin
  cases e_r2
  refine rw_v (op_pure rfl) ?_
  first | refine rw_end ?_ | (refine rw_nil ?_; show CW _ _ _ _ _ _) | refine rw_nil ?_
  repeat refine cw_seq ?_
  refine cw_region ?_
  refine rw_r (op_loadAB Try.underlying75 rfl (Try.sizeOf75 _) rfl (S.blk (i := 0) rfl) rfl rfl) ?_
  refine rw_storeSA (i := 1) S rfl (Try.sizeOf75 _) rfl rfl rfl rfl rfl rfl ?_
  intro w6_ S
  first | refine rw_end ?_ | (refine rw_nil ?_; show CW _ _ _ _ _ _) | refine rw_nil ?_
  repeat refine cw_seq ?_
  refine cw_ret ?_
  repeat first | refine ret_then ?_ | refine ret_inb ?_
  exact resA Try.underlying75 rfl (Try.sizeOf75 _) rfl (S.blk (i := 1) rfl) rfl rfl ⟨rfl, S.out⟩
theorem range44_E (i n cap : Nat) (hw : 1 ≤ gw ∧ gw ≤ 1024) (hh : 1 ≤ gh ∧ gh ≤ 1024) (hi : i < gw * gh) (hn : n ≤ 1024) (hV : V.length = gw * gh) (hA : Rd W A (ints V)) :
    Fn Try.prog 45 [modV gw gh A (gw * gh) cap, .int .i64 i, .int .i64 n] W (RetG (.agg (rgW V gw gh i n).cells.toArray) W) := by
  obtain ⟨h1, h2⟩ := winW_ok (n := n) hw.1 hi
  have hwin := fun w => window44_E (W := w) (A := A) i n (gw * gh) cap hw hh hi hn
  have hval := fun w (g : Gr W w) => values9_E (W := w) (cap := cap) (winW gw gh i n).x0 (winW gw gh i n).y0 (winW gw gh i n).x1 (winW gw gh i n).y1 hw hh h1 h2 hV (hA.gr g)
  unfold rgW
  unfold Win.val at hwin
  unfold modV at *
  generalize winW gw gh i n = r at *
  have S := St.start W
  refine Fn_enter Try.func45 rfl Try.results45 Try.ntmps45 (by kernel_rfl) (by kernel_rfl) ?_
  repeat refine cw_seq ?_
  refine cw_region ?_
  refine rw_newB (op_box rfl) S ?_
  intro b_md w2_ g2_ S
  refine rw_newB (op_alloc Try.zeroValue78 rfl) S ?_
  intro b_R w4_ g4_ S
  first | refine rw_end ?_ | (refine rw_nil ?_; show CW _ _ _ _ _ _) | refine rw_nil ?_
  repeat refine cw_seq ?_
  refine cw_tri (C := (VC W [.blk b_R 78 [.int .i64 0, .int .i64 0], .blk b_md 25 [.int .i64 gw, .int .i64 gh, .slice A (gw * gh) cap]] (fun L => IsVals V gw r.x0 r.y0 r.x1 r.y1 (r.y1 + 1) r.x0 L ∧ L.length ≤ 1048576 ∧ L ≠ []))) [5] [0, 1, 2, 3, 4, 5, 6, 7, 8, 9] [10] (by kernel_rfl) (by kernel_rfl) (S.gr (Gr.drew _)) ?_
  simp only [pickI, pickL, List.drop_succ_cons, List.drop_zero]
  refine rs_r rfl (fun τ wq hq => op_loadAB Try.underlying25 rfl (Try.sizeOf25 _) rfl (VC.blk hq (i := 1) rfl) rfl rfl) ?_
  refine rs_r rfl (fun τ wq hq => op_loadAB Try.underlying25 rfl (Try.sizeOf25 _) rfl (VC.blk hq (i := 1) rfl) rfl rfl) ?_
  refine rs_v rfl (op_pure rfl) ?_
  refine rs_v rfl (op_pure rfl) ?_
  refine rs_call rfl rfl (fun τ wq hq => (hwin wq).mono (fun _ _ ⟨hv, hg⟩ => ⟨hv, VC.gr hq hg⟩)) ?_
  refine rs_special rfl rfl (fun wq hq => to_call rfl ((hval wq (VC.out hq)).mono (VC.step hq))) ?_
  rintro v5 w5 ⟨L, A_l, c_l, rfl, _, _⟩
  refine rs_v rfl (op_pure rfl) ?_
  refine rs_v rfl (op_pure rfl) ?_
  refine rs_v rfl (op_pure rfl) ?_
  refine rs_v rfl (op_pure rfl) ?_
  refine rs_nil ?_
  rintro wz hz
  obtain ⟨L2, A_l2, c_l2, e2, ⟨hL, hLl, hLn⟩, S⟩ := hz
  obtain ⟨rfl, hlen, rfl⟩ := tup_inj e2
  rw [hlen]
  refine rw_v (op_pure rfl) ?_
  first | refine rw_end ?_ | (refine rw_nil ?_; show CW _ _ _ _ _ _) | refine rw_nil ?_
  have hrd := (S.row (i := 0) rfl).rd
  repeat refine cw_seq ?_
  refine cw_region ?_
  refine rw_v (op_pure rfl) ?_
  refine rw_call rfl (range8_E L2 c_l hLn hLl hrd) ?_
  rintro _ w6_ ⟨lo, hi2, rfl, hrg, g6_⟩
  have S := S.gr g6_
  refine rw_storeSA (i := 1) S rfl (Try.sizeOf78 _) rfl rfl rfl rfl rfl rfl ?_
  intro w7_ S
  first | refine rw_end ?_ | (refine rw_nil ?_; show CW _ _ _ _ _ _) | refine rw_nil ?_
  repeat refine cw_seq ?_
  refine cw_ret ?_
  repeat first | refine ret_then ?_ | refine ret_inb ?_
  have hfin := rg_vals hL hrg
  rw [hfin]
  exact resA Try.underlying78 rfl (Try.sizeOf78 _) rfl (S.blk (i := 1) rfl) rfl rfl ⟨rfl, S.out⟩
end
end Go.Proofs.Ytbcgbcipigcbhaa
