/- hachureref09.Values, hachureref08.Range, hachureref44.window, Range: contracts. -/
import Derived.Test.YtbcgbcipigcbhaaGreatKzI
import Derived.Test.YtbcgbcipigcbhaaGreatKzJ
import Derived.Test.YtbcgbcipigcbhaaGreatKzE
namespace Go.Proofs.YtbcgbcipigcbhaaGreat
open Go.RowKit
set_option linter.unusedVariables false
set_option linter.unusedSimpArgs false
set_option maxRecDepth 100000

/-- the values of a box, up to a place -/
structure IsVals (V : List Int) (gw x0 y0 x1 y1 y x : Nat) (L : List Int) : Prop where
  of : ∀ v ∈ L, ∃ a b, boxP x0 y0 x1 y1 a b ∧ cellV V gw a b = v
  all : ∀ a b, boxP x0 y0 x1 y1 a b → (b < y ∨ (b = y ∧ a < x)) → cellV V gw a b ∈ L
theorem IsVals.push {V : List Int} {gw x0 y0 x1 y1 y x : Nat} {L : List Int} (h : IsVals V gw x0 y0 x1 y1 y x L) (hb : boxP x0 y0 x1 y1 x y) : IsVals V gw x0 y0 x1 y1 y (x + 1) (L ++ [cellV V gw x y]) := by
  refine ⟨fun v hv => ?_, fun a b hab hlt => ?_⟩
  · rcases List.mem_append.1 hv with hv | hv
    · exact h.of v hv
    · exact ⟨x, y, hb, (List.mem_singleton.1 hv).symm⟩
  · by_cases e : b = y ∧ a = x
    · obtain ⟨rfl, rfl⟩ := e
      exact List.mem_append_right _ (List.mem_singleton.2 rfl)
    · exact List.mem_append_left _ (h.all a b hab (by omega))
/-- the range of a list -/
def RgL (L : List Int) (lo hi : Int) : Prop := (∀ v ∈ L, lo ≤ v ∧ v ≤ hi) ∧ lo ∈ L ∧ hi ∈ L
theorem RgL.push {L : List Int} {lo hi lo' hi' v : Int} (h : RgL L lo hi) (e1 : lo' = min lo v) (e2 : hi' = max hi v) : RgL (L ++ [v]) lo' hi' := by
  obtain ⟨h1, h2, h3⟩ := h
  refine ⟨fun u hu => ?_, ?_, ?_⟩
  · rcases List.mem_append.1 hu with hu | hu
    · have := h1 u hu; omega
    · rw [List.mem_singleton.1 hu]; omega
  · by_cases e : lo ≤ v
    · rw [e1, show min lo v = lo by omega]; exact List.mem_append_left _ h2
    · rw [e1, show min lo v = v by omega]; exact List.mem_append_right _ (List.mem_singleton.2 rfl)
  · by_cases e : v ≤ hi
    · rw [e2, show max hi v = hi by omega]; exact List.mem_append_left _ h3
    · rw [e2, show max hi v = v by omega]; exact List.mem_append_right _ (List.mem_singleton.2 rfl)
theorem rg_vals {V : List Int} {gw x0 y0 x1 y1 : Nat} {L : List Int} {lo hi : Int} (h : IsVals V gw x0 y0 x1 y1 (y1 + 1) x0 L) (hr : RgL L lo hi) : rgB V gw x0 y0 x1 y1 = ⟨lo, hi⟩ := by
  obtain ⟨h1, h2, h3⟩ := hr
  obtain ⟨a, b, hab, e⟩ := h.of lo h2
  obtain ⟨a', b', hab', e'⟩ := h.of hi h3
  exact rgB_eq ⟨fun x y hxy => h1 _ (h.all x y hxy (.inl (by unfold boxP at hxy; omega))), ⟨a, b, hab, e⟩, a', b', hab', e'⟩
/-- a region that draws and holds one call that tells a fresh row -/
def VC (W : World) (L : List HA) (Q : List Int → Prop) (σ : List Value) (wq : World) : Prop := match σ with
  | [] => St No W wq L
  | [v] => ∃ l A c, v = .tuple #[.slice A l.length c, .int .i64 0] ∧ Q l ∧ St No W wq (.row 2 1 A l.length c (ints l) :: L)
  | _ => False
section
variable {W w w' : World} {L : List HA} {Q : List Int → Prop} {σ : List Value}
theorem VC.gr (h : VC W L Q σ w) (g : Gr w w') : VC W L Q σ w' := by
  match σ, h with
  | [], h => exact St.gr (show St No W w L from h) g
  | [v], ⟨l, A, c, e, q, S⟩ => exact ⟨l, A, c, e, q, S.gr g⟩
theorem VC.blk (h : VC W L Q σ w) {i b t : Nat} {l : List Value} (hi : getO L i = some (.blk b t l)) : Blk w b t l := by
  match σ, h with
  | [], h => exact St.blk (show St No W w L from h) hi
  | [v], ⟨_, _, _, e, q, S⟩ => exact S.blk (i := i + 1) hi
theorem VC.out (h : VC W L Q [] w) : Gr W w := St.out (show St No W w L from h)
theorem VC.step (h : VC W L Q [] w) (v : Value) (w' : World) (hv : ∃ L : List Int, Q L ∧ RetNew (fun s => .tuple #[s, .int .i64 0]) 2 1 L.length (ints L) w v w') : VC W L Q [v] w' := by
  obtain ⟨l, q, A, c, rfl, hR, hF, g⟩ := hv
  exact ⟨l, A, c, rfl, q, St.pushRow (show St No W w L from h) hR hF g⟩
end
theorem tup_inj {A A2 : Option Addr} {n n2 c c2 : Nat} {z : Value} (h : Value.tuple #[.slice A n c, z] = .tuple #[.slice A2 n2 c2, z]) : A = A2 ∧ n = n2 ∧ c = c2 := by simpa using h
section
variable {W : World} {A : Option Addr} {gw gh cap : Nat} {V : List Int}
set_option maxHeartbeats 2000000 in
theorem values9_E (x0 y0 x1 y1 : Nat) (hw : 1 ≤ gw ∧ gw ≤ 1024) (hh : 1 ≤ gh ∧ gh ≤ 1024) (hx : x0 ≤ x1 ∧ x1 < gw) (hy : y0 ≤ y1 ∧ y1 < gh) (hV : V.length = gw * gh) (hA : Rd W A (ints V)) :
    Fn Tryz.prog 37 [modV gw gh A (gw * gh) cap, .agg #[.int .i64 x0, .int .i64 y0, .int .i64 x1, .int .i64 y1]] W
    (fun v w' => ∃ L : List Int, (IsVals V gw x0 y0 x1 y1 (y1 + 1) x0 L ∧ L.length ≤ 1048576 ∧ L ≠ []) ∧ RetNew (fun s => .tuple #[s, .int .i64 0]) 2 1 L.length (ints L) W v w') := by
  have hwi := fun w => within44_E x0 y0 x1 y1 gw gh hw hh hx hy w
  have hm : 1 ≤ gw * gh ∧ gw * gh ≤ 1024 * 1024 := ⟨Nat.mul_le_mul hw.1 hh.1, Nat.mul_le_mul hw.2 hh.2⟩
  obtain ⟨nx, hnx⟩ : ∃ nx, nx = x1 + 1 - x0 := ⟨_, rfl⟩
  have sa_A : SomeA A := hA.someA (by rw [ints_len]; omega)
  unfold modV
  have S := St.start W
  refine Fn_enter Tryz.func37 rfl Tryz.results37 Tryz.ntmps37 (by kernel_rfl) (by kernel_rfl) ?_
  repeat refine cw_seq ?_
  refine cw_region ?_
  refine rw_newB (op_box rfl) S ?_
  intro b_md w2_ g2_ S
  refine rw_newB (op_box rfl) S ?_
  intro b_r w4_ g4_ S
  iterate 2 refine rw_v (op_pure rfl) ?_
  first | refine rw_end ?_ | (refine rw_nil ?_; show CW _ _ _ _ _ _) | refine rw_nil ?_
  repeat refine cw_seq ?_
  refine cw_region ?_
  refine rw_r (op_loadAB Tryz.underlying38 rfl (Tryz.sizeOf38 _) rfl (S.blk (i := 0) rfl) rfl rfl) ?_
  refine rw_v (op_fieldAddr Tryz.underlying25 rfl Tryz.sizeOf2 rfl rfl) ?_
  refine rw_r (op_loadB Tryz.underlying2 rfl rfl (S.blk (i := 1) rfl) rfl) ?_
  refine rw_v (op_fieldAddr Tryz.underlying25 rfl Tryz.sizeOf2 rfl rfl) ?_
  refine rw_r (op_loadB Tryz.underlying2 rfl rfl (S.blk (i := 1) rfl) rfl) ?_
  refine rw_call rfl (hwi w4_) ?_
  rintro _ w5_ ⟨rfl, g5_⟩
  have S := S.gr g5_
  refine rw_v (op_pure rfl) ?_
  first | refine rw_end ?_ | (refine rw_nil ?_; show CW _ _ _ _ _ _) | refine rw_nil ?_
  repeat refine cw_seq ?_
  refine cw_region ?_
  refine rw_v (op_pure rfl) ?_
  refine rw_v (op_b (b := false) rfl (bne_eq_false_iff_eq.2 (by omega))) ?_
  first | refine rw_end ?_ | (refine rw_nil ?_; show CW _ _ _ _ _ _) | refine rw_nil ?_
  repeat refine cw_seq ?_
  refine cw_false rfl ?_
  repeat refine cw_seq ?_
  refine cw_skip ?_
  try show CW _ _ _ _ _ _
  repeat refine cw_seq ?_
  refine cw_region ?_
  refine rw_buildS0 Tryz.underlying22 Tryz.sizeOf2 S ?_
  intro A_l w7_ g7_ S sa_l
  refine rw_v (op_pure rfl) ?_
  first | refine rw_end ?_ | (refine rw_nil ?_; show CW _ _ _ _ _ _) | refine rw_nil ?_
  repeat refine cw_seq ?_
  refine cw_region ?_
  refine rw_v (op_fieldAddr Tryz.underlying38 rfl Tryz.sizeOf2 rfl rfl) ?_
  refine rw_r (op_loadB Tryz.underlying2 rfl rfl (S.blk (i := 1) rfl) rfl) ?_
  refine rw_v (op_pure rfl) ?_
  first | refine rw_end ?_ | (refine rw_nil ?_; show CW _ _ _ _ _ _) | refine rw_nil ?_
  repeat refine cw_seq ?_
  refine cw_block ?_
  repeat refine cw_seq ?_
  refine cw_loop (fun m e w => ∃ (y : Nat) (L : List Int) (A_l : Option Addr) (c_l : Nat), y + m = y1 + 1 ∧ y0 ≤ y ∧ L.length = (y - y0) * nx ∧ IsVals V gw x0 y0 x1 y1 y x0 L ∧ SL e [(2, .pointer (some ⟨b_md, 0, none⟩)), (3, .pointer (some ⟨b_r, 0, none⟩)), (7, .slice A_l L.length c_l), (8, .int .i64 y)] ∧
    St No W w [.row 2 1 A_l L.length c_l (ints L), .blk b_r 38 [.int .i64 x0, .int .i64 y0, .int .i64 x1, .int .i64 y1], .blk b_md 25 [.int .i64 gw, .int .i64 gh, .slice A (gw * gh) cap]]) (y1 + 1 - y0)
    ⟨y0, [], A_l, _, by omega, Nat.le_refl _, by simp, ⟨fun v hv => (nomatch hv), fun a b h hlt => by unfold boxP at h; omega⟩, ⟨rfl, rfl, rfl, rfl, trivial⟩, S⟩ ?_
  clear S
  rintro m e w ⟨y, L, A_l, c_l, hym, hy0, hLl, hL, hsl, S⟩
  rw [hsl.fold]
  by_cases hyn : y ≤ y1
  · have hq : (y - y0 + 1) * nx ≤ 1024 * 1024 := Nat.mul_le_mul (by omega) (by omega)
    rw [Nat.succ_mul, ← hLl] at hq
    obtain ⟨q, hqe⟩ : ∃ q, q = L.length := ⟨_, rfl⟩
    repeat refine cw_seq ?_
    refine cw_region ?_
    refine rw_v (op_pure rfl) ?_
    refine rw_v (op_fieldAddr Tryz.underlying38 rfl Tryz.sizeOf2 rfl rfl) ?_
    refine rw_r (op_loadB Tryz.underlying2 rfl rfl (S.blk (i := 1) rfl) rfl) ?_
    refine rw_v (op_b (b := true) rfl (decide_eq_true (by omega))) ?_
    first | refine rw_end ?_ | (refine rw_nil ?_; show CW _ _ _ _ _ _) | refine rw_nil ?_
    repeat refine cw_seq ?_
    refine cw_true rfl ?_
    repeat refine cw_seq ?_
    refine cw_skip ?_
    try show CW _ _ _ _ _ _
    repeat refine cw_seq ?_
    refine cw_block ?_
    repeat refine cw_seq ?_
    refine cw_region ?_
    refine rw_v (op_fieldAddr Tryz.underlying38 rfl Tryz.sizeOf2 rfl rfl) ?_
    refine rw_r (op_loadB Tryz.underlying2 rfl rfl (S.blk (i := 1) rfl) rfl) ?_
    refine rw_v (op_pure rfl) ?_
    first | refine rw_end ?_ | (refine rw_nil ?_; show CW _ _ _ _ _ _) | refine rw_nil ?_
    repeat refine cw_seq ?_
    refine cw_block ?_
    repeat refine cw_seq ?_
    refine cw_loop (fun m e w => ∃ (x : Nat) (L : List Int) (A_l : Option Addr) (c_l : Nat), x + m = x1 + 1 ∧ x0 ≤ x ∧ L.length = q + (x - x0) ∧ IsVals V gw x0 y0 x1 y1 y x L ∧ SL e [(2, .pointer (some ⟨b_md, 0, none⟩)), (3, .pointer (some ⟨b_r, 0, none⟩)), (7, .slice A_l L.length c_l), (8, .int .i64 y), (9, .int .i64 x)] ∧
      St No W w [.row 2 1 A_l L.length c_l (ints L), .blk b_r 38 [.int .i64 x0, .int .i64 y0, .int .i64 x1, .int .i64 y1], .blk b_md 25 [.int .i64 gw, .int .i64 gh, .slice A (gw * gh) cap]]) (x1 + 1 - x0)
      ⟨x0, L, A_l, c_l, by omega, Nat.le_refl _, by omega, hL, ⟨rfl, rfl, rfl, rfl, rfl, trivial⟩, S⟩ ?_
    rw [← hqe] at hq
    rw [← hqe] at hLl
    clear S hL
    rintro m2 e w ⟨x, L, A_l, c_l, hxm, hx0, hLx, hL, hsl, S⟩
    rw [hsl.fold]
    by_cases hxn : x ≤ x1
    · have hlt : y * gw + x < gw * gh := by
        have := Nat.mul_le_mul_right gw (show y + 1 ≤ gh by omega)
        rw [Nat.succ_mul, Nat.mul_comm gh] at this
        omega
      have e1 : (y : Int) * (gw : Int) = ((y * gw : Nat) : Int) := by push_cast; rfl
      have hcv : cellV V gw x y = V.getD (y * gw + x) 0 := rfl
      have hpush := hL.push (by unfold boxP; omega)
      rw [hcv] at hpush
      generalize y * gw = yg at *
      have hget : (ints V)[((yg : Int) + (x : Int)).toNat * 1]? = some (.int .i64 (V.getD (yg + x) 0)) := by rw [Nat.mul_one, show ((yg : Int) + (x : Int)).toNat = yg + x by omega]; exact ints_get (getD_at (by omega))
      repeat refine cw_seq ?_
      refine cw_region ?_
      refine rw_v (op_pure rfl) ?_
      refine rw_v (op_fieldAddr Tryz.underlying38 rfl Tryz.sizeOf2 rfl rfl) ?_
      refine rw_r (op_loadB Tryz.underlying2 rfl rfl (S.blk (i := 1) rfl) rfl) ?_
      refine rw_v (op_b (b := true) rfl (decide_eq_true (by omega))) ?_
      first | refine rw_end ?_ | (refine rw_nil ?_; show CW _ _ _ _ _ _) | refine rw_nil ?_
      repeat refine cw_seq ?_
      refine cw_true rfl ?_
      repeat refine cw_seq ?_
      refine cw_skip ?_
      try show CW _ _ _ _ _ _
      repeat refine cw_seq ?_
      refine cw_block ?_
      repeat refine cw_seq ?_
      refine cw_region ?_
      refine rw_v (op_pure rfl) ?_
      refine rw_v (op_fieldAddr Tryz.underlying25 rfl Tryz.sizeOf22 rfl rfl) ?_
      refine rw_r (op_loadB Tryz.underlying22 rfl rfl (S.blk (i := 2) rfl) rfl) ?_
      refine rw_v (op_pure rfl) ?_
      refine rw_v (op_fieldAddr Tryz.underlying25 rfl Tryz.sizeOf2 rfl rfl) ?_
      refine rw_r (op_loadB Tryz.underlying2 rfl rfl (S.blk (i := 2) rfl) rfl) ?_
      refine rw_v (op_rng rfl (by rw [e1]; omega)) ?_
      rw [e1]
      refine rw_v (op_pure rfl) ?_
      refine rw_v (op_rng rfl (by omega)) ?_
      refine rw_v (op_idx Tryz.underlying22 Tryz.sizeOf2 rfl rfl sa_A (by omega) (by omega)) ?_
      refine rw_r (op_ldR Tryz.underlying2 rfl rfl (hA.gr S.out) hget) ?_
      refine rw_buildS Tryz.underlying22 Tryz.sizeOf2 Tryz.zeroValue2 rfl rfl rfl rfl rfl rfl S ?_
      intro A_lit w9_ g9_ S sa_lit
      refine rw_appS (i := 1) S rfl (fun h => rfl) Tryz.underlying22 info_t2 rfl rfl rfl rfl (by simp) (by omega) (S.rd (i := 0) rfl) rfl (by omega) ?_
      intro A_l2 c_l2 w10_ S sa_l
      refine rw_v (op_pure rfl) ?_
      first | refine rw_end ?_ | (refine rw_nil ?_; show CW _ _ _ _ _ _) | refine rw_nil ?_
      repeat refine cw_seq ?_
      refine cw_region ?_
      refine rw_v (op_pure rfl) ?_
      refine rw_v (op_rng rfl (by omega)) ?_
      refine rw_v (op_pure rfl) ?_
      first | refine rw_end ?_ | (refine rw_nil ?_; show CW _ _ _ _ _ _) | refine rw_nil ?_
      have S := S.sub (.cons _ (.cons_cons _ (.cons_cons _ (.cons_cons _ (.slnil)))))
      refine ⟨m2 - 1, by omega, x + 1, L ++ [V.getD (yg + x) 0], A_l2, c_l2, by omega, by omega, by simp; omega, hpush, ⟨rfl, rfl, ?_, rfl, ie (by omega), trivial⟩, ?_⟩
      · rw [List.length_append]; rfl
      · rw [List.length_append, ← ints_app]; exact S
    · have ex : x = x1 + 1 := by omega
      repeat refine cw_seq ?_
      refine cw_region ?_
      refine rw_v (op_pure rfl) ?_
      refine rw_v (op_fieldAddr Tryz.underlying38 rfl Tryz.sizeOf2 rfl rfl) ?_
      refine rw_r (op_loadB Tryz.underlying2 rfl rfl (S.blk (i := 1) rfl) rfl) ?_
      refine rw_v (op_b (b := false) rfl (decide_eq_false (by omega))) ?_
      first | refine rw_end ?_ | (refine rw_nil ?_; show CW _ _ _ _ _ _) | refine rw_nil ?_
      repeat refine cw_seq ?_
      refine cw_false rfl ?_
      repeat refine cw_seq ?_
      refine cw_exit ?_
      repeat first | refine exit_then ?_ | refine exit_inb ?_
      show CW _ _ _ _ _ _
      repeat refine cw_seq ?_
      refine cw_region ?_
      refine rw_v (op_pure rfl) ?_
      refine rw_v (op_rng rfl (by omega)) ?_
      refine rw_v (op_pure rfl) ?_
      first | refine rw_end ?_ | (refine rw_nil ?_; show CW _ _ _ _ _ _) | refine rw_nil ?_
      exact ⟨m - 1, by omega, y + 1, L, A_l, c_l, by omega, by omega, by rw [show y + 1 - y0 = (y - y0) + 1 by omega, Nat.succ_mul]; omega, ⟨hL.of, fun a b hab hlt => hL.all a b hab (by unfold boxP at hab; omega)⟩, ⟨rfl, rfl, rfl, ie (by omega), trivial⟩, S⟩
  · have ey : y = y1 + 1 := by omega
    rw [ey] at hL hLl
    have hle : (y1 + 1 - y0) * nx ≤ 1024 * 1024 := Nat.mul_le_mul (by omega) (by omega)
    have hne : L ≠ [] := fun e => by
      have := hL.all x0 y0 (by unfold boxP; omega) (by omega)
      rw [e] at this
      cases this
    repeat refine cw_seq ?_
    refine cw_region ?_
    refine rw_v (op_pure rfl) ?_
    refine rw_v (op_fieldAddr Tryz.underlying38 rfl Tryz.sizeOf2 rfl rfl) ?_
    refine rw_r (op_loadB Tryz.underlying2 rfl rfl (S.blk (i := 1) rfl) rfl) ?_
    refine rw_v (op_b (b := false) rfl (decide_eq_false (by omega))) ?_
    first | refine rw_end ?_ | (refine rw_nil ?_; show CW _ _ _ _ _ _) | refine rw_nil ?_
    repeat refine cw_seq ?_
    refine cw_false rfl ?_
    repeat refine cw_seq ?_
    refine cw_exit ?_
    repeat first | refine exit_then ?_ | refine exit_inb ?_
    show CW _ _ _ _ _ _
    repeat refine cw_seq ?_
    refine cw_region ?_
    iterate 3 refine rw_v (op_pure rfl) ?_
    first | refine rw_end ?_ | (refine rw_nil ?_; show CW _ _ _ _ _ _) | refine rw_nil ?_
    repeat refine cw_seq ?_
    refine cw_ret ?_
    repeat first | refine ret_then ?_ | refine ret_inb ?_
    exact res2 rfl rfl ⟨L, ⟨hL, by omega, hne⟩, S.retNew (i := 0) (mk := fun s => .tuple #[s, .int .i64 0]) rfl⟩
set_option maxHeartbeats 2000000 in
theorem range8_E (L : List Int) (c : Nat) (hne : L ≠ []) (hlen : L.length ≤ 1048576) (hR : Rd W A (ints L)) :
    Fn Tryz.prog 39 [.slice A L.length c] W (fun v w' => ∃ lo hi, v = .agg #[.int .i64 lo, .int .i64 hi] ∧ RgL L lo hi ∧ Gr W w') := by
  have hl1 : 1 ≤ L.length := by
    cases L with
    | nil => exact absurd rfl hne
    | cons a l => simp
  have sa_A : SomeA A := hR.someA (by rw [ints_len]; omega)
  have hget0 : (ints L)[(0 : Int).toNat * 1]? = some (.int .i64 (L.getD 0 0)) := ints_get (getD_at (by omega))
  have htk : L.take 1 = [L.getD 0 0] := by
    cases L with
    | nil => exact absurd rfl hne
    | cons a l => simp
  have S := St.start W
  refine Fn_enter Tryz.func39 rfl Tryz.results39 Tryz.ntmps39 (by kernel_rfl) (by kernel_rfl) ?_
  repeat refine cw_seq ?_
  refine cw_region ?_
  refine rw_newB (op_alloc Tryz.zeroValue41 rfl) S ?_
  intro b_res w2_ g2_ S
  first | refine rw_end ?_ | (refine rw_nil ?_; show CW _ _ _ _ _ _) | refine rw_nil ?_
  repeat refine cw_seq ?_
  refine cw_region ?_
  refine rw_v (op_pure rfl) ?_
  refine rw_v (op_len Tryz.underlying22 rfl) ?_
  refine rw_v (op_b (b := false) rfl (beq_eq_false_iff_ne.2 (by omega))) ?_
  first | refine rw_end ?_ | (refine rw_nil ?_; show CW _ _ _ _ _ _) | refine rw_nil ?_
  repeat refine cw_seq ?_
  refine cw_false rfl ?_
  repeat refine cw_seq ?_
  refine cw_skip ?_
  try show CW _ _ _ _ _ _
  repeat refine cw_seq ?_
  refine cw_tri (C := (CA No W [.blk b_res 41 [.int .i64 0, .int .i64 0]] 41 [.int .i64 0, .int .i64 0] [.int .i64 (L.getD 0 0), .int .i64 (L.getD 0 0)])) [7, 8] [0, 1, 2, 3, 4, 5, 6, 7, 8] [] (by kernel_rfl) (by kernel_rfl) (CA.start (S.gr (Gr.drew _))) ?_
  simp only [pickI, pickL, List.drop_succ_cons, List.drop_zero]
  refine rs_v rfl (op_pure rfl) ?_
  refine rs_v rfl (op_idx Tryz.underlying22 Tryz.sizeOf2 rfl rfl sa_A (by omega) (by omega)) ?_
  refine rs_r rfl (fun τ wq hq => op_ldR Tryz.underlying2 rfl rfl (hR.gr (CA.st hq).out) hget0) ?_
  refine rs_v rfl (op_pure rfl) ?_
  refine rs_v rfl (op_idx Tryz.underlying22 Tryz.sizeOf2 rfl rfl sa_A (by omega) (by omega)) ?_
  refine rs_r rfl (fun τ wq hq => op_ldR Tryz.underlying2 rfl rfl (hR.gr (CA.st hq).out) hget0) ?_
  refine rs_v rfl (op_build (pl := [(0, 1), (1, 1)]) Tryz.underlying41 Tryz.zeroValue41 (fun w => by kernel_rfl) rfl rfl) ?_
  refine rs_special rfl rfl (fun wq hq => to_allocCA hq Tryz.zeroValue41 rfl) ?_
  rintro v14 w14 ⟨b_r, rfl, _⟩
  refine rs_special rfl rfl (fun wq hq => to_storeCA hq (Tryz.sizeOf41 _) rfl rfl rfl rfl rfl) ?_
  rintro v15 w15 _
  refine rs_nil ?_
  rintro wz hz
  first | refine rw_end ?_ | (refine rw_nil ?_; show CW _ _ _ _ _ _) | refine rw_nil ?_
  repeat refine cw_seq ?_
  refine cw_region ?_
  obtain ⟨b_r2, e_r2, S⟩ := hz.fin
  cases e_r2
  refine rw_v (op_pure rfl) ?_
  first | refine rw_end ?_ | (refine rw_nil ?_; show CW _ _ _ _ _ _) | refine rw_nil ?_
  repeat refine cw_seq ?_
  refine cw_block ?_
  repeat refine cw_seq ?_
  refine cw_loop (fun m e w => ∃ (i : Nat) (lo hi : Int), i + m = L.length ∧ 1 ≤ i ∧ RgL (L.take i) lo hi ∧ SL e [(0, .slice A L.length c), (2, .pointer (some ⟨b_res, 0, none⟩)), (3, .pointer (some ⟨b_r, 0, none⟩)), (4, .int .i64 i)] ∧
    St No W w [.blk b_r 41 [.int .i64 lo, .int .i64 hi], .blk b_res 41 [.int .i64 0, .int .i64 0]]) (L.length - 1)
    ⟨1, L.getD 0 0, L.getD 0 0, by omega, by omega, by rw [htk]; exact ⟨fun v hv => by rw [List.mem_singleton.1 hv]; omega, by simp, by simp⟩, ⟨rfl, rfl, rfl, rfl, trivial⟩, S⟩ ?_
  clear S
  rintro m e w ⟨i, lo, hi, him, hi1, hL, hsl, S⟩
  rw [hsl.fold]
  by_cases hin : i < L.length
  · have hget : (ints L)[(i : Int).toNat * 1]? = some (.int .i64 (L.getD i 0)) := by rw [Nat.mul_one, Int.toNat_natCast]; exact ints_get (getD_at hin)
    have htk1 : L.take (i + 1) = L.take i ++ [L.getD i 0] := by
      rw [List.take_add_one, getD_at hin]; rfl
    have hpush := fun lo' hi' (e1 : lo' = min lo (L.getD i 0)) (e2 : hi' = max hi (L.getD i 0)) => hL.push (v := L.getD i 0) e1 e2
    rw [← htk1] at hpush
    generalize L.getD i 0 = v at *
    by_cases c1 : v < lo
    · by_cases c2 : v > hi
      · skip
        repeat refine cw_seq ?_
        refine cw_region ?_
        iterate 2 refine rw_v (op_pure rfl) ?_
        refine rw_v (op_len Tryz.underlying22 rfl) ?_
        refine rw_v (op_b (b := true) rfl (decide_eq_true (by omega))) ?_
        first | refine rw_end ?_ | (refine rw_nil ?_; show CW _ _ _ _ _ _) | refine rw_nil ?_
        repeat refine cw_seq ?_
        refine cw_true rfl ?_
        repeat refine cw_seq ?_
        refine cw_skip ?_
        try show CW _ _ _ _ _ _
        repeat refine cw_seq ?_
        refine cw_block ?_
        repeat refine cw_seq ?_
        refine cw_draw (C := fun wq => Gr w wq) [0, 1, 2, 3, 4, 5, 6] [] (by kernel_rfl) (by kernel_rfl) (Gr.drew _) ?_
        simp only [pickL, List.drop_succ_cons, List.drop_zero]
        iterate 2 refine rq_v (op_pure rfl) ?_
        refine rq_v (op_idx Tryz.underlying22 Tryz.sizeOf2 rfl rfl sa_A (by omega) (by omega)) ?_
        refine rq_r (fun wq hq => op_ldR Tryz.underlying2 rfl rfl (hR.gr (S.gr hq).out) hget) ?_
        refine rq_v (op_fieldAddr Tryz.underlying41 rfl Tryz.sizeOf2 rfl rfl) ?_
        refine rq_r (fun wq hq => op_loadB Tryz.underlying2 rfl rfl ((S.gr hq).blk (i := 0) rfl) rfl) ?_
        first | refine rq_v (op_b (b := true) rfl (decide_eq_true (by omega))) ?_ | refine rq_v (op_b (b := false) rfl (decide_eq_false (by omega))) ?_ | refine rq_v (op_pure rfl) ?_
        refine rq_nil ?_
        intro w4_ g4_
        have S := S.gr g4_
        first | refine rw_end ?_ | (refine rw_nil ?_; show CW _ _ _ _ _ _) | refine rw_nil ?_
        repeat refine cw_seq ?_
        refine cw_true rfl ?_
        repeat refine cw_seq ?_
        refine cw_region ?_
        iterate 2 refine rw_v (op_pure rfl) ?_
        refine rw_v (op_idx Tryz.underlying22 Tryz.sizeOf2 rfl rfl sa_A (by omega) (by omega)) ?_
        refine rw_r (op_ldR Tryz.underlying2 rfl rfl (hR.gr S.out) hget) ?_
        refine rw_v (op_fieldAddr Tryz.underlying41 rfl Tryz.sizeOf2 rfl rfl) ?_
        refine rw_storeS (i := 0) S rfl (Tryz.sizeOf2 _) rfl rfl rfl rfl rfl rfl ?_
        intro w5_ S
        first | refine rw_end ?_ | (refine rw_nil ?_; show CW _ _ _ _ _ _) | refine rw_nil ?_
        repeat refine cw_seq ?_
        refine cw_draw (C := fun wq => Gr w5_ wq) [0, 1, 2, 3, 4, 5, 6] [] (by kernel_rfl) (by kernel_rfl) (Gr.drew _) ?_
        simp only [pickL, List.drop_succ_cons, List.drop_zero]
        iterate 2 refine rq_v (op_pure rfl) ?_
        refine rq_v (op_idx Tryz.underlying22 Tryz.sizeOf2 rfl rfl sa_A (by omega) (by omega)) ?_
        refine rq_r (fun wq hq => op_ldR Tryz.underlying2 rfl rfl (hR.gr (S.gr hq).out) hget) ?_
        refine rq_v (op_fieldAddr Tryz.underlying41 rfl Tryz.sizeOf2 rfl rfl) ?_
        refine rq_r (fun wq hq => op_loadB Tryz.underlying2 rfl rfl ((S.gr hq).blk (i := 0) rfl) rfl) ?_
        first | refine rq_v (op_b (b := true) rfl (decide_eq_true (by omega))) ?_ | refine rq_v (op_b (b := false) rfl (decide_eq_false (by omega))) ?_ | refine rq_v (op_pure rfl) ?_
        refine rq_nil ?_
        intro w6_ g6_
        have S := S.gr g6_
        first | refine rw_end ?_ | (refine rw_nil ?_; show CW _ _ _ _ _ _) | refine rw_nil ?_
        repeat refine cw_seq ?_
        refine cw_true rfl ?_
        repeat refine cw_seq ?_
        refine cw_region ?_
        iterate 2 refine rw_v (op_pure rfl) ?_
        refine rw_v (op_idx Tryz.underlying22 Tryz.sizeOf2 rfl rfl sa_A (by omega) (by omega)) ?_
        refine rw_r (op_ldR Tryz.underlying2 rfl rfl (hR.gr S.out) hget) ?_
        refine rw_v (op_fieldAddr Tryz.underlying41 rfl Tryz.sizeOf2 rfl rfl) ?_
        refine rw_storeS (i := 0) S rfl (Tryz.sizeOf2 _) rfl rfl rfl rfl rfl rfl ?_
        intro w7_ S
        first | refine rw_end ?_ | (refine rw_nil ?_; show CW _ _ _ _ _ _) | refine rw_nil ?_
        repeat refine cw_seq ?_
        refine cw_region ?_
        refine rw_v (op_pure rfl) ?_
        refine rw_v (op_rng rfl (by omega)) ?_
        refine rw_v (op_pure rfl) ?_
        first | refine rw_end ?_ | (refine rw_nil ?_; show CW _ _ _ _ _ _) | refine rw_nil ?_
        exact ⟨m - 1, by omega, i + 1, v, v, by omega, by omega, hpush _ _ (by omega) (by omega), ⟨rfl, rfl, rfl, ie (by omega), trivial⟩, S⟩
      · skip
        repeat refine cw_seq ?_
        refine cw_region ?_
        iterate 2 refine rw_v (op_pure rfl) ?_
        refine rw_v (op_len Tryz.underlying22 rfl) ?_
        refine rw_v (op_b (b := true) rfl (decide_eq_true (by omega))) ?_
        first | refine rw_end ?_ | (refine rw_nil ?_; show CW _ _ _ _ _ _) | refine rw_nil ?_
        repeat refine cw_seq ?_
        refine cw_true rfl ?_
        repeat refine cw_seq ?_
        refine cw_skip ?_
        try show CW _ _ _ _ _ _
        repeat refine cw_seq ?_
        refine cw_block ?_
        repeat refine cw_seq ?_
        refine cw_draw (C := fun wq => Gr w wq) [0, 1, 2, 3, 4, 5, 6] [] (by kernel_rfl) (by kernel_rfl) (Gr.drew _) ?_
        simp only [pickL, List.drop_succ_cons, List.drop_zero]
        iterate 2 refine rq_v (op_pure rfl) ?_
        refine rq_v (op_idx Tryz.underlying22 Tryz.sizeOf2 rfl rfl sa_A (by omega) (by omega)) ?_
        refine rq_r (fun wq hq => op_ldR Tryz.underlying2 rfl rfl (hR.gr (S.gr hq).out) hget) ?_
        refine rq_v (op_fieldAddr Tryz.underlying41 rfl Tryz.sizeOf2 rfl rfl) ?_
        refine rq_r (fun wq hq => op_loadB Tryz.underlying2 rfl rfl ((S.gr hq).blk (i := 0) rfl) rfl) ?_
        first | refine rq_v (op_b (b := true) rfl (decide_eq_true (by omega))) ?_ | refine rq_v (op_b (b := false) rfl (decide_eq_false (by omega))) ?_ | refine rq_v (op_pure rfl) ?_
        refine rq_nil ?_
        intro w8_ g8_
        have S := S.gr g8_
        first | refine rw_end ?_ | (refine rw_nil ?_; show CW _ _ _ _ _ _) | refine rw_nil ?_
        repeat refine cw_seq ?_
        refine cw_true rfl ?_
        repeat refine cw_seq ?_
        refine cw_region ?_
        iterate 2 refine rw_v (op_pure rfl) ?_
        refine rw_v (op_idx Tryz.underlying22 Tryz.sizeOf2 rfl rfl sa_A (by omega) (by omega)) ?_
        refine rw_r (op_ldR Tryz.underlying2 rfl rfl (hR.gr S.out) hget) ?_
        refine rw_v (op_fieldAddr Tryz.underlying41 rfl Tryz.sizeOf2 rfl rfl) ?_
        refine rw_storeS (i := 0) S rfl (Tryz.sizeOf2 _) rfl rfl rfl rfl rfl rfl ?_
        intro w9_ S
        first | refine rw_end ?_ | (refine rw_nil ?_; show CW _ _ _ _ _ _) | refine rw_nil ?_
        repeat refine cw_seq ?_
        refine cw_draw (C := fun wq => Gr w9_ wq) [0, 1, 2, 3, 4, 5, 6] [] (by kernel_rfl) (by kernel_rfl) (Gr.drew _) ?_
        simp only [pickL, List.drop_succ_cons, List.drop_zero]
        iterate 2 refine rq_v (op_pure rfl) ?_
        refine rq_v (op_idx Tryz.underlying22 Tryz.sizeOf2 rfl rfl sa_A (by omega) (by omega)) ?_
        refine rq_r (fun wq hq => op_ldR Tryz.underlying2 rfl rfl (hR.gr (S.gr hq).out) hget) ?_
        refine rq_v (op_fieldAddr Tryz.underlying41 rfl Tryz.sizeOf2 rfl rfl) ?_
        refine rq_r (fun wq hq => op_loadB Tryz.underlying2 rfl rfl ((S.gr hq).blk (i := 0) rfl) rfl) ?_
        first | refine rq_v (op_b (b := true) rfl (decide_eq_true (by omega))) ?_ | refine rq_v (op_b (b := false) rfl (decide_eq_false (by omega))) ?_ | refine rq_v (op_pure rfl) ?_
        refine rq_nil ?_
        intro w10_ g10_
        have S := S.gr g10_
        first | refine rw_end ?_ | (refine rw_nil ?_; show CW _ _ _ _ _ _) | refine rw_nil ?_
        repeat refine cw_seq ?_
        refine cw_false rfl ?_
        repeat refine cw_seq ?_
        refine cw_skip ?_
        try show CW _ _ _ _ _ _
        repeat refine cw_seq ?_
        refine cw_region ?_
        refine rw_v (op_pure rfl) ?_
        refine rw_v (op_rng rfl (by omega)) ?_
        refine rw_v (op_pure rfl) ?_
        first | refine rw_end ?_ | (refine rw_nil ?_; show CW _ _ _ _ _ _) | refine rw_nil ?_
        exact ⟨m - 1, by omega, i + 1, v, hi, by omega, by omega, hpush _ _ (by omega) (by omega), ⟨rfl, rfl, rfl, ie (by omega), trivial⟩, S⟩
    · by_cases c2 : v > hi
      · skip
        repeat refine cw_seq ?_
        refine cw_region ?_
        iterate 2 refine rw_v (op_pure rfl) ?_
        refine rw_v (op_len Tryz.underlying22 rfl) ?_
        refine rw_v (op_b (b := true) rfl (decide_eq_true (by omega))) ?_
        first | refine rw_end ?_ | (refine rw_nil ?_; show CW _ _ _ _ _ _) | refine rw_nil ?_
        repeat refine cw_seq ?_
        refine cw_true rfl ?_
        repeat refine cw_seq ?_
        refine cw_skip ?_
        try show CW _ _ _ _ _ _
        repeat refine cw_seq ?_
        refine cw_block ?_
        repeat refine cw_seq ?_
        refine cw_draw (C := fun wq => Gr w wq) [0, 1, 2, 3, 4, 5, 6] [] (by kernel_rfl) (by kernel_rfl) (Gr.drew _) ?_
        simp only [pickL, List.drop_succ_cons, List.drop_zero]
        iterate 2 refine rq_v (op_pure rfl) ?_
        refine rq_v (op_idx Tryz.underlying22 Tryz.sizeOf2 rfl rfl sa_A (by omega) (by omega)) ?_
        refine rq_r (fun wq hq => op_ldR Tryz.underlying2 rfl rfl (hR.gr (S.gr hq).out) hget) ?_
        refine rq_v (op_fieldAddr Tryz.underlying41 rfl Tryz.sizeOf2 rfl rfl) ?_
        refine rq_r (fun wq hq => op_loadB Tryz.underlying2 rfl rfl ((S.gr hq).blk (i := 0) rfl) rfl) ?_
        first | refine rq_v (op_b (b := true) rfl (decide_eq_true (by omega))) ?_ | refine rq_v (op_b (b := false) rfl (decide_eq_false (by omega))) ?_ | refine rq_v (op_pure rfl) ?_
        refine rq_nil ?_
        intro w11_ g11_
        have S := S.gr g11_
        first | refine rw_end ?_ | (refine rw_nil ?_; show CW _ _ _ _ _ _) | refine rw_nil ?_
        repeat refine cw_seq ?_
        refine cw_false rfl ?_
        repeat refine cw_seq ?_
        refine cw_skip ?_
        try show CW _ _ _ _ _ _
        repeat refine cw_seq ?_
        refine cw_draw (C := fun wq => Gr w11_ wq) [0, 1, 2, 3, 4, 5, 6] [] (by kernel_rfl) (by kernel_rfl) (Gr.drew _) ?_
        simp only [pickL, List.drop_succ_cons, List.drop_zero]
        iterate 2 refine rq_v (op_pure rfl) ?_
        refine rq_v (op_idx Tryz.underlying22 Tryz.sizeOf2 rfl rfl sa_A (by omega) (by omega)) ?_
        refine rq_r (fun wq hq => op_ldR Tryz.underlying2 rfl rfl (hR.gr (S.gr hq).out) hget) ?_
        refine rq_v (op_fieldAddr Tryz.underlying41 rfl Tryz.sizeOf2 rfl rfl) ?_
        refine rq_r (fun wq hq => op_loadB Tryz.underlying2 rfl rfl ((S.gr hq).blk (i := 0) rfl) rfl) ?_
        first | refine rq_v (op_b (b := true) rfl (decide_eq_true (by omega))) ?_ | refine rq_v (op_b (b := false) rfl (decide_eq_false (by omega))) ?_ | refine rq_v (op_pure rfl) ?_
        refine rq_nil ?_
        intro w12_ g12_
        have S := S.gr g12_
        first | refine rw_end ?_ | (refine rw_nil ?_; show CW _ _ _ _ _ _) | refine rw_nil ?_
        repeat refine cw_seq ?_
        refine cw_true rfl ?_
        repeat refine cw_seq ?_
        refine cw_region ?_
        iterate 2 refine rw_v (op_pure rfl) ?_
        refine rw_v (op_idx Tryz.underlying22 Tryz.sizeOf2 rfl rfl sa_A (by omega) (by omega)) ?_
        refine rw_r (op_ldR Tryz.underlying2 rfl rfl (hR.gr S.out) hget) ?_
        refine rw_v (op_fieldAddr Tryz.underlying41 rfl Tryz.sizeOf2 rfl rfl) ?_
        refine rw_storeS (i := 0) S rfl (Tryz.sizeOf2 _) rfl rfl rfl rfl rfl rfl ?_
        intro w13_ S
        first | refine rw_end ?_ | (refine rw_nil ?_; show CW _ _ _ _ _ _) | refine rw_nil ?_
        repeat refine cw_seq ?_
        refine cw_region ?_
        refine rw_v (op_pure rfl) ?_
        refine rw_v (op_rng rfl (by omega)) ?_
        refine rw_v (op_pure rfl) ?_
        first | refine rw_end ?_ | (refine rw_nil ?_; show CW _ _ _ _ _ _) | refine rw_nil ?_
        exact ⟨m - 1, by omega, i + 1, lo, v, by omega, by omega, hpush _ _ (by omega) (by omega), ⟨rfl, rfl, rfl, ie (by omega), trivial⟩, S⟩
      · skip
        repeat refine cw_seq ?_
        refine cw_region ?_
        iterate 2 refine rw_v (op_pure rfl) ?_
        refine rw_v (op_len Tryz.underlying22 rfl) ?_
        refine rw_v (op_b (b := true) rfl (decide_eq_true (by omega))) ?_
        first | refine rw_end ?_ | (refine rw_nil ?_; show CW _ _ _ _ _ _) | refine rw_nil ?_
        repeat refine cw_seq ?_
        refine cw_true rfl ?_
        repeat refine cw_seq ?_
        refine cw_skip ?_
        try show CW _ _ _ _ _ _
        repeat refine cw_seq ?_
        refine cw_block ?_
        repeat refine cw_seq ?_
        refine cw_draw (C := fun wq => Gr w wq) [0, 1, 2, 3, 4, 5, 6] [] (by kernel_rfl) (by kernel_rfl) (Gr.drew _) ?_
        simp only [pickL, List.drop_succ_cons, List.drop_zero]
        iterate 2 refine rq_v (op_pure rfl) ?_
        refine rq_v (op_idx Tryz.underlying22 Tryz.sizeOf2 rfl rfl sa_A (by omega) (by omega)) ?_
        refine rq_r (fun wq hq => op_ldR Tryz.underlying2 rfl rfl (hR.gr (S.gr hq).out) hget) ?_
        refine rq_v (op_fieldAddr Tryz.underlying41 rfl Tryz.sizeOf2 rfl rfl) ?_
        refine rq_r (fun wq hq => op_loadB Tryz.underlying2 rfl rfl ((S.gr hq).blk (i := 0) rfl) rfl) ?_
        first | refine rq_v (op_b (b := true) rfl (decide_eq_true (by omega))) ?_ | refine rq_v (op_b (b := false) rfl (decide_eq_false (by omega))) ?_ | refine rq_v (op_pure rfl) ?_
        refine rq_nil ?_
        intro w14_ g14_
        have S := S.gr g14_
        first | refine rw_end ?_ | (refine rw_nil ?_; show CW _ _ _ _ _ _) | refine rw_nil ?_
        repeat refine cw_seq ?_
        refine cw_false rfl ?_
        repeat refine cw_seq ?_
        refine cw_skip ?_
        try show CW _ _ _ _ _ _
        repeat refine cw_seq ?_
        refine cw_draw (C := fun wq => Gr w14_ wq) [0, 1, 2, 3, 4, 5, 6] [] (by kernel_rfl) (by kernel_rfl) (Gr.drew _) ?_
        simp only [pickL, List.drop_succ_cons, List.drop_zero]
        iterate 2 refine rq_v (op_pure rfl) ?_
        refine rq_v (op_idx Tryz.underlying22 Tryz.sizeOf2 rfl rfl sa_A (by omega) (by omega)) ?_
        refine rq_r (fun wq hq => op_ldR Tryz.underlying2 rfl rfl (hR.gr (S.gr hq).out) hget) ?_
        refine rq_v (op_fieldAddr Tryz.underlying41 rfl Tryz.sizeOf2 rfl rfl) ?_
        refine rq_r (fun wq hq => op_loadB Tryz.underlying2 rfl rfl ((S.gr hq).blk (i := 0) rfl) rfl) ?_
        first | refine rq_v (op_b (b := true) rfl (decide_eq_true (by omega))) ?_ | refine rq_v (op_b (b := false) rfl (decide_eq_false (by omega))) ?_ | refine rq_v (op_pure rfl) ?_
        refine rq_nil ?_
        intro w15_ g15_
        have S := S.gr g15_
        first | refine rw_end ?_ | (refine rw_nil ?_; show CW _ _ _ _ _ _) | refine rw_nil ?_
        repeat refine cw_seq ?_
        refine cw_false rfl ?_
        repeat refine cw_seq ?_
        refine cw_skip ?_
        try show CW _ _ _ _ _ _
        repeat refine cw_seq ?_
        refine cw_region ?_
        refine rw_v (op_pure rfl) ?_
        refine rw_v (op_rng rfl (by omega)) ?_
        refine rw_v (op_pure rfl) ?_
        first | refine rw_end ?_ | (refine rw_nil ?_; show CW _ _ _ _ _ _) | refine rw_nil ?_
        exact ⟨m - 1, by omega, i + 1, lo, hi, by omega, by omega, hpush _ _ (by omega) (by omega), ⟨rfl, rfl, rfl, ie (by omega), trivial⟩, S⟩
  · have ei : i = L.length := by omega
    rw [ei, List.take_length] at hL
    repeat refine cw_seq ?_
    refine cw_region ?_
    iterate 2 refine rw_v (op_pure rfl) ?_
    refine rw_v (op_len Tryz.underlying22 rfl) ?_
    refine rw_v (op_b (b := false) rfl (decide_eq_false (by omega))) ?_
    first | refine rw_end ?_ | (refine rw_nil ?_; show CW _ _ _ _ _ _) | refine rw_nil ?_
    repeat refine cw_seq ?_
    refine cw_false rfl ?_
    repeat refine cw_seq ?_
    refine cw_exit ?_
    repeat first | refine exit_then ?_ | refine exit_inb ?_
    show CW _ _ _ _ _ _
    repeat refine cw_seq ?_
    refine cw_region ?_
    refine rw_r (op_loadAB Tryz.underlying41 rfl (Tryz.sizeOf41 _) rfl (S.blk (i := 0) rfl) rfl rfl) ?_
    refine rw_storeSA (i := 1) S rfl (Tryz.sizeOf41 _) rfl rfl rfl rfl rfl rfl ?_
    intro w16_ S
    first | refine rw_end ?_ | (refine rw_nil ?_; show CW _ _ _ _ _ _) | refine rw_nil ?_
    repeat refine cw_seq ?_
    refine cw_ret ?_
    repeat first | refine ret_then ?_ | refine ret_inb ?_
    exact resA Tryz.underlying41 rfl (Tryz.sizeOf41 _) rfl (S.blk (i := 1) rfl) rfl rfl ⟨lo, hi, rfl, hL, S.out⟩
theorem window44_E (i n : Nat) (nc cap : Nat) (hw : 1 ≤ gw ∧ gw ≤ 1024) (hh : 1 ≤ gh ∧ gh ≤ 1024) (hi : i < gw * gh) (hn : n ≤ 1024) : Fn Tryz.prog 38 [modV gw gh A nc cap, .int .i64 i, .int .i64 n] W (RetG (winW gw gh i n).val W) := by
  have e1 : (i : Int) % gw = ((i % gw : Nat) : Int) := by push_cast; rfl
  have e2 : (i : Int) / gw = ((i / gw : Nat) : Int) := by push_cast; rfl
  have hm : gw * gh ≤ 1024 * 1024 := Nat.mul_le_mul hw.2 hh.2
  unfold modV
  have S := St.start W
  refine Fn_enter Tryz.func38 rfl Tryz.results38 Tryz.ntmps38 (by kernel_rfl) (by kernel_rfl) ?_
  repeat refine cw_seq ?_
  refine cw_region ?_
  refine rw_newB (op_box rfl) S ?_
  intro b_md w2_ g2_ S
  refine rw_newB (op_alloc Tryz.zeroValue38 rfl) S ?_
  intro b_res w4_ g4_ S
  first | refine rw_end ?_ | (refine rw_nil ?_; show CW _ _ _ _ _ _) | refine rw_nil ?_
  repeat refine cw_seq ?_
  refine cw_tri (C := (CA No W [.blk b_res 38 [.int .i64 0, .int .i64 0, .int .i64 0, .int .i64 0], .blk b_md 25 [.int .i64 gw, .int .i64 gh, .slice A nc cap]] 38 [.int .i64 0, .int .i64 0, .int .i64 0, .int .i64 0] [.int .i64 (winW gw gh i n).x0, .int .i64 (winW gw gh i n).y0, .int .i64 (winW gw gh i n).x1, .int .i64 (winW gw gh i n).y1])) [18, 19] [0, 1, 2, 3, 4, 5, 6, 7, 8, 9, 10, 11, 12, 13, 14, 15, 16, 17, 18, 19] [20] (by kernel_rfl) (by kernel_rfl) (CA.start (S.gr (Gr.drew _))) ?_
  simp only [pickI, pickL, List.drop_succ_cons, List.drop_zero]
  refine rs_v rfl (op_pure rfl) ?_
  refine rs_v rfl (op_fieldAddr Tryz.underlying25 rfl Tryz.sizeOf2 rfl rfl) ?_
  refine rs_r rfl (fun τ wq hq => op_loadB Tryz.underlying2 rfl rfl ((CA.st hq).blk (i := 1) rfl) rfl) ?_
  refine rs_v rfl (op_rem rfl rfl (by omega) (by omega)) ?_
  rw [e1]
  refine rs_v rfl (op_pure rfl) ?_
  refine rs_v rfl (op_fieldAddr Tryz.underlying25 rfl Tryz.sizeOf2 rfl rfl) ?_
  refine rs_r rfl (fun τ wq hq => op_loadB Tryz.underlying2 rfl rfl ((CA.st hq).blk (i := 1) rfl) rfl) ?_
  refine rs_v rfl (op_div rfl rfl (by omega) (by omega)) ?_
  rw [e2]
  refine rs_v rfl (op_build (pl := [(0, 1), (1, 1)]) Tryz.underlying50 Tryz.zeroValue50 (fun w => by kernel_rfl) rfl rfl) ?_
  refine rs_v rfl (op_pure rfl) ?_
  refine rs_v rfl (op_fieldAddr Tryz.underlying25 rfl Tryz.sizeOf2 rfl rfl) ?_
  refine rs_r rfl (fun τ wq hq => op_loadB Tryz.underlying2 rfl rfl ((CA.st hq).blk (i := 1) rfl) rfl) ?_
  refine rs_v rfl (op_fieldAddr Tryz.underlying25 rfl Tryz.sizeOf2 rfl rfl) ?_
  refine rs_r rfl (fun τ wq hq => op_loadB Tryz.underlying2 rfl rfl ((CA.st hq).blk (i := 1) rfl) rfl) ?_
  refine rs_call rfl rfl (fun τ wq hq => (around44_E i n gw gh hw hh hi hn wq).mono (fun _ _ ⟨hv, hg⟩ => ⟨hv, CA.gr hq hg⟩)) ?_
  refine rs_v rfl (op_pure rfl) ?_
  refine rs_v rfl (op_pure rfl) ?_
  refine rs_v rfl (op_pure rfl) ?_
  refine rs_special rfl rfl (fun wq hq => to_allocCA hq Tryz.zeroValue38 rfl) ?_
  rintro v14 w14 ⟨b_r, rfl, _⟩
  refine rs_special rfl rfl (fun wq hq => to_storeCA hq (Tryz.sizeOf38 _) rfl rfl rfl rfl rfl) ?_
  rintro v15 w15 _
  refine rs_nil ?_
  rintro wz hz
  obtain ⟨b_r2, e_r2, S⟩ := hz.fin
  cases e_r2
  refine rw_v (op_pure rfl) ?_
  first | refine rw_end ?_ | (refine rw_nil ?_; show CW _ _ _ _ _ _) | refine rw_nil ?_
  repeat refine cw_seq ?_
  refine cw_region ?_
  refine rw_r (op_loadAB Tryz.underlying38 rfl (Tryz.sizeOf38 _) rfl (S.blk (i := 0) rfl) rfl rfl) ?_
  refine rw_storeSA (i := 1) S rfl (Tryz.sizeOf38 _) rfl rfl rfl rfl rfl rfl ?_
  intro w6_ S
  first | refine rw_end ?_ | (refine rw_nil ?_; show CW _ _ _ _ _ _) | refine rw_nil ?_
  repeat refine cw_seq ?_
  refine cw_ret ?_
  repeat first | refine ret_then ?_ | refine ret_inb ?_
  exact resA Tryz.underlying38 rfl (Tryz.sizeOf38 _) rfl (S.blk (i := 1) rfl) rfl rfl ⟨rfl, S.out⟩
theorem range44_E (i n cap : Nat) (hw : 1 ≤ gw ∧ gw ≤ 1024) (hh : 1 ≤ gh ∧ gh ≤ 1024) (hi : i < gw * gh) (hn : n ≤ 1024) (hV : V.length = gw * gh) (hA : Rd W A (ints V)) :
    Fn Tryz.prog 13 [modV gw gh A (gw * gh) cap, .int .i64 i, .int .i64 n] W (RetG (.agg (rgW V gw gh i n).cells.toArray) W) := by
  obtain ⟨h1, h2⟩ := winW_ok (n := n) hw.1 hi
  have hwin := fun w => window44_E (W := w) (A := A) i n (gw * gh) cap hw hh hi hn
  have hval := fun w (g : Gr W w) => values9_E (W := w) (cap := cap) (winW gw gh i n).x0 (winW gw gh i n).y0 (winW gw gh i n).x1 (winW gw gh i n).y1 hw hh h1 h2 hV (hA.gr g)
  unfold rgW
  unfold Win.val at hwin
  unfold modV at *
  generalize winW gw gh i n = r at *
  have S := St.start W
  refine Fn_enter Tryz.func13 rfl Tryz.results13 Tryz.ntmps13 (by kernel_rfl) (by kernel_rfl) ?_
  repeat refine cw_seq ?_
  refine cw_region ?_
  refine rw_newB (op_box rfl) S ?_
  intro b_md w2_ g2_ S
  refine rw_newB (op_alloc Tryz.zeroValue41 rfl) S ?_
  intro b_R w4_ g4_ S
  first | refine rw_end ?_ | (refine rw_nil ?_; show CW _ _ _ _ _ _) | refine rw_nil ?_
  repeat refine cw_seq ?_
  refine cw_tri (C := (VC W [.blk b_R 41 [.int .i64 0, .int .i64 0], .blk b_md 25 [.int .i64 gw, .int .i64 gh, .slice A (gw * gh) cap]] (fun L => IsVals V gw r.x0 r.y0 r.x1 r.y1 (r.y1 + 1) r.x0 L ∧ L.length ≤ 1048576 ∧ L ≠ []))) [5] [0, 1, 2, 3, 4, 5, 6, 7, 8, 9] [10] (by kernel_rfl) (by kernel_rfl) (S.gr (Gr.drew _)) ?_
  simp only [pickI, pickL, List.drop_succ_cons, List.drop_zero]
  refine rs_r rfl (fun τ wq hq => op_loadAB Tryz.underlying25 rfl (Tryz.sizeOf25 _) rfl (VC.blk hq (i := 1) rfl) rfl rfl) ?_
  refine rs_r rfl (fun τ wq hq => op_loadAB Tryz.underlying25 rfl (Tryz.sizeOf25 _) rfl (VC.blk hq (i := 1) rfl) rfl rfl) ?_
  refine rs_v rfl (op_pure rfl) ?_
  refine rs_v rfl (op_pure rfl) ?_
  refine rs_call rfl rfl (fun τ wq hq => (hwin wq).mono (fun _ _ ⟨hv, hg⟩ => ⟨hv, VC.gr hq hg⟩)) ?_
  refine rs_special rfl rfl (fun wq hq => to_call rfl ((hval wq (VC.out hq)).mono (VC.step hq))) ?_
  rintro v5 w5 ⟨L, A_l, c_l, rfl, _, _⟩
  refine rs_v rfl (op_pure rfl) ?_
  refine rs_v rfl (op_pure rfl) ?_
  refine rs_v rfl (op_pure rfl) ?_
  refine rs_v rfl (op_pure rfl) ?_
  refine rs_nil ?_
  rintro wz hz
  obtain ⟨L2, A_l2, c_l2, e2, ⟨hL, hLl, hLn⟩, S⟩ := hz
  obtain ⟨rfl, hlen, rfl⟩ := tup_inj e2
  rw [hlen]
  refine rw_v (op_pure rfl) ?_
  first | refine rw_end ?_ | (refine rw_nil ?_; show CW _ _ _ _ _ _) | refine rw_nil ?_
  have hrd := (S.row (i := 0) rfl).rd
  repeat refine cw_seq ?_
  refine cw_region ?_
  refine rw_v (op_pure rfl) ?_
  refine rw_call rfl (range8_E L2 c_l hLn hLl hrd) ?_
  rintro _ w6_ ⟨lo, hi2, rfl, hrg, g6_⟩
  have S := S.gr g6_
  refine rw_storeSA (i := 1) S rfl (Tryz.sizeOf41 _) rfl rfl rfl rfl rfl rfl ?_
  intro w7_ S
  first | refine rw_end ?_ | (refine rw_nil ?_; show CW _ _ _ _ _ _) | refine rw_nil ?_
  repeat refine cw_seq ?_
  refine cw_ret ?_
  repeat first | refine ret_then ?_ | refine ret_inb ?_
  have hfin := rg_vals hL hrg
  rw [hfin]
  exact resA Tryz.underlying41 rfl (Tryz.sizeOf41 _) rfl (S.blk (i := 1) rfl) rfl rfl ⟨rfl, S.out⟩
end
end Go.Proofs.YtbcgbcipigcbhaaGreat
/- hachureref09.Values told exactly; hachureref19.Sum, hachureref07.Area, hachureref20.Mean. -/
namespace Go.Proofs.YtbcgbcipigcbhaaGreat
open Go.RowKit
set_option linter.unusedVariables false
set_option linter.unusedSimpArgs false
set_option maxRecDepth 100000

/-- the values of a box, row by row -/
def winL (V : List Int) (gw x0 y0 x1 y1 : Nat) : List Int := rectV gw (fun j => V.getD j 0) x0 y0 (x1 + 1 - x0) (y1 + 1 - y0)
theorem winL_len (V : List Int) (gw x0 y0 x1 y1 : Nat) : (winL V gw x0 y0 x1 y1).length = (y1 + 1 - y0) * (x1 + 1 - x0) := rectV_len _ _ _ _ _ _
theorem rowV_sum (V : List Int) (gw x0 y : Nat) : ∀ n, (rowV gw (fun j => V.getD j 0) x0 y n).sum = rowS V (y * gw) (x0 + n) - rowS V (y * gw) x0
  | 0 => by simp [rowV]
  | n + 1 => by
    rw [rowV_succ, List.sum_append, rowV_sum V gw x0 y n]
    have : rowS V (y * gw) (x0 + (n + 1)) = rowS V (y * gw) (x0 + n) + V.getD (y * gw + (x0 + n)) 0 := rfl
    rw [this]
    simp
    omega
theorem rectV_sum (V : List Int) (gw x0 y0 n : Nat) : ∀ h, (rectV gw (fun j => V.getD j 0) x0 y0 n h).sum = psum V gw (y0 + h) (x0 + n) - psum V gw (y0 + h) x0 - psum V gw y0 (x0 + n) + psum V gw y0 x0
  | 0 => by simp [rectV]; omega
  | h + 1 => by
    rw [rectV_succ, List.sum_append, rectV_sum V gw x0 y0 n h, rowV_sum]
    have e := fun x => show psum V gw (y0 + (h + 1)) x = rowS V ((y0 + h) * gw) x + psum V gw (y0 + h) x from rfl
    rw [e, e]
    omega
theorem winL_sum (V : List Int) (gw : Nat) {x0 y0 x1 y1 : Nat} (hx : x0 ≤ x1) (hy : y0 ≤ y1) : (winL V gw x0 y0 x1 y1).sum = rsum V gw x0 y0 x1 y1 := by
  unfold winL rsum
  rw [rectV_sum, show y0 + (y1 + 1 - y0) = y1 + 1 by omega, show x0 + (x1 + 1 - x0) = x1 + 1 by omega]
theorem sum_bnd : ∀ {l : List Int}, (∀ v ∈ l, -2147483648 ≤ v ∧ v ≤ 2147483647) → -(2147483648 * (l.length : Int)) ≤ l.sum ∧ l.sum ≤ 2147483647 * (l.length : Int)
  | [], _ => by simp
  | a :: l, h => by
    have h1 := h a (List.mem_cons_self ..)
    have h2 := sum_bnd (l := l) (fun v hv => h v (List.mem_cons_of_mem _ hv))
    rw [List.sum_cons, List.length_cons]
    push_cast
    omega
theorem winL_mem {V : List Int} {gw x0 y0 x1 y1 : Nat} {v : Int} (h : v ∈ winL V gw x0 y0 x1 y1) : ∃ j, v = V.getD j 0 := by
  unfold winL rectV at h
  obtain ⟨b, _, hb⟩ := List.mem_flatMap.1 h
  unfold rowV at hb
  obtain ⟨a, _, ha⟩ := List.mem_map.1 hb
  exact ⟨_, ha.symm⟩
section
variable {W : World} {A : Option Addr} {gw gh cap : Nat} {V : List Int}
set_option maxHeartbeats 2000000 in
theorem values9X_E (x0 y0 x1 y1 : Nat) (hw : 1 ≤ gw ∧ gw ≤ 1024) (hh : 1 ≤ gh ∧ gh ≤ 1024) (hx : x0 ≤ x1 ∧ x1 < gw) (hy : y0 ≤ y1 ∧ y1 < gh) (hV : V.length = gw * gh) (hA : Rd W A (ints V)) :
    Fn Tryz.prog 37 [modV gw gh A (gw * gh) cap, .agg #[.int .i64 x0, .int .i64 y0, .int .i64 x1, .int .i64 y1]] W
    (RetNew (fun s => .tuple #[s, .int .i64 0]) 2 1 (winL V gw x0 y0 x1 y1).length (ints (winL V gw x0 y0 x1 y1)) W) := by
  have hwi := fun w => within44_E x0 y0 x1 y1 gw gh hw hh hx hy w
  have hm : 1 ≤ gw * gh ∧ gw * gh ≤ 1024 * 1024 := ⟨Nat.mul_le_mul hw.1 hh.1, Nat.mul_le_mul hw.2 hh.2⟩
  obtain ⟨nx, hnx⟩ : ∃ nx, nx = x1 + 1 - x0 := ⟨_, rfl⟩
  have sa_A : SomeA A := hA.someA (by rw [ints_len]; omega)
  unfold modV
  have S := St.start W
  refine Fn_enter Tryz.func37 rfl Tryz.results37 Tryz.ntmps37 (by kernel_rfl) (by kernel_rfl) ?_
  repeat refine cw_seq ?_
  refine cw_region ?_
  refine rw_newB (op_box rfl) S ?_
  intro b_md w2_ g2_ S
  refine rw_newB (op_box rfl) S ?_
  intro b_r w4_ g4_ S
  iterate 2 refine rw_v (op_pure rfl) ?_
  first | refine rw_end ?_ | (refine rw_nil ?_; show CW _ _ _ _ _ _) | refine rw_nil ?_
  repeat refine cw_seq ?_
  refine cw_region ?_
  refine rw_r (op_loadAB Tryz.underlying38 rfl (Tryz.sizeOf38 _) rfl (S.blk (i := 0) rfl) rfl rfl) ?_
  refine rw_v (op_fieldAddr Tryz.underlying25 rfl Tryz.sizeOf2 rfl rfl) ?_
  refine rw_r (op_loadB Tryz.underlying2 rfl rfl (S.blk (i := 1) rfl) rfl) ?_
  refine rw_v (op_fieldAddr Tryz.underlying25 rfl Tryz.sizeOf2 rfl rfl) ?_
  refine rw_r (op_loadB Tryz.underlying2 rfl rfl (S.blk (i := 1) rfl) rfl) ?_
  refine rw_call rfl (hwi w4_) ?_
  rintro _ w5_ ⟨rfl, g5_⟩
  have S := S.gr g5_
  refine rw_v (op_pure rfl) ?_
  first | refine rw_end ?_ | (refine rw_nil ?_; show CW _ _ _ _ _ _) | refine rw_nil ?_
  repeat refine cw_seq ?_
  refine cw_region ?_
  refine rw_v (op_pure rfl) ?_
  refine rw_v (op_b (b := false) rfl (bne_eq_false_iff_eq.2 (by omega))) ?_
  first | refine rw_end ?_ | (refine rw_nil ?_; show CW _ _ _ _ _ _) | refine rw_nil ?_
  repeat refine cw_seq ?_
  refine cw_false rfl ?_
  repeat refine cw_seq ?_
  refine cw_skip ?_
  try show CW _ _ _ _ _ _
  repeat refine cw_seq ?_
  refine cw_region ?_
  refine rw_buildS0 Tryz.underlying22 Tryz.sizeOf2 S ?_
  intro A_l w7_ g7_ S sa_l
  refine rw_v (op_pure rfl) ?_
  first | refine rw_end ?_ | (refine rw_nil ?_; show CW _ _ _ _ _ _) | refine rw_nil ?_
  repeat refine cw_seq ?_
  refine cw_region ?_
  refine rw_v (op_fieldAddr Tryz.underlying38 rfl Tryz.sizeOf2 rfl rfl) ?_
  refine rw_r (op_loadB Tryz.underlying2 rfl rfl (S.blk (i := 1) rfl) rfl) ?_
  refine rw_v (op_pure rfl) ?_
  first | refine rw_end ?_ | (refine rw_nil ?_; show CW _ _ _ _ _ _) | refine rw_nil ?_
  repeat refine cw_seq ?_
  refine cw_block ?_
  repeat refine cw_seq ?_
  refine cw_loop (fun m e w => ∃ (y : Nat) (L : List Int) (A_l : Option Addr) (c_l : Nat), y + m = y1 + 1 ∧ y0 ≤ y ∧ L.length = (y - y0) * nx ∧ L = rectV gw (fun j => V.getD j 0) x0 y0 nx (y - y0) ∧ SL e [(2, .pointer (some ⟨b_md, 0, none⟩)), (3, .pointer (some ⟨b_r, 0, none⟩)), (7, .slice A_l L.length c_l), (8, .int .i64 y)] ∧
    St No W w [.row 2 1 A_l L.length c_l (ints L), .blk b_r 38 [.int .i64 x0, .int .i64 y0, .int .i64 x1, .int .i64 y1], .blk b_md 25 [.int .i64 gw, .int .i64 gh, .slice A (gw * gh) cap]]) (y1 + 1 - y0)
    ⟨y0, [], A_l, _, by omega, Nat.le_refl _, by simp, by rw [Nat.sub_self]; rfl, ⟨rfl, rfl, rfl, rfl, trivial⟩, S⟩ ?_
  clear S
  rintro m e w ⟨y, L, A_l, c_l, hym, hy0, hLl, hL, hsl, S⟩
  rw [hsl.fold]
  by_cases hyn : y ≤ y1
  · have hq : (y - y0 + 1) * nx ≤ 1024 * 1024 := Nat.mul_le_mul (by omega) (by omega)
    rw [Nat.succ_mul, ← hLl] at hq
    obtain ⟨q, hqe⟩ : ∃ q, q = L.length := ⟨_, rfl⟩
    repeat refine cw_seq ?_
    refine cw_region ?_
    refine rw_v (op_pure rfl) ?_
    refine rw_v (op_fieldAddr Tryz.underlying38 rfl Tryz.sizeOf2 rfl rfl) ?_
    refine rw_r (op_loadB Tryz.underlying2 rfl rfl (S.blk (i := 1) rfl) rfl) ?_
    refine rw_v (op_b (b := true) rfl (decide_eq_true (by omega))) ?_
    first | refine rw_end ?_ | (refine rw_nil ?_; show CW _ _ _ _ _ _) | refine rw_nil ?_
    repeat refine cw_seq ?_
    refine cw_true rfl ?_
    repeat refine cw_seq ?_
    refine cw_skip ?_
    try show CW _ _ _ _ _ _
    repeat refine cw_seq ?_
    refine cw_block ?_
    repeat refine cw_seq ?_
    refine cw_region ?_
    refine rw_v (op_fieldAddr Tryz.underlying38 rfl Tryz.sizeOf2 rfl rfl) ?_
    refine rw_r (op_loadB Tryz.underlying2 rfl rfl (S.blk (i := 1) rfl) rfl) ?_
    refine rw_v (op_pure rfl) ?_
    first | refine rw_end ?_ | (refine rw_nil ?_; show CW _ _ _ _ _ _) | refine rw_nil ?_
    repeat refine cw_seq ?_
    refine cw_block ?_
    repeat refine cw_seq ?_
    refine cw_loop (fun m e w => ∃ (x : Nat) (L : List Int) (A_l : Option Addr) (c_l : Nat), x + m = x1 + 1 ∧ x0 ≤ x ∧ L.length = q + (x - x0) ∧ L = rectV gw (fun j => V.getD j 0) x0 y0 nx (y - y0) ++ rowV gw (fun j => V.getD j 0) x0 y (x - x0) ∧ SL e [(2, .pointer (some ⟨b_md, 0, none⟩)), (3, .pointer (some ⟨b_r, 0, none⟩)), (7, .slice A_l L.length c_l), (8, .int .i64 y), (9, .int .i64 x)] ∧
      St No W w [.row 2 1 A_l L.length c_l (ints L), .blk b_r 38 [.int .i64 x0, .int .i64 y0, .int .i64 x1, .int .i64 y1], .blk b_md 25 [.int .i64 gw, .int .i64 gh, .slice A (gw * gh) cap]]) (x1 + 1 - x0)
      ⟨x0, L, A_l, c_l, by omega, Nat.le_refl _, by omega, by rw [Nat.sub_self, ← hL]; exact (List.append_nil L).symm, ⟨rfl, rfl, rfl, rfl, rfl, trivial⟩, S⟩ ?_
    rw [← hqe] at hq
    rw [← hqe] at hLl
    clear S hL
    rintro m2 e w ⟨x, L, A_l, c_l, hxm, hx0, hLx, hL, hsl, S⟩
    rw [hsl.fold]
    by_cases hxn : x ≤ x1
    · have hlt : y * gw + x < gw * gh := by
        have := Nat.mul_le_mul_right gw (show y + 1 ≤ gh by omega)
        rw [Nat.succ_mul, Nat.mul_comm gh] at this
        omega
      have e1 : (y : Int) * (gw : Int) = ((y * gw : Nat) : Int) := by push_cast; rfl
      have hpush : L ++ [V.getD (y * gw + x) 0] = rectV gw (fun j => V.getD j 0) x0 y0 nx (y - y0) ++ rowV gw (fun j => V.getD j 0) x0 y (x + 1 - x0) := by
        rw [hL, List.append_assoc, show x + 1 - x0 = (x - x0) + 1 by omega, rowV_succ, show x0 + (x - x0) = x by omega]
      generalize y * gw = yg at *
      have hget : (ints V)[((yg : Int) + (x : Int)).toNat * 1]? = some (.int .i64 (V.getD (yg + x) 0)) := by rw [Nat.mul_one, show ((yg : Int) + (x : Int)).toNat = yg + x by omega]; exact ints_get (getD_at (by omega))
      repeat refine cw_seq ?_
      refine cw_region ?_
      refine rw_v (op_pure rfl) ?_
      refine rw_v (op_fieldAddr Tryz.underlying38 rfl Tryz.sizeOf2 rfl rfl) ?_
      refine rw_r (op_loadB Tryz.underlying2 rfl rfl (S.blk (i := 1) rfl) rfl) ?_
      refine rw_v (op_b (b := true) rfl (decide_eq_true (by omega))) ?_
      first | refine rw_end ?_ | (refine rw_nil ?_; show CW _ _ _ _ _ _) | refine rw_nil ?_
      repeat refine cw_seq ?_
      refine cw_true rfl ?_
      repeat refine cw_seq ?_
      refine cw_skip ?_
      try show CW _ _ _ _ _ _
      repeat refine cw_seq ?_
      refine cw_block ?_
      repeat refine cw_seq ?_
      refine cw_region ?_
      refine rw_v (op_pure rfl) ?_
      refine rw_v (op_fieldAddr Tryz.underlying25 rfl Tryz.sizeOf22 rfl rfl) ?_
      refine rw_r (op_loadB Tryz.underlying22 rfl rfl (S.blk (i := 2) rfl) rfl) ?_
      refine rw_v (op_pure rfl) ?_
      refine rw_v (op_fieldAddr Tryz.underlying25 rfl Tryz.sizeOf2 rfl rfl) ?_
      refine rw_r (op_loadB Tryz.underlying2 rfl rfl (S.blk (i := 2) rfl) rfl) ?_
      refine rw_v (op_rng rfl (by rw [e1]; omega)) ?_
      rw [e1]
      refine rw_v (op_pure rfl) ?_
      refine rw_v (op_rng rfl (by omega)) ?_
      refine rw_v (op_idx Tryz.underlying22 Tryz.sizeOf2 rfl rfl sa_A (by omega) (by omega)) ?_
      refine rw_r (op_ldR Tryz.underlying2 rfl rfl (hA.gr S.out) hget) ?_
      refine rw_buildS Tryz.underlying22 Tryz.sizeOf2 Tryz.zeroValue2 rfl rfl rfl rfl rfl rfl S ?_
      intro A_lit w9_ g9_ S sa_lit
      refine rw_appS (i := 1) S rfl (fun h => rfl) Tryz.underlying22 info_t2 rfl rfl rfl rfl (by simp) (by omega) (S.rd (i := 0) rfl) rfl (by omega) ?_
      intro A_l2 c_l2 w10_ S sa_l
      refine rw_v (op_pure rfl) ?_
      first | refine rw_end ?_ | (refine rw_nil ?_; show CW _ _ _ _ _ _) | refine rw_nil ?_
      repeat refine cw_seq ?_
      refine cw_region ?_
      refine rw_v (op_pure rfl) ?_
      refine rw_v (op_rng rfl (by omega)) ?_
      refine rw_v (op_pure rfl) ?_
      first | refine rw_end ?_ | (refine rw_nil ?_; show CW _ _ _ _ _ _) | refine rw_nil ?_
      have S := S.sub (.cons _ (.cons_cons _ (.cons_cons _ (.cons_cons _ (.slnil)))))
      refine ⟨m2 - 1, by omega, x + 1, L ++ [V.getD (yg + x) 0], A_l2, c_l2, by omega, by omega, by simp; omega, hpush, ⟨rfl, rfl, ?_, rfl, ie (by omega), trivial⟩, ?_⟩
      · rw [List.length_append]; rfl
      · rw [List.length_append, ← ints_app]; exact S
    · have enx : x - x0 = nx := by omega
      rw [enx] at hL
      repeat refine cw_seq ?_
      refine cw_region ?_
      refine rw_v (op_pure rfl) ?_
      refine rw_v (op_fieldAddr Tryz.underlying38 rfl Tryz.sizeOf2 rfl rfl) ?_
      refine rw_r (op_loadB Tryz.underlying2 rfl rfl (S.blk (i := 1) rfl) rfl) ?_
      refine rw_v (op_b (b := false) rfl (decide_eq_false (by omega))) ?_
      first | refine rw_end ?_ | (refine rw_nil ?_; show CW _ _ _ _ _ _) | refine rw_nil ?_
      repeat refine cw_seq ?_
      refine cw_false rfl ?_
      repeat refine cw_seq ?_
      refine cw_exit ?_
      repeat first | refine exit_then ?_ | refine exit_inb ?_
      show CW _ _ _ _ _ _
      repeat refine cw_seq ?_
      refine cw_region ?_
      refine rw_v (op_pure rfl) ?_
      refine rw_v (op_rng rfl (by omega)) ?_
      refine rw_v (op_pure rfl) ?_
      first | refine rw_end ?_ | (refine rw_nil ?_; show CW _ _ _ _ _ _) | refine rw_nil ?_
      exact ⟨m - 1, by omega, y + 1, L, A_l, c_l, by omega, by omega, by rw [show y + 1 - y0 = (y - y0) + 1 by omega, Nat.succ_mul]; omega, by rw [show y + 1 - y0 = (y - y0) + 1 by omega, rectV_succ, show y0 + (y - y0) = y by omega]; exact hL, ⟨rfl, rfl, rfl, ie (by omega), trivial⟩, S⟩
  · have ey : y = y1 + 1 := by omega
    rw [ey] at hL hLl
    have hle : (y1 + 1 - y0) * nx ≤ 1024 * 1024 := Nat.mul_le_mul (by omega) (by omega)
    rw [hnx] at hL
    have hL' : winL V gw x0 y0 x1 y1 = L := hL.symm
    rw [hL']
    repeat refine cw_seq ?_
    refine cw_region ?_
    refine rw_v (op_pure rfl) ?_
    refine rw_v (op_fieldAddr Tryz.underlying38 rfl Tryz.sizeOf2 rfl rfl) ?_
    refine rw_r (op_loadB Tryz.underlying2 rfl rfl (S.blk (i := 1) rfl) rfl) ?_
    refine rw_v (op_b (b := false) rfl (decide_eq_false (by omega))) ?_
    first | refine rw_end ?_ | (refine rw_nil ?_; show CW _ _ _ _ _ _) | refine rw_nil ?_
    repeat refine cw_seq ?_
    refine cw_false rfl ?_
    repeat refine cw_seq ?_
    refine cw_exit ?_
    repeat first | refine exit_then ?_ | refine exit_inb ?_
    show CW _ _ _ _ _ _
    repeat refine cw_seq ?_
    refine cw_region ?_
    iterate 3 refine rw_v (op_pure rfl) ?_
    first | refine rw_end ?_ | (refine rw_nil ?_; show CW _ _ _ _ _ _) | refine rw_nil ?_
    repeat refine cw_seq ?_
    refine cw_ret ?_
    repeat first | refine ret_then ?_ | refine ret_inb ?_
    exact res2 rfl rfl (S.retNew (i := 0) (mk := fun s => .tuple #[s, .int .i64 0]) rfl)
end
end Go.Proofs.YtbcgbcipigcbhaaGreat
/- hachureref30.merged: sorted by halves. -/
namespace Go.Proofs.YtbcgbcipigcbhaaGreat
open Go.RowKit
set_option linter.unusedVariables false
set_option linter.unusedSimpArgs false
set_option maxRecDepth 100000

def leB (x y : Int) : Bool := decide (x ≤ y)
theorem mrg_perm (xs ys : List Int) : (List.merge xs ys leB).Perm (xs ++ ys) := List.merge_perm_append leB
theorem mrg_sorted {xs ys : List Int} (h1 : xs.Pairwise (· ≤ ·)) (h2 : ys.Pairwise (· ≤ ·)) : (List.merge xs ys leB).Pairwise (· ≤ ·) := by
  have h := List.pairwise_merge (le := leB) (fun a b c h1 h2 => by unfold leB at *; simp at *; omega) (fun a b => by unfold leB; simp; omega) xs ys
    (h1.imp (fun h => by unfold leB; simpa using h)) (h2.imp (fun h => by unfold leB; simpa using h))
  exact h.imp (fun h => by unfold leB at h; simpa using h)
theorem drop_cons {l : List Int} {i : Nat} (h : i < l.length) : l.drop i = l.getD i 0 :: l.drop (i + 1) := by
  rw [List.drop_eq_getElem_cons h]
  congr 1
  rw [List.getD_eq_getElem?_getD, List.getElem?_eq_getElem h]
  rfl
theorem Rd.dropO {w : World} {b o : Nat} {xs : List Value} (h : Rd w (some ⟨b, o, none⟩) xs) (k : Nat) : Rd w (some ⟨b, o + k, none⟩) (xs.drop k) := by
  rcases h with rfl | ⟨b', o', e, hb, hc⟩
  · exact .inl (by simp)
  · cases e
    refine .inr ⟨b, o + k, rfl, hb, fun j v hj => ?_⟩
    rw [List.getElem?_drop] at hj
    rw [Nat.add_assoc]
    exact hc (k + j) v hj
theorem Rd.takeO {w : World} {A : Option Addr} {xs : List Value} (h : Rd w A xs) (n : Nat) : Rd w A (xs.take n) := by
  rcases h with rfl | ⟨b, o, h, hb, hc⟩
  · exact .inl (by simp)
  · refine .inr ⟨b, o, h, hb, fun j v hj => hc j v ?_⟩
    rw [List.getElem?_take] at hj
    split at hj
    · exact hj
    · cases hj
/-- a slice that holds a list sorted -/
def HV (n : Nat) (L : List Int) (wq : World) (v : Value) : Prop := ∃ M b o c, v = .slice (some ⟨b, o, none⟩) n c ∧ M.Perm L ∧ M.Pairwise (· ≤ ·) ∧ Rd wq (some ⟨b, o, none⟩) (ints M)
theorem HV.gr {n : Nat} {L : List Int} {w w' : World} {v : Value} (h : HV n L w v) (g : Gr w w') : HV n L w' v := by
  obtain ⟨M, b, o, c, e, h1, h2, h3⟩ := h
  exact ⟨M, b, o, c, e, h1, h2, h3.gr g⟩
def MC (W : World) (n1 n2 : Nat) (L1 L2 : List Int) (σ : List Value) (wq : World) : Prop := match σ with
  | [] => Gr W wq
  | [v] => Gr W wq ∧ HV n1 L1 wq v
  | [u, v] => Gr W wq ∧ HV n1 L1 wq v ∧ HV n2 L2 wq u
  | _ => False
end Go.Proofs.YtbcgbcipigcbhaaGreat
/- slices.Sort at int64: contract over parts. -/
namespace Go.Proofs.YtbcgbcipigcbhaaGreat
open Go.RowKit
set_option linter.unusedVariables false
set_option linter.unusedSimpArgs false
set_option maxRecDepth 100000

section
variable {F : Nat → Prop} {W w : World} {L L' : List HA} {i c t : Nat} {A : Option Addr} {l : List Int}
theorem ssort_E (S : St F W w L) (hi : getO L i = some (.row t 1 A l.length c (ints l))) (h1 : 1 ≤ l.length) (hl : l.length ≤ 1048576) (hs : setO L i (.row t 1 A l.length c (ints (l.mergeSort leB))) = some L') :
    Fn Tryz.prog 24 [.slice A l.length c] w (fun v w' => v = .tuple #[] ∧ St F W w' L') := by
  refine ⟨by kernel_rfl, ?_⟩
  have hrow := S.row hi
  rcases hrow.form with ⟨_, h, _, _⟩ | ⟨g, cs, rfl, hB, hn, hcs, ht, hm⟩
  · omega
  have hlt : g < w.heap.size := hB.lt
  have hH : Sort.Holds (Value.int .i64) w g 0 l.toArray := fun j hj => by
    have hj' : j < l.length := by simpa using hj
    constructor
    · rcases hrow.rd with h | ⟨b', o', e, _, hc⟩
      · exfalso
        have := congrArg List.length h
        rw [ints_len, List.length_nil] at this
        omega
      · cases e
        refine hc j _ ?_
        unfold ints
        rw [List.getElem?_map, getElem!_pos l.toArray j hj, List.getElem?_eq_getElem hj']
        rfl
    · unfold Blk at hB
      simp [World.frozen?, hB]
  refine (sort64_calls g 0 c l w hH hlt (by omega)).mono ?_
  rintro e w' ⟨rfl, n, os, rfl⟩
  refine ⟨_, rfl, rfl, ?_⟩
  have hml : (l.mergeSort leB).length = l.length := List.length_mergeSort l
  have hcl : l.length ≤ cs.length := by rw [hcs]; omega
  have hB2 := sortW_blk (n := n) (os := os) (d := (l.mergeSort leB).toArray) hB (by simpa [hml] using hcl)
  refine S.set hi hs (F' := fun x => x = g) sortW_fr (fun x e => .inl (by subst e; rfl)) ?_ (fun x e => .inl e)
  refine Row.mk_ hB2 hn ?_ ?_ hm
  · rw [List.length_append, ints_len, List.length_drop, List.size_toArray, hml]; omega
  · rw [Nat.mul_one, List.take_append_of_le_length (by rw [ints_len]; simp [hml]), List.take_of_length_le (by rw [ints_len]; simp [hml])]
end
end Go.Proofs.YtbcgbcipigcbhaaGreat
/- hachureref07.Area, hachureref20.Mean, hachureref44.Mean. -/
namespace Go.Proofs.YtbcgbcipigcbhaaGreat
open Go.RowKit
set_option linter.unusedVariables false
set_option linter.unusedSimpArgs false
set_option maxRecDepth 100000

theorem tdiv_floor (s : Int) {n : Int} (hn : 0 < n) : ∃ m : Nat, s.tdiv n = s / n + m := by
  rw [Int.tdiv_eq_ediv]
  split
  · exact ⟨0, by simp⟩
  · exact ⟨1, by rw [Int.sign_eq_one_of_pos hn]; rfl⟩
section
variable {W : World} {A : Option Addr} {gw gh cap : Nat} {V : List Int}
end
end Go.Proofs.YtbcgbcipigcbhaaGreat
/- hachureref44.Mean. -/
namespace Go.Proofs.YtbcgbcipigcbhaaGreat
open Go.RowKit
set_option linter.unusedVariables false
set_option linter.unusedSimpArgs false
set_option maxRecDepth 100000

section
variable {W : World} {A : Option Addr} {gw gh cap : Nat} {V : List Int}
end
end Go.Proofs.YtbcgbcipigcbhaaGreat
/- hachureref30.Sorted; the middle of a list. -/
namespace Go.Proofs.YtbcgbcipigcbhaaGreat
open Go.RowKit
set_option linter.unusedVariables false
set_option linter.unusedSimpArgs false
set_option maxRecDepth 100000

theorem sorted_uniq {M L : List Int} (hp : M.Perm L) (hs : M.Pairwise (· ≤ ·)) : M = L.mergeSort leB := by
  have h2 : (L.mergeSort leB).Pairwise (· ≤ ·) := by
    have h := List.pairwise_mergeSort (le := leB) (fun a b c h1 h2 => by unfold leB at *; simp at *; omega) (fun a b => by unfold leB; simp; omega) L
    exact h.imp (fun h => by unfold leB at h; simpa using h)
  exact List.Perm.eq_of_pairwise (le := (· ≤ ·)) (fun a b _ _ h1 h2 => Int.le_antisymm h1 h2) hs h2 (hp.trans (List.mergeSort_perm L leB).symm)
theorem HV.srt {n : Nat} {L : List Int} {w : World} {v : Value} (h : HV n L w v) : ∃ b o c, v = .slice (some ⟨b, o, none⟩) n c ∧ Rd w (some ⟨b, o, none⟩) (ints (L.mergeSort leB)) := by
  obtain ⟨M, b, o, c, e, hp, hs, hr⟩ := h
  rw [sorted_uniq hp hs] at hr
  exact ⟨b, o, c, e, hr⟩
section
variable {W : World} {A : Option Addr} {gw gh cap : Nat} {V : List Int}
end
end Go.Proofs.YtbcgbcipigcbhaaGreat
/- smooth.Median$1: contract. -/
namespace Go.Proofs.YtbcgbcipigcbhaaGreat
open Go.RowKit
set_option linter.unusedVariables false
set_option linter.unusedSimpArgs false
set_option maxRecDepth 100000

/-- the middle of a list -/
def medL (l : List Int) : Int := (l.mergeSort leB).getD ((l.length - 1) / 2) 0
def medW (V : List Int) (gw gh i n : Nat) : Int := medL (winL V gw (winW gw gh i n).x0 (winW gw gh i n).y0 (winW gw gh i n).x1 (winW gw gh i n).y1)
section
variable {W : World} {A : Option Addr} {p gw gh cap D : Nat} {bs : Nat → Nat} {Rs : Nat → Option Nat} {V : List Int}
set_option maxHeartbeats 1000000 in
theorem medianC_E (i n : Nat) (hw : 1 ≤ gw ∧ gw ≤ 1024) (hh : 1 ≤ gh ∧ gh ≤ 1024) (hi : i < gw * gh) (hD : Blk W D 28 [.pointer (some ⟨p, 0, none⟩)]) (hG : GridAt W p gw gh (fun j => V.getD j 0) A cap bs Rs) :
    Fn Tryz.prog 23 ([] ++ [(winW gw gh i n).val] ++ [.pointer (some ⟨D, 0, none⟩)]) W (RetG (.int .i64 (medW V gw gh i n)) W) := by
  obtain ⟨hx, hy⟩ := winW_ok (n := n) hw.1 hi
  unfold medW Win.val
  generalize winW gw gh i n = r at *
  have hval := fun w (g : Gr W w) => gvalues_E (W := w) r.x0 r.y0 r.x1 r.y1 (by omega) (by omega) (hG.gr g)
  have hlw := winL_len V gw r.x0 r.y0 r.x1 r.y1
  have hrw : rectV gw (fun j => V.getD j 0) r.x0 r.y0 (r.x1 + 1 - r.x0) (r.y1 + 1 - r.y0) = winL V gw r.x0 r.y0 r.x1 r.y1 := rfl
  have hlen : (winL V gw r.x0 r.y0 r.x1 r.y1).length ≤ 1024 * 1024 := by rw [hlw]; exact Nat.mul_le_mul (by omega) (by omega)
  have hlen1 : 1 ≤ (winL V gw r.x0 r.y0 r.x1 r.y1).length := by rw [hlw]; exact Nat.mul_pos (by omega) (by omega)
  rw [hrw, ← hlw] at hval
  generalize winL V gw r.x0 r.y0 r.x1 r.y1 = l at *
  unfold medL
  obtain ⟨k, hk⟩ : ∃ k, k = (l.length - 1) / 2 := ⟨_, rfl⟩
  rw [← hk]
  have ek : ((l.length : Int) - 1) / 2 = (k : Int) := by omega
  have hml : (l.mergeSort leB).length = l.length := List.length_mergeSort l
  have hget : (ints (l.mergeSort leB))[(k : Int).toNat * 1]? = some (.int .i64 ((l.mergeSort leB).getD k 0)) := by rw [Nat.mul_one, Int.toNat_natCast]; exact ints_get (getD_at (by omega))
  have S := St.start W
  refine Fn_enter Tryz.func23 rfl Tryz.results23 Tryz.ntmps23 (by kernel_rfl) (by kernel_rfl) ?_
  repeat refine cw_seq ?_
  refine cw_region ?_
  refine rw_newB (op_box rfl) S ?_
  intro b_r w2_ g2_ S
  refine rw_v (op_pure rfl) ?_
  first | refine rw_end ?_ | (refine rw_nil ?_; show CW _ _ _ _ _ _) | refine rw_nil ?_
  repeat refine cw_seq ?_
  refine cw_region ?_
  refine rw_r (op_loadB Tryz.underlying28 rfl rfl (hD.gr S.out) rfl) ?_
  refine rw_r (op_loadAB Tryz.underlying38 rfl (Tryz.sizeOf38 _) rfl (S.blk (i := 0) rfl) rfl rfl) ?_
  refine rw_call rfl (hval w2_ S.out) ?_
  rintro _ w3_ ⟨A_l, c_l, rfl, hR_l, hf_l, g3_⟩
  have S := S.pushRow hR_l hf_l g3_
  iterate 5 refine rw_v (op_pure rfl) ?_
  first | refine rw_end ?_ | (refine rw_nil ?_; show CW _ _ _ _ _ _) | refine rw_nil ?_
  have sa_l : SomeA A_l := (S.row (i := 0) rfl).someA (by omega)
  repeat refine cw_seq ?_
  refine cw_region ?_
  refine rw_v (op_pure rfl) ?_
  refine rw_call rfl (ssort_E (i := 0) S rfl hlen1 (by omega) rfl) ?_
  rintro _ w4_ ⟨rfl, S⟩
  first | refine rw_end ?_ | (refine rw_nil ?_; show CW _ _ _ _ _ _) | refine rw_nil ?_
  repeat refine cw_seq ?_
  refine cw_region ?_
  iterate 2 refine rw_v (op_pure rfl) ?_
  refine rw_v (op_len Tryz.underlying22 rfl) ?_
  refine rw_v (op_rng rfl (by omega)) ?_
  refine rw_v (op_div rfl rfl (by omega) (by omega)) ?_
  rw [ek]
  refine rw_v (op_idx Tryz.underlying22 Tryz.sizeOf2 rfl rfl sa_l (by omega) (by omega)) ?_
  refine rw_r (op_ldR Tryz.underlying2 rfl rfl (S.rd (i := 0) rfl) hget) ?_
  refine rw_v (op_pure rfl) ?_
  first | refine rw_end ?_ | (refine rw_nil ?_; show CW _ _ _ _ _ _) | refine rw_nil ?_
  repeat refine cw_seq ?_
  refine cw_ret ?_
  repeat first | refine ret_then ?_ | refine ret_inb ?_
  exact res1 rfl ⟨rfl, S.out⟩
theorem medL_mem {l : List Int} (h : 1 ≤ l.length) : medL l ∈ l := by
  unfold medL
  have hml : (l.mergeSort leB).length = l.length := List.length_mergeSort l
  have hlt : (l.length - 1) / 2 < (l.mergeSort leB).length := by omega
  rw [List.getD_eq_getElem?_getD, List.getElem?_eq_getElem hlt]
  exact List.mem_mergeSort.1 (List.getElem_mem hlt)
theorem medW_may (hB : vB V) {i : Nat} (n : Nat) (hw : 0 < gw) (hi : i < gw * gh) : mayB (medW V gw gh i n) = true := by
  obtain ⟨hx, hy⟩ := winW_ok (n := n) hw hi
  unfold medW
  generalize winW gw gh i n = r at *
  obtain ⟨j, hj⟩ := winL_mem (medL_mem (l := winL V gw r.x0 r.y0 r.x1 r.y1) (by rw [winL_len]; exact Nat.mul_pos (by omega) (by omega)))
  rw [hj]
  exact (mayB_iff _).2 (hB j)
theorem smedian_E (n : Nat) (hn : n ≤ 1024) (hB : vB V) (hG : GridAt W p gw gh (fun j => V.getD j 0) A cap bs Rs) : Fn Tryz.prog 8 [.pointer (some ⟨p, 0, none⟩), .int .i64 n] W
    (RetGrid (fun p => .tuple #[p, .int .i64 0]) gw gh (fun i => (gridL gw gh fun i => medW V gw gh i n).getD i 0) W) := by
  have hw := hG.sw
  have hh := hG.sh
  have hmade := fun (b : Nat) w (g : Gr W w) => smade_E (W := w) (fid := 23) (caps := [.pointer (some ⟨b, 0, none⟩)]) (q := fun i => medW V gw gh i n) n hn (hG.gr g) (fun i hi => medW_may hB n hw.1 hi)
  have S := St.start W
  refine Fn_enter Tryz.func8 rfl Tryz.results8 Tryz.ntmps8 (by kernel_rfl) (by kernel_rfl) ?_
  repeat refine cw_seq ?_
  refine cw_region ?_
  refine rw_newB (op_box rfl) S ?_
  intro b_bx w2_ g2_ S
  iterate 2 refine rw_v (op_pure rfl) ?_
  first | refine rw_end ?_ | (refine rw_nil ?_; show CW _ _ _ _ _ _) | refine rw_nil ?_
  have hS1 := S
  repeat refine cw_seq ?_
  refine cw_region ?_
  refine rw_r (op_loadB Tryz.underlying28 rfl rfl (S.blk (i := 0) rfl) rfl) ?_
  iterate 2 refine rw_v (op_pure rfl) ?_
  refine rw_call rfl (hmade b_bx w2_ S.out (fun w g i hi => medianC_E i n hw hh hi ((hS1.gr g).blk (i := 0) rfl) (hG.gr (hS1.gr g).out))) ?_
  rintro _ w3_ ⟨p2, B2, bc2, bs2, Rs2, rfl, hG2, hf2, g3_⟩
  have S := S.pushGrid hG2 hf2 g3_
  iterate 4 refine rw_v (op_pure rfl) ?_
  first | refine rw_end ?_ | (refine rw_nil ?_; show CW _ _ _ _ _ _) | refine rw_nil ?_
  repeat refine cw_seq ?_
  refine cw_ret ?_
  repeat first | refine ret_then ?_ | refine ret_inb ?_
  exact res2 rfl rfl (S.retGrid (i := 0) (mk := fun p => .tuple #[p, .int .i64 0]) rfl)
end
end Go.Proofs.YtbcgbcipigcbhaaGreat
/- hachureref44.Open. -/
namespace Go.Proofs.YtbcgbcipigcbhaaGreat
open Go.RowKit
set_option linter.unusedVariables false
set_option linter.unusedSimpArgs false
set_option maxRecDepth 100000

section
variable {W : World} {A : Option Addr} {gw gh cap : Nat} {V : List Int}
end
end Go.Proofs.YtbcgbcipigcbhaaGreat
/- Opening: no higher than the land, and the same when done again; no radius. -/
namespace Go.Proofs.YtbcgbcipigcbhaaGreat
open Go.RowKit
set_option linter.unusedVariables false
set_option linter.unusedSimpArgs false
set_option maxRecDepth 100000

/-! ### The plain law -/
def inW (gw gh n i a b : Nat) : Prop := boxP (winW gw gh i n).x0 (winW gw gh i n).y0 (winW gw gh i n).x1 (winW gw gh i n).y1 a b
section
variable {V : List Int} {gw gh n i a b : Nat}
theorem inW.lt (hw : 0 < gw) (hi : i < gw * gh) (h : inW gw gh n i a b) : a < gw ∧ b < gh := by
  obtain ⟨h1, h2⟩ := winW_ok (n := n) hw hi
  unfold inW boxP at h
  omega
theorem inW.idx (hw : 0 < gw) (hi : i < gw * gh) (h : inW gw gh n i a b) : b * gw + a < gw * gh ∧ (b * gw + a) % gw = a ∧ (b * gw + a) / gw = b := by
  obtain ⟨ha, hb⟩ := h.lt hw hi
  have hs := cell_split (Y := b) ha
  have := Nat.mul_le_mul_right gw (show b + 1 ≤ gh by omega)
  rw [Nat.succ_mul, Nat.mul_comm gh] at this
  exact ⟨by omega, hs.1, hs.2⟩
theorem inW.symm (hw : 0 < gw) (hi : i < gw * gh) (h : inW gw gh n i a b) : inW gw gh n (b * gw + a) (i % gw) (i / gw) := by
  obtain ⟨h1, h2, h3⟩ := h.idx hw hi
  obtain ⟨ha, hb⟩ := h.lt hw hi
  have hx := Nat.mod_lt i hw
  have hy : i / gw < gh := Nat.div_lt_of_lt_mul hi
  unfold inW boxP winW at *
  dsimp only at *
  rw [h2, h3]
  generalize i % gw = X at *
  generalize i / gw = Y at *
  omega
theorem cellV_self (V : List Int) (gw i : Nat) : cellV V gw (i % gw) (i / gw) = V.getD i 0 := by
  unfold cellV
  rw [Nat.mul_comm, Nat.div_add_mod]
theorem rgW_le (hw : 0 < gw) (hi : i < gw * gh) (h : inW gw gh n i a b) : (rgW V gw gh i n).lo ≤ V.getD (b * gw + a) 0 ∧ V.getD (b * gw + a) 0 ≤ (rgW V gw gh i n).hi := (rgW_of V n hw hi).all a b h
theorem rgW_lo (V : List Int) (n : Nat) (hw : 0 < gw) (hi : i < gw * gh) : ∃ a b, inW gw gh n i a b ∧ V.getD (b * gw + a) 0 = (rgW V gw gh i n).lo := (rgW_of V n hw hi).lo
theorem rgW_hi (V : List Int) (n : Nat) (hw : 0 < gw) (hi : i < gw * gh) : ∃ a b, inW gw gh n i a b ∧ V.getD (b * gw + a) 0 = (rgW V gw gh i n).hi := (rgW_of V n hw hi).hi
theorem lowL_at (V : List Int) (n : Nat) (hi : i < gw * gh) : (lowL V gw gh n).getD i 0 = (rgW V gw gh i n).lo := gridL_at _ hi
theorem openL_at (V : List Int) (n : Nat) (hi : i < gw * gh) : (openL V gw gh n).getD i 0 = (rgW (lowL V gw gh n) gw gh i n).hi := gridL_at _ hi
theorem open_le (V : List Int) (n : Nat) (hw : 0 < gw) (hi : i < gw * gh) : (openL V gw gh n).getD i 0 ≤ V.getD i 0 := by
  obtain ⟨a, b, hab, e⟩ := rgW_hi (lowL V gw gh n) n hw hi
  obtain ⟨hj, _, _⟩ := hab.idx hw hi
  rw [openL_at V n hi, ← e, lowL_at V n hj]
  have := (rgW_le (V := V) hw hj (hab.symm hw hi)).1
  rw [Nat.mul_comm (i / gw), Nat.div_add_mod] at this
  exact this
theorem low_open (V : List Int) (n : Nat) (hw : 0 < gw) : lowL (openL V gw gh n) gw gh n = lowL V gw gh n := by
  unfold lowL
  unfold gridL
  refine List.map_congr_left fun j hj => ?_
  have hj : j < gw * gh := List.mem_range.1 hj
  obtain ⟨a, b, hab, e⟩ := rgW_lo V n hw hj
  obtain ⟨a2, b2, hab2, e2⟩ := rgW_lo (openL V gw gh n) n hw hj
  have h1 := (rgW_le (V := openL V gw gh n) hw hj hab).1
  have h2 := open_le V n hw (hab.idx hw hj).1
  have hi2 := (hab2.idx hw hj).1
  have h3 := (rgW_le (V := lowL V gw gh n) hw hi2 (hab2.symm hw hj)).2
  rw [Nat.mul_comm (j / gw), Nat.div_add_mod, lowL_at V n hj] at h3
  rw [openL_at V n hi2] at e2
  omega
theorem open_open (V : List Int) (n : Nat) (hw : 0 < gw) : openL (openL V gw gh n) gw gh n = openL V gw gh n := by
  have h := low_open (gh := gh) V n hw
  show gridL gw gh (fun i => (rgW (lowL (openL V gw gh n) gw gh n) gw gh i n).hi) = _
  rw [h]
  rfl
end
/-! ### No radius -/
section
variable {W : World} {A : Option Addr} {p gw gh cap : Nat} {cc : Nat → Int} {bs : Nat → Nat} {Rs : Nat → Option Nat}
theorem sopenFar_E (n : Int) (hn : n < 0 ∨ 1024 < n) (hG : GridAt W p gw gh cc A cap bs Rs) : Fn Tryz.prog 9 [.pointer (some ⟨p, 0, none⟩), .int .i64 n] W (RetG (.tuple #[.pointer none, .int .i64 9]) W) := by
  have hrg := fun w (g : Gr W w) => sranges_E (hG.gr g)
  have S := St.start W
  refine Fn_enter Tryz.func9 rfl Tryz.results9 Tryz.ntmps9 (by kernel_rfl) (by kernel_rfl) ?_
  repeat refine cw_seq ?_
  refine cw_region ?_
  iterate 2 refine rw_v (op_pure rfl) ?_
  first | refine rw_end ?_ | (refine rw_nil ?_; show CW _ _ _ _ _ _) | refine rw_nil ?_
  repeat refine cw_seq ?_
  refine cw_region ?_
  refine rw_v (op_pure rfl) ?_
  refine rw_call rfl (hrg W S.out) ?_
  rintro _ w1_ ⟨C, tb, Ao, co, As, cs, rfl, S2⟩
  have S := S.app S2
  refine rw_newB (op_alloc Tryz.zeroValue59 rfl) S ?_
  intro b_fp w3_ g3_ S
  refine rw_storeS (i := 0) S rfl (Tryz.sizeOf59 _) rfl rfl rfl rfl rfl rfl ?_
  intro w4_ S
  first | refine rw_end ?_ | (refine rw_nil ?_; show CW _ _ _ _ _ _) | refine rw_nil ?_
  repeat refine cw_seq ?_
  refine cw_region ?_
  iterate 3 refine rw_v (op_pure rfl) ?_
  refine rw_call rfl (smadeFar_E (W := w4_) (fid := 26) (caps := [.pointer (some ⟨b_fp, 0, none⟩)]) n hn (hG.gr S.out)) ?_
  rintro _ w5_ ⟨rfl, g5_⟩
  have S := S.gr g5_
  iterate 5 refine rw_v (op_pure rfl) ?_
  first | refine rw_end ?_ | (refine rw_nil ?_; show CW _ _ _ _ _ _) | refine rw_nil ?_
  repeat refine cw_seq ?_
  refine cw_region ?_
  refine rw_v (op_pure rfl) ?_
  refine rw_v (op_b (b := true) rfl (bne_iff_ne.2 (by omega))) ?_
  first | refine rw_end ?_ | (refine rw_nil ?_; show CW _ _ _ _ _ _) | refine rw_nil ?_
  repeat refine cw_seq ?_
  refine cw_true rfl ?_
  repeat refine cw_seq ?_
  refine cw_region ?_
  iterate 3 refine rw_v (op_pure rfl) ?_
  first | refine rw_end ?_ | (refine rw_nil ?_; show CW _ _ _ _ _ _) | refine rw_nil ?_
  repeat refine cw_seq ?_
  refine cw_ret ?_
  repeat first | refine ret_then ?_ | refine ret_inb ?_
  exact res2 rfl rfl ⟨rfl, S.out⟩
end
end Go.Proofs.YtbcgbcipigcbhaaGreat
/- What windows keep: means and medians lie within; radius 0; flat lands. -/
namespace Go.Proofs.YtbcgbcipigcbhaaGreat
open Go.RowKit
set_option linter.unusedVariables false
set_option linter.unusedSimpArgs false

theorem winL_in {V : List Int} {gw x0 y0 x1 y1 : Nat} {v : Int} (h : v ∈ winL V gw x0 y0 x1 y1) : ∃ a b, boxP x0 y0 x1 y1 a b ∧ v = cellV V gw a b := by
  unfold winL rectV at h
  obtain ⟨b, hb, h⟩ := List.mem_flatMap.1 h
  unfold rowV at h
  obtain ⟨a, ha, h⟩ := List.mem_map.1 h
  rw [List.mem_range] at ha hb
  exact ⟨x0 + a, y0 + b, ⟨⟨by omega, by omega⟩, by omega, by omega⟩, h.symm⟩
theorem sum_bnd2 {lo hi : Int} : ∀ {l : List Int}, (∀ v ∈ l, lo ≤ v ∧ v ≤ hi) → lo * l.length ≤ l.sum ∧ l.sum ≤ hi * l.length
  | [], _ => by simp
  | a :: l, h => by
    have h1 := sum_bnd2 (l := l) (fun v hv => h v (by simp [hv]))
    have h2 := h a (by simp)
    simp only [List.sum_cons, List.length_cons]
    push_cast
    rw [Int.mul_add, Int.mul_add]
    omega
section
variable {V : List Int} {gw gh i n : Nat}
theorem winL_rg (hw : 0 < gw) (hi : i < gw * gh) : ∀ v ∈ winL V gw (winW gw gh i n).x0 (winW gw gh i n).y0 (winW gw gh i n).x1 (winW gw gh i n).y1, (rgW V gw gh i n).lo ≤ v ∧ v ≤ (rgW V gw gh i n).hi := fun v hv => by
  obtain ⟨a, b, hb, rfl⟩ := winL_in hv
  exact (rgW_of V n hw hi).all a b hb
theorem medW_in (hw : 0 < gw) (hi : i < gw * gh) : (rgW V gw gh i n).lo ≤ medW V gw gh i n ∧ medW V gw gh i n ≤ (rgW V gw gh i n).hi := by
  obtain ⟨hx, hy⟩ := winW_ok (n := n) hw hi
  refine winL_rg hw hi _ (medL_mem ?_)
  rw [winL_len]
  exact Nat.mul_pos (by omega) (by omega)
theorem meanW_in (hw : 0 < gw) (hi : i < gw * gh) : (rgW V gw gh i n).lo ≤ meanW V gw gh i n ∧ meanW V gw gh i n ≤ (rgW V gw gh i n).hi := by
  obtain ⟨hx, hy⟩ := winW_ok (n := n) hw hi
  have h := sum_bnd2 (winL_rg (V := V) (n := n) hw hi)
  have hl := winL_len V gw (winW gw gh i n).x0 (winW gw gh i n).y0 (winW gw gh i n).x1 (winW gw gh i n).y1
  rw [winL_sum V gw (by omega) (by omega), hl, Nat.mul_comm] at h
  unfold meanW
  generalize rgW V gw gh i n = r at *
  generalize rsum V gw (winW gw gh i n).x0 (winW gw gh i n).y0 (winW gw gh i n).x1 (winW gw gh i n).y1 = s at *
  have hn : 1 ≤ ((winW gw gh i n).x1 + 1 - (winW gw gh i n).x0) * ((winW gw gh i n).y1 + 1 - (winW gw gh i n).y0) := Nat.mul_pos (by omega) (by omega)
  generalize ((winW gw gh i n).x1 + 1 - (winW gw gh i n).x0) * ((winW gw gh i n).y1 + 1 - (winW gw gh i n).y0) = c at *
  constructor
  · exact Int.le_ediv_of_mul_le (by omega) h.1
  · have : s / (c : Int) < r.hi + 1 := Int.ediv_lt_of_lt_mul (by omega) (by rw [Int.add_mul]; omega)
    omega
theorem rgW_zero (hw : 0 < gw) (hi : i < gw * gh) : (rgW V gw gh i 0).lo = V.getD i 0 ∧ (rgW V gw gh i 0).hi = V.getD i 0 := by
  have hone : ∀ a b, inW gw gh 0 i a b → b * gw + a = i := fun a b h => by
    have h1 := Nat.mod_lt i hw
    have h2 : i / gw < gh := Nat.div_lt_of_lt_mul hi
    have h3 := Nat.div_add_mod i gw
    rw [Nat.mul_comm] at h3
    unfold inW boxP winW at h
    dsimp only at h
    obtain rfl : a = i % gw := by omega
    obtain rfl : b = i / gw := by omega
    exact h3
  obtain ⟨a, b, h1, e1⟩ := rgW_lo (gh := gh) V 0 hw hi
  obtain ⟨c, d, h2, e2⟩ := rgW_hi (gh := gh) V 0 hw hi
  rw [← e1, ← e2, hone _ _ h1, hone _ _ h2]
  exact ⟨rfl, rfl⟩
theorem mean_zero (hw : 0 < gw) (hi : i < gw * gh) : meanW V gw gh i 0 = V.getD i 0 := by
  have h1 := meanW_in (V := V) (n := 0) hw hi
  have h2 := rgW_zero (V := V) hw hi
  omega
theorem med_zero (hw : 0 < gw) (hi : i < gw * gh) : medW V gw gh i 0 = V.getD i 0 := by
  have h1 := medW_in (V := V) (n := 0) hw hi
  have h2 := rgW_zero (V := V) hw hi
  omega
theorem gridL_id (hV : V.length = gw * gh) {f : Nat → Int} (h : ∀ i, i < gw * gh → f i = V.getD i 0) : gridL gw gh f = V := by
  rw [← gridL_self hV]
  unfold gridL
  exact List.map_congr_left fun i hi => h i (List.mem_range.1 hi)
theorem open_zero (hw : 0 < gw) (hV : V.length = gw * gh) : openL V gw gh 0 = V := by
  have h1 : lowL V gw gh 0 = V := gridL_id hV fun i hi => (rgW_zero hw hi).1
  unfold openL
  rw [h1]
  exact gridL_id hV fun i hi => (rgW_zero hw hi).2
/-- a flat land -/
theorem rgW_flat (hw : 0 < gw) (hi : i < gw * gh) {v : Int} (hf : ∀ j, j < gw * gh → V.getD j 0 = v) : (rgW V gw gh i n).lo = v ∧ (rgW V gw gh i n).hi = v := by
  obtain ⟨a, b, h1, e1⟩ := rgW_lo (gh := gh) V n hw hi
  obtain ⟨c, d, h2, e2⟩ := rgW_hi (gh := gh) V n hw hi
  rw [← e1, ← e2, hf _ (h1.idx hw hi).1, hf _ (h2.idx hw hi).1]
  exact ⟨rfl, rfl⟩
theorem mean_flat (hw : 0 < gw) (hi : i < gw * gh) {v : Int} (hf : ∀ j, j < gw * gh → V.getD j 0 = v) : meanW V gw gh i n = v := by
  have h1 := meanW_in (V := V) (n := n) hw hi
  have h2 := rgW_flat (n := n) hw hi hf
  omega
theorem open_flat (hw : 0 < gw) {v : Int} (hf : ∀ j, j < gw * gh → V.getD j 0 = v) : ∀ i, i < gw * gh → (openL V gw gh n).getD i 0 = v := fun i hi => by
  have h1 : ∀ j, j < gw * gh → (lowL V gw gh n).getD j 0 = v := fun j hj => by rw [lowL_at V n hj]; exact (rgW_flat hw hj hf).1
  rw [openL_at V n hi]
  exact (rgW_flat hw hi h1).2
end
end Go.Proofs.YtbcgbcipigcbhaaGreat
