/- rect.Around; smooth.each, made, Mean: contracts. -/
import Derived.Test.YtbcgbcipigcbhaaSmooth
import Derived.Test.YtbcgbcipigcbhaaSwap
namespace Go.Proofs.Ytbcgbcipigcbhaa
open Go.RowKit
set_option linter.unusedVariables false
set_option linter.unusedSimpArgs false
set_option maxRecDepth 100000

/-- a variable that is laid, and then set, while other operations come up that do not mind -/
def CA (F : Nat → Prop) (W : World) (L : List HA) (t : TypeId) (z l : List Value) (σ : List Value) (w : World) : Prop := match σ with
  | [] => St F W w L
  | [v] => ∃ b, v = .pointer (some ⟨b, 0, none⟩) ∧ St F W w (.blk b t z :: L)
  | _ :: v :: _ => ∃ b, v = .pointer (some ⟨b, 0, none⟩) ∧ St F W w (.blk b t l :: L)
section
variable {F : Nat → Prop} {W w w' : World} {L : List HA} {t : TypeId} {z l : List Value} {σ : List Value}
theorem CA.start (S : St F W w L) : CA F W L t z l [] w := S
theorem CA.gr (h : CA F W L t z l σ w) (g : Gr w w') : CA F W L t z l σ w' := by
  match σ, h with
  | [], h => exact St.gr h g
  | [v], ⟨b, e, S⟩ => exact ⟨b, e, S.gr g⟩
  | _ :: v :: _, ⟨b, e, S⟩ => exact ⟨b, e, S.gr g⟩
theorem CA.st (h : CA F W L t z l σ w) : St F W w L := by
  match σ, h with
  | [], h => exact h
  | [v], ⟨b, e, S⟩ => exact S.drop 1
  | _ :: v :: _, ⟨b, e, S⟩ => exact S.drop 1
theorem CA.fin {a v : Value} {σ : List Value} (h : CA F W L t z l (a :: v :: σ) w) : ∃ b, v = .pointer (some ⟨b, 0, none⟩) ∧ St F W w (.blk b t l :: L) := h
section
variable {P : Program} {e : Nat → Value} {d : Option Tmp} {ty : TypeId} {ps : String} {af : Array Edge}
theorem to_allocCA {zv : Value} (h : CA F W L t z l [] w) (hz : ∀ w, (zeroValue t).run P w = .ok zv w) (hl : zv.cells.toList = z) : opTo P e ⟨d, .alloc t, ty, ps, af, none⟩ w (fun v w' => CA F W L t z l [v] w') :=
  opTo_of_rw (rw_newB (op_alloc hz hl) h (fun b w' g S => ⟨b, rfl, S⟩))
theorem to_storeCA {b n : Nat} {x y : Operand} {cs : List Value} (h : CA F W L t z l [.pointer (some ⟨b, 0, none⟩)] w) (hz : (sizeOf t).run P w = .ok n w) (hx : ev e x = .pointer (some ⟨b, 0, none⟩)) (hy : ev e y = .agg cs.toArray) (hn : cs.length = n)
    (hl' : fzl (z.take 0 ++ cs ++ z.drop (0 + n)) = some l) (ho : ((cs.all fun v => v.oneCell') && Nat.ble (0 + n) z.length) = true) : opTo P e ⟨d, .store t x y, ty, ps, af, none⟩ w (fun v w' => CA F W L t z l [v, .pointer (some ⟨b, 0, none⟩)] w') := by
  obtain ⟨b', e', S⟩ := h
  cases e'
  exact opTo_of_rw (rw_storeSA (i := 0) S rfl hz hx hy hn hl' ho rfl (fun w' S' => ⟨b, rfl, S'⟩))
end
end
/-- a cell's window -/
structure Win where
  x0 : Nat
  y0 : Nat
  x1 : Nat
  y1 : Nat
def Win.val (r : Win) : Value := .agg #[.int .i64 r.x0, .int .i64 r.y0, .int .i64 r.x1, .int .i64 r.y1]
def winW (gw gh i n : Nat) : Win := ⟨i % gw - n, i / gw - n, min (i % gw + n) (gw - 1), min (i / gw + n) (gh - 1)⟩
def Win.ok (r : Win) (gw gh : Nat) : Prop := (r.x0 ≤ r.x1 ∧ r.x1 < gw) ∧ r.y0 ≤ r.y1 ∧ r.y1 < gh
theorem winW_ok {gw gh i n : Nat} (hgw : 0 < gw) (hi : i < gw * gh) : (winW gw gh i n).ok gw gh := by
  have h1 := Nat.mod_lt i hgw
  have h2 : i / gw < gh := Nat.div_lt_of_lt_mul hi
  unfold Win.ok winW
  dsimp only
  generalize i % gw = X at *
  generalize i / gw = Y at *
  omega
section
variable {W : World} {gw gh : Nat}
theorem around_E (i n : Nat) (hw : 1 ≤ gw ∧ gw ≤ 1024) (hh : 1 ≤ gh ∧ gh ≤ 1024) (hi : i < gw * gh) (hn : n ≤ 1024) :
    Fn Try.prog 137 [.agg #[.int .i64 (i % gw : Nat), .int .i64 (i / gw : Nat)], .int .i64 n, .int .i64 gw, .int .i64 gh] W (RetG (.tuple #[(winW gw gh i n).val, .int .i64 0]) W) := by
  have h1 := Nat.mod_lt i hw.1
  have h2 : i / gw < gh := Nat.div_lt_of_lt_mul hi
  have hwi : within (i % gw : Nat) (i / gw : Nat) (i % gw : Nat) (i / gw : Nat) gw gh = 0 := by
    generalize i % gw = X at *
    generalize i / gw = Y at *
    exact within_fine (by omega) (by omega) (by omega) (by omega)
  unfold winW Win.val
  dsimp only
  generalize i % gw = X at *
  generalize i / gw = Y at *
  have e0 : max ((X : Int) - n) 0 = ((X - n : Nat) : Int) := by omega
  have e1 : max ((Y : Int) - n) 0 = ((Y - n : Nat) : Int) := by omega
  have e2 : min ((X : Int) + n) ((gw : Int) - 1) = ((min (X + n) (gw - 1) : Nat) : Int) := by omega
  have e3 : min ((Y : Int) + n) ((gh : Int) - 1) = ((min (Y + n) (gh - 1) : Nat) : Int) := by omega
  have S := St.start W
  refine Fn_enter Try.func137 rfl Try.results137 Try.ntmps137 (by kernel_rfl) (by kernel_rfl) ?_
  repeat refine cw_seq ?_
  refine cw_region ?_
  refine rw_newB (op_box rfl) S ?_
  intro b_c w2_ g2_ S
  refine rw_newB (op_alloc Try.zeroValue75 rfl) S ?_
  intro b_res w4_ g4_ S
  refine rw_v (op_pure rfl) ?_
  first | refine rw_end ?_ | (refine rw_nil ?_; show CW _ _ _ _ _ _) | refine rw_nil ?_
  repeat refine cw_seq ?_
  refine cw_region ?_
  refine rw_v (op_fieldAddr Try.underlying44 rfl Try.sizeOf2 rfl rfl) ?_
  refine rw_r (op_loadB Try.underlying2 rfl rfl (S.blk (i := 1) rfl) rfl) ?_
  refine rw_v (op_fieldAddr Try.underlying44 rfl Try.sizeOf2 rfl rfl) ?_
  refine rw_r (op_loadB Try.underlying2 rfl rfl (S.blk (i := 1) rfl) rfl) ?_
  refine rw_v (op_fieldAddr Try.underlying44 rfl Try.sizeOf2 rfl rfl) ?_
  refine rw_r (op_loadB Try.underlying2 rfl rfl (S.blk (i := 1) rfl) rfl) ?_
  refine rw_v (op_fieldAddr Try.underlying44 rfl Try.sizeOf2 rfl rfl) ?_
  refine rw_r (op_loadB Try.underlying2 rfl rfl (S.blk (i := 1) rfl) rfl) ?_
  refine rw_v (op_build (pl := [(0, 1), (1, 1), (2, 1), (3, 1)]) Try.underlying75 Try.zeroValue75 (fun w => by kernel_rfl) rfl rfl) ?_
  iterate 2 refine rw_v (op_pure rfl) ?_
  refine rw_call rfl (within_E _ _ _ _ _ _ (by omega) (by omega) w4_) ?_
  rintro _ w5_ ⟨rfl, g5_⟩
  have S := S.gr g5_
  rw [hwi]
  refine rw_v (op_pure rfl) ?_
  first | refine rw_end ?_ | (refine rw_nil ?_; show CW _ _ _ _ _ _) | refine rw_nil ?_
  repeat refine cw_seq ?_
  refine cw_region ?_
  refine rw_v (op_pure rfl) ?_
  refine rw_v (op_b (b := false) rfl (bne_eq_false_iff_eq.2 (by omega))) ?_
  first | refine rw_end ?_ | (refine rw_nil ?_; show CW _ _ _ _ _ _) | refine rw_nil ?_
  repeat refine cw_seq ?_
  refine cw_false rfl ?_
  repeat refine cw_seq ?_
  refine cw_skip ?_
  try show CW _ _ _ _ _ _
  repeat refine cw_seq ?_
  refine cw_region ?_
  refine rw_v (op_pure rfl) ?_
  refine rw_v (op_b (b := false) rfl (decide_eq_false (by omega))) ?_
  refine rw_v (op_pure rfl) ?_
  first | refine rw_off rfl ?_ | (refine rw_on rfl ?_; refine rw_v (op_pure rfl) ?_)
  first | refine rw_off rfl ?_ | (refine rw_on rfl ?_; refine rw_v (op_b (b := false) rfl (decide_eq_false (by omega))) ?_)
  refine rw_v (op_pure rfl) ?_
  first | refine rw_end ?_ | (refine rw_nil ?_; show CW _ _ _ _ _ _) | refine rw_nil ?_
  repeat refine cw_seq ?_
  refine cw_false rfl ?_
  repeat refine cw_seq ?_
  refine cw_skip ?_
  try show CW _ _ _ _ _ _
  repeat refine cw_seq ?_
  refine cw_region ?_
  refine rw_v (op_fieldAddr Try.underlying44 rfl Try.sizeOf2 rfl rfl) ?_
  refine rw_r (op_loadB Try.underlying2 rfl rfl (S.blk (i := 1) rfl) rfl) ?_
  refine rw_v (op_pure rfl) ?_
  refine rw_v (op_rng rfl (by omega)) ?_
  refine rw_v (op_pure rfl) ?_
  rw [e0]
  refine rw_v (op_fieldAddr Try.underlying44 rfl Try.sizeOf2 rfl rfl) ?_
  refine rw_r (op_loadB Try.underlying2 rfl rfl (S.blk (i := 1) rfl) rfl) ?_
  refine rw_v (op_pure rfl) ?_
  refine rw_v (op_rng rfl (by omega)) ?_
  refine rw_v (op_pure rfl) ?_
  rw [e1]
  refine rw_v (op_fieldAddr Try.underlying44 rfl Try.sizeOf2 rfl rfl) ?_
  refine rw_r (op_loadB Try.underlying2 rfl rfl (S.blk (i := 1) rfl) rfl) ?_
  refine rw_v (op_pure rfl) ?_
  refine rw_v (op_rng rfl (by omega)) ?_
  refine rw_v (op_pure rfl) ?_
  refine rw_v (op_rng rfl (by omega)) ?_
  refine rw_v (op_pure rfl) ?_
  rw [e2]
  refine rw_v (op_fieldAddr Try.underlying44 rfl Try.sizeOf2 rfl rfl) ?_
  refine rw_r (op_loadB Try.underlying2 rfl rfl (S.blk (i := 1) rfl) rfl) ?_
  refine rw_v (op_pure rfl) ?_
  refine rw_v (op_rng rfl (by omega)) ?_
  refine rw_v (op_pure rfl) ?_
  refine rw_v (op_rng rfl (by omega)) ?_
  refine rw_v (op_pure rfl) ?_
  rw [e3]
  refine rw_v (op_build (pl := [(0, 1), (1, 1), (2, 1), (3, 1)]) Try.underlying75 Try.zeroValue75 (fun w => by kernel_rfl) rfl rfl) ?_
  refine rw_storeSA (i := 0) S rfl (Try.sizeOf75 _) rfl rfl rfl rfl rfl rfl ?_
  intro w6_ S
  refine rw_v (op_pure rfl) ?_
  first | refine rw_end ?_ | (refine rw_nil ?_; show CW _ _ _ _ _ _) | refine rw_nil ?_
  repeat refine cw_seq ?_
  refine cw_ret ?_
  repeat first | refine ret_then ?_ | refine ret_inb ?_
  exact resAT Try.underlying75 rfl (Try.sizeOf75 _) rfl (S.blk (i := 0) rfl) rfl rfl rfl ⟨rfl, S.out⟩
theorem aroundFar_E (i : Nat) (n : Int) (hw : 1 ≤ gw ∧ gw ≤ 1024) (hh : 1 ≤ gh ∧ gh ≤ 1024) (hi : i < gw * gh) (hn : n < 0 ∨ 1024 < n) :
    Fn Try.prog 137 [.agg #[.int .i64 (i % gw : Nat), .int .i64 (i / gw : Nat)], .int .i64 n, .int .i64 gw, .int .i64 gh] W (RetG (.tuple #[.agg #[.int .i64 0, .int .i64 0, .int .i64 0, .int .i64 0], .int .i64 9]) W) := by
  have h1 := Nat.mod_lt i hw.1
  have h2 : i / gw < gh := Nat.div_lt_of_lt_mul hi
  have hwi : within (i % gw : Nat) (i / gw : Nat) (i % gw : Nat) (i / gw : Nat) gw gh = 0 := by
    generalize i % gw = X at *
    generalize i / gw = Y at *
    exact within_fine (by omega) (by omega) (by omega) (by omega)
  generalize i % gw = X at *
  generalize i / gw = Y at *
  rcases hn with hn | hn
  · skip
    have S := St.start W
    refine Fn_enter Try.func137 rfl Try.results137 Try.ntmps137 (by kernel_rfl) (by kernel_rfl) ?_
    repeat refine cw_seq ?_
    refine cw_region ?_
    refine rw_newB (op_box rfl) S ?_
    intro b_c w2_ g2_ S
    refine rw_newB (op_alloc Try.zeroValue75 rfl) S ?_
    intro b_res w4_ g4_ S
    refine rw_v (op_pure rfl) ?_
    first | refine rw_end ?_ | (refine rw_nil ?_; show CW _ _ _ _ _ _) | refine rw_nil ?_
    repeat refine cw_seq ?_
    refine cw_region ?_
    refine rw_v (op_fieldAddr Try.underlying44 rfl Try.sizeOf2 rfl rfl) ?_
    refine rw_r (op_loadB Try.underlying2 rfl rfl (S.blk (i := 1) rfl) rfl) ?_
    refine rw_v (op_fieldAddr Try.underlying44 rfl Try.sizeOf2 rfl rfl) ?_
    refine rw_r (op_loadB Try.underlying2 rfl rfl (S.blk (i := 1) rfl) rfl) ?_
    refine rw_v (op_fieldAddr Try.underlying44 rfl Try.sizeOf2 rfl rfl) ?_
    refine rw_r (op_loadB Try.underlying2 rfl rfl (S.blk (i := 1) rfl) rfl) ?_
    refine rw_v (op_fieldAddr Try.underlying44 rfl Try.sizeOf2 rfl rfl) ?_
    refine rw_r (op_loadB Try.underlying2 rfl rfl (S.blk (i := 1) rfl) rfl) ?_
    refine rw_v (op_build (pl := [(0, 1), (1, 1), (2, 1), (3, 1)]) Try.underlying75 Try.zeroValue75 (fun w => by kernel_rfl) rfl rfl) ?_
    iterate 2 refine rw_v (op_pure rfl) ?_
    refine rw_call rfl (within_E _ _ _ _ _ _ (by omega) (by omega) w4_) ?_
    rintro _ w5_ ⟨rfl, g5_⟩
    have S := S.gr g5_
    rw [hwi]
    refine rw_v (op_pure rfl) ?_
    first | refine rw_end ?_ | (refine rw_nil ?_; show CW _ _ _ _ _ _) | refine rw_nil ?_
    repeat refine cw_seq ?_
    refine cw_region ?_
    refine rw_v (op_pure rfl) ?_
    refine rw_v (op_b (b := false) rfl (bne_eq_false_iff_eq.2 (by omega))) ?_
    first | refine rw_end ?_ | (refine rw_nil ?_; show CW _ _ _ _ _ _) | refine rw_nil ?_
    repeat refine cw_seq ?_
    refine cw_false rfl ?_
    repeat refine cw_seq ?_
    refine cw_skip ?_
    try show CW _ _ _ _ _ _
    repeat refine cw_seq ?_
    refine cw_region ?_
    refine rw_v (op_pure rfl) ?_
    refine rw_v (op_b (b := true) rfl (decide_eq_true (by omega))) ?_
    refine rw_v (op_pure rfl) ?_
    refine rw_off rfl ?_
    refine rw_off rfl ?_
    refine rw_v (op_pure rfl) ?_
    first | refine rw_end ?_ | (refine rw_nil ?_; show CW _ _ _ _ _ _) | refine rw_nil ?_
    repeat refine cw_seq ?_
    refine cw_true rfl ?_
    repeat refine cw_seq ?_
    refine cw_region ?_
    refine rw_v (op_build (pl := [(0, 1), (1, 1), (2, 1), (3, 1)]) Try.underlying75 Try.zeroValue75 (fun w => by kernel_rfl) rfl rfl) ?_
    refine rw_storeSA (i := 0) S rfl (Try.sizeOf75 _) rfl rfl rfl rfl rfl rfl ?_
    intro w6_ S
    refine rw_v (op_pure rfl) ?_
    first | refine rw_end ?_ | (refine rw_nil ?_; show CW _ _ _ _ _ _) | refine rw_nil ?_
    repeat refine cw_seq ?_
    refine cw_ret ?_
    repeat first | refine ret_then ?_ | refine ret_inb ?_
    exact resAT Try.underlying75 rfl (Try.sizeOf75 _) rfl (S.blk (i := 0) rfl) rfl rfl rfl ⟨rfl, S.out⟩
  · skip
    have S := St.start W
    refine Fn_enter Try.func137 rfl Try.results137 Try.ntmps137 (by kernel_rfl) (by kernel_rfl) ?_
    repeat refine cw_seq ?_
    refine cw_region ?_
    refine rw_newB (op_box rfl) S ?_
    intro b_c w2_ g2_ S
    refine rw_newB (op_alloc Try.zeroValue75 rfl) S ?_
    intro b_res w4_ g4_ S
    refine rw_v (op_pure rfl) ?_
    first | refine rw_end ?_ | (refine rw_nil ?_; show CW _ _ _ _ _ _) | refine rw_nil ?_
    repeat refine cw_seq ?_
    refine cw_region ?_
    refine rw_v (op_fieldAddr Try.underlying44 rfl Try.sizeOf2 rfl rfl) ?_
    refine rw_r (op_loadB Try.underlying2 rfl rfl (S.blk (i := 1) rfl) rfl) ?_
    refine rw_v (op_fieldAddr Try.underlying44 rfl Try.sizeOf2 rfl rfl) ?_
    refine rw_r (op_loadB Try.underlying2 rfl rfl (S.blk (i := 1) rfl) rfl) ?_
    refine rw_v (op_fieldAddr Try.underlying44 rfl Try.sizeOf2 rfl rfl) ?_
    refine rw_r (op_loadB Try.underlying2 rfl rfl (S.blk (i := 1) rfl) rfl) ?_
    refine rw_v (op_fieldAddr Try.underlying44 rfl Try.sizeOf2 rfl rfl) ?_
    refine rw_r (op_loadB Try.underlying2 rfl rfl (S.blk (i := 1) rfl) rfl) ?_
    refine rw_v (op_build (pl := [(0, 1), (1, 1), (2, 1), (3, 1)]) Try.underlying75 Try.zeroValue75 (fun w => by kernel_rfl) rfl rfl) ?_
    iterate 2 refine rw_v (op_pure rfl) ?_
    refine rw_call rfl (within_E _ _ _ _ _ _ (by omega) (by omega) w4_) ?_
    rintro _ w5_ ⟨rfl, g5_⟩
    have S := S.gr g5_
    rw [hwi]
    refine rw_v (op_pure rfl) ?_
    first | refine rw_end ?_ | (refine rw_nil ?_; show CW _ _ _ _ _ _) | refine rw_nil ?_
    repeat refine cw_seq ?_
    refine cw_region ?_
    refine rw_v (op_pure rfl) ?_
    refine rw_v (op_b (b := false) rfl (bne_eq_false_iff_eq.2 (by omega))) ?_
    first | refine rw_end ?_ | (refine rw_nil ?_; show CW _ _ _ _ _ _) | refine rw_nil ?_
    repeat refine cw_seq ?_
    refine cw_false rfl ?_
    repeat refine cw_seq ?_
    refine cw_skip ?_
    try show CW _ _ _ _ _ _
    repeat refine cw_seq ?_
    refine cw_region ?_
    refine rw_v (op_pure rfl) ?_
    refine rw_v (op_b (b := false) rfl (decide_eq_false (by omega))) ?_
    refine rw_v (op_pure rfl) ?_
    first | refine rw_off rfl ?_ | (refine rw_on rfl ?_; refine rw_v (op_pure rfl) ?_)
    first | refine rw_off rfl ?_ | (refine rw_on rfl ?_; refine rw_v (op_b (b := true) rfl (decide_eq_true (by omega))) ?_)
    refine rw_v (op_pure rfl) ?_
    first | refine rw_end ?_ | (refine rw_nil ?_; show CW _ _ _ _ _ _) | refine rw_nil ?_
    repeat refine cw_seq ?_
    refine cw_true rfl ?_
    repeat refine cw_seq ?_
    refine cw_region ?_
    refine rw_v (op_build (pl := [(0, 1), (1, 1), (2, 1), (3, 1)]) Try.underlying75 Try.zeroValue75 (fun w => by kernel_rfl) rfl rfl) ?_
    refine rw_storeSA (i := 0) S rfl (Try.sizeOf75 _) rfl rfl rfl rfl rfl rfl ?_
    intro w6_ S
    refine rw_v (op_pure rfl) ?_
    first | refine rw_end ?_ | (refine rw_nil ?_; show CW _ _ _ _ _ _) | refine rw_nil ?_
    repeat refine cw_seq ?_
    refine cw_ret ?_
    repeat first | refine ret_then ?_ | refine ret_inb ?_
    exact resAT Try.underlying75 rfl (Try.sizeOf75 _) rfl (S.blk (i := 0) rfl) rfl rfl rfl ⟨rfl, S.out⟩
end
section
variable {W : World} {A : Option Addr} {p gw gh cap fid : Nat} {cc : Nat → Int} {bs : Nat → Nat} {Rs : Nat → Option Nat} {caps : List Value} {q : Nat → Int}
theorem eachNil_E (n : Int) : Fn Try.prog 87 [.pointer none, .int .i64 n, .func (.func fid) (([] : List Value).toArray) caps.toArray] W (RetG (.tuple #[.slice none 0 0, .int .i64 1]) W) := by
  have S := St.start W
  refine Fn_enter Try.func87 rfl Try.results87 Try.ntmps87 (by kernel_rfl) (by kernel_rfl) ?_
  repeat refine cw_seq ?_
  refine cw_region ?_
  iterate 2 refine rw_v (op_pure rfl) ?_
  first | refine rw_end ?_ | (refine rw_nil ?_; show CW _ _ _ _ _ _) | refine rw_nil ?_
  repeat refine cw_seq ?_
  refine cw_region ?_
  refine rw_v (op_pure rfl) ?_
  refine rw_v (op_nilp Try.underlying28 rfl rfl) ?_
  first | refine rw_end ?_ | (refine rw_nil ?_; show CW _ _ _ _ _ _) | refine rw_nil ?_
  repeat refine cw_seq ?_
  refine cw_true rfl ?_
  repeat refine cw_seq ?_
  refine cw_region ?_
  iterate 2 refine rw_v (op_pure rfl) ?_
  first | refine rw_end ?_ | (refine rw_nil ?_; show CW _ _ _ _ _ _) | refine rw_nil ?_
  repeat refine cw_seq ?_
  refine cw_ret ?_
  repeat first | refine ret_then ?_ | refine ret_inb ?_
  exact res2 rfl rfl ⟨rfl, S.out⟩
set_option maxHeartbeats 2000000 in
theorem eachFar_E (n : Int) (hn : n < 0 ∨ 1024 < n) (hG : GridAt W p gw gh cc A cap bs Rs) : Fn Try.prog 87 [.pointer (some ⟨p, 0, none⟩), .int .i64 n, .func (.func fid) (([] : List Value).toArray) caps.toArray] W (RetG (.tuple #[.slice none 0 0, .int .i64 9]) W) := by
  have hw := hG.sw
  have hh := hG.sh
  have hm : 1 ≤ gw * gh ∧ gw * gh ≤ 1024 * 1024 := ⟨Nat.mul_le_mul hw.1 hh.1, Nat.mul_le_mul hw.2 hh.2⟩
  have emul : (gw : Int) * gh = ((gw * gh : Nat) : Int) := by push_cast; rfl
  have har := fun w => aroundFar_E (W := w) (gw := gw) (gh := gh) 0 n hw hh (by omega) hn
  rw [Nat.zero_mod, Nat.zero_div] at har
  have e1 : (0 : Int) % gw = ((0 : Nat) : Int) := by simp
  have e2 : (0 : Int) / gw = ((0 : Nat) : Int) := by simp
  have S := St.start W
  refine Fn_enter Try.func87 rfl Try.results87 Try.ntmps87 (by kernel_rfl) (by kernel_rfl) ?_
  repeat refine cw_seq ?_
  refine cw_region ?_
  iterate 2 refine rw_v (op_pure rfl) ?_
  first | refine rw_end ?_ | (refine rw_nil ?_; show CW _ _ _ _ _ _) | refine rw_nil ?_
  repeat refine cw_seq ?_
  refine cw_region ?_
  refine rw_v (op_pure rfl) ?_
  refine rw_v (op_nilp Try.underlying28 rfl rfl) ?_
  first | refine rw_end ?_ | (refine rw_nil ?_; show CW _ _ _ _ _ _) | refine rw_nil ?_
  repeat refine cw_seq ?_
  refine cw_false rfl ?_
  repeat refine cw_seq ?_
  refine cw_skip ?_
  try show CW _ _ _ _ _ _
  repeat refine cw_seq ?_
  refine cw_region ?_
  refine rw_v (op_pure rfl) ?_
  refine rw_call rfl (gsize_E p gw gh _ W (hG.top.gr S.out)) ?_
  rintro _ w1_ ⟨rfl, g1_⟩
  have S := S.gr g1_
  iterate 5 refine rw_v (op_pure rfl) ?_
  first | refine rw_end ?_ | (refine rw_nil ?_; show CW _ _ _ _ _ _) | refine rw_nil ?_
  repeat refine cw_seq ?_
  refine cw_region ?_
  refine rw_v (op_pure rfl) ?_
  first | refine rw_end ?_ | (refine rw_nil ?_; show CW _ _ _ _ _ _) | refine rw_nil ?_
  repeat refine cw_seq ?_
  refine cw_region ?_
  iterate 2 refine rw_v (op_pure rfl) ?_
  refine rw_v (op_rng rfl (by omega)) ?_
  rw [emul]
  refine rw_v (op_pure rfl) ?_
  first | refine rw_end ?_ | (refine rw_nil ?_; show CW _ _ _ _ _ _) | refine rw_nil ?_
  repeat refine cw_seq ?_
  refine cw_block ?_
  repeat refine cw_seq ?_
  refine cw_loop (fun m e w => SL e [(1, .int .i64 n), (8, .int .i64 gw), (9, .int .i64 gh), (23, .int .i64 (gw * gh : Nat)), (24, .int .i64 0)] ∧ St No W w []) 0 ⟨⟨rfl, rfl, rfl, rfl, rfl, trivial⟩, S⟩ ?_
  clear S
  rintro m e w ⟨hsl, S⟩
  rw [hsl.fold]
  repeat refine cw_seq ?_
  refine cw_region ?_
  refine rw_v (op_b (b := true) rfl (decide_eq_true (by omega))) ?_
  first | refine rw_end ?_ | (refine rw_nil ?_; show CW _ _ _ _ _ _) | refine rw_nil ?_
  repeat refine cw_seq ?_
  refine cw_true rfl ?_
  repeat refine cw_seq ?_
  refine cw_skip ?_
  try show CW _ _ _ _ _ _
  repeat refine cw_seq ?_
  refine cw_block ?_
  repeat refine cw_seq ?_
  refine cw_region ?_
  iterate 2 refine rw_v (op_pure rfl) ?_
  first | refine rw_end ?_ | (refine rw_nil ?_; show CW _ _ _ _ _ _) | refine rw_nil ?_
  repeat refine cw_seq ?_
  refine cw_tri (C := (CA No W [] 75 [.int .i64 0, .int .i64 0, .int .i64 0, .int .i64 0] [.int .i64 0, .int .i64 0, .int .i64 0, .int .i64 0])) [14, 15] [0, 1, 2, 3, 4, 5, 6, 7, 8, 9, 10, 11, 12, 13, 14, 15] [16] (by kernel_rfl) (by kernel_rfl) (CA.start (S.gr (Gr.drew _))) ?_
  simp only [pickI, pickL, List.drop_succ_cons, List.drop_zero]
  refine rs_v rfl (op_pure rfl) ?_
  refine rs_v rfl (op_pure rfl) ?_
  refine rs_v rfl (op_rem rfl rfl (by omega) (by omega)) ?_
  rw [e1]
  refine rs_v rfl (op_pure rfl) ?_
  refine rs_v rfl (op_pure rfl) ?_
  refine rs_v rfl (op_div rfl rfl (by omega) (by omega)) ?_
  rw [e2]
  refine rs_v rfl (op_build (pl := [(0, 1), (1, 1)]) Try.underlying44 Try.zeroValue44 (fun w => by kernel_rfl) rfl rfl) ?_
  refine rs_v rfl (op_pure rfl) ?_
  refine rs_v rfl (op_pure rfl) ?_
  refine rs_v rfl (op_pure rfl) ?_
  refine rs_call rfl rfl (fun τ wq hq => (har wq).mono (fun _ _ ⟨hv, hg⟩ => ⟨hv, hq.gr hg⟩)) ?_
  refine rs_v rfl (op_pure rfl) ?_
  refine rs_v rfl (op_pure rfl) ?_
  refine rs_v rfl (op_pure rfl) ?_
  refine rs_special rfl rfl (fun wq hq => to_allocCA hq Try.zeroValue75 rfl) ?_
  rintro v14 w14 ⟨b_r, rfl, _⟩
  refine rs_special rfl rfl (fun wq hq => to_storeCA hq (Try.sizeOf75 _) rfl rfl rfl rfl rfl) ?_
  rintro v15 w15 _
  refine rs_nil ?_
  rintro wz hz
  obtain ⟨b_r2, e_r2, S⟩ := hz.fin
  cases e_r2
  refine rw_v (op_pure rfl) ?_
  first | refine rw_end ?_ | (refine rw_nil ?_; show CW _ _ _ _ _ _) | refine rw_nil ?_
  repeat refine cw_seq ?_
  refine cw_region ?_
  refine rw_v (op_pure rfl) ?_
  refine rw_v (op_b (b := true) rfl (bne_iff_ne.2 (by omega))) ?_
  first | refine rw_end ?_ | (refine rw_nil ?_; show CW _ _ _ _ _ _) | refine rw_nil ?_
  repeat refine cw_seq ?_
  refine cw_true rfl ?_
  repeat refine cw_seq ?_
  refine cw_region ?_
  iterate 3 refine rw_v (op_pure rfl) ?_
  first | refine rw_end ?_ | (refine rw_nil ?_; show CW _ _ _ _ _ _) | refine rw_nil ?_
  repeat refine cw_seq ?_
  refine cw_ret ?_
  repeat first | refine ret_then ?_ | refine ret_inb ?_
  exact res2 rfl rfl ⟨rfl, S.out⟩
set_option maxHeartbeats 4000000 in
theorem each_E (n : Nat) (hn : n ≤ 1024) (hG : GridAt W p gw gh cc A cap bs Rs) (hq : ∀ w, Gr W w → ∀ i, i < gw * gh → Fn Try.prog fid ([] ++ [(winW gw gh i n).val] ++ caps) w (RetG (.int .i64 (q i)) w)) :
    Fn Try.prog 87 [.pointer (some ⟨p, 0, none⟩), .int .i64 n, .func (.func fid) (([] : List Value).toArray) caps.toArray] W (RetNew (fun s => .tuple #[s, .int .i64 0]) 2 1 (gw * gh) (cellsQ (gw * gh) q) W) := by
  have hw := hG.sw
  have hh := hG.sh
  have hm : 1 ≤ gw * gh ∧ gw * gh ≤ 1024 * 1024 := ⟨Nat.mul_le_mul hw.1 hh.1, Nat.mul_le_mul hw.2 hh.2⟩
  have emul : (gw : Int) * gh = ((gw * gh : Nat) : Int) := by push_cast; rfl
  have S := St.start W
  refine Fn_enter Try.func87 rfl Try.results87 Try.ntmps87 (by kernel_rfl) (by kernel_rfl) ?_
  repeat refine cw_seq ?_
  refine cw_region ?_
  iterate 2 refine rw_v (op_pure rfl) ?_
  first | refine rw_end ?_ | (refine rw_nil ?_; show CW _ _ _ _ _ _) | refine rw_nil ?_
  repeat refine cw_seq ?_
  refine cw_region ?_
  refine rw_v (op_pure rfl) ?_
  refine rw_v (op_nilp Try.underlying28 rfl rfl) ?_
  first | refine rw_end ?_ | (refine rw_nil ?_; show CW _ _ _ _ _ _) | refine rw_nil ?_
  repeat refine cw_seq ?_
  refine cw_false rfl ?_
  repeat refine cw_seq ?_
  refine cw_skip ?_
  try show CW _ _ _ _ _ _
  repeat refine cw_seq ?_
  refine cw_region ?_
  refine rw_v (op_pure rfl) ?_
  refine rw_call rfl (gsize_E p gw gh _ W (hG.top.gr S.out)) ?_
  rintro _ w1_ ⟨rfl, g1_⟩
  have S := S.gr g1_
  iterate 5 refine rw_v (op_pure rfl) ?_
  first | refine rw_end ?_ | (refine rw_nil ?_; show CW _ _ _ _ _ _) | refine rw_nil ?_
  repeat refine cw_seq ?_
  refine cw_region ?_
  refine rw_v (op_pure rfl) ?_
  first | refine rw_end ?_ | (refine rw_nil ?_; show CW _ _ _ _ _ _) | refine rw_nil ?_
  repeat refine cw_seq ?_
  refine cw_region ?_
  iterate 2 refine rw_v (op_pure rfl) ?_
  refine rw_v (op_rng rfl (by omega)) ?_
  rw [emul]
  refine rw_v (op_pure rfl) ?_
  first | refine rw_end ?_ | (refine rw_nil ?_; show CW _ _ _ _ _ _) | refine rw_nil ?_
  repeat refine cw_seq ?_
  refine cw_block ?_
  repeat refine cw_seq ?_
  have S := S.pushNil 2 1
  refine cw_loop (fun m e w => ∃ (i : Nat) (A_o : Option Addr) (c_o : Nat), i + m = gw * gh ∧ SL e [(1, .int .i64 n), (2, .func (.func fid) (([] : List Value).toArray) caps.toArray), (8, .int .i64 gw), (9, .int .i64 gh), (10, .slice A_o i c_o), (23, .int .i64 (gw * gh : Nat)), (24, .int .i64 i)] ∧
    St No W w [.row 2 1 A_o i c_o (cellsQ i q)]) (gw * gh) ⟨0, none, 0, by omega, ⟨rfl, rfl, rfl, rfl, rfl, rfl, rfl, trivial⟩, S⟩ ?_
  clear S
  rintro m e w ⟨i, A_o, c_o, him, hsl, S⟩
  rw [hsl.fold]
  by_cases hi : i < gw * gh
  · have e1 : (i : Int) % gw = ((i % gw : Nat) : Int) := by push_cast; rfl
    have e2 : (i : Int) / gw = ((i / gw : Nat) : Int) := by push_cast; rfl
    repeat refine cw_seq ?_
    refine cw_region ?_
    refine rw_v (op_b (b := true) rfl (decide_eq_true (by omega))) ?_
    first | refine rw_end ?_ | (refine rw_nil ?_; show CW _ _ _ _ _ _) | refine rw_nil ?_
    repeat refine cw_seq ?_
    refine cw_true rfl ?_
    repeat refine cw_seq ?_
    refine cw_skip ?_
    try show CW _ _ _ _ _ _
    repeat refine cw_seq ?_
    refine cw_block ?_
    repeat refine cw_seq ?_
    refine cw_region ?_
    iterate 2 refine rw_v (op_pure rfl) ?_
    first | refine rw_end ?_ | (refine rw_nil ?_; show CW _ _ _ _ _ _) | refine rw_nil ?_
    repeat refine cw_seq ?_
    refine cw_tri (C := (CA No W [.row 2 1 A_o i c_o (cellsQ i q)] 75 [.int .i64 0, .int .i64 0, .int .i64 0, .int .i64 0] [.int .i64 (winW gw gh i n).x0, .int .i64 (winW gw gh i n).y0, .int .i64 (winW gw gh i n).x1, .int .i64 (winW gw gh i n).y1])) [14, 15] [0, 1, 2, 3, 4, 5, 6, 7, 8, 9, 10, 11, 12, 13, 14, 15] [16] (by kernel_rfl) (by kernel_rfl) (CA.start (S.gr (Gr.drew _))) ?_
    simp only [pickI, pickL, List.drop_succ_cons, List.drop_zero]
    refine rs_v rfl (op_pure rfl) ?_
    refine rs_v rfl (op_pure rfl) ?_
    refine rs_v rfl (op_rem rfl rfl (by omega) (by omega)) ?_
    rw [e1]
    refine rs_v rfl (op_pure rfl) ?_
    refine rs_v rfl (op_pure rfl) ?_
    refine rs_v rfl (op_div rfl rfl (by omega) (by omega)) ?_
    rw [e2]
    refine rs_v rfl (op_build (pl := [(0, 1), (1, 1)]) Try.underlying44 Try.zeroValue44 (fun w => by kernel_rfl) rfl rfl) ?_
    refine rs_v rfl (op_pure rfl) ?_
    refine rs_v rfl (op_pure rfl) ?_
    refine rs_v rfl (op_pure rfl) ?_
    refine rs_call rfl rfl (fun τ wq hq => (around_E (W := wq) i n hw hh hi hn).mono (fun _ _ ⟨hv, hg⟩ => ⟨hv, hq.gr hg⟩)) ?_
    refine rs_v rfl (op_pure rfl) ?_
    refine rs_v rfl (op_pure rfl) ?_
    refine rs_v rfl (op_pure rfl) ?_
    refine rs_special rfl rfl (fun wq hq => to_allocCA hq Try.zeroValue75 rfl) ?_
    rintro v14 w14 ⟨b_r, rfl, _⟩
    refine rs_special rfl rfl (fun wq hq => to_storeCA hq (Try.sizeOf75 _) rfl rfl rfl rfl rfl) ?_
    rintro v15 w15 _
    refine rs_nil ?_
    rintro wz hz
    obtain ⟨b_r2, e_r2, S⟩ := hz.fin
    cases e_r2
    refine rw_v (op_pure rfl) ?_
    first | refine rw_end ?_ | (refine rw_nil ?_; show CW _ _ _ _ _ _) | refine rw_nil ?_
    repeat refine cw_seq ?_
    refine cw_region ?_
    refine rw_v (op_pure rfl) ?_
    refine rw_v (op_b (b := false) rfl (bne_eq_false_iff_eq.2 (by omega))) ?_
    first | refine rw_end ?_ | (refine rw_nil ?_; show CW _ _ _ _ _ _) | refine rw_nil ?_
    repeat refine cw_seq ?_
    refine cw_false rfl ?_
    repeat refine cw_seq ?_
    refine cw_skip ?_
    try show CW _ _ _ _ _ _
    repeat refine cw_seq ?_
    refine cw_region ?_
    iterate 2 refine rw_v (op_pure rfl) ?_
    refine rw_r (op_loadAB Try.underlying75 rfl (Try.sizeOf75 _) rfl (S.blk (i := 0) rfl) rfl rfl) ?_
    refine rw_callv rfl rfl (hq wz S.out i hi) ?_
    rintro _ w3_ ⟨rfl, g3_⟩
    have S := S.gr g3_
    refine rw_buildS Try.underlying22 Try.sizeOf2 Try.zeroValue2 rfl rfl rfl rfl rfl rfl S ?_
    intro A_lit w5_ g5_ S sa_lit
    refine rw_appS (i := 2) S rfl (fun h => rfl) Try.underlying22 info_t2 rfl rfl rfl rfl (by simp) (by omega) (S.rd (i := 0) rfl) rfl (by omega) ?_
    intro A_o2 c_o2 w6_ S sa_o
    refine rw_v (op_pure rfl) ?_
    first | refine rw_end ?_ | (refine rw_nil ?_; show CW _ _ _ _ _ _) | refine rw_nil ?_
    repeat refine cw_seq ?_
    refine cw_region ?_
    refine rw_v (op_rng rfl (by omega)) ?_
    refine rw_v (op_pure rfl) ?_
    first | refine rw_end ?_ | (refine rw_nil ?_; show CW _ _ _ _ _ _) | refine rw_nil ?_
    have S := S.sub (.cons _ (.cons _ (.cons_cons _ (.slnil))))
    rw [cellsQ_push rfl] at S
    exact ⟨m - 1, by omega, i + 1, A_o2, c_o2, by omega, ⟨rfl, rfl, rfl, rfl, rfl, rfl, ie (by omega), trivial⟩, S⟩
  · obtain rfl : i = gw * gh := by omega
    repeat refine cw_seq ?_
    refine cw_region ?_
    refine rw_v (op_b (b := false) rfl (decide_eq_false (by omega))) ?_
    first | refine rw_end ?_ | (refine rw_nil ?_; show CW _ _ _ _ _ _) | refine rw_nil ?_
    repeat refine cw_seq ?_
    refine cw_false rfl ?_
    repeat refine cw_seq ?_
    refine cw_exit ?_
    repeat first | refine exit_then ?_ | refine exit_inb ?_
    show CW _ _ _ _ _ _
    repeat refine cw_seq ?_
    refine cw_region ?_
    iterate 3 refine rw_v (op_pure rfl) ?_
    first | refine rw_end ?_ | (refine rw_nil ?_; show CW _ _ _ _ _ _) | refine rw_nil ?_
    repeat refine cw_seq ?_
    refine cw_ret ?_
    repeat first | refine ret_then ?_ | refine ret_inb ?_
    exact res2 rfl rfl (S.retNew (i := 0) (mk := fun s => .tuple #[s, .int .i64 0]) rfl)
theorem smadeNil_E (n : Int) : Fn Try.prog 89 [.pointer none, .int .i64 n, .func (.func fid) (([] : List Value).toArray) caps.toArray] W (RetG (.tuple #[.pointer none, .int .i64 1]) W) := by
  have S := St.start W
  refine Fn_enter Try.func89 rfl Try.results89 Try.ntmps89 (by kernel_rfl) (by kernel_rfl) ?_
  repeat refine cw_seq ?_
  refine cw_region ?_
  iterate 2 refine rw_v (op_pure rfl) ?_
  first | refine rw_end ?_ | (refine rw_nil ?_; show CW _ _ _ _ _ _) | refine rw_nil ?_
  repeat refine cw_seq ?_
  refine cw_region ?_
  iterate 3 refine rw_v (op_pure rfl) ?_
  refine rw_call rfl (eachNil_E n) ?_
  rintro _ w1_ ⟨rfl, g1_⟩
  have S := S.gr g1_
  iterate 5 refine rw_v (op_pure rfl) ?_
  first | refine rw_end ?_ | (refine rw_nil ?_; show CW _ _ _ _ _ _) | refine rw_nil ?_
  repeat refine cw_seq ?_
  refine cw_region ?_
  refine rw_v (op_pure rfl) ?_
  refine rw_v (op_b (b := true) rfl (bne_iff_ne.2 (by omega))) ?_
  first | refine rw_end ?_ | (refine rw_nil ?_; show CW _ _ _ _ _ _) | refine rw_nil ?_
  repeat refine cw_seq ?_
  refine cw_true rfl ?_
  repeat refine cw_seq ?_
  refine cw_region ?_
  iterate 3 refine rw_v (op_pure rfl) ?_
  first | refine rw_end ?_ | (refine rw_nil ?_; show CW _ _ _ _ _ _) | refine rw_nil ?_
  repeat refine cw_seq ?_
  refine cw_ret ?_
  repeat first | refine ret_then ?_ | refine ret_inb ?_
  exact res2 rfl rfl ⟨rfl, S.out⟩
theorem smadeFar_E (n : Int) (hn : n < 0 ∨ 1024 < n) (hG : GridAt W p gw gh cc A cap bs Rs) : Fn Try.prog 89 [.pointer (some ⟨p, 0, none⟩), .int .i64 n, .func (.func fid) (([] : List Value).toArray) caps.toArray] W (RetG (.tuple #[.pointer none, .int .i64 9]) W) := by
  have S := St.start W
  refine Fn_enter Try.func89 rfl Try.results89 Try.ntmps89 (by kernel_rfl) (by kernel_rfl) ?_
  repeat refine cw_seq ?_
  refine cw_region ?_
  iterate 2 refine rw_v (op_pure rfl) ?_
  first | refine rw_end ?_ | (refine rw_nil ?_; show CW _ _ _ _ _ _) | refine rw_nil ?_
  repeat refine cw_seq ?_
  refine cw_region ?_
  iterate 3 refine rw_v (op_pure rfl) ?_
  refine rw_call rfl (eachFar_E (W := W) n hn (hG.gr S.out)) ?_
  rintro _ w1_ ⟨rfl, g1_⟩
  have S := S.gr g1_
  iterate 5 refine rw_v (op_pure rfl) ?_
  first | refine rw_end ?_ | (refine rw_nil ?_; show CW _ _ _ _ _ _) | refine rw_nil ?_
  repeat refine cw_seq ?_
  refine cw_region ?_
  refine rw_v (op_pure rfl) ?_
  refine rw_v (op_b (b := true) rfl (bne_iff_ne.2 (by omega))) ?_
  first | refine rw_end ?_ | (refine rw_nil ?_; show CW _ _ _ _ _ _) | refine rw_nil ?_
  repeat refine cw_seq ?_
  refine cw_true rfl ?_
  repeat refine cw_seq ?_
  refine cw_region ?_
  iterate 3 refine rw_v (op_pure rfl) ?_
  first | refine rw_end ?_ | (refine rw_nil ?_; show CW _ _ _ _ _ _) | refine rw_nil ?_
  repeat refine cw_seq ?_
  refine cw_ret ?_
  repeat first | refine ret_then ?_ | refine ret_inb ?_
  exact res2 rfl rfl ⟨rfl, S.out⟩
theorem smade_E (n : Nat) (hn : n ≤ 1024) (hG : GridAt W p gw gh cc A cap bs Rs) (hmay : ∀ i, i < gw * gh → mayB (q i) = true) (hq : ∀ w, Gr W w → ∀ i, i < gw * gh → Fn Try.prog fid ([] ++ [(winW gw gh i n).val] ++ caps) w (RetG (.int .i64 (q i)) w)) :
    Fn Try.prog 89 [.pointer (some ⟨p, 0, none⟩), .int .i64 n, .func (.func fid) (([] : List Value).toArray) caps.toArray] W (RetGrid (fun p => .tuple #[p, .int .i64 0]) gw gh (fun i => (gridL gw gh q).getD i 0) W) := by
  have hw := hG.sw
  have hh := hG.sh
  have hfrom := fun (A : Option Addr) (c : Nat) (w : World) (hR : Rd w A (ints (gridL gw gh q))) => from_E (W := w) (V := gridL gw gh q) c hw hh (gridL_len gw gh q) (fun v hv => by
    obtain ⟨i, hi, rfl⟩ := List.mem_map.1 hv
    exact hmay i (List.mem_range.1 hi)) hR
  rw [gridL_len] at hfrom
  have S := St.start W
  refine Fn_enter Try.func89 rfl Try.results89 Try.ntmps89 (by kernel_rfl) (by kernel_rfl) ?_
  repeat refine cw_seq ?_
  refine cw_region ?_
  iterate 2 refine rw_v (op_pure rfl) ?_
  first | refine rw_end ?_ | (refine rw_nil ?_; show CW _ _ _ _ _ _) | refine rw_nil ?_
  repeat refine cw_seq ?_
  refine cw_region ?_
  iterate 3 refine rw_v (op_pure rfl) ?_
  refine rw_call rfl (each_E (W := W) n hn (hG.gr S.out) (fun w g => hq w (S.out.trans g))) ?_
  rintro _ w1_ ⟨A_l, c_l, rfl, hR_l, hf_l, g1_⟩
  have S := S.pushRow hR_l hf_l g1_
  iterate 5 refine rw_v (op_pure rfl) ?_
  first | refine rw_end ?_ | (refine rw_nil ?_; show CW _ _ _ _ _ _) | refine rw_nil ?_
  repeat refine cw_seq ?_
  refine cw_region ?_
  refine rw_v (op_pure rfl) ?_
  refine rw_v (op_b (b := false) rfl (bne_eq_false_iff_eq.2 (by omega))) ?_
  first | refine rw_end ?_ | (refine rw_nil ?_; show CW _ _ _ _ _ _) | refine rw_nil ?_
  repeat refine cw_seq ?_
  refine cw_false rfl ?_
  repeat refine cw_seq ?_
  refine cw_skip ?_
  try show CW _ _ _ _ _ _
  repeat refine cw_seq ?_
  refine cw_region ?_
  refine rw_v (op_pure rfl) ?_
  refine rw_call rfl (gsize_E p gw gh _ w1_ (hG.top.gr S.out)) ?_
  rintro _ w2_ ⟨rfl, g2_⟩
  have S := S.gr g2_
  iterate 5 refine rw_v (op_pure rfl) ?_
  first | refine rw_end ?_ | (refine rw_nil ?_; show CW _ _ _ _ _ _) | refine rw_nil ?_
  have hrl := (S.row (i := 0) rfl).rd
  rw [cellsQ_ints] at hrl
  repeat refine cw_seq ?_
  refine cw_region ?_
  iterate 3 refine rw_v (op_pure rfl) ?_
  refine rw_call rfl (hfrom A_l c_l w2_ hrl) ?_
  rintro _ w3_ ⟨p2, B2, bc2, bs2, Rs2, rfl, hG2, hf2, g3_⟩
  have S := S.pushGrid hG2 hf2 g3_
  iterate 4 refine rw_v (op_pure rfl) ?_
  first | refine rw_end ?_ | (refine rw_nil ?_; show CW _ _ _ _ _ _) | refine rw_nil ?_
  repeat refine cw_seq ?_
  refine cw_ret ?_
  repeat first | refine ret_then ?_ | refine ret_inb ?_
  exact res2 rfl rfl (S.retGrid (i := 0) (mk := fun p => .tuple #[p, .int .i64 0]) rfl)
end
end Go.Proofs.Ytbcgbcipigcbhaa
