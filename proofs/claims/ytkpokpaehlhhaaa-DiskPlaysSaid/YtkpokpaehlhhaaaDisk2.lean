/- A disk in memory; contracts of its smaller methods. -/
import Derived.Test.YtkpokpaehlhhaaaDisk
import Derived.Test.YtkpokpaehlhhaaaR1
namespace Go.Proofs.Ytkpokpaehlhhaaa
open Go.RowKit
set_option linter.unusedVariables false
set_option linter.unusedSimpArgs false
set_option maxRecDepth 100000

structure DS where
  room : Int
  last : List Int × List Int
  waits : List DU
  seen : List Int × List Int
  fused : Bool
  fuse : Int
  dark : Bool
def Grow (F : Nat → Prop) (W : World) (g : Nat) : Prop := F g ∨ W.heap.size ≤ g
def DS.cells (s : DS) (l0 l1 ws s0 s1 : Value) : List Value := [.int .i64 s.room, l0, l1, ws, s0, s1, .bool s.fused, .int .i64 s.fuse, .bool s.dark]
structure DiskAt (w : World) (F : Nat → Prop) (p : Nat) (s : DS) (l0 l1 ws s0 s1 : Value) : Prop where
  blk : Blk w p 83 (s.cells l0 l1 ws s0 s1)
  last : Two w l0 l1 s.last
  waits : R1 w 98 ws (s.waits.map DU.val)
  seen : Two w s0 s1 s.seen
  ls : ∀ g, Owns l0 l1 g → ¬ Owns s0 s1 g
  lw : ∀ g, Owns l0 l1 g → ws.ownBlock ≠ some g
  sw : ∀ g, Owns s0 s1 g → ws.ownBlock ≠ some g
  lp : ¬ Owns l0 l1 p
  sp : ¬ Owns s0 s1 p
  wp : ws.ownBlock ≠ some p
  fp : F p
  fl : ∀ g, Owns l0 l1 g → F g
  fs : ∀ g, Owns s0 s1 g → F g
  fw : ∀ g, ws.ownBlock = some g → F g
def DiskIs (w : World) (F : Nat → Prop) (p : Nat) (s : DS) : Prop := ∃ l0 l1 ws s0 s1, DiskAt w F p s l0 l1 ws s0 s1
/-- what a method leaves -/
def DiskP (W : World) (F : Nat → Prop) (p : Nat) (s : DS) (w' : World) : Prop := DiskIs w' (Grow F W) p s ∧ Fr F W w'

theorem Two.fr {w w' : World} {v0 v1 : Value} {fs : List Int × List Int} {F : Nat → Prop} (h : Two w v0 v1 fs) (k : Fr F w w') (hn : ∀ g, Owns v0 v1 g → ¬ F g) : Two w' v0 v1 fs :=
  ⟨h.1.fr k (fun g hg => hn g (.inl hg)), h.2.1.fr k (fun g hg => hn g (.inr hg)), h.2.2⟩
theorem Two.lt {w : World} {v0 v1 : Value} {fs : List Int × List Int} (h : Two w v0 v1 fs) {g : Nat} (hg : Owns v0 v1 g) : g < w.heap.size := hg.elim (fun e => h.1.lt e) (fun e => h.2.1.lt e)
section
variable {w w' W : World} {F F' : Nat → Prop} {p : Nat} {s : DS} {l0 l1 ws s0 s1 : Value}
theorem DiskAt.weak (h : DiskAt w F p s l0 l1 ws s0 s1) (hF : ∀ g, F g → F' g) : DiskAt w F' p s l0 l1 ws s0 s1 :=
  { h with fp := hF _ h.fp, fl := fun g hg => hF _ (h.fl g hg), fs := fun g hg => hF _ (h.fs g hg), fw := fun g hg => hF _ (h.fw g hg) }
theorem DiskIs.weak (h : DiskIs w F p s) (hF : ∀ g, F g → F' g) : DiskIs w F' p s := by
  obtain ⟨l0, l1, ws, s0, s1, h⟩ := h
  exact ⟨_, _, _, _, _, h.weak hF⟩
theorem DiskAt.fr (h : DiskAt w F p s l0 l1 ws s0 s1) (k : Fr F' w w') (hn : ∀ g, F g → ¬ F' g) : DiskAt w' F p s l0 l1 ws s0 s1 :=
  { h with blk := h.blk.fr k (hn _ h.fp), last := h.last.fr k (fun g hg => hn _ (h.fl g hg)), seen := h.seen.fr k (fun g hg => hn _ (h.fs g hg)), waits := h.waits.fr k (fun g hg => hn _ (h.fw g hg)) }
theorem DiskAt.gr (h : DiskAt w F p s l0 l1 ws s0 s1) (k : Gr w w') : DiskAt w' F p s l0 l1 ws s0 s1 := h.fr (Fr.of_gr (F := fun _ => False) k) (fun _ _ h => h)
theorem DiskIs.fr (h : DiskIs w F p s) (k : Fr F' w w') (hn : ∀ g, F g → ¬ F' g) : DiskIs w' F p s := by
  obtain ⟨l0, l1, ws, s0, s1, h⟩ := h
  exact ⟨_, _, _, _, _, h.fr k hn⟩
theorem DiskIs.gr (h : DiskIs w F p s) (k : Gr w w') : DiskIs w' F p s := h.fr (Fr.of_gr (F := fun _ => False) k) (fun _ _ h => h)
theorem DiskP.of_gr (h : DiskIs W F p s) (k : Gr W w') : DiskP W F p s w' := ⟨(h.gr k).weak (fun _ => .inl), Fr.of_gr k⟩
theorem DiskP.trans {s' : DS} (h : DiskP W F p s w) (k : DiskP w (Grow F W) p s' w') : DiskP W F p s' w' := by
  have hs := h.2.size
  refine ⟨k.1.weak fun g hg => ?_, h.2.trans k.2 fun g hg => hg⟩
  rcases hg with hg | hg
  · exact hg
  · exact .inr (Nat.le_trans hs hg)
end

def newDS (room : Int) : DS := ⟨room, ([], []), [], ([], []), false, 0, false⟩
theorem dnew_E (room : Int) (W : World) (h : 0 ≤ room ∧ room ≤ 1048576) : Fn Try.prog 10 [.int .i64 room] W (fun r w' => ∃ p, r = .tuple #[.pointer (some ⟨p, 0, none⟩), .int .i64 0] ∧ DiskIs w' (fun g => W.heap.size ≤ g) p (newDS room) ∧ Gr W w') := by
  have G0 := Gr.refl W
  refine Fn_enter Try.func10 rfl Try.results10 Try.ntmps10 (by kernel_rfl) (by kernel_rfl) ?_
  repeat refine cw_seq ?_
  refine cw_region ?_
  refine rw_v (op_pure rfl) ?_
  refine rw_v (op_pure rfl) ?_
  first | refine rw_end ?_ | (refine rw_nil ?_; show CW _ _ _ _ _ _) | refine rw_nil ?_
  repeat refine cw_seq ?_
  refine cw_region ?_
  refine rw_v (op_pure rfl) ?_
  first | refine rw_v (op_b (b := true) rfl (decide_eq_true (by omega))) ?_ | refine rw_v (op_b (b := false) rfl (decide_eq_false (by omega))) ?_ | refine rw_v (op_pure rfl) ?_
  refine rw_v (op_pure rfl) ?_
  first | refine rw_off rfl ?_ | (refine rw_on rfl ?_; refine rw_v (op_pure rfl) ?_)
  first | refine rw_off rfl ?_ | (refine rw_on rfl ?_; (first | refine rw_v (op_b (b := true) rfl (decide_eq_true (by omega))) ?_ | refine rw_v (op_b (b := false) rfl (decide_eq_false (by omega))) ?_ | refine rw_v (op_pure rfl) ?_))
  refine rw_v (op_pure rfl) ?_
  first | refine rw_end ?_ | (refine rw_nil ?_; show CW _ _ _ _ _ _) | refine rw_nil ?_
  repeat refine cw_seq ?_
  refine cw_false rfl ?_
  refine cw_skip ?_
  try show CW _ _ _ _ _ _
  repeat refine cw_seq ?_
  refine cw_region ?_
  refine rw_v (op_pure rfl) ?_
  refine rw_v (op_build (pl := [(0, 1), (1, 2), (3, 1), (4, 2), (6, 1), (7, 1), (8, 1)]) Try.underlying83 Try.zeroValue83 (fun w => by kernel_rfl) rfl rfl) ?_
  try have qb1_ := G0.le
  refine rw_new (op_box rfl) ?_
  intro w1_ g1_ s1_ b1_
  have G0 := G0.trans g1_
  refine rw_v (op_pure rfl) ?_
  refine rw_v (op_pure rfl) ?_
  first | refine rw_end ?_ | (refine rw_nil ?_; show CW _ _ _ _ _ _) | refine rw_nil ?_
  refine cw_ret (res2 rfl rfl ⟨_, rfl, ⟨_, _, _, _, _, b1_, ⟨R1.nil _ _, R1.nil _ _, fun g h => by cases h⟩, R1.nil _ _, ⟨R1.nil _ _, R1.nil _ _, fun g h => by cases h⟩, ?_, ?_, ?_, ?_, ?_, ?_, ?_, ?_, ?_, ?_⟩, G0⟩)
  all_goals first
    | (intro g hg; rcases hg with hg | hg <;> cases hg; done)
    | (intro hg; rcases hg with hg | hg <;> cases hg; done)
    | (intro hg; cases hg; done)
    | (intro g hg; cases hg; done)
    | (have := G0.le; first | (simp; done) | (simp; omega))
theorem dnewNo_E (room : Int) (W : World) (h : room < 0 ∨ room > 1048576) : Fn Try.prog 10 [.int .i64 room] W (RetG (.tuple #[.pointer none, .int .i64 11]) W) := by
  have G0 := Gr.refl W
  have h' : room < 0 ∨ 0 ≤ room ∧ room > 1048576 := by omega
  rcases h' with h' | h'
  all_goals
    refine Fn_enter Try.func10 rfl Try.results10 Try.ntmps10 (by kernel_rfl) (by kernel_rfl) ?_
    repeat refine cw_seq ?_
    refine cw_region ?_
    refine rw_v (op_pure rfl) ?_
    refine rw_v (op_pure rfl) ?_
    first | refine rw_end ?_ | (refine rw_nil ?_; show CW _ _ _ _ _ _) | refine rw_nil ?_
    repeat refine cw_seq ?_
    refine cw_region ?_
    refine rw_v (op_pure rfl) ?_
    first | refine rw_v (op_b (b := true) rfl (decide_eq_true (by omega))) ?_ | refine rw_v (op_b (b := false) rfl (decide_eq_false (by omega))) ?_ | refine rw_v (op_pure rfl) ?_
    refine rw_v (op_pure rfl) ?_
    first | refine rw_off rfl ?_ | (refine rw_on rfl ?_; refine rw_v (op_pure rfl) ?_)
    first | refine rw_off rfl ?_ | (refine rw_on rfl ?_; (first | refine rw_v (op_b (b := true) rfl (decide_eq_true (by omega))) ?_ | refine rw_v (op_b (b := false) rfl (decide_eq_false (by omega))) ?_ | refine rw_v (op_pure rfl) ?_))
    refine rw_v (op_pure rfl) ?_
    first | refine rw_end ?_ | (refine rw_nil ?_; show CW _ _ _ _ _ _) | refine rw_nil ?_
    repeat refine cw_seq ?_
    refine cw_true rfl ?_
    repeat refine cw_seq ?_
    refine cw_region ?_
    refine rw_v (op_pure rfl) ?_
    refine rw_v (op_pure rfl) ?_
    first | refine rw_end ?_ | (refine rw_nil ?_; show CW _ _ _ _ _ _) | refine rw_nil ?_
    exact cw_ret (res2 rfl rfl ⟨rfl, G0⟩)

def DS.code (s : DS) (file : Int) : Int := if file < 0 ∨ 2 ≤ file then 11 else if s.dark then 17 else 0
theorem dcheck_E (F : Nat → Prop) (p : Nat) (s : DS) (l0 l1 ws s0 s1 : Value) (file : Int) (W : World) (hD : DiskAt W F p s l0 l1 ws s0 s1) : Fn Try.prog 38 [.pointer (some ⟨p, 0, none⟩), .int .i64 file] W (RetG (.int .i64 (s.code file)) W) := by
  have G0 := Gr.refl W
  have hB := hD.blk
  unfold DS.cells at hB
  by_cases hf : file < 0 ∨ 2 ≤ file
  · have h' : file < 0 ∨ 0 ≤ file ∧ 2 ≤ file := by omega
    rcases h' with h' | h'
    all_goals
      refine Fn_enter Try.func38 rfl Try.results38 Try.ntmps38 (by kernel_rfl) (by kernel_rfl) ?_
      repeat refine cw_seq ?_
      refine cw_region ?_
      refine rw_v (op_pure rfl) ?_
      first | refine rw_end ?_ | (refine rw_nil ?_; show CW _ _ _ _ _ _) | refine rw_nil ?_
      repeat refine cw_seq ?_
      refine cw_block ?_
      repeat refine cw_seq ?_
      refine cw_region ?_
      refine rw_v (op_pure rfl) ?_
      refine rw_v (op_nilp Try.underlying25 rfl rfl) ?_
      refine rw_v (op_pure rfl) ?_
      first | refine rw_end ?_ | (refine rw_nil ?_; show CW _ _ _ _ _ _) | refine rw_nil ?_
      repeat refine cw_seq ?_
      refine cw_false rfl ?_
      repeat refine cw_seq ?_
      refine cw_region ?_
      refine rw_v (op_pure rfl) ?_
      first | refine rw_v (op_b (b := true) rfl (decide_eq_true (by omega))) ?_ | refine rw_v (op_b (b := false) rfl (decide_eq_false (by omega))) ?_ | refine rw_v (op_pure rfl) ?_
      refine rw_v (op_pure rfl) ?_
      first | refine rw_off rfl ?_ | (refine rw_on rfl ?_; refine rw_v (op_pure rfl) ?_)
      first | refine rw_off rfl ?_ | (refine rw_on rfl ?_; (first | refine rw_v (op_b (b := true) rfl (decide_eq_true (by omega))) ?_ | refine rw_v (op_b (b := false) rfl (decide_eq_false (by omega))) ?_ | refine rw_v (op_pure rfl) ?_))
      refine rw_v (op_pure rfl) ?_
      refine rw_v (op_pure rfl) ?_
      first | refine rw_end ?_ | (refine rw_nil ?_; show CW _ _ _ _ _ _) | refine rw_nil ?_
      repeat refine cw_seq ?_
      refine cw_true rfl ?_
      repeat refine cw_seq ?_
      refine cw_region ?_
      refine rw_v (op_pure rfl) ?_
      first | refine rw_end ?_ | (refine rw_nil ?_; show CW _ _ _ _ _ _) | refine rw_nil ?_
      exact cw_ret (res1 rfl ⟨by simp [DS.code, hf], G0⟩)
  · refine Fn_enter Try.func38 rfl Try.results38 Try.ntmps38 (by kernel_rfl) (by kernel_rfl) ?_
    repeat refine cw_seq ?_
    refine cw_region ?_
    refine rw_v (op_pure rfl) ?_
    first | refine rw_end ?_ | (refine rw_nil ?_; show CW _ _ _ _ _ _) | refine rw_nil ?_
    repeat refine cw_seq ?_
    refine cw_block ?_
    repeat refine cw_seq ?_
    refine cw_region ?_
    refine rw_v (op_pure rfl) ?_
    refine rw_v (op_nilp Try.underlying25 rfl rfl) ?_
    refine rw_v (op_pure rfl) ?_
    first | refine rw_end ?_ | (refine rw_nil ?_; show CW _ _ _ _ _ _) | refine rw_nil ?_
    repeat refine cw_seq ?_
    refine cw_false rfl ?_
    repeat refine cw_seq ?_
    refine cw_region ?_
    refine rw_v (op_pure rfl) ?_
    first | refine rw_v (op_b (b := true) rfl (decide_eq_true (by omega))) ?_ | refine rw_v (op_b (b := false) rfl (decide_eq_false (by omega))) ?_ | refine rw_v (op_pure rfl) ?_
    refine rw_v (op_pure rfl) ?_
    first | refine rw_off rfl ?_ | (refine rw_on rfl ?_; refine rw_v (op_pure rfl) ?_)
    first | refine rw_off rfl ?_ | (refine rw_on rfl ?_; (first | refine rw_v (op_b (b := true) rfl (decide_eq_true (by omega))) ?_ | refine rw_v (op_b (b := false) rfl (decide_eq_false (by omega))) ?_ | refine rw_v (op_pure rfl) ?_))
    refine rw_v (op_pure rfl) ?_
    refine rw_v (op_pure rfl) ?_
    first | refine rw_end ?_ | (refine rw_nil ?_; show CW _ _ _ _ _ _) | refine rw_nil ?_
    repeat refine cw_seq ?_
    refine cw_false rfl ?_
    repeat refine cw_seq ?_
    refine cw_region ?_
    refine rw_v (op_pure rfl) ?_
    refine rw_v (op_pure rfl) ?_
    refine rw_v (op_fieldAddr Try.underlying83 rfl Try.sizeOf4 rfl rfl) ?_
    refine rw_r (op_loadB Try.underlying4 rfl rfl hB rfl) ?_
    refine rw_v (op_pure rfl) ?_
    first | refine rw_end ?_ | (refine rw_nil ?_; show CW _ _ _ _ _ _) | refine rw_nil ?_
    repeat refine cw_seq ?_
    refine cw_cond rfl (fun hd => ?_) (fun hd => ?_)
    · repeat refine cw_seq ?_
      refine cw_region ?_
      refine rw_v (op_pure rfl) ?_
      first | refine rw_end ?_ | (refine rw_nil ?_; show CW _ _ _ _ _ _) | refine rw_nil ?_
      exact cw_ret (res1 rfl ⟨by simp [DS.code, hf, hd], G0⟩)
    · refine cw_skip ?_
      try show CW _ _ _ _ _ _
      repeat refine cw_seq ?_
      refine cw_region ?_
      refine rw_v (op_pure rfl) ?_
      first | refine rw_end ?_ | (refine rw_nil ?_; show CW _ _ _ _ _ _) | refine rw_nil ?_
      exact cw_ret (res1 rfl ⟨by simp [DS.code, hf, hd], G0⟩)
theorem dcheckNil_E (file : Int) (W : World) : Fn Try.prog 38 [.pointer none, .int .i64 file] W (RetG (.int .i64 1) W) := by
  have G0 := Gr.refl W
  refine Fn_enter Try.func38 rfl Try.results38 Try.ntmps38 (by kernel_rfl) (by kernel_rfl) ?_
  repeat refine cw_seq ?_
  refine cw_region ?_
  refine rw_v (op_pure rfl) ?_
  first | refine rw_end ?_ | (refine rw_nil ?_; show CW _ _ _ _ _ _) | refine rw_nil ?_
  repeat refine cw_seq ?_
  refine cw_block ?_
  repeat refine cw_seq ?_
  refine cw_region ?_
  refine rw_v (op_pure rfl) ?_
  refine rw_v (op_nilp Try.underlying25 rfl rfl) ?_
  refine rw_v (op_pure rfl) ?_
  first | refine rw_end ?_ | (refine rw_nil ?_; show CW _ _ _ _ _ _) | refine rw_nil ?_
  repeat refine cw_seq ?_
  refine cw_true rfl ?_
  repeat refine cw_seq ?_
  refine cw_region ?_
  refine rw_v (op_pure rfl) ?_
  first | refine rw_end ?_ | (refine rw_nil ?_; show CW _ _ _ _ _ _) | refine rw_nil ?_
  exact cw_ret (res1 rfl ⟨rfl, G0⟩)
theorem ddark_E (F : Nat → Prop) (p : Nat) (s : DS) (l0 l1 ws s0 s1 : Value) (W : World) (hD : DiskAt W F p s l0 l1 ws s0 s1) : Fn Try.prog 13 [.pointer (some ⟨p, 0, none⟩)] W (RetG (.bool s.dark) W) := by
  have G0 := Gr.refl W
  have hB := hD.blk
  unfold DS.cells at hB
  refine Fn_enter Try.func13 rfl Try.results13 Try.ntmps13 (by kernel_rfl) (by kernel_rfl) ?_
  repeat refine cw_seq ?_
  refine cw_region ?_
  refine rw_v (op_pure rfl) ?_
  first | refine rw_end ?_ | (refine rw_nil ?_; show CW _ _ _ _ _ _) | refine rw_nil ?_
  repeat refine cw_seq ?_
  refine cw_region ?_
  refine rw_v (op_pure rfl) ?_
  refine rw_v (op_nilp Try.underlying25 rfl rfl) ?_
  refine rw_v (op_pure rfl) ?_
  first | refine rw_off rfl ?_ | (refine rw_on rfl ?_; refine rw_v (op_pure rfl) ?_)
  first | refine rw_off rfl ?_ | (refine rw_on rfl ?_; refine rw_v (op_pure rfl) ?_)
  first | refine rw_off rfl ?_ | (refine rw_on rfl ?_; refine rw_v (op_fieldAddr Try.underlying83 rfl Try.sizeOf4 rfl rfl) ?_)
  first | refine rw_off rfl ?_ | (refine rw_on rfl ?_; refine rw_r (op_loadB Try.underlying4 rfl rfl hB rfl) ?_)
  refine rw_v (op_pure rfl) ?_
  refine rw_v (op_pure rfl) ?_
  first | refine rw_end ?_ | (refine rw_nil ?_; show CW _ _ _ _ _ _) | refine rw_nil ?_
  exact cw_ret (res1 rfl ⟨rfl, G0⟩)
theorem ddarkNil_E (W : World) : Fn Try.prog 13 [.pointer none] W (RetG (.bool true) W) := by
  have G0 := Gr.refl W
  refine Fn_enter Try.func13 rfl Try.results13 Try.ntmps13 (by kernel_rfl) (by kernel_rfl) ?_
  repeat refine cw_seq ?_
  refine cw_region ?_
  refine rw_v (op_pure rfl) ?_
  first | refine rw_end ?_ | (refine rw_nil ?_; show CW _ _ _ _ _ _) | refine rw_nil ?_
  repeat refine cw_seq ?_
  refine cw_region ?_
  refine rw_v (op_pure rfl) ?_
  refine rw_v (op_nilp Try.underlying25 rfl rfl) ?_
  refine rw_v (op_pure rfl) ?_
  first | refine rw_off rfl ?_ | (refine rw_on rfl ?_; refine rw_v (op_pure rfl) ?_)
  first | refine rw_off rfl ?_ | (refine rw_on rfl ?_; refine rw_v (op_pure rfl) ?_)
  first | refine rw_off rfl ?_ | (refine rw_on rfl ?_; refine rw_v (op_fieldAddr Try.underlying83 rfl Try.sizeOf4 rfl rfl) ?_)
  first | refine rw_off rfl ?_ | (refine rw_on rfl ?_; fail)
  refine rw_v (op_pure rfl) ?_
  refine rw_v (op_pure rfl) ?_
  first | refine rw_end ?_ | (refine rw_nil ?_; show CW _ _ _ _ _ _) | refine rw_nil ?_
  exact cw_ret (res1 rfl ⟨rfl, G0⟩)
def DS.burns (s : DS) : Bool := s.fused && s.fuse == 0
theorem dburns_E (F : Nat → Prop) (p : Nat) (s : DS) (l0 l1 ws s0 s1 : Value) (W : World) (hD : DiskAt W F p s l0 l1 ws s0 s1) : Fn Try.prog 42 [.pointer (some ⟨p, 0, none⟩)] W (RetG (.bool s.burns) W) := by
  have G0 := Gr.refl W
  have hB := hD.blk
  unfold DS.cells at hB
  cases hfu : s.fused
  all_goals
    rw [hfu] at hB
    refine Fn_enter Try.func42 rfl Try.results42 Try.ntmps42 (by kernel_rfl) (by kernel_rfl) ?_
    repeat refine cw_seq ?_
    refine cw_region ?_
    refine rw_v (op_pure rfl) ?_
    first | refine rw_end ?_ | (refine rw_nil ?_; show CW _ _ _ _ _ _) | refine rw_nil ?_
    repeat refine cw_seq ?_
    refine cw_region ?_
    refine rw_v (op_pure rfl) ?_
    refine rw_v (op_pure rfl) ?_
    refine rw_v (op_fieldAddr Try.underlying83 rfl Try.sizeOf4 rfl rfl) ?_
    refine rw_r (op_loadB Try.underlying4 rfl rfl hB rfl) ?_
    refine rw_v (op_pure rfl) ?_
    first | refine rw_off rfl ?_ | (refine rw_on rfl ?_; refine rw_v (op_pure rfl) ?_)
    first | refine rw_off rfl ?_ | (refine rw_on rfl ?_; refine rw_v (op_pure rfl) ?_)
    first | refine rw_off rfl ?_ | (refine rw_on rfl ?_; refine rw_v (op_fieldAddr Try.underlying83 rfl Try.sizeOf2 rfl rfl) ?_)
    first | refine rw_off rfl ?_ | (refine rw_on rfl ?_; refine rw_r (op_loadB Try.underlying2 rfl rfl hB rfl) ?_)
    first | refine rw_off rfl ?_ | (refine rw_on rfl ?_; refine rw_v (op_pure rfl) ?_)
    refine rw_v (op_pure rfl) ?_
    refine rw_v (op_pure rfl) ?_
    first | refine rw_end ?_ | (refine rw_nil ?_; show CW _ _ _ _ _ _) | refine rw_nil ?_
    exact cw_ret (res1 rfl ⟨by simp [DS.burns, hfu], G0⟩)
theorem dread_E (F : Nat → Prop) (p : Nat) (s : DS) (file : Nat) (hf : file = 0 ∨ file = 1) (hb : bigB s.seen) (W : World) (hD : DiskIs W F p s) (hk : s.dark = false) : Fn Try.prog 16 [.pointer (some ⟨p, 0, none⟩), .int .i64 file] W
    (fun r w' => ∃ v, r = .tuple #[v, .int .i64 0] ∧ RetR 5 (c8 (if file = 0 then s.seen.1 else s.seen.2)) W v w') := by
  have G0 := Gr.refl W
  obtain ⟨l0, l1, ws, s0, s1, hD⟩ := hD
  have hB := hD.blk
  unfold DS.cells at hB
  obtain ⟨A0, c0, h0⟩ := hD.seen.1.slice
  obtain ⟨A1, c1, h1⟩ := hD.seen.2.1.slice
  have hs := hD.seen
  rw [h0, h1] at hs hB
  rw [c8_length] at hs hB
  rw [c8_length] at hs hB
  have hc0 := hs.1.cap0
  have hc1 := hs.2.1.cap0
  have hcode : s.code file = 0 := by rcases hf with rfl | rfl <;> simp [DS.code, hk]
  rcases hf with rfl | rfl
  · refine Fn_enter Try.func16 rfl Try.results16 Try.ntmps16 (by kernel_rfl) (by kernel_rfl) ?_
    repeat refine cw_seq ?_
    refine cw_region ?_
    refine rw_v (op_pure rfl) ?_
    refine rw_v (op_pure rfl) ?_
    first | refine rw_end ?_ | (refine rw_nil ?_; show CW _ _ _ _ _ _) | refine rw_nil ?_
    repeat refine cw_seq ?_
    refine cw_region ?_
    refine rw_v (op_pure rfl) ?_
    refine rw_v (op_pure rfl) ?_
    refine rw_call rfl (dcheck_E F p s l0 l1 ws s0 s1 _ _ hD) ?_
    rintro _ w1 ⟨rfl, g1⟩
    have hB := hB.gr g1
    have G0 := G0.trans g1
    refine rw_v (op_pure rfl) ?_
    first | refine rw_end ?_ | (refine rw_nil ?_; show CW _ _ _ _ _ _) | refine rw_nil ?_
    repeat refine cw_seq ?_
    refine cw_region ?_
    refine rw_v (op_pure rfl) ?_
    refine rw_v (op_b (b := false) rfl (by rw [hcode]; rfl)) ?_
    first | refine rw_end ?_ | (refine rw_nil ?_; show CW _ _ _ _ _ _) | refine rw_nil ?_
    repeat refine cw_seq ?_
    refine cw_false rfl ?_
    refine cw_skip ?_
    try show CW _ _ _ _ _ _
    have G1 := G0
    repeat refine cw_seq ?_
    refine cw_region ?_
    refine rw_v (op_pure rfl) ?_
    refine rw_v (op_pure rfl) ?_
    refine rw_v (op_pure rfl) ?_
    refine rw_v (op_fieldAddr Try.underlying83 rfl Try.sizeOf30 rfl rfl) ?_
    refine rw_v (op_indexAddrQ Try.underlying30 Try.sizeOf29 rfl rfl (by omega) (by omega) (o' := 4 + 0) (by simp)) ?_
    refine rw_r (op_loadB Try.underlying29 rfl rfl hB rfl) ?_
    refine rw_call rfl (clone_E A0 _ c0 s.seen.1 rfl _ ((hs.1.gr G1).rd) hc0.1 (Nat.le_of_lt hb.1)) ?_
    rintro v2 w2 hR
    obtain ⟨A2, c2, rfl⟩ := hR.1.slice
    refine rw_v (op_pure rfl) ?_
    refine rw_v (op_pure rfl) ?_
    first | refine rw_end ?_ | (refine rw_nil ?_; show CW _ _ _ _ _ _) | refine rw_nil ?_
    exact cw_ret (res2 rfl rfl ⟨_, rfl, hR.1, G1.trans hR.2.1, fun g hg => Nat.le_trans G1.le (hR.2.2 g hg)⟩)
  · refine Fn_enter Try.func16 rfl Try.results16 Try.ntmps16 (by kernel_rfl) (by kernel_rfl) ?_
    repeat refine cw_seq ?_
    refine cw_region ?_
    refine rw_v (op_pure rfl) ?_
    refine rw_v (op_pure rfl) ?_
    first | refine rw_end ?_ | (refine rw_nil ?_; show CW _ _ _ _ _ _) | refine rw_nil ?_
    repeat refine cw_seq ?_
    refine cw_region ?_
    refine rw_v (op_pure rfl) ?_
    refine rw_v (op_pure rfl) ?_
    refine rw_call rfl (dcheck_E F p s l0 l1 ws s0 s1 _ _ hD) ?_
    rintro _ w1 ⟨rfl, g1⟩
    have hB := hB.gr g1
    have G0 := G0.trans g1
    refine rw_v (op_pure rfl) ?_
    first | refine rw_end ?_ | (refine rw_nil ?_; show CW _ _ _ _ _ _) | refine rw_nil ?_
    repeat refine cw_seq ?_
    refine cw_region ?_
    refine rw_v (op_pure rfl) ?_
    refine rw_v (op_b (b := false) rfl (by rw [hcode]; rfl)) ?_
    first | refine rw_end ?_ | (refine rw_nil ?_; show CW _ _ _ _ _ _) | refine rw_nil ?_
    repeat refine cw_seq ?_
    refine cw_false rfl ?_
    refine cw_skip ?_
    try show CW _ _ _ _ _ _
    have G1 := G0
    repeat refine cw_seq ?_
    refine cw_region ?_
    refine rw_v (op_pure rfl) ?_
    refine rw_v (op_pure rfl) ?_
    refine rw_v (op_pure rfl) ?_
    refine rw_v (op_fieldAddr Try.underlying83 rfl Try.sizeOf30 rfl rfl) ?_
    refine rw_v (op_indexAddrQ Try.underlying30 Try.sizeOf29 rfl rfl (by omega) (by omega) (o' := 4 + 1) (by simp)) ?_
    refine rw_r (op_loadB Try.underlying29 rfl rfl hB rfl) ?_
    refine rw_call rfl (clone_E A1 _ c1 s.seen.2 rfl _ ((hs.2.1.gr G1).rd) hc1.1 (Nat.le_of_lt hb.2)) ?_
    rintro v2 w2 hR
    obtain ⟨A2, c2, rfl⟩ := hR.1.slice
    refine rw_v (op_pure rfl) ?_
    refine rw_v (op_pure rfl) ?_
    first | refine rw_end ?_ | (refine rw_nil ?_; show CW _ _ _ _ _ _) | refine rw_nil ?_
    exact cw_ret (res2 rfl rfl ⟨_, rfl, hR.1, G1.trans hR.2.1, fun g hg => Nat.le_trans G1.le (hR.2.2 g hg)⟩)
theorem dreadNo_E (F : Nat → Prop) (p : Nat) (s : DS) (file : Int) (W : World) (hD : DiskIs W F p s) (hk : s.code file ≠ 0) : Fn Try.prog 16 [.pointer (some ⟨p, 0, none⟩), .int .i64 file] W (RetG (.tuple #[.slice none 0 0, .int .i64 (s.code file)]) W) := by
  have G0 := Gr.refl W
  obtain ⟨l0, l1, ws, s0, s1, hD⟩ := hD
  refine Fn_enter Try.func16 rfl Try.results16 Try.ntmps16 (by kernel_rfl) (by kernel_rfl) ?_
  repeat refine cw_seq ?_
  refine cw_region ?_
  refine rw_v (op_pure rfl) ?_
  refine rw_v (op_pure rfl) ?_
  first | refine rw_end ?_ | (refine rw_nil ?_; show CW _ _ _ _ _ _) | refine rw_nil ?_
  repeat refine cw_seq ?_
  refine cw_region ?_
  refine rw_v (op_pure rfl) ?_
  refine rw_v (op_pure rfl) ?_
  refine rw_call rfl (dcheck_E F p s l0 l1 ws s0 s1 _ _ hD) ?_
  rintro _ w1 ⟨rfl, g1⟩
  have G0 := G0.trans g1
  refine rw_v (op_pure rfl) ?_
  first | refine rw_end ?_ | (refine rw_nil ?_; show CW _ _ _ _ _ _) | refine rw_nil ?_
  repeat refine cw_seq ?_
  refine cw_region ?_
  refine rw_v (op_pure rfl) ?_
  refine rw_v (op_b (b := true) rfl (by simpa using hk)) ?_
  first | refine rw_end ?_ | (refine rw_nil ?_; show CW _ _ _ _ _ _) | refine rw_nil ?_
  repeat refine cw_seq ?_
  refine cw_true rfl ?_
  repeat refine cw_seq ?_
  refine cw_region ?_
  refine rw_v (op_pure rfl) ?_
  refine rw_v (op_pure rfl) ?_
  refine rw_v (op_pure rfl) ?_
  first | refine rw_end ?_ | (refine rw_nil ?_; show CW _ _ _ _ _ _) | refine rw_nil ?_
  exact cw_ret (res2 rfl rfl ⟨rfl, G0⟩)
theorem dreadNil_E (file : Int) (W : World) : Fn Try.prog 16 [.pointer none, .int .i64 file] W (RetG (.tuple #[.slice none 0 0, .int .i64 1]) W) := by
  have G0 := Gr.refl W
  refine Fn_enter Try.func16 rfl Try.results16 Try.ntmps16 (by kernel_rfl) (by kernel_rfl) ?_
  repeat refine cw_seq ?_
  refine cw_region ?_
  refine rw_v (op_pure rfl) ?_
  refine rw_v (op_pure rfl) ?_
  first | refine rw_end ?_ | (refine rw_nil ?_; show CW _ _ _ _ _ _) | refine rw_nil ?_
  repeat refine cw_seq ?_
  refine cw_region ?_
  refine rw_v (op_pure rfl) ?_
  refine rw_v (op_pure rfl) ?_
  refine rw_call rfl (dcheckNil_E _ _) ?_
  rintro _ w1 ⟨rfl, g1⟩
  have G0 := G0.trans g1
  refine rw_v (op_pure rfl) ?_
  first | refine rw_end ?_ | (refine rw_nil ?_; show CW _ _ _ _ _ _) | refine rw_nil ?_
  repeat refine cw_seq ?_
  refine cw_region ?_
  refine rw_v (op_pure rfl) ?_
  first | refine rw_v (op_b (b := true) rfl (bne_iff_ne.2 (by omega))) ?_ | refine rw_v (op_b (b := false) rfl (bne_eq_false_iff_eq.2 (by omega))) ?_ | refine rw_v (op_pure rfl) ?_
  first | refine rw_end ?_ | (refine rw_nil ?_; show CW _ _ _ _ _ _) | refine rw_nil ?_
  repeat refine cw_seq ?_
  refine cw_true rfl ?_
  repeat refine cw_seq ?_
  refine cw_region ?_
  refine rw_v (op_pure rfl) ?_
  refine rw_v (op_pure rfl) ?_
  refine rw_v (op_pure rfl) ?_
  first | refine rw_end ?_ | (refine rw_nil ?_; show CW _ _ _ _ _ _) | refine rw_nil ?_
  exact cw_ret (res2 rfl rfl ⟨rfl, G0⟩)
def DS.left (s : DS) : Int := s.room - s.seen.1.length - s.seen.2.length
theorem dleft_E (F : Nat → Prop) (p : Nat) (s : DS) (W : World) (hD : DiskIs W F p s) (hk : s.dark = false) (hb : bigB s.seen) (hr : 0 ≤ s.room ∧ s.room ≤ 1048576) : Fn Try.prog 14 [.pointer (some ⟨p, 0, none⟩)] W (RetG (.int .i64 s.left) W) := by
  have G0 := Gr.refl W
  obtain ⟨l0, l1, ws, s0, s1, hD⟩ := hD
  have hB := hD.blk
  unfold DS.cells at hB
  obtain ⟨A0, c0, h0⟩ := hD.seen.1.slice
  obtain ⟨A1, c1, h1⟩ := hD.seen.2.1.slice
  rw [h0, h1] at hB
  rw [c8_length] at hB
  rw [c8_length] at hB
  have hb1 := hb.1
  have hb2 := hb.2
  refine Fn_enter Try.func14 rfl Try.results14 Try.ntmps14 (by kernel_rfl) (by kernel_rfl) ?_
  repeat refine cw_seq ?_
  refine cw_region ?_
  refine rw_v (op_pure rfl) ?_
  first | refine rw_end ?_ | (refine rw_nil ?_; show CW _ _ _ _ _ _) | refine rw_nil ?_
  repeat refine cw_seq ?_
  refine cw_region ?_
  refine rw_v (op_pure rfl) ?_
  refine rw_call rfl (ddark_E F p s l0 l1 ws s0 s1 _ hD) ?_
  rintro _ w1 ⟨rfl, g1⟩
  have hB := hB.gr g1
  have G0 := G0.trans g1
  first | refine rw_end ?_ | (refine rw_nil ?_; show CW _ _ _ _ _ _) | refine rw_nil ?_
  repeat refine cw_seq ?_
  refine cw_false (by rw [hk]; rfl) ?_
  refine cw_skip ?_
  try show CW _ _ _ _ _ _
  repeat refine cw_seq ?_
  refine cw_region ?_
  refine rw_v (op_pure rfl) ?_
  refine rw_v (op_pure rfl) ?_
  refine rw_v (op_fieldAddr Try.underlying83 rfl Try.sizeOf2 rfl rfl) ?_
  refine rw_r (op_loadB Try.underlying2 rfl rfl hB rfl) ?_
  refine rw_v (op_pure rfl) ?_
  first | refine rw_end ?_ | (refine rw_nil ?_; show CW _ _ _ _ _ _) | refine rw_nil ?_
  repeat refine cw_seq ?_
  refine cw_region ?_
  refine rw_v (op_pure rfl) ?_
  refine rw_v (op_pure rfl) ?_
  refine rw_v (op_fieldAddr Try.underlying83 rfl Try.sizeOf30 rfl rfl) ?_
  refine rw_r (op_loadAB Try.underlying30 rfl (Try.sizeOf30 _) rfl hB rfl rfl) ?_
  refine rw_v (op_pure rfl) ?_
  first | refine rw_end ?_ | (refine rw_nil ?_; show CW _ _ _ _ _ _) | refine rw_nil ?_
  repeat refine cw_seq ?_
  refine cw_block ?_
  refine cw_loop (fun m e w => ∃ k : Nat, k + m = 2 ∧ SL e [(15, .agg #[.slice A0 s.seen.1.length c0, .slice A1 s.seen.2.length c1]), (16, .int .i64 k), (3, .int .i64 (match k with | 0 => s.room | 1 => s.room - s.seen.1.length | _ => s.left))] ∧ Gr W w) 2
    ⟨0, by omega, ⟨rfl, rfl, rfl, trivial⟩, G0⟩ ?_
  rintro m e w ⟨k, hkm, hsl, G2⟩
  have hk3 : k = 0 ∨ k = 1 ∨ k = 2 := by omega
  rw [hsl.fold]
  rcases hk3 with rfl | rfl | rfl
  · repeat refine cw_seq ?_
    refine cw_region ?_
    first | refine rw_v (op_b (b := true) rfl (decide_eq_true (by omega))) ?_ | refine rw_v (op_b (b := false) rfl (decide_eq_false (by omega))) ?_ | refine rw_v (op_pure rfl) ?_
    first | refine rw_end ?_ | (refine rw_nil ?_; show CW _ _ _ _ _ _) | refine rw_nil ?_
    repeat refine cw_seq ?_
    refine cw_true rfl ?_
    refine cw_skip ?_
    try show CW _ _ _ _ _ _
    repeat refine cw_seq ?_
    refine cw_block ?_
    repeat refine cw_seq ?_
    refine cw_region ?_
    refine rw_v (op_indexV Try.underlying30 Try.underlying29 Try.sizeOf29 rfl rfl rfl (by omega) (by omega) rfl) ?_
    refine rw_v (op_pure rfl) ?_
    first | refine rw_end ?_ | (refine rw_nil ?_; show CW _ _ _ _ _ _) | refine rw_nil ?_
    repeat refine cw_seq ?_
    refine cw_region ?_
    refine rw_v (op_pure rfl) ?_
    refine rw_v (op_pure rfl) ?_
    refine rw_v (op_len Try.underlying29 rfl) ?_
    refine rw_v (op_rng rfl (by show -9223372036854775808 ≤ s.room - s.seen.1.length ∧ s.room - s.seen.1.length ≤ _; omega)) ?_
    refine rw_v (op_pure rfl) ?_
    first | refine rw_end ?_ | (refine rw_nil ?_; show CW _ _ _ _ _ _) | refine rw_nil ?_
    repeat refine cw_seq ?_
    refine cw_region ?_
    refine rw_v (op_rng rfl (by omega)) ?_
    refine rw_v (op_pure rfl) ?_
    first | refine rw_end ?_ | (refine rw_nil ?_; show CW _ _ _ _ _ _) | refine rw_nil ?_
    exact ⟨1, by omega, 1, by omega, ⟨rfl, ie (by omega), rfl, trivial⟩, G2⟩
  · repeat refine cw_seq ?_
    refine cw_region ?_
    first | refine rw_v (op_b (b := true) rfl (decide_eq_true (by omega))) ?_ | refine rw_v (op_b (b := false) rfl (decide_eq_false (by omega))) ?_ | refine rw_v (op_pure rfl) ?_
    first | refine rw_end ?_ | (refine rw_nil ?_; show CW _ _ _ _ _ _) | refine rw_nil ?_
    repeat refine cw_seq ?_
    refine cw_true rfl ?_
    refine cw_skip ?_
    try show CW _ _ _ _ _ _
    repeat refine cw_seq ?_
    refine cw_block ?_
    repeat refine cw_seq ?_
    refine cw_region ?_
    refine rw_v (op_indexV Try.underlying30 Try.underlying29 Try.sizeOf29 rfl rfl rfl (by omega) (by omega) rfl) ?_
    refine rw_v (op_pure rfl) ?_
    first | refine rw_end ?_ | (refine rw_nil ?_; show CW _ _ _ _ _ _) | refine rw_nil ?_
    repeat refine cw_seq ?_
    refine cw_region ?_
    refine rw_v (op_pure rfl) ?_
    refine rw_v (op_pure rfl) ?_
    refine rw_v (op_len Try.underlying29 rfl) ?_
    refine rw_v (op_rng rfl (by show -9223372036854775808 ≤ s.room - s.seen.1.length - s.seen.2.length ∧ s.room - s.seen.1.length - s.seen.2.length ≤ _; omega)) ?_
    refine rw_v (op_pure rfl) ?_
    first | refine rw_end ?_ | (refine rw_nil ?_; show CW _ _ _ _ _ _) | refine rw_nil ?_
    repeat refine cw_seq ?_
    refine cw_region ?_
    refine rw_v (op_rng rfl (by omega)) ?_
    refine rw_v (op_pure rfl) ?_
    first | refine rw_end ?_ | (refine rw_nil ?_; show CW _ _ _ _ _ _) | refine rw_nil ?_
    exact ⟨0, by omega, 2, by omega, ⟨rfl, ie (by omega), ie (by simp [DS.left]), trivial⟩, G2⟩
  · repeat refine cw_seq ?_
    refine cw_region ?_
    first | refine rw_v (op_b (b := true) rfl (decide_eq_true (by omega))) ?_ | refine rw_v (op_b (b := false) rfl (decide_eq_false (by omega))) ?_ | refine rw_v (op_pure rfl) ?_
    first | refine rw_end ?_ | (refine rw_nil ?_; show CW _ _ _ _ _ _) | refine rw_nil ?_
    repeat refine cw_seq ?_
    refine cw_false rfl ?_
    refine cw_exit ?_
    show CW _ _ _ _ _ _
    repeat refine cw_seq ?_
    refine cw_region ?_
    refine rw_v (op_pure rfl) ?_
    refine rw_v (op_pure rfl) ?_
    first | refine rw_end ?_ | (refine rw_nil ?_; show CW _ _ _ _ _ _) | refine rw_nil ?_
    exact cw_ret (res1 rfl ⟨rfl, G2⟩)
theorem dleftDark_E (F : Nat → Prop) (p : Nat) (s : DS) (W : World) (hD : DiskIs W F p s) (hk : s.dark = true) : Fn Try.prog 14 [.pointer (some ⟨p, 0, none⟩)] W (RetG (.int .i64 0) W) := by
  have G0 := Gr.refl W
  obtain ⟨l0, l1, ws, s0, s1, hD⟩ := hD
  refine Fn_enter Try.func14 rfl Try.results14 Try.ntmps14 (by kernel_rfl) (by kernel_rfl) ?_
  repeat refine cw_seq ?_
  refine cw_region ?_
  refine rw_v (op_pure rfl) ?_
  first | refine rw_end ?_ | (refine rw_nil ?_; show CW _ _ _ _ _ _) | refine rw_nil ?_
  repeat refine cw_seq ?_
  refine cw_region ?_
  refine rw_v (op_pure rfl) ?_
  refine rw_call rfl (ddark_E F p s l0 l1 ws s0 s1 _ hD) ?_
  rintro _ w1 ⟨rfl, g1⟩
  have G0 := G0.trans g1
  first | refine rw_end ?_ | (refine rw_nil ?_; show CW _ _ _ _ _ _) | refine rw_nil ?_
  repeat refine cw_seq ?_
  refine cw_true (by rw [hk]; rfl) ?_
  repeat refine cw_seq ?_
  refine cw_region ?_
  refine rw_v (op_pure rfl) ?_
  first | refine rw_end ?_ | (refine rw_nil ?_; show CW _ _ _ _ _ _) | refine rw_nil ?_
  exact cw_ret (res1 rfl ⟨rfl, G0⟩)
theorem dleftNil_E (W : World) : Fn Try.prog 14 [.pointer none] W (RetG (.int .i64 0) W) := by
  have G0 := Gr.refl W
  refine Fn_enter Try.func14 rfl Try.results14 Try.ntmps14 (by kernel_rfl) (by kernel_rfl) ?_
  repeat refine cw_seq ?_
  refine cw_region ?_
  refine rw_v (op_pure rfl) ?_
  first | refine rw_end ?_ | (refine rw_nil ?_; show CW _ _ _ _ _ _) | refine rw_nil ?_
  repeat refine cw_seq ?_
  refine cw_region ?_
  refine rw_v (op_pure rfl) ?_
  refine rw_call rfl (ddarkNil_E _) ?_
  rintro _ w1 ⟨rfl, g1⟩
  have G0 := G0.trans g1
  first | refine rw_end ?_ | (refine rw_nil ?_; show CW _ _ _ _ _ _) | refine rw_nil ?_
  repeat refine cw_seq ?_
  refine cw_true rfl ?_
  repeat refine cw_seq ?_
  refine cw_region ?_
  refine rw_v (op_pure rfl) ?_
  first | refine rw_end ?_ | (refine rw_nil ?_; show CW _ _ _ _ _ _) | refine rw_nil ?_
  exact cw_ret (res1 rfl ⟨rfl, G0⟩)
end Go.Proofs.Ytkpokpaehlhhaaa
