/- Contracts of a disk's methods that change it: Fuse, deed, settle. -/
import Derived.Test.YtkpokpaehlhhaaaDisk2
namespace Go.Proofs.Ytkpokpaehlhhaaa
open Go.RowKit
set_option linter.unusedVariables false
set_option linter.unusedSimpArgs false
set_option maxRecDepth 100000

section
variable {w w' W : World} {F F' : Nat → Prop} {p : Nat} {s s' : DS} {l0 l1 ws s0 s1 : Value}
theorem DiskAt.upd (h : DiskAt w F p s l0 l1 ws s0 s1) (hg : w.grownBy w' (some p)) (hB : Blk w' p 83 (s'.cells l0 l1 ws s0 s1)) (e1 : s'.last = s.last) (e2 : s'.seen = s.seen) (e3 : s'.waits = s.waits) : DiskAt w' F p s' l0 l1 ws s0 s1 :=
  have k : Fr (fun g => g = p) w w' := Fr.of_grown hg (fun g hg => by cases hg; rfl)
  { h with blk := hB, last := e1 ▸ h.last.fr k (fun g hg e => h.lp (e ▸ hg)), seen := e2 ▸ h.seen.fr k (fun g hg e => h.sp (e ▸ hg)), waits := e3 ▸ h.waits.fr k (fun g hg e => h.wp (e ▸ hg)) }
theorem Fr.of_p (h : DiskAt w F p s l0 l1 ws s0 s1) (hg : w.grownBy w' (some p)) : Fr F w w' := Fr.of_grown hg (fun g e => by cases e; exact h.fp)
theorem Two.own_lt {v0 v1 : Value} {fs : List Int × List Int} (h : Two w v0 v1 fs) {g : Nat} (hg : Owns v0 v1 g) : g < w.heap.size := h.lt hg
theorem DiskAt.on_seen {u : DU} (h : DiskAt W F p s l0 l1 ws s0 s1) {fs' : List Int × List Int} {r : Value} (k : On2 p 4 83 (s.cells l0 l1 ws s0 s1) s0 s1 fs' W r w') : r = .tuple #[] ∧ DiskIs w' (Grow F W) p { s with seen := fs' } ∧ Fr F W w' := by
  obtain ⟨hr, v0, v1, hB, hT, ho, hF⟩ := k
  have hfr : Fr F W w' := hF.weak (fun g hg => hg.elim (fun e => e ▸ h.fp) (fun e => h.fs g e))
  have hpl := h.blk.lt
  have keyl : ∀ g, Owns l0 l1 g → ¬ (g = p ∨ Owns s0 s1 g) := fun g hg hh => hh.elim (fun e => h.lp (e ▸ hg)) (fun e => h.ls g hg e)
  have keyw : ∀ g, ws.ownBlock = some g → ¬ (g = p ∨ Owns s0 s1 g) := fun g hg hh => hh.elim (fun e => h.wp (e ▸ hg)) (fun e => h.sw g e hg)
  refine ⟨hr, ⟨l0, l1, ws, v0, v1, ⟨hB, h.last.fr hF keyl, h.waits.fr hF keyw, hT, ?_, h.lw, ?_, h.lp, ?_, h.wp, .inl h.fp, fun g hg => .inl (h.fl g hg), ?_, fun g hg => .inl (h.fw g hg)⟩⟩, hfr⟩
  · intro g hg hg'
    rcases ho g hg' with e | e
    · exact h.ls g hg e
    · have := h.last.lt hg; omega
  · intro g hg hg'
    rcases ho g hg with e | e
    · exact h.sw g e hg'
    · have := h.waits.lt hg'; omega
  · intro hg
    rcases ho p hg with e | e
    · exact h.sp e
    · omega
  · intro g hg
    exact (ho g hg).imp (h.fs g) id
theorem DiskAt.on_last {u : DU} (h : DiskAt W F p s l0 l1 ws s0 s1) {fs' : List Int × List Int} {r : Value} (k : On2 p 1 83 (s.cells l0 l1 ws s0 s1) l0 l1 fs' W r w') : r = .tuple #[] ∧ DiskIs w' (Grow F W) p { s with last := fs' } ∧ Fr F W w' := by
  obtain ⟨hr, v0, v1, hB, hT, ho, hF⟩ := k
  have hfr : Fr F W w' := hF.weak (fun g hg => hg.elim (fun e => e ▸ h.fp) (fun e => h.fl g e))
  have hpl := h.blk.lt
  have keyl : ∀ g, Owns s0 s1 g → ¬ (g = p ∨ Owns l0 l1 g) := fun g hg hh => hh.elim (fun e => h.sp (e ▸ hg)) (fun e => h.ls g e hg)
  have keyw : ∀ g, ws.ownBlock = some g → ¬ (g = p ∨ Owns l0 l1 g) := fun g hg hh => hh.elim (fun e => h.wp (e ▸ hg)) (fun e => h.lw g e hg)
  refine ⟨hr, ⟨v0, v1, ws, s0, s1, ⟨hB, hT, h.waits.fr hF keyw, h.seen.fr hF keyl, ?_, ?_, h.sw, ?_, h.sp, h.wp, .inl h.fp, ?_, fun g hg => .inl (h.fs g hg), fun g hg => .inl (h.fw g hg)⟩⟩, hfr⟩
  · intro g hg hg'
    rcases ho g hg with e | e
    · exact h.ls g e hg'
    · have := h.seen.lt hg'; omega
  · intro g hg hg'
    rcases ho g hg with e | e
    · exact h.lw g e hg'
    · have := h.waits.lt hg'; omega
  · intro hg
    rcases ho p hg with e | e
    · exact h.lp e
    · omega
  · intro g hg
    exact (ho g hg).imp (h.fl g) id
end
/-- a disk's method's answer -/
def RetD (c : Value) (W : World) (F : Nat → Prop) (p : Nat) (s : DS) (r : Value) (w' : World) : Prop := r = c ∧ DiskP W F p s w'
theorem unit_seen (u : DU) (F : Nat → Prop) (p : Nat) (s : DS) (hu : u.ok s.seen) (hb : bigB s.seen) (W : World) (hD : DiskIs W F p s) : Fn Try.prog u.fn [u.rcv, .pointer (some ⟨p, 4, none⟩)] W (RetD (.tuple #[]) W F p { s with seen := u.on s.seen }) := by
  obtain ⟨l0, l1, ws, s0, s1, hD⟩ := hD
  exact (onU_E u p 4 _ _ s0 s1 s.seen hu hb W hD.blk rfl rfl hD.seen hD.sp).mono fun r w' h => hD.on_seen (u := u) h
theorem unit_last (u : DU) (F : Nat → Prop) (p : Nat) (s : DS) (hu : u.ok s.last) (hb : bigB s.last) (W : World) (hD : DiskIs W F p s) : Fn Try.prog u.fn [u.rcv, .pointer (some ⟨p, 1, none⟩)] W (RetD (.tuple #[]) W F p { s with last := u.on s.last }) := by
  obtain ⟨l0, l1, ws, s0, s1, hD⟩ := hD
  exact (onU_E u p 1 _ _ l0 l1 s.last hu hb W hD.blk rfl rfl hD.last hD.lp).mono fun r w' h => hD.on_last (u := u) h

theorem dfuse_E (F : Nat → Prop) (p : Nat) (s : DS) (n : Int) (hn : 0 ≤ n) (W : World) (hD : DiskIs W F p s) (hk : s.dark = false) : Fn Try.prog 37 [.pointer (some ⟨p, 0, none⟩), .int .i64 n] W (RetD (.int .i64 0) W F p { s with fused := true, fuse := n }) := by
  have G0 := Gr.refl W
  obtain ⟨l0, l1, ws, s0, s1, hD⟩ := hD
  have hB := hD.blk
  unfold DS.cells at hB
  have hcode : s.code 0 = 0 := by simp [DS.code, hk]
  refine Fn_enter Try.func37 rfl Try.results37 Try.ntmps37 (by kernel_rfl) (by kernel_rfl) ?_
  repeat refine cw_seq ?_
  refine cw_region ?_
  refine rw_v (op_pure rfl) ?_
  first | refine rw_end ?_ | (refine rw_nil ?_; show CW _ _ _ _ _ _) | refine rw_nil ?_
  repeat refine cw_seq ?_
  refine cw_region ?_
  refine rw_v (op_pure rfl) ?_
  refine rw_call rfl (dcheck_E F p s l0 l1 ws s0 s1 _ _ hD) ?_
  rintro _ w1 ⟨rfl, g1⟩
  have hB := hB.gr g1
  have G0 := G0.trans g1
  refine rw_v (op_pure rfl) ?_
  first | refine rw_end ?_ | (refine rw_nil ?_; show CW _ _ _ _ _ _) | refine rw_nil ?_
  repeat refine cw_seq ?_
  refine cw_block ?_
  repeat refine cw_seq ?_
  refine cw_region ?_
  refine rw_v (op_pure rfl) ?_
  refine rw_v (op_b (b := false) rfl (by rw [hcode]; rfl)) ?_
  refine rw_v (op_pure rfl) ?_
  first | refine rw_end ?_ | (refine rw_nil ?_; show CW _ _ _ _ _ _) | refine rw_nil ?_
  repeat refine cw_seq ?_
  refine cw_false rfl ?_
  repeat refine cw_seq ?_
  refine cw_region ?_
  refine rw_v (op_pure rfl) ?_
  first | refine rw_v (op_b (b := true) rfl (decide_eq_true (by omega))) ?_ | refine rw_v (op_b (b := false) rfl (decide_eq_false (by omega))) ?_ | refine rw_v (op_pure rfl) ?_
  refine rw_v (op_pure rfl) ?_
  first | refine rw_end ?_ | (refine rw_nil ?_; show CW _ _ _ _ _ _) | refine rw_nil ?_
  repeat refine cw_seq ?_
  refine cw_false rfl ?_
  refine cw_skip ?_
  try show CW _ _ _ _ _ _
  have hD := hD.gr G0
  have F0 : Fr F W w1 := Fr.of_gr G0
  repeat refine cw_seq ?_
  refine cw_region ?_
  refine rw_v (op_pure rfl) ?_
  refine rw_v (op_pure rfl) ?_
  refine rw_v (op_pure rfl) ?_
  refine rw_v (op_pure rfl) ?_
  refine rw_v (op_fieldAddr Try.underlying83 rfl Try.sizeOf4 rfl rfl) ?_
  refine rw_store (Try.sizeOf4 _) rfl rfl rfl rfl hB rfl ?_
  intro w1_ g1_ s1_ b1_
  have hB := b1_
  refine rw_v (op_pure rfl) ?_
  refine rw_v (op_fieldAddr Try.underlying83 rfl Try.sizeOf2 rfl rfl) ?_
  refine rw_store (Try.sizeOf2 _) rfl rfl rfl rfl hB rfl ?_
  intro w2_ g2_ s2_ b2_
  have hB := b2_
  first | refine rw_end ?_ | (refine rw_nil ?_; show CW _ _ _ _ _ _) | refine rw_nil ?_
  repeat refine cw_seq ?_
  refine cw_region ?_
  refine rw_v (op_pure rfl) ?_
  first | refine rw_end ?_ | (refine rw_nil ?_; show CW _ _ _ _ _ _) | refine rw_nil ?_
  have h1 := hD.upd (s' := { s with fused := true }) g1_ b1_ rfl rfl rfl
  have h2 := h1.upd (s' := { s with fused := true, fuse := n }) g2_ b2_ rfl rfl rfl
  refine cw_ret ?_
  repeat first | refine ret_then ?_ | refine ret_inb ?_
  exact res1 rfl ⟨rfl, ⟨_, _, _, _, _, h2.weak (fun _ => .inl)⟩, (F0.trans (Fr.of_p hD g1_) (fun g hg => .inl hg)).trans (Fr.of_p h1 g2_) (fun g hg => .inl hg)⟩
theorem dfuseNo_E (F : Nat → Prop) (p : Nat) (s : DS) (n : Int) (W : World) (hD : DiskIs W F p s) (hk : s.dark = true) : Fn Try.prog 37 [.pointer (some ⟨p, 0, none⟩), .int .i64 n] W (RetG (.int .i64 17) W) := by
  have G0 := Gr.refl W
  obtain ⟨l0, l1, ws, s0, s1, hD⟩ := hD
  have hcode : s.code 0 = 17 := by simp [DS.code, hk]
  refine Fn_enter Try.func37 rfl Try.results37 Try.ntmps37 (by kernel_rfl) (by kernel_rfl) ?_
  repeat refine cw_seq ?_
  refine cw_region ?_
  refine rw_v (op_pure rfl) ?_
  first | refine rw_end ?_ | (refine rw_nil ?_; show CW _ _ _ _ _ _) | refine rw_nil ?_
  repeat refine cw_seq ?_
  refine cw_region ?_
  refine rw_v (op_pure rfl) ?_
  refine rw_call rfl (dcheck_E F p s l0 l1 ws s0 s1 _ _ hD) ?_
  rintro _ w1 ⟨rfl, g1⟩
  have G0 := G0.trans g1
  refine rw_v (op_pure rfl) ?_
  first | refine rw_end ?_ | (refine rw_nil ?_; show CW _ _ _ _ _ _) | refine rw_nil ?_
  repeat refine cw_seq ?_
  refine cw_block ?_
  repeat refine cw_seq ?_
  refine cw_region ?_
  refine rw_v (op_pure rfl) ?_
  refine rw_v (op_b (b := true) rfl (by rw [hcode]; rfl)) ?_
  refine rw_v (op_pure rfl) ?_
  first | refine rw_end ?_ | (refine rw_nil ?_; show CW _ _ _ _ _ _) | refine rw_nil ?_
  repeat refine cw_seq ?_
  refine cw_true rfl ?_
  repeat refine cw_seq ?_
  refine cw_region ?_
  refine rw_v (op_pure rfl) ?_
  refine rw_v (op_pure rfl) ?_
  first | refine rw_end ?_ | (refine rw_nil ?_; show CW _ _ _ _ _ _) | refine rw_nil ?_
  exact cw_ret (res1 rfl ⟨by rw [hcode], G0⟩)
theorem dfuseArg_E (F : Nat → Prop) (p : Nat) (s : DS) (n : Int) (hn : n < 0) (W : World) (hD : DiskIs W F p s) (hk : s.dark = false) : Fn Try.prog 37 [.pointer (some ⟨p, 0, none⟩), .int .i64 n] W (RetG (.int .i64 11) W) := by
  have G0 := Gr.refl W
  obtain ⟨l0, l1, ws, s0, s1, hD⟩ := hD
  have hcode : s.code 0 = 0 := by simp [DS.code, hk]
  refine Fn_enter Try.func37 rfl Try.results37 Try.ntmps37 (by kernel_rfl) (by kernel_rfl) ?_
  repeat refine cw_seq ?_
  refine cw_region ?_
  refine rw_v (op_pure rfl) ?_
  first | refine rw_end ?_ | (refine rw_nil ?_; show CW _ _ _ _ _ _) | refine rw_nil ?_
  repeat refine cw_seq ?_
  refine cw_region ?_
  refine rw_v (op_pure rfl) ?_
  refine rw_call rfl (dcheck_E F p s l0 l1 ws s0 s1 _ _ hD) ?_
  rintro _ w1 ⟨rfl, g1⟩
  have G0 := G0.trans g1
  refine rw_v (op_pure rfl) ?_
  first | refine rw_end ?_ | (refine rw_nil ?_; show CW _ _ _ _ _ _) | refine rw_nil ?_
  repeat refine cw_seq ?_
  refine cw_block ?_
  repeat refine cw_seq ?_
  refine cw_region ?_
  refine rw_v (op_pure rfl) ?_
  refine rw_v (op_b (b := false) rfl (by rw [hcode]; rfl)) ?_
  refine rw_v (op_pure rfl) ?_
  first | refine rw_end ?_ | (refine rw_nil ?_; show CW _ _ _ _ _ _) | refine rw_nil ?_
  repeat refine cw_seq ?_
  refine cw_false rfl ?_
  repeat refine cw_seq ?_
  refine cw_region ?_
  refine rw_v (op_pure rfl) ?_
  first | refine rw_v (op_b (b := true) rfl (decide_eq_true (by omega))) ?_ | refine rw_v (op_b (b := false) rfl (decide_eq_false (by omega))) ?_ | refine rw_v (op_pure rfl) ?_
  refine rw_v (op_pure rfl) ?_
  first | refine rw_end ?_ | (refine rw_nil ?_; show CW _ _ _ _ _ _) | refine rw_nil ?_
  repeat refine cw_seq ?_
  refine cw_true rfl ?_
  repeat refine cw_seq ?_
  refine cw_region ?_
  refine rw_v (op_pure rfl) ?_
  first | refine rw_end ?_ | (refine rw_nil ?_; show CW _ _ _ _ _ _) | refine rw_nil ?_
  refine cw_ret ?_
  repeat first | refine ret_then ?_ | refine ret_inb ?_
  exact res1 rfl ⟨rfl, G0⟩
theorem dfuseNil_E (n : Int) (W : World) : Fn Try.prog 37 [.pointer none, .int .i64 n] W (RetG (.int .i64 1) W) := by
  have G0 := Gr.refl W
  refine Fn_enter Try.func37 rfl Try.results37 Try.ntmps37 (by kernel_rfl) (by kernel_rfl) ?_
  repeat refine cw_seq ?_
  refine cw_region ?_
  refine rw_v (op_pure rfl) ?_
  first | refine rw_end ?_ | (refine rw_nil ?_; show CW _ _ _ _ _ _) | refine rw_nil ?_
  repeat refine cw_seq ?_
  refine cw_region ?_
  refine rw_v (op_pure rfl) ?_
  refine rw_call rfl (dcheckNil_E _ _) ?_
  rintro _ w1 ⟨rfl, g1⟩
  have G0 := G0.trans g1
  refine rw_v (op_pure rfl) ?_
  first | refine rw_end ?_ | (refine rw_nil ?_; show CW _ _ _ _ _ _) | refine rw_nil ?_
  repeat refine cw_seq ?_
  refine cw_block ?_
  repeat refine cw_seq ?_
  refine cw_region ?_
  refine rw_v (op_pure rfl) ?_
  first | refine rw_v (op_b (b := true) rfl (bne_iff_ne.2 (by omega))) ?_ | refine rw_v (op_b (b := false) rfl (bne_eq_false_iff_eq.2 (by omega))) ?_ | refine rw_v (op_pure rfl) ?_
  refine rw_v (op_pure rfl) ?_
  first | refine rw_end ?_ | (refine rw_nil ?_; show CW _ _ _ _ _ _) | refine rw_nil ?_
  repeat refine cw_seq ?_
  refine cw_true rfl ?_
  repeat refine cw_seq ?_
  refine cw_region ?_
  refine rw_v (op_pure rfl) ?_
  refine rw_v (op_pure rfl) ?_
  first | refine rw_end ?_ | (refine rw_nil ?_; show CW _ _ _ _ _ _) | refine rw_nil ?_
  refine cw_ret ?_
  repeat first | refine ret_then ?_ | refine ret_inb ?_
  exact res1 rfl ⟨rfl, G0⟩

/-! ### deed -/
def runs : List DU → List Int × List Int → List Int × List Int
  | [], fs => fs
  | u :: us, fs => runs us (u.on fs)
def oks : List DU → List Int × List Int → Prop
  | [], _ => True
  | u :: us, fs => u.ok fs ∧ oks us (u.on fs)
theorem runs_append (a b : List DU) (fs : List Int × List Int) : runs (a ++ b) fs = runs b (runs a fs) := by
  induction a generalizing fs with
  | nil => rfl
  | cons u a ih => exact ih _
theorem oks_append (a b : List DU) (fs : List Int × List Int) : oks (a ++ b) fs ↔ oks a fs ∧ oks b (runs a fs) := by
  induction a generalizing fs with
  | nil => simp [oks, runs]
  | cons u a ih => simp only [List.cons_append, oks, runs, ih, and_assoc]
theorem on_length (u : DU) (fs : List Int × List Int) : (u.on fs).1.length ≤ fs.1.length + 1 ∧ (u.on fs).2.length ≤ fs.2.length + 1 := by
  obtain ⟨x, y⟩ := fs
  cases u with
  | add f b => rcases f with _ | f <;> simp [DU.on]
  | cut f n => rcases f with _ | f <;> simp [DU.on] <;> omega
theorem runs_length (us : List DU) (fs : List Int × List Int) : (runs us fs).1.length ≤ fs.1.length + us.length ∧ (runs us fs).2.length ≤ fs.2.length + us.length := by
  induction us generalizing fs with
  | nil => simp [runs]
  | cons u us ih =>
    have h1 := on_length u fs
    have h2 := ih (u.on fs)
    simp only [runs, List.length_cons]
    omega
theorem take_next {us : List DU} {k : Nat} {u : DU} (h : us[k]? = some u) : us.take (k + 1) = us.take k ++ [u] := by
  rw [List.take_add_one, h]; rfl
theorem oks_at {us : List DU} {fs : List Int × List Int} (h : oks us fs) {k : Nat} {u : DU} (hu : us[k]? = some u) : u.ok (runs (us.take k) fs) := by
  have e : us = us.take (k + 1) ++ us.drop (k + 1) := (List.take_append_drop _ _).symm
  rw [e, take_next hu, oks_append, oks_append] at h
  exact h.1.2.1
theorem runs_next {us : List DU} {fs : List Int × List Int} {k : Nat} {u : DU} (hu : us[k]? = some u) : runs (us.take (k + 1)) fs = u.on (runs (us.take k) fs) := by
  rw [take_next hu, runs_append]; rfl
theorem take_length_le (us : List DU) (k : Nat) : (us.take k).length ≤ us.length := by simp; omega
def small (us : List DU) (fs : List Int × List Int) : Prop := fs.1.length + us.length < 1099511627776 ∧ fs.2.length + us.length < 1099511627776
theorem small.at {us : List DU} {fs : List Int × List Int} (h : small us fs) (k : Nat) : bigB (runs (us.take k) fs) := by
  have h1 := runs_length (us.take k) fs
  have h2 := take_length_le us k
  have h3 := h.1
  have h4 := h.2
  constructor <;> omega
theorem DiskAt.set_waits {w w3 w4 : World} {F : Nat → Prop} {p : Nat} {s s' : DS} {l0 l1 ws s0 s1 v' : Value} (h : DiskAt w F p s l0 l1 ws s0 s1) (g3 : w.grownBy w3 ws.ownBlock) (r3 : R1 w3 98 v' (s'.waits.map DU.val)) (o3 : v'.ownBlock = ws.ownBlock ∨ v'.ownBlock = some w.heap.size)
    (g4 : w3.grownBy w4 (some p)) (b4 : Blk w4 p 83 (s'.cells l0 l1 v' s0 s1)) (e1 : s'.last = s.last) (e2 : s'.seen = s.seen) : DiskAt w4 (Grow F w) p s' l0 l1 v' s0 s1 ∧ Fr F w w4 := by
  have hpl := h.blk.lt
  have hnew : ∀ g, v'.ownBlock = some g → ws.ownBlock = some g ∨ g = w.heap.size := fun g hg => o3.elim (fun e => .inl (e ▸ hg)) (fun e => .inr (by rw [e] at hg; injection hg with hg; omega))
  have k : Fr (fun g => ws.ownBlock = some g ∨ g = p) w w4 := (Fr.of_grown (F := fun g => ws.ownBlock = some g ∨ g = p) g3 (fun g hg => .inl hg)).trans (Fr.of_grown (F := fun g => g = p) g4 (fun g hg => by cases hg; rfl)) (fun g hg => .inl (.inr hg))
  refine ⟨⟨b4, e1 ▸ h.last.fr k (fun g hg hh => hh.elim (h.lw g hg) (fun e => h.lp (e ▸ hg))), r3.fr (Fr.of_grown (F := fun g => g = p) g4 (fun g hg => by cases hg; rfl)) (fun g hg e => (hnew g hg).elim (fun e2 => h.wp (e ▸ e2)) (fun e2 => by omega)), e2 ▸ h.seen.fr k (fun g hg hh => hh.elim (h.sw g hg) (fun e => h.sp (e ▸ hg))), h.ls, ?_, ?_, h.lp, h.sp, ?_, .inl h.fp, fun g hg => .inl (h.fl g hg), fun g hg => .inl (h.fs g hg), ?_⟩, k.weak (fun g hg => hg.elim (h.fw g) (fun e => e ▸ h.fp))⟩
  · intro g hg hw
    rcases hnew _ hw with e | e
    · exact h.lw g hg e
    · have := h.last.lt hg; omega
  · intro g hg hw
    rcases hnew _ hw with e | e
    · exact h.sw g hg e
    · have := h.seen.lt hg; omega
  · intro hw
    rcases hnew _ hw with e | e
    · exact h.wp e
    · omega
  · intro g hg
    rcases hnew _ hg with e | e
    · exact .inl (h.fw g e)
    · exact .inr (by omega)
theorem vals_one (us : List DU) : ((us.map DU.val).all fun v => v.oneCell') = true := by
  induction us with
  | nil => rfl
  | cons u us ih => cases u <;> simpa [DU.val, Value.oneCell'] using ih
theorem info_unit : (Try.prog.info? 98).map (fun i => (i.zero, i.size, i.bytes)) = some (some .nilIface, 1, 16) := by kernel_rfl

theorem ddeedBurn_E (F : Nat → Prop) (p : Nat) (s : DS) (v : Value) (hb : s.burns = true) (W : World) (hD : DiskIs W F p s) : Fn Try.prog 40 [.pointer (some ⟨p, 0, none⟩), v] W (RetD (.int .i64 17) W F p { s with dark := true }) := by
  have G0 := Gr.refl W
  obtain ⟨l0, l1, ws, s0, s1, hD⟩ := hD
  have hB := hD.blk
  unfold DS.cells at hB
  refine Fn_enter Try.func40 rfl Try.results40 Try.ntmps40 (by kernel_rfl) (by kernel_rfl) ?_
  repeat refine cw_seq ?_
  refine cw_region ?_
  refine rw_v (op_pure rfl) ?_
  first | refine rw_end ?_ | (refine rw_nil ?_; show CW _ _ _ _ _ _) | refine rw_nil ?_
  repeat refine cw_seq ?_
  refine cw_region ?_
  refine rw_v (op_pure rfl) ?_
  refine rw_call rfl (dburns_E F p s l0 l1 ws s0 s1 _ hD) ?_
  rintro _ w1 ⟨rfl, g1⟩
  have hB := hB.gr g1
  have G0 := G0.trans g1
  first | refine rw_end ?_ | (refine rw_nil ?_; show CW _ _ _ _ _ _) | refine rw_nil ?_
  repeat refine cw_seq ?_
  refine cw_true (by rw [hb]; rfl) ?_
  have hD := hD.gr G0
  have F0 : Fr F W w1 := Fr.of_gr G0
  repeat refine cw_seq ?_
  refine cw_region ?_
  refine rw_v (op_pure rfl) ?_
  refine rw_v (op_pure rfl) ?_
  refine rw_v (op_fieldAddr Try.underlying83 rfl Try.sizeOf4 rfl rfl) ?_
  refine rw_store (Try.sizeOf4 _) rfl rfl rfl rfl hB rfl ?_
  intro w1_ g1_ s1_ b1_
  have hB := b1_
  first | refine rw_end ?_ | (refine rw_nil ?_; show CW _ _ _ _ _ _) | refine rw_nil ?_
  repeat refine cw_seq ?_
  refine cw_region ?_
  refine rw_v (op_pure rfl) ?_
  first | refine rw_end ?_ | (refine rw_nil ?_; show CW _ _ _ _ _ _) | refine rw_nil ?_
  have h1 := hD.upd (s' := { s with dark := true }) g1_ b1_ rfl rfl rfl
  refine cw_ret ?_
  repeat first | refine ret_then ?_ | refine ret_inb ?_
  exact res1 rfl ⟨rfl, ⟨_, _, _, _, _, h1.weak (fun _ => .inl)⟩, F0.trans (Fr.of_p hD g1_) (fun g hg => .inl hg)⟩
def DS.ticked (s : DS) : DS := { s with fuse := if s.fused then s.fuse - 1 else s.fuse }
theorem ddeed_E (F : Nat → Prop) (p : Nat) (s : DS) (A : Option Addr) (c : Nat) (us : List DU) (hb : s.burns = false) (hfu : 0 ≤ s.fuse ∧ s.fuse ≤ 9223372036854775807) (hok : oks us s.seen) (hsm : small us s.seen) (hwl : s.waits.length + us.length < 1099511627776)
    (W : World) (hD : DiskIs W F p s) (hR : Rd W A (us.map DU.val)) (hA : ∀ a, A = some a → ¬ F a.block) (hc : A = none → c = 0) :
    Fn Try.prog 40 [.pointer (some ⟨p, 0, none⟩), .slice A us.length c] W (RetD (.int .i64 0) W F p { s.ticked with seen := runs us s.seen, waits := s.waits ++ us }) := by
  have G0 := Gr.refl W
  obtain ⟨l0, l1, ws, s0, s1, hD⟩ := hD
  have hB := hD.blk
  unfold DS.cells at hB
  refine Fn_enter Try.func40 rfl Try.results40 Try.ntmps40 (by kernel_rfl) (by kernel_rfl) ?_
  repeat refine cw_seq ?_
  refine cw_region ?_
  refine rw_v (op_pure rfl) ?_
  first | refine rw_end ?_ | (refine rw_nil ?_; show CW _ _ _ _ _ _) | refine rw_nil ?_
  repeat refine cw_seq ?_
  refine cw_region ?_
  refine rw_v (op_pure rfl) ?_
  refine rw_call rfl (dburns_E F p s l0 l1 ws s0 s1 _ hD) ?_
  rintro _ w1 ⟨rfl, g1⟩
  have hB := hB.gr g1
  have G0 := G0.trans g1
  first | refine rw_end ?_ | (refine rw_nil ?_; show CW _ _ _ _ _ _) | refine rw_nil ?_
  repeat refine cw_seq ?_
  refine cw_false (by rw [hb]; rfl) ?_
  refine cw_skip ?_
  try show CW _ _ _ _ _ _
  repeat refine cw_seq ?_
  refine cw_region ?_
  refine rw_v (op_pure rfl) ?_
  refine rw_v (op_pure rfl) ?_
  refine rw_v (op_fieldAddr Try.underlying83 rfl Try.sizeOf4 rfl rfl) ?_
  refine rw_r (op_loadB Try.underlying4 rfl rfl hB rfl) ?_
  first | refine rw_end ?_ | (refine rw_nil ?_; show CW _ _ _ _ _ _) | refine rw_nil ?_
  refine cw_cutT (fun e w => SL e [(0, .pointer (some ⟨p, 0, none⟩)), (1, .slice A us.length c)] ∧ DiskIs w F p s.ticked ∧ Fr F W w) ?_ ?_
  · repeat refine cw_seq ?_
    refine cw_cond rfl (fun hfd => ?_) (fun hfd => ?_)
    · have hD := hD.gr G0
      have F0 : Fr F W w1 := Fr.of_gr G0
      have hne : s.fuse ≠ 0 := by
        intro h
        simp [DS.burns, hfd, h] at hb
      repeat refine cw_seq ?_
      refine cw_region ?_
      refine rw_v (op_pure rfl) ?_
      refine rw_v (op_pure rfl) ?_
      refine rw_v (op_fieldAddr Try.underlying83 rfl Try.sizeOf2 rfl rfl) ?_
      refine rw_r (op_loadB Try.underlying2 rfl rfl hB rfl) ?_
      refine rw_v (op_rng rfl (by omega)) ?_
      refine rw_v (op_pure rfl) ?_
      refine rw_v (op_fieldAddr Try.underlying83 rfl Try.sizeOf2 rfl rfl) ?_
      refine rw_store (Try.sizeOf2 _) rfl rfl rfl rfl hB rfl ?_
      intro w1_ g1_ s1_ b1_
      have hB := b1_
      first | refine rw_end ?_ | (refine rw_nil ?_; show CW _ _ _ _ _ _) | refine rw_nil ?_
      have h1 := hD.upd (s' := s.ticked) g1_ (by have := b1_; rw [hfd] at this; simp only [DS.ticked, DS.cells, hfd]; exact this) rfl rfl rfl
      exact ⟨⟨rfl, rfl, trivial⟩, ⟨_, _, _, _, _, h1⟩, F0.trans (Fr.of_p hD g1_) (fun g hg => .inl hg)⟩
    · refine cw_skip ?_
      have hD := hD.gr G0
      have et : s.ticked = s := by
        obtain ⟨_, _, _, _, _, _, _⟩ := s
        simp_all [DS.ticked]
      rw [et]
      exact ⟨⟨rfl, rfl, trivial⟩, ⟨_, _, _, _, _, hD⟩, Fr.of_gr G0⟩
  rintro e1 w1 ⟨hsl, hD1, F1⟩
  rw [hsl.fold]
  have hR1 := hR.fr F1 hA
  repeat refine cw_seq ?_
  refine cw_region ?_
  refine rw_v (op_pure rfl) ?_
  refine rw_v (op_len Try.underlying81 rfl) ?_
  refine rw_v (op_pure rfl) ?_
  first | refine rw_end ?_ | (refine rw_nil ?_; show CW _ _ _ _ _ _) | refine rw_nil ?_
  repeat refine cw_seq ?_
  refine cw_cutT (M := fun e w => SL e [(0, .pointer (some ⟨p, 0, none⟩)), (1, .slice A us.length c)] ∧ DiskIs w (Grow F W) p { s.ticked with seen := runs us s.seen } ∧ Fr F W w) ?_ ?_
  · repeat refine cw_seq ?_
    refine cw_block ?_
    refine cw_loop (fun m e w => ∃ k : Nat, k + m = us.length ∧ SL e [(0, .pointer (some ⟨p, 0, none⟩)), (1, .slice A us.length c), (23, .slice A us.length c), (24, .int .i64 us.length), (25, .int .i64 k)] ∧ DiskIs w (Grow F W) p { s.ticked with seen := runs (us.take k) s.seen } ∧ Fr F W w) us.length
      ⟨0, by omega, ⟨rfl, rfl, rfl, rfl, rfl, trivial⟩, hD1.weak (fun _ => .inl), F1⟩ ?_
    rintro m e w ⟨k, hkm, hsl, hD2, F2⟩
    rw [hsl.fold]
    repeat refine cw_seq ?_
    refine cw_region ?_
    refine rw_v (op_pure rfl) ?_
    first | refine rw_end ?_ | (refine rw_nil ?_; show CW _ _ _ _ _ _) | refine rw_nil ?_
    repeat refine cw_seq ?_
    refine cw_cond rfl (fun hk => ?_) (fun hk => ?_)
    · refine cw_skip ?_
      try show CW _ _ _ _ _ _
      have hk : k < us.length := by simpa using hk
      have hR2 := hR.fr F2 hA
      obtain ⟨u, hu⟩ : ∃ u, us[k]? = some u := ⟨us[k], List.getElem?_eq_getElem hk⟩
      obtain ⟨tu, hv, hm, hn⟩ := onU_val u
      rcases hR2 with hn | ⟨b, o, rfl, hb, hcell⟩
      · have h0 : us.length = 0 := by have := congrArg List.length hn; rwa [List.length_map] at this
        omega
      have hcu : w.cell? ⟨b, o + k, none⟩ = some (.iface tu u.rcv) := hcell k _ (by rw [List.getElem?_map, hu, ← hv]; rfl)
      repeat refine cw_seq ?_
      refine cw_block ?_
      repeat refine cw_seq ?_
      refine cw_region ?_
      refine rw_v (op_indexAddrS Try.underlying81 Try.sizeOf98 rfl rfl (by omega) (by omega) (o' := o + k) (by simp)) ?_
      refine rw_r (op_load Try.underlying98 rfl rfl hcu) ?_
      refine rw_v (op_pure rfl) ?_
      first | refine rw_end ?_ | (refine rw_nil ?_; show CW _ _ _ _ _ _) | refine rw_nil ?_
      repeat refine cw_seq ?_
      refine cw_draw (C := fun wq => Gr w wq) [0, 1, 2, 3, 4, 5, 6] [7] (by kernel_rfl) (by kernel_rfl) (Gr.drew _) ?_
      simp only [pickL, List.drop_succ_cons, List.drop_zero]
      refine rq_v (op_pure rfl) ?_
      refine rq_v (op_pure rfl) ?_
      refine rq_v (op_pure rfl) ?_
      refine rq_v (op_fieldAddr Try.underlying83 rfl Try.sizeOf30 rfl rfl) ?_
      refine rq_v (op_pure rfl) ?_
      refine rq_v (op_ncm rfl hn) ?_
      refine rq_v (op_pure rfl) ?_
      refine rq_nil ?_
      intro w1_ g1_
      refine rw_invoke rfl (hm _) rfl (unit_seen u (Grow F W) p { s.ticked with seen := runs (us.take k) s.seen } (oks_at hok hu) (hsm.at k) _ (hD2.gr g1_)) ?_
      rintro _ w5 ⟨rfl, hD5, F5⟩
      first | refine rw_end ?_ | (refine rw_nil ?_; show CW _ _ _ _ _ _) | refine rw_nil ?_
      repeat refine cw_seq ?_
      refine cw_region ?_
      refine rw_v (op_rng rfl (by omega)) ?_
      refine rw_v (op_pure rfl) ?_
      first | refine rw_end ?_ | (refine rw_nil ?_; show CW _ _ _ _ _ _) | refine rw_nil ?_
      refine ⟨m - 1, by omega, k + 1, by omega, ⟨rfl, rfl, rfl, rfl, ie (by omega), trivial⟩, ?_, ?_⟩
      · rw [runs_next hu]
        exact hD5.weak fun g hg => hg.elim id (fun h => .inr (by have := F2.size; have := g1_.le; omega))
      · exact (F2.then_gr g1_).trans F5 (fun g hg => hg)
    · refine cw_exit ?_
      have hk : k = us.length := by
        have : ¬ k < us.length := by simpa using hk
        omega
      subst hk
      rw [List.take_length] at hD2
      exact ⟨⟨rfl, rfl, trivial⟩, hD2, F2⟩
  rintro e2 w2 ⟨hsl, ⟨l0, l1, ws, s0, s1, hD2⟩, F2⟩
  rw [hsl.fold]
  have hR2 := hR.fr F2 hA
  obtain ⟨A0, c0, rfl⟩ := hD2.waits.slice
  have hB := hD2.blk
  unfold DS.cells at hB
  repeat refine cw_seq ?_
  refine cw_region ?_
  refine rw_v (op_pure rfl) ?_
  refine rw_v (op_pure rfl) ?_
  refine rw_v (op_pure rfl) ?_
  refine rw_v (op_fieldAddr Try.underlying83 rfl Try.sizeOf81 rfl rfl) ?_
  refine rw_r (op_loadB Try.underlying81 rfl rfl hB rfl) ?_
  refine rw_v (op_pure rfl) ?_
  refine rw_app (v := .slice A0 (s.waits.map DU.val).length c0) (xs := s.waits.map DU.val) Try.underlying81 info_unit rfl rfl hD2.waits rfl (by simp) hc hR2 (vals_one us) (by simp; omega) ?_
  intro v3 w3 r3 g3 o3
  obtain ⟨A3, c3, rfl⟩ := r3.slice
  have hB3 := hB.grown g3 (fun h => hD2.wp h.symm)
  refine rw_v (op_pure rfl) ?_
  refine rw_v (op_fieldAddr Try.underlying83 rfl Try.sizeOf81 rfl rfl) ?_
  refine rw_store (Try.sizeOf81 _) rfl rfl rfl rfl hB3 rfl ?_
  intro w4 g4 s4 b4
  first | refine rw_end ?_ | (refine rw_nil ?_; show CW _ _ _ _ _ _) | refine rw_nil ?_
  repeat refine cw_seq ?_
  refine cw_region ?_
  refine rw_v (op_pure rfl) ?_
  first | refine rw_end ?_ | (refine rw_nil ?_; show CW _ _ _ _ _ _) | refine rw_nil ?_
  have e3 : (s.waits.map DU.val ++ us.map DU.val) = (s.waits ++ us).map DU.val := by simp
  rw [e3] at r3 o3
  have h4 := hD2.set_waits (s' := { s.ticked with seen := runs us s.seen, waits := s.waits ++ us }) g3 r3 o3 g4 (by have := b4; rw [e3] at this; simp at this; simpa [DS.cells, DS.ticked] using this) rfl rfl
  refine cw_ret ?_
  repeat first | refine ret_then ?_ | refine ret_inb ?_
  exact res1 rfl ⟨rfl, ⟨_, _, _, _, _, h4.1.weak (fun g hg => hg.elim id (fun h => .inr (by have := F2.size; omega)))⟩, F2.trans h4.2 (fun g hg => hg)⟩
end Go.Proofs.Ytkpokpaehlhhaaa
