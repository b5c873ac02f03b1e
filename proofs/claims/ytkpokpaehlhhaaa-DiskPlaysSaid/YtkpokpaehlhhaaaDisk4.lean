/- Contracts of a disk's settle, Append, Cut, Sync, Crash. -/
import Derived.Test.YtkpokpaehlhhaaaDisk3
namespace Go.Proofs.Ytkpokpaehlhhaaa
open Go.RowKit
set_option linter.unusedVariables false
set_option linter.unusedSimpArgs false
set_option maxRecDepth 100000

section
variable {w w' W w3 w4 : World} {F F' : Nat → Prop} {p : Nat} {s s' : DS} {l0 l1 ws s0 s1 : Value}
theorem DiskAt.on_lastA (h : DiskAt W F p s l0 l1 ws s0 s1) {fs' : List Int × List Int} {r : Value} (k : On2 p 1 83 (s.cells l0 l1 ws s0 s1) l0 l1 fs' W r w') : r = .tuple #[] ∧ (∃ v0 v1, DiskAt w' (Grow F W) p { s with last := fs' } v0 v1 ws s0 s1) ∧ Fr F W w' := by
  obtain ⟨hr, v0, v1, hB, hT, ho, hF⟩ := k
  have hfr : Fr F W w' := hF.weak (fun g hg => hg.elim (fun e => e ▸ h.fp) (fun e => h.fl g e))
  have hpl := h.blk.lt
  have keyl : ∀ g, Owns s0 s1 g → ¬ (g = p ∨ Owns l0 l1 g) := fun g hg hh => hh.elim (fun e => h.sp (e ▸ hg)) (fun e => h.ls g e hg)
  have keyw : ∀ g, ws.ownBlock = some g → ¬ (g = p ∨ Owns l0 l1 g) := fun g hg hh => hh.elim (fun e => h.wp (e ▸ hg)) (fun e => h.lw g e hg)
  refine ⟨hr, ⟨v0, v1, ⟨hB, hT, h.waits.fr hF keyw, h.seen.fr hF keyl, ?_, ?_, h.sw, ?_, h.sp, h.wp, .inl h.fp, ?_, fun g hg => .inl (h.fs g hg), fun g hg => .inl (h.fw g hg)⟩⟩, hfr⟩
  · intro g hg hg'
    rcases ho g hg with e | e
    · exact h.ls g e hg'
    · have := h.seen.lt hg'; omega
  · intro g hg hg'
    rcases ho g hg with e | e
    · exact h.lw g e hg'
    · have := h.waits.lt hg'; omega
  · intro hg
    rcases ho p hg with e | e
    · exact h.lp e
    · omega
  · intro g hg
    exact (ho g hg).imp (h.fl g) id
theorem DiskAt.nil_waits (h : DiskAt w F p s l0 l1 ws s0 s1) (hg : w.grownBy w' (some p)) (hB : Blk w' p 83 (({ s with waits := [] } : DS).cells l0 l1 (.slice none 0 0) s0 s1)) : DiskAt w' F p { s with waits := [] } l0 l1 (.slice none 0 0) s0 s1 :=
  have k : Fr (fun g => g = p) w w' := Fr.of_grown hg (fun g hg => by cases hg; rfl)
  { blk := hB, last := h.last.fr k (fun g hg e => h.lp (e ▸ hg)), seen := h.seen.fr k (fun g hg e => h.sp (e ▸ hg)), waits := R1.nil _ _, ls := h.ls, lw := fun g _ e => by cases e
    sw := fun g _ e => by cases e
    lp := h.lp, sp := h.sp, wp := fun e => by cases e
    fp := h.fp, fl := h.fl, fs := h.fs, fw := fun g e => by cases e }
theorem DiskAt.set_seen {v0 v1 : Value} {fs : List Int × List Int} (h : DiskAt w F p s l0 l1 ws s0 s1) (g3 : Gr w w3) (g4 : w3.grownBy w4 (some p)) (b4 : Blk w4 p 83 (({ s with seen := fs } : DS).cells l0 l1 ws v0 v1)) (hT : Two w3 v0 v1 fs) (hn : ∀ g, Owns v0 v1 g → Owns s0 s1 g ∨ w.heap.size ≤ g) :
    DiskAt w4 (Grow F w) p { s with seen := fs } l0 l1 ws v0 v1 := by
  have hpl := h.blk.lt
  have k : Fr (fun g => g = p) w3 w4 := Fr.of_grown g4 (fun g hg => by cases hg; rfl)
  have k' : Fr (fun g => g = p) w w4 := (Fr.of_gr (F := fun g => g = p) g3).trans k (fun g hg => .inl hg)
  have hnp : ¬ Owns v0 v1 p := fun hg => (hn p hg).elim h.sp (fun e => by omega)
  refine ⟨b4, h.last.fr k' (fun g hg e => h.lp (e ▸ hg)), h.waits.fr k' (fun g hg e => h.wp (e ▸ hg)), hT.fr k (fun g hg e => hnp (e ▸ hg)), ?_, h.lw, ?_, h.lp, hnp, h.wp, .inl h.fp, fun g hg => .inl (h.fl g hg), ?_, fun g hg => .inl (h.fw g hg)⟩
  · intro g hg hg'
    rcases hn g hg' with e | e
    · exact h.ls g hg e
    · have := h.last.lt hg; omega
  · intro g hg hg'
    rcases hn g hg with e | e
    · exact h.sw g e hg'
    · have := h.waits.lt hg'; omega
  · intro g hg
    exact (hn g hg).imp (h.fs g) id
end
theorem unit_lastA (u : DU) (F : Nat → Prop) (p : Nat) (s : DS) (hu : u.ok s.last) (hb : bigB s.last) (W : World) {l0 l1 ws s0 s1 : Value} (hD : DiskAt W F p s l0 l1 ws s0 s1) : Fn Try.prog u.fn [u.rcv, .pointer (some ⟨p, 1, none⟩)] W (fun r w' => r = .tuple #[] ∧ (∃ v0 v1, DiskAt w' (Grow F W) p { s with last := u.on s.last } v0 v1 ws s0 s1) ∧ Fr F W w') :=
  (onU_E u p 1 _ _ l0 l1 s.last hu hb W hD.blk rfl rfl hD.last hD.lp).mono fun r w' h => hD.on_lastA h

def DS.settled (s : DS) (k : Nat) : DS := { s with last := runs (s.waits.take k) s.last, waits := [], seen := runs (s.waits.take k) s.last }
theorem dsettle_E (F : Nat → Prop) (p : Nat) (s : DS) (k : Nat) (hk : k ≤ s.waits.length) (hok : oks s.waits s.last) (hsm : small s.waits s.last) (W : World) (hD : DiskIs W F p s) :
    Fn Try.prog 41 [.pointer (some ⟨p, 0, none⟩), .int .i64 k] W (RetD (.tuple #[]) W F p (s.settled k)) := by
  have hsm1 := hsm.1
  have hsm2 := hsm.2
  obtain ⟨l0, l1, ws, s0, s1, hD⟩ := hD
  obtain ⟨A0, c0, rfl⟩ := hD.waits.slice
  have hcap := hD.waits.cap0
  rw [List.length_map] at hcap
  have hB := hD.blk
  unfold DS.cells at hB
  refine Fn_enter Try.func41 rfl Try.results41 Try.ntmps41 (by kernel_rfl) (by kernel_rfl) ?_
  repeat refine cw_seq ?_
  refine cw_region ?_
  refine rw_v (op_pure rfl) ?_
  refine rw_v (op_pure rfl) ?_
  refine rw_v (op_fieldAddr Try.underlying83 rfl Try.sizeOf81 rfl rfl) ?_
  refine rw_r (op_loadB Try.underlying81 rfl rfl hB rfl) ?_
  refine rw_v (op_pure rfl) ?_
  refine rw_v (op_slice_h Try.underlying81 Try.sizeOf98 rfl rfl (by omega) (by omega)) ?_
  refine rw_v (op_len Try.underlying81 rfl) ?_
  refine rw_v (op_pure rfl) ?_
  first | refine rw_end ?_ | (refine rw_nil ?_; show CW _ _ _ _ _ _) | refine rw_nil ?_
  repeat refine cw_seq ?_
  refine cw_cutT (M := fun e w => SL e [(0, .pointer (some ⟨p, 0, none⟩))] ∧ (∃ l0 l1, DiskAt w (Grow F W) p { s with last := runs (s.waits.take k) s.last } l0 l1 (.slice A0 (s.waits.map DU.val).length c0) s0 s1) ∧ Fr F W w) ?_ ?_
  · repeat refine cw_seq ?_
    refine cw_block ?_
    refine cw_loop (fun m e w => ∃ j : Nat, j + m = k ∧ SL e [(0, .pointer (some ⟨p, 0, none⟩)), (13, .slice A0 k c0), (14, .int .i64 k), (15, .int .i64 j)] ∧ (∃ l0 l1, DiskAt w (Grow F W) p { s with last := runs (s.waits.take j) s.last } l0 l1 (.slice A0 (s.waits.map DU.val).length c0) s0 s1) ∧ Fr F W w) k
      ⟨0, by omega, ⟨rfl, rfl, rfl, rfl, trivial⟩, ⟨_, _, hD.weak (fun _ => .inl)⟩, Fr.refl _ _⟩ ?_
    rintro m e w ⟨j, hjm, hsl, ⟨l0, l1, hD2⟩, F2⟩
    rw [hsl.fold]
    repeat refine cw_seq ?_
    refine cw_region ?_
    refine rw_v (op_pure rfl) ?_
    first | refine rw_end ?_ | (refine rw_nil ?_; show CW _ _ _ _ _ _) | refine rw_nil ?_
    repeat refine cw_seq ?_
    refine cw_cond rfl (fun hj => ?_) (fun hj => ?_)
    · refine cw_skip ?_
      try show CW _ _ _ _ _ _
      have hj : j < k := by simpa using hj
      have hR2 := hD2.waits.rd
      obtain ⟨u, hu⟩ : ∃ u, s.waits[j]? = some u := ⟨s.waits[j], List.getElem?_eq_getElem (by omega)⟩
      obtain ⟨tu, hv, hm, hn⟩ := onU_val u
      rcases hR2 with hn | ⟨b, o, rfl, hb, hcell⟩
      · have h0 : s.waits.length = 0 := by have := congrArg List.length hn; rwa [List.length_map] at this
        omega
      have hcu : w.cell? ⟨b, o + j, none⟩ = some (.iface tu u.rcv) := hcell j _ (by rw [List.getElem?_map, hu, ← hv]; rfl)
      repeat refine cw_seq ?_
      refine cw_block ?_
      repeat refine cw_seq ?_
      refine cw_region ?_
      refine rw_v (op_indexAddrS Try.underlying81 Try.sizeOf98 rfl rfl (by omega) (by omega) (o' := o + j) (by simp)) ?_
      refine rw_r (op_load Try.underlying98 rfl rfl hcu) ?_
      refine rw_v (op_pure rfl) ?_
      first | refine rw_end ?_ | (refine rw_nil ?_; show CW _ _ _ _ _ _) | refine rw_nil ?_
      repeat refine cw_seq ?_
      refine cw_draw (C := fun wq => Gr w wq) [0, 1, 2, 3, 4, 5, 6] [7] (by kernel_rfl) (by kernel_rfl) (Gr.drew _) ?_
      simp only [pickL, List.drop_succ_cons, List.drop_zero]
      refine rq_v (op_pure rfl) ?_
      refine rq_v (op_pure rfl) ?_
      refine rq_v (op_pure rfl) ?_
      refine rq_v (op_fieldAddr Try.underlying83 rfl Try.sizeOf30 rfl rfl) ?_
      refine rq_v (op_pure rfl) ?_
      refine rq_v (op_ncm rfl hn) ?_
      refine rq_v (op_pure rfl) ?_
      refine rq_nil ?_
      intro w1_ g1_
      refine rw_invoke rfl (hm _) rfl (unit_lastA u (Grow F W) p { s with last := runs (s.waits.take j) s.last } (oks_at hok hu) (hsm.at j) _ (hD2.gr g1_)) ?_
      rintro _ w5 ⟨rfl, ⟨v0, v1, hD5⟩, F5⟩
      first | refine rw_end ?_ | (refine rw_nil ?_; show CW _ _ _ _ _ _) | refine rw_nil ?_
      repeat refine cw_seq ?_
      refine cw_region ?_
      refine rw_v (op_rng rfl (by omega)) ?_
      refine rw_v (op_pure rfl) ?_
      first | refine rw_end ?_ | (refine rw_nil ?_; show CW _ _ _ _ _ _) | refine rw_nil ?_
      refine ⟨m - 1, by omega, j + 1, by omega, ⟨rfl, rfl, rfl, ie (by omega), trivial⟩, ?_, ?_⟩
      · rw [runs_next hu]
        exact ⟨_, _, hD5.weak fun g hg => hg.elim id (fun h => .inr (by have := F2.size; have := g1_.le; omega))⟩
      · exact (F2.then_gr g1_).trans F5 (fun g hg => hg)
    · refine cw_exit ?_
      have hj : j = k := by
        have : ¬ j < k := by simpa using hj
        omega
      subst hj
      exact ⟨⟨rfl, trivial⟩, ⟨_, _, hD2⟩, F2⟩
  rintro e1 w1 ⟨hsl, ⟨l0, l1, hD1⟩, F1⟩
  rw [hsl.fold]
  have hB := hD1.blk
  unfold DS.cells at hB
  repeat refine cw_seq ?_
  refine cw_region ?_
  refine rw_v (op_pure rfl) ?_
  refine rw_v (op_pure rfl) ?_
  refine rw_v (op_fieldAddr Try.underlying83 rfl Try.sizeOf81 rfl rfl) ?_
  refine rw_store (Try.sizeOf81 _) rfl rfl rfl rfl hB rfl ?_
  intro w1_ g1_ s1_ b1_
  have hB := b1_
  first | refine rw_end ?_ | (refine rw_nil ?_; show CW _ _ _ _ _ _) | refine rw_nil ?_
  have hD2 := hD1.nil_waits g1_ (by have := b1_; simpa [DS.cells] using this)
  have F2 : Fr F W w1_ := F1.trans (Fr.of_p hD1 g1_) (fun g hg => hg)
  have hx1 := hsm.at k
  obtain ⟨s2, hs2⟩ : ∃ s2 : DS, s2 = { { s with last := runs (s.waits.take k) s.last } with waits := [] } := ⟨_, rfl⟩
  rw [← hs2] at hD2
  have hbig : bigB s2.last := by rw [hs2]; exact hx1
  have hset : s.settled k = { s2 with seen := s2.last } := by rw [hs2]; rfl
  rw [hset]
  clear hs2 hset hx1
  obtain ⟨A1, c1, ea⟩ := hD2.last.1.slice
  obtain ⟨A2, c2, eb⟩ := hD2.last.2.1.slice
  rw [c8_length] at ea eb
  subst ea
  subst eb
  have hl1 := hD2.last.1.cap0
  have hl2 := hD2.last.2.1.cap0
  have hbig1 := hbig.1
  have hbig2 := hbig.2
  have hB := hD2.blk
  unfold DS.cells at hB
  repeat refine cw_seq ?_
  refine cw_region ?_
  refine rw_v (op_pure rfl) ?_
  refine rw_v (op_pure rfl) ?_
  refine rw_v (op_fieldAddr Try.underlying83 rfl Try.sizeOf30 rfl rfl) ?_
  refine rw_r (op_loadAB Try.underlying30 rfl (Try.sizeOf30 _) rfl hB rfl rfl) ?_
  refine rw_v (op_pure rfl) ?_
  first | refine rw_end ?_ | (refine rw_nil ?_; show CW _ _ _ _ _ _) | refine rw_nil ?_
  repeat refine cw_seq ?_
  refine cw_block ?_
  refine cw_loop (fun m e w => ∃ j : Nat, j + m = 2 ∧ SL e [(0, .pointer (some ⟨p, 0, none⟩)), (34, .agg #[.slice A1 s2.last.1.length c1, .slice A2 s2.last.2.length c2]), (35, .int .i64 j)] ∧ (∃ v0 v1, DiskAt w (Grow F W) p { s2 with seen := (match j with | 0 => s2.seen | 1 => (s2.last.1, s2.seen.2) | _ => s2.last) } (.slice A1 s2.last.1.length c1) (.slice A2 s2.last.2.length c2) (.slice none 0 0) v0 v1) ∧ Fr F W w) 2
      ⟨0, by omega, ⟨rfl, rfl, rfl, trivial⟩, ⟨_, _, hD2⟩, F2⟩ ?_
  rintro m e w ⟨j, hjm, hsl, ⟨v0, v1, hD3⟩, F3⟩
  have hj3 : j = 0 ∨ j = 1 ∨ j = 2 := by omega
  rw [hsl.fold]
  have hB := hD3.blk
  unfold DS.cells at hB
  rcases hj3 with rfl | rfl | rfl
  · repeat refine cw_seq ?_
    refine cw_region ?_
    first | refine rw_v (op_b (b := true) rfl (decide_eq_true (by omega))) ?_ | refine rw_v (op_b (b := false) rfl (decide_eq_false (by omega))) ?_ | refine rw_v (op_pure rfl) ?_
    first | refine rw_end ?_ | (refine rw_nil ?_; show CW _ _ _ _ _ _) | refine rw_nil ?_
    repeat refine cw_seq ?_
    refine cw_true rfl ?_
    refine cw_skip ?_
    try show CW _ _ _ _ _ _
    repeat refine cw_seq ?_
    refine cw_block ?_
    repeat refine cw_seq ?_
    refine cw_region ?_
    refine rw_v (op_pure rfl) ?_
    refine rw_v (op_indexV Try.underlying30 Try.underlying29 Try.sizeOf29 rfl rfl rfl (by omega) (by omega) rfl) ?_
    refine rw_v (op_pure rfl) ?_
    refine rw_v (op_pure rfl) ?_
    first | refine rw_end ?_ | (refine rw_nil ?_; show CW _ _ _ _ _ _) | refine rw_nil ?_
    repeat refine cw_seq ?_
    refine cw_tri (C := fun τ wq => Gr w wq ∧ match τ with | [] => True | v :: _ => R1 wq 5 v (c8 s2.last.1) ∧ ∀ g, v.ownBlock = some g → w.heap.size ≤ g) [3] [0, 1, 2, 4, 5, 3] [6, 7] (by kernel_rfl) (by kernel_rfl) ⟨Gr.drew _, trivial⟩ ?_
    simp only [pickI, pickL, List.drop_succ_cons, List.drop_zero]
    refine rs_v rfl (op_pure rfl) ?_
    refine rs_v rfl (op_pure rfl) ?_
    refine rs_v rfl (op_pure rfl) ?_
    refine rs_v rfl (op_pure rfl) ?_
    refine rs_v rfl (op_fieldAddr Try.underlying83 rfl Try.sizeOf30 rfl rfl) ?_
    refine rs_special rfl rfl (fun wq hq => ?_) ?_
    · refine to_call rfl ((clone_E A1 _ c1 s2.last.1 rfl wq ((hD3.last.1.gr hq.1).rd) hl1.1 (Nat.le_of_lt hbig1)).mono ?_); rintro v' w' ⟨h1, h2, h3⟩; exact ⟨hq.1.trans h2, h1, fun g hg => Nat.le_trans hq.1.le (h3 g hg)⟩
    rintro v3 wq' ⟨_, hr9, _⟩
    obtain ⟨A9, c9, rfl⟩ := hr9.slice
    refine rs_nil ?_
    rintro w5 ⟨G5, hr5, ho5⟩
    refine rw_v (op_indexAddrQ Try.underlying30 Try.sizeOf29 rfl rfl (by omega) (by omega) (o' := 4 + 0) (by simp)) ?_
    have hB5 := hB.gr G5
    refine rw_store (Try.sizeOf29 _) rfl rfl rfl rfl hB5 rfl ?_
    intro w6 g6 s6 b6
    first | refine rw_end ?_ | (refine rw_nil ?_; show CW _ _ _ _ _ _) | refine rw_nil ?_
    have h6 := hD3.set_seen (fs := (s2.last.1, s2.seen.2)) (v1 := v1) G5 g6 (by have := b6; simpa [DS.cells] using this) ⟨hr5, hD3.seen.2.1.gr G5, fun g hg hg1 => by have := ho5 g hg; have := hD3.seen.2.1.lt hg1; omega⟩ (fun g hg => hg.elim (fun h => .inr (ho5 g h)) (fun h => .inl (.inr h)))
    have hB5p := Fr.of_p (hD3.gr G5) g6
    repeat refine cw_seq ?_
    refine cw_region ?_
    refine rw_v (op_rng rfl (by omega)) ?_
    refine rw_v (op_pure rfl) ?_
    first | refine rw_end ?_ | (refine rw_nil ?_; show CW _ _ _ _ _ _) | refine rw_nil ?_
    refine ⟨1, by omega, 1, by omega, ⟨rfl, rfl, ie (by omega), trivial⟩, ⟨_, _, h6.weak fun g hg => hg.elim id (fun h => .inr (by have := F3.size; omega))⟩, (F3.then_gr G5).trans hB5p (fun g hg => hg)⟩
  · repeat refine cw_seq ?_
    refine cw_region ?_
    first | refine rw_v (op_b (b := true) rfl (decide_eq_true (by omega))) ?_ | refine rw_v (op_b (b := false) rfl (decide_eq_false (by omega))) ?_ | refine rw_v (op_pure rfl) ?_
    first | refine rw_end ?_ | (refine rw_nil ?_; show CW _ _ _ _ _ _) | refine rw_nil ?_
    repeat refine cw_seq ?_
    refine cw_true rfl ?_
    refine cw_skip ?_
    try show CW _ _ _ _ _ _
    repeat refine cw_seq ?_
    refine cw_block ?_
    repeat refine cw_seq ?_
    refine cw_region ?_
    refine rw_v (op_pure rfl) ?_
    refine rw_v (op_indexV Try.underlying30 Try.underlying29 Try.sizeOf29 rfl rfl rfl (by omega) (by omega) rfl) ?_
    refine rw_v (op_pure rfl) ?_
    refine rw_v (op_pure rfl) ?_
    first | refine rw_end ?_ | (refine rw_nil ?_; show CW _ _ _ _ _ _) | refine rw_nil ?_
    repeat refine cw_seq ?_
    refine cw_tri (C := fun τ wq => Gr w wq ∧ match τ with | [] => True | v :: _ => R1 wq 5 v (c8 s2.last.2) ∧ ∀ g, v.ownBlock = some g → w.heap.size ≤ g) [3] [0, 1, 2, 4, 5, 3] [6, 7] (by kernel_rfl) (by kernel_rfl) ⟨Gr.drew _, trivial⟩ ?_
    simp only [pickI, pickL, List.drop_succ_cons, List.drop_zero]
    refine rs_v rfl (op_pure rfl) ?_
    refine rs_v rfl (op_pure rfl) ?_
    refine rs_v rfl (op_pure rfl) ?_
    refine rs_v rfl (op_pure rfl) ?_
    refine rs_v rfl (op_fieldAddr Try.underlying83 rfl Try.sizeOf30 rfl rfl) ?_
    refine rs_special rfl rfl (fun wq hq => ?_) ?_
    · refine to_call rfl ((clone_E A2 _ c2 s2.last.2 rfl wq ((hD3.last.2.1.gr hq.1).rd) hl2.1 (Nat.le_of_lt hbig2)).mono ?_); rintro v' w' ⟨h1, h2, h3⟩; exact ⟨hq.1.trans h2, h1, fun g hg => Nat.le_trans hq.1.le (h3 g hg)⟩
    rintro v3 wq' ⟨_, hr9, _⟩
    obtain ⟨A9, c9, rfl⟩ := hr9.slice
    refine rs_nil ?_
    rintro w5 ⟨G5, hr5, ho5⟩
    refine rw_v (op_indexAddrQ Try.underlying30 Try.sizeOf29 rfl rfl (by omega) (by omega) (o' := 4 + 1) (by simp)) ?_
    have hB5 := hB.gr G5
    refine rw_store (Try.sizeOf29 _) rfl rfl rfl rfl hB5 rfl ?_
    intro w6 g6 s6 b6
    first | refine rw_end ?_ | (refine rw_nil ?_; show CW _ _ _ _ _ _) | refine rw_nil ?_
    have h6 := hD3.set_seen (fs := (s2.last.1, s2.last.2)) (v0 := v0) G5 g6 (by have := b6; simpa [DS.cells] using this) ⟨hD3.seen.1.gr G5, hr5, fun g hg hg1 => by have := ho5 g hg1; have := hD3.seen.1.lt hg; omega⟩ (fun g hg => hg.elim (fun h => .inl (.inl h)) (fun h => .inr (ho5 g h)))
    have hB5p := Fr.of_p (hD3.gr G5) g6
    repeat refine cw_seq ?_
    refine cw_region ?_
    refine rw_v (op_rng rfl (by omega)) ?_
    refine rw_v (op_pure rfl) ?_
    first | refine rw_end ?_ | (refine rw_nil ?_; show CW _ _ _ _ _ _) | refine rw_nil ?_
    refine ⟨0, by omega, 2, by omega, ⟨rfl, rfl, ie (by omega), trivial⟩, ⟨_, _, h6.weak fun g hg => hg.elim id (fun h => .inr (by have := F3.size; omega))⟩, (F3.then_gr G5).trans hB5p (fun g hg => hg)⟩
  · repeat refine cw_seq ?_
    refine cw_region ?_
    first | refine rw_v (op_b (b := true) rfl (decide_eq_true (by omega))) ?_ | refine rw_v (op_b (b := false) rfl (decide_eq_false (by omega))) ?_ | refine rw_v (op_pure rfl) ?_
    first | refine rw_end ?_ | (refine rw_nil ?_; show CW _ _ _ _ _ _) | refine rw_nil ?_
    repeat refine cw_seq ?_
    refine cw_false rfl ?_
    refine cw_exit ?_
    repeat first | refine exit_then ?_ | refine exit_inb ?_
    exact res0n ⟨rfl, ⟨_, _, _, _, _, hD3⟩, F3⟩

theorem dcrash_E (F : Nat → Prop) (p : Nat) (s : DS) (keep : Int) (hok : oks s.waits s.last) (hsm : small s.waits s.last) (W : World) (hD : DiskIs W F p s) :
    Fn Try.prog 19 [.pointer (some ⟨p, 0, none⟩), .int .i64 keep] W (RetD (.int .i64 0) W F p { s.settled (min (max keep 0) s.waits.length).toNat with fused := false, fuse := 0, dark := false }) := by
  have G0 := Gr.refl W
  have hD0 := hD
  obtain ⟨l0, l1, ws, s0, s1, hD⟩ := hD
  obtain ⟨A0, c0, rfl⟩ := hD.waits.slice
  have hB := hD.blk
  unfold DS.cells at hB
  rw [List.length_map] at hB
  have e1 : min (max keep 0) (s.waits.length : Int) = ((min (max keep 0) s.waits.length).toNat : Nat) := by omega
  have e2 : (min (max keep 0) (s.waits.length : Int)).toNat ≤ s.waits.length := by omega
  refine Fn_enter Try.func19 rfl Try.results19 Try.ntmps19 (by kernel_rfl) (by kernel_rfl) ?_
  repeat refine cw_seq ?_
  refine cw_region ?_
  refine rw_v (op_pure rfl) ?_
  first | refine rw_end ?_ | (refine rw_nil ?_; show CW _ _ _ _ _ _) | refine rw_nil ?_
  repeat refine cw_seq ?_
  refine cw_region ?_
  refine rw_v (op_pure rfl) ?_
  refine rw_v (op_nilp Try.underlying25 rfl rfl) ?_
  first | refine rw_end ?_ | (refine rw_nil ?_; show CW _ _ _ _ _ _) | refine rw_nil ?_
  repeat refine cw_seq ?_
  refine cw_false rfl ?_
  refine cw_skip ?_
  try show CW _ _ _ _ _ _
  repeat refine cw_seq ?_
  refine cw_region ?_
  refine rw_v (op_pure rfl) ?_
  refine rw_v (op_pure rfl) ?_
  refine rw_v (op_pure rfl) ?_
  refine rw_v (op_pure rfl) ?_
  refine rw_v (op_pure rfl) ?_
  refine rw_v (op_fieldAddr Try.underlying83 rfl Try.sizeOf81 rfl rfl) ?_
  refine rw_r (op_loadB Try.underlying81 rfl rfl hB rfl) ?_
  refine rw_v (op_len Try.underlying81 rfl) ?_
  refine rw_v (op_pure rfl) ?_
  rw [e1]
  refine rw_call rfl (dsettle_E F p s _ e2 hok hsm _ hD0) ?_
  rintro _ w1 ⟨rfl, hD1, F1⟩
  first | refine rw_end ?_ | (refine rw_nil ?_; show CW _ _ _ _ _ _) | refine rw_nil ?_
  obtain ⟨l0, l1, ws, s0, s1, hD1⟩ := hD1
  have hB := hD1.blk
  unfold DS.cells at hB
  repeat refine cw_seq ?_
  refine cw_region ?_
  refine rw_v (op_pure rfl) ?_
  refine rw_v (op_pure rfl) ?_
  refine rw_v (op_pure rfl) ?_
  refine rw_v (op_pure rfl) ?_
  refine rw_v (op_fieldAddr Try.underlying83 rfl Try.sizeOf4 rfl rfl) ?_
  refine rw_store (Try.sizeOf4 _) rfl rfl rfl rfl hB rfl ?_
  intro w1_ g1_ s1_ b1_
  have hB := b1_
  refine rw_v (op_pure rfl) ?_
  refine rw_v (op_fieldAddr Try.underlying83 rfl Try.sizeOf2 rfl rfl) ?_
  refine rw_store (Try.sizeOf2 _) rfl rfl rfl rfl hB rfl ?_
  intro w2_ g2_ s2_ b2_
  have hB := b2_
  refine rw_v (op_pure rfl) ?_
  refine rw_v (op_fieldAddr Try.underlying83 rfl Try.sizeOf4 rfl rfl) ?_
  refine rw_store (Try.sizeOf4 _) rfl rfl rfl rfl hB rfl ?_
  intro w3_ g3_ s3_ b3_
  have hB := b3_
  first | refine rw_end ?_ | (refine rw_nil ?_; show CW _ _ _ _ _ _) | refine rw_nil ?_
  repeat refine cw_seq ?_
  refine cw_region ?_
  refine rw_v (op_pure rfl) ?_
  first | refine rw_end ?_ | (refine rw_nil ?_; show CW _ _ _ _ _ _) | refine rw_nil ?_
  have h1 := hD1.upd (s' := { s.settled (min (max keep 0) s.waits.length).toNat with fused := false }) g1_ b1_ rfl rfl rfl
  have h2 := h1.upd (s' := { s.settled (min (max keep 0) s.waits.length).toNat with fused := false, fuse := 0 }) g2_ b2_ rfl rfl rfl
  have h3 := h2.upd (s' := { s.settled (min (max keep 0) s.waits.length).toNat with fused := false, fuse := 0, dark := false }) g3_ b3_ rfl rfl rfl
  refine cw_ret ?_
  repeat first | refine ret_then ?_ | refine ret_inb ?_
  exact res1 rfl ⟨rfl, ⟨_, _, _, _, _, h3⟩, ((F1.trans (Fr.of_p hD1 g1_) (fun g hg => hg)).trans (Fr.of_p h1 g2_) (fun g hg => hg)).trans (Fr.of_p h2 g3_) (fun g hg => hg)⟩
theorem dcrashNil_E (keep : Int) (W : World) : Fn Try.prog 19 [.pointer none, .int .i64 keep] W (RetG (.int .i64 1) W) := by
  have G0 := Gr.refl W
  refine Fn_enter Try.func19 rfl Try.results19 Try.ntmps19 (by kernel_rfl) (by kernel_rfl) ?_
  repeat refine cw_seq ?_
  refine cw_region ?_
  refine rw_v (op_pure rfl) ?_
  first | refine rw_end ?_ | (refine rw_nil ?_; show CW _ _ _ _ _ _) | refine rw_nil ?_
  repeat refine cw_seq ?_
  refine cw_region ?_
  refine rw_v (op_pure rfl) ?_
  refine rw_v (op_nilp Try.underlying25 rfl rfl) ?_
  first | refine rw_end ?_ | (refine rw_nil ?_; show CW _ _ _ _ _ _) | refine rw_nil ?_
  repeat refine cw_seq ?_
  refine cw_true rfl ?_
  repeat refine cw_seq ?_
  refine cw_region ?_
  refine rw_v (op_pure rfl) ?_
  first | refine rw_end ?_ | (refine rw_nil ?_; show CW _ _ _ _ _ _) | refine rw_nil ?_
  refine cw_ret ?_
  repeat first | refine ret_then ?_ | refine ret_inb ?_
  exact res1 rfl ⟨rfl, G0⟩

theorem dsyncNo_E (F : Nat → Prop) (p : Nat) (s : DS) (W : World) (hD : DiskIs W F p s) (hk : s.dark = true) : Fn Try.prog 18 [.pointer (some ⟨p, 0, none⟩)] W (RetG (.int .i64 17) W) := by
  have G0 := Gr.refl W
  obtain ⟨l0, l1, ws, s0, s1, hD⟩ := hD
  have hcode : s.code 0 = 17 := by simp [DS.code, hk]
  refine Fn_enter Try.func18 rfl Try.results18 Try.ntmps18 (by kernel_rfl) (by kernel_rfl) ?_
  repeat refine cw_seq ?_
  refine cw_region ?_
  refine rw_v (op_pure rfl) ?_
  first | refine rw_end ?_ | (refine rw_nil ?_; show CW _ _ _ _ _ _) | refine rw_nil ?_
  repeat refine cw_seq ?_
  refine cw_region ?_
  refine rw_v (op_pure rfl) ?_
  refine rw_call rfl (dcheck_E F p s l0 l1 ws s0 s1 _ _ hD) ?_
  rintro _ w1 ⟨rfl, g1⟩
  have G0 := G0.trans g1
  refine rw_v (op_pure rfl) ?_
  first | refine rw_end ?_ | (refine rw_nil ?_; show CW _ _ _ _ _ _) | refine rw_nil ?_
  repeat refine cw_seq ?_
  refine cw_region ?_
  refine rw_v (op_pure rfl) ?_
  refine rw_v (op_b (b := true) rfl (by rw [hcode]; rfl)) ?_
  first | refine rw_end ?_ | (refine rw_nil ?_; show CW _ _ _ _ _ _) | refine rw_nil ?_
  repeat refine cw_seq ?_
  refine cw_true rfl ?_
  repeat refine cw_seq ?_
  refine cw_region ?_
  refine rw_v (op_pure rfl) ?_
  refine rw_v (op_pure rfl) ?_
  first | refine rw_end ?_ | (refine rw_nil ?_; show CW _ _ _ _ _ _) | refine rw_nil ?_
  exact cw_ret (res1 rfl ⟨by rw [hcode], G0⟩)
theorem dsyncNil_E (W : World) : Fn Try.prog 18 [.pointer none] W (RetG (.int .i64 1) W) := by
  have G0 := Gr.refl W
  refine Fn_enter Try.func18 rfl Try.results18 Try.ntmps18 (by kernel_rfl) (by kernel_rfl) ?_
  repeat refine cw_seq ?_
  refine cw_region ?_
  refine rw_v (op_pure rfl) ?_
  first | refine rw_end ?_ | (refine rw_nil ?_; show CW _ _ _ _ _ _) | refine rw_nil ?_
  repeat refine cw_seq ?_
  refine cw_region ?_
  refine rw_v (op_pure rfl) ?_
  refine rw_call rfl (dcheckNil_E _ _) ?_
  rintro _ w1 ⟨rfl, g1⟩
  have G0 := G0.trans g1
  refine rw_v (op_pure rfl) ?_
  first | refine rw_end ?_ | (refine rw_nil ?_; show CW _ _ _ _ _ _) | refine rw_nil ?_
  repeat refine cw_seq ?_
  refine cw_region ?_
  refine rw_v (op_pure rfl) ?_
  first | refine rw_v (op_b (b := true) rfl (bne_iff_ne.2 (by omega))) ?_ | refine rw_v (op_b (b := false) rfl (bne_eq_false_iff_eq.2 (by omega))) ?_ | refine rw_v (op_pure rfl) ?_
  first | refine rw_end ?_ | (refine rw_nil ?_; show CW _ _ _ _ _ _) | refine rw_nil ?_
  repeat refine cw_seq ?_
  refine cw_true rfl ?_
  repeat refine cw_seq ?_
  refine cw_region ?_
  refine rw_v (op_pure rfl) ?_
  refine rw_v (op_pure rfl) ?_
  first | refine rw_end ?_ | (refine rw_nil ?_; show CW _ _ _ _ _ _) | refine rw_nil ?_
  refine cw_ret ?_
  repeat first | refine ret_then ?_ | refine ret_inb ?_
  exact res1 rfl ⟨rfl, G0⟩
theorem dsyncBurn_E (F : Nat → Prop) (p : Nat) (s : DS) (W : World) (hD : DiskIs W F p s) (hk : s.dark = false) (hb : s.burns = true) : Fn Try.prog 18 [.pointer (some ⟨p, 0, none⟩)] W (RetD (.int .i64 17) W F p { s with dark := true }) := by
  have G0 := Gr.refl W
  have hD0 := hD
  obtain ⟨l0, l1, ws, s0, s1, hD⟩ := hD
  have hcode : s.code 0 = 0 := by simp [DS.code, hk]
  refine Fn_enter Try.func18 rfl Try.results18 Try.ntmps18 (by kernel_rfl) (by kernel_rfl) ?_
  repeat refine cw_seq ?_
  refine cw_region ?_
  refine rw_v (op_pure rfl) ?_
  first | refine rw_end ?_ | (refine rw_nil ?_; show CW _ _ _ _ _ _) | refine rw_nil ?_
  repeat refine cw_seq ?_
  refine cw_region ?_
  refine rw_v (op_pure rfl) ?_
  refine rw_call rfl (dcheck_E F p s l0 l1 ws s0 s1 _ _ hD) ?_
  rintro _ w1 ⟨rfl, g1⟩
  have G0 := G0.trans g1
  refine rw_v (op_pure rfl) ?_
  first | refine rw_end ?_ | (refine rw_nil ?_; show CW _ _ _ _ _ _) | refine rw_nil ?_
  repeat refine cw_seq ?_
  refine cw_region ?_
  refine rw_v (op_pure rfl) ?_
  refine rw_v (op_b (b := false) rfl (by rw [hcode]; rfl)) ?_
  first | refine rw_end ?_ | (refine rw_nil ?_; show CW _ _ _ _ _ _) | refine rw_nil ?_
  repeat refine cw_seq ?_
  refine cw_false rfl ?_
  refine cw_skip ?_
  try show CW _ _ _ _ _ _
  repeat refine cw_seq ?_
  refine cw_region ?_
  refine rw_v (op_pure rfl) ?_
  refine rw_call rfl (ddeedBurn_E F p s _ hb _ (hD0.gr G0)) ?_
  rintro _ w2 ⟨rfl, h2⟩
  refine rw_v (op_pure rfl) ?_
  first | refine rw_end ?_ | (refine rw_nil ?_; show CW _ _ _ _ _ _) | refine rw_nil ?_
  repeat refine cw_seq ?_
  refine cw_region ?_
  refine rw_v (op_pure rfl) ?_
  first | refine rw_v (op_b (b := true) rfl (bne_iff_ne.2 (by omega))) ?_ | refine rw_v (op_b (b := false) rfl (bne_eq_false_iff_eq.2 (by omega))) ?_ | refine rw_v (op_pure rfl) ?_
  first | refine rw_end ?_ | (refine rw_nil ?_; show CW _ _ _ _ _ _) | refine rw_nil ?_
  repeat refine cw_seq ?_
  refine cw_true rfl ?_
  repeat refine cw_seq ?_
  refine cw_region ?_
  refine rw_v (op_pure rfl) ?_
  refine rw_v (op_pure rfl) ?_
  first | refine rw_end ?_ | (refine rw_nil ?_; show CW _ _ _ _ _ _) | refine rw_nil ?_
  refine cw_ret ?_
  repeat first | refine ret_then ?_ | refine ret_inb ?_
  exact res1 rfl ⟨rfl, (DiskP.of_gr hD0 G0).trans ⟨h2.1.weak (fun g hg => hg.imp .inl id), h2.2.weak (fun _ => .inl)⟩⟩
theorem dsync_E (F : Nat → Prop) (p : Nat) (s : DS) (W : World) (hD : DiskIs W F p s) (hk : s.dark = false) (hb : s.burns = false) (hfu : 0 ≤ s.fuse ∧ s.fuse ≤ 9223372036854775807) (hs : small s.waits s.seen) (hok : oks s.waits s.last) (hsm : small s.waits s.last) (hwl : s.waits.length < 1099511627776) :
    Fn Try.prog 18 [.pointer (some ⟨p, 0, none⟩)] W (RetD (.int .i64 0) W F p (s.ticked.settled s.waits.length)) := by
  have G0 := Gr.refl W
  have hD0 := hD
  obtain ⟨l0, l1, ws, s0, s1, hD⟩ := hD
  have hcode : s.code 0 = 0 := by simp [DS.code, hk]
  refine Fn_enter Try.func18 rfl Try.results18 Try.ntmps18 (by kernel_rfl) (by kernel_rfl) ?_
  repeat refine cw_seq ?_
  refine cw_region ?_
  refine rw_v (op_pure rfl) ?_
  first | refine rw_end ?_ | (refine rw_nil ?_; show CW _ _ _ _ _ _) | refine rw_nil ?_
  repeat refine cw_seq ?_
  refine cw_region ?_
  refine rw_v (op_pure rfl) ?_
  refine rw_call rfl (dcheck_E F p s l0 l1 ws s0 s1 _ _ hD) ?_
  rintro _ w1 ⟨rfl, g1⟩
  have G0 := G0.trans g1
  refine rw_v (op_pure rfl) ?_
  first | refine rw_end ?_ | (refine rw_nil ?_; show CW _ _ _ _ _ _) | refine rw_nil ?_
  repeat refine cw_seq ?_
  refine cw_region ?_
  refine rw_v (op_pure rfl) ?_
  refine rw_v (op_b (b := false) rfl (by rw [hcode]; rfl)) ?_
  first | refine rw_end ?_ | (refine rw_nil ?_; show CW _ _ _ _ _ _) | refine rw_nil ?_
  repeat refine cw_seq ?_
  refine cw_false rfl ?_
  refine cw_skip ?_
  try show CW _ _ _ _ _ _
  repeat refine cw_seq ?_
  refine cw_region ?_
  refine rw_v (op_pure rfl) ?_
  refine rw_call rfl (ddeed_E F p s none 0 [] hb hfu trivial ⟨by have := hs.1; simp; omega, by have := hs.2; simp; omega⟩ (by simpa using hwl) _ (hD0.gr G0) (.inl rfl) (by intro a h; cases h) (by intro _; rfl)) ?_
  rintro _ w2 ⟨rfl, h2⟩
  refine rw_v (op_pure rfl) ?_
  first | refine rw_end ?_ | (refine rw_nil ?_; show CW _ _ _ _ _ _) | refine rw_nil ?_
  repeat refine cw_seq ?_
  refine cw_region ?_
  refine rw_v (op_pure rfl) ?_
  first | refine rw_v (op_b (b := true) rfl (bne_iff_ne.2 (by omega))) ?_ | refine rw_v (op_b (b := false) rfl (bne_eq_false_iff_eq.2 (by omega))) ?_ | refine rw_v (op_pure rfl) ?_
  first | refine rw_end ?_ | (refine rw_nil ?_; show CW _ _ _ _ _ _) | refine rw_nil ?_
  repeat refine cw_seq ?_
  refine cw_false rfl ?_
  refine cw_skip ?_
  try show CW _ _ _ _ _ _
  have e0 : ({ s.ticked with seen := runs [] s.seen, waits := s.waits ++ [] } : DS) = s.ticked := by simp [runs, DS.ticked]
  rw [e0] at h2
  have h2 : DiskP W F p s.ticked w2 := (DiskP.of_gr hD0 G0).trans ⟨h2.1.weak (fun g hg => hg.imp .inl id), h2.2.weak (fun _ => .inl)⟩
  obtain ⟨hD2, F2⟩ := h2
  have hD3 := hD2
  obtain ⟨l0, l1, ws, s0, s1, hD2⟩ := hD2
  obtain ⟨A0, c0, rfl⟩ := hD2.waits.slice
  have hB := hD2.blk
  unfold DS.cells at hB
  rw [List.length_map] at hB
  repeat refine cw_seq ?_
  refine cw_region ?_
  refine rw_v (op_pure rfl) ?_
  refine rw_v (op_pure rfl) ?_
  refine rw_v (op_pure rfl) ?_
  refine rw_v (op_fieldAddr Try.underlying83 rfl Try.sizeOf81 rfl rfl) ?_
  refine rw_r (op_loadB Try.underlying81 rfl rfl hB rfl) ?_
  refine rw_v (op_len Try.underlying81 rfl) ?_
  refine rw_call rfl (dsettle_E (Grow F W) p s.ticked _ (Nat.le_refl _) hok hsm _ hD3) ?_
  rintro _ w3 ⟨rfl, h3⟩
  first | refine rw_end ?_ | (refine rw_nil ?_; show CW _ _ _ _ _ _) | refine rw_nil ?_
  repeat refine cw_seq ?_
  refine cw_region ?_
  refine rw_v (op_pure rfl) ?_
  first | refine rw_end ?_ | (refine rw_nil ?_; show CW _ _ _ _ _ _) | refine rw_nil ?_
  refine cw_ret ?_
  repeat first | refine ret_then ?_ | refine ret_inb ?_
  exact res1 rfl ⟨rfl, DiskP.trans ⟨hD3, F2⟩ h3⟩

/-! ### Cut -/
theorem dcutNo_E (F : Nat → Prop) (p : Nat) (s : DS) (file n : Int) (W : World) (hD : DiskIs W F p s) (hk : s.code file ≠ 0) : Fn Try.prog 36 [.pointer (some ⟨p, 0, none⟩), .int .i64 file, .int .i64 n] W (RetG (.int .i64 (s.code file)) W) := by
  have G0 := Gr.refl W
  obtain ⟨l0, l1, ws, s0, s1, hD⟩ := hD
  refine Fn_enter Try.func36 rfl Try.results36 Try.ntmps36 (by kernel_rfl) (by kernel_rfl) ?_
  repeat refine cw_seq ?_
  refine cw_region ?_
  refine rw_v (op_pure rfl) ?_
  first | refine rw_end ?_ | (refine rw_nil ?_; show CW _ _ _ _ _ _) | refine rw_nil ?_
  repeat refine cw_seq ?_
  refine cw_region ?_
  refine rw_v (op_pure rfl) ?_
  refine rw_v (op_pure rfl) ?_
  refine rw_call rfl (dcheck_E F p s l0 l1 ws s0 s1 _ _ hD) ?_
  rintro _ w1 ⟨rfl, g1⟩
  have G0 := G0.trans g1
  refine rw_v (op_pure rfl) ?_
  first | refine rw_end ?_ | (refine rw_nil ?_; show CW _ _ _ _ _ _) | refine rw_nil ?_
  repeat refine cw_seq ?_
  refine cw_region ?_
  refine rw_v (op_pure rfl) ?_
  refine rw_v (op_b (b := true) rfl (by simpa using hk)) ?_
  first | refine rw_end ?_ | (refine rw_nil ?_; show CW _ _ _ _ _ _) | refine rw_nil ?_
  repeat refine cw_seq ?_
  refine cw_true rfl ?_
  repeat refine cw_seq ?_
  refine cw_region ?_
  refine rw_v (op_pure rfl) ?_
  refine rw_v (op_pure rfl) ?_
  first | refine rw_end ?_ | (refine rw_nil ?_; show CW _ _ _ _ _ _) | refine rw_nil ?_
  exact cw_ret (res1 rfl ⟨rfl, G0⟩)
theorem dcutNil_E (file n : Int) (W : World) : Fn Try.prog 36 [.pointer none, .int .i64 file, .int .i64 n] W (RetG (.int .i64 1) W) := by
  have G0 := Gr.refl W
  refine Fn_enter Try.func36 rfl Try.results36 Try.ntmps36 (by kernel_rfl) (by kernel_rfl) ?_
  repeat refine cw_seq ?_
  refine cw_region ?_
  refine rw_v (op_pure rfl) ?_
  first | refine rw_end ?_ | (refine rw_nil ?_; show CW _ _ _ _ _ _) | refine rw_nil ?_
  repeat refine cw_seq ?_
  refine cw_region ?_
  refine rw_v (op_pure rfl) ?_
  refine rw_v (op_pure rfl) ?_
  refine rw_call rfl (dcheckNil_E _ _) ?_
  rintro _ w1 ⟨rfl, g1⟩
  have G0 := G0.trans g1
  refine rw_v (op_pure rfl) ?_
  first | refine rw_end ?_ | (refine rw_nil ?_; show CW _ _ _ _ _ _) | refine rw_nil ?_
  repeat refine cw_seq ?_
  refine cw_region ?_
  refine rw_v (op_pure rfl) ?_
  first | refine rw_v (op_b (b := true) rfl (bne_iff_ne.2 (by omega))) ?_ | refine rw_v (op_b (b := false) rfl (bne_eq_false_iff_eq.2 (by omega))) ?_ | refine rw_v (op_pure rfl) ?_
  first | refine rw_end ?_ | (refine rw_nil ?_; show CW _ _ _ _ _ _) | refine rw_nil ?_
  repeat refine cw_seq ?_
  refine cw_true rfl ?_
  repeat refine cw_seq ?_
  refine cw_region ?_
  refine rw_v (op_pure rfl) ?_
  refine rw_v (op_pure rfl) ?_
  first | refine rw_end ?_ | (refine rw_nil ?_; show CW _ _ _ _ _ _) | refine rw_nil ?_
  exact cw_ret (res1 rfl ⟨rfl, G0⟩)
theorem dappNo_E (F : Nat → Prop) (p : Nat) (s : DS) (file : Int) (v : Value) (hv : fz v = some v) (W : World) (hD : DiskIs W F p s) (hk : s.code file ≠ 0) : Fn Try.prog 20 [.pointer (some ⟨p, 0, none⟩), .int .i64 file, v] W (RetG (.int .i64 (s.code file)) W) := by
  have G0 := Gr.refl W
  obtain ⟨l0, l1, ws, s0, s1, hD⟩ := hD
  refine Fn_enter Try.func20 rfl Try.results20 Try.ntmps20 (by kernel_rfl) (by kernel_rfl) ?_
  repeat refine cw_seq ?_
  refine cw_region ?_
  refine rw_v (op_pure rfl) ?_
  first | refine rw_end ?_ | (refine rw_nil ?_; show CW _ _ _ _ _ _) | refine rw_nil ?_
  repeat refine cw_seq ?_
  refine cw_region ?_
  refine rw_v (op_pure rfl) ?_
  refine rw_v (op_pure rfl) ?_
  refine rw_call rfl (dcheck_E F p s l0 l1 ws s0 s1 _ _ hD) ?_
  rintro _ w1 ⟨rfl, g1⟩
  have G0 := G0.trans g1
  refine rw_v (op_pure rfl) ?_
  first | refine rw_end ?_ | (refine rw_nil ?_; show CW _ _ _ _ _ _) | refine rw_nil ?_
  repeat refine cw_seq ?_
  refine cw_region ?_
  refine rw_v (op_pure rfl) ?_
  refine rw_v (op_b (b := true) rfl (by simpa using hk)) ?_
  first | refine rw_end ?_ | (refine rw_nil ?_; show CW _ _ _ _ _ _) | refine rw_nil ?_
  repeat refine cw_seq ?_
  refine cw_true rfl ?_
  repeat refine cw_seq ?_
  refine cw_region ?_
  refine rw_v (op_pure rfl) ?_
  refine rw_v (op_pure rfl) ?_
  first | refine rw_end ?_ | (refine rw_nil ?_; show CW _ _ _ _ _ _) | refine rw_nil ?_
  exact cw_ret (res1 rfl ⟨rfl, G0⟩)
theorem dappNil_E (file : Int) (v : Value) (W : World) : Fn Try.prog 20 [.pointer none, .int .i64 file, v] W (RetG (.int .i64 1) W) := by
  have G0 := Gr.refl W
  refine Fn_enter Try.func20 rfl Try.results20 Try.ntmps20 (by kernel_rfl) (by kernel_rfl) ?_
  repeat refine cw_seq ?_
  refine cw_region ?_
  refine rw_v (op_pure rfl) ?_
  first | refine rw_end ?_ | (refine rw_nil ?_; show CW _ _ _ _ _ _) | refine rw_nil ?_
  repeat refine cw_seq ?_
  refine cw_region ?_
  refine rw_v (op_pure rfl) ?_
  refine rw_v (op_pure rfl) ?_
  refine rw_call rfl (dcheckNil_E _ _) ?_
  rintro _ w1 ⟨rfl, g1⟩
  have G0 := G0.trans g1
  refine rw_v (op_pure rfl) ?_
  first | refine rw_end ?_ | (refine rw_nil ?_; show CW _ _ _ _ _ _) | refine rw_nil ?_
  repeat refine cw_seq ?_
  refine cw_region ?_
  refine rw_v (op_pure rfl) ?_
  first | refine rw_v (op_b (b := true) rfl (bne_iff_ne.2 (by omega))) ?_ | refine rw_v (op_b (b := false) rfl (bne_eq_false_iff_eq.2 (by omega))) ?_ | refine rw_v (op_pure rfl) ?_
  first | refine rw_end ?_ | (refine rw_nil ?_; show CW _ _ _ _ _ _) | refine rw_nil ?_
  repeat refine cw_seq ?_
  refine cw_true rfl ?_
  repeat refine cw_seq ?_
  refine cw_region ?_
  refine rw_v (op_pure rfl) ?_
  refine rw_v (op_pure rfl) ?_
  first | refine rw_end ?_ | (refine rw_nil ?_; show CW _ _ _ _ _ _) | refine rw_nil ?_
  exact cw_ret (res1 rfl ⟨rfl, G0⟩)
def addsOf (f : Nat) (bs : List Int) : List DU := bs.map (DU.add f)
def DS.deed (s : DS) (us : List DU) : Int × DS := if s.burns then (17, { s with dark := true }) else (0, { s.ticked with seen := runs us s.seen, waits := s.waits ++ us })
theorem ddeedS_E (F : Nat → Prop) (p : Nat) (s : DS) (A : Option Addr) (c : Nat) (us : List DU) (hfu : 0 ≤ s.fuse ∧ s.fuse ≤ 9223372036854775807) (hok : oks us s.seen) (hsm : small us s.seen) (hwl : s.waits.length + us.length < 1099511627776)
    (W : World) (hD : DiskIs W F p s) (hR : Rd W A (us.map DU.val)) (hA : ∀ a, A = some a → ¬ F a.block) (hc : A = none → c = 0) :
    Fn Try.prog 40 [.pointer (some ⟨p, 0, none⟩), .slice A us.length c] W (RetD (.int .i64 (s.deed us).1) W F p (s.deed us).2) := by
  unfold DS.deed
  cases hb : s.burns
  · exact ddeed_E F p s A c us hb hfu hok hsm hwl W hD hR hA hc
  · exact ddeedBurn_E F p s _ hb W hD
theorem addsOf_length (f : Nat) (bs : List Int) : (addsOf f bs).length = bs.length := by simp [addsOf]
theorem oks_adds (f : Nat) (hf : f = 0 ∨ f = 1) (bs : List Int) (hbs : ∀ b ∈ bs, byteB b) (fs : List Int × List Int) : oks (addsOf f bs) fs := by
  induction bs generalizing fs with
  | nil => trivial
  | cons b bs ih => exact ⟨⟨hf, hbs b (by simp)⟩, ih (fun x hx => hbs x (by simp [hx])) _⟩
theorem take_set_next {l : List Value} {k : Nat} {v : Value} (h : k < l.length) : (l.set k v).take (k + 1) = l.take k ++ [v] := by
  rw [List.take_add_one, List.take_set_of_le (Nat.le_refl _)]
  simp [h]
theorem dapp_E (F : Nat → Prop) (p : Nat) (s : DS) (f : Nat) (hf : f = 0 ∨ f = 1) (A : Option Addr) (c : Nat) (bs : List Int) (hbs : ∀ b ∈ bs, byteB b) (hbl : bs.length ≤ 1048576) (hk : s.dark = false) (hbig : bigB s.seen) (hroom : 0 ≤ s.room ∧ s.room ≤ 1048576) (hle : s.burns = false → (bs.length : Int) ≤ s.left)
    (hfu : 0 ≤ s.fuse ∧ s.fuse ≤ 9223372036854775807) (hsm : small (addsOf f bs) s.seen) (hwl : s.waits.length + bs.length < 1099511627776) (W : World) (hD : DiskIs W F p s) (hR : Rd W A (c8 bs)) (hF : ∀ g, F g → g < W.heap.size) :
    Fn Try.prog 20 [.pointer (some ⟨p, 0, none⟩), .int .i64 f, .slice A bs.length c] W (RetD (.int .i64 (s.deed (addsOf f bs)).1) W F p (s.deed (addsOf f bs)).2) := by
  have G0 := Gr.refl W
  have hD0 := hD
  obtain ⟨l0, l1, ws, s0, s1, hD⟩ := hD
  have hcode : s.code f = 0 := by rcases hf with rfl | rfl <;> simp [DS.code, hk]
  refine Fn_enter Try.func20 rfl Try.results20 Try.ntmps20 (by kernel_rfl) (by kernel_rfl) ?_
  repeat refine cw_seq ?_
  refine cw_region ?_
  refine rw_v (op_pure rfl) ?_
  first | refine rw_end ?_ | (refine rw_nil ?_; show CW _ _ _ _ _ _) | refine rw_nil ?_
  repeat refine cw_seq ?_
  refine cw_region ?_
  refine rw_v (op_pure rfl) ?_
  refine rw_v (op_pure rfl) ?_
  refine rw_call rfl (dcheck_E F p s l0 l1 ws s0 s1 _ _ hD) ?_
  rintro _ w1 ⟨rfl, g1⟩
  have G0 := G0.trans g1
  refine rw_v (op_pure rfl) ?_
  first | refine rw_end ?_ | (refine rw_nil ?_; show CW _ _ _ _ _ _) | refine rw_nil ?_
  repeat refine cw_seq ?_
  refine cw_region ?_
  refine rw_v (op_pure rfl) ?_
  refine rw_v (op_b (b := false) rfl (by rw [hcode]; rfl)) ?_
  first | refine rw_end ?_ | (refine rw_nil ?_; show CW _ _ _ _ _ _) | refine rw_nil ?_
  repeat refine cw_seq ?_
  refine cw_false rfl ?_
  refine cw_skip ?_
  try show CW _ _ _ _ _ _
  repeat refine cw_seq ?_
  refine cw_cutT (M := fun e w => SL e [(0, .pointer (some ⟨p, 0, none⟩)), (1, .int .i64 f), (2, .slice A bs.length c), (26, .bool false)] ∧ Gr W w) ?_ ?_
  · cases hb : s.burns
    · repeat refine cw_seq ?_
      refine cw_region ?_
      refine rw_v (op_pure rfl) ?_
      refine rw_call rfl (dburns_E F p s l0 l1 ws s0 s1 _ (hD.gr G0)) ?_
      rintro _ w2 ⟨rfl, g2⟩
      have G0 := G0.trans g2
      rw [hb]
      refine rw_v (op_pure rfl) ?_
      refine rw_v (op_pure rfl) ?_
      first | refine rw_off rfl ?_ | (refine rw_on rfl ?_; refine rw_v (op_pure rfl) ?_)
      first | refine rw_off rfl ?_ | (refine rw_on rfl ?_; refine rw_v (op_len Try.underlying29 rfl) ?_)
      first | refine rw_off rfl ?_ | (refine rw_on rfl ?_; refine rw_v (op_pure rfl) ?_)
      refine rw_on rfl ?_
      refine rw_call rfl (dleft_E F p s _ (hD0.gr G0) hk hbig hroom) ?_
      rintro _ w3 ⟨rfl, g3⟩
      have G0 := G0.trans g3
      first | refine rw_off rfl ?_ | (refine rw_on rfl ?_; refine rw_v (op_b (b := false) rfl (decide_eq_false (by have := hle hb; omega))) ?_)
      refine rw_v (op_pure rfl) ?_
      first | refine rw_end ?_ | (refine rw_nil ?_; show CW _ _ _ _ _ _) | refine rw_nil ?_
      exact ⟨⟨rfl, rfl, rfl, rfl, trivial⟩, G0⟩
    · repeat refine cw_seq ?_
      refine cw_region ?_
      refine rw_v (op_pure rfl) ?_
      refine rw_call rfl (dburns_E F p s l0 l1 ws s0 s1 _ (hD.gr G0)) ?_
      rintro _ w2 ⟨rfl, g2⟩
      have G0 := G0.trans g2
      rw [hb]
      refine rw_v (op_pure rfl) ?_
      refine rw_v (op_pure rfl) ?_
      first | refine rw_off rfl ?_ | (refine rw_on rfl ?_; refine rw_v (op_pure rfl) ?_)
      first | refine rw_off rfl ?_ | (refine rw_on rfl ?_; refine rw_v (op_len Try.underlying29 rfl) ?_)
      first | refine rw_off rfl ?_ | (refine rw_on rfl ?_; refine rw_v (op_pure rfl) ?_)
      refine rw_off rfl ?_
      first | refine rw_off rfl ?_ | (refine rw_on rfl ?_; (first | refine rw_v (op_b (b := true) rfl (decide_eq_true (by omega))) ?_ | refine rw_v (op_b (b := false) rfl (decide_eq_false (by omega))) ?_ | refine rw_v (op_pure rfl) ?_))
      refine rw_v (op_pure rfl) ?_
      first | refine rw_end ?_ | (refine rw_nil ?_; show CW _ _ _ _ _ _) | refine rw_nil ?_
      exact ⟨⟨rfl, rfl, rfl, rfl, trivial⟩, G0⟩
  rintro e1 w1 ⟨hsl, G0⟩
  rw [hsl.fold]
  have hub0 := G0.le
  repeat refine cw_seq ?_
  refine cw_false rfl ?_
  refine cw_skip ?_
  try show CW _ _ _ _ _ _
  repeat refine cw_seq ?_
  refine cw_region ?_
  refine rw_v (op_pure rfl) ?_
  refine rw_v (op_len Try.underlying29 rfl) ?_
  try have qb1_ := G0.le
  refine rw_new (op_make1 Try.underlying81 info_unit rfl rfl rfl (n := bs.length) (c := bs.length) (by omega) (by omega) (by omega) (by omega)) ?_
  intro w1_ g1_ s1_ b1_
  have G0 := G0.trans g1_
  refine rw_v (op_pure rfl) ?_
  first | refine rw_end ?_ | (refine rw_nil ?_; show CW _ _ _ _ _ _) | refine rw_nil ?_
  repeat refine cw_seq ?_
  refine cw_region ?_
  refine rw_v (op_pure rfl) ?_
  refine rw_v (op_len Try.underlying29 rfl) ?_
  refine rw_v (op_pure rfl) ?_
  first | refine rw_end ?_ | (refine rw_nil ?_; show CW _ _ _ _ _ _) | refine rw_nil ?_
  have hub := G0.le
  have hwl1 := hF
  repeat refine cw_seq ?_
  refine cw_cutT (M := fun e w => SL e [(0, .pointer (some ⟨p, 0, none⟩)), (8, .slice (some ⟨w1.heap.size, 0, none⟩) bs.length bs.length)] ∧ Blk w w1.heap.size 98 ((addsOf f bs).map DU.val) ∧ Gr W w) ?_ ?_
  · repeat refine cw_seq ?_
    refine cw_block ?_
    refine cw_loop (fun m e w => ∃ k : Nat, k + m = bs.length ∧ SL e [(0, .pointer (some ⟨p, 0, none⟩)), (1, .int .i64 f), (8, .slice (some ⟨w1.heap.size, 0, none⟩) bs.length bs.length), (30, .slice A bs.length c), (31, .int .i64 bs.length), (32, .int .i64 k)] ∧ (∃ l, Blk w w1.heap.size 98 l ∧ l.length = bs.length ∧ l.take k = ((addsOf f bs).map DU.val).take k) ∧ Gr W w) bs.length
      ⟨0, by omega, ⟨rfl, rfl, rfl, rfl, rfl, rfl, trivial⟩, ⟨_, b1_, by simp, by simp⟩, G0⟩ ?_
    rintro m e w ⟨k, hkm, hsl, ⟨l, hL, hll, hlt⟩, G2⟩
    rw [hsl.fold]
    repeat refine cw_seq ?_
    refine cw_region ?_
    refine rw_v (op_pure rfl) ?_
    first | refine rw_end ?_ | (refine rw_nil ?_; show CW _ _ _ _ _ _) | refine rw_nil ?_
    repeat refine cw_seq ?_
    refine cw_cond rfl (fun hk' => ?_) (fun hk' => ?_)
    · refine cw_skip ?_
      try show CW _ _ _ _ _ _
      have hk' : k < bs.length := by simpa using hk'
      obtain ⟨b, hb⟩ : ∃ b, bs[k]? = some b := ⟨bs[k], List.getElem?_eq_getElem hk'⟩
      rcases hR.gr G2 with hn | ⟨bb, o, rfl, hb2, hcell⟩
      · have h0 : bs.length = 0 := by have := congrArg List.length hn; rwa [c8_length] at this
        omega
      have hcb : w.cell? ⟨bb, o + k, none⟩ = some (.int .u8 b) := hcell k _ (by simp [c8, hb])
      repeat refine cw_seq ?_
      refine cw_block ?_
      repeat refine cw_seq ?_
      refine cw_region ?_
      refine rw_v (op_pure rfl) ?_
      refine rw_v (op_indexAddrS Try.underlying29 Try.sizeOf5 rfl rfl (by omega) (by omega) (o' := o + k) (by simp)) ?_
      refine rw_r (op_load Try.underlying5 rfl rfl hcb) ?_
      refine rw_v (op_pure rfl) ?_
      refine rw_v (op_pure rfl) ?_
      first | refine rw_end ?_ | (refine rw_nil ?_; show CW _ _ _ _ _ _) | refine rw_nil ?_
      repeat refine cw_seq ?_
      refine cw_region ?_
      refine rw_v (op_pure rfl) ?_
      refine rw_v (op_pure rfl) ?_
      refine rw_v (op_pure rfl) ?_
      refine rw_v (op_pure rfl) ?_
      refine rw_v (op_build (pl := [(0, 1), (1, 1)]) Try.underlying96 Try.zeroValue96 (fun w => by kernel_rfl) rfl rfl) ?_
      refine rw_v (op_iface Try.underlying96 rfl rfl) ?_
      refine rw_v (op_indexAddrS Try.underlying81 Try.sizeOf98 rfl rfl (by omega) (by omega) (o' := 0 + k) (by simp)) ?_
      refine rw_store (Try.sizeOf98 _) rfl rfl rfl rfl hL (u := l[k]'(by omega)) (by rw [Nat.zero_add]; exact List.getElem?_eq_getElem _) ?_
      intro w6 g6 s6 b6
      first | refine rw_end ?_ | (refine rw_nil ?_; show CW _ _ _ _ _ _) | refine rw_nil ?_
      have G3 := G2.store g6 (by omega)
      repeat refine cw_seq ?_
      refine cw_region ?_
      refine rw_v (op_rng rfl (by omega)) ?_
      refine rw_v (op_pure rfl) ?_
      first | refine rw_end ?_ | (refine rw_nil ?_; show CW _ _ _ _ _ _) | refine rw_nil ?_
      rw [Nat.zero_add] at b6
      refine ⟨m - 1, by omega, k + 1, by omega, ⟨rfl, rfl, rfl, rfl, rfl, ie (by omega), trivial⟩, ⟨_, b6, by simpa using hll, ?_⟩, G3⟩
      rw [take_set_next (by omega), hlt, List.take_add_one]
      congr 1
      simp [addsOf, hb, DU.val]
    · refine cw_exit ?_
      have hk2 : k = bs.length := by
        have : ¬ k < bs.length := by simpa using hk'
        omega
      subst hk2
      rw [List.take_of_length_le (by omega), List.take_of_length_le (by simp [addsOf])] at hlt
      rw [hlt] at hL
      exact ⟨⟨rfl, rfl, trivial⟩, hL, G2⟩
  rintro e2 w2 ⟨hsl, hU, G2⟩
  rw [hsl.fold]
  have hlen : (addsOf f bs).length = bs.length := addsOf_length f bs
  have hRd : Rd w2 (some ⟨w1.heap.size, 0, none⟩) ((addsOf f bs).map DU.val) := .inr ⟨_, 0, rfl, hU.lt, fun j v hj => by rw [Nat.zero_add]; exact hU.cellv hj⟩
  have hcall := ddeedS_E F p s (some ⟨w1.heap.size, 0, none⟩) bs.length (addsOf f bs) hfu (oks_adds f hf bs hbs _) hsm (by omega) w2 (hD0.gr G2) hRd (by intro a ha hFa; cases ha; have h9 : w1.heap.size < W.heap.size := hF _ hFa; omega) (by intro h; cases h)
  rw [hlen] at hcall
  repeat refine cw_seq ?_
  refine cw_region ?_
  refine rw_v (op_pure rfl) ?_
  refine rw_v (op_pure rfl) ?_
  refine rw_call rfl (hcall) ?_
  rintro _ w3 ⟨rfl, h3⟩
  refine rw_v (op_pure rfl) ?_
  first | refine rw_end ?_ | (refine rw_nil ?_; show CW _ _ _ _ _ _) | refine rw_nil ?_
  refine cw_ret ?_
  repeat first | refine ret_then ?_ | refine ret_inb ?_
  exact res1 rfl ⟨rfl, (DiskP.of_gr hD0 G2).trans ⟨h3.1.weak (fun g hg => hg.imp .inl id), h3.2.weak (fun _ => .inl)⟩⟩
theorem dappFull_E (F : Nat → Prop) (p : Nat) (s : DS) (f : Nat) (hf : f = 0 ∨ f = 1) (A : Option Addr) (c n : Nat) (hk : s.dark = false) (hb : s.burns = false) (hbig : bigB s.seen) (hroom : 0 ≤ s.room ∧ s.room ≤ 1048576) (hle : s.left < (n : Int)) (W : World) (hD : DiskIs W F p s) :
    Fn Try.prog 20 [.pointer (some ⟨p, 0, none⟩), .int .i64 f, .slice A n c] W (RetG (.int .i64 16) W) := by
  have G0 := Gr.refl W
  have hD0 := hD
  obtain ⟨l0, l1, ws, s0, s1, hD⟩ := hD
  have hcode : s.code f = 0 := by rcases hf with rfl | rfl <;> simp [DS.code, hk]
  refine Fn_enter Try.func20 rfl Try.results20 Try.ntmps20 (by kernel_rfl) (by kernel_rfl) ?_
  repeat refine cw_seq ?_
  refine cw_region ?_
  refine rw_v (op_pure rfl) ?_
  first | refine rw_end ?_ | (refine rw_nil ?_; show CW _ _ _ _ _ _) | refine rw_nil ?_
  repeat refine cw_seq ?_
  refine cw_region ?_
  refine rw_v (op_pure rfl) ?_
  refine rw_v (op_pure rfl) ?_
  refine rw_call rfl (dcheck_E F p s l0 l1 ws s0 s1 _ _ hD) ?_
  rintro _ w1 ⟨rfl, g1⟩
  have G0 := G0.trans g1
  refine rw_v (op_pure rfl) ?_
  first | refine rw_end ?_ | (refine rw_nil ?_; show CW _ _ _ _ _ _) | refine rw_nil ?_
  repeat refine cw_seq ?_
  refine cw_region ?_
  refine rw_v (op_pure rfl) ?_
  refine rw_v (op_b (b := false) rfl (by rw [hcode]; rfl)) ?_
  first | refine rw_end ?_ | (refine rw_nil ?_; show CW _ _ _ _ _ _) | refine rw_nil ?_
  repeat refine cw_seq ?_
  refine cw_false rfl ?_
  refine cw_skip ?_
  try show CW _ _ _ _ _ _
  repeat refine cw_seq ?_
  refine cw_region ?_
  refine rw_v (op_pure rfl) ?_
  refine rw_call rfl (dburns_E F p s l0 l1 ws s0 s1 _ (hD.gr G0)) ?_
  rintro _ w2 ⟨rfl, g2⟩
  have G0 := G0.trans g2
  rw [hb]
  refine rw_v (op_pure rfl) ?_
  refine rw_v (op_pure rfl) ?_
  first | refine rw_off rfl ?_ | (refine rw_on rfl ?_; refine rw_v (op_pure rfl) ?_)
  first | refine rw_off rfl ?_ | (refine rw_on rfl ?_; refine rw_v (op_len Try.underlying29 rfl) ?_)
  first | refine rw_off rfl ?_ | (refine rw_on rfl ?_; refine rw_v (op_pure rfl) ?_)
  refine rw_on rfl ?_
  refine rw_call rfl (dleft_E F p s _ (hD0.gr G0) hk hbig hroom) ?_
  rintro _ w3 ⟨rfl, g3⟩
  have G0 := G0.trans g3
  first | refine rw_off rfl ?_ | (refine rw_on rfl ?_; refine rw_v (op_b (b := true) rfl (decide_eq_true (by omega))) ?_)
  refine rw_v (op_pure rfl) ?_
  first | refine rw_end ?_ | (refine rw_nil ?_; show CW _ _ _ _ _ _) | refine rw_nil ?_
  repeat refine cw_seq ?_
  refine cw_true rfl ?_
  repeat refine cw_seq ?_
  refine cw_region ?_
  refine rw_v (op_pure rfl) ?_
  first | refine rw_end ?_ | (refine rw_nil ?_; show CW _ _ _ _ _ _) | refine rw_nil ?_
  exact cw_ret (res1 rfl ⟨rfl, G0⟩)
end Go.Proofs.Ytkpokpaehlhhaaa
