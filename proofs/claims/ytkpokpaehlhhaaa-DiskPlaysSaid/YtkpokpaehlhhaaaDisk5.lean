/- The disk's laws: their first halves. -/
import Derived.Test.YtkpokpaehlhhaaaDisk4
import Derived.Lib.SlBytesConst
namespace Go.Proofs.Ytkpokpaehlhhaaa
open Go.RowKit
set_option linter.unusedVariables false
set_option linter.unusedSimpArgs false
set_option maxRecDepth 100000

section
variable {P : Program} {ops : Array Oper} {Q : (Nat → Value) → World → Prop} {e : Nat → Value} {w : World} {rest : List Oper}
variable {d : Option Tmp} {ty ty' : TypeId} {ps ps' : String} {af af' : Array Edge}
/-- the bytes of a constant string -/
theorem rw_lit8 {d1 d2 : Tmp} {t el : TypeId} {n : Nat} {parts : Array (Nat × Operand)} {l : List Value} (ht : P.underlying t = some (.slice el)) (he : P.underlying el = some (.int .u8))
    (h : (execOp (ev e) ⟨some d1, .buildSlice t n parts, ty, ps, af, none⟩).run P w = .ok (.value (.slice (some ⟨w.heap.size, 0, none⟩) n n)) (w.alloc (.cells l.toArray el)))
    (hr : ∀ w', Gr w w' → Rd w' (some ⟨w.heap.size, 0, none⟩) l → RW P ops Q rest (upd (upd e d1 (.slice (some ⟨w.heap.size, 0, none⟩) n n)) d2 (.slice (some ⟨w.heap.size, 0, none⟩) n n)) w') :
    RW P ops Q (⟨some d1, .buildSlice t n parts, ty, ps, af, none⟩ :: ⟨some d2, .convert t t (.tmp d1), ty', ps', af', none⟩ :: rest) e w := by
  refine rw_w h ?_
  have hc := Lib.run_convert_bytes_const (P := P) w t el l.toArray n n ht he
  refine rw_w (v := .slice (some ⟨w.heap.size, 0, none⟩) n n) (w' := w.alloc (.cells l.toArray el (l.toArray.size, l.toArray.size + 1))) ?_ (hr _ (Gr.alloc _ _) ?_)
  · have e1 : ev (updO e (some d1) (.slice (some ⟨w.heap.size, 0, none⟩) n n)) (.tmp d1) = .slice (some ⟨w.heap.size, 0, none⟩) n n := by
      show upd e d1 _ d1 = _
      rw [upd_eq, if_pos rfl]
    simp [execOp, e1, hc]
  · refine .inr ⟨_, 0, rfl, by simp, fun j v hj => ?_⟩
    rw [Nat.zero_add]
    have hh := heap_alloc_new w (.cells l.toArray el (l.toArray.size, l.toArray.size + 1))
    simp only [World.cell?, hh]
    simpa using hj
end
theorem gr_fr {W w w' : World} {F : Nat → Prop} (h : Gr W w) (k : Fr F w w') (hF : ∀ g, F g → W.heap.size ≤ g) : Gr W w' :=
  Fr.gr (F := fun g => W.heap.size ≤ g) ((Fr.of_gr h).trans k (fun g hg => .inl (hF g hg))) (fun g hg => hg)
theorem DiskIs.bound {w : World} {F : Nat → Prop} {p : Nat} {s : DS} (h : DiskIs w F p s) : DiskIs w (fun g => F g ∧ g < w.heap.size) p s := by
  obtain ⟨l0, l1, ws, s0, s1, h⟩ := h
  exact ⟨l0, l1, ws, s0, s1, { h with fp := ⟨h.fp, h.blk.lt⟩, fl := fun g hg => ⟨h.fl g hg, h.last.lt hg⟩, fs := fun g hg => ⟨h.fs g hg, h.seen.lt hg⟩, fw := fun g hg => ⟨h.fw g hg, h.waits.lt hg⟩ }⟩
/-- a disk of the call's own -/
def DOK (W w : World) (p : Nat) (s : DS) : Prop := ∃ F, DiskIs w F p s ∧ (∀ g, F g → W.heap.size ≤ g ∧ g < w.heap.size) ∧ Gr W w
theorem DOK.step {W w w' : World} {p : Nat} {s' : DS} {F : Nat → Prop} (hF : ∀ g, F g → W.heap.size ≤ g ∧ g < w.heap.size) (hG : Gr W w) (h : DiskP w F p s' w') : DOK W w' p s' :=
  ⟨_, h.1.bound, fun g hg => ⟨hg.1.elim (fun e => (hF g e).1) (fun e => Nat.le_trans hG.le e), hg.2⟩, gr_fr hG h.2 (fun g hg => (hF g hg).1)⟩
theorem DOK.gr {W w w' : World} {p : Nat} {s : DS} (h : DOK W w p s) (k : Gr w w') : DOK W w' p s := by
  obtain ⟨F, h1, h2, h3⟩ := h
  exact ⟨F, h1.gr k, fun g hg => ⟨(h2 g hg).1, Nat.lt_of_lt_of_le (h2 g hg).2 k.le⟩, h3.trans k⟩
theorem runs_adds0 (bs : List Int) (x y : List Int) : runs (addsOf 0 bs) (x, y) = (x ++ bs, y) := by
  induction bs generalizing x with
  | nil => simp [addsOf, runs]
  | cons b bs ih =>
    have := ih (x ++ [b])
    simp only [addsOf, List.map_cons, runs, DU.on] at this ⊢
    rw [this]; simp

def aw1 : DS := ((newDS 10).deed (addsOf 0 [97, 98])).2
def aw2 : DS := aw1.ticked.settled aw1.waits.length
def aw3 : DS := (aw2.deed (addsOf 0 [99, 100])).2
def aw4 : DS := { aw3.settled (min (max 1 0) (aw3.waits.length : Int)).toNat with fused := false, fuse := 0, dark := false }

theorem awake39_E (W : World) : Fn Try.prog 8 [] W (RetG (.bool true) W) := by
  have G0 := Gr.refl W
  refine Fn_enter Try.func8 rfl Try.results8 Try.ntmps8 (by kernel_rfl) (by kernel_rfl) ?_
  repeat refine cw_seq ?_
  refine cw_region ?_
  refine rw_v (op_pure rfl) ?_
  first | refine rw_end ?_ | (refine rw_nil ?_; show CW _ _ _ _ _ _) | refine rw_nil ?_
  repeat refine cw_seq ?_
  refine cw_region ?_
  refine rw_call rfl (dnew_E 10 _ (by omega)) ?_
  rintro _ w1 ⟨p, rfl, hD, g1⟩
  have G0 := G0.trans g1
  refine rw_v (op_pure rfl) ?_
  refine rw_v (op_pure rfl) ?_
  refine rw_v (op_pure rfl) ?_
  refine rw_v (op_pure rfl) ?_
  refine rw_v (op_pure rfl) ?_
  first | refine rw_end ?_ | (refine rw_nil ?_; show CW _ _ _ _ _ _) | refine rw_nil ?_
  have hD : DOK W w1 p (newDS 10) := ⟨_, hD.bound, by intro g hg; exact hg, G0⟩
  repeat refine cw_seq ?_
  refine cw_region ?_
  refine rw_v (op_pure rfl) ?_
  refine rw_lit8 Try.underlying29 Try.underlying5 (op_buildSlice Try.underlying29 Try.sizeOf5 Try.zeroValue5 rfl rfl rfl rfl rfl) ?_
  intro w2 g2 hR2
  have hD := hD.gr g2
  obtain ⟨F, hD, hF, G2⟩ := hD
  have hcall := dapp_E F p (newDS 10) 0 (.inl rfl) (some ⟨w1.heap.size, 0, none⟩) 2 [97, 98] (by intro b hb; simp at hb; unfold byteB; omega) (by simp) rfl (by constructor <;> decide) (by decide) (by decide) (by decide) (by constructor <;> decide) (by decide) w2 hD hR2 (by intro g hg; exact (hF g hg).2)
  rw [show ((newDS 10).deed (addsOf 0 [97, 98])).1 = 0 from rfl] at hcall
  skip
  refine rw_call rfl (hcall) ?_
  rintro _ w3 ⟨rfl, hP⟩
  refine rw_v (op_pure rfl) ?_
  first | refine rw_end ?_ | (refine rw_nil ?_; show CW _ _ _ _ _ _) | refine rw_nil ?_
  have hD : DOK W w3 p aw1 := DOK.step hF G2 hP
  obtain ⟨F, hD, hF, G2⟩ := hD
  have hcall := dsync_E F p aw1 w3 hD rfl rfl (by decide) (by constructor <;> decide) ⟨⟨.inl rfl, by constructor <;> decide⟩, ⟨.inl rfl, by constructor <;> decide⟩, trivial⟩ (by constructor <;> decide) (by decide)
  repeat refine cw_seq ?_
  refine cw_region ?_
  refine rw_v (op_pure rfl) ?_
  refine rw_call rfl (hcall) ?_
  rintro _ w4 ⟨rfl, hP⟩
  refine rw_v (op_pure rfl) ?_
  first | refine rw_end ?_ | (refine rw_nil ?_; show CW _ _ _ _ _ _) | refine rw_nil ?_
  have hD : DOK W w4 p aw2 := DOK.step hF G2 hP
  repeat refine cw_seq ?_
  refine cw_region ?_
  refine rw_v (op_pure rfl) ?_
  refine rw_lit8 Try.underlying29 Try.underlying5 (op_buildSlice Try.underlying29 Try.sizeOf5 Try.zeroValue5 rfl rfl rfl rfl rfl) ?_
  intro w5 g5 hR2
  have hD := hD.gr g5
  obtain ⟨F, hD, hF, G2⟩ := hD
  have hcall := dapp_E F p aw2 0 (.inl rfl) (some ⟨w4.heap.size, 0, none⟩) 2 [99, 100] (by intro b hb; simp at hb; unfold byteB; omega) (by simp) rfl (by constructor <;> decide) (by decide) (by decide) (by decide) (by constructor <;> decide) (by decide) w5 hD hR2 (by intro g hg; exact (hF g hg).2)
  rw [show (aw2.deed (addsOf 0 [99, 100])).1 = 0 from rfl] at hcall
  skip
  refine rw_call rfl (hcall) ?_
  rintro _ w6 ⟨rfl, hP⟩
  refine rw_v (op_pure rfl) ?_
  first | refine rw_end ?_ | (refine rw_nil ?_; show CW _ _ _ _ _ _) | refine rw_nil ?_
  have hD : DOK W w6 p aw3 := DOK.step hF G2 hP
  obtain ⟨F, hD, hF, G2⟩ := hD
  have hcall := dcrash_E F p aw3 1 ⟨⟨.inl rfl, by constructor <;> decide⟩, ⟨.inl rfl, by constructor <;> decide⟩, trivial⟩ (by constructor <;> decide) w6 hD
  repeat refine cw_seq ?_
  refine cw_region ?_
  refine rw_v (op_pure rfl) ?_
  refine rw_call rfl (hcall) ?_
  rintro _ w7 ⟨rfl, hP⟩
  refine rw_v (op_pure rfl) ?_
  first | refine rw_end ?_ | (refine rw_nil ?_; show CW _ _ _ _ _ _) | refine rw_nil ?_
  have hD : DOK W w7 p aw4 := DOK.step hF G2 hP
  obtain ⟨F, hD, hF, G2⟩ := hD
  have hcall := dread_E F p aw4 0 (.inl rfl) (by constructor <;> decide) w7 hD rfl
  repeat refine cw_seq ?_
  refine cw_region ?_
  refine rw_v (op_pure rfl) ?_
  refine rw_call rfl (hcall) ?_
  rintro _ w8 ⟨v, rfl, hR, g8, _⟩
  obtain ⟨A, c, rfl⟩ := hR.slice
  refine rw_v (op_pure rfl) ?_
  refine rw_v (op_pure rfl) ?_
  refine rw_v (op_pure rfl) ?_
  refine rw_v (op_pure rfl) ?_
  refine rw_v (op_pure rfl) ?_
  first | refine rw_end ?_ | (refine rw_nil ?_; show CW _ _ _ _ _ _) | refine rw_nil ?_
  have hR : Rd w8 A (c8 [97, 98, 99]) := hR.rd
  repeat refine cw_seq ?_
  refine cw_region ?_
  refine rw_v (op_pure rfl) ?_
  first | refine rw_v (op_b (b := true) rfl (beq_iff_eq.2 (by omega))) ?_ | refine rw_v (op_b (b := false) rfl (beq_eq_false_iff_ne.2 (by omega))) ?_ | refine rw_v (op_pure rfl) ?_
  refine rw_v (op_pure rfl) ?_
  first | refine rw_off rfl ?_ | (refine rw_on rfl ?_; refine rw_v (op_pure rfl) ?_)
  first | refine rw_off rfl ?_ | (refine rw_on rfl ?_; (first | refine rw_v (op_b (b := true) rfl (beq_iff_eq.2 (by omega))) ?_ | refine rw_v (op_b (b := false) rfl (beq_eq_false_iff_ne.2 (by omega))) ?_ | refine rw_v (op_pure rfl) ?_))
  refine rw_v (op_pure rfl) ?_
  refine rw_v (op_pure rfl) ?_
  first | refine rw_off rfl ?_ | (refine rw_on rfl ?_; refine rw_v (op_pure rfl) ?_)
  first | refine rw_off rfl ?_ | (refine rw_on rfl ?_; (first | refine rw_v (op_b (b := true) rfl (beq_iff_eq.2 (by omega))) ?_ | refine rw_v (op_b (b := false) rfl (beq_eq_false_iff_ne.2 (by omega))) ?_ | refine rw_v (op_pure rfl) ?_))
  refine rw_v (op_pure rfl) ?_
  refine rw_v (op_pure rfl) ?_
  first | refine rw_off rfl ?_ | (refine rw_on rfl ?_; refine rw_v (op_pure rfl) ?_)
  first | refine rw_off rfl ?_ | (refine rw_on rfl ?_; (first | refine rw_v (op_b (b := true) rfl (beq_iff_eq.2 (by omega))) ?_ | refine rw_v (op_b (b := false) rfl (beq_eq_false_iff_ne.2 (by omega))) ?_ | refine rw_v (op_pure rfl) ?_))
  refine rw_v (op_pure rfl) ?_
  refine rw_v (op_pure rfl) ?_
  first | refine rw_off rfl ?_ | (refine rw_on rfl ?_; refine rw_v (op_pure rfl) ?_)
  first | refine rw_off rfl ?_ | (refine rw_on rfl ?_; (first | refine rw_v (op_b (b := true) rfl (beq_iff_eq.2 (by omega))) ?_ | refine rw_v (op_b (b := false) rfl (beq_eq_false_iff_ne.2 (by omega))) ?_ | refine rw_v (op_pure rfl) ?_))
  refine rw_v (op_pure rfl) ?_
  refine rw_v (op_pure rfl) ?_
  first | refine rw_off rfl ?_ | (refine rw_on rfl ?_; refine rw_v (op_pure rfl) ?_)
  first | refine rw_off rfl ?_ | (refine rw_on rfl ?_; (first | refine rw_v (op_b (b := true) rfl (beq_iff_eq.2 (by omega))) ?_ | refine rw_v (op_b (b := false) rfl (beq_eq_false_iff_ne.2 (by omega))) ?_ | refine rw_v (op_pure rfl) ?_))
  refine rw_v (op_pure rfl) ?_
  refine rw_v (op_pure rfl) ?_
  first | refine rw_off rfl ?_ | (refine rw_on rfl ?_; refine rw_v (op_pure rfl) ?_)
  refine rw_on rfl ?_
  refine rw_r (op_str (bs := [97, 98, 99]) Try.underlying29 Try.underlying5 Try.underlying9 rfl hR) ?_
  refine rw_on rfl ?_
  refine rw_v (op_b (b := true) rfl (by rw [strOf_toList]; kernel_rfl)) ?_
  refine rw_v (op_pure rfl) ?_
  refine rw_v (op_pure rfl) ?_
  first | refine rw_end ?_ | (refine rw_nil ?_; show CW _ _ _ _ _ _) | refine rw_nil ?_
  exact cw_ret (res1 rfl ⟨rfl, G2.trans g8⟩)
end Go.Proofs.Ytkpokpaehlhhaaa
