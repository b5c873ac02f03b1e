/- What was synced lasts: the walk. -/
import Derived.Test.YtkpokpaehlhhaaaDiskA
namespace Go.Proofs.Ytkpokpaehlhhaaa
open Go.RowKit
set_option linter.unusedVariables false
set_option linter.unusedSimpArgs false
set_option maxRecDepth 100000

/-- a disk of the call's own, apart from the blocks of X -/
def DOX (X : Nat → Prop) (W w : World) (p : Nat) (s : DS) : Prop := ∃ F, DiskIs w F p s ∧ (∀ g, F g → W.heap.size ≤ g ∧ g < w.heap.size ∧ ¬ X g) ∧ Gr W w ∧ ∀ g, X g → g < w.heap.size
theorem DOX.step {X : Nat → Prop} {W w w' : World} {p : Nat} {s' : DS} {F : Nat → Prop} (hF : ∀ g, F g → W.heap.size ≤ g ∧ g < w.heap.size ∧ ¬ X g) (hG : Gr W w) (hX : ∀ g, X g → g < w.heap.size) (h : DiskP w F p s' w') : DOX X W w' p s' :=
  ⟨_, h.1.bound, fun g hg => ⟨hg.1.elim (fun e => (hF g e).1) (fun e => Nat.le_trans hG.le e), hg.2, fun hx => hg.1.elim (fun e => (hF g e).2.2 hx) (fun e => by have := hX g hx; omega)⟩, gr_fr hG h.2 (fun g hg => (hF g hg).1), fun g hx => Nat.lt_of_lt_of_le (hX g hx) h.2.size⟩
theorem DOX.gr {X : Nat → Prop} {W w w' : World} {p : Nat} {s : DS} (h : DOX X W w p s) (k : Gr w w') : DOX X W w' p s := by
  obtain ⟨F, h1, h2, h3, h4⟩ := h
  exact ⟨F, h1.gr k, fun g hg => ⟨(h2 g hg).1, Nat.lt_of_lt_of_le (h2 g hg).2.1 k.le, (h2 g hg).2.2⟩, h3.trans k, fun g hx => Nat.lt_of_lt_of_le (h4 g hx) k.le⟩
/-- rows read since: apart from the disk -/
theorem DOX.more {X X' : Nat → Prop} {W w w' : World} {p : Nat} {s : DS} (h : DOX X W w p s) (k : Gr w w') (hX : ∀ g, X' g → X g ∨ w.heap.size ≤ g ∧ g < w'.heap.size) : DOX X' W w' p s := by
  obtain ⟨F, h1, h2, h3, h4⟩ := h
  refine ⟨F, h1.gr k, fun g hg => ⟨(h2 g hg).1, Nat.lt_of_lt_of_le (h2 g hg).2.1 k.le, fun hx => (hX g hx).elim (h2 g hg).2.2 (fun e => by have := (h2 g hg).2.1; omega)⟩, h3.trans k, fun g hx => (hX g hx).elim (fun e => Nat.lt_of_lt_of_le (h4 g e) k.le) (fun e => e.2)⟩
theorem row_stays {X F : Nat → Prop} {W w w' : World} {el : TypeId} {v : Value} {xs : List Value} (h : R1 w el v xs) (k : Fr F w w') (hv : ∀ g, v.ownBlock = some g → X g) (hF : ∀ g, F g → W.heap.size ≤ g ∧ g < w.heap.size ∧ ¬ X g) : R1 w' el v xs :=
  h.fr k fun g hg hf => (hF g hf).2.2 (hv g hg)
theorem newDS_inv (room : Int) (h : 0 ≤ room ∧ room ≤ 1048576) : Inv 0 (newDS room) := ⟨trivial, rfl, ⟨show (0 : Int) ≤ 0 by decide, show (0 : Int) ≤ 9223372036854775807 by decide⟩, h, by simp [newDS], by simp [newDS]⟩
theorem long_false {l : List ActD} (h : longB l = false) : l.length ≤ 60 ∧ ∀ a ∈ l, a.bs.length ≤ 100 := by
  unfold longB at h
  rw [Bool.or_eq_false_iff] at h
  refine ⟨by simpa using h.1, fun a ha => ?_⟩
  have := List.any_eq_false.1 h.2 a ha
  simpa using this

theorem diskLasts_E (room keep : Int) (A1 A2 : Option Addr) (c1 c2 : Nat) (l later : List ActD) (hl1 : l.length ≤ 9223372036854775807) (hl2 : later.length ≤ 9223372036854775807) (hkeep : keep ≤ 9223372036854775807) (W : World) (hA1 : Acts W A1 l) (hA2 : Acts W A2 later) :
    Fn Try.prog 4 [.int .i64 room, .slice A1 l.length c1, .slice A2 later.length c2, .int .i64 keep] W (RetG (.bool true) W) := by
  have G0 := Gr.refl W
  refine Fn_enter Try.func4 rfl Try.results4 Try.ntmps4 (by kernel_rfl) (by kernel_rfl) ?_
  repeat refine cw_seq ?_
  refine cw_region ?_
  refine rw_v (op_pure rfl) ?_
  first | refine rw_end ?_ | (refine rw_nil ?_; show CW _ _ _ _ _ _) | refine rw_nil ?_
  repeat refine cw_seq ?_
  refine cw_region ?_
  refine rw_call rfl (awake39_E _) ?_
  rintro _ w1 ⟨rfl, g1⟩
  have G0 := G0.trans g1
  refine rw_v (op_pure rfl) ?_
  first | refine rw_end ?_ | (refine rw_nil ?_; show CW _ _ _ _ _ _) | refine rw_nil ?_
  repeat refine cw_seq ?_
  refine cw_false rfl ?_
  refine cw_skip ?_
  try show CW _ _ _ _ _ _
  repeat refine cw_seq ?_
  refine cw_cutT (M := fun e w => SL e [(0, .int .i64 room), (1, .slice A1 l.length c1), (2, .slice A2 later.length c2), (3, .int .i64 keep), (28, .bool (longB l || longB later))] ∧ Gr W w) ?_ ?_
  · cases h1 : longB l
    · repeat refine cw_seq ?_
      refine cw_region ?_
      refine rw_v (op_pure rfl) ?_
      refine rw_call rfl (long_E A1 c1 l hl1 _ (hA1.gr G0)) ?_
      rintro _ w2 ⟨rfl, g2⟩
      have G0 := G0.trans g2
      rw [h1]
      refine rw_v (op_pure rfl) ?_
      first | refine rw_off rfl ?_ | (refine rw_on rfl ?_; refine rw_v (op_pure rfl) ?_)
      refine rw_on rfl ?_
      refine rw_call rfl (long_E A2 c2 later hl2 _ (hA2.gr G0)) ?_
      rintro _ w3 ⟨rfl, g3⟩
      have G0 := G0.trans g3
      refine rw_v (op_pure rfl) ?_
      first | refine rw_end ?_ | (refine rw_nil ?_; show CW _ _ _ _ _ _) | refine rw_nil ?_
      exact ⟨⟨rfl, rfl, rfl, rfl, by simp; rfl, trivial⟩, G0⟩
    · repeat refine cw_seq ?_
      refine cw_region ?_
      refine rw_v (op_pure rfl) ?_
      refine rw_call rfl (long_E A1 c1 l hl1 _ (hA1.gr G0)) ?_
      rintro _ w2 ⟨rfl, g2⟩
      have G0 := G0.trans g2
      rw [h1]
      refine rw_v (op_pure rfl) ?_
      first | refine rw_off rfl ?_ | (refine rw_on rfl ?_; refine rw_v (op_pure rfl) ?_)
      refine rw_off rfl ?_
      refine rw_v (op_pure rfl) ?_
      first | refine rw_end ?_ | (refine rw_nil ?_; show CW _ _ _ _ _ _) | refine rw_nil ?_
      exact ⟨⟨rfl, rfl, rfl, rfl, rfl, trivial⟩, G0⟩
  rintro e1 w1 ⟨hsl, G1⟩
  rw [hsl.fold]
  repeat refine cw_seq ?_
  refine cw_cond rfl (fun hlong => ?_) (fun hlong => ?_)
  · repeat refine cw_seq ?_
    refine cw_region ?_
    refine rw_v (op_pure rfl) ?_
    first | refine rw_end ?_ | (refine rw_nil ?_; show CW _ _ _ _ _ _) | refine rw_nil ?_
    refine cw_ret ?_
    repeat first | refine ret_then ?_ | refine ret_inb ?_
    exact res1 rfl ⟨rfl, G1⟩
  refine cw_skip ?_
  try show CW _ _ _ _ _ _
  rw [Bool.or_eq_false_iff] at hlong
  have hL1 := long_false hlong.1
  have hL2 := long_false hlong.2
  by_cases hroom : 0 ≤ room ∧ room ≤ 1048576
  · repeat refine cw_seq ?_
    refine cw_region ?_
    refine rw_v (op_pure rfl) ?_
    refine rw_call rfl (dnew_E room _ hroom) ?_
    rintro _ w2 ⟨p, rfl, hD0, g2⟩
    refine rw_v (op_pure rfl) ?_
    refine rw_v (op_pure rfl) ?_
    refine rw_v (op_pure rfl) ?_
    refine rw_v (op_pure rfl) ?_
    refine rw_v (op_pure rfl) ?_
    first | refine rw_end ?_ | (refine rw_nil ?_; show CW _ _ _ _ _ _) | refine rw_nil ?_
    have D0 : DOX (fun _ => False) W w2 p (newDS room) := ⟨_, hD0.bound, fun g hg => ⟨Nat.le_trans G1.le hg.1, hg.2, fun h => h⟩, G1.trans g2, fun g h => h.elim⟩
    repeat refine cw_seq ?_
    refine cw_region ?_
    refine rw_v (op_pure rfl) ?_
    first | refine rw_v (op_b (b := true) rfl (bne_iff_ne.2 (by omega))) ?_ | refine rw_v (op_b (b := false) rfl (bne_eq_false_iff_eq.2 (by omega))) ?_ | refine rw_v (op_pure rfl) ?_
    first | refine rw_end ?_ | (refine rw_nil ?_; show CW _ _ _ _ _ _) | refine rw_nil ?_
    repeat refine cw_seq ?_
    refine cw_false rfl ?_
    refine cw_skip ?_
    try show CW _ _ _ _ _ _
    repeat refine cw_seq ?_
    refine cw_region ?_
    refine rw_v (op_pure rfl) ?_
    first | refine rw_end ?_ | (refine rw_nil ?_; show CW _ _ _ _ _ _) | refine rw_nil ?_
    repeat refine cw_seq ?_
    refine cw_cutT (M := fun e w => SL e [(2, .slice A2 later.length c2), (3, .int .i64 keep), (9, .pointer (some ⟨p, 0, none⟩))] ∧ ∃ s, Inv 6060 s ∧ DOX (fun _ => False) W w p s) ?_ ?_
    · repeat refine cw_seq ?_
      refine cw_block ?_
      refine cw_loop (fun m e w => ∃ k : Nat, k + m = l.length ∧ SL e [(1, .slice A1 l.length c1), (2, .slice A2 later.length c2), (3, .int .i64 keep), (9, .pointer (some ⟨p, 0, none⟩)), (11, .int .i64 k)] ∧ ∃ s, Inv (101 * k) s ∧ DOX (fun _ => False) W w p s) l.length
        ⟨0, by omega, ⟨rfl, rfl, rfl, rfl, rfl, trivial⟩, _, (newDS_inv room hroom), D0⟩ ?_
      rintro m e w ⟨k, hkm, hsl, s, hi, hD⟩
      rw [hsl.fold]
      repeat refine cw_seq ?_
      refine cw_region ?_
      refine rw_v (op_pure rfl) ?_
      refine rw_v (op_pure rfl) ?_
      refine rw_v (op_len Try.underlying22 rfl) ?_
      refine rw_v (op_pure rfl) ?_
      first | refine rw_end ?_ | (refine rw_nil ?_; show CW _ _ _ _ _ _) | refine rw_nil ?_
      repeat refine cw_seq ?_
      refine cw_cond rfl (fun hc => ?_) (fun hc => ?_)
      · refine cw_skip ?_
        try show CW _ _ _ _ _ _
        have hc : k < l.length := by simpa using hc
        obtain ⟨a, ha⟩ : ∃ a, l[k]? = some a := ⟨l[k], List.getElem?_eq_getElem hc⟩
        have haok := hA1.1 a (List.mem_of_getElem? ha)
        have hal := hL1.2 a (List.mem_of_getElem? ha)
        obtain ⟨F, hDi, hF, hG, hX⟩ := hD
        obtain ⟨b, o, A', c', rfl, hcell, hrd⟩ := (hA1.gr hG).at_ ha
        repeat refine cw_seq ?_
        refine cw_block ?_
        repeat refine cw_seq ?_
        refine cw_region ?_
        refine rw_v (op_pure rfl) ?_
        refine rw_v (op_pure rfl) ?_
        refine rw_v (op_pure rfl) ?_
        refine rw_v (op_indexAddrS Try.underlying22 Try.sizeOf37 rfl rfl (by omega) (by omega) (o' := o + k * 4) (by simp)) ?_
        refine rw_r (op_loadA Try.underlying37 rfl (Try.sizeOf37 _) rfl (cs := a.cells A' c') rfl (fun j v hj => hcell j v hj)) ?_
        refine rw_call rfl (does_E F p s a A' c' (101 * k) haok hi (by omega) hal w hDi hrd (by intro g hg; exact (hF g hg).2.1)) ?_
        rintro _ w5 ⟨rfl, h5⟩
        first | refine rw_end ?_ | (refine rw_nil ?_; show CW _ _ _ _ _ _) | refine rw_nil ?_
        repeat refine cw_seq ?_
        refine cw_region ?_
        refine rw_v (op_pure rfl) ?_
        refine rw_v (op_rng rfl (by omega)) ?_
        refine rw_v (op_pure rfl) ?_
        first | refine rw_end ?_ | (refine rw_nil ?_; show CW _ _ _ _ _ _) | refine rw_nil ?_
        refine ⟨m - 1, by omega, k + 1, by omega, ⟨rfl, rfl, rfl, rfl, ie (by omega), trivial⟩, _, (does_inv hi haok).mono (by omega), DOX.step hF hG hX h5⟩
      · refine cw_exit ?_
        repeat first | refine exit_then ?_ | refine exit_inb ?_
        have hk : k = l.length := by
          have : ¬ k < l.length := by simpa using hc
          omega
        exact ⟨⟨rfl, rfl, rfl, trivial⟩, s, hi.mono (by omega), hD⟩
    rintro e3 w3 ⟨hsl, s, hi, hD⟩
    rw [hsl.fold]
    obtain ⟨F, hDi, hF, hG, hX⟩ := hD
    have hs1 := hi.s1
    have hl1 := hi.l1
    have hl2 := hi.l2
    cases hdk : s.dark
    · cases hbu : s.burns
      · repeat refine cw_seq ?_
        refine cw_region ?_
        refine rw_v (op_pure rfl) ?_
        refine rw_call rfl (dsync_E F p s w3 hDi hdk hbu hi.fuse (by constructor <;> omega) hi.oks (by constructor <;> omega) (by omega)) ?_
        rintro _ w4 ⟨rfl, h4⟩
        first | refine rw_v (op_b (b := true) rfl (bne_iff_ne.2 (by omega))) ?_ | refine rw_v (op_b (b := false) rfl (bne_eq_false_iff_eq.2 (by omega))) ?_ | refine rw_v (op_pure rfl) ?_
        first | refine rw_end ?_ | (refine rw_nil ?_; show CW _ _ _ _ _ _) | refine rw_nil ?_
        have hi4 : Inv 6060 (s.ticked.settled s.waits.length) := settled_inv (ticked_inv hi hbu) _
        have hsn4 : Since (s.ticked.settled s.waits.length).seen (s.ticked.settled s.waits.length) := ⟨rfl, fun u hu => by cases hu⟩
        have hdk4 : (s.ticked.settled s.waits.length).dark = false := hdk
        have D4 := DOX.step hF hG hX h4
        generalize s.ticked.settled s.waits.length = s4 at *
        repeat refine cw_seq ?_
        refine cw_false rfl ?_
        refine cw_skip ?_
        try show CW _ _ _ _ _ _
        obtain ⟨F4, hD4, hF4, hG4, hX4⟩ := D4
        have hs4 := hi4.s1
        have hcall := dread_E F4 p s4 0 (.inl rfl) ⟨by omega, by omega⟩ w4 hD4 hdk4
        repeat refine cw_seq ?_
        refine cw_region ?_
        refine rw_v (op_pure rfl) ?_
        refine rw_call rfl (hcall) ?_
        rintro _ w5 ⟨va, rfl, ra, g5, ha5⟩
        obtain ⟨Aa, ca, ea⟩ := ra.slice
        rw [if_pos rfl, c8_length] at ea
        subst ea
        refine rw_v (op_pure rfl) ?_
        refine rw_v (op_pure rfl) ?_
        refine rw_v (op_pure rfl) ?_
        refine rw_v (op_pure rfl) ?_
        refine rw_v (op_pure rfl) ?_
        first | refine rw_end ?_ | (refine rw_nil ?_; show CW _ _ _ _ _ _) | refine rw_nil ?_
        rw [if_pos rfl] at ra
        have ra : R1 w5 5 (.slice Aa s4.seen.1.length ca) (c8 s4.seen.1) := ra
        have D5 : DOX (fun g => (Value.slice Aa s4.seen.1.length ca).ownBlock = some g) W w5 p s4 := DOX.more (X := fun _ => False) ⟨F4, hD4, hF4, hG4, hX4⟩ g5 (fun g hg => .inr ⟨ha5 g hg, ra.lt hg⟩)
        obtain ⟨F5, hD5, hF5, hG5, hX5⟩ := D5
        have hcall := dread_E F5 p s4 1 (.inr rfl) ⟨by omega, by omega⟩ w5 hD5 hdk4
        repeat refine cw_seq ?_
        refine cw_region ?_
        refine rw_v (op_pure rfl) ?_
        refine rw_call rfl (hcall) ?_
        rintro _ w6 ⟨vb, rfl, rb, g6, hb6⟩
        obtain ⟨Ab, cb, eb⟩ := rb.slice
        rw [if_neg (by decide), c8_length] at eb
        subst eb
        refine rw_v (op_pure rfl) ?_
        refine rw_v (op_pure rfl) ?_
        refine rw_v (op_pure rfl) ?_
        refine rw_v (op_pure rfl) ?_
        refine rw_v (op_pure rfl) ?_
        first | refine rw_end ?_ | (refine rw_nil ?_; show CW _ _ _ _ _ _) | refine rw_nil ?_
        rw [if_neg (by decide)] at rb
        have rb : R1 w6 5 (.slice Ab s4.seen.2.length cb) (c8 s4.seen.2) := rb
        have ra := ra.gr g6
        have D6 : DOX (fun g => (Value.slice Aa s4.seen.1.length ca).ownBlock = some g ∨ (Value.slice Ab s4.seen.2.length cb).ownBlock = some g) W w6 p s4 := DOX.more (X := fun g => (Value.slice Aa s4.seen.1.length ca).ownBlock = some g) ⟨F5, hD5, hF5, hG5, hX5⟩ g6
          (fun g hg => hg.elim .inl (fun hg => .inr ⟨hb6 g hg, rb.lt hg⟩))
        repeat refine cw_seq ?_
        refine cw_region ?_
        refine rw_v (op_pure rfl) ?_
        first | refine rw_end ?_ | (refine rw_nil ?_; show CW _ _ _ _ _ _) | refine rw_nil ?_
        repeat refine cw_seq ?_
        refine cw_cutT (M := fun e w => SL e [(3, .int .i64 keep), (9, .pointer (some ⟨p, 0, none⟩)), (12, .slice Aa s4.seen.1.length ca), (14, .slice Ab s4.seen.2.length cb)] ∧ ∃ s, Inv 12120 s ∧ Since s4.seen s ∧ DOX (fun g => (Value.slice Aa s4.seen.1.length ca).ownBlock = some g ∨ (Value.slice Ab s4.seen.2.length cb).ownBlock = some g) W w p s ∧
          R1 w 5 (.slice Aa s4.seen.1.length ca) (c8 s4.seen.1) ∧ R1 w 5 (.slice Ab s4.seen.2.length cb) (c8 s4.seen.2)) ?_ ?_
        · repeat refine cw_seq ?_
          refine cw_block ?_
          refine cw_loop (fun m e w => ∃ k : Nat, k + m = later.length ∧ SL e [(2, .slice A2 later.length c2), (3, .int .i64 keep), (9, .pointer (some ⟨p, 0, none⟩)), (12, .slice Aa s4.seen.1.length ca), (14, .slice Ab s4.seen.2.length cb), (16, .int .i64 k)] ∧ ∃ s, Inv (6060 + 101 * k) s ∧ Since s4.seen s ∧ DOX (fun g => (Value.slice Aa s4.seen.1.length ca).ownBlock = some g ∨ (Value.slice Ab s4.seen.2.length cb).ownBlock = some g) W w p s ∧
            R1 w 5 (.slice Aa s4.seen.1.length ca) (c8 s4.seen.1) ∧ R1 w 5 (.slice Ab s4.seen.2.length cb) (c8 s4.seen.2)) later.length
            ⟨0, by omega, ⟨rfl, rfl, rfl, rfl, rfl, rfl, trivial⟩, s4, hi4, hsn4, D6, ra, rb⟩ ?_
          rintro m e w ⟨k, hkm, hsl, s, hi, hsn, hD, ra, rb⟩
          rw [hsl.fold]
          repeat refine cw_seq ?_
          refine cw_region ?_
          refine rw_v (op_pure rfl) ?_
          refine rw_v (op_pure rfl) ?_
          refine rw_v (op_len Try.underlying22 rfl) ?_
          refine rw_v (op_pure rfl) ?_
          first | refine rw_end ?_ | (refine rw_nil ?_; show CW _ _ _ _ _ _) | refine rw_nil ?_
          repeat refine cw_seq ?_
          refine cw_cond rfl (fun hc => ?_) (fun hc => ?_)
          · refine cw_skip ?_
            try show CW _ _ _ _ _ _
            have hc : k < later.length := by simpa using hc
            obtain ⟨a, ha⟩ : ∃ a, later[k]? = some a := ⟨later[k], List.getElem?_eq_getElem hc⟩
            have haok := hA2.1 a (List.mem_of_getElem? ha)
            have hal := hL2.2 a (List.mem_of_getElem? ha)
            have hD' := hD
            obtain ⟨F, hDi, hF, hG, hX⟩ := hD
            obtain ⟨b, o, A', c', rfl, hcell, hrd⟩ := (hA2.gr hG).at_ ha
            have hc0 : w.cell? ⟨b, o + k * 4 + 0, none⟩ = some (.int .u8 a.kind) := hcell 0 _ rfl
            have hkk := haok.kind
            by_cases hk0 : a.kind = 0
            · repeat refine cw_seq ?_
              refine cw_block ?_
              repeat refine cw_seq ?_
              refine cw_region ?_
              refine rw_v (op_pure rfl) ?_
              refine rw_v (op_pure rfl) ?_
              refine rw_v (op_indexAddrS Try.underlying22 Try.sizeOf37 rfl rfl (by omega) (by omega) (o' := o + k * 4) (by simp)) ?_
              refine rw_v (op_fieldAddr Try.underlying37 rfl Try.sizeOf5 rfl rfl) ?_
              refine rw_r (op_load Try.underlying5 rfl rfl hc0) ?_
              first | refine rw_v (op_b (b := true) rfl (beq_iff_eq.2 (by omega))) ?_ | refine rw_v (op_b (b := false) rfl (beq_eq_false_iff_ne.2 (by omega))) ?_ | refine rw_v (op_pure rfl) ?_
              refine rw_v (op_pure rfl) ?_
              first | refine rw_off rfl ?_ | (refine rw_on rfl ?_; refine rw_v (op_pure rfl) ?_)
              first | refine rw_off rfl ?_ | (refine rw_on rfl ?_; refine rw_v (op_pure rfl) ?_)
              first | refine rw_off rfl ?_ | (refine rw_on rfl ?_; refine rw_v (op_indexAddrS Try.underlying22 Try.sizeOf37 rfl rfl (by omega) (by omega) (o' := o + k * 4) (by simp)) ?_)
              first | refine rw_off rfl ?_ | (refine rw_on rfl ?_; refine rw_v (op_fieldAddr Try.underlying37 rfl Try.sizeOf5 rfl rfl) ?_)
              first | refine rw_off rfl ?_ | (refine rw_on rfl ?_; refine rw_r (op_load Try.underlying5 rfl rfl hc0) ?_)
              first | refine rw_off rfl ?_ | (refine rw_on rfl ?_; (first | refine rw_v (op_b (b := true) rfl (beq_iff_eq.2 (by omega))) ?_ | refine rw_v (op_b (b := false) rfl (beq_eq_false_iff_ne.2 (by omega))) ?_ | refine rw_v (op_pure rfl) ?_))
              refine rw_v (op_pure rfl) ?_
              first | refine rw_end ?_ | (refine rw_nil ?_; show CW _ _ _ _ _ _) | refine rw_nil ?_
              repeat refine cw_seq ?_
              refine cw_true rfl ?_
              repeat refine cw_seq ?_
              refine cw_region ?_
              refine rw_v (op_pure rfl) ?_
              refine rw_v (op_pure rfl) ?_
              refine rw_v (op_pure rfl) ?_
              refine rw_v (op_indexAddrS Try.underlying22 Try.sizeOf37 rfl rfl (by omega) (by omega) (o' := o + k * 4) (by simp)) ?_
              refine rw_r (op_loadA Try.underlying37 rfl (Try.sizeOf37 _) rfl (cs := a.cells A' c') rfl (fun j v hj => hcell j v hj)) ?_
              refine rw_call rfl (does_E F p s a A' c' (6060 + 101 * k) haok hi (by omega) hal w hDi hrd (by intro g hg; exact (hF g hg).2.1)) ?_
              rintro _ w5 ⟨rfl, h5⟩
              first | refine rw_end ?_ | (refine rw_nil ?_; show CW _ _ _ _ _ _) | refine rw_nil ?_
              repeat refine cw_seq ?_
              refine cw_region ?_
              refine rw_v (op_pure rfl) ?_
              refine rw_v (op_rng rfl (by omega)) ?_
              refine rw_v (op_pure rfl) ?_
              first | refine rw_end ?_ | (refine rw_nil ?_; show CW _ _ _ _ _ _) | refine rw_nil ?_
              exact ⟨m - 1, by omega, k + 1, by omega, ⟨rfl, rfl, rfl, rfl, rfl, ie (by omega), trivial⟩, _, (does_inv hi haok).mono (by omega), since_does hsn (.inl hk0), DOX.step hF hG hX h5, row_stays ra h5.2 (fun g hg => .inl hg) hF, row_stays rb h5.2 (fun g hg => .inr hg) hF⟩
            · by_cases hk3 : a.kind = 3
              · repeat refine cw_seq ?_
                refine cw_block ?_
                repeat refine cw_seq ?_
                refine cw_region ?_
                refine rw_v (op_pure rfl) ?_
                refine rw_v (op_pure rfl) ?_
                refine rw_v (op_indexAddrS Try.underlying22 Try.sizeOf37 rfl rfl (by omega) (by omega) (o' := o + k * 4) (by simp)) ?_
                refine rw_v (op_fieldAddr Try.underlying37 rfl Try.sizeOf5 rfl rfl) ?_
                refine rw_r (op_load Try.underlying5 rfl rfl hc0) ?_
                first | refine rw_v (op_b (b := true) rfl (beq_iff_eq.2 (by omega))) ?_ | refine rw_v (op_b (b := false) rfl (beq_eq_false_iff_ne.2 (by omega))) ?_ | refine rw_v (op_pure rfl) ?_
                refine rw_v (op_pure rfl) ?_
                first | refine rw_off rfl ?_ | (refine rw_on rfl ?_; refine rw_v (op_pure rfl) ?_)
                first | refine rw_off rfl ?_ | (refine rw_on rfl ?_; refine rw_v (op_pure rfl) ?_)
                first | refine rw_off rfl ?_ | (refine rw_on rfl ?_; refine rw_v (op_indexAddrS Try.underlying22 Try.sizeOf37 rfl rfl (by omega) (by omega) (o' := o + k * 4) (by simp)) ?_)
                first | refine rw_off rfl ?_ | (refine rw_on rfl ?_; refine rw_v (op_fieldAddr Try.underlying37 rfl Try.sizeOf5 rfl rfl) ?_)
                first | refine rw_off rfl ?_ | (refine rw_on rfl ?_; refine rw_r (op_load Try.underlying5 rfl rfl hc0) ?_)
                first | refine rw_off rfl ?_ | (refine rw_on rfl ?_; (first | refine rw_v (op_b (b := true) rfl (beq_iff_eq.2 (by omega))) ?_ | refine rw_v (op_b (b := false) rfl (beq_eq_false_iff_ne.2 (by omega))) ?_ | refine rw_v (op_pure rfl) ?_))
                refine rw_v (op_pure rfl) ?_
                first | refine rw_end ?_ | (refine rw_nil ?_; show CW _ _ _ _ _ _) | refine rw_nil ?_
                repeat refine cw_seq ?_
                refine cw_true rfl ?_
                repeat refine cw_seq ?_
                refine cw_region ?_
                refine rw_v (op_pure rfl) ?_
                refine rw_v (op_pure rfl) ?_
                refine rw_v (op_pure rfl) ?_
                refine rw_v (op_indexAddrS Try.underlying22 Try.sizeOf37 rfl rfl (by omega) (by omega) (o' := o + k * 4) (by simp)) ?_
                refine rw_r (op_loadA Try.underlying37 rfl (Try.sizeOf37 _) rfl (cs := a.cells A' c') rfl (fun j v hj => hcell j v hj)) ?_
                refine rw_call rfl (does_E F p s a A' c' (6060 + 101 * k) haok hi (by omega) hal w hDi hrd (by intro g hg; exact (hF g hg).2.1)) ?_
                rintro _ w5 ⟨rfl, h5⟩
                first | refine rw_end ?_ | (refine rw_nil ?_; show CW _ _ _ _ _ _) | refine rw_nil ?_
                repeat refine cw_seq ?_
                refine cw_region ?_
                refine rw_v (op_pure rfl) ?_
                refine rw_v (op_rng rfl (by omega)) ?_
                refine rw_v (op_pure rfl) ?_
                first | refine rw_end ?_ | (refine rw_nil ?_; show CW _ _ _ _ _ _) | refine rw_nil ?_
                exact ⟨m - 1, by omega, k + 1, by omega, ⟨rfl, rfl, rfl, rfl, rfl, ie (by omega), trivial⟩, _, (does_inv hi haok).mono (by omega), since_does hsn (.inr hk3), DOX.step hF hG hX h5, row_stays ra h5.2 (fun g hg => .inl hg) hF, row_stays rb h5.2 (fun g hg => .inr hg) hF⟩
              · repeat refine cw_seq ?_
                refine cw_block ?_
                repeat refine cw_seq ?_
                refine cw_region ?_
                refine rw_v (op_pure rfl) ?_
                refine rw_v (op_pure rfl) ?_
                refine rw_v (op_indexAddrS Try.underlying22 Try.sizeOf37 rfl rfl (by omega) (by omega) (o' := o + k * 4) (by simp)) ?_
                refine rw_v (op_fieldAddr Try.underlying37 rfl Try.sizeOf5 rfl rfl) ?_
                refine rw_r (op_load Try.underlying5 rfl rfl hc0) ?_
                first | refine rw_v (op_b (b := true) rfl (beq_iff_eq.2 (by omega))) ?_ | refine rw_v (op_b (b := false) rfl (beq_eq_false_iff_ne.2 (by omega))) ?_ | refine rw_v (op_pure rfl) ?_
                refine rw_v (op_pure rfl) ?_
                first | refine rw_off rfl ?_ | (refine rw_on rfl ?_; refine rw_v (op_pure rfl) ?_)
                first | refine rw_off rfl ?_ | (refine rw_on rfl ?_; refine rw_v (op_pure rfl) ?_)
                first | refine rw_off rfl ?_ | (refine rw_on rfl ?_; refine rw_v (op_indexAddrS Try.underlying22 Try.sizeOf37 rfl rfl (by omega) (by omega) (o' := o + k * 4) (by simp)) ?_)
                first | refine rw_off rfl ?_ | (refine rw_on rfl ?_; refine rw_v (op_fieldAddr Try.underlying37 rfl Try.sizeOf5 rfl rfl) ?_)
                first | refine rw_off rfl ?_ | (refine rw_on rfl ?_; refine rw_r (op_load Try.underlying5 rfl rfl hc0) ?_)
                first | refine rw_off rfl ?_ | (refine rw_on rfl ?_; (first | refine rw_v (op_b (b := true) rfl (beq_iff_eq.2 (by omega))) ?_ | refine rw_v (op_b (b := false) rfl (beq_eq_false_iff_ne.2 (by omega))) ?_ | refine rw_v (op_pure rfl) ?_))
                refine rw_v (op_pure rfl) ?_
                first | refine rw_end ?_ | (refine rw_nil ?_; show CW _ _ _ _ _ _) | refine rw_nil ?_
                repeat refine cw_seq ?_
                refine cw_false rfl ?_
                refine cw_skip ?_
                try show CW _ _ _ _ _ _
                repeat refine cw_seq ?_
                refine cw_region ?_
                refine rw_v (op_pure rfl) ?_
                refine rw_v (op_rng rfl (by omega)) ?_
                refine rw_v (op_pure rfl) ?_
                first | refine rw_end ?_ | (refine rw_nil ?_; show CW _ _ _ _ _ _) | refine rw_nil ?_
                exact ⟨m - 1, by omega, k + 1, by omega, ⟨rfl, rfl, rfl, rfl, rfl, ie (by omega), trivial⟩, s, hi.mono (by omega), hsn, hD', ra, rb⟩
          · refine cw_exit ?_
            repeat first | refine exit_then ?_ | refine exit_inb ?_
            have hk : k = later.length := by
              have : ¬ k < later.length := by simpa using hc
              omega
            exact ⟨⟨rfl, rfl, rfl, rfl, trivial⟩, s, hi.mono (by omega), hsn, hD, ra, rb⟩
        rintro e7 w7 ⟨hsl, s7, hi7, hsn7, hD7, ra, rb⟩
        rw [hsl.fold]
        obtain ⟨F7, hDi7, hF7, hG7, hX7⟩ := hD7
        have h71 := hi7.s1
        have h72 := hi7.l1
        have h73 := hi7.l2
        have hcall := dcrash_E F7 p s7 keep hi7.oks (by constructor <;> omega) w7 hDi7
        have hcr := since_crash hsn7 keep
        have hi8 : Inv 12120 { s7.settled (min (max keep 0) s7.waits.length).toNat with fused := false, fuse := 0, dark := false } := { settled_inv hi7 _ with fuse := ⟨show (0 : Int) ≤ 0 by decide, show (0 : Int) ≤ 9223372036854775807 by decide⟩ }
        repeat refine cw_seq ?_
        refine cw_region ?_
        refine rw_v (op_pure rfl) ?_
        refine rw_v (op_pure rfl) ?_
        refine rw_call rfl (hcall) ?_
        rintro _ w8 ⟨rfl, h8⟩
        first | refine rw_end ?_ | (refine rw_nil ?_; show CW _ _ _ _ _ _) | refine rw_nil ?_
        have D8 := DOX.step hF7 hG7 hX7 h8
        have ra := row_stays ra h8.2 (fun g hg => .inl hg) hF7
        have rb := row_stays rb h8.2 (fun g hg => .inr hg) hF7
        have hse : (s7.settled (min (max keep 0) s7.waits.length).toNat).seen = ({ s7.settled (min (max keep 0) s7.waits.length).toNat with fused := false, fuse := 0, dark := false } : DS).seen := rfl
        have hdk8 : ({ s7.settled (min (max keep 0) s7.waits.length).toNat with fused := false, fuse := 0, dark := false } : DS).dark = false := rfl
        rw [hse] at hcr
        clear hse hcall h8
        generalize ({ s7.settled (min (max keep 0) s7.waits.length).toNat with fused := false, fuse := 0, dark := false } : DS) = s8 at *
        obtain ⟨F8, hDi8, hF8, hG8, hX8⟩ := D8
        have hs8 := hi8.s1
        have hcall := dread_E F8 p s8 0 (.inl rfl) ⟨by omega, by omega⟩ w8 hDi8 hdk8
        repeat refine cw_seq ?_
        refine cw_region ?_
        refine rw_v (op_pure rfl) ?_
        refine rw_call rfl (hcall) ?_
        rintro _ w9 ⟨vx, rfl, rx, g9, hx9⟩
        obtain ⟨Ax, cx, ex⟩ := rx.slice
        rw [if_pos rfl, c8_length] at ex
        subst ex
        refine rw_v (op_pure rfl) ?_
        refine rw_v (op_pure rfl) ?_
        refine rw_v (op_pure rfl) ?_
        refine rw_v (op_pure rfl) ?_
        refine rw_v (op_pure rfl) ?_
        first | refine rw_end ?_ | (refine rw_nil ?_; show CW _ _ _ _ _ _) | refine rw_nil ?_
        rw [if_pos rfl] at rx
        have rx : R1 w9 5 (.slice Ax s8.seen.1.length cx) (c8 s8.seen.1) := rx
        have hcall := dread_E F8 p s8 1 (.inr rfl) ⟨by omega, by omega⟩ w9 (hDi8.gr g9) hdk8
        repeat refine cw_seq ?_
        refine cw_region ?_
        refine rw_v (op_pure rfl) ?_
        refine rw_call rfl (hcall) ?_
        rintro _ w10 ⟨vy, rfl, ry, g10, hy10⟩
        obtain ⟨Ay, cy, ey⟩ := ry.slice
        rw [if_neg (by decide), c8_length] at ey
        subst ey
        refine rw_v (op_pure rfl) ?_
        refine rw_v (op_pure rfl) ?_
        refine rw_v (op_pure rfl) ?_
        refine rw_v (op_pure rfl) ?_
        refine rw_v (op_pure rfl) ?_
        first | refine rw_end ?_ | (refine rw_nil ?_; show CW _ _ _ _ _ _) | refine rw_nil ?_
        rw [if_neg (by decide)] at ry
        have ry : R1 w10 5 (.slice Ay s8.seen.2.length cy) (c8 s8.seen.2) := ry
        have rx := rx.gr g10
        have ra := (ra.gr g9).gr g10
        have rb := (rb.gr g9).gr g10
        obtain ⟨l0, l1', ws, s0, s1, hDA⟩ := (hDi8.gr g9).gr g10
        have G10 := (hG8.trans g9).trans g10
        have hpx := hcr.1
        have hpy := hcr.2.1
        have hlx := hpx.length_le
        have hly := hpy.length_le
        have etx : s8.seen.1.take s4.seen.1.length = s4.seen.1 := (List.prefix_iff_eq_take.1 hpx).symm
        have ety : s8.seen.2.take s4.seen.2.length = s4.seen.2 := (List.prefix_iff_eq_take.1 hpy).symm
        have rdx : Rd w10 Ax (c8 s4.seen.1) := by rw [← etx, c8_take]; exact rx.rd.take _
        have rdy : Rd w10 Ay (c8 s4.seen.2) := by rw [← ety, c8_take]; exact ry.rd.take _
        have hcx := rx.cap0.2
        have hcy := ry.cap0.2
        repeat refine cw_seq ?_
        refine cw_draw (C := fun wq => Gr w10 wq) [0, 1, 2, 3, 4, 5, 6, 7, 8, 9, 10, 11, 12, 13, 14, 15, 16, 17, 18, 19, 20, 21, 22, 23, 24, 25, 26, 27, 28, 29, 30, 31, 32, 33, 34, 35, 36, 37, 38, 39, 40, 41, 42, 43] [] (by kernel_rfl) (by kernel_rfl) (Gr.drew _) ?_
        simp only [pickL, List.drop_succ_cons, List.drop_zero]
        refine rq_v (op_pure rfl) ?_
        first | refine rq_v (op_b (b := true) rfl (bne_iff_ne.2 (by omega))) ?_ | refine rq_v (op_b (b := false) rfl (bne_eq_false_iff_eq.2 (by omega))) ?_ | refine rq_v (op_pure rfl) ?_
        refine rq_v (op_pure rfl) ?_
        first | refine rq_off rfl ?_ | (refine rq_on rfl ?_; refine rq_v (op_pure rfl) ?_)
        first | refine rq_off rfl ?_ | (refine rq_on rfl ?_; (first | refine rq_v (op_b (b := true) rfl (bne_iff_ne.2 (by omega))) ?_ | refine rq_v (op_b (b := false) rfl (bne_eq_false_iff_eq.2 (by omega))) ?_ | refine rq_v (op_pure rfl) ?_))
        refine rq_v (op_pure rfl) ?_
        refine rq_v (op_pure rfl) ?_
        first | refine rq_off rfl ?_ | (refine rq_on rfl ?_; refine rq_v (op_pure rfl) ?_)
        first | refine rq_off rfl ?_ | (refine rq_on rfl ?_; refine rq_call rfl (fun wq hq => (ddark_E F8 p s8 l0 l1' ws s0 s1 wq (hDA.gr hq)).mono (fun _ _ ⟨hv, hg⟩ => ⟨hv, hq.trans hg⟩)) ?_)
        rw [hdk8]
        refine rq_v (op_pure rfl) ?_
        refine rq_v (op_pure rfl) ?_
        first | refine rq_off rfl ?_ | (refine rq_on rfl ?_; refine rq_v (op_pure rfl) ?_)
        first | refine rq_off rfl ?_ | (refine rq_on rfl ?_; refine rq_v (op_len Try.underlying29 rfl) ?_)
        first | refine rq_off rfl ?_ | (refine rq_on rfl ?_; refine rq_v (op_pure rfl) ?_)
        first | refine rq_off rfl ?_ | (refine rq_on rfl ?_; refine rq_v (op_len Try.underlying29 rfl) ?_)
        first | refine rq_off rfl ?_ | (refine rq_on rfl ?_; (first | refine rq_v (op_b (b := true) rfl (decide_eq_true (by omega))) ?_ | refine rq_v (op_b (b := false) rfl (decide_eq_false (by omega))) ?_ | refine rq_v (op_pure rfl) ?_))
        refine rq_v (op_pure rfl) ?_
        refine rq_v (op_pure rfl) ?_
        first | refine rq_off rfl ?_ | (refine rq_on rfl ?_; refine rq_v (op_pure rfl) ?_)
        first | refine rq_off rfl ?_ | (refine rq_on rfl ?_; refine rq_v (op_len Try.underlying29 rfl) ?_)
        first | refine rq_off rfl ?_ | (refine rq_on rfl ?_; refine rq_v (op_pure rfl) ?_)
        first | refine rq_off rfl ?_ | (refine rq_on rfl ?_; refine rq_v (op_len Try.underlying29 rfl) ?_)
        first | refine rq_off rfl ?_ | (refine rq_on rfl ?_; (first | refine rq_v (op_b (b := true) rfl (decide_eq_true (by omega))) ?_ | refine rq_v (op_b (b := false) rfl (decide_eq_false (by omega))) ?_ | refine rq_v (op_pure rfl) ?_))
        refine rq_v (op_pure rfl) ?_
        refine rq_v (op_pure rfl) ?_
        first | refine rq_off rfl ?_ | (refine rq_on rfl ?_; refine rq_v (op_pure rfl) ?_)
        first | refine rq_off rfl ?_ | (refine rq_on rfl ?_; refine rq_v (op_pure rfl) ?_)
        first | refine rq_off rfl ?_ | (refine rq_on rfl ?_; refine rq_v (op_len Try.underlying29 rfl) ?_)
        first | refine rq_off rfl ?_ | (refine rq_on rfl ?_; refine rq_v (op_slice_h Try.underlying29 Try.sizeOf5 rfl rfl (by omega) (by omega)) ?_)
        refine rq_on rfl ?_
        refine rq_r (fun wq hq => op_str (bs := s4.seen.1) Try.underlying29 Try.underlying5 Try.underlying9 (se (Int.toNat_natCast _) rfl) (rdx.gr hq)) ?_
        first | refine rq_off rfl ?_ | (refine rq_on rfl ?_; refine rq_v (op_pure rfl) ?_)
        refine rq_on rfl ?_
        refine rq_r (fun wq hq => op_str (bs := s4.seen.1) Try.underlying29 Try.underlying5 Try.underlying9 rfl (ra.rd.gr hq)) ?_
        refine rq_on rfl ?_
        refine rq_v (op_b (b := false) rfl (by simp)) ?_
        refine rq_v (op_pure rfl) ?_
        refine rq_v (op_pure rfl) ?_
        first | refine rq_off rfl ?_ | (refine rq_on rfl ?_; refine rq_v (op_pure rfl) ?_)
        first | refine rq_off rfl ?_ | (refine rq_on rfl ?_; refine rq_v (op_pure rfl) ?_)
        first | refine rq_off rfl ?_ | (refine rq_on rfl ?_; refine rq_v (op_len Try.underlying29 rfl) ?_)
        first | refine rq_off rfl ?_ | (refine rq_on rfl ?_; refine rq_v (op_slice_h Try.underlying29 Try.sizeOf5 rfl rfl (by omega) (by omega)) ?_)
        refine rq_on rfl ?_
        refine rq_r (fun wq hq => op_str (bs := s4.seen.2) Try.underlying29 Try.underlying5 Try.underlying9 (se (Int.toNat_natCast _) rfl) (rdy.gr hq)) ?_
        first | refine rq_off rfl ?_ | (refine rq_on rfl ?_; refine rq_v (op_pure rfl) ?_)
        refine rq_on rfl ?_
        refine rq_r (fun wq hq => op_str (bs := s4.seen.2) Try.underlying29 Try.underlying5 Try.underlying9 rfl (rb.rd.gr hq)) ?_
        refine rq_on rfl ?_
        refine rq_v (op_b (b := false) rfl (by simp)) ?_
        refine rq_v (op_pure rfl) ?_
        refine rq_nil ?_
        intro w1_ g1_
        have G10 := G10.trans g1_
        first | refine rw_end ?_ | (refine rw_nil ?_; show CW _ _ _ _ _ _) | refine rw_nil ?_
        repeat refine cw_seq ?_
        refine cw_false rfl ?_
        refine cw_skip ?_
        try show CW _ _ _ _ _ _
        by_cases hkeep0 : 0 < keep
        · repeat refine cw_seq ?_
          refine cw_region ?_
          refine rw_v (op_pure rfl) ?_
          first | refine rw_v (op_b (b := true) rfl (decide_eq_true (by omega))) ?_ | refine rw_v (op_b (b := false) rfl (decide_eq_false (by omega))) ?_ | refine rw_v (op_pure rfl) ?_
          refine rw_v (op_pure rfl) ?_
          first | refine rw_off rfl ?_ | (refine rw_on rfl ?_; refine rw_v (op_pure rfl) ?_)
          first | refine rw_off rfl ?_ | (refine rw_on rfl ?_; refine rw_v (op_len Try.underlying29 rfl) ?_)
          first | refine rw_off rfl ?_ | (refine rw_on rfl ?_; refine rw_v (op_pure rfl) ?_)
          first | refine rw_off rfl ?_ | (refine rw_on rfl ?_; refine rw_v (op_len Try.underlying29 rfl) ?_)
          first | refine rw_off rfl ?_ | (refine rw_on rfl ?_; refine rw_v (op_pure rfl) ?_)
          first | refine rw_off rfl ?_ | (refine rw_on rfl ?_; refine rw_v (op_pure rfl) ?_)
          first | refine rw_off rfl ?_ | (refine rw_on rfl ?_; refine rw_v (op_pure rfl) ?_)
          first | refine rw_off rfl ?_ | (refine rw_on rfl ?_; refine rw_v (op_len Try.underlying29 rfl) ?_)
          first | refine rw_off rfl ?_ | (refine rw_on rfl ?_; refine rw_v (op_pure rfl) ?_)
          first | refine rw_off rfl ?_ | (refine rw_on rfl ?_; refine rw_v (op_len Try.underlying29 rfl) ?_)
          first | refine rw_off rfl ?_ | (refine rw_on rfl ?_; refine rw_v (op_pure rfl) ?_)
          first | refine rw_off rfl ?_ | (refine rw_on rfl ?_; refine rw_v (op_pure rfl) ?_)
          refine rw_v (op_pure rfl) ?_
          refine rw_v (op_pure rfl) ?_
          first | refine rw_end ?_ | (refine rw_nil ?_; show CW _ _ _ _ _ _) | refine rw_nil ?_
          refine cw_ret ?_
          repeat first | refine ret_then ?_ | refine ret_inb ?_
          exact res1 rfl ⟨rfl, G10⟩
        · have heq := hcr.2.2 (by omega)
          have hlx2 : s8.seen.1.length = s4.seen.1.length := by rw [heq]
          have hly2 : s8.seen.2.length = s4.seen.2.length := by rw [heq]
          repeat refine cw_seq ?_
          refine cw_region ?_
          refine rw_v (op_pure rfl) ?_
          first | refine rw_v (op_b (b := true) rfl (decide_eq_true (by omega))) ?_ | refine rw_v (op_b (b := false) rfl (decide_eq_false (by omega))) ?_ | refine rw_v (op_pure rfl) ?_
          refine rw_v (op_pure rfl) ?_
          first | refine rw_off rfl ?_ | (refine rw_on rfl ?_; refine rw_v (op_pure rfl) ?_)
          first | refine rw_off rfl ?_ | (refine rw_on rfl ?_; refine rw_v (op_len Try.underlying29 rfl) ?_)
          first | refine rw_off rfl ?_ | (refine rw_on rfl ?_; refine rw_v (op_pure rfl) ?_)
          first | refine rw_off rfl ?_ | (refine rw_on rfl ?_; refine rw_v (op_len Try.underlying29 rfl) ?_)
          first | refine rw_off rfl ?_ | (refine rw_on rfl ?_; (first | refine rw_v (op_b (b := true) rfl (beq_iff_eq.2 (by omega))) ?_ | refine rw_v (op_b (b := false) rfl (beq_eq_false_iff_ne.2 (by omega))) ?_ | refine rw_v (op_pure rfl) ?_))
          first | refine rw_off rfl ?_ | (refine rw_on rfl ?_; refine rw_v (op_pure rfl) ?_)
          first | refine rw_off rfl ?_ | (refine rw_on rfl ?_; refine rw_v (op_pure rfl) ?_)
          first | refine rw_off rfl ?_ | (refine rw_on rfl ?_; refine rw_v (op_len Try.underlying29 rfl) ?_)
          first | refine rw_off rfl ?_ | (refine rw_on rfl ?_; refine rw_v (op_pure rfl) ?_)
          first | refine rw_off rfl ?_ | (refine rw_on rfl ?_; refine rw_v (op_len Try.underlying29 rfl) ?_)
          first | refine rw_off rfl ?_ | (refine rw_on rfl ?_; (first | refine rw_v (op_b (b := true) rfl (beq_iff_eq.2 (by omega))) ?_ | refine rw_v (op_b (b := false) rfl (beq_eq_false_iff_ne.2 (by omega))) ?_ | refine rw_v (op_pure rfl) ?_))
          first | refine rw_off rfl ?_ | (refine rw_on rfl ?_; refine rw_v (op_pure rfl) ?_)
          refine rw_v (op_pure rfl) ?_
          refine rw_v (op_pure rfl) ?_
          first | refine rw_end ?_ | (refine rw_nil ?_; show CW _ _ _ _ _ _) | refine rw_nil ?_
          refine cw_ret ?_
          repeat first | refine ret_then ?_ | refine ret_inb ?_
          exact res1 rfl ⟨rfl, G10⟩
      · repeat refine cw_seq ?_
        refine cw_region ?_
        refine rw_v (op_pure rfl) ?_
        refine rw_call rfl (dsyncBurn_E F p s w3 hDi hdk hbu) ?_
        rintro _ w4 ⟨rfl, h4⟩
        first | refine rw_v (op_b (b := true) rfl (bne_iff_ne.2 (by omega))) ?_ | refine rw_v (op_b (b := false) rfl (bne_eq_false_iff_eq.2 (by omega))) ?_ | refine rw_v (op_pure rfl) ?_
        first | refine rw_end ?_ | (refine rw_nil ?_; show CW _ _ _ _ _ _) | refine rw_nil ?_
        repeat refine cw_seq ?_
        refine cw_true rfl ?_
        repeat refine cw_seq ?_
        refine cw_region ?_
        refine rw_v (op_pure rfl) ?_
        first | refine rw_end ?_ | (refine rw_nil ?_; show CW _ _ _ _ _ _) | refine rw_nil ?_
        refine cw_ret ?_
        repeat first | refine ret_then ?_ | refine ret_inb ?_
        have D4 := DOX.step hF hG hX h4
        obtain ⟨_, _, _, hG4, _⟩ := D4
        exact res1 rfl ⟨rfl, hG4⟩
    · repeat refine cw_seq ?_
      refine cw_region ?_
      refine rw_v (op_pure rfl) ?_
      refine rw_call rfl (dsyncNo_E F p s w3 hDi hdk) ?_
      rintro _ w4 ⟨rfl, g4⟩
      first | refine rw_v (op_b (b := true) rfl (bne_iff_ne.2 (by omega))) ?_ | refine rw_v (op_b (b := false) rfl (bne_eq_false_iff_eq.2 (by omega))) ?_ | refine rw_v (op_pure rfl) ?_
      first | refine rw_end ?_ | (refine rw_nil ?_; show CW _ _ _ _ _ _) | refine rw_nil ?_
      repeat refine cw_seq ?_
      refine cw_true rfl ?_
      repeat refine cw_seq ?_
      refine cw_region ?_
      refine rw_v (op_pure rfl) ?_
      first | refine rw_end ?_ | (refine rw_nil ?_; show CW _ _ _ _ _ _) | refine rw_nil ?_
      refine cw_ret ?_
      repeat first | refine ret_then ?_ | refine ret_inb ?_
      exact res1 rfl ⟨rfl, hG.trans g4⟩
  · repeat refine cw_seq ?_
    refine cw_region ?_
    refine rw_v (op_pure rfl) ?_
    refine rw_call rfl (dnewNo_E room _ (by omega)) ?_
    rintro _ w2 ⟨rfl, g2⟩
    have G1 := G1.trans g2
    refine rw_v (op_pure rfl) ?_
    refine rw_v (op_pure rfl) ?_
    refine rw_v (op_pure rfl) ?_
    refine rw_v (op_pure rfl) ?_
    refine rw_v (op_pure rfl) ?_
    first | refine rw_end ?_ | (refine rw_nil ?_; show CW _ _ _ _ _ _) | refine rw_nil ?_
    repeat refine cw_seq ?_
    refine cw_region ?_
    refine rw_v (op_pure rfl) ?_
    first | refine rw_v (op_b (b := true) rfl (bne_iff_ne.2 (by omega))) ?_ | refine rw_v (op_b (b := false) rfl (bne_eq_false_iff_eq.2 (by omega))) ?_ | refine rw_v (op_pure rfl) ?_
    first | refine rw_end ?_ | (refine rw_nil ?_; show CW _ _ _ _ _ _) | refine rw_nil ?_
    repeat refine cw_seq ?_
    refine cw_true rfl ?_
    repeat refine cw_seq ?_
    refine cw_region ?_
    refine rw_v (op_pure rfl) ?_
    first | refine rw_end ?_ | (refine rw_nil ?_; show CW _ _ _ _ _ _) | refine rw_nil ?_
    refine cw_ret ?_
    repeat first | refine ret_then ?_ | refine ret_inb ?_
    exact res1 rfl ⟨rfl, G1⟩
end Go.Proofs.Ytkpokpaehlhhaaa
