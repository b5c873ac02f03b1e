/- DiskPlays: the walk. -/
import Derived.Test.YtkpokpaehlhhaaaRefH
namespace Go.Proofs.Ytkpokpaehlhhaaa
open Go.RowKit
set_option linter.unusedVariables false
set_option linter.unusedSimpArgs false
set_option maxRecDepth 100000

theorem RefAt.fr {F F' : Nat → Prop} {w w' : World} {s : DS} {A0 A1 Aw : Option Addr} {c0 c1 cw : Nat} (h : RefAt F w s A0 A1 Aw c0 c1 cw) (k : Fr F w w') (hF : ∀ g, F' g → F g ∨ w.heap.size ≤ g) : RefAt F' w' s A0 A1 Aw c0 c1 cw :=
  ⟨h.f0.fr k hF, h.f1.fr k hF, h.us.fr k hF⟩
theorem RefAt.weak {F F' : Nat → Prop} {w : World} {s : DS} {A0 A1 Aw : Option Addr} {c0 c1 cw : Nat} (h : RefAt F w s A0 A1 Aw c0 c1 cw) (hF : ∀ g, F' g → F g) : RefAt F' w s A0 A1 Aw c0 c1 cw := h.fr ((Fr.refl F w)) (fun g hg => .inl (hF g hg))
section
variable {P : Program} {e : Nat → Value} {d : Option Tmp} {ty : TypeId} {ps : String} {af : Array Edge}
theorem op_neqB {t t' : TypeId} {x y : Operand} {a b B : Bool} (hu : P.underlying t = some .bool) (hx : ev e x = .bool a) (hy : ev e y = .bool b) (hB : (a != b) = B) : OpV P e ⟨d, .binOp .neq t x y t', ty, ps, af, none⟩ (.bool B) := by
  intro w
  subst hB
  have h3 : ∀ n : Nat, (Op.equalIn (n + 1) t (.bool a) (.bool b)).run P w = .ok (a == b) w := fun n => by
    unfold Op.equalIn
    simp [run_underlying hu]
  have h4 : (Op.equal t (.bool a) (.bool b)).run P w = .ok (a == b) w := h3 9999
  simp [OpR, execOp, hx, hy, eqGuard, binOp, h4]
  cases a <;> cases b <;> rfl
end
theorem SlV.rd {F : Nat → Prop} {w : World} {l : List Int} {A : Option Addr} {n c : Nat} (h : SlV F w l (.slice A n c)) : Rd w A (c8 l) := by
  obtain ⟨A', c', e, h⟩ := h
  cases e
  exact h.rd
/-- the two disks, side by side -/
structure Pl (F : Nat → Prop) (W w : World) (p b7 : Nat) (s : DS) (A0 A1 Aw : Option Addr) (c0 c1 cw : Nat) : Prop where
  disk : DiskIs w F p s
  fo : ∀ g, F g → W.heap.size ≤ g ∧ g < w.heap.size ∧ g ≠ b7
  gr : Gr W w
  old : W.heap.size ≤ b7
  ref : RefAt F w s A0 A1 Aw c0 c1 cw
  blk : Blk w b7 33 (s.ref A0 A1 Aw c0 c1 cw)
theorem Pl.up {F : Nat → Prop} {W w w' : World} {p b7 : Nat} {s : DS} {A0 A1 Aw : Option Addr} {c0 c1 cw : Nat} (h : Pl F W w p b7 s A0 A1 Aw c0 c1 cw) (g : Gr w w') : Pl F W w' p b7 s A0 A1 Aw c0 c1 cw :=
  ⟨h.disk.gr g, fun x hx => ⟨(h.fo x hx).1, Nat.lt_of_lt_of_le (h.fo x hx).2.1 g.le, (h.fo x hx).2.2⟩, h.gr.trans g, h.old, h.ref.gr g, h.blk.gr g⟩
def PlI (W w : World) (p b7 : Nat) (s : DS) : Prop := ∃ F A0 A1 Aw c0 c1 cw, Pl F W w p b7 s A0 A1 Aw c0 c1 cw
theorem new_ref (room : Int) (F : Nat → Prop) (w : World) : RefAt F w (newDS room) none none none 0 0 0 := ⟨⟨.inl rfl, Nat.le_refl _, fun _ => rfl, fun _ a h => nomatch h⟩, ⟨.inl rfl, Nat.le_refl _, fun _ => rfl, fun _ a h => nomatch h⟩, ⟨.inl rfl, Nat.le_refl _, fun _ => rfl, fun _ a h => nomatch h⟩⟩

set_option maxHeartbeats 4000000 in
theorem diskPlays_E (room : Int) (A1 : Option Addr) (c1 : Nat) (l : List ActD) (hl1 : l.length ≤ 9223372036854775807) (W : World) (hA1 : Acts W A1 l) :
    Fn Try.prog 3 [.int .i64 room, .slice A1 l.length c1] W (RetG (.bool true) W) := by
  have G0 := Gr.refl W
  refine Fn_enter Try.func3 rfl Try.results3 Try.ntmps3 (by kernel_rfl) (by kernel_rfl) ?_
  repeat refine cw_seq ?_
  refine cw_region ?_
  refine rw_v (op_pure rfl) ?_
  first | refine rw_end ?_ | (refine rw_nil ?_; show CW _ _ _ _ _ _) | refine rw_nil ?_
  repeat refine cw_seq ?_
  refine cw_region ?_
  refine rw_call rfl (awake39_E _) ?_
  rintro _ w1 ⟨rfl, g1⟩
  have G0 := G0.trans g1
  refine rw_v (op_pure rfl) ?_
  first | refine rw_end ?_ | (refine rw_nil ?_; show CW _ _ _ _ _ _) | refine rw_nil ?_
  repeat refine cw_seq ?_
  refine cw_false rfl ?_
  refine cw_skip ?_
  try show CW _ _ _ _ _ _
  repeat refine cw_seq ?_
  refine cw_region ?_
  refine rw_v (op_pure rfl) ?_
  refine rw_call rfl (long_E A1 c1 l hl1 _ (hA1.gr G0)) ?_
  rintro _ w2 ⟨rfl, g2⟩
  have G0 := G0.trans g2
  first | refine rw_end ?_ | (refine rw_nil ?_; show CW _ _ _ _ _ _) | refine rw_nil ?_
  repeat refine cw_seq ?_
  refine cw_cond rfl (fun hlong => ?_) (fun hlong => ?_)
  · repeat refine cw_seq ?_
    refine cw_region ?_
    refine rw_v (op_pure rfl) ?_
    first | refine rw_end ?_ | (refine rw_nil ?_; show CW _ _ _ _ _ _) | refine rw_nil ?_
    refine cw_ret ?_
    repeat first | refine ret_then ?_ | refine ret_inb ?_
    exact res1 rfl ⟨rfl, G0⟩
  refine cw_skip ?_
  try show CW _ _ _ _ _ _
  have hL1 := long_false hlong
  by_cases hroom : 0 ≤ room ∧ room ≤ 1048576
  · repeat refine cw_seq ?_
    refine cw_region ?_
    refine rw_v (op_pure rfl) ?_
    refine rw_call rfl (dnew_E room _ hroom) ?_
    rintro _ w3 ⟨p, rfl, hD0, g3⟩
    refine rw_v (op_pure rfl) ?_
    refine rw_v (op_pure rfl) ?_
    refine rw_v (op_pure rfl) ?_
    refine rw_v (op_pure rfl) ?_
    refine rw_v (op_pure rfl) ?_
    first | refine rw_end ?_ | (refine rw_nil ?_; show CW _ _ _ _ _ _) | refine rw_nil ?_
    have G1 : Gr W w3 := G0.trans g3
    have hF0 : ∀ g, (fun g => w2.heap.size ≤ g) g → W.heap.size ≤ g := fun g hg => Nat.le_trans G0.le hg
    have hD := hD0.bound
    repeat refine cw_seq ?_
    refine cw_region ?_
    refine rw_v (op_pure rfl) ?_
    first | refine rw_v (op_b (b := true) rfl (decide_eq_true (by omega))) ?_ | refine rw_v (op_b (b := false) rfl (decide_eq_false (by omega))) ?_ | refine rw_v (op_pure rfl) ?_
    refine rw_v (op_pure rfl) ?_
    first | refine rw_off rfl ?_ | (refine rw_on rfl ?_; refine rw_v (op_pure rfl) ?_)
    first | refine rw_off rfl ?_ | (refine rw_on rfl ?_; (first | refine rw_v (op_b (b := true) rfl (decide_eq_true (by omega))) ?_ | refine rw_v (op_b (b := false) rfl (decide_eq_false (by omega))) ?_ | refine rw_v (op_pure rfl) ?_))
    refine rw_v (op_pure rfl) ?_
    first | refine rw_end ?_ | (refine rw_nil ?_; show CW _ _ _ _ _ _) | refine rw_nil ?_
    repeat refine cw_seq ?_
    refine cw_false rfl ?_
    refine cw_skip ?_
    try show CW _ _ _ _ _ _
    repeat refine cw_seq ?_
    refine cw_region ?_
    refine rw_v (op_pure rfl) ?_
    first | refine rw_v (op_b (b := true) rfl (bne_iff_ne.2 (by omega))) ?_ | refine rw_v (op_b (b := false) rfl (bne_eq_false_iff_eq.2 (by omega))) ?_ | refine rw_v (op_pure rfl) ?_
    first | refine rw_end ?_ | (refine rw_nil ?_; show CW _ _ _ _ _ _) | refine rw_nil ?_
    repeat refine cw_seq ?_
    refine cw_false rfl ?_
    refine cw_skip ?_
    try show CW _ _ _ _ _ _
    repeat refine cw_seq ?_
    refine cw_region ?_
    refine rw_v (op_pure rfl) ?_
    refine rw_v (op_build (pl := [(0, 1), (1, 2), (3, 1), (4, 1), (5, 1), (6, 1)]) Try.underlying33 Try.zeroValue33 (fun w => by kernel_rfl) rfl rfl) ?_
    refine rw_new (op_alloc Try.zeroValue33 rfl) ?_
    intro w4 g4 z4 B7
    refine rw_storeA (n := 7) (Try.sizeOf33 _) rfl rfl rfl B7 rfl rfl ?_
    intro w5 hg5 hs5 B7
    first | refine rw_end ?_ | (refine rw_nil ?_; show CW _ _ _ _ _ _) | refine rw_nil ?_
    have k5 : Fr (fun g => g = w3.heap.size) w4 w5 := Fr.of_grown hg5 (fun g e => by injection e with e; exact e.symm)
    have D5 := (hD.gr g4).fr k5 (fun g hg e => by have := hg.2; have e : g = w3.heap.size := e; omega)
    have G5 : Gr W w5 := G1.trans (((Fr.of_gr (F := fun g => g = w3.heap.size) g4).trans k5 (fun g e => .inl e)).gr (fun g e => Nat.le_of_eq (Eq.symm e)))
    have P5 : PlI W w5 p w3.heap.size (newDS room) := ⟨_, none, none, none, 0, 0, 0, D5, fun g hg => ⟨hF0 g hg.1, by have := hg.2; have h4 := g4.le; have h5 := k5.size; omega, by have := hg.2; omega⟩, G5, G1.le, new_ref room _ _, B7⟩
    repeat refine cw_seq ?_
    refine cw_region ?_
    refine rw_v (op_pure rfl) ?_
    first | refine rw_end ?_ | (refine rw_nil ?_; show CW _ _ _ _ _ _) | refine rw_nil ?_
    repeat refine cw_seq ?_
    refine cw_cutT (M := fun e w => Gr W w) ?_ ?_
    · repeat refine cw_seq ?_
      refine cw_block ?_
      refine cw_loop (fun m e w => ∃ k : Nat, k + m = l.length ∧ SL e [(1, .slice A1 l.length c1), (5, .pointer (some ⟨p, 0, none⟩)), (7, .pointer (some ⟨w3.heap.size, 0, none⟩)), (8, .int .i64 k)] ∧ ∃ s, Inv (101 * k) s ∧ PlI W w p w3.heap.size s) l.length
        ⟨0, by omega, ⟨rfl, rfl, rfl, rfl, trivial⟩, _, newDS_inv room hroom, P5⟩ ?_
      rintro m e w ⟨k, hkm, hsl, s, hi, F, B0, B1, Bw, d0, d1, dw, hP⟩
      rw [hsl.fold]
      repeat refine cw_seq ?_
      refine cw_region ?_
      refine rw_v (op_pure rfl) ?_
      refine rw_v (op_pure rfl) ?_
      refine rw_v (op_len Try.underlying22 rfl) ?_
      refine rw_v (op_pure rfl) ?_
      first | refine rw_end ?_ | (refine rw_nil ?_; show CW _ _ _ _ _ _) | refine rw_nil ?_
      repeat refine cw_seq ?_
      refine cw_cond rfl (fun hc => ?_) (fun hc => ?_)
      · refine cw_skip ?_
        try show CW _ _ _ _ _ _
        have hc : k < l.length := by simpa using hc
        obtain ⟨a, ha⟩ : ∃ a, l[k]? = some a := ⟨l[k], List.getElem?_eq_getElem hc⟩
        have haok := hA1.1 a (List.mem_of_getElem? ha)
        have hal := hL1.2 a (List.mem_of_getElem? ha)
        have hlen := hL1.1
        obtain ⟨b, o, A', c', rfl, hcell, hrd⟩ := (hA1.gr hP.gr).at_ ha
        have hi' : Inv (101 * (k + 1)) (s.does a).2 := (does_inv hi haok).mono (by omega)
        have hB7 := hP.blk
        have hRf := hP.ref
        have hFw : FO F w := fun g hg => (hP.fo g hg).2.1
        repeat refine cw_seq ?_
        refine cw_block ?_
        repeat refine cw_seq ?_
        refine cw_cutT (M := fun e w' => ∃ b9 E0 E1 Ew f0 f1 fw, SL e [(1, .slice (some ⟨b, o, none⟩) l.length c1), (5, .pointer (some ⟨p, 0, none⟩)), (7, .pointer (some ⟨w3.heap.size, 0, none⟩)), (8, .int .i64 k), (9, .pointer (some ⟨b9, 0, none⟩)), (10, .int .i64 (s.does a).1)] ∧
          Gr w w' ∧ w.heap.size ≤ b9 ∧ RefAt F w' (s.does a).2 E0 E1 Ew f0 f1 fw ∧ Blk w' b9 33 ((s.does a).2.ref E0 E1 Ew f0 f1 fw)) ?_ ?_
        · skip
          repeat refine cw_seq ?_
          refine TI.cw_tree (C := (fun σ wq => Gr w wq ∧ C14 F (s.does a).2 (s.does a).1 w wq σ)) [5, 9, 10] (.one 0 (.one 1 (.one 2 (.one 3 (.one 4 (.two 5 (.one 6 (.one 7 (.one 8 (.one 9 (.one 10 .nil))))) 9 (.one 5 (.one 6 (.one 7 (.one 8 (.one 10 .nil))))))))))) [11] (by kernel_rfl) (by kernel_rfl) ⟨Gr.drew _, trivial⟩ ?_
          simp only [pickO, pickL, List.drop_succ_cons, List.drop_zero]
          refine TI.ro_one ?_
          refine TI.rs_r rfl (fun τ wq hq => op_loadAB Try.underlying33 rfl (Try.sizeOf33 _) rfl (hB7.gr hq.1) rfl rfl) ?_
          refine TI.rs_nil ?_
          refine TI.ro_one ?_
          refine TI.rs_v rfl (op_pure rfl) ?_
          refine TI.rs_nil ?_
          refine TI.ro_one ?_
          refine TI.rs_v rfl (op_pure rfl) ?_
          refine TI.rs_nil ?_
          refine TI.ro_one ?_
          refine TI.rs_v rfl (op_indexAddrS Try.underlying22 Try.sizeOf37 rfl rfl (by omega) (by omega) (o' := o + k * 4) (by simp)) ?_
          refine TI.rs_nil ?_
          refine TI.ro_one ?_
          refine TI.rs_r rfl (fun τ wq hq => op_loadA Try.underlying37 rfl (Try.sizeOf37 _) rfl (cs := a.cells A' c') rfl (fun j v hj => cell_gr hq.1 (hcell j v hj))) ?_
          refine TI.rs_nil ?_
          refine TI.ro_two ?_ ?_
          · refine TI.rs_special rfl rfl (fun wq hq => to_call rfl ((step_E s a A' c' (101 * k) haok hi (by omega) hal wq (hFw.up hq.1) (hRf.gr hq.1) (hrd.gr hq.1)).mono (fun v w' h => ⟨hq.1.trans h.rc.2, h.rc.1⟩))) ?_
            rintro v5 w5' ⟨_, E0, E1, Ew, f0, f1, fw, rfl, _⟩
            refine TI.rs_nil ?_
            refine TI.ro_one ?_
            refine TI.rs_v rfl (op_pure rfl) ?_
            refine TI.rs_nil ?_
            refine TI.ro_one ?_
            refine TI.rs_v rfl (op_pure rfl) ?_
            refine TI.rs_nil ?_
            refine TI.ro_one ?_
            refine TI.rs_v rfl (op_pure rfl) ?_
            refine TI.rs_nil ?_
            refine TI.ro_one ?_
            refine TI.rs_special rfl rfl (fun wq hq => to_allocB Try.zeroValue33 rfl (fun w' g hB => ⟨hq.1.trans g, ⟨_, rfl, hq.1.le, hB⟩, hq.2.gr g⟩)) ?_
            rintro v9 w9' ⟨_, ⟨b9, rfl, hb9, _⟩, _⟩
            refine TI.rs_nil ?_
            refine TI.ro_one ?_
            refine TI.rs_special rfl rfl (fun wq hq => pf_store Try.sizeOf33 rfl rfl hq.1 hq.2.1 hq.2.2 (fun w' h => h)) ?_
            rintro v10 w10' ⟨_, _⟩
            refine TI.rs_nil ?_
            refine TI.ro_nil ?_
            rintro w1_ ⟨g1_, hpf⟩
            have hB7 := hB7.gr g1_
            obtain ⟨b9, H0, H1, Hw, h0, h1, hw, e1, hb9, e2, hR9, hB9⟩ := hpf
            cases e1
            obtain ⟨rfl, rfl, rfl, rfl, rfl, rfl⟩ := tuple_ref e2
            refine rw_v (op_pure rfl) ?_
            first | refine rw_end ?_ | (refine rw_nil ?_; show CW _ _ _ _ _ _) | refine rw_nil ?_
            exact ⟨_, _, _, _, _, _, _, ⟨rfl, rfl, rfl, rfl, rfl, rfl, trivial⟩, (by assumption), hb9, hR9, hB9⟩
          · refine TI.rs_special rfl rfl (fun wq hq => to_allocB Try.zeroValue33 rfl (fun w' g hB => ⟨hq.1.trans g, ⟨_, rfl, hq.1.le, hB⟩⟩)) ?_
            rintro v9 w9' ⟨_, ⟨b9, rfl, hb9, _⟩⟩
            refine TI.rs_nil ?_
            refine TI.ro_one ?_
            refine TI.rs_special rfl rfl (fun wq hq => to_call rfl ((step_E s a A' c' (101 * k) haok hi (by omega) hal wq (hFw.up hq.1) (hRf.gr hq.1) (hrd.gr hq.1)).mono (fun v w' h => ⟨hq.1.trans h.rc.2, hq.2.gr h.rc.2, h.rc.1⟩))) ?_
            rintro v5 w5' ⟨_, _, E0, E1, Ew, f0, f1, fw, rfl, _⟩
            refine TI.rs_nil ?_
            refine TI.ro_one ?_
            refine TI.rs_v rfl (op_pure rfl) ?_
            refine TI.rs_nil ?_
            refine TI.ro_one ?_
            refine TI.rs_v rfl (op_pure rfl) ?_
            refine TI.rs_nil ?_
            refine TI.ro_one ?_
            refine TI.rs_v rfl (op_pure rfl) ?_
            refine TI.rs_nil ?_
            refine TI.ro_one ?_
            refine TI.rs_special rfl rfl (fun wq hq => pf_store Try.sizeOf33 rfl rfl hq.1 hq.2.1 hq.2.2 (fun w' h => h)) ?_
            rintro v10 w10' ⟨_, _⟩
            refine TI.rs_nil ?_
            refine TI.ro_nil ?_
            rintro w2_ ⟨g2_, hpf⟩
            have hB7 := hB7.gr g2_
            obtain ⟨b9, H0, H1, Hw, h0, h1, hw, e1, hb9, e2, hR9, hB9⟩ := hpf
            cases e1
            obtain ⟨rfl, rfl, rfl, rfl, rfl, rfl⟩ := tuple_ref e2
            refine rw_v (op_pure rfl) ?_
            first | refine rw_end ?_ | (refine rw_nil ?_; show CW _ _ _ _ _ _) | refine rw_nil ?_
            exact ⟨_, _, _, _, _, _, _, ⟨rfl, rfl, rfl, rfl, rfl, rfl, trivial⟩, (by assumption), hb9, hR9, hB9⟩
        rintro eA wA ⟨b9, E0, E1, Ew, f0, f1, fw, hsl, gA, hb9, hR9, hB9⟩
        rw [hsl.fold]
        have hPA := hP.up gA
        repeat refine cw_seq ?_
        refine cw_region ?_
        refine rw_v (op_pure rfl) ?_
        refine rw_v (op_pure rfl) ?_
        refine rw_v (op_pure rfl) ?_
        refine rw_v (op_indexAddrS Try.underlying22 Try.sizeOf37 rfl rfl (by omega) (by omega) (o' := o + k * 4) (by simp)) ?_
        refine rw_r (op_loadA Try.underlying37 rfl (Try.sizeOf37 _) rfl (cs := a.cells A' c') rfl (fun j v hj => cell_gr gA (hcell j v hj))) ?_
        refine rw_call rfl (does_E F p s a A' c' (101 * k) haok hi (by omega) hal wA hPA.disk (hrd.gr gA) (by intro g hg; exact (hPA.fo g hg).2.1)) ?_
        rintro _ wB ⟨rfl, hB⟩
        refine rw_v (op_pure rfl) ?_
        refine rw_v (op_b (b := false) rfl (bne_eq_false_iff_eq.2 rfl)) ?_
        first | refine rw_end ?_ | (refine rw_nil ?_; show CW _ _ _ _ _ _) | refine rw_nil ?_
        repeat refine cw_seq ?_
        refine cw_false rfl ?_
        refine cw_skip ?_
        try show CW _ _ _ _ _ _
        have hDB := hB.1.bound
        have hB9 := hB9.fr hB.2 (fun h => by have := (hP.fo _ h).2.1; omega)
        have hB7 := hPA.blk.fr hB.2 (fun h => (hPA.fo _ h).2.2 rfl)
        have hR9 : RefAt (fun g => Grow F wA g ∧ g < wB.heap.size) wB _ _ _ _ _ _ _ := hR9.fr hB.2 (fun g hg => hg.1)
        have hb7 := hPA.blk.lt
        repeat refine cw_seq ?_
        refine cw_region ?_
        refine rw_r (op_loadAB Try.underlying33 rfl (Try.sizeOf33 _) rfl hB9 rfl rfl) ?_
        refine rw_storeA (n := 7) (Try.sizeOf33 _) rfl rfl rfl hB7 rfl rfl ?_
        intro wC hgC hsC hB7'
        first | refine rw_end ?_ | (refine rw_nil ?_; show CW _ _ _ _ _ _) | refine rw_nil ?_
        have kC : Fr (fun g => g = w3.heap.size) wB wC := Fr.of_grown hgC (fun g e => by injection e with e; exact e.symm)
        have hPC : Pl (fun g => Grow F wA g ∧ g < wB.heap.size) W wC p w3.heap.size (s.does a).2 E0 E1 Ew f0 f1 fw := by
          refine ⟨hDB.fr kC (fun g hg e => ?_), fun g hg => ⟨?_, ?_, ?_⟩, gr_fr (gr_fr hPA.gr hB.2 (fun g hg => (hPA.fo g hg).1)) kC (fun g e => by have e : g = w3.heap.size := e; have := hP.old; omega), hP.old, hR9.past hB7 rfl kC, hB7'⟩
          · have e : g = w3.heap.size := e
            exact hg.1.elim (fun h => (hPA.fo g h).2.2 e) (fun h => by omega)
          · exact hg.1.elim (fun h => (hPA.fo g h).1) (fun h => Nat.le_trans hPA.gr.le h)
          · have := kC.size; have := hg.2; omega
          · exact hg.1.elim (fun h => (hPA.fo g h).2.2) (fun h e => by omega)
        clear hDB hB9 hB7 hR9 hB
        generalize (fun g => Grow F wA g ∧ g < wB.heap.size) = FC at hPC
        generalize (s.does a).2 = s' at *
        have hB7 := hPC.blk
        have hs' := hi'.s1
        have hFC : FO FC wC := fun g hg => (hPC.fo g hg).2.1
        obtain ⟨q0, q1, qs, q2, q3, hAt⟩ := hPC.disk
        have hdk : ∀ wq, Gr wC wq → Fn Try.prog 13 [.pointer (some ⟨p, 0, none⟩)] wq (RetG (.bool s'.dark) wq) := fun wq g => ddark_E FC p s' q0 q1 qs q2 q3 wq (hAt.gr g)
        have hlf : ∀ wq, Gr wC wq → Fn Try.prog 14 [.pointer (some ⟨p, 0, none⟩)] wq (RetG (.int .i64 s'.rleft) wq) := fun wq g => by
          cases hd : s'.dark
          · have := dleft_E FC p s' wq (hPC.disk.gr g) hd ⟨by omega, by omega⟩ hi'.room
            have e : s'.rleft = s'.left := by unfold DS.rleft DS.left; rw [hd, hi'.seen]; rfl
            rw [e]; exact this
          · have := dleftDark_E FC p s' wq (hPC.disk.gr g) hd
            have e : s'.rleft = 0 := by unfold DS.rleft; rw [hd]; rfl
            rw [e]; exact this
        have hrl : ∀ wq, Gr wC wq → _ := fun wq g => rleft_E s' (101 * (k + 1)) (by omega) hi'.oks hi'.l1 hi'.l2 hi'.room wq (hFC.up g) (hPC.ref.gr g)
        have hsn : ∀ (j : Nat), j = 0 ∨ j = 1 → ∀ wq, Gr wC wq → _ := fun j hj wq g => seen_E s' j hj (101 * (k + 1)) (by omega) hi'.oks hi'.l1 hi'.l2 wq (hFC.up g) (hPC.ref.gr g)
        have hB7c := hB7
        repeat refine cw_seq ?_
        refine cw_draw (C := fun wq => Gr wC wq) [0, 1, 2, 3, 4, 5, 6, 7, 8, 9, 10, 11] [] (by kernel_rfl) (by kernel_rfl) (Gr.drew _) ?_
        simp only [pickL, List.drop_succ_cons, List.drop_zero]
        refine rq_v (op_pure rfl) ?_
        refine rq_call rfl (fun wq hq => (hdk wq hq).mono (fun _ _ ⟨hv, hg⟩ => ⟨hv, hq.trans hg⟩)) ?_
        refine rq_v (op_fieldAddr Try.underlying33 rfl Try.sizeOf4 rfl rfl) ?_
        refine rq_r (fun wq hq => op_loadB Try.underlying4 rfl rfl (hB7.gr hq) rfl) ?_
        refine rq_v (op_neqB Try.underlying4 rfl rfl (bne_self_eq_false _)) ?_
        refine rq_v (op_pure rfl) ?_
        first | refine rq_off rfl ?_ | (refine rq_on rfl ?_; refine rq_v (op_pure rfl) ?_)
        first | refine rq_off rfl ?_ | (refine rq_on rfl ?_; refine rq_call rfl (fun wq hq => (hlf wq hq).mono (fun _ _ ⟨hv, hg⟩ => ⟨hv, hq.trans hg⟩)) ?_)
        first | refine rq_off rfl ?_ | (refine rq_on rfl ?_; refine rq_r (fun wq hq => op_loadAB Try.underlying33 rfl (Try.sizeOf33 _) rfl (hB7.gr hq) rfl rfl) ?_)
        first | refine rq_off rfl ?_ | (refine rq_on rfl ?_; refine rq_call rfl (fun wq hq => (hrl wq hq).mono (fun _ _ ⟨hv, hg⟩ => ⟨hv, hq.trans hg⟩)) ?_)
        first | refine rq_off rfl ?_ | (refine rq_on rfl ?_; refine rq_v (op_b (b := false) rfl (bne_eq_false_iff_eq.2 rfl)) ?_)
        refine rq_v (op_pure rfl) ?_
        refine rq_nil ?_
        intro w3_ g3_
        have hB7 := hB7.gr g3_
        first | refine rw_end ?_ | (refine rw_nil ?_; show CW _ _ _ _ _ _) | refine rw_nil ?_
        repeat refine cw_seq ?_
        refine cw_false rfl ?_
        refine cw_skip ?_
        try show CW _ _ _ _ _ _
        repeat refine cw_seq ?_
        refine cw_region ?_
        refine rw_v (op_pure rfl) ?_
        first | refine rw_end ?_ | (refine rw_nil ?_; show CW _ _ _ _ _ _) | refine rw_nil ?_
        repeat refine cw_seq ?_
        refine cw_block ?_
        refine cw_loop (fun m e w' => ∃ j : Nat, j + m = 2 ∧ SL e [(1, .slice (some ⟨b, o, none⟩) l.length c1), (5, .pointer (some ⟨p, 0, none⟩)), (7, .pointer (some ⟨w3.heap.size, 0, none⟩)), (8, .int .i64 k), (11, .int .i64 j)] ∧ Gr wC w') 2 ⟨0, rfl, ⟨rfl, rfl, rfl, rfl, rfl, trivial⟩, (by assumption)⟩ ?_
        rintro m' e' w' ⟨j, hj, hsl, g'⟩
        rw [hsl.fold]
        repeat refine cw_seq ?_
        refine cw_region ?_
        refine rw_v (op_pure rfl) ?_
        refine rw_v (op_pure rfl) ?_
        first | refine rw_end ?_ | (refine rw_nil ?_; show CW _ _ _ _ _ _) | refine rw_nil ?_
        repeat refine cw_seq ?_
        refine cw_cond rfl (fun hc2 => ?_) (fun hc2 => ?_)
        · refine cw_skip ?_
          try show CW _ _ _ _ _ _
          have hc3 : (j : Int) < 2 := by simpa using hc2
          have hj2 : j = 0 ∨ j = 1 := by omega
          have hLx : fileOf j (runs s'.waits s'.last) = (if j = 0 then s'.seen.1 else s'.seen.2) := by rw [hi'.seen]; rfl
          have hsj := hsn j hj2
          rw [hLx] at hsj
          have hB8 := hB7c.gr g'
          unfold DS.ref at hB8 hsj
          repeat refine cw_seq ?_
          refine cw_block ?_
          cases hd : s'.dark
          · have hcall := dread_E FC p s' j hj2 ⟨by omega, by omega⟩ w' (hPC.disk.gr g') hd
            generalize (if j = 0 then s'.seen.1 else s'.seen.2) = Lx at *
            rw [hd] at hB8 hsj
            repeat refine cw_seq ?_
            refine cw_region ?_
            refine rw_v (op_pure rfl) ?_
            refine rw_v (op_pure rfl) ?_
            refine rw_call rfl (hcall) ?_
            rintro _ wR ⟨va, rfl, ra, gR, haR⟩
            obtain ⟨Aa, ca, ea⟩ := ra.slice
            rw [c8_length] at ea
            subst ea
            refine rw_v (op_pure rfl) ?_
            refine rw_v (op_pure rfl) ?_
            refine rw_v (op_pure rfl) ?_
            refine rw_v (op_pure rfl) ?_
            refine rw_v (op_pure rfl) ?_
            first | refine rw_end ?_ | (refine rw_nil ?_; show CW _ _ _ _ _ _) | refine rw_nil ?_
            have hB8 := hB8.gr gR
            repeat refine cw_seq ?_
            refine cw_tri (C := (fun σ wq => Gr wR wq ∧ (match σ with | [] => True | [v] => SlV (fun _ => False) wq Lx v | [u, v] => u = .string (strOf Lx) | _ => False))) [20, 21] [0, 1, 2, 3, 4, 5, 6, 7, 8, 9, 10, 11, 12, 13, 14, 15, 16, 17, 18, 19, 20, 21, 22, 23, 24, 25, 26, 27, 28] [] (by kernel_rfl) (by kernel_rfl) ⟨Gr.drew _, trivial⟩ ?_
            simp only [pickI, pickL, List.drop_succ_cons, List.drop_zero]
            refine rs_v rfl (op_fieldAddr Try.underlying33 rfl Try.sizeOf4 rfl rfl) ?_
            refine rs_r rfl (fun τ wq hq => op_loadB Try.underlying4 rfl rfl (hB8.gr hq.1) rfl) ?_
            refine rs_v rfl (op_pure rfl) ?_
            refine rs_off rfl ?_
            refine rs_off rfl ?_
            refine rs_off rfl ?_
            refine rs_off rfl ?_
            refine rs_off rfl ?_
            refine rs_off rfl ?_
            refine rs_off rfl ?_
            refine rs_v rfl (op_pure rfl) ?_
            refine rs_v rfl (op_pure rfl) ?_
            first | refine rs_off rfl ?_ | (refine rs_on rfl ?_; refine rs_v rfl (op_fieldAddr Try.underlying33 rfl Try.sizeOf4 rfl rfl) ?_)
            first | refine rs_off rfl ?_ | (refine rs_on rfl ?_; refine rs_r rfl (fun τ wq hq => op_loadB Try.underlying4 rfl rfl (hB8.gr hq.1) rfl) ?_)
            first | refine rs_off rfl ?_ | (refine rs_on rfl ?_; refine rs_v rfl (op_pure rfl) ?_)
            first | refine rs_off rfl ?_ | (refine rs_on rfl ?_; refine rs_v rfl (op_pure rfl) ?_)
            first | refine rs_off rfl ?_ | (refine rs_on rfl ?_; refine rs_v rfl (op_pure rfl) ?_)
            refine rs_on rfl ?_
            refine rs_r rfl (fun τ wq hq => op_str Try.underlying29 Try.underlying5 Try.underlying9 rfl (ra.rd.gr hq.1)) ?_
            first | refine rs_off rfl ?_ | (refine rs_on rfl ?_; refine rs_r rfl (fun τ wq hq => op_loadAB Try.underlying33 rfl (Try.sizeOf33 _) rfl (hB8.gr hq.1) rfl rfl) ?_)
            first | refine rs_off rfl ?_ | (refine rs_on rfl ?_; refine rs_v rfl (op_pure rfl) ?_)
            refine rs_on rfl ?_
            refine rs_special rfl rfl (fun wq hq => to_call rfl ((hsj wq ((g'.trans gR).trans hq.1)).mono (fun v w' ⟨A, c, hv, hr, hf, g⟩ => ⟨hq.1.trans g, A, c, hv, hr.sl (F := fun _ => False) (W := wq) (fun _ h => h.elim) hf⟩))) ?_
            rintro v20 w20 ⟨_, A20, c20, rfl, _⟩
            refine rs_on rfl ?_
            refine rs_special rfl rfl (fun wq hq => to_w (op_str Try.underlying29 Try.underlying5 Try.underlying9 rfl (SlV.rd hq.2)) ⟨hq.1, rfl⟩) ?_
            rintro v21 w21 ⟨_, rfl⟩
            refine rs_on rfl ?_
            refine rs_v rfl (op_b (b := false) rfl (by simp)) ?_
            first | refine rs_off rfl ?_ | (refine rs_on rfl ?_; refine rs_v rfl (op_pure rfl) ?_)
            first | refine rs_off rfl ?_ | (refine rs_on rfl ?_; refine rs_v rfl (op_pure rfl) ?_)
            first | refine rs_off rfl ?_ | (refine rs_on rfl ?_; (first | refine rs_v rfl (op_b (b := true) rfl (bne_iff_ne.2 (by omega))) ?_ | refine rs_v rfl (op_b (b := false) rfl (bne_eq_false_iff_eq.2 (by omega))) ?_ | refine rs_v rfl (op_pure rfl) ?_))
            first | refine rs_off rfl ?_ | (refine rs_on rfl ?_; refine rs_v rfl (op_pure rfl) ?_)
            first | refine rs_off rfl ?_ | (refine rs_on rfl ?_; refine rs_v rfl (op_pure rfl) ?_)
            refine rs_v rfl (op_pure rfl) ?_
            refine rs_nil ?_
            rintro w4_ ⟨g4_, _⟩
            have hB8 := hB8.gr g4_
            first | refine rw_end ?_ | (refine rw_nil ?_; show CW _ _ _ _ _ _) | refine rw_nil ?_
            repeat refine cw_seq ?_
            refine cw_false rfl ?_
            refine cw_skip ?_
            try show CW _ _ _ _ _ _
            repeat refine cw_seq ?_
            refine cw_region ?_
            refine rw_v (op_pure rfl) ?_
            refine rw_v (op_rng rfl (by omega)) ?_
            refine rw_v (op_pure rfl) ?_
            first | refine rw_end ?_ | (refine rw_nil ?_; show CW _ _ _ _ _ _) | refine rw_nil ?_
            exact ⟨m' - 1, by omega, j + 1, by omega, ⟨rfl, rfl, rfl, rfl, ie (by omega), trivial⟩, (g'.trans gR).trans (by assumption)⟩
          · have hcode : s'.code (j : Int) = 17 := by unfold DS.code; rw [if_neg (by omega), hd]; rfl
            have hcall := dreadNo_E FC p s' j w' (hPC.disk.gr g') (by rw [hcode]; decide)
            rw [hcode] at hcall
            rw [hd] at hB8
            repeat refine cw_seq ?_
            refine cw_region ?_
            refine rw_v (op_pure rfl) ?_
            refine rw_v (op_pure rfl) ?_
            refine rw_call rfl (hcall) ?_
            rintro _ wR ⟨rfl, gR⟩
            have hB8 := hB8.gr gR
            refine rw_v (op_pure rfl) ?_
            refine rw_v (op_pure rfl) ?_
            refine rw_v (op_pure rfl) ?_
            refine rw_v (op_pure rfl) ?_
            refine rw_v (op_pure rfl) ?_
            first | refine rw_end ?_ | (refine rw_nil ?_; show CW _ _ _ _ _ _) | refine rw_nil ?_
            repeat refine cw_seq ?_
            refine cw_draw (C := fun wq => Gr wR wq) [0, 1, 2, 3, 4, 5, 6, 7, 8, 9, 10, 11, 12, 13, 14, 15, 16, 17, 18, 19, 20, 21, 22, 23, 24, 25, 26, 27, 28] [] (by kernel_rfl) (by kernel_rfl) (Gr.drew _) ?_
            simp only [pickL, List.drop_succ_cons, List.drop_zero]
            refine rq_v (op_fieldAddr Try.underlying33 rfl Try.sizeOf4 rfl rfl) ?_
            refine rq_r (fun wq hq => op_loadB Try.underlying4 rfl rfl (hB8.gr hq) rfl) ?_
            refine rq_v (op_pure rfl) ?_
            first | refine rq_off rfl ?_ | (refine rq_on rfl ?_; refine rq_v (op_pure rfl) ?_)
            first | refine rq_off rfl ?_ | (refine rq_on rfl ?_; refine rq_v (op_len Try.underlying29 rfl) ?_)
            first | refine rq_off rfl ?_ | (refine rq_on rfl ?_; (first | refine rq_v (op_b (b := true) rfl (bne_iff_ne.2 (by omega))) ?_ | refine rq_v (op_b (b := false) rfl (bne_eq_false_iff_eq.2 (by omega))) ?_ | refine rq_v (op_pure rfl) ?_))
            first | refine rq_off rfl ?_ | (refine rq_on rfl ?_; refine rq_v (op_pure rfl) ?_)
            first | refine rq_off rfl ?_ | (refine rq_on rfl ?_; refine rq_v (op_pure rfl) ?_)
            first | refine rq_off rfl ?_ | (refine rq_on rfl ?_; (first | refine rq_v (op_b (b := true) rfl (bne_iff_ne.2 (by omega))) ?_ | refine rq_v (op_b (b := false) rfl (bne_eq_false_iff_eq.2 (by omega))) ?_ | refine rq_v (op_pure rfl) ?_))
            first | refine rq_off rfl ?_ | (refine rq_on rfl ?_; refine rq_v (op_pure rfl) ?_)
            refine rq_v (op_pure rfl) ?_
            refine rq_v (op_pure rfl) ?_
            first | refine rq_off rfl ?_ | (refine rq_on rfl ?_; refine rq_v (op_fieldAddr Try.underlying33 rfl Try.sizeOf4 rfl rfl) ?_)
            first | refine rq_off rfl ?_ | (refine rq_on rfl ?_; refine rq_r (fun wq hq => op_loadB Try.underlying4 rfl rfl (hB8.gr hq) rfl) ?_)
            first | refine rq_off rfl ?_ | (refine rq_on rfl ?_; refine rq_v (op_pure rfl) ?_)
            first | refine rq_off rfl ?_ | (refine rq_on rfl ?_; refine rq_v (op_pure rfl) ?_)
            refine rq_off rfl ?_
            refine rq_off rfl ?_
            refine rq_off rfl ?_
            refine rq_off rfl ?_
            refine rq_off rfl ?_
            refine rq_off rfl ?_
            refine rq_off rfl ?_
            refine rq_off rfl ?_
            refine rq_off rfl ?_
            refine rq_off rfl ?_
            refine rq_off rfl ?_
            first | refine rq_off rfl ?_ | (refine rq_on rfl ?_; refine rq_v (op_pure rfl) ?_)
            refine rq_v (op_pure rfl) ?_
            refine rq_nil ?_
            intro w5_ g5_
            have hB8 := hB8.gr g5_
            first | refine rw_end ?_ | (refine rw_nil ?_; show CW _ _ _ _ _ _) | refine rw_nil ?_
            repeat refine cw_seq ?_
            refine cw_false rfl ?_
            refine cw_skip ?_
            try show CW _ _ _ _ _ _
            repeat refine cw_seq ?_
            refine cw_region ?_
            refine rw_v (op_pure rfl) ?_
            refine rw_v (op_rng rfl (by omega)) ?_
            refine rw_v (op_pure rfl) ?_
            first | refine rw_end ?_ | (refine rw_nil ?_; show CW _ _ _ _ _ _) | refine rw_nil ?_
            exact ⟨m' - 1, by omega, j + 1, by omega, ⟨rfl, rfl, rfl, rfl, ie (by omega), trivial⟩, (g'.trans gR).trans (by assumption)⟩
        · refine cw_exit ?_
          repeat first | refine exit_then ?_ | refine exit_inb ?_
          show CW _ _ _ _ _ _
          repeat refine cw_seq ?_
          refine cw_region ?_
          refine rw_v (op_pure rfl) ?_
          refine rw_v (op_rng rfl (by omega)) ?_
          refine rw_v (op_pure rfl) ?_
          first | refine rw_end ?_ | (refine rw_nil ?_; show CW _ _ _ _ _ _) | refine rw_nil ?_
          exact ⟨m - 1, by omega, k + 1, by omega, ⟨rfl, rfl, rfl, ie (by omega), trivial⟩, s', hi', _, _, _, _, _, _, _, hPC.up g'⟩
      · refine cw_exit ?_
        repeat first | refine exit_then ?_ | refine exit_inb ?_
        exact hP.gr
    · rintro e6 w6 G6
      repeat refine cw_seq ?_
      refine cw_region ?_
      refine rw_v (op_pure rfl) ?_
      first | refine rw_end ?_ | (refine rw_nil ?_; show CW _ _ _ _ _ _) | refine rw_nil ?_
      refine cw_ret ?_
      repeat first | refine ret_then ?_ | refine ret_inb ?_
      exact res1 rfl ⟨rfl, G6⟩
  · by_cases hneg : room < 0
    · repeat refine cw_seq ?_
      refine cw_region ?_
      refine rw_v (op_pure rfl) ?_
      refine rw_call rfl (dnewNo_E room _ (by omega)) ?_
      rintro _ w3 ⟨rfl, g3⟩
      refine rw_v (op_pure rfl) ?_
      refine rw_v (op_pure rfl) ?_
      refine rw_v (op_pure rfl) ?_
      refine rw_v (op_pure rfl) ?_
      refine rw_v (op_pure rfl) ?_
      first | refine rw_end ?_ | (refine rw_nil ?_; show CW _ _ _ _ _ _) | refine rw_nil ?_
      have G1 : Gr W w3 := G0.trans g3
      repeat refine cw_seq ?_
      refine cw_region ?_
      refine rw_v (op_pure rfl) ?_
      first | refine rw_v (op_b (b := true) rfl (decide_eq_true (by omega))) ?_ | refine rw_v (op_b (b := false) rfl (decide_eq_false (by omega))) ?_ | refine rw_v (op_pure rfl) ?_
      refine rw_v (op_pure rfl) ?_
      first | refine rw_off rfl ?_ | (refine rw_on rfl ?_; refine rw_v (op_pure rfl) ?_)
      first | refine rw_off rfl ?_ | (refine rw_on rfl ?_; (first | refine rw_v (op_b (b := true) rfl (decide_eq_true (by omega))) ?_ | refine rw_v (op_b (b := false) rfl (decide_eq_false (by omega))) ?_ | refine rw_v (op_pure rfl) ?_))
      refine rw_v (op_pure rfl) ?_
      first | refine rw_end ?_ | (refine rw_nil ?_; show CW _ _ _ _ _ _) | refine rw_nil ?_
      repeat refine cw_seq ?_
      refine cw_true rfl ?_
      repeat refine cw_seq ?_
      refine cw_region ?_
      refine rw_v (op_pure rfl) ?_
      refine rw_v (op_nilp Try.underlying25 rfl rfl) ?_
      refine rw_v (op_pure rfl) ?_
      first | refine rw_off rfl ?_ | (refine rw_on rfl ?_; refine rw_v (op_pure rfl) ?_)
      first | refine rw_off rfl ?_ | (refine rw_on rfl ?_; (first | refine rw_v (op_b (b := true) rfl (beq_iff_eq.2 (by omega))) ?_ | refine rw_v (op_b (b := false) rfl (beq_eq_false_iff_ne.2 (by omega))) ?_ | refine rw_v (op_pure rfl) ?_))
      refine rw_v (op_pure rfl) ?_
      refine rw_v (op_pure rfl) ?_
      first | refine rw_end ?_ | (refine rw_nil ?_; show CW _ _ _ _ _ _) | refine rw_nil ?_
      refine cw_ret ?_
      repeat first | refine ret_then ?_ | refine ret_inb ?_
      exact res1 rfl ⟨rfl, G1⟩
    · repeat refine cw_seq ?_
      refine cw_region ?_
      refine rw_v (op_pure rfl) ?_
      refine rw_call rfl (dnewNo_E room _ (by omega)) ?_
      rintro _ w3 ⟨rfl, g3⟩
      refine rw_v (op_pure rfl) ?_
      refine rw_v (op_pure rfl) ?_
      refine rw_v (op_pure rfl) ?_
      refine rw_v (op_pure rfl) ?_
      refine rw_v (op_pure rfl) ?_
      first | refine rw_end ?_ | (refine rw_nil ?_; show CW _ _ _ _ _ _) | refine rw_nil ?_
      have G1 : Gr W w3 := G0.trans g3
      repeat refine cw_seq ?_
      refine cw_region ?_
      refine rw_v (op_pure rfl) ?_
      first | refine rw_v (op_b (b := true) rfl (decide_eq_true (by omega))) ?_ | refine rw_v (op_b (b := false) rfl (decide_eq_false (by omega))) ?_ | refine rw_v (op_pure rfl) ?_
      refine rw_v (op_pure rfl) ?_
      first | refine rw_off rfl ?_ | (refine rw_on rfl ?_; refine rw_v (op_pure rfl) ?_)
      first | refine rw_off rfl ?_ | (refine rw_on rfl ?_; (first | refine rw_v (op_b (b := true) rfl (decide_eq_true (by omega))) ?_ | refine rw_v (op_b (b := false) rfl (decide_eq_false (by omega))) ?_ | refine rw_v (op_pure rfl) ?_))
      refine rw_v (op_pure rfl) ?_
      first | refine rw_end ?_ | (refine rw_nil ?_; show CW _ _ _ _ _ _) | refine rw_nil ?_
      repeat refine cw_seq ?_
      refine cw_true rfl ?_
      repeat refine cw_seq ?_
      refine cw_region ?_
      refine rw_v (op_pure rfl) ?_
      refine rw_v (op_nilp Try.underlying25 rfl rfl) ?_
      refine rw_v (op_pure rfl) ?_
      first | refine rw_off rfl ?_ | (refine rw_on rfl ?_; refine rw_v (op_pure rfl) ?_)
      first | refine rw_off rfl ?_ | (refine rw_on rfl ?_; (first | refine rw_v (op_b (b := true) rfl (beq_iff_eq.2 (by omega))) ?_ | refine rw_v (op_b (b := false) rfl (beq_eq_false_iff_ne.2 (by omega))) ?_ | refine rw_v (op_pure rfl) ?_))
      refine rw_v (op_pure rfl) ?_
      refine rw_v (op_pure rfl) ?_
      first | refine rw_end ?_ | (refine rw_nil ?_; show CW _ _ _ _ _ _) | refine rw_nil ?_
      refine cw_ret ?_
      repeat first | refine ret_then ?_ | refine ret_inb ?_
      exact res1 rfl ⟨rfl, G1⟩
