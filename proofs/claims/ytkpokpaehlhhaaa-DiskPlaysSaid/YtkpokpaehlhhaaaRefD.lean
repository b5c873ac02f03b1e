/- The document's disk: Cut, settled, Sync, Crash. -/
import Derived.Test.YtkpokpaehlhhaaaRefC
namespace Go.Proofs.Ytkpokpaehlhhaaa
open Go.RowKit
set_option linter.unusedVariables false
set_option linter.unusedSimpArgs false
set_option maxRecDepth 100000

section
variable {P : Program} {e : Nat → Value} {d : Option Tmp} {ty : TypeId} {ps : String} {af : Array Edge}
/-- an array's literal -/
theorem op_buildArr {t el : TypeId} {m k : Nat} {parts : List (Nat × Operand)} {z : Value} {l0 l : List Value} (hu : P.underlying t = some (.array m el)) (hz : ∀ w, (zeroValue t).run P w = .ok z w)
    (hs : ∀ w, (sizeOf el).run P w = .ok k w)
    (h1 : lay (fun i => some (i * k, k)) z.cells.toList (evp e parts) = some l0) (h2 : fzl l0 = some l) : OpV P e ⟨d, .build t parts.toArray, ty, ps, af, none⟩ (.agg l.toArray) := by
  intro w
  have h0 := fzl_eq h2
  subst h0
  have h3 := fill_of_lay h1
  have h4 : (z.cells.toList).toArray = z.cells := by simp
  rw [h4] at h3
  have h5 : (parts.map fun p => (p.1, ev e p.2)) = evp e parts := evp_eq e parts
  simp [OpR, execOp, Instr.build, hz, run_underlying hu, hs, h5, h3]
end
section
variable {F : Nat → Prop} {A0 A1 Aw : Option Addr} {c0 c1 cw : Nat}
theorem rdeedBurn_E (s : DS) (Au : Option Addr) (n cu : Nat) (hb : s.burns = true) (W : World) (hF : FO F W) (hR : RefAt F W s A0 A1 Aw c0 c1 cw) :
    Fn Try.prog 61 [.agg (s.ref A0 A1 Aw c0 c1 cw).toArray, .slice Au n cu] W (RetRefC F 17 { s with dark := true } W) := by
  obtain ⟨room, last, waits, seen, fused, fuse, dark⟩ := s
  unfold DS.ref
  unfold DS.burns at hb
  dsimp only at *
  simp only [Bool.and_eq_true, beq_iff_eq] at hb
  obtain ⟨rfl, rfl⟩ := hb
  have S := St.start W
  refine Fn_enter Try.func61 rfl Try.results61 Try.ntmps61 (by kernel_rfl) (by kernel_rfl) ?_
  repeat refine cw_seq ?_
  refine cw_region ?_
  refine rw_newB (op_box rfl) S ?_
  intro b_D w2_ g2_ S
  refine rw_newB (op_alloc Try.zeroValue33 rfl) S ?_
  intro b_R w4_ g4_ S
  refine rw_v (op_pure rfl) ?_
  first | refine rw_end ?_ | (refine rw_nil ?_; show CW _ _ _ _ _ _) | refine rw_nil ?_
  repeat refine cw_seq ?_
  refine cw_region ?_
  refine rw_v (op_fieldAddr Try.underlying33 rfl Try.sizeOf4 rfl rfl) ?_
  refine rw_r (op_loadB Try.underlying4 rfl rfl (S.blk (i := 1) rfl) rfl) ?_
  refine rw_v (op_pure rfl) ?_
  first | refine rw_off rfl ?_ | (refine rw_on rfl ?_; refine rw_v (op_fieldAddr Try.underlying33 rfl Try.sizeOf2 rfl rfl) ?_)
  first | refine rw_off rfl ?_ | (refine rw_on rfl ?_; refine rw_r (op_loadB Try.underlying2 rfl rfl (S.blk (i := 1) rfl) rfl) ?_)
  first | refine rw_off rfl ?_ | (refine rw_on rfl ?_; (first | refine rw_v (op_b (b := true) rfl (beq_iff_eq.2 (by omega))) ?_ | refine rw_v (op_b (b := false) rfl (beq_eq_false_iff_ne.2 (by omega))) ?_ | refine rw_v (op_pure rfl) ?_))
  refine rw_v (op_pure rfl) ?_
  first | refine rw_end ?_ | (refine rw_nil ?_; show CW _ _ _ _ _ _) | refine rw_nil ?_
  repeat refine cw_seq ?_
  refine cw_true rfl ?_
  repeat refine cw_seq ?_
  refine cw_region ?_
  refine rw_v (op_fieldAddr Try.underlying33 rfl Try.sizeOf4 rfl rfl) ?_
  refine rw_storeS (i := 1) S rfl (Try.sizeOf4 _) rfl rfl rfl rfl rfl rfl ?_
  intro w5_ S
  first | refine rw_end ?_ | (refine rw_nil ?_; show CW _ _ _ _ _ _) | refine rw_nil ?_
  repeat refine cw_seq ?_
  refine cw_region ?_
  refine rw_r (op_loadAB Try.underlying33 rfl (Try.sizeOf33 _) rfl (S.blk (i := 1) rfl) rfl rfl) ?_
  refine rw_storeSA (i := 0) S rfl (Try.sizeOf33 _) rfl rfl rfl rfl rfl rfl ?_
  intro w6_ S
  refine rw_v (op_pure rfl) ?_
  first | refine rw_end ?_ | (refine rw_nil ?_; show CW _ _ _ _ _ _) | refine rw_nil ?_
  repeat refine cw_seq ?_
  refine cw_ret ?_
  repeat first | refine ret_then ?_ | refine ret_inb ?_
  exact resAT Try.underlying33 rfl (Try.sizeOf33 _) rfl (S.blk (i := 0) rfl) rfl rfl rfl ⟨A0, A1, Aw, c0, c1, cw, rfl, ⟨hR.f0.gr S.out, hR.f1.gr S.out, hR.us.gr S.out⟩, S.out⟩
def SlV (F : Nat → Prop) (w : World) (l : List Int) (v : Value) : Prop := ∃ A c, v = .slice A l.length c ∧ Sl F w A l.length c (c8 l)
theorem SlV.gr {F : Nat → Prop} {w w' : World} {l : List Int} {v : Value} (h : SlV F w l v) (g : Gr w w') : SlV F w' l v := by
  obtain ⟨A, c, h1, h2⟩ := h
  exact ⟨A, c, h1, h2.gr g⟩
set_option maxHeartbeats 2000000 in
theorem rsettled_E (s : DS) (k B : Nat) (hk : k ≤ s.waits.length) (hB : B < 274877906944) (hok : oks s.waits s.last) (h1 : s.last.1.length + s.waits.length ≤ B) (h2 : s.last.2.length + s.waits.length ≤ B) (W : World) (hF : FO F W) (hR : RefAt F W s A0 A1 Aw c0 c1 cw) :
    Fn Try.prog 62 [.agg (s.ref A0 A1 Aw c0 c1 cw).toArray, .int .i64 k] W (RetRef F (s.settled k) W) := by
  have ek : (s.waits.take k).length = k := by rw [List.length_take]; omega
  have hR1 : RefAt F W { s with waits := s.waits.take k } A0 A1 Aw c0 c1 cw := ⟨hR.f0, hR.f1, by
    have hcap := hR.us.cap
    refine ⟨?_, by show (s.waits.take k).length ≤ cw; omega, hR.us.nil, fun h => hR.us.out (fun e => h (by show unitsV (s.waits.take k) = []; rw [unitsV_take, e, List.take_nil]))⟩
    show Rd W Aw (unitsV (s.waits.take k))
    rw [unitsV_take]; exact hR.us.rd.take _⟩
  have hcw := hR.us.cap
  have hs0 : ∀ w, Gr W w → _ := fun w g => seen_E { s with waits := s.waits.take k } 0 (.inl rfl) B hB (oks_take hok k) (by show s.last.1.length + (s.waits.take k).length ≤ B; omega) (by show s.last.2.length + (s.waits.take k).length ≤ B; omega) w (hF.up g) (hR1.gr g)
  have hs1 : ∀ w, Gr W w → _ := fun w g => seen_E { s with waits := s.waits.take k } 1 (.inr rfl) B hB (oks_take hok k) (by show s.last.1.length + (s.waits.take k).length ≤ B; omega) (by show s.last.2.length + (s.waits.take k).length ≤ B; omega) w (hF.up g) (hR1.gr g)
  obtain ⟨room, last, waits, seen, fused, fuse, dark⟩ := s
  unfold DS.ref at *
  unfold DS.settled
  dsimp only at *
  rw [ek] at hs0 hs1
  have e0 : fileOf 0 (runs (waits.take k) last) = (runs (waits.take k) last).1 := rfl
  have e1 : fileOf 1 (runs (waits.take k) last) = (runs (waits.take k) last).2 := rfl
  rw [e0] at hs0
  rw [e1] at hs1
  generalize runs (waits.take k) last = L at *
  have S := St.start W
  refine Fn_enter Try.func62 rfl Try.results62 Try.ntmps62 (by kernel_rfl) (by kernel_rfl) ?_
  repeat refine cw_seq ?_
  refine cw_region ?_
  refine rw_newB (op_box rfl) S ?_
  intro b_D w2_ g2_ S
  refine rw_newB (op_alloc Try.zeroValue33 rfl) S ?_
  intro b_R w4_ g4_ S
  first | refine rw_end ?_ | (refine rw_nil ?_; show CW _ _ _ _ _ _) | refine rw_nil ?_
  repeat refine cw_seq ?_
  refine cw_region ?_
  refine rw_v (op_fieldAddr Try.underlying33 rfl Try.sizeOf31 rfl rfl) ?_
  refine rw_r (op_loadB Try.underlying31 rfl rfl (S.blk (i := 1) rfl) rfl) ?_
  refine rw_v (op_pure rfl) ?_
  refine rw_v (op_slice_h Try.underlying31 Try.sizeOf92 rfl rfl (by omega) (by omega)) ?_
  refine rw_v (op_fieldAddr Try.underlying33 rfl Try.sizeOf31 rfl rfl) ?_
  refine rw_storeS (i := 1) S rfl (Try.sizeOf31 _) rfl rfl rfl rfl rfl rfl ?_
  intro w5_ S
  first | refine rw_end ?_ | (refine rw_nil ?_; show CW _ _ _ _ _ _) | refine rw_nil ?_
  repeat refine cw_seq ?_
  refine cw_tri (C := (fun σ wq => Gr w5_ wq ∧ (match σ with | [] => True | [v] => SlV F wq L.1 v | [u, v] => SlV F wq L.1 v ∧ SlV F wq L.2 u | _ => False))) [1, 3] [0, 2, 1, 3, 4] [5, 6] (by kernel_rfl) (by kernel_rfl) ⟨Gr.drew _, trivial⟩ ?_
  simp only [pickI, pickL, List.drop_succ_cons, List.drop_zero]
  refine rs_r rfl (fun τ wq hq => op_loadAB Try.underlying33 rfl (Try.sizeOf33 _) rfl ((S.gr hq.1).blk (i := 1) rfl) rfl rfl) ?_
  refine rs_r rfl (fun τ wq hq => op_loadAB Try.underlying33 rfl (Try.sizeOf33 _) rfl ((S.gr hq.1).blk (i := 1) rfl) rfl rfl) ?_
  refine rs_special rfl rfl (fun wq hq => to_call rfl ((hs0 wq (S.out.trans hq.1)).mono (fun v w' ⟨A, c, hv, hr, hf, g⟩ => ⟨hq.1.trans g, A, c, hv, hr.sl (hF.up (S.out.trans hq.1)) hf⟩))) ?_
  rintro v1 w1 ⟨_, A1', c1', rfl, _⟩
  refine rs_special rfl rfl (fun wq hq => to_call rfl ((hs1 wq (S.out.trans hq.1)).mono (fun v w' ⟨A, c, hv, hr, hf, g⟩ => ⟨hq.1.trans g, hq.2.gr g, A, c, hv, hr.sl (hF.up (S.out.trans hq.1)) hf⟩))) ?_
  rintro v3 w3 ⟨_, _, A3', c3', rfl, _⟩
  refine rs_v rfl (op_buildArr Try.underlying30 Try.zeroValue30 Try.sizeOf29 rfl rfl) ?_
  refine rs_nil ?_
  rintro w6_ ⟨g6_, hsp⟩
  have S := S.gr g6_
  obtain ⟨⟨A5, c5, e5, h5⟩, A6, c6, e6, h6⟩ := hsp
  cases e5
  cases e6
  refine rw_v (op_fieldAddr Try.underlying33 rfl Try.sizeOf30 rfl rfl) ?_
  refine rw_storeSAF (i := 1) S rfl (Try.sizeOf30 _) rfl rfl rfl rfl rfl rfl ?_
  intro w9 k9 B9 S
  have h5 : Sl F w9 _ _ _ _ := ⟨h5.rd.past (c8_has _) B9 rfl k9, h5.cap, h5.nil, h5.out⟩
  have h6 : Sl F w9 _ _ _ _ := ⟨h6.rd.past (c8_has _) B9 rfl k9, h6.cap, h6.nil, h6.out⟩
  have hR' : RefAt F w9 ⟨room, L, [], L, fused, fuse, dark⟩ _ _ none _ _ 0 := ⟨h5, h6, .inl rfl, Nat.le_refl _, fun _ => rfl, fun _ a h => nomatch h⟩
  first | refine rw_end ?_ | (refine rw_nil ?_; show CW _ _ _ _ _ _) | refine rw_nil ?_
  repeat refine cw_seq ?_
  refine cw_region ?_
  refine rw_v (op_fieldAddr Try.underlying33 rfl Try.sizeOf31 rfl rfl) ?_
  refine rw_storeSF (i := 1) S rfl (Try.sizeOf31 _) rfl rfl rfl rfl rfl rfl ?_
  intro w10 k10 B10 S
  have hR' := hR'.past B10 rfl k10
  first | refine rw_end ?_ | (refine rw_nil ?_; show CW _ _ _ _ _ _) | refine rw_nil ?_
  repeat refine cw_seq ?_
  refine cw_region ?_
  refine rw_r (op_loadAB Try.underlying33 rfl (Try.sizeOf33 _) rfl (S.blk (i := 1) rfl) rfl rfl) ?_
  refine rw_storeSAF (i := 0) S rfl (Try.sizeOf33 _) rfl rfl rfl rfl rfl rfl ?_
  intro w11 k11 B11 S
  have hR' := hR'.past B11 rfl k11
  first | refine rw_end ?_ | (refine rw_nil ?_; show CW _ _ _ _ _ _) | refine rw_nil ?_
  repeat refine cw_seq ?_
  refine cw_ret ?_
  repeat first | refine ret_then ?_ | refine ret_inb ?_
  exact resA Try.underlying33 rfl (Try.sizeOf33 _) rfl (S.blk (i := 0) rfl) rfl rfl ⟨⟨_, _, none, _, _, 0, rfl, hR'⟩, S.out⟩
end
