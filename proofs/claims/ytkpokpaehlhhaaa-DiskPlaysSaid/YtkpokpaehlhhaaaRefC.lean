/- The document's disk: Append. -/
import Derived.Test.YtkpokpaehlhhaaaRefB
namespace Go.Proofs.Ytkpokpaehlhhaaa
open Go.RowKit
set_option linter.unusedVariables false
set_option linter.unusedSimpArgs false
set_option maxRecDepth 100000

section
variable {P : Program} {ops : Array Oper} {Q : (Nat → Value) → World → Prop} {e : Nat → Value} {W w : World} {rest : List Oper} {F : Nat → Prop} {L L' : List HA}
variable {d : Option Tmp} {ty : TypeId} {ps : String} {af : Array Edge}
/-- a store of a struct into a part; what changes is told -/
theorem rw_storeSAF {i : Nat} {t tb : TypeId} {x y : Operand} {b o n : Nat} {l cs l' : List Value} (S : St F W w L) (hi : getO L i = some (.blk b tb l)) (hz : (sizeOf t).run P w = .ok n w) (hx : ev e x = .pointer (some ⟨b, o, none⟩)) (hy : ev e y = .agg cs.toArray) (hn : cs.length = n)
    (hl' : fzl (l.take o ++ cs ++ l.drop (o + n)) = some l') (ho : ((cs.all fun v => v.oneCell') && Nat.ble (o + n) l.length) = true)
    (hs : setO L i (.blk b tb l') = some L') (hr : ∀ w', Fr (fun g => g = b) w w' → Blk w b tb l → St F W w' L' → RW P ops Q rest (updO e d undef) w') : RW P ops Q (⟨d, .store t x y, ty, ps, af, none⟩ :: rest) e w :=
  rw_storeA hz hx hy hn (S.blk hi) hl' ho fun w' hg _ hB => hr w' (Fr.of_grown (F := fun g => g = b) hg (fun g e => by injection e with e; exact e.symm)) (S.blk hi) (S.setBlk hi hs hg hB)
theorem rw_storeSF {i : Nat} {t tb : TypeId} {x y : Operand} {b o : Nat} {l : List Value} {v u : Value} (S : St F W w L) (hi : getO L i = some (.blk b tb l)) (hz : (sizeOf t).run P w = .ok 1 w) (hx : ev e x = .pointer (some ⟨b, o, none⟩)) (hy : fz (ev e y) = some v) (hv : v.oneCell' = true) (hvc : v.cells = #[v]) (hl : l[o]? = some u)
    (hs : setO L i (.blk b tb (l.set o v)) = some L') (hr : ∀ w', Fr (fun g => g = b) w w' → Blk w b tb l → St F W w' L' → RW P ops Q rest (updO e d undef) w') : RW P ops Q (⟨d, .store t x y, ty, ps, af, none⟩ :: rest) e w :=
  rw_store hz hx hy hv hvc (S.blk hi) hl fun w' hg _ hB => hr w' (Fr.of_grown (F := fun g => g = b) hg (fun g e => by injection e with e; exact e.symm)) (S.blk hi) (S.setBlk hi hs hg hB)
end
/-! ### Bytes lie apart from cells that are none -/
def isU8 : Value → Bool
  | .int .u8 _ => true
  | _ => false
def noU8 (l : List Value) : Bool := l.all fun v => !isU8 v
theorem Rd.past {A : Option Addr} {xs l : List Value} {w w' : World} {p t : Nat} (h : Rd w A xs) (hx : xs = [] ∨ ∃ (j : Nat) (b : Int), xs[j]? = some (.int .u8 b)) (hB : Blk w p t l) (hl : noU8 l = true) (k : Fr (fun g => g = p) w w') : Rd w' A xs := by
  rcases hx with rfl | ⟨j, b, hj⟩
  · exact .inl rfl
  · rcases h with rfl | ⟨b', o, rfl, hlt, hc⟩
    · cases hj
    · refine Rd.fr (.inr ⟨b', o, rfl, hlt, hc⟩) k (fun a ha e => ?_)
      cases ha
      have e : b' = p := e
      subst e
      have h1 := hc j _ hj
      rw [hB.cell] at h1
      have h2 := List.all_eq_true.1 hl _ (List.mem_of_getElem? h1)
      cases h2
theorem c8_has (bs : List Int) : c8 bs = [] ∨ ∃ (j : Nat) (b : Int), (c8 bs)[j]? = some (.int .u8 b) := by
  cases bs with
  | nil => exact .inl rfl
  | cons b bs => exact .inr ⟨0, b, rfl⟩
theorem unitsV_has (us : List DU) : unitsV us = [] ∨ ∃ (j : Nat) (b : Int), (unitsV us)[j]? = some (.int .u8 b) := by
  cases us with
  | nil => exact .inl rfl
  | cons u us =>
    cases u with
    | add f b => exact .inr ⟨1, b, rfl⟩
    | cut f n => exact .inr ⟨1, 0, rfl⟩
theorem RefAt.past {F : Nat → Prop} {s : DS} {A0 A1 Aw : Option Addr} {c0 c1 cw : Nat} {w w' : World} {p t : Nat} {l : List Value} (h : RefAt F w s A0 A1 Aw c0 c1 cw) (hB : Blk w p t l) (hl : noU8 l = true) (k : Fr (fun g => g = p) w w') : RefAt F w' s A0 A1 Aw c0 c1 cw :=
  ⟨⟨h.f0.rd.past (c8_has _) hB hl k, h.f0.cap, h.f0.nil, h.f0.out⟩, ⟨h.f1.rd.past (c8_has _) hB hl k, h.f1.cap, h.f1.nil, h.f1.out⟩, ⟨h.us.rd.past (unitsV_has _) hB hl k, h.us.cap, h.us.nil, h.us.out⟩⟩

section
variable {F : Nat → Prop} {A0 A1 Aw : Option Addr} {c0 c1 cw : Nat}
def DS.appD (s : DS) (file : Int) (bs : List Int) : Int × DS := if s.code file ≠ 0 then (s.code file, s) else if s.burns = false ∧ s.left < bs.length then (16, s) else s.deed (addsOf file.toNat bs)
theorem rappNo_E (s : DS) (file : Int) (A : Option Addr) (n c : Nat) (hc : s.code file ≠ 0) (W : World) (hF : FO F W) (hR : RefAt F W s A0 A1 Aw c0 c1 cw) :
    Fn Try.prog 32 [.agg (s.ref A0 A1 Aw c0 c1 cw).toArray, .int .i64 file, .slice A n c] W (RetRefC F (s.code file) s W) := by
  obtain ⟨room, last, waits, seen, fused, fuse, dark⟩ := s
  unfold DS.ref
  unfold DS.code at *
  dsimp only at *
  by_cases h1 : file < 0
  · rw [if_pos (by omega)]
    have S := St.start W
    refine Fn_enter Try.func32 rfl Try.results32 Try.ntmps32 (by kernel_rfl) (by kernel_rfl) ?_
    repeat refine cw_seq ?_
    refine cw_region ?_
    refine rw_newB (op_box rfl) S ?_
    intro b_D w2_ g2_ S
    refine rw_newB (op_alloc Try.zeroValue33 rfl) S ?_
    intro b_R w4_ g4_ S
    refine rw_v (op_pure rfl) ?_
    first | refine rw_end ?_ | (refine rw_nil ?_; show CW _ _ _ _ _ _) | refine rw_nil ?_
    repeat refine cw_seq ?_
    refine cw_region ?_
    refine rw_v (op_pure rfl) ?_
    first | refine rw_v (op_b (b := true) rfl (decide_eq_true (by omega))) ?_ | refine rw_v (op_b (b := false) rfl (decide_eq_false (by omega))) ?_ | refine rw_v (op_pure rfl) ?_
    refine rw_v (op_pure rfl) ?_
    first | refine rw_off rfl ?_ | (refine rw_on rfl ?_; refine rw_v (op_pure rfl) ?_)
    first | refine rw_off rfl ?_ | (refine rw_on rfl ?_; (first | refine rw_v (op_b (b := true) rfl (decide_eq_true (by omega))) ?_ | refine rw_v (op_b (b := false) rfl (decide_eq_false (by omega))) ?_ | refine rw_v (op_pure rfl) ?_))
    refine rw_v (op_pure rfl) ?_
    first | refine rw_end ?_ | (refine rw_nil ?_; show CW _ _ _ _ _ _) | refine rw_nil ?_
    repeat refine cw_seq ?_
    refine cw_true rfl ?_
    repeat refine cw_seq ?_
    refine cw_region ?_
    refine rw_r (op_loadAB Try.underlying33 rfl (Try.sizeOf33 _) rfl (S.blk (i := 1) rfl) rfl rfl) ?_
    refine rw_storeSA (i := 0) S rfl (Try.sizeOf33 _) rfl rfl rfl rfl rfl rfl ?_
    intro w5_ S
    refine rw_v (op_pure rfl) ?_
    first | refine rw_end ?_ | (refine rw_nil ?_; show CW _ _ _ _ _ _) | refine rw_nil ?_
    repeat refine cw_seq ?_
    refine cw_ret ?_
    repeat first | refine ret_then ?_ | refine ret_inb ?_
    exact resAT Try.underlying33 rfl (Try.sizeOf33 _) rfl (S.blk (i := 0) rfl) rfl rfl rfl ⟨A0, A1, Aw, c0, c1, cw, rfl, hR.gr S.out, S.out⟩
  · by_cases h2 : 1 < file
    · rw [if_pos (by omega)]
      have S := St.start W
      refine Fn_enter Try.func32 rfl Try.results32 Try.ntmps32 (by kernel_rfl) (by kernel_rfl) ?_
      repeat refine cw_seq ?_
      refine cw_region ?_
      refine rw_newB (op_box rfl) S ?_
      intro b_D w2_ g2_ S
      refine rw_newB (op_alloc Try.zeroValue33 rfl) S ?_
      intro b_R w4_ g4_ S
      refine rw_v (op_pure rfl) ?_
      first | refine rw_end ?_ | (refine rw_nil ?_; show CW _ _ _ _ _ _) | refine rw_nil ?_
      repeat refine cw_seq ?_
      refine cw_region ?_
      refine rw_v (op_pure rfl) ?_
      first | refine rw_v (op_b (b := true) rfl (decide_eq_true (by omega))) ?_ | refine rw_v (op_b (b := false) rfl (decide_eq_false (by omega))) ?_ | refine rw_v (op_pure rfl) ?_
      refine rw_v (op_pure rfl) ?_
      first | refine rw_off rfl ?_ | (refine rw_on rfl ?_; refine rw_v (op_pure rfl) ?_)
      first | refine rw_off rfl ?_ | (refine rw_on rfl ?_; (first | refine rw_v (op_b (b := true) rfl (decide_eq_true (by omega))) ?_ | refine rw_v (op_b (b := false) rfl (decide_eq_false (by omega))) ?_ | refine rw_v (op_pure rfl) ?_))
      refine rw_v (op_pure rfl) ?_
      first | refine rw_end ?_ | (refine rw_nil ?_; show CW _ _ _ _ _ _) | refine rw_nil ?_
      repeat refine cw_seq ?_
      refine cw_true rfl ?_
      repeat refine cw_seq ?_
      refine cw_region ?_
      refine rw_r (op_loadAB Try.underlying33 rfl (Try.sizeOf33 _) rfl (S.blk (i := 1) rfl) rfl rfl) ?_
      refine rw_storeSA (i := 0) S rfl (Try.sizeOf33 _) rfl rfl rfl rfl rfl rfl ?_
      intro w5_ S
      refine rw_v (op_pure rfl) ?_
      first | refine rw_end ?_ | (refine rw_nil ?_; show CW _ _ _ _ _ _) | refine rw_nil ?_
      repeat refine cw_seq ?_
      refine cw_ret ?_
      repeat first | refine ret_then ?_ | refine ret_inb ?_
      exact resAT Try.underlying33 rfl (Try.sizeOf33 _) rfl (S.blk (i := 0) rfl) rfl rfl rfl ⟨A0, A1, Aw, c0, c1, cw, rfl, hR.gr S.out, S.out⟩
    · rw [if_neg (by omega)] at hc ⊢
      cases dark
      · exact absurd rfl hc
      · skip
        have S := St.start W
        refine Fn_enter Try.func32 rfl Try.results32 Try.ntmps32 (by kernel_rfl) (by kernel_rfl) ?_
        repeat refine cw_seq ?_
        refine cw_region ?_
        refine rw_newB (op_box rfl) S ?_
        intro b_D w2_ g2_ S
        refine rw_newB (op_alloc Try.zeroValue33 rfl) S ?_
        intro b_R w4_ g4_ S
        refine rw_v (op_pure rfl) ?_
        first | refine rw_end ?_ | (refine rw_nil ?_; show CW _ _ _ _ _ _) | refine rw_nil ?_
        repeat refine cw_seq ?_
        refine cw_region ?_
        refine rw_v (op_pure rfl) ?_
        first | refine rw_v (op_b (b := true) rfl (decide_eq_true (by omega))) ?_ | refine rw_v (op_b (b := false) rfl (decide_eq_false (by omega))) ?_ | refine rw_v (op_pure rfl) ?_
        refine rw_v (op_pure rfl) ?_
        first | refine rw_off rfl ?_ | (refine rw_on rfl ?_; refine rw_v (op_pure rfl) ?_)
        first | refine rw_off rfl ?_ | (refine rw_on rfl ?_; (first | refine rw_v (op_b (b := true) rfl (decide_eq_true (by omega))) ?_ | refine rw_v (op_b (b := false) rfl (decide_eq_false (by omega))) ?_ | refine rw_v (op_pure rfl) ?_))
        refine rw_v (op_pure rfl) ?_
        first | refine rw_end ?_ | (refine rw_nil ?_; show CW _ _ _ _ _ _) | refine rw_nil ?_
        repeat refine cw_seq ?_
        refine cw_false rfl ?_
        repeat refine cw_seq ?_
        refine cw_skip ?_
        try show CW _ _ _ _ _ _
        repeat refine cw_seq ?_
        refine cw_region ?_
        refine rw_v (op_fieldAddr Try.underlying33 rfl Try.sizeOf4 rfl rfl) ?_
        refine rw_r (op_loadB Try.underlying4 rfl rfl (S.blk (i := 1) rfl) rfl) ?_
        first | refine rw_end ?_ | (refine rw_nil ?_; show CW _ _ _ _ _ _) | refine rw_nil ?_
        repeat refine cw_seq ?_
        refine cw_true rfl ?_
        repeat refine cw_seq ?_
        refine cw_region ?_
        refine rw_r (op_loadAB Try.underlying33 rfl (Try.sizeOf33 _) rfl (S.blk (i := 1) rfl) rfl rfl) ?_
        refine rw_storeSA (i := 0) S rfl (Try.sizeOf33 _) rfl rfl rfl rfl rfl rfl ?_
        intro w5_ S
        refine rw_v (op_pure rfl) ?_
        first | refine rw_end ?_ | (refine rw_nil ?_; show CW _ _ _ _ _ _) | refine rw_nil ?_
        repeat refine cw_seq ?_
        refine cw_ret ?_
        repeat first | refine ret_then ?_ | refine ret_inb ?_
        exact resAT Try.underlying33 rfl (Try.sizeOf33 _) rfl (S.blk (i := 0) rfl) rfl rfl rfl ⟨A0, A1, Aw, c0, c1, cw, rfl, hR.gr S.out, S.out⟩
theorem addsOf_take (f : Nat) (bs : List Int) {k : Nat} {b : Int} (h : bs[k]? = some b) : unitsV (addsOf f (bs.take (k + 1))) = unitsV (addsOf f (bs.take k)) ++ [.int .i64 f, .int .u8 b, .int .i64 (-1)] := by
  rw [List.take_add_one, h]
  unfold addsOf
  rw [List.map_append, unitsV_append]
  rfl
set_option maxHeartbeats 4000000 in
theorem rapp_E (s : DS) (f : Nat) (bs : List Int) (A : Option Addr) (c B : Nat) (hc : s.code f = 0) (hi : Inv B s) (hB : B < 137438953472) (hl : bs.length ≤ 100) (W : World) (hF : FO F W) (hR : RefAt F W s A0 A1 Aw c0 c1 cw) (hA : Rd W A (c8 bs)) :
    Fn Try.prog 32 [.agg (s.ref A0 A1 Aw c0 c1 cw).toArray, .int .i64 f, .slice A bs.length c] W (RetRefC F (s.appD f bs).1 (s.appD f bs).2 W) := by
  have hf := code_file hc
  have hleft : ∀ w, Gr W w → _ := fun w g => rleft_E s B (by omega) hi.oks hi.l1 hi.l2 hi.room w (hF.up g) (hR.gr g)
  have hlf : s.rleft = s.left := by unfold DS.rleft DS.left; rw [hf.2, hi.seen]; rfl
  have happ : s.appD f bs = if s.burns = false ∧ s.left < bs.length then (16, s) else s.deed (addsOf f bs) := by unfold DS.appD; rw [if_neg (by simp [hc])]; rfl
  have hdeed : ∀ (Au : Option Addr) (cu : Nat) (w : World), Gr W w → Sl F w Au (addsOf f bs).length cu (unitsV (addsOf f bs)) → _ := fun Au cu w g hU => rdeed_E s (addsOf f bs) Au cu hi.fuse (by have := hi.l1; rw [addsOf_length]; omega) w (hF.up g) (hR.gr g) hU
  rw [addsOf_length] at hdeed
  rw [happ, ← hlf]
  have hfu := hi.fuse
  have hdk := hf.2
  obtain ⟨room, last, waits, seen, fused, fuse, dark⟩ := s
  unfold DS.ref at *
  unfold DS.burns
  dsimp only at *
  subst hdk
  generalize DS.rleft _ = lf at *
  have hf1 : (f : Int) = 0 ∨ (f : Int) = 1 := hf.1
  have S := St.start W
  refine Fn_enter Try.func32 rfl Try.results32 Try.ntmps32 (by kernel_rfl) (by kernel_rfl) ?_
  repeat refine cw_seq ?_
  refine cw_region ?_
  refine rw_newB (op_box rfl) S ?_
  intro b_D w2_ g2_ S
  refine rw_newB (op_alloc Try.zeroValue33 rfl) S ?_
  intro b_R w4_ g4_ S
  refine rw_v (op_pure rfl) ?_
  first | refine rw_end ?_ | (refine rw_nil ?_; show CW _ _ _ _ _ _) | refine rw_nil ?_
  repeat refine cw_seq ?_
  refine cw_region ?_
  refine rw_v (op_pure rfl) ?_
  first | refine rw_v (op_b (b := true) rfl (decide_eq_true (by omega))) ?_ | refine rw_v (op_b (b := false) rfl (decide_eq_false (by omega))) ?_ | refine rw_v (op_pure rfl) ?_
  refine rw_v (op_pure rfl) ?_
  first | refine rw_off rfl ?_ | (refine rw_on rfl ?_; refine rw_v (op_pure rfl) ?_)
  first | refine rw_off rfl ?_ | (refine rw_on rfl ?_; (first | refine rw_v (op_b (b := true) rfl (decide_eq_true (by omega))) ?_ | refine rw_v (op_b (b := false) rfl (decide_eq_false (by omega))) ?_ | refine rw_v (op_pure rfl) ?_))
  refine rw_v (op_pure rfl) ?_
  first | refine rw_end ?_ | (refine rw_nil ?_; show CW _ _ _ _ _ _) | refine rw_nil ?_
  repeat refine cw_seq ?_
  refine cw_false rfl ?_
  repeat refine cw_seq ?_
  refine cw_skip ?_
  try show CW _ _ _ _ _ _
  repeat refine cw_seq ?_
  refine cw_region ?_
  refine rw_v (op_fieldAddr Try.underlying33 rfl Try.sizeOf4 rfl rfl) ?_
  refine rw_r (op_loadB Try.underlying4 rfl rfl (S.blk (i := 1) rfl) rfl) ?_
  first | refine rw_end ?_ | (refine rw_nil ?_; show CW _ _ _ _ _ _) | refine rw_nil ?_
  repeat refine cw_seq ?_
  refine cw_false rfl ?_
  repeat refine cw_seq ?_
  refine cw_skip ?_
  try show CW _ _ _ _ _ _
  repeat refine cw_seq ?_
  refine cw_cutT (M := fun e w => SL e [(1, .int .i64 f), (2, .slice A bs.length c), (3, .pointer (some ⟨b_D, 0, none⟩)), (6, .pointer (some ⟨b_R, 0, none⟩)), (34, .bool (decide ((fused && fuse == 0) = false ∧ lf < bs.length)))] ∧ St No W w [.blk b_R 33 [.int .i64 0, .slice none 0 0, .slice none 0 0, .slice none 0 0, .bool false, .int .i64 0, .bool false], .blk b_D 33 [.int .i64 room, .slice A0 last.1.length c0, .slice A1 last.2.length c1, .slice Aw waits.length cw, .bool fused, .int .i64 fuse, .bool false]]) ?_ ?_
  · cases fused
    · skip
      repeat refine cw_seq ?_
      refine cw_region ?_
      refine rw_v (op_fieldAddr Try.underlying33 rfl Try.sizeOf4 rfl rfl) ?_
      refine rw_r (op_loadB Try.underlying4 rfl rfl (S.blk (i := 1) rfl) rfl) ?_
      refine rw_v (op_pure rfl) ?_
      refine rw_v (op_pure rfl) ?_
      first | refine rw_off rfl ?_ | (refine rw_on rfl ?_; refine rw_v (op_fieldAddr Try.underlying33 rfl Try.sizeOf2 rfl rfl) ?_)
      first | refine rw_off rfl ?_ | (refine rw_on rfl ?_; refine rw_r (op_loadB Try.underlying2 rfl rfl (S.blk (i := 1) rfl) rfl) ?_)
      first | refine rw_off rfl ?_ | (refine rw_on rfl ?_; (first | refine rw_v (op_b (b := true) rfl (decide_eq_true (by omega))) ?_ | refine rw_v (op_b (b := false) rfl (decide_eq_false (by omega))) ?_ | refine rw_v (op_pure rfl) ?_))
      refine rw_v (op_pure rfl) ?_
      refine rw_v (op_pure rfl) ?_
      first | refine rw_off rfl ?_ | (refine rw_on rfl ?_; refine rw_v (op_pure rfl) ?_)
      first | refine rw_off rfl ?_ | (refine rw_on rfl ?_; refine rw_v (op_len Try.underlying29 rfl) ?_)
      first | refine rw_off rfl ?_ | (refine rw_on rfl ?_; refine rw_r (op_loadAB Try.underlying33 rfl (Try.sizeOf33 _) rfl (S.blk (i := 1) rfl) rfl rfl) ?_)
      refine rw_on rfl ?_
      refine rw_call rfl (hleft w4_ S.out) ?_
      rintro _ w5_ ⟨rfl, g5_⟩
      have S := S.gr g5_
      first | refine rw_off rfl ?_ | (refine rw_on rfl ?_; (first | refine rw_v (op_b (b := true) rfl (decide_eq_true (by omega))) ?_ | refine rw_v (op_b (b := false) rfl (decide_eq_false (by omega))) ?_ | refine rw_v (op_pure rfl) ?_))
      refine rw_v (op_pure rfl) ?_
      first | refine rw_end ?_ | (refine rw_nil ?_; show CW _ _ _ _ _ _) | refine rw_nil ?_
      exact ⟨⟨rfl, rfl, rfl, rfl, be (by simp), trivial⟩, S⟩
    · by_cases h0 : fuse = 0
      · subst h0
        repeat refine cw_seq ?_
        refine cw_region ?_
        refine rw_v (op_fieldAddr Try.underlying33 rfl Try.sizeOf4 rfl rfl) ?_
        refine rw_r (op_loadB Try.underlying4 rfl rfl (S.blk (i := 1) rfl) rfl) ?_
        refine rw_v (op_pure rfl) ?_
        refine rw_v (op_pure rfl) ?_
        first | refine rw_off rfl ?_ | (refine rw_on rfl ?_; refine rw_v (op_fieldAddr Try.underlying33 rfl Try.sizeOf2 rfl rfl) ?_)
        first | refine rw_off rfl ?_ | (refine rw_on rfl ?_; refine rw_r (op_loadB Try.underlying2 rfl rfl (S.blk (i := 1) rfl) rfl) ?_)
        first | refine rw_off rfl ?_ | (refine rw_on rfl ?_; (first | refine rw_v (op_b (b := true) rfl (decide_eq_true (by omega))) ?_ | refine rw_v (op_b (b := false) rfl (decide_eq_false (by omega))) ?_ | refine rw_v (op_pure rfl) ?_))
        refine rw_v (op_pure rfl) ?_
        refine rw_v (op_pure rfl) ?_
        refine rw_off rfl ?_
        refine rw_off rfl ?_
        refine rw_off rfl ?_
        refine rw_off rfl ?_
        refine rw_off rfl ?_
        refine rw_v (op_pure rfl) ?_
        first | refine rw_end ?_ | (refine rw_nil ?_; show CW _ _ _ _ _ _) | refine rw_nil ?_
        exact ⟨⟨rfl, rfl, rfl, rfl, be (by simp), trivial⟩, S⟩
      · have hb : (fuse == 0) = false := by simpa using h0
        have hb2 : decide (0 < fuse) = true := by simp; omega
        repeat refine cw_seq ?_
        refine cw_region ?_
        refine rw_v (op_fieldAddr Try.underlying33 rfl Try.sizeOf4 rfl rfl) ?_
        refine rw_r (op_loadB Try.underlying4 rfl rfl (S.blk (i := 1) rfl) rfl) ?_
        refine rw_v (op_pure rfl) ?_
        refine rw_v (op_pure rfl) ?_
        refine rw_on rfl ?_
        refine rw_v (op_fieldAddr Try.underlying33 rfl Try.sizeOf2 rfl rfl) ?_
        refine rw_on rfl ?_
        refine rw_r (op_loadB Try.underlying2 rfl rfl (S.blk (i := 1) rfl) rfl) ?_
        refine rw_on rfl ?_
        refine rw_v (op_b rfl hb2) ?_
        refine rw_v (op_pure rfl) ?_
        refine rw_v (op_pure rfl) ?_
        first | refine rw_off rfl ?_ | (refine rw_on rfl ?_; refine rw_v (op_pure rfl) ?_)
        first | refine rw_off rfl ?_ | (refine rw_on rfl ?_; refine rw_v (op_len Try.underlying29 rfl) ?_)
        first | refine rw_off rfl ?_ | (refine rw_on rfl ?_; refine rw_r (op_loadAB Try.underlying33 rfl (Try.sizeOf33 _) rfl (S.blk (i := 1) rfl) rfl rfl) ?_)
        refine rw_on rfl ?_
        refine rw_call rfl (hleft w4_ S.out) ?_
        rintro _ w6_ ⟨rfl, g6_⟩
        have S := S.gr g6_
        first | refine rw_off rfl ?_ | (refine rw_on rfl ?_; (first | refine rw_v (op_b (b := true) rfl (decide_eq_true (by omega))) ?_ | refine rw_v (op_b (b := false) rfl (decide_eq_false (by omega))) ?_ | refine rw_v (op_pure rfl) ?_))
        refine rw_v (op_pure rfl) ?_
        first | refine rw_end ?_ | (refine rw_nil ?_; show CW _ _ _ _ _ _) | refine rw_nil ?_
        exact ⟨⟨rfl, rfl, rfl, rfl, be (by simp [hb]), trivial⟩, S⟩
  · rintro e1 w1 ⟨hsl, S⟩
    rw [hsl.fold]
    repeat refine cw_seq ?_
    refine cw_cond rfl (fun hfull => ?_) (fun hfull => ?_)
    · try simp only [decide_eq_true_eq, decide_eq_false_iff_not, beq_iff_eq, bne_iff_ne, beq_eq_false_iff_ne, bne_eq_false_iff_eq, Bool.not_eq_true', Bool.not_eq_false', ne_eq, Decidable.not_not, Int.natCast_inj, Int.ofNat_lt, Int.ofNat_le, gt_iff_lt, ge_iff_le, Int.not_lt, Int.not_le] at hfull
      rw [if_pos hfull]
      repeat refine cw_seq ?_
      refine cw_region ?_
      refine rw_r (op_loadAB Try.underlying33 rfl (Try.sizeOf33 _) rfl (S.blk (i := 1) rfl) rfl rfl) ?_
      refine rw_storeSA (i := 0) S rfl (Try.sizeOf33 _) rfl rfl rfl rfl rfl rfl ?_
      intro w7_ S
      refine rw_v (op_pure rfl) ?_
      first | refine rw_end ?_ | (refine rw_nil ?_; show CW _ _ _ _ _ _) | refine rw_nil ?_
      repeat refine cw_seq ?_
      refine cw_ret ?_
      repeat first | refine ret_then ?_ | refine ret_inb ?_
      exact resAT Try.underlying33 rfl (Try.sizeOf33 _) rfl (S.blk (i := 0) rfl) rfl rfl rfl ⟨A0, A1, Aw, c0, c1, cw, rfl, hR.gr S.out, S.out⟩
    · try simp only [decide_eq_true_eq, decide_eq_false_iff_not, beq_iff_eq, bne_iff_ne, beq_eq_false_iff_ne, bne_eq_false_iff_eq, Bool.not_eq_true', Bool.not_eq_false', ne_eq, Decidable.not_not, Int.natCast_inj, Int.ofNat_lt, Int.ofNat_le, gt_iff_lt, ge_iff_le, Int.not_lt, Int.not_le] at hfull
      rw [if_neg hfull]
      repeat refine cw_seq ?_
      refine cw_skip ?_
      try show CW _ _ _ _ _ _
      repeat refine cw_seq ?_
      refine cw_region ?_
      refine rw_buildS0 Try.underlying31 Try.sizeOf92 S ?_
      intro A_us w9_ g9_ S sa_us
      refine rw_v (op_pure rfl) ?_
      first | refine rw_end ?_ | (refine rw_nil ?_; show CW _ _ _ _ _ _) | refine rw_nil ?_
      repeat refine cw_seq ?_
      refine cw_region ?_
      refine rw_v (op_pure rfl) ?_
      first | refine rw_end ?_ | (refine rw_nil ?_; show CW _ _ _ _ _ _) | refine rw_nil ?_
      repeat refine cw_seq ?_
      refine cw_block ?_
      repeat refine cw_seq ?_
      refine cw_loop (fun m e w => ∃ (k : Nat) (Au : Option Addr) (cu : Nat), k + m = bs.length ∧ SL e [(1, .int .i64 f), (2, .slice A bs.length c), (3, .pointer (some ⟨b_D, 0, none⟩)), (6, .pointer (some ⟨b_R, 0, none⟩)), (8, .slice Au k cu), (9, .int .i64 k)] ∧
        St No W w [.row 92 3 Au k cu (unitsV (addsOf f (bs.take k))), .blk b_R 33 [.int .i64 0, .slice none 0 0, .slice none 0 0, .slice none 0 0, .bool false, .int .i64 0, .bool false], .blk b_D 33 [.int .i64 room, .slice A0 last.1.length c0, .slice A1 last.2.length c1, .slice Aw waits.length cw, .bool fused, .int .i64 fuse, .bool false]]) bs.length
        ⟨0, A_us, 0, by omega, ⟨rfl, rfl, rfl, rfl, rfl, rfl, trivial⟩, S⟩ ?_
      rintro m e w ⟨k, Au, cu, hk, hsl, S⟩
      rw [hsl.fold]
      repeat refine cw_seq ?_
      refine cw_region ?_
      refine rw_v (op_pure rfl) ?_
      refine rw_v (op_pure rfl) ?_
      refine rw_v (op_len Try.underlying29 rfl) ?_
      refine rw_v (op_pure rfl) ?_
      first | refine rw_end ?_ | (refine rw_nil ?_; show CW _ _ _ _ _ _) | refine rw_nil ?_
      repeat refine cw_seq ?_
      refine cw_cond rfl (fun hc => ?_) (fun hc => ?_)
      · try simp only [decide_eq_true_eq, decide_eq_false_iff_not, beq_iff_eq, bne_iff_ne, beq_eq_false_iff_ne, bne_eq_false_iff_eq, Bool.not_eq_true', Bool.not_eq_false', ne_eq, Decidable.not_not, Int.natCast_inj, Int.ofNat_lt, Int.ofNat_le, gt_iff_lt, ge_iff_le, Int.not_lt, Int.not_le] at hc
        obtain ⟨b, hb⟩ : ∃ b, bs[k]? = some b := ⟨bs[k], List.getElem?_eq_getElem (by omega)⟩
        have hget : (c8 bs)[(k : Int).toNat * 1]? = some (.int .u8 b) := by rw [Int.toNat_natCast, Nat.mul_one]; unfold c8; rw [List.getElem?_map, hb]; rfl
        have sa_A : SomeA A := hA.someA (by rw [c8_length]; omega)
        repeat refine cw_seq ?_
        refine cw_skip ?_
        try show CW _ _ _ _ _ _
        repeat refine cw_seq ?_
        refine cw_block ?_
        repeat refine cw_seq ?_
        refine cw_region ?_
        refine rw_v (op_pure rfl) ?_
        refine rw_v (op_pure rfl) ?_
        refine rw_v (op_pure rfl) ?_
        refine rw_v (op_pure rfl) ?_
        refine rw_v (op_idx Try.underlying29 Try.sizeOf5 rfl rfl sa_A (by omega) (by omega)) ?_
        refine rw_r (op_ldR Try.underlying5 rfl rfl (hA.gr S.out) hget) ?_
        refine rw_v (op_build (pl := [(0, 1), (1, 1), (2, 1)]) Try.underlying92 Try.zeroValue92 (fun w => by kernel_rfl) rfl rfl) ?_
        refine rw_buildS Try.underlying31 Try.sizeOf92 Try.zeroValue92 rfl rfl rfl rfl rfl rfl S ?_
        intro A_one w11_ g11_ S sa_one
        refine rw_appS (i := 1) S rfl (fun h => rfl) Try.underlying31 info_t92 rfl rfl rfl rfl (by simp) (by omega) (S.rd (i := 0) rfl) rfl (by omega) ?_
        intro A_us12 c_us12 w12_ S sa_us
        refine rw_v (op_pure rfl) ?_
        first | refine rw_end ?_ | (refine rw_nil ?_; show CW _ _ _ _ _ _) | refine rw_nil ?_
        repeat refine cw_seq ?_
        refine cw_region ?_
        refine rw_v (op_pure rfl) ?_
        refine rw_v (op_rng rfl (by omega)) ?_
        refine rw_v (op_pure rfl) ?_
        first | refine rw_end ?_ | (refine rw_nil ?_; show CW _ _ _ _ _ _) | refine rw_nil ?_
        refine ⟨m - 1, by omega, k + 1, _, _, by omega, ⟨rfl, rfl, rfl, rfl, rfl, ie (by omega), trivial⟩, ?_⟩
        rw [addsOf_take f bs hb]
        exact S.drop 1
      · try simp only [decide_eq_true_eq, decide_eq_false_iff_not, beq_iff_eq, bne_iff_ne, beq_eq_false_iff_ne, bne_eq_false_iff_eq, Bool.not_eq_true', Bool.not_eq_false', ne_eq, Decidable.not_not, Int.natCast_inj, Int.ofNat_lt, Int.ofNat_le, gt_iff_lt, ge_iff_le, Int.not_lt, Int.not_le] at hc
        have hkb : k = bs.length := by omega
        subst hkb
        rw [List.take_length] at S
        have hcall := hdeed Au cu w S.out ((S.row (i := 0) rfl).sl hF (SepL.fresh S (i := 0) rfl))
        repeat refine cw_seq ?_
        refine cw_exit ?_
        repeat first | refine exit_then ?_ | refine exit_inb ?_
        show CW _ _ _ _ _ _
        repeat refine cw_seq ?_
        refine cw_region ?_
        refine rw_r (op_loadAB Try.underlying33 rfl (Try.sizeOf33 _) rfl (S.blk (i := 2) rfl) rfl rfl) ?_
        refine rw_v (op_pure rfl) ?_
        refine rw_call rfl (hcall) ?_
        rintro _ w13_ ⟨A0', A1', Aw', c0', c1', cw', rfl, hR', g13_⟩
        have S := S.gr g13_
        refine rw_v (op_pure rfl) ?_
        refine rw_v (op_pure rfl) ?_
        refine rw_storeSAF (i := 1) S rfl (Try.sizeOf33 _) rfl rfl rfl rfl rfl rfl ?_
        intro w9 k9 B9 S
        have hR' := hR'.past B9 rfl k9
        refine rw_v (op_pure rfl) ?_
        first | refine rw_end ?_ | (refine rw_nil ?_; show CW _ _ _ _ _ _) | refine rw_nil ?_
        repeat refine cw_seq ?_
        refine cw_ret ?_
        repeat first | refine ret_then ?_ | refine ret_inb ?_
        exact resAT Try.underlying33 rfl (Try.sizeOf33 _) rfl (S.blk (i := 1) rfl) rfl rfl rfl ⟨A0', A1', Aw', c0', c1', cw', rfl, hR', S.out⟩
end
