/- What an act does to a disk; a disk that stays in order. -/
import Derived.Test.YtkpokpaehlhhaaaDisk7
namespace Go.Proofs.Ytkpokpaehlhhaaa
open Go.RowKit
set_option linter.unusedVariables false
set_option linter.unusedSimpArgs false
set_option maxRecDepth 100000

structure ActD where
  kind : Int
  file : Int
  bs : List Int
  n : Int
def ActD.val (a : ActD) (A : Option Addr) (c : Nat) : Value := .agg #[.int .u8 a.kind, .int .i64 a.file, .slice A a.bs.length c, .int .i64 a.n]
structure ActD.ok (a : ActD) : Prop where
  kind : 0 ≤ a.kind ∧ a.kind ≤ 255
  bytes : ∀ b ∈ a.bs, byteB b
  n : a.n ≤ 9223372036854775807
def DS.does (s : DS) (a : ActD) : Int × DS :=
  if a.kind = 0 then (if s.code a.file ≠ 0 then (s.code a.file, s) else if s.burns = false ∧ s.left < a.bs.length then (16, s) else s.deed (addsOf a.file.toNat a.bs))
  else if a.kind = 1 then (if s.code a.file ≠ 0 then (s.code a.file, s) else if s.burns = false ∧ (a.n < 0 ∨ (fileOf a.file.toNat s.seen).length < a.n) then (11, s) else s.deed [DU.cut a.file.toNat a.n.toNat])
  else if a.kind = 2 then (if s.dark then (17, s) else if s.burns then (17, { s with dark := true }) else (0, s.ticked.settled s.waits.length))
  else if a.kind = 3 then (if s.dark then (17, s) else if a.n < 0 then (11, s) else (0, { s with fused := true, fuse := a.n }))
  else if a.kind = 4 then (0, { s.settled (min (max a.n 0) s.waits.length).toNat with fused := false, fuse := 0, dark := false })
  else (0, s)
structure Inv (B : Nat) (s : DS) : Prop where
  oks : oks s.waits s.last
  seen : s.seen = runs s.waits s.last
  fuse : 0 ≤ s.fuse ∧ s.fuse ≤ 9223372036854775807
  room : 0 ≤ s.room ∧ s.room ≤ 1048576
  l1 : s.last.1.length + s.waits.length ≤ B
  l2 : s.last.2.length + s.waits.length ≤ B
theorem Inv.mono {B B' : Nat} {s : DS} (h : Inv B s) (hB : B ≤ B') : Inv B' s := { h with l1 := Nat.le_trans h.l1 hB, l2 := Nat.le_trans h.l2 hB }
theorem Inv.s1 {B : Nat} {s : DS} (h : Inv B s) : s.seen.1.length ≤ B ∧ s.seen.2.length ≤ B := by
  have := runs_length s.waits s.last
  rw [← h.seen] at this
  have := h.l1
  have := h.l2
  omega
theorem code_file {s : DS} {file : Int} (h : s.code file = 0) : (file = 0 ∨ file = 1) ∧ s.dark = false := by
  unfold DS.code at h
  split at h
  · cases h
  · split at h
    · cases h
    · rename_i h1 h2
      exact ⟨by omega, by simpa using h2⟩
theorem ticked_inv {B : Nat} {s : DS} (h : Inv B s) (hb : s.burns = false) : Inv B s.ticked := by
  refine ⟨h.oks, h.seen, ?_, h.room, h.l1, h.l2⟩
  have hf := h.fuse
  unfold DS.ticked
  dsimp only
  split
  · rename_i hfu
    have : s.fuse ≠ 0 := by intro h0; simp [DS.burns, hfu, h0] at hb
    omega
  · exact hf
theorem oks_take {us : List DU} {fs : List Int × List Int} (h : oks us fs) (k : Nat) : oks (us.take k) fs := by
  have e : us = us.take k ++ us.drop k := (List.take_append_drop _ _).symm
  rw [e, oks_append] at h
  exact h.1
theorem settled_inv {B : Nat} {s : DS} (h : Inv B s) (k : Nat) : Inv B (s.settled k) := by
  have h1 := runs_length (s.waits.take k) s.last
  have h2 := take_length_le s.waits k
  have h3 := h.l1
  have h4 := h.l2
  exact ⟨trivial, rfl, h.fuse, h.room, by simp [DS.settled]; omega, by simp [DS.settled]; omega⟩
theorem deed_inv {B : Nat} {s : DS} (h : Inv B s) {us : List DU} (hus : s.burns = false → oks us s.seen) : Inv (B + us.length) (s.deed us).2 := by
  unfold DS.deed
  split
  · exact { h.mono (Nat.le_add_right _ _) with }
  · rename_i hb
    have hb : s.burns = false := by simpa using hb
    have ht := ticked_inv h hb
    refine ⟨(oks_append _ _ _).2 ⟨h.oks, h.seen ▸ hus hb⟩, ?_, ht.fuse, h.room, ?_, ?_⟩
    · show runs us s.seen = runs (s.waits ++ us) s.last
      rw [runs_append, h.seen]
    · have := h.l1; simp [DS.ticked]; omega
    · have := h.l2; simp [DS.ticked]; omega
theorem does_inv {B : Nat} {s : DS} (h : Inv B s) {a : ActD} (ha : a.ok) : Inv (B + a.bs.length + 1) (s.does a).2 := by
  have hm : Inv (B + a.bs.length + 1) s := h.mono (by omega)
  unfold DS.does
  split
  · split
    · exact hm
    · rename_i hc
      have hc : s.code a.file = 0 := by simpa using hc
      have hf := code_file hc
      split
      · exact hm
      · have := deed_inv h (us := addsOf a.file.toNat a.bs) (fun _ => oks_adds _ (by omega) _ ha.bytes _)
        rw [addsOf_length] at this
        exact this.mono (by omega)
  · split
    · split
      · exact hm
      · rename_i hc
        have hc : s.code a.file = 0 := by simpa using hc
        have hf := code_file hc
        split
        · exact hm
        · rename_i hn
          refine (deed_inv h (us := [DU.cut a.file.toNat a.n.toNat]) (fun hb => ⟨?_, trivial⟩)).mono (by simp)
          have hn2 : ¬ (a.n < 0 ∨ (fileOf a.file.toNat s.seen).length < a.n) := fun h => hn ⟨hb, h⟩
          rcases hf.1 with h0 | h0
          · rw [h0] at hn2 ⊢
            have h3 : ¬ (a.n < 0 ∨ (s.seen.1.length : Int) < a.n) := hn2
            exact .inl ⟨rfl, show a.n.toNat ≤ s.seen.1.length by omega⟩
          · rw [h0] at hn2 ⊢
            have h3 : ¬ (a.n < 0 ∨ (s.seen.2.length : Int) < a.n) := hn2
            exact .inr ⟨rfl, show a.n.toNat ≤ s.seen.2.length by omega⟩
    · split
      · split
        · exact hm
        · split
          · exact { hm with }
          · rename_i hb
            exact settled_inv (ticked_inv hm (by simpa using hb)) _
      · split
        · split
          · exact hm
          · split
            · exact hm
            · rename_i hn
              exact { hm with fuse := ⟨show 0 ≤ a.n by omega, ha.n⟩ }
        · split
          · exact { settled_inv hm _ with fuse := ⟨show (0 : Int) ≤ 0 by decide, show (0 : Int) ≤ 9223372036854775807 by decide⟩ }
          · exact hm

theorem does_E (F : Nat → Prop) (p : Nat) (s : DS) (a : ActD) (A : Option Addr) (c B : Nat) (ha : a.ok) (hi : Inv B s) (hB : B < 274877906944) (hbl : a.bs.length ≤ 100) (W : World) (hD : DiskIs W F p s) (hR : Rd W A (c8 a.bs)) (hF : ∀ g, F g → g < W.heap.size) :
    Fn Try.prog 12 [.pointer (some ⟨p, 0, none⟩), a.val A c] W (RetD (.int .i64 (s.does a).1) W F p (s.does a).2) := by
  have G0 := Gr.refl W
  have hk := ha.kind
  have hs1 := hi.s1
  have hl1 := hi.l1
  have hl2 := hi.l2
  have hbig : bigB s.seen := ⟨by omega, by omega⟩
  have fin : ∀ {w1 w' : World} {s' : DS}, Gr W w1 → DiskP w1 F p s' w' → DiskP W F p s' w' := fun g h => (DiskP.of_gr hD g).trans ⟨h.1.weak (fun g hg => hg.imp .inl id), h.2.weak (fun _ => .inl)⟩
  have hF1 : ∀ {w1 : World}, Gr W w1 → ∀ g, F g → g < w1.heap.size := fun g x hx => Nat.lt_of_lt_of_le (hF x hx) g.le
  unfold ActD.val
  by_cases k0 : a.kind = 0
  · have call : ∀ w1, Gr W w1 → Fn Try.prog 20 [.pointer (some ⟨p, 0, none⟩), .int .i64 a.file, .slice A a.bs.length c] w1 (RetD (.int .i64 (s.does a).1) W F p (s.does a).2) := fun w1 g => by
      unfold DS.does
      rw [if_pos k0]
      by_cases hc : s.code a.file = 0
      · rw [if_neg (by simpa using hc)]
        obtain ⟨hf, hd⟩ := code_file hc
        have ef : a.file = (a.file.toNat : Nat) := by omega
        by_cases hfull : s.burns = false ∧ s.left < a.bs.length
        · rw [if_pos hfull, ef]
          exact (dappFull_E F p s a.file.toNat (by omega) A c _ hd hfull.1 hbig hi.room hfull.2 w1 (hD.gr g)).mono fun v w' ⟨h1, h2⟩ => ⟨h1, DiskP.of_gr hD (g.trans h2)⟩
        · rw [if_neg hfull, ef]
          exact (dapp_E F p s a.file.toNat (by omega) A c a.bs ha.bytes (by omega) hd hbig hi.room (fun hb => by have : ¬ s.left < a.bs.length := fun h => hfull ⟨hb, h⟩; omega) hi.fuse (by constructor <;> (rw [addsOf_length]; omega)) (by omega) w1 (hD.gr g) (hR.gr g) (hF1 g)).mono fun v w' ⟨h1, h2⟩ => ⟨h1, fin g h2⟩
      · rw [if_pos hc]
        exact (dappNo_E F p s a.file _ rfl w1 (hD.gr g) hc).mono fun v w' ⟨h1, h2⟩ => ⟨h1, DiskP.of_gr hD (g.trans h2)⟩
    rw [k0]
    refine Fn_enter Try.func12 rfl Try.results12 Try.ntmps12 (by kernel_rfl) (by kernel_rfl) ?_
    repeat refine cw_seq ?_
    refine cw_region ?_
    try have qb1_ := G0.le
    refine rw_new (op_box rfl) ?_
    intro w1_ g1_ s1_ b1_
    have G0 := G0.trans g1_
    refine rw_v (op_pure rfl) ?_
    first | refine rw_end ?_ | (refine rw_nil ?_; show CW _ _ _ _ _ _) | refine rw_nil ?_
    repeat refine cw_seq ?_
    refine cw_region ?_
    refine rw_v (op_fieldAddr Try.underlying37 rfl Try.sizeOf5 rfl rfl) ?_
    refine rw_r (op_loadB Try.underlying5 rfl rfl b1_ rfl) ?_
    first | refine rw_end ?_ | (refine rw_nil ?_; show CW _ _ _ _ _ _) | refine rw_nil ?_
    repeat refine cw_seq ?_
    refine cw_block ?_
    repeat refine cw_seq ?_
    refine cw_region ?_
    first | refine rw_v (op_b (b := true) rfl (beq_iff_eq.2 (by omega))) ?_ | refine rw_v (op_b (b := false) rfl (beq_eq_false_iff_ne.2 (by omega))) ?_ | refine rw_v (op_pure rfl) ?_
    refine rw_v (op_pure rfl) ?_
    first | refine rw_end ?_ | (refine rw_nil ?_; show CW _ _ _ _ _ _) | refine rw_nil ?_
    repeat refine cw_seq ?_
    refine cw_true rfl ?_
    repeat refine cw_seq ?_
    refine cw_region ?_
    refine rw_v (op_pure rfl) ?_
    refine rw_v (op_fieldAddr Try.underlying37 rfl Try.sizeOf3 rfl rfl) ?_
    refine rw_r (op_loadB Try.underlying3 rfl rfl b1_ rfl) ?_
    refine rw_v (op_fieldAddr Try.underlying37 rfl Try.sizeOf29 rfl rfl) ?_
    refine rw_r (op_loadB Try.underlying29 rfl rfl b1_ rfl) ?_
    refine rw_call rfl (call _ G0) ?_
    rintro _ w9 ⟨rfl, h9⟩
    refine rw_v (op_pure rfl) ?_
    first | refine rw_end ?_ | (refine rw_nil ?_; show CW _ _ _ _ _ _) | refine rw_nil ?_
    refine cw_ret ?_
    repeat first | refine ret_then ?_ | refine ret_inb ?_
    exact res1 rfl ⟨rfl, h9⟩
  by_cases k1 : a.kind = 1
  · have call : ∀ w1, Gr W w1 → Fn Try.prog 36 [.pointer (some ⟨p, 0, none⟩), .int .i64 a.file, .int .i64 a.n] w1 (RetD (.int .i64 (s.does a).1) W F p (s.does a).2) := fun w1 g => by
      unfold DS.does
      rw [if_neg k0, if_pos k1]
      by_cases hc : s.code a.file = 0
      · rw [if_neg (by simpa using hc)]
        obtain ⟨hf, hd⟩ := code_file hc
        cases hb : s.burns
        · have ef : a.file = (a.file.toNat : Nat) := by omega
          by_cases hbad : a.n < 0 ∨ (fileOf a.file.toNat s.seen).length < a.n
          · rw [if_pos ⟨rfl, hbad⟩]
            have hx := dcutArg_E F p s a.file.toNat a.n (by omega) hbad w1 (hD.gr g) hd hb hbig
            rw [← ef] at hx
            exact hx.mono fun v w' ⟨h1, h2⟩ => ⟨h1, DiskP.of_gr hD (g.trans h2)⟩
          · rw [if_neg (fun h => hbad h.2)]
            have en : a.n = (a.n.toNat : Nat) := by omega
            have hx := dcut_E F p s a.file.toNat a.n.toNat (by omega) (by omega) w1 (hD.gr g) hd hb hbig hi.fuse (by constructor <;> (simp; omega)) (by omega) (hF1 g)
            rw [← ef, ← en] at hx
            exact hx.mono fun v w' ⟨h1, h2⟩ => ⟨h1, fin g h2⟩
        · rw [if_neg (fun h => by cases h.1)]
          have hx := dcutBurn_E F p s a.file a.n w1 (hD.gr g) hc hb (hF1 g)
          unfold DS.deed
          rw [if_pos hb]
          exact hx.mono fun v w' ⟨h1, h2⟩ => ⟨h1, fin g h2⟩
      · rw [if_pos hc]
        exact (dcutNo_E F p s a.file _ w1 (hD.gr g) hc).mono fun v w' ⟨h1, h2⟩ => ⟨h1, DiskP.of_gr hD (g.trans h2)⟩
    rw [k1]
    refine Fn_enter Try.func12 rfl Try.results12 Try.ntmps12 (by kernel_rfl) (by kernel_rfl) ?_
    repeat refine cw_seq ?_
    refine cw_region ?_
    try have qb1_ := G0.le
    refine rw_new (op_box rfl) ?_
    intro w1_ g1_ s1_ b1_
    have G0 := G0.trans g1_
    refine rw_v (op_pure rfl) ?_
    first | refine rw_end ?_ | (refine rw_nil ?_; show CW _ _ _ _ _ _) | refine rw_nil ?_
    repeat refine cw_seq ?_
    refine cw_region ?_
    refine rw_v (op_fieldAddr Try.underlying37 rfl Try.sizeOf5 rfl rfl) ?_
    refine rw_r (op_loadB Try.underlying5 rfl rfl b1_ rfl) ?_
    first | refine rw_end ?_ | (refine rw_nil ?_; show CW _ _ _ _ _ _) | refine rw_nil ?_
    repeat refine cw_seq ?_
    refine cw_block ?_
    repeat refine cw_seq ?_
    refine cw_region ?_
    first | refine rw_v (op_b (b := true) rfl (beq_iff_eq.2 (by omega))) ?_ | refine rw_v (op_b (b := false) rfl (beq_eq_false_iff_ne.2 (by omega))) ?_ | refine rw_v (op_pure rfl) ?_
    refine rw_v (op_pure rfl) ?_
    first | refine rw_end ?_ | (refine rw_nil ?_; show CW _ _ _ _ _ _) | refine rw_nil ?_
    repeat refine cw_seq ?_
    refine cw_false rfl ?_
    repeat refine cw_seq ?_
    refine cw_region ?_
    first | refine rw_v (op_b (b := true) rfl (beq_iff_eq.2 (by omega))) ?_ | refine rw_v (op_b (b := false) rfl (beq_eq_false_iff_ne.2 (by omega))) ?_ | refine rw_v (op_pure rfl) ?_
    refine rw_v (op_pure rfl) ?_
    first | refine rw_end ?_ | (refine rw_nil ?_; show CW _ _ _ _ _ _) | refine rw_nil ?_
    repeat refine cw_seq ?_
    refine cw_true rfl ?_
    repeat refine cw_seq ?_
    refine cw_region ?_
    refine rw_v (op_pure rfl) ?_
    refine rw_v (op_fieldAddr Try.underlying37 rfl Try.sizeOf3 rfl rfl) ?_
    refine rw_r (op_loadB Try.underlying3 rfl rfl b1_ rfl) ?_
    refine rw_v (op_fieldAddr Try.underlying37 rfl Try.sizeOf2 rfl rfl) ?_
    refine rw_r (op_loadB Try.underlying2 rfl rfl b1_ rfl) ?_
    refine rw_call rfl (call _ G0) ?_
    rintro _ w9 ⟨rfl, h9⟩
    refine rw_v (op_pure rfl) ?_
    first | refine rw_end ?_ | (refine rw_nil ?_; show CW _ _ _ _ _ _) | refine rw_nil ?_
    refine cw_ret ?_
    repeat first | refine ret_then ?_ | refine ret_inb ?_
    exact res1 rfl ⟨rfl, h9⟩
  by_cases k2 : a.kind = 2
  · have call : ∀ w1, Gr W w1 → Fn Try.prog 18 [.pointer (some ⟨p, 0, none⟩)] w1 (RetD (.int .i64 (s.does a).1) W F p (s.does a).2) := fun w1 g => by
      unfold DS.does
      rw [if_neg k0, if_neg k1, if_pos k2]
      cases hd : s.dark
      · cases hb : s.burns
        · exact (dsync_E F p s w1 (hD.gr g) hd hb hi.fuse (by constructor <;> omega) hi.oks (by constructor <;> omega) (by omega)).mono fun v w' ⟨h1, h2⟩ => ⟨h1, fin g h2⟩
        · exact (dsyncBurn_E F p s w1 (hD.gr g) hd hb).mono fun v w' ⟨h1, h2⟩ => ⟨h1, fin g h2⟩
      · exact (dsyncNo_E F p s w1 (hD.gr g) hd).mono fun v w' ⟨h1, h2⟩ => ⟨h1, DiskP.of_gr hD (g.trans h2)⟩
    rw [k2]
    refine Fn_enter Try.func12 rfl Try.results12 Try.ntmps12 (by kernel_rfl) (by kernel_rfl) ?_
    repeat refine cw_seq ?_
    refine cw_region ?_
    try have qb1_ := G0.le
    refine rw_new (op_box rfl) ?_
    intro w1_ g1_ s1_ b1_
    have G0 := G0.trans g1_
    refine rw_v (op_pure rfl) ?_
    first | refine rw_end ?_ | (refine rw_nil ?_; show CW _ _ _ _ _ _) | refine rw_nil ?_
    repeat refine cw_seq ?_
    refine cw_region ?_
    refine rw_v (op_fieldAddr Try.underlying37 rfl Try.sizeOf5 rfl rfl) ?_
    refine rw_r (op_loadB Try.underlying5 rfl rfl b1_ rfl) ?_
    first | refine rw_end ?_ | (refine rw_nil ?_; show CW _ _ _ _ _ _) | refine rw_nil ?_
    repeat refine cw_seq ?_
    refine cw_block ?_
    repeat refine cw_seq ?_
    refine cw_region ?_
    first | refine rw_v (op_b (b := true) rfl (beq_iff_eq.2 (by omega))) ?_ | refine rw_v (op_b (b := false) rfl (beq_eq_false_iff_ne.2 (by omega))) ?_ | refine rw_v (op_pure rfl) ?_
    refine rw_v (op_pure rfl) ?_
    first | refine rw_end ?_ | (refine rw_nil ?_; show CW _ _ _ _ _ _) | refine rw_nil ?_
    repeat refine cw_seq ?_
    refine cw_false rfl ?_
    repeat refine cw_seq ?_
    refine cw_region ?_
    first | refine rw_v (op_b (b := true) rfl (beq_iff_eq.2 (by omega))) ?_ | refine rw_v (op_b (b := false) rfl (beq_eq_false_iff_ne.2 (by omega))) ?_ | refine rw_v (op_pure rfl) ?_
    refine rw_v (op_pure rfl) ?_
    first | refine rw_end ?_ | (refine rw_nil ?_; show CW _ _ _ _ _ _) | refine rw_nil ?_
    repeat refine cw_seq ?_
    refine cw_false rfl ?_
    repeat refine cw_seq ?_
    refine cw_region ?_
    first | refine rw_v (op_b (b := true) rfl (beq_iff_eq.2 (by omega))) ?_ | refine rw_v (op_b (b := false) rfl (beq_eq_false_iff_ne.2 (by omega))) ?_ | refine rw_v (op_pure rfl) ?_
    refine rw_v (op_pure rfl) ?_
    first | refine rw_end ?_ | (refine rw_nil ?_; show CW _ _ _ _ _ _) | refine rw_nil ?_
    repeat refine cw_seq ?_
    refine cw_true rfl ?_
    repeat refine cw_seq ?_
    refine cw_region ?_
    refine rw_v (op_pure rfl) ?_
    refine rw_call rfl (call _ G0) ?_
    rintro _ w9 ⟨rfl, h9⟩
    refine rw_v (op_pure rfl) ?_
    first | refine rw_end ?_ | (refine rw_nil ?_; show CW _ _ _ _ _ _) | refine rw_nil ?_
    refine cw_ret ?_
    repeat first | refine ret_then ?_ | refine ret_inb ?_
    exact res1 rfl ⟨rfl, h9⟩
  by_cases k3 : a.kind = 3
  · have call : ∀ w1, Gr W w1 → Fn Try.prog 37 [.pointer (some ⟨p, 0, none⟩), .int .i64 a.n] w1 (RetD (.int .i64 (s.does a).1) W F p (s.does a).2) := fun w1 g => by
      unfold DS.does
      rw [if_neg k0, if_neg k1, if_neg k2, if_pos k3]
      cases hd : s.dark
      · by_cases hn : a.n < 0
        · rw [if_neg (by simp), if_pos hn]
          exact (dfuseArg_E F p s a.n hn w1 (hD.gr g) hd).mono fun v w' ⟨h1, h2⟩ => ⟨h1, DiskP.of_gr hD (g.trans h2)⟩
        · rw [if_neg (by simp), if_neg hn, ← hd]
          exact (dfuse_E F p s a.n (by omega) w1 (hD.gr g) hd).mono fun v w' ⟨h1, h2⟩ => ⟨h1, fin g h2⟩
      · rw [if_pos rfl]
        exact (dfuseNo_E F p s a.n w1 (hD.gr g) hd).mono fun v w' ⟨h1, h2⟩ => ⟨h1, DiskP.of_gr hD (g.trans h2)⟩
    rw [k3]
    refine Fn_enter Try.func12 rfl Try.results12 Try.ntmps12 (by kernel_rfl) (by kernel_rfl) ?_
    repeat refine cw_seq ?_
    refine cw_region ?_
    try have qb1_ := G0.le
    refine rw_new (op_box rfl) ?_
    intro w1_ g1_ s1_ b1_
    have G0 := G0.trans g1_
    refine rw_v (op_pure rfl) ?_
    first | refine rw_end ?_ | (refine rw_nil ?_; show CW _ _ _ _ _ _) | refine rw_nil ?_
    repeat refine cw_seq ?_
    refine cw_region ?_
    refine rw_v (op_fieldAddr Try.underlying37 rfl Try.sizeOf5 rfl rfl) ?_
    refine rw_r (op_loadB Try.underlying5 rfl rfl b1_ rfl) ?_
    first | refine rw_end ?_ | (refine rw_nil ?_; show CW _ _ _ _ _ _) | refine rw_nil ?_
    repeat refine cw_seq ?_
    refine cw_block ?_
    repeat refine cw_seq ?_
    refine cw_region ?_
    first | refine rw_v (op_b (b := true) rfl (beq_iff_eq.2 (by omega))) ?_ | refine rw_v (op_b (b := false) rfl (beq_eq_false_iff_ne.2 (by omega))) ?_ | refine rw_v (op_pure rfl) ?_
    refine rw_v (op_pure rfl) ?_
    first | refine rw_end ?_ | (refine rw_nil ?_; show CW _ _ _ _ _ _) | refine rw_nil ?_
    repeat refine cw_seq ?_
    refine cw_false rfl ?_
    repeat refine cw_seq ?_
    refine cw_region ?_
    first | refine rw_v (op_b (b := true) rfl (beq_iff_eq.2 (by omega))) ?_ | refine rw_v (op_b (b := false) rfl (beq_eq_false_iff_ne.2 (by omega))) ?_ | refine rw_v (op_pure rfl) ?_
    refine rw_v (op_pure rfl) ?_
    first | refine rw_end ?_ | (refine rw_nil ?_; show CW _ _ _ _ _ _) | refine rw_nil ?_
    repeat refine cw_seq ?_
    refine cw_false rfl ?_
    repeat refine cw_seq ?_
    refine cw_region ?_
    first | refine rw_v (op_b (b := true) rfl (beq_iff_eq.2 (by omega))) ?_ | refine rw_v (op_b (b := false) rfl (beq_eq_false_iff_ne.2 (by omega))) ?_ | refine rw_v (op_pure rfl) ?_
    refine rw_v (op_pure rfl) ?_
    first | refine rw_end ?_ | (refine rw_nil ?_; show CW _ _ _ _ _ _) | refine rw_nil ?_
    repeat refine cw_seq ?_
    refine cw_false rfl ?_
    repeat refine cw_seq ?_
    refine cw_region ?_
    first | refine rw_v (op_b (b := true) rfl (beq_iff_eq.2 (by omega))) ?_ | refine rw_v (op_b (b := false) rfl (beq_eq_false_iff_ne.2 (by omega))) ?_ | refine rw_v (op_pure rfl) ?_
    refine rw_v (op_pure rfl) ?_
    first | refine rw_end ?_ | (refine rw_nil ?_; show CW _ _ _ _ _ _) | refine rw_nil ?_
    repeat refine cw_seq ?_
    refine cw_true rfl ?_
    repeat refine cw_seq ?_
    refine cw_region ?_
    refine rw_v (op_pure rfl) ?_
    refine rw_v (op_fieldAddr Try.underlying37 rfl Try.sizeOf2 rfl rfl) ?_
    refine rw_r (op_loadB Try.underlying2 rfl rfl b1_ rfl) ?_
    refine rw_call rfl (call _ G0) ?_
    rintro _ w9 ⟨rfl, h9⟩
    refine rw_v (op_pure rfl) ?_
    first | refine rw_end ?_ | (refine rw_nil ?_; show CW _ _ _ _ _ _) | refine rw_nil ?_
    refine cw_ret ?_
    repeat first | refine ret_then ?_ | refine ret_inb ?_
    exact res1 rfl ⟨rfl, h9⟩
  by_cases k4 : a.kind = 4
  · have call : ∀ w1, Gr W w1 → Fn Try.prog 19 [.pointer (some ⟨p, 0, none⟩), .int .i64 a.n] w1 (RetD (.int .i64 (s.does a).1) W F p (s.does a).2) := fun w1 g => by
      unfold DS.does
      rw [if_neg k0, if_neg k1, if_neg k2, if_neg k3, if_pos k4]
      exact (dcrash_E F p s a.n hi.oks (by constructor <;> omega) w1 (hD.gr g)).mono fun v w' ⟨h1, h2⟩ => ⟨h1, fin g h2⟩
    rw [k4]
    refine Fn_enter Try.func12 rfl Try.results12 Try.ntmps12 (by kernel_rfl) (by kernel_rfl) ?_
    repeat refine cw_seq ?_
    refine cw_region ?_
    try have qb1_ := G0.le
    refine rw_new (op_box rfl) ?_
    intro w1_ g1_ s1_ b1_
    have G0 := G0.trans g1_
    refine rw_v (op_pure rfl) ?_
    first | refine rw_end ?_ | (refine rw_nil ?_; show CW _ _ _ _ _ _) | refine rw_nil ?_
    repeat refine cw_seq ?_
    refine cw_region ?_
    refine rw_v (op_fieldAddr Try.underlying37 rfl Try.sizeOf5 rfl rfl) ?_
    refine rw_r (op_loadB Try.underlying5 rfl rfl b1_ rfl) ?_
    first | refine rw_end ?_ | (refine rw_nil ?_; show CW _ _ _ _ _ _) | refine rw_nil ?_
    repeat refine cw_seq ?_
    refine cw_block ?_
    repeat refine cw_seq ?_
    refine cw_region ?_
    first | refine rw_v (op_b (b := true) rfl (beq_iff_eq.2 (by omega))) ?_ | refine rw_v (op_b (b := false) rfl (beq_eq_false_iff_ne.2 (by omega))) ?_ | refine rw_v (op_pure rfl) ?_
    refine rw_v (op_pure rfl) ?_
    first | refine rw_end ?_ | (refine rw_nil ?_; show CW _ _ _ _ _ _) | refine rw_nil ?_
    repeat refine cw_seq ?_
    refine cw_false rfl ?_
    repeat refine cw_seq ?_
    refine cw_region ?_
    first | refine rw_v (op_b (b := true) rfl (beq_iff_eq.2 (by omega))) ?_ | refine rw_v (op_b (b := false) rfl (beq_eq_false_iff_ne.2 (by omega))) ?_ | refine rw_v (op_pure rfl) ?_
    refine rw_v (op_pure rfl) ?_
    first | refine rw_end ?_ | (refine rw_nil ?_; show CW _ _ _ _ _ _) | refine rw_nil ?_
    repeat refine cw_seq ?_
    refine cw_false rfl ?_
    repeat refine cw_seq ?_
    refine cw_region ?_
    first | refine rw_v (op_b (b := true) rfl (beq_iff_eq.2 (by omega))) ?_ | refine rw_v (op_b (b := false) rfl (beq_eq_false_iff_ne.2 (by omega))) ?_ | refine rw_v (op_pure rfl) ?_
    refine rw_v (op_pure rfl) ?_
    first | refine rw_end ?_ | (refine rw_nil ?_; show CW _ _ _ _ _ _) | refine rw_nil ?_
    repeat refine cw_seq ?_
    refine cw_false rfl ?_
    repeat refine cw_seq ?_
    refine cw_region ?_
    first | refine rw_v (op_b (b := true) rfl (beq_iff_eq.2 (by omega))) ?_ | refine rw_v (op_b (b := false) rfl (beq_eq_false_iff_ne.2 (by omega))) ?_ | refine rw_v (op_pure rfl) ?_
    refine rw_v (op_pure rfl) ?_
    first | refine rw_end ?_ | (refine rw_nil ?_; show CW _ _ _ _ _ _) | refine rw_nil ?_
    repeat refine cw_seq ?_
    refine cw_false rfl ?_
    repeat refine cw_seq ?_
    refine cw_region ?_
    first | refine rw_v (op_b (b := true) rfl (beq_iff_eq.2 (by omega))) ?_ | refine rw_v (op_b (b := false) rfl (beq_eq_false_iff_ne.2 (by omega))) ?_ | refine rw_v (op_pure rfl) ?_
    refine rw_v (op_pure rfl) ?_
    first | refine rw_end ?_ | (refine rw_nil ?_; show CW _ _ _ _ _ _) | refine rw_nil ?_
    repeat refine cw_seq ?_
    refine cw_true rfl ?_
    repeat refine cw_seq ?_
    refine cw_region ?_
    refine rw_v (op_pure rfl) ?_
    refine rw_v (op_fieldAddr Try.underlying37 rfl Try.sizeOf2 rfl rfl) ?_
    refine rw_r (op_loadB Try.underlying2 rfl rfl b1_ rfl) ?_
    refine rw_call rfl (call _ G0) ?_
    rintro _ w9 ⟨rfl, h9⟩
    refine rw_v (op_pure rfl) ?_
    first | refine rw_end ?_ | (refine rw_nil ?_; show CW _ _ _ _ _ _) | refine rw_nil ?_
    refine cw_ret ?_
    repeat first | refine ret_then ?_ | refine ret_inb ?_
    exact res1 rfl ⟨rfl, h9⟩
  have hdoes : s.does a = (0, s) := by
    unfold DS.does
    rw [if_neg k0, if_neg k1, if_neg k2, if_neg k3, if_neg k4]
  rw [hdoes]
  refine Fn_enter Try.func12 rfl Try.results12 Try.ntmps12 (by kernel_rfl) (by kernel_rfl) ?_
  repeat refine cw_seq ?_
  refine cw_region ?_
  try have qb1_ := G0.le
  refine rw_new (op_box rfl) ?_
  intro w1_ g1_ s1_ b1_
  have G0 := G0.trans g1_
  refine rw_v (op_pure rfl) ?_
  first | refine rw_end ?_ | (refine rw_nil ?_; show CW _ _ _ _ _ _) | refine rw_nil ?_
  repeat refine cw_seq ?_
  refine cw_region ?_
  refine rw_v (op_fieldAddr Try.underlying37 rfl Try.sizeOf5 rfl rfl) ?_
  refine rw_r (op_loadB Try.underlying5 rfl rfl b1_ rfl) ?_
  first | refine rw_end ?_ | (refine rw_nil ?_; show CW _ _ _ _ _ _) | refine rw_nil ?_
  repeat refine cw_seq ?_
  refine cw_block ?_
  repeat refine cw_seq ?_
  refine cw_region ?_
  first | refine rw_v (op_b (b := true) rfl (beq_iff_eq.2 (by omega))) ?_ | refine rw_v (op_b (b := false) rfl (beq_eq_false_iff_ne.2 (by omega))) ?_ | refine rw_v (op_pure rfl) ?_
  refine rw_v (op_pure rfl) ?_
  first | refine rw_end ?_ | (refine rw_nil ?_; show CW _ _ _ _ _ _) | refine rw_nil ?_
  repeat refine cw_seq ?_
  refine cw_false rfl ?_
  repeat refine cw_seq ?_
  refine cw_region ?_
  first | refine rw_v (op_b (b := true) rfl (beq_iff_eq.2 (by omega))) ?_ | refine rw_v (op_b (b := false) rfl (beq_eq_false_iff_ne.2 (by omega))) ?_ | refine rw_v (op_pure rfl) ?_
  refine rw_v (op_pure rfl) ?_
  first | refine rw_end ?_ | (refine rw_nil ?_; show CW _ _ _ _ _ _) | refine rw_nil ?_
  repeat refine cw_seq ?_
  refine cw_false rfl ?_
  repeat refine cw_seq ?_
  refine cw_region ?_
  first | refine rw_v (op_b (b := true) rfl (beq_iff_eq.2 (by omega))) ?_ | refine rw_v (op_b (b := false) rfl (beq_eq_false_iff_ne.2 (by omega))) ?_ | refine rw_v (op_pure rfl) ?_
  refine rw_v (op_pure rfl) ?_
  first | refine rw_end ?_ | (refine rw_nil ?_; show CW _ _ _ _ _ _) | refine rw_nil ?_
  repeat refine cw_seq ?_
  refine cw_false rfl ?_
  repeat refine cw_seq ?_
  refine cw_region ?_
  first | refine rw_v (op_b (b := true) rfl (beq_iff_eq.2 (by omega))) ?_ | refine rw_v (op_b (b := false) rfl (beq_eq_false_iff_ne.2 (by omega))) ?_ | refine rw_v (op_pure rfl) ?_
  refine rw_v (op_pure rfl) ?_
  first | refine rw_end ?_ | (refine rw_nil ?_; show CW _ _ _ _ _ _) | refine rw_nil ?_
  repeat refine cw_seq ?_
  refine cw_false rfl ?_
  repeat refine cw_seq ?_
  refine cw_region ?_
  first | refine rw_v (op_b (b := true) rfl (beq_iff_eq.2 (by omega))) ?_ | refine rw_v (op_b (b := false) rfl (beq_eq_false_iff_ne.2 (by omega))) ?_ | refine rw_v (op_pure rfl) ?_
  refine rw_v (op_pure rfl) ?_
  first | refine rw_end ?_ | (refine rw_nil ?_; show CW _ _ _ _ _ _) | refine rw_nil ?_
  repeat refine cw_seq ?_
  refine cw_false rfl ?_
  refine cw_skip ?_
  try show CW _ _ _ _ _ _
  repeat refine cw_seq ?_
  refine cw_region ?_
  refine rw_v (op_pure rfl) ?_
  first | refine rw_end ?_ | (refine rw_nil ?_; show CW _ _ _ _ _ _) | refine rw_nil ?_
  refine cw_ret ?_
  repeat first | refine ret_then ?_ | refine ret_inb ?_
  exact res1 rfl ⟨rfl, DiskP.of_gr hD G0⟩
end Go.Proofs.Ytkpokpaehlhhaaa
