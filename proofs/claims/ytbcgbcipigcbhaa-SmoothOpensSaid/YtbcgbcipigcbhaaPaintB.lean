/- paint.Paste over a whole grid, and paint.From. -/
import Derived.Test.YtbcgbcipigcbhaaPaint
namespace Go.Proofs.Ytbcgbcipigcbhaa
open Go.RowKit
set_option linter.unusedVariables false
set_option linter.unusedSimpArgs false
set_option maxRecDepth 100000

theorem Rd.lt {w : World} {A : Option Addr} {xs : List Value} (h : Rd w A xs) (hn : 0 < xs.length) {g : Nat} (hg : ownA A g) : g < w.heap.size := by
  rcases h with rfl | ⟨b, o, rfl, hb, _⟩
  · simp at hn
  · exact ownA_eq hg ▸ hb
section
variable {W : World} {p gw gh cap : Nat} {c : Nat → Int} {A B : Option Addr} {bs : Nat → Nat} {Rs : Nat → Option Nat} {V : List Int}
theorem paste_E (cp : Nat) (hV : V.length = gw * gh) (hmay : ∀ v ∈ V, mayB v = true) (hG : GridAt W p gw gh c A cap bs Rs) (hB : Rd W B (ints V)) (hap : ∀ g, ownA B g → ¬ gridB (acr gw * acr gh) p A bs Rs g) (hlt : ∀ g, ownA B g → g < W.heap.size) :
    Fn Try.prog 113 [.pointer (some ⟨p, 0, none⟩), .agg #[.int .i64 0, .int .i64 0, .int .i64 (gw - 1), .int .i64 (gh - 1)], .slice B V.length cp] W
      (fun r w' => r = .int .i64 0 ∧ GridP W p gw gh A cap bs Rs (fun i => V.getD i 0) w') := by
  have hw := hG.sw
  have hh := hG.sh
  have hm : 1 ≤ gw * gh ∧ gw * gh ≤ 1024 * 1024 := ⟨Nat.mul_le_mul hw.1 hh.1, Nat.mul_le_mul hw.2 hh.2⟩
  have hmi : ((gw : Int) - 1 - 0 + 1) * ((gh : Int) - 1 - 0 + 1) = ((gw * gh : Nat) : Int) := by
    rw [show (gw : Int) - 1 - 0 + 1 = gw by omega, show (gh : Int) - 1 - 0 + 1 = gh by omega]; push_cast; rfl
  have hBk : ∀ {w : World}, Fr (gridB (acr gw * acr gh) p A bs Rs) W w → Rd w B (ints V) := fun {w} hF => hB.fr hF (fun a ha => hap _ (by rw [ha]; rfl))
  have hbad : V.any (fun v => !mayB v) = false := List.any_eq_false.2 fun v hv => by rw [hmay v hv]; decide
  have e1 : ((gw : Int) - 1) = ((gw - 1 : Nat) : Int) := by omega
  have e2 : ((gh : Int) - 1) = ((gh - 1 : Nat) : Int) := by omega
  have S := St.start1 W (.grid p gw gh c A cap bs Rs) hG
  refine Fn_enter Try.func113 rfl Try.results113 Try.ntmps113 (by kernel_rfl) (by kernel_rfl) ?_
  repeat refine cw_seq ?_
  refine cw_region ?_
  refine rw_newB (op_box rfl) S ?_
  intro b_rc w2_ g2_ S
  refine rw_v (op_pure rfl) ?_
  first | refine rw_end ?_ | (refine rw_nil ?_; show CW _ _ _ _ _ _) | refine rw_nil ?_
  repeat refine cw_seq ?_
  refine cw_region ?_
  refine rw_v (op_pure rfl) ?_
  refine rw_r (op_loadAB Try.underlying75 rfl (Try.sizeOf75 _) rfl (S.blk (i := 0) rfl) rfl rfl) ?_
  refine rw_call rfl ((by have := gvalues_E (W := w2_) (p := p) (gw := gw) (gh := gh) (c := c) (A := A) (cap := cap) (bs := bs) (Rs := Rs) 0 0 (gw - 1) (gh - 1) (by omega) (by omega) (S.grid (i := 1) rfl); rw [← e1, ← e2] at this; exact this)) ?_
  rintro _ w3_ ⟨A_vs, c_vs, rfl, hR_vs, hf_vs, g3_⟩
  have S := S.pushRow hR_vs hf_vs g3_
  iterate 5 refine rw_v (op_pure rfl) ?_
  first | refine rw_end ?_ | (refine rw_nil ?_; show CW _ _ _ _ _ _) | refine rw_nil ?_
  repeat refine cw_seq ?_
  refine cw_region ?_
  refine rw_v (op_pure rfl) ?_
  refine rw_v (op_b (b := false) rfl (bne_eq_false_iff_eq.2 (by omega))) ?_
  first | refine rw_end ?_ | (refine rw_nil ?_; show CW _ _ _ _ _ _) | refine rw_nil ?_
  repeat refine cw_seq ?_
  refine cw_false rfl ?_
  repeat refine cw_seq ?_
  refine cw_skip ?_
  try show CW _ _ _ _ _ _
  repeat refine cw_seq ?_
  refine cw_block ?_
  repeat refine cw_seq ?_
  refine cw_region ?_
  refine rw_v (op_pure rfl) ?_
  refine rw_v (op_len Try.underlying22 rfl) ?_
  refine rw_r (op_loadAB Try.underlying75 rfl (Try.sizeOf75 _) rfl (S.blk (i := 1) rfl) rfl rfl) ?_
  refine rw_call rfl (area_E _ _ _ _ (by omega) w3_) ?_
  rintro _ w4_ ⟨rfl, g4_⟩
  have S := S.gr g4_
  rw [hmi]
  refine rw_v (op_b (b := false) rfl (bne_eq_false_iff_eq.2 (by omega))) ?_
  refine rw_v (op_pure rfl) ?_
  first | refine rw_end ?_ | (refine rw_nil ?_; show CW _ _ _ _ _ _) | refine rw_nil ?_
  repeat refine cw_seq ?_
  refine cw_false rfl ?_
  repeat refine cw_seq ?_
  refine cw_region ?_
  refine rw_v (op_pure rfl) ?_
  refine rw_call rfl (containsFunc64_E B V.length cp _ [] V rfl (by omega) (fun v => !mayB v) w4_ (hBk S.fr) (fun x hx w' g => paste1_E x w')) ?_
  rintro _ w5_ ⟨rfl, g5_⟩
  have S := S.gr g5_
  rw [hbad]
  refine rw_v (op_pure rfl) ?_
  first | refine rw_end ?_ | (refine rw_nil ?_; show CW _ _ _ _ _ _) | refine rw_nil ?_
  repeat refine cw_seq ?_
  refine cw_false rfl ?_
  repeat refine cw_seq ?_
  refine cw_skip ?_
  try show CW _ _ _ _ _ _
  repeat refine cw_seq ?_
  refine cw_region ?_
  refine rw_v (op_pure rfl) ?_
  refine rw_r (op_loadAB Try.underlying75 rfl (Try.sizeOf75 _) rfl (S.blk (i := 1) rfl) rfl rfl) ?_
  refine rw_v (op_pure rfl) ?_
  refine rw_call rfl (lay_E cp hV hmay (S.grid (i := 2) rfl) (hBk S.fr) hap (fun g hg => Nat.lt_of_lt_of_le (hlt g hg) S.le)) ?_
  rintro _ w6_ ⟨rfl, Rs2, hG2, hF2, hO2⟩
  have S := S.set (i := 2) (h' := .grid p gw gh _ A cap bs Rs2) rfl rfl hF2 (fun g h => .inl h) hG2 hO2
  first | refine rw_end ?_ | (refine rw_nil ?_; show CW _ _ _ _ _ _) | refine rw_nil ?_
  repeat refine cw_seq ?_
  refine cw_region ?_
  refine rw_v (op_pure rfl) ?_
  first | refine rw_end ?_ | (refine rw_nil ?_; show CW _ _ _ _ _ _) | refine rw_nil ?_
  repeat refine cw_seq ?_
  refine cw_ret ?_
  repeat first | refine ret_then ?_ | refine ret_inb ?_
  exact res1 rfl ⟨rfl, Rs2, S.grid (i := 2) rfl, S.fr, fun g hg => (S.sep.get (i := 2) rfl).2 g hg⟩
theorem from_E (cp : Nat) (hw : 1 ≤ gw ∧ gw ≤ 1024) (hh : 1 ≤ gh ∧ gh ≤ 1024) (hV : V.length = gw * gh) (hmay : ∀ v ∈ V, mayB v = true) (hB : Rd W B (ints V)) :
    Fn Try.prog 54 [.int .i64 gw, .int .i64 gh, .slice B V.length cp] W (RetGrid (fun p => .tuple #[p, .int .i64 0]) gw gh (fun i => V.getD i 0) W) := by
  have hm : 1 ≤ gw * gh ∧ gw * gh ≤ 1024 * 1024 := ⟨Nat.mul_le_mul hw.1 hh.1, Nat.mul_le_mul hw.2 hh.2⟩
  have hlt : ∀ g, ownA B g → g < W.heap.size := fun g hg => hB.lt (by rw [ints_len]; omega) hg
  have S := St.start W
  refine Fn_enter Try.func54 rfl Try.results54 Try.ntmps54 (by kernel_rfl) (by kernel_rfl) ?_
  repeat refine cw_seq ?_
  refine cw_region ?_
  iterate 2 refine rw_v (op_pure rfl) ?_
  first | refine rw_end ?_ | (refine rw_nil ?_; show CW _ _ _ _ _ _) | refine rw_nil ?_
  repeat refine cw_seq ?_
  refine cw_region ?_
  iterate 2 refine rw_v (op_pure rfl) ?_
  refine rw_call rfl (gnew_E gw gh 0 hw hh (by omega) W) ?_
  rintro _ w1_ ⟨p, A, bc, bs, Rs, rfl, hG, hf, g1_⟩
  have S := S.pushGrid hG hf g1_
  iterate 5 refine rw_v (op_pure rfl) ?_
  first | refine rw_end ?_ | (refine rw_nil ?_; show CW _ _ _ _ _ _) | refine rw_nil ?_
  repeat refine cw_seq ?_
  refine cw_region ?_
  refine rw_v (op_pure rfl) ?_
  refine rw_v (op_b (b := true) rfl (beq_iff_eq.2 (by omega))) ?_
  first | refine rw_end ?_ | (refine rw_nil ?_; show CW _ _ _ _ _ _) | refine rw_nil ?_
  repeat refine cw_seq ?_
  refine cw_true rfl ?_
  repeat refine cw_seq ?_
  refine cw_region ?_
  iterate 2 refine rw_v (op_pure rfl) ?_
  refine rw_call rfl (gall_E p gw gh hw.2 hh.2 _ w1_ (S.grid (i := 0) rfl).top) ?_
  rintro _ w2_ ⟨rfl, g2_⟩
  have S := S.gr g2_
  refine rw_v (op_pure rfl) ?_
  have hle := S.le
  refine rw_call rfl (paste_E cp hV hmay (S.grid (i := 0) rfl) (hB.gr S.out) (fun g hg hg2 => by have h1 := hlt g hg; have h2 := ((S.sep.get (i := 0) rfl).2 g hg2).elim (fun h => h.elim) id; omega) (fun g hg => Nat.lt_of_lt_of_le (hlt g hg) S.le)) ?_
  rintro _ w3_ ⟨rfl, Rs2, hG2, hF2, hO2⟩
  have S := S.set (i := 0) (h' := .grid p gw gh _ A bc bs Rs2) rfl rfl hF2 (fun g h => .inl h) hG2 hO2
  refine rw_v (op_pure rfl) ?_
  first | refine rw_end ?_ | (refine rw_nil ?_; show CW _ _ _ _ _ _) | refine rw_nil ?_
  repeat refine cw_seq ?_
  refine cw_region ?_
  refine rw_v (op_pure rfl) ?_
  refine rw_v (op_b (b := false) rfl (bne_eq_false_iff_eq.2 (by omega))) ?_
  first | refine rw_end ?_ | (refine rw_nil ?_; show CW _ _ _ _ _ _) | refine rw_nil ?_
  repeat refine cw_seq ?_
  refine cw_false rfl ?_
  repeat refine cw_seq ?_
  refine cw_skip ?_
  try show CW _ _ _ _ _ _
  repeat refine cw_seq ?_
  refine cw_region ?_
  iterate 3 refine rw_v (op_pure rfl) ?_
  first | refine rw_end ?_ | (refine rw_nil ?_; show CW _ _ _ _ _ _) | refine rw_nil ?_
  repeat refine cw_seq ?_
  refine cw_ret ?_
  repeat first | refine ret_then ?_ | refine ret_inb ?_
  exact res2 rfl rfl (S.retGrid (i := 0) rfl)
end
end Go.Proofs.Ytbcgbcipigcbhaa
