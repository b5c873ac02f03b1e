/- An act on a disk: Cut, and what 'does' does. -/
import Derived.Test.YtkpokpaehlhhaaaDisk6
namespace Go.Proofs.Ytkpokpaehlhhaaa
open Go.RowKit
set_option linter.unusedVariables false
set_option linter.unusedSimpArgs false
set_option maxRecDepth 100000

def fileOf (f : Nat) (fs : List Int × List Int) : List Int := if f = 0 then fs.1 else fs.2
theorem dcutBurn_E (F : Nat → Prop) (p : Nat) (s : DS) (file n : Int) (W : World) (hD : DiskIs W F p s) (hk : s.code file = 0) (hb : s.burns = true) (hF : ∀ g, F g → g < W.heap.size) :
    Fn Try.prog 36 [.pointer (some ⟨p, 0, none⟩), .int .i64 file, .int .i64 n] W (RetD (.int .i64 17) W F p { s with dark := true }) := by
  have G0 := Gr.refl W
  have hD0 := hD
  obtain ⟨l0, l1, ws, s0, s1, hD⟩ := hD
  refine Fn_enter Try.func36 rfl Try.results36 Try.ntmps36 (by kernel_rfl) (by kernel_rfl) ?_
  repeat refine cw_seq ?_
  refine cw_region ?_
  refine rw_v (op_pure rfl) ?_
  first | refine rw_end ?_ | (refine rw_nil ?_; show CW _ _ _ _ _ _) | refine rw_nil ?_
  repeat refine cw_seq ?_
  refine cw_region ?_
  refine rw_v (op_pure rfl) ?_
  refine rw_v (op_pure rfl) ?_
  refine rw_call rfl (dcheck_E F p s l0 l1 ws s0 s1 _ _ hD) ?_
  rintro _ w1 ⟨rfl, g1⟩
  have G0 := G0.trans g1
  refine rw_v (op_pure rfl) ?_
  first | refine rw_end ?_ | (refine rw_nil ?_; show CW _ _ _ _ _ _) | refine rw_nil ?_
  repeat refine cw_seq ?_
  refine cw_region ?_
  refine rw_v (op_pure rfl) ?_
  refine rw_v (op_b (b := false) rfl (by rw [hk]; rfl)) ?_
  first | refine rw_end ?_ | (refine rw_nil ?_; show CW _ _ _ _ _ _) | refine rw_nil ?_
  repeat refine cw_seq ?_
  refine cw_false rfl ?_
  refine cw_skip ?_
  try show CW _ _ _ _ _ _
  repeat refine cw_seq ?_
  refine cw_region ?_
  refine rw_v (op_pure rfl) ?_
  refine rw_call rfl (dburns_E F p s l0 l1 ws s0 s1 _ (hD.gr G0)) ?_
  rintro _ w2 ⟨rfl, g2⟩
  have G0 := G0.trans g2
  rw [hb]
  refine rw_v (op_pure rfl) ?_
  refine rw_v (op_pure rfl) ?_
  first | refine rw_off rfl ?_ | (refine rw_on rfl ?_; refine rw_v (op_pure rfl) ?_)
  first | refine rw_off rfl ?_ | (refine rw_on rfl ?_; (first | refine rw_v (op_b (b := true) rfl (decide_eq_true (by omega))) ?_ | refine rw_v (op_b (b := false) rfl (decide_eq_false (by omega))) ?_ | refine rw_v (op_pure rfl) ?_))
  first | refine rw_off rfl ?_ | (refine rw_on rfl ?_; refine rw_v (op_pure rfl) ?_)
  first | refine rw_off rfl ?_ | (refine rw_on rfl ?_; refine rw_v (op_pure rfl) ?_)
  first | refine rw_off rfl ?_ | (refine rw_on rfl ?_; refine rw_v (op_pure rfl) ?_)
  first | refine rw_off rfl ?_ | (refine rw_on rfl ?_; refine rw_v (op_pure rfl) ?_)
  first | refine rw_off rfl ?_ | (refine rw_on rfl ?_; refine rw_v (op_pure rfl) ?_)
  first | refine rw_off rfl ?_ | (refine rw_on rfl ?_; refine rw_v (op_fieldAddr Try.underlying83 rfl Try.sizeOf30 rfl rfl) ?_)
  first | refine rw_off rfl ?_ | (refine rw_on rfl ?_; refine rw_v (op_indexAddrP Try.underlying30 Try.sizeOf29 rfl rfl (by omega) (by omega)) ?_)
  first | refine rw_off rfl ?_ | (refine rw_on rfl ?_; fail)
  first | refine rw_off rfl ?_ | (refine rw_on rfl ?_; refine rw_v (op_len Try.underlying29 rfl) ?_)
  first | refine rw_off rfl ?_ | (refine rw_on rfl ?_; (first | refine rw_v (op_b (b := true) rfl (decide_eq_true (by omega))) ?_ | refine rw_v (op_b (b := false) rfl (decide_eq_false (by omega))) ?_ | refine rw_v (op_pure rfl) ?_))
  first | refine rw_off rfl ?_ | (refine rw_on rfl ?_; refine rw_v (op_pure rfl) ?_)
  refine rw_v (op_pure rfl) ?_
  first | refine rw_end ?_ | (refine rw_nil ?_; show CW _ _ _ _ _ _) | refine rw_nil ?_
  repeat refine cw_seq ?_
  refine cw_false rfl ?_
  refine cw_skip ?_
  try show CW _ _ _ _ _ _
  repeat refine cw_seq ?_
  refine cw_region ?_
  refine rw_v (op_pure rfl) ?_
  refine rw_v (op_pure rfl) ?_
  refine rw_v (op_pure rfl) ?_
  refine rw_v (op_build (pl := [(0, 1), (1, 1)]) Try.underlying134 Try.zeroValue134 (fun w => by kernel_rfl) rfl rfl) ?_
  refine rw_v (op_iface Try.underlying134 rfl rfl) ?_
  try have qb1_ := G0.le
  refine rw_new (op_buildSlice Try.underlying81 Try.sizeOf98 Try.zeroValue98 rfl rfl rfl rfl rfl) ?_
  intro w1_ g1_ s1_ b1_
  have G0 := G0.trans g1_
  refine rw_call rfl (ddeedBurn_E F p s _ hb _ (hD0.gr G0)) ?_
  rintro _ w3 ⟨rfl, h3⟩
  refine rw_v (op_pure rfl) ?_
  first | refine rw_end ?_ | (refine rw_nil ?_; show CW _ _ _ _ _ _) | refine rw_nil ?_
  refine cw_ret ?_
  repeat first | refine ret_then ?_ | refine ret_inb ?_
  exact res1 rfl ⟨rfl, (DiskP.of_gr hD0 G0).trans ⟨h3.1.weak (fun g hg => hg.imp .inl id), h3.2.weak (fun _ => .inl)⟩⟩
set_option maxHeartbeats 1000000 in
theorem dcut_E (F : Nat → Prop) (p : Nat) (s : DS) (f n : Nat) (hf : f = 0 ∨ f = 1) (hn : n ≤ (fileOf f s.seen).length) (W : World) (hD : DiskIs W F p s) (hk : s.dark = false) (hb : s.burns = false) (hbig : bigB s.seen)
    (hfu : 0 ≤ s.fuse ∧ s.fuse ≤ 9223372036854775807) (hsm : small [DU.cut f n] s.seen) (hwl : s.waits.length + 1 < 1099511627776) (hF : ∀ g, F g → g < W.heap.size) :
    Fn Try.prog 36 [.pointer (some ⟨p, 0, none⟩), .int .i64 f, .int .i64 n] W (RetD (.int .i64 (s.deed [DU.cut f n]).1) W F p (s.deed [DU.cut f n]).2) := by
  have G0 := Gr.refl W
  have hD0 := hD
  obtain ⟨l0, l1, ws, s0, s1, hD⟩ := hD
  have hcode : s.code f = 0 := by rcases hf with rfl | rfl <;> simp [DS.code, hk]
  have hB := hD.blk
  unfold DS.cells at hB
  obtain ⟨A0, c0, h0⟩ := hD.seen.1.slice
  obtain ⟨A1, c1, h1⟩ := hD.seen.2.1.slice
  rw [c8_length] at h0 h1
  subst h0
  subst h1
  have hb1 := hbig.1
  have hb2 := hbig.2
  have hok : oks [DU.cut f n] s.seen := by
    refine ⟨?_, trivial⟩
    rcases hf with rfl | rfl
    · exact .inl ⟨rfl, hn⟩
    · exact .inr ⟨rfl, hn⟩
  refine Fn_enter Try.func36 rfl Try.results36 Try.ntmps36 (by kernel_rfl) (by kernel_rfl) ?_
  repeat refine cw_seq ?_
  refine cw_region ?_
  refine rw_v (op_pure rfl) ?_
  first | refine rw_end ?_ | (refine rw_nil ?_; show CW _ _ _ _ _ _) | refine rw_nil ?_
  repeat refine cw_seq ?_
  refine cw_region ?_
  refine rw_v (op_pure rfl) ?_
  refine rw_v (op_pure rfl) ?_
  refine rw_call rfl (dcheck_E F p s l0 l1 ws _ _ _ _ hD) ?_
  rintro _ w1 ⟨rfl, g1⟩
  have hB := hB.gr g1
  have G0 := G0.trans g1
  refine rw_v (op_pure rfl) ?_
  first | refine rw_end ?_ | (refine rw_nil ?_; show CW _ _ _ _ _ _) | refine rw_nil ?_
  repeat refine cw_seq ?_
  refine cw_region ?_
  refine rw_v (op_pure rfl) ?_
  refine rw_v (op_b (b := false) rfl (by rw [hcode]; rfl)) ?_
  first | refine rw_end ?_ | (refine rw_nil ?_; show CW _ _ _ _ _ _) | refine rw_nil ?_
  repeat refine cw_seq ?_
  refine cw_false rfl ?_
  refine cw_skip ?_
  try show CW _ _ _ _ _ _
  repeat refine cw_seq ?_
  refine cw_cutT (M := fun e w => SL e [(0, .pointer (some ⟨p, 0, none⟩)), (1, .int .i64 f), (2, .int .i64 n), (31, .bool false)] ∧ Gr W w) ?_ ?_
  · rcases hf with rfl | rfl
    · simp only [fileOf] at hn
      have hn : n ≤ s.seen.1.length := hn
      repeat refine cw_seq ?_
      refine cw_region ?_
      refine rw_v (op_pure rfl) ?_
      refine rw_call rfl (dburns_E F p s l0 l1 ws _ _ _ (hD.gr G0)) ?_
      rintro _ w2 ⟨rfl, g2⟩
      have hB := hB.gr g2
      have G0 := G0.trans g2
      rw [hb]
      refine rw_v (op_pure rfl) ?_
      refine rw_v (op_pure rfl) ?_
      first | refine rw_off rfl ?_ | (refine rw_on rfl ?_; refine rw_v (op_pure rfl) ?_)
      first | refine rw_off rfl ?_ | (refine rw_on rfl ?_; (first | refine rw_v (op_b (b := true) rfl (decide_eq_true (by omega))) ?_ | refine rw_v (op_b (b := false) rfl (decide_eq_false (by omega))) ?_ | refine rw_v (op_pure rfl) ?_))
      first | refine rw_off rfl ?_ | (refine rw_on rfl ?_; refine rw_v (op_pure rfl) ?_)
      first | refine rw_off rfl ?_ | (refine rw_on rfl ?_; refine rw_v (op_pure rfl) ?_)
      first | refine rw_off rfl ?_ | (refine rw_on rfl ?_; refine rw_v (op_pure rfl) ?_)
      first | refine rw_off rfl ?_ | (refine rw_on rfl ?_; refine rw_v (op_pure rfl) ?_)
      first | refine rw_off rfl ?_ | (refine rw_on rfl ?_; refine rw_v (op_pure rfl) ?_)
      first | refine rw_off rfl ?_ | (refine rw_on rfl ?_; refine rw_v (op_fieldAddr Try.underlying83 rfl Try.sizeOf30 rfl rfl) ?_)
      first | refine rw_off rfl ?_ | (refine rw_on rfl ?_; refine rw_v (op_indexAddrQ Try.underlying30 Try.sizeOf29 rfl rfl (by omega) (by omega) (o' := 4 + 0) (by simp)) ?_)
      first | refine rw_off rfl ?_ | (refine rw_on rfl ?_; refine rw_r (op_loadB Try.underlying29 rfl rfl hB rfl) ?_)
      first | refine rw_off rfl ?_ | (refine rw_on rfl ?_; refine rw_v (op_len Try.underlying29 rfl) ?_)
      first | refine rw_off rfl ?_ | (refine rw_on rfl ?_; (first | refine rw_v (op_b (b := true) rfl (decide_eq_true (by omega))) ?_ | refine rw_v (op_b (b := false) rfl (decide_eq_false (by omega))) ?_ | refine rw_v (op_pure rfl) ?_))
      first | refine rw_off rfl ?_ | (refine rw_on rfl ?_; refine rw_v (op_pure rfl) ?_)
      refine rw_v (op_pure rfl) ?_
      first | refine rw_end ?_ | (refine rw_nil ?_; show CW _ _ _ _ _ _) | refine rw_nil ?_
      exact ⟨⟨rfl, rfl, rfl, rfl, trivial⟩, G0⟩
    · simp only [fileOf] at hn
      have hn : n ≤ s.seen.2.length := hn
      repeat refine cw_seq ?_
      refine cw_region ?_
      refine rw_v (op_pure rfl) ?_
      refine rw_call rfl (dburns_E F p s l0 l1 ws _ _ _ (hD.gr G0)) ?_
      rintro _ w2 ⟨rfl, g2⟩
      have hB := hB.gr g2
      have G0 := G0.trans g2
      rw [hb]
      refine rw_v (op_pure rfl) ?_
      refine rw_v (op_pure rfl) ?_
      first | refine rw_off rfl ?_ | (refine rw_on rfl ?_; refine rw_v (op_pure rfl) ?_)
      first | refine rw_off rfl ?_ | (refine rw_on rfl ?_; (first | refine rw_v (op_b (b := true) rfl (decide_eq_true (by omega))) ?_ | refine rw_v (op_b (b := false) rfl (decide_eq_false (by omega))) ?_ | refine rw_v (op_pure rfl) ?_))
      first | refine rw_off rfl ?_ | (refine rw_on rfl ?_; refine rw_v (op_pure rfl) ?_)
      first | refine rw_off rfl ?_ | (refine rw_on rfl ?_; refine rw_v (op_pure rfl) ?_)
      first | refine rw_off rfl ?_ | (refine rw_on rfl ?_; refine rw_v (op_pure rfl) ?_)
      first | refine rw_off rfl ?_ | (refine rw_on rfl ?_; refine rw_v (op_pure rfl) ?_)
      first | refine rw_off rfl ?_ | (refine rw_on rfl ?_; refine rw_v (op_pure rfl) ?_)
      first | refine rw_off rfl ?_ | (refine rw_on rfl ?_; refine rw_v (op_fieldAddr Try.underlying83 rfl Try.sizeOf30 rfl rfl) ?_)
      first | refine rw_off rfl ?_ | (refine rw_on rfl ?_; refine rw_v (op_indexAddrQ Try.underlying30 Try.sizeOf29 rfl rfl (by omega) (by omega) (o' := 4 + 1) (by simp)) ?_)
      first | refine rw_off rfl ?_ | (refine rw_on rfl ?_; refine rw_r (op_loadB Try.underlying29 rfl rfl hB rfl) ?_)
      first | refine rw_off rfl ?_ | (refine rw_on rfl ?_; refine rw_v (op_len Try.underlying29 rfl) ?_)
      first | refine rw_off rfl ?_ | (refine rw_on rfl ?_; (first | refine rw_v (op_b (b := true) rfl (decide_eq_true (by omega))) ?_ | refine rw_v (op_b (b := false) rfl (decide_eq_false (by omega))) ?_ | refine rw_v (op_pure rfl) ?_))
      first | refine rw_off rfl ?_ | (refine rw_on rfl ?_; refine rw_v (op_pure rfl) ?_)
      refine rw_v (op_pure rfl) ?_
      first | refine rw_end ?_ | (refine rw_nil ?_; show CW _ _ _ _ _ _) | refine rw_nil ?_
      exact ⟨⟨rfl, rfl, rfl, rfl, trivial⟩, G0⟩
  rintro e1 w1 ⟨hsl, G0⟩
  rw [hsl.fold]
  have hub0 := G0.le
  repeat refine cw_seq ?_
  refine cw_false rfl ?_
  refine cw_skip ?_
  try show CW _ _ _ _ _ _
  repeat refine cw_seq ?_
  refine cw_region ?_
  refine rw_v (op_pure rfl) ?_
  refine rw_v (op_pure rfl) ?_
  refine rw_v (op_pure rfl) ?_
  refine rw_v (op_build (pl := [(0, 1), (1, 1)]) Try.underlying134 Try.zeroValue134 (fun w => by kernel_rfl) rfl rfl) ?_
  refine rw_v (op_iface Try.underlying134 rfl rfl) ?_
  try have qb1_ := G0.le
  refine rw_new (op_buildSlice Try.underlying81 Try.sizeOf98 Try.zeroValue98 rfl rfl rfl rfl rfl) ?_
  intro w1_ g1_ s1_ b1_
  have G0 := G0.trans g1_
  refine rw_call rfl (ddeedS_E F p s (some ⟨w1.heap.size, 0, none⟩) 1 [DU.cut f n] hfu hok hsm (by simpa using hwl) _ (hD0.gr G0) (R1.of_blk b1_ (by simp [maxLen])).rd (by intro a ha hFa; cases ha; have h9 : w1.heap.size < W.heap.size := hF _ hFa; omega) (by intro h; cases h)) ?_
  rintro _ w3 ⟨rfl, h3⟩
  refine rw_v (op_pure rfl) ?_
  first | refine rw_end ?_ | (refine rw_nil ?_; show CW _ _ _ _ _ _) | refine rw_nil ?_
  refine cw_ret ?_
  repeat first | refine ret_then ?_ | refine ret_inb ?_
  exact res1 rfl ⟨rfl, (DiskP.of_gr hD0 G0).trans ⟨h3.1.weak (fun g hg => hg.imp .inl id), h3.2.weak (fun _ => .inl)⟩⟩
set_option maxHeartbeats 1000000 in
theorem dcutArg_E (F : Nat → Prop) (p : Nat) (s : DS) (f : Nat) (n : Int) (hf : f = 0 ∨ f = 1) (hn : n < 0 ∨ (fileOf f s.seen).length < n) (W : World) (hD : DiskIs W F p s) (hk : s.dark = false) (hb : s.burns = false) (hbig : bigB s.seen) :
    Fn Try.prog 36 [.pointer (some ⟨p, 0, none⟩), .int .i64 f, .int .i64 n] W (RetG (.int .i64 11) W) := by
  have G0 := Gr.refl W
  have hD0 := hD
  obtain ⟨l0, l1, ws, s0, s1, hD⟩ := hD
  have hcode : s.code f = 0 := by rcases hf with rfl | rfl <;> simp [DS.code, hk]
  have hB := hD.blk
  unfold DS.cells at hB
  obtain ⟨A0, c0, h0⟩ := hD.seen.1.slice
  obtain ⟨A1, c1, h1⟩ := hD.seen.2.1.slice
  rw [c8_length] at h0 h1
  subst h0
  subst h1
  have hb1 := hbig.1
  have hb2 := hbig.2
  have hn3 : n < 0 ∨ 0 ≤ n ∧ (fileOf f s.seen).length < n := by omega
  refine Fn_enter Try.func36 rfl Try.results36 Try.ntmps36 (by kernel_rfl) (by kernel_rfl) ?_
  repeat refine cw_seq ?_
  refine cw_region ?_
  refine rw_v (op_pure rfl) ?_
  first | refine rw_end ?_ | (refine rw_nil ?_; show CW _ _ _ _ _ _) | refine rw_nil ?_
  repeat refine cw_seq ?_
  refine cw_region ?_
  refine rw_v (op_pure rfl) ?_
  refine rw_v (op_pure rfl) ?_
  refine rw_call rfl (dcheck_E F p s l0 l1 ws _ _ _ _ hD) ?_
  rintro _ w1 ⟨rfl, g1⟩
  have hB := hB.gr g1
  have G0 := G0.trans g1
  refine rw_v (op_pure rfl) ?_
  first | refine rw_end ?_ | (refine rw_nil ?_; show CW _ _ _ _ _ _) | refine rw_nil ?_
  repeat refine cw_seq ?_
  refine cw_region ?_
  refine rw_v (op_pure rfl) ?_
  refine rw_v (op_b (b := false) rfl (by rw [hcode]; rfl)) ?_
  first | refine rw_end ?_ | (refine rw_nil ?_; show CW _ _ _ _ _ _) | refine rw_nil ?_
  repeat refine cw_seq ?_
  refine cw_false rfl ?_
  refine cw_skip ?_
  try show CW _ _ _ _ _ _
  repeat refine cw_seq ?_
  refine cw_cutT (M := fun e w => SL e [(31, .bool true)] ∧ Gr W w) ?_ ?_
  · rcases hn3 with hn3 | hn3
    · repeat refine cw_seq ?_
      refine cw_region ?_
      refine rw_v (op_pure rfl) ?_
      refine rw_call rfl (dburns_E F p s l0 l1 ws _ _ _ (hD.gr G0)) ?_
      rintro _ w2 ⟨rfl, g2⟩
      have hB := hB.gr g2
      have G0 := G0.trans g2
      rw [hb]
      refine rw_v (op_pure rfl) ?_
      refine rw_v (op_pure rfl) ?_
      first | refine rw_off rfl ?_ | (refine rw_on rfl ?_; refine rw_v (op_pure rfl) ?_)
      first | refine rw_off rfl ?_ | (refine rw_on rfl ?_; (first | refine rw_v (op_b (b := true) rfl (decide_eq_true (by omega))) ?_ | refine rw_v (op_b (b := false) rfl (decide_eq_false (by omega))) ?_ | refine rw_v (op_pure rfl) ?_))
      first | refine rw_off rfl ?_ | (refine rw_on rfl ?_; refine rw_v (op_pure rfl) ?_)
      first | refine rw_off rfl ?_ | (refine rw_on rfl ?_; refine rw_v (op_pure rfl) ?_)
      first | refine rw_off rfl ?_ | (refine rw_on rfl ?_; refine rw_v (op_pure rfl) ?_)
      first | refine rw_off rfl ?_ | (refine rw_on rfl ?_; refine rw_v (op_pure rfl) ?_)
      first | refine rw_off rfl ?_ | (refine rw_on rfl ?_; refine rw_v (op_pure rfl) ?_)
      first | refine rw_off rfl ?_ | (refine rw_on rfl ?_; refine rw_v (op_fieldAddr Try.underlying83 rfl Try.sizeOf30 rfl rfl) ?_)
      first | refine rw_off rfl ?_ | (refine rw_on rfl ?_; refine rw_v (op_indexAddrP Try.underlying30 Try.sizeOf29 rfl rfl (by omega) (by omega)) ?_)
      first | refine rw_off rfl ?_ | (refine rw_on rfl ?_; refine rw_r (op_loadB Try.underlying29 rfl rfl hB rfl) ?_)
      first | refine rw_off rfl ?_ | (refine rw_on rfl ?_; refine rw_v (op_len Try.underlying29 rfl) ?_)
      first | refine rw_off rfl ?_ | (refine rw_on rfl ?_; (first | refine rw_v (op_b (b := true) rfl (decide_eq_true (by omega))) ?_ | refine rw_v (op_b (b := false) rfl (decide_eq_false (by omega))) ?_ | refine rw_v (op_pure rfl) ?_))
      first | refine rw_off rfl ?_ | (refine rw_on rfl ?_; refine rw_v (op_pure rfl) ?_)
      refine rw_v (op_pure rfl) ?_
      first | refine rw_end ?_ | (refine rw_nil ?_; show CW _ _ _ _ _ _) | refine rw_nil ?_
      exact ⟨⟨rfl, trivial⟩, G0⟩
    rcases hf with rfl | rfl
    · simp only [fileOf] at hn3
      have hn3 : 0 ≤ n ∧ s.seen.1.length < n := hn3
      repeat refine cw_seq ?_
      refine cw_region ?_
      refine rw_v (op_pure rfl) ?_
      refine rw_call rfl (dburns_E F p s l0 l1 ws _ _ _ (hD.gr G0)) ?_
      rintro _ w2 ⟨rfl, g2⟩
      have hB := hB.gr g2
      have G0 := G0.trans g2
      rw [hb]
      refine rw_v (op_pure rfl) ?_
      refine rw_v (op_pure rfl) ?_
      first | refine rw_off rfl ?_ | (refine rw_on rfl ?_; refine rw_v (op_pure rfl) ?_)
      first | refine rw_off rfl ?_ | (refine rw_on rfl ?_; (first | refine rw_v (op_b (b := true) rfl (decide_eq_true (by omega))) ?_ | refine rw_v (op_b (b := false) rfl (decide_eq_false (by omega))) ?_ | refine rw_v (op_pure rfl) ?_))
      first | refine rw_off rfl ?_ | (refine rw_on rfl ?_; refine rw_v (op_pure rfl) ?_)
      first | refine rw_off rfl ?_ | (refine rw_on rfl ?_; refine rw_v (op_pure rfl) ?_)
      first | refine rw_off rfl ?_ | (refine rw_on rfl ?_; refine rw_v (op_pure rfl) ?_)
      first | refine rw_off rfl ?_ | (refine rw_on rfl ?_; refine rw_v (op_pure rfl) ?_)
      first | refine rw_off rfl ?_ | (refine rw_on rfl ?_; refine rw_v (op_pure rfl) ?_)
      first | refine rw_off rfl ?_ | (refine rw_on rfl ?_; refine rw_v (op_fieldAddr Try.underlying83 rfl Try.sizeOf30 rfl rfl) ?_)
      first | refine rw_off rfl ?_ | (refine rw_on rfl ?_; refine rw_v (op_indexAddrQ Try.underlying30 Try.sizeOf29 rfl rfl (by omega) (by omega) (o' := 4 + 0) (by simp)) ?_)
      first | refine rw_off rfl ?_ | (refine rw_on rfl ?_; refine rw_r (op_loadB Try.underlying29 rfl rfl hB rfl) ?_)
      first | refine rw_off rfl ?_ | (refine rw_on rfl ?_; refine rw_v (op_len Try.underlying29 rfl) ?_)
      first | refine rw_off rfl ?_ | (refine rw_on rfl ?_; (first | refine rw_v (op_b (b := true) rfl (decide_eq_true (by omega))) ?_ | refine rw_v (op_b (b := false) rfl (decide_eq_false (by omega))) ?_ | refine rw_v (op_pure rfl) ?_))
      first | refine rw_off rfl ?_ | (refine rw_on rfl ?_; refine rw_v (op_pure rfl) ?_)
      refine rw_v (op_pure rfl) ?_
      first | refine rw_end ?_ | (refine rw_nil ?_; show CW _ _ _ _ _ _) | refine rw_nil ?_
      exact ⟨⟨rfl, trivial⟩, G0⟩
    · simp only [fileOf] at hn3
      have hn3 : 0 ≤ n ∧ s.seen.2.length < n := hn3
      repeat refine cw_seq ?_
      refine cw_region ?_
      refine rw_v (op_pure rfl) ?_
      refine rw_call rfl (dburns_E F p s l0 l1 ws _ _ _ (hD.gr G0)) ?_
      rintro _ w2 ⟨rfl, g2⟩
      have hB := hB.gr g2
      have G0 := G0.trans g2
      rw [hb]
      refine rw_v (op_pure rfl) ?_
      refine rw_v (op_pure rfl) ?_
      first | refine rw_off rfl ?_ | (refine rw_on rfl ?_; refine rw_v (op_pure rfl) ?_)
      first | refine rw_off rfl ?_ | (refine rw_on rfl ?_; (first | refine rw_v (op_b (b := true) rfl (decide_eq_true (by omega))) ?_ | refine rw_v (op_b (b := false) rfl (decide_eq_false (by omega))) ?_ | refine rw_v (op_pure rfl) ?_))
      first | refine rw_off rfl ?_ | (refine rw_on rfl ?_; refine rw_v (op_pure rfl) ?_)
      first | refine rw_off rfl ?_ | (refine rw_on rfl ?_; refine rw_v (op_pure rfl) ?_)
      first | refine rw_off rfl ?_ | (refine rw_on rfl ?_; refine rw_v (op_pure rfl) ?_)
      first | refine rw_off rfl ?_ | (refine rw_on rfl ?_; refine rw_v (op_pure rfl) ?_)
      first | refine rw_off rfl ?_ | (refine rw_on rfl ?_; refine rw_v (op_pure rfl) ?_)
      first | refine rw_off rfl ?_ | (refine rw_on rfl ?_; refine rw_v (op_fieldAddr Try.underlying83 rfl Try.sizeOf30 rfl rfl) ?_)
      first | refine rw_off rfl ?_ | (refine rw_on rfl ?_; refine rw_v (op_indexAddrQ Try.underlying30 Try.sizeOf29 rfl rfl (by omega) (by omega) (o' := 4 + 1) (by simp)) ?_)
      first | refine rw_off rfl ?_ | (refine rw_on rfl ?_; refine rw_r (op_loadB Try.underlying29 rfl rfl hB rfl) ?_)
      first | refine rw_off rfl ?_ | (refine rw_on rfl ?_; refine rw_v (op_len Try.underlying29 rfl) ?_)
      first | refine rw_off rfl ?_ | (refine rw_on rfl ?_; (first | refine rw_v (op_b (b := true) rfl (decide_eq_true (by omega))) ?_ | refine rw_v (op_b (b := false) rfl (decide_eq_false (by omega))) ?_ | refine rw_v (op_pure rfl) ?_))
      first | refine rw_off rfl ?_ | (refine rw_on rfl ?_; refine rw_v (op_pure rfl) ?_)
      refine rw_v (op_pure rfl) ?_
      first | refine rw_end ?_ | (refine rw_nil ?_; show CW _ _ _ _ _ _) | refine rw_nil ?_
      exact ⟨⟨rfl, trivial⟩, G0⟩
  rintro e1 w1 ⟨hsl, G0⟩
  rw [hsl.fold]
  repeat refine cw_seq ?_
  refine cw_true rfl ?_
  repeat refine cw_seq ?_
  refine cw_region ?_
  refine rw_v (op_pure rfl) ?_
  first | refine rw_end ?_ | (refine rw_nil ?_; show CW _ _ _ _ _ _) | refine rw_nil ?_
  refine cw_ret ?_
  repeat first | refine ret_then ?_ | refine ret_inb ?_
  exact res1 rfl ⟨rfl, G0⟩
end Go.Proofs.Ytkpokpaehlhhaaa
