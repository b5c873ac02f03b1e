/- Package disk: the units, bytes.Clone, what a deed does to files in memory. -/
import Derived.Test.YtkpokpaehlhhaaaMemD
namespace Go.Proofs.Ytkpokpaehlhhaaa
open Go.RowKit
set_option linter.unusedVariables false
set_option linter.unusedSimpArgs false
set_option maxRecDepth 100000

theorem info_u8 : (Try.prog.info? 5).map (fun i => (i.zero, i.size, i.bytes)) = some (some (.int .u8 0), 1, 1) := by kernel_rfl
/-- a result that is told, in a world that has grown -/
def RetR (el : TypeId) (xs : List Value) (W : World) (r : Value) (w' : World) : Prop := R1 w' el r xs ∧ Gr W w' ∧ ∀ g, r.ownBlock = some g → W.heap.size ≤ g

theorem clone_E (A : Option Addr) (n c : Nat) (bs : List Int) (hn : n = bs.length) (W : World) (hR : Rd W A (c8 bs)) (hA : A = none → c = 0) (hl : bs.length ≤ 1099511627776) :
    Fn Try.prog 39 [.slice A n c] W (RetR 5 (c8 bs) W) := by
  subst hn
  have G0 := Gr.refl W
  refine Fn_enter Try.func39 rfl Try.results39 Try.ntmps39 (by kernel_rfl) (by kernel_rfl) ?_
  repeat refine cw_seq ?_
  refine cw_region ?_
  refine rw_v (op_pure rfl) ?_
  first | refine rw_end ?_ | (refine rw_nil ?_; show CW _ _ _ _ _ _) | refine rw_nil ?_
  repeat refine cw_seq ?_
  refine cw_region ?_
  refine rw_v (op_pure rfl) ?_
  refine rw_v (op_nils Try.underlying29 rfl rfl) ?_
  first | refine rw_end ?_ | (refine rw_nil ?_; show CW _ _ _ _ _ _) | refine rw_nil ?_
  repeat refine cw_seq ?_
  refine cw_cond rfl (fun hc => ?_) (fun hc => ?_)
  · repeat refine cw_seq ?_
    refine cw_region ?_
    refine rw_v (op_pure rfl) ?_
    first | refine rw_end ?_ | (refine rw_nil ?_; show CW _ _ _ _ _ _) | refine rw_nil ?_
    cases A with
    | some a => cases hc
    | none =>
      have hb : bs = [] := by
        rcases hR with h | ⟨b, o, h, _⟩
        · simpa [c8] using h
        · cases h
      subst hb
      exact cw_ret (res1 rfl ⟨R1.nil _ _, G0, fun g h => by cases h⟩)
  · refine cw_skip ?_
    try show CW _ _ _ _ _ _
    repeat refine cw_seq ?_
    refine cw_region ?_
    refine rw_new (op_build0 Try.underlying29 Try.sizeOf5) ?_
    intro w1 g1 s1 b1
    have hR := hR.gr g1
    have r1 := R1.of_blk (l := []) b1 (by simp)
    have hz1 := g1.le
    refine rw_v (op_pure rfl) ?_
    refine rw_app Try.underlying29 info_u8 rfl rfl r1 rfl (by simp [c8]) hA hR (by simp [c8, Value.oneCell']) (by simp [c8]; omega) ?_
    intro v2 w2 r2 g2 o2
    obtain ⟨A2, c2, rfl⟩ := r2.slice
    have G0 : Gr W w2 := Gr.trans (Fr.gr (Fr.trans (Fr.of_gr (F := fun g => W.heap.size ≤ g) g1) (Fr.of_grown (F := fun g => W.heap.size ≤ g) g2 (fun g hg => by cases hg; exact Nat.le_refl _)) (fun g hg => .inl hg)) (fun g hg => hg)) (Gr.refl _)
    refine rw_v (op_pure rfl) ?_
    first | refine rw_end ?_ | (refine rw_nil ?_; show CW _ _ _ _ _ _) | refine rw_nil ?_
    refine cw_ret (res1 rfl ⟨by simpa using r2, G0, fun g hg => ?_⟩)
    rcases o2 with h | h
    · rw [h] at hg; cases hg; exact Nat.le_refl _
    · rw [h] at hg; cases hg; exact g1.le

/-- a unit that waits -/
inductive DU where
  | add (f : Nat) (b : Int)
  | cut (f : Nat) (n : Nat)
def DU.val : DU → Value
  | .add f b => .iface 96 (.agg #[.int .i64 f, .int .u8 b])
  | .cut f n => .iface 134 (.agg #[.int .i64 f, .int .i64 n])
def DU.rcv : DU → Value
  | .add f b => .agg #[.int .i64 f, .int .u8 b]
  | .cut f n => .agg #[.int .i64 f, .int .i64 n]
def DU.fn : DU → FuncId
  | .add _ _ => 114
  | .cut _ _ => 115
def DU.on : DU → List Int × List Int → List Int × List Int
  | .add 0 b, (x, y) => (x ++ [b], y)
  | .add _ b, (x, y) => (x, y ++ [b])
  | .cut 0 n, (x, y) => (x.take n, y)
  | .cut _ n, (x, y) => (x, y.take n)
def byteB (b : Int) : Prop := 0 ≤ b ∧ b < 256
def DU.ok : DU → List Int × List Int → Prop
  | .add f b, _ => (f = 0 ∨ f = 1) ∧ byteB b
  | .cut f n, (x, y) => (f = 0 ∧ n ≤ x.length) ∨ (f = 1 ∧ n ≤ y.length)
def bigB (fs : List Int × List Int) : Prop := fs.1.length < 1099511627776 ∧ fs.2.length < 1099511627776
def Two (w : World) (v0 v1 : Value) (fs : List Int × List Int) : Prop := R1 w 5 v0 (c8 fs.1) ∧ R1 w 5 v1 (c8 fs.2) ∧ ∀ g, v0.ownBlock = some g → v1.ownBlock ≠ some g
def Owns (v0 v1 : Value) (g : Nat) : Prop := v0.ownBlock = some g ∨ v1.ownBlock = some g
/-- what a unit does to one file's slice, in cell k of block p -/
def OnR (p k : Nat) (tb : TypeId) (l : List Value) (v : Value) (xs : List Value) (W : World) (r : Value) (w' : World) : Prop :=
  r = .tuple #[] ∧ ∃ v', Blk w' p tb (l.set k v') ∧ R1 w' 5 v' xs ∧ (∀ g, v'.ownBlock = some g → v.ownBlock = some g ∨ W.heap.size ≤ g) ∧ Fr (fun g => g = p ∨ v.ownBlock = some g) W w'
/-- what is known as a unit's operations come up -/
def OnC (W1 : World) (p : Nat) (tb : TypeId) (l : List Value) (bx : Nat) (tx : TypeId) (lx : List Value) (v : Value) (xs ys : List Value) (τ : List Value) (w : World) : Prop :=
  Blk w bx tx lx ∧ Blk w p tb l ∧ match τ with
  | [] => R1 w 5 v xs ∧ Gr W1 w
  | [s] => R1 w 5 v xs ∧ Gr W1 w ∧ ∃ g, s = .slice (some ⟨g, 0, none⟩) ys.length ys.length ∧ Blk w g 5 ys ∧ W1.heap.size ≤ g
  | s :: _ => R1 w 5 s (xs ++ ys) ∧ (∀ g, s.ownBlock = some g → v.ownBlock = some g ∨ W1.heap.size ≤ g) ∧ Fr (fun g => v.ownBlock = some g) W1 w

theorem addOn_E (p o f : Nat) (tb : TypeId) (l : List Value) (v : Value) (bs : List Int) (b : Int) (hf : f = 0 ∨ f = 1) (hb : byteB b) (hl : bs.length < 1099511627776) (W : World) (hP : Blk W p tb l) (h0 : l[o + f]? = some v) (hr0 : R1 W 5 v (c8 bs)) (hp : v.ownBlock ≠ some p) :
    Fn Try.prog 114 [.agg #[.int .i64 f, .int .u8 b], .pointer (some ⟨p, o, none⟩)] W (OnR p (o + f) tb l v (c8 (bs ++ [b])) W) := by
  have G0 := Gr.refl W
  obtain ⟨A, c, rfl⟩ := hr0.slice
  have hpb := hP.lt
  have hvb : ∀ g, (Value.slice A (c8 bs).length c).ownBlock = some g → g < W.heap.size := fun g hg => hr0.lt hg
  refine Fn_enter Try.func114 rfl Try.results114 Try.ntmps114 (by kernel_rfl) (by kernel_rfl) ?_
  repeat refine cw_seq ?_
  refine cw_region ?_
  try have qb1_ := hP.lt
  try have qb1_ := G0.le
  refine rw_new (op_box rfl) ?_
  intro w1_ g1_ s1_ b1_
  have hP := hP.gr g1_
  have G0 := G0.trans g1_
  first | refine rw_end ?_ | (refine rw_nil ?_; show CW _ _ _ _ _ _) | refine rw_nil ?_
  have hr0 := hr0.gr g1_
  have hs1 := g1_.le
  repeat refine cw_seq ?_
  refine cw_tri (C := (OnC w1_ p tb l W.heap.size 96 [.int .i64 f, .int .u8 b] (.slice A (c8 bs).length c) (c8 bs) [.int .u8 b])) [11, 12] [0, 1, 2, 3, 4, 5, 6, 7, 8, 9, 10, 13, 11, 12] [14, 15] (by kernel_rfl) (by kernel_rfl) ⟨b1_, hP, hr0, Gr.drew _⟩ ?_
  simp only [pickI, pickL, List.drop_succ_cons, List.drop_zero]
  refine rs_v rfl (op_pure rfl) ?_
  refine rs_v rfl (op_fieldAddr Try.underlying96 rfl Try.sizeOf3 rfl rfl) ?_
  refine rs_r rfl (fun τ wq hq => op_loadB Try.underlying3 rfl rfl hq.1 rfl) ?_
  refine rs_v rfl (op_pure rfl) ?_
  refine rs_v rfl (op_fieldAddr Try.underlying96 rfl Try.sizeOf3 rfl rfl) ?_
  refine rs_r rfl (fun τ wq hq => op_loadB Try.underlying3 rfl rfl hq.1 rfl) ?_
  refine rs_v rfl (op_pure rfl) ?_
  refine rs_v rfl (op_indexAddrQ Try.underlying30 Try.sizeOf29 rfl rfl (by omega) (by omega) (o' := o + f) (by simp)) ?_
  refine rs_r rfl (fun τ wq hq => op_loadB Try.underlying29 rfl rfl hq.2.1 h0) ?_
  refine rs_v rfl (op_fieldAddr Try.underlying96 rfl Try.sizeOf5 rfl rfl) ?_
  refine rs_r rfl (fun τ wq hq => op_loadB Try.underlying5 rfl rfl hq.1 rfl) ?_
  refine rs_v rfl (op_pure rfl) ?_
  refine rs_special rfl rfl (fun wq hq => to_new (op_buildSlice Try.underlying29 Try.sizeOf5 Try.zeroValue5 rfl rfl rfl rfl rfl) (fun w' g s b => ⟨hq.1.gr g, hq.2.1.gr g, hq.2.2.1.gr g, hq.2.2.2.trans g, _, rfl, b, hq.2.2.2.le⟩)) ?_
  rintro v0 wq' ⟨_, _, _, _, gg, rfl, _, _⟩
  refine rs_special rfl rfl (fun wq hq => ?_) ?_
  · obtain ⟨hq1, hq2, hq3, hq4, g', he, hq5, hq6⟩ := hq; cases he; exact to_app Try.underlying29 info_u8 rfl rfl hq3 rfl rfl (fun h => by cases h) ((R1.of_blk hq5 (by simp [maxLen])).rd) rfl (by simp [c8]; omega) (fun v' w' h2 h3 h4 => ⟨hq1.grown h3 (by intro h; have := hvb _ h.symm; omega), hq2.grown h3 (fun h => hp h.symm), h2, fun g hg => h4.elim (fun h4 => .inl (h4 ▸ hg)) (fun h4 => .inr (by rw [h4] at hg; cases hg; exact hq4.le)), (Fr.of_gr hq4).trans (Fr.of_grown h3 (fun g hg => hg)) (fun g hg => .inl hg)⟩)
  rintro v0 wq' ⟨_, _, hr9, _, _⟩
  obtain ⟨A9, c9, rfl⟩ := hr9.slice
  refine rs_nil ?_
  rintro w5 ⟨b5, hP, hr5, ho5, F5⟩
  refine rw_v (op_indexAddrQ Try.underlying30 Try.sizeOf29 rfl rfl (by omega) (by omega) (o' := o + f) (by simp)) ?_
  refine rw_store (Try.sizeOf29 _) rfl rfl rfl rfl hP h0 ?_
  intro w6 g6 s6 b6
  refine rw_nil ?_
  have F6 : Fr (fun g => g = p ∨ (Value.slice A (c8 bs).length c).ownBlock = some g) W w6 :=
    (((Fr.of_gr (F := fun g => g = p ∨ (Value.slice A (c8 bs).length c).ownBlock = some g) g1_).trans F5 (fun g hg => .inl (.inr hg))).trans (Fr.of_grown g6 (F := fun g => g = p) (fun g hg => by cases hg; rfl)) (fun g hg => .inl (.inl hg)))
  exact res0n ⟨rfl, _, b6, by have := hr5.fr (Fr.of_grown g6 (F := fun g => g = p) (fun g hg => by cases hg; rfl)) (fun g hg hgp => by subst hgp; exact (ho5 _ hg).elim hp (fun h => by omega)); simpa [c8] using this, fun g hg => (ho5 g hg).imp id (fun h => by omega), F6⟩

theorem c8_length (bs : List Int) : (c8 bs).length = bs.length := by simp [c8]
theorem c8_take (bs : List Int) (n : Nat) : c8 (bs.take n) = (c8 bs).take n := by simp [c8, List.map_take]
theorem Rd.take {w : World} {A : Option Addr} {xs : List Value} (h : Rd w A xs) (n : Nat) : Rd w A (xs.take n) := by
  rcases h with rfl | ⟨b, o, h, hb, hc⟩
  · exact .inl (by simp)
  · refine .inr ⟨b, o, h, hb, fun j v hj => hc j v ?_⟩
    rw [List.getElem?_take] at hj
    split at hj
    · exact hj
    · cases hj
theorem R1.cap0 {w : World} {el : TypeId} {A : Option Addr} {n c : Nat} {xs : List Value} (h : R1 w el (.slice A n c) xs) : (A = none → c = 0) ∧ n ≤ c := by
  rcases h.form with ⟨hv, _⟩ | ⟨g, c', l, hv, _, hc, _⟩
  · injection hv with h1 h2 h3; subst h2; subst h3; exact ⟨fun _ => rfl, Nat.le_refl _⟩
  · injection hv with h1 h2 h3; subst h1; subst h2; subst h3; exact ⟨(fun h => by cases h), hc⟩
def CutC (W1 : World) (p : Nat) (tb : TypeId) (l : List Value) (bx : Nat) (tx : TypeId) (lx : List Value) (v : Value) (xs ys : List Value) (τ : List Value) (w : World) : Prop :=
  Blk w bx tx lx ∧ Blk w p tb l ∧ R1 w 5 v xs ∧ Gr W1 w ∧ match τ with
  | [] => True
  | s :: _ => R1 w 5 s ys ∧ ∀ g, s.ownBlock = some g → W1.heap.size ≤ g

theorem cutOn_E (p o f n : Nat) (tb : TypeId) (l : List Value) (v : Value) (bs : List Int) (hf : f = 0 ∨ f = 1) (hn : n ≤ bs.length) (hl : bs.length < 1099511627776) (W : World) (hP : Blk W p tb l) (h0 : l[o + f]? = some v) (hr0 : R1 W 5 v (c8 bs)) (hp : v.ownBlock ≠ some p) :
    Fn Try.prog 115 [.agg #[.int .i64 f, .int .i64 n], .pointer (some ⟨p, o, none⟩)] W (OnR p (o + f) tb l v (c8 (bs.take n)) W) := by
  have G0 := Gr.refl W
  obtain ⟨A, c, rfl⟩ := hr0.slice
  have hcap := hr0.cap0
  rw [c8_length] at hcap
  have hpb := hP.lt
  refine Fn_enter Try.func115 rfl Try.results115 Try.ntmps115 (by kernel_rfl) (by kernel_rfl) ?_
  repeat refine cw_seq ?_
  refine cw_region ?_
  try have qb1_ := hP.lt
  try have qb1_ := G0.le
  refine rw_new (op_box rfl) ?_
  intro w1_ g1_ s1_ b1_
  have hP := hP.gr g1_
  have G0 := G0.trans g1_
  first | refine rw_end ?_ | (refine rw_nil ?_; show CW _ _ _ _ _ _) | refine rw_nil ?_
  have hr0 := hr0.gr g1_
  have hs1 := g1_.le
  repeat refine cw_seq ?_
  refine cw_tri (C := (CutC w1_ p tb l W.heap.size 134 [.int .i64 f, .int .i64 n] (.slice A (c8 bs).length c) (c8 bs) (c8 (bs.take n)))) [12] [0, 1, 2, 3, 4, 5, 6, 7, 8, 9, 10, 11, 13, 12] [14, 15] (by kernel_rfl) (by kernel_rfl) ⟨b1_, hP, hr0, Gr.drew _, trivial⟩ ?_
  simp only [pickI, pickL, List.drop_succ_cons, List.drop_zero]
  refine rs_v rfl (op_pure rfl) ?_
  refine rs_v rfl (op_fieldAddr Try.underlying134 rfl Try.sizeOf3 rfl rfl) ?_
  refine rs_r rfl (fun τ wq hq => op_loadB Try.underlying3 rfl rfl hq.1 rfl) ?_
  refine rs_v rfl (op_pure rfl) ?_
  refine rs_v rfl (op_fieldAddr Try.underlying134 rfl Try.sizeOf3 rfl rfl) ?_
  refine rs_r rfl (fun τ wq hq => op_loadB Try.underlying3 rfl rfl hq.1 rfl) ?_
  refine rs_v rfl (op_pure rfl) ?_
  refine rs_v rfl (op_indexAddrQ Try.underlying30 Try.sizeOf29 rfl rfl (by omega) (by omega) (o' := o + f) (by simp)) ?_
  refine rs_r rfl (fun τ wq hq => op_loadB Try.underlying29 rfl rfl hq.2.1 h0) ?_
  refine rs_v rfl (op_fieldAddr Try.underlying134 rfl Try.sizeOf2 rfl rfl) ?_
  refine rs_r rfl (fun τ wq hq => op_loadB Try.underlying2 rfl rfl hq.1 rfl) ?_
  refine rs_v rfl (op_slice_h Try.underlying29 Try.sizeOf5 rfl rfl (by omega) (by omega)) ?_
  refine rs_v rfl (op_pure rfl) ?_
  refine rs_special rfl rfl (fun wq hq => ?_) ?_
  · obtain ⟨hq1, hq2, hq3, hq4, _⟩ := hq; refine to_call rfl ((clone_E A n c (bs.take n) (by simp; omega) wq (by rw [c8_take]; exact hq3.rd.take n) hcap.1 (by simp; omega)).mono ?_); rintro v' w' ⟨h1, h2, h3⟩; exact ⟨hq1.gr h2, hq2.gr h2, hq3.gr h2, hq4.trans h2, h1, fun g hg => Nat.le_trans hq4.le (h3 g hg)⟩
  rintro v0 wq' ⟨_, _, _, _, hr9, _⟩
  obtain ⟨A9, c9, rfl⟩ := hr9.slice
  refine rs_nil ?_
  rintro w5 ⟨b5, hP, _, G5, hr5, ho5⟩
  refine rw_v (op_indexAddrQ Try.underlying30 Try.sizeOf29 rfl rfl (by omega) (by omega) (o' := o + f) (by simp)) ?_
  refine rw_store (Try.sizeOf29 _) rfl rfl rfl rfl hP h0 ?_
  intro w6 g6 s6 b6
  refine rw_nil ?_
  have F6 : Fr (fun g => g = p ∨ (Value.slice A (c8 bs).length c).ownBlock = some g) W w6 :=
    (((Fr.of_gr (F := fun g => g = p ∨ (Value.slice A (c8 bs).length c).ownBlock = some g) (Gr.trans g1_ G5)).trans (Fr.of_grown g6 (F := fun g => g = p) (fun g hg => by cases hg; rfl)) (fun g hg => .inl (.inl hg))))
  exact res0n ⟨rfl, _, b6, hr5.fr (Fr.of_grown g6 (F := fun g => g = p) (fun g hg => by cases hg; rfl)) (fun g hg hgp => by subst hgp; have := ho5 _ hg; omega), fun g hg => .inr (by have := ho5 _ hg; omega), F6⟩

/-- a unit, to two files -/
def On2 (p o : Nat) (tb : TypeId) (l : List Value) (v0 v1 : Value) (fs' : List Int × List Int) (W : World) (r : Value) (w' : World) : Prop :=
  r = .tuple #[] ∧ ∃ v0' v1', Blk w' p tb ((l.set o v0').set (o + 1) v1') ∧ Two w' v0' v1' fs' ∧ (∀ g, Owns v0' v1' g → Owns v0 v1 g ∨ W.heap.size ≤ g) ∧ Fr (fun g => g = p ∨ Owns v0 v1 g) W w'
theorem set_self {l : List Value} {k : Nat} {v : Value} (h : l[k]? = some v) : l.set k v = l := by
  apply List.ext_getElem?
  intro j
  rw [List.getElem?_set]
  split
  · rename_i hj; subst hj; rw [h, if_pos (List.getElem?_eq_some_iff.1 h).1]
  · rfl
theorem On2_of0 {p o : Nat} {tb : TypeId} {l : List Value} {v0 v1 : Value} {x y x' : List Int} {W : World} (h1 : l[o + 1]? = some v1) (hT : Two W v0 v1 (x, y)) (hp : ¬ Owns v0 v1 p) {r : Value} {w' : World} (h : OnR p (o + 0) tb l v0 (c8 x') W r w') : On2 p o tb l v0 v1 (x', y) W r w' := by
  obtain ⟨hr, v', hB, hR, ho, hF⟩ := h
  have hd : ∀ g, v1.ownBlock = some g → ¬ (g = p ∨ v0.ownBlock = some g) := fun g hg hh => hh.elim (fun e => hp (.inr (e ▸ hg))) (fun e => hT.2.2 g e hg)
  refine ⟨hr, v', v1, ?_, ⟨hR, hT.2.1.fr hF hd, fun g hg hg1 => ?_⟩, fun g hg => ?_, hF.weak fun g hg => hg.imp id .inl⟩
  · rw [Nat.add_zero] at hB
    rw [set_self (l := l.set o v')]
    · exact hB
    · rw [List.getElem?_set_ne (by omega)]; exact h1
  · rcases ho g hg with h | h
    · exact hT.2.2 g h hg1
    · have := hT.2.1.lt hg1; omega
  · rcases hg with h | h
    · exact (ho g h).imp .inl id
    · exact .inl (.inr h)
theorem On2_of1 {p o : Nat} {tb : TypeId} {l : List Value} {v0 v1 : Value} {x y y' : List Int} {W : World} (h0 : l[o]? = some v0) (hT : Two W v0 v1 (x, y)) (hp : ¬ Owns v0 v1 p) {r : Value} {w' : World} (h : OnR p (o + 1) tb l v1 (c8 y') W r w') : On2 p o tb l v0 v1 (x, y') W r w' := by
  obtain ⟨hr, v', hB, hR, ho, hF⟩ := h
  have hd : ∀ g, v0.ownBlock = some g → ¬ (g = p ∨ v1.ownBlock = some g) := fun g hg hh => hh.elim (fun e => hp (.inl (e ▸ hg))) (fun e => hT.2.2 g hg e)
  refine ⟨hr, v0, v', ?_, ⟨hT.1.fr hF hd, hR, fun g hg hg1 => ?_⟩, fun g hg => ?_, hF.weak fun g hg => hg.imp id .inr⟩
  · rw [set_self h0]; exact hB
  · rcases ho g hg1 with h | h
    · exact hT.2.2 g hg h
    · have := hT.1.lt hg; omega
  · rcases hg with h | h
    · exact .inl (.inl h)
    · exact (ho g h).imp .inr id
theorem onU_E (u : DU) (p o : Nat) (tb : TypeId) (l : List Value) (v0 v1 : Value) (fs : List Int × List Int) (hu : u.ok fs) (hf : bigB fs) (W : World) (hP : Blk W p tb l) (h0 : l[o]? = some v0) (h1 : l[o + 1]? = some v1) (hT : Two W v0 v1 fs) (hp : ¬ Owns v0 v1 p) :
    Fn Try.prog u.fn [u.rcv, .pointer (some ⟨p, o, none⟩)] W (On2 p o tb l v0 v1 (u.on fs) W) := by
  obtain ⟨x, y⟩ := fs
  cases u with
  | add f b =>
    rcases hu with ⟨rfl | rfl, hb⟩
    · exact (addOn_E p o 0 tb l v0 x b (.inl rfl) hb hf.1 W hP h0 hT.1 (fun h => hp (.inl h))).mono fun r w' h => On2_of0 h1 hT hp h
    · exact (addOn_E p o 1 tb l v1 y b (.inr rfl) hb hf.2 W hP h1 hT.2.1 (fun h => hp (.inr h))).mono fun r w' h => On2_of1 h0 hT hp h
  | cut f n =>
    rcases hu with ⟨rfl, hn⟩ | ⟨rfl, hn⟩
    · exact (cutOn_E p o 0 n tb l v0 x (.inl rfl) hn hf.1 W hP h0 hT.1 (fun h => hp (.inl h))).mono fun r w' h => On2_of0 h1 hT hp h
    · exact (cutOn_E p o 1 n tb l v1 y (.inr rfl) hn hf.2 W hP h1 hT.2.1 (fun h => hp (.inr h))).mono fun r w' h => On2_of1 h0 hT hp h
theorem onU_val (u : DU) : ∃ t, u.val = .iface t u.rcv ∧ (∀ w, (method (Try.prog.types.size + Made.depth) t u.rcv "hachure/disk.on").run Try.prog w = .ok (u.fn, u.rcv) w) ∧ (∀ w, (nilAhead (Try.prog.types.size + Made.depth) t u.rcv "hachure/disk.on").run Try.prog w = .ok (some false) w) := by
  cases u with
  | add f b => exact ⟨_, rfl, fun w => by simp only [DU.rcv, DU.fn]; kernel_rfl, fun w => by simp only [DU.rcv]; kernel_rfl⟩
  | cut f n => exact ⟨_, rfl, fun w => by simp only [DU.rcv, DU.fn]; kernel_rfl, fun w => by simp only [DU.rcv]; kernel_rfl⟩
end Go.Proofs.Ytkpokpaehlhhaaa
