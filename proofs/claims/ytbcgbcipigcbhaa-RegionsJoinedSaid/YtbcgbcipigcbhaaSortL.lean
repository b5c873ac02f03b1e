/- Sorting in place by swaps: what swaps do, rotation, runs that are merged (plain laws, no program). -/
import Derived.Test.YtbcgbcipigcbhaaGrow
namespace Go.Proofs.Ytbcgbcipigcbhaa
set_option linter.unusedVariables false
set_option linter.unusedSimpArgs false

section
variable {α : Type} {o o' : Nat → α} {R : α → α → Bool} {a b i j k n : Nat}
def swp (o : Nat → α) (i j : Nat) : Nat → α := fun k => if k = i then o j else if k = j then o i else o k
theorem swp_l : swp o i j i = o j := if_pos rfl
theorem swp_r : swp o i j j = o i := by
  unfold swp
  by_cases h : j = i
  · rw [if_pos h, h]
  · rw [if_neg h, if_pos rfl]
theorem swp_ne (h1 : k ≠ i) (h2 : k ≠ j) : swp o i j k = o k := by unfold swp; rw [if_neg h1, if_neg h2]
/-- what swaps within a stretch do -/
inductive PS (a b : Nat) (o : Nat → α) : (Nat → α) → Prop
  | refl : PS a b o o
  | swap {o' : Nat → α} (i j : Nat) (hi : a ≤ i ∧ i < b) (hj : a ≤ j ∧ j < b) (h : PS a b o o') : PS a b o (swp o' i j)
theorem PS.trans {o2 : Nat → α} (h : PS a b o o') (h' : PS a b o' o2) : PS a b o o2 := by
  induction h' with
  | refl => exact h
  | swap i j hi hj _ ih => exact .swap i j hi hj ih
theorem PS.wide {a' b' : Nat} (h : PS a b o o') (ha : a' ≤ a) (hb : b ≤ b') : PS a' b' o o' := by
  induction h with
  | refl => exact .refl
  | swap i j hi hj _ ih => exact .swap i j ⟨by omega, by omega⟩ ⟨by omega, by omega⟩ ih
theorem PS.out (h : PS a b o o') (hk : k < a ∨ b ≤ k) : o' k = o k := by
  induction h with
  | refl => rfl
  | swap i j hi hj _ ih => rw [swp_ne (by omega) (by omega), ih]
/-- each element behind was one before -/
theorem PS.img (h : PS a b o o') : ∀ {k : Nat}, a ≤ k → k < b → ∃ x, a ≤ x ∧ x < b ∧ o' k = o x := by
  induction h with
  | refl => exact fun h1 h2 => ⟨_, h1, h2, rfl⟩
  | @swap o' i j hi hj _ ih =>
    intro k h1 h2
    by_cases e1 : k = i
    · subst e1; rw [swp_l]; exact ih hj.1 hj.2
    · by_cases e2 : k = j
      · subst e2; rw [swp_r]; exact ih hi.1 hi.2
      · rw [swp_ne e1 e2]; exact ih h1 h2
/-- and each before is one behind -/
theorem PS.pre (h : PS a b o o') : ∀ {k : Nat}, a ≤ k → k < b → ∃ x, a ≤ x ∧ x < b ∧ o' x = o k := by
  induction h with
  | refl => exact fun h1 h2 => ⟨_, h1, h2, rfl⟩
  | @swap o' i j hi hj _ ih =>
    intro k h1 h2
    obtain ⟨x, hx1, hx2, hx⟩ := ih h1 h2
    by_cases e1 : x = i
    · exact ⟨j, hj.1, hj.2, by rw [swp_r, ← e1]; exact hx⟩
    · by_cases e2 : x = j
      · exact ⟨i, hi.1, hi.2, by rw [swp_l, ← e2]; exact hx⟩
      · exact ⟨x, hx1, hx2, by rw [swp_ne e1 e2]; exact hx⟩
/-! ### Two stretches change places -/
def swr (o : Nat → α) (a b n : Nat) : Nat → α := fun k => if a ≤ k ∧ k < a + n then o (k - a + b) else if b ≤ k ∧ k < b + n then o (k - b + a) else o k
theorem swr_zero (o : Nat → α) (a b : Nat) : swr o a b 0 = o := by
  funext k
  unfold swr
  rw [if_neg (by omega), if_neg (by omega)]
theorem swr_step (h : a + n < b) : swp (swr o a b n) (a + n) (b + n) = swr o a b (n + 1) := by
  funext k
  unfold swp swr
  (repeat' split) <;> first | rfl | (congr 1; omega) | (exfalso; omega)
theorem swr_ps {lo hi : Nat} (h1 : lo ≤ a) (h3 : b + n ≤ hi) (h2 : a + n ≤ b) : PS lo hi o (swr o a b n) := by
  induction n with
  | zero => rw [swr_zero]; exact .refl
  | succ n ih =>
    rw [← swr_step (by omega)]
    exact .swap _ _ (by omega) (by omega) (ih (by omega) (by omega))
/-- a stretch's two parts change places -/
def rot (o : Nat → α) (s m e : Nat) : Nat → α := fun k => if s ≤ k ∧ k < e then (if k < s + (e - m) then o (m + (k - s)) else o (s + (k - s - (e - m)))) else o k
theorem rot_left {m : Nat} (hj : 0 < j) (h : j < i) (him : i ≤ m) : rot (swr o (m - i) m j) (m - (i - j)) m (m + j) = rot o (m - i) m (m + j) := by
  funext k
  unfold rot swr
  (repeat' split) <;> first | rfl | (congr 1; omega) | (exfalso; omega)
theorem rot_right {m : Nat} (hi : 0 < i) (h : i < j) (him : i ≤ m) : rot (swr o (m - i) (m + j - i) i) (m - i) m (m + j - i) = rot o (m - i) m (m + j) := by
  funext k
  unfold rot swr
  (repeat' split) <;> first | rfl | (congr 1; omega) | (exfalso; omega)
theorem rot_same {m : Nat} (him : i ≤ m) : swr o (m - i) m i = rot o (m - i) m (m + i) := by
  funext k
  unfold rot swr
  (repeat' split) <;> first | rfl | (congr 1; omega) | (exfalso; omega)
/-! ### Runs -/
/-- 'less' that is sorted by -/
structure Wk (R : α → α → Bool) : Prop where
  asym : ∀ x y, R x y = true → R y x = false
  trans : ∀ x y z, R y x = false → R z y = false → R z x = false
theorem Wk.refl (h : Wk R) (x : α) : R x x = false := by
  cases hx : R x x with
  | false => rfl
  | true => have := h.asym x x hx; rw [hx] at this; cases this
/-- no element is less than one before it -/
def SO (R : α → α → Bool) (o : Nat → α) (a b : Nat) : Prop := ∀ x y, a ≤ x → x < y → y < b → R (o y) (o x) = false
theorem SO.le (hw : Wk R) (h : SO R o a b) {x y : Nat} (h1 : a ≤ x) (h2 : x ≤ y) (h3 : y < b) : R (o y) (o x) = false := by
  by_cases e : x = y
  · subst e; exact hw.refl _
  · exact h x y h1 (by omega) h3
theorem SO.sub {a' b' : Nat} (h : SO R o a b) (ha : a ≤ a') (hb : b' ≤ b) : SO R o a' b' := fun x y h1 h2 h3 => h x y (by omega) h2 (by omega)
theorem SO.congr (h : SO R o a b) (he : ∀ k, a ≤ k → k < b → o' k = o k) : SO R o' a b := fun x y h1 h2 h3 => by
  rw [he x h1 (by omega), he y (by omega) h3]; exact h x y h1 h2 h3
theorem SO.one (h : b ≤ a + 1) : SO R o a b := fun x y h1 h2 h3 => by omega
/-- two runs, of which the one is nowhere less than the other, are one -/
theorem SO.join {m : Nat} (hw : Wk R) (h1 : SO R o a m) (h2 : SO R o m b) (h : a < m → m < b → R (o m) (o (m - 1)) = false) : SO R o a b := fun x y hx hxy hy => by
  by_cases e1 : y < m
  · exact h1 x y hx hxy e1
  · by_cases e2 : m ≤ x
    · exact h2 x y e2 hxy hy
    · exact hw.trans _ _ _ (hw.trans _ _ _ (h1.le hw hx (show x ≤ m - 1 by omega) (by omega)) (h (by omega) (by omega))) (h2.le hw (Nat.le_refl m) (by omega) hy)
/-! ### Insertion -/
/-- all but the one at j is a run, and that is nowhere greater than what lies behind it -/
structure INS (R : α → α → Bool) (o : Nat → α) (a i j : Nat) : Prop where
  rest : ∀ x y, a ≤ x → x < y → y ≤ i → x ≠ j → y ≠ j → R (o y) (o x) = false
  behind : ∀ y, j < y → y ≤ i → R (o y) (o j) = false
theorem INS.init (h : SO R o a i) : INS R o a i i := ⟨fun x y h1 h2 h3 h4 h5 => h x y h1 h2 (by omega), fun y h1 h2 => by omega⟩
theorem INS.step (hw : Wk R) (h : INS R o a i j) (hj : a < j) (hji : j ≤ i) (hl : R (o j) (o (j - 1)) = true) : INS R (swp o j (j - 1)) a i (j - 1) := by
  refine ⟨fun x y h1 h2 h3 h4 h5 => ?_, fun y h1 h2 => ?_⟩
  · by_cases e1 : y = j
    · subst e1
      rw [swp_l, swp_ne (by omega) h4]
      exact h.rest x (y - 1) h1 (by omega) (by omega) (by omega) (by omega)
    · by_cases e2 : x = j
      · subst e2
        rw [swp_l, swp_ne e1 h5]
        exact h.rest (x - 1) y (by omega) (by omega) h3 (by omega) e1
      · rw [swp_ne e1 h5, swp_ne e2 h4]
        exact h.rest x y h1 h2 h3 e2 e1
  · rw [swp_r]
    by_cases e1 : y = j
    · subst e1; rw [swp_l]; exact hw.asym _ _ hl
    · rw [swp_ne e1 (by omega)]; exact h.behind y (by omega) h2
theorem INS.done (hw : Wk R) (h : INS R o a i j) (hji : j ≤ i) (hl : a < j → R (o j) (o (j - 1)) = false) : SO R o a (i + 1) := fun x y h1 h2 h3 => by
  by_cases e1 : y = j
  · subst e1
    by_cases e2 : x = y - 1
    · rw [e2]; exact hl (by omega)
    · exact hw.trans _ _ _ (h.rest x (y - 1) h1 (by omega) (by omega) (by omega) (by omega)) (hl (by omega))
  · by_cases e2 : x = j
    · subst e2; exact h.behind y h2 (by omega)
    · exact h.rest x y h1 h2 (by omega) e2 e1
/-! ### An element that is moved behind or before a stretch -/
def mvR (o : Nat → α) (a k : Nat) : Nat → α := fun x => if a ≤ x ∧ x < k then o (x + 1) else if x = k then o a else o x
theorem mvR_zero : mvR o a a = o := by
  funext x
  unfold mvR
  rw [if_neg (by omega)]
  split
  · rename_i h; rw [h]
  · rfl
theorem mvR_step (h : a ≤ k) : swp (mvR o a k) k (k + 1) = mvR o a (k + 1) := by
  funext x
  unfold swp mvR
  (repeat' split) <;> first | rfl | (congr 1; omega) | (exfalso; omega)
def mvL (o : Nat → α) (m k : Nat) : Nat → α := fun x => if k < x ∧ x ≤ m then o (x - 1) else if x = k then o m else o x
theorem mvL_zero : mvL o a a = o := by
  funext x
  unfold mvL
  rw [if_neg (by omega)]
  split
  · rename_i h; rw [h]
  · rfl
theorem mvL_step {m : Nat} (h : k ≤ m) (hk : 0 < k) : swp (mvL o m k) k (k - 1) = mvL o m (k - 1) := by
  funext x
  unfold swp mvL
  (repeat' split) <;> first | rfl | (congr 1; omega) | (exfalso; omega)
/-- one element before a run: it goes before the first that isn't less -/
theorem mvR_so {m : Nat} (hw : Wk R) (hr : SO R o (a + 1) b) (hi : a + 1 ≤ i ∧ i ≤ b) (h1 : ∀ x, a + 1 ≤ x → x < i → R (o x) (o a) = true) (h2 : ∀ x, i ≤ x → x < b → R (o x) (o a) = false) : SO R (mvR o a (i - 1)) a b := fun x y hx hxy hy => by
  unfold mvR
  by_cases e1 : x < i - 1
  · rw [if_pos (show a ≤ x ∧ x < i - 1 from ⟨hx, e1⟩)]
    by_cases e2 : y < i - 1
    · rw [if_pos (show a ≤ y ∧ y < i - 1 by omega)]; exact hr (x + 1) (y + 1) (by omega) (by omega) (by omega)
    · rw [if_neg (by omega)]
      by_cases e3 : y = i - 1
      · rw [if_pos e3]; exact hw.asym _ _ (h1 (x + 1) (by omega) (by omega))
      · rw [if_neg e3]; exact hr (x + 1) y (by omega) (by omega) hy
  · rw [if_neg (by omega)]
    by_cases e3 : x = i - 1
    · rw [if_pos e3, if_neg (by omega), if_neg (by omega)]; exact h2 y (by omega) hy
    · rw [if_neg e3, if_neg (by omega), if_neg (by omega)]; exact hr x y (by omega) hxy hy
/-- one element behind a run: it goes before the first that is greater -/
theorem mvL_so {m : Nat} (hw : Wk R) (hr : SO R o a m) (hi : a ≤ i ∧ i ≤ m) (h1 : ∀ x, a ≤ x → x < i → R (o m) (o x) = false) (h2 : ∀ x, i ≤ x → x < m → R (o m) (o x) = true) : SO R (mvL o m i) a (m + 1) := fun x y hx hxy hy => by
  unfold mvL
  by_cases e1 : x < i
  · rw [if_neg (show ¬ (i < x ∧ x ≤ m) by omega), if_neg (show ¬ x = i by omega)]
    by_cases e2 : y < i
    · rw [if_neg (by omega), if_neg (by omega)]; exact hr x y hx hxy (by omega)
    · by_cases e3 : y = i
      · rw [if_neg (by omega), if_pos e3]; exact h1 x hx e1
      · rw [if_pos (by omega)]; exact hr x (y - 1) hx (by omega) (by omega)
  · rw [if_pos (show i < y ∧ y ≤ m by omega)]
    by_cases e3 : x = i
    · rw [if_neg (by omega), if_pos e3]; exact hw.asym _ _ (h2 (y - 1) (by omega) (by omega))
    · rw [if_pos (by omega)]; exact hr (x - 1) (y - 1) (by omega) (by omega) (by omega)
/-! ### Merging by rotation -/
/-- both halves behind the rotation are two runs each, and the left is nowhere greater than the right -/
theorem rot_halves {m mid s e : Nat} (hw : Wk R) (hA : SO R o a m) (hB : SO R o m b) (ha : a ≤ s) (hs : s ≤ m) (he : m ≤ e) (hb : e ≤ b) (hmid : s + (e - m) = mid)
    (h1 : a < s → e < b → R (o e) (o (s - 1)) = false) (h2 : s < m → m < e → R (o (e - 1)) (o s) = true) :
    SO R (rot o s m e) a s ∧ SO R (rot o s m e) s mid ∧ SO R (rot o s m e) mid e ∧ SO R (rot o s m e) e b ∧ (∀ x y, a ≤ x → x < mid → mid ≤ y → y < b → R (rot o s m e y) (rot o s m e x) = false) := by
  have r1 : ∀ x, x < s → rot o s m e x = o x := fun x hx => by unfold rot; rw [if_neg (by omega)]
  have r2 : ∀ x, s ≤ x → x < mid → rot o s m e x = o (m + (x - s)) := fun x hx hx2 => by unfold rot; rw [if_pos (by omega), if_pos (by omega)]
  have r3 : ∀ x, mid ≤ x → x < e → rot o s m e x = o (s + (x - mid)) := fun x hx hx2 => by unfold rot; rw [if_pos (by omega), if_neg (by omega)]; congr 1; omega
  have r4 : ∀ x, e ≤ x → rot o s m e x = o x := fun x hx => by unfold rot; rw [if_neg (by omega)]
  refine ⟨fun x y g1 g2 g3 => ?_, fun x y g1 g2 g3 => ?_, fun x y g1 g2 g3 => ?_, fun x y g1 g2 g3 => ?_, fun x y g1 g2 g3 g4 => ?_⟩
  · rw [r1 x (by omega), r1 y g3]; exact hA x y g1 g2 (by omega)
  · rw [r2 x g1 (by omega), r2 y (by omega) g3]; exact hB _ _ (by omega) (by omega) (by omega)
  · rw [r3 x g1 (by omega), r3 y (by omega) g3]; exact hA _ _ (by omega) (by omega) (by omega)
  · rw [r4 x g1, r4 y (by omega)]; exact hB _ _ (by omega) (by omega) (by omega)
  · by_cases c1 : x < s
    · rw [r1 x c1]
      by_cases c2 : y < e
      · rw [r3 y g3 c2]; exact hA.le hw g1 (by omega) (by omega)
      · rw [r4 y (by omega)]
        exact hw.trans _ _ _ (hw.trans _ _ _ (hA.le hw g1 (show x ≤ s - 1 by omega) (by omega)) (h1 (by omega) (by omega))) (hB.le hw (by omega) (show e ≤ y by omega) g4)
    · rw [r2 x (by omega) g2]
      by_cases c2 : y < e
      · rw [r3 y g3 c2]
        exact hw.trans _ _ _ (hw.trans _ _ _ (hB.le hw (by omega) (show m + (x - s) ≤ e - 1 by omega) (by omega)) (hw.asym _ _ (h2 (by omega) (by omega)))) (hA.le hw (by omega) (show s ≤ s + (y - mid) by omega) (by omega))
      · rw [r4 y (by omega)]; exact hB.le hw (by omega) (by omega) (by omega)
/-- the halves, merged each by itself, are one run -/
theorem PS.halves {mid : Nat} {o1 o2 : Nat → α} (h : ∀ x y, a ≤ x → x < mid → mid ≤ y → y < b → R (o y) (o x) = false) (hm : a ≤ mid ∧ mid ≤ b) (p1 : PS a mid o o1) (p2 : PS mid b o1 o2) (s1 : SO R o1 a mid) (s2 : SO R o2 mid b) : SO R o2 a b := fun x y hx hxy hy => by
  by_cases c1 : y < mid
  · have e1 := p2.out (k := x) (.inl (by omega))
    have e2 := p2.out (k := y) (.inl c1)
    rw [e1, e2]; exact s1 x y hx hxy c1
  · by_cases c2 : mid ≤ x
    · exact s2 x y c2 hxy hy
    · obtain ⟨u, hu1, hu2, hu⟩ := p1.img hx (show x < mid by omega)
      obtain ⟨v, hv1, hv2, hv⟩ := p2.img (show mid ≤ y by omega) hy
      have e1 := p2.out (k := x) (.inl (by omega))
      have e2 := p1.out (k := v) (.inr hv1)
      rw [e1, hu, hv, e2]
      exact h u v hu1 hu2 hv1 hv2
end
end Go.Proofs.Ytbcgbcipigcbhaa

namespace Go.Proofs.Ytbcgbcipigcbhaa
set_option linter.unusedVariables false
set_option linter.unusedSimpArgs false

section
variable {α : Type} {o o' o0 : Nat → α} {R R' : α → α → Bool} {a b m i j k n t B : Nat}
theorem SO.high (hw : Wk R) (h : SO R o a b) {x y : Nat} {z : α} (h1 : a ≤ x) (h2 : x ≤ y) (h3 : y < b) (hx : R (o x) z = false) : R (o y) z = false :=
  hw.trans _ _ _ hx (h.le hw h1 h2 h3)
theorem SO.low (hw : Wk R) (h : SO R o a b) {x y : Nat} {z : α} (h1 : a ≤ x) (h2 : x ≤ y) (h3 : y < b) (hy : R (o y) z = true) : R (o x) z = true := by
  cases hx : R (o x) z with
  | true => rfl
  | false => rw [h.high hw h1 h2 h3 hx] at hy; cases hy
theorem SO.over (hw : Wk R) (h : SO R o a b) {x y : Nat} {z : α} (h1 : a ≤ x) (h2 : x ≤ y) (h3 : y < b) (hy : R z (o y) = false) : R z (o x) = false :=
  hw.trans _ _ _ (h.le hw h1 h2 h3) hy
theorem SO.under (hw : Wk R) (h : SO R o a b) {x y : Nat} {z : α} (h1 : a ≤ x) (h2 : x ≤ y) (h3 : y < b) (hx : R z (o x) = true) : R z (o y) = true := by
  cases hy : R z (o y) with
  | true => rfl
  | false => rw [h.over hw h1 h2 h3 hy] at hx; cases hx
/-- what is compared across a place is compared alike by both -/
def XC (R R' : α → α → Bool) (o : Nat → α) (a m b : Nat) : Prop := ∀ x y, a ≤ x → x < m → m ≤ y → y < b → R (o y) (o x) = R' (o y) (o x)
theorem XC.self : XC R R o a m b := fun _ _ _ _ _ _ => rfl
/-- a rotation that moves nothing -/
theorem rot_nil {s e : Nat} (h : s = m ∨ e = m) (hs : s ≤ m) (he : m ≤ e) : rot o s m e = o := by
  funext k
  unfold rot
  rcases h with rfl | rfl
  · split
    · rename_i h1
      rw [if_pos (by omega)]
      congr 1
      omega
    · rfl
  · split
    · rename_i h1
      rw [if_neg (by omega)]
      congr 1
      omega
    · rfl
/-- behind a rotation: what is compared across, in both halves -/
theorem XC.rotate {mid s e : Nat} (h : XC R R' o a m b) (ha : a ≤ s) (hs : s ≤ m) (he : m ≤ e) (hb : e ≤ b) (hmid : s + (e - m) = mid) :
    XC R R' (rot o s m e) a s mid ∧ XC R R' (rot o s m e) mid e b := by
  have r1 : ∀ x, x < s → rot o s m e x = o x := fun x hx => by unfold rot; rw [if_neg (by omega)]
  have r2 : ∀ x, s ≤ x → x < mid → rot o s m e x = o (m + (x - s)) := fun x hx hx2 => by unfold rot; rw [if_pos (by omega), if_pos (by omega)]
  have r3 : ∀ x, mid ≤ x → x < e → rot o s m e x = o (s + (x - mid)) := fun x hx hx2 => by unfold rot; rw [if_pos (by omega), if_neg (by omega)]; congr 1; omega
  have r4 : ∀ x, e ≤ x → rot o s m e x = o x := fun x hx => by unfold rot; rw [if_neg (by omega)]
  refine ⟨fun x y h1 h2 h3 h4 => ?_, fun x y h1 h2 h3 h4 => ?_⟩
  · rw [r1 x h2, r2 y h3 h4]; exact h _ _ h1 (by omega) (by omega) (by omega)
  · rw [r3 x h1 h2, r4 y h3]; exact h _ _ (by omega) (by omega) (by omega) h4
theorem XC.ps {c d : Nat} (h : XC R R' o a m b) (hp : PS c d o o') (hd : b ≤ c ∨ d ≤ a) : XC R R' o' a m b := fun x y h1 h2 h3 h4 => by
  rw [hp.out (k := x) (by omega), hp.out (k := y) (by omega)]; exact h x y h1 h2 h3 h4
theorem SO.ps {c d : Nat} (h : SO R o a b) (hp : PS c d o o') (hd : b ≤ c ∨ d ≤ a) : SO R o' a b := h.congr fun k h1 h2 => hp.out (by omega)
theorem rot_ps {s e : Nat} (hs : s ≤ m) (he : m ≤ e) (h : ∃ o2, PS s e o o2 ∧ o2 = rot o s m e) : PS s e o (rot o s m e) := by
  obtain ⟨o2, h1, h2⟩ := h
  exact h2 ▸ h1
theorem mvL_ps (ha : a ≤ k) (hk : k ≤ m) (hb : m < b) : PS a b o (mvL o m k) := by
  have key : ∀ d k, k + d = m → a ≤ k → PS a b o (mvL o m k) := by
    intro d
    induction d with
    | zero => intro k h1 h2; obtain rfl : k = m := by omega
              rw [mvL_zero]; exact .refl
    | succ d ih =>
      intro k h1 h2
      have := mvL_step (o := o) (m := m) (k := k + 1) (by omega) (by omega)
      rw [Nat.add_sub_cancel] at this
      rw [← this]
      exact .swap _ _ (by omega) (by omega) (ih (k + 1) (by omega) (by omega))
  exact key (m - k) k (by omega) ha
theorem mvR_ps (hk : i ≤ k) (ha : a ≤ i) (hb : k < b) : PS a b o (mvR o i k) := by
  have key : ∀ d, i + d < b → PS a b o (mvR o i (i + d)) := by
    intro d
    induction d with
    | zero => intro _; rw [Nat.add_zero, mvR_zero]; exact .refl
    | succ d ih =>
      intro h
      have := mvR_step (o := o) (a := i) (k := i + d) (by omega)
      rw [← Nat.add_assoc, ← this]
      exact .swap _ _ (by omega) (by omega) (ih (by omega))
  have := key (k - i) (by omega)
  rwa [show i + (k - i) = k by omega] at this
/-- a round of the insertion: where the element at i goes -/
theorem ins_cmp (hX : ∀ x y, a ≤ x → x < y → y < b → R (o0 y) (o0 x) = R' (o0 y) (o0 x)) (hp : PS a i o0 o) (ha : a < j) (hj : j ≤ i) (hb : i < b) :
    R (mvL o i j j) (mvL o i j (j - 1)) = R' (o i) (o (j - 1)) ∧ mvL o i j j = o i ∧ mvL o i j (j - 1) = o (j - 1) := by
  have e1 : mvL o i j j = o i := by unfold mvL; rw [if_neg (by omega), if_pos rfl]
  have e2 : mvL o i j (j - 1) = o (j - 1) := by unfold mvL; rw [if_neg (by omega), if_neg (by omega)]
  refine ⟨?_, e1, e2⟩
  rw [e1, e2, hp.out (k := i) (.inr (Nat.le_refl _))]
  obtain ⟨x, hx1, hx2, hx⟩ := hp.img (k := j - 1) (by omega) (by omega)
  rw [hx]
  exact hX x i hx1 hx2 hb
theorem ins_done (hw : Wk R') (hs : SO R' o a i) (hj : a ≤ j) (hji : j ≤ i) (hgt : ∀ x, j ≤ x → x < i → R' (o i) (o x) = true) (hl : a < j → R' (o i) (o (j - 1)) = false) : SO R' (mvL o i j) a (i + 1) :=
  mvL_so hw hs ⟨hj, hji⟩ (fun x h1 h2 => hs.over hw h1 (show x ≤ j - 1 by omega) (by omega) (hl (by omega))) hgt
end
/-! ### What lies before a place lay before it at the start, where each place held its own number -/
section
variable {o o' : Nat → Nat} {R R' : Nat → Nat → Bool} {a b m i j k n t B : Nat}
structure SPL (o : Nat → Nat) (t : Nat) : Prop where
  lo : ∀ x, x < t → o x < t
  hi : ∀ y, t ≤ y → t ≤ o y
theorem SPL.id_ (t : Nat) : SPL (fun i => i) t := ⟨fun x h => h, fun y h => h⟩
theorem SPL.ps (h : SPL o t) (hp : PS a b o o') (ht : t ≤ a ∨ b ≤ t) : SPL o' t := by
  refine ⟨fun x hx => ?_, fun y hy => ?_⟩
  · by_cases hin : a ≤ x ∧ x < b
    · obtain ⟨z, hz1, hz2, hz⟩ := hp.img hin.1 hin.2
      rw [hz]; exact h.lo z (by omega)
    · rw [hp.out (by omega)]; exact h.lo x hx
  · by_cases hin : a ≤ y ∧ y < b
    · obtain ⟨z, hz1, hz2, hz⟩ := hp.img hin.1 hin.2
      rw [hz]; exact h.hi z (by omega)
    · rw [hp.out (by omega)]; exact h.hi y hy
/-- of the numbers: later ones against earlier ones are compared alike -/
def XA (R R' : Nat → Nat → Bool) (n : Nat) : Prop := ∀ x y, x < y → y < n → R y x = R' y x
theorem XA.self : XA R R n := fun _ _ _ _ => rfl
theorem XA.xc (h : XA R R' n) (hs : SPL o m) (hn : SPL o n) (hb : b ≤ n) : XC R R' o a m b := fun x y h1 h2 h3 h4 => by
  have e1 := hs.lo x h2
  have e2 := hs.hi y h3
  have e3 := hn.lo y (by omega)
  exact h _ _ (by omega) e3
/-- the runs of B, from the q'th on -/
structure BLK (R' : Nat → Nat → Bool) (n B : Nat) (o : Nat → Nat) (q : Nat) : Prop where
  ps : PS 0 n (fun i => i) o
  big : ∀ p, SPL o (p * (2 * B))
  small : ∀ p, 2 * q ≤ p → SPL o (p * B)
  done : ∀ p, p < q → SO R' o (p * (2 * B)) (min (p * (2 * B) + 2 * B) n)
  todo : ∀ p, 2 * q ≤ p → SO R' o (p * B) (min (p * B + B) n)
theorem BLK.spn (h : BLK R' n B o j) : SPL o n := (SPL.id_ n).ps h.ps (.inr (Nat.le_refl _))
/-- runs of B, all -/
structure BLA (R' : Nat → Nat → Bool) (n B : Nat) (o : Nat → Nat) : Prop where
  ps : PS 0 n (fun i => i) o
  spl : ∀ p, SPL o (p * B)
  so : ∀ p, SO R' o (p * B) (min (p * B + B) n)
theorem BLA.start (h : BLA R' n B o) : BLK R' n B o 0 :=
  ⟨h.ps, fun p => by rw [← Nat.mul_assoc]; exact h.spl _, fun p _ => h.spl p, fun p hp => by omega, fun p _ => h.so p⟩
theorem BLK.step (h : BLK R' n B o j) (hb : j * (2 * B) + B < n) {c : Nat} (hc : c = min (j * (2 * B) + 2 * B) n) (hp : PS (j * (2 * B)) c o o') (hs : SO R' o' (j * (2 * B)) c) : BLK R' n B o' (j + 1) := by
  have hB : ∀ p, 2 * (j + 1) ≤ p → j * (2 * B) + 2 * B ≤ p * B := fun p hp => by
    have h2 := Nat.mul_le_mul_right B hp
    have h1 : 2 * (j + 1) * B = j * (2 * B) + 2 * B := by rw [Nat.mul_comm 2 (j + 1), Nat.mul_assoc, Nat.succ_mul]
    omega
  have hBB : ∀ p, p < j → p * (2 * B) + 2 * B ≤ j * (2 * B) := fun p hp => by
    have h2 := Nat.mul_le_mul_right (2 * B) (show p + 1 ≤ j from hp)
    rw [Nat.succ_mul] at h2
    omega
  refine ⟨h.ps.trans (hp.wide (Nat.zero_le _) (by omega)), fun p => ?_, fun p hpj => ?_, fun p hpj => ?_, fun p hpj => ?_⟩
  · refine (h.big p).ps hp ?_
    by_cases hpj : p ≤ j
    · exact .inl (Nat.mul_le_mul_right _ hpj)
    · right
      have := Nat.mul_le_mul_right (2 * B) (show j + 1 ≤ p by omega)
      rw [Nat.succ_mul] at this
      omega
  · exact (h.small p (by omega)).ps hp (.inr (by have := hB p hpj; omega))
  · by_cases e : p = j
    · subst e; rw [← hc]; exact hs
    · exact (h.done p (by omega)).ps hp (.inl (by have := hBB p (by omega); omega))
  · exact (h.todo p (by omega)).ps hp (.inr (by have := hB p hpj; omega))
/-- the pair of runs that is merged next -/
theorem BLK.runs (h : BLK R' n B o j) (hb : j * (2 * B) + B < n) (hB : 0 < B) {c : Nat} (hc : c = min (j * (2 * B) + 2 * B) n) :
    j * (2 * B) + B < c ∧ SO R' o (j * (2 * B)) (j * (2 * B) + B) ∧ SO R' o (j * (2 * B) + B) c ∧ (XA R R' n → XC R R' o (j * (2 * B)) (j * (2 * B) + B) c) := by
  have e1 : 2 * j * B = j * (2 * B) := by rw [Nat.mul_comm 2 j, Nat.mul_assoc]
  have e2 : (2 * j + 1) * B = j * (2 * B) + B := by rw [Nat.succ_mul, e1]
  have h1 := h.todo (2 * j) (by omega)
  have h2 := h.todo (2 * j + 1) (by omega)
  have h3 := h.small (2 * j + 1) (by omega)
  rw [e1] at h1
  rw [e2] at h2 h3
  rw [Nat.min_eq_left (by omega)] at h1
  refine ⟨by omega, h1, ?_, fun hX => hX.xc h3 h.spn (by omega)⟩
  rw [show min (j * (2 * B) + B + B) n = c by omega] at h2
  exact h2
/-- behind the last pair: a run that has none beside it stays -/
theorem BLK.fin (h : BLK R' n B o j) (hb : n ≤ j * (2 * B) + B) : BLA R' n (2 * B) o := by
  refine ⟨h.ps, h.big, fun p => ?_⟩
  by_cases hp : p < j
  · exact h.done p hp
  · have h1 := h.todo (2 * p) (by omega)
    have e1 : 2 * p * B = p * (2 * B) := by rw [Nat.mul_comm 2 p, Nat.mul_assoc]
    rw [e1] at h1
    have h2 := Nat.mul_le_mul_right (2 * B) (show j ≤ p by omega)
    exact h1.sub (Nat.le_refl _) (by omega)
theorem BLA.end_ (h : BLA R' n B o) (hb : n ≤ B) : SO R' o 0 n := by
  have := h.so 0
  simp only [Nat.zero_mul, Nat.zero_add] at this
  rwa [Nat.min_eq_right hb] at this
/-- the first runs: by insertion -/
structure BLI (R' : Nat → Nat → Bool) (n B : Nat) (o : Nat → Nat) (q : Nat) : Prop where
  ps : PS 0 n (fun i => i) o
  spl : ∀ p, SPL o (p * B)
  so : ∀ p, p < q → SO R' o (p * B) (min (p * B + B) n)
  left : ∀ k, q * B ≤ k → o k = k
theorem BLI.start : BLI R' n B (fun i => i) 0 := ⟨.refl, fun _ => SPL.id_ _, fun p hp => by omega, fun _ _ => rfl⟩
theorem BLI.step (h : BLI R' n B o j) {c : Nat} (hc : c = min (j * B + B) n) (hcn : j * B ≤ n) (hp : PS (j * B) c o o') (hs : SO R' o' (j * B) c) : BLI R' n B o' (j + 1) := by
  have e : (j + 1) * B = j * B + B := Nat.succ_mul j B
  refine ⟨h.ps.trans (hp.wide (Nat.zero_le _) (by omega)), fun p => ?_, fun p hpj => ?_, fun k hk => ?_⟩
  · refine (h.spl p).ps hp ?_
    by_cases hpj : p ≤ j
    · exact .inl (Nat.mul_le_mul_right _ hpj)
    · right
      have := Nat.mul_le_mul_right B (show j + 1 ≤ p by omega)
      omega
  · by_cases e' : p = j
    · subst e'; rw [← hc]; exact hs
    · refine (h.so p (by omega)).ps hp (.inl ?_)
      have h2 := Nat.mul_le_mul_right B (show p + 1 ≤ j by omega)
      rw [Nat.succ_mul] at h2
      omega
  · rw [hp.out (by omega)]; exact h.left k (by omega)
theorem BLI.fin (h : BLI R' n B o j) (hb : n ≤ j * B) : BLA R' n B o := by
  refine ⟨h.ps, h.spl, fun p => ?_⟩
  by_cases hp : p < j
  · exact h.so p hp
  · have h2 := Nat.mul_le_mul_right B (show j ≤ p by omega)
    exact fun x y h1 h2 h3 => by omega
end
end Go.Proofs.Ytbcgbcipigcbhaa
