/- Package regions: a grid's cells, and the sets over a height. -/
import Derived.Test.YtbcgbcipigcbhaaGreatKzF
import Derived.Test.YtbcgbcipigcbhaaGreatKzC
import Derived.Laws.StructEq
import Derived.Test.YtbcgbcipigcbhaaGreatKzB
namespace Go.Proofs.YtbcgbcipigcbhaaGreat
open Go.RowKit
set_option linter.unusedVariables false
set_option linter.unusedSimpArgs false
set_option maxRecDepth 100000

def gridL (gw gh : Nat) (c : Nat → Int) : List Int := (List.range (gw * gh)).map c
theorem gridL_len (gw gh : Nat) (c : Nat → Int) : (gridL gw gh c).length = gw * gh := by simp [gridL]
theorem gridL_made {gw gh : Nat} {V : List Int} (h : V.length = gw * gh) : gridL gw gh (fun i => V.getD i 0) = V := by
  apply List.ext_getElem?
  intro i
  unfold gridL
  by_cases hi : i < gw * gh
  · rw [List.getElem?_map, List.getElem?_range hi, Option.map_some, List.getD_eq_getElem?_getD, List.getElem?_eq_getElem (by omega)]; rfl
  · rw [List.getElem?_eq_none (by simp; omega), List.getElem?_eq_none (by omega)]
theorem getD_at {V : List Int} {i : Nat} (h : i < V.length) : V[i]? = some (V.getD i 0) := by
  rw [List.getD_eq_getElem?_getD, List.getElem?_eq_getElem h]; rfl

/-! ### What hangs together -/
def Side (gw i j : Nat) : Prop := (j + 1 = i ∧ 0 < i % gw) ∨ (i + 1 = j ∧ 0 < j % gw) ∨ j + gw = i ∨ i + gw = j
theorem Side.symm {gw i j : Nat} (h : Side gw i j) : Side gw j i := by unfold Side at *; omega
def Adj (gw : Nat) (V : List Int) (t : Int) (i j : Nat) : Prop := i < V.length ∧ j < V.length ∧ t ≤ V.getD i 0 ∧ t ≤ V.getD j 0 ∧ Side gw i j
theorem Adj.symm {gw : Nat} {V : List Int} {t : Int} {i j : Nat} (h : Adj gw V t i j) : Adj gw V t j i := ⟨h.2.1, h.1, h.2.2.2.1, h.2.2.1, h.2.2.2.2.symm⟩
inductive Conn (gw : Nat) (V : List Int) (t : Int) : Nat → Nat → Prop
  | refl (i : Nat) : Conn gw V t i i
  | step {i j k : Nat} : Adj gw V t i j → Conn gw V t j k → Conn gw V t i k
theorem Conn.trans {gw : Nat} {V : List Int} {t : Int} {i j k : Nat} (h : Conn gw V t i j) (h' : Conn gw V t j k) : Conn gw V t i k := by
  induction h with
  | refl => exact h'
  | step a _ ih => exact .step a (ih h')
theorem Conn.symm {gw : Nat} {V : List Int} {t : Int} {i j : Nat} (h : Conn gw V t i j) : Conn gw V t j i := by
  induction h with
  | refl => exact .refl _
  | step a _ ih => exact ih.trans (.step a.symm (.refl _))
theorem Conn.of_adj {gw : Nat} {V : List Int} {t : Int} {i j : Nat} (h : Adj gw V t i j) : Conn gw V t i j := .step h (.refl _)
/-- the sets behind the first so many cells -/
structure SetsOk (gw : Nat) (V : List Int) (t : Int) (k : Nat) (f : Nat → Nat) : Prop where
  ok : FOk V.length f
  le : k ≤ V.length
  conn : ∀ i, i < V.length → Conn gw V t i (rootF f i)
  left : ∀ i, i < k → t ≤ V.getD i 0 → 0 < i % gw → t ≤ V.getD (i - 1) 0 → rootF f i = rootF f (i - 1)
  up : ∀ i, i < k → t ≤ V.getD i 0 → gw ≤ i → t ≤ V.getD (i - gw) 0 → rootF f i = rootF f (i - gw)
theorem SetsOk.join {gw k : Nat} {V : List Int} {t : Int} {f f' : Nat → Nat} (h : SetsOk gw V t k f) {a b : Nat} (ha : a < V.length) (hb : b < V.length) (hab : Adj gw V t a b) (hok : FOk V.length f')
    (hr : ∀ j, j < V.length → rootF f' j = if rootF f j = max (rootF f a) (rootF f b) then min (rootF f a) (rootF f b) else rootF f j) : SetsOk gw V t k f' ∧ rootF f' a = rootF f' b := by
  have hcab : Conn gw V t (rootF f a) (rootF f b) := ((h.conn a ha).symm.trans (.of_adj hab)).trans (h.conn b hb)
  have key : Conn gw V t (max (rootF f a) (rootF f b)) (min (rootF f a) (rootF f b)) := by
    rcases Nat.le_total (rootF f a) (rootF f b) with e | e
    · rw [Nat.max_eq_right e, Nat.min_eq_left e]; exact hcab.symm
    · rw [Nat.max_eq_left e, Nat.min_eq_right e]; exact hcab
  have same : ∀ i j, i < V.length → j < V.length → rootF f i = rootF f j → rootF f' i = rootF f' j := fun i j hi hj e => by rw [hr i hi, hr j hj, e]
  have hle := h.le
  refine ⟨⟨hok, hle, fun i hi => ?_, fun i hi h1 h2 h3 => same _ _ (by omega) (by omega) (h.left i hi h1 h2 h3), fun i hi h1 h2 h3 => same _ _ (by omega) (by omega) (h.up i hi h1 h2 h3)⟩, ?_⟩
  · rw [hr i hi]
    split
    · rename_i e
      have := h.conn i hi
      rw [e] at this
      exact this.trans key
    · exact h.conn i hi
  · rw [hr a ha, hr b hb]
    rcases Nat.le_total (rootF f a) (rootF f b) with e | e
    · rw [Nat.max_eq_right e, Nat.min_eq_left e, if_pos rfl]
      split <;> omega
    · rw [Nat.max_eq_left e, Nat.min_eq_right e, if_pos rfl]
      split <;> omega

section
variable {W : World} {A : Option Addr} {p gw gh cap c : Nat} {V : List Int}
end
end Go.Proofs.YtbcgbcipigcbhaaGreat
/- Costs of ways, the plain law: the cheapest costs are told by what holds between neighbours; what a walk by falling queue, and one by rounds, come to. -/
namespace Go.Proofs.YtbcgbcipigcbhaaGreat
set_option linter.unusedVariables false
set_option linter.unusedSimpArgs false

def st (V : List Int) (i j : Nat) : Int := 1 + max (V.getD i 0 - V.getD j 0) (-(V.getD i 0 - V.getD j 0))
theorem st_pos (V : List Int) (i j : Nat) : 1 ≤ st V i j := by unfold st; omega
theorem st_symm (V : List Int) (i j : Nat) : st V i j = st V j i := by unfold st; omega
structure IsDist (gw : Nat) (V : List Int) (a : Nat) (d : Nat → Int) : Prop where
  zero : d a = 0
  nn : ∀ i, i < V.length → 0 ≤ d i
  le : ∀ i j, i < V.length → j < V.length → Side gw i j → d j ≤ d i + st V i j
  pred : ∀ j, j < V.length → j ≠ a → ∃ i, i < V.length ∧ Side gw i j ∧ d j = d i + st V i j
theorem IsDist.le_of {gw a : Nat} {V : List Int} {d d' : Nat → Int} (h : IsDist gw V a d) (h0 : d' a ≤ 0) (hle : ∀ i j, i < V.length → j < V.length → Side gw i j → d' i ≤ d i → d' j ≤ d' i + st V i j) : ∀ j, j < V.length → d' j ≤ d j := by
  have key : ∀ (n : Nat) (j : Nat), j < V.length → d j < n → d' j ≤ d j := by
    intro n
    induction n with
    | zero => intro j hj hn; have := h.nn j hj; omega
    | succ n ih =>
      intro j hj hn
      by_cases e : j = a
      · subst e; rw [h.zero]; exact h0
      · obtain ⟨i, hi, s, he⟩ := h.pred j hj e
        have := st_pos V i j
        have h1 := ih i hi (by omega)
        have := hle i j hi hj s h1
        omega
  exact fun j hj => key ((d j).toNat + 1) j hj (by have := h.nn j hj; omega)
theorem IsDist.uniq {gw a : Nat} {V : List Int} {d d' : Nat → Int} (h : IsDist gw V a d) (h' : IsDist gw V a d') {j : Nat} (hj : j < V.length) : d j = d' j := by
  have h1 := h.le_of (d' := d') (by rw [h'.zero]; exact Int.le_refl _) (fun i j hi hj s _ => h'.le i j hi hj s) j hj
  have h2 := h'.le_of (d' := d) (by rw [h.zero]; exact Int.le_refl _) (fun i j hi hj s _ => h.le i j hi hj s) j hj
  omega

/-! ### Neighbours, and what hangs together -/
theorem mod_next {gw i : Nat} (hgw : 0 < gw) : (i + 1) % gw = if i % gw + 1 = gw then 0 else i % gw + 1 := by
  have h := Nat.mod_lt i hgw
  have e := Nat.div_add_mod i gw
  by_cases h1 : i % gw + 1 = gw
  · rw [if_pos h1, show i + 1 = gw * (i / gw + 1) by rw [Nat.mul_add, Nat.mul_one]; omega, Nat.mul_mod_right]
  · rw [if_neg h1, show i + 1 = gw * (i / gw) + (i % gw + 1) by omega, Nat.mul_add_mod, Nat.mod_eq_of_lt (by omega)]
def nearN (gw n i : Nat) : List Nat :=
  (if gw ≤ i then [i - gw] else []) ++ (if 0 < i % gw then [i - 1] else []) ++ (if i % gw + 1 < gw then [i + 1] else []) ++ (if i + gw < n then [i + gw] else [])
theorem nearN_len (gw n i : Nat) : (nearN gw n i).length ≤ 4 := by
  unfold nearN
  simp only [List.length_append]
  split <;> split <;> split <;> split <;> simp
theorem next_lt {gw gh i : Nat} (hgw : 0 < gw) (hi : i < gw * gh) (h : i % gw + 1 < gw) : i + 1 < gw * gh := by
  have hd : i / gw < gh := Nat.div_lt_of_lt_mul hi
  have e := Nat.div_add_mod i gw
  have h2 : gw * (i / gw + 1) ≤ gw * gh := Nat.mul_le_mul_left _ hd
  rw [Nat.mul_add, Nat.mul_one] at h2
  omega
theorem nearN_mem {gw gh i j : Nat} (hgw : 0 < gw) (hi : i < gw * gh) : j ∈ nearN gw (gw * gh) i ↔ j < gw * gh ∧ Side gw i j := by
  have hm := mod_next (i := i) hgw
  have hlt := Nat.mod_lt i hgw
  have hn := next_lt (gh := gh) hgw hi
  unfold nearN Side
  simp only [List.mem_append]
  constructor
  · rintro (((h | h) | h) | h)
    · split at h
      · simp only [List.mem_singleton] at h; subst h; omega
      · cases h
    · split at h
      · rename_i h0
        simp only [List.mem_singleton] at h; subst h
        have : 1 ≤ i := by rcases Nat.eq_zero_or_pos i with h | h; · subst h; simp at h0
                           · exact h
        omega
      · cases h
    · split at h
      · simp only [List.mem_singleton] at h; subst h
        refine ⟨hn (by assumption), .inr (.inl ⟨rfl, ?_⟩)⟩
        rw [hm, if_neg (by omega)]; omega
      · cases h
    · split at h
      · simp only [List.mem_singleton] at h; subst h; omega
      · cases h
  · rintro ⟨hj, ⟨e, h0⟩ | ⟨e, h0⟩ | e | e⟩
    · refine .inl (.inl (.inr ?_)); rw [if_pos h0]; simp; omega
    · refine .inl (.inr ?_)
      subst e
      rw [hm] at h0
      by_cases h1 : i % gw + 1 = gw
      · rw [if_pos h1] at h0; omega
      · rw [if_pos (by omega)]; simp
    · refine .inl (.inl (.inl ?_)); rw [if_pos (by omega)]; simp; omega
    · refine .inr ?_; rw [if_pos (by omega)]; simp; omega
theorem grid_conn {gw gh : Nat} {P : Nat → Prop} (hgw : 0 < gw) (hP : ∀ i j, i < gw * gh → j < gw * gh → Side gw i j → P i → P j) {a : Nat} (ha : a < gw * gh) (h : P a) : ∀ i, i < gw * gh → P i := by
  have key : ∀ i, i < gw * gh → (P i ↔ P 0) := by
    intro i
    induction i using Nat.strongRecOn with
    | _ i ih =>
      intro hi
      by_cases h0 : 0 < i % gw
      · have h1 : 1 ≤ i := by rcases Nat.eq_zero_or_pos i with h | h; · subst h; simp at h0
                              · exact h
        have s : Side gw i (i - 1) := .inl ⟨by omega, h0⟩
        exact ⟨fun p => (ih (i - 1) (by omega) (by omega)).1 (hP _ _ hi (by omega) s p), fun p => hP _ _ (by omega) hi s.symm ((ih (i - 1) (by omega) (by omega)).2 p)⟩
      · by_cases h1 : gw ≤ i
        · have s : Side gw i (i - gw) := .inr (.inr (.inl (by omega)))
          exact ⟨fun p => (ih (i - gw) (by omega) (by omega)).1 (hP _ _ hi (by omega) s p), fun p => hP _ _ (by omega) hi s.symm ((ih (i - gw) (by omega) (by omega)).2 p)⟩
        · have : i = 0 := by rw [Nat.mod_eq_of_lt (by omega)] at h0; omega
          rw [this]
  exact fun i hi => (key i hi).2 ((key a ha).1 h)

/-! ### How many are known -/
def cntS (n : Nat) (o : Nat → Int) : Nat := ((List.range n).filter fun i => decide (0 ≤ o i)).length
def updI (o : Nat → Int) (k : Nat) (c : Int) : Nat → Int := fun i => if i = k then c else o i
theorem cntS_le (n : Nat) (o : Nat → Int) : cntS n o ≤ n := by
  have := List.length_filter_le (fun i => decide (0 ≤ o i)) (List.range n)
  simpa [cntS] using this
theorem cntS_upd {o : Nat → Int} {k : Nat} {c : Int} (hc : 0 ≤ c) (ho : o k < 0) : ∀ n, cntS n (updI o k c) = cntS n o + (if k < n then 1 else 0)
  | 0 => by simp [cntS]
  | n + 1 => by
    have ih := cntS_upd hc ho n
    unfold cntS at *
    rw [List.range_succ, List.filter_append, List.filter_append, List.length_append, List.length_append, ih]
    by_cases e : n = k
    · subst e
      have h1 : (updI o n c) n = c := by simp [updI]
      simp [h1, hc]
      omega
    · have h1 : (updI o k c) n = o n := by simp [updI, e]
      simp only [List.filter_cons, List.filter_nil, h1]
      split <;> split <;> split <;> simp <;> omega

/-! ### The queue's walk -/
def far : Int := 4294967297
structure DJ (gw gh : Nat) (V : List Int) (a : Nat) (o : Nat → Int) (Q : List (Int × Nat)) (X : Nat → Nat → Prop) : Prop where
  ent : ∀ x ∈ Q, x.2 < gw * gh ∧ 0 ≤ x.1 ∧ ((x.2 = a ∧ x.1 = 0) ∨ ∃ p, p < gw * gh ∧ 0 ≤ o p ∧ Side gw p x.2 ∧ x.1 = o p + st V p x.2)
  zero : 0 ≤ o a → o a = 0
  pred : ∀ j, j < gw * gh → j ≠ a → 0 ≤ o j → ∃ i, i < gw * gh ∧ Side gw i j ∧ 0 ≤ o i ∧ o j = o i + st V i j
  le : ∀ i j, i < gw * gh → j < gw * gh → Side gw i j → 0 ≤ o i → 0 ≤ o j → o j ≤ o i + st V i j
  front : ∀ p j, p < gw * gh → j < gw * gh → Side gw p j → 0 ≤ o p → o j < 0 → ¬ X p j → (o p + st V p j, j) ∈ Q
  start : o a < 0 → ((0 : Int), a) ∈ Q
  low : ∀ p, p < gw * gh → 0 ≤ o p → ∀ x ∈ Q, o p ≤ x.1
  bnd : ∀ x ∈ Q, x.1 ≤ cntS (gw * gh) o * far
  obnd : ∀ p, p < gw * gh → o p ≤ cntS (gw * gh) o * far
section
variable {gw gh a : Nat} {V : List Int} {o : Nat → Int} {Q Q' : List (Int × Nat)} {X : Nat → Nat → Prop}
theorem DJ.init (ha : a < gw * gh) : DJ gw gh V a (fun _ => -1) [(0, a)] (fun _ _ => False) where
  ent := fun x hx => by simp at hx; subst hx; exact ⟨ha, Int.le_refl _, .inl ⟨rfl, rfl⟩⟩
  zero := fun h => by omega
  pred := fun j _ _ h => by omega
  le := fun i j _ _ _ h => by omega
  front := fun p j _ _ _ h => by omega
  start := fun _ => by simp
  low := fun p _ h => by omega
  bnd := fun x hx => by simp at hx; subst hx; unfold far; show (0 : Int) ≤ _; omega
  obnd := fun p _ => by unfold far; show (-1 : Int) ≤ _; omega
theorem DJ.perm (h : DJ gw gh V a o Q X) (hp : ∀ x, x ∈ Q' ↔ x ∈ Q) : DJ gw gh V a o Q' X :=
  ⟨fun x hx => h.ent x ((hp x).1 hx), h.zero, h.pred, h.le, fun p j a b c d e f => (hp _).2 (h.front p j a b c d e f), fun e => (hp _).2 (h.start e), fun p a b x hx => h.low p a b x ((hp x).1 hx), fun x hx => h.bnd x ((hp x).1 hx), h.obnd⟩
/-- one comes out that is known -/
theorem DJ.skip {x : Int × Nat} (h : DJ gw gh V a o (x :: Q) X) (hx : 0 ≤ o x.2) : DJ gw gh V a o Q X := by
  have hne : ∀ c j, o j < 0 → (c, j) ∈ x :: Q → (c, j) ∈ Q := fun c j hj hm => by
    rcases List.mem_cons.1 hm with e | e
    · subst e; dsimp only at hx; omega
    · exact e
  exact ⟨fun y hy => h.ent y (List.mem_cons_of_mem _ hy), h.zero, h.pred, h.le, fun p j a b c d e f => hne _ _ e (h.front p j a b c d e f), fun e => hne _ _ e (h.start e), fun p a b y hy => h.low p a b y (List.mem_cons_of_mem _ hy),
    fun y hy => h.bnd y (List.mem_cons_of_mem _ hy), h.obnd⟩
/-- behind a cell that came to be known: what of its neighbours isn't laid yet is spared -/
structure DJM (gw gh : Nat) (V : List Int) (a : Nat) (o : Nat → Int) (Q : List (Int × Nat)) (cur : Nat) (todo : List Nat) : Prop where
  dj : DJ gw gh V a o Q (fun p j => p = cur ∧ j ∈ todo)
  cur_lt : cur < gw * gh
  cur0 : 0 ≤ o cur
  top : ∀ p, p < gw * gh → 0 ≤ o p → o p ≤ o cur
  room : o cur + far ≤ cntS (gw * gh) o * far
  todo_ok : ∀ j ∈ todo, j < gw * gh ∧ Side gw cur j
theorem DJ.take {x : Int × Nat} (hgw : 0 < gw) (h : DJ gw gh V a o (x :: Q) (fun _ _ => False)) (hx : o x.2 < 0) (hmin : ∀ y ∈ Q, x.1 ≤ y.1) : DJM gw gh V a (updI o x.2 x.1) Q x.2 (nearN gw (gw * gh) x.2) := by
  obtain ⟨hlt, h0, hent⟩ := h.ent x List.mem_cons_self
  have hoe : ∀ p, 0 ≤ o p → updI o x.2 x.1 p = o p := fun p hp => by unfold updI; rw [if_neg (by rintro rfl; omega)]
  have hself : updI o x.2 x.1 x.2 = x.1 := by unfold updI; rw [if_pos rfl]
  have hothers : ∀ p, p ≠ x.2 → updI o x.2 x.1 p = o p := fun p hp => by unfold updI; rw [if_neg hp]
  have hcnt : cntS (gw * gh) (updI o x.2 x.1) = cntS (gw * gh) o + 1 := by rw [cntS_upd h0 hx, if_pos hlt]
  have hxb := h.bnd x List.mem_cons_self
  have hne : ∀ c j, j ≠ x.2 → (c, j) ∈ x :: Q → (c, j) ∈ Q := fun c j hj hm => by
    rcases List.mem_cons.1 hm with e | e
    · subst e; exact absurd rfl hj
    · exact e
  refine ⟨⟨fun y hy => ?_, fun ha => ?_, fun j hj hja hj0 => ?_, fun i j hi hj s hi0 hj0 => ?_, fun p j hp hj s hp0 hj0 hX => ?_, fun ha => ?_, fun p hp hp0 y hy => ?_, fun y hy => ?_, fun p hp => ?_⟩, hlt, by rw [hself]; exact h0, fun p hp hp0 => ?_, ?_, fun j hj => (nearN_mem hgw hlt).1 hj⟩
  · obtain ⟨g1, g2, g3⟩ := h.ent y (List.mem_cons_of_mem _ hy)
    refine ⟨g1, g2, g3.imp id fun ⟨p, p1, p2, p3, p4⟩ => ⟨p, p1, ?_, p3, ?_⟩⟩
    · rw [hoe p p2]; exact p2
    · rw [hoe p p2]; exact p4
  · by_cases e : a = x.2
    · rw [e, hself]
      have := h.start (by rw [e]; exact hx)
      rcases List.mem_cons.1 this with e2 | e2
      · rw [← e2]
      · have := hmin _ e2; dsimp only at this; omega
    · rw [hothers a e] at ha ⊢; exact h.zero ha
  · by_cases e : j = x.2
    · subst e
      rcases hent with ⟨e2, _⟩ | ⟨p, p1, p2, p3, p4⟩
      · exact absurd e2 hja
      · exact ⟨p, p1, p3, by rw [hoe p p2]; exact p2, by rw [hself, hoe p p2]; exact p4⟩
    · rw [hothers j e] at hj0 ⊢
      obtain ⟨i, i1, i2, i3, i4⟩ := h.pred j hj hja hj0
      exact ⟨i, i1, i2, by rw [hoe i i3]; exact i3, by rw [hoe i i3]; exact i4⟩
  · have hst := st_pos V i j
    by_cases ei : i = x.2
    · by_cases ej : j = x.2
      · subst ei; subst ej; omega
      · rw [hothers j ej] at hj0 ⊢
        have := h.low j hj hj0 x List.mem_cons_self
        rw [ei, hself, ← ei]; omega
    · rw [hothers i ei] at hi0 ⊢
      by_cases ej : j = x.2
      · have := h.front i j hi hj s hi0 (by rw [ej]; exact hx) (fun f => f)
        rw [ej, hself, ← ej]
        rcases List.mem_cons.1 this with e | e
        · rw [← e]; exact Int.le_refl _
        · exact hmin _ e
      · rw [hothers j ej] at hj0 ⊢; exact h.le i j hi hj s hi0 hj0
  · have ej : j ≠ x.2 := by rintro rfl; rw [hself] at hj0; omega
    rw [hothers j ej] at hj0
    by_cases ep : p = x.2
    · exact absurd ⟨ep, (nearN_mem hgw hlt).2 ⟨hj, ep ▸ s⟩⟩ hX
    · rw [hothers p ep] at hp0 ⊢
      exact hne _ _ ej (h.front p j hp hj s hp0 hj0 (fun f => f))
  · have e : a ≠ x.2 := by rintro e; rw [e, hself] at ha; omega
    rw [hothers a e] at ha
    exact hne _ _ e (h.start ha)
  · by_cases ep : p = x.2
    · rw [ep, hself]; exact hmin y hy
    · rw [hothers p ep] at hp0 ⊢; exact h.low p hp hp0 y (List.mem_cons_of_mem _ hy)
  · have := h.bnd y (List.mem_cons_of_mem _ hy)
    rw [hcnt]; unfold far at *; push_cast; omega
  · rw [hcnt]
    by_cases ep : p = x.2
    · rw [ep, hself]; unfold far at *; push_cast; omega
    · rw [hothers p ep]; have := h.obnd p hp; unfold far at *; push_cast; omega
  · rw [hself]
    by_cases ep : p = x.2
    · rw [ep, hself]; exact Int.le_refl _
    · rw [hothers p ep] at hp0 ⊢; exact h.low p hp hp0 x List.mem_cons_self
  · rw [hself, hcnt]; unfold far at *; push_cast; omega
theorem DJM.known {cur j : Nat} {todo : List Nat} (h : DJM gw gh V a o Q cur (j :: todo)) (hj : 0 ≤ o j) : DJM gw gh V a o Q cur todo := by
  refine ⟨⟨h.dj.ent, h.dj.zero, h.dj.pred, h.dj.le, fun p k hp hk s hp0 hk0 hX => h.dj.front p k hp hk s hp0 hk0 ?_, h.dj.start, h.dj.low, h.dj.bnd, h.dj.obnd⟩, h.cur_lt, h.cur0, h.top, h.room, fun k hk => h.todo_ok k (List.mem_cons_of_mem _ hk)⟩
  rintro ⟨e, hm⟩
  rcases List.mem_cons.1 hm with rfl | hm
  · omega
  · exact hX ⟨e, hm⟩
theorem DJM.push {cur j : Nat} {todo : List Nat} (h : DJM gw gh V a o Q cur (j :: todo)) (hstb : st V cur j ≤ far) (hp : ∀ x, x ∈ Q' ↔ x = (o cur + st V cur j, j) ∨ x ∈ Q) : DJM gw gh V a o Q' cur todo := by
  have hj := h.todo_ok j List.mem_cons_self
  have hst := st_pos V cur j
  have h0 := h.cur0
  have hroom := h.room
  refine ⟨⟨fun x hx => ?_, h.dj.zero, h.dj.pred, h.dj.le, fun p k hp' hk s hp0 hk0 hX => (hp _).2 ?_, fun ha => (hp _).2 (.inr (h.dj.start ha)), fun p hp' hp0 x hx => ?_, fun x hx => ?_, h.dj.obnd⟩, h.cur_lt, h.cur0, h.top, h.room, fun k hk => h.todo_ok k (List.mem_cons_of_mem _ hk)⟩
  · rcases (hp x).1 hx with rfl | hx
    · exact ⟨hj.1, by show 0 ≤ o cur + st V cur j; omega, .inr ⟨cur, h.cur_lt, h.cur0, hj.2, rfl⟩⟩
    · exact h.dj.ent x hx
  · by_cases e : p = cur ∧ k = j
    · obtain ⟨rfl, rfl⟩ := e; exact .inl rfl
    · refine .inr (h.dj.front p k hp' hk s hp0 hk0 ?_)
      rintro ⟨e1, hm⟩
      rcases List.mem_cons.1 hm with e2 | hm
      · exact e ⟨e1, e2⟩
      · exact hX ⟨e1, hm⟩
  · rcases (hp x).1 hx with rfl | hx
    · have := h.top p hp' hp0; show o p ≤ o cur + st V cur j; omega
    · exact h.dj.low p hp' hp0 x hx
  · rcases (hp x).1 hx with rfl | hx
    · show o cur + st V cur j ≤ _; omega
    · exact h.dj.bnd x hx
theorem DJM.done {cur : Nat} (h : DJM gw gh V a o Q cur []) : DJ gw gh V a o Q (fun _ _ => False) :=
  ⟨h.dj.ent, h.dj.zero, h.dj.pred, h.dj.le, fun p k hp hk s hp0 hk0 _ => h.dj.front p k hp hk s hp0 hk0 (by rintro ⟨_, hm⟩; cases hm), h.dj.start, h.dj.low, h.dj.bnd, h.dj.obnd⟩
theorem DJ.finish (hgw : 0 < gw) (hV : V.length = gw * gh) (ha : a < gw * gh) (h : DJ gw gh V a o [] (fun _ _ => False)) : IsDist gw V a o := by
  have ha0 : 0 ≤ o a := by
    rcases Int.lt_or_le (o a) 0 with e | e
    · exact absurd (h.start e) (by simp)
    · exact e
  have hall : ∀ i, i < gw * gh → 0 ≤ o i := grid_conn hgw (P := fun i => 0 ≤ o i) (fun i j hi hj s hi0 => by
    rcases Int.lt_or_le (o j) 0 with e | e
    · exact absurd (h.front i j hi hj s hi0 e (fun f => f)) (by simp)
    · exact e) ha ha0
  refine ⟨h.zero ha0, fun i hi => hall i (hV ▸ hi), fun i j hi hj s => h.le i j (hV ▸ hi) (hV ▸ hj) s (hall i (hV ▸ hi)) (hall j (hV ▸ hj)), fun j hj hja => ?_⟩
  obtain ⟨i, i1, i2, _, i4⟩ := h.pred j (hV ▸ hj) hja (hall j (hV ▸ hj))
  exact ⟨i, hV ▸ i1, i2, i4⟩
end

/-! ### Costs that fall by rounds; the route -/
/-! ### How many are cheaper -/
theorem filt_le {p q : Nat → Bool} (h : ∀ i, p i = true → q i = true) : ∀ n, ((List.range n).filter p).length ≤ ((List.range n).filter q).length
  | 0 => by simp
  | n + 1 => by
    have ih := filt_le h n
    rw [List.range_succ, List.filter_append, List.filter_append, List.length_append, List.length_append]
    by_cases hp : p n = true
    · simp [hp, h n hp]; omega
    · simp [hp]; omega
theorem filt_lt {p q : Nat → Bool} (h : ∀ i, p i = true → q i = true) {k : Nat} (hq : q k = true) (hp : p k = false) : ∀ n, k < n → ((List.range n).filter p).length < ((List.range n).filter q).length
  | 0, hk => by omega
  | n + 1, hk => by
    rw [List.range_succ, List.filter_append, List.filter_append, List.length_append, List.length_append]
    by_cases e : k = n
    · subst e
      have := filt_le h k
      simp [hp, hq]; omega
    · have ih := filt_lt h hq hp n (by omega)
      by_cases hpn : p n = true
      · simp [hpn, h n hpn]; omega
      · simp [hpn]; omega
def rank (n : Nat) (d : Nat → Int) (j : Nat) : Nat := ((List.range n).filter fun i => decide (d i < d j)).length
theorem rank_lt {n : Nat} {d : Nat → Int} {i j : Nat} (hi : i < n) (h : d i < d j) : rank n d i < rank n d j :=
  filt_lt (fun k hk => by simp only [decide_eq_true_eq] at *; omega) (k := i) (by simpa using h) (by simp) n hi
theorem rank_top {n : Nat} {d : Nat → Int} {j : Nat} (hj : j < n) : rank n d j < n := by
  have := filt_lt (p := fun i => decide (d i < d j)) (q := fun _ => true) (fun _ _ => rfl) (k := j) rfl (by simp) n hj
  rw [List.filter_eq_self.2 (fun _ _ => rfl), List.length_range] at this
  exact this
theorem cntS_same {o : Nat → Int} {k : Nat} {c : Int} (hc : 0 ≤ c) (ho : 0 ≤ o k) (n : Nat) : cntS n (updI o k c) = cntS n o := by
  unfold cntS
  congr 1
  refine List.filter_congr fun i _ => ?_
  unfold updI
  split
  · rename_i e; subst e; simp [hc, ho]
  · rfl

/-! ### Rounds -/
structure BF (gw gh : Nat) (V : List Int) (a : Nat) (d : Nat → Int) (r : Nat) (fell : Bool) (E : Nat → Nat → Prop) (o : Nat → Int) : Prop where
  zero : o a = 0
  ge : ∀ j, j < gw * gh → 0 ≤ o j → d j ≤ o j
  bnd : ∀ j, j < gw * gh → o j ≤ cntS (gw * gh) o * far
  rk : ∀ j, j < gw * gh → rank (gw * gh) d j ≤ r → o j = d j
  rel : ∀ p j, p < gw * gh → j < gw * gh → Side gw p j → E p j → rank (gw * gh) d p ≤ r → 0 ≤ o j ∧ o j ≤ d p + st V p j
  quiet : fell = false → ∀ p j, p < gw * gh → j < gw * gh → Side gw p j → E p j → 0 ≤ o p → 0 ≤ o j ∧ o j ≤ o p + st V p j
section
variable {gw gh a r : Nat} {V : List Int} {d o : Nat → Int} {fell : Bool} {E E' : Nat → Nat → Prop}
theorem BF.start (hV : V.length = gw * gh) (hd : IsDist gw V a d) (ha : a < gw * gh) : BF gw gh V a d 0 false (fun _ _ => False) (updI (fun _ => -1) a 0) := by
  have e : ∀ j, j ≠ a → updI (fun _ => (-1 : Int)) a 0 j = -1 := fun j hj => by unfold updI; rw [if_neg hj]
  have ea : updI (fun _ => (-1 : Int)) a 0 a = 0 := by unfold updI; rw [if_pos rfl]
  refine ⟨ea, fun j hj h0 => ?_, fun j hj => ?_, fun j hj hr => ?_, fun _ _ _ _ _ h => h.elim, fun _ _ _ _ _ _ h => h.elim⟩
  · by_cases ej : j = a
    · subst ej; rw [ea, hd.zero]; exact Int.le_refl _
    · rw [e j ej] at h0; omega
  · have : (updI (fun _ => (-1 : Int)) a 0) j ≤ 0 := by unfold updI; split <;> first | omega | (show (-1 : Int) ≤ 0; omega)
    have h2 : (0 : Int) ≤ (cntS (gw * gh) (updI (fun _ => -1) a 0) : Nat) * far := by unfold far; omega
    omega
  · by_cases ej : j = a
    · subst ej; rw [ea, hd.zero]
    · obtain ⟨i, hi, _, he⟩ := hd.pred j (hV ▸ hj) ej
      have := st_pos V i j
      have := rank_lt (n := gw * gh) (d := d) (i := i) (j := j) (hV ▸ hi) (by omega)
      omega
theorem BF.weaken (h : BF gw gh V a d r fell E o) (hE : ∀ p j, p < gw * gh → j < gw * gh → Side gw p j → E' p j → E p j) : BF gw gh V a d r fell E' o :=
  ⟨h.zero, h.ge, h.bnd, h.rk, fun p j a b s e => h.rel p j a b s (hE p j a b s e), fun f p j a b s e => h.quiet f p j a b s (hE p j a b s e)⟩
/-- a cell that no cost is known of yet -/
theorem BF.pass (hV : V.length = gw * gh) (hd : IsDist gw V a d) {i : Nat} (hi : i < gw * gh) (h : BF gw gh V a d r fell (fun p _ => p < i) o) (ho : o i < 0) : BF gw gh V a d r fell (fun p _ => p < i + 1) o := by
  have hn := hd.nn i (by omega)
  refine ⟨h.zero, h.ge, h.bnd, h.rk, fun p j hp hj s e hr => ?_, fun f p j hp hj s e h0 => ?_⟩
  · by_cases e1 : p = i
    · subst e1; have := h.rk p hp hr; omega
    · exact h.rel p j hp hj s (show p < i by omega) hr
  · by_cases e1 : p = i
    · subst e1; omega
    · exact h.quiet f p j hp hj s (show p < i by omega) h0
def EdgT (i : Nat) (todo : List Nat) (p j : Nat) : Prop := p < i ∨ (p = i ∧ j ∉ todo)
theorem BF.enter (hgw : 0 < gw) {i : Nat} (hi : i < gw * gh) (h : BF gw gh V a d r fell (fun p _ => p < i) o) : BF gw gh V a d r fell (EdgT i (nearN gw (gw * gh) i)) o :=
  h.weaken fun p j hp hj s e => by
    rcases e with e | ⟨rfl, e⟩
    · exact e
    · exact absurd ((nearN_mem hgw hi).2 ⟨hj, s⟩) e
theorem BF.leave {i : Nat} (h : BF gw gh V a d r fell (EdgT i []) o) : BF gw gh V a d r fell (fun p _ => p < i + 1) o :=
  h.weaken fun p j hp hj s (e : p < i + 1) => by
    by_cases e1 : p = i
    · exact .inr ⟨e1, by simp⟩
    · exact .inl (by omega)
theorem BF.stay {i j : Nat} {todo : List Nat} (hi : i < gw * gh) (h : BF gw gh V a d r fell (EdgT i (j :: todo)) o) (h0 : 0 ≤ o j) (hle : o j ≤ o i + st V i j) : BF gw gh V a d r fell (EdgT i todo) o := by
  have hE : ∀ p k, EdgT i todo p k → EdgT i (j :: todo) p k ∨ (p = i ∧ k = j) := fun p k e => by
    rcases e with e | ⟨e, hm⟩
    · exact .inl (.inl e)
    · by_cases ek : k = j
      · exact .inr ⟨e, ek⟩
      · exact .inl (.inr ⟨e, by simp [ek, hm]⟩)
  refine ⟨h.zero, h.ge, h.bnd, h.rk, fun p k hp hk s e hr => ?_, fun f p k hp hk s e hp0 => ?_⟩
  · rcases hE p k e with e | ⟨rfl, rfl⟩
    · exact h.rel p k hp hk s e hr
    · rw [← h.rk p hp hr]; exact ⟨h0, hle⟩
  · rcases hE p k e with e | ⟨rfl, rfl⟩
    · exact h.quiet f p k hp hk s e hp0
    · exact ⟨h0, hle⟩
theorem BF.fall (hV : V.length = gw * gh) (hd : IsDist gw V a d) {i j : Nat} {todo : List Nat} (hi : i < gw * gh) (hj : j < gw * gh) (s : Side gw i j) (hs : st V i j ≤ far) (h : BF gw gh V a d r fell (EdgT i (j :: todo)) o) (hoi : 0 ≤ o i)
    (hlt : o j < 0 ∨ o i + st V i j < o j) : BF gw gh V a d r true (EdgT i todo) (updI o j (o i + st V i j)) := by
  have hst := st_pos V i j
  have hself : updI o j (o i + st V i j) j = o i + st V i j := by unfold updI; rw [if_pos rfl]
  have hoth : ∀ k, k ≠ j → updI o j (o i + st V i j) k = o k := fun k hk => by unfold updI; rw [if_neg hk]
  have hja : j ≠ a := by rintro rfl; have := h.zero; omega
  have hcnt : (o i + st V i j ≤ cntS (gw * gh) (updI o j (o i + st V i j)) * far) ∧ cntS (gw * gh) o ≤ cntS (gw * gh) (updI o j (o i + st V i j)) := by
    have hb := h.bnd i hi
    by_cases e : o j < 0
    · rw [cntS_upd (by omega) e, if_pos hj]; unfold far at *; push_cast; omega
    · rw [cntS_same (by omega) (by omega)]; have := h.bnd j hj; omega
  have hE : ∀ p k, EdgT i todo p k → EdgT i (j :: todo) p k ∨ (p = i ∧ k = j) := fun p k e => by
    rcases e with e | ⟨e, hm⟩
    · exact .inl (.inl e)
    · by_cases ek : k = j
      · exact .inr ⟨e, ek⟩
      · exact .inl (.inr ⟨e, by simp [ek, hm]⟩)
  refine ⟨by rw [hoth a (fun e => hja e.symm)]; exact h.zero, fun k hk h0 => ?_, fun k hk => ?_, fun k hk hr => ?_, fun p k hp hk s' e hr => ?_, fun f => by cases f⟩
  · by_cases ek : k = j
    · subst ek; rw [hself]; have := hd.le i k (hV ▸ hi) (hV ▸ hj) s; have := h.ge i hi hoi; omega
    · rw [hoth k ek] at h0 ⊢; exact h.ge k hk h0
  · by_cases ek : k = j
    · subst ek; rw [hself]; exact hcnt.1
    · rw [hoth k ek]; have := h.bnd k hk; have := hcnt.2; unfold far at *; omega
  · by_cases ek : k = j
    · subst ek
      have h1 := h.rk k hk hr
      have h2 := hd.nn k (hV ▸ hk)
      have h3 := hd.le i k (hV ▸ hi) (hV ▸ hk) s
      have h4 := h.ge i hi hoi
      omega
    · rw [hoth k ek]; exact h.rk k hk hr
  · by_cases ek : k = j
    · subst ek
      rw [hself]
      refine ⟨by omega, ?_⟩
      rcases hE p k e with e | ⟨rfl, _⟩
      · have := h.rel p k hp hk s' e hr; omega
      · have := h.rk p hp hr; omega
    · rw [hoth k ek]
      rcases hE p k e with e | ⟨_, e⟩
      · exact h.rel p k hp hk s' e hr
      · exact absurd e ek
theorem BF.still (hV : V.length = gw * gh) (hd : IsDist gw V a d) (h : BF gw gh V a d r false (fun p _ => p < gw * gh) o) (ha : a < gw * gh) (hgw : 0 < gw) : ∀ j, j < gw * gh → o j = d j := by
  have hpos : ∀ j, j < gw * gh → 0 ≤ o j := grid_conn hgw (P := fun i => 0 ≤ o i) (fun i j hi hj s h0 => (h.quiet rfl i j hi hj s hi h0).1) ha (by rw [h.zero]; exact Int.le_refl _)
  intro j hj
  have h1 := hd.le_of (d' := o) (by rw [h.zero]; exact Int.le_refl _) (fun i j hi hj s _ => (h.quiet rfl i j (hV ▸ hi) (hV ▸ hj) s (hV ▸ hi) (hpos i (hV ▸ hi))).2) j (hV ▸ hj)
  have h2 := h.ge j hj (hpos j hj)
  omega
theorem BF.next (hV : V.length = gw * gh) (hd : IsDist gw V a d) (h : BF gw gh V a d r fell (fun p _ => p < gw * gh) o) : BF gw gh V a d (r + 1) false (fun _ _ => False) o := by
  refine ⟨h.zero, h.ge, h.bnd, fun j hj hr => ?_, fun _ _ _ _ _ e => e.elim, fun _ _ _ _ _ _ e => e.elim⟩
  by_cases e : j = a
  · subst e; rw [h.zero, hd.zero]
  · obtain ⟨i, hi, s, he⟩ := hd.pred j (hV ▸ hj) e
    have := st_pos V i j
    have hrk := rank_lt (n := gw * gh) (d := d) (i := i) (j := j) (hV ▸ hi) (by omega)
    have h1 := h.rel i j (hV ▸ hi) hj s (hV ▸ hi) (by omega)
    have h2 := h.ge j hj h1.1
    omega
theorem BF.last (h : BF gw gh V a d r fell E o) (hr : gw * gh ≤ r) : ∀ j, j < gw * gh → o j = d j := fun j hj => h.rk j hj (by have := rank_top (d := d) hj; omega)
end

/-! ### The route -/
def nextN (gw : Nat) (V : List Int) (d : Nat → Int) (i : Nat) : Nat := ((nearN gw V.length i).find? fun j => d j + st V i j == d i).getD i
def routeF (gw : Nat) (V : List Int) (d : Nat → Int) (b : Nat) : Nat → Nat → List Nat
  | 0, i => [i]
  | k + 1, i => if i = b then [i] else i :: routeF gw V d b k (nextN gw V d i)
section
variable {gw gh b : Nat} {V : List Int} {d : Nat → Int}
theorem nextN_ok (hgw : 0 < gw) (hV : V.length = gw * gh) (hd : IsDist gw V b d) {i : Nat} (hi : i < gw * gh) (h : i ≠ b) :
    ∃ pre post, nearN gw V.length i = pre ++ nextN gw V d i :: post ∧ (∀ j ∈ pre, d j + st V i j ≠ d i) ∧ d (nextN gw V d i) + st V i (nextN gw V d i) = d i ∧ nextN gw V d i < gw * gh ∧ Side gw i (nextN gw V d i) := by
  obtain ⟨j, hj, s, he⟩ := hd.pred i (hV ▸ hi) h
  have hmem : j ∈ nearN gw V.length i := by rw [hV]; exact (nearN_mem hgw hi).2 ⟨hV ▸ hj, s.symm⟩
  have hsome : ((nearN gw V.length i).find? fun j => d j + st V i j == d i).isSome = true := by
    rw [List.find?_isSome]
    exact ⟨j, hmem, by rw [st_symm, ← he]; simp⟩
  obtain ⟨k, hk⟩ := Option.isSome_iff_exists.1 hsome
  have hn : nextN gw V d i = k := by unfold nextN; rw [hk]; rfl
  obtain ⟨hp, pre, post, e, hpre⟩ := List.find?_eq_some_iff_append.1 hk
  have hkm : k ∈ nearN gw V.length i := List.mem_of_find?_eq_some hk
  rw [hV] at hkm
  have h2 := (nearN_mem hgw hi).1 hkm
  rw [hn]
  refine ⟨pre, post, e, fun j hj => ?_, by simpa using hp, h2.1, h2.2⟩
  have := hpre j hj
  simpa using this
theorem routeF_more (hgw : 0 < gw) (hV : V.length = gw * gh) (hd : IsDist gw V b d) : ∀ (k : Nat) (i : Nat), i < gw * gh → d i ≤ k → routeF gw V d b (k + 1) i = routeF gw V d b k i
  | 0, i, hi, h => by
    have : i = b := by
      by_cases e : i = b
      · exact e
      · obtain ⟨j, hj, s, he⟩ := hd.pred i (hV ▸ hi) e
        have := st_pos V j i
        have := hd.nn j hj
        omega
    simp [routeF, this]
  | k + 1, i, hi, h => by
    by_cases e : i = b
    · simp [routeF, e]
    · obtain ⟨_, _, _, _, he, hlt, _⟩ := nextN_ok hgw hV hd hi e
      have := st_pos V i (nextN gw V d i)
      have ih := routeF_more hgw hV hd k (nextN gw V d i) hlt (by omega)
      rw [routeF, if_neg e, ih]
      rw [routeF, if_neg e]
def routeL (gw : Nat) (V : List Int) (d : Nat → Int) (b i : Nat) : List Nat := routeF gw V d b (d i).toNat i
theorem routeL_here (hd : IsDist gw V b d) : routeL gw V d b b = [b] := by unfold routeL; rw [hd.zero]; rfl
theorem routeF_big (hgw : 0 < gw) (hV : V.length = gw * gh) (hd : IsDist gw V b d) {i : Nat} (hi : i < gw * gh) : ∀ m : Nat, routeF gw V d b ((d i).toNat + m) i = routeL gw V d b i
  | 0 => rfl
  | m + 1 => by rw [← Nat.add_assoc, routeF_more hgw hV hd _ i hi (by omega), routeF_big hgw hV hd hi m]
theorem routeL_step (hgw : 0 < gw) (hV : V.length = gw * gh) (hd : IsDist gw V b d) {i : Nat} (hi : i < gw * gh) (h : i ≠ b) : routeL gw V d b i = i :: routeL gw V d b (nextN gw V d i) := by
  obtain ⟨_, _, _, _, he, hlt, _⟩ := nextN_ok hgw hV hd hi h
  have hst := st_pos V i (nextN gw V d i)
  have h0 := hd.nn (nextN gw V d i) (hV ▸ hlt)
  have e1 : (d i).toNat = (d (nextN gw V d i)).toNat + ((d i).toNat - 1 - (d (nextN gw V d i)).toNat) + 1 := by omega
  rw [routeL, e1, routeF, if_neg h, routeF_big hgw hV hd hlt]
end
instance (gw i j : Nat) : Decidable (Side gw i j) := by unfold Side; infer_instance
end Go.Proofs.YtbcgbcipigcbhaaGreat
/- Package route: a land's cells, neighbours, steps. -/
namespace Go.Proofs.YtbcgbcipigcbhaaGreat
open Go.RowKit
set_option linter.unusedVariables false
set_option linter.unusedSimpArgs false
set_option maxRecDepth 100000

/-! ### Rows of numbers -/
def natsV (l : List Nat) : List Value := l.map fun (j : Nat) => Value.int .i64 (j : Int)
theorem natsV_len (l : List Nat) : (natsV l).length = l.length := by simp [natsV]
theorem natsV_app (l m : List Nat) : natsV l ++ natsV m = natsV (l ++ m) := by simp [natsV]
theorem natsV_get {l : List Nat} {i j : Nat} (h : l[i]? = some j) : (natsV l)[(i : Int).toNat * 1]? = some (.int .i64 (j : Int)) := by
  rw [Nat.mul_one, Int.toNat_natCast, natsV, List.getElem?_map, h]; rfl
def cellsQ (n : Nat) (o : Nat → Int) : List Value := (List.range n).map fun i => .int .i64 (o i)
theorem cellsQ_len (n : Nat) (o : Nat → Int) : (cellsQ n o).length = n := by simp [cellsQ]
theorem cellsQ_get {n i : Nat} {o : Nat → Int} (h : i < n) : (cellsQ n o)[(i : Int).toNat * 1]? = some (.int .i64 (o i)) := by
  rw [Nat.mul_one, Int.toNat_natCast, cellsQ, List.getElem?_map, List.getElem?_range h]; rfl
theorem cellsQ_ints (n : Nat) (o : Nat → Int) : cellsQ n o = ints ((List.range n).map o) := by simp [cellsQ, ints]
theorem cellsQ_congr {n : Nat} {o o' : Nat → Int} (h : ∀ i, i < n → o i = o' i) : cellsQ n o = cellsQ n o' := by
  unfold cellsQ
  refine List.map_congr_left fun i hi => ?_
  rw [h i (List.mem_range.1 hi)]
theorem cellsQ_set {n k : Nat} {o : Nat → Int} {v : Int} : (cellsQ n o).set ((k : Int).toNat * 1) (.int .i64 v) = cellsQ n (updI o k v) := by
  rw [Nat.mul_one, Int.toNat_natCast]
  apply List.ext_getElem?
  intro i
  rw [List.getElem?_set]
  unfold cellsQ updI
  by_cases e : k = i
  · subst e
    rw [if_pos rfl]
    simp only [List.length_map, List.length_range]
    split
    · rename_i h; rw [List.getElem?_map, List.getElem?_range h]; simp
    · rename_i h; rw [List.getElem?_eq_none (by simp; omega)]
  · rw [if_neg e, List.getElem?_map, List.getElem?_map]
    by_cases h : i < n
    · rw [List.getElem?_range h, Option.map_some, Option.map_some, if_neg (fun h => e h.symm)]
    · rw [List.getElem?_eq_none (by simp; omega)]; rfl
theorem cellsQ_zero (n : Nat) : List.replicate n (Value.int .i64 0) = cellsQ n (fun _ => 0) := by
  unfold cellsQ
  rw [List.map_const', List.length_range]

section
variable {W : World} {A : Option Addr} {gw c : Nat} {V : List Int}
def vB (V : List Int) : Prop := ∀ i, -2147483648 ≤ V.getD i 0 ∧ V.getD i 0 ≤ 2147483647
theorem st_far (hb : vB V) (i j : Nat) : st V i j ≤ far := by have := hb i; have := hb j; unfold st far; omega
theorem IsDist.bound {a : Nat} {d : Nat → Int} (h : IsDist gw V a d) (hb : vB V) : ∀ j, j < V.length → d j ≤ rank V.length d j * far := by
  have key : ∀ (k : Nat) (j : Nat), j < V.length → rank V.length d j < k → d j ≤ rank V.length d j * far := by
    intro k
    induction k with
    | zero => intro j _ h; omega
    | succ k ih =>
      intro j hj hk
      by_cases e : j = a
      · subst e; rw [h.zero]; unfold far; omega
      · obtain ⟨i, hi, _, he⟩ := h.pred j hj e
        have h1 := st_pos V i j
        have h2 := st_far hb i j
        have h3 := rank_lt (n := V.length) (d := d) (i := i) (j := j) hi (by omega)
        have h4 := ih i hi (by omega)
        unfold far at *
        omega
  exact fun j hj => key (rank V.length d j + 1) j hj (by omega)
end
theorem vB_of_may {V : List Int} (h : ∀ v ∈ V, mayB v = true) : vB V := by
  intro i
  rw [List.getD_eq_getElem?_getD]
  cases e : V[i]? with
  | none => simp
  | some v =>
    have := h v (List.mem_of_getElem? e)
    unfold mayB at this
    simpa using this
theorem vB_grid {gw gh : Nat} {cc : Nat → Int} (h : ∀ i, i < gw * gh → -2147483648 ≤ cc i ∧ cc i ≤ 2147483647) : vB (gridL gw gh cc) := by
  intro i
  unfold gridL
  rw [List.getD_eq_getElem?_getD]
  by_cases hi : i < gw * gh
  · rw [List.getElem?_map, List.getElem?_range hi]; exact h i hi
  · rw [List.getElem?_eq_none (by simp; omega)]; simp
end Go.Proofs.YtbcgbcipigcbhaaGreat
/- area.Build, Sum, Mean: a table of sums. -/
namespace Go.Proofs.YtbcgbcipigcbhaaGreat
open Go.RowKit
set_option linter.unusedVariables false
set_option linter.unusedSimpArgs false
set_option maxRecDepth 100000

theorem info_t22 : (Tryz.prog.info? 22).map (fun i => (i.zero, i.size, i.bytes)) = some (some (.slice none 0 0), 1, 24) := by kernel_rfl
/-! ### Rows of one length -/
def slV (k : Nat) (As : Nat → Option Addr) (n : Nat) (cs : Nat → Nat) : List Value := (List.range k).map fun y => .slice (As y) n (cs y)
theorem slV_len (k : Nat) (As : Nat → Option Addr) (n : Nat) (cs : Nat → Nat) : (slV k As n cs).length = k := by simp [slV]
theorem slV_get {k : Nat} {As : Nat → Option Addr} {n : Nat} {cs : Nat → Nat} {y : Nat} (h : y < k) : (slV k As n cs)[((y : Nat) : Int).toNat * 1]? = some (.slice (As y) n (cs y)) := by simp [slV, h]
def addO {α : Type} (f : Nat → α) (k : Nat) (x : α) : Nat → α := fun t => if t = k then x else f t
theorem addO_at {α : Type} {f : Nat → α} {k : Nat} {x : α} : addO f k x k = x := if_pos rfl
theorem addO_lt {α : Type} {f : Nat → α} {k t : Nat} {x : α} (h : t < k) : addO f k x t = f t := if_neg (by omega)
theorem slV_push {k : Nat} {As : Nat → Option Addr} {n : Nat} {cs : Nat → Nat} {A : Option Addr} {c : Nat} : slV k As n cs ++ [.slice A n c] = slV (k + 1) (addO As k A) n (addO cs k c) := by
  unfold slV
  rw [List.range_succ, List.map_append, List.map_singleton, addO_at, addO_at]
  congr 1
  exact List.map_congr_left fun t ht => by rw [addO_lt (List.mem_range.1 ht), addO_lt (List.mem_range.1 ht)]
def HA.rfam (el k : Nat) (As : Nat → Option Addr) (cs : Nat → Nat) (n : Nat) (xs : Nat → List Value) : HA :=
  ⟨fun g => ∃ t, t < k ∧ ownA (As t) g, fun w => ∀ t, t < k → Row w el 1 (As t) n (cs t) (xs t), fun _ _ h _ hR t ht => (hR t ht).keep (fun g hg => h g ⟨t, ht, hg⟩), fun _ hR _ ⟨t, ht, hg⟩ => (hR t ht).lt hg⟩
section
variable {F : Nat → Prop} {W w : World} {L : List HA} {el k n c i : Nat} {As : Nat → Option Addr} {cs : Nat → Nat} {xs : Nat → List Value} {A : Option Addr} {l : List Value}
theorem St.rfam0 (S : St F W w L) (As : Nat → Option Addr) (cs : Nat → Nat) (xs : Nat → List Value) : St F W w (.rfam el 0 As cs n xs :: L) :=
  S.push (Gr.refl w) (h := .rfam el 0 As cs n xs) (fun t ht => by omega) (fun g ⟨t, ht, _⟩ => by omega)
theorem St.rrow (S : St F W w L) (hi : getO L i = some (.rfam el k As cs n xs)) {t : Nat} (ht : t < k) : Row w el 1 (As t) n (cs t) (xs t) := S.ok hi t ht
theorem St.rrd (S : St F W w L) (hi : getO L i = some (.rfam el k As cs n xs)) {t : Nat} (ht : t < k) : Rd w (As t) (xs t) := (S.rrow hi ht).rd
theorem St.rfamPush (S : St F W w (.row el 1 A n c l :: .rfam el k As cs n xs :: L)) (hl : xs k = l) : St F W w (.rfam el (k + 1) (addO As k A) (addO cs k c) n xs :: L) := by
  have h1 := S.sep.1
  have h2 := S.sep.2.2.1
  have h3 := S.sep.2.2.2
  refine ⟨S.fr, ⟨fun t ht => ?_, fun g ⟨t, ht, e⟩ => ?_⟩, fun g ⟨t, ht, e⟩ h hh => ?_, h3.2⟩
  · by_cases e : t = k
    · subst e; rw [addO_at, addO_at, hl]; exact h1.1
    · rw [addO_lt (by omega), addO_lt (by omega)]; exact h2.1 t (by omega)
  · by_cases ek : t = k
    · subst ek; rw [addO_at] at e; exact h1.2 g e
    · rw [addO_lt (by omega)] at e; exact h2.2 g ⟨t, by omega, e⟩
  · by_cases ek : t = k
    · subst ek; rw [addO_at] at e; exact S.sep.2.1 g e h (List.mem_cons_of_mem _ hh)
    · rw [addO_lt (by omega)] at e; exact h3.1 g ⟨t, by omega, e⟩ h hh
end
theorem SepL.perm_ {X : Nat → Prop} {w : World} {L L' : List HA} (p : L.Perm L') : SepL X w L → SepL X w L' := by
  induction p with
  | nil => exact id
  | cons a p ih => exact fun h => ⟨h.1, fun g hg h' hh => h.2.1 g hg h' (p.mem_iff.2 hh), ih h.2.2⟩
  | swap a b l =>
    intro h
    refine ⟨h.2.2.1, fun g hg h' hh => ?_, h.1, fun g hg h' hh => h.2.1 g hg h' (List.mem_cons_of_mem _ hh), h.2.2.2.2⟩
    rcases List.mem_cons.1 hh with e | hh
    · subst e; exact fun ho => h.2.1 g ho a List.mem_cons_self hg
    · exact h.2.2.2.1 g hg h' hh
  | trans _ _ ih1 ih2 => exact fun h => ih2 (ih1 h)
theorem St.perm_ {F : Nat → Prop} {W w : World} {L L' : List HA} (S : St F W w L) (p : L.Perm L') : St F W w L' := ⟨S.fr, S.sep.perm_ p⟩
theorem perm_three {α : Type} (a b c : α) (L : List α) : (a :: b :: c :: L).Perm (c :: a :: b :: L) := (List.perm_append_comm (l₁ := [a, b]) (l₂ := [c])).append_right L
/-! ### Sums -/
def rowS (V : List Int) (o : Nat) : Nat → Int
  | 0 => 0
  | x + 1 => rowS V o x + V.getD (o + x) 0
def psum (V : List Int) (gw : Nat) : Nat → Nat → Int
  | 0, _ => 0
  | y + 1, x => rowS V (y * gw) x + psum V gw y x
theorem psum_col (V : List Int) (gw : Nat) : ∀ y, psum V gw y 0 = 0
  | 0 => rfl
  | y + 1 => by show rowS V (y * gw) 0 + psum V gw y 0 = 0; rw [psum_col V gw y]; rfl
theorem rowS_bnd {V : List Int} (hB : vB V) (o : Nat) : ∀ x : Nat, -(2147483648 * (x : Int)) ≤ rowS V o x ∧ rowS V o x ≤ 2147483648 * (x : Int)
  | 0 => by simp [rowS]
  | x + 1 => by
    have := rowS_bnd hB o x
    have := hB (o + x)
    show _ ≤ rowS V o x + V.getD (o + x) 0 ∧ rowS V o x + V.getD (o + x) 0 ≤ _
    omega
theorem psum_bnd {V : List Int} (hB : vB V) (gw : Nat) {x : Nat} (hx : x ≤ 1024) : ∀ y : Nat, -(2199023255552 * (y : Int)) ≤ psum V gw y x ∧ psum V gw y x ≤ 2199023255552 * (y : Int)
  | 0 => by simp [psum]
  | y + 1 => by
    have := psum_bnd hB gw hx y
    have := rowS_bnd hB (y * gw) x
    show _ ≤ rowS V (y * gw) x + psum V gw y x ∧ rowS V (y * gw) x + psum V gw y x ≤ _
    omega
/-- a table of sums in memory -/
def AreaAt (w : World) (tb gw gh : Nat) (V : List Int) : Prop := ∃ Ao co As cs, Blk w tb 87 [.int .i64 gw, .int .i64 gh, .slice Ao (gh + 1) co] ∧ Row w 22 1 Ao (gh + 1) co (slV (gh + 1) As (gw + 1) cs) ∧
  ∀ y, y < gh + 1 → Row w 2 1 (As y) (gw + 1) (cs y) (cellsQ (gw + 1) (psum V gw y))
theorem AreaAt.gr {w w' : World} {tb gw gh : Nat} {V : List Int} (h : AreaAt w tb gw gh V) (g : Gr w w') : AreaAt w' tb gw gh V := by
  obtain ⟨Ao, co, As, cs, h1, h2, h3⟩ := h
  exact ⟨Ao, co, As, cs, h1.gr g, h2.gr g, fun y hy => (h3 y hy).gr g⟩
theorem cellsQ_push {n : Nat} {o : Nat → Int} {v : Int} (h : v = o n) : cellsQ n o ++ [.int .i64 v] = cellsQ (n + 1) o := by
  subst h
  unfold cellsQ
  rw [List.range_succ, List.map_append]
  rfl
section
variable {W : World} {A : Option Addr} {p gw gh cap : Nat} {cc : Nat → Int} {bs : Nat → Nat} {Rs : Nat → Option Nat}
theorem abuildNil_E : Fn Tryz.prog 19 [.pointer none] W (RetG (.tuple #[.pointer none, .int .i64 1]) W) := by
  have S := St.start W
  refine Fn_enter Tryz.func19 rfl Tryz.results19 Tryz.ntmps19 (by kernel_rfl) (by kernel_rfl) ?_
  repeat refine cw_seq ?_
  refine cw_region ?_
  iterate 2 refine rw_v (op_pure rfl) ?_
  first | refine rw_end ?_ | (refine rw_nil ?_; show CW _ _ _ _ _ _) | refine rw_nil ?_
  repeat refine cw_seq ?_
  refine cw_region ?_
  refine rw_v (op_pure rfl) ?_
  refine rw_v (op_nilp Tryz.underlying28 rfl rfl) ?_
  first | refine rw_end ?_ | (refine rw_nil ?_; show CW _ _ _ _ _ _) | refine rw_nil ?_
  repeat refine cw_seq ?_
  refine cw_true rfl ?_
  repeat refine cw_seq ?_
  refine cw_region ?_
  iterate 2 refine rw_v (op_pure rfl) ?_
  first | refine rw_end ?_ | (refine rw_nil ?_; show CW _ _ _ _ _ _) | refine rw_nil ?_
  repeat refine cw_seq ?_
  refine cw_ret ?_
  repeat first | refine ret_then ?_ | refine ret_inb ?_
  exact res2 rfl rfl ⟨rfl, S.out⟩
set_option maxHeartbeats 4000000 in
theorem abuild_E (hB : vB (gridL gw gh cc)) (hG : GridAt W p gw gh cc A cap bs Rs) : Fn Tryz.prog 19 [.pointer (some ⟨p, 0, none⟩)] W
    (fun v w' => ∃ tb, v = .tuple #[.pointer (some ⟨tb, 0, none⟩), .int .i64 0] ∧ AreaAt w' tb gw gh (gridL gw gh cc) ∧ Gr W w') := by
  have hw := hG.sw
  have hh := hG.sh
  have hV := gridL_len gw gh cc
  have hval : ∀ (y : Nat) (w : World), y < gh → Gr W w → Fn Tryz.prog 11 [.pointer (some ⟨p, 0, none⟩), .agg #[.int .i64 0, .int .i64 y, .int .i64 (gw - 1 : Nat), .int .i64 y]] w (RetNew (fun v => .tuple #[v, .int .i64 0]) 2 1 gw (cellsQ gw fun x => (gridL gw gh cc).getD (y * gw + x) 0) w) := fun y w hy g => by
    have h1 := gvalues_E (W := w) 0 y (gw - 1) y (by omega) (by omega) (hG.gr g)
    have e2 : ints (rectV gw cc 0 y (gw - 1 + 1 - 0) (y + 1 - y)) = cellsQ gw fun x => (gridL gw gh cc).getD (y * gw + x) 0 := by
      have hyg : (y + 1) * gw ≤ gh * gw := Nat.mul_le_mul_right _ hy
      rw [Nat.succ_mul, Nat.mul_comm gh] at hyg
      rw [show gw - 1 + 1 - 0 = gw by omega, show y + 1 - y = 1 by omega, cellsQ_ints]
      congr 1
      simp only [rectV, rowV, List.range_one, List.flatMap_singleton]
      refine List.map_congr_left fun x hx => ?_
      have hx := List.mem_range.1 hx
      unfold gridL
      rw [List.getD_eq_getElem?_getD, List.getElem?_map, List.getElem?_range (by omega)]
      simp
    rw [e2, show (y + 1 - y) * (gw - 1 + 1 - 0) = gw by rw [show y + 1 - y = 1 by omega]; omega] at h1
    exact h1
  generalize gridL gw gh cc = V at *
  have e1 : ((gw : Int) - 1) = ((gw - 1 : Nat) : Int) := by omega
  have e2 : ((gw : Int) + 1) = ((gw + 1 : Nat) : Int) := by push_cast; rfl
  have S := St.start W
  refine Fn_enter Tryz.func19 rfl Tryz.results19 Tryz.ntmps19 (by kernel_rfl) (by kernel_rfl) ?_
  repeat refine cw_seq ?_
  refine cw_region ?_
  iterate 2 refine rw_v (op_pure rfl) ?_
  first | refine rw_end ?_ | (refine rw_nil ?_; show CW _ _ _ _ _ _) | refine rw_nil ?_
  repeat refine cw_seq ?_
  refine cw_region ?_
  refine rw_v (op_pure rfl) ?_
  refine rw_v (op_nilp Tryz.underlying28 rfl rfl) ?_
  first | refine rw_end ?_ | (refine rw_nil ?_; show CW _ _ _ _ _ _) | refine rw_nil ?_
  repeat refine cw_seq ?_
  refine cw_false rfl ?_
  repeat refine cw_seq ?_
  refine cw_skip ?_
  try show CW _ _ _ _ _ _
  repeat refine cw_seq ?_
  refine cw_region ?_
  refine rw_v (op_pure rfl) ?_
  refine rw_call rfl (gsize_E p gw gh _ W (hG.top.gr S.out)) ?_
  rintro _ w1_ ⟨rfl, g1_⟩
  have S := S.gr g1_
  iterate 5 refine rw_v (op_pure rfl) ?_
  first | refine rw_end ?_ | (refine rw_nil ?_; show CW _ _ _ _ _ _) | refine rw_nil ?_
  repeat refine cw_seq ?_
  refine cw_region ?_
  iterate 3 refine rw_v (op_pure rfl) ?_
  refine rw_v (op_rng rfl (by omega)) ?_
  rw [e2]
  refine rw_makeS1 Tryz.underlying22 info_t2 rfl rfl rfl (n := gw + 1) (c := gw + 1) (by omega) (by omega) (by omega) (by omega) S ?_
  intro A_r0 w3_ g3_ S sa_r0
  refine rw_buildS Tryz.underlying85 Tryz.sizeOf22 Tryz.zeroValue22 rfl rfl rfl rfl rfl rfl S ?_
  intro A_out w5_ g5_ S sa_out
  refine rw_v (op_build (pl := [(0, 1), (1, 1), (2, 1)]) Tryz.underlying87 Tryz.zeroValue87 (fun w => by kernel_rfl) rfl rfl) ?_
  refine rw_newB (op_box rfl) S ?_
  intro b_tb w7_ g7_ S
  refine rw_v (op_pure rfl) ?_
  first | refine rw_end ?_ | (refine rw_nil ?_; show CW _ _ _ _ _ _) | refine rw_nil ?_
  repeat refine cw_seq ?_
  refine cw_region ?_
  iterate 2 refine rw_v (op_pure rfl) ?_
  first | refine rw_end ?_ | (refine rw_nil ?_; show CW _ _ _ _ _ _) | refine rw_nil ?_
  repeat refine cw_seq ?_
  refine cw_block ?_
  repeat refine cw_seq ?_
  have hr0 : List.replicate (gw + 1) (Value.int .i64 0) = cellsQ (gw + 1) (psum V gw 0) := by
    unfold cellsQ psum
    rw [List.map_const', List.length_range]
  rw [hr0] at S
  have S := ((S.perm_ (perm_three _ _ _ _)).rfam0 (el := 2) (n := gw + 1) (fun _ => none) (fun _ => 0) (fun y => cellsQ (gw + 1) (psum V gw y))).swap.rfamPush rfl
  have h0 : [Value.slice A_r0 (gw + 1) (gw + 1)] = slV (0 + 1) (addO (fun _ => none) 0 A_r0) (gw + 1) (addO (fun _ => 0) 0 (gw + 1)) := by
    have := slV_push (k := 0) (As := fun _ => none) (n := gw + 1) (cs := fun _ => 0) (A := A_r0) (c := gw + 1)
    exact this
  rw [h0] at S
  generalize addO (fun _ => none) 0 A_r0 = As0 at *
  generalize addO (fun _ => 0) 0 (gw + 1) = cs0 at *
  refine cw_loop (fun m e w => ∃ (y : Nat) (As : Nat → Option Addr) (cs : Nat → Nat) (A_out : Option Addr) (c_out : Nat), y + m = gh ∧ SL e [(0, .pointer (some ⟨p, 0, none⟩)), (4, .int .i64 gw), (6, .pointer (some ⟨b_tb, 0, none⟩)), (29, .int .i64 gh), (30, .int .i64 y)] ∧
    St No W w [.rfam 2 (y + 1) As cs (gw + 1) (fun y => cellsQ (gw + 1) (psum V gw y)), .blk b_tb 87 [.int .i64 gw, .int .i64 gh, .slice A_out (y + 1) c_out], .row 22 1 A_out (y + 1) c_out (slV (y + 1) As (gw + 1) cs)]) gh
    ⟨0, As0, cs0, A_out, 1, by omega, ⟨rfl, rfl, rfl, rfl, rfl, trivial⟩, S⟩ ?_
  clear S hr0 h0
  rintro m e w ⟨y, As, cs, A_out, c_out, hym, hsl, S⟩
  rw [hsl.fold]
  by_cases hy : y < gh
  · have hyk : y < y + 1 := Nat.lt_succ_self y
    have sa_out : SomeA A_out := (S.row (i := 2) rfl).someA (by omega)
    have sa_ry : SomeA (As y) := (S.rrow (i := 0) rfl hyk).someA (by omega)
    have hgo := slV_get (As := As) (n := gw + 1) (cs := cs) hyk
    have hn1 : [Value.int .i64 0] = cellsQ 1 (psum V gw (y + 1)) := by
      have : psum V gw (y + 1) 0 = 0 := psum_col V gw (y + 1)
      unfold cellsQ
      simp [this]
    repeat refine cw_seq ?_
    refine cw_region ?_
    refine rw_v (op_b (b := true) rfl (decide_eq_true (by omega))) ?_
    first | refine rw_end ?_ | (refine rw_nil ?_; show CW _ _ _ _ _ _) | refine rw_nil ?_
    repeat refine cw_seq ?_
    refine cw_true rfl ?_
    repeat refine cw_seq ?_
    refine cw_skip ?_
    try show CW _ _ _ _ _ _
    repeat refine cw_seq ?_
    refine cw_block ?_
    repeat refine cw_seq ?_
    refine cw_region ?_
    iterate 2 refine rw_v (op_pure rfl) ?_
    first | refine rw_end ?_ | (refine rw_nil ?_; show CW _ _ _ _ _ _) | refine rw_nil ?_
    repeat refine cw_seq ?_
    refine cw_region ?_
    iterate 3 refine rw_v (op_pure rfl) ?_
    refine rw_v (op_rng rfl (by omega)) ?_
    rw [e1]
    refine rw_v (op_pure rfl) ?_
    refine rw_v (op_build (pl := [(0, 1), (1, 1), (2, 1), (3, 1)]) Tryz.underlying38 Tryz.zeroValue38 (fun w => by kernel_rfl) rfl rfl) ?_
    refine rw_call rfl (hval y w hy S.out) ?_
    rintro _ w8_ ⟨A_l, c_l, rfl, hR_l, hf_l, g8_⟩
    have S := S.pushRow hR_l hf_l g8_
    iterate 5 refine rw_v (op_pure rfl) ?_
    first | refine rw_end ?_ | (refine rw_nil ?_; show CW _ _ _ _ _ _) | refine rw_nil ?_
    repeat refine cw_seq ?_
    refine cw_region ?_
    refine rw_v (op_pure rfl) ?_
    refine rw_v (op_rng rfl (by omega)) ?_
    rw [e2]
    refine rw_makeS1 Tryz.underlying22 info_t2 rfl rfl rfl (n := 1) (c := gw + 1) (by omega) (by omega) (by omega) (by omega) S ?_
    intro A_nr w10_ g10_ S sa_nr
    refine rw_v (op_pure rfl) ?_
    first | refine rw_end ?_ | (refine rw_nil ?_; show CW _ _ _ _ _ _) | refine rw_nil ?_
    repeat refine cw_seq ?_
    refine cw_region ?_
    refine rw_v (op_pure rfl) ?_
    first | refine rw_end ?_ | (refine rw_nil ?_; show CW _ _ _ _ _ _) | refine rw_nil ?_
    repeat refine cw_seq ?_
    refine cw_region ?_
    refine rw_v (op_pure rfl) ?_
    refine rw_v (op_len Tryz.underlying22 rfl) ?_
    refine rw_v (op_pure rfl) ?_
    first | refine rw_end ?_ | (refine rw_nil ?_; show CW _ _ _ _ _ _) | refine rw_nil ?_
    repeat refine cw_seq ?_
    refine cw_block ?_
    repeat refine cw_seq ?_
    have hn2 : List.replicate 1 (Value.int .i64 0) = cellsQ 1 (psum V gw (y + 1)) := hn1
    rw [hn2] at S
    have sa_l : SomeA A_l := (S.row (i := 1) rfl).someA (by omega)
    refine cw_loop (fun m2 e w => ∃ (x : Nat) (A_nr : Option Addr) (c_nr : Nat), x + m2 = gw ∧ SL e [(0, .pointer (some ⟨p, 0, none⟩)), (4, .int .i64 gw), (6, .pointer (some ⟨b_tb, 0, none⟩)), (7, .int .i64 y), (10, .slice A_nr (x + 1) c_nr), (11, .int .i64 (rowS V (y * gw) x)), (29, .int .i64 gh), (30, .int .i64 y), (46, .slice A_l gw c_l), (47, .int .i64 gw), (48, .int .i64 x)] ∧
      St No W w [.row 2 1 A_nr (x + 1) c_nr (cellsQ (x + 1) (psum V gw (y + 1))), .row 2 1 A_l gw c_l (cellsQ gw fun x => V.getD (y * gw + x) 0), .rfam 2 (y + 1) As cs (gw + 1) (fun y => cellsQ (gw + 1) (psum V gw y)), .blk b_tb 87 [.int .i64 gw, .int .i64 gh, .slice A_out (y + 1) c_out], .row 22 1 A_out (y + 1) c_out (slV (y + 1) As (gw + 1) cs)]) gw
      ⟨0, A_nr, gw + 1, by omega, ⟨rfl, rfl, rfl, rfl, rfl, rfl, rfl, rfl, rfl, rfl, rfl, trivial⟩, S⟩ ?_
    clear S hn1 hn2
    rintro m2 e2_ w2 ⟨x, A_nr, c_nr, hxm, hsl2, S⟩
    rw [hsl2.fold]
    by_cases hx : x < gw
    · have hgl := cellsQ_get (o := fun x => V.getD (y * gw + x) 0) hx
      have hgr := cellsQ_get (o := psum V gw y) (show x + 1 < gw + 1 by omega)
      have ex : (x : Int) + 1 = ((x + 1 : Nat) : Int) := by push_cast; rfl
      have hb1 := rowS_bnd hB (y * gw) x
      have hb2 := psum_bnd hB gw (x := x + 1) (by omega) y
      have hb3 := hB (y * gw + x)
      have hval2 : rowS V (y * gw) x + V.getD (y * gw + x) 0 + psum V gw y (x + 1) = psum V gw (y + 1) (x + 1) := rfl
      have hrs : rowS V (y * gw) x + V.getD (y * gw + x) 0 = rowS V (y * gw) (x + 1) := rfl
      generalize psum V gw y (x + 1) = pv at *
      generalize rowS V (y * gw) x = rv at *
      generalize V.getD (y * gw + x) 0 = vv at *
      repeat refine cw_seq ?_
      refine cw_region ?_
      refine rw_v (op_b (b := true) rfl (decide_eq_true (by omega))) ?_
      first | refine rw_end ?_ | (refine rw_nil ?_; show CW _ _ _ _ _ _) | refine rw_nil ?_
      repeat refine cw_seq ?_
      refine cw_true rfl ?_
      repeat refine cw_seq ?_
      refine cw_skip ?_
      try show CW _ _ _ _ _ _
      repeat refine cw_seq ?_
      refine cw_block ?_
      repeat refine cw_seq ?_
      refine cw_region ?_
      refine rw_v (op_pure rfl) ?_
      refine rw_v (op_idx Tryz.underlying22 Tryz.sizeOf2 rfl rfl sa_l (by omega) (by omega)) ?_
      refine rw_r (op_ldR Tryz.underlying2 rfl rfl (S.rd (i := 1) rfl) hgl) ?_
      iterate 2 refine rw_v (op_pure rfl) ?_
      first | refine rw_end ?_ | (refine rw_nil ?_; show CW _ _ _ _ _ _) | refine rw_nil ?_
      repeat refine cw_seq ?_
      refine cw_region ?_
      iterate 2 refine rw_v (op_pure rfl) ?_
      refine rw_v (op_rng rfl (by omega)) ?_
      refine rw_v (op_pure rfl) ?_
      first | refine rw_end ?_ | (refine rw_nil ?_; show CW _ _ _ _ _ _) | refine rw_nil ?_
      repeat refine cw_seq ?_
      refine cw_region ?_
      iterate 4 refine rw_v (op_pure rfl) ?_
      refine rw_v (op_fieldAddr Tryz.underlying87 rfl Tryz.sizeOf85 rfl rfl) ?_
      refine rw_r (op_loadB Tryz.underlying85 rfl rfl (S.blk (i := 3) rfl) rfl) ?_
      refine rw_v (op_pure rfl) ?_
      refine rw_v (op_idx Tryz.underlying85 Tryz.sizeOf22 rfl rfl sa_out (by omega) (by omega)) ?_
      refine rw_r (op_ldR Tryz.underlying22 rfl rfl (S.rd (i := 4) rfl) hgo) ?_
      refine rw_v (op_pure rfl) ?_
      refine rw_v (op_rng rfl (by omega)) ?_
      rw [ex]
      refine rw_v (op_idx Tryz.underlying22 Tryz.sizeOf2 rfl rfl sa_ry (by omega) (by omega)) ?_
      refine rw_r (op_ldR Tryz.underlying2 rfl rfl ((S.rrd (i := 2) rfl hyk)) hgr) ?_
      refine rw_v (op_rng rfl (by omega)) ?_
      refine rw_buildS Tryz.underlying22 Tryz.sizeOf2 Tryz.zeroValue2 rfl rfl rfl rfl rfl rfl S ?_
      intro A_lit w12_ g12_ S sa_lit
      refine rw_appS (i := 1) S rfl (fun h => rfl) Tryz.underlying22 info_t2 rfl rfl rfl rfl (by simp) (by omega) (S.rd (i := 0) rfl) rfl (by omega) ?_
      intro A_nr2 c_nr2 w13_ S sa_nr
      refine rw_v (op_pure rfl) ?_
      first | refine rw_end ?_ | (refine rw_nil ?_; show CW _ _ _ _ _ _) | refine rw_nil ?_
      repeat refine cw_seq ?_
      refine cw_region ?_
      refine rw_v (op_rng rfl (by omega)) ?_
      refine rw_v (op_pure rfl) ?_
      first | refine rw_end ?_ | (refine rw_nil ?_; show CW _ _ _ _ _ _) | refine rw_nil ?_
      have S := S.drop 1
      rw [cellsQ_push hval2] at S
      exact ⟨m2 - 1, by omega, x + 1, A_nr2, c_nr2, by omega, ⟨rfl, rfl, rfl, rfl, rfl, ie hrs, rfl, rfl, rfl, rfl, ie (by omega), trivial⟩, S⟩
    · obtain rfl : x = gw := by omega
      repeat refine cw_seq ?_
      refine cw_region ?_
      refine rw_v (op_b (b := false) rfl (decide_eq_false (by omega))) ?_
      first | refine rw_end ?_ | (refine rw_nil ?_; show CW _ _ _ _ _ _) | refine rw_nil ?_
      repeat refine cw_seq ?_
      refine cw_false rfl ?_
      repeat refine cw_seq ?_
      refine cw_exit ?_
      repeat first | refine exit_then ?_ | refine exit_inb ?_
      show CW _ _ _ _ _ _
      repeat refine cw_seq ?_
      refine cw_region ?_
      iterate 3 refine rw_v (op_pure rfl) ?_
      refine rw_v (op_fieldAddr Tryz.underlying87 rfl Tryz.sizeOf85 rfl rfl) ?_
      refine rw_r (op_loadB Tryz.underlying85 rfl rfl (S.blk (i := 3) rfl) rfl) ?_
      refine rw_v (op_pure rfl) ?_
      refine rw_buildS Tryz.underlying85 Tryz.sizeOf22 Tryz.zeroValue22 rfl rfl rfl rfl rfl rfl S ?_
      intro A_lit w15_ g15_ S sa_lit
      refine rw_appS (i := 5) S rfl (fun h => rfl) Tryz.underlying85 info_t22 rfl rfl rfl rfl (by simp) (by omega) (S.rd (i := 0) rfl) rfl (by omega) ?_
      intro A_out2 c_out2 w16_ S sa_out
      refine rw_v (op_pure rfl) ?_
      refine rw_v (op_fieldAddr Tryz.underlying87 rfl Tryz.sizeOf85 rfl rfl) ?_
      refine rw_storeS (i := 4) S rfl (Tryz.sizeOf85 _) rfl rfl rfl rfl rfl rfl ?_
      intro w17_ S
      first | refine rw_end ?_ | (refine rw_nil ?_; show CW _ _ _ _ _ _) | refine rw_nil ?_
      repeat refine cw_seq ?_
      refine cw_region ?_
      refine rw_v (op_rng rfl (by omega)) ?_
      refine rw_v (op_pure rfl) ?_
      first | refine rw_end ?_ | (refine rw_nil ?_; show CW _ _ _ _ _ _) | refine rw_nil ?_
      have S := S.sub (.cons _ (.cons_cons _ (.cons _ (.cons_cons _ (.cons_cons _ (.cons_cons _ (.slnil)))))))
      have S := S.rfamPush rfl
      rw [slV_push] at S
      exact ⟨m - 1, by omega, y + 1, _, _, A_out2, c_out2, by omega, ⟨rfl, rfl, rfl, rfl, ie (by omega), trivial⟩, S⟩
  · obtain rfl : y = gh := by omega
    repeat refine cw_seq ?_
    refine cw_region ?_
    refine rw_v (op_b (b := false) rfl (decide_eq_false (by omega))) ?_
    first | refine rw_end ?_ | (refine rw_nil ?_; show CW _ _ _ _ _ _) | refine rw_nil ?_
    repeat refine cw_seq ?_
    refine cw_false rfl ?_
    repeat refine cw_seq ?_
    refine cw_exit ?_
    repeat first | refine exit_then ?_ | refine exit_inb ?_
    show CW _ _ _ _ _ _
    repeat refine cw_seq ?_
    refine cw_region ?_
    iterate 3 refine rw_v (op_pure rfl) ?_
    first | refine rw_end ?_ | (refine rw_nil ?_; show CW _ _ _ _ _ _) | refine rw_nil ?_
    repeat refine cw_seq ?_
    refine cw_ret ?_
    repeat first | refine ret_then ?_ | refine ret_inb ?_
    exact res2 rfl rfl ⟨_, rfl, ⟨_, _, _, _, S.blk (i := 1) rfl, S.row (i := 2) rfl, fun y hy => S.rrow (i := 0) rfl hy⟩, S.out⟩
end
end Go.Proofs.YtbcgbcipigcbhaaGreat
/- Cells by their places: the neighbours that the document lists are those of the program, in the same order. -/
namespace Go.Proofs.YtbcgbcipigcbhaaGreat
open Go.RowKit
set_option linter.unusedVariables false
set_option linter.unusedSimpArgs false
set_option maxRecDepth 100000

/-! ### '==' and '!=' between cells -/
theorem guard_agg {P : Program} {w : World} {op : BinOp} {t : TypeId} {x y : Operand} {a b : Array Value} (h : P.eqGuardType P.depth t = false) : (eqGuard op t x y (.agg a) (.agg b)).run P w = .ok () w := by
  unfold eqGuard
  cases op <;> simp [h]
theorem eqCell_run (a b c d : Int) (w : World) : (binOp .eql 50 (.agg #[.int .i64 a, .int .i64 b]) (.agg #[.int .i64 c, .int .i64 d])).run Tryz.prog w = .ok (.bool (decide (a = c ∧ b = d))) w := by
  have u3 := Tryz.underlying2
  have a3 := Tryz.isAgg2
  have z3 := Tryz.sizeOf2
  have hS : Tryz.prog.underlying 50 = some (.struct (Tryz.prog.fieldsOf 50)) := by kernel_rfl
  have hp : Tryz.prog.stoodInHeld 50 = false := by kernel_rfl
  rw [run_eql_struct, show (10000 : Nat) = 9999 + 1 from rfl, run_equalIn_agg w 9999 50 _ _ hS hp]
  simp only [Program.fieldsOf, Tryz.underlying50]
  go_simp
  by_cases h1 : a = c <;> by_cases h2 : b = d <;> simp [h1, h2]
theorem neCell_run (a b c d : Int) (w : World) : (binOp .neq 50 (.agg #[.int .i64 a, .int .i64 b]) (.agg #[.int .i64 c, .int .i64 d])).run Tryz.prog w = .ok (.bool (!decide (a = c ∧ b = d))) w := by
  have u3 := Tryz.underlying2
  have a3 := Tryz.isAgg2
  have z3 := Tryz.sizeOf2
  have hS : Tryz.prog.underlying 50 = some (.struct (Tryz.prog.fieldsOf 50)) := by kernel_rfl
  have hp : Tryz.prog.stoodInHeld 50 = false := by kernel_rfl
  rw [run_neq_struct, show (10000 : Nat) = 9999 + 1 from rfl, run_equalIn_agg w 9999 50 _ _ hS hp]
  simp only [Program.fieldsOf, Tryz.underlying50]
  go_simp
  by_cases h1 : a = c <;> by_cases h2 : b = d <;> simp [h1, h2]
section
variable {e : Nat → Value} {dd : Option Tmp} {ty : TypeId} {ps : String} {af : Array Edge} {t' : TypeId} {x y : Operand} {a b c d : Int}
theorem op_eqCell {r : Bool} (hx : ev e x = .agg #[.int .i64 a, .int .i64 b]) (hy : ev e y = .agg #[.int .i64 c, .int .i64 d]) (hr : decide (a = c ∧ b = d) = r) : OpV Tryz.prog e ⟨dd, .binOp .eql 50 x y t', ty, ps, af, none⟩ (.bool r) := by
  intro w
  subst hr
  have hg : ∀ w, (eqGuard .eql 50 x y (.agg #[.int .i64 a, .int .i64 b]) (.agg #[.int .i64 c, .int .i64 d])).run Tryz.prog w = .ok () w := fun w => guard_agg (by kernel_rfl)
  simp [OpR, execOp, hx, hy, hg, eqCell_run]
theorem op_neCell {r : Bool} (hx : ev e x = .agg #[.int .i64 a, .int .i64 b]) (hy : ev e y = .agg #[.int .i64 c, .int .i64 d]) (hr : (!decide (a = c ∧ b = d)) = r) : OpV Tryz.prog e ⟨dd, .binOp .neq 50 x y t', ty, ps, af, none⟩ (.bool r) := by
  intro w
  subst hr
  have hg : ∀ w, (eqGuard .neq 50 x y (.agg #[.int .i64 a, .int .i64 b]) (.agg #[.int .i64 c, .int .i64 d])).run Tryz.prog w = .ok () w := fun w => guard_agg (by kernel_rfl)
  simp [OpR, execOp, hx, hy, hg, neCell_run]
end

/-! ### Cells by their places -/
def cz (gw j : Nat) : Int × Int := (((j % gw : Nat) : Int), ((j / gw : Nat) : Int))
theorem cz_in {gw gh i : Nat} (hgw : 0 < gw) (hi : i < gw * gh) : inG gw gh (cz gw i) = true := by
  have h1 := Nat.mod_lt i hgw
  have h2 : i / gw < gh := Nat.div_lt_of_lt_mul hi
  refine inG_iff.2 ?_
  unfold cz
  dsimp only
  generalize i % gw = x at *
  generalize i / gw = y at *
  omega
theorem cz_idx {gw i : Nat} : (cz gw i).2.toNat * gw + (cz gw i).1.toNat = i := by
  unfold cz
  simp only [Int.toNat_natCast]
  rw [Nat.mul_comm]
  exact Nat.div_add_mod i gw
theorem cz_of {gw X Y : Nat} (hX : X < gw) : cz gw (Y * gw + X) = ((X : Int), (Y : Int)) := by
  have h := cell_split (Y := Y) hX
  unfold cz
  rw [h.1, h.2]
theorem cz_inj {gw i j : Nat} (h : cz gw i = cz gw j) : i = j := by
  rw [← cz_idx (gw := gw) (i := i), h, cz_idx]
theorem filter4 {α : Type} (p : α → Bool) (a b c d : α) : [a, b, c, d].filter p = (if p a then [a] else []) ++ (if p b then [b] else []) ++ (if p c then [c] else []) ++ (if p d then [d] else []) := by
  simp only [List.filter_cons, List.filter_nil]
  cases p a <;> cases p b <;> cases p c <;> cases p d <;> rfl
theorem nearZ_eq {gw gh i : Nat} (hgw : 0 < gw) (hi : i < gw * gh) : nearZ gw gh (i % gw : Nat) (i / gw : Nat) = (nearN gw (gw * gh) i).map (cz gw) := by
  have hX := Nat.mod_lt i hgw
  have hY : i / gw < gh := Nat.div_lt_of_lt_mul hi
  have hd : i / gw * gw + i % gw = i := by rw [Nat.mul_comm]; exact Nat.div_add_mod i gw
  unfold nearZ near4
  rw [filter4]
  unfold nearN
  generalize i % gw = X at *
  generalize i / gw = Y at *
  have up1 : gw ≤ i ↔ 1 ≤ Y := by
    constructor
    · intro h; rcases Nat.eq_zero_or_pos Y with e | e
      · subst e; omega
      · exact e
    · intro h; have := Nat.mul_le_mul_right gw h; omega
  have dn1 : i + gw < gw * gh ↔ Y + 1 < gh := by
    constructor
    · intro h
      rcases Nat.lt_or_ge (Y + 1) gh with e | e
      · exact e
      · have := Nat.mul_le_mul_left gw e
        rw [Nat.mul_add, Nat.mul_one, Nat.mul_comm gw Y] at this
        omega
    · intro h
      have h2 : Y + 2 ≤ gh := h
      have := Nat.mul_le_mul_left gw h2
      rw [Nat.mul_add, Nat.mul_comm gw Y] at this
      omega
  have e1 : inG gw gh ((X : Int), (Y : Int) - 1) = decide (gw ≤ i) := by
    rw [Bool.eq_iff_iff, inG_iff, decide_eq_true_eq, up1]; dsimp only; omega
  have e2 : inG gw gh ((X : Int) - 1, (Y : Int)) = decide (0 < X) := by
    rw [Bool.eq_iff_iff, inG_iff, decide_eq_true_eq]; dsimp only; omega
  have e3 : inG gw gh ((X : Int) + 1, (Y : Int)) = decide (X + 1 < gw) := by
    rw [Bool.eq_iff_iff, inG_iff, decide_eq_true_eq]; dsimp only; omega
  have e4 : inG gw gh ((X : Int), (Y : Int) + 1) = decide (i + gw < gw * gh) := by
    rw [Bool.eq_iff_iff, inG_iff, decide_eq_true_eq, dn1]; dsimp only; omega
  rw [e1, e2, e3, e4]
  simp only [List.map_append, decide_eq_true_eq]
  have p1 : (if gw ≤ i then [((X : Int), (Y : Int) - 1)] else []) = List.map (cz gw) (if gw ≤ i then [i - gw] else []) := by
    by_cases h : gw ≤ i
    · rw [if_pos h, if_pos h]
      have h1 := up1.1 h
      have h2 : i - gw = (Y - 1) * gw + X := by rw [Nat.sub_mul, Nat.one_mul]; have := Nat.mul_le_mul_right gw h1; omega
      rw [h2, List.map_singleton, cz_of hX]
      congr 2; omega
    · rw [if_neg h, if_neg h]; rfl
  have p2 : (if 0 < X then [((X : Int) - 1, (Y : Int))] else []) = List.map (cz gw) (if 0 < X then [i - 1] else []) := by
    by_cases h : 0 < X
    · rw [if_pos h, if_pos h, show i - 1 = Y * gw + (X - 1) by omega, List.map_singleton, cz_of (by omega)]
      congr 2; omega
    · rw [if_neg h, if_neg h]; rfl
  have p3 : (if X + 1 < gw then [((X : Int) + 1, (Y : Int))] else []) = List.map (cz gw) (if X + 1 < gw then [i + 1] else []) := by
    by_cases h : X + 1 < gw
    · rw [if_pos h, if_pos h, show i + 1 = Y * gw + (X + 1) by omega, List.map_singleton, cz_of h]
      congr 2
    · rw [if_neg h, if_neg h]; rfl
  have p4 : (if i + gw < gw * gh then [((X : Int), (Y : Int) + 1)] else []) = List.map (cz gw) (if i + gw < gw * gh then [i + gw] else []) := by
    by_cases h : i + gw < gw * gh
    · rw [if_pos h, if_pos h, show i + gw = (Y + 1) * gw + X by rw [Nat.add_mul, Nat.one_mul]; omega, List.map_singleton, cz_of hX]
      congr 2
    · rw [if_neg h, if_neg h]; rfl
  rw [p1, p2, p3, p4]
end Go.Proofs.YtbcgbcipigcbhaaGreat
/- area.Table.Sum, Mean; rect.Around; smooth.each, made, Mean: contracts. -/
namespace Go.Proofs.YtbcgbcipigcbhaaGreat
open Go.RowKit
set_option linter.unusedVariables false
set_option linter.unusedSimpArgs false
set_option maxRecDepth 100000

section
variable {P : Program} {e : Nat → Value} {d : Option Tmp} {ty : TypeId} {ps : String} {af : Array Edge}
theorem op_remT {t t' : TypeId} {x y : Operand} {a b : Int} (hx : ev e x = .int .i64 a) (hy : ev e y = .int .i64 b) (hb : 0 < b) : OpV P e ⟨d, .binOp .rem t x y t', ty, ps, af, none⟩ (.int .i64 (a.tmod b)) := by
  intro w
  have h4 : b ≠ 0 := by omega
  simp [OpR, execOp, hx, hy, eqGuard, binOp, Op.intDiv, h4]
theorem op_quoT {t t' : TypeId} {x y : Operand} {a b c : Int} (hx : ev e x = .int .i64 a) (hy : ev e y = .int .i64 b) (hb : 0 < b) (hc : a.tdiv b = c) (hr : -9223372036854775808 ≤ c ∧ c ≤ 9223372036854775807) : OpV P e ⟨d, .binOp .quo t x y t', ty, ps, af, none⟩ (.int .i64 c) := by
  intro w
  have h4 : b ≠ 0 := by omega
  have h5 : IntKind.i64.wrap c = c := IntWalk.i64_in _ hr
  simp [OpR, execOp, hx, hy, eqGuard, binOp, Op.intDiv, h4, hc, h5]
end
/-- a sum over a rectangle, by the table -/
def rsum (V : List Int) (gw x0 y0 x1 y1 : Nat) : Int := psum V gw (y1 + 1) (x1 + 1) - psum V gw (y1 + 1) x0 - psum V gw y0 (x1 + 1) + psum V gw y0 x0
theorem floor_go {s n : Int} (hn : 0 < n) : -n < s.tmod n ∧ s.tmod n < n ∧ (s.tmod n + n).tmod n = s % n ∧ (s - s % n).tdiv n = s / n := by
  have h1 : -n < s.tmod n ∧ s.tmod n < n := by
    have := Int.tmod_lt_of_pos s hn
    have h2 : -n < s.tmod n := by
      have := Int.lt_tmod_of_pos s hn
      omega
    exact ⟨h2, this⟩
  refine ⟨h1.1, h1.2, ?_, ?_⟩
  · rw [Int.tmod_eq_emod_of_nonneg (by omega), Int.add_emod_right]
    have := Int.mul_tdiv_add_tmod s n
    have h3 : s.tmod n = s - n * s.tdiv n := by omega
    rw [h3, Int.sub_mul_emod_self_left]
  · have h3 := Int.mul_ediv_add_emod s n
    have h4 : s - s % n = s / n * n := by rw [Int.mul_comm]; omega
    rw [h4, Int.mul_tdiv_cancel _ (by omega)]
section
variable {W : World} {tb gw gh : Nat} {V : List Int}
theorem acheck_E (x0 y0 x1 y1 : Nat) (hw : 1 ≤ gw ∧ gw ≤ 1024) (hh : 1 ≤ gh ∧ gh ≤ 1024) (hx : x0 ≤ x1 ∧ x1 < gw) (hy : y0 ≤ y1 ∧ y1 < gh) (hA : AreaAt W tb gw gh V) :
    Fn Tryz.prog 70 [.pointer (some ⟨tb, 0, none⟩), .agg #[.int .i64 x0, .int .i64 y0, .int .i64 x1, .int .i64 y1]] W (RetG (.int .i64 0) W) := by
  obtain ⟨Ao, co, As, cs, hT, hO, hF⟩ := hA
  have hwi : within x0 y0 x1 y1 gw gh = 0 := within_fine (by omega) (by omega) (by omega) (by omega)
  have S := St.start W
  refine Fn_enter Tryz.func70 rfl Tryz.results70 Tryz.ntmps70 (by kernel_rfl) (by kernel_rfl) ?_
  repeat refine cw_seq ?_
  refine cw_region ?_
  refine rw_newB (op_box rfl) S ?_
  intro b_r w2_ g2_ S
  refine rw_v (op_pure rfl) ?_
  first | refine rw_end ?_ | (refine rw_nil ?_; show CW _ _ _ _ _ _) | refine rw_nil ?_
  repeat refine cw_seq ?_
  refine cw_region ?_
  refine rw_v (op_pure rfl) ?_
  refine rw_v (op_nilp Tryz.underlying51 rfl rfl) ?_
  first | refine rw_end ?_ | (refine rw_nil ?_; show CW _ _ _ _ _ _) | refine rw_nil ?_
  repeat refine cw_seq ?_
  refine cw_false rfl ?_
  repeat refine cw_seq ?_
  refine cw_skip ?_
  try show CW _ _ _ _ _ _
  repeat refine cw_seq ?_
  refine cw_draw (C := fun wq => Gr w2_ wq) [0, 1, 2, 3, 4, 5, 6, 7, 8, 9, 10] [] (by kernel_rfl) (by kernel_rfl) (Gr.drew _) ?_
  simp only [pickL, List.drop_succ_cons, List.drop_zero]
  refine rq_r (fun wq hq => op_loadAB Tryz.underlying38 rfl (Tryz.sizeOf38 _) rfl ((S.gr hq).blk (i := 0) rfl) rfl rfl) ?_
  iterate 2 refine rq_v (op_pure rfl) ?_
  refine rq_v (op_fieldAddr Tryz.underlying87 rfl Tryz.sizeOf2 rfl rfl) ?_
  refine rq_r (fun wq hq => op_loadB Tryz.underlying2 rfl rfl (hT.gr (S.gr hq).out) rfl) ?_
  iterate 2 refine rq_v (op_pure rfl) ?_
  refine rq_v (op_fieldAddr Tryz.underlying87 rfl Tryz.sizeOf2 rfl rfl) ?_
  refine rq_r (fun wq hq => op_loadB Tryz.underlying2 rfl rfl (hT.gr (S.gr hq).out) rfl) ?_
  refine rq_call rfl (fun wq hq => (within_E _ _ _ _ _ _ (by omega) (by omega) wq).mono (fun _ _ ⟨hv, hg⟩ => ⟨hv, hq.trans hg⟩)) ?_
  refine rq_v (op_pure rfl) ?_
  refine rq_nil ?_
  intro w3_ g3_
  have S := S.gr g3_
  first | refine rw_end ?_ | (refine rw_nil ?_; show CW _ _ _ _ _ _) | refine rw_nil ?_
  repeat refine cw_seq ?_
  refine cw_ret ?_
  repeat first | refine ret_then ?_ | refine ret_inb ?_
  exact res1 rfl ⟨by rw [hwi], S.out⟩
set_option maxHeartbeats 2000000 in
theorem asum_E (x0 y0 x1 y1 : Nat) (hB : vB V) (hw : 1 ≤ gw ∧ gw ≤ 1024) (hh : 1 ≤ gh ∧ gh ≤ 1024) (hx : x0 ≤ x1 ∧ x1 < gw) (hy : y0 ≤ y1 ∧ y1 < gh) (hA : AreaAt W tb gw gh V) :
    Fn Tryz.prog 48 [.pointer (some ⟨tb, 0, none⟩), .agg #[.int .i64 x0, .int .i64 y0, .int .i64 x1, .int .i64 y1]] W (RetG (.tuple #[.int .i64 (rsum V gw x0 y0 x1 y1), .int .i64 0]) W) := by
  have hA' := hA
  obtain ⟨Ao, co, As, cs, hT, hO, hF⟩ := hA'
  have hrt := (hF y0 (by omega)).rd
  have hrb := (hF (y1 + 1) (by omega)).rd
  have hO' := hO.rd
  have sa_O : SomeA Ao := hO.someA (by omega)
  have sa_rt : SomeA (As y0) := (hF y0 (by omega)).someA (by omega)
  have sa_rb : SomeA (As (y1 + 1)) := (hF (y1 + 1) (by omega)).someA (by omega)
  have g0 := slV_get (As := As) (n := gw + 1) (cs := cs) (show y0 < gh + 1 by omega)
  have g1 := slV_get (As := As) (n := gw + 1) (cs := cs) (show y1 + 1 < gh + 1 by omega)
  have ey : (y1 : Int) + 1 = ((y1 + 1 : Nat) : Int) := by push_cast; rfl
  have ex : (x1 : Int) + 1 = ((x1 + 1 : Nat) : Int) := by push_cast; rfl
  have b1 := cellsQ_get (o := psum V gw (y1 + 1)) (show x1 + 1 < gw + 1 by omega)
  have b2 := cellsQ_get (o := psum V gw (y1 + 1)) (show x0 < gw + 1 by omega)
  have b3 := cellsQ_get (o := psum V gw y0) (show x1 + 1 < gw + 1 by omega)
  have b4 := cellsQ_get (o := psum V gw y0) (show x0 < gw + 1 by omega)
  have h1 := psum_bnd hB gw (x := x1 + 1) (by omega) (y1 + 1)
  have h2 := psum_bnd hB gw (x := x0) (by omega) (y1 + 1)
  have h3 := psum_bnd hB gw (x := x1 + 1) (by omega) y0
  have h4 := psum_bnd hB gw (x := x0) (by omega) y0
  unfold rsum
  generalize psum V gw (y1 + 1) (x1 + 1) = p1 at *
  generalize psum V gw (y1 + 1) x0 = p2 at *
  generalize psum V gw y0 (x1 + 1) = p3 at *
  generalize psum V gw y0 x0 = p4 at *
  have S := St.start W
  refine Fn_enter Tryz.func48 rfl Tryz.results48 Tryz.ntmps48 (by kernel_rfl) (by kernel_rfl) ?_
  repeat refine cw_seq ?_
  refine cw_region ?_
  refine rw_newB (op_box rfl) S ?_
  intro b_r w2_ g2_ S
  iterate 2 refine rw_v (op_pure rfl) ?_
  first | refine rw_end ?_ | (refine rw_nil ?_; show CW _ _ _ _ _ _) | refine rw_nil ?_
  repeat refine cw_seq ?_
  refine cw_region ?_
  refine rw_v (op_pure rfl) ?_
  refine rw_r (op_loadAB Tryz.underlying38 rfl (Tryz.sizeOf38 _) rfl (S.blk (i := 0) rfl) rfl rfl) ?_
  refine rw_call rfl (acheck_E x0 y0 x1 y1 hw hh hx hy (hA.gr S.out)) ?_
  rintro _ w3_ ⟨rfl, g3_⟩
  have S := S.gr g3_
  refine rw_v (op_pure rfl) ?_
  first | refine rw_end ?_ | (refine rw_nil ?_; show CW _ _ _ _ _ _) | refine rw_nil ?_
  repeat refine cw_seq ?_
  refine cw_region ?_
  refine rw_v (op_pure rfl) ?_
  refine rw_v (op_b (b := false) rfl (bne_eq_false_iff_eq.2 (by omega))) ?_
  first | refine rw_end ?_ | (refine rw_nil ?_; show CW _ _ _ _ _ _) | refine rw_nil ?_
  repeat refine cw_seq ?_
  refine cw_false rfl ?_
  repeat refine cw_seq ?_
  refine cw_skip ?_
  try show CW _ _ _ _ _ _
  repeat refine cw_seq ?_
  refine cw_draw (C := fun wq => Gr w3_ wq) [0, 1, 2, 3, 4, 5, 6, 7, 8, 9, 10, 11, 12, 13, 14, 15, 16, 17, 18] [] (by kernel_rfl) (by kernel_rfl) (Gr.drew _) ?_
  simp only [pickL, List.drop_succ_cons, List.drop_zero]
  iterate 2 refine rq_v (op_pure rfl) ?_
  refine rq_v (op_fieldAddr Tryz.underlying87 rfl Tryz.sizeOf85 rfl rfl) ?_
  refine rq_r (fun wq hq => op_loadB Tryz.underlying85 rfl rfl (hT.gr (S.gr hq).out) rfl) ?_
  refine rq_v (op_fieldAddr Tryz.underlying38 rfl Tryz.sizeOf2 rfl rfl) ?_
  refine rq_r (fun wq hq => op_loadB Tryz.underlying2 rfl rfl ((S.gr hq).blk (i := 0) rfl) rfl) ?_
  refine rq_v (op_idx Tryz.underlying85 Tryz.sizeOf22 rfl rfl sa_O (by omega) (by omega)) ?_
  refine rq_r (fun wq hq => op_ldR Tryz.underlying22 rfl rfl (hO'.gr (S.gr hq).out) g0) ?_
  iterate 2 refine rq_v (op_pure rfl) ?_
  refine rq_v (op_fieldAddr Tryz.underlying87 rfl Tryz.sizeOf85 rfl rfl) ?_
  refine rq_r (fun wq hq => op_loadB Tryz.underlying85 rfl rfl (hT.gr (S.gr hq).out) rfl) ?_
  refine rq_v (op_fieldAddr Tryz.underlying38 rfl Tryz.sizeOf2 rfl rfl) ?_
  refine rq_r (fun wq hq => op_loadB Tryz.underlying2 rfl rfl ((S.gr hq).blk (i := 0) rfl) rfl) ?_
  refine rq_v (op_rng rfl (by omega)) ?_
  rw [ey]
  refine rq_v (op_idx Tryz.underlying85 Tryz.sizeOf22 rfl rfl sa_O (by omega) (by omega)) ?_
  refine rq_r (fun wq hq => op_ldR Tryz.underlying22 rfl rfl (hO'.gr (S.gr hq).out) g1) ?_
  iterate 2 refine rq_v (op_pure rfl) ?_
  refine rq_nil ?_
  intro w4_ g4_
  have S := S.gr g4_
  first | refine rw_end ?_ | (refine rw_nil ?_; show CW _ _ _ _ _ _) | refine rw_nil ?_
  repeat refine cw_seq ?_
  refine cw_draw (C := fun wq => Gr w4_ wq) [0, 1, 2, 3, 4, 5, 6, 7, 8, 9, 10, 11, 12, 13, 14, 15, 16, 17, 18, 19, 20, 21, 22, 23, 24, 25, 26] [] (by kernel_rfl) (by kernel_rfl) (Gr.drew _) ?_
  simp only [pickL, List.drop_succ_cons, List.drop_zero]
  refine rq_v (op_pure rfl) ?_
  refine rq_v (op_fieldAddr Tryz.underlying38 rfl Tryz.sizeOf2 rfl rfl) ?_
  refine rq_r (fun wq hq => op_loadB Tryz.underlying2 rfl rfl ((S.gr hq).blk (i := 0) rfl) rfl) ?_
  refine rq_v (op_rng rfl (by omega)) ?_
  rw [ex]
  refine rq_v (op_idx Tryz.underlying22 Tryz.sizeOf2 rfl rfl sa_rb (by omega) (by omega)) ?_
  refine rq_r (fun wq hq => op_ldR Tryz.underlying2 rfl rfl (hrb.gr (S.gr hq).out) b1) ?_
  refine rq_v (op_pure rfl) ?_
  refine rq_v (op_fieldAddr Tryz.underlying38 rfl Tryz.sizeOf2 rfl rfl) ?_
  refine rq_r (fun wq hq => op_loadB Tryz.underlying2 rfl rfl ((S.gr hq).blk (i := 0) rfl) rfl) ?_
  refine rq_v (op_idx Tryz.underlying22 Tryz.sizeOf2 rfl rfl sa_rb (by omega) (by omega)) ?_
  refine rq_r (fun wq hq => op_ldR Tryz.underlying2 rfl rfl (hrb.gr (S.gr hq).out) b2) ?_
  refine rq_v (op_rng rfl (by omega)) ?_
  refine rq_v (op_pure rfl) ?_
  refine rq_v (op_fieldAddr Tryz.underlying38 rfl Tryz.sizeOf2 rfl rfl) ?_
  refine rq_r (fun wq hq => op_loadB Tryz.underlying2 rfl rfl ((S.gr hq).blk (i := 0) rfl) rfl) ?_
  refine rq_v (op_rng rfl (by omega)) ?_
  rw [ex]
  refine rq_v (op_idx Tryz.underlying22 Tryz.sizeOf2 rfl rfl sa_rt (by omega) (by omega)) ?_
  refine rq_r (fun wq hq => op_ldR Tryz.underlying2 rfl rfl (hrt.gr (S.gr hq).out) b3) ?_
  refine rq_v (op_rng rfl (by omega)) ?_
  refine rq_v (op_pure rfl) ?_
  refine rq_v (op_fieldAddr Tryz.underlying38 rfl Tryz.sizeOf2 rfl rfl) ?_
  refine rq_r (fun wq hq => op_loadB Tryz.underlying2 rfl rfl ((S.gr hq).blk (i := 0) rfl) rfl) ?_
  refine rq_v (op_idx Tryz.underlying22 Tryz.sizeOf2 rfl rfl sa_rt (by omega) (by omega)) ?_
  refine rq_r (fun wq hq => op_ldR Tryz.underlying2 rfl rfl (hrt.gr (S.gr hq).out) b4) ?_
  refine rq_v (op_rng rfl (by omega)) ?_
  iterate 2 refine rq_v (op_pure rfl) ?_
  refine rq_nil ?_
  intro w5_ g5_
  have S := S.gr g5_
  first | refine rw_end ?_ | (refine rw_nil ?_; show CW _ _ _ _ _ _) | refine rw_nil ?_
  repeat refine cw_seq ?_
  refine cw_ret ?_
  repeat first | refine ret_then ?_ | refine ret_inb ?_
  exact res2 rfl rfl ⟨rfl, S.out⟩
theorem amean_E (x0 y0 x1 y1 : Nat) (hB : vB V) (hw : 1 ≤ gw ∧ gw ≤ 1024) (hh : 1 ≤ gh ∧ gh ≤ 1024) (hx : x0 ≤ x1 ∧ x1 < gw) (hy : y0 ≤ y1 ∧ y1 < gh) (hA : AreaAt W tb gw gh V) :
    Fn Tryz.prog 22 [.pointer (some ⟨tb, 0, none⟩), .agg #[.int .i64 x0, .int .i64 y0, .int .i64 x1, .int .i64 y1]] W (RetG (.tuple #[.int .i64 (rsum V gw x0 y0 x1 y1 / (((x1 + 1 - x0) * (y1 + 1 - y0) : Nat) : Int)), .int .i64 0]) W) := by
  have h1 := psum_bnd hB gw (x := x1 + 1) (by omega) (y1 + 1)
  have h2 := psum_bnd hB gw (x := x0) (by omega) (y1 + 1)
  have h3 := psum_bnd hB gw (x := x1 + 1) (by omega) y0
  have h4 := psum_bnd hB gw (x := x0) (by omega) y0
  have hsb : -9007199254740992 ≤ rsum V gw x0 y0 x1 y1 ∧ rsum V gw x0 y0 x1 y1 ≤ 9007199254740992 := by unfold rsum; omega
  have hs := fun w (g : Gr W w) => asum_E x0 y0 x1 y1 hB hw hh hx hy (hA.gr g)
  generalize rsum V gw x0 y0 x1 y1 = s at *
  obtain ⟨n, hn⟩ : ∃ n, n = (x1 + 1 - x0) * (y1 + 1 - y0) := ⟨_, rfl⟩
  have hn1 : 1 ≤ n := by rw [hn]; exact Nat.mul_pos (by omega) (by omega)
  have hn2 : n ≤ 1024 * 1024 := by rw [hn]; exact Nat.mul_le_mul (by omega) (by omega)
  have har : ((x1 : Int) - x0 + 1) * ((y1 : Int) - y0 + 1) = (n : Int) := by
    rw [hn, Int.natCast_mul]
    congr 1 <;> omega
  rw [← hn]
  obtain ⟨f1, f2, f3, f4⟩ := floor_go (s := s) (n := (n : Int)) (by omega)
  have hq := Int.mul_ediv_add_emod s n
  have hm0 := Int.emod_nonneg s (show (n : Int) ≠ 0 by omega)
  have hm1 := Int.emod_lt_of_pos s (show (0 : Int) < n by omega)
  have hqb : -9223372036854775808 ≤ s / (n : Int) ∧ s / (n : Int) ≤ 9223372036854775807 := by
    constructor
    · exact Int.le_trans (by omega) (Int.le_ediv_of_mul_le (a := -9007199254740992) (by omega) (by
        have : (-9007199254740992 : Int) * n ≤ -9007199254740992 := by omega
        omega))
    · have := Int.ediv_le_self (a := 9007199254740992) n (by omega)
      have h5 := Int.ediv_le_ediv (show (0 : Int) < n by omega) hsb.2
      omega
  have S := St.start W
  refine Fn_enter Tryz.func22 rfl Tryz.results22 Tryz.ntmps22 (by kernel_rfl) (by kernel_rfl) ?_
  repeat refine cw_seq ?_
  refine cw_region ?_
  refine rw_newB (op_box rfl) S ?_
  intro b_r w2_ g2_ S
  iterate 2 refine rw_v (op_pure rfl) ?_
  first | refine rw_end ?_ | (refine rw_nil ?_; show CW _ _ _ _ _ _) | refine rw_nil ?_
  repeat refine cw_seq ?_
  refine cw_region ?_
  refine rw_v (op_pure rfl) ?_
  refine rw_r (op_loadAB Tryz.underlying38 rfl (Tryz.sizeOf38 _) rfl (S.blk (i := 0) rfl) rfl rfl) ?_
  refine rw_call rfl (hs w2_ S.out) ?_
  rintro _ w3_ ⟨rfl, g3_⟩
  have S := S.gr g3_
  iterate 5 refine rw_v (op_pure rfl) ?_
  first | refine rw_end ?_ | (refine rw_nil ?_; show CW _ _ _ _ _ _) | refine rw_nil ?_
  repeat refine cw_seq ?_
  refine cw_region ?_
  refine rw_v (op_pure rfl) ?_
  refine rw_v (op_b (b := false) rfl (bne_eq_false_iff_eq.2 (by omega))) ?_
  first | refine rw_end ?_ | (refine rw_nil ?_; show CW _ _ _ _ _ _) | refine rw_nil ?_
  repeat refine cw_seq ?_
  refine cw_false rfl ?_
  repeat refine cw_seq ?_
  refine cw_skip ?_
  try show CW _ _ _ _ _ _
  repeat refine cw_seq ?_
  refine cw_region ?_
  refine rw_r (op_loadAB Tryz.underlying38 rfl (Tryz.sizeOf38 _) rfl (S.blk (i := 0) rfl) rfl rfl) ?_
  refine rw_call rfl (area_E _ _ _ _ (by omega) w3_) ?_
  rintro _ w4_ ⟨rfl, g4_⟩
  have S := S.gr g4_
  rw [har]
  refine rw_v (op_pure rfl) ?_
  first | refine rw_end ?_ | (refine rw_nil ?_; show CW _ _ _ _ _ _) | refine rw_nil ?_
  repeat refine cw_seq ?_
  refine cw_region ?_
  iterate 2 refine rw_v (op_pure rfl) ?_
  refine rw_v (op_remT rfl rfl (by omega)) ?_
  refine rw_v (op_pure rfl) ?_
  refine rw_v (op_rng rfl (by omega)) ?_
  refine rw_v (op_pure rfl) ?_
  refine rw_v (op_remT rfl rfl (by omega)) ?_
  rw [f3]
  refine rw_v (op_pure rfl) ?_
  first | refine rw_end ?_ | (refine rw_nil ?_; show CW _ _ _ _ _ _) | refine rw_nil ?_
  repeat refine cw_seq ?_
  refine cw_region ?_
  iterate 2 refine rw_v (op_pure rfl) ?_
  refine rw_v (op_rng rfl (by omega)) ?_
  refine rw_v (op_pure rfl) ?_
  refine rw_v (op_quoT rfl rfl (by omega) f4 hqb) ?_
  iterate 2 refine rw_v (op_pure rfl) ?_
  first | refine rw_end ?_ | (refine rw_nil ?_; show CW _ _ _ _ _ _) | refine rw_nil ?_
  repeat refine cw_seq ?_
  refine cw_ret ?_
  repeat first | refine ret_then ?_ | refine ret_inb ?_
  exact res2 rfl rfl ⟨rfl, S.out⟩
end
end Go.Proofs.YtbcgbcipigcbhaaGreat
/- Regions that draw their order and append one element to a row: the parts of memory as the class. -/
namespace Go.Proofs.YtbcgbcipigcbhaaGreat
open Go.RowKit
set_option linter.unusedVariables false
set_option linter.unusedSimpArgs false

def CS (F : Nat → Prop) (W : World) (L : List HA) (i el k n : Nat) (xs ys : List Value) (wq : World) : List Value → Prop
  | [] => St F W wq L
  | [v] => ∃ A', v = .slice A' 1 1 ∧ St F W wq (.row el k A' 1 1 ys :: L)
  | [u, _] => ∃ A' c' L', u = .slice A' (n + 1) c' ∧ setO L i (.row el k A' (n + 1) c' (xs ++ ys)) = some L' ∧ St F W wq L'
  | _ => False
section
variable {F : Nat → Prop} {W : World} {L : List HA} {i el k n : Nat} {xs ys : List Value} {wq w' : World} {τ : List Value}
theorem CS.gr (h : CS F W L i el k n xs ys wq τ) (g : Gr wq w') : CS F W L i el k n xs ys w' τ := by
  match τ, h with
  | [], h => exact St.gr (show St F W wq L from h) g
  | [v], ⟨A', e, h⟩ => exact ⟨A', e, h.gr g⟩
  | [u, v], ⟨A', c', L', e, hs, h⟩ => exact ⟨A', c', L', e, hs, h.gr g⟩
theorem setO_other : ∀ (L L' : List HA) (i j : Nat) (h : HA), setO L i h = some L' → j ≠ i → getO L' j = getO L j := by
  intro L
  induction L with
  | nil => intro L' i j h hs _; cases i <;> simp [setO] at hs
  | cons a L ih =>
    intro L' i j h hs hj
    cases i with
    | zero =>
      simp only [setO, Option.some.injEq] at hs
      subst hs
      cases j with
      | zero => exact absurd rfl hj
      | succ j => rfl
    | succ i =>
      simp only [setO] at hs
      cases hM : setO L i h with
      | none => rw [hM] at hs; cases hs
      | some M =>
        rw [hM] at hs
        obtain rfl := Option.some.inj hs
        cases j with
        | zero => rfl
        | succ j => exact ih M i j h hM (fun e => hj (by omega))
theorem CS.ok (h : CS F W L i el k n xs ys wq τ) {j : Nat} (hj : j ≠ i) {x : HA} (hx : getO L j = some x) : x.ok wq := by
  match τ, h with
  | [], h => exact St.ok (show St F W wq L from h) hx
  | [v], ⟨A', e, h⟩ => exact h.ok (i := j + 1) hx
  | [u, v], ⟨A', c', L', e, hs, h⟩ => exact h.ok (i := j) ((setO_other _ _ _ _ _ hs hj).trans hx)
theorem CS.frw (h : CS F W L i el k n xs ys wq τ) : Fr F W wq := by
  match τ, h with
  | [], h => exact St.fr (show St F W wq L from h)
  | [v], ⟨A', e, h⟩ => exact h.fr
  | [u, v], ⟨A', c', L', e, hs, h⟩ => exact h.fr
end
section
variable {P : Program} {e : Nat → Value} {d : Option Tmp} {ty : TypeId} {ps : String} {af : Array Edge} {F : Nat → Prop} {W wq : World} {L : List HA}
theorem to_buildCS {t el : TypeId} {i k n : Nat} {parts : List (Nat × Operand)} {z : Value} {l0 l xs : List Value} (hq : CS F W L i el k n xs l wq []) (hu : P.underlying t = some (.slice el)) (hs : ∀ w, (sizeOf el).run P w = .ok k w) (hz : ∀ w, (zeroValue el).run P w = .ok z w) (hk : z.cells.toList.length = k) (hk0 : Nat.beq (1 * k) 0 = false) (hn : Nat.ble (1 * k) 16777216 = true)
    (h1 : lay (fun i => some (i * k, k)) ((List.replicate 1 z.cells.toList).flatten) (evp e parts) = some l0) (h2 : fzl l0 = some l) (hl : Nat.beq l.length (1 * k) = true) :
    opTo P e ⟨d, .buildSlice t 1 parts.toArray, ty, ps, af, none⟩ wq (fun v w' => CS F W L i el k n xs l w' [v]) := by
  refine to_w (op_buildSlice hu hs hz hk hk0 hn h1 h2) ?_
  have S : St F W wq L := hq
  refine ⟨_, rfl, S.push (Gr.alloc _ _) (h := .row el k (some ⟨wq.heap.size, 0, none⟩) 1 1 l) (Row.of_blk (Blk.new _ _ _) (Nat.eq_of_beq_eq_true hl) (by unfold maxLen; omega)) (fun g hg => ?_)⟩
  have : wq.heap.size = g := by injection hg
  omega
theorem to_appCS {i : Nat} {s x : Operand} {t el bytes k n c : Nat} {A : Option Addr} {z v : Value} {xs ys : List Value} (hq : CS F W L i el k n xs ys wq [v]) (hi : getO L i = some (.row el k A n c xs)) (hf : ∀ h, ∃ L', setO L i h = some L')
    (hu : P.underlying t = some (.slice el)) (hI : (P.info? el).map (fun i => (i.zero, i.size, i.bytes)) = some (some z, k, bytes)) (hz : Nat.beq z.cells.size k = true) (hk : Nat.blt 0 k = true)
    (hs : ev e s = .slice A n c) (hx : ev e x = v) (hm : ys.length = 1 * k) (h1 : (ys.all fun v => v.oneCell') = true) (hb : (n + 1) * (bytes + 1) ≤ 140737488355328) :
    opTo P e ⟨d, .call ⟨.builtin .append, #[s, x], #[t, t]⟩, ty, ps, af, none⟩ wq (fun u w' => CS F W L i el k n xs ys w' [u, v]) := by
  obtain ⟨A6, rfl, S6⟩ := hq
  have hR : Rd wq A6 ys := (S6.row (i := 0) rfl).rd
  have S : St F W wq L := S6.drop 1
  obtain ⟨inf, hinf, hz0, hz1, hz2⟩ := info_parts hI
  have hk0 : 0 < k := Nat.le_of_ble_eq_true hk
  have hz' := Nat.eq_of_beq_eq_true hz
  have hb1 : (n + 1) * bytes ≤ 140737488355328 := Nat.le_trans (Nat.mul_le_mul_left _ (by omega)) hb
  have hb2 : n + 1 ≤ 140737488355328 := Nat.le_trans (Nat.le_mul_of_pos_right _ (by omega)) hb
  have hRow := S.row hi
  have hpos : 0 < ys.length := by omega
  obtain ⟨b, o, rfl⟩ := hR.someA hpos
  obtain ⟨v', w', hrun, ho, hg, _, hob⟩ := run_append_own_at (P := P) wq 0 t ty el inf z k bytes hu hinf hz0 hz1 hz2 hz' hk0 (.slice A n c) n xs hRow ⟨b, o, none⟩ 1 1 ys hm
    (fun j u hu => by rw [addr_add]; exact hR.cell rfl hu) (fun u hu => List.all_eq_true.1 h1 u hu) (by unfold maxLen; omega) hb1 (by omega)
  obtain ⟨A', c', rfl⟩ := Own.form ho
  have hRow' : Row w' el k A' (n + 1) c' (xs ++ ys) := ho
  obtain ⟨L', hL'⟩ := hf (.row el k A' (n + 1) c' (xs ++ ys))
  refine to_w (v := .slice A' (n + 1) c') (w' := w') ?_ ⟨A', c', L', rfl, hL', ?_⟩
  · simp [execOp, resolve, invoke, builtin, hs, hx, hrun]
  · refine S.set hi hL' (Fr.of_grown (F := fun g => ownA A g) hg (fun g e => ?_)) (fun g e => .inl e) hRow' (fun g e => ?_)
    · cases A with
      | none => cases e
      | some a => exact e
    · have e' : (Value.slice A' (n + 1) c').ownBlock = some g := by
        cases A' with
        | none => cases e
        | some a => exact e
      rw [e'] at hob
      rcases hob with h | h
      · left
        cases A with
        | none => cases h
        | some a => exact h.symm
      · injection h with h; right; omega
end
end Go.Proofs.YtbcgbcipigcbhaaGreat
