/- Costs of ways, the plain law: the cheapest costs are told by what holds between neighbours; what a walk by falling queue, and one by rounds, come to. -/
import Derived.Test.YteihfmifelcidaaZG
import Derived.Test.YteihfmifelcidaaZC
import Derived.Test.YteihfmifelcidaaZE
import Derived.Maps.Own
import Derived.Test.YteihfmifelcidaaZB
namespace Go.Proofs.Yteihfmifelcidaa
set_option linter.unusedVariables false
set_option linter.unusedSimpArgs false

def st (V : List Int) (i j : Nat) : Int := 1 + max (V.getD i 0 - V.getD j 0) (-(V.getD i 0 - V.getD j 0))
theorem st_pos (V : List Int) (i j : Nat) : 1 ≤ st V i j := by unfold st; omega
theorem st_symm (V : List Int) (i j : Nat) : st V i j = st V j i := by unfold st; omega
structure IsDist (gw : Nat) (V : List Int) (a : Nat) (d : Nat → Int) : Prop where
  zero : d a = 0
  nn : ∀ i, i < V.length → 0 ≤ d i
  le : ∀ i j, i < V.length → j < V.length → Side gw i j → d j ≤ d i + st V i j
  pred : ∀ j, j < V.length → j ≠ a → ∃ i, i < V.length ∧ Side gw i j ∧ d j = d i + st V i j
theorem IsDist.le_of {gw a : Nat} {V : List Int} {d d' : Nat → Int} (h : IsDist gw V a d) (h0 : d' a ≤ 0) (hle : ∀ i j, i < V.length → j < V.length → Side gw i j → d' i ≤ d i → d' j ≤ d' i + st V i j) : ∀ j, j < V.length → d' j ≤ d j := by
  have key : ∀ (n : Nat) (j : Nat), j < V.length → d j < n → d' j ≤ d j := by
    intro n
    induction n with
    | zero => intro j hj hn; have := h.nn j hj; omega
    | succ n ih =>
      intro j hj hn
      by_cases e : j = a
      · subst e; rw [h.zero]; exact h0
      · obtain ⟨i, hi, s, he⟩ := h.pred j hj e
        have := st_pos V i j
        have h1 := ih i hi (by omega)
        have := hle i j hi hj s h1
        omega
  exact fun j hj => key ((d j).toNat + 1) j hj (by have := h.nn j hj; omega)
theorem IsDist.uniq {gw a : Nat} {V : List Int} {d d' : Nat → Int} (h : IsDist gw V a d) (h' : IsDist gw V a d') {j : Nat} (hj : j < V.length) : d j = d' j := by
  have h1 := h.le_of (d' := d') (by rw [h'.zero]; exact Int.le_refl _) (fun i j hi hj s _ => h'.le i j hi hj s) j hj
  have h2 := h'.le_of (d' := d) (by rw [h.zero]; exact Int.le_refl _) (fun i j hi hj s _ => h.le i j hi hj s) j hj
  omega

/-! ### Neighbours, and what hangs together -/
theorem mod_next {gw i : Nat} (hgw : 0 < gw) : (i + 1) % gw = if i % gw + 1 = gw then 0 else i % gw + 1 := by
  have h := Nat.mod_lt i hgw
  have e := Nat.div_add_mod i gw
  by_cases h1 : i % gw + 1 = gw
  · rw [if_pos h1, show i + 1 = gw * (i / gw + 1) by rw [Nat.mul_add, Nat.mul_one]; omega, Nat.mul_mod_right]
  · rw [if_neg h1, show i + 1 = gw * (i / gw) + (i % gw + 1) by omega, Nat.mul_add_mod, Nat.mod_eq_of_lt (by omega)]
def nearN (gw n i : Nat) : List Nat :=
  (if gw ≤ i then [i - gw] else []) ++ (if 0 < i % gw then [i - 1] else []) ++ (if i % gw + 1 < gw then [i + 1] else []) ++ (if i + gw < n then [i + gw] else [])
theorem nearN_len (gw n i : Nat) : (nearN gw n i).length ≤ 4 := by
  unfold nearN
  simp only [List.length_append]
  split <;> split <;> split <;> split <;> simp
theorem next_lt {gw gh i : Nat} (hgw : 0 < gw) (hi : i < gw * gh) (h : i % gw + 1 < gw) : i + 1 < gw * gh := by
  have hd : i / gw < gh := Nat.div_lt_of_lt_mul hi
  have e := Nat.div_add_mod i gw
  have h2 : gw * (i / gw + 1) ≤ gw * gh := Nat.mul_le_mul_left _ hd
  rw [Nat.mul_add, Nat.mul_one] at h2
  omega
theorem nearN_mem {gw gh i j : Nat} (hgw : 0 < gw) (hi : i < gw * gh) : j ∈ nearN gw (gw * gh) i ↔ j < gw * gh ∧ Side gw i j := by
  have hm := mod_next (i := i) hgw
  have hlt := Nat.mod_lt i hgw
  have hn := next_lt (gh := gh) hgw hi
  unfold nearN Side
  simp only [List.mem_append]
  constructor
  · rintro (((h | h) | h) | h)
    · split at h
      · simp only [List.mem_singleton] at h; subst h; omega
      · cases h
    · split at h
      · rename_i h0
        simp only [List.mem_singleton] at h; subst h
        have : 1 ≤ i := by rcases Nat.eq_zero_or_pos i with h | h; · subst h; simp at h0
                           · exact h
        omega
      · cases h
    · split at h
      · simp only [List.mem_singleton] at h; subst h
        refine ⟨hn (by assumption), .inr (.inl ⟨rfl, ?_⟩)⟩
        rw [hm, if_neg (by omega)]; omega
      · cases h
    · split at h
      · simp only [List.mem_singleton] at h; subst h; omega
      · cases h
  · rintro ⟨hj, ⟨e, h0⟩ | ⟨e, h0⟩ | e | e⟩
    · refine .inl (.inl (.inr ?_)); rw [if_pos h0]; simp; omega
    · refine .inl (.inr ?_)
      subst e
      rw [hm] at h0
      by_cases h1 : i % gw + 1 = gw
      · rw [if_pos h1] at h0; omega
      · rw [if_pos (by omega)]; simp
    · refine .inl (.inl (.inl ?_)); rw [if_pos (by omega)]; simp; omega
    · refine .inr ?_; rw [if_pos (by omega)]; simp; omega
theorem grid_conn {gw gh : Nat} {P : Nat → Prop} (hgw : 0 < gw) (hP : ∀ i j, i < gw * gh → j < gw * gh → Side gw i j → P i → P j) {a : Nat} (ha : a < gw * gh) (h : P a) : ∀ i, i < gw * gh → P i := by
  have key : ∀ i, i < gw * gh → (P i ↔ P 0) := by
    intro i
    induction i using Nat.strongRecOn with
    | _ i ih =>
      intro hi
      by_cases h0 : 0 < i % gw
      · have h1 : 1 ≤ i := by rcases Nat.eq_zero_or_pos i with h | h; · subst h; simp at h0
                              · exact h
        have s : Side gw i (i - 1) := .inl ⟨by omega, h0⟩
        exact ⟨fun p => (ih (i - 1) (by omega) (by omega)).1 (hP _ _ hi (by omega) s p), fun p => hP _ _ (by omega) hi s.symm ((ih (i - 1) (by omega) (by omega)).2 p)⟩
      · by_cases h1 : gw ≤ i
        · have s : Side gw i (i - gw) := .inr (.inr (.inl (by omega)))
          exact ⟨fun p => (ih (i - gw) (by omega) (by omega)).1 (hP _ _ hi (by omega) s p), fun p => hP _ _ (by omega) hi s.symm ((ih (i - gw) (by omega) (by omega)).2 p)⟩
        · have : i = 0 := by rw [Nat.mod_eq_of_lt (by omega)] at h0; omega
          rw [this]
  exact fun i hi => (key i hi).2 ((key a ha).1 h)

/-! ### How many are known -/
def cntS (n : Nat) (o : Nat → Int) : Nat := ((List.range n).filter fun i => decide (0 ≤ o i)).length
def updI (o : Nat → Int) (k : Nat) (c : Int) : Nat → Int := fun i => if i = k then c else o i
theorem cntS_le (n : Nat) (o : Nat → Int) : cntS n o ≤ n := by
  have := List.length_filter_le (fun i => decide (0 ≤ o i)) (List.range n)
  simpa [cntS] using this
theorem cntS_upd {o : Nat → Int} {k : Nat} {c : Int} (hc : 0 ≤ c) (ho : o k < 0) : ∀ n, cntS n (updI o k c) = cntS n o + (if k < n then 1 else 0)
  | 0 => by simp [cntS]
  | n + 1 => by
    have ih := cntS_upd hc ho n
    unfold cntS at *
    rw [List.range_succ, List.filter_append, List.filter_append, List.length_append, List.length_append, ih]
    by_cases e : n = k
    · subst e
      have h1 : (updI o n c) n = c := by simp [updI]
      simp [h1, hc]
      omega
    · have h1 : (updI o k c) n = o n := by simp [updI, e]
      simp only [List.filter_cons, List.filter_nil, h1]
      split <;> split <;> split <;> simp <;> omega

/-! ### The queue's walk -/
def far : Int := 4294967297
structure DJ (gw gh : Nat) (V : List Int) (a : Nat) (o : Nat → Int) (Q : List (Int × Nat)) (X : Nat → Nat → Prop) : Prop where
  ent : ∀ x ∈ Q, x.2 < gw * gh ∧ 0 ≤ x.1 ∧ ((x.2 = a ∧ x.1 = 0) ∨ ∃ p, p < gw * gh ∧ 0 ≤ o p ∧ Side gw p x.2 ∧ x.1 = o p + st V p x.2)
  zero : 0 ≤ o a → o a = 0
  pred : ∀ j, j < gw * gh → j ≠ a → 0 ≤ o j → ∃ i, i < gw * gh ∧ Side gw i j ∧ 0 ≤ o i ∧ o j = o i + st V i j
  le : ∀ i j, i < gw * gh → j < gw * gh → Side gw i j → 0 ≤ o i → 0 ≤ o j → o j ≤ o i + st V i j
  front : ∀ p j, p < gw * gh → j < gw * gh → Side gw p j → 0 ≤ o p → o j < 0 → ¬ X p j → (o p + st V p j, j) ∈ Q
  start : o a < 0 → ((0 : Int), a) ∈ Q
  low : ∀ p, p < gw * gh → 0 ≤ o p → ∀ x ∈ Q, o p ≤ x.1
  bnd : ∀ x ∈ Q, x.1 ≤ cntS (gw * gh) o * far
  obnd : ∀ p, p < gw * gh → o p ≤ cntS (gw * gh) o * far
section
variable {gw gh a : Nat} {V : List Int} {o : Nat → Int} {Q Q' : List (Int × Nat)} {X : Nat → Nat → Prop}
theorem DJ.init (ha : a < gw * gh) : DJ gw gh V a (fun _ => -1) [(0, a)] (fun _ _ => False) where
  ent := fun x hx => by simp at hx; subst hx; exact ⟨ha, Int.le_refl _, .inl ⟨rfl, rfl⟩⟩
  zero := fun h => by omega
  pred := fun j _ _ h => by omega
  le := fun i j _ _ _ h => by omega
  front := fun p j _ _ _ h => by omega
  start := fun _ => by simp
  low := fun p _ h => by omega
  bnd := fun x hx => by simp at hx; subst hx; unfold far; show (0 : Int) ≤ _; omega
  obnd := fun p _ => by unfold far; show (-1 : Int) ≤ _; omega
theorem DJ.perm (h : DJ gw gh V a o Q X) (hp : ∀ x, x ∈ Q' ↔ x ∈ Q) : DJ gw gh V a o Q' X :=
  ⟨fun x hx => h.ent x ((hp x).1 hx), h.zero, h.pred, h.le, fun p j a b c d e f => (hp _).2 (h.front p j a b c d e f), fun e => (hp _).2 (h.start e), fun p a b x hx => h.low p a b x ((hp x).1 hx), fun x hx => h.bnd x ((hp x).1 hx), h.obnd⟩
/-- one comes out that is known -/
theorem DJ.skip {x : Int × Nat} (h : DJ gw gh V a o (x :: Q) X) (hx : 0 ≤ o x.2) : DJ gw gh V a o Q X := by
  have hne : ∀ c j, o j < 0 → (c, j) ∈ x :: Q → (c, j) ∈ Q := fun c j hj hm => by
    rcases List.mem_cons.1 hm with e | e
    · subst e; dsimp only at hx; omega
    · exact e
  exact ⟨fun y hy => h.ent y (List.mem_cons_of_mem _ hy), h.zero, h.pred, h.le, fun p j a b c d e f => hne _ _ e (h.front p j a b c d e f), fun e => hne _ _ e (h.start e), fun p a b y hy => h.low p a b y (List.mem_cons_of_mem _ hy),
    fun y hy => h.bnd y (List.mem_cons_of_mem _ hy), h.obnd⟩
/-- behind a cell that came to be known: what of its neighbours isn't laid yet is spared -/
structure DJM (gw gh : Nat) (V : List Int) (a : Nat) (o : Nat → Int) (Q : List (Int × Nat)) (cur : Nat) (todo : List Nat) : Prop where
  dj : DJ gw gh V a o Q (fun p j => p = cur ∧ j ∈ todo)
  cur_lt : cur < gw * gh
  cur0 : 0 ≤ o cur
  top : ∀ p, p < gw * gh → 0 ≤ o p → o p ≤ o cur
  room : o cur + far ≤ cntS (gw * gh) o * far
  todo_ok : ∀ j ∈ todo, j < gw * gh ∧ Side gw cur j
theorem DJ.take {x : Int × Nat} (hgw : 0 < gw) (h : DJ gw gh V a o (x :: Q) (fun _ _ => False)) (hx : o x.2 < 0) (hmin : ∀ y ∈ Q, x.1 ≤ y.1) : DJM gw gh V a (updI o x.2 x.1) Q x.2 (nearN gw (gw * gh) x.2) := by
  obtain ⟨hlt, h0, hent⟩ := h.ent x List.mem_cons_self
  have hoe : ∀ p, 0 ≤ o p → updI o x.2 x.1 p = o p := fun p hp => by unfold updI; rw [if_neg (by rintro rfl; omega)]
  have hself : updI o x.2 x.1 x.2 = x.1 := by unfold updI; rw [if_pos rfl]
  have hothers : ∀ p, p ≠ x.2 → updI o x.2 x.1 p = o p := fun p hp => by unfold updI; rw [if_neg hp]
  have hcnt : cntS (gw * gh) (updI o x.2 x.1) = cntS (gw * gh) o + 1 := by rw [cntS_upd h0 hx, if_pos hlt]
  have hxb := h.bnd x List.mem_cons_self
  have hne : ∀ c j, j ≠ x.2 → (c, j) ∈ x :: Q → (c, j) ∈ Q := fun c j hj hm => by
    rcases List.mem_cons.1 hm with e | e
    · subst e; exact absurd rfl hj
    · exact e
  refine ⟨⟨fun y hy => ?_, fun ha => ?_, fun j hj hja hj0 => ?_, fun i j hi hj s hi0 hj0 => ?_, fun p j hp hj s hp0 hj0 hX => ?_, fun ha => ?_, fun p hp hp0 y hy => ?_, fun y hy => ?_, fun p hp => ?_⟩, hlt, by rw [hself]; exact h0, fun p hp hp0 => ?_, ?_, fun j hj => (nearN_mem hgw hlt).1 hj⟩
  · obtain ⟨g1, g2, g3⟩ := h.ent y (List.mem_cons_of_mem _ hy)
    refine ⟨g1, g2, g3.imp id fun ⟨p, p1, p2, p3, p4⟩ => ⟨p, p1, ?_, p3, ?_⟩⟩
    · rw [hoe p p2]; exact p2
    · rw [hoe p p2]; exact p4
  · by_cases e : a = x.2
    · rw [e, hself]
      have := h.start (by rw [e]; exact hx)
      rcases List.mem_cons.1 this with e2 | e2
      · rw [← e2]
      · have := hmin _ e2; dsimp only at this; omega
    · rw [hothers a e] at ha ⊢; exact h.zero ha
  · by_cases e : j = x.2
    · subst e
      rcases hent with ⟨e2, _⟩ | ⟨p, p1, p2, p3, p4⟩
      · exact absurd e2 hja
      · exact ⟨p, p1, p3, by rw [hoe p p2]; exact p2, by rw [hself, hoe p p2]; exact p4⟩
    · rw [hothers j e] at hj0 ⊢
      obtain ⟨i, i1, i2, i3, i4⟩ := h.pred j hj hja hj0
      exact ⟨i, i1, i2, by rw [hoe i i3]; exact i3, by rw [hoe i i3]; exact i4⟩
  · have hst := st_pos V i j
    by_cases ei : i = x.2
    · by_cases ej : j = x.2
      · subst ei; subst ej; omega
      · rw [hothers j ej] at hj0 ⊢
        have := h.low j hj hj0 x List.mem_cons_self
        rw [ei, hself, ← ei]; omega
    · rw [hothers i ei] at hi0 ⊢
      by_cases ej : j = x.2
      · have := h.front i j hi hj s hi0 (by rw [ej]; exact hx) (fun f => f)
        rw [ej, hself, ← ej]
        rcases List.mem_cons.1 this with e | e
        · rw [← e]; exact Int.le_refl _
        · exact hmin _ e
      · rw [hothers j ej] at hj0 ⊢; exact h.le i j hi hj s hi0 hj0
  · have ej : j ≠ x.2 := by rintro rfl; rw [hself] at hj0; omega
    rw [hothers j ej] at hj0
    by_cases ep : p = x.2
    · exact absurd ⟨ep, (nearN_mem hgw hlt).2 ⟨hj, ep ▸ s⟩⟩ hX
    · rw [hothers p ep] at hp0 ⊢
      exact hne _ _ ej (h.front p j hp hj s hp0 hj0 (fun f => f))
  · have e : a ≠ x.2 := by rintro e; rw [e, hself] at ha; omega
    rw [hothers a e] at ha
    exact hne _ _ e (h.start ha)
  · by_cases ep : p = x.2
    · rw [ep, hself]; exact hmin y hy
    · rw [hothers p ep] at hp0 ⊢; exact h.low p hp hp0 y (List.mem_cons_of_mem _ hy)
  · have := h.bnd y (List.mem_cons_of_mem _ hy)
    rw [hcnt]; unfold far at *; push_cast; omega
  · rw [hcnt]
    by_cases ep : p = x.2
    · rw [ep, hself]; unfold far at *; push_cast; omega
    · rw [hothers p ep]; have := h.obnd p hp; unfold far at *; push_cast; omega
  · rw [hself]
    by_cases ep : p = x.2
    · rw [ep, hself]; exact Int.le_refl _
    · rw [hothers p ep] at hp0 ⊢; exact h.low p hp hp0 x List.mem_cons_self
  · rw [hself, hcnt]; unfold far at *; push_cast; omega
theorem DJM.known {cur j : Nat} {todo : List Nat} (h : DJM gw gh V a o Q cur (j :: todo)) (hj : 0 ≤ o j) : DJM gw gh V a o Q cur todo := by
  refine ⟨⟨h.dj.ent, h.dj.zero, h.dj.pred, h.dj.le, fun p k hp hk s hp0 hk0 hX => h.dj.front p k hp hk s hp0 hk0 ?_, h.dj.start, h.dj.low, h.dj.bnd, h.dj.obnd⟩, h.cur_lt, h.cur0, h.top, h.room, fun k hk => h.todo_ok k (List.mem_cons_of_mem _ hk)⟩
  rintro ⟨e, hm⟩
  rcases List.mem_cons.1 hm with rfl | hm
  · omega
  · exact hX ⟨e, hm⟩
theorem DJM.push {cur j : Nat} {todo : List Nat} (h : DJM gw gh V a o Q cur (j :: todo)) (hstb : st V cur j ≤ far) (hp : ∀ x, x ∈ Q' ↔ x = (o cur + st V cur j, j) ∨ x ∈ Q) : DJM gw gh V a o Q' cur todo := by
  have hj := h.todo_ok j List.mem_cons_self
  have hst := st_pos V cur j
  have h0 := h.cur0
  have hroom := h.room
  refine ⟨⟨fun x hx => ?_, h.dj.zero, h.dj.pred, h.dj.le, fun p k hp' hk s hp0 hk0 hX => (hp _).2 ?_, fun ha => (hp _).2 (.inr (h.dj.start ha)), fun p hp' hp0 x hx => ?_, fun x hx => ?_, h.dj.obnd⟩, h.cur_lt, h.cur0, h.top, h.room, fun k hk => h.todo_ok k (List.mem_cons_of_mem _ hk)⟩
  · rcases (hp x).1 hx with rfl | hx
    · exact ⟨hj.1, by show 0 ≤ o cur + st V cur j; omega, .inr ⟨cur, h.cur_lt, h.cur0, hj.2, rfl⟩⟩
    · exact h.dj.ent x hx
  · by_cases e : p = cur ∧ k = j
    · obtain ⟨rfl, rfl⟩ := e; exact .inl rfl
    · refine .inr (h.dj.front p k hp' hk s hp0 hk0 ?_)
      rintro ⟨e1, hm⟩
      rcases List.mem_cons.1 hm with e2 | hm
      · exact e ⟨e1, e2⟩
      · exact hX ⟨e1, hm⟩
  · rcases (hp x).1 hx with rfl | hx
    · have := h.top p hp' hp0; show o p ≤ o cur + st V cur j; omega
    · exact h.dj.low p hp' hp0 x hx
  · rcases (hp x).1 hx with rfl | hx
    · show o cur + st V cur j ≤ _; omega
    · exact h.dj.bnd x hx
theorem DJM.done {cur : Nat} (h : DJM gw gh V a o Q cur []) : DJ gw gh V a o Q (fun _ _ => False) :=
  ⟨h.dj.ent, h.dj.zero, h.dj.pred, h.dj.le, fun p k hp hk s hp0 hk0 _ => h.dj.front p k hp hk s hp0 hk0 (by rintro ⟨_, hm⟩; cases hm), h.dj.start, h.dj.low, h.dj.bnd, h.dj.obnd⟩
theorem DJ.finish (hgw : 0 < gw) (hV : V.length = gw * gh) (ha : a < gw * gh) (h : DJ gw gh V a o [] (fun _ _ => False)) : IsDist gw V a o := by
  have ha0 : 0 ≤ o a := by
    rcases Int.lt_or_le (o a) 0 with e | e
    · exact absurd (h.start e) (by simp)
    · exact e
  have hall : ∀ i, i < gw * gh → 0 ≤ o i := grid_conn hgw (P := fun i => 0 ≤ o i) (fun i j hi hj s hi0 => by
    rcases Int.lt_or_le (o j) 0 with e | e
    · exact absurd (h.front i j hi hj s hi0 e (fun f => f)) (by simp)
    · exact e) ha ha0
  refine ⟨h.zero ha0, fun i hi => hall i (hV ▸ hi), fun i j hi hj s => h.le i j (hV ▸ hi) (hV ▸ hj) s (hall i (hV ▸ hi)) (hall j (hV ▸ hj)), fun j hj hja => ?_⟩
  obtain ⟨i, i1, i2, _, i4⟩ := h.pred j (hV ▸ hj) hja (hall j (hV ▸ hj))
  exact ⟨i, hV ▸ i1, i2, i4⟩
end

/-! ### Costs that fall by rounds; the route -/
/-! ### How many are cheaper -/
theorem filt_le {p q : Nat → Bool} (h : ∀ i, p i = true → q i = true) : ∀ n, ((List.range n).filter p).length ≤ ((List.range n).filter q).length
  | 0 => by simp
  | n + 1 => by
    have ih := filt_le h n
    rw [List.range_succ, List.filter_append, List.filter_append, List.length_append, List.length_append]
    by_cases hp : p n = true
    · simp [hp, h n hp]; omega
    · simp [hp]; omega
theorem filt_lt {p q : Nat → Bool} (h : ∀ i, p i = true → q i = true) {k : Nat} (hq : q k = true) (hp : p k = false) : ∀ n, k < n → ((List.range n).filter p).length < ((List.range n).filter q).length
  | 0, hk => by omega
  | n + 1, hk => by
    rw [List.range_succ, List.filter_append, List.filter_append, List.length_append, List.length_append]
    by_cases e : k = n
    · subst e
      have := filt_le h k
      simp [hp, hq]; omega
    · have ih := filt_lt h hq hp n (by omega)
      by_cases hpn : p n = true
      · simp [hpn, h n hpn]; omega
      · simp [hpn]; omega
def rank (n : Nat) (d : Nat → Int) (j : Nat) : Nat := ((List.range n).filter fun i => decide (d i < d j)).length
theorem rank_lt {n : Nat} {d : Nat → Int} {i j : Nat} (hi : i < n) (h : d i < d j) : rank n d i < rank n d j :=
  filt_lt (fun k hk => by simp only [decide_eq_true_eq] at *; omega) (k := i) (by simpa using h) (by simp) n hi
theorem rank_top {n : Nat} {d : Nat → Int} {j : Nat} (hj : j < n) : rank n d j < n := by
  have := filt_lt (p := fun i => decide (d i < d j)) (q := fun _ => true) (fun _ _ => rfl) (k := j) rfl (by simp) n hj
  rw [List.filter_eq_self.2 (fun _ _ => rfl), List.length_range] at this
  exact this
theorem cntS_same {o : Nat → Int} {k : Nat} {c : Int} (hc : 0 ≤ c) (ho : 0 ≤ o k) (n : Nat) : cntS n (updI o k c) = cntS n o := by
  unfold cntS
  congr 1
  refine List.filter_congr fun i _ => ?_
  unfold updI
  split
  · rename_i e; subst e; simp [hc, ho]
  · rfl

/-! ### Rounds -/
structure BF (gw gh : Nat) (V : List Int) (a : Nat) (d : Nat → Int) (r : Nat) (fell : Bool) (E : Nat → Nat → Prop) (o : Nat → Int) : Prop where
  zero : o a = 0
  ge : ∀ j, j < gw * gh → 0 ≤ o j → d j ≤ o j
  bnd : ∀ j, j < gw * gh → o j ≤ cntS (gw * gh) o * far
  rk : ∀ j, j < gw * gh → rank (gw * gh) d j ≤ r → o j = d j
  rel : ∀ p j, p < gw * gh → j < gw * gh → Side gw p j → E p j → rank (gw * gh) d p ≤ r → 0 ≤ o j ∧ o j ≤ d p + st V p j
  quiet : fell = false → ∀ p j, p < gw * gh → j < gw * gh → Side gw p j → E p j → 0 ≤ o p → 0 ≤ o j ∧ o j ≤ o p + st V p j
section
variable {gw gh a r : Nat} {V : List Int} {d o : Nat → Int} {fell : Bool} {E E' : Nat → Nat → Prop}
theorem BF.start (hV : V.length = gw * gh) (hd : IsDist gw V a d) (ha : a < gw * gh) : BF gw gh V a d 0 false (fun _ _ => False) (updI (fun _ => -1) a 0) := by
  have e : ∀ j, j ≠ a → updI (fun _ => (-1 : Int)) a 0 j = -1 := fun j hj => by unfold updI; rw [if_neg hj]
  have ea : updI (fun _ => (-1 : Int)) a 0 a = 0 := by unfold updI; rw [if_pos rfl]
  refine ⟨ea, fun j hj h0 => ?_, fun j hj => ?_, fun j hj hr => ?_, fun _ _ _ _ _ h => h.elim, fun _ _ _ _ _ _ h => h.elim⟩
  · by_cases ej : j = a
    · subst ej; rw [ea, hd.zero]; exact Int.le_refl _
    · rw [e j ej] at h0; omega
  · have : (updI (fun _ => (-1 : Int)) a 0) j ≤ 0 := by unfold updI; split <;> first | omega | (show (-1 : Int) ≤ 0; omega)
    have h2 : (0 : Int) ≤ (cntS (gw * gh) (updI (fun _ => -1) a 0) : Nat) * far := by unfold far; omega
    omega
  · by_cases ej : j = a
    · subst ej; rw [ea, hd.zero]
    · obtain ⟨i, hi, _, he⟩ := hd.pred j (hV ▸ hj) ej
      have := st_pos V i j
      have := rank_lt (n := gw * gh) (d := d) (i := i) (j := j) (hV ▸ hi) (by omega)
      omega
theorem BF.weaken (h : BF gw gh V a d r fell E o) (hE : ∀ p j, p < gw * gh → j < gw * gh → Side gw p j → E' p j → E p j) : BF gw gh V a d r fell E' o :=
  ⟨h.zero, h.ge, h.bnd, h.rk, fun p j a b s e => h.rel p j a b s (hE p j a b s e), fun f p j a b s e => h.quiet f p j a b s (hE p j a b s e)⟩
/-- a cell that no cost is known of yet -/
theorem BF.pass (hV : V.length = gw * gh) (hd : IsDist gw V a d) {i : Nat} (hi : i < gw * gh) (h : BF gw gh V a d r fell (fun p _ => p < i) o) (ho : o i < 0) : BF gw gh V a d r fell (fun p _ => p < i + 1) o := by
  have hn := hd.nn i (by omega)
  refine ⟨h.zero, h.ge, h.bnd, h.rk, fun p j hp hj s e hr => ?_, fun f p j hp hj s e h0 => ?_⟩
  · by_cases e1 : p = i
    · subst e1; have := h.rk p hp hr; omega
    · exact h.rel p j hp hj s (show p < i by omega) hr
  · by_cases e1 : p = i
    · subst e1; omega
    · exact h.quiet f p j hp hj s (show p < i by omega) h0
def EdgT (i : Nat) (todo : List Nat) (p j : Nat) : Prop := p < i ∨ (p = i ∧ j ∉ todo)
theorem BF.enter (hgw : 0 < gw) {i : Nat} (hi : i < gw * gh) (h : BF gw gh V a d r fell (fun p _ => p < i) o) : BF gw gh V a d r fell (EdgT i (nearN gw (gw * gh) i)) o :=
  h.weaken fun p j hp hj s e => by
    rcases e with e | ⟨rfl, e⟩
    · exact e
    · exact absurd ((nearN_mem hgw hi).2 ⟨hj, s⟩) e
theorem BF.leave {i : Nat} (h : BF gw gh V a d r fell (EdgT i []) o) : BF gw gh V a d r fell (fun p _ => p < i + 1) o :=
  h.weaken fun p j hp hj s (e : p < i + 1) => by
    by_cases e1 : p = i
    · exact .inr ⟨e1, by simp⟩
    · exact .inl (by omega)
theorem BF.stay {i j : Nat} {todo : List Nat} (hi : i < gw * gh) (h : BF gw gh V a d r fell (EdgT i (j :: todo)) o) (h0 : 0 ≤ o j) (hle : o j ≤ o i + st V i j) : BF gw gh V a d r fell (EdgT i todo) o := by
  have hE : ∀ p k, EdgT i todo p k → EdgT i (j :: todo) p k ∨ (p = i ∧ k = j) := fun p k e => by
    rcases e with e | ⟨e, hm⟩
    · exact .inl (.inl e)
    · by_cases ek : k = j
      · exact .inr ⟨e, ek⟩
      · exact .inl (.inr ⟨e, by simp [ek, hm]⟩)
  refine ⟨h.zero, h.ge, h.bnd, h.rk, fun p k hp hk s e hr => ?_, fun f p k hp hk s e hp0 => ?_⟩
  · rcases hE p k e with e | ⟨rfl, rfl⟩
    · exact h.rel p k hp hk s e hr
    · rw [← h.rk p hp hr]; exact ⟨h0, hle⟩
  · rcases hE p k e with e | ⟨rfl, rfl⟩
    · exact h.quiet f p k hp hk s e hp0
    · exact ⟨h0, hle⟩
theorem BF.fall (hV : V.length = gw * gh) (hd : IsDist gw V a d) {i j : Nat} {todo : List Nat} (hi : i < gw * gh) (hj : j < gw * gh) (s : Side gw i j) (hs : st V i j ≤ far) (h : BF gw gh V a d r fell (EdgT i (j :: todo)) o) (hoi : 0 ≤ o i)
    (hlt : o j < 0 ∨ o i + st V i j < o j) : BF gw gh V a d r true (EdgT i todo) (updI o j (o i + st V i j)) := by
  have hst := st_pos V i j
  have hself : updI o j (o i + st V i j) j = o i + st V i j := by unfold updI; rw [if_pos rfl]
  have hoth : ∀ k, k ≠ j → updI o j (o i + st V i j) k = o k := fun k hk => by unfold updI; rw [if_neg hk]
  have hja : j ≠ a := by rintro rfl; have := h.zero; omega
  have hcnt : (o i + st V i j ≤ cntS (gw * gh) (updI o j (o i + st V i j)) * far) ∧ cntS (gw * gh) o ≤ cntS (gw * gh) (updI o j (o i + st V i j)) := by
    have hb := h.bnd i hi
    by_cases e : o j < 0
    · rw [cntS_upd (by omega) e, if_pos hj]; unfold far at *; push_cast; omega
    · rw [cntS_same (by omega) (by omega)]; have := h.bnd j hj; omega
  have hE : ∀ p k, EdgT i todo p k → EdgT i (j :: todo) p k ∨ (p = i ∧ k = j) := fun p k e => by
    rcases e with e | ⟨e, hm⟩
    · exact .inl (.inl e)
    · by_cases ek : k = j
      · exact .inr ⟨e, ek⟩
      · exact .inl (.inr ⟨e, by simp [ek, hm]⟩)
  refine ⟨by rw [hoth a (fun e => hja e.symm)]; exact h.zero, fun k hk h0 => ?_, fun k hk => ?_, fun k hk hr => ?_, fun p k hp hk s' e hr => ?_, fun f => by cases f⟩
  · by_cases ek : k = j
    · subst ek; rw [hself]; have := hd.le i k (hV ▸ hi) (hV ▸ hj) s; have := h.ge i hi hoi; omega
    · rw [hoth k ek] at h0 ⊢; exact h.ge k hk h0
  · by_cases ek : k = j
    · subst ek; rw [hself]; exact hcnt.1
    · rw [hoth k ek]; have := h.bnd k hk; have := hcnt.2; unfold far at *; omega
  · by_cases ek : k = j
    · subst ek
      have h1 := h.rk k hk hr
      have h2 := hd.nn k (hV ▸ hk)
      have h3 := hd.le i k (hV ▸ hi) (hV ▸ hk) s
      have h4 := h.ge i hi hoi
      omega
    · rw [hoth k ek]; exact h.rk k hk hr
  · by_cases ek : k = j
    · subst ek
      rw [hself]
      refine ⟨by omega, ?_⟩
      rcases hE p k e with e | ⟨rfl, _⟩
      · have := h.rel p k hp hk s' e hr; omega
      · have := h.rk p hp hr; omega
    · rw [hoth k ek]
      rcases hE p k e with e | ⟨_, e⟩
      · exact h.rel p k hp hk s' e hr
      · exact absurd e ek
theorem BF.still (hV : V.length = gw * gh) (hd : IsDist gw V a d) (h : BF gw gh V a d r false (fun p _ => p < gw * gh) o) (ha : a < gw * gh) (hgw : 0 < gw) : ∀ j, j < gw * gh → o j = d j := by
  have hpos : ∀ j, j < gw * gh → 0 ≤ o j := grid_conn hgw (P := fun i => 0 ≤ o i) (fun i j hi hj s h0 => (h.quiet rfl i j hi hj s hi h0).1) ha (by rw [h.zero]; exact Int.le_refl _)
  intro j hj
  have h1 := hd.le_of (d' := o) (by rw [h.zero]; exact Int.le_refl _) (fun i j hi hj s _ => (h.quiet rfl i j (hV ▸ hi) (hV ▸ hj) s (hV ▸ hi) (hpos i (hV ▸ hi))).2) j (hV ▸ hj)
  have h2 := h.ge j hj (hpos j hj)
  omega
theorem BF.next (hV : V.length = gw * gh) (hd : IsDist gw V a d) (h : BF gw gh V a d r fell (fun p _ => p < gw * gh) o) : BF gw gh V a d (r + 1) false (fun _ _ => False) o := by
  refine ⟨h.zero, h.ge, h.bnd, fun j hj hr => ?_, fun _ _ _ _ _ e => e.elim, fun _ _ _ _ _ _ e => e.elim⟩
  by_cases e : j = a
  · subst e; rw [h.zero, hd.zero]
  · obtain ⟨i, hi, s, he⟩ := hd.pred j (hV ▸ hj) e
    have := st_pos V i j
    have hrk := rank_lt (n := gw * gh) (d := d) (i := i) (j := j) (hV ▸ hi) (by omega)
    have h1 := h.rel i j (hV ▸ hi) hj s (hV ▸ hi) (by omega)
    have h2 := h.ge j hj h1.1
    omega
theorem BF.last (h : BF gw gh V a d r fell E o) (hr : gw * gh ≤ r) : ∀ j, j < gw * gh → o j = d j := fun j hj => h.rk j hj (by have := rank_top (d := d) hj; omega)
end

/-! ### The route -/
def nextN (gw : Nat) (V : List Int) (d : Nat → Int) (i : Nat) : Nat := ((nearN gw V.length i).find? fun j => d j + st V i j == d i).getD i
def routeF (gw : Nat) (V : List Int) (d : Nat → Int) (b : Nat) : Nat → Nat → List Nat
  | 0, i => [i]
  | k + 1, i => if i = b then [i] else i :: routeF gw V d b k (nextN gw V d i)
section
variable {gw gh b : Nat} {V : List Int} {d : Nat → Int}
theorem nextN_ok (hgw : 0 < gw) (hV : V.length = gw * gh) (hd : IsDist gw V b d) {i : Nat} (hi : i < gw * gh) (h : i ≠ b) :
    ∃ pre post, nearN gw V.length i = pre ++ nextN gw V d i :: post ∧ (∀ j ∈ pre, d j + st V i j ≠ d i) ∧ d (nextN gw V d i) + st V i (nextN gw V d i) = d i ∧ nextN gw V d i < gw * gh ∧ Side gw i (nextN gw V d i) := by
  obtain ⟨j, hj, s, he⟩ := hd.pred i (hV ▸ hi) h
  have hmem : j ∈ nearN gw V.length i := by rw [hV]; exact (nearN_mem hgw hi).2 ⟨hV ▸ hj, s.symm⟩
  have hsome : ((nearN gw V.length i).find? fun j => d j + st V i j == d i).isSome = true := by
    rw [List.find?_isSome]
    exact ⟨j, hmem, by rw [st_symm, ← he]; simp⟩
  obtain ⟨k, hk⟩ := Option.isSome_iff_exists.1 hsome
  have hn : nextN gw V d i = k := by unfold nextN; rw [hk]; rfl
  obtain ⟨hp, pre, post, e, hpre⟩ := List.find?_eq_some_iff_append.1 hk
  have hkm : k ∈ nearN gw V.length i := List.mem_of_find?_eq_some hk
  rw [hV] at hkm
  have h2 := (nearN_mem hgw hi).1 hkm
  rw [hn]
  refine ⟨pre, post, e, fun j hj => ?_, by simpa using hp, h2.1, h2.2⟩
  have := hpre j hj
  simpa using this
theorem routeF_more (hgw : 0 < gw) (hV : V.length = gw * gh) (hd : IsDist gw V b d) : ∀ (k : Nat) (i : Nat), i < gw * gh → d i ≤ k → routeF gw V d b (k + 1) i = routeF gw V d b k i
  | 0, i, hi, h => by
    have : i = b := by
      by_cases e : i = b
      · exact e
      · obtain ⟨j, hj, s, he⟩ := hd.pred i (hV ▸ hi) e
        have := st_pos V j i
        have := hd.nn j hj
        omega
    simp [routeF, this]
  | k + 1, i, hi, h => by
    by_cases e : i = b
    · simp [routeF, e]
    · obtain ⟨_, _, _, _, he, hlt, _⟩ := nextN_ok hgw hV hd hi e
      have := st_pos V i (nextN gw V d i)
      have ih := routeF_more hgw hV hd k (nextN gw V d i) hlt (by omega)
      rw [routeF, if_neg e, ih]
      rw [routeF, if_neg e]
def routeL (gw : Nat) (V : List Int) (d : Nat → Int) (b i : Nat) : List Nat := routeF gw V d b (d i).toNat i
theorem routeL_here (hd : IsDist gw V b d) : routeL gw V d b b = [b] := by unfold routeL; rw [hd.zero]; rfl
theorem routeF_big (hgw : 0 < gw) (hV : V.length = gw * gh) (hd : IsDist gw V b d) {i : Nat} (hi : i < gw * gh) : ∀ m : Nat, routeF gw V d b ((d i).toNat + m) i = routeL gw V d b i
  | 0 => rfl
  | m + 1 => by rw [← Nat.add_assoc, routeF_more hgw hV hd _ i hi (by omega), routeF_big hgw hV hd hi m]
theorem routeL_step (hgw : 0 < gw) (hV : V.length = gw * gh) (hd : IsDist gw V b d) {i : Nat} (hi : i < gw * gh) (h : i ≠ b) : routeL gw V d b i = i :: routeL gw V d b (nextN gw V d i) := by
  obtain ⟨_, _, _, _, he, hlt, _⟩ := nextN_ok hgw hV hd hi h
  have hst := st_pos V i (nextN gw V d i)
  have h0 := hd.nn (nextN gw V d i) (hV ▸ hlt)
  have e1 : (d i).toNat = (d (nextN gw V d i)).toNat + ((d i).toNat - 1 - (d (nextN gw V d i)).toNat) + 1 := by omega
  rw [routeL, e1, routeF, if_neg h, routeF_big hgw hV hd hlt]
end
instance (gw i j : Nat) : Decidable (Side gw i j) := by unfold Side; infer_instance
end Go.Proofs.Yteihfmifelcidaa
/- Arrays as values; cmp.Compare of whole numbers; a cell's neighbours as a list of four. -/
namespace Go.Proofs.Yteihfmifelcidaa
open Go.RowKit
set_option linter.unusedVariables false
set_option linter.unusedSimpArgs false
set_option maxRecDepth 100000

section
variable {P : Program} {e : Nat → Value} {d : Option Tmp} {ty : TypeId} {ps : String} {af : Array Edge}
/-- an array's literal -/
theorem op_buildArr {t el : TypeId} {len k : Nat} {parts : List (Nat × Operand)} {z : Value} {l0 l : List Value} (hu : P.underlying t = some (.array len el)) (hs : ∀ w, (sizeOf el).run P w = .ok k w) (hz : ∀ w, (zeroValue t).run P w = .ok z w)
    (h1 : lay (fun i => some (i * k, k)) z.cells.toList (evp e parts) = some l0) (h2 : fzl l0 = some l) : OpV P e ⟨d, .build t parts.toArray, ty, ps, af, none⟩ (.agg l.toArray) := by
  intro w
  have h0 := fzl_eq h2
  subst h0
  have h3 := fill_of_lay h1
  have h4 : (z.cells.toList).toArray = z.cells := by simp
  rw [h4] at h3
  have h5 : (parts.map fun p => (p.1, ev e p.2)) = evp e parts := evp_eq e parts
  simp [OpR, execOp, Instr.build, hz, run_underlying hu, hs, h5, h3]
/-- an element, that is a struct, of an array's value -/
theorem op_indexVA {t el : TypeId} {x i : Operand} {len k : Nat} {kd : IntKind} {n : Int} {cs l : List Value} {dd : TypeDesc} (hu : P.underlying t = some (.array len el)) (hd : P.underlying el = some dd) (hz : ∀ w, (sizeOf el).run P w = .ok k w) (ha : aggD dd = true) (hx : ev e x = .agg cs.toArray) (hi : ev e i = .int kd n) (h0 : 0 ≤ n) (h1 : n < len)
    (hv : (cs.drop (n.toNat * k)).take k = l) : OpV P e ⟨d, .index t x i, ty, ps, af, none⟩ (.agg l.toArray) := by
  intro w
  simp [OpR, execOp, hx, hi, Instr.index, asIntOf, run_underlying hu, hz, h0, h1, part, run_isAgg_E hd, ha]
  exact hv
end
def cmpI (a b : Int) : Int := if a < b then -1 else if b < a then 1 else 0
theorem cmpI_lt {a b : Int} : cmpI a b < 0 ↔ a < b := by unfold cmpI; split <;> (try split) <;> omega
section
variable {W : World}
theorem isNaN_E (a : Int) : Fn Try.prog 91 [.int .i64 a] W (RetG (.bool false) W) := by
  have S := St.start W
  refine Fn_enter Try.func91 rfl Try.results91 Try.ntmps91 (by kernel_rfl) (by kernel_rfl) ?_
  repeat refine cw_seq ?_
  refine cw_region ?_
  refine rw_v (op_pure rfl) ?_
  first | refine rw_end ?_ | (refine rw_nil ?_; show CW _ _ _ _ _ _) | refine rw_nil ?_
  repeat refine cw_seq ?_
  refine cw_region ?_
  iterate 2 refine rw_v (op_pure rfl) ?_
  first | refine rw_v (op_b (b := true) rfl (bne_iff_ne.2 (by omega))) ?_ | refine rw_v (op_b (b := false) rfl (bne_eq_false_iff_eq.2 (by omega))) ?_ | refine rw_v (op_pure rfl) ?_
  refine rw_v (op_pure rfl) ?_
  first | refine rw_end ?_ | (refine rw_nil ?_; show CW _ _ _ _ _ _) | refine rw_nil ?_
  repeat refine cw_seq ?_
  refine cw_ret ?_
  repeat first | refine ret_then ?_ | refine ret_inb ?_
  exact res1 rfl ⟨be (by simp), S.out⟩
theorem compare_E (a b : Int) : Fn Try.prog 58 [.int .i64 a, .int .i64 b] W (RetG (.int .i64 (cmpI a b)) W) := by
  by_cases h1 : a < b
  · skip
    have S := St.start W
    refine Fn_enter Try.func58 rfl Try.results58 Try.ntmps58 (by kernel_rfl) (by kernel_rfl) ?_
    repeat refine cw_seq ?_
    refine cw_region ?_
    refine rw_v (op_pure rfl) ?_
    first | refine rw_end ?_ | (refine rw_nil ?_; show CW _ _ _ _ _ _) | refine rw_nil ?_
    repeat refine cw_seq ?_
    refine cw_region ?_
    refine rw_v (op_pure rfl) ?_
    refine rw_call rfl (isNaN_E a) ?_
    rintro _ w1_ ⟨rfl, g1_⟩
    have S := S.gr g1_
    refine rw_v (op_pure rfl) ?_
    first | refine rw_end ?_ | (refine rw_nil ?_; show CW _ _ _ _ _ _) | refine rw_nil ?_
    repeat refine cw_seq ?_
    refine cw_region ?_
    refine rw_v (op_pure rfl) ?_
    refine rw_call rfl (isNaN_E b) ?_
    rintro _ w2_ ⟨rfl, g2_⟩
    have S := S.gr g2_
    refine rw_v (op_pure rfl) ?_
    first | refine rw_end ?_ | (refine rw_nil ?_; show CW _ _ _ _ _ _) | refine rw_nil ?_
    repeat refine cw_seq ?_
    refine cw_region ?_
    refine rw_v (op_pure rfl) ?_
    first | refine rw_end ?_ | (refine rw_nil ?_; show CW _ _ _ _ _ _) | refine rw_nil ?_
    repeat refine cw_seq ?_
    refine cw_false rfl ?_
    repeat refine cw_seq ?_
    refine cw_skip ?_
    try show CW _ _ _ _ _ _
    repeat refine cw_seq ?_
    refine cw_region ?_
    refine rw_v (op_pure rfl) ?_
    first | refine rw_end ?_ | (refine rw_nil ?_; show CW _ _ _ _ _ _) | refine rw_nil ?_
    repeat refine cw_seq ?_
    refine cw_false rfl ?_
    repeat refine cw_seq ?_
    refine cw_skip ?_
    try show CW _ _ _ _ _ _
    repeat refine cw_seq ?_
    refine cw_region ?_
    iterate 2 refine rw_v (op_pure rfl) ?_
    refine rw_v (op_b (b := true) rfl (decide_eq_true (by omega))) ?_
    first | refine rw_end ?_ | (refine rw_nil ?_; show CW _ _ _ _ _ _) | refine rw_nil ?_
    repeat refine cw_seq ?_
    refine cw_true rfl ?_
    repeat refine cw_seq ?_
    refine cw_region ?_
    refine rw_v (op_pure rfl) ?_
    first | refine rw_end ?_ | (refine rw_nil ?_; show CW _ _ _ _ _ _) | refine rw_nil ?_
    repeat refine cw_seq ?_
    refine cw_ret ?_
    repeat first | refine ret_then ?_ | refine ret_inb ?_
    exact res1 rfl ⟨ie (by unfold cmpI; rw [if_pos h1]), S.out⟩
  · by_cases h2 : b < a
    · skip
      have S := St.start W
      refine Fn_enter Try.func58 rfl Try.results58 Try.ntmps58 (by kernel_rfl) (by kernel_rfl) ?_
      repeat refine cw_seq ?_
      refine cw_region ?_
      refine rw_v (op_pure rfl) ?_
      first | refine rw_end ?_ | (refine rw_nil ?_; show CW _ _ _ _ _ _) | refine rw_nil ?_
      repeat refine cw_seq ?_
      refine cw_region ?_
      refine rw_v (op_pure rfl) ?_
      refine rw_call rfl (isNaN_E a) ?_
      rintro _ w1_ ⟨rfl, g1_⟩
      have S := S.gr g1_
      refine rw_v (op_pure rfl) ?_
      first | refine rw_end ?_ | (refine rw_nil ?_; show CW _ _ _ _ _ _) | refine rw_nil ?_
      repeat refine cw_seq ?_
      refine cw_region ?_
      refine rw_v (op_pure rfl) ?_
      refine rw_call rfl (isNaN_E b) ?_
      rintro _ w2_ ⟨rfl, g2_⟩
      have S := S.gr g2_
      refine rw_v (op_pure rfl) ?_
      first | refine rw_end ?_ | (refine rw_nil ?_; show CW _ _ _ _ _ _) | refine rw_nil ?_
      repeat refine cw_seq ?_
      refine cw_region ?_
      refine rw_v (op_pure rfl) ?_
      first | refine rw_end ?_ | (refine rw_nil ?_; show CW _ _ _ _ _ _) | refine rw_nil ?_
      repeat refine cw_seq ?_
      refine cw_false rfl ?_
      repeat refine cw_seq ?_
      refine cw_skip ?_
      try show CW _ _ _ _ _ _
      repeat refine cw_seq ?_
      refine cw_region ?_
      refine rw_v (op_pure rfl) ?_
      first | refine rw_end ?_ | (refine rw_nil ?_; show CW _ _ _ _ _ _) | refine rw_nil ?_
      repeat refine cw_seq ?_
      refine cw_false rfl ?_
      repeat refine cw_seq ?_
      refine cw_skip ?_
      try show CW _ _ _ _ _ _
      repeat refine cw_seq ?_
      refine cw_region ?_
      iterate 2 refine rw_v (op_pure rfl) ?_
      refine rw_v (op_b (b := false) rfl (decide_eq_false (by omega))) ?_
      first | refine rw_end ?_ | (refine rw_nil ?_; show CW _ _ _ _ _ _) | refine rw_nil ?_
      repeat refine cw_seq ?_
      refine cw_false rfl ?_
      repeat refine cw_seq ?_
      refine cw_skip ?_
      try show CW _ _ _ _ _ _
      repeat refine cw_seq ?_
      refine cw_region ?_
      iterate 2 refine rw_v (op_pure rfl) ?_
      refine rw_v (op_b (b := true) rfl (decide_eq_true (by omega))) ?_
      first | refine rw_end ?_ | (refine rw_nil ?_; show CW _ _ _ _ _ _) | refine rw_nil ?_
      repeat refine cw_seq ?_
      refine cw_true rfl ?_
      repeat refine cw_seq ?_
      refine cw_region ?_
      refine rw_v (op_pure rfl) ?_
      first | refine rw_end ?_ | (refine rw_nil ?_; show CW _ _ _ _ _ _) | refine rw_nil ?_
      repeat refine cw_seq ?_
      refine cw_ret ?_
      repeat first | refine ret_then ?_ | refine ret_inb ?_
      exact res1 rfl ⟨ie (by unfold cmpI; rw [if_neg h1, if_pos h2]), S.out⟩
    · skip
      have S := St.start W
      refine Fn_enter Try.func58 rfl Try.results58 Try.ntmps58 (by kernel_rfl) (by kernel_rfl) ?_
      repeat refine cw_seq ?_
      refine cw_region ?_
      refine rw_v (op_pure rfl) ?_
      first | refine rw_end ?_ | (refine rw_nil ?_; show CW _ _ _ _ _ _) | refine rw_nil ?_
      repeat refine cw_seq ?_
      refine cw_region ?_
      refine rw_v (op_pure rfl) ?_
      refine rw_call rfl (isNaN_E a) ?_
      rintro _ w1_ ⟨rfl, g1_⟩
      have S := S.gr g1_
      refine rw_v (op_pure rfl) ?_
      first | refine rw_end ?_ | (refine rw_nil ?_; show CW _ _ _ _ _ _) | refine rw_nil ?_
      repeat refine cw_seq ?_
      refine cw_region ?_
      refine rw_v (op_pure rfl) ?_
      refine rw_call rfl (isNaN_E b) ?_
      rintro _ w2_ ⟨rfl, g2_⟩
      have S := S.gr g2_
      refine rw_v (op_pure rfl) ?_
      first | refine rw_end ?_ | (refine rw_nil ?_; show CW _ _ _ _ _ _) | refine rw_nil ?_
      repeat refine cw_seq ?_
      refine cw_region ?_
      refine rw_v (op_pure rfl) ?_
      first | refine rw_end ?_ | (refine rw_nil ?_; show CW _ _ _ _ _ _) | refine rw_nil ?_
      repeat refine cw_seq ?_
      refine cw_false rfl ?_
      repeat refine cw_seq ?_
      refine cw_skip ?_
      try show CW _ _ _ _ _ _
      repeat refine cw_seq ?_
      refine cw_region ?_
      refine rw_v (op_pure rfl) ?_
      first | refine rw_end ?_ | (refine rw_nil ?_; show CW _ _ _ _ _ _) | refine rw_nil ?_
      repeat refine cw_seq ?_
      refine cw_false rfl ?_
      repeat refine cw_seq ?_
      refine cw_skip ?_
      try show CW _ _ _ _ _ _
      repeat refine cw_seq ?_
      refine cw_region ?_
      iterate 2 refine rw_v (op_pure rfl) ?_
      refine rw_v (op_b (b := false) rfl (decide_eq_false (by omega))) ?_
      first | refine rw_end ?_ | (refine rw_nil ?_; show CW _ _ _ _ _ _) | refine rw_nil ?_
      repeat refine cw_seq ?_
      refine cw_false rfl ?_
      repeat refine cw_seq ?_
      refine cw_skip ?_
      try show CW _ _ _ _ _ _
      repeat refine cw_seq ?_
      refine cw_region ?_
      iterate 2 refine rw_v (op_pure rfl) ?_
      refine rw_v (op_b (b := false) rfl (decide_eq_false (by omega))) ?_
      first | refine rw_end ?_ | (refine rw_nil ?_; show CW _ _ _ _ _ _) | refine rw_nil ?_
      repeat refine cw_seq ?_
      refine cw_false rfl ?_
      repeat refine cw_seq ?_
      refine cw_skip ?_
      try show CW _ _ _ _ _ _
      repeat refine cw_seq ?_
      refine cw_region ?_
      refine rw_v (op_pure rfl) ?_
      first | refine rw_end ?_ | (refine rw_nil ?_; show CW _ _ _ _ _ _) | refine rw_nil ?_
      repeat refine cw_seq ?_
      refine cw_ret ?_
      repeat first | refine ret_then ?_ | refine ret_inb ?_
      exact res1 rfl ⟨ie (by unfold cmpI; rw [if_neg h1, if_neg h2]), S.out⟩
end
/-! ### the neighbours as four that are there or not -/
def thN (gw n i : Nat) : Nat → Bool
  | 0 => decide (gw ≤ i)
  | 1 => decide (0 < i % gw)
  | 2 => decide (i % gw + 1 < gw)
  | _ => decide (i + gw < n)
def atZ (gw i : Nat) : Nat → Int
  | 0 => (i : Int) - gw
  | 1 => (i : Int) - 1
  | 2 => (i : Int) + 1
  | _ => (i : Int) + gw
def segN (gw n i : Nat) : Nat → List Nat
  | 0 => if gw ≤ i then [i - gw] else []
  | 1 => if 0 < i % gw then [i - 1] else []
  | 2 => if i % gw + 1 < gw then [i + 1] else []
  | _ => if i + gw < n then [i + gw] else []
def preN (gw n i : Nat) : Nat → List Nat
  | 0 => []
  | k + 1 => preN gw n i k ++ segN gw n i k
theorem preN_four (gw n i : Nat) : preN gw n i 4 = nearN gw n i := by
  simp only [preN, segN, nearN, List.nil_append]
theorem seg_spec {gw gh i : Nat} (hgw : 0 < gw) (hi : i < gw * gh) (k : Nat) (hk : k < 4) :
    (thN gw (gw * gh) i k = true ∧ ∃ a, atZ gw i k = (a : Nat) ∧ a < gw * gh ∧ segN gw (gw * gh) i k = [a]) ∨ (thN gw (gw * gh) i k = false ∧ segN gw (gw * gh) i k = []) := by
  have hn := next_lt (gh := gh) hgw hi
  have hp : 0 < i % gw → 1 ≤ i := fun h => by
    rcases Nat.eq_zero_or_pos i with h1 | h1
    · subst h1; simp at h
    · exact h1
  match k, hk with
  | 0, _ =>
    by_cases h : gw ≤ i
    · exact .inl ⟨decide_eq_true h, i - gw, by simp only [atZ]; omega, by omega, if_pos h⟩
    · exact .inr ⟨decide_eq_false h, if_neg h⟩
  | 1, _ =>
    by_cases h : 0 < i % gw
    · exact .inl ⟨decide_eq_true h, i - 1, by have := hp h; simp only [atZ]; omega, by omega, if_pos h⟩
    · exact .inr ⟨decide_eq_false h, if_neg h⟩
  | 2, _ =>
    by_cases h : i % gw + 1 < gw
    · exact .inl ⟨decide_eq_true h, i + 1, by simp only [atZ]; omega, hn h, if_pos h⟩
    · exact .inr ⟨decide_eq_false h, if_neg h⟩
  | 3, _ =>
    by_cases h : i + gw < gw * gh
    · exact .inl ⟨decide_eq_true h, i + gw, by simp only [atZ]; omega, h, if_pos h⟩
    · exact .inr ⟨decide_eq_false h, if_neg h⟩
def quadV (gw n i : Nat) : List Value := [.bool (thN gw n i 0), .int .i64 (atZ gw i 0), .bool (thN gw n i 1), .int .i64 (atZ gw i 1), .bool (thN gw n i 2), .int .i64 (atZ gw i 2), .bool (thN gw n i 3), .int .i64 (atZ gw i 3)]
theorem quadV_get {gw n i : Nat} (k : Nat) (hk : k < 4) : ((quadV gw n i).drop ((k : Int).toNat * 2)).take 2 = [.bool (thN gw n i k), .int .i64 (atZ gw i k)] := by
  match k, hk with
  | 0, _ => rfl
  | 1, _ => rfl
  | 2, _ => rfl
  | 3, _ => rfl
/-- the least of the neighbours that are less, the first of them; itself, if there is none -/
def flw (V : List Int) (i : Nat) (l : List Nat) : Nat := l.foldl (fun b n => if V.getD n 0 < V.getD b 0 then n else b) i
theorem flw_app (V : List Int) (i : Nat) (l r : List Nat) : flw V i (l ++ r) = flw V (flw V i l) r := List.foldl_append
theorem flw_cases (V : List Int) : ∀ (l : List Nat) (i : Nat), flw V i l = i ∨ (flw V i l ∈ l ∧ V.getD (flw V i l) 0 < V.getD i 0)
  | [], i => .inl rfl
  | n :: l, i => by
    show flw V (if V.getD n 0 < V.getD i 0 then n else i) l = i ∨ _
    have ih := flw_cases V l
    have e : flw V i (n :: l) = flw V (if V.getD n 0 < V.getD i 0 then n else i) l := rfl
    rw [e]
    by_cases h : V.getD n 0 < V.getD i 0
    · rw [if_pos h]
      rcases ih n with h1 | ⟨h1, h2⟩
      · rw [h1]; exact .inr ⟨List.mem_cons_self, h⟩
      · exact .inr ⟨List.mem_cons_of_mem _ h1, by omega⟩
    · rw [if_neg h]
      rcases ih i with h1 | ⟨h1, h2⟩
      · exact .inl h1
      · exact .inr ⟨List.mem_cons_of_mem _ h1, h2⟩
def flowN (gw : Nat) (V : List Int) (i : Nat) : Nat := flw V i (nearN gw V.length i)
theorem flowN_cases {gw gh : Nat} {V : List Int} (hgw : 0 < gw) (hV : V.length = gw * gh) {i : Nat} (hi : i < gw * gh) : flowN gw V i = i ∨ (flowN gw V i < gw * gh ∧ V.getD (flowN gw V i) 0 < V.getD i 0) := by
  rcases flw_cases V (nearN gw V.length i) i with h | ⟨h1, h2⟩
  · exact .inl h
  · rw [hV] at h1
    refine .inr ⟨?_, h2⟩
    have := ((nearN_mem hgw hi).1 h1).1
    unfold flowN
    rw [hV]
    exact this
theorem flowN_lt {gw gh : Nat} {V : List Int} (hgw : 0 < gw) (hV : V.length = gw * gh) {i : Nat} (hi : i < gw * gh) : flowN gw V i < gw * gh := by
  rcases flowN_cases hgw hV hi with h | h
  · rw [h]; exact hi
  · exact h.1
end Go.Proofs.Yteihfmifelcidaa

namespace Go.Proofs.Yteihfmifelcidaa
set_option linter.unusedVariables false
set_option linter.unusedSimpArgs false

def itr (f : Nat → Nat) : Nat → Nat → Nat
  | 0, i => i
  | k + 1, i => f (itr f k i)
theorem itr_out (f : Nat → Nat) : ∀ k i, itr f (k + 1) i = itr f k (f i)
  | 0, i => rfl
  | k + 1, i => congrArg f (itr_out f k i)
/-- a step that falls, or stays -/
structure Fall (n : Nat) (v : Nat → Int) (f : Nat → Nat) : Prop where
  lt : ∀ i, i < n → f i < n
  fall : ∀ i, i < n → f i = i ∨ v (f i) < v i
def Stop (f : Nat → Nat) (c k : Nat) : Prop := (∀ j, j < k → itr f (j + 1) c ≠ itr f j c) ∧ itr f (k + 1) c = itr f k c
section
variable {n : Nat} {v : Nat → Int} {f : Nat → Nat} {c k k' i : Nat}
theorem Stop.uniq (h : Stop f c k) (h' : Stop f c k') : k = k' := by
  rcases Nat.lt_trichotomy k k' with e | e | e
  · exact absurd h.2 (h'.1 k e)
  · exact e
  · exact absurd h'.2 (h.1 k' e)
theorem Fall.itr_lt (h : Fall n v f) (hc : c < n) : ∀ k, itr f k c < n
  | 0 => hc
  | k + 1 => h.lt _ (h.itr_lt hc k)
theorem Stop.stay (h : Stop f c k) : ∀ m, itr f (k + m) c = itr f k c
  | 0 => rfl
  | m + 1 => by
    show f (itr f (k + m) c) = _
    rw [h.stay m]; exact h.2
theorem Fall.stops (h : Fall n v f) : ∀ (r c : Nat), c < n → rank n v c ≤ r → ∃ k, Stop f c k ∧ k ≤ r
  | r, c, hc, hr => by
    rcases h.fall c hc with e | e
    · exact ⟨0, ⟨fun j hj => by omega, e⟩, Nat.zero_le _⟩
    · have h1 := rank_lt (n := n) (d := v) (i := f c) (j := c) (h.lt c hc) e
      cases r with
      | zero => omega
      | succ r =>
        obtain ⟨k, hk, hkr⟩ := h.stops r (f c) (h.lt c hc) (by omega)
        refine ⟨k + 1, ⟨fun j hj => ?_, ?_⟩, by omega⟩
        · cases j with
          | zero => show f c ≠ c; intro e2; rw [e2] at e; omega
          | succ j => rw [itr_out f (j + 1) c, itr_out f j c]; exact hk.1 j (by omega)
        · rw [itr_out f (k + 1) c, itr_out f k c]; exact hk.2
theorem Fall.stop (h : Fall n v f) (hc : c < n) : ∃ k, Stop f c k ∧ k < n := by
  obtain ⟨k, h1, h2⟩ := h.stops _ c hc (Nat.le_refl _)
  have := rank_top (n := n) (d := v) hc
  exact ⟨k, h1, by omega⟩
/-- where a way ends -/
def sinkN (f : Nat → Nat) (n i : Nat) : Nat := itr f n i
theorem Fall.sink_eq (h : Fall n v f) (hk : Stop f c k) (hc : c < n) : sinkN f n c = itr f k c := by
  obtain ⟨k', h1, h2⟩ := h.stop hc
  obtain rfl := hk.uniq h1
  have := hk.stay (n - k)
  rwa [show k + (n - k) = n by omega] at this
theorem Fall.sink_fix (h : Fall n v f) (hc : c < n) : f (sinkN f n c) = sinkN f n c := by
  obtain ⟨k, h1, h2⟩ := h.stop hc
  rw [h.sink_eq h1 hc]; exact h1.2
theorem Fall.sink_lt (h : Fall n v f) (hc : c < n) : sinkN f n c < n := h.itr_lt hc n
theorem sink_here {f : Nat → Nat} (n : Nat) {c : Nat} (h : f c = c) : sinkN f n c = c := by
  unfold sinkN
  induction n with
  | zero => rfl
  | succ n ih => show f (itr f n c) = c; rw [ih]; exact h
theorem Fall.sink_next (h : Fall n v f) (hc : c < n) : sinkN f n (f c) = sinkN f n c := by
  have h1 := itr_out f n c
  have h2 := h.sink_fix hc
  unfold sinkN at *
  rw [← h1]; exact h2
/-- the way, k steps of it -/
def wayN (f : Nat → Nat) (c k : Nat) : List Nat := (List.range (k + 1)).map fun j => itr f j c
theorem wayN_len : (wayN f c k).length = k + 1 := by simp [wayN]
theorem wayN_succ : wayN f c (k + 1) = wayN f c k ++ [itr f (k + 1) c] := by
  unfold wayN
  rw [List.range_succ, List.map_append]
  rfl
theorem wayN_get {j : Nat} (h : j < k + 1) : (wayN f c k)[j]? = some (itr f j c) := by simp [wayN, h]
theorem wayN_last : (wayN f c k)[k]? = some (itr f k c) := wayN_get (Nat.lt_succ_self k)
end
theorem flow_fall {gw gh : Nat} {V : List Int} (hgw : 0 < gw) (hV : V.length = gw * gh) : Fall (gw * gh) (fun i => V.getD i 0) (flowN gw V) :=
  ⟨fun i hi => flowN_lt hgw hV hi, fun i hi => (flowN_cases hgw hV hi).imp id (fun h => h.2)⟩
end Go.Proofs.Yteihfmifelcidaa
/- zones.values, zones.Mean: contracts. -/
namespace Go.Proofs.Yteihfmifelcidaa
open Go.RowKit
set_option linter.unusedVariables false
set_option linter.unusedSimpArgs false
set_option maxRecDepth 100000

section
variable {W : World} {A B : Option Addr} {p gw gh cap c n : Nat} {cc : Nat → Int} {bs : Nat → Nat} {Rs : Nat → Option Nat}
theorem gallZ_E : Fn Try.prog 38 [.pointer none] W (RetG (.agg #[.int .i64 0, .int .i64 0, .int .i64 0, .int .i64 0]) W) := by
  have S := St.start W
  refine Fn_enter Try.func38 rfl Try.results38 Try.ntmps38 (by kernel_rfl) (by kernel_rfl) ?_
  repeat refine cw_seq ?_
  refine cw_region ?_
  refine rw_newB (op_alloc Try.zeroValue81 rfl) S ?_
  intro b_r w2_ g2_ S
  first | refine rw_end ?_ | (refine rw_nil ?_; show CW _ _ _ _ _ _) | refine rw_nil ?_
  repeat refine cw_seq ?_
  refine cw_region ?_
  refine rw_v (op_pure rfl) ?_
  refine rw_v (op_nilp Try.underlying28 rfl rfl) ?_
  first | refine rw_end ?_ | (refine rw_nil ?_; show CW _ _ _ _ _ _) | refine rw_nil ?_
  repeat refine cw_seq ?_
  refine cw_true rfl ?_
  repeat refine cw_seq ?_
  refine cw_region ?_
  refine rw_v (op_build (pl := [(0, 1), (1, 1), (2, 1), (3, 1)]) Try.underlying81 Try.zeroValue81 (fun w => by kernel_rfl) rfl rfl) ?_
  refine rw_storeSA (i := 0) S rfl (Try.sizeOf81 _) rfl rfl rfl rfl rfl rfl ?_
  intro w3_ S
  first | refine rw_end ?_ | (refine rw_nil ?_; show CW _ _ _ _ _ _) | refine rw_nil ?_
  repeat refine cw_seq ?_
  refine cw_ret ?_
  repeat first | refine ret_then ?_ | refine ret_inb ?_
  exact resA Try.underlying81 rfl (Try.sizeOf81 _) rfl (S.blk (i := 0) rfl) rfl rfl ⟨rfl, S.out⟩
theorem gcheckZ_E (x0 y0 x1 y1 : Int) : Fn Try.prog 72 [.pointer none, .agg #[.int .i64 x0, .int .i64 y0, .int .i64 x1, .int .i64 y1]] W (RetG (.int .i64 1) W) := by
  have S := St.start W
  refine Fn_enter Try.func72 rfl Try.results72 Try.ntmps72 (by kernel_rfl) (by kernel_rfl) ?_
  repeat refine cw_seq ?_
  refine cw_region ?_
  refine rw_newB (op_box rfl) S ?_
  intro b_b1 w2_ g2_ S
  refine rw_v (op_pure rfl) ?_
  first | refine rw_end ?_ | (refine rw_nil ?_; show CW _ _ _ _ _ _) | refine rw_nil ?_
  repeat refine cw_seq ?_
  refine cw_region ?_
  refine rw_v (op_pure rfl) ?_
  refine rw_v (op_nilp Try.underlying28 rfl rfl) ?_
  first | refine rw_end ?_ | (refine rw_nil ?_; show CW _ _ _ _ _ _) | refine rw_nil ?_
  repeat refine cw_seq ?_
  refine cw_true rfl ?_
  repeat refine cw_seq ?_
  refine cw_region ?_
  refine rw_v (op_pure rfl) ?_
  first | refine rw_end ?_ | (refine rw_nil ?_; show CW _ _ _ _ _ _) | refine rw_nil ?_
  repeat refine cw_seq ?_
  refine cw_ret ?_
  repeat first | refine ret_then ?_ | refine ret_inb ?_
  exact res1 rfl ⟨rfl, S.out⟩
theorem gvalZ_E (x0 y0 x1 y1 : Int) : Fn Try.prog 37 [.pointer none, .agg #[.int .i64 x0, .int .i64 y0, .int .i64 x1, .int .i64 y1]] W (RetG (.tuple #[.slice none 0 0, .int .i64 1]) W) := by
  have S := St.start W
  refine Fn_enter Try.func37 rfl Try.results37 Try.ntmps37 (by kernel_rfl) (by kernel_rfl) ?_
  repeat refine cw_seq ?_
  refine cw_region ?_
  refine rw_newB (op_box rfl) S ?_
  intro b_r w2_ g2_ S
  iterate 2 refine rw_v (op_pure rfl) ?_
  first | refine rw_end ?_ | (refine rw_nil ?_; show CW _ _ _ _ _ _) | refine rw_nil ?_
  repeat refine cw_seq ?_
  refine cw_region ?_
  refine rw_v (op_pure rfl) ?_
  refine rw_r (op_loadAB Try.underlying81 rfl (Try.sizeOf81 _) rfl (S.blk (i := 0) rfl) rfl rfl) ?_
  refine rw_call rfl (gcheckZ_E (W := w2_) _ _ _ _) ?_
  rintro _ w3_ ⟨rfl, g3_⟩
  have S := S.gr g3_
  refine rw_v (op_pure rfl) ?_
  first | refine rw_end ?_ | (refine rw_nil ?_; show CW _ _ _ _ _ _) | refine rw_nil ?_
  repeat refine cw_seq ?_
  refine cw_region ?_
  refine rw_v (op_pure rfl) ?_
  refine rw_v (op_b (b := true) rfl (bne_iff_ne.2 (by omega))) ?_
  first | refine rw_end ?_ | (refine rw_nil ?_; show CW _ _ _ _ _ _) | refine rw_nil ?_
  repeat refine cw_seq ?_
  refine cw_true rfl ?_
  repeat refine cw_seq ?_
  refine cw_region ?_
  iterate 3 refine rw_v (op_pure rfl) ?_
  first | refine rw_end ?_ | (refine rw_nil ?_; show CW _ _ _ _ _ _) | refine rw_nil ?_
  repeat refine cw_seq ?_
  refine cw_ret ?_
  repeat first | refine ret_then ?_ | refine ret_inb ?_
  exact res2 rfl rfl ⟨rfl, S.out⟩
theorem zvalsNil_E : Fn Try.prog 55 [.pointer none, .slice B n c] W (RetG (.tuple #[.slice none 0 0, .int .i64 0, .int .i64 1]) W) := by
  have S := St.start W
  refine Fn_enter Try.func55 rfl Try.results55 Try.ntmps55 (by kernel_rfl) (by kernel_rfl) ?_
  repeat refine cw_seq ?_
  refine cw_region ?_
  iterate 3 refine rw_v (op_pure rfl) ?_
  first | refine rw_end ?_ | (refine rw_nil ?_; show CW _ _ _ _ _ _) | refine rw_nil ?_
  repeat refine cw_seq ?_
  refine cw_region ?_
  iterate 2 refine rw_v (op_pure rfl) ?_
  refine rw_call rfl (gallZ_E) ?_
  rintro _ w1_ ⟨rfl, g1_⟩
  have S := S.gr g1_
  refine rw_call rfl (gvalZ_E (W := w1_) 0 0 0 0) ?_
  rintro _ w2_ ⟨rfl, g2_⟩
  have S := S.gr g2_
  iterate 5 refine rw_v (op_pure rfl) ?_
  first | refine rw_end ?_ | (refine rw_nil ?_; show CW _ _ _ _ _ _) | refine rw_nil ?_
  repeat refine cw_seq ?_
  refine cw_block ?_
  repeat refine cw_seq ?_
  refine cw_region ?_
  refine rw_v (op_pure rfl) ?_
  refine rw_v (op_b (b := true) rfl (bne_iff_ne.2 (by omega))) ?_
  refine rw_v (op_pure rfl) ?_
  first | refine rw_end ?_ | (refine rw_nil ?_; show CW _ _ _ _ _ _) | refine rw_nil ?_
  repeat refine cw_seq ?_
  refine cw_true rfl ?_
  repeat refine cw_seq ?_
  refine cw_region ?_
  iterate 4 refine rw_v (op_pure rfl) ?_
  first | refine rw_end ?_ | (refine rw_nil ?_; show CW _ _ _ _ _ _) | refine rw_nil ?_
  repeat refine cw_seq ?_
  refine cw_ret ?_
  repeat first | refine ret_then ?_ | refine ret_inb ?_
  exact res3 rfl rfl rfl ⟨rfl, S.out⟩
theorem zval0 (hG : GridAt W p gw gh cc A cap bs Rs) : ∀ w, Gr W w → Fn Try.prog 37 [.pointer (some ⟨p, 0, none⟩), .agg #[.int .i64 0, .int .i64 0, .int .i64 (gw - 1), .int .i64 (gh - 1)]] w (RetNew (fun v => .tuple #[v, .int .i64 0]) 2 1 (gw * gh) (ints (gridL gw gh cc)) w) := fun w g => by
  have hw := hG.sw
  have hh := hG.sh
  have e1 : ((gw : Int) - 1) = ((gw - 1 : Nat) : Int) := by omega
  have e2 : ((gh : Int) - 1) = ((gh - 1 : Nat) : Int) := by omega
  have := gvalues_E (W := w) 0 0 (gw - 1) (gh - 1) (by omega) (by omega) (hG.gr g)
  rw [← e1, ← e2, show gw - 1 + 1 - 0 = gw by omega, show gh - 1 + 1 - 0 = gh by omega, rectV_all, Nat.mul_comm gh gw] at this
  exact this
theorem zvalsNo_E (hn : n ≠ gw * gh) (hG : GridAt W p gw gh cc A cap bs Rs) : Fn Try.prog 55 [.pointer (some ⟨p, 0, none⟩), .slice B n c] W (RetG (.tuple #[.slice none 0 0, .int .i64 0, .int .i64 6]) W) := by
  have hw := hG.sw
  have hh := hG.sh
  have hval := zval0 hG
  have S := St.start W
  refine Fn_enter Try.func55 rfl Try.results55 Try.ntmps55 (by kernel_rfl) (by kernel_rfl) ?_
  repeat refine cw_seq ?_
  refine cw_region ?_
  iterate 3 refine rw_v (op_pure rfl) ?_
  first | refine rw_end ?_ | (refine rw_nil ?_; show CW _ _ _ _ _ _) | refine rw_nil ?_
  repeat refine cw_seq ?_
  refine cw_region ?_
  iterate 2 refine rw_v (op_pure rfl) ?_
  refine rw_call rfl (gall_E p gw gh hw.2 hh.2 _ W (hG.top.gr S.out)) ?_
  rintro _ w1_ ⟨rfl, g1_⟩
  have S := S.gr g1_
  refine rw_call rfl (hval w1_ S.out) ?_
  rintro _ w2_ ⟨A_vs, c_vs, rfl, hR_vs, hf_vs, g2_⟩
  have S := S.pushRow hR_vs hf_vs g2_
  iterate 5 refine rw_v (op_pure rfl) ?_
  first | refine rw_end ?_ | (refine rw_nil ?_; show CW _ _ _ _ _ _) | refine rw_nil ?_
  repeat refine cw_seq ?_
  refine cw_block ?_
  repeat refine cw_seq ?_
  refine cw_region ?_
  refine rw_v (op_pure rfl) ?_
  refine rw_v (op_b (b := false) rfl (bne_eq_false_iff_eq.2 (by omega))) ?_
  refine rw_v (op_pure rfl) ?_
  first | refine rw_end ?_ | (refine rw_nil ?_; show CW _ _ _ _ _ _) | refine rw_nil ?_
  repeat refine cw_seq ?_
  refine cw_false rfl ?_
  repeat refine cw_seq ?_
  refine cw_region ?_
  refine rw_v (op_pure rfl) ?_
  refine rw_v (op_len Try.underlying22 rfl) ?_
  refine rw_v (op_pure rfl) ?_
  refine rw_v (op_len Try.underlying22 rfl) ?_
  refine rw_v (op_b (b := true) rfl (bne_iff_ne.2 (by omega))) ?_
  refine rw_v (op_pure rfl) ?_
  first | refine rw_end ?_ | (refine rw_nil ?_; show CW _ _ _ _ _ _) | refine rw_nil ?_
  repeat refine cw_seq ?_
  refine cw_true rfl ?_
  repeat refine cw_seq ?_
  refine cw_region ?_
  iterate 3 refine rw_v (op_pure rfl) ?_
  first | refine rw_end ?_ | (refine rw_nil ?_; show CW _ _ _ _ _ _) | refine rw_nil ?_
  repeat refine cw_seq ?_
  refine cw_ret ?_
  repeat first | refine ret_then ?_ | refine ret_inb ?_
  exact res3 rfl rfl rfl ⟨rfl, S.out⟩
theorem zvals_E (hG : GridAt W p gw gh cc A cap bs Rs) : Fn Try.prog 55 [.pointer (some ⟨p, 0, none⟩), .slice B (gw * gh) c] W (RetNew (fun v => .tuple #[v, .int .i64 gw, .int .i64 0]) 2 1 (gw * gh) (ints (gridL gw gh cc)) W) := by
  have hw := hG.sw
  have hh := hG.sh
  have hval := zval0 hG
  have S := St.start W
  refine Fn_enter Try.func55 rfl Try.results55 Try.ntmps55 (by kernel_rfl) (by kernel_rfl) ?_
  repeat refine cw_seq ?_
  refine cw_region ?_
  iterate 3 refine rw_v (op_pure rfl) ?_
  first | refine rw_end ?_ | (refine rw_nil ?_; show CW _ _ _ _ _ _) | refine rw_nil ?_
  repeat refine cw_seq ?_
  refine cw_region ?_
  iterate 2 refine rw_v (op_pure rfl) ?_
  refine rw_call rfl (gall_E p gw gh hw.2 hh.2 _ W (hG.top.gr S.out)) ?_
  rintro _ w1_ ⟨rfl, g1_⟩
  have S := S.gr g1_
  refine rw_call rfl (hval w1_ S.out) ?_
  rintro _ w2_ ⟨A_vs, c_vs, rfl, hR_vs, hf_vs, g2_⟩
  have S := S.pushRow hR_vs hf_vs g2_
  iterate 5 refine rw_v (op_pure rfl) ?_
  first | refine rw_end ?_ | (refine rw_nil ?_; show CW _ _ _ _ _ _) | refine rw_nil ?_
  repeat refine cw_seq ?_
  refine cw_block ?_
  repeat refine cw_seq ?_
  refine cw_region ?_
  refine rw_v (op_pure rfl) ?_
  refine rw_v (op_b (b := false) rfl (bne_eq_false_iff_eq.2 (by omega))) ?_
  refine rw_v (op_pure rfl) ?_
  first | refine rw_end ?_ | (refine rw_nil ?_; show CW _ _ _ _ _ _) | refine rw_nil ?_
  repeat refine cw_seq ?_
  refine cw_false rfl ?_
  repeat refine cw_seq ?_
  refine cw_region ?_
  refine rw_v (op_pure rfl) ?_
  refine rw_v (op_len Try.underlying22 rfl) ?_
  refine rw_v (op_pure rfl) ?_
  refine rw_v (op_len Try.underlying22 rfl) ?_
  refine rw_v (op_b (b := false) rfl (bne_eq_false_iff_eq.2 (by omega))) ?_
  refine rw_v (op_pure rfl) ?_
  first | refine rw_end ?_ | (refine rw_nil ?_; show CW _ _ _ _ _ _) | refine rw_nil ?_
  repeat refine cw_seq ?_
  refine cw_false rfl ?_
  repeat refine cw_seq ?_
  refine cw_skip ?_
  try show CW _ _ _ _ _ _
  repeat refine cw_seq ?_
  refine cw_region ?_
  refine rw_v (op_pure rfl) ?_
  refine rw_call rfl (gsize_E p gw gh _ w2_ (hG.top.gr S.out)) ?_
  rintro _ w3_ ⟨rfl, g3_⟩
  have S := S.gr g3_
  iterate 5 refine rw_v (op_pure rfl) ?_
  first | refine rw_end ?_ | (refine rw_nil ?_; show CW _ _ _ _ _ _) | refine rw_nil ?_
  repeat refine cw_seq ?_
  refine cw_region ?_
  iterate 5 refine rw_v (op_pure rfl) ?_
  first | refine rw_end ?_ | (refine rw_nil ?_; show CW _ _ _ _ _ _) | refine rw_nil ?_
  repeat refine cw_seq ?_
  refine cw_ret ?_
  repeat first | refine ret_then ?_ | refine ret_inb ?_
  exact res3 rfl rfl rfl (S.retNew (i := 0) rfl)
end
section
variable {W : World}
theorem zmeanNo_E (a b c d e f g : Int) (h : b < 1) : Fn Try.prog 28 [.agg #[.int .i64 a, .int .i64 b, .int .i64 c, .int .i64 d, .int .i64 e, .int .i64 f, .int .i64 g]] W (RetG (.tuple #[.int .i64 0, .int .i64 11]) W) := by
  have S := St.start W
  refine Fn_enter Try.func28 rfl Try.results28 Try.ntmps28 (by kernel_rfl) (by kernel_rfl) ?_
  repeat refine cw_seq ?_
  refine cw_region ?_
  refine rw_newB (op_box rfl) S ?_
  intro b_z w2_ g2_ S
  iterate 2 refine rw_v (op_pure rfl) ?_
  first | refine rw_end ?_ | (refine rw_nil ?_; show CW _ _ _ _ _ _) | refine rw_nil ?_
  repeat refine cw_seq ?_
  refine cw_region ?_
  refine rw_v (op_fieldAddr Try.underlying59 rfl Try.sizeOf2 rfl rfl) ?_
  refine rw_r (op_loadB Try.underlying2 rfl rfl (S.blk (i := 0) rfl) rfl) ?_
  refine rw_v (op_b (b := true) rfl (decide_eq_true (by omega))) ?_
  first | refine rw_end ?_ | (refine rw_nil ?_; show CW _ _ _ _ _ _) | refine rw_nil ?_
  repeat refine cw_seq ?_
  refine cw_true rfl ?_
  repeat refine cw_seq ?_
  refine cw_region ?_
  iterate 2 refine rw_v (op_pure rfl) ?_
  first | refine rw_end ?_ | (refine rw_nil ?_; show CW _ _ _ _ _ _) | refine rw_nil ?_
  repeat refine cw_seq ?_
  refine cw_ret ?_
  repeat first | refine ret_then ?_ | refine ret_inb ?_
  exact res2 rfl rfl ⟨rfl, S.out⟩
end
end Go.Proofs.Yteihfmifelcidaa
/- Maps from whole numbers to whole numbers that a call makes: a look-up, a store, a new one. -/
namespace Go.Proofs.Yteihfmifelcidaa
open Go.RowKit
set_option linter.unusedVariables false
set_option linter.unusedSimpArgs false

def entOk (e : MapEntry) : Prop := ∃ x y : Int, e.key = .int .i64 x ∧ e.val = .int .i64 y
def keyME (e : MapEntry) : Int := match e.key with
  | .int _ x => x
  | _ => 0
def valME (e : MapEntry) : Int := match e.val with
  | .int _ x => x
  | _ => 0
theorem entOk.key {e : MapEntry} (h : entOk e) : e.key = .int .i64 (keyME e) := by obtain ⟨x, y, h1, h2⟩ := h; unfold keyME; rw [h1]
theorem entOk.val {e : MapEntry} (h : entOk e) : e.val = .int .i64 (valME e) := by obtain ⟨x, y, h1, h2⟩ := h; unfold valME; rw [h2]
def lookE : List MapEntry → Int → Option Int
  | [], _ => none
  | e :: r, k => if keyME e = k then some (valME e) else lookE r k
def updM (m : Int → Option Int) (k v : Int) : Int → Option Int := fun x => if x = k then some v else m x
theorem updM_at {m : Int → Option Int} {k v : Int} : updM m k v k = some v := if_pos rfl
theorem updM_ne {m : Int → Option Int} {k v x : Int} (h : x ≠ k) : updM m k v x = m x := if_neg h
theorem find_none {k : Int} : ∀ {l : List MapEntry} {i : Nat}, (∀ e ∈ l, entOk e) → lookE l k = none → Instr.findNow (.int .i64) (.int .i64 k) l i = some none
  | [], _, _, _ => rfl
  | e :: r, i, h, hl => by
    have he := h e (by simp)
    unfold lookE at hl
    split at hl
    · cases hl
    · rename_i hne
      have hs : Instr.sameNow (.int .i64) (.int .i64 k) e.key = some false := by rw [he.key]; simp [Instr.sameNow]; exact fun h => hne h.symm
      unfold Instr.findNow
      rw [hs]
      exact find_none (l := r) (fun e he => h e (List.mem_cons_of_mem _ he)) hl
theorem find_some {k y : Int} : ∀ {l : List MapEntry} {i : Nat}, (∀ e ∈ l, entOk e) → lookE l k = some y → ∃ j, Instr.findNow (.int .i64) (.int .i64 k) l i = some (some (i + j, .int .i64 y)) ∧ (l[j]?).map (·.key) = some (.int .i64 k) ∧
      ∀ v k' : Int, lookE (l.modify j fun e => { e with key := .int .i64 k, val := .int .i64 v }) k' = if k' = k then some v else lookE l k'
  | [], _, _, h => by cases h
  | e :: r, i, h, hl => by
    have he := h e (by simp)
    unfold lookE at hl
    split at hl
    · rename_i hk
      injection hl with hl
      have hs : Instr.sameNow (.int .i64) (.int .i64 k) e.key = some true := by rw [he.key]; simp [Instr.sameNow, hk]
      refine ⟨0, ?_, by simp [he.key, hk], fun v k' => ?_⟩
      · unfold Instr.findNow
        rw [hs]
        show some (some (i, e.val)) = _
        rw [he.val, hl, Nat.add_zero]
      · simp only [List.modify_zero_cons, lookE]
        have e1 : keyME { key := .int .i64 k, val := .int .i64 v, born := e.born } = k := rfl
        have e2 : valME { key := .int .i64 k, val := .int .i64 v, born := e.born } = v := rfl
        rw [e1, e2, hk]
        by_cases hkk : k' = k
        · rw [if_pos hkk.symm, if_pos hkk]
        · rw [if_neg (fun h => hkk h.symm), if_neg hkk, if_neg (fun h => hkk h.symm)]
    · rename_i hne
      have hs : Instr.sameNow (.int .i64) (.int .i64 k) e.key = some false := by rw [he.key]; simp [Instr.sameNow]; exact fun h => hne h.symm
      obtain ⟨j, h1, h2, h3⟩ := find_some (l := r) (i := i + 1) (fun e he => h e (List.mem_cons_of_mem _ he)) hl
      refine ⟨j + 1, ?_, by simpa using h2, fun v k' => ?_⟩
      · unfold Instr.findNow
        rw [hs]
        show Instr.findNow _ _ r (i + 1) = _
        rw [h1]
        congr 3
        omega
      · simp only [List.modify_succ_cons, lookE]
        by_cases hkk : keyME e = k'
        · rw [if_pos hkk, if_neg (fun e1 => hne (hkk.trans e1)), if_pos hkk]
        · rw [if_neg hkk, if_neg hkk]; exact h3 v k'
theorem lookE_push {k v : Int} {c : Nat} : ∀ {l : List MapEntry}, lookE l k = none → ∀ k', lookE (l ++ [⟨.int .i64 k, .int .i64 v, c⟩]) k' = if k' = k then some v else lookE l k'
  | [], _, k' => by
    show (if keyME ⟨.int .i64 k, .int .i64 v, c⟩ = k' then _ else _) = _
    have e1 : keyME ⟨.int .i64 k, .int .i64 v, c⟩ = k := rfl
    rw [e1]
    by_cases hkk : k' = k
    · rw [if_pos hkk.symm, if_pos hkk]; rfl
    · rw [if_neg (fun h => hkk h.symm), if_neg hkk]
  | e :: r, hl, k' => by
    unfold lookE at hl
    split at hl
    · cases hl
    · rename_i hne
      simp only [List.cons_append, lookE]
      by_cases hkk : keyME e = k'
      · rw [if_pos hkk, if_neg (fun e1 => hne (hkk.trans e1)), if_pos hkk]
      · rw [if_neg hkk, if_neg hkk]; exact lookE_push (l := r) hl k'
/-- block b is a map that tells m -/
def MpI (w : World) (b : Nat) (m : Int → Option Int) : Prop := ∃ es clock, w.heap[b]? = some (.map es clock) ∧ (∀ e ∈ es.toList, entOk e) ∧ ∀ k, lookE es.toList k = m k
section
variable {P : Program} {ops : Array Oper} {Q : (Nat → Value) → World → Prop} {e : Nat → Value} {w w' : World} {rest : List Oper} {d : Option Tmp} {ty : TypeId} {ps : String} {af : Array Edge} {b : Nat} {m : Int → Option Int}
theorem MpI.lt (h : MpI w b m) : b < w.heap.size := by
  obtain ⟨es, c, h, _⟩ := h
  rcases Nat.lt_or_ge b w.heap.size with hlt | hge
  · exact hlt
  · rw [Array.getElem?_eq_none hge] at h; cases h
theorem MpI.keep (h : MpI w b m) (hk : w'.heap[b]? = w.heap[b]?) : MpI w' b m := by
  obtain ⟨es, c, h, h2⟩ := h
  exact ⟨es, c, hk.trans h, h2⟩
theorem MpI.congr {m' : Int → Option Int} (h : MpI w b m) (hm : ∀ k, m k = m' k) : MpI w b m' := by
  obtain ⟨es, c, h, h2, h3⟩ := h
  exact ⟨es, c, h, h2, fun k => (h3 k).trans (hm k)⟩
def HA.map (b : Nat) (m : Int → Option Int) : HA := ⟨fun g => g = b, fun w => MpI w b m, fun _ _ h _ hB => hB.keep (h b rfl), fun _ hB g hg => hg ▸ hB.lt⟩
theorem run_getObj_E {r : Nat} {es : Array MapEntry} {c : Nat} (h : w.heap[r]? = some (.map es c)) : (getObj r).run P w = .ok (.map es c) w := by
  simp [getObj, Sem.run, h]
theorem run_setObj_map {r : Nat} {es : Array MapEntry} {c : Nat} (o : Obj) (h : w.heap[r]? = some (.map es c)) : (setObj r o).run P w = .ok () { w with heap := w.heap.setIfInBounds r o } := by
  simp [setObj, Sem.run, h]
theorem run_checkKey_int {kt : TypeId} (hk : P.underlying kt = some (.int .i64)) (em : Bool) (k : Int) : (Instr.checkKey em 10000 kt (.int .i64 k)).run P w = .ok () w := by
  unfold Instr.checkKey
  simp [run_underlying hk]
theorem run_look {t kt et : TypeId} (hu : P.underlying t = some (.map kt et)) (hk : P.underlying kt = some (.int .i64)) (hz : (zeroValue et).run P w = .ok (.int .i64 0) w) (h : MpI w b m) (k : Int) (ok : Bool) :
    (Instr.lookup t (.map (some b)) (.int .i64 k) ok).run P w = .ok (if ok then .tuple #[.int .i64 ((m k).getD 0), .bool (m k).isSome] else .int .i64 ((m k).getD 0)) w := by
  obtain ⟨es, c, hb, hent, hm⟩ := h
  cases hl : lookE es.toList k with
  | none =>
    have h1 := find_none (i := 0) hent hl
    have h2 : m k = none := (hm k).symm.trans hl
    cases ok <;> simp [Instr.lookup, run_underlying hu, run_getObj_E hb, run_checkKey_int hk, Instr.findKey, run_underlying hk, h1, hz, h2]
  | some y =>
    obtain ⟨j, h1, _⟩ := find_some (i := 0) hent hl
    have h2 : m k = some y := (hm k).symm.trans hl
    cases ok <;> simp [Instr.lookup, run_underlying hu, run_getObj_E hb, run_checkKey_int hk, Instr.findKey, run_underlying hk, h1, h2]
theorem run_upd {t kt et : TypeId} (hu : P.underlying t = some (.map kt et)) (hk : P.underlying kt = some (.int .i64)) (h : MpI w b m) (k v : Int) :
    ∃ w', (Instr.mapUpdate t (.map (some b)) (.int .i64 k) (.int .i64 v)).run P w = .ok () w' ∧ w.grownBy w' (some b) ∧ MpI w' b (updM m k v) := by
  obtain ⟨es, c, hb, hent, hm⟩ := h
  have hlt : b < w.heap.size := MpI.lt ⟨es, c, hb, hent, hm⟩
  have hgr : ∀ o : Obj, w.grownBy { w with heap := w.heap.setIfInBounds b o } (some b) := fun o =>
    ⟨rfl, rfl, rfl, by simp, fun i _ hi => by simp only [Array.getElem?_setIfInBounds]; rw [if_neg (fun e => hi (by rw [e]))]⟩
  have hat : ∀ o : Obj, ({ w with heap := w.heap.setIfInBounds b o } : World).heap[b]? = some o := fun o => by simp [hlt]
  cases hl : lookE es.toList k with
  | none =>
    have h1 := find_none (i := 0) hent hl
    refine ⟨_, ?_, hgr (.map (es.push ⟨.int .i64 k, .int .i64 v, c⟩) (c + 1)), _, _, hat _, fun e he => ?_, fun k' => ?_⟩
    · simp [Instr.mapUpdate, run_underlying hu, run_getObj_E hb, run_checkKey_int hk, Instr.findKey, run_underlying hk, h1, run_setObj_map _ hb]
    · simp only [Array.toList_push, List.mem_append, List.mem_singleton] at he
      rcases he with he | rfl
      · exact hent e he
      · exact ⟨k, v, rfl, rfl⟩
    · rw [Array.toList_push, lookE_push hl, hm k']; rfl
  | some y =>
    obtain ⟨j, h1, h2, h3⟩ := find_some (i := 0) hent hl
    rw [Nat.zero_add] at h1
    refine ⟨_, ?_, hgr (.map (es.modify j fun e => { e with key := .int .i64 k, val := .int .i64 v }) c), _, _, hat _, fun e he => ?_, fun k' => ?_⟩
    · have h4 : (es[j]?.map (·.key)).getD (.int .i64 k) = .int .i64 k := by
        have : es.toList[j]? = es[j]? := by simp
        rw [this] at h2
        rw [h2]; rfl
      have h5 : Instr.sameBits 10000 (.int .i64 k) (.int .i64 k) = true := by unfold Instr.sameBits; simp
      have h6 : (Instr.keyThatStays (.int .i64 k) (.int .i64 k)).run P w = .ok (.int .i64 k) w := by unfold Instr.keyThatStays; simp [h5]
      simp only [Instr.mapUpdate, Sem.run_bind, run_underlying hu, Result.andThen_ok, run_getObj_E hb, run_checkKey_int hk, Instr.findKey, run_underlying hk, h1, Sem.run_pure, h4, h6, run_setObj_map _ hb]
    · simp only [Array.toList_modify] at he
      obtain ⟨i, hi, rfl⟩ := List.mem_iff_getElem.1 he
      rw [List.getElem_modify]
      split
      · exact ⟨k, v, rfl, rfl⟩
      · exact hent _ (List.getElem_mem _)
    · rw [Array.toList_modify, h3 v k', hm k']; rfl
theorem op_look {t kt et : TypeId} {x i : Operand} {k : Int} (hu : P.underlying t = some (.map kt et)) (hk : P.underlying kt = some (.int .i64)) (hz : (zeroValue et).run P w = .ok (.int .i64 0) w) (hx : ev e x = .map (some b)) (hi : ev e i = .int .i64 k) (h : MpI w b m) :
    OpR P e ⟨d, .lookup t x i false, ty, ps, af, none⟩ w (.int .i64 ((m k).getD 0)) := by
  have := run_look (P := P) hu hk hz h k false
  simp [OpR, execOp, hx, hi, this]
theorem op_lookOk {t kt et : TypeId} {x i : Operand} {k : Int} (hu : P.underlying t = some (.map kt et)) (hk : P.underlying kt = some (.int .i64)) (hz : (zeroValue et).run P w = .ok (.int .i64 0) w) (hx : ev e x = .map (some b)) (hi : ev e i = .int .i64 k) (h : MpI w b m) :
    OpR P e ⟨d, .lookup t x i true, ty, ps, af, none⟩ w (.tuple #[.int .i64 ((m k).getD 0), .bool (m k).isSome]) := by
  have := run_look (P := P) hu hk hz h k true
  simp [OpR, execOp, hx, hi, this]
variable {F : Nat → Prop} {W : World} {L L' : List HA}
theorem St.map (S : St F W w L) {i : Nat} (hi : getO L i = some (.map b m)) : MpI w b m := S.ok hi
theorem rw_mapUpd {i : Nat} {t kt et : TypeId} {x y z : Operand} {k v : Int} (S : St F W w L) (hi : getO L i = some (.map b m)) (hu : P.underlying t = some (.map kt et)) (hk : P.underlying kt = some (.int .i64)) (hx : ev e x = .map (some b)) (hy : ev e y = .int .i64 k) (hv : ev e z = .int .i64 v)
    (hs : setO L i (.map b (updM m k v)) = some L') (hr : ∀ w', St F W w' L' → RW P ops Q rest (updO e d undef) w') : RW P ops Q (⟨d, .mapUpdate t x y z, ty, ps, af, none⟩ :: rest) e w := by
  obtain ⟨w', hrun, hg, hM⟩ := run_upd (P := P) hu hk (S.map hi) k v
  refine rw_s (w' := w') ?_ (hr w' ?_)
  · simp [execOp, hx, hy, hv, hrun]
  · exact S.set hi hs (Fr.of_grown (F := fun b' => b' = b) hg (fun b e => by injection e with e; exact e.symm)) (fun b e => .inl e) hM (fun b e => .inl e)
theorem rw_makeMap {t : TypeId} (S : St F W w L) (hr : ∀ b w', Gr w w' → St F W w' (.map b (fun _ => none) :: L) → RW P ops Q rest (updO e d (.map (some b))) w') : RW P ops Q (⟨d, .makeMap t none, ty, ps, af, none⟩ :: rest) e w := by
  refine rw_w (v := .map (some w.heap.size)) (w' := w.alloc (.map #[] 0)) ?_ (hr _ _ (Gr.alloc w _) ?_)
  · have := @run_makeMap P t w
    simp [execOp, this]
  · exact S.push (Gr.alloc w _) (h := .map w.heap.size fun _ => none) ⟨#[], 0, heap_alloc_new w _, (fun e he => by simp at he), fun k => rfl⟩ (fun g hg => by rw [hg]; exact Nat.le_refl _)
end
end Go.Proofs.Yteihfmifelcidaa
/- Regions that draw their order and append one element to a row: the parts of memory as the class. -/
namespace Go.Proofs.Yteihfmifelcidaa
open Go.RowKit
set_option linter.unusedVariables false
set_option linter.unusedSimpArgs false

def CS (F : Nat → Prop) (W : World) (L : List HA) (i el k n : Nat) (xs ys : List Value) (wq : World) : List Value → Prop
  | [] => St F W wq L
  | [v] => ∃ A', v = .slice A' 1 1 ∧ St F W wq (.row el k A' 1 1 ys :: L)
  | [u, _] => ∃ A' c' L', u = .slice A' (n + 1) c' ∧ setO L i (.row el k A' (n + 1) c' (xs ++ ys)) = some L' ∧ St F W wq L'
  | _ => False
section
variable {F : Nat → Prop} {W : World} {L : List HA} {i el k n : Nat} {xs ys : List Value} {wq w' : World} {τ : List Value}
theorem CS.gr (h : CS F W L i el k n xs ys wq τ) (g : Gr wq w') : CS F W L i el k n xs ys w' τ := by
  match τ, h with
  | [], h => exact St.gr (show St F W wq L from h) g
  | [v], ⟨A', e, h⟩ => exact ⟨A', e, h.gr g⟩
  | [u, v], ⟨A', c', L', e, hs, h⟩ => exact ⟨A', c', L', e, hs, h.gr g⟩
theorem setO_other : ∀ (L L' : List HA) (i j : Nat) (h : HA), setO L i h = some L' → j ≠ i → getO L' j = getO L j := by
  intro L
  induction L with
  | nil => intro L' i j h hs _; cases i <;> simp [setO] at hs
  | cons a L ih =>
    intro L' i j h hs hj
    cases i with
    | zero =>
      simp only [setO, Option.some.injEq] at hs
      subst hs
      cases j with
      | zero => exact absurd rfl hj
      | succ j => rfl
    | succ i =>
      simp only [setO] at hs
      cases hM : setO L i h with
      | none => rw [hM] at hs; cases hs
      | some M =>
        rw [hM] at hs
        obtain rfl := Option.some.inj hs
        cases j with
        | zero => rfl
        | succ j => exact ih M i j h hM (fun e => hj (by omega))
theorem CS.ok (h : CS F W L i el k n xs ys wq τ) {j : Nat} (hj : j ≠ i) {x : HA} (hx : getO L j = some x) : x.ok wq := by
  match τ, h with
  | [], h => exact St.ok (show St F W wq L from h) hx
  | [v], ⟨A', e, h⟩ => exact h.ok (i := j + 1) hx
  | [u, v], ⟨A', c', L', e, hs, h⟩ => exact h.ok (i := j) ((setO_other _ _ _ _ _ hs hj).trans hx)
theorem CS.frw (h : CS F W L i el k n xs ys wq τ) : Fr F W wq := by
  match τ, h with
  | [], h => exact St.fr (show St F W wq L from h)
  | [v], ⟨A', e, h⟩ => exact h.fr
  | [u, v], ⟨A', c', L', e, hs, h⟩ => exact h.fr
end
section
variable {P : Program} {e : Nat → Value} {d : Option Tmp} {ty : TypeId} {ps : String} {af : Array Edge} {F : Nat → Prop} {W wq : World} {L : List HA}
theorem to_buildCS {t el : TypeId} {i k n : Nat} {parts : List (Nat × Operand)} {z : Value} {l0 l xs : List Value} (hq : CS F W L i el k n xs l wq []) (hu : P.underlying t = some (.slice el)) (hs : ∀ w, (sizeOf el).run P w = .ok k w) (hz : ∀ w, (zeroValue el).run P w = .ok z w) (hk : z.cells.toList.length = k) (hk0 : Nat.beq (1 * k) 0 = false) (hn : Nat.ble (1 * k) 16777216 = true)
    (h1 : lay (fun i => some (i * k, k)) ((List.replicate 1 z.cells.toList).flatten) (evp e parts) = some l0) (h2 : fzl l0 = some l) (hl : Nat.beq l.length (1 * k) = true) :
    opTo P e ⟨d, .buildSlice t 1 parts.toArray, ty, ps, af, none⟩ wq (fun v w' => CS F W L i el k n xs l w' [v]) := by
  refine to_w (op_buildSlice hu hs hz hk hk0 hn h1 h2) ?_
  have S : St F W wq L := hq
  refine ⟨_, rfl, S.push (Gr.alloc _ _) (h := .row el k (some ⟨wq.heap.size, 0, none⟩) 1 1 l) (Row.of_blk (Blk.new _ _ _) (Nat.eq_of_beq_eq_true hl) (by unfold maxLen; omega)) (fun g hg => ?_)⟩
  have : wq.heap.size = g := by injection hg
  omega
theorem to_appCS {i : Nat} {s x : Operand} {t el bytes k n c : Nat} {A : Option Addr} {z v : Value} {xs ys : List Value} (hq : CS F W L i el k n xs ys wq [v]) (hi : getO L i = some (.row el k A n c xs)) (hf : ∀ h, ∃ L', setO L i h = some L')
    (hu : P.underlying t = some (.slice el)) (hI : (P.info? el).map (fun i => (i.zero, i.size, i.bytes)) = some (some z, k, bytes)) (hz : Nat.beq z.cells.size k = true) (hk : Nat.blt 0 k = true)
    (hs : ev e s = .slice A n c) (hx : ev e x = v) (hm : ys.length = 1 * k) (h1 : (ys.all fun v => v.oneCell') = true) (hb : (n + 1) * (bytes + 1) ≤ 140737488355328) :
    opTo P e ⟨d, .call ⟨.builtin .append, #[s, x], #[t, t]⟩, ty, ps, af, none⟩ wq (fun u w' => CS F W L i el k n xs ys w' [u, v]) := by
  obtain ⟨A6, rfl, S6⟩ := hq
  have hR : Rd wq A6 ys := (S6.row (i := 0) rfl).rd
  have S : St F W wq L := S6.drop 1
  obtain ⟨inf, hinf, hz0, hz1, hz2⟩ := info_parts hI
  have hk0 : 0 < k := Nat.le_of_ble_eq_true hk
  have hz' := Nat.eq_of_beq_eq_true hz
  have hb1 : (n + 1) * bytes ≤ 140737488355328 := Nat.le_trans (Nat.mul_le_mul_left _ (by omega)) hb
  have hb2 : n + 1 ≤ 140737488355328 := Nat.le_trans (Nat.le_mul_of_pos_right _ (by omega)) hb
  have hRow := S.row hi
  have hpos : 0 < ys.length := by omega
  obtain ⟨b, o, rfl⟩ := hR.someA hpos
  obtain ⟨v', w', hrun, ho, hg, _, hob⟩ := run_append_own_at (P := P) wq 0 t ty el inf z k bytes hu hinf hz0 hz1 hz2 hz' hk0 (.slice A n c) n xs hRow ⟨b, o, none⟩ 1 1 ys hm
    (fun j u hu => by rw [addr_add]; exact hR.cell rfl hu) (fun u hu => List.all_eq_true.1 h1 u hu) (by unfold maxLen; omega) hb1 (by omega)
  obtain ⟨A', c', rfl⟩ := Own.form ho
  have hRow' : Row w' el k A' (n + 1) c' (xs ++ ys) := ho
  obtain ⟨L', hL'⟩ := hf (.row el k A' (n + 1) c' (xs ++ ys))
  refine to_w (v := .slice A' (n + 1) c') (w' := w') ?_ ⟨A', c', L', rfl, hL', ?_⟩
  · simp [execOp, resolve, invoke, builtin, hs, hx, hrun]
  · refine S.set hi hL' (Fr.of_grown (F := fun g => ownA A g) hg (fun g e => ?_)) (fun g e => .inl e) hRow' (fun g e => ?_)
    · cases A with
      | none => cases e
      | some a => exact e
    · have e' : (Value.slice A' (n + 1) c').ownBlock = some g := by
        cases A' with
        | none => cases e
        | some a => exact e
      rw [e'] at hob
      rcases hob with h | h
      · left
        cases A with
        | none => cases h
        | some a => exact h.symm
      · injection h with h; right; omega
end
end Go.Proofs.Yteihfmifelcidaa
