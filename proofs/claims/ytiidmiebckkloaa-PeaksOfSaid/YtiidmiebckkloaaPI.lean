/- Costs of ways, the plain law: the cheapest costs are told by what holds between neighbours; what a walk by falling queue, and one by rounds, come to. -/
import Derived.Test.YtiidmiebckkloaaPG
import Derived.Test.YtiidmiebckkloaaPC
namespace Go.Proofs.Ytiidmiebckkloaa
set_option linter.unusedVariables false
set_option linter.unusedSimpArgs false

def st (V : List Int) (i j : Nat) : Int := 1 + max (V.getD i 0 - V.getD j 0) (-(V.getD i 0 - V.getD j 0))
theorem st_pos (V : List Int) (i j : Nat) : 1 ≤ st V i j := by unfold st; omega
theorem st_symm (V : List Int) (i j : Nat) : st V i j = st V j i := by unfold st; omega
structure IsDist (gw : Nat) (V : List Int) (a : Nat) (d : Nat → Int) : Prop where
  zero : d a = 0
  nn : ∀ i, i < V.length → 0 ≤ d i
  le : ∀ i j, i < V.length → j < V.length → Side gw i j → d j ≤ d i + st V i j
  pred : ∀ j, j < V.length → j ≠ a → ∃ i, i < V.length ∧ Side gw i j ∧ d j = d i + st V i j
theorem IsDist.le_of {gw a : Nat} {V : List Int} {d d' : Nat → Int} (h : IsDist gw V a d) (h0 : d' a ≤ 0) (hle : ∀ i j, i < V.length → j < V.length → Side gw i j → d' i ≤ d i → d' j ≤ d' i + st V i j) : ∀ j, j < V.length → d' j ≤ d j := by
  have key : ∀ (n : Nat) (j : Nat), j < V.length → d j < n → d' j ≤ d j := by
    intro n
    induction n with
    | zero => intro j hj hn; have := h.nn j hj; omega
    | succ n ih =>
      intro j hj hn
      by_cases e : j = a
      · subst e; rw [h.zero]; exact h0
      · obtain ⟨i, hi, s, he⟩ := h.pred j hj e
        have := st_pos V i j
        have h1 := ih i hi (by omega)
        have := hle i j hi hj s h1
        omega
  exact fun j hj => key ((d j).toNat + 1) j hj (by have := h.nn j hj; omega)
theorem IsDist.uniq {gw a : Nat} {V : List Int} {d d' : Nat → Int} (h : IsDist gw V a d) (h' : IsDist gw V a d') {j : Nat} (hj : j < V.length) : d j = d' j := by
  have h1 := h.le_of (d' := d') (by rw [h'.zero]; exact Int.le_refl _) (fun i j hi hj s _ => h'.le i j hi hj s) j hj
  have h2 := h'.le_of (d' := d) (by rw [h.zero]; exact Int.le_refl _) (fun i j hi hj s _ => h.le i j hi hj s) j hj
  omega

/-! ### Neighbours, and what hangs together -/
theorem mod_next {gw i : Nat} (hgw : 0 < gw) : (i + 1) % gw = if i % gw + 1 = gw then 0 else i % gw + 1 := by
  have h := Nat.mod_lt i hgw
  have e := Nat.div_add_mod i gw
  by_cases h1 : i % gw + 1 = gw
  · rw [if_pos h1, show i + 1 = gw * (i / gw + 1) by rw [Nat.mul_add, Nat.mul_one]; omega, Nat.mul_mod_right]
  · rw [if_neg h1, show i + 1 = gw * (i / gw) + (i % gw + 1) by omega, Nat.mul_add_mod, Nat.mod_eq_of_lt (by omega)]
def nearN (gw n i : Nat) : List Nat :=
  (if gw ≤ i then [i - gw] else []) ++ (if 0 < i % gw then [i - 1] else []) ++ (if i % gw + 1 < gw then [i + 1] else []) ++ (if i + gw < n then [i + gw] else [])
theorem nearN_len (gw n i : Nat) : (nearN gw n i).length ≤ 4 := by
  unfold nearN
  simp only [List.length_append]
  split <;> split <;> split <;> split <;> simp
theorem next_lt {gw gh i : Nat} (hgw : 0 < gw) (hi : i < gw * gh) (h : i % gw + 1 < gw) : i + 1 < gw * gh := by
  have hd : i / gw < gh := Nat.div_lt_of_lt_mul hi
  have e := Nat.div_add_mod i gw
  have h2 : gw * (i / gw + 1) ≤ gw * gh := Nat.mul_le_mul_left _ hd
  rw [Nat.mul_add, Nat.mul_one] at h2
  omega
theorem nearN_mem {gw gh i j : Nat} (hgw : 0 < gw) (hi : i < gw * gh) : j ∈ nearN gw (gw * gh) i ↔ j < gw * gh ∧ Side gw i j := by
  have hm := mod_next (i := i) hgw
  have hlt := Nat.mod_lt i hgw
  have hn := next_lt (gh := gh) hgw hi
  unfold nearN Side
  simp only [List.mem_append]
  constructor
  · rintro (((h | h) | h) | h)
    · split at h
      · simp only [List.mem_singleton] at h; subst h; omega
      · cases h
    · split at h
      · rename_i h0
        simp only [List.mem_singleton] at h; subst h
        have : 1 ≤ i := by rcases Nat.eq_zero_or_pos i with h | h; · subst h; simp at h0
                           · exact h
        omega
      · cases h
    · split at h
      · simp only [List.mem_singleton] at h; subst h
        refine ⟨hn (by assumption), .inr (.inl ⟨rfl, ?_⟩)⟩
        rw [hm, if_neg (by omega)]; omega
      · cases h
    · split at h
      · simp only [List.mem_singleton] at h; subst h; omega
      · cases h
  · rintro ⟨hj, ⟨e, h0⟩ | ⟨e, h0⟩ | e | e⟩
    · refine .inl (.inl (.inr ?_)); rw [if_pos h0]; simp; omega
    · refine .inl (.inr ?_)
      subst e
      rw [hm] at h0
      by_cases h1 : i % gw + 1 = gw
      · rw [if_pos h1] at h0; omega
      · rw [if_pos (by omega)]; simp
    · refine .inl (.inl (.inl ?_)); rw [if_pos (by omega)]; simp; omega
    · refine .inr ?_; rw [if_pos (by omega)]; simp; omega
theorem grid_conn {gw gh : Nat} {P : Nat → Prop} (hgw : 0 < gw) (hP : ∀ i j, i < gw * gh → j < gw * gh → Side gw i j → P i → P j) {a : Nat} (ha : a < gw * gh) (h : P a) : ∀ i, i < gw * gh → P i := by
  have key : ∀ i, i < gw * gh → (P i ↔ P 0) := by
    intro i
    induction i using Nat.strongRecOn with
    | _ i ih =>
      intro hi
      by_cases h0 : 0 < i % gw
      · have h1 : 1 ≤ i := by rcases Nat.eq_zero_or_pos i with h | h; · subst h; simp at h0
                              · exact h
        have s : Side gw i (i - 1) := .inl ⟨by omega, h0⟩
        exact ⟨fun p => (ih (i - 1) (by omega) (by omega)).1 (hP _ _ hi (by omega) s p), fun p => hP _ _ (by omega) hi s.symm ((ih (i - 1) (by omega) (by omega)).2 p)⟩
      · by_cases h1 : gw ≤ i
        · have s : Side gw i (i - gw) := .inr (.inr (.inl (by omega)))
          exact ⟨fun p => (ih (i - gw) (by omega) (by omega)).1 (hP _ _ hi (by omega) s p), fun p => hP _ _ (by omega) hi s.symm ((ih (i - gw) (by omega) (by omega)).2 p)⟩
        · have : i = 0 := by rw [Nat.mod_eq_of_lt (by omega)] at h0; omega
          rw [this]
  exact fun i hi => (key i hi).2 ((key a ha).1 h)

/-! ### How many are known -/
def cntS (n : Nat) (o : Nat → Int) : Nat := ((List.range n).filter fun i => decide (0 ≤ o i)).length
def updI (o : Nat → Int) (k : Nat) (c : Int) : Nat → Int := fun i => if i = k then c else o i
theorem cntS_le (n : Nat) (o : Nat → Int) : cntS n o ≤ n := by
  have := List.length_filter_le (fun i => decide (0 ≤ o i)) (List.range n)
  simpa [cntS] using this
theorem cntS_upd {o : Nat → Int} {k : Nat} {c : Int} (hc : 0 ≤ c) (ho : o k < 0) : ∀ n, cntS n (updI o k c) = cntS n o + (if k < n then 1 else 0)
  | 0 => by simp [cntS]
  | n + 1 => by
    have ih := cntS_upd hc ho n
    unfold cntS at *
    rw [List.range_succ, List.filter_append, List.filter_append, List.length_append, List.length_append, ih]
    by_cases e : n = k
    · subst e
      have h1 : (updI o n c) n = c := by simp [updI]
      simp [h1, hc]
      omega
    · have h1 : (updI o k c) n = o n := by simp [updI, e]
      simp only [List.filter_cons, List.filter_nil, h1]
      split <;> split <;> split <;> simp <;> omega

/-! ### The queue's walk -/
def far : Int := 4294967297
structure DJ (gw gh : Nat) (V : List Int) (a : Nat) (o : Nat → Int) (Q : List (Int × Nat)) (X : Nat → Nat → Prop) : Prop where
  ent : ∀ x ∈ Q, x.2 < gw * gh ∧ 0 ≤ x.1 ∧ ((x.2 = a ∧ x.1 = 0) ∨ ∃ p, p < gw * gh ∧ 0 ≤ o p ∧ Side gw p x.2 ∧ x.1 = o p + st V p x.2)
  zero : 0 ≤ o a → o a = 0
  pred : ∀ j, j < gw * gh → j ≠ a → 0 ≤ o j → ∃ i, i < gw * gh ∧ Side gw i j ∧ 0 ≤ o i ∧ o j = o i + st V i j
  le : ∀ i j, i < gw * gh → j < gw * gh → Side gw i j → 0 ≤ o i → 0 ≤ o j → o j ≤ o i + st V i j
  front : ∀ p j, p < gw * gh → j < gw * gh → Side gw p j → 0 ≤ o p → o j < 0 → ¬ X p j → (o p + st V p j, j) ∈ Q
  start : o a < 0 → ((0 : Int), a) ∈ Q
  low : ∀ p, p < gw * gh → 0 ≤ o p → ∀ x ∈ Q, o p ≤ x.1
  bnd : ∀ x ∈ Q, x.1 ≤ cntS (gw * gh) o * far
  obnd : ∀ p, p < gw * gh → o p ≤ cntS (gw * gh) o * far
section
variable {gw gh a : Nat} {V : List Int} {o : Nat → Int} {Q Q' : List (Int × Nat)} {X : Nat → Nat → Prop}
theorem DJ.init (ha : a < gw * gh) : DJ gw gh V a (fun _ => -1) [(0, a)] (fun _ _ => False) where
  ent := fun x hx => by simp at hx; subst hx; exact ⟨ha, Int.le_refl _, .inl ⟨rfl, rfl⟩⟩
  zero := fun h => by omega
  pred := fun j _ _ h => by omega
  le := fun i j _ _ _ h => by omega
  front := fun p j _ _ _ h => by omega
  start := fun _ => by simp
  low := fun p _ h => by omega
  bnd := fun x hx => by simp at hx; subst hx; unfold far; show (0 : Int) ≤ _; omega
  obnd := fun p _ => by unfold far; show (-1 : Int) ≤ _; omega
theorem DJ.perm (h : DJ gw gh V a o Q X) (hp : ∀ x, x ∈ Q' ↔ x ∈ Q) : DJ gw gh V a o Q' X :=
  ⟨fun x hx => h.ent x ((hp x).1 hx), h.zero, h.pred, h.le, fun p j a b c d e f => (hp _).2 (h.front p j a b c d e f), fun e => (hp _).2 (h.start e), fun p a b x hx => h.low p a b x ((hp x).1 hx), fun x hx => h.bnd x ((hp x).1 hx), h.obnd⟩
/-- one comes out that is known -/
theorem DJ.skip {x : Int × Nat} (h : DJ gw gh V a o (x :: Q) X) (hx : 0 ≤ o x.2) : DJ gw gh V a o Q X := by
  have hne : ∀ c j, o j < 0 → (c, j) ∈ x :: Q → (c, j) ∈ Q := fun c j hj hm => by
    rcases List.mem_cons.1 hm with e | e
    · subst e; dsimp only at hx; omega
    · exact e
  exact ⟨fun y hy => h.ent y (List.mem_cons_of_mem _ hy), h.zero, h.pred, h.le, fun p j a b c d e f => hne _ _ e (h.front p j a b c d e f), fun e => hne _ _ e (h.start e), fun p a b y hy => h.low p a b y (List.mem_cons_of_mem _ hy),
    fun y hy => h.bnd y (List.mem_cons_of_mem _ hy), h.obnd⟩
/-- behind a cell that came to be known: what of its neighbours isn't laid yet is spared -/
structure DJM (gw gh : Nat) (V : List Int) (a : Nat) (o : Nat → Int) (Q : List (Int × Nat)) (cur : Nat) (todo : List Nat) : Prop where
  dj : DJ gw gh V a o Q (fun p j => p = cur ∧ j ∈ todo)
  cur_lt : cur < gw * gh
  cur0 : 0 ≤ o cur
  top : ∀ p, p < gw * gh → 0 ≤ o p → o p ≤ o cur
  room : o cur + far ≤ cntS (gw * gh) o * far
  todo_ok : ∀ j ∈ todo, j < gw * gh ∧ Side gw cur j
theorem DJ.take {x : Int × Nat} (hgw : 0 < gw) (h : DJ gw gh V a o (x :: Q) (fun _ _ => False)) (hx : o x.2 < 0) (hmin : ∀ y ∈ Q, x.1 ≤ y.1) : DJM gw gh V a (updI o x.2 x.1) Q x.2 (nearN gw (gw * gh) x.2) := by
  obtain ⟨hlt, h0, hent⟩ := h.ent x List.mem_cons_self
  have hoe : ∀ p, 0 ≤ o p → updI o x.2 x.1 p = o p := fun p hp => by unfold updI; rw [if_neg (by rintro rfl; omega)]
  have hself : updI o x.2 x.1 x.2 = x.1 := by unfold updI; rw [if_pos rfl]
  have hothers : ∀ p, p ≠ x.2 → updI o x.2 x.1 p = o p := fun p hp => by unfold updI; rw [if_neg hp]
  have hcnt : cntS (gw * gh) (updI o x.2 x.1) = cntS (gw * gh) o + 1 := by rw [cntS_upd h0 hx, if_pos hlt]
  have hxb := h.bnd x List.mem_cons_self
  have hne : ∀ c j, j ≠ x.2 → (c, j) ∈ x :: Q → (c, j) ∈ Q := fun c j hj hm => by
    rcases List.mem_cons.1 hm with e | e
    · subst e; exact absurd rfl hj
    · exact e
  refine ⟨⟨fun y hy => ?_, fun ha => ?_, fun j hj hja hj0 => ?_, fun i j hi hj s hi0 hj0 => ?_, fun p j hp hj s hp0 hj0 hX => ?_, fun ha => ?_, fun p hp hp0 y hy => ?_, fun y hy => ?_, fun p hp => ?_⟩, hlt, by rw [hself]; exact h0, fun p hp hp0 => ?_, ?_, fun j hj => (nearN_mem hgw hlt).1 hj⟩
  · obtain ⟨g1, g2, g3⟩ := h.ent y (List.mem_cons_of_mem _ hy)
    refine ⟨g1, g2, g3.imp id fun ⟨p, p1, p2, p3, p4⟩ => ⟨p, p1, ?_, p3, ?_⟩⟩
    · rw [hoe p p2]; exact p2
    · rw [hoe p p2]; exact p4
  · by_cases e : a = x.2
    · rw [e, hself]
      have := h.start (by rw [e]; exact hx)
      rcases List.mem_cons.1 this with e2 | e2
      · rw [← e2]
      · have := hmin _ e2; dsimp only at this; omega
    · rw [hothers a e] at ha ⊢; exact h.zero ha
  · by_cases e : j = x.2
    · subst e
      rcases hent with ⟨e2, _⟩ | ⟨p, p1, p2, p3, p4⟩
      · exact absurd e2 hja
      · exact ⟨p, p1, p3, by rw [hoe p p2]; exact p2, by rw [hself, hoe p p2]; exact p4⟩
    · rw [hothers j e] at hj0 ⊢
      obtain ⟨i, i1, i2, i3, i4⟩ := h.pred j hj hja hj0
      exact ⟨i, i1, i2, by rw [hoe i i3]; exact i3, by rw [hoe i i3]; exact i4⟩
  · have hst := st_pos V i j
    by_cases ei : i = x.2
    · by_cases ej : j = x.2
      · subst ei; subst ej; omega
      · rw [hothers j ej] at hj0 ⊢
        have := h.low j hj hj0 x List.mem_cons_self
        rw [ei, hself, ← ei]; omega
    · rw [hothers i ei] at hi0 ⊢
      by_cases ej : j = x.2
      · have := h.front i j hi hj s hi0 (by rw [ej]; exact hx) (fun f => f)
        rw [ej, hself, ← ej]
        rcases List.mem_cons.1 this with e | e
        · rw [← e]; exact Int.le_refl _
        · exact hmin _ e
      · rw [hothers j ej] at hj0 ⊢; exact h.le i j hi hj s hi0 hj0
  · have ej : j ≠ x.2 := by rintro rfl; rw [hself] at hj0; omega
    rw [hothers j ej] at hj0
    by_cases ep : p = x.2
    · exact absurd ⟨ep, (nearN_mem hgw hlt).2 ⟨hj, ep ▸ s⟩⟩ hX
    · rw [hothers p ep] at hp0 ⊢
      exact hne _ _ ej (h.front p j hp hj s hp0 hj0 (fun f => f))
  · have e : a ≠ x.2 := by rintro e; rw [e, hself] at ha; omega
    rw [hothers a e] at ha
    exact hne _ _ e (h.start ha)
  · by_cases ep : p = x.2
    · rw [ep, hself]; exact hmin y hy
    · rw [hothers p ep] at hp0 ⊢; exact h.low p hp hp0 y (List.mem_cons_of_mem _ hy)
  · have := h.bnd y (List.mem_cons_of_mem _ hy)
    rw [hcnt]; unfold far at *; push_cast; omega
  · rw [hcnt]
    by_cases ep : p = x.2
    · rw [ep, hself]; unfold far at *; push_cast; omega
    · rw [hothers p ep]; have := h.obnd p hp; unfold far at *; push_cast; omega
  · rw [hself]
    by_cases ep : p = x.2
    · rw [ep, hself]; exact Int.le_refl _
    · rw [hothers p ep] at hp0 ⊢; exact h.low p hp hp0 x List.mem_cons_self
  · rw [hself, hcnt]; unfold far at *; push_cast; omega
theorem DJM.known {cur j : Nat} {todo : List Nat} (h : DJM gw gh V a o Q cur (j :: todo)) (hj : 0 ≤ o j) : DJM gw gh V a o Q cur todo := by
  refine ⟨⟨h.dj.ent, h.dj.zero, h.dj.pred, h.dj.le, fun p k hp hk s hp0 hk0 hX => h.dj.front p k hp hk s hp0 hk0 ?_, h.dj.start, h.dj.low, h.dj.bnd, h.dj.obnd⟩, h.cur_lt, h.cur0, h.top, h.room, fun k hk => h.todo_ok k (List.mem_cons_of_mem _ hk)⟩
  rintro ⟨e, hm⟩
  rcases List.mem_cons.1 hm with rfl | hm
  · omega
  · exact hX ⟨e, hm⟩
theorem DJM.push {cur j : Nat} {todo : List Nat} (h : DJM gw gh V a o Q cur (j :: todo)) (hstb : st V cur j ≤ far) (hp : ∀ x, x ∈ Q' ↔ x = (o cur + st V cur j, j) ∨ x ∈ Q) : DJM gw gh V a o Q' cur todo := by
  have hj := h.todo_ok j List.mem_cons_self
  have hst := st_pos V cur j
  have h0 := h.cur0
  have hroom := h.room
  refine ⟨⟨fun x hx => ?_, h.dj.zero, h.dj.pred, h.dj.le, fun p k hp' hk s hp0 hk0 hX => (hp _).2 ?_, fun ha => (hp _).2 (.inr (h.dj.start ha)), fun p hp' hp0 x hx => ?_, fun x hx => ?_, h.dj.obnd⟩, h.cur_lt, h.cur0, h.top, h.room, fun k hk => h.todo_ok k (List.mem_cons_of_mem _ hk)⟩
  · rcases (hp x).1 hx with rfl | hx
    · exact ⟨hj.1, by show 0 ≤ o cur + st V cur j; omega, .inr ⟨cur, h.cur_lt, h.cur0, hj.2, rfl⟩⟩
    · exact h.dj.ent x hx
  · by_cases e : p = cur ∧ k = j
    · obtain ⟨rfl, rfl⟩ := e; exact .inl rfl
    · refine .inr (h.dj.front p k hp' hk s hp0 hk0 ?_)
      rintro ⟨e1, hm⟩
      rcases List.mem_cons.1 hm with e2 | hm
      · exact e ⟨e1, e2⟩
      · exact hX ⟨e1, hm⟩
  · rcases (hp x).1 hx with rfl | hx
    · have := h.top p hp' hp0; show o p ≤ o cur + st V cur j; omega
    · exact h.dj.low p hp' hp0 x hx
  · rcases (hp x).1 hx with rfl | hx
    · show o cur + st V cur j ≤ _; omega
    · exact h.dj.bnd x hx
theorem DJM.done {cur : Nat} (h : DJM gw gh V a o Q cur []) : DJ gw gh V a o Q (fun _ _ => False) :=
  ⟨h.dj.ent, h.dj.zero, h.dj.pred, h.dj.le, fun p k hp hk s hp0 hk0 _ => h.dj.front p k hp hk s hp0 hk0 (by rintro ⟨_, hm⟩; cases hm), h.dj.start, h.dj.low, h.dj.bnd, h.dj.obnd⟩
theorem DJ.finish (hgw : 0 < gw) (hV : V.length = gw * gh) (ha : a < gw * gh) (h : DJ gw gh V a o [] (fun _ _ => False)) : IsDist gw V a o := by
  have ha0 : 0 ≤ o a := by
    rcases Int.lt_or_le (o a) 0 with e | e
    · exact absurd (h.start e) (by simp)
    · exact e
  have hall : ∀ i, i < gw * gh → 0 ≤ o i := grid_conn hgw (P := fun i => 0 ≤ o i) (fun i j hi hj s hi0 => by
    rcases Int.lt_or_le (o j) 0 with e | e
    · exact absurd (h.front i j hi hj s hi0 e (fun f => f)) (by simp)
    · exact e) ha ha0
  refine ⟨h.zero ha0, fun i hi => hall i (hV ▸ hi), fun i j hi hj s => h.le i j (hV ▸ hi) (hV ▸ hj) s (hall i (hV ▸ hi)) (hall j (hV ▸ hj)), fun j hj hja => ?_⟩
  obtain ⟨i, i1, i2, _, i4⟩ := h.pred j (hV ▸ hj) hja (hall j (hV ▸ hj))
  exact ⟨i, hV ▸ i1, i2, i4⟩
end

/-! ### Costs that fall by rounds; the route -/
/-! ### How many are cheaper -/
theorem filt_le {p q : Nat → Bool} (h : ∀ i, p i = true → q i = true) : ∀ n, ((List.range n).filter p).length ≤ ((List.range n).filter q).length
  | 0 => by simp
  | n + 1 => by
    have ih := filt_le h n
    rw [List.range_succ, List.filter_append, List.filter_append, List.length_append, List.length_append]
    by_cases hp : p n = true
    · simp [hp, h n hp]; omega
    · simp [hp]; omega
theorem filt_lt {p q : Nat → Bool} (h : ∀ i, p i = true → q i = true) {k : Nat} (hq : q k = true) (hp : p k = false) : ∀ n, k < n → ((List.range n).filter p).length < ((List.range n).filter q).length
  | 0, hk => by omega
  | n + 1, hk => by
    rw [List.range_succ, List.filter_append, List.filter_append, List.length_append, List.length_append]
    by_cases e : k = n
    · subst e
      have := filt_le h k
      simp [hp, hq]; omega
    · have ih := filt_lt h hq hp n (by omega)
      by_cases hpn : p n = true
      · simp [hpn, h n hpn]; omega
      · simp [hpn]; omega
def rank (n : Nat) (d : Nat → Int) (j : Nat) : Nat := ((List.range n).filter fun i => decide (d i < d j)).length
theorem rank_lt {n : Nat} {d : Nat → Int} {i j : Nat} (hi : i < n) (h : d i < d j) : rank n d i < rank n d j :=
  filt_lt (fun k hk => by simp only [decide_eq_true_eq] at *; omega) (k := i) (by simpa using h) (by simp) n hi
theorem rank_top {n : Nat} {d : Nat → Int} {j : Nat} (hj : j < n) : rank n d j < n := by
  have := filt_lt (p := fun i => decide (d i < d j)) (q := fun _ => true) (fun _ _ => rfl) (k := j) rfl (by simp) n hj
  rw [List.filter_eq_self.2 (fun _ _ => rfl), List.length_range] at this
  exact this
theorem cntS_same {o : Nat → Int} {k : Nat} {c : Int} (hc : 0 ≤ c) (ho : 0 ≤ o k) (n : Nat) : cntS n (updI o k c) = cntS n o := by
  unfold cntS
  congr 1
  refine List.filter_congr fun i _ => ?_
  unfold updI
  split
  · rename_i e; subst e; simp [hc, ho]
  · rfl

/-! ### Rounds -/
structure BF (gw gh : Nat) (V : List Int) (a : Nat) (d : Nat → Int) (r : Nat) (fell : Bool) (E : Nat → Nat → Prop) (o : Nat → Int) : Prop where
  zero : o a = 0
  ge : ∀ j, j < gw * gh → 0 ≤ o j → d j ≤ o j
  bnd : ∀ j, j < gw * gh → o j ≤ cntS (gw * gh) o * far
  rk : ∀ j, j < gw * gh → rank (gw * gh) d j ≤ r → o j = d j
  rel : ∀ p j, p < gw * gh → j < gw * gh → Side gw p j → E p j → rank (gw * gh) d p ≤ r → 0 ≤ o j ∧ o j ≤ d p + st V p j
  quiet : fell = false → ∀ p j, p < gw * gh → j < gw * gh → Side gw p j → E p j → 0 ≤ o p → 0 ≤ o j ∧ o j ≤ o p + st V p j
section
variable {gw gh a r : Nat} {V : List Int} {d o : Nat → Int} {fell : Bool} {E E' : Nat → Nat → Prop}
theorem BF.start (hV : V.length = gw * gh) (hd : IsDist gw V a d) (ha : a < gw * gh) : BF gw gh V a d 0 false (fun _ _ => False) (updI (fun _ => -1) a 0) := by
  have e : ∀ j, j ≠ a → updI (fun _ => (-1 : Int)) a 0 j = -1 := fun j hj => by unfold updI; rw [if_neg hj]
  have ea : updI (fun _ => (-1 : Int)) a 0 a = 0 := by unfold updI; rw [if_pos rfl]
  refine ⟨ea, fun j hj h0 => ?_, fun j hj => ?_, fun j hj hr => ?_, fun _ _ _ _ _ h => h.elim, fun _ _ _ _ _ _ h => h.elim⟩
  · by_cases ej : j = a
    · subst ej; rw [ea, hd.zero]; exact Int.le_refl _
    · rw [e j ej] at h0; omega
  · have : (updI (fun _ => (-1 : Int)) a 0) j ≤ 0 := by unfold updI; split <;> first | omega | (show (-1 : Int) ≤ 0; omega)
    have h2 : (0 : Int) ≤ (cntS (gw * gh) (updI (fun _ => -1) a 0) : Nat) * far := by unfold far; omega
    omega
  · by_cases ej : j = a
    · subst ej; rw [ea, hd.zero]
    · obtain ⟨i, hi, _, he⟩ := hd.pred j (hV ▸ hj) ej
      have := st_pos V i j
      have := rank_lt (n := gw * gh) (d := d) (i := i) (j := j) (hV ▸ hi) (by omega)
      omega
theorem BF.weaken (h : BF gw gh V a d r fell E o) (hE : ∀ p j, p < gw * gh → j < gw * gh → Side gw p j → E' p j → E p j) : BF gw gh V a d r fell E' o :=
  ⟨h.zero, h.ge, h.bnd, h.rk, fun p j a b s e => h.rel p j a b s (hE p j a b s e), fun f p j a b s e => h.quiet f p j a b s (hE p j a b s e)⟩
/-- a cell that no cost is known of yet -/
theorem BF.pass (hV : V.length = gw * gh) (hd : IsDist gw V a d) {i : Nat} (hi : i < gw * gh) (h : BF gw gh V a d r fell (fun p _ => p < i) o) (ho : o i < 0) : BF gw gh V a d r fell (fun p _ => p < i + 1) o := by
  have hn := hd.nn i (by omega)
  refine ⟨h.zero, h.ge, h.bnd, h.rk, fun p j hp hj s e hr => ?_, fun f p j hp hj s e h0 => ?_⟩
  · by_cases e1 : p = i
    · subst e1; have := h.rk p hp hr; omega
    · exact h.rel p j hp hj s (show p < i by omega) hr
  · by_cases e1 : p = i
    · subst e1; omega
    · exact h.quiet f p j hp hj s (show p < i by omega) h0
def EdgT (i : Nat) (todo : List Nat) (p j : Nat) : Prop := p < i ∨ (p = i ∧ j ∉ todo)
theorem BF.enter (hgw : 0 < gw) {i : Nat} (hi : i < gw * gh) (h : BF gw gh V a d r fell (fun p _ => p < i) o) : BF gw gh V a d r fell (EdgT i (nearN gw (gw * gh) i)) o :=
  h.weaken fun p j hp hj s e => by
    rcases e with e | ⟨rfl, e⟩
    · exact e
    · exact absurd ((nearN_mem hgw hi).2 ⟨hj, s⟩) e
theorem BF.leave {i : Nat} (h : BF gw gh V a d r fell (EdgT i []) o) : BF gw gh V a d r fell (fun p _ => p < i + 1) o :=
  h.weaken fun p j hp hj s (e : p < i + 1) => by
    by_cases e1 : p = i
    · exact .inr ⟨e1, by simp⟩
    · exact .inl (by omega)
theorem BF.stay {i j : Nat} {todo : List Nat} (hi : i < gw * gh) (h : BF gw gh V a d r fell (EdgT i (j :: todo)) o) (h0 : 0 ≤ o j) (hle : o j ≤ o i + st V i j) : BF gw gh V a d r fell (EdgT i todo) o := by
  have hE : ∀ p k, EdgT i todo p k → EdgT i (j :: todo) p k ∨ (p = i ∧ k = j) := fun p k e => by
    rcases e with e | ⟨e, hm⟩
    · exact .inl (.inl e)
    · by_cases ek : k = j
      · exact .inr ⟨e, ek⟩
      · exact .inl (.inr ⟨e, by simp [ek, hm]⟩)
  refine ⟨h.zero, h.ge, h.bnd, h.rk, fun p k hp hk s e hr => ?_, fun f p k hp hk s e hp0 => ?_⟩
  · rcases hE p k e with e | ⟨rfl, rfl⟩
    · exact h.rel p k hp hk s e hr
    · rw [← h.rk p hp hr]; exact ⟨h0, hle⟩
  · rcases hE p k e with e | ⟨rfl, rfl⟩
    · exact h.quiet f p k hp hk s e hp0
    · exact ⟨h0, hle⟩
theorem BF.fall (hV : V.length = gw * gh) (hd : IsDist gw V a d) {i j : Nat} {todo : List Nat} (hi : i < gw * gh) (hj : j < gw * gh) (s : Side gw i j) (hs : st V i j ≤ far) (h : BF gw gh V a d r fell (EdgT i (j :: todo)) o) (hoi : 0 ≤ o i)
    (hlt : o j < 0 ∨ o i + st V i j < o j) : BF gw gh V a d r true (EdgT i todo) (updI o j (o i + st V i j)) := by
  have hst := st_pos V i j
  have hself : updI o j (o i + st V i j) j = o i + st V i j := by unfold updI; rw [if_pos rfl]
  have hoth : ∀ k, k ≠ j → updI o j (o i + st V i j) k = o k := fun k hk => by unfold updI; rw [if_neg hk]
  have hja : j ≠ a := by rintro rfl; have := h.zero; omega
  have hcnt : (o i + st V i j ≤ cntS (gw * gh) (updI o j (o i + st V i j)) * far) ∧ cntS (gw * gh) o ≤ cntS (gw * gh) (updI o j (o i + st V i j)) := by
    have hb := h.bnd i hi
    by_cases e : o j < 0
    · rw [cntS_upd (by omega) e, if_pos hj]; unfold far at *; push_cast; omega
    · rw [cntS_same (by omega) (by omega)]; have := h.bnd j hj; omega
  have hE : ∀ p k, EdgT i todo p k → EdgT i (j :: todo) p k ∨ (p = i ∧ k = j) := fun p k e => by
    rcases e with e | ⟨e, hm⟩
    · exact .inl (.inl e)
    · by_cases ek : k = j
      · exact .inr ⟨e, ek⟩
      · exact .inl (.inr ⟨e, by simp [ek, hm]⟩)
  refine ⟨by rw [hoth a (fun e => hja e.symm)]; exact h.zero, fun k hk h0 => ?_, fun k hk => ?_, fun k hk hr => ?_, fun p k hp hk s' e hr => ?_, fun f => by cases f⟩
  · by_cases ek : k = j
    · subst ek; rw [hself]; have := hd.le i k (hV ▸ hi) (hV ▸ hj) s; have := h.ge i hi hoi; omega
    · rw [hoth k ek] at h0 ⊢; exact h.ge k hk h0
  · by_cases ek : k = j
    · subst ek; rw [hself]; exact hcnt.1
    · rw [hoth k ek]; have := h.bnd k hk; have := hcnt.2; unfold far at *; omega
  · by_cases ek : k = j
    · subst ek
      have h1 := h.rk k hk hr
      have h2 := hd.nn k (hV ▸ hk)
      have h3 := hd.le i k (hV ▸ hi) (hV ▸ hk) s
      have h4 := h.ge i hi hoi
      omega
    · rw [hoth k ek]; exact h.rk k hk hr
  · by_cases ek : k = j
    · subst ek
      rw [hself]
      refine ⟨by omega, ?_⟩
      rcases hE p k e with e | ⟨rfl, _⟩
      · have := h.rel p k hp hk s' e hr; omega
      · have := h.rk p hp hr; omega
    · rw [hoth k ek]
      rcases hE p k e with e | ⟨_, e⟩
      · exact h.rel p k hp hk s' e hr
      · exact absurd e ek
theorem BF.still (hV : V.length = gw * gh) (hd : IsDist gw V a d) (h : BF gw gh V a d r false (fun p _ => p < gw * gh) o) (ha : a < gw * gh) (hgw : 0 < gw) : ∀ j, j < gw * gh → o j = d j := by
  have hpos : ∀ j, j < gw * gh → 0 ≤ o j := grid_conn hgw (P := fun i => 0 ≤ o i) (fun i j hi hj s h0 => (h.quiet rfl i j hi hj s hi h0).1) ha (by rw [h.zero]; exact Int.le_refl _)
  intro j hj
  have h1 := hd.le_of (d' := o) (by rw [h.zero]; exact Int.le_refl _) (fun i j hi hj s _ => (h.quiet rfl i j (hV ▸ hi) (hV ▸ hj) s (hV ▸ hi) (hpos i (hV ▸ hi))).2) j (hV ▸ hj)
  have h2 := h.ge j hj (hpos j hj)
  omega
theorem BF.next (hV : V.length = gw * gh) (hd : IsDist gw V a d) (h : BF gw gh V a d r fell (fun p _ => p < gw * gh) o) : BF gw gh V a d (r + 1) false (fun _ _ => False) o := by
  refine ⟨h.zero, h.ge, h.bnd, fun j hj hr => ?_, fun _ _ _ _ _ e => e.elim, fun _ _ _ _ _ _ e => e.elim⟩
  by_cases e : j = a
  · subst e; rw [h.zero, hd.zero]
  · obtain ⟨i, hi, s, he⟩ := hd.pred j (hV ▸ hj) e
    have := st_pos V i j
    have hrk := rank_lt (n := gw * gh) (d := d) (i := i) (j := j) (hV ▸ hi) (by omega)
    have h1 := h.rel i j (hV ▸ hi) hj s (hV ▸ hi) (by omega)
    have h2 := h.ge j hj h1.1
    omega
theorem BF.last (h : BF gw gh V a d r fell E o) (hr : gw * gh ≤ r) : ∀ j, j < gw * gh → o j = d j := fun j hj => h.rk j hj (by have := rank_top (d := d) hj; omega)
end

/-! ### The route -/
def nextN (gw : Nat) (V : List Int) (d : Nat → Int) (i : Nat) : Nat := ((nearN gw V.length i).find? fun j => d j + st V i j == d i).getD i
def routeF (gw : Nat) (V : List Int) (d : Nat → Int) (b : Nat) : Nat → Nat → List Nat
  | 0, i => [i]
  | k + 1, i => if i = b then [i] else i :: routeF gw V d b k (nextN gw V d i)
section
variable {gw gh b : Nat} {V : List Int} {d : Nat → Int}
theorem nextN_ok (hgw : 0 < gw) (hV : V.length = gw * gh) (hd : IsDist gw V b d) {i : Nat} (hi : i < gw * gh) (h : i ≠ b) :
    ∃ pre post, nearN gw V.length i = pre ++ nextN gw V d i :: post ∧ (∀ j ∈ pre, d j + st V i j ≠ d i) ∧ d (nextN gw V d i) + st V i (nextN gw V d i) = d i ∧ nextN gw V d i < gw * gh ∧ Side gw i (nextN gw V d i) := by
  obtain ⟨j, hj, s, he⟩ := hd.pred i (hV ▸ hi) h
  have hmem : j ∈ nearN gw V.length i := by rw [hV]; exact (nearN_mem hgw hi).2 ⟨hV ▸ hj, s.symm⟩
  have hsome : ((nearN gw V.length i).find? fun j => d j + st V i j == d i).isSome = true := by
    rw [List.find?_isSome]
    exact ⟨j, hmem, by rw [st_symm, ← he]; simp⟩
  obtain ⟨k, hk⟩ := Option.isSome_iff_exists.1 hsome
  have hn : nextN gw V d i = k := by unfold nextN; rw [hk]; rfl
  obtain ⟨hp, pre, post, e, hpre⟩ := List.find?_eq_some_iff_append.1 hk
  have hkm : k ∈ nearN gw V.length i := List.mem_of_find?_eq_some hk
  rw [hV] at hkm
  have h2 := (nearN_mem hgw hi).1 hkm
  rw [hn]
  refine ⟨pre, post, e, fun j hj => ?_, by simpa using hp, h2.1, h2.2⟩
  have := hpre j hj
  simpa using this
theorem routeF_more (hgw : 0 < gw) (hV : V.length = gw * gh) (hd : IsDist gw V b d) : ∀ (k : Nat) (i : Nat), i < gw * gh → d i ≤ k → routeF gw V d b (k + 1) i = routeF gw V d b k i
  | 0, i, hi, h => by
    have : i = b := by
      by_cases e : i = b
      · exact e
      · obtain ⟨j, hj, s, he⟩ := hd.pred i (hV ▸ hi) e
        have := st_pos V j i
        have := hd.nn j hj
        omega
    simp [routeF, this]
  | k + 1, i, hi, h => by
    by_cases e : i = b
    · simp [routeF, e]
    · obtain ⟨_, _, _, _, he, hlt, _⟩ := nextN_ok hgw hV hd hi e
      have := st_pos V i (nextN gw V d i)
      have ih := routeF_more hgw hV hd k (nextN gw V d i) hlt (by omega)
      rw [routeF, if_neg e, ih]
      rw [routeF, if_neg e]
def routeL (gw : Nat) (V : List Int) (d : Nat → Int) (b i : Nat) : List Nat := routeF gw V d b (d i).toNat i
theorem routeL_here (hd : IsDist gw V b d) : routeL gw V d b b = [b] := by unfold routeL; rw [hd.zero]; rfl
theorem routeF_big (hgw : 0 < gw) (hV : V.length = gw * gh) (hd : IsDist gw V b d) {i : Nat} (hi : i < gw * gh) : ∀ m : Nat, routeF gw V d b ((d i).toNat + m) i = routeL gw V d b i
  | 0 => rfl
  | m + 1 => by rw [← Nat.add_assoc, routeF_more hgw hV hd _ i hi (by omega), routeF_big hgw hV hd hi m]
theorem routeL_step (hgw : 0 < gw) (hV : V.length = gw * gh) (hd : IsDist gw V b d) {i : Nat} (hi : i < gw * gh) (h : i ≠ b) : routeL gw V d b i = i :: routeL gw V d b (nextN gw V d i) := by
  obtain ⟨_, _, _, _, he, hlt, _⟩ := nextN_ok hgw hV hd hi h
  have hst := st_pos V i (nextN gw V d i)
  have h0 := hd.nn (nextN gw V d i) (hV ▸ hlt)
  have e1 : (d i).toNat = (d (nextN gw V d i)).toNat + ((d i).toNat - 1 - (d (nextN gw V d i)).toNat) + 1 := by omega
  rw [routeL, e1, routeF, if_neg h, routeF_big hgw hV hd hlt]
end
instance (gw i j : Nat) : Decidable (Side gw i j) := by unfold Side; infer_instance
end Go.Proofs.Ytiidmiebckkloaa
/- Arrays as values; cmp.Compare of whole numbers; a cell's neighbours as a list of four. -/
namespace Go.Proofs.Ytiidmiebckkloaa
open Go.RowKit
set_option linter.unusedVariables false
set_option linter.unusedSimpArgs false
set_option maxRecDepth 100000

section
variable {P : Program} {e : Nat → Value} {d : Option Tmp} {ty : TypeId} {ps : String} {af : Array Edge}
/-- an array's literal -/
theorem op_buildArr {t el : TypeId} {len k : Nat} {parts : List (Nat × Operand)} {z : Value} {l0 l : List Value} (hu : P.underlying t = some (.array len el)) (hs : ∀ w, (sizeOf el).run P w = .ok k w) (hz : ∀ w, (zeroValue t).run P w = .ok z w)
    (h1 : lay (fun i => some (i * k, k)) z.cells.toList (evp e parts) = some l0) (h2 : fzl l0 = some l) : OpV P e ⟨d, .build t parts.toArray, ty, ps, af, none⟩ (.agg l.toArray) := by
  intro w
  have h0 := fzl_eq h2
  subst h0
  have h3 := fill_of_lay h1
  have h4 : (z.cells.toList).toArray = z.cells := by simp
  rw [h4] at h3
  have h5 : (parts.map fun p => (p.1, ev e p.2)) = evp e parts := evp_eq e parts
  simp [OpR, execOp, Instr.build, hz, run_underlying hu, hs, h5, h3]
/-- an element, that is a struct, of an array's value -/
theorem op_indexVA {t el : TypeId} {x i : Operand} {len k : Nat} {kd : IntKind} {n : Int} {cs l : List Value} {dd : TypeDesc} (hu : P.underlying t = some (.array len el)) (hd : P.underlying el = some dd) (hz : ∀ w, (sizeOf el).run P w = .ok k w) (ha : aggD dd = true) (hx : ev e x = .agg cs.toArray) (hi : ev e i = .int kd n) (h0 : 0 ≤ n) (h1 : n < len)
    (hv : (cs.drop (n.toNat * k)).take k = l) : OpV P e ⟨d, .index t x i, ty, ps, af, none⟩ (.agg l.toArray) := by
  intro w
  simp [OpR, execOp, hx, hi, Instr.index, asIntOf, run_underlying hu, hz, h0, h1, part, run_isAgg_E hd, ha]
  exact hv
end
def cmpI (a b : Int) : Int := if a < b then -1 else if b < a then 1 else 0
theorem cmpI_lt {a b : Int} : cmpI a b < 0 ↔ a < b := by unfold cmpI; split <;> (try split) <;> omega
section
variable {W : World}
theorem isNaN_E (a : Int) : Fn Try.prog 57 [.int .i64 a] W (RetG (.bool false) W) := by
  have S := St.start W
  refine Fn_enter Try.func57 rfl Try.results57 Try.ntmps57 (by kernel_rfl) (by kernel_rfl) ?_
  repeat refine cw_seq ?_
  refine cw_region ?_
  refine rw_v (op_pure rfl) ?_
  first | refine rw_end ?_ | (refine rw_nil ?_; show CW _ _ _ _ _ _) | refine rw_nil ?_
  repeat refine cw_seq ?_
  refine cw_region ?_
  iterate 2 refine rw_v (op_pure rfl) ?_
  first | refine rw_v (op_b (b := true) rfl (bne_iff_ne.2 (by omega))) ?_ | refine rw_v (op_b (b := false) rfl (bne_eq_false_iff_eq.2 (by omega))) ?_ | refine rw_v (op_pure rfl) ?_
  refine rw_v (op_pure rfl) ?_
  first | refine rw_end ?_ | (refine rw_nil ?_; show CW _ _ _ _ _ _) | refine rw_nil ?_
  repeat refine cw_seq ?_
  refine cw_ret ?_
  repeat first | refine ret_then ?_ | refine ret_inb ?_
  exact res1 rfl ⟨be (by simp), S.out⟩
theorem compare_E (a b : Int) : Fn Try.prog 28 [.int .i64 a, .int .i64 b] W (RetG (.int .i64 (cmpI a b)) W) := by
  by_cases h1 : a < b
  · skip
    have S := St.start W
    refine Fn_enter Try.func28 rfl Try.results28 Try.ntmps28 (by kernel_rfl) (by kernel_rfl) ?_
    repeat refine cw_seq ?_
    refine cw_region ?_
    refine rw_v (op_pure rfl) ?_
    first | refine rw_end ?_ | (refine rw_nil ?_; show CW _ _ _ _ _ _) | refine rw_nil ?_
    repeat refine cw_seq ?_
    refine cw_region ?_
    refine rw_v (op_pure rfl) ?_
    refine rw_call rfl (isNaN_E a) ?_
    rintro _ w1_ ⟨rfl, g1_⟩
    have S := S.gr g1_
    refine rw_v (op_pure rfl) ?_
    first | refine rw_end ?_ | (refine rw_nil ?_; show CW _ _ _ _ _ _) | refine rw_nil ?_
    repeat refine cw_seq ?_
    refine cw_region ?_
    refine rw_v (op_pure rfl) ?_
    refine rw_call rfl (isNaN_E b) ?_
    rintro _ w2_ ⟨rfl, g2_⟩
    have S := S.gr g2_
    refine rw_v (op_pure rfl) ?_
    first | refine rw_end ?_ | (refine rw_nil ?_; show CW _ _ _ _ _ _) | refine rw_nil ?_
    repeat refine cw_seq ?_
    refine cw_region ?_
    refine rw_v (op_pure rfl) ?_
    first | refine rw_end ?_ | (refine rw_nil ?_; show CW _ _ _ _ _ _) | refine rw_nil ?_
    repeat refine cw_seq ?_
    refine cw_false rfl ?_
    repeat refine cw_seq ?_
    refine cw_skip ?_
    try show CW _ _ _ _ _ _
    repeat refine cw_seq ?_
    refine cw_region ?_
    refine rw_v (op_pure rfl) ?_
    first | refine rw_end ?_ | (refine rw_nil ?_; show CW _ _ _ _ _ _) | refine rw_nil ?_
    repeat refine cw_seq ?_
    refine cw_false rfl ?_
    repeat refine cw_seq ?_
    refine cw_skip ?_
    try show CW _ _ _ _ _ _
    repeat refine cw_seq ?_
    refine cw_region ?_
    iterate 2 refine rw_v (op_pure rfl) ?_
    refine rw_v (op_b (b := true) rfl (decide_eq_true (by omega))) ?_
    first | refine rw_end ?_ | (refine rw_nil ?_; show CW _ _ _ _ _ _) | refine rw_nil ?_
    repeat refine cw_seq ?_
    refine cw_true rfl ?_
    repeat refine cw_seq ?_
    refine cw_region ?_
    refine rw_v (op_pure rfl) ?_
    first | refine rw_end ?_ | (refine rw_nil ?_; show CW _ _ _ _ _ _) | refine rw_nil ?_
    repeat refine cw_seq ?_
    refine cw_ret ?_
    repeat first | refine ret_then ?_ | refine ret_inb ?_
    exact res1 rfl ⟨ie (by unfold cmpI; rw [if_pos h1]), S.out⟩
  · by_cases h2 : b < a
    · skip
      have S := St.start W
      refine Fn_enter Try.func28 rfl Try.results28 Try.ntmps28 (by kernel_rfl) (by kernel_rfl) ?_
      repeat refine cw_seq ?_
      refine cw_region ?_
      refine rw_v (op_pure rfl) ?_
      first | refine rw_end ?_ | (refine rw_nil ?_; show CW _ _ _ _ _ _) | refine rw_nil ?_
      repeat refine cw_seq ?_
      refine cw_region ?_
      refine rw_v (op_pure rfl) ?_
      refine rw_call rfl (isNaN_E a) ?_
      rintro _ w1_ ⟨rfl, g1_⟩
      have S := S.gr g1_
      refine rw_v (op_pure rfl) ?_
      first | refine rw_end ?_ | (refine rw_nil ?_; show CW _ _ _ _ _ _) | refine rw_nil ?_
      repeat refine cw_seq ?_
      refine cw_region ?_
      refine rw_v (op_pure rfl) ?_
      refine rw_call rfl (isNaN_E b) ?_
      rintro _ w2_ ⟨rfl, g2_⟩
      have S := S.gr g2_
      refine rw_v (op_pure rfl) ?_
      first | refine rw_end ?_ | (refine rw_nil ?_; show CW _ _ _ _ _ _) | refine rw_nil ?_
      repeat refine cw_seq ?_
      refine cw_region ?_
      refine rw_v (op_pure rfl) ?_
      first | refine rw_end ?_ | (refine rw_nil ?_; show CW _ _ _ _ _ _) | refine rw_nil ?_
      repeat refine cw_seq ?_
      refine cw_false rfl ?_
      repeat refine cw_seq ?_
      refine cw_skip ?_
      try show CW _ _ _ _ _ _
      repeat refine cw_seq ?_
      refine cw_region ?_
      refine rw_v (op_pure rfl) ?_
      first | refine rw_end ?_ | (refine rw_nil ?_; show CW _ _ _ _ _ _) | refine rw_nil ?_
      repeat refine cw_seq ?_
      refine cw_false rfl ?_
      repeat refine cw_seq ?_
      refine cw_skip ?_
      try show CW _ _ _ _ _ _
      repeat refine cw_seq ?_
      refine cw_region ?_
      iterate 2 refine rw_v (op_pure rfl) ?_
      refine rw_v (op_b (b := false) rfl (decide_eq_false (by omega))) ?_
      first | refine rw_end ?_ | (refine rw_nil ?_; show CW _ _ _ _ _ _) | refine rw_nil ?_
      repeat refine cw_seq ?_
      refine cw_false rfl ?_
      repeat refine cw_seq ?_
      refine cw_skip ?_
      try show CW _ _ _ _ _ _
      repeat refine cw_seq ?_
      refine cw_region ?_
      iterate 2 refine rw_v (op_pure rfl) ?_
      refine rw_v (op_b (b := true) rfl (decide_eq_true (by omega))) ?_
      first | refine rw_end ?_ | (refine rw_nil ?_; show CW _ _ _ _ _ _) | refine rw_nil ?_
      repeat refine cw_seq ?_
      refine cw_true rfl ?_
      repeat refine cw_seq ?_
      refine cw_region ?_
      refine rw_v (op_pure rfl) ?_
      first | refine rw_end ?_ | (refine rw_nil ?_; show CW _ _ _ _ _ _) | refine rw_nil ?_
      repeat refine cw_seq ?_
      refine cw_ret ?_
      repeat first | refine ret_then ?_ | refine ret_inb ?_
      exact res1 rfl ⟨ie (by unfold cmpI; rw [if_neg h1, if_pos h2]), S.out⟩
    · skip
      have S := St.start W
      refine Fn_enter Try.func28 rfl Try.results28 Try.ntmps28 (by kernel_rfl) (by kernel_rfl) ?_
      repeat refine cw_seq ?_
      refine cw_region ?_
      refine rw_v (op_pure rfl) ?_
      first | refine rw_end ?_ | (refine rw_nil ?_; show CW _ _ _ _ _ _) | refine rw_nil ?_
      repeat refine cw_seq ?_
      refine cw_region ?_
      refine rw_v (op_pure rfl) ?_
      refine rw_call rfl (isNaN_E a) ?_
      rintro _ w1_ ⟨rfl, g1_⟩
      have S := S.gr g1_
      refine rw_v (op_pure rfl) ?_
      first | refine rw_end ?_ | (refine rw_nil ?_; show CW _ _ _ _ _ _) | refine rw_nil ?_
      repeat refine cw_seq ?_
      refine cw_region ?_
      refine rw_v (op_pure rfl) ?_
      refine rw_call rfl (isNaN_E b) ?_
      rintro _ w2_ ⟨rfl, g2_⟩
      have S := S.gr g2_
      refine rw_v (op_pure rfl) ?_
      first | refine rw_end ?_ | (refine rw_nil ?_; show CW _ _ _ _ _ _) | refine rw_nil ?_
      repeat refine cw_seq ?_
      refine cw_region ?_
      refine rw_v (op_pure rfl) ?_
      first | refine rw_end ?_ | (refine rw_nil ?_; show CW _ _ _ _ _ _) | refine rw_nil ?_
      repeat refine cw_seq ?_
      refine cw_false rfl ?_
      repeat refine cw_seq ?_
      refine cw_skip ?_
      try show CW _ _ _ _ _ _
      repeat refine cw_seq ?_
      refine cw_region ?_
      refine rw_v (op_pure rfl) ?_
      first | refine rw_end ?_ | (refine rw_nil ?_; show CW _ _ _ _ _ _) | refine rw_nil ?_
      repeat refine cw_seq ?_
      refine cw_false rfl ?_
      repeat refine cw_seq ?_
      refine cw_skip ?_
      try show CW _ _ _ _ _ _
      repeat refine cw_seq ?_
      refine cw_region ?_
      iterate 2 refine rw_v (op_pure rfl) ?_
      refine rw_v (op_b (b := false) rfl (decide_eq_false (by omega))) ?_
      first | refine rw_end ?_ | (refine rw_nil ?_; show CW _ _ _ _ _ _) | refine rw_nil ?_
      repeat refine cw_seq ?_
      refine cw_false rfl ?_
      repeat refine cw_seq ?_
      refine cw_skip ?_
      try show CW _ _ _ _ _ _
      repeat refine cw_seq ?_
      refine cw_region ?_
      iterate 2 refine rw_v (op_pure rfl) ?_
      refine rw_v (op_b (b := false) rfl (decide_eq_false (by omega))) ?_
      first | refine rw_end ?_ | (refine rw_nil ?_; show CW _ _ _ _ _ _) | refine rw_nil ?_
      repeat refine cw_seq ?_
      refine cw_false rfl ?_
      repeat refine cw_seq ?_
      refine cw_skip ?_
      try show CW _ _ _ _ _ _
      repeat refine cw_seq ?_
      refine cw_region ?_
      refine rw_v (op_pure rfl) ?_
      first | refine rw_end ?_ | (refine rw_nil ?_; show CW _ _ _ _ _ _) | refine rw_nil ?_
      repeat refine cw_seq ?_
      refine cw_ret ?_
      repeat first | refine ret_then ?_ | refine ret_inb ?_
      exact res1 rfl ⟨ie (by unfold cmpI; rw [if_neg h1, if_neg h2]), S.out⟩
end
/-! ### the neighbours as four that are there or not -/
def thN (gw n i : Nat) : Nat → Bool
  | 0 => decide (gw ≤ i)
  | 1 => decide (0 < i % gw)
  | 2 => decide (i % gw + 1 < gw)
  | _ => decide (i + gw < n)
def atZ (gw i : Nat) : Nat → Int
  | 0 => (i : Int) - gw
  | 1 => (i : Int) - 1
  | 2 => (i : Int) + 1
  | _ => (i : Int) + gw
def segN (gw n i : Nat) : Nat → List Nat
  | 0 => if gw ≤ i then [i - gw] else []
  | 1 => if 0 < i % gw then [i - 1] else []
  | 2 => if i % gw + 1 < gw then [i + 1] else []
  | _ => if i + gw < n then [i + gw] else []
def preN (gw n i : Nat) : Nat → List Nat
  | 0 => []
  | k + 1 => preN gw n i k ++ segN gw n i k
theorem preN_four (gw n i : Nat) : preN gw n i 4 = nearN gw n i := by
  simp only [preN, segN, nearN, List.nil_append]
theorem seg_spec {gw gh i : Nat} (hgw : 0 < gw) (hi : i < gw * gh) (k : Nat) (hk : k < 4) :
    (thN gw (gw * gh) i k = true ∧ ∃ a, atZ gw i k = (a : Nat) ∧ a < gw * gh ∧ segN gw (gw * gh) i k = [a]) ∨ (thN gw (gw * gh) i k = false ∧ segN gw (gw * gh) i k = []) := by
  have hn := next_lt (gh := gh) hgw hi
  have hp : 0 < i % gw → 1 ≤ i := fun h => by
    rcases Nat.eq_zero_or_pos i with h1 | h1
    · subst h1; simp at h
    · exact h1
  match k, hk with
  | 0, _ =>
    by_cases h : gw ≤ i
    · exact .inl ⟨decide_eq_true h, i - gw, by simp only [atZ]; omega, by omega, if_pos h⟩
    · exact .inr ⟨decide_eq_false h, if_neg h⟩
  | 1, _ =>
    by_cases h : 0 < i % gw
    · exact .inl ⟨decide_eq_true h, i - 1, by have := hp h; simp only [atZ]; omega, by omega, if_pos h⟩
    · exact .inr ⟨decide_eq_false h, if_neg h⟩
  | 2, _ =>
    by_cases h : i % gw + 1 < gw
    · exact .inl ⟨decide_eq_true h, i + 1, by simp only [atZ]; omega, hn h, if_pos h⟩
    · exact .inr ⟨decide_eq_false h, if_neg h⟩
  | 3, _ =>
    by_cases h : i + gw < gw * gh
    · exact .inl ⟨decide_eq_true h, i + gw, by simp only [atZ]; omega, h, if_pos h⟩
    · exact .inr ⟨decide_eq_false h, if_neg h⟩
def quadV (gw n i : Nat) : List Value := [.bool (thN gw n i 0), .int .i64 (atZ gw i 0), .bool (thN gw n i 1), .int .i64 (atZ gw i 1), .bool (thN gw n i 2), .int .i64 (atZ gw i 2), .bool (thN gw n i 3), .int .i64 (atZ gw i 3)]
theorem quadV_get {gw n i : Nat} (k : Nat) (hk : k < 4) : ((quadV gw n i).drop ((k : Int).toNat * 2)).take 2 = [.bool (thN gw n i k), .int .i64 (atZ gw i k)] := by
  match k, hk with
  | 0, _ => rfl
  | 1, _ => rfl
  | 2, _ => rfl
  | 3, _ => rfl
/-- the least of the neighbours that are less, the first of them; itself, if there is none -/
def flw (V : List Int) (i : Nat) (l : List Nat) : Nat := l.foldl (fun b n => if V.getD n 0 < V.getD b 0 then n else b) i
theorem flw_app (V : List Int) (i : Nat) (l r : List Nat) : flw V i (l ++ r) = flw V (flw V i l) r := List.foldl_append
theorem flw_cases (V : List Int) : ∀ (l : List Nat) (i : Nat), flw V i l = i ∨ (flw V i l ∈ l ∧ V.getD (flw V i l) 0 < V.getD i 0)
  | [], i => .inl rfl
  | n :: l, i => by
    show flw V (if V.getD n 0 < V.getD i 0 then n else i) l = i ∨ _
    have ih := flw_cases V l
    have e : flw V i (n :: l) = flw V (if V.getD n 0 < V.getD i 0 then n else i) l := rfl
    rw [e]
    by_cases h : V.getD n 0 < V.getD i 0
    · rw [if_pos h]
      rcases ih n with h1 | ⟨h1, h2⟩
      · rw [h1]; exact .inr ⟨List.mem_cons_self, h⟩
      · exact .inr ⟨List.mem_cons_of_mem _ h1, by omega⟩
    · rw [if_neg h]
      rcases ih i with h1 | ⟨h1, h2⟩
      · exact .inl h1
      · exact .inr ⟨List.mem_cons_of_mem _ h1, h2⟩
def flowN (gw : Nat) (V : List Int) (i : Nat) : Nat := flw V i (nearN gw V.length i)
theorem flowN_cases {gw gh : Nat} {V : List Int} (hgw : 0 < gw) (hV : V.length = gw * gh) {i : Nat} (hi : i < gw * gh) : flowN gw V i = i ∨ (flowN gw V i < gw * gh ∧ V.getD (flowN gw V i) 0 < V.getD i 0) := by
  rcases flw_cases V (nearN gw V.length i) i with h | ⟨h1, h2⟩
  · exact .inl h
  · rw [hV] at h1
    refine .inr ⟨?_, h2⟩
    have := ((nearN_mem hgw hi).1 h1).1
    unfold flowN
    rw [hV]
    exact this
theorem flowN_lt {gw gh : Nat} {V : List Int} (hgw : 0 < gw) (hV : V.length = gw * gh) {i : Nat} (hi : i < gw * gh) : flowN gw V i < gw * gh := by
  rcases flowN_cases hgw hV hi with h | h
  · rw [h]; exact hi
  · exact h.1
end Go.Proofs.Ytiidmiebckkloaa

namespace Go.Proofs.Ytiidmiebckkloaa
set_option linter.unusedVariables false
set_option linter.unusedSimpArgs false

def itr (f : Nat → Nat) : Nat → Nat → Nat
  | 0, i => i
  | k + 1, i => f (itr f k i)
theorem itr_out (f : Nat → Nat) : ∀ k i, itr f (k + 1) i = itr f k (f i)
  | 0, i => rfl
  | k + 1, i => congrArg f (itr_out f k i)
/-- a step that falls, or stays -/
structure Fall (n : Nat) (v : Nat → Int) (f : Nat → Nat) : Prop where
  lt : ∀ i, i < n → f i < n
  fall : ∀ i, i < n → f i = i ∨ v (f i) < v i
def Stop (f : Nat → Nat) (c k : Nat) : Prop := (∀ j, j < k → itr f (j + 1) c ≠ itr f j c) ∧ itr f (k + 1) c = itr f k c
section
variable {n : Nat} {v : Nat → Int} {f : Nat → Nat} {c k k' i : Nat}
theorem Stop.uniq (h : Stop f c k) (h' : Stop f c k') : k = k' := by
  rcases Nat.lt_trichotomy k k' with e | e | e
  · exact absurd h.2 (h'.1 k e)
  · exact e
  · exact absurd h'.2 (h.1 k' e)
theorem Fall.itr_lt (h : Fall n v f) (hc : c < n) : ∀ k, itr f k c < n
  | 0 => hc
  | k + 1 => h.lt _ (h.itr_lt hc k)
theorem Stop.stay (h : Stop f c k) : ∀ m, itr f (k + m) c = itr f k c
  | 0 => rfl
  | m + 1 => by
    show f (itr f (k + m) c) = _
    rw [h.stay m]; exact h.2
theorem Fall.stops (h : Fall n v f) : ∀ (r c : Nat), c < n → rank n v c ≤ r → ∃ k, Stop f c k ∧ k ≤ r
  | r, c, hc, hr => by
    rcases h.fall c hc with e | e
    · exact ⟨0, ⟨fun j hj => by omega, e⟩, Nat.zero_le _⟩
    · have h1 := rank_lt (n := n) (d := v) (i := f c) (j := c) (h.lt c hc) e
      cases r with
      | zero => omega
      | succ r =>
        obtain ⟨k, hk, hkr⟩ := h.stops r (f c) (h.lt c hc) (by omega)
        refine ⟨k + 1, ⟨fun j hj => ?_, ?_⟩, by omega⟩
        · cases j with
          | zero => show f c ≠ c; intro e2; rw [e2] at e; omega
          | succ j => rw [itr_out f (j + 1) c, itr_out f j c]; exact hk.1 j (by omega)
        · rw [itr_out f (k + 1) c, itr_out f k c]; exact hk.2
theorem Fall.stop (h : Fall n v f) (hc : c < n) : ∃ k, Stop f c k ∧ k < n := by
  obtain ⟨k, h1, h2⟩ := h.stops _ c hc (Nat.le_refl _)
  have := rank_top (n := n) (d := v) hc
  exact ⟨k, h1, by omega⟩
/-- where a way ends -/
def sinkN (f : Nat → Nat) (n i : Nat) : Nat := itr f n i
theorem Fall.sink_eq (h : Fall n v f) (hk : Stop f c k) (hc : c < n) : sinkN f n c = itr f k c := by
  obtain ⟨k', h1, h2⟩ := h.stop hc
  obtain rfl := hk.uniq h1
  have := hk.stay (n - k)
  rwa [show k + (n - k) = n by omega] at this
theorem Fall.sink_fix (h : Fall n v f) (hc : c < n) : f (sinkN f n c) = sinkN f n c := by
  obtain ⟨k, h1, h2⟩ := h.stop hc
  rw [h.sink_eq h1 hc]; exact h1.2
theorem Fall.sink_lt (h : Fall n v f) (hc : c < n) : sinkN f n c < n := h.itr_lt hc n
theorem sink_here {f : Nat → Nat} (n : Nat) {c : Nat} (h : f c = c) : sinkN f n c = c := by
  unfold sinkN
  induction n with
  | zero => rfl
  | succ n ih => show f (itr f n c) = c; rw [ih]; exact h
theorem Fall.sink_next (h : Fall n v f) (hc : c < n) : sinkN f n (f c) = sinkN f n c := by
  have h1 := itr_out f n c
  have h2 := h.sink_fix hc
  unfold sinkN at *
  rw [← h1]; exact h2
/-- the way, k steps of it -/
def wayN (f : Nat → Nat) (c k : Nat) : List Nat := (List.range (k + 1)).map fun j => itr f j c
theorem wayN_len : (wayN f c k).length = k + 1 := by simp [wayN]
theorem wayN_succ : wayN f c (k + 1) = wayN f c k ++ [itr f (k + 1) c] := by
  unfold wayN
  rw [List.range_succ, List.map_append]
  rfl
theorem wayN_get {j : Nat} (h : j < k + 1) : (wayN f c k)[j]? = some (itr f j c) := by simp [wayN, h]
theorem wayN_last : (wayN f c k)[k]? = some (itr f k c) := wayN_get (Nat.lt_succ_self k)
end
theorem flow_fall {gw gh : Nat} {V : List Int} (hgw : 0 < gw) (hV : V.length = gw * gh) : Fall (gw * gh) (fun i => V.getD i 0) (flowN gw V) :=
  ⟨fun i hi => flowN_lt hgw hV hi, fun i hi => (flowN_cases hgw hV hi).imp id (fun h => h.2)⟩
end Go.Proofs.Ytiidmiebckkloaa
