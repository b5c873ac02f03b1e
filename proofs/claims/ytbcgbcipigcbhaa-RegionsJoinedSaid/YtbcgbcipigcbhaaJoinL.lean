/- The greatest height over which two cells hang together: cells are laid by falling heights (plain laws). -/
import Derived.Test.YtbcgbcipigcbhaaRise
import Derived.Test.YtbcgbcipigcbhaaSortI
namespace Go.Proofs.Ytbcgbcipigcbhaa
set_option linter.unusedVariables false
set_option linter.unusedSimpArgs false

section
variable {gw : Nat} {V : List Int} {o r r' : Nat → Nat} {k n p q : Nat}
/-- roots exist -/
theorem roots_exist (gw : Nat) (V : List Int) (t : Int) : ∃ r, Roots gw V t r := by
  have hex : ∀ i, ∃ j, Conn gw V t i j ∧ ∀ j', Conn gw V t i j' → j ≤ j' := fun i => by
    have key : ∀ m j, j ≤ m → Conn gw V t i j → ∃ j, Conn gw V t i j ∧ ∀ j', Conn gw V t i j' → j ≤ j' := by
      intro m
      induction m with
      | zero => intro j hj hc; exact ⟨j, hc, fun j' _ => by omega⟩
      | succ m ih =>
        intro j hj hc
        by_cases h : ∃ j', Conn gw V t i j' ∧ j' < j
        · obtain ⟨j', h1, h2⟩ := h
          exact ih j' (by omega) h1
        · exact ⟨j, hc, fun j' hc' => by
            rcases Nat.lt_or_ge j' j with h' | h'
            · exact absurd ⟨j', hc', h'⟩ h
            · exact h'⟩
    exact key i i (Nat.le_refl i) (.refl i)
  obtain ⟨r, hr⟩ : ∃ r : Nat → Nat, ∀ i, Conn gw V t i (r i) ∧ ∀ j', Conn gw V t i j' → r i ≤ j' := ⟨fun i => (hex i).choose, fun i => (hex i).choose_spec⟩
  have same : ∀ i j, Conn gw V t i j → r i = r j := fun i j c => by
    have h1 := (hr i).2 (r j) (c.trans (hr j).1)
    have h2 := (hr j).2 (r i) (c.symm.trans (hr i).1)
    omega
  refine ⟨r, fun i _ => (hr i).2 i (.refl i), fun i _ => (same i (r i) (hr i).1).symm, fun i _ => (hr i).1, fun i hi h1 h2 h3 => same _ _ (.of_adj ?_), fun i hi h1 h2 h3 => same _ _ (.of_adj ?_)⟩
  · have : 1 ≤ i := by rcases Nat.eq_zero_or_pos i with h | h; · subst h; simp at h2
                       · exact h
    exact ⟨hi, by omega, h1, h3, .inl ⟨by omega, h2⟩⟩
  · exact ⟨hi, by omega, h1, h3, .inr (.inr (.inl (by omega)))⟩
theorem lab_eq {t : Int} (h : Roots gw V t r) {i j : Nat} (hi : i < V.length) (hj : j < V.length) (hvi : t ≤ V.getD i 0) (hvj : t ≤ V.getD j 0) : labF V t r i = labF V t r j ↔ r i = r j := by
  have e1 : labF V t r i = cntR V t r (r i) + 1 := if_pos hvi
  have e2 : labF V t r j = cntR V t r (r j) + 1 := if_pos hvj
  rw [e1, e2]
  constructor
  · intro e
    rcases Nat.lt_trichotomy (r i) (r j) with h1 | h1 | h1
    · have := cntR_lt h1 (h.isRoot hi hvi); omega
    · exact h1
    · have := cntR_lt h1 (h.isRoot hj hvj); omega
  · intro e; rw [e]
theorem lab_pos {t : Int} {i : Nat} : 0 < labF V t r i ↔ t ≤ V.getD i 0 := by
  unfold labF
  split <;> simp_all
theorem grid_conn29 {gh : Nat} {u : Int} (hgw : 0 < gw) (hu : ∀ i, i < V.length → u ≤ V.getD i 0) : ∀ i, i < V.length → Conn gw V u i 0 := by
  intro i
  induction i using Nat.strongRecOn with
  | ind i ih =>
    intro hi
    by_cases h0 : i = 0
    · subst h0; exact .refl 0
    · by_cases h1 : 0 < i % gw
      · exact .step ⟨hi, by omega, hu i hi, hu (i - 1) (by omega), .inl ⟨by omega, h1⟩⟩ (ih (i - 1) (by omega) (by omega))
      · have h2 : gw ≤ i := by
          rcases Nat.lt_or_ge i gw with h | h
          · rw [Nat.mod_eq_of_lt h] at h1; omega
          · exact h
        exact .step ⟨hi, by omega, hu i hi, hu (i - gw) (by omega), .inr (.inr (.inl (by omega)))⟩ (ih (i - gw) (by omega) (by omega))
/-- the cells laid so far: their sets -/
structure JN (gw : Nat) (V : List Int) (o : Nat → Nat) (k : Nat) (r : Nat → Nat) : Prop where
  conn : ∀ u, (∀ x, x < k → u ≤ V.getD (o x) 0) → ∀ i, i < V.length → Conn gw V u i (r i)
  compl : ∀ x y, x < k → y < k → Side gw (o x) (o y) → r (o x) = r (o y)
/-- .. while the neighbours of the last are joined -/
structure JP (gw : Nat) (V : List Int) (o : Nat → Nat) (k : Nat) (D : Nat → Prop) (r : Nat → Nat) : Prop where
  conn : ∀ u, (∀ x, x < k + 1 → u ≤ V.getD (o x) 0) → ∀ i, i < V.length → Conn gw V u i (r i)
  compl : ∀ x y, x < k → y < k → Side gw (o x) (o y) → r (o x) = r (o y)
  now : ∀ x, x < k + 1 → D (o x) → r (o k) = r (o x)
theorem JN.start : JN gw V o 0 (fun i => i) := ⟨fun u _ i _ => .refl i, fun x y h => by omega⟩
theorem JN.enter (h : JN gw V o k r) : JP gw V o k (fun _ => False) r := ⟨fun u hu => h.conn u (fun x hx => hu x (by omega)), h.compl, fun x _ h => h.elim⟩
theorem JP.leave (h : JP gw V o k (fun j => Side gw (o k) j) r) : JN gw V o (k + 1) r := by
  refine ⟨h.conn, fun x y hx hy hs => ?_⟩
  by_cases e1 : x = k
  · subst e1; exact h.now y hy hs
  · by_cases e2 : y = k
    · subst e2; exact (h.now x hx hs.symm).symm
    · exact h.compl x y (by omega) (by omega) hs
theorem JP.weak {D D' : Nat → Prop} (h : JP gw V o k D r) (hD : ∀ x, x < k + 1 → D' (o x) → D (o x)) : JP gw V o k D' r := ⟨h.conn, h.compl, fun x hx hd => h.now x hx (hD x hx hd)⟩
theorem JP.same {D : Nat → Prop} (h : JP gw V o k D r) (ho : ∀ x, x < k + 1 → o x < V.length) (hr : ∀ j, j < V.length → r' j = r j) (hlt : ∀ j, j < V.length → r j < V.length) : JP gw V o k D r' :=
  ⟨fun u hu i hi => by rw [hr i hi]; exact h.conn u hu i hi, fun x y hx hy hs => by rw [hr _ (ho x (by omega)), hr _ (ho y (by omega))]; exact h.compl x y hx hy hs, fun x hx hd => by rw [hr _ (ho k (by omega)), hr _ (ho x hx)]; exact h.now x hx hd⟩
theorem JN.same (h : JN gw V o k r) (ho : ∀ x, x < k → o x < V.length) (hr : ∀ j, j < V.length → r' j = r j) : JN gw V o k r' :=
  ⟨fun u hu i hi => by rw [hr i hi]; exact h.conn u hu i hi, fun x y hx hy hs => by rw [hr _ (ho x hx), hr _ (ho y hy)]; exact h.compl x y hx hy hs⟩
theorem JP.join {D : Nat → Prop} (h : JP gw V o k D r) (ho : ∀ x, x < k + 1 → o x < V.length) {x0 : Nat} (hx0 : x0 < k + 1) (hs : Side gw (o k) (o x0))
    (hr : ∀ j, j < V.length → r' j = if r j = max (r (o k)) (r (o x0)) then min (r (o k)) (r (o x0)) else r j) : JP gw V o k (fun j => D j ∨ j = o x0) r' := by
  have same : ∀ i j, i < V.length → j < V.length → r i = r j → r' i = r' j := fun i j hi hj e => by rw [hr i hi, hr j hj, e]
  have hab : r' (o k) = r' (o x0) := by
    rw [hr _ (ho k (by omega)), hr _ (ho x0 hx0)]
    rcases Nat.le_total (r (o k)) (r (o x0)) with e | e
    · rw [Nat.max_eq_right e, Nat.min_eq_left e, if_pos rfl]
      split <;> omega
    · rw [Nat.max_eq_left e, Nat.min_eq_right e, if_pos rfl]
      split <;> omega
  refine ⟨fun u hu i hi => ?_, fun x y hx hy hs => same _ _ (ho x (by omega)) (ho y (by omega)) (h.compl x y hx hy hs), fun x hx hd => ?_⟩
  · have hc := h.conn u hu
    have hk := ho k (by omega)
    have hx := ho x0 hx0
    have hcab : Conn gw V u (r (o k)) (r (o x0)) := ((hc _ hk).symm.trans (.of_adj ⟨hk, hx, hu k (by omega), hu x0 hx0, hs⟩)).trans (hc _ hx)
    have key : Conn gw V u (max (r (o k)) (r (o x0))) (min (r (o k)) (r (o x0))) := by
      rcases Nat.le_total (r (o k)) (r (o x0)) with e | e
      · rw [Nat.max_eq_right e, Nat.min_eq_left e]; exact hcab.symm
      · rw [Nat.max_eq_left e, Nat.min_eq_right e]; exact hcab
    rw [hr i hi]
    split
    · rename_i e
      have := hc i hi
      rw [e] at this
      exact this.trans key
    · exact hc i hi
  · rcases hd with hd | hd
    · exact same _ _ (ho k (by omega)) (ho x hx) (h.now x hx hd)
    · rw [hd]; exact hab
/-- over no height that all laid cells have are the two together -/
def NJ (gw : Nat) (V : List Int) (o : Nat → Nat) (p q k : Nat) : Prop := ∀ u, (∀ x, k ≤ x → x < V.length → V.getD (o x) 0 < u) → ¬ (u ≤ V.getD p 0 ∧ u ≤ V.getD q 0 ∧ Conn gw V u p q)
theorem NJ.start (ho : Ord V.length o) (hp : p < V.length) : NJ gw V o p q 0 := fun u hu h => by
  obtain ⟨x, hx, rfl⟩ := ho.all p hp
  have := hu x (Nat.zero_le x) hx
  omega
theorem NJ.step (h : NJ gw V o p q k) (ho : Ord V.length o) (hk : k < V.length) (hp : p < V.length) (hq : q < V.length) (hn : JN gw V o (k + 1) r)
    (hno : ∀ x y, x < k + 1 → y < k + 1 → o x = p → o y = q → r p ≠ r q) : NJ gw V o p q (k + 1) := fun u hu hh => by
  by_cases hlt : V.getD (o k) 0 < u
  · exact h u (fun x hx hxn => by
      by_cases e : x = k
      · subst e; exact hlt
      · exact hu x (by omega) hxn) hh
  · obtain ⟨h1, h2, h3⟩ := hh
    have laid : ∀ j, j < V.length → u ≤ V.getD j 0 → ∃ x, x < k + 1 ∧ o x = j := fun j hj hv => by
      obtain ⟨x, hx, rfl⟩ := ho.all j hj
      refine ⟨x, ?_, rfl⟩
      rcases Nat.lt_or_ge x (k + 1) with h | h
      · exact h
      · have := hu x h hx; omega
    have same : ∀ i j, Conn gw V u i j → r i = r j := fun i j c => by
      induction c with
      | refl => rfl
      | step a _ ih =>
        obtain ⟨hi, hj, vi, vj, s⟩ := a
        obtain ⟨x, hx, rfl⟩ := laid _ hi vi
        obtain ⟨y, hy, rfl⟩ := laid _ hj vj
        exact (hn.compl x y hx hy s).trans ih
    obtain ⟨x, hx, ex⟩ := laid p hp h1
    obtain ⟨y, hy, ey⟩ := laid q hq h2
    exact hno x y hx hy ex ey (same p q h3)
/-- the greatest height that joins -/
def IsJoin (gw : Nat) (V : List Int) (p q : Nat) (t : Int) : Prop := t ≤ V.getD p 0 ∧ t ≤ V.getD q 0 ∧ Conn gw V t p q ∧ ¬ (t + 1 ≤ V.getD p 0 ∧ t + 1 ≤ V.getD q 0 ∧ Conn gw V (t + 1) p q)
theorem JN.joined (hn : JN gw V o (k + 1) r) (h : NJ gw V o p q k) (hk : k < V.length) (hd : ∀ x y, x ≤ y → y < V.length → V.getD (o y) 0 ≤ V.getD (o x) 0) (hp : p < V.length) (hq : q < V.length)
    {x y : Nat} (hx : x < k + 1) (hy : y < k + 1) (ex : o x = p) (ey : o y = q) (he : r p = r q) : IsJoin gw V p q (V.getD (o k) 0) := by
  have hc := hn.conn (V.getD (o k) 0) (fun x hx => hd x k (by omega) hk)
  refine ⟨by rw [← ex]; exact hd x k (by omega) hk, by rw [← ey]; exact hd y k (by omega) hk, ?_, h _ (fun x hx hxn => by have := hd k x hx hxn; omega)⟩
  have h1 := hc p hp
  rw [he] at h1
  exact h1.trans (hc q hq).symm
theorem NJ.never {gh : Nat} (h : NJ gw V o p q V.length) (hgw : 0 < gw) (hB : ∀ i, i < V.length → -2147483648 ≤ V.getD i 0) (hp : p < V.length) (hq : q < V.length) : False :=
  h (-2147483648) (fun x hx hxn => by omega) ⟨hB p hp, hB q hq, (grid_conn29 (gh := gh) hgw hB p hp).trans (grid_conn29 (gh := gh) hgw hB q hq).symm⟩
end
end Go.Proofs.Ytbcgbcipigcbhaa
