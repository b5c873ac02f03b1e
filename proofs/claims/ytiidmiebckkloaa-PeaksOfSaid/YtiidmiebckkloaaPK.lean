/- The greatest height over which two cells hang together: cells are laid by falling heights (plain laws). -/
import Derived.Test.YtiidmiebckkloaaPH
import Derived.Test.YtiidmiebckkloaaPJ
import Derived.Test.YtiidmiebckkloaaPI
import Derived.Test.YtiidmiebckkloaaPC
import Derived.Deep.AppendSrc
import Derived.Laws.AppendOwn
namespace Go.Proofs.Ytiidmiebckkloaa
set_option linter.unusedVariables false
set_option linter.unusedSimpArgs false

section
variable {gw : Nat} {V : List Int} {o r r' : Nat → Nat} {k n p q : Nat}
/-- roots exist -/
theorem roots_exist (gw : Nat) (V : List Int) (t : Int) : ∃ r, Roots gw V t r := by
  have hex : ∀ i, ∃ j, Conn gw V t i j ∧ ∀ j', Conn gw V t i j' → j ≤ j' := fun i => by
    have key : ∀ m j, j ≤ m → Conn gw V t i j → ∃ j, Conn gw V t i j ∧ ∀ j', Conn gw V t i j' → j ≤ j' := by
      intro m
      induction m with
      | zero => intro j hj hc; exact ⟨j, hc, fun j' _ => by omega⟩
      | succ m ih =>
        intro j hj hc
        by_cases h : ∃ j', Conn gw V t i j' ∧ j' < j
        · obtain ⟨j', h1, h2⟩ := h
          exact ih j' (by omega) h1
        · exact ⟨j, hc, fun j' hc' => by
            rcases Nat.lt_or_ge j' j with h' | h'
            · exact absurd ⟨j', hc', h'⟩ h
            · exact h'⟩
    exact key i i (Nat.le_refl i) (.refl i)
  obtain ⟨r, hr⟩ : ∃ r : Nat → Nat, ∀ i, Conn gw V t i (r i) ∧ ∀ j', Conn gw V t i j' → r i ≤ j' := ⟨fun i => (hex i).choose, fun i => (hex i).choose_spec⟩
  have same : ∀ i j, Conn gw V t i j → r i = r j := fun i j c => by
    have h1 := (hr i).2 (r j) (c.trans (hr j).1)
    have h2 := (hr j).2 (r i) (c.symm.trans (hr i).1)
    omega
  refine ⟨r, fun i _ => (hr i).2 i (.refl i), fun i _ => (same i (r i) (hr i).1).symm, fun i _ => (hr i).1, fun i hi h1 h2 h3 => same _ _ (.of_adj ?_), fun i hi h1 h2 h3 => same _ _ (.of_adj ?_)⟩
  · have : 1 ≤ i := by rcases Nat.eq_zero_or_pos i with h | h; · subst h; simp at h2
                       · exact h
    exact ⟨hi, by omega, h1, h3, .inl ⟨by omega, h2⟩⟩
  · exact ⟨hi, by omega, h1, h3, .inr (.inr (.inl (by omega)))⟩
theorem lab_eq {t : Int} (h : Roots gw V t r) {i j : Nat} (hi : i < V.length) (hj : j < V.length) (hvi : t ≤ V.getD i 0) (hvj : t ≤ V.getD j 0) : labF V t r i = labF V t r j ↔ r i = r j := by
  have e1 : labF V t r i = cntR V t r (r i) + 1 := if_pos hvi
  have e2 : labF V t r j = cntR V t r (r j) + 1 := if_pos hvj
  rw [e1, e2]
  constructor
  · intro e
    rcases Nat.lt_trichotomy (r i) (r j) with h1 | h1 | h1
    · have := cntR_lt h1 (h.isRoot hi hvi); omega
    · exact h1
    · have := cntR_lt h1 (h.isRoot hj hvj); omega
  · intro e; rw [e]
theorem lab_pos {t : Int} {i : Nat} : 0 < labF V t r i ↔ t ≤ V.getD i 0 := by
  unfold labF
  split <;> simp_all
theorem grid_conn29 {gh : Nat} {u : Int} (hgw : 0 < gw) (hu : ∀ i, i < V.length → u ≤ V.getD i 0) : ∀ i, i < V.length → Conn gw V u i 0 := by
  intro i
  induction i using Nat.strongRecOn with
  | ind i ih =>
    intro hi
    by_cases h0 : i = 0
    · subst h0; exact .refl 0
    · by_cases h1 : 0 < i % gw
      · exact .step ⟨hi, by omega, hu i hi, hu (i - 1) (by omega), .inl ⟨by omega, h1⟩⟩ (ih (i - 1) (by omega) (by omega))
      · have h2 : gw ≤ i := by
          rcases Nat.lt_or_ge i gw with h | h
          · rw [Nat.mod_eq_of_lt h] at h1; omega
          · exact h
        exact .step ⟨hi, by omega, hu i hi, hu (i - gw) (by omega), .inr (.inr (.inl (by omega)))⟩ (ih (i - gw) (by omega) (by omega))
/-- the cells laid so far: their sets -/
structure JN (gw : Nat) (V : List Int) (o : Nat → Nat) (k : Nat) (r : Nat → Nat) : Prop where
  conn : ∀ u, (∀ x, x < k → u ≤ V.getD (o x) 0) → ∀ i, i < V.length → Conn gw V u i (r i)
  compl : ∀ x y, x < k → y < k → Side gw (o x) (o y) → r (o x) = r (o y)
/-- .. while the neighbours of the last are joined -/
structure JP (gw : Nat) (V : List Int) (o : Nat → Nat) (k : Nat) (D : Nat → Prop) (r : Nat → Nat) : Prop where
  conn : ∀ u, (∀ x, x < k + 1 → u ≤ V.getD (o x) 0) → ∀ i, i < V.length → Conn gw V u i (r i)
  compl : ∀ x y, x < k → y < k → Side gw (o x) (o y) → r (o x) = r (o y)
  now : ∀ x, x < k + 1 → D (o x) → r (o k) = r (o x)
theorem JN.start : JN gw V o 0 (fun i => i) := ⟨fun u _ i _ => .refl i, fun x y h => by omega⟩
theorem JN.enter (h : JN gw V o k r) : JP gw V o k (fun _ => False) r := ⟨fun u hu => h.conn u (fun x hx => hu x (by omega)), h.compl, fun x _ h => h.elim⟩
theorem JP.leave (h : JP gw V o k (fun j => Side gw (o k) j) r) : JN gw V o (k + 1) r := by
  refine ⟨h.conn, fun x y hx hy hs => ?_⟩
  by_cases e1 : x = k
  · subst e1; exact h.now y hy hs
  · by_cases e2 : y = k
    · subst e2; exact (h.now x hx hs.symm).symm
    · exact h.compl x y (by omega) (by omega) hs
theorem JP.weak {D D' : Nat → Prop} (h : JP gw V o k D r) (hD : ∀ x, x < k + 1 → D' (o x) → D (o x)) : JP gw V o k D' r := ⟨h.conn, h.compl, fun x hx hd => h.now x hx (hD x hx hd)⟩
theorem JP.same {D : Nat → Prop} (h : JP gw V o k D r) (ho : ∀ x, x < k + 1 → o x < V.length) (hr : ∀ j, j < V.length → r' j = r j) (hlt : ∀ j, j < V.length → r j < V.length) : JP gw V o k D r' :=
  ⟨fun u hu i hi => by rw [hr i hi]; exact h.conn u hu i hi, fun x y hx hy hs => by rw [hr _ (ho x (by omega)), hr _ (ho y (by omega))]; exact h.compl x y hx hy hs, fun x hx hd => by rw [hr _ (ho k (by omega)), hr _ (ho x hx)]; exact h.now x hx hd⟩
theorem JN.same (h : JN gw V o k r) (ho : ∀ x, x < k → o x < V.length) (hr : ∀ j, j < V.length → r' j = r j) : JN gw V o k r' :=
  ⟨fun u hu i hi => by rw [hr i hi]; exact h.conn u hu i hi, fun x y hx hy hs => by rw [hr _ (ho x hx), hr _ (ho y hy)]; exact h.compl x y hx hy hs⟩
theorem JP.join {D : Nat → Prop} (h : JP gw V o k D r) (ho : ∀ x, x < k + 1 → o x < V.length) {x0 : Nat} (hx0 : x0 < k + 1) (hs : Side gw (o k) (o x0))
    (hr : ∀ j, j < V.length → r' j = if r j = max (r (o k)) (r (o x0)) then min (r (o k)) (r (o x0)) else r j) : JP gw V o k (fun j => D j ∨ j = o x0) r' := by
  have same : ∀ i j, i < V.length → j < V.length → r i = r j → r' i = r' j := fun i j hi hj e => by rw [hr i hi, hr j hj, e]
  have hab : r' (o k) = r' (o x0) := by
    rw [hr _ (ho k (by omega)), hr _ (ho x0 hx0)]
    rcases Nat.le_total (r (o k)) (r (o x0)) with e | e
    · rw [Nat.max_eq_right e, Nat.min_eq_left e, if_pos rfl]
      split <;> omega
    · rw [Nat.max_eq_left e, Nat.min_eq_right e, if_pos rfl]
      split <;> omega
  refine ⟨fun u hu i hi => ?_, fun x y hx hy hs => same _ _ (ho x (by omega)) (ho y (by omega)) (h.compl x y hx hy hs), fun x hx hd => ?_⟩
  · have hc := h.conn u hu
    have hk := ho k (by omega)
    have hx := ho x0 hx0
    have hcab : Conn gw V u (r (o k)) (r (o x0)) := ((hc _ hk).symm.trans (.of_adj ⟨hk, hx, hu k (by omega), hu x0 hx0, hs⟩)).trans (hc _ hx)
    have key : Conn gw V u (max (r (o k)) (r (o x0))) (min (r (o k)) (r (o x0))) := by
      rcases Nat.le_total (r (o k)) (r (o x0)) with e | e
      · rw [Nat.max_eq_right e, Nat.min_eq_left e]; exact hcab.symm
      · rw [Nat.max_eq_left e, Nat.min_eq_right e]; exact hcab
    rw [hr i hi]
    split
    · rename_i e
      have := hc i hi
      rw [e] at this
      exact this.trans key
    · exact hc i hi
  · rcases hd with hd | hd
    · exact same _ _ (ho k (by omega)) (ho x hx) (h.now x hx hd)
    · rw [hd]; exact hab
/-- over no height that all laid cells have are the two together -/
def NJ (gw : Nat) (V : List Int) (o : Nat → Nat) (p q k : Nat) : Prop := ∀ u, (∀ x, k ≤ x → x < V.length → V.getD (o x) 0 < u) → ¬ (u ≤ V.getD p 0 ∧ u ≤ V.getD q 0 ∧ Conn gw V u p q)
theorem NJ.start (ho : Ord V.length o) (hp : p < V.length) : NJ gw V o p q 0 := fun u hu h => by
  obtain ⟨x, hx, rfl⟩ := ho.all p hp
  have := hu x (Nat.zero_le x) hx
  omega
theorem NJ.step (h : NJ gw V o p q k) (ho : Ord V.length o) (hk : k < V.length) (hp : p < V.length) (hq : q < V.length) (hn : JN gw V o (k + 1) r)
    (hno : ∀ x y, x < k + 1 → y < k + 1 → o x = p → o y = q → r p ≠ r q) : NJ gw V o p q (k + 1) := fun u hu hh => by
  by_cases hlt : V.getD (o k) 0 < u
  · exact h u (fun x hx hxn => by
      by_cases e : x = k
      · subst e; exact hlt
      · exact hu x (by omega) hxn) hh
  · obtain ⟨h1, h2, h3⟩ := hh
    have laid : ∀ j, j < V.length → u ≤ V.getD j 0 → ∃ x, x < k + 1 ∧ o x = j := fun j hj hv => by
      obtain ⟨x, hx, rfl⟩ := ho.all j hj
      refine ⟨x, ?_, rfl⟩
      rcases Nat.lt_or_ge x (k + 1) with h | h
      · exact h
      · have := hu x h hx; omega
    have same : ∀ i j, Conn gw V u i j → r i = r j := fun i j c => by
      induction c with
      | refl => rfl
      | step a _ ih =>
        obtain ⟨hi, hj, vi, vj, s⟩ := a
        obtain ⟨x, hx, rfl⟩ := laid _ hi vi
        obtain ⟨y, hy, rfl⟩ := laid _ hj vj
        exact (hn.compl x y hx hy s).trans ih
    obtain ⟨x, hx, ex⟩ := laid p hp h1
    obtain ⟨y, hy, ey⟩ := laid q hq h2
    exact hno x y hx hy ex ey (same p q h3)
/-- the greatest height that joins -/
def IsJoin (gw : Nat) (V : List Int) (p q : Nat) (t : Int) : Prop := t ≤ V.getD p 0 ∧ t ≤ V.getD q 0 ∧ Conn gw V t p q ∧ ¬ (t + 1 ≤ V.getD p 0 ∧ t + 1 ≤ V.getD q 0 ∧ Conn gw V (t + 1) p q)
theorem JN.joined (hn : JN gw V o (k + 1) r) (h : NJ gw V o p q k) (hk : k < V.length) (hd : ∀ x y, x ≤ y → y < V.length → V.getD (o y) 0 ≤ V.getD (o x) 0) (hp : p < V.length) (hq : q < V.length)
    {x y : Nat} (hx : x < k + 1) (hy : y < k + 1) (ex : o x = p) (ey : o y = q) (he : r p = r q) : IsJoin gw V p q (V.getD (o k) 0) := by
  have hc := hn.conn (V.getD (o k) 0) (fun x hx => hd x k (by omega) hk)
  refine ⟨by rw [← ex]; exact hd x k (by omega) hk, by rw [← ey]; exact hd y k (by omega) hk, ?_, h _ (fun x hx hxn => by have := hd k x hx hxn; omega)⟩
  have h1 := hc p hp
  rw [he] at h1
  exact h1.trans (hc q hq).symm
theorem NJ.never {gh : Nat} (h : NJ gw V o p q V.length) (hgw : 0 < gw) (hB : ∀ i, i < V.length → -2147483648 ≤ V.getD i 0) (hp : p < V.length) (hq : q < V.length) : False :=
  h (-2147483648) (fun x hx hxn => by omega) ⟨hB p hp, hB q hq, (grid_conn29 (gh := gh) hgw hB p hp).trans (grid_conn29 (gh := gh) hgw hB q hq).symm⟩
end
end Go.Proofs.Ytiidmiebckkloaa
/- Peaks in plain Lean: plateaus, rises; isles. -/
namespace Go.Proofs.Ytiidmiebckkloaa
set_option linter.unusedVariables false
set_option linter.unusedSimpArgs false

/-! ### The least one that hangs together -/
section
variable {gw : Nat} {V : List Int} {t : Int} {r : Nat → Nat}
theorem Roots.least (h : Roots gw V t r) {i j : Nat} (hi : i < V.length) (c : Conn gw V t i j) : r i ≤ j := by
  have key : ∀ {i j}, Conn gw V t i j → i < V.length → r i = r j ∧ j < V.length := by
    intro i j c
    induction c with
    | refl => exact fun h => ⟨rfl, h⟩
    | step a _ ih =>
      intro hi
      have := ih a.2.1
      exact ⟨(h.same (.of_adj a)).trans this.1, this.2⟩
  obtain ⟨h1, h2⟩ := key c hi
  rw [h1]
  exact h.le j h2
theorem Roots.iff (h : Roots gw V t r) {i j : Nat} (hi : i < V.length) (hj : j < V.length) : r i = r j ↔ Conn gw V t i j :=
  ⟨fun e => (h.conn i hi).trans (e ▸ (h.conn j hj).symm), fun c => h.same c⟩
end
noncomputable def rootC (gw : Nat) (V : List Int) (t : Int) : Nat → Nat := (roots_exist gw V t).choose
theorem rootC_roots (gw : Nat) (V : List Int) (t : Int) : Roots gw V t (rootC gw V t) := (roots_exist gw V t).choose_spec

/-! ### Plateaus -/
def lvl (V : List Int) (x : Int) : List Int := V.map fun v => if v = x then 1 else 0
theorem lvl_len (V : List Int) (x : Int) : (lvl V x).length = V.length := by simp [lvl]
theorem lvl_get {V : List Int} {x : Int} {i : Nat} (h : i < V.length) : (lvl V x).getD i 0 = if V.getD i 0 = x then 1 else 0 := by
  unfold lvl
  rw [List.getD_eq_getElem?_getD, List.getElem?_map, getD_at h]
  rfl
theorem lvl_one {V : List Int} {x : Int} {i : Nat} (h : i < V.length) : 1 ≤ (lvl V x).getD i 0 ↔ V.getD i 0 = x := by
  rw [lvl_get h]; split <;> simp_all
/-- a cell's plateau: its first cell -/
noncomputable def pR (gw : Nat) (V : List Int) (i : Nat) : Nat := rootC gw (lvl V (V.getD i 0)) 1 i
section
variable {gw : Nat} {V : List Int} {i j : Nat}
theorem pConn_val {x : Int} (hi : i < V.length) (hx : V.getD i 0 = x) (c : Conn gw (lvl V x) 1 i j) : j < V.length ∧ V.getD j 0 = x := by
  induction c with
  | refl => exact ⟨hi, hx⟩
  | step a _ ih =>
    have h2 := a.2.1
    rw [lvl_len] at h2
    exact ih h2 ((lvl_one h2).1 a.2.2.2.1)
theorem pR_le (hi : i < V.length) : pR gw V i ≤ i := (rootC_roots gw (lvl V (V.getD i 0)) 1).le i (by rwa [lvl_len])
theorem pR_conn (hi : i < V.length) : Conn gw (lvl V (V.getD i 0)) 1 i (pR gw V i) := (rootC_roots gw (lvl V (V.getD i 0)) 1).conn i (by rwa [lvl_len])
theorem pR_val (hi : i < V.length) : V.getD (pR gw V i) 0 = V.getD i 0 := (pConn_val hi rfl (pR_conn hi)).2
theorem pR_lt (hi : i < V.length) : pR gw V i < V.length := Nat.lt_of_le_of_lt (pR_le hi) hi
theorem pR_iff (hi : i < V.length) (hj : j < V.length) : pR gw V i = pR gw V j ↔ V.getD j 0 = V.getD i 0 ∧ Conn gw (lvl V (V.getD i 0)) 1 i j := by
  constructor
  · intro e
    have h1 : V.getD j 0 = V.getD i 0 := by rw [← pR_val (gw := gw) hi, e, pR_val hj]
    refine ⟨h1, ?_⟩
    have c1 := pR_conn (gw := gw) hi
    have c2 := pR_conn (gw := gw) hj
    rw [h1, ← e] at c2
    exact c1.trans c2.symm
  · rintro ⟨h1, c⟩
    unfold pR
    rw [h1]
    exact (rootC_roots gw _ 1).same c
theorem pR_idem (hi : i < V.length) : pR gw V (pR gw V i) = pR gw V i := ((pR_iff hi (pR_lt hi)).2 ⟨pR_val hi, pR_conn hi⟩).symm
theorem pR_side (hi : i < V.length) (hj : j < V.length) (h : V.getD j 0 = V.getD i 0) (s : Side gw i j) : pR gw V i = pR gw V j := by
  refine (pR_iff hi hj).2 ⟨h, .of_adj ⟨by rwa [lvl_len], by rwa [lvl_len], (lvl_one hi).2 rfl, (lvl_one hj).2 h, s⟩⟩
end
/-- is nothing higher beside a plateau? -/
def TopP (gw : Nat) (V : List Int) (q : Nat) : Prop := ∀ i j, i < V.length → j < V.length → pR gw V i = q → Side gw i j → V.getD j 0 ≤ V.getD q 0
open Classical in
noncomputable def topB (gw : Nat) (V : List Int) (q : Nat) : Bool := decide (TopP gw V q)
noncomputable def plat (gw : Nat) (V : List Int) (q : Nat) : List Nat := (List.range V.length).filter fun i => decide (pR gw V i = q)
noncomputable def hdB (gw : Nat) (V : List Int) (q : Nat) : Bool := decide (pR gw V q = q) && topB gw V q
noncomputable def headsN (gw : Nat) (V : List Int) (k : Nat) : List Nat := (List.range k).filter (hdB gw V)

/-! ### Rises -/
def HiC (gw : Nat) (V : List Int) (t : Int) (q : Nat) : Prop := ∃ j, j < V.length ∧ Conn gw V t q j ∧ V.getD q 0 < V.getD j 0
def IsKey (gw : Nat) (V : List Int) (q : Nat) (h : Int) : Prop := HiC gw V h q ∧ ∀ t, h < t → ¬ HiC gw V t q
def IsMin (V : List Int) (m : Int) : Prop := (∃ i, i < V.length ∧ V.getD i 0 = m) ∧ ∀ i, i < V.length → m ≤ V.getD i 0
def IsRise (gw : Nat) (V : List Int) (q : Nat) (d : Int) : Prop := IsKey gw V q (V.getD q 0 - d) ∨ ((∀ t, ¬ HiC gw V t q) ∧ IsMin V (V.getD q 0 - d))
theorem IsKey.uniq {gw : Nat} {V : List Int} {q : Nat} {h h' : Int} (a : IsKey gw V q h) (b : IsKey gw V q h') : h = h' := by
  rcases Int.lt_trichotomy h h' with e | e | e
  · exact absurd b.1 (a.2 _ e)
  · exact e
  · exact absurd a.1 (b.2 _ e)
theorem IsMin.uniq {V : List Int} {m m' : Int} (a : IsMin V m) (b : IsMin V m') : m = m' := by
  obtain ⟨⟨i, hi, e⟩, h⟩ := a
  obtain ⟨⟨i', hi', e'⟩, h'⟩ := b
  have := h i' hi'
  have := h' i hi
  omega
theorem IsRise.uniq {gw : Nat} {V : List Int} {q : Nat} {d d' : Int} (a : IsRise gw V q d) (b : IsRise gw V q d') : d = d' := by
  rcases a with a | ⟨a1, a2⟩ <;> rcases b with b | ⟨b1, b2⟩
  · have := a.uniq b; omega
  · exact absurd a.1 (b1 _)
  · exact absurd b.1 (a1 _)
  · have := a2.uniq b2; omega
open Classical in
noncomputable def riseN (gw : Nat) (V : List Int) (q : Nat) : Int := if h : ∃ d, IsRise gw V q d then h.choose else 0
theorem riseN_eq {gw : Nat} {V : List Int} {q : Nat} {d : Int} (h : IsRise gw V q d) : riseN gw V q = d := by
  unfold riseN
  rw [dif_pos ⟨d, h⟩]
  exact (Exists.choose_spec (⟨d, h⟩ : ∃ d, IsRise gw V q d)).uniq h
/-- a peak: its first cell, value, area, rise -/
structure Pk where
  fs : Nat
  v : Int
  ar : Int
  rz : Int
deriving Inhabited, DecidableEq
noncomputable def pkAt (gw : Nat) (V : List Int) (z : Nat → Int) (q : Nat) : Pk := ⟨q, V.getD q 0, (plat gw V q).length, z q⟩
noncomputable def peaksL (gw : Nat) (V : List Int) : List Pk := (headsN gw V V.length).map (pkAt gw V (riseN gw V))
theorem headsN_succ {gw : Nat} {V : List Int} {k : Nat} : headsN gw V (k + 1) = if hdB gw V k = true then headsN gw V k ++ [k] else headsN gw V k := by
  unfold headsN
  rw [List.range_succ, List.filter_append]
  by_cases h : hdB gw V k = true
  · rw [if_pos h]; simp [h]
  · rw [if_neg h]; simp [h]
theorem headsN_nodup (gw : Nat) (V : List Int) (k : Nat) : (headsN gw V k).Nodup := List.Pairwise.filter _ List.nodup_range
theorem mem_headsN {gw : Nat} {V : List Int} {k q : Nat} : q ∈ headsN gw V k ↔ q < k ∧ pR gw V q = q ∧ TopP gw V q := by
  unfold headsN hdB topB
  simp only [List.mem_filter, List.mem_range, Bool.and_eq_true, decide_eq_true_eq]
theorem headsN_len (gw : Nat) (V : List Int) (k : Nat) : (headsN gw V k).length ≤ k := by
  have := List.length_filter_le (hdB gw V) (List.range k)
  rwa [List.length_range] at this

/-! ### Isles -/
/-- an isle's root -/
inductive Chn (up : Nat → Option Nat) : Nat → Nat → Nat → Prop
  | root {i : Nat} : up i = none → Chn up 0 i i
  | hop {m i j r : Nat} : up i = some j → Chn up m j r → Chn up (m + 1) i r
theorem Chn.up_none {up : Nat → Option Nat} {m i r : Nat} (h : Chn up m i r) : up r = none := by
  induction h with
  | root h => exact h
  | hop _ _ ih => exact ih
theorem Chn.uniq {up : Nat → Option Nat} {m i r : Nat} (h : Chn up m i r) : ∀ {m' r'}, Chn up m' i r' → r = r' := by
  induction h with
  | root h0 =>
    intro m' r' h'
    cases h' with
    | root _ => rfl
    | hop h1 _ => rw [h0] at h1; cases h1
  | hop h0 _ ih =>
    intro m' r' h'
    cases h' with
    | root h1 => rw [h0] at h1; cases h1
    | hop h1 h2 => rw [h0] at h1; injection h1 with h1; subst h1; exact ih h2
def updO_ (up : Nat → Option Nat) (b a : Nat) : Nat → Option Nat := fun i => if i = b then some a else up i
def updL (op : Nat → List Nat) (a : Nat) (l : List Nat) : Nat → List Nat := fun i => if i = a then l else op i
def updZ (z : Nat → Int) (q : Nat) (d : Int) : Nat → Int := fun i => if i = q then d else z i
theorem Chn.join {up : Nat → Option Nat} {a b m i r : Nat} (hab : a ≠ b) (ha : up a = none) (hb : up b = none) (h : Chn up m i r) : ∃ m', Chn (updO_ up b a) m' i (if r = b then a else r) := by
  induction h with
  | @root i h0 =>
    by_cases e : i = b
    · subst e
      exact ⟨1, by rw [if_pos rfl]; exact .hop (if_pos rfl) (.root (by unfold updO_; rw [if_neg hab]; exact ha))⟩
    · exact ⟨0, by rw [if_neg e]; exact .root (by unfold updO_; rw [if_neg e]; exact h0)⟩
  | @hop m i j r h0 _ ih =>
    obtain ⟨m', h'⟩ := ih
    refine ⟨m' + 1, .hop ?_ h'⟩
    unfold updO_
    rw [if_neg (fun e => by rw [e, hb] at h0; cases h0)]
    exact h0
theorem Chn.none_ {up : Nat → Option Nat} {m i r : Nat} (h : Chn up m i r) (hu : up i = none) : r = i := h.uniq (.root hu)
/-- isles: of the cells `laid`; H: the heads of all peaks; r: roots -/
structure IsI (gw : Nat) (V : List Int) (H : List Nat) (laid : Nat → Prop) (up : Nat → Option Nat) (val : Nat → Int) (op : Nat → List Nat) (z : Nat → Int) (r : Nat → Nat) : Prop where
  lt : ∀ i, laid i → i < V.length
  rl : ∀ i, laid i → laid (r i)
  un : ∀ i, ¬ laid i → up i = none
  ch : ∀ i, ∃ m, Chn up m i (r i)
  vmax : ∀ i, laid i → V.getD i 0 ≤ val (r i)
  vat : ∀ i, laid i → ∃ j, laid j ∧ r j = r i ∧ V.getD j 0 = val (r i)
  opn : ∀ i, laid i → r i = i → ∀ p, p ∈ op i ↔ ∃ q, H[p]? = some q ∧ laid q ∧ r q = i ∧ V.getD q 0 = val i
  ond : ∀ i, laid i → r i = i → (op i).Nodup
  res : ∀ q, q ∈ H → laid q → V.getD q 0 ≠ val (r q) → IsKey gw V q (V.getD q 0 - z q)
section
variable {gw : Nat} {V : List Int} {H : List Nat} {laid : Nat → Prop} {up : Nat → Option Nat} {val : Nat → Int} {op : Nat → List Nat} {z : Nat → Int} {r o : Nat → Nat} {k : Nat}
theorem IsI.start : IsI gw V H (fun _ => False) (fun _ => none) val op z (fun i => i) :=
  ⟨fun _ h => h.elim, fun _ h => h.elim, fun _ _ => rfl, fun i => ⟨0, .root rfl⟩, fun _ h => h.elim, fun _ h => h.elim, fun _ h => h.elim, fun _ h => h.elim, fun _ _ h => h.elim⟩
theorem IsI.root_up (h : IsI gw V H laid up val op z r) (i : Nat) : up (r i) = none := (h.ch i).choose_spec.up_none
theorem IsI.idem (h : IsI gw V H laid up val op z r) (i : Nat) : r (r i) = r i := (h.ch (r i)).choose_spec.none_ (h.root_up i)
theorem IsI.unr (h : IsI gw V H laid up val op z r) {i : Nat} (hi : ¬ laid i) : r i = i := (h.ch i).choose_spec.none_ (h.un i hi)
/-- a new isle -/
theorem IsI.lay (h : IsI gw V H laid up val op z r) {i : Nat} (hi : i < V.length) (hn : ¬ laid i) {l : List Nat} (hl : ∀ p, p ∈ l ↔ H[p]? = some i) (hlN : l.Nodup) :
    IsI gw V H (fun j => laid j ∨ j = i) up (fun j => if j = i then V.getD i 0 else val j) (updL op i l) z r := by
  have hri := h.unr hn
  have hne : ∀ j, laid j → j ≠ i := fun j hj e => hn (e ▸ hj)
  have hrne : ∀ j, laid j → r j ≠ i := fun j hj => hne _ (h.rl j hj)
  refine ⟨fun j hj => hj.elim (h.lt j) (fun e => by rw [e]; exact hi), fun j hj => hj.elim (fun hj => .inl (h.rl j hj)) (fun e => by rw [e, hri]; exact .inr rfl), fun j hj => h.un j (fun hh => hj (.inl hh)), h.ch, fun j hj => ?_, fun j hj => ?_, fun j hj hr p => ?_, fun j hj hr => ?_, fun q hq hlq hv => ?_⟩
  · rcases hj with hj | rfl
    · rw [if_neg (hrne j hj)]; exact h.vmax j hj
    · rw [hri, if_pos rfl]; exact Int.le_refl _
  · rcases hj with hj | rfl
    · rw [if_neg (hrne j hj)]
      obtain ⟨x, h1, h2, h3⟩ := h.vat j hj
      exact ⟨x, .inl h1, h2, h3⟩
    · rw [hri, if_pos rfl]; exact ⟨_, .inr rfl, hri, rfl⟩
  · rcases hj with hj | rfl
    · unfold updL
      rw [if_neg (hne j hj), if_neg (hne j hj), h.opn j hj hr]
      constructor
      · rintro ⟨q, h1, h2, h3⟩; exact ⟨q, h1, .inl h2, h3⟩
      · rintro ⟨q, h1, h2 | h2, h3, h4⟩
        · exact ⟨q, h1, h2, h3, h4⟩
        · subst h2; rw [hri] at h3; exact absurd h3.symm (hne j hj)
    · unfold updL
      rw [if_pos rfl, if_pos rfl, hl]
      constructor
      · intro hp; exact ⟨_, hp, .inr rfl, hri, rfl⟩
      · rintro ⟨q, h1, h2 | h2, h3, h4⟩
        · exact absurd h3 (hrne q h2)
        · rw [h2] at h1; exact h1
  · rcases hj with hj | rfl
    · unfold updL; rw [if_neg (hne j hj)]; exact h.ond j hj hr
    · unfold updL; rw [if_pos rfl]; exact hlN
  · rcases hlq with hlq | rfl
    · rw [if_neg (hrne q hlq)] at hv
      exact h.res q hq hlq hv
    · rw [hri, if_pos rfl] at hv; exact absurd rfl hv
/-- two isles are joined, the lower one at its rise -/
theorem IsI.join (h : IsI gw V H laid up val op z r) {a b : Nat} (la : laid a) (lb : laid b) (ra : r a = a) (rb : r b = b) (hab : a ≠ b) (hv : val b < val a) {t : Int}
    (hz : ∀ q, q ∈ H → laid q → r q = b → V.getD q 0 = val b → HiC gw V t q) (hm : ∀ q j u, q ∈ H → laid q → r q = b → t < u → j < V.length → Conn gw V u q j → laid j ∧ r j = b) {z' : Nat → Int}
    (hz' : ∀ q, q ∈ H → (laid q ∧ r q = b ∧ V.getD q 0 = val b → z' q = V.getD q 0 - t) ∧ (¬ (laid q ∧ r q = b ∧ V.getD q 0 = val b) → z' q = z q)) :
    IsI gw V H laid (updO_ up b a) val op z' (fun i => if r i = b then a else r i) := by
  have hua : up a = none := by have := h.root_up a; rwa [ra] at this
  have hub : up b = none := by have := h.root_up b; rwa [rb] at this
  have hmax : ∀ i, laid i → r i = b → V.getD i 0 ≤ val b := fun i hi e => by have := h.vmax i hi; rwa [e] at this
  refine ⟨h.lt, fun i hi => ?_, fun i hi => ?_, fun i => ?_, fun i hi => ?_, fun i hi => ?_, fun i hi hr p => ?_, fun i hi hr => ?_, fun q hq hlq hne => ?_⟩
  · (try dsimp only); split
    · exact la
    · exact h.rl i hi
  · unfold updO_
    rw [if_neg (fun e => hi (by rw [e]; exact lb))]
    exact h.un i hi
  · obtain ⟨m, c⟩ := h.ch i
    exact c.join hab hua hub
  · (try dsimp only); split
    · rename_i e; have := hmax i hi e; omega
    · exact h.vmax i hi
  · by_cases e : r i = b
    · obtain ⟨x, h1, h2, h3⟩ := h.vat a la
      rw [ra] at h2 h3
      refine ⟨x, h1, ?_, ?_⟩
      · (try dsimp only); rw [if_pos e, h2, if_neg hab]
      · rw [if_pos e]; exact h3
    · obtain ⟨x, h1, h2, h3⟩ := h.vat i hi
      refine ⟨x, h1, ?_, ?_⟩
      · (try dsimp only); rw [h2]
      · rw [if_neg e]; exact h3
  · have hib : i ≠ b := fun e => by subst e; (try dsimp only at hr); rw [rb, if_pos rfl] at hr; exact hab hr
    have hri : r i = i := by
      by_cases e : r i = b
      · (try dsimp only at hr); rw [if_pos e] at hr; rw [hr] at ra; rw [← hr] at e; rw [hr] at e; rw [ra] at e; exact absurd e hib
      · (try dsimp only at hr); rwa [if_neg e] at hr
    rw [h.opn i hi hri]
    constructor
    · rintro ⟨q, h1, h2, h3, h4⟩
      exact ⟨q, h1, h2, by rw [if_neg (by rw [h3]; exact hib)]; exact h3, h4⟩
    · rintro ⟨q, h1, h2, h3, h4⟩
      refine ⟨q, h1, h2, ?_, h4⟩
      by_cases e : r q = b
      · rw [if_pos e] at h3
        subst h3
        have := hmax q h2 e
        omega
      · rwa [if_neg e] at h3
  · have hib : i ≠ b := fun e => by subst e; (try dsimp only at hr); rw [rb, if_pos rfl] at hr; exact hab hr
    by_cases e : r i = b
    · (try dsimp only at hr); rw [if_pos e] at hr; subst hr; exact h.ond _ la ra
    · (try dsimp only at hr); rw [if_neg e] at hr; exact h.ond i hi hr
  · by_cases e : r q = b
    · by_cases e2 : V.getD q 0 = val b
      · rw [(hz' q hq).1 ⟨hlq, e, e2⟩, show V.getD q 0 - (V.getD q 0 - t) = t by omega]
        refine ⟨hz q hq hlq e e2, fun u hu => ?_⟩
        rintro ⟨j, hj, c, hgt⟩
        obtain ⟨lj, rj⟩ := hm q j u hq hlq e hu hj c
        have := hmax j lj rj
        omega
      · rw [(hz' q hq).2 (fun h => e2 h.2.2)]
        exact h.res q hq hlq (by rw [e]; exact e2)
    · rw [(hz' q hq).2 (fun h => e h.2.1)]
      (try dsimp only at hne); rw [if_neg e] at hne
      exact h.res q hq hlq hne
/-- two isles of one value are joined -/
theorem IsI.merge (h : IsI gw V H laid up val op z r) {a b : Nat} (la : laid a) (lb : laid b) (ra : r a = a) (rb : r b = b) (hab : a ≠ b) (hv : val b = val a) :
    IsI gw V H laid (updO_ up b a) val (updL op a (op a ++ op b)) z (fun i => if r i = b then a else r i) := by
  have hua : up a = none := by have := h.root_up a; rwa [ra] at this
  have hub : up b = none := by have := h.root_up b; rwa [rb] at this
  refine ⟨h.lt, fun i hi => ?_, fun i hi => ?_, fun i => ?_, fun i hi => ?_, fun i hi => ?_, fun i hi hr p => ?_, fun i hi hr => ?_, fun q hq hlq hne => ?_⟩
  · (try dsimp only); split
    · exact la
    · exact h.rl i hi
  · unfold updO_
    rw [if_neg (fun e => hi (by rw [e]; exact lb))]
    exact h.un i hi
  · obtain ⟨m, c⟩ := h.ch i
    exact c.join hab hua hub
  · have := h.vmax i hi
    (try dsimp only); split
    · rename_i e; rw [e] at this; omega
    · exact this
  · obtain ⟨x, h1, h2, h3⟩ := h.vat i hi
    refine ⟨x, h1, ?_, ?_⟩
    · (try dsimp only); rw [h2]
    · (try dsimp only); split
      · rename_i e; rw [e] at h3; omega
      · exact h3
  · have hib : i ≠ b := fun e => by subst e; (try dsimp only at hr); rw [rb, if_pos rfl] at hr; exact hab hr
    unfold updL
    by_cases e : i = a
    · subst e
      rw [if_pos rfl, List.mem_append, h.opn _ la ra, h.opn _ lb rb]
      constructor
      · rintro (⟨q, h1, h2, h3, h4⟩ | ⟨q, h1, h2, h3, h4⟩)
        · exact ⟨q, h1, h2, by rw [if_neg (by rw [h3]; exact hab)]; exact h3, h4⟩
        · exact ⟨q, h1, h2, by rw [if_pos h3], by omega⟩
      · rintro ⟨q, h1, h2, h3, h4⟩
        by_cases e : r q = b
        · exact .inr ⟨q, h1, h2, e, by omega⟩
        · rw [if_neg e] at h3; exact .inl ⟨q, h1, h2, h3, h4⟩
    · have hri : r i = i := by
        by_cases e2 : r i = b
        · (try dsimp only at hr); rw [if_pos e2] at hr; exact absurd hr.symm e
        · (try dsimp only at hr); rwa [if_neg e2] at hr
      rw [if_neg e, h.opn i hi hri]
      constructor
      · rintro ⟨q, h1, h2, h3, h4⟩
        exact ⟨q, h1, h2, by rw [if_neg (by rw [h3]; exact hib)]; exact h3, h4⟩
      · rintro ⟨q, h1, h2, h3, h4⟩
        by_cases e2 : r q = b
        · rw [if_pos e2] at h3; exact absurd h3.symm e
        · rw [if_neg e2] at h3; exact ⟨q, h1, h2, h3, h4⟩
  · unfold updL
    by_cases e : i = a
    · subst e
      rw [if_pos rfl, List.nodup_append]
      refine ⟨h.ond _ la ra, h.ond _ lb rb, fun x hx y hy e => ?_⟩
      subst e
      obtain ⟨q, h1, h2, h3, h4⟩ := (h.opn _ la ra x).1 hx
      obtain ⟨q', h1', h2', h3', h4'⟩ := (h.opn _ lb rb x).1 hy
      rw [h1] at h1'
      injection h1' with h1'
      subst h1'
      exact hab (h3.symm.trans h3')
    · rw [if_neg e]
      have hri : r i = i := by
        by_cases e2 : r i = b
        · (try dsimp only at hr); rw [if_pos e2] at hr; exact absurd hr.symm e
        · (try dsimp only at hr); rwa [if_neg e2] at hr
      exact h.ond i hi hri
  · by_cases e : r q = b
    · (try dsimp only at hne); rw [if_pos e] at hne
      exact h.res q hq hlq (by rw [e]; omega)
    · (try dsimp only at hne); rw [if_neg e] at hne
      exact h.res q hq hlq hne
/-- at last -/
theorem IsI.fin (h : IsI gw V H laid up val op z r) (hall : ∀ i, i < V.length → laid i) {s : Nat} (hs : ∀ i, i < V.length → r i = s) (hH : ∀ q, q ∈ H → q < V.length) {m : Int} (hm : IsMin V m) {z' : Nat → Int}
    (hz' : ∀ q, q ∈ H → (V.getD q 0 = val s → z' q = V.getD q 0 - m) ∧ (V.getD q 0 ≠ val s → z' q = z q)) : ∀ q, q ∈ H → z' q = riseN gw V q := by
  intro q hq
  have hql := hH q hq
  have hrq := hs q hql
  symm
  apply riseN_eq
  by_cases e : V.getD q 0 = val s
  · rw [(hz' q hq).1 e]
    right
    refine ⟨fun t => ?_, by rw [show V.getD q 0 - (V.getD q 0 - m) = m by omega]; exact hm⟩
    rintro ⟨j, hj, c, hgt⟩
    have := h.vmax j (hall j hj)
    rw [hs j hj] at this
    omega
  · rw [(hz' q hq).2 e]
    left
    exact h.res q hq (hall q hql) (by rw [hrq]; exact e)
end
end Go.Proofs.Ytiidmiebckkloaa
/- Package route: a land's cells, neighbours, steps. -/
namespace Go.Proofs.Ytiidmiebckkloaa
open Go.RowKit
set_option linter.unusedVariables false
set_option linter.unusedSimpArgs false
set_option maxRecDepth 100000

/-! ### Rows of numbers -/
def natsV (l : List Nat) : List Value := l.map fun (j : Nat) => Value.int .i64 (j : Int)
theorem natsV_len (l : List Nat) : (natsV l).length = l.length := by simp [natsV]
theorem natsV_app (l m : List Nat) : natsV l ++ natsV m = natsV (l ++ m) := by simp [natsV]
theorem natsV_get {l : List Nat} {i j : Nat} (h : l[i]? = some j) : (natsV l)[(i : Int).toNat * 1]? = some (.int .i64 (j : Int)) := by
  rw [Nat.mul_one, Int.toNat_natCast, natsV, List.getElem?_map, h]; rfl
def cellsQ (n : Nat) (o : Nat → Int) : List Value := (List.range n).map fun i => .int .i64 (o i)
theorem cellsQ_len (n : Nat) (o : Nat → Int) : (cellsQ n o).length = n := by simp [cellsQ]
theorem cellsQ_get {n i : Nat} {o : Nat → Int} (h : i < n) : (cellsQ n o)[(i : Int).toNat * 1]? = some (.int .i64 (o i)) := by
  rw [Nat.mul_one, Int.toNat_natCast, cellsQ, List.getElem?_map, List.getElem?_range h]; rfl
theorem cellsQ_ints (n : Nat) (o : Nat → Int) : cellsQ n o = ints ((List.range n).map o) := by simp [cellsQ, ints]
theorem cellsQ_congr {n : Nat} {o o' : Nat → Int} (h : ∀ i, i < n → o i = o' i) : cellsQ n o = cellsQ n o' := by
  unfold cellsQ
  refine List.map_congr_left fun i hi => ?_
  rw [h i (List.mem_range.1 hi)]
theorem cellsQ_set {n k : Nat} {o : Nat → Int} {v : Int} : (cellsQ n o).set ((k : Int).toNat * 1) (.int .i64 v) = cellsQ n (updI o k v) := by
  rw [Nat.mul_one, Int.toNat_natCast]
  apply List.ext_getElem?
  intro i
  rw [List.getElem?_set]
  unfold cellsQ updI
  by_cases e : k = i
  · subst e
    rw [if_pos rfl]
    simp only [List.length_map, List.length_range]
    split
    · rename_i h; rw [List.getElem?_map, List.getElem?_range h]; simp
    · rename_i h; rw [List.getElem?_eq_none (by simp; omega)]
  · rw [if_neg e, List.getElem?_map, List.getElem?_map]
    by_cases h : i < n
    · rw [List.getElem?_range h, Option.map_some, Option.map_some, if_neg (fun h => e h.symm)]
    · rw [List.getElem?_eq_none (by simp; omega)]; rfl
theorem cellsQ_zero (n : Nat) : List.replicate n (Value.int .i64 0) = cellsQ n (fun _ => 0) := by
  unfold cellsQ
  rw [List.map_const', List.length_range]

section
variable {W : World} {A : Option Addr} {gw c : Nat} {V : List Int}
def vB (V : List Int) : Prop := ∀ i, -2147483648 ≤ V.getD i 0 ∧ V.getD i 0 ≤ 2147483647
theorem st_far (hb : vB V) (i j : Nat) : st V i j ≤ far := by have := hb i; have := hb j; unfold st far; omega
theorem IsDist.bound {a : Nat} {d : Nat → Int} (h : IsDist gw V a d) (hb : vB V) : ∀ j, j < V.length → d j ≤ rank V.length d j * far := by
  have key : ∀ (k : Nat) (j : Nat), j < V.length → rank V.length d j < k → d j ≤ rank V.length d j * far := by
    intro k
    induction k with
    | zero => intro j _ h; omega
    | succ k ih =>
      intro j hj hk
      by_cases e : j = a
      · subst e; rw [h.zero]; unfold far; omega
      · obtain ⟨i, hi, _, he⟩ := h.pred j hj e
        have h1 := st_pos V i j
        have h2 := st_far hb i j
        have h3 := rank_lt (n := V.length) (d := d) (i := i) (j := j) hi (by omega)
        have h4 := ih i hi (by omega)
        unfold far at *
        omega
  exact fun j hj => key (rank V.length d j + 1) j hj (by omega)
end
theorem vB_of_may {V : List Int} (h : ∀ v ∈ V, mayB v = true) : vB V := by
  intro i
  rw [List.getD_eq_getElem?_getD]
  cases e : V[i]? with
  | none => simp
  | some v =>
    have := h v (List.mem_of_getElem? e)
    unfold mayB at this
    simpa using this
theorem vB_grid {gw gh : Nat} {cc : Nat → Int} (h : ∀ i, i < gw * gh → -2147483648 ≤ cc i ∧ cc i ≤ 2147483647) : vB (gridL gw gh cc) := by
  intro i
  unfold gridL
  rw [List.getD_eq_getElem?_getD]
  by_cases hi : i < gw * gh
  · rw [List.getElem?_map, List.getElem?_range hi]; exact h i hi
  · rw [List.getElem?_eq_none (by simp; omega)]; simp
end Go.Proofs.Ytiidmiebckkloaa
/- peaks.land.near: its contract. -/
namespace Go.Proofs.Ytiidmiebckkloaa
open Go.RowKit
set_option linter.unusedVariables false
set_option linter.unusedSimpArgs false
set_option maxRecDepth 100000

theorem SepL.permK {X : Nat → Prop} {w : World} {L L' : List HA} (p : L.Perm L') : SepL X w L → SepL X w L' := by
  induction p with
  | nil => exact id
  | cons a p ih => exact fun h => ⟨h.1, fun g hg h' hh => h.2.1 g hg h' (p.mem_iff.2 hh), ih h.2.2⟩
  | swap a b l =>
    intro h
    refine ⟨h.2.2.1, fun g hg h' hh => ?_, h.1, fun g hg h' hh => h.2.1 g hg h' (List.mem_cons_of_mem _ hh), h.2.2.2.2⟩
    rcases List.mem_cons.1 hh with e | hh
    · subst e; exact fun ho => h.2.1 g ho a List.mem_cons_self hg
    · exact h.2.2.2.1 g hg h' hh
  | trans _ _ ih1 ih2 => exact fun h => ih2 (ih1 h)
theorem St.permK {F : Nat → Prop} {W w : World} {L L' : List HA} (S : St F W w L) (p : L.Perm L') : St F W w L' := ⟨S.fr, S.sep.permK p⟩
theorem preN_len (gw n i : Nat) : ∀ k, (preN gw n i k).length ≤ k
  | 0 => by simp [preN]
  | k + 1 => by
    have := preN_len gw n i k
    have h2 : (segN gw n i k).length ≤ 1 := by unfold segN; split <;> (split <;> simp)
    unfold preN
    rw [List.length_append]
    omega
section
variable {W : World} {A : Option Addr} {gw gh c : Nat}
set_option maxHeartbeats 2000000 in
theorem pnear_E (i : Nat) (hgw : 1 ≤ gw ∧ gw ≤ 1048576) (hm : gw * gh ≤ 1048576) (hi : i < gw * gh) :
    Fn Try.prog 49 [.agg #[.int .i64 gw, .slice A (gw * gh) c], .int .i64 i] W (RetNew id 3 1 (nearN gw (gw * gh) i).length (natsV (nearN gw (gw * gh) i)) W) := by
  have em : (i : Int) % gw = ((i % gw : Nat) : Int) := by push_cast; rfl
  have d0 : decide ((i : Int) ≥ gw) = thN gw (gw * gh) i 0 := by show _ = decide _; rw [Bool.eq_iff_iff, decide_eq_true_iff, decide_eq_true_iff]; omega
  have d1 : decide (((i % gw : Nat) : Int) > 0) = thN gw (gw * gh) i 1 := by show _ = decide _; rw [Bool.eq_iff_iff, decide_eq_true_iff, decide_eq_true_iff]; omega
  have d2 : decide (((i % gw : Nat) : Int) < (gw : Int) - 1) = thN gw (gw * gh) i 2 := by show _ = decide _; rw [Bool.eq_iff_iff, decide_eq_true_iff, decide_eq_true_iff]; omega
  have d3 : decide ((i : Int) + gw < (gw * gh : Nat)) = thN gw (gw * gh) i 3 := by show _ = decide _; rw [Bool.eq_iff_iff, decide_eq_true_iff, decide_eq_true_iff]; omega
  have hpl := preN_len gw (gw * gh) i
  rw [← preN_four]
  have S := St.start W
  refine Fn_enter Try.func49 rfl Try.results49 Try.ntmps49 (by kernel_rfl) (by kernel_rfl) ?_
  repeat refine cw_seq ?_
  refine cw_region ?_
  refine rw_newB (op_box rfl) S ?_
  intro b_l w2_ g2_ S
  refine rw_v (op_pure rfl) ?_
  first | refine rw_end ?_ | (refine rw_nil ?_; show CW _ _ _ _ _ _) | refine rw_nil ?_
  repeat refine cw_seq ?_
  refine cw_region ?_
  refine rw_v (op_pure rfl) ?_
  first | refine rw_end ?_ | (refine rw_nil ?_; show CW _ _ _ _ _ _) | refine rw_nil ?_
  repeat refine cw_seq ?_
  refine cw_draw (C := fun wq => Gr w2_ wq) [0, 1, 2, 3, 4, 5, 6, 7, 8, 9, 10, 11, 12, 13, 14, 15, 16, 17, 18, 19, 20, 21, 22, 23, 24, 25, 26, 27, 28, 29, 30, 31, 32, 33, 34, 35, 36, 37, 38, 39, 40, 41, 42] [] (by kernel_rfl) (by kernel_rfl) (Gr.drew _) ?_
  simp only [pickL, List.drop_succ_cons, List.drop_zero]
  refine rq_v (op_pure rfl) ?_
  refine rq_v (op_fieldAddr Try.underlying66 rfl Try.sizeOf3 rfl rfl) ?_
  refine rq_r (fun wq hq => op_loadB Try.underlying3 rfl rfl ((S.gr hq).blk (i := 0) rfl) rfl) ?_
  refine rq_v (op_pure rfl) ?_
  rw [d0]
  refine rq_v (op_pure rfl) ?_
  refine rq_v (op_fieldAddr Try.underlying66 rfl Try.sizeOf3 rfl rfl) ?_
  refine rq_r (fun wq hq => op_loadB Try.underlying3 rfl rfl ((S.gr hq).blk (i := 0) rfl) rfl) ?_
  refine rq_v (op_rng rfl (by omega)) ?_
  refine rq_v (op_build (pl := [(0, 1), (1, 1)]) Try.underlying141 Try.zeroValue141 (fun w => by kernel_rfl) rfl rfl) ?_
  refine rq_v (op_pure rfl) ?_
  refine rq_v (op_fieldAddr Try.underlying66 rfl Try.sizeOf3 rfl rfl) ?_
  refine rq_r (fun wq hq => op_loadB Try.underlying3 rfl rfl ((S.gr hq).blk (i := 0) rfl) rfl) ?_
  refine rq_v (op_rem rfl rfl (by omega) (by omega)) ?_
  rw [em]
  refine rq_v (op_pure rfl) ?_
  rw [d1]
  refine rq_v (op_pure rfl) ?_
  refine rq_v (op_rng rfl (by omega)) ?_
  refine rq_v (op_build (pl := [(0, 1), (1, 1)]) Try.underlying141 Try.zeroValue141 (fun w => by kernel_rfl) rfl rfl) ?_
  refine rq_v (op_pure rfl) ?_
  refine rq_v (op_fieldAddr Try.underlying66 rfl Try.sizeOf3 rfl rfl) ?_
  refine rq_r (fun wq hq => op_loadB Try.underlying3 rfl rfl ((S.gr hq).blk (i := 0) rfl) rfl) ?_
  refine rq_v (op_rem rfl rfl (by omega) (by omega)) ?_
  rw [em]
  refine rq_v (op_fieldAddr Try.underlying66 rfl Try.sizeOf3 rfl rfl) ?_
  refine rq_r (fun wq hq => op_loadB Try.underlying3 rfl rfl ((S.gr hq).blk (i := 0) rfl) rfl) ?_
  refine rq_v (op_rng rfl (by omega)) ?_
  refine rq_v (op_pure rfl) ?_
  rw [d2]
  refine rq_v (op_pure rfl) ?_
  refine rq_v (op_rng rfl (by omega)) ?_
  refine rq_v (op_build (pl := [(0, 1), (1, 1)]) Try.underlying141 Try.zeroValue141 (fun w => by kernel_rfl) rfl rfl) ?_
  refine rq_v (op_pure rfl) ?_
  refine rq_v (op_fieldAddr Try.underlying66 rfl Try.sizeOf3 rfl rfl) ?_
  refine rq_r (fun wq hq => op_loadB Try.underlying3 rfl rfl ((S.gr hq).blk (i := 0) rfl) rfl) ?_
  refine rq_v (op_rng rfl (by omega)) ?_
  refine rq_v (op_fieldAddr Try.underlying66 rfl Try.sizeOf30 rfl rfl) ?_
  refine rq_r (fun wq hq => op_loadB Try.underlying30 rfl rfl ((S.gr hq).blk (i := 0) rfl) rfl) ?_
  refine rq_v (op_len Try.underlying30 rfl) ?_
  refine rq_v (op_pure rfl) ?_
  rw [d3]
  refine rq_v (op_pure rfl) ?_
  refine rq_v (op_fieldAddr Try.underlying66 rfl Try.sizeOf3 rfl rfl) ?_
  refine rq_r (fun wq hq => op_loadB Try.underlying3 rfl rfl ((S.gr hq).blk (i := 0) rfl) rfl) ?_
  refine rq_v (op_rng rfl (by omega)) ?_
  refine rq_v (op_build (pl := [(0, 1), (1, 1)]) Try.underlying141 Try.zeroValue141 (fun w => by kernel_rfl) rfl rfl) ?_
  refine rq_v (op_buildArr Try.underlying142 Try.sizeOf141 Try.zeroValue142 rfl rfl) ?_
  refine rq_v (op_pure rfl) ?_
  refine rq_nil ?_
  intro w3_ g3_
  have S := S.gr g3_
  first | refine rw_end ?_ | (refine rw_nil ?_; show CW _ _ _ _ _ _) | refine rw_nil ?_
  repeat refine cw_seq ?_
  refine cw_block ?_
  repeat refine cw_seq ?_
  have S := S.pushNil 3 1
  refine cw_loop (fun m e w => ∃ (k : Nat) (A2 : Option Addr) (c2 : Nat), k + m = 4 ∧ SL e [(2, .pointer (some ⟨b_l, 0, none⟩)), (5, .slice A2 (preN gw (gw * gh) i k).length c2), (49, .agg (quadV gw (gw * gh) i).toArray), (50, .int .i64 k)] ∧
      St No W w [.row 3 1 A2 (preN gw (gw * gh) i k).length c2 (natsV (preN gw (gw * gh) i k)), .blk b_l 66 [.int .i64 gw, .slice A (gw * gh) c]]) 4
    ⟨0, none, 0, rfl, ⟨rfl, rfl, rfl, rfl, trivial⟩, S⟩ ?_
  clear S d0 d1 d2 d3
  rintro m e w ⟨k, A2, c2, hk, hsl, S⟩
  rw [hsl.fold]
  repeat refine cw_seq ?_
  refine cw_region ?_
  refine rw_v (op_pure rfl) ?_
  first | refine rw_end ?_ | (refine rw_nil ?_; show CW _ _ _ _ _ _) | refine rw_nil ?_
  repeat refine cw_seq ?_
  refine cw_cond rfl (fun hc => ?_) (fun hc => ?_)
  · try simp only [decide_eq_true_eq, decide_eq_false_iff_not, beq_iff_eq, bne_iff_ne, beq_eq_false_iff_ne, bne_eq_false_iff_eq, Bool.not_eq_true', Bool.not_eq_false', ne_eq, Decidable.not_not, Int.natCast_inj, Int.ofNat_lt, Int.ofNat_le, gt_iff_lt, ge_iff_le, Int.not_lt, Int.not_le] at hc
    have hk4 : k < 4 := by omega
    have hq := quadV_get (gw := gw) (n := gw * gh) (i := i) k hk4
    have hstep : preN gw (gw * gh) i (k + 1) = preN gw (gw * gh) i k ++ segN gw (gw * gh) i k := rfl
    have hlk := hpl k
    generalize hP2 : preN gw (gw * gh) i (k + 1) = P2 at *
    generalize preN gw (gw * gh) i k = P1 at *
    rcases seg_spec hgw.1 hi k hk4 with ⟨hth, a, ha, han, hseg⟩ | ⟨hth, hseg⟩
    · rw [hth, ha] at hq
      rw [hseg] at hstep
      repeat refine cw_seq ?_
      refine cw_skip ?_
      try show CW _ _ _ _ _ _
      repeat refine cw_seq ?_
      refine cw_block ?_
      repeat refine cw_seq ?_
      refine cw_region ?_
      refine rw_v (op_indexVA Try.underlying142 Try.underlying141 Try.sizeOf141 rfl rfl rfl (by omega) (by omega) hq) ?_
      refine rw_newB (op_alloc Try.zeroValue141 rfl) S ?_
      intro b_q w5_ g5_ S
      refine rw_storeSA (i := 0) S rfl (Try.sizeOf141 _) rfl rfl rfl rfl rfl rfl ?_
      intro w6_ S
      first | refine rw_end ?_ | (refine rw_nil ?_; show CW _ _ _ _ _ _) | refine rw_nil ?_
      repeat refine cw_seq ?_
      refine cw_region ?_
      refine rw_v (op_fieldAddr Try.underlying141 rfl Try.sizeOf4 rfl rfl) ?_
      refine rw_r (op_loadB Try.underlying4 rfl rfl (S.blk (i := 0) rfl) rfl) ?_
      first | refine rw_end ?_ | (refine rw_nil ?_; show CW _ _ _ _ _ _) | refine rw_nil ?_
      repeat refine cw_seq ?_
      refine cw_true rfl ?_
      repeat refine cw_seq ?_
      refine cw_region ?_
      refine rw_v (op_pure rfl) ?_
      refine rw_v (op_fieldAddr Try.underlying141 rfl Try.sizeOf3 rfl rfl) ?_
      refine rw_r (op_loadB Try.underlying3 rfl rfl (S.blk (i := 0) rfl) rfl) ?_
      refine rw_buildS Try.underlying94 Try.sizeOf3 Try.zeroValue3 rfl rfl rfl rfl rfl rfl S ?_
      intro A_x1 w8_ g8_ S sa_x1
      refine rw_appS (i := 2) S rfl (fun h => rfl) Try.underlying94 info_t3 rfl rfl rfl rfl (by simp) (by omega) (S.rd (i := 0) rfl) rfl (by omega) ?_
      intro A_o2 c_o2 w9_ S sa_out
      refine rw_v (op_pure rfl) ?_
      first | refine rw_end ?_ | (refine rw_nil ?_; show CW _ _ _ _ _ _) | refine rw_nil ?_
      repeat refine cw_seq ?_
      refine cw_region ?_
      refine rw_v (op_rng rfl (by omega)) ?_
      refine rw_v (op_pure rfl) ?_
      first | refine rw_end ?_ | (refine rw_nil ?_; show CW _ _ _ _ _ _) | refine rw_nil ?_
      have S := S.sub (.cons _ (.cons _ (.cons_cons _ (.cons_cons _ (.slnil)))))
      have e1 : natsV P1 ++ [.int .i64 (a : Nat)] = natsV P2 := by rw [hstep]; simp [natsV]
      have e2 : P1.length + 1 = P2.length := by rw [hstep]; simp
      rw [e1, e2] at S
      exact ⟨m - 1, by omega, k + 1, _, _, by omega, ⟨rfl, by rw [hP2, ← e2]; rfl, rfl, ie (by omega), trivial⟩, by rw [hP2]; exact S⟩
    · rw [hth] at hq
      rw [hseg, List.append_nil] at hstep
      subst hstep
      repeat refine cw_seq ?_
      refine cw_skip ?_
      try show CW _ _ _ _ _ _
      repeat refine cw_seq ?_
      refine cw_block ?_
      repeat refine cw_seq ?_
      refine cw_region ?_
      refine rw_v (op_indexVA Try.underlying142 Try.underlying141 Try.sizeOf141 rfl rfl rfl (by omega) (by omega) hq) ?_
      refine rw_newB (op_alloc Try.zeroValue141 rfl) S ?_
      intro b_q w11_ g11_ S
      refine rw_storeSA (i := 0) S rfl (Try.sizeOf141 _) rfl rfl rfl rfl rfl rfl ?_
      intro w12_ S
      first | refine rw_end ?_ | (refine rw_nil ?_; show CW _ _ _ _ _ _) | refine rw_nil ?_
      repeat refine cw_seq ?_
      refine cw_region ?_
      refine rw_v (op_fieldAddr Try.underlying141 rfl Try.sizeOf4 rfl rfl) ?_
      refine rw_r (op_loadB Try.underlying4 rfl rfl (S.blk (i := 0) rfl) rfl) ?_
      first | refine rw_end ?_ | (refine rw_nil ?_; show CW _ _ _ _ _ _) | refine rw_nil ?_
      repeat refine cw_seq ?_
      refine cw_false rfl ?_
      repeat refine cw_seq ?_
      refine cw_skip ?_
      try show CW _ _ _ _ _ _
      repeat refine cw_seq ?_
      refine cw_region ?_
      refine rw_v (op_rng rfl (by omega)) ?_
      refine rw_v (op_pure rfl) ?_
      first | refine rw_end ?_ | (refine rw_nil ?_; show CW _ _ _ _ _ _) | refine rw_nil ?_
      exact ⟨m - 1, by omega, k + 1, A2, c2, by omega, ⟨rfl, by rw [hP2]; rfl, rfl, ie (by omega), trivial⟩, by rw [hP2]; exact S.drop 1⟩
  · try simp only [decide_eq_true_eq, decide_eq_false_iff_not, beq_iff_eq, bne_iff_ne, beq_eq_false_iff_ne, bne_eq_false_iff_eq, Bool.not_eq_true', Bool.not_eq_false', ne_eq, Decidable.not_not, Int.natCast_inj, Int.ofNat_lt, Int.ofNat_le, gt_iff_lt, ge_iff_le, Int.not_lt, Int.not_le] at hc
    obtain rfl : k = 4 := by omega
    repeat refine cw_seq ?_
    refine cw_exit ?_
    repeat first | refine exit_then ?_ | refine exit_inb ?_
    show CW _ _ _ _ _ _
    repeat refine cw_seq ?_
    refine cw_region ?_
    iterate 2 refine rw_v (op_pure rfl) ?_
    first | refine rw_end ?_ | (refine rw_nil ?_; show CW _ _ _ _ _ _) | refine rw_nil ?_
    repeat refine cw_seq ?_
    refine cw_ret ?_
    repeat first | refine ret_then ?_ | refine ret_inb ?_
    exact res1 rfl (S.retNew (i := 0) rfl)
end
end Go.Proofs.Ytiidmiebckkloaa
/- A queue: a slice whose first element is taken off, and that is appended to. -/
namespace Go.Proofs.Ytiidmiebckkloaa
open Go.RowKit
set_option linter.unusedVariables false
set_option linter.unusedSimpArgs false

def QRow (w : World) (el : Nat) (A : Option Addr) (n c : Nat) (xs : List Value) : Prop := ∃ g o l, A = some ⟨g, o, none⟩ ∧ Blk w g el l ∧ n ≤ c ∧ o + c ≤ l.length ∧ (l.drop o).take n = xs ∧ xs.length = n ∧ c ≤ maxLen
section
variable {w w' : World} {el n c : Nat} {A : Option Addr} {xs : List Value}
theorem QRow.keep (h : QRow w el A n c xs) (hk : ∀ g, ownA A g → w'.heap[g]? = w.heap[g]?) : QRow w' el A n c xs := by
  obtain ⟨g, o, l, rfl, hB, h2⟩ := h
  exact ⟨g, o, l, rfl, hB.keep (hk g rfl), h2⟩
theorem QRow.lt (h : QRow w el A n c xs) {g : Nat} (hg : ownA A g) : g < w.heap.size := by
  obtain ⟨g', o, l, rfl, hB, _⟩ := h
  have hg : g' = g := by injection hg
  subst hg; exact hB.lt
theorem QRow.cell (h : QRow w el A n c xs) {g o : Nat} (hA : A = some ⟨g, o, none⟩) {j : Nat} {v : Value} (hj : xs[j]? = some v) : w.cell? ⟨g, o + j, none⟩ = some v := by
  obtain ⟨g', o', l, hA', hB, hn, hl, ht, _⟩ := h
  rw [hA] at hA'
  injection hA' with hA'
  injection hA' with h1 h2
  subst h1; subst h2
  refine hB.cellv ?_
  rw [← ht, List.getElem?_take] at hj
  split at hj
  · rw [List.getElem?_drop] at hj; exact hj
  · cases hj
theorem QRow.rd (h : QRow w el A n c xs) : Rd w A xs := by
  have h' := h
  obtain ⟨g, o, l, rfl, hB, _⟩ := h'
  exact .inr ⟨g, o, rfl, hB.lt, fun j v hj => h.cell rfl hj⟩
theorem QRow.someA (h : QRow w el A n c xs) : SomeA A := by
  obtain ⟨g, o, l, rfl, _⟩ := h
  exact ⟨g, o, rfl⟩
theorem Row.que (h : Row w el 1 A n c xs) (hn : 0 < n) : QRow w el A n c xs := by
  have hlen := h.len
  rcases h.form with ⟨_, h0, _⟩ | ⟨g, l, rfl, hB, hnc, hl, ht, hm⟩
  · omega
  · exact ⟨g, 0, l, rfl, hB, hnc, by omega, by rw [List.drop_zero]; rwa [Nat.mul_one] at ht, by omega, hm⟩
end
def HA.que (el : Nat) (A : Option Addr) (n c : Nat) (xs : List Value) : HA := ⟨ownA A, fun w => QRow w el A n c xs, fun _ _ h _ hR => hR.keep h, fun _ hR _ hg => hR.lt hg⟩
theorem Rd.frK {F : Nat → Prop} {W w : World} {A : Option Addr} {xs : List Value} (h : Rd W A xs) (k : Fr F W w) (hn : ∀ g, F g → ¬ ownA A g) : Rd w A xs := by
  rcases h with h | ⟨b, o, rfl, hlt, hc⟩
  · exact .inl h
  · refine .inr ⟨b, o, rfl, Nat.lt_of_lt_of_le hlt k.size, fun j v hj => ?_⟩
    have hb := k.block b hlt (fun hf => hn b hf rfl)
    have := hc j v hj
    unfold World.cell? at this ⊢
    rw [hb]
    exact this
section
variable {P : Program} {ops : Array Oper} {Q : (Nat → Value) → World → Prop} {e : Nat → Value} {F : Nat → Prop} {W w : World} {rest : List Oper} {L : List HA} {d : Option Tmp} {ty : TypeId} {ps : String} {af : Array Edge}
theorem St.quer (S : St F W w L) {i el n c : Nat} {A : Option Addr} {xs : List Value} (hi : getO L i = some (.que el A n c xs)) : Rd w A xs := QRow.rd (S.ok hi)
/-- the first is taken off -/
theorem rw_deq {i : Nat} {t el : TypeId} {x lo : Operand} {n c : Nat} {A : Option Addr} {v : Value} {xs : List Value} {kl : IntKind} {f : HA → List HA} (S : St F W w L) (hi : getO L i = some (.que el A (n + 1) c (v :: xs))) (hf : ∀ h, setO L i h = some (f h))
    (hu : P.underlying t = some (.slice el)) (hz : ∀ w, (sizeOf el).run P w = .ok 1 w) (hx : ev e x = .slice A (n + 1) c) (hl : ev e lo = .int kl 1)
    (hr : ∀ A' c', St F W w (f (.que el A' n c' xs)) → SomeA A' → RW P ops Q rest (updO e d (.slice A' n c')) w) : RW P ops Q (⟨d, .slice t x (some lo) none none, ty, ps, af, none⟩ :: rest) e w := by
  have hq : QRow w el A (n + 1) c (v :: xs) := S.ok hi
  obtain ⟨g, o, l, rfl, hB, hn, hlc, ht, hxl, hm⟩ := hq
  have hxn : xs.length = n := by simpa using hxl
  by_cases hc : 1 = c
  · subst hc
    obtain rfl : n = 0 := by omega
    obtain rfl := List.length_eq_zero_iff.1 hxn
    refine rw_v (v := .slice (some ⟨g, o, none⟩) 0 0) (fun w => ?_) (hr (some ⟨g, o, none⟩) 0 ?_ ⟨g, o, rfl⟩)
    · simp [OpR, execOp, hx, hl, Instr.sliceAt, Instr.slice, run_underlying hu, Instr.sliceBounds, run_sliceBound, hz]
    · exact S.as_ hi (hf _) (fun _ => ⟨g, o, l, rfl, hB, Nat.le_refl _, by omega, by simp, rfl, by omega⟩) (fun g h => h)
  · have hop := op_slice_l (P := P) (d := d) (ty := ty) (ps := ps) (af := af) (e := e) (m := 1) hu hz hx hl (by omega) (by omega) (by omega)
    have e1 : n + 1 - (1 : Int).toNat = n := by simp
    have e2 : o + (1 : Int).toNat * 1 = o + 1 := by simp
    rw [e1, e2] at hop
    refine rw_v hop (hr _ _ ?_ ⟨_, _, rfl⟩)
    refine S.as_ hi (hf _) (fun _ => ⟨g, o + 1, l, rfl, hB, by simp; omega, by simp; omega, ?_, hxn, by simp; omega⟩) (fun g h => h)
    have h2 : (l.drop o).take (n + 1) = v :: xs := ht
    have h3 : ((l.drop o).take (n + 1)).drop 1 = xs := by rw [h2]; rfl
    rw [List.drop_take, List.drop_drop] at h3
    simpa using h3
/-- one is appended -/
theorem rw_enq {i : Nat} {t el : TypeId} {s x : Operand} {bytes n c c2 : Nat} {A B : Option Addr} {z v : Value} {xs : List Value} {f : HA → List HA} (S : St F W w L) (hi : getO L i = some (.que el A n c xs)) (hf : ∀ h, setO L i h = some (f h))
    (hu : P.underlying t = some (.slice el)) (hI : (P.info? el).map (fun i => (i.zero, i.size, i.bytes)) = some (some z, 1, bytes)) (hz : z.cells = #[z])
    (hs : ev e s = .slice A n c) (hx : ev e x = .slice B 1 c2) (hR : Rd w B [v]) (h1 : v.oneCell' = true) (hb : (n + 1) * (bytes + 1) ≤ 140737488355328)
    (hr : ∀ A' c' w', St F W w' (f (.que el A' (n + 1) c' (xs ++ [v]))) → SomeA A' → RW P ops Q rest (updO e d (.slice A' (n + 1) c')) w') :
    RW P ops Q (⟨d, .call ⟨.builtin .append, #[s, x], #[t, t]⟩, ty, ps, af, none⟩ :: rest) e w := by
  obtain ⟨inf, hinf, hz0, hz1, hz2⟩ := info_parts hI
  have hq : QRow w el A n c xs := S.ok hi
  have hq' := hq
  obtain ⟨g, o, l, rfl, hB, hn, hlc, ht, hxl, hm⟩ := hq
  obtain ⟨b2, o2, rfl⟩ := hR.someA (by simp)
  have hlt : g < w.heap.size := hB.lt
  have hsrc : Src P inf.size t (.slice (some ⟨b2, o2, none⟩) 1 c2) 1 [v] w := Src.ofSlice w hu ⟨b2, o2, none⟩ 1 c2 [v] (by rw [hz1]; rfl) (fun j u hj => by rw [addr_add]; exact hR.cell rfl hj) (fun u hu => by rw [List.mem_singleton.1 hu]; exact h1)
  by_cases hroom : n + 1 ≤ c
  · have hrun := run_append_room_src (P := P) w t t ty el inf hu hinf g o n c (.slice (some ⟨b2, o2, none⟩) 1 c2) 1 [v] hsrc hroom
      (fun j hj => by
        have hj : j = 0 := by simpa using hj
        subst hj
        rw [hB.cellv (v := l[o + n * inf.size + 0]'(by rw [hz1]; omega)) (List.getElem?_eq_getElem _)]; rfl)
      (fun j hj => by have hB' := hB; unfold Blk at hB'; simp [World.frozen?, hB'])
    refine rw_w (v := .slice (some ⟨g, o, none⟩) (n + 1) c) (w' := w.setCells g (o + n * inf.size) [v]) ?_ (hr _ _ _ ?_ ⟨_, _, rfl⟩)
    · simp [execOp, resolve, invoke, builtin, hs, hx, hrun]
    · rw [hz1, Nat.mul_one]
      show St F W (w.setCell ⟨g, o + n, none⟩ v) _
      refine S.set hi (hf _) (Fr.of_grown (F := fun b => b = g) (grown_setCell _ _ _ _) (fun b e => by injection e with e; exact e.symm)) (fun b e => .inl (by rw [e]; rfl)) ?_ (fun b e => .inl e)
      refine ⟨g, o, l.set (o + n) v, rfl, hB.set_ _ _, hroom, by simpa using hlc, ?_, by simp [hxl], hm⟩
      apply List.ext_getElem?
      intro j
      rw [List.getElem?_take, List.getElem?_drop, List.getElem?_set, List.getElem?_append, ← ht, List.length_take, List.length_drop]
      by_cases hj : j < n
      · rw [if_pos (by omega), if_neg (by omega), if_pos (by omega), List.getElem?_take, if_pos hj, List.getElem?_drop]
      · by_cases hj2 : j = n
        · subst hj2
          rw [if_pos (by omega), if_pos rfl, if_pos (by omega), if_neg (by omega), show j - min j (l.length - o) = 0 by omega]
          rfl
        · rw [if_neg (by omega), if_neg (by omega), List.getElem?_eq_none (by simp; omega)]
  · have hg' : c < n + 1 := by omega
    have hb1 : (n + 1) * inf.bytes ≤ 140737488355328 := by rw [hz2]; exact Nat.le_trans (Nat.mul_le_mul_left _ (by omega)) hb
    have hb2 : n + 1 ≤ 140737488355328 := Nat.le_trans (Nat.le_mul_of_pos_right _ (by omega)) hb
    have hold : (Builtin.firstCells inf.size n (.slice (some ⟨g, o, none⟩) n c)).run P w.drew = .ok xs.toArray w.drew :=
      run_firstCells_some w.drew inf.size n ⟨g, o, none⟩ n c xs (by rw [hz1, hxl]; simp) (fun j u hj => by rw [addr_add]; exact hq'.cell rfl hj)
    have hrun := run_append_grow_src (P := P) w t t ty el inf z hu hinf hz0 (some ⟨g, o, none⟩) n c xs hold (.slice (some ⟨b2, o2, none⟩) 1 c2) 1 [v] hsrc hg' (by omega) (growslice_fits hg' hb1)
    refine rw_w (v := .slice (some ⟨w.heap.size, 0, none⟩) (n + 1) (grownCap w (n + 1) c el)) (w' := w.drew.alloc (.cells ((xs ++ [v]).toArray ++ Builtin.zeroCells z.cells (grownCap w (n + 1) c el - (n + 1))) el)) ?_ (hr _ _ _ ?_ ⟨_, _, rfl⟩)
    · simp [execOp, resolve, invoke, builtin, hs, hx, hrun]
    · have hge := grownCap_ge w (n + 1) c el
      have hcm : grownCap w (n + 1) c el ≤ maxLen := grownCap_le_maxLen w (n + 1) c el (by unfold maxLen; omega)
      refine S.set hi (hf _) (F' := No) ⟨rfl, rfl, rfl, by simp, fun k hk _ => heap_alloc_old w.drew _ hk⟩ (fun _ h => h.elim) ?_ (fun b e => .inr (Nat.le_of_eq (Option.some.inj e)))
      refine ⟨w.heap.size, 0, ((xs ++ [v]).toArray ++ Builtin.zeroCells z.cells (grownCap w (n + 1) c el - (n + 1))).toList, rfl, ?_, hge, ?_, ?_, by simp [hxl], hcm⟩
      · unfold Blk
        rw [Array.toArray_toList]
        exact heap_alloc_new w.drew _
      · rw [Array.length_toList, Array.size_append, size_zeroCells, hz]; simp [hxl]; omega
      · rw [List.drop_zero, Array.toList_append, List.take_left' (by simp [hxl])]
end
end Go.Proofs.Ytiidmiebckkloaa
/- peaks.land.plain: its contract. -/
namespace Go.Proofs.Ytiidmiebckkloaa
open Go.RowKit
set_option linter.unusedVariables false
set_option linter.unusedSimpArgs false
set_option maxRecDepth 100000

def bitsP (n : Nat) (f : Nat → Bool) : List Value := (List.range n).map fun i => .bool (f i)
def updP (f : Nat → Bool) (k : Nat) : Nat → Bool := fun i => if i = k then true else f i
theorem bitsP_len (n : Nat) (f : Nat → Bool) : (bitsP n f).length = n := by simp [bitsP]
theorem bitsP_get {n i : Nat} {f : Nat → Bool} (h : i < n) : (bitsP n f)[(i : Int).toNat * 1]? = some (.bool (f i)) := by
  rw [Nat.mul_one, Int.toNat_natCast, bitsP, List.getElem?_map, List.getElem?_range h]; rfl
theorem bitsP_set {n k : Nat} {f : Nat → Bool} : (bitsP n f).set ((k : Int).toNat * 1) (.bool true) = bitsP n (updP f k) := by
  rw [Nat.mul_one, Int.toNat_natCast]
  apply List.ext_getElem?
  intro i
  rw [List.getElem?_set]
  unfold bitsP updP
  by_cases e : k = i
  · subst e
    rw [if_pos rfl]
    simp only [List.length_map, List.length_range]
    split
    · rename_i h; rw [List.getElem?_map, List.getElem?_range h]; simp
    · rename_i h; rw [List.getElem?_eq_none (by simp; omega)]
  · rw [if_neg e, List.getElem?_map, List.getElem?_map]
    by_cases h : i < n
    · rw [List.getElem?_range h, Option.map_some, Option.map_some, if_neg (fun h => e h.symm)]
    · rw [List.getElem?_eq_none (by simp; omega)]; rfl
theorem bitsP_zero (n : Nat) : List.replicate n (Value.bool false) = bitsP n (fun _ => false) := by
  unfold bitsP
  rw [List.map_const', List.length_range]
theorem bitsP_congr {n : Nat} {f f' : Nat → Bool} (h : ∀ i, i < n → f i = f' i) : bitsP n f = bitsP n f' := by
  unfold bitsP
  exact List.map_congr_left fun i hi => by rw [h i (List.mem_range.1 hi)]
/-! ### a plateau, gone over -/
/-- D: done, T: to do, E: sides that were looked at -/
structure PB (gw : Nat) (V : List Int) (k : Nat) (f0 f : Nat → Bool) (D T : List Nat) (top : Bool) (E : Nat → Nat → Prop) : Prop where
  nd : (D ++ T).Nodup
  mem : ∀ j, j ∈ D ++ T → j < V.length ∧ pR gw V j = k
  hk : k ∈ D ++ T
  bit : ∀ j, j < V.length → (f j = true ↔ f0 j = true ∨ j ∈ D ++ T)
  cl : ∀ i j, E i j → V.getD j 0 = V.getD k 0 → j ∈ D ++ T
  tp : top = true ↔ ∀ i j, E i j → V.getD j 0 ≤ V.getD k 0
section
variable {gw gh k : Nat} {V : List Int} {f0 f : Nat → Bool} {D T : List Nat} {top : Bool} {E E' : Nat → Nat → Prop}
theorem PB.start (hk : k < V.length) (hr : pR gw V k = k) : PB gw V k f0 (updP f0 k) [] [k] true (fun _ _ => False) :=
  ⟨by simp, fun j hj => by rw [List.nil_append, List.mem_singleton] at hj; subst hj; exact ⟨hk, hr⟩, by simp, fun j _ => by
    unfold updP
    by_cases e : j = k
    · subst e; simp
    · simp [e], fun _ _ h => h.elim, by simp⟩
theorem PB.len (h : PB gw V k f0 f D T top E) : (D ++ T).length ≤ V.length := by
  have h1 : (D ++ T).Perm ((List.range V.length).filter fun j => decide (j ∈ D ++ T)) := by
    rw [List.perm_ext_iff_of_nodup h.nd (List.Pairwise.filter _ List.nodup_range)]
    intro j
    rw [List.mem_filter, List.mem_range, decide_eq_true_iff]
    exact ⟨fun hj => ⟨(h.mem j hj).1, hj⟩, fun hj => hj.2⟩
  rw [h1.length_eq]
  have := List.length_filter_le (fun j => decide (j ∈ D ++ T)) (List.range V.length)
  rwa [List.length_range] at this
theorem PB.edges (h : PB gw V k f0 f D T top E) (hE : ∀ i j, E' i j ↔ E i j) : PB gw V k f0 f D T top E' := by
  have : E' = E := funext fun i => funext fun j => propext (hE i j)
  rw [this]; exact h
theorem PB.move {i : Nat} (h : PB gw V k f0 f D (i :: T) top E) : PB gw V k f0 f (D ++ [i]) T top E := by
  have e : D ++ [i] ++ T = D ++ (i :: T) := by simp
  refine ⟨?_, ?_, ?_, ?_, ?_, h.tp⟩ <;> rw [e]
  · exact h.nd
  · exact h.mem
  · exact h.hk
  · exact h.bit
  · exact h.cl
/-- one neighbour -/
theorem PB.old (h : PB gw V k f0 f D T top E) {i j : Nat} (hj : j < V.length) (hne : ¬ (V.getD j 0 = V.getD k 0 ∧ f j = false)) (h0 : ∀ j, j < V.length → pR gw V j = k → f0 j = false) (hi : i ∈ D ++ T) (s : Side gw i j) :
    PB gw V k f0 f D T (top && decide (V.getD j 0 ≤ V.getD k 0)) (fun a b => E a b ∨ (a = i ∧ b = j)) := by
  refine ⟨h.nd, h.mem, h.hk, h.bit, fun a b hab hv => ?_, ?_⟩
  · rcases hab with hab | ⟨rfl, rfl⟩
    · exact h.cl a b hab hv
    · obtain ⟨h1, h2⟩ := h.mem _ hi
      have hvk : V.getD a 0 = V.getD k 0 := by rw [← h2]; exact (pR_val h1).symm
      have h3 := pR_side h1 hj (by rw [hv, hvk]) s
      rcases Bool.eq_false_or_eq_true (f b) with h4 | h4
      · rcases (h.bit b hj).1 h4 with h5 | h5
        · rw [h0 b hj (by rw [← h3, h2])] at h5; cases h5
        · exact h5
      · exact absurd ⟨hv, h4⟩ hne
  · rw [Bool.and_eq_true, h.tp, decide_eq_true_iff]
    constructor
    · rintro ⟨h1, h2⟩ a b (hab | ⟨rfl, rfl⟩)
      · exact h1 a b hab
      · exact h2
    · intro h1
      exact ⟨fun a b hab => h1 a b (.inl hab), h1 i j (.inr ⟨rfl, rfl⟩)⟩
theorem PB.new (h : PB gw V k f0 f D T top E) {i j : Nat} (hj : j < V.length) (hv : V.getD j 0 = V.getD k 0) (hf : f j = false) (hi : i ∈ D ++ T) (s : Side gw i j) :
    PB gw V k f0 (updP f j) D (T ++ [j]) (top && decide (V.getD j 0 ≤ V.getD k 0)) (fun a b => E a b ∨ (a = i ∧ b = j)) := by
  have hjn : j ∉ D ++ T := fun hm => by have := (h.bit j hj).2 (.inr hm); rw [hf] at this; cases this
  obtain ⟨h1, h2⟩ := h.mem _ hi
  have hvk : V.getD i 0 = V.getD k 0 := by rw [← h2]; exact (pR_val h1).symm
  have h3 := pR_side h1 hj (by rw [hv, hvk]) s
  have e : D ++ (T ++ [j]) = D ++ T ++ [j] := by simp
  refine ⟨?_, ?_, ?_, ?_, ?_, ?_⟩
  · rw [e, List.nodup_append]
    exact ⟨h.nd, by simp, fun a ha b hb e => hjn (by rw [← List.mem_singleton.1 hb, ← e]; exact ha)⟩
  · rw [e]
    intro x hx
    rcases List.mem_append.1 hx with hx | hx
    · exact h.mem x hx
    · rw [List.mem_singleton.1 hx]; exact ⟨hj, by rw [← h3, h2]⟩
  · rw [e]; exact List.mem_append_left _ h.hk
  · rw [e]
    intro x hx
    unfold updP
    by_cases ex : x = j
    · subst ex; simp
    · rw [if_neg ex, h.bit x hx]
      simp only [List.mem_append, List.mem_singleton, ex, or_false]
  · rw [e]
    intro a b hab hvb
    rcases hab with hab | ⟨rfl, rfl⟩
    · exact List.mem_append_left _ (h.cl a b hab hvb)
    · simp
  · rw [Bool.and_eq_true, h.tp, decide_eq_true_iff]
    constructor
    · rintro ⟨h1, h2⟩ a b (hab | ⟨rfl, rfl⟩)
      · exact h1 a b hab
      · exact h2
    · intro h1
      exact ⟨fun a b hab => h1 a b (.inl hab), h1 i j (.inr ⟨rfl, rfl⟩)⟩
/-- at last -/
theorem PB.fin (h : PB gw V k f0 f D [] top (fun i j => i ∈ D ∧ j < V.length ∧ Side gw i j)) (hk : k < V.length) (hr : pR gw V k = k) (h0 : ∀ j, j < V.length → pR gw V j = k → f0 j = false) :
    D.length = (plat gw V k).length ∧ top = topB gw V k ∧ ∀ j, j < V.length → f j = (f0 j || decide (pR gw V j = k)) := by
  have hD : D ++ [] = D := List.append_nil D
  have hm : ∀ j, j ∈ D ↔ j < V.length ∧ pR gw V j = k := fun j => by
    have hmem := h.mem j
    rw [hD] at hmem
    refine ⟨hmem, fun ⟨h1, h2⟩ => ?_⟩
    have hkD := h.hk
    rw [hD] at hkD
    have hc := pR_conn (gw := gw) h1
    rw [h2] at hc
    have hvj : V.getD k 0 = V.getD j 0 := by have := pR_val (gw := gw) h1; rwa [h2] at this
    rw [← hvj] at hc
    have hc := hc.symm
    have key : ∀ {a b}, Conn gw (lvl V (V.getD k 0)) 1 a b → a ∈ D → b ∈ D := by
      intro a b c
      induction c with
      | refl => exact id
      | @step x y z ha _ ih =>
        intro hx
        have hy := ha.2.1
        rw [lvl_len] at hy
        have := h.cl x y ⟨hx, hy, ha.2.2.2.2⟩ ((lvl_one hy).1 ha.2.2.2.1)
        rw [hD] at this
        exact ih this
    exact key hc hkD
  have hnd := h.nd
  rw [hD] at hnd
  refine ⟨?_, ?_, fun j hj => ?_⟩
  · apply List.Perm.length_eq
    unfold plat
    rw [List.perm_ext_iff_of_nodup hnd (List.Pairwise.filter _ List.nodup_range)]
    intro j
    rw [hm]
    simp only [List.mem_filter, List.mem_range, decide_eq_true_eq]
  · rw [Bool.eq_iff_iff, h.tp]
    unfold topB
    simp only [decide_eq_true_eq]
    unfold TopP
    constructor
    · intro h1 i j hi hj hp s
      exact h1 i j ⟨(hm i).2 ⟨hi, hp⟩, hj, s⟩
    · rintro h1 i j ⟨hi, hj, s⟩
      exact h1 i j ((hm i).1 hi).1 hj ((hm i).1 hi).2 s
  · rw [Bool.eq_iff_iff, h.bit j hj, hD, hm, Bool.or_eq_true, decide_eq_true_iff]
    simp [hj]
end
section
variable {W : World} {A Ag : Option Addr} {gw gh c cg : Nat} {V : List Int} {f0 : Nat → Bool}
set_option maxHeartbeats 4000000 in
theorem plain_E (k : Nat) (hgw : 1 ≤ gw ∧ gw ≤ 1048576) (hm : gw * gh ≤ 1048576) (hV : V.length = gw * gh) (hk : k < gw * gh) (hr : pR gw V k = k) (h0 : ∀ j, j < V.length → pR gw V j = k → f0 j = false)
    (hA : Rd W A (ints V)) (hg : Row W 4 1 Ag (gw * gh) cg (bitsP (gw * gh) f0)) (hap : ∀ g, ownA Ag g → ¬ ownA A g) :
    Fn Try.prog 22 [.agg #[.int .i64 gw, .slice A (gw * gh) c], .int .i64 k, .slice Ag (gw * gh) cg] W
      (fun v w' => v = .tuple #[.int .i64 (plat gw V k).length, .bool (topB gw V k)] ∧ Row w' 4 1 Ag (gw * gh) cg (bitsP (gw * gh) fun j => f0 j || decide (pR gw V j = k)) ∧ Fr (ownA Ag) W w') := by
  have S := St.start1 W (.row 4 1 Ag (gw * gh) cg (bitsP (gw * gh) f0)) hg
  have sa_A : SomeA A := hA.someA (by rw [ints_len]; omega)
  have sa_gone : SomeA Ag := hg.someA (by omega)
  have hget : ∀ i, i < gw * gh → (ints V)[(i : Int).toNat * 1]? = some (.int .i64 (V.getD i 0)) := fun i hi => by rw [Nat.mul_one, Int.toNat_natCast]; exact ints_get (getD_at (by omega))
  refine Fn_enter Try.func22 rfl Try.results22 Try.ntmps22 (by kernel_rfl) (by kernel_rfl) ?_
  repeat refine cw_seq ?_
  refine cw_region ?_
  refine rw_newB (op_box rfl) S ?_
  intro b_l w2_ g2_ S
  iterate 2 refine rw_v (op_pure rfl) ?_
  first | refine rw_end ?_ | (refine rw_nil ?_; show CW _ _ _ _ _ _) | refine rw_nil ?_
  repeat refine cw_seq ?_
  refine cw_region ?_
  refine rw_v (op_pure rfl) ?_
  refine rw_buildS Try.underlying94 Try.sizeOf3 Try.zeroValue3 rfl rfl rfl rfl rfl rfl S ?_
  intro A_q0 w4_ g4_ S sa_q0
  refine rw_v (op_pure rfl) ?_
  first | refine rw_end ?_ | (refine rw_nil ?_; show CW _ _ _ _ _ _) | refine rw_nil ?_
  repeat refine cw_seq ?_
  refine cw_region ?_
  iterate 2 refine rw_v (op_pure rfl) ?_
  refine rw_v (op_idx Try.underlying38 Try.sizeOf4 rfl rfl sa_gone (by omega) (by omega)) ?_
  refine rw_storeR (i := 2) S rfl (Try.sizeOf4 _) rfl rfl rfl rfl (by rw [bitsP_len]; omega) rfl ?_
  intro w5_ S
  first | refine rw_end ?_ | (refine rw_nil ?_; show CW _ _ _ _ _ _) | refine rw_nil ?_
  repeat refine cw_seq ?_
  refine cw_region ?_
  iterate 2 refine rw_v (op_pure rfl) ?_
  first | refine rw_end ?_ | (refine rw_nil ?_; show CW _ _ _ _ _ _) | refine rw_nil ?_
  repeat refine cw_seq ?_
  refine cw_block ?_
  repeat refine cw_seq ?_
  rw [bitsP_set] at S
  have hst := PB.start (f0 := f0) (by rw [hV]; exact hk) hr
  have S : St (ownA Ag) W _ [.que 3 A_q0 1 1 (natsV [k]), _, _] := S.as_ (i := 0) rfl rfl (fun h => Row.que h (by omega)) (fun g h => h)
  refine cw_loop (fun m e w => ∃ (D T : List Nat) (top : Bool) (f : Nat → Bool) (A2 : Option Addr) (c2 : Nat), D.length + m = gw * gh ∧ PB gw V k f0 f D T top (fun i j => i ∈ D ∧ j < V.length ∧ Side gw i j) ∧
      SL e [(1, .int .i64 k), (2, .slice Ag (gw * gh) cg), (3, .pointer (some ⟨b_l, 0, none⟩)), (8, .slice A2 T.length c2), (9, .int .i64 D.length), (10, .bool top)] ∧
      St (ownA Ag) W w [.que 3 A2 T.length c2 (natsV T), .blk b_l 66 [.int .i64 gw, .slice A (gw * gh) c], .row 4 1 Ag (gw * gh) cg (bitsP (gw * gh) f)]) (gw * gh)
      ⟨[], [k], true, updP f0 k, A_q0, 1, by simp, hst.edges (fun i j => by simp), ⟨rfl, rfl, rfl, rfl, rfl, rfl, trivial⟩, S⟩ ?_
  clear S hst sa_q0
  rintro m e w ⟨D, T, top, f, A2, c2, hDm, hB, hsl, S⟩
  rw [hsl.fold]
  cases T with
  | nil =>
    have e0 : ([] : List Nat).length = 0 := rfl
    repeat refine cw_seq ?_
    refine cw_region ?_
    refine rw_v (op_pure rfl) ?_
    refine rw_v (op_len Try.underlying94 rfl) ?_
    refine rw_v (op_b (b := false) rfl (decide_eq_false (by omega))) ?_
    first | refine rw_end ?_ | (refine rw_nil ?_; show CW _ _ _ _ _ _) | refine rw_nil ?_
    repeat refine cw_seq ?_
    refine cw_false rfl ?_
    repeat refine cw_seq ?_
    refine cw_exit ?_
    repeat first | refine exit_then ?_ | refine exit_inb ?_
    show CW _ _ _ _ _ _
    repeat refine cw_seq ?_
    refine cw_region ?_
    iterate 4 refine rw_v (op_pure rfl) ?_
    first | refine rw_end ?_ | (refine rw_nil ?_; show CW _ _ _ _ _ _) | refine rw_nil ?_
    repeat refine cw_seq ?_
    refine cw_ret ?_
    repeat first | refine ret_then ?_ | refine ret_inb ?_
    obtain ⟨h1, h2, h3⟩ := hB.fin (by rw [hV]; exact hk) hr h0
    rw [hV] at h3
    refine res2 rfl rfl ⟨by rw [h1, h2], ?_, S.fr⟩
    rw [← bitsP_congr h3]
    exact S.row (i := 2) rfl
  | cons i T =>
    have e0 : (i :: T).length = T.length + 1 := rfl
    have hBl := hB.len
    have hil := (hB.mem i (by simp)).1
    have hiv := (hB.mem i (by simp)).2
    have hDl : D.length + 1 + T.length ≤ gw * gh := by simp at hBl; omega
    have sa_q : SomeA A2 := QRow.someA (S.ok (i := 0) rfl)
    have hq0 : (natsV (i :: T))[((0 : Nat) : Int).toNat * 1]? = some (.int .i64 (i : Nat)) := rfl
    have hmemN : ∀ y, y ∈ nearN gw (gw * gh) i ↔ y < gw * gh ∧ Side gw i y := fun y => nearN_mem hgw.1 (by omega)
    have hnl := nearN_len gw (gw * gh) i
    have hB1 := hB.move
    repeat refine cw_seq ?_
    refine cw_region ?_
    refine rw_v (op_pure rfl) ?_
    refine rw_v (op_len Try.underlying94 rfl) ?_
    refine rw_v (op_b (b := true) rfl (decide_eq_true (by omega))) ?_
    first | refine rw_end ?_ | (refine rw_nil ?_; show CW _ _ _ _ _ _) | refine rw_nil ?_
    repeat refine cw_seq ?_
    refine cw_true rfl ?_
    repeat refine cw_seq ?_
    refine cw_skip ?_
    try show CW _ _ _ _ _ _
    repeat refine cw_seq ?_
    refine cw_block ?_
    repeat refine cw_seq ?_
    refine cw_region ?_
    refine rw_v (op_pure rfl) ?_
    refine rw_v (op_idx Try.underlying94 Try.sizeOf3 rfl rfl sa_q (by omega) (by omega)) ?_
    refine rw_r (op_ldR Try.underlying3 rfl rfl (S.quer (i := 0) rfl) hq0) ?_
    refine rw_v (op_pure rfl) ?_
    first | refine rw_end ?_ | (refine rw_nil ?_; show CW _ _ _ _ _ _) | refine rw_nil ?_
    repeat refine cw_seq ?_
    refine cw_region ?_
    refine rw_v (op_pure rfl) ?_
    refine rw_deq (i := 0) (n := T.length) (xs := natsV T) S rfl (fun h => rfl) Try.underlying94 Try.sizeOf3 rfl rfl ?_
    intro A3 c3 S sa_q
    refine rw_v (op_pure rfl) ?_
    first | refine rw_end ?_ | (refine rw_nil ?_; show CW _ _ _ _ _ _) | refine rw_nil ?_
    repeat refine cw_seq ?_
    refine cw_region ?_
    refine rw_v (op_pure rfl) ?_
    refine rw_v (op_rng rfl (by omega)) ?_
    refine rw_v (op_pure rfl) ?_
    first | refine rw_end ?_ | (refine rw_nil ?_; show CW _ _ _ _ _ _) | refine rw_nil ?_
    repeat refine cw_seq ?_
    refine cw_region ?_
    refine rw_r (op_loadAB Try.underlying66 rfl (Try.sizeOf66 _) rfl (S.blk (i := 1) rfl) rfl rfl) ?_
    refine rw_v (op_pure rfl) ?_
    refine rw_call rfl (pnear_E (W := w) (A := A) (c := c) (gw := gw) (gh := gh) i hgw hm (by omega)) ?_
    rintro _ w6_ ⟨A_near, c_near, rfl, hR_near, hf_near, g6_⟩
    have S := S.pushRow hR_near hf_near g6_
    refine rw_v (op_len Try.underlying94 rfl) ?_
    refine rw_v (op_pure rfl) ?_
    first | refine rw_end ?_ | (refine rw_nil ?_; show CW _ _ _ _ _ _) | refine rw_nil ?_
    repeat refine cw_seq ?_
    refine cw_block ?_
    repeat refine cw_seq ?_
    clear hBl hB
    generalize hNr : nearN gw (gw * gh) i = Nr at *
    have sa_near : 0 < Nr.length → SomeA A_near := fun h => (S.row (i := 0) rfl).someA h
    refine cw_loop (fun m2 e w => ∃ (j : Nat) (T : List Nat) (top : Bool) (f : Nat → Bool) (A2 : Option Addr) (c2 : Nat), j + m2 = Nr.length ∧ PB gw V k f0 f (D ++ [i]) T top (fun a b => (a ∈ D ∧ b < V.length ∧ Side gw a b) ∨ (a = i ∧ b ∈ Nr.take j)) ∧
        SL e [(1, .int .i64 k), (2, .slice Ag (gw * gh) cg), (3, .pointer (some ⟨b_l, 0, none⟩)), (8, .slice A2 T.length c2), (9, .int .i64 (D.length + 1 : Nat)), (10, .bool top), (31, .slice A_near Nr.length c_near), (32, .int .i64 Nr.length), (33, .int .i64 j)] ∧
        St (ownA Ag) W w [.row 3 1 A_near Nr.length c_near (natsV Nr), .que 3 A2 T.length c2 (natsV T), .blk b_l 66 [.int .i64 gw, .slice A (gw * gh) c], .row 4 1 Ag (gw * gh) cg (bitsP (gw * gh) f)]) Nr.length
        ⟨0, T, top, f, A3, c3, by omega, hB1.edges (fun a b => by simp), ⟨rfl, rfl, rfl, rfl, ie (by push_cast; rfl), rfl, rfl, rfl, rfl, trivial⟩, S⟩ ?_
    clear S hB1 sa_q hq0
    rintro m2 e2 w2 ⟨j, T, top, f, A2, c2, hjm, hB, hsl2, S⟩
    rw [hsl2.fold]
    by_cases hjl : j < Nr.length
    · have sa_near := sa_near (by omega)
      obtain ⟨y, hy⟩ : ∃ y, Nr[j]? = some y := ⟨_, List.getElem?_eq_getElem hjl⟩
      obtain ⟨hyl, hys⟩ := (hmemN y).1 (List.mem_of_getElem? hy)
      have hE : ∀ a b, ((a ∈ D ∧ b < V.length ∧ Side gw a b) ∨ (a = i ∧ b ∈ Nr.take (j + 1))) ↔ (((a ∈ D ∧ b < V.length ∧ Side gw a b) ∨ (a = i ∧ b ∈ Nr.take j)) ∨ (a = i ∧ b = y)) := fun a b => by
        rw [List.take_add_one, hy, List.mem_append, Option.toList_some, List.mem_singleton, or_assoc, and_or_left]
      have hgb := bitsP_get (n := gw * gh) (f := f) hyl
      have hBl := hB.len
      have hBl2 : D.length + 1 + T.length ≤ gw * gh := by simp at hBl; omega
      repeat refine cw_seq ?_
      refine cw_region ?_
      refine rw_v (op_b (b := true) rfl (decide_eq_true (by omega))) ?_
      first | refine rw_end ?_ | (refine rw_nil ?_; show CW _ _ _ _ _ _) | refine rw_nil ?_
      repeat refine cw_seq ?_
      refine cw_true rfl ?_
      repeat refine cw_seq ?_
      refine cw_skip ?_
      try show CW _ _ _ _ _ _
      repeat refine cw_seq ?_
      refine cw_block ?_
      repeat refine cw_seq ?_
      refine cw_region ?_
      refine rw_v (op_idx Try.underlying94 Try.sizeOf3 rfl rfl sa_near (by omega) (by omega)) ?_
      refine rw_r (op_ldR Try.underlying3 rfl rfl (S.rd (i := 0) rfl) (natsV_get hy)) ?_
      refine rw_v (op_pure rfl) ?_
      first | refine rw_end ?_ | (refine rw_nil ?_; show CW _ _ _ _ _ _) | refine rw_nil ?_
      repeat refine cw_seq ?_
      refine cw_cutT (M := fun e w => SL e [(1, .int .i64 k), (2, .slice Ag (gw * gh) cg), (3, .pointer (some ⟨b_l, 0, none⟩)), (8, .slice A2 T.length c2), (9, .int .i64 (D.length + 1 : Nat)), (10, .bool (top && decide (V.getD y 0 ≤ V.getD k 0))), (13, .int .i64 y), (31, .slice A_near Nr.length c_near), (32, .int .i64 Nr.length), (33, .int .i64 j)] ∧ St (ownA Ag) W w [.row 3 1 A_near Nr.length c_near (natsV Nr), .que 3 A2 T.length c2 (natsV T), .blk b_l 66 [.int .i64 gw, .slice A (gw * gh) c], .row 4 1 Ag (gw * gh) cg (bitsP (gw * gh) f)]) ?_ ?_
      · cases top with
        | true =>
          by_cases hle : V.getD y 0 ≤ V.getD k 0
          · skip
            repeat refine cw_seq ?_
            refine cw_draw (C := fun wq => Gr w2 wq) [0, 1, 2, 3, 4, 5, 6, 7, 8, 9, 10, 11, 12, 13, 14] [] (by kernel_rfl) (by kernel_rfl) (Gr.drew _) ?_
            simp only [pickL, List.drop_succ_cons, List.drop_zero]
            iterate 2 refine rq_v (op_pure rfl) ?_
            refine rq_on rfl ?_
            refine rq_v (op_fieldAddr Try.underlying66 rfl Try.sizeOf30 rfl rfl) ?_
            refine rq_on rfl ?_
            refine rq_r (fun wq hq => op_loadB Try.underlying30 rfl rfl ((S.gr hq).blk (i := 2) rfl) rfl) ?_
            refine rq_on rfl ?_
            refine rq_v (op_pure rfl) ?_
            refine rq_on rfl ?_
            refine rq_v (op_idx Try.underlying30 Try.sizeOf2 rfl rfl sa_A (by omega) (by omega)) ?_
            refine rq_on rfl ?_
            refine rq_r (fun wq hq => op_ldR Try.underlying2 rfl rfl ((hA.frK (S.gr hq).fr hap)) (hget y hyl)) ?_
            refine rq_on rfl ?_
            refine rq_v (op_fieldAddr Try.underlying66 rfl Try.sizeOf30 rfl rfl) ?_
            refine rq_on rfl ?_
            refine rq_r (fun wq hq => op_loadB Try.underlying30 rfl rfl ((S.gr hq).blk (i := 2) rfl) rfl) ?_
            refine rq_on rfl ?_
            refine rq_v (op_pure rfl) ?_
            refine rq_on rfl ?_
            refine rq_v (op_idx Try.underlying30 Try.sizeOf2 rfl rfl sa_A (by omega) (by omega)) ?_
            refine rq_on rfl ?_
            refine rq_r (fun wq hq => op_ldR Try.underlying2 rfl rfl ((hA.frK (S.gr hq).fr hap)) (hget k hk)) ?_
            refine rq_on rfl ?_
            refine rq_v (op_b (b := true) rfl (decide_eq_true (by omega))) ?_
            iterate 2 refine rq_v (op_pure rfl) ?_
            refine rq_nil ?_
            intro w7_ g7_
            have S := S.gr g7_
            first | refine rw_end ?_ | (refine rw_nil ?_; show CW _ _ _ _ _ _) | refine rw_nil ?_
            exact ⟨⟨rfl, rfl, rfl, rfl, rfl, be (by rw [decide_eq_true hle]; rfl), rfl, rfl, rfl, rfl, trivial⟩, S⟩
          · skip
            repeat refine cw_seq ?_
            refine cw_draw (C := fun wq => Gr w2 wq) [0, 1, 2, 3, 4, 5, 6, 7, 8, 9, 10, 11, 12, 13, 14] [] (by kernel_rfl) (by kernel_rfl) (Gr.drew _) ?_
            simp only [pickL, List.drop_succ_cons, List.drop_zero]
            iterate 2 refine rq_v (op_pure rfl) ?_
            refine rq_on rfl ?_
            refine rq_v (op_fieldAddr Try.underlying66 rfl Try.sizeOf30 rfl rfl) ?_
            refine rq_on rfl ?_
            refine rq_r (fun wq hq => op_loadB Try.underlying30 rfl rfl ((S.gr hq).blk (i := 2) rfl) rfl) ?_
            refine rq_on rfl ?_
            refine rq_v (op_pure rfl) ?_
            refine rq_on rfl ?_
            refine rq_v (op_idx Try.underlying30 Try.sizeOf2 rfl rfl sa_A (by omega) (by omega)) ?_
            refine rq_on rfl ?_
            refine rq_r (fun wq hq => op_ldR Try.underlying2 rfl rfl ((hA.frK (S.gr hq).fr hap)) (hget y hyl)) ?_
            refine rq_on rfl ?_
            refine rq_v (op_fieldAddr Try.underlying66 rfl Try.sizeOf30 rfl rfl) ?_
            refine rq_on rfl ?_
            refine rq_r (fun wq hq => op_loadB Try.underlying30 rfl rfl ((S.gr hq).blk (i := 2) rfl) rfl) ?_
            refine rq_on rfl ?_
            refine rq_v (op_pure rfl) ?_
            refine rq_on rfl ?_
            refine rq_v (op_idx Try.underlying30 Try.sizeOf2 rfl rfl sa_A (by omega) (by omega)) ?_
            refine rq_on rfl ?_
            refine rq_r (fun wq hq => op_ldR Try.underlying2 rfl rfl ((hA.frK (S.gr hq).fr hap)) (hget k hk)) ?_
            refine rq_on rfl ?_
            refine rq_v (op_b (b := false) rfl (decide_eq_false (by omega))) ?_
            iterate 2 refine rq_v (op_pure rfl) ?_
            refine rq_nil ?_
            intro w8_ g8_
            have S := S.gr g8_
            first | refine rw_end ?_ | (refine rw_nil ?_; show CW _ _ _ _ _ _) | refine rw_nil ?_
            exact ⟨⟨rfl, rfl, rfl, rfl, rfl, be (by rw [decide_eq_false hle]; rfl), rfl, rfl, rfl, rfl, trivial⟩, S⟩
        | false =>
          repeat refine cw_seq ?_
          refine cw_draw (C := fun wq => Gr w2 wq) [0, 1, 2, 3, 4, 5, 6, 7, 8, 9, 10, 11, 12, 13, 14] [] (by kernel_rfl) (by kernel_rfl) (Gr.drew _) ?_
          simp only [pickL, List.drop_succ_cons, List.drop_zero]
          iterate 2 refine rq_v (op_pure rfl) ?_
          refine rq_off rfl ?_
          refine rq_off rfl ?_
          refine rq_off rfl ?_
          refine rq_off rfl ?_
          refine rq_off rfl ?_
          refine rq_off rfl ?_
          refine rq_off rfl ?_
          refine rq_off rfl ?_
          refine rq_off rfl ?_
          refine rq_off rfl ?_
          refine rq_off rfl ?_
          iterate 2 refine rq_v (op_pure rfl) ?_
          refine rq_nil ?_
          intro w9_ g9_
          have S := S.gr g9_
          first | refine rw_end ?_ | (refine rw_nil ?_; show CW _ _ _ _ _ _) | refine rw_nil ?_
          exact ⟨⟨rfl, rfl, rfl, rfl, rfl, rfl, rfl, rfl, rfl, rfl, trivial⟩, S⟩
      · clear S
        rintro e w ⟨hsl, S⟩
        rw [hsl.fold]
        by_cases hnew : V.getD y 0 = V.getD k 0 ∧ f y = false
        · have hB2 := (hB.new (by omega) hnew.1 hnew.2 (by simp) hys).edges hE
          rw [hnew.2] at hgb
          have heq := hnew.1
          have e1 : (T ++ [y]).length = T.length + 1 := by simp
          have e2 : natsV (T ++ [y]) = natsV T ++ [.int .i64 (y : Nat)] := by simp [natsV]
          repeat refine cw_seq ?_
          refine cw_draw (C := fun wq => Gr w wq) [0, 1, 2, 3, 4, 5, 6, 7, 8, 9, 10, 11, 12, 13, 14, 15, 16, 17] [] (by kernel_rfl) (by kernel_rfl) (Gr.drew _) ?_
          simp only [pickL, List.drop_succ_cons, List.drop_zero]
          refine rq_v (op_fieldAddr Try.underlying66 rfl Try.sizeOf30 rfl rfl) ?_
          refine rq_r (fun wq hq => op_loadB Try.underlying30 rfl rfl ((S.gr hq).blk (i := 2) rfl) rfl) ?_
          refine rq_v (op_pure rfl) ?_
          refine rq_v (op_idx Try.underlying30 Try.sizeOf2 rfl rfl sa_A (by omega) (by omega)) ?_
          refine rq_r (fun wq hq => op_ldR Try.underlying2 rfl rfl ((hA.frK (S.gr hq).fr hap)) (hget y hyl)) ?_
          refine rq_v (op_fieldAddr Try.underlying66 rfl Try.sizeOf30 rfl rfl) ?_
          refine rq_r (fun wq hq => op_loadB Try.underlying30 rfl rfl ((S.gr hq).blk (i := 2) rfl) rfl) ?_
          refine rq_v (op_pure rfl) ?_
          refine rq_v (op_idx Try.underlying30 Try.sizeOf2 rfl rfl sa_A (by omega) (by omega)) ?_
          refine rq_r (fun wq hq => op_ldR Try.underlying2 rfl rfl ((hA.frK (S.gr hq).fr hap)) (hget k hk)) ?_
          refine rq_v (op_b (b := true) rfl (beq_iff_eq.2 (by omega))) ?_
          refine rq_v (op_pure rfl) ?_
          refine rq_on rfl ?_
          refine rq_v (op_pure rfl) ?_
          refine rq_on rfl ?_
          refine rq_v (op_pure rfl) ?_
          refine rq_on rfl ?_
          refine rq_v (op_idx Try.underlying38 Try.sizeOf4 rfl rfl sa_gone (by omega) (by omega)) ?_
          refine rq_on rfl ?_
          refine rq_r (fun wq hq => op_ldR Try.underlying4 rfl rfl ((S.gr hq).rd (i := 3) rfl) hgb) ?_
          refine rq_on rfl ?_
          iterate 2 refine rq_v (op_pure rfl) ?_
          refine rq_nil ?_
          intro w10_ g10_
          have S := S.gr g10_
          first | refine rw_end ?_ | (refine rw_nil ?_; show CW _ _ _ _ _ _) | refine rw_nil ?_
          repeat refine cw_seq ?_
          refine cw_true rfl ?_
          repeat refine cw_seq ?_
          refine cw_region ?_
          iterate 2 refine rw_v (op_pure rfl) ?_
          refine rw_v (op_idx Try.underlying38 Try.sizeOf4 rfl rfl sa_gone (by omega) (by omega)) ?_
          refine rw_storeR (i := 3) S rfl (Try.sizeOf4 _) rfl rfl rfl rfl (by rw [bitsP_len]; omega) rfl ?_
          intro w11_ S
          rw [bitsP_set] at S
          first | refine rw_end ?_ | (refine rw_nil ?_; show CW _ _ _ _ _ _) | refine rw_nil ?_
          repeat refine cw_seq ?_
          refine cw_region ?_
          iterate 2 refine rw_v (op_pure rfl) ?_
          refine rw_buildS Try.underlying94 Try.sizeOf3 Try.zeroValue3 rfl rfl rfl rfl rfl rfl S ?_
          intro A_x1 w13_ g13_ S sa_x1
          refine rw_enq (i := 2) (xs := natsV T) S rfl (fun h => rfl) Try.underlying94 info_t3 rfl rfl rfl (S.rd (i := 0) rfl) rfl (by omega) ?_
          intro A4 c4 w4 S sa_q
          refine rw_v (op_pure rfl) ?_
          first | refine rw_end ?_ | (refine rw_nil ?_; show CW _ _ _ _ _ _) | refine rw_nil ?_
          repeat refine cw_seq ?_
          refine cw_region ?_
          refine rw_v (op_rng rfl (by omega)) ?_
          refine rw_v (op_pure rfl) ?_
          first | refine rw_end ?_ | (refine rw_nil ?_; show CW _ _ _ _ _ _) | refine rw_nil ?_
          rw [← e1, ← e2] at S
          exact ⟨m2 - 1, by omega, j + 1, T ++ [y], _, updP f y, A4, c4, by omega, hB2, ⟨rfl, rfl, rfl, by rw [e1]; rfl, rfl, rfl, rfl, rfl, ie (by omega), trivial⟩, S.drop 1⟩
        · have hB2 := (hB.old (by omega) hnew h0 (by simp) hys).edges hE
          by_cases heq : V.getD y 0 = V.getD k 0
          · have hfy : f y = true := by
              rcases Bool.eq_false_or_eq_true (f y) with h | h
              · exact h
              · exact absurd ⟨heq, h⟩ hnew
            rw [hfy] at hgb
            repeat refine cw_seq ?_
            refine cw_draw (C := fun wq => Gr w wq) [0, 1, 2, 3, 4, 5, 6, 7, 8, 9, 10, 11, 12, 13, 14, 15, 16, 17] [] (by kernel_rfl) (by kernel_rfl) (Gr.drew _) ?_
            simp only [pickL, List.drop_succ_cons, List.drop_zero]
            refine rq_v (op_fieldAddr Try.underlying66 rfl Try.sizeOf30 rfl rfl) ?_
            refine rq_r (fun wq hq => op_loadB Try.underlying30 rfl rfl ((S.gr hq).blk (i := 2) rfl) rfl) ?_
            refine rq_v (op_pure rfl) ?_
            refine rq_v (op_idx Try.underlying30 Try.sizeOf2 rfl rfl sa_A (by omega) (by omega)) ?_
            refine rq_r (fun wq hq => op_ldR Try.underlying2 rfl rfl ((hA.frK (S.gr hq).fr hap)) (hget y hyl)) ?_
            refine rq_v (op_fieldAddr Try.underlying66 rfl Try.sizeOf30 rfl rfl) ?_
            refine rq_r (fun wq hq => op_loadB Try.underlying30 rfl rfl ((S.gr hq).blk (i := 2) rfl) rfl) ?_
            refine rq_v (op_pure rfl) ?_
            refine rq_v (op_idx Try.underlying30 Try.sizeOf2 rfl rfl sa_A (by omega) (by omega)) ?_
            refine rq_r (fun wq hq => op_ldR Try.underlying2 rfl rfl ((hA.frK (S.gr hq).fr hap)) (hget k hk)) ?_
            refine rq_v (op_b (b := true) rfl (beq_iff_eq.2 (by omega))) ?_
            refine rq_v (op_pure rfl) ?_
            refine rq_on rfl ?_
            refine rq_v (op_pure rfl) ?_
            refine rq_on rfl ?_
            refine rq_v (op_pure rfl) ?_
            refine rq_on rfl ?_
            refine rq_v (op_idx Try.underlying38 Try.sizeOf4 rfl rfl sa_gone (by omega) (by omega)) ?_
            refine rq_on rfl ?_
            refine rq_r (fun wq hq => op_ldR Try.underlying4 rfl rfl ((S.gr hq).rd (i := 3) rfl) hgb) ?_
            refine rq_on rfl ?_
            iterate 2 refine rq_v (op_pure rfl) ?_
            refine rq_nil ?_
            intro w14_ g14_
            have S := S.gr g14_
            first | refine rw_end ?_ | (refine rw_nil ?_; show CW _ _ _ _ _ _) | refine rw_nil ?_
            repeat refine cw_seq ?_
            refine cw_false rfl ?_
            repeat refine cw_seq ?_
            refine cw_skip ?_
            try show CW _ _ _ _ _ _
            repeat refine cw_seq ?_
            refine cw_region ?_
            refine rw_v (op_rng rfl (by omega)) ?_
            refine rw_v (op_pure rfl) ?_
            first | refine rw_end ?_ | (refine rw_nil ?_; show CW _ _ _ _ _ _) | refine rw_nil ?_
            exact ⟨m2 - 1, by omega, j + 1, T, _, f, A2, c2, by omega, hB2, ⟨rfl, rfl, rfl, rfl, rfl, rfl, rfl, rfl, ie (by omega), trivial⟩, S⟩
          · skip
            repeat refine cw_seq ?_
            refine cw_draw (C := fun wq => Gr w wq) [0, 1, 2, 3, 4, 5, 6, 7, 8, 9, 10, 11, 12, 13, 14, 15, 16, 17] [] (by kernel_rfl) (by kernel_rfl) (Gr.drew _) ?_
            simp only [pickL, List.drop_succ_cons, List.drop_zero]
            refine rq_v (op_fieldAddr Try.underlying66 rfl Try.sizeOf30 rfl rfl) ?_
            refine rq_r (fun wq hq => op_loadB Try.underlying30 rfl rfl ((S.gr hq).blk (i := 2) rfl) rfl) ?_
            refine rq_v (op_pure rfl) ?_
            refine rq_v (op_idx Try.underlying30 Try.sizeOf2 rfl rfl sa_A (by omega) (by omega)) ?_
            refine rq_r (fun wq hq => op_ldR Try.underlying2 rfl rfl ((hA.frK (S.gr hq).fr hap)) (hget y hyl)) ?_
            refine rq_v (op_fieldAddr Try.underlying66 rfl Try.sizeOf30 rfl rfl) ?_
            refine rq_r (fun wq hq => op_loadB Try.underlying30 rfl rfl ((S.gr hq).blk (i := 2) rfl) rfl) ?_
            refine rq_v (op_pure rfl) ?_
            refine rq_v (op_idx Try.underlying30 Try.sizeOf2 rfl rfl sa_A (by omega) (by omega)) ?_
            refine rq_r (fun wq hq => op_ldR Try.underlying2 rfl rfl ((hA.frK (S.gr hq).fr hap)) (hget k hk)) ?_
            refine rq_v (op_b (b := false) rfl (beq_eq_false_iff_ne.2 (by omega))) ?_
            refine rq_v (op_pure rfl) ?_
            refine rq_off rfl ?_
            refine rq_off rfl ?_
            refine rq_off rfl ?_
            refine rq_off rfl ?_
            refine rq_off rfl ?_
            refine rq_v (op_pure rfl) ?_
            refine rq_nil ?_
            intro w15_ g15_
            have S := S.gr g15_
            first | refine rw_end ?_ | (refine rw_nil ?_; show CW _ _ _ _ _ _) | refine rw_nil ?_
            repeat refine cw_seq ?_
            refine cw_false rfl ?_
            repeat refine cw_seq ?_
            refine cw_skip ?_
            try show CW _ _ _ _ _ _
            repeat refine cw_seq ?_
            refine cw_region ?_
            refine rw_v (op_rng rfl (by omega)) ?_
            refine rw_v (op_pure rfl) ?_
            first | refine rw_end ?_ | (refine rw_nil ?_; show CW _ _ _ _ _ _) | refine rw_nil ?_
            exact ⟨m2 - 1, by omega, j + 1, T, _, f, A2, c2, by omega, hB2, ⟨rfl, rfl, rfl, rfl, rfl, rfl, rfl, rfl, ie (by omega), trivial⟩, S⟩
    · obtain rfl : j = Nr.length := by omega
      have S := S.drop 1
      have hB2 := hB.edges (E' := fun a b => a ∈ D ++ [i] ∧ b < V.length ∧ Side gw a b) (fun a b => by
        rw [List.take_length, List.mem_append, List.mem_singleton, hmemN, ← hV]
        constructor
        · rintro ⟨h1 | rfl, h2, h3⟩
          · exact .inl ⟨h1, h2, h3⟩
          · exact .inr ⟨rfl, h2, h3⟩
        · rintro (⟨h1, h2, h3⟩ | ⟨rfl, h2, h3⟩)
          · exact ⟨.inl h1, h2, h3⟩
          · exact ⟨.inr rfl, h2, h3⟩)
      have eD : (D ++ [i]).length = D.length + 1 := by simp
      repeat refine cw_seq ?_
      refine cw_region ?_
      refine rw_v (op_b (b := false) rfl (decide_eq_false (by omega))) ?_
      first | refine rw_end ?_ | (refine rw_nil ?_; show CW _ _ _ _ _ _) | refine rw_nil ?_
      repeat refine cw_seq ?_
      refine cw_false rfl ?_
      repeat refine cw_seq ?_
      refine cw_exit ?_
      repeat first | refine exit_then ?_ | refine exit_inb ?_
      exact ⟨m - 1, by omega, D ++ [i], T, top, f, A2, c2, by omega, hB2, ⟨rfl, rfl, rfl, rfl, ie (by rw [eD]), rfl, trivial⟩, S⟩
end
end Go.Proofs.Ytiidmiebckkloaa
